/- Of what functions of the program do, plainly: no statement is proved here. -/
import Derived.Test.YtlhifcnjnmeknaaGreatDoorGC
namespace Go.Proofs.YtlhifcnjnmeknaaGreatDoor
open Go Go.Vm Go.Proofs
set_option maxRecDepth 10000
theorem Ia {n : Nat} (h : n ≤ maxLen) : (n : Int) ≤ 9223372036854775807 := by have := (by decide : maxLen ≤ 9223372036854775807); omega
theorem w_f3g (x : Int) : D_f3g.wp x fun y => y = true ↔ 1 ≤ x ∧ x ≤ 17 := by
 refine of_wp ?_
 simp only [tt_f3g, TT.wp, leI, ilI, ieI, bnI, ibI, Bool.and_eq_true, Bool.false_eq_true, true_iff, false_iff]
 omega
theorem w_f3i (x : TIn) : D_f3i.wp x fun y => y = true ↔ 15 ≤ x.Op ∧ x.Op ≤ 17 := by
 refine of_wp ?_
 simp only [tt_f3i, TT.wp, leI, ilI, ieI, bnI, ibI, Bool.and_eq_true, Bool.false_eq_true, true_iff, false_iff]
 omega
def K0 (x : Int) : TCl × Bool :=
 if x = 1 then (⟨7, 0, 0, 0, 18446744073709551615⟩, true)
 else if x = 2 ∨ x = 23 then (⟨7, 7, 0, 0, 0⟩, true)
 else if x = 15 then (⟨0, 0, 0, 0, 256⟩, true)
 else if x = 16 ∨ x = 17 then (⟨7, 0, 0, 0, 256⟩, true)
 else if x = 18 then (⟨7, 7, 7, 2, 0⟩, true)
 else if x = 19 then (⟨7, 7, 7, 2, 7⟩, true)
 else if x = 20 then (⟨0, 0, 7, 0, 0⟩, true)
 else if x = 21 ∨ x = 22 ∨ x = 24 then (⟨7, 0, 0, 0, 0⟩, true)
 else if x = 25 then (⟨0, 0, 0, 0, 0⟩, true)
 else (⟨7, 7, 7, 0, 0⟩, decide (1 ≤ x ∧ x ≤ 17))
theorem w_f25 (x : Int) : D_f25.wp x fun y => y = K0 x := by
 have e : ∀ z, D_f25_24.wp (⟨x, z⟩ : X_f25_24) fun y => y = (⟨7, 7, 7, 0, 0⟩, decide (1 ≤ x ∧ x ≤ 17)) := by
  intro z
  refine of_wp ?_
  show (tt_f25_24 ⟨x, z⟩).wp _
  simp only [tt_f25_24]
  refine wC (w_f3g x) fun (y : Bool) hy => ?_
  have : y = decide (1 ≤ x ∧ x ≤ 17) := by rw [Bool.eq_iff_iff, decide_eq_true_eq]; exact hy
  subst this
  rfl
 refine of_wp ?_
 simp only [tt_f25, TT.wp, ieI, QM, K0]
 refine ⟨fun h => by simp [h], fun h1 => ⟨fun h => by simp [h], fun h2 => ⟨fun h => by simp [h], fun h3 => ⟨fun h => by simp [h], fun h4 => ⟨fun h => by simp [h], fun h5 => ⟨fun h => by simp [h], fun h6 => ⟨fun h => by simp [h], fun h7 =>
  ⟨fun h => by simp [h], fun h8 => ⟨fun h => by simp [h], fun h9 => ⟨fun h => by simp [h], fun h10 => ⟨fun h => by simp [h], fun h11 => ⟨fun h => by simp [h], fun h12 => ⟨fun h => by simp [h], fun h13 => ?_⟩⟩⟩⟩⟩⟩⟩⟩⟩⟩⟩⟩⟩
 simp only [h1, h2, h3, h4, h5, h6, h7, h8, h9, h10, h11, h12, h13, if_false, or_self]
 exact e _
theorem OV {i : TIn} (h0 : 0 ≤ i.K) (h1 : i.K < 18446744073709551616) :
 (K0 i.Op).2 = true ∧ (0 ≤ i.A ∧ i.A ≤ (K0 i.Op).1.a) ∧ (0 ≤ i.B ∧ i.B ≤ (K0 i.Op).1.b) ∧ (0 ≤ i.C ∧ i.C ≤ (K0 i.Op).1.c) ∧ (0 ≤ i.D ∧ i.D ≤ (K0 i.Op).1.d) ∧ i.K ≤ (K0 i.Op).1.k ↔ Bd i = true := by
 unfold K0 Bd
 simp only
 by_cases e1 : i.Op = 1
 · simp [e1]; omega
 by_cases e2 : i.Op = 2 ∨ i.Op = 23
 · simp only [e1, e2, if_false, if_true, Bool.and_eq_true, decide_eq_true_eq, true_and]; omega
 by_cases e3 : i.Op = 15
 · simp [e3]; omega
 by_cases e4 : i.Op = 16 ∨ i.Op = 17
 · have : ¬ (3 ≤ i.Op ∧ i.Op ≤ 14) := by omega
   simp only [e1, e2, e3, e4, this, if_false, if_true, Bool.and_eq_true, decide_eq_true_eq, true_and]; omega
 by_cases e5 : i.Op = 18
 · simp [e5]; omega
 by_cases e6 : i.Op = 19
 · simp [e6]; omega
 by_cases e7 : i.Op = 20
 · simp [e7]; omega
 by_cases e8 : i.Op = 21 ∨ i.Op = 22 ∨ i.Op = 24
 · have : ¬ (3 ≤ i.Op ∧ i.Op ≤ 14) := by omega
   simp only [e1, e2, e3, e4, e5, e6, e7, e8, this, if_false, if_true, Bool.and_eq_true, decide_eq_true_eq, true_and]; omega
 by_cases e9 : i.Op = 25
 · simp [e9]; omega
 by_cases e10 : 3 ≤ i.Op ∧ i.Op ≤ 14
 · have : 1 ≤ i.Op ∧ i.Op ≤ 17 := by omega
   simp only [e1, e2, e3, e4, e5, e6, e7, e8, e9, e10, this, if_false, if_true, Bool.and_eq_true, decide_eq_true_eq, true_and, and_self]; omega
 · have : ¬ (1 ≤ i.Op ∧ i.Op ≤ 17) := by omega
   simp only [e1, e2, e3, e4, e5, e6, e7, e8, e9, e10, this, if_false, decide_false, Bool.false_eq_true, false_and]
def Sj (i : TIn) : Prop := (0 ≤ i.K ∧ i.K < 18446744073709551616) ∧ i.A < 9223372036854775808 ∧ i.B < 9223372036854775808 ∧ i.C < 9223372036854775808 ∧ i.D < 9223372036854775808
theorem w_f3h (i : TIn) (h : Sj i) : D_f3h.wp i fun y => y = true ↔ Bd i = true := by
 refine of_wp ?_
 simp only [tt_f3h]
 refine wC (w_f25 i.Op) fun (y : TCl × Bool) hy => ?_
 subst hy
 rw [← OV h.1.1 h.1.2]
 generalize K0 i.Op = m
 obtain ⟨⟨a, b, c, d, k⟩, ok⟩ := m
 cases ok <;> simp only [TT.wp, leI, ilI, ieI, bnI, ibI, Bool.and_eq_true, Bool.false_eq_true, true_iff, false_iff, false_imp_iff, not_false_eq_true, true_imp_iff, not_true_eq_false, true_and, and_true, false_and]
 · omega
theorem w_f26 (c : TRg) : D_f26.wp c fun y => y = true ↔ Ay c = true := by
 refine of_wp ?_
 have e : D_f26_3.wp (⟨c⟩ : X_f26_3) fun y => y = true ↔ (c.Kind = 1 ∧ c.AQ = 1 ∨ c.Kind = 2 ∧ 1 ≤ c.AQ ∧ c.AQ ≤ 8) := by
  refine of_wp ?_
  simp only [tt_f26_3, TT.wp, leI, ilI, ieI, bnI, ibI, Bool.and_eq_true, Bool.false_eq_true, true_iff, false_iff]
  omega
 simp only [tt_f26, TT.wp, leI, ilI, ieI, bnI, ibI, Bool.and_eq_true, Bool.false_eq_true, true_iff, false_iff, Ay, decide_eq_true_eq]
 refine ⟨fun h => by omega, fun h1 => ⟨fun h => by omega, fun h2 => e.mono fun y hy => by rw [hy]; omega⟩⟩
theorem w_f3e (x : Int) : D_f3e.wp x fun y => y = true ↔ 18 ≤ x ∧ x ≤ 20 := by
 refine of_wp ?_
 simp only [tt_f3e, TT.wp, leI, ilI, ieI, bnI, ibI, Bool.and_eq_true, Bool.false_eq_true, true_iff, false_iff]
 omega
structure G6 (p : TPg) : Prop where
 rn : p.AJ.n ≤ maxLen
 tn : p.AB.n ≤ maxLen
 ln : ∀ t, t < p.AB.n → (p.AB.get t).n ≤ maxLen
 ins : ∀ t, t < p.AB.n → ∀ k, k < (p.AB.get t).n → Sj ((p.AB.get t).get k)
 rz : p.AJ.nil = true → p.AJ.n = 0
 lz : ∀ t, t < p.AB.n → (p.AB.get t).nil = true → (p.AB.get t).n = 0
def aP (p : TPg) : MP := ⟨p.AJ.L, p.AB.L.map Sl.L⟩
theorem Ii {α : Type} (s : Sl α) {i : Int} (h0 : 0 ≤ i) (h : i < s.n) (d : α) : s.L.getD i.toNat d = s.get i.toNat := by
 have : i.toNat < s.n := by omega
 rw [List.getD, Sl.Db _ this]; rfl
theorem w_f3l (p : TPg) (i : TIn) (n : Nat) (hi : Sj i) (hn : n ≤ maxLen) (hr : ∀ c ∈ p.AJ.L, Ay c = true) : D_f3l.wp (p, (i, (n : Int))) fun y => y = Cx p.AJ.L i n := by
 refine of_wp ?_
 have hn := Ia hn
 have hw : IntKind.u64.wrap (n : Int) = n := Aj (by omega) (by omega)
 simp only [tt_f3l, hw]
 refine wC (w_f3h i hi) fun (y : Bool) hy => ?_
 simp only [TT.wp, leI, ilI, ieI, bnI, ibI, Bool.and_eq_true, Bool.false_eq_true, true_iff, false_iff, hy]
 refine ⟨fun h => by simp [Cx, h], fun h => ?_⟩
 have hR : Bd i = true := by simpa using h
 have hf := A5 hR
 have hrd : 0 ≤ i.C → i.C < p.AJ.n → IntKind.u64.wrap (p.AJ.get i.C.toNat).AQ = (p.AJ.L.getD i.C.toNat ⟨0, 0, 0⟩).AQ := fun h0 h1 => by
  rw [Ii _ h0 h1]
  have := E8 (hr _ (Sl.Ch.2 ⟨i.C.toNat, by omega, rfl⟩))
  exact Aj (by omega) (by omega)
 have e : Cx p.AJ.L i n = if 15 ≤ i.Op ∧ i.Op ≤ 17 ∧ (n : Int) < i.K then 5 else if 18 ≤ i.Op ∧ i.Op ≤ 20 ∧ (p.AJ.n : Int) ≤ i.C then 7 else if i.Op = 19 ∧ (p.AJ.L.getD i.C.toNat ⟨0, 0, 0⟩).AQ ≤ i.K then 7 else 0 := by
  simp only [Cx, hR, Bool.true_eq_false, if_false, Sl.BL]
 rw [e]
 refine PI (w_f3i i) fun (y : Bool) hj => ?_
 simp only [hj]
 refine ⟨fun h => ⟨fun h1 => by rw [if_pos ⟨h.1, h.2, h1⟩], fun h1 => ?_⟩, fun h => ?_⟩
 all_goals
  refine PI (w_f3e i.Op) fun (y : Bool) hg => ?_
  simp only [hg]
  refine ⟨fun h2 => ⟨fun h3 => ?_, fun h3 => ⟨fun h4 => ⟨?_, fun h5 => ?_, fun h5 => ?_⟩, fun h4 => ?_⟩⟩, fun h2 => ⟨fun h4 => by omega, fun h4 => ?_⟩⟩
  all_goals (repeat' split) <;> first | rfl | (exfalso; omega) | omega
def I6 (rs : List TRg) (l : Sl TIn) : Prop := ∀ k, k < l.n → Cx rs (l.get k) l.n = 0
theorem l_f3_16 (p : TPg) (hp : G6 p) (hr : ∀ c ∈ p.AJ.L, Ay c = true) (t : Nat) (ht : t < p.AB.n) (D11 : AU X_f3_11 R_f3) (Q : R_f3 → Prop)
 (hbad : ∀ y : Int × Int × Int, y.2.2 ≠ 0 → ¬ I6 p.AJ.L (p.AB.get t) → Q y) (hgood : I6 p.AJ.L (p.AB.get t) → D11.wp ⟨p, p.AB, p.AB.n, IntKind.i64.wrap ((t : Int) + 1)⟩ Q) :
 (D_f3_16 D11).wp ⟨p, t, p.AB.get t, p.AB, p.AB.n, t, p.AB.get t, (p.AB.get t).n, 0⟩ Q := by
 have hl := hp.ln t ht
 refine CT (fun k => (⟨p, t, p.AB.get t, p.AB, p.AB.n, t, p.AB.get t, (p.AB.get t).n, (k : Nat)⟩ : X_f3_16)) (p.AB.get t).n (fun k => ∀ j, j < k → Cx p.AJ.L ((p.AB.get t).get j) (p.AB.get t).n = 0) Q
  (fun D hJ => ?_) (fun D k hk hJ hD => ?_) (k := 0) (Nat.zero_le _) (fun j hj => by omega)
 · simp only [tt_f3_16, BQ, Nat.lt_irrefl, decide_false, CO]
   exact of_wp (hgood hJ)
 · simp only [tt_f3_16, BQ, hk, decide_true, C4, BI hk, BX, Int.toNat_natCast, Cn hk hl]
   refine wC (w_f3l p _ _ (hp.ins t ht k hk) hl hr) fun (y : Int) hy => ?_
   subst hy
   simp only [TT.wp, bnI, ieI]
   refine ⟨fun h => hbad _ h fun hok => h (hok k hk), fun h => hD fun j hj => ?_⟩
   by_cases e : j = k
   · subst e; exact Classical.byContradiction h
   · exact hJ j (by omega)
theorem Ns (p : TPg) (h1 : 1 ≤ p.AB.n) (h2 : p.AB.n ≤ 8) (h3 : p.AJ.n ≤ 8) (hr : ∀ c ∈ p.AJ.L, Ay c = true)
 (ht : ∀ t, t < p.AB.n → (p.AB.get t).n ≤ 256 ∧ I6 p.AJ.L (p.AB.get t)) : De (aP p) where
 t1 := by simpa [aP] using h1
 t8 := by simpa [aP] using h2
 r8 := by simpa [aP] using h3
 rg := hr
 len l hl := by
  simp only [aP, List.mem_map] at hl
  obtain ⟨s, hs, rfl⟩ := hl
  obtain ⟨t, h, rfl⟩ := Sl.Ch.1 hs
  simpa using (ht t h).1
 ins l hl i hi := by
  simp only [aP, List.mem_map] at hl
  obtain ⟨s, hs, rfl⟩ := hl
  obtain ⟨t, h, rfl⟩ := Sl.Ch.1 hs
  obtain ⟨k, hk, rfl⟩ := Sl.Ch.1 hi
  have := (ht t h).2 k hk
  simpa [aP] using this
theorem BV {p : TPg} (h : De (aP p)) : 1 ≤ p.AB.n ∧ p.AB.n ≤ 8 ∧ p.AJ.n ≤ 8 ∧ (∀ c ∈ p.AJ.L, Ay c = true) ∧ ∀ t, t < p.AB.n → (p.AB.get t).n ≤ 256 ∧ I6 p.AJ.L (p.AB.get t) := by
 have hm : ∀ t, t < p.AB.n → (p.AB.get t).L ∈ (aP p).AB := fun t ht => List.mem_map.2 ⟨_, Sl.Ch.2 ⟨t, ht, rfl⟩, rfl⟩
 refine ⟨by simpa [aP] using h.t1, by simpa [aP] using h.t8, by simpa [aP] using h.r8, h.rg, fun t ht => ⟨by simpa using h.len _ (hm t ht), fun k hk => ?_⟩⟩
 have := h.ins _ (hm t ht) _ (Sl.Ch.2 ⟨k, hk, rfl⟩)
 simpa [aP] using this
theorem l_f3_11 (p : TPg) (hp : G6 p) (h1 : 1 ≤ p.AB.n) (h2 : p.AB.n ≤ 8) (h3 : p.AJ.n ≤ 8) (hr : ∀ c ∈ p.AJ.L, Ay c = true) :
 D_f3_11.wp ⟨p, p.AB, p.AB.n, 0⟩ fun y => y.2.2 = 0 ↔ De (aP p) := by
 refine CT (fun k => (⟨p, p.AB, p.AB.n, (k : Nat)⟩ : X_f3_11)) p.AB.n (fun k => ∀ t, t < k → (p.AB.get t).n ≤ 256 ∧ I6 p.AJ.L (p.AB.get t)) _
  (fun D hJ => ?_) (fun D k hk hJ hD => ?_) (k := 0) (Nat.zero_le _) (fun j hj => by omega)
 · simp only [tt_f3_11, BQ, Nat.lt_irrefl, decide_false, CO]
   exact ⟨fun _ => Ns p h1 h2 h3 hr hJ, fun _ => rfl⟩
 · simp only [tt_f3_11, BQ, hk, decide_true, C4, BI hk, BX, Int.toNat_natCast]
   refine AE ilI (fun h => ?_) (fun h => ?_)
   · show ((4 : Int) = 0 ↔ _)
     refine ⟨fun h => by omega, fun hP => ?_⟩
     have := ((BV hP).2.2.2.2 k hk).1
     omega
   · refine l_f3_16 p hp hr k hk D _ (fun y hy hno => ⟨fun h => absurd h hy, fun hP => absurd ((BV hP).2.2.2.2 k hk).2 hno⟩) fun hok => ?_
     rw [Cn hk hp.tn]
     refine hD fun t ht => ?_
     by_cases e : t = k
     · subst e; exact ⟨by omega, hok⟩
     · exact hJ t (by omega)
theorem w_f3 (p : TPg) (hp : G6 p) : D_f3.wp p fun y => y.2.2 = 0 ↔ De (aP p) := by
 have ne : ∀ {x : Int} {q : Prop}, x ≠ 0 → ¬ q → (x = 0 ↔ q) := fun h k => ⟨fun e => absurd e h, fun e => absurd e k⟩
 refine of_wp ?_
 simp only [tt_f3]
 refine AE ieI (fun h => ?_) fun h0 => AE ilI (fun h => ?_) fun h8 => AE ilI (fun h => ?_) fun hr8 => ?_
 · exact ne (by decide) fun hP => by have := (BV hP).1; omega
 · exact ne (by decide) fun hP => by have := (BV hP).2.1; omega
 · exact ne (by decide) fun hP => by have := (BV hP).2.2.1; omega
 · refine of_wp ?_
   simp only [tt_f3_4]
   refine CT (fun k => (⟨p, p.AJ, p.AJ.n, (k : Nat)⟩ : X_f3_5)) p.AJ.n (fun k => ∀ j, j < k → Ay (p.AJ.get j) = true) _
    (fun D hJ => ?_) (fun D k hk hJ hD => ?_) (k := 0) (Nat.zero_le _) (fun j hj => by omega)
   · simp only [tt_f3_5, BQ, Nat.lt_irrefl, decide_false, CO]
     refine of_wp ?_
     simp only [tt_f3_10]
     exact l_f3_11 p hp (by omega) (by omega) (by omega) fun c hc => by
      obtain ⟨j, hj, rfl⟩ := Sl.Ch.1 hc
      exact hJ j hj
   · simp only [tt_f3_5, BQ, hk, decide_true, C4, BI hk, BX, Int.toNat_natCast, Cn hk hp.rn]
     refine wC (w_f26 _) fun (y : Bool) hy => ?_
     simp only [TT.wp, bnI, hy]
     refine ⟨fun h => ne (by decide) fun hP => h ((BV hP).2.2.2.1 _ (Sl.Ch.2 ⟨k, hk, rfl⟩)), fun h => hD fun j hj => ?_⟩
     by_cases e : j = k
     · subst e; exact Classical.byContradiction h
     · exact hJ j (by omega)
theorem w_f3m (p : TPg) (hp : G6 p) : D_f3m.wp p fun y => y = true ↔ De (aP p) := by
 refine of_wp ?_
 simp only [tt_f3m]
 refine wC (w_f3 p hp) fun (y : Int × Int × Int) hy => ?_
 show (AX y.2.2 0 = true ↔ _)
 rw [ieI]
 exact hy
def CZ (x : Int) : ByteArray :=
 if x = 1 then ⟨#[114, 48, 48, 48, 110]⟩
 else if x = 2 ∨ x = 23 then ⟨#[114, 114, 48, 48, 48]⟩
 else if 3 ≤ x ∧ x ≤ 14 then ⟨#[114, 114, 114, 48, 48]⟩
 else if x = 15 then ⟨#[48, 48, 48, 48, 112]⟩
 else if x = 16 ∨ x = 17 then ⟨#[114, 48, 48, 48, 112]⟩
 else if x = 18 then ⟨#[114, 114, 103, 109, 48]⟩
 else if x = 19 then ⟨#[114, 114, 103, 109, 100]⟩
 else if x = 20 then ⟨#[48, 48, 103, 48, 48]⟩
 else if x = 21 ∨ x = 22 ∨ x = 24 then ⟨#[114, 48, 48, 48, 48]⟩
 else if x = 25 then ⟨#[48, 48, 48, 48, 48]⟩
 else ⟨#[]⟩
def CH (c : Int) : Int := if c = 114 ∨ c = 103 ∨ c = 100 then 7 else if c = 109 then 2 else if c = 112 then 256 else if c = 110 then 18446744073709551615 else 0
theorem w_f49 (x : Int) : D_f49.wp x fun y => y = CZ x := by
 refine of_wp ?_
 simp only [tt_f49, TT.wp, ieI, leI]
 repeat' (first | apply And.intro | intro _)
 all_goals first
  | (exfalso; omega)
  | (rename_i h; subst h; rfl)
  | (unfold CZ; rw [if_neg (by omega), if_neg (by omega), if_pos (by omega)])
  | (unfold CZ; rw [if_neg (by omega), if_neg (by omega), if_neg (by omega), if_neg (by omega), if_neg (by omega), if_neg (by omega), if_neg (by omega), if_neg (by omega), if_neg (by omega), if_neg (by omega)])
theorem w_f44 (x : Int) : D_f44.wp x fun y => y = CH x := by
 refine of_wp ?_
 simp only [tt_f44, TT.wp, ieI]
 repeat' (first | apply And.intro | intro _)
 all_goals first
  | (rename_i h; subst h; rfl)
  | (unfold CH; rw [if_neg (by omega), if_neg (by omega), if_neg (by omega), if_neg (by omega)])
def JP (i : TIn) (j : Nat) : Int := cond (Nat.beq j 0) i.A (cond (Nat.beq j 1) i.B (cond (Nat.beq j 2) i.C i.D))
theorem QQ (x : Int) : CZ x = ⟨#[]⟩ ∨ (CZ x).size = 5 := by
 unfold CZ
 repeat' split
 all_goals first | exact .inr rfl | exact .inl rfl
theorem Oh {i : TIn} (h : Sj i) : (CZ i.Op ≠ ⟨#[]⟩ ∧ i.K ≤ CH (bt (CZ i.Op) 4) ∧ ∀ j, j < 4 → 0 ≤ JP i j ∧ JP i j ≤ CH (bt (CZ i.Op) j)) ↔ Bd i = true := by
 have e4 : ∀ (f : ByteArray), (∀ j, j < 4 → 0 ≤ JP i j ∧ JP i j ≤ CH (bt f j)) ↔ (0 ≤ i.A ∧ i.A ≤ CH (bt f 0)) ∧ (0 ≤ i.B ∧ i.B ≤ CH (bt f 1)) ∧ (0 ≤ i.C ∧ i.C ≤ CH (bt f 2)) ∧ (0 ≤ i.D ∧ i.D ≤ CH (bt f 3)) := by
  intro f
  refine ⟨fun h => ⟨h 0 (by omega), h 1 (by omega), h 2 (by omega), h 3 (by omega)⟩, fun h j hj => ?_⟩
  match j, hj with
  | 0, _ => exact h.1
  | 1, _ => exact h.2.1
  | 2, _ => exact h.2.2.1
  | 3, _ => exact h.2.2.2
 rw [e4]
 obtain ⟨⟨k0, k1⟩, _⟩ := h
 have m : CH 114 = 7 ∧ CH 48 = 0 ∧ CH 110 = 18446744073709551615 ∧ CH 112 = 256 ∧ CH 103 = 7 ∧ CH 109 = 2 ∧ CH 100 = 7 := by decide
 obtain ⟨m1, m2, m3, m4, m5, m6, m7⟩ := m
 have ne : ∀ {a b c d e : UInt8}, (⟨#[a, b, c, d, e]⟩ : ByteArray) ≠ ⟨#[]⟩ := fun h => by cases h
 have b5 : ∀ (a b c d e : UInt8), bt ⟨#[a, b, c, d, e]⟩ 0 = (a.toNat : Int) ∧ bt ⟨#[a, b, c, d, e]⟩ 1 = (b.toNat : Int) ∧ bt ⟨#[a, b, c, d, e]⟩ 2 = (c.toNat : Int) ∧ bt ⟨#[a, b, c, d, e]⟩ 3 = (d.toNat : Int) ∧ bt ⟨#[a, b, c, d, e]⟩ 4 = (e.toNat : Int) :=
  fun a b c d e => ⟨rfl, rfl, rfl, rfl, rfl⟩
 have u : (((114 : UInt8).toNat : Nat) : Int) = 114 ∧ (((48 : UInt8).toNat : Nat) : Int) = 48 ∧ (((110 : UInt8).toNat : Nat) : Int) = 110 ∧ (((112 : UInt8).toNat : Nat) : Int) = 112 ∧ (((103 : UInt8).toNat : Nat) : Int) = 103 ∧
  (((109 : UInt8).toNat : Nat) : Int) = 109 ∧ (((100 : UInt8).toNat : Nat) : Int) = 100 := by decide
 obtain ⟨u1, u2, u3, u4, u5, u6, u7⟩ := u
 have key : ∀ (a b c d e : UInt8), ((⟨#[a, b, c, d, e]⟩ : ByteArray) ≠ ⟨#[]⟩ ∧ i.K ≤ CH (bt ⟨#[a, b, c, d, e]⟩ 4) ∧ (0 ≤ i.A ∧ i.A ≤ CH (bt ⟨#[a, b, c, d, e]⟩ 0)) ∧ (0 ≤ i.B ∧ i.B ≤ CH (bt ⟨#[a, b, c, d, e]⟩ 1)) ∧ (0 ≤ i.C ∧ i.C ≤ CH (bt ⟨#[a, b, c, d, e]⟩ 2)) ∧ (0 ≤ i.D ∧ i.D ≤ CH (bt ⟨#[a, b, c, d, e]⟩ 3))) ↔
  (i.K ≤ CH e.toNat ∧ (0 ≤ i.A ∧ i.A ≤ CH a.toNat) ∧ (0 ≤ i.B ∧ i.B ≤ CH b.toNat) ∧ (0 ≤ i.C ∧ i.C ≤ CH c.toNat) ∧ (0 ≤ i.D ∧ i.D ≤ CH d.toNat)) := by
  intro a b c d e
  obtain ⟨h0, h1, h2, h3, h4⟩ := b5 a b c d e
  rw [h0, h1, h2, h3, h4]
  exact ⟨fun h => h.2, fun h => ⟨ne, h⟩⟩
 by_cases e1 : i.Op = 1
 · have hf : CZ i.Op = ⟨#[114, 48, 48, 48, 110]⟩ := by rw [e1]; rfl
   rw [hf, key, u1, u2, u3, m1, m2, m3]; unfold Bd; simp only [e1]; simp; omega
 by_cases e2 : i.Op = 2 ∨ i.Op = 23
 · have hf : CZ i.Op = ⟨#[114, 114, 48, 48, 48]⟩ := by unfold CZ; rw [if_neg e1, if_pos e2]
   rw [hf, key, u1, u2, m1, m2]; unfold Bd; simp only [e1, e2, if_false, if_true, Bool.and_eq_true, decide_eq_true_eq]; omega
 by_cases e3 : 3 ≤ i.Op ∧ i.Op ≤ 14
 · have hf : CZ i.Op = ⟨#[114, 114, 114, 48, 48]⟩ := by unfold CZ; rw [if_neg e1, if_neg e2, if_pos e3]
   rw [hf, key, u1, u2, m1, m2]; unfold Bd; simp only [e1, e2, e3, if_false, if_true, and_self, Bool.and_eq_true, decide_eq_true_eq]; omega
 by_cases e4 : i.Op = 15
 · have hf : CZ i.Op = ⟨#[48, 48, 48, 48, 112]⟩ := by rw [e4]; rfl
   rw [hf, key, u2, u4, m2, m4]; unfold Bd; simp only [e4]; simp; omega
 by_cases e5 : i.Op = 16 ∨ i.Op = 17
 · have hf : CZ i.Op = ⟨#[114, 48, 48, 48, 112]⟩ := by unfold CZ; rw [if_neg e1, if_neg e2, if_neg e3, if_neg e4, if_pos e5]
   rw [hf, key, u1, u2, u4, m1, m2, m4]; unfold Bd; simp only [e1, e2, e3, e4, e5, if_false, if_true, Bool.and_eq_true, decide_eq_true_eq]; omega
 by_cases e6 : i.Op = 18
 · have hf : CZ i.Op = ⟨#[114, 114, 103, 109, 48]⟩ := by rw [e6]; rfl
   rw [hf, key, u1, u2, u5, u6, m1, m2, m5, m6]; unfold Bd; simp only [e6]; simp; omega
 by_cases e7 : i.Op = 19
 · have hf : CZ i.Op = ⟨#[114, 114, 103, 109, 100]⟩ := by rw [e7]; rfl
   rw [hf, key, u1, u5, u6, u7, m1, m5, m6, m7]; unfold Bd; simp only [e7]; simp; omega
 by_cases e8 : i.Op = 20
 · have hf : CZ i.Op = ⟨#[48, 48, 103, 48, 48]⟩ := by rw [e8]; rfl
   rw [hf, key, u2, u5, m2, m5]; unfold Bd; simp only [e8]; simp; omega
 by_cases e9 : i.Op = 21 ∨ i.Op = 22 ∨ i.Op = 24
 · have hf : CZ i.Op = ⟨#[114, 48, 48, 48, 48]⟩ := by unfold CZ; rw [if_neg e1, if_neg e2, if_neg e3, if_neg e4, if_neg e5, if_neg e6, if_neg e7, if_neg e8, if_pos e9]
   rw [hf, key, u1, u2, m1, m2]; unfold Bd; simp only [e1, e2, e3, e4, e5, e6, e7, e8, e9, if_false, if_true, Bool.and_eq_true, decide_eq_true_eq]; omega
 by_cases e10 : i.Op = 25
 · have hf : CZ i.Op = ⟨#[48, 48, 48, 48, 48]⟩ := by rw [e10]; rfl
   rw [hf, key, u2, m2]; unfold Bd; simp only [e10]; simp; omega
 · have hf : CZ i.Op = ⟨#[]⟩ := by unfold CZ; rw [if_neg e1, if_neg e2, if_neg e3, if_neg e4, if_neg e5, if_neg e6, if_neg e7, if_neg e8, if_neg e9, if_neg e10]
   rw [hf]; unfold Bd; simp only [e1, e2, e3, e4, e5, e6, e7, e8, e9, e10, if_false, ne_eq, not_true_eq_false, false_and, Bool.false_eq_true]
theorem w_fk (i : TIn) (h : Sj i) : D_fk.wp i fun y => y = true ↔ Bd i = true := by
 refine of_wp ?_
 simp only [tt_fk]
 refine wC (w_f49 i.Op) fun (y : ByteArray) hy => ?_
 subst hy
 have hR := Oh h
 have hs := QQ i.Op
 generalize CZ i.Op = f at hR hs
 refine AE (p := f = ⟨#[]⟩) Lt (fun he => ?_) (fun he => ?_)
 · show (false = true ↔ _)
   rw [← hR]; exact ⟨fun h => absurd h (by decide), fun h => absurd he h.1⟩
 · have hs : f.size = 5 := hs.resolve_left he
   refine wN (by rw [ibI, hs]; decide) ?_
   refine wC (w_f44 _) fun (y : Int) hy => ?_
   subst hy
   refine AE ilI (fun hk => ?_) (fun hk => ?_)
   · show (false = true ↔ _)
     rw [← hR]
     refine ⟨fun h => absurd h (by decide), fun h => ?_⟩
     have := h.2.1
     exact absurd hk (Int.not_lt.2 this)
   · refine of_wp ?_
     simp only [tt_fk_4]
     refine CT (fun k => (⟨f, ⟨false, 4, JP i⟩, (k : Nat)⟩ : X_fk_6)) 4 (fun k => ∀ j, j < k → 0 ≤ JP i j ∧ JP i j ≤ CH (bt f j)) _
      (fun D hJ => ?_) (fun D k hk4 hJ hD => ?_) (k := 0) (Nat.zero_le _) (fun j hj => by omega)
     · simp only [tt_fk_6]
       refine AE ilI (fun hk => absurd hk (by decide)) (fun _ => ?_)
       show (true = true ↔ _)
       rw [← hR]
       exact ⟨fun _ => ⟨he, Int.not_lt.1 hk, hJ⟩, fun _ => rfl⟩
     · simp only [tt_fk_6]
       refine AE ilI (fun _ => ?_) (fun hk => absurd (Int.ofNat_lt.2 hk4) hk)
       refine wN (by rw [ibI]; exact ⟨Int.natCast_nonneg _, Int.ofNat_lt.2 hk4⟩) ?_
       rw [Int.toNat_natCast]
       have hb : JP i k < 9223372036854775808 := by
        obtain ⟨_, a, b, c, d⟩ := h
        match k, hk4 with
        | 0, _ => exact a
        | 1, _ => exact b
        | 2, _ => exact c
        | 3, _ => exact d
       refine AE (p := JP i k < 0) ilI (fun hn => ?_) (fun hn => ?_)
       · show (false = true ↔ _)
         rw [← hR]
         refine ⟨fun h => absurd h (by decide), fun h => ?_⟩
         have := (h.2.2 k hk4).1; omega
       · refine wN (by rw [ibI]; exact ⟨Int.natCast_nonneg _, Int.ofNat_lt.2 hk4⟩) (wN (by rw [ibI, hs]; omega) ?_)
         refine wC (w_f44 _) fun (y : Int) hy => ?_
         subst hy
         refine AE (p := CH (bt f k) < JP i k) (by rw [ilI]; show CH _ < IntKind.u64.wrap (JP i k) ↔ _; rw [Aj (by omega) (by omega)]) (fun hn2 => ?_) (fun hn2 => ?_)
         · show (false = true ↔ _)
           rw [← hR]
           refine ⟨fun h => absurd h (by decide), fun h => ?_⟩
           have := (h.2.2 k hk4).2; omega
         · refine of_wp ?_
           simp only [tt_fk_7]
           have e : IntKind.i64.wrap ((k : Int) + 1) = ((k + 1 : Nat) : Int) := by rw [wrap64] <;> omega
           show D.wp ⟨f, ⟨false, 4, JP i⟩, _⟩ _
           rw [e]
           refine hD fun j hj => ?_
           by_cases ej : j = k
           · subst ej; exact ⟨by omega, by omega⟩
           · exact hJ j (by omega)
theorem w_f48 (c : TRg) : D_f48.wp c fun y => y = true ↔ Ay c = true := by
 refine of_wp ?_
 simp only [tt_f48, TT.wp, leI, ilI, ieI, bnI, ibI, Bool.and_eq_true, Bool.false_eq_true, true_iff, false_iff, Ay, decide_eq_true_eq]
 omega
theorem w_f27 (p : TPg) (i : TIn) (n : Nat) (hn : n ≤ maxLen) (hr : ∀ c ∈ p.AJ.L, Ay c = true) (hR : Bd i = true) : D_f27.wp (p, (i, (n : Int))) fun y => y = Cx p.AJ.L i n := by
 have hn := Ia hn
 have hw : IntKind.u64.wrap (n : Int) = n := Aj (by omega) (by omega)
 have hf := A5 hR
 have hrd : 0 ≤ i.C → i.C < p.AJ.n → IntKind.u64.wrap (p.AJ.get i.C.toNat).AQ = (p.AJ.L.getD i.C.toNat ⟨0, 0, 0⟩).AQ := fun h0 h1 => by
  rw [Ii _ h0 h1]
  have := E8 (hr _ (Sl.Ch.2 ⟨i.C.toNat, by omega, rfl⟩))
  exact Aj (by omega) (by omega)
 have e : Cx p.AJ.L i n = if 15 ≤ i.Op ∧ i.Op ≤ 17 ∧ (n : Int) < i.K then 5 else if 18 ≤ i.Op ∧ i.Op ≤ 20 ∧ (p.AJ.n : Int) ≤ i.C then 7 else if i.Op = 19 ∧ (p.AJ.L.getD i.C.toNat ⟨0, 0, 0⟩).AQ ≤ i.K then 7 else 0 := by
  simp only [Cx, hR, Bool.true_eq_false, if_false, Sl.BL]
 have e3 : ¬ (15 ≤ i.Op ∧ i.Op ≤ 17 ∧ (n : Int) < i.K) → D_f27_3.wp (⟨p, i⟩ : X_f27_3) fun y => y = Cx p.AJ.L i n := by
  intro hno
  refine of_wp ?_
  rw [e, if_neg hno]
  simp only [tt_f27_3, TT.wp, leI, ilI, ieI, bnI, ibI, Bool.and_eq_true, Bool.false_eq_true, true_iff, false_iff]
  repeat' (first | apply And.intro | intro _)
  all_goals first
   | omega
   | ((repeat' split) <;> first | rfl | (exfalso; omega) | omega)
 refine of_wp ?_
 simp only [tt_f27, hw]
 refine AE leI (fun h => AE leI (fun h2 => AE ilI (fun h3 => ?_) (fun h3 => ?_)) (fun h2 => ?_)) (fun h => ?_)
 · show (5 : Int) = _
   rw [e, if_pos ⟨h, h2, h3⟩]
 · exact e3 fun hh => h3 hh.2.2
 · exact e3 fun hh => h2 hh.2.1
 · exact e3 fun hh => h hh.1
theorem l_f2_15 (p : TPg) (hp : G6 p) (hr : ∀ c ∈ p.AJ.L, Ay c = true) (t : Nat) (ht : t < p.AB.n) (D9 : AU X_f2_9 R_f2) (Q : R_f2 → Prop)
 (hbad : ∀ y : Int × Int × Int, y.2.2 ≠ 0 → ¬ I6 p.AJ.L (p.AB.get t) → Q y) (hgood : I6 p.AJ.L (p.AB.get t) → D9.wp ⟨p, IntKind.i64.wrap ((t : Int) + 1)⟩ Q) :
 (D_f2_15 D9).wp ⟨p, t, p.AB.get t, 0⟩ Q := by
 have hl := hp.ln t ht
 refine CT (fun k => (⟨p, t, p.AB.get t, (k : Nat)⟩ : X_f2_15)) (p.AB.get t).n (fun k => ∀ j, j < k → Cx p.AJ.L ((p.AB.get t).get j) (p.AB.get t).n = 0) Q
  (fun D hJ => ?_) (fun D k hk hJ hD => ?_) (k := 0) (Nat.zero_le _) (fun j hj => by omega)
 · simp only [tt_f2_15, BQ, Nat.lt_irrefl, decide_false, CO]
   refine of_wp ?_
   simp only [tt_f2_10]
   exact hgood hJ
 · simp only [tt_f2_15, BQ, hk, decide_true, C4, BI hk, BX, Int.toNat_natCast]
   have h20 : ∀ e, e = Cx p.AJ.L ((p.AB.get t).get k) (p.AB.get t).n →
    (D_f2_20 D9 D).wp (⟨p, t, p.AB.get t, k, e⟩ : X_f2_20) Q := by
    intro e he
    refine of_wp ?_
    simp only [tt_f2_20]
    refine AE (p := e ≠ 0) (by rw [bnI, ieI]) (fun h => ?_) (fun h => ?_)
    · exact hbad (_, _, e) h fun hok => h (he.trans (hok k hk))
    · refine of_wp ?_
      simp only [tt_f2_16, Cn hk hl]
      refine hD fun j hj => ?_
      by_cases ej : j = k
      · subst ej; rw [← he]; exact Classical.byContradiction h
      · exact hJ j (by omega)
   refine wC (w_fk _ (hp.ins t ht k hk)) fun (y : Bool) hy => ?_
   refine AE hy (fun hR => ?_) (fun hR => ?_)
   · exact wN rfl (wC (w_f27 p _ _ hl hr hR) fun (y : Int) hy =>
     h20 y hy)
   · refine h20 6 ?_
     rw [Cx, if_pos (by simpa using hR)]
theorem l_f2_9 (p : TPg) (hp : G6 p) (h1 : 1 ≤ p.AB.n) (h2 : p.AB.n ≤ 8) (h3 : p.AJ.n ≤ 8) (hr : ∀ c ∈ p.AJ.L, Ay c = true) :
 D_f2_9.wp ⟨p, 0⟩ fun y => y.2.2 = 0 ↔ De (aP p) := by
 refine CT (fun k => (⟨p, (k : Nat)⟩ : X_f2_9)) p.AB.n (fun k => ∀ t, t < k → (p.AB.get t).n ≤ 256 ∧ I6 p.AJ.L (p.AB.get t)) _
  (fun D hJ => ?_) (fun D k hk hJ hD => ?_) (k := 0) (Nat.zero_le _) (fun j hj => by omega)
 · simp only [tt_f2_9, BQ, Nat.lt_irrefl, decide_false, CO]
   exact ⟨fun _ => Ns p h1 h2 h3 hr hJ, fun _ => rfl⟩
 · simp only [tt_f2_9, BQ, hk, decide_true, C4, BI hk, BX, Int.toNat_natCast]
   refine AE ilI (fun h => ?_) (fun h => ?_)
   · show ((4 : Int) = 0 ↔ _)
     refine ⟨fun h => by omega, fun hP => ?_⟩
     have := ((BV hP).2.2.2.2 k hk).1
     omega
   · refine l_f2_15 p hp hr k hk D _ (fun y hy hno => ⟨fun h => absurd h hy, fun hP => absurd ((BV hP).2.2.2.2 k hk).2 hno⟩) fun hok => ?_
     rw [Cn hk hp.tn]
     refine hD fun t ht => ?_
     by_cases e : t = k
     · subst e; exact ⟨by omega, hok⟩
     · exact hJ t (by omega)
theorem w_f2 (p : TPg) (hp : G6 p) : D_f2.wp p fun y => y.2.2 = 0 ↔ De (aP p) := by
 have ne : ∀ {x : Int} {q : Prop}, x ≠ 0 → ¬ q → (x = 0 ↔ q) := fun h k => ⟨fun e => absurd e h, fun e => absurd e k⟩
 refine of_wp ?_
 simp only [tt_f2]
 refine AE ieI (fun h => ?_) fun h0 => AE ilI (fun h => ?_) fun h8 => AE ilI (fun h => ?_) fun hr8 => ?_
 · exact ne (by decide) fun hP => by have := (BV hP).1; omega
 · exact ne (by decide) fun hP => by have := (BV hP).2.1; omega
 · exact ne (by decide) fun hP => by have := (BV hP).2.2.1; omega
 · refine of_wp ?_
   simp only [tt_f2_3]
   refine CT (fun k => (⟨p, (k : Nat)⟩ : X_f2_4)) p.AJ.n (fun k => ∀ j, j < k → Ay (p.AJ.get j) = true) _
    (fun D hJ => ?_) (fun D k hk hJ hD => ?_) (k := 0) (Nat.zero_le _) (fun j hj => by omega)
   · simp only [tt_f2_4, BQ, Nat.lt_irrefl, decide_false, CO]
     refine of_wp ?_
     simp only [tt_f2_8]
     exact l_f2_9 p hp (by omega) (by omega) (by omega) fun c hc => by
      obtain ⟨j, hj, rfl⟩ := Sl.Ch.1 hc
      exact hJ j hj
   · simp only [tt_f2_4, BQ, hk, decide_true, C4, BI hk, BX, Int.toNat_natCast, Cn hk hp.rn]
     refine wC (w_f48 _) fun (y : Bool) hy => ?_
     simp only [TT.wp, bnI, hy]
     refine ⟨fun h => ne (by decide) fun hP => h ((BV hP).2.2.2.1 _ (Sl.Ch.2 ⟨k, hk, rfl⟩)), fun h => hD fun j hj => ?_⟩
     by_cases e : j = k
     · subst e; exact Classical.byContradiction h
     · exact hJ j (by omega)
theorem w_f41 (p : TPg) (hp : G6 p) : D_f41.wp p fun y => y = true ↔ De (aP p) := by
 refine of_wp ?_
 simp only [tt_f41]
 refine wC (w_f2 p hp) fun (y : Int × Int × Int) hy => ?_
 show (AX y.2.2 0 = true ↔ _)
 rw [ieI]
 exact hy
theorem Ki {P : Program} {X R : Type} {tt : AU X R → X → TT P R} (st : Nat → X) (N : Nat) (p : Nat → Prop) (Q : R → Prop) (hend : ∀ D, (∀ j, j < N → p j) → (tt D (st N)).wp Q)
 (hstep : ∀ (D : AU X R) k, k < N → (p k → D.wp (st (k + 1)) Q) → (tt D (st k)).wp Q) : (AU.loop tt).wp (st 0) Q :=
 CT st N (fun k => ∀ j, j < k → p j) Q hend
  (fun D k hk hJ hD => hstep D k hk fun h => hD fun j hj => by
    by_cases e : j = k
    · subst e; exact h
    · exact hJ j (by omega)) (Nat.zero_le _) fun j hj => by omega
theorem BM {q : Prop} (h : ¬ q) : (false = true ↔ q) := ⟨fun e => absurd e (by decide), fun k => absurd k h⟩
theorem N8 {q : Prop} (h : q) : (true = true ↔ q) := ⟨fun _ => h, fun _ => rfl⟩
theorem DS {b : Bool} {p q : Prop} (hb : b = true ↔ p) (h : p ↔ q) : (b = true ↔ q) := hb.trans h
structure DO {α : Type} (y x : Sl α) : Prop where
 n : y.n = x.n
 g : ∀ i, i < x.n → y.get i = x.get i
theorem DO.L {α : Type} {y x : Sl α} (h : DO y x) : y.L = x.L := Sl.SD h.n fun i hi => h.g i (h.n ▸ hi)
def CN {α : Type} (x : Sl α) : Prop := x.nil = true → x.n = 0
theorem Ka (i : Nat) : Nat.blt i 0 = false := rfl
theorem room_le {n b : Nat} (h : n * b ≤ 140737488351232) : (true && room (0 + n) b) = true := by simp [room]; omega
theorem HR (x : Sl Int) (h : CN x) (hn : x.n * 8 ≤ 140737488351232) : D_f1z.wp x fun y => DO y x ∧ CN y := by
 refine of_wp ?_
 simp only [tt_f1z]
 refine Bc (fun e => ⟨⟨(h e).symm, fun i hi => by have := h e; omega⟩, fun _ => rfl⟩) fun _ => wN (room_le hn) ⟨⟨?_, fun i _ => rfl⟩, fun e => ?_⟩
 · exact Nat.zero_add _
 · simp only [Bool.cond_self, Bool.false_eq_true] at e
theorem JG (x : Sl TSo) (h : CN x) (hn : x.n * 24 ≤ 140737488351232) : D_f1k.wp x fun y => DO y x ∧ CN y := by
 refine of_wp ?_
 simp only [tt_f1k]
 refine Bc (fun e => ⟨⟨(h e).symm, fun i hi => by have := h e; omega⟩, fun _ => rfl⟩) fun _ => wN (room_le hn) ⟨⟨?_, fun i _ => rfl⟩, fun e => ?_⟩
 · exact Nat.zero_add _
 · simp only [Bool.cond_self, Bool.false_eq_true] at e
theorem Ks (x : Sl TIn) (h : CN x) (hn : x.n * 48 ≤ 140737488351232) : D_f1x.wp x fun y => DO y x ∧ CN y := by
 refine of_wp ?_
 simp only [tt_f1x]
 refine Bc (fun e => ⟨⟨(h e).symm, fun i hi => by have := h e; omega⟩, fun _ => rfl⟩) fun _ => wN (room_le hn) ⟨⟨?_, fun i _ => rfl⟩, fun e => ?_⟩
 · exact Nat.zero_add _
 · simp only [Bool.cond_self, Bool.false_eq_true] at e
theorem Lk (x : Sl TRg) (h : CN x) (hn : x.n * 24 ≤ 140737488351232) : D_f24.wp x fun y => DO y x ∧ CN y := by
 refine of_wp ?_
 simp only [tt_f24]
 refine Bc (fun e => ⟨⟨(h e).symm, fun i hi => by have := h e; omega⟩, fun _ => rfl⟩) fun _ => wN (room_le hn) ⟨⟨?_, fun i _ => rfl⟩, fun e => ?_⟩
 · exact Nat.zero_add _
 · simp only [Bool.cond_self, Bool.false_eq_true] at e
theorem JH (x : Ar TSo) (h : 0 < x.n) (hn : x.n * 24 ≤ 140737488351232) : D_fw.wp x fun y => DO y ⟨false, x.n, x.get⟩ ∧ CN y := by
 refine CW ?_
 simp only [tt_fw]
 refine wN (by simpa [Nat.blt_eq] using h) (wN (by simpa [room] using hn) ⟨⟨Nat.zero_add _, fun i _ => ?_⟩, fun e => ?_⟩)
 · simp [Ka]
 · simp only [Bool.cond_self, Bool.false_eq_true] at e
theorem HS (x : Ar Int) (h : 0 < x.n) (hn : x.n * 8 ≤ 140737488351232) : D_f12.wp x fun y => DO y ⟨false, x.n, x.get⟩ ∧ CN y := by
 refine CW ?_
 simp only [tt_f12]
 refine wN (by simpa [Nat.blt_eq] using h) (wN (by simpa [room] using hn) ⟨⟨Nat.zero_add _, fun i _ => ?_⟩, fun e => ?_⟩)
 · simp [Ka]
 · simp only [Bool.cond_self, Bool.false_eq_true] at e
def Rf (n : Nat) (i : TIn) : Prop := Bd i = true ∧ ¬ (15 ≤ i.Op ∧ i.Op ≤ 17 ∧ (n : Int) < i.K)
def codeOk (l : Sl TIn) : Prop := l.n ≤ 256 ∧ ∀ k, k < l.n → Rf l.n (l.get k)
structure NG (l : Sl TIn) : Prop where
 n : l.n ≤ maxLen
 i : ∀ k, k < l.n → Sj (l.get k)
theorem w_f38 (i : TIn) (l : Sl TIn) (hi : Sj i) (hl : l.n ≤ 256) : D_f38.wp (i, l) fun y => y = true ↔ ¬ Rf l.n i := by
 refine of_wp ?_
 simp only [tt_f38]
 refine wC (w_f3h i hi) fun (y : Bool) hy => ?_
 refine AE bnI (fun h => N8 fun hc => h (hy.2 hc.1)) fun h => ?_
 have hR := hy.1 (Classical.byContradiction h)
 refine wC (w_f3i i) fun (z : Bool) hz => ?_
 refine AE hz (fun hj => ?_) fun hj => BM fun k => k ⟨hR, fun hh => hj ⟨hh.1, hh.2.1⟩⟩
 refine DS ilI ?_
 rw [Aj (by omega) (by omega)]
 exact ⟨fun h k => k.2 ⟨hj.1, hj.2, h⟩, fun h => Classical.byContradiction fun h2 => h ⟨hR, fun hh => h2 hh.2.2⟩⟩
theorem H8 (l m : Sl TIn) (hl : NG l) (hm : m.n ≤ 256) : D_f5.wp (l, m) fun y => 0 ≤ y ↔ ¬ ∀ k, k < l.n → Rf m.n (l.get k) := by
 refine of_wp ?_
 simp only [tt_f5]
 refine Ki (fun k => (⟨l, m, l.n, (k : Nat)⟩ : X_f5_2)) l.n (fun k => Rf m.n (l.get k)) _ (fun D hJ => ?_) (fun D k hk hD => ?_)
 · simp only [tt_f5_2, BQ, Nat.lt_irrefl, decide_false, CO]
   exact ⟨fun h => absurd h (by decide), fun h => absurd hJ h⟩
 · simp only [tt_f5_2, BQ, hk, decide_true, C4, BI hk, BX, Int.toNat_natCast, Cn hk hl.n]
   refine wC (w_f38 _ m (hl.i k hk) hm) fun (y : Bool) hy => ?_
   refine AE hy (fun h => ⟨fun _ k2 => h (k2 k hk), fun _ => Int.natCast_nonneg k⟩) fun h => hD (Classical.byContradiction h)
theorem w_f3n (l : Sl TIn) (hl : NG l) : D_f3n.wp l fun y => y = true ↔ codeOk l := by
 refine of_wp ?_
 simp only [tt_f3n]
 refine AE ilI (fun h => BM fun k => by have := k.1; omega) fun h => ?_
 have e : D_fl.wp (l, l) fun y => y = true ↔ ¬ ∀ k, k < l.n → Rf l.n (l.get k) := by
  refine of_wp ?_
  simp only [tt_fl]
  refine wC (H8 l l hl (by omega)) fun (y : Int) hy => DS leI hy
 refine wC e fun (y : Bool) hy => ?_
 refine DS bnI ?_
 rw [hy]
 exact ⟨fun k => ⟨by omega, Classical.byContradiction k⟩, fun k k2 => k2 k.2⟩
def aT (t : TTh) : MT := ⟨t.At, t.Phase, t.Ring, t.Status, t.AG, t.Af, t.Seen.L⟩
theorem G2 (l : Sl TIn) {a : Int} (h0 : 0 ≤ a) (h1 : a < l.n) : gI l.L a = l.get a.toNat := by unfold gI; exact Ii l h0 h1 zI
theorem w_fu (l : Sl TIn) (t : TTh) (hl : NG l) (hk : 0 ≤ t.AG) : D_fu.wp (l, t) fun y => y = true ↔ codeOk l ∧ Et l.L (aT t) := by
 refine of_wp ?_
 simp only [tt_fu]
 refine wC (w_f3n l hl) fun (y : Bool) hy => ?_
 refine AE bnI (fun h => BM fun k => h (hy.2 k.1)) fun h => ?_
 have hc := hy.1 (Classical.byContradiction h)
 have a1 : Et l.L (aT t) → t.At ≤ l.n := fun k => by have := k.a1; simpa [aT] using this
 refine AE ilI (fun h => BM fun k => absurd k.2.a0 (Int.not_le.2 h)) fun h0 => AE ilI (fun h => BM fun k => absurd (a1 k.2) (Int.not_le.2 h)) fun h1 =>
  AE ilI (fun h => BM fun k => absurd k.2.st.1 (Int.not_le.2 h)) fun h2 => AE ilI (fun h => BM fun k => absurd k.2.st.2 (Int.not_le.2 h)) fun h3 =>
  AE ilI (fun h => BM fun k => absurd k.2.ph.1 (Int.not_le.2 h)) fun h4 => AE ilI (fun h => BM fun k => absurd k.2.ph.2 (Int.not_le.2 h)) fun h5 => ?_
 refine of_wp ?_
 simp only [tt_fu_3]
 have mk : (t.Phase = 0 → t.Ring = 0 ∧ t.AG = 0) → (t.Phase ≠ 0 → t.Status = 0 ∧ t.At < l.n ∧ (l.get t.At.toNat).Op = 17 + t.Phase ∧ (l.get t.At.toNat).C = t.Ring ∧ t.AG < 4611686018427387904) → codeOk l ∧ Et l.L (aT t) := by
  intro p0 p1
  refine ⟨hc, Int.not_lt.1 h0, ?_, ⟨Int.not_lt.1 h2, Int.not_lt.1 h3⟩, ⟨Int.not_lt.1 h4, Int.not_lt.1 h5⟩, p0, fun hp => ?_⟩
  · simpa [aT] using h1
  · obtain ⟨a, b, c, d, e⟩ := p1 hp
    refine ⟨a, by simpa [aT] using b, ?_, ?_, hk, e⟩
    · show (gI l.L t.At).Op = _; rw [G2 l (by omega) b]; exact c
    · show (gI l.L t.At).C = _; rw [G2 l (by omega) b]; exact d
 have un : Et l.L (aT t) → t.Phase ≠ 0 → t.Status = 0 ∧ t.At < l.n ∧ (l.get t.At.toNat).Op = 17 + t.Phase ∧ (l.get t.At.toNat).C = t.Ring ∧ t.AG < 4611686018427387904 := by
  intro k hp
  obtain ⟨a, b, c, d, _, e⟩ := k.p1 hp
  have b : t.At < l.n := by simpa [aT] using b
  change (gI l.L t.At).Op = _ at c
  change (gI l.L t.At).C = _ at d
  rw [G2 l (by omega) b] at c d
  exact ⟨a, b, c, d, e⟩
 refine AE ieI (fun hp => AE ieI (fun hr => ?_) fun hr => BM fun k => hr (k.2.p0 hp).1) fun hp => ?_
 · refine DS ieI ⟨fun ht => mk (fun _ => ⟨hr, ht⟩) fun h => absurd hp h, fun k => (k.2.p0 hp).2⟩
 · refine AE (p := t.Status ≠ 0) (by rw [bnI, ieI]) (fun hs => BM fun k => hs (k.2.p1 hp).1) fun hs => AE ieI (fun ha => BM fun k => by have := (un k.2 hp).2.1; omega) fun ha => ?_
   refine of_wp ?_
   simp only [tt_fu_7]
   have hw : IntKind.i64.wrap (t.Phase - 1) = t.Phase - 1 := wrap64 (by omega) (by omega)
   refine wN (by rw [ibI]; omega) (wN (by rw [ibI, hw]; omega) ?_)
   have ho : (cond (Nat.beq (Int.toNat (IntKind.i64.wrap (t.Phase - 1))) 0) (18 : Int) (19 : Int)) = 17 + t.Phase := by
    rw [hw]
    rcases (by omega : t.Phase = 1 ∨ t.Phase = 2) with e | e <;> rw [e] <;> rfl
   rw [ho]
   refine AE ieI (fun e1 => AE ieI (fun e2 => ?_) fun e2 => BM fun k => e2 (un k.2 hp).2.2.2.1) fun e1 => BM fun k => e1 (un k.2 hp).2.2.1
   exact DS ilI ⟨fun ht => mk (fun h => absurd h hp) fun _ => ⟨Classical.byContradiction hs, by omega, e1, e2, ht⟩, fun k => (un k.2 hp).2.2.2.2⟩
structure RJ (x : TSo) : Prop where
 s0 : 0 ≤ x.AO
 s1 : x.AO < 18446744073709551616
 l0 : -9223372036854775808 ≤ x.Left
 l1 : x.Left ≤ 9223372036854775807
structure L0 (c nr : Int) (i : Nat) (x : TSo) : Prop where
 s1 : x.AO < 9223372036854775808
 T8 : x.AO / 2 % c = i
 free : x.AO % 2 = 0 → x.Value = 0 ∧ x.Left = 0
 held : x.AO % 2 = 1 → 1 ≤ x.Left ∧ x.Left < 2 ^ nr.toNat
theorem w_f3t (c r : Int) : D_f3t.wp (c, r) fun y => y = true ↔ 1 ≤ c ∧ c ≤ 64 ∧ 1 ≤ r ∧ r ≤ 8 := by
 refine of_wp ?_
 simp only [tt_f3t, TT.wp, leI, Bool.false_eq_true, false_iff]
 omega
theorem Iw {r : Int} (h1 : 1 ≤ r) (h8 : r ≤ 8) : shl IntKind.i64 1 r = 2 ^ r.toNat := by
 rcases (by omega : r = 1 ∨ r = 2 ∨ r = 3 ∨ r = 4 ∨ r = 5 ∨ r = 6 ∨ r = 7 ∨ r = 8) with e | e | e | e | e | e | e | e <;> subst e <;> rfl
theorem w_f21 (i : Nat) (c r : Int) (x : TSo) (hx : RJ x) (hc : 1 ≤ c ∧ c ≤ 64 ∧ 1 ≤ r ∧ r ≤ 8) (hi : (i : Int) < 9223372036854775808) : D_f21.wp ((i : Int), (c, (r, x))) fun y => y = true ↔ L0 c r i x := by
 refine of_wp ?_
 have h0 := hx.s0
 have hs := hx.s1
 simp only [tt_f21]
 have hd : Int.tdiv x.AO 2 = x.AO / 2 := Int.tdiv_eq_ediv_of_nonneg h0
 have hw1 : IntKind.u64.wrap (x.AO / 2) = x.AO / 2 := Aj (by omega) (by omega)
 have hw2 : IntKind.u64.wrap c = c := Aj (by omega) (by omega)
 have hw3 : IntKind.u64.wrap (i : Int) = i := Aj (by omega) (by omega)
 have hm : Int.tmod (x.AO / 2) c = x.AO / 2 % c := Int.tmod_eq_emod_of_nonneg (by omega)
 have hm2 : Int.tmod x.AO 2 = x.AO % 2 := Int.tmod_eq_emod_of_nonneg h0
 rw [hd, hw1, hw2, hw3, hm]
 refine AE leI (fun h => BM fun k => absurd k.s1 (Int.not_lt.2 h)) fun h => wN (by rw [bnI, ieI]; omega) (AE (p := x.AO / 2 % c ≠ i) (by rw [bnI, ieI]) (fun h => BM fun k => h k.T8) fun h2 => ?_)
 refine of_wp ?_
 simp only [tt_f21_3]
 rw [hm2]
 have h2 := Classical.byContradiction h2
 refine AE ieI (fun e => AE ieI (fun e2 => DS ieI ⟨fun e3 => ⟨by omega, h2, fun _ => ⟨e2, e3⟩, fun e4 => by omega⟩, fun k => (k.free e).2⟩) fun e2 => BM fun k => e2 (k.free e).1) fun e => ?_
 refine AE leI (fun e2 => wN (by rw [leI]; omega) ?_) fun e2 => BM fun k => e2 (k.held (by omega)).1
 refine DS ilI ?_
 rw [Iw hc.2.2.1 hc.2.2.2]
 exact ⟨fun e3 => ⟨by omega, h2, fun e4 => absurd e4 e, fun _ => ⟨e2, e3⟩⟩, fun k => (k.held (by omega)).2⟩
theorem w_f2c (r : Int) (h1 : 1 ≤ r) (h8 : r ≤ 8) : D_f2c.wp r fun y => y = 2 ^ r.toNat - 1 := by
 refine of_wp ?_
 simp only [tt_f2c]
 obtain ⟨n, rfl⟩ : ∃ n : Nat, r = n := ⟨r.toNat, by omega⟩
 refine CT (fun k => (⟨n, (2 : Int) ^ k, (k : Nat)⟩ : X_f2c_3)) n (fun _ => True) _ (fun D hJ => ?_) (fun D k hk _ hD => ?_) (k := 0) (Nat.zero_le _) trivial
 · simp only [tt_f2c_3, BQ, Nat.lt_irrefl, decide_false, CO]
   show IntKind.i64.wrap ((2 : Int) ^ n - 1) = 2 ^ (n : Int).toNat - 1
   rw [Int.toNat_natCast]
   have : n ≤ 8 := by omega
   rcases (by omega : n = 0 ∨ n = 1 ∨ n = 2 ∨ n = 3 ∨ n = 4 ∨ n = 5 ∨ n = 6 ∨ n = 7 ∨ n = 8) with e | e | e | e | e | e | e | e | e <;> subst e <;> rfl
 · simp only [tt_f2c_3, BQ, hk, decide_true, C4]
   have e1 : IntKind.i64.wrap ((2 : Int) * 2 ^ k) = 2 ^ (k + 1) := by
    rcases (by omega : k = 0 ∨ k = 1 ∨ k = 2 ∨ k = 3 ∨ k = 4 ∨ k = 5 ∨ k = 6 ∨ k = 7) with e | e | e | e | e | e | e | e <;> subst e <;> rfl
   have e2 : IntKind.i64.wrap ((k : Int) + 1) = ((k + 1 : Nat) : Int) := by rw [wrap64] <;> omega
   rw [e1, e2]
   exact hD trivial
def OL (c r : Int) (l : Sl TSo) : Prop := (l.n : Int) = c ∧ ∀ i, i < l.n → L0 c r i (l.get i)
structure UF (l : Sl TSo) : Prop where
 n : l.n ≤ maxLen
 x : ∀ i, i < l.n → RJ (l.get i)
 z : CN l
theorem w_fx (c r : Int) (l : Sl TSo) (hl : UF l) (hc : 1 ≤ c ∧ c ≤ 64 ∧ 1 ≤ r ∧ r ≤ 8) :
 D_fx.wp (c, (r, l)) fun y => (OL c r l ∧ y.2 = 0 ∧ y.1.nil = false ∧ DO y.1.x.l l ∧ y.1.x.AV = r ∧ CN y.1.x.l) ∨ (¬ OL c r l ∧ y.2 = 3 ∧ y.1.nil = true) := by
 refine of_wp ?_
 simp only [tt_fx]
 refine wC (w_f3t c r) fun (y : Bool) hy => ?_
 refine AE bnI (fun h => absurd (hy.2 hc) h) fun _ => ?_
 refine AE (p := (l.n : Int) ≠ c) (by rw [bnI, ieI]) (fun h => .inr ⟨fun k => h k.1, rfl, rfl⟩) fun h => ?_
 have hn := Classical.byContradiction h
 refine Ki (fun k => (⟨c, r, l, l, l.n, (k : Nat)⟩ : X_fx_6)) l.n (fun k => L0 c r k (l.get k)) _ (fun D hJ => ?_) (fun D k hk hD => ?_)
 · simp only [tt_fx_6, BQ, Nat.lt_irrefl, decide_false, CO]
   refine of_wp ?_
   simp only [tt_fx_11]
   refine wC (JG l hl.z (by omega)) fun (y : Sl TSo) hy => ?_
   exact .inl ⟨⟨hn, hJ⟩, rfl, rfl, hy.1, rfl, hy.2⟩
 · simp only [tt_fx_6, BQ, hk, decide_true, C4, BI hk, BX, Int.toNat_natCast, Cn hk hl.n]
   refine wC (w_f21 k c r _ (hl.x k hk) hc (by have := Ia hl.n; omega)) fun (y : Bool) hy => ?_
   refine AE bnI (fun h => .inr ⟨fun kk => h (hy.2 (kk.2 k hk)), rfl, rfl⟩) fun h => hD (hy.1 (Classical.byContradiction h))
def OD (c : Int) (x : TSo) (h : Int) (j : Nat) : Prop :=
 (x.AO % 2 = 1 → C9 x.Left j = false → x.AO / 2 < h) ∧ (x.AO % 2 = 0 → c ≤ x.AO / 2 → x.AO / 2 - c < h)
def GN (c tail : Int) (AD : Sl Int) (x : TSo) : Prop := (x.AO % 2 = 1 → x.AO / 2 < tail) ∧ ∀ j, j < AD.n → OD c x (AD.get j) j
theorem TC : ∀ (x : Fin 256) (j : Fin 8), decide (Vm.bits .and IntKind.i64 (shr IntKind.i64 (x.val : Int) (j.val : Int)) 1 = 0) = !C9 (x.val : Int) (j.val : Int) := by decide +kernel
theorem Np {x : Int} {j : Nat} (h0 : 0 ≤ x) (h1 : x < 256) (hj : j < 8) : Vm.bits .and IntKind.i64 (shr IntKind.i64 x (j : Int)) 1 = 0 ↔ C9 x (j : Int) = false := by
 have := TC ⟨x.toNat, by omega⟩ ⟨j, hj⟩
 simp only [show ((x.toNat : Nat) : Int) = x by omega] at this
 exact decide_eq_true_iff.symm.trans (by rw [this]; simp)
theorem Ri : ∀ (x : Fin 256) (j : Fin 8), IntKind.i64.wrap (Int.tdiv ((x.val : Int) / 2 ^ j.val) 2) = (x.val : Int) / 2 ^ (j.val + 1) ∧ (Int.tmod ((x.val : Int) / 2 ^ j.val) 2 = 0 ↔ C9 (x.val : Int) (j.val : Int) = false) := by decide +kernel
theorem LO {x : Int} {j : Nat} (h0 : 0 ≤ x) (h1 : x < 256) (hj : j < 8) : IntKind.i64.wrap (Int.tdiv (x / 2 ^ j) 2) = x / 2 ^ (j + 1) ∧ (Int.tmod (x / 2 ^ j) 2 = 0 ↔ C9 x (j : Int) = false) := by
 have := Ri ⟨x.toNat, by omega⟩ ⟨j, hj⟩
 simpa only [show ((x.toNat : Nat) : Int) = x by omega] using this
structure UH (l : Sl Int) : Prop where
 n : l.n ≤ 8
 h : ∀ j, j < l.n → 0 ≤ l.get j ∧ l.get j < 18446744073709551616
theorem Ko (x : TSo) (r : TRr) (hx : 0 ≤ x.AO ∧ x.AO < 9223372036854775808) (hl : 0 ≤ x.Left ∧ x.Left < 256) (hh : UH r.AA.AD) (hm : 0 ≤ r.most ∧ r.most ≤ 64) :
 D_f1.wp (x, r) fun y => y = true ↔ GN r.most r.AA.tail r.AA.AD x := by
 refine CW ?_
 simp only [tt_f1]
 have hd : Int.tdiv x.AO 2 = x.AO / 2 := Int.tdiv_eq_ediv_of_nonneg hx.1
 have hw1 : IntKind.u64.wrap (x.AO / 2) = x.AO / 2 := Aj (by omega) (by omega)
 have hm2 : Int.tmod x.AO 2 = x.AO % 2 := Int.tmod_eq_emod_of_nonneg hx.1
 rw [hd, hw1, hm2]
 have h5 : (x.AO % 2 = 1 → x.AO / 2 < r.AA.tail) → D_f1_5.wp (⟨x, x.AO / 2, AX (x.AO % 2) 1, r⟩ : X_f1_5) fun y => y.1 = true ↔ GN r.most r.AA.tail r.AA.AD x := by
  intro ht
  refine of_wp ?_
  simp only [tt_f1_5]
  refine Ki (fun k => (⟨x, x.AO / 2, AX (x.AO % 2) 1, r.AA.AD.n, (k : Nat), r⟩ : X_f1_6)) r.AA.AD.n (fun k => OD r.most x (r.AA.AD.get k) k) _ (fun D hJ => ?_) (fun D k hk hD => ?_)
  · simp only [tt_f1_6, BQ, Nat.lt_irrefl, decide_false, CO]
    exact wN (by simp) (N8 ⟨ht, hJ⟩)
  · have hn := hh.n
    have hg := hh.h k hk
    have e2 : IntKind.i64.wrap ((k : Int) + 1) = ((k + 1 : Nat) : Int) := by rw [wrap64] <;> omega
    simp only [tt_f1_6, BQ, hk, decide_true, C4, BI hk, BX, Int.toNat_natCast, Nat.zero_add]
    refine wN (by simp) ?_
    have hb := Np hl.1 hl.2 (Nat.lt_of_lt_of_le hk hn)
    have h12 : OD r.most x (r.AA.AD.get k) k → (D_f1_12 D).wp (⟨x, x.AO / 2, AX (x.AO % 2) 1, r.AA.AD.n, k, r⟩ : X_f1_12) fun y => y.1 = true ↔ GN r.most r.AA.tail r.AA.AD x := fun hc => by
     refine of_wp ?_
     simp only [tt_f1_12, e2]
     exact hD hc
    refine AE ieI (fun ho => ?_) fun ho => ?_
    · have nh : ∀ {t e : TT Tryz.prog RR_f1} {Q}, e.wp Q → (TT.ite (!(AX (x.AO % 2) 1)) t e).wp Q := fun h => Bc (fun k => by rw [bnI, ieI] at k; exact absurd ho k) fun _ => h
      refine wN (by rw [leI]; omega) (AE (ieI.trans hb) (fun hz => AE leI (fun hle => wN (by simp) (BM fun kk => ?_)) fun hle => nh (h12 ⟨fun _ _ => by omega, fun e => by omega⟩)) fun hz => nh (h12 ⟨fun _ e => absurd e hz, fun e => by omega⟩))
      have := (kk.2 k hk).1 ho hz
      omega
    · refine Bc (fun _ => AE leI (fun h1 => ?_) fun h1 => h12 ⟨fun e => absurd e ho, fun _ e => absurd e h1⟩) fun k => absurd (bnI.2 fun e => ho (ieI.1 e)) k
      rw [Aj (by omega) (by omega)]
      refine AE leI (fun h2 => wN (by simp) (BM fun kk => ?_)) fun h2 => h12 ⟨fun e => absurd e ho, fun _ _ => by omega⟩
      have := (kk.2 k hk).2 (by omega) h1
      omega
 refine AE ieI (fun ho => AE leI (fun ht => BM fun k => absurd (k.1 ho) (Int.not_lt.2 ht)) fun ht => h5 fun _ => by omega) fun ho => h5 fun e => absurd e ho
structure UG (s : TRs) : Prop where
 t0 : 0 ≤ s.Au
 t1 : s.Au < 18446744073709551616
 hn : s.AY.n ≤ maxLen
 hh : ∀ j, j < s.AY.n → 0 ≤ s.AY.get j ∧ s.AY.get j < 18446744073709551616
 hz : CN s.AY
 ss : UF s.Am
structure Q3 (c : TRg) (s : TRs) : Prop where
 sl : OL c.Cf c.AQ s.Am
 rd : (s.AY.n : Int) = c.AQ
 tb : s.Au < 4611686018427387904
 h0 : ∀ j, j < s.AY.n → s.AY.get j ≤ s.Au ∧ s.Au - s.AY.get j ≤ c.Cf
 st : ∀ i, i < s.Am.n → GN c.Cf s.Au s.AY (s.Am.get i)
theorem CQ {c : TRg} (h : Ay c = true) : 1 ≤ c.Cf ∧ c.Cf ≤ 64 ∧ 1 ≤ c.AQ ∧ c.AQ ≤ 8 := by
 simp only [Ay, decide_eq_true_eq] at h; omega
theorem M9 {c r : Int} {i : Nat} {x : TSo} (h : L0 c r i x) (h8 : r ≤ 8) : 0 ≤ x.Left ∧ x.Left < 256 := by
 rcases (by omega : x.AO % 2 = 0 ∨ x.AO % 2 = 1) with e | e
 · have := h.free e; omega
 · have := h.held e
   have h2 : (2 : Int) ^ r.toNat ≤ 2 ^ 8 := by exact_mod_cast Nat.pow_le_pow_right (by decide) (by omega : r.toNat ≤ 8)
   omega
structure Qf (c : TRg) (r : TRr) : Prop where
 sn : r.s.nil = false
 rd : r.s.x.AV = c.AQ
 ms : r.most = c.Cf
 hz : CN r.AA.AD
 lz : CN r.s.x.l
 hn : (r.AA.AD.n : Int) = c.AQ
 ln : (r.s.x.l.n : Int) = c.Cf
def aR (r : TRr) : MR := ⟨r.AA.tail, r.AA.AD.L, r.closed, r.s.x.l.L⟩
def Kk (s : TRs) : MR := ⟨s.Au, s.AY.L, s.Aw, s.Am.L⟩
theorem w_f46 (c : TRg) : D_f46.wp c fun y => y = true ↔ (c.Kind = 1 ∧ c.AQ = 1 ∨ c.Kind = 2) := by
 refine of_wp ?_
 simp only [tt_f46, TT.wp, ieI, Bool.false_eq_true, true_iff, false_iff]
 omega
theorem w_f2t (x : Int) (h0 : 0 ≤ x) (h1 : x < 9223372036854775808) : D_f2t.wp x fun y => y = 2 * x := by
 refine of_wp ?_
 simp only [tt_f2t]
 exact Aj (by omega) (by omega)
def G3 (i : Nat) : TSo := ⟨2 * (i : Int), 0, 0⟩
theorem w_f1v (c r : Int) (hi : 1 ≤ c ∧ c ≤ 64 ∧ 1 ≤ r ∧ r ≤ 8) :
 D_f1v.wp (c, r) fun y => y.2 = 0 ∧ y.1.nil = false ∧ DO y.1.x.l ⟨false, c.toNat, G3⟩ ∧ y.1.x.AV = r ∧ CN y.1.x.l := by
 refine of_wp ?_
 simp only [tt_f1v]
 refine wC (w_f3t c r) fun (y : Bool) hy => ?_
 refine AE bnI (fun h => absurd (hy.2 hi) h) fun _ => ?_
 obtain ⟨n, rfl⟩ : ∃ n : Nat, c = n := ⟨c.toNat, by omega⟩
 simp only [Int.toNat_natCast]
 refine wN (by simp [upto, room, BW]; omega) (wN (by simp) ?_)
 have hl := by
  refine C8 (tt := tt_f1v_5) (fun x : X_f1v_5 => x.Kz = n ∧ ∃ k : Nat, x.GR = k ∧ k ≤ n ∧ x.Ft.l.nil = false ∧ x.Ft.l.n = n ∧ x.Ft.AV = r ∧ (∀ i, i < n → x.Ft.l.get i = if i < k then G3 i else ⟨0, 0, 0⟩)) (fun x => (n - x.GR).toNat)
   (fun _ y => y.2 = 0 ∧ y.1.nil = false ∧ DO y.1.x.l ⟨false, n, G3⟩ ∧ y.1.x.AV = r ∧ CN y.1.x.l) (fun D x hI hD => ?_) (x := (⟨n, 0, ⟨⟨false, n, fun _ => ⟨0, 0, 0⟩⟩, r⟩⟩ : X_f1v_5)) ⟨rfl, 0, rfl, by omega, rfl, rfl, rfl, fun i _ => by simp⟩
  obtain ⟨e0, k, e1, hk, hz, hn, hr, hg⟩ := hI
  obtain ⟨q21, q22, ⟨⟨z, m, g⟩, rr⟩⟩ := x
  simp only at e0 e1 hz hn hr hg hD
  subst e0 e1 hz hn hr
  simp only [tt_f1v_5]
  refine AE ilI (fun h => ?_) fun h => ?_
  · have hkm : k < m := by omega
    rw [Aj (by omega) (by omega)]
    refine wC (w_f2t k (by omega) (by omega)) fun (y : Int) hy => ?_
    subst hy
    refine wN (BI hkm) (wN (by simp) (wN (by simp) ?_))
    have e2 : IntKind.i64.wrap ((k : Int) + 1) = ((k + 1 : Nat) : Int) := by rw [wrap64] <;> omega
    rw [e2]
    refine hD _ ⟨rfl, k + 1, rfl, hkm, rfl, rfl, rfl, fun i hi => ?_⟩ (by simp only; omega)
    simp only [Int.toNat_natCast, Nat.zero_add]
    by_cases e : i = k
    · subst e
      have := hg i hi
      simp only [this, Nat.lt_irrefl, if_false, Nat.beq_refl, cond_true, G3]
      rw [if_pos (by omega)]
    · have hb : Nat.beq i k = false := Bool.eq_false_iff.2 fun h => e (Nat.eq_of_beq_eq_true h)
      simp only [hb, cond_false, hg i hi]
      by_cases e3 : i < k
      · rw [if_pos e3, if_pos (by omega)]
      · rw [if_neg e3, if_neg (by omega)]
  · have : k = m := by omega
    subst this
    refine ⟨rfl, rfl, ⟨rfl, fun i hi => ?_⟩, rfl, fun e => by cases e⟩
    show g i = G3 i
    rw [hg i hi, if_pos hi]
 exact hl
theorem Iy (n : Nat) (b : Bool) : (⟨b, n, fun _ => (0 : Int)⟩ : Sl Int).L = List.replicate n 0 := by
 apply List.ext_getElem
 · simp
 · intro i h1 h2; simp [Sl.F6]
theorem w_f2s (c : TRg) (hc : Ay c = true) : D_f2s.wp c fun y => y.2 = 0 ∧ y.1.nil = false ∧ Qf c y.1.x ∧ aR y.1.x = F9 c := by
 have hf := CQ hc
 refine of_wp ?_
 simp only [tt_f2s]
 refine wC (w_f1v c.Cf c.AQ hf) fun (y : Bx TSs × Int) hy => ?_
 obtain ⟨⟨bn, ⟨sl, rd⟩⟩, er⟩ := y
 obtain ⟨rfl, rfl, hs, rfl, hz⟩ := hy
 refine AE (p := (0 : Int) ≠ 0) (by rw [bnI, ieI]) (fun h => absurd rfl h) fun _ => ?_
 refine wC (w_f46 c) fun (z : Bool) hz' => ?_
 refine AE bnI (fun h => absurd (hz'.2 (by simp only [Ay, decide_eq_true_eq] at hc; omega)) h) fun _ => ?_
 refine of_wp ?_
 simp only [tt_f2s_4]
 have hroom : c.AQ.toNat * 8 ≤ 140737488351232 := by omega
 refine wN (by simp [upto, room, BW, hroom]; omega) ⟨rfl, rfl, ⟨rfl, rfl, Aj (by omega) (by omega), fun e => by (cases e), hz, by show ((c.AQ.toNat : Nat) : Int) = _; omega, by show (sl.n : Int) = _; rw [hs.n]; show ((c.Cf.toNat : Nat) : Int) = _; omega⟩, ?_⟩
 show (⟨0, _, false, sl.L⟩ : MR) = _
 rw [hs.L, Iy]
 rfl
theorem w_fb (c : TRg) (s : TRs) (hc : Ay c = true) (hs : UG s) :
 D_fb.wp (c, s) fun y => (Q3 c s ∧ y.2 = 0 ∧ y.1.nil = false ∧ Qf c y.1.x ∧ aR y.1.x = Kk s) ∨ (¬ Q3 c s ∧ y.2 = 3) := by
 have hf := CQ hc
 refine of_wp ?_
 simp only [tt_fb]
 refine wC (w_f2s c hc) fun (y : Bx TRr × Int) hy => ?_
 obtain ⟨⟨bn, r⟩, er⟩ := y
 obtain ⟨h0, h1, hw, _⟩ := hy
 simp only at h0 h1 hw
 subst h0 h1
 refine AE (p := (0 : Int) ≠ 0) (by rw [bnI, ieI]) (fun h => absurd rfl h) fun _ => ?_
 refine wC (w_fx c.Cf c.AQ s.Am hs.ss hf) fun (z : Bx TSs × Int) hz => ?_
 obtain ⟨⟨zn, ⟨zl, zr⟩⟩, ze⟩ := z
 rcases hz with ⟨hsl, he, hzn, hsame, hrd, hlz⟩ | ⟨hno, he, _⟩
 · simp only at he hzn hsame hrd hlz
   subst he hzn hrd
   refine AE (p := (0 : Int) ≠ 0) (by rw [bnI, ieI]) (fun h => absurd rfl h) fun _ => ?_
   refine AE (p := (s.AY.n : Int) ≠ c.AQ) (by rw [bnI, ieI]) (fun h => .inr ⟨fun k => h k.rd, rfl⟩) fun h1 => AE leI (fun h => .inr ⟨fun k => absurd k.tb (Int.not_lt.2 h), rfl⟩) fun h2 => ?_
   have h1 := Classical.byContradiction h1
   refine wN rfl ?_
   refine of_wp ?_
   simp only [tt_fb_7]
   refine wC (HR s.AY hs.hz (by omega)) fun (hd : Sl Int) hhd => ?_
   obtain ⟨hsm, hhz⟩ := hhd
   have t0 := hs.t0
   have hnn : hd.n = s.AY.n := hsm.n
   rw [hnn]
   refine Ki (fun k => (⟨s, s.AY.n, (k : Nat), ⟨⟨s.Au, hd⟩, ⟨false, ⟨zl, c.AQ⟩⟩, r.most, s.Aw⟩⟩ : X_fb_9)) s.AY.n (fun j => s.AY.get j ≤ s.Au ∧ s.Au - s.AY.get j ≤ c.Cf) _ (fun D hJ => ?_) (fun D k hk hD => ?_)
   · simp only [tt_fb_9, BQ, Nat.lt_irrefl, decide_false, CO]
     refine wN (by simp) (of_wp ?_)
     simp only [tt_fb_14]
     refine Ki (fun k => (⟨s.Am, s.Am.n, (k : Nat), ⟨⟨s.Au, hd⟩, ⟨false, ⟨zl, c.AQ⟩⟩, r.most, s.Aw⟩⟩ : X_fb_15)) s.Am.n (fun i => GN c.Cf s.Au s.AY (s.Am.get i)) _ (fun D hJ2 => ?_) (fun D k hk hD => ?_)
     · simp only [tt_fb_15, BQ, Nat.lt_irrefl, decide_false, CO]
       refine .inl ⟨⟨hsl, h1, by omega, hJ, hJ2⟩, rfl, rfl, ⟨rfl, rfl, hw.ms, hhz, hlz, by show (hd.n : Int) = _; omega, by show (zl.n : Int) = _; rw [hsame.n]; exact hsl.1⟩, ?_⟩
       · show (⟨s.Au, hd.L, s.Aw, zl.L⟩ : MR) = _
         rw [hsm.L, hsame.L]; rfl
     · have hx := hs.ss.x k hk
       have hp := hsl.2 k hk
       simp only [tt_fb_15, BQ, hk, decide_true, C4, BI hk, BX, Int.toNat_natCast, Cn hk hs.ss.n]
       have hok : UH hd := ⟨by omega, fun j hj => by rw [hsm.g j (by omega)]; exact hs.hh j (by omega)⟩
       refine wC (Ko _ ⟨⟨s.Au, hd⟩, ⟨false, ⟨zl, c.AQ⟩⟩, r.most, s.Aw⟩ ⟨hx.s0, hp.s1⟩ (M9 hp hf.2.2.2) hok (by rw [hw.ms]; omega)) fun (y : Bool) hy => ?_
       have heq : GN r.most s.Au hd (s.Am.get k) ↔ GN c.Cf s.Au s.AY (s.Am.get k) := by
        rw [hw.ms]
        unfold GN
        rw [hsm.n]
        exact and_congr_right fun _ => ⟨fun h j hj => by have := h j hj; rwa [hsm.g j hj] at this, fun h j hj => by rw [hsm.g j hj]; exact h j hj⟩
       rw [heq] at hy
       exact AE bnI (fun h => .inr ⟨fun kk => h (hy.2 (kk.st k hk)), rfl⟩) fun h => hD (hy.1 (Classical.byContradiction h))
   · have hg := hs.hh k hk
     have hkd : k < hd.n := by omega
     simp only [tt_fb_9, BQ, hk, decide_true, C4, BI hkd, BX, Int.toNat_natCast, Nat.zero_add, hsm.g k hk]
     refine wN (by simp) (AE ilI (fun h => wN (by simp) (.inr ⟨fun kk => ?_, rfl⟩)) fun h => ?_)
     · have := (kk.h0 k hk).1; omega
     · rw [Aj (by omega) (by omega), hw.ms]
       refine AE ilI (fun h => wN (by simp) (.inr ⟨fun kk => ?_, rfl⟩)) fun h => ?_
       · have := (kk.h0 k hk).2; omega
       · refine of_wp ?_
         simp only [tt_fb_13, Cn hk hs.hn]
         rw [← hw.ms]
         exact hD ⟨by omega, by omega⟩
 · simp only at he
   subst he
   exact AE (p := (3 : Int) ≠ 0) (by rw [bnI, ieI]) (fun _ => .inr ⟨fun k => hno k.sl, rfl⟩) fun h => absurd (by decide) h
theorem TG {X R : Type} {D : AU X R} {x x' : X} {Q : R → Prop} (h : D.wp x' Q) (e : x = x') : D.wp x Q := e ▸ h
theorem Ff {α β γ : Type} {s : Sl α} {t : Sl β} {f : α → γ} {g : β → γ} (hn : s.n = t.n) (h : ∀ i, i < t.n → f (s.get i) = g (t.get i)) : s.L.map f = t.L.map g := by
 apply List.ext_getElem
 · simp [hn]
 · intro i h1 h2
   simp only [List.getElem_map, Sl.F6]
   exact h i (by simpa using h2)
def snoc {α : Type} (s : Sl α) (y : α) : Sl α := ⟨false, s.n + 1, fun i => cond (Nat.blt i s.n) (s.get i) y⟩
def IG {α : Type} (s : Sl α) (k : Nat) (y : α) : Sl α := ⟨s.nil, s.n, fun i => cond (Nat.beq i k) y (s.get i)⟩
theorem Rx {i n : Nat} (h : i < n) : Nat.blt i n = true := by rw [Nat.blt_eq]; exact h
theorem Ry (n : Nat) : Nat.blt n n = false := Bool.eq_false_iff.2 fun h => by rw [Nat.blt_eq] at h; omega
theorem Is {i k : Nat} (h : i ≠ k) : Nat.beq i k = false := Bool.eq_false_iff.2 fun e => h (Nat.eq_of_beq_eq_true e)
theorem Gh {α : Type} {s : Sl α} {y : α} {i : Nat} (h : i < s.n) : (snoc s y).get i = s.get i := by simp [snoc, Rx h]
theorem Gi {α : Type} {s : Sl α} {y : α} : (snoc s y).get s.n = y := by simp [snoc, Ry]
theorem O2 {α : Type} {s : Sl α} {y : α} {i k : Nat} (h : i ≠ k) : (IG s k y).get i = s.get i := by simp [IG, Is h]
theorem O3 {α : Type} {s : Sl α} {y : α} {k : Nat} : (IG s k y).get k = y := by simp [IG]
structure Fh (y p : TPg) : Prop where
 r : DO y.AJ p.AJ
 rz : CN y.AJ
 n : y.AB.n = p.AB.n
 t : ∀ t, t < p.AB.n → DO (y.AB.get t) (p.AB.get t) ∧ CN (y.AB.get t)
theorem Fh.same {y p : TPg} (h : Fh y p) : aP y = aP p := by
 unfold aP
 rw [h.r.L, Ff h.n fun i hi => (h.t i hi).1.L]
theorem DO.NG {y x : Sl TIn} (h : DO y x) (hx : NG x) : NG y := ⟨h.n ▸ hx.n, fun k hk => by rw [h.g k (h.n ▸ hk)]; exact hx.i k (h.n ▸ hk)⟩
theorem Fh.G6 {y p : TPg} (h : Fh y p) (hp : G6 p) : G6 y where
 rn := h.r.n ▸ hp.rn
 tn := h.n ▸ hp.tn
 ln t ht := by rw [(h.t t (h.n ▸ ht)).1.n]; exact hp.ln t (h.n ▸ ht)
 ins t ht k hk := by
  have := (h.t t (h.n ▸ ht)).1
  rw [this.g k (this.n ▸ hk)]; exact hp.ins t (h.n ▸ ht) k (this.n ▸ hk)
 rz := h.rz
 lz t ht := (h.t t (h.n ▸ ht)).2
theorem w_fy (p : TPg) (hp : G6 p) (hP : De (aP p)) : D_fy.wp p fun y => Fh y p := by
 obtain ⟨_, h8, hr8, _, hl⟩ := BV hP
 refine of_wp ?_
 simp only [tt_fy]
 refine wC (Lk p.AJ hp.rz (by omega)) fun (y : Sl TRg) hy => ?_
 refine C8 (tt := tt_fy_3) (fun x : X_fy_3 => x.Q9 = p.AB ∧ x.M6 = p.AB.n ∧ ∃ k : Nat, x.HC = k ∧ k ≤ p.AB.n ∧ x.A0.AJ = y ∧ x.A0.AB.n = k ∧ ∀ t, t < k → DO (x.A0.AB.get t) (p.AB.get t) ∧ CN (x.A0.AB.get t))
  (fun x => (p.AB.n - x.HC).toNat) (fun _ y => Fh y p) (fun D x hI hD => ?_) ⟨rfl, rfl, 0, rfl, by omega, rfl, rfl, fun t ht => by omega⟩
 obtain ⟨e0, e1, k, e2, hk, e3, hn, hg⟩ := hI
 obtain ⟨q11, q12, q13, m2, ⟨mr, mt⟩⟩ := x
 simp only at e0 e1 e2 e3 hn hg hD
 subst e0 e1 e2 e3 hn
 simp only [tt_fy_3]
 refine AE ilI (fun h => ?_) fun h => ?_
 · have hkm : mt.n < p.AB.n := by omega
   refine wN (BI hkm) ?_
   rw [Int.toNat_natCast]
   refine wC (Ks (p.AB.get mt.n) (hp.lz _ hkm) (by have := (hl _ hkm).1; omega)) fun (z : Sl TIn) hz => ?_
   refine wN (by simp [room]; omega) ?_
   rw [Cn hkm hp.tn]
   refine TG (x' := ⟨p.AB, p.AB.n, ((mt.n + 1 : Nat) : Int), m2, ⟨mr, snoc mt z⟩⟩) (hD _ ⟨rfl, rfl, mt.n + 1, rfl, hkm, rfl, rfl, fun t ht => ?_⟩ (by simp only; omega)) ?_
   · by_cases e : t = mt.n
     · subst e; simp only [Gi]; exact hz
     · have : t < mt.n := by omega
       simp only [Gh this]; exact hg t this
   · refine congrArg (fun g => X_fy_3.mk p.AB p.AB.n ((mt.n + 1 : Nat) : Int) m2 ⟨mr, ⟨false, mt.n + 1, g⟩⟩) (funext fun i => ?_)
     cases Nat.blt i mt.n <;> rfl
 · exact ⟨hy.1, hy.2, by simp only; omega, fun t ht => hg t (by omega)⟩
structure Df (b : Nat) (t : TTh) : Prop where
 k0 : 0 ≤ t.AG
 k1 : t.AG < 18446744073709551616
 rg : ∀ j, 0 ≤ t.Af j ∧ t.Af j < 18446744073709551616
 sz : CN t.Seen
 sb : t.Seen.n ≤ b
theorem Nr (b : Nat) : Df b ⟨0, 0, 0, 0, 0, fun _ => 0, ⟨true, 0, fun _ => 0⟩⟩ := ⟨by decide, by decide, fun _ => ⟨Int.le_refl 0, (by decide : (0 : Int) < 18446744073709551616)⟩, fun _ => rfl, Nat.zero_le _⟩
structure FWf (p : TPg) (b : Nat) (f : TFa) : Prop where
 cp : Fh f.p p
 tn : f.threads.n = p.AB.n
 tw : ∀ t, t < f.threads.n → Df b (f.threads.get t)
 rn : f.rings.n = p.AJ.n
 rw : ∀ i, i < f.rings.n → (f.rings.get i).nil = false ∧ Qf (p.AJ.get i) (f.rings.get i).x
def aF (f : TFa) : MS := ⟨f.threads.L.map aT, f.rings.L.map fun r => aR r.x, f.now, f.reads, f.ended⟩
def aS (s : TSt) : MS := ⟨s.AB.L.map aT, s.AJ.L.map Kk, s.Gz, s.Reads, s.CB⟩
theorem rg_of {p : TPg} (hP : De (aP p)) {i : Nat} (h : i < p.AJ.n) : Ay (p.AJ.get i) = true := (BV hP).2.2.2.1 _ (Sl.Ch.2 ⟨i, h, rfl⟩)
theorem w_f1j (p : TPg) (hp : G6 p) (b : Nat) :
 D_f1j.wp p fun y => (De (aP p) ∧ y.2 = 0 ∧ y.1.nil = false ∧ FWf p b y.1.x ∧ aF y.1.x = FF (aP p)) ∨ (¬ De (aP p) ∧ y.2 = 1 ∧ y.1.nil = true) := by
 refine of_wp ?_
 simp only [tt_f1j]
 refine wC (w_f3m p hp) fun (y : Bool) hy => ?_
 refine AE bnI (fun h => .inr ⟨fun k => h (hy.2 k), rfl, rfl⟩) fun h => ?_
 have hP := hy.1 (Classical.byContradiction h)
 obtain ⟨_, h8, hr8, _, hl⟩ := BV hP
 refine wC (w_fy p hp hP) fun (q : TPg) hq => ?_
 refine wN (by simp [upto, room, BW]; omega) ?_
 rw [Int.toNat_natCast]
 refine C8 (tt := tt_f1j_5) (fun x : X_f1j_5 => x.Kz = p.AJ ∧ x.GR = p.AJ.n ∧ ∃ k : Nat, x.IK = k ∧ k ≤ p.AJ.n ∧ x.B5.p = q ∧ x.B5.threads = ⟨false, p.AB.n, fun _ => ⟨0, 0, 0, 0, 0, fun _ => 0, ⟨true, 0, fun _ => 0⟩⟩⟩ ∧ x.B5.now = 0 ∧ x.B5.reads = 0 ∧ x.B5.ended = false ∧
  x.B5.rings.n = k ∧ ∀ i, i < k → (x.B5.rings.get i).nil = false ∧ Qf (p.AJ.get i) (x.B5.rings.get i).x ∧ aR (x.B5.rings.get i).x = F9 (p.AJ.get i))
  (fun x => (p.AJ.n - x.IK).toNat) (fun _ y => (De (aP p) ∧ y.2 = 0 ∧ y.1.nil = false ∧ FWf p b y.1.x ∧ aF y.1.x = FF (aP p)) ∨ (¬ De (aP p) ∧ y.2 = 1 ∧ y.1.nil = true)) (fun D x hI hD => ?_) ⟨rfl, rfl, 0, rfl, by omega, rfl, rfl, rfl, rfl, rfl, rfl, fun t ht => by omega⟩
 obtain ⟨e0, e1, k, e2, hk, e3, e4, e5, e6, e7, hn, hg⟩ := hI
 obtain ⟨q21, q22, q23, ⟨mp, mt, mr, mn, md, me⟩⟩ := x
 simp only at e0 e1 e2 e3 e4 e5 e6 e7 hn hg hD
 subst e0 e1 e2 e3 e4 e5 e6 e7 hn
 simp only [tt_f1j_5]
 refine AE ilI (fun h => ?_) fun h => ?_
 · have hkm : mr.n < p.AJ.n := by omega
   refine wN (BI hkm) ?_
   rw [Int.toNat_natCast]
   refine wC (w_f2s (p.AJ.get mr.n) (rg_of hP hkm)) fun (z : Bx TRr × Int) hz => ?_
   refine wN (by simp [room]; omega) ?_
   rw [Cn hkm hp.rn]
   refine TG (x' := ⟨p.AJ, p.AJ.n, ((mr.n + 1 : Nat) : Int), ⟨mp, _, snoc mr z.1, 0, 0, false⟩⟩) (hD _ ⟨rfl, rfl, mr.n + 1, rfl, hkm, rfl, rfl, rfl, rfl, rfl, rfl, fun t ht => ?_⟩ (by simp only; omega)) ?_
   · by_cases e : t = mr.n
     · subst e; simp only [Gi]; exact ⟨hz.2.1, hz.2.2⟩
     · have : t < mr.n := by omega
       simp only [Gh this]; exact hg t this
   · refine congrArg (fun g => X_f1j_5.mk p.AJ p.AJ.n ((mr.n + 1 : Nat) : Int) ⟨mp, _, ⟨false, mr.n + 1, g⟩, 0, 0, false⟩) (funext fun i => ?_)
     cases Nat.blt i mr.n <;> rfl
 · have hrn : mr.n = p.AJ.n := by omega
   refine .inl ⟨hP, rfl, rfl, ⟨hq, rfl, fun t _ => Nr b, hrn, fun i hi => ⟨(hg i hi).1, (hg i hi).2.1⟩⟩, ?_⟩
   unfold aF FF
   simp only [MS.mk.injEq, and_true]
   refine ⟨?_, ?_⟩
   · simp only [aP, List.map_map]
     exact Ff rfl fun i _ => rfl
   · exact Ff hrn fun i hi => (hg i (hrn ▸ hi)).2.2
theorem G6.c {p : TPg} (h : G6 p) {t : Nat} (ht : t < p.AB.n) : NG (p.AB.get t) := ⟨h.ln t ht, h.ins t ht⟩
theorem MK {p : TPg} (hP : De (aP p)) {t : Nat} (ht : t < p.AB.n) : codeOk (p.AB.get t) := by
 obtain ⟨h1, h2⟩ := (BV hP).2.2.2.2 t ht
 refine ⟨h1, fun k hk => ?_⟩
 have := Fz (h2 k hk)
 exact ⟨this.1, fun hh => by have := this.2.1 ⟨hh.1, hh.2.1⟩; omega⟩
theorem Cr {P : Program} {R : Type} {p : Prop} {t : TT P R} {Q : R → Prop} (h : t.wp Q) : (TT.side p t).wp Q := h
theorem Iu (r : TRr) : D_f1p.wp r fun y => y = r.AA.tail := CW rfl
theorem D5 (j : Int) (c : TRc) : D_fv.wp (j, c) fun y => y = true ↔ 0 ≤ j ∧ j < c.AD.n := by
 refine CW ?_
 simp only [tt_fv]
 exact AE leI (fun h => wN (by simp) (DS ilI ⟨fun k => ⟨h, k⟩, fun k => k.2⟩)) fun h => BM fun k => h k.1
theorem Mq (j : Int) (r : TRr) (h0 : 0 ≤ j) (h1 : j < r.AA.AD.n) : D_fp.wp (j, r) fun y => y = r.AA.AD.get j.toNat := by
 refine CW ?_
 simp only [tt_fp]
 refine wC (D5 j r.AA) fun (y : Bool) hy => ?_
 refine AE bnI (fun h => absurd (hy.2 ⟨h0, h1⟩) h) fun _ => of_wp ?_
 simp only [tt_fp_3, Nat.zero_add]
 exact wN (by rw [ibI]; exact ⟨h0, h1⟩) (wN (by simp) (wN (by simp) rfl))
theorem TE {t : TTh} {y : Sl Int} (h : DO y t.Seen) : aT ⟨t.At, t.Phase, t.Ring, t.Status, t.AG, t.Af, y⟩ = aT t := by
 simp only [aT, h.L]
theorem Mo (x : TSs) (h : 0 < x.l.n) (hn : x.l.n * 24 ≤ 140737488351232) : D_f23.wp x fun y => DO y x.l ∧ CN y := by
 refine CW ?_
 simp only [tt_f23]
 refine wC (JH ⟨x.l.n, x.l.get⟩ h hn) fun (y : Sl TSo) hy => wN (by simp) ⟨⟨hy.1.n, hy.1.g⟩, hy.2⟩
theorem Lg (c : TRg) (r : TRr) (hc : Ay c = true) (h : Qf c r) : D_f1s.wp r fun y => Kk y = aR r ∧ CN y.AY ∧ CN y.Am := by
 have hf := CQ hc
 have hn := h.hn
 have ln := h.ln
 refine CW ?_
 simp only [tt_f1s]
 refine wN (by simp [h.sn]) ?_
 refine wC (HS ⟨r.AA.AD.n, r.AA.AD.get⟩ (by show 0 < r.AA.AD.n; omega) (by show r.AA.AD.n * 8 ≤ _; omega)) fun (y : Sl Int) hy => ?_
 refine wC (Mo r.s.x (by omega) (by omega)) fun (z : Sl TSo) hz => wN (by simp [h.sn]) (Cr (wN (by simp) ?_))
 have e : y.L = r.AA.AD.L := hy.1.L
 refine ⟨?_, hy.2, hz.2⟩
 show (⟨r.AA.tail, y.L, r.closed, z.L⟩ : MR) = _
 rw [e, hz.1.L]; rfl
theorem w_f40 (x : Int) : D_f40.wp x fun y => y = true ↔ 18 ≤ x ∧ x ≤ 25 := by
 refine of_wp ?_
 simp only [tt_f40, TT.wp, leI, ilI, ieI, bnI, ibI, Bool.and_eq_true, Bool.false_eq_true, true_iff, false_iff]
 omega
theorem ofInt_u64 {a : Int} (h : CK a) : (BitVec.ofInt (IntKind.bits .u64) a).toNat = a.toNat := by
 obtain ⟨h0, h1⟩ := h
 rw [BitVec.toNat_ofInt]
 show (a % ((2 ^ 64 : Nat) : Int)).toNat = a.toNat
 rw [Int.emod_eq_of_lt h0 (by exact h1)]
theorem CE {a : Int} (h : CK a) : a.toNat < 2 ^ 64 := by
 obtain ⟨h0, h1⟩ := h
 have : (2 : Nat) ^ 64 = 18446744073709551616 := by decide
 omega
theorem Ji {n : Nat} (h : n < 2 ^ 64) : IntKind.u64.wrap (n : Int) = n := by
 have : (2 : Nat) ^ 64 = 18446744073709551616 := by decide
 exact Aj (by omega) (by omega)
theorem Hx {a b : Int} (ha : CK a) (hb : CK b) : Vm.bits .and IntKind.u64 a b = ((a.toNat &&& b.toNat : Nat) : Int) := by
 simp only [Vm.bits, BitVec.toNat_and, ofInt_u64 ha, ofInt_u64 hb]
 exact Ji (Nat.and_lt_two_pow _ (CE hb))
theorem MW {a b : Int} (ha : CK a) (hb : CK b) : Vm.bits .or IntKind.u64 a b = ((a.toNat ||| b.toNat : Nat) : Int) := by
 simp only [Vm.bits, BitVec.toNat_or, ofInt_u64 ha, ofInt_u64 hb]
 exact Ji (Nat.or_lt_two_pow (CE ha) (CE hb))
theorem MV {a b : Int} (ha : CK a) (hb : CK b) : Vm.bits .xor IntKind.u64 a b = ((a.toNat ^^^ b.toNat : Nat) : Int) := by
 simp only [Vm.bits, BitVec.toNat_xor, ofInt_u64 ha, ofInt_u64 hb]
 exact Ji (Nat.xor_lt_two_pow (CE ha) (CE hb))
theorem TO {b : Int} (hb : CK b) : Vm.bits .and IntKind.u64 b 63 = b % 64 := by
 rw [Hx hb (by unfold CK; decide)]
 have : b.toNat &&& 63 = b.toNat % 64 := Nat.and_two_pow_sub_one_eq_mod b.toNat 6
 show ((b.toNat &&& 63 : Nat) : Int) = _
 rw [this]
 have := hb.1
 omega
theorem w_f4f (b : Bool) : D_f4f.wp b fun y => y = if b = true then 1 else 0 := by
 refine of_wp ?_
 simp only [tt_f4f]
 exact Bc (fun h => by rw [if_pos h]; rfl) fun h => by rw [if_neg h]; rfl
theorem w_f3d (a b : Int) (ha : CK a) (hb : CK b) : D_f3d.wp (a, b) fun y => y = if b = 0 then 0 else a / b := by
 refine of_wp ?_
 simp only [tt_f3d]
 refine AE ieI (fun h => by rw [if_pos h]; rfl) fun h => wN (by simpa [AX] using h) ?_
 rw [if_neg h]
 show IntKind.u64.wrap (Int.tdiv a b) = _
 rw [Int.tdiv_eq_ediv_of_nonneg ha.1]
 have h2 : a / b ≤ a := Int.ediv_le_self _ ha.1
 have h3 : 0 ≤ a / b := Int.ediv_nonneg ha.1 hb.1
 have := ha.2
 exact Aj h3 (by omega)
theorem w_f47 (a b : Int) (ha : CK a) : D_f47.wp (a, b) fun y => y = if b = 0 then 0 else a % b := by
 refine of_wp ?_
 simp only [tt_f47]
 refine AE ieI (fun h => by rw [if_pos h]; rfl) fun h => wN (by simpa [AX] using h) ?_
 rw [if_neg h]
 exact Int.tmod_eq_emod_of_nonneg ha.1
theorem RT (a b : Int) : JN 11 a b = IntKind.u64.wrap (a * 2 ^ (b % 64).toNat) := rfl
theorem RS (a b : Int) : JN 12 a b = a / 2 ^ (b % 64).toNat := rfl
theorem w_f4g (op a b : Int) (ha : CK a) (hb : CK b) (h3 : 3 ≤ op) (h14 : op ≤ 14) : D_f4g.wp (op, (a, b)) fun y => y.1 = JN op a b := by
 refine of_wp ?_
 simp only [tt_f4g]
 have hm : (b % 64).toNat ≤ 63 := by omega
 have hmin : min (b % 64).toNat (IntKind.bits .u64) = (b % 64).toNat := Nat.min_eq_left (by show _ ≤ 64; omega)
 refine AE ieI (fun h => ?_) fun n3 => AE ieI (fun h => ?_) fun n4 => AE ieI (fun h => ?_) fun n5 => AE ieI (fun h => ?_) fun n6 => AE ieI (fun h => ?_) fun n7 => AE ieI (fun h => ?_) fun n8 =>
  AE ieI (fun h => ?_) fun n9 => AE ieI (fun h => ?_) fun n10 => AE ieI (fun h => ?_) fun n11 => AE ieI (fun h => ?_) fun n12 => AE ieI (fun h => ?_) fun n13 => AE ieI (fun h => ?_) fun n14 => by omega
 · subst h; rfl
 · subst h; rfl
 · subst h; rfl
 · subst h
   exact wC (w_f3d a b ha hb) fun (y : Int) hy => hy
 · subst h
   exact wC (w_f47 a b ha) fun (y : Int) hy => hy
 · subst h
   exact Hx ha hb
 · subst h
   exact MW ha hb
 · subst h
   exact MV ha hb
 · subst h
   show shl IntKind.u64 a (Vm.bits .and IntKind.u64 b 63) = JN 11 a b
   rw [RT, TO hb, shl, hmin]
 · subst h
   show shr IntKind.u64 a (Vm.bits .and IntKind.u64 b 63) = JN 12 a b
   rw [RS, TO hb, shr, hmin, Int.fdiv_eq_ediv_of_nonneg]
   exact Int.le_of_lt (Int.pow_pos (by decide))
 · subst h
   refine wC (w_f4f (BR a b)) fun (y : Int) hy => ?_
   subst hy
   show (if BR a b = true then (1 : Int) else 0) = if a < b then 1 else 0
   simp only [ilI]
 · subst h
   refine wC (w_f4f (AX a b)) fun (y : Int) hy => ?_
   subst hy
   show (if AX a b = true then (1 : Int) else 0) = if a = b then 1 else 0
   simp only [ieI]
theorem KH {op a b : Int} (ha : CK a) (hb : CK b) : CK (JN op a b) := by
 have hd : CK (if b = 0 then 0 else a / b) := by
  split
  · exact CA
  · exact ⟨Int.ediv_nonneg ha.1 hb.1, by have := Int.ediv_le_self b ha.1; have := ha.2; omega⟩
 have hr : CK (if b = 0 then 0 else a % b) := by
  split
  · exact CA
  · rename_i h
    have h1 : 0 < b := by have := hb.1; omega
    exact ⟨Int.emod_nonneg _ h, by have := Int.emod_lt_of_pos a h1; have := hb.2; omega⟩
 have hn : ∀ {n : Nat}, n < 2 ^ 64 → CK (n : Int) := fun h => by
  have : (2 : Nat) ^ 64 = 18446744073709551616 := by decide
  exact ⟨Int.natCast_nonneg _, by omega⟩
 have it : ∀ {c : Prop} [Decidable c] {x y : Int}, CK x → CK y → CK (if c then x else y) := fun h k => by split <;> assumption
 have u1 : CK 1 := by unfold CK; decide
 have hs : CK (a / 2 ^ (b % 64).toNat) := ⟨Int.ediv_nonneg ha.1 (Int.le_of_lt (Int.pow_pos (by decide))), by have := Int.ediv_le_self (2 ^ (b % 64).toNat) ha.1; have := ha.2; omega⟩
 unfold JN
 exact it (Gf _) (it (Gf _) (it (Gf _) (it hd (it hr (it (hn (Nat.and_lt_two_pow _ (CE hb))) (it (hn (Nat.or_lt_two_pow (CE ha) (CE hb))) (it (hn (Nat.xor_lt_two_pow (CE ha) (CE hb))) (it (Gf _) (it hs (it (it u1 CA) (it u1 CA)))))))))))
theorem A4 {P : Program} {R Z : Type} {g : R → Z} {b : Bool} {p : Prop} [Decidable p] {t e : TT P R} {u v : Z} (hb : b = true ↔ p) (h1 : p → t.wp fun y => g y = u) (h2 : ¬ p → e.wp fun y => g y = v) : (TT.ite b t e).wp fun y => g y = if p then u else v :=
 AE hb (fun h => by rw [if_pos h]; exact h1 h) fun h => by rw [if_neg h]; exact h2 h
theorem BN {a b : Bool} (h : a = true ↔ b = true) : a = b := Bool.eq_iff_iff.2 h
theorem w_f2m (k : Int) : D_f2m.wp k fun y => y = As k := by
 refine AU.wp.mono (Q := fun y : Bool => y = true ↔ (1 ≤ k ∧ k ≤ 4 ∨ k = 13)) (of_wp ?_) fun y hy => BN (hy.trans Ap.symm)
 simp only [tt_f2m, TT.wp, leI, ieI, true_iff]
 omega
theorem w_f2x (k : Int) : D_f2x.wp k fun y => y = B1 k := by
 refine AU.wp.mono (Q := fun y : Bool => y = true ↔ (1 ≤ k ∧ k ≤ 7 ∨ k = 13)) (of_wp ?_) fun y hy => BN (hy.trans Bb.symm)
 simp only [tt_f2x]
 refine wC (w_f2m k) fun (y : Bool) hy => ?_
 subst hy
 simp only [TT.wp, leI, Ap, true_iff, Bool.false_eq_true, false_iff]
 omega
theorem w_f37 (k : Int) : D_f37.wp k fun y => y = CR k := by
 refine AU.wp.mono (Q := fun y : Bool => y = true ↔ (8 ≤ k ∧ k ≤ 10 ∨ k = 12)) (of_wp ?_) fun y hy => BN (hy.trans (by simp only [CR, decide_eq_true_eq]))
 simp only [tt_f37, TT.wp, leI, ieI, true_iff]
 omega
theorem w_f20 (k : Int) : D_f20.wp k fun y => y = ⟨#[]⟩ ↔ ¬ (1 ≤ k ∧ k ≤ 15) := by
 refine of_wp ?_
 simp only [tt_f20]
 refine AE ilI (fun h => ⟨fun _ => by omega, fun _ => rfl⟩) fun h1 => AE ilI (fun h => ⟨fun _ => by omega, fun _ => rfl⟩) fun h2 => of_wp ?_
 simp only [tt_f20_3]
 have hn : D_f3u.wp PUnit.unit fun y => y.n = 15 ∧ ∀ i, i < 15 → y.get i ≠ ⟨#[]⟩ := by
  refine of_wp ?_
  simp only [tt_f3u]
  refine ⟨rfl, fun i hi => ?_⟩
  rcases (by omega : i = 0 ∨ i = 1 ∨ i = 2 ∨ i = 3 ∨ i = 4 ∨ i = 5 ∨ i = 6 ∨ i = 7 ∨ i = 8 ∨ i = 9 ∨ i = 10 ∨ i = 11 ∨ i = 12 ∨ i = 13 ∨ i = 14) with e | e | e | e | e | e | e | e | e | e | e | e | e | e | e <;> subst e <;> exact fun h => by cases h
 refine wC hn fun (y : Sl ByteArray) hy => ?_
 have hw : IntKind.i64.wrap (k - 1) = k - 1 := wrap64 (by omega) (by omega)
 rw [hw]
 exact wN (by rw [ibI, hy.1]; omega) ⟨fun h => absurd h (hy.2 _ (by omega)), fun h => absurd ⟨by omega, by omega⟩ h⟩
def JB (e : TEv) : TEv := ⟨e.Thread, e.Kind, if B1 e.Kind = true then e.Ring else 0, if As e.Kind = true then e.AG else 0, if CR e.Kind = true then e.Value else 0⟩
theorem w_fz (e : TEv) : D_fz.wp e fun y => y = JB e := by
 refine of_wp ?_
 simp only [tt_fz]
 refine wC (w_f2x e.Kind) fun (y : Bool) hy => ?_
 subst hy
 have h5 : ∀ r t z, D_fz_5.wp (⟨⟨e.Thread, e.Kind, r, t, e.Value⟩, z⟩ : X_fz_5) fun y => y = ⟨e.Thread, e.Kind, r, t, if CR e.Kind = true then e.Value else 0⟩ := fun r t z => by
  refine of_wp ?_
  simp only [tt_fz_5]
  refine wC (w_f37 e.Kind) fun (y : Bool) hy => ?_
  subst hy
  exact AE bnI (fun h => by rw [if_neg h]; rfl) fun h => by rw [if_pos (Classical.byContradiction h)]; rfl
 have h3 : ∀ r z, D_fz_3.wp (⟨⟨e.Thread, e.Kind, r, e.AG, e.Value⟩, z⟩ : X_fz_3) fun y => y = ⟨e.Thread, e.Kind, r, if As e.Kind = true then e.AG else 0, if CR e.Kind = true then e.Value else 0⟩ := fun r z => by
  refine of_wp ?_
  simp only [tt_fz_3]
  refine wC (w_f2m e.Kind) fun (y : Bool) hy => ?_
  subst hy
  exact AE bnI (fun h => by rw [if_neg h]; exact h5 _ _ _) fun h => by rw [if_pos (Classical.byContradiction h)]; exact h5 _ _ _
 unfold JB
 exact AE bnI (fun h => by rw [if_neg h]; exact h3 _ _) fun h => by rw [if_pos (Classical.byContradiction h)]; exact h3 _ _
theorem Bz {e : TEv} : Ba e = true ↔ (1 ≤ e.Kind ∧ e.Kind ≤ 15) ∧ (0 ≤ e.Thread ∧ e.Thread ≤ 7) ∧ (0 ≤ e.Ring ∧ e.Ring ≤ 7) ∧ e.AG < 4611686018427387904 ∧
 (B1 e.Kind = true ∨ e.Ring = 0) ∧ (As e.Kind = true ∨ e.AG = 0) ∧ (CR e.Kind = true ∨ e.Value = 0) := by
 simp only [Ba, decide_eq_true_eq]
theorem R0 {e : TEv} : ((AX e.Thread (JB e).Thread) && ((AX e.Kind (JB e).Kind) && ((AX e.Ring (JB e).Ring) && ((AX e.AG (JB e).AG) && ((AX e.Value (JB e).Value) && true))))) = true ↔
 (B1 e.Kind = true ∨ e.Ring = 0) ∧ (As e.Kind = true ∨ e.AG = 0) ∧ (CR e.Kind = true ∨ e.Value = 0) := by
 simp only [JB, Bool.and_eq_true, ieI, true_and, and_true]
 cases B1 e.Kind <;> cases As e.Kind <;> cases CR e.Kind <;> simp
theorem w_f33 (e : TEv) : D_f33.wp e fun y => y = Ba e := by
 refine AU.wp.mono (Q := fun y : Bool => y = true ↔ Ba e = true) (of_wp ?_) fun y hy => BN hy
 simp only [tt_f33]
 refine wC (w_f20 e.Kind) fun (y : ByteArray) hy => ?_
 refine AE (p := 1 ≤ e.Kind ∧ e.Kind ≤ 15) (by rw [bnI, Lt]; exact (not_congr hy).trans Decidable.not_not) (fun h1 => ?_) fun h1 => BM fun k => h1 (Bz.1 k).1
 refine wC (w_fz e) fun (y : TEv) hy => ?_
 subst hy
 refine AE R0 (fun h2 => AE leI (fun h3 => AE ilI (fun h4 => AE leI (fun h5 => AE ilI (fun h6 => DS ilI ?_) fun h => ?_) fun h => ?_) fun h => ?_) fun h => ?_) fun h => ?_
 · rw [Bz]; exact ⟨fun h => ⟨h1, by omega, by omega, h, h2⟩, fun h => h.2.2.2.1⟩
 all_goals refine BM fun k => ?_
 all_goals have k := Bz.1 k
 · omega
 · omega
 · omega
 · omega
 · exact h k.2.2.2.2
def aA (a : TAk) : MA := ⟨a.Kind, a.Ring, a.Mode, a.Reader, a.AG, a.Value⟩
theorem w_f2u (k : Int) : D_f2u.wp k fun y => y = Ei k := by
 refine of_wp ?_
 simp only [tt_f2u, Ei]
 exact A4 (g := id) ieI (fun _ => rfl) fun _ => A4 (g := id) ieI (fun _ => rfl) fun _ => A4 (g := id) ieI (fun _ => rfl) fun _ => A4 (g := id) ieI (fun _ => rfl) fun _ => A4 (g := id) ieI (fun _ => rfl) fun _ =>
  A4 (g := id) ieI (fun _ => rfl) fun _ => A4 (g := id) ieI (fun _ => rfl) fun _ => A4 (g := id) ieI (fun _ => rfl) fun _ => A4 (g := id) ieI (fun _ => rfl) fun _ => A4 (g := id) ieI (fun _ => rfl) fun _ => A4 (g := id) ieI (fun _ => rfl) fun _ => rfl
theorem w_fi (a : TAk) (e : TEv) : D_fi.wp (a, e) fun y => y = Cd (aA a) e := by
 refine of_wp ?_
 simp only [tt_fi]
 refine wC (w_f2x e.Kind) fun (y : Bool) hy => ?_
 subst hy
 have h4 : ∀ w : Bool, (w = true ↔ (a.Kind = 1 ∨ a.Kind = 2)) → D_fi_4.wp (⟨a, e, w⟩ : X_fi_4) fun y => y = (if e.Kind = 5 then decide ((a.Kind = 1 ∨ a.Kind = 2) ∧ a.Mode = 0)
  else if e.Kind = 6 then decide (a.Kind = 1 ∨ a.Kind = 2)
  else if e.Kind = 7 then decide ((a.Kind = 1 ∨ a.Kind = 2) ∧ a.Mode = 2)
  else if e.Kind = 2 ∨ e.Kind = 4 then decide (a.Kind = Ei e.Kind ∧ a.AG = e.AG)
  else if e.Kind = 12 then decide (a.Kind = 7 ∧ a.Value = e.Value)
  else decide (a.Kind = Ei e.Kind)) := fun w hw => by
  refine of_wp ?_
  simp only [tt_fi_4]
  have dd : ∀ {x y : Int} {p q : Prop} [Decidable q] {b : Bool}, (b = true ↔ p) → (q ↔ p ∧ x = y) → (TT.ite b (.ret (AX x y)) (.ret false) : TT Tryz.prog R_fi).wp fun z => z = decide q := fun {x y p q _ b} hb h =>
   AE hb (fun k => BN (ieI.trans ⟨fun e => decide_eq_true (h.2 ⟨k, e⟩), fun e => (h.1 (of_decide_eq_true e)).2⟩)) fun k => (decide_eq_false fun e => k (h.1 e).1).symm
  have tk : (TT.call con_f2u e.Kind fun (y1 : R_f2u) => .ite (AX a.Kind y1) (.ret (AX a.AG e.AG)) (.ret false) : TT Tryz.prog R_fi).wp fun z => z = decide (a.Kind = Ei e.Kind ∧ a.AG = e.AG) := by
   refine wC (w_f2u e.Kind) fun (y : Int) hy => ?_
   subst hy
   exact dd ieI Iff.rfl
  refine A4 (g := id) ieI (fun _ => dd hw Iff.rfl) fun _ => A4 (g := id) ieI (fun _ => BN (hw.trans (by simp))) fun _ => A4 (g := id) ieI (fun _ => dd hw Iff.rfl) fun _ => ?_
  refine AE ieI (fun h => ?_) fun h2 => AE ieI (fun h => ?_) fun h4 => ?_
  · rw [if_pos (.inl h)]; exact tk
  · rw [if_pos (.inr h)]; exact tk
  · rw [if_neg (by omega)]
    refine A4 (g := id) ieI (fun _ => dd ieI Iff.rfl) fun _ => of_wp ?_
    simp only [tt_fi_16]
    refine wC (w_f2u e.Kind) fun (y : Int) hy => ?_
    subst hy
    exact BN (ieI.trans (by simp))
 have h3 : (B1 e.Kind = true → a.Ring = e.Ring) → D_fi_3.wp (⟨a, e⟩ : X_fi_3) fun y => y = Cd (aA a) e := fun hr => by
  have hh : (!B1 e.Kind || decide (a.Ring = e.Ring)) = true := by
   cases q : B1 e.Kind
   · rfl
   · simpa using hr q
  unfold Cd
  show D_fi_3.wp _ fun y => y = ((!B1 e.Kind || decide (a.Ring = e.Ring)) && _)
  rw [hh, Bool.true_and]
  refine of_wp ?_
  simp only [tt_fi_3]
  exact AE ieI (fun h => h4 true (by simp [h])) fun h => h4 _ (by rw [ieI]; omega)
 refine Bc (fun h => AE (p := a.Ring ≠ e.Ring) (by rw [bnI, ieI]) (fun hn => ?_) fun hn => h3 fun _ => Classical.byContradiction hn) fun h => h3 fun k => absurd k h
 unfold Cd
 have : (!B1 e.Kind || decide ((aA a).Ring = e.Ring)) = false := by rw [h]; exact decide_eq_false hn
 rw [this]; rfl
theorem HX (g : Nat → Int) (i v : Int) : (fun k => cond (Nat.beq k i.toNat) v (g k)) = DU g i v := by
 funext k
 unfold DU
 by_cases h : k = i.toNat
 · subst h; simp
 · rw [Is h, if_neg h]; rfl
theorem BE {g : Nat → Int} {i v : Int} (hg : ∀ j, CK (g j)) (hv : CK v) : ∀ j, CK (DU g i v j) := fun j => by
 unfold DU; split
 · exact hv
 · exact hg j
theorem Df.with {b : Nat} {t : TTh} (h : Df b t) (a : Int) {g : Nat → Int} (hg : ∀ j, CK (g j)) : Df b ⟨a, t.Phase, t.Ring, t.Status, t.AG, g, t.Seen⟩ := ⟨h.k0, h.k1, hg, h.sz, h.sb⟩
theorem w_f39 (i : TIn) (t : TTh) (b : Nat) (hi : Sj i) (hr : Bd i = true) (ho : i.Op ≤ 17) (ht : Df b t) (ha : 0 ≤ t.At ∧ t.At < 1000) :
 D_f39.wp (i, t) fun y => aT y = DW i (aT t) ∧ Df b y := by
 have hf := A5 hr
 have hA : Az i.A 8 = true := by rw [ibI]; omega
 have hB : Az i.B 8 = true := by rw [ibI]; omega
 have hC : Az i.C 8 = true := by rw [ibI]; omega
 have hw : IntKind.i64.wrap (t.At + 1) = t.At + 1 := wrap64 (by omega) (by omega)
 refine of_wp ?_
 simp only [tt_f39, hA, hB, hC, hw, HX]
 have nx : (TT.ret (TTh.mk (t.At + 1) t.Phase t.Ring t.Status t.AG t.Af t.Seen) : TT Tryz.prog R_f39).wp fun y => aT y = { aT t with At := t.At + 1 } ∧ Df b y := ⟨rfl, ht.with _ ht.rg⟩
 have jm : i.Op ≠ 1 → (TT.ret (TTh.mk (IntKind.i64.wrap i.K) t.Phase t.Ring t.Status t.AG t.Af t.Seen) : TT Tryz.prog R_f39).wp fun y => aT y = { aT t with At := i.K } ∧ Df b y := fun h => by
  have := hf.2.2.2.2.2.1 h
  rw [wrap64 (by omega) (by omega)]
  exact ⟨rfl, ht.with _ ht.rg⟩
 have e0 : (aT t).At = t.At := rfl
 have e1 : (aT t).Af = t.Af := rfl
 unfold DW
 simp only [e0, e1]
 refine AE ieI (fun h => ?_) fun n1 => AE ieI (fun h => ?_) fun n2 => AE ieI (fun h => ?_) fun n15 => AE ieI (fun h => ?_) fun n16 => AE ieI (fun h => ?_) fun n17 => ?_
 · rw [if_pos h]; exact wN rfl ⟨rfl, ht.with _ (BE ht.rg hi.1)⟩
 · rw [if_neg n1, if_pos h]; exact wN rfl (wN rfl ⟨rfl, ht.with _ (BE ht.rg (ht.rg _))⟩)
 · rw [if_neg n1, if_neg n2, if_pos (.inl h)]; exact jm n1
 · rw [if_neg n1, if_neg n2]
   refine wN rfl (AE (p := t.Af i.A.toNat = 0) (by rw [h]; simp [AX]) (fun q => ?_) fun q => ?_)
   · rw [if_pos (.inr (.inl ⟨h, q⟩))]; exact jm n1
   · rw [if_neg (by omega), if_neg (by omega)]; exact nx
 · rw [if_neg n1, if_neg n2]
   refine wN rfl (AE (p := t.Af i.A.toNat ≠ 0) (by rw [h]; simp [AX]) (fun q => ?_) fun q => ?_)
   · rw [if_pos (.inr (.inr ⟨h, q⟩))]; exact jm n1
   · rw [if_neg (by omega), if_neg (by omega)]; exact nx
 · rw [if_neg n1, if_neg n2, if_neg (by omega), if_pos (by omega)]
   refine wN rfl (wN rfl (wC (w_f4g i.Op _ _ (ht.rg _) (ht.rg _) (by omega) (by omega)) fun (y : Int × Bool) hy => wN rfl ?_))
   rw [hy]
   exact ⟨rfl, ht.with _ (BE ht.rg (KH (ht.rg _) (ht.rg _)))⟩
theorem LL {l : List TIn} {t : MT} (h : ¬ (t.At < l.length ∧ (gI l t.At).Op ≤ 17)) : ∀ n, Dc l n t = t
 | 0 => rfl
 | n + 1 => by unfold Dc; rw [if_neg h]
theorem Ie {l : List TIn} {t : MT} (h : t.At < l.length ∧ (gI l t.At).Op ≤ 17) (n : Nat) : Dc l (n + 1) t = Dc l n (DW (gI l t.At) t) := by
 show (if _ then _ else _) = _
 rw [if_pos h]
structure US (l : Sl TIn) (i : TIn) : Prop where
 ok : Sj i
 ri : Bd i = true
 jm : 15 ≤ i.Op ∧ i.Op ≤ 17 → i.K ≤ l.n
theorem K1 {l : Sl TIn} (hl : NG l) (hc : codeOk l) {a : Int} (h0 : 0 ≤ a) (h1 : a < l.n) : US l (l.get a.toNat) := by
 have hk : a.toNat < l.n := by omega
 obtain ⟨c1, c2⟩ := hc.2 _ hk
 exact ⟨hl.i _ hk, c1, fun q => by
  have c3 : ¬ ((l.n : Int) < (l.get a.toNat).K) := fun z => c2 ⟨q.1, q.2, z⟩
  omega⟩
theorem w_f3o (i : TIn) (t : TTh) (l : Sl TIn) (hr : Bd i = true) (h0 : 0 ≤ t.At) (h1 : t.At < l.n) (hi : l.get t.At.toNat = i) (ho : 18 ≤ i.Op) : D_f3o.wp (i, t) fun y => aA y = Ek l.L (aT t) := by
 have hf := A5 hr
 have hA : Az i.A 8 = true := by rw [ibI]; omega
 have hg : gI l.L (aT t).At = i := by rw [← hi]; exact G2 l h0 h1
 have hw : IntKind.i64.wrap i.K = i.K := by
  have := hf.2.2.2.2.2.1 (by omega)
  exact wrap64 (by omega) (by omega)
 refine of_wp ?_
 simp only [tt_f3o, hA, Ek, hg, hw]
 rw [if_neg (by rw [Sl.BL]; show t.At ≠ _; omega), if_neg (by omega)]
 exact A4 ieI (fun _ => wN rfl rfl) fun _ => A4 ieI (fun _ => rfl) fun _ => A4 ieI (fun _ => rfl) fun _ => A4 ieI (fun _ => rfl) fun _ => A4 ieI (fun _ => rfl) fun _ => A4 ieI (fun _ => rfl) fun _ => A4 ieI (fun _ => wN rfl rfl) fun _ => rfl
theorem w_f8_12 (l : Sl TIn) (s : TTh) (z4 : TTh) (z5 : TAk) (hl : NG l) (hc : codeOk l) (h0 : 0 ≤ s.At) (h1 : s.At ≤ l.n) :
 D_f8_12.wp (⟨l, s, z4, z5⟩ : X_f8_12) fun y => y.1 = s ∧ aA y.2 = Ek l.L (aT s) := by
 refine of_wp ?_
 simp only [tt_f8_12]
 refine AE ieI (fun h => ⟨rfl, ?_⟩) fun h => ?_
 · unfold Ek
   rw [if_pos (by rw [Sl.BL]; exact h)]; rfl
 · have h2 : s.At < l.n := by omega
   have hF := K1 hl hc h0 h2
   have hf := A5 hF.ri
   refine wN (by rw [ibI]; omega) (wC (w_f3g _) fun (y : Bool) hy => ?_)
   refine AE hy (fun hp => ⟨rfl, ?_⟩) fun hp => wN (by rw [ibI]; omega) ?_
   · unfold Ek
     rw [if_neg (by rw [Sl.BL]; exact h)]
     have : gI l.L (aT s).At = l.get s.At.toNat := G2 l h0 h2
     rw [this, if_pos hp.2]; rfl
   · exact wC (w_f3o _ s l hF.ri h0 h2 rfl (by omega)) fun y hy => ⟨rfl, hy⟩
theorem w_f8 (l : Sl TIn) (t : TTh) (b : Nat) (hl : NG l) (hc : codeOk l) (hT : Et l.L (aT t)) (ht : Df b t) :
 D_f8.wp (l, t) fun y => aT y.1 = (B0 l.L (aT t)).1 ∧ aA y.2 = (B0 l.L (aT t)).2 ∧ Df b y.1 := by
 have a0 : 0 ≤ t.At := hT.a0
 have a1 : t.At ≤ l.n := by have := hT.a1; simpa [aT] using this
 have p1 := hT.p1
 refine of_wp ?_
 simp only [tt_f8]
 unfold B0
 have es : (aT t).Status = t.Status := rfl
 have ep : (aT t).Phase = t.Phase := rfl
 simp only [es, ep]
 refine AE (p := t.Status ≠ 0) (by rw [bnI, ieI]) (fun h => ?_) fun hs => AE ieI (fun h => ?_) fun hp1 => AE ieI (fun h => ?_) fun hp2 => ?_
 · rw [if_pos h]; exact ⟨rfl, rfl, ht⟩
 · have hq := p1 (by show t.Phase ≠ 0; omega)
   have h2 : t.At < l.n := by have := hq.2.1; simpa [aT] using this
   have hF := K1 hl hc a0 h2
   have hf := A5 hF.ri
   refine wN (by rw [ibI]; omega) (wN (by rw [ibI]; omega) ?_)
   rw [if_neg (fun k => k (Classical.byContradiction hs)), if_pos h]
   have : gI l.L (aT t).At = l.get t.At.toNat := G2 l a0 h2
   rw [this]
   exact ⟨rfl, rfl, ht⟩
 · have hq := p1 (by show t.Phase ≠ 0; omega)
   have h2 : t.At < l.n := by have := hq.2.1; simpa [aT] using this
   have hF := K1 hl hc a0 h2
   have hf := A5 hF.ri
   have ho : (l.get t.At.toNat).Op = 17 + t.Phase := by
    have := hq.2.2.1
    rwa [show gI l.L (aT t).At = l.get t.At.toNat from G2 l a0 h2] at this
   have hk := hf.2.2.2.2.2.1 (by omega)
   refine wN (by rw [ibI]; omega) ?_
   rw [if_neg (fun k => k (Classical.byContradiction hs)), if_neg hp1, if_pos h, wrap64 (by omega) (by omega)]
   have : gI l.L (aT t).At = l.get t.At.toNat := G2 l a0 h2
   rw [this]
   exact ⟨rfl, rfl, ht⟩
 · rw [if_neg (fun k => k (Classical.byContradiction hs)), if_neg hp1, if_neg hp2]
   simp only
   have h256 := hc.1
   refine C8 (tt := tt_f8_8) (fun x : X_f8_8 => x.Bf = l ∧ ∃ k : Nat, x.Jy = k ∧ k ≤ 256 ∧ (0 ≤ x.A0.At ∧ x.A0.At ≤ l.n) ∧ Dc l.L (256 - k) (aT x.A0) = Dc l.L 256 (aT t) ∧ Df b x.A0)
    (fun x => (256 - x.Jy).toNat) (fun _ y => aT y.1 = Dc l.L 256 (aT t) ∧ aA y.2 = Ek l.L (Dc l.L 256 (aT t)) ∧ Df b y.1) (fun D x hI hD => ?_) ⟨rfl, 0, rfl, by omega, ⟨a0, a1⟩, rfl, ht⟩
   obtain ⟨l', q, s, z4, z5⟩ := x
   obtain ⟨e1, k, e2, hk, hA, hrun, hw⟩ := hI
   simp only at e1 e2 hA hrun hw hD
   subst e1 e2
   simp only [tt_f8_8]
   have fin : (¬ ((aT s).At < l'.L.length ∧ (gI l'.L (aT s).At).Op ≤ 17) ∨ k = 256) → D_f8_12.wp (⟨l', s, z4, z5⟩ : X_f8_12) fun y => aT y.1 = Dc l'.L 256 (aT t) ∧ aA y.2 = Ek l'.L (Dc l'.L 256 (aT t)) ∧ Df b y.1 := fun h => by
    have he : Dc l'.L 256 (aT t) = aT s := by
     rw [← hrun]
     rcases h with h | h
     · exact LL h _
     · rw [h]; rfl
    rw [he]
    refine (w_f8_12 l' s z4 z5 hl hc hA.1 hA.2).mono fun y hy => ?_
    rw [hy.1]
    exact ⟨rfl, hy.2, hw⟩
   refine AE ilI (fun hlt => AE ieI (fun h => fin (.inl fun z => ?_)) fun h => ?_) fun hlt => fin (.inr (by omega))
   · have := z.1; rw [Sl.BL] at this; change s.At < _ at this; omega
   · have h2 : s.At < l'.n := by omega
     have hF := K1 hl hc hA.1 h2
     have hf := A5 hF.ri
     have hg : gI l'.L (aT s).At = l'.get s.At.toNat := G2 l' hA.1 h2
     refine wN (by rw [ibI]; omega) (wC (w_f40 _) fun (y : Bool) hy => ?_)
     refine AE hy (fun h => fin (.inl fun z => ?_)) fun h => of_wp ?_
     · rw [hg] at z; omega
     · simp only [tt_f8_10]
       have h17 : (l'.get s.At.toNat).Op ≤ 17 := by omega
       refine wN (by rw [ibI]; omega) (wC (w_f39 _ s b hF.ok hF.ri h17 hw (by omega)) fun (y : TTh) hy => of_wp ?_)
       simp only [tt_f8_11]
       have e2 : IntKind.i64.wrap ((k : Int) + 1) = ((k + 1 : Nat) : Int) := by rw [wrap64] <;> omega
       rw [e2]
       have I7 : 0 ≤ y.At ∧ y.At ≤ l'.n := by
        have := Lp (i := l'.get s.At.toNat) (t := aT s) (n := l'.n) hA.1 h2 (fun q => (hf.2.2.2.2.2.1 q).1) hF.jm
        rw [← hy.1] at this; exact this
       refine hD _ ⟨rfl, k + 1, rfl, by omega, I7, ?_, hy.2⟩ (by simp only; omega)
       have hst : (aT s).At < l'.L.length ∧ (gI l'.L (aT s).At).Op ≤ 17 := ⟨by rw [Sl.BL]; exact h2, by rw [hg]; exact h17⟩
       rw [← hrun, show 256 - k = (256 - (k + 1)) + 1 by omega, Ie hst, hg, hy.1]
theorem HT (x : Sl Int) (h : CN x) (hn : x.n * 8 ≤ 140737488351232) : D_f1y.wp x fun y => DO y x ∧ CN y := by
 refine of_wp ?_
 simp only [tt_f1y]
 refine Bc (fun e => ⟨⟨(h e).symm, fun i hi => by have := h e; omega⟩, fun _ => rfl⟩) fun _ => wN (room_le hn) ⟨⟨?_, fun i _ => rfl⟩, fun e => ?_⟩
 · exact Nat.zero_add _
 · simp only [Bool.cond_self, Bool.false_eq_true] at e
theorem w_f3a (l : Sl TIn) (t : TTh) (b : Nat) (hb : b * 8 ≤ 140737488351232) (hl : NG l) (hc : codeOk l) (hT : Et l.L (aT t)) (ht : Df b t) :
 D_f3a.wp (l, t) fun y => aT y.1 = (B0 l.L (aT t)).1 ∧ aA y.2.1 = (B0 l.L (aT t)).2 ∧ Df b y.1 ∧ y.2.2 = 0 := by
 refine of_wp ?_
 simp only [tt_f3a]
 refine wC (w_fu l t hl ht.k0) fun (y : Bool) hy => ?_
 refine AE bnI (fun h => absurd (hy.2 ⟨hc, hT⟩) h) fun _ => ?_
 have hsb := ht.sb
 refine wC (HT t.Seen ht.sz (by omega)) fun (z : Sl Int) hz => ?_
 have he : aT ⟨t.At, t.Phase, t.Ring, t.Status, t.AG, t.Af, z⟩ = aT t := TE hz.1
 have hn := hz.1.n
 refine wC (w_f8 l ⟨t.At, t.Phase, t.Ring, t.Status, t.AG, t.Af, z⟩ b hl hc (by rw [he]; exact hT) ⟨ht.k0, ht.k1, ht.rg, hz.2, by show z.n ≤ b; omega⟩) fun (y : TTh × TAk) hy => ?_
 rw [he] at hy
 exact ⟨hy.1, hy.2.1, hy.2.2, rfl⟩
theorem Df.grow {b b' : Nat} {t : TTh} (h : Df b t) (k : b ≤ b') : Df b' t := ⟨h.k0, h.k1, h.rg, h.sz, Nat.le_trans h.sb k⟩
theorem KG {i : TIn} {t : MT} {e : TEv} {v : Int} (h1 : e.Kind ≠ 1) (h3 : e.Kind ≠ 3) (h14 : e.Kind ≠ 14) (h15 : e.Kind ≠ 15) : BG i t e v =
 ⟨t.At + 1, 0, 0, t.Status, 0, (if e.Kind = 2 then DU t.Af i.B 0 else if e.Kind = 4 then DU (DU t.Af i.A v) i.B 0 else if e.Kind = 5 then DU t.Af i.B 1 else if e.Kind = 6 then DU t.Af i.B 2 else if e.Kind = 7 then DU t.Af i.B 3 else if e.Kind = 8 then DU t.Af i.A e.Value else if e.Kind = 9 then DU t.Af i.A e.Value else if e.Kind = 10 then DU (DU t.Af i.A e.Value) i.B 0 else if e.Kind = 11 then DU t.Af i.B 1 else t.Af), if e.Kind = 12 then t.Seen ++ [e.Value] else t.Seen⟩ := by
 unfold BG
 rw [if_neg h1, if_neg h3, if_neg h14, if_neg h15]
theorem Qt {α : Type} (s : Sl α) (x : α) : (snoc s x).L = s.L ++ [x] := by
 apply List.ext_getElem
 · simp [snoc]
 · intro i h1 h2
   have h1 : i < s.n + 1 := by simpa [snoc] using h1
   simp only [Sl.F6]
   by_cases e : i < s.n
   · rw [Gh e, List.getElem_append_left (by simpa using e), Sl.F6]
   · have : i = s.n := by omega
     subst this
     rw [Gi, List.getElem_append_right (by simp)]
     simp
theorem w_fn (i : TIn) (t : TTh) (e : TEv) (v : Int) (b : Nat) (hb : b * 8 + 8 ≤ 140737488351232) (hr : Bd i = true) (ht : Df b t) (ha : 0 ≤ t.At ∧ t.At < 1000) (hv : CK v) (hev : CK e.Value)
 (h1 : e.Kind ≠ 1) (h3 : e.Kind ≠ 3) (h14 : e.Kind ≠ 14) (h15 : e.Kind ≠ 15) :
 D_fn.wp (i, (e, (v, t))) fun y => aT y = BG i (aT t) e v ∧ Df (b + 1) y := by
 have hf := A5 hr
 have hA : Az i.A 8 = true := by rw [ibI]; omega
 have hB : Az i.B 8 = true := by rw [ibI]; omega
 have hw : IntKind.i64.wrap (t.At + 1) = t.At + 1 := wrap64 (by omega) (by omega)
 have u1 : CK 1 := by unfold CK; decide
 have u2 : CK 2 := by unfold CK; decide
 have u3 : CK 3 := by unfold CK; decide
 have hsb := ht.sb
 rw [KG h1 h3 h14 h15]
 refine of_wp ?_
 simp only [tt_fn, hA, hB, HX]
 have h23 : ∀ (g : Nat → Int) (sn : Sl Int), (∀ j, CK (g j)) → CN sn → sn.n ≤ b + 1 →
  D_fn_23.wp (⟨⟨t.At, t.Phase, t.Ring, t.Status, t.AG, g, sn⟩⟩ : X_fn_23) fun y => aT y = ⟨t.At + 1, 0, 0, t.Status, 0, g, sn.L⟩ ∧ Df (b + 1) y := fun g sn hg hs hn => by
  refine of_wp ?_
  simp only [tt_fn_23, hw]
  exact ⟨rfl, ⟨Int.le_refl 0, (by decide : (0 : Int) < 18446744073709551616), hg, hs, hn⟩⟩
 have e0 : (aT t).At = t.At := rfl
 have e1 : (aT t).Af = t.Af := rfl
 have e2 : (aT t).Seen = t.Seen.L := rfl
 have e3 : (aT t).Status = t.Status := rfl
 simp only [e0, e1, e2, e3]
 have go : ∀ (g : Nat → Int), (∀ j, CK (g j)) → D_fn_23.wp (⟨⟨t.At, t.Phase, t.Ring, t.Status, t.AG, g, t.Seen⟩⟩ : X_fn_23) fun y => aT y = ⟨t.At + 1, 0, 0, t.Status, 0, g, t.Seen.L⟩ ∧ Df (b + 1) y :=
  fun g hg => h23 g t.Seen hg ht.sz (by omega)
 refine AE ieI (fun h => ?_) fun n2 => AE ieI (fun h => ?_) fun n4 => AE ieI (fun h => ?_) fun n5 => AE ieI (fun h => ?_) fun n6 => AE ieI (fun h => ?_) fun n7 => AE ieI (fun h => ?_) fun n8 => AE ieI (fun h => ?_) fun n9 =>
  AE ieI (fun h => ?_) fun n10 => AE ieI (fun h => ?_) fun n11 => AE ieI (fun h => ?_) fun n12 => ?_
 · simp only [h, if_true, Int.reduceEq, if_false]; exact wN rfl (go _ (BE ht.rg CA))
 · simp only [h, if_true, Int.reduceEq, if_false]; exact wN rfl (wN rfl (go _ (BE (BE ht.rg hv) CA)))
 · simp only [h, if_true, Int.reduceEq, if_false]; exact wN rfl (go _ (BE ht.rg u1))
 · simp only [h, if_true, Int.reduceEq, if_false]; exact wN rfl (go _ (BE ht.rg u2))
 · simp only [h, if_true, Int.reduceEq, if_false]; exact wN rfl (go _ (BE ht.rg u3))
 · simp only [h, if_true, Int.reduceEq, if_false]; exact wN rfl (go _ (BE ht.rg hev))
 · simp only [h, if_true, Int.reduceEq, if_false]; exact wN rfl (go _ (BE ht.rg hev))
 · simp only [h, if_true, Int.reduceEq, if_false]; exact wN rfl (wN rfl (go _ (BE (BE ht.rg hev) CA)))
 · simp only [h, if_true, Int.reduceEq, if_false]; exact wN rfl (go _ (BE ht.rg u1))
 · simp only [h, if_true, Int.reduceEq, if_false]
   refine wN (by simp [room]; omega) ?_
   have := h23 t.Af (snoc t.Seen e.Value) ht.rg (fun z => by cases z) (by show t.Seen.n + 1 ≤ b + 1; omega)
   rw [Qt] at this
   exact this
 · rw [if_neg n2, if_neg n4, if_neg n5, if_neg n6, if_neg n7, if_neg n8, if_neg n9, if_neg n10, if_neg n11, if_neg n12]
   exact go _ ht.rg
theorem Rl {l : List TIn} {t n : MT} {a : MA} {e : TEv} (hq : PZ l t n a) (hf : TF a e) (hk : 1 ≤ e.Kind ∧ e.Kind ≤ 15) (h14 : e.Kind ≠ 14) (h15 : e.Kind ≠ 15) : n.At < l.length := by
 have b1 := hf.f1; have b2 := hf.f2; have b3 := hf.f3; have b4 := hf.f4; have b5 := hf.f5; have b8 := hf.f8; have b9 := hf.f9; have b10 := hf.f10; have b12 := hf.f12; have b13 := hf.f13
 have hd : a.Kind = 1 ∨ a.Kind = 2 ∨ a.Kind = 3 ∨ (4 ≤ a.Kind ∧ a.Kind ≤ 7) ∨ a.Kind = 10 ∨ a.Kind = 11 := by omega
 rcases hd with h | h | h | h | h | h
 · exact (hq.k1 h).2.1
 · exact (hq.k2 h).2.1
 · exact (hq.k3 h).2.1
 · exact (hq.kn h).2
 · exact (hq.kp h).2.1
 · exact (hq.kr h).2.1
def QC (l : List TIn) (t : MT) (e : TEv) : Int :=
 if Ba e = false then 3 else if (B0 l t).2.Kind = 0 ∨ Cd (B0 l t).2 e = false then 11 else 0
theorem w_f2a (rs : List TRg) (l : Sl TIn) (t : TTh) (e : TEv) (v : Int) (b : Nat) (hb : b * 8 + 8 ≤ 140737488351232) (hl : NG l) (hc : codeOk l) (hcr : Ge rs l.L) (hT : Et l.L (aT t)) (ht : Df b t) (hv : CK v) (hev : CK e.Value) (het : 0 ≤ e.AG) :
 D_f2a.wp (l, (t, (e, v))) fun y => y.2 = QC l.L (aT t) e ∧ (QC l.L (aT t) e = 0 → aT y.1 = BG (gI l.L (B0 l.L (aT t)).1.At) (B0 l.L (aT t)).1 e v ∧ Df (b + 1) y.1) := by
 refine of_wp ?_
 simp only [tt_f2a]
 refine wC (w_f3a l t b (by omega) hl hc hT ht) fun (y : TTh × TAk × Int) hy => ?_
 obtain ⟨s, a, er⟩ := y
 obtain ⟨hs, ha, hw, h0⟩ := hy
 simp only at hs ha hw h0
 subst h0
 refine AE (p := (0 : Int) ≠ 0) (by rw [bnI, ieI]) (fun h => absurd rfl h) fun _ => ?_
 refine wC (w_f33 e) fun (y : Bool) hy => ?_
 subst hy
 unfold QC
 rw [← ha]
 refine AE bnI (fun h => ?_) fun h => ?_
 · have h : Ba e = false := by simpa using h
   rw [if_pos h]; exact ⟨rfl, fun k => absurd k (by decide)⟩
 · have hR : Ba e = true := Classical.byContradiction h
   rw [if_neg (by rw [hR]; decide)]
   refine AE ieI (fun hk => ?_) fun hk => wC (w_fi a e) fun (y : Bool) hy => ?_
   · rw [if_pos (.inl hk)]; exact ⟨rfl, fun k => absurd k (by decide)⟩
   · subst hy
     refine AE bnI (fun hf => ?_) fun hf => of_wp ?_
     · rw [if_pos (.inr (by simpa using hf))]; exact ⟨rfl, fun k => absurd k (by decide)⟩
     · have hF : Cd (aA a) e = true := Classical.byContradiction hf
       have hk' : (aA a).Kind ≠ 0 := hk
       rw [if_neg (by rw [hF]; simp [hk'])]
       rw [← hs]
       have hff := Oi hR hF
       have hq := Nl hcr hT
       rw [← ha, ← hs] at hq
       have hn := (LK hcr hT).2
       rw [← hs] at hn
       simp only [tt_f2a_8]
       have n1 : Cd (aA a) e = true := hF
       have fin : ∀ {z : MT} {x : TTh}, aT x = z → Df (b + 1) x → (TT.ret ((x, 0) : R_f2a) : TT Tryz.prog R_f2a).wp fun y => y.2 = 0 ∧ (True → aT y.1 = z ∧ Df (b + 1) y.1) := fun h1 h2 => ⟨rfl, fun _ => ⟨h1, h2⟩⟩
       have hre := (Bj hR)
       have tk : CK e.AG := ⟨het, by have := hre.2.2.2.1; omega⟩
       refine AE ieI (fun h => fin (by rw [UQ _ h]; rfl) ⟨tk.1, tk.2, hw.rg, hw.sz, Nat.le_succ_of_le hw.sb⟩) fun h1 => AE ieI (fun h => fin (by rw [UP _ h]; rfl) ⟨tk.1, tk.2, hw.rg, hw.sz, Nat.le_succ_of_le hw.sb⟩) fun h3 =>
        AE ieI (fun h => fin (by rw [R2 _ h]; rfl) ⟨hw.k0, hw.k1, hw.rg, hw.sz, Nat.le_succ_of_le hw.sb⟩) fun h14 => AE ieI (fun h => fin (by rw [R1 _ h]; rfl) ⟨hw.k0, hw.k1, hw.rg, hw.sz, Nat.le_succ_of_le hw.sb⟩) fun h15 => ?_
       have I7 : s.At < l.n := by
        have := Rl (n := aT s) hq hff hre.1 h14 h15
        simpa [aT] using this
       have a0 : 0 ≤ s.At := hn.a0
       have h256 := hc.1
       have hi := K1 hl hc a0 I7
       have hg : gI l.L (aT s).At = l.get s.At.toNat := G2 l a0 I7
       rw [hg]
       refine wN (by rw [ibI]; omega) (wC (w_fn _ s e v b hb hi.ri hw (by omega) hv hev h1 h3 h14 h15) fun (y : TTh) hy => fin hy.1 hy.2)
structure RC (c : TRg) (b : Int) (r : TRr) : Prop where
 rg : Ay c = true
 wf : Qf c r
 inv : Cz c b (aR r)
 bb : b ≤ 4611686018427387904
section
variable {c : TRg} {b : Int} {r : TRr}
theorem RC.hn (h : RC c b r) : 1 ≤ r.AA.AD.n ∧ r.AA.AD.n ≤ 8 ∧ (r.AA.AD.n : Int) = c.AQ := by
 have := CQ h.rg; have := h.wf.hn; omega
theorem RC.ln (h : RC c b r) : 1 ≤ r.s.x.l.n ∧ r.s.x.l.n ≤ 64 ∧ (r.s.x.l.n : Int) = c.Cf := by
 have := CQ h.rg; have := h.wf.ln; omega
theorem RC.t (h : RC c b r) : 0 ≤ r.AA.tail ∧ r.AA.tail < 4611686018427387904 := by
 have h0 := h.inv.t0; have h1 := h.inv.tb; have := h.bb
 change 0 ≤ r.AA.tail at h0; change r.AA.tail < b at h1; omega
theorem RC.hd (h : RC c b r) {k : Nat} (hk : k < r.AA.AD.n) : 0 ≤ r.AA.AD.get k ∧ r.AA.AD.get k ≤ r.AA.tail ∧ r.AA.tail - r.AA.AD.get k ≤ c.Cf :=
 h.inv.h0 _ (Sl.Ch.2 ⟨k, hk, rfl⟩)
theorem NU {j : Int} (h0 : 0 ≤ j) (h1 : j < r.AA.AD.n) : hd (aR r) j = r.AA.AD.get j.toNat := Ii _ h0 h1 0
theorem MN : HO (aR r) = r.s.x.l.n := by simp [HO, aR]
theorem RE (h : RC c b r) (t : Int) : GD (aR r) t < r.s.x.l.n := by
 have := J1 h.inv h.rg t; simpa [aR] using this
theorem FP (h : RC c b r) (t : Int) : Av (aR r) t = r.s.x.l.get (GD (aR r) t) := by
 have := RE h t
 unfold Av
 show r.s.x.l.L.getD _ _ = _
 rw [List.getD, Sl.Db _ this]; rfl
theorem RC.slot (h : RC c b r) (t : Int) : Lc c.Cf r.AA.AD.n r.AA.tail r.AA.AD.L (GD (aR r) t) (r.s.x.l.get (GD (aR r) t)) := by
 have := h.inv.sl _ _ (IE h.inv h.rg t)
 rw [FP h] at this
 simpa [aR] using this
theorem Sw (x y : Int) : NP x y = min x y := by
 unfold NP
 by_cases h : y < x
 · rw [ilI.2 h]; show y = _; omega
 · rw [LN.2 (Int.not_lt.1 h)]; show x = _; omega
theorem Sx (x y : Int) : imax x y = max x y := by
 unfold imax
 by_cases h : x < y
 · rw [ilI.2 h]; show y = _; omega
 · rw [LN.2 (Int.not_lt.1 h)]; show x = _; omega
theorem Ql (x : Ar Int) (h1 : 1 ≤ x.n) (h8 : x.n ≤ 8) : D_f4.wp x fun y => (∃ k, k < x.n ∧ y = x.get k) ∧ ∀ k, k < x.n → y ≤ x.get k := by
 refine CW ?_
 simp only [tt_f4]
 refine AE ilI (fun h => by omega) fun _ => of_wp ?_
 simp only [tt_f4_3]
 refine wN (by rw [ibI]; omega) (wN (by simp) ?_)
 refine C8 (tt := tt_f4_5) (fun z : X_f4_5 => z.Ah = x ∧ ∃ k : Nat, z.DH = k ∧ 1 ≤ k ∧ k ≤ x.n ∧ (∃ j, j < x.n ∧ z.A0 = x.get j) ∧ ∀ j, j < k → z.A0 ≤ x.get j) (fun z => (x.n - z.DH).toNat)
  (fun _ y => (∃ k, k < x.n ∧ y.1 = x.get k) ∧ ∀ k, k < x.n → y.1 ≤ x.get k) (fun D z hI hD => ?_) ⟨rfl, 1, rfl, by omega, by omega, ⟨0, by omega, by simp⟩, fun j hj => by
    have : j = 0 := by omega
    subst this; exact Int.le_refl _⟩
 obtain ⟨m, i, o⟩ := z
 obtain ⟨e0, k, e1, hk1, hk, ⟨j, hj, e2⟩, hle⟩ := hI
 simp only at e0 e1 e2 hle hD
 subst e0 e1
 simp only [tt_f4_5]
 refine AE ilI (fun h => ?_) fun h => ?_
 · have hkm : k < o.n := by omega
   have e3 : IntKind.i64.wrap ((k : Int) + 1) = ((k + 1 : Nat) : Int) := by rw [wrap64] <;> omega
   refine wN (BI hkm) (wN (by simp) ?_)
   rw [e3, Nat.zero_add, Int.toNat_natCast, Sw]
   refine hD _ ⟨rfl, k + 1, rfl, by omega, hkm, ?_, fun i hi => ?_⟩ (by simp only; omega)
   · by_cases q : m ≤ o.get k
     · exact ⟨j, hj, by show min m _ = _; omega⟩
     · exact ⟨k, hkm, by show min m _ = _; omega⟩
   · show min m (o.get k) ≤ o.get i
     by_cases q : i = k
     · subst q; omega
     · have := hle i (by omega); omega
 · exact ⟨⟨j, hj, e2⟩, fun i hi => hle i (by omega)⟩
theorem Lf (h : RC c b r) : D_f1h.wp r.AA fun y => Ja (aR r).AY y := by
 refine CW ?_
 simp only [tt_f1h]
 have hn := h.hn
 refine wC (Ql ⟨r.AA.AD.n, r.AA.AD.get⟩ hn.1 hn.2.1) fun (y : Int) hy => wN (by simp) ?_
 obtain ⟨⟨k, hk, e⟩, hle⟩ := hy
 refine ⟨Sl.Ch.2 ⟨k, hk, e.symm⟩, fun z hz => ?_⟩
 obtain ⟨i, hi, rfl⟩ := Sl.Ch.1 hz
 exact hle i hi
theorem GK (h : RC c b r) : D_f1o.wp r fun y => y = Dt (aR r) := by
 refine CW ?_
 simp only [tt_f1o]
 refine wC (Lf h) fun (y : Int) hy => BN ?_
 rw [I2 hy, leI, h.wf.ms, MN]
 obtain ⟨k, hk, e⟩ := Sl.Ch.1 hy.1
 have := h.hd hk
 have := h.t
 rw [Aj (by omega) (by omega), h.wf.ln]
 exact Iff.rfl
theorem DI (r : TRr) : D_f1c.wp r fun y => y = (aR r).Aw := CW rfl
theorem H6 (j : Int) (s : TRc_L1) (a : Ar Int) : D_f11.wp (j, (s, a)) fun y => y = true ↔ 0 ≤ j ∧ j < s.AD.n := by
 refine CW ?_
 simp only [tt_f11]
 exact AE leI (fun h => DS ilI ⟨fun k => ⟨h, k⟩, fun k => k.2⟩) fun h => BM fun k => h k.1
theorem EU (j : Int) (h0 : 0 ≤ j) (h1 : j < r.AA.AD.n) : D_f1d.wp (j, r) fun y => y = DX (aR r) j := by
 refine CW ?_
 simp only [tt_f1d]
 refine wC (H6 _ _ _) fun (y : Bool) hy => ?_
 refine AE bnI (fun h => absurd (hy.2 ⟨h0, h1⟩) h) fun _ => wN (by rw [ibI]; exact ⟨h0, h1⟩) (wN (by simp) (wN (by simp) ?_))
 unfold DX
 rw [NU h0 h1]
 refine BN ?_
 rw [decide_eq_true_eq, Nat.zero_add]
 exact ieI
theorem Sb (h : RC c b r) {t : Int} (h0 : 0 ≤ t) : Int.tmod t (IntKind.u64.wrap (r.s.x.l.n : Int)) = (GD (aR r) t : Int) := by
 have := h.ln
 rw [Aj (by omega) (by omega), Int.tmod_eq_emod_of_nonneg h0]
 unfold GD
 rw [MN]
 have := Int.emod_nonneg t (b := (r.s.x.l.n : Int)) (by omega)
 omega
theorem JT (h : RC c b r) {t : Int} (h0 : 0 ≤ t) (a : Ar TSo) (z : Int) : D_fs.wp (t, ((⟨⟨r.s.x.l.nil, r.s.x.l.n⟩, z⟩ : TSs_L0), a)) fun y => y = (GD (aR r) t, r.s.x.l.n) := by
 refine CW ?_
 simp only [tt_fs]
 have hl := h.ln
 have hp := RE h t
 rw [Sb h h0, Aj (by omega) (by omega)]
 refine wN (by rw [bnI, ieI]; omega) (wN (BI hp) ?_)
 show (0 + Int.toNat _, _) = _
 rw [Int.toNat_natCast, Nat.zero_add]
theorem w_f3b {t : Int} (h0 : 0 ≤ t) (h1 : t < 4611686018427387904) : D_f3b.wp t fun y => y = 2 * t + 1 := by
 refine of_wp ?_
 simp only [tt_f3b]
 show IntKind.u64.wrap _ = _
 rw [Aj (z := 2 * t) (by omega) (by omega), Aj (by omega) (by omega)]
theorem Ld (h : RC c b r) {t : Int} (h0 : 0 ≤ t) (h1 : t < 4611686018427387904) : D_f1u.wp (t, r.s.x) fun y => y = decide ((Av (aR r) t).AO = 2 * t) := by
 refine CW ?_
 simp only [tt_f1u]
 refine AE ilI (fun _ => ?_) fun h => absurd h1 h
 refine wC (JT h h0 _ _) fun (y : Nat × Nat) hy => ?_
 subst hy
 refine wN (by simp) (wC (w_f2t t h0 (by omega)) fun (y : Int) hy => wN (by simp) ?_)
 subst hy
 rw [FP h]
 exact BN (by rw [decide_eq_true_eq]; exact ieI)
theorem Mr (h : RC c b r) {t : Int} (h0 : 0 ≤ t) : D_f28.wp (t, r) fun y => y = GV (aR r) t := by
 have ht := h.t
 refine CW ?_
 simp only [tt_f28]
 unfold GV
 have e : (aR r).Au = r.AA.tail := rfl
 rw [e]
 refine AE ilI (fun hlt => ?_) fun hlt => ?_
 · refine wN (by simp [h.wf.sn]) (wC (Ld h h0 (by omega)) fun (y : Bool) hy => wN (by simp [h.wf.sn]) (Cr ?_))
   subst hy
   exact BN (by simp only [decide_eq_true_eq]; exact ⟨fun q => ⟨hlt, q⟩, fun q => q.2⟩)
 · exact (decide_eq_false fun q => hlt q.1).symm
theorem It (h : RC c b r) {j t : Int} (hj0 : 0 ≤ j) (hj : j < r.AA.AD.n) (h0 : 0 ≤ t) (h1 : t < 4611686018427387904) :
 D_fm.wp (j, (t, r.s.x)) fun y => y = 0 ↔ (Av (aR r) t).AO = 2 * t + 1 ∧ C9 (Av (aR r) t).Left j = true := by
 have hn := h.hn
 refine CW ?_
 simp only [tt_fm]
 refine AE leI (fun q => absurd h1 (Int.not_lt.2 q)) fun _ => AE ilI (fun q => by omega) fun _ => AE leI (fun q => by rw [h.wf.rd] at q; omega) fun _ => of_wp ?_
 simp only [tt_fm_5]
 refine wC (JT h h0 _ _) fun (y : Nat × Nat) hy => ?_
 subst hy
 rw [FP h]
 have hs := h.slot t
 generalize r.s.x.l.get (GD (aR r) t) = x at hs
 have ne : ∀ {e : Int} {q : Prop}, e ≠ 0 → ¬ q → (e = 0 ↔ q) := fun h k => ⟨fun e => absurd e h, fun e => absurd e k⟩
 refine wN (by simp) (wC (w_f3b h0 h1) fun (y : Int) hy => ?_)
 subst hy
 refine AE ilI (fun q => wN (by simp) (ne (show (9 : Int) ≠ 0 by decide) fun k => by omega)) fun q1 => wN (by simp) (wC (w_f3b h0 h1) fun (y : Int) hy => ?_)
 subst hy
 refine AE ilI (fun q => wN (by simp) (ne (show (11 : Int) ≠ 0 by decide) fun k => by omega)) fun q2 => wN (by simp) (wN (by rw [leI]; exact hj0) ?_)
 have hst : x.AO = 2 * t + 1 := by omega
 have hl := hs.held (by omega)
 have h28 : (2 : Int) ^ r.AA.AD.n ≤ 2 ^ 8 := by exact_mod_cast Nat.pow_le_pow_right (by decide) (by omega : r.AA.AD.n ≤ 8)
 have hb := Np (x := x.Left) (j := j.toNat) (by omega) (by omega) (by omega)
 rw [show ((j.toNat : Nat) : Int) = j by omega] at hb
 refine AE (ieI.trans hb) (fun q => wN (by simp) (ne (show (11 : Int) ≠ 0 by decide) fun k => ?_)) fun q => wN (by simp) ⟨fun _ => ⟨hst, by simpa using q⟩, fun _ => rfl⟩
 rw [q] at k; exact absurd k.2 (by decide)
theorem N3 (h : RC c b r) {j t : Int} (hj0 : 0 ≤ j) (hj : j < r.AA.AD.n) (h0 : 0 ≤ t) : D_f2f.wp (j, (t, r)) fun y => y = KE (aR r) j t := by
 have ht := h.t
 have hh := h.hd (k := j.toNat) (by omega)
 refine CW ?_
 simp only [tt_f2f]
 refine wC (D5 j r.AA) fun (y : Bool) hy => ?_
 refine AE hy (fun _ => wN (by rw [ibI]; omega) (wN (by simp) ?_)) fun k => absurd ⟨hj0, hj⟩ k
 unfold KE
 rw [NU hj0 hj, Nat.zero_add]
 refine AE ilI (fun hlt => wN (by simp [h.wf.sn]) ?_) fun hlt => wN (by simp) (decide_eq_false fun q => hlt q.1).symm
 have e : D_f22.wp (j, (t, r.s.x)) fun y => y = true ↔ (Av (aR r) t).AO = 2 * t + 1 ∧ C9 (Av (aR r) t).Left j = true := by
  refine CW ?_
  simp only [tt_f22]
  exact wC (It h hj0 hj h0 (by omega)) fun (y : Int) hy => ieI.trans hy
 refine wC e fun (y : Bool) hy => wN (by simp [h.wf.sn]) (Cr (wN (by simp) (BN ?_)))
 rw [decide_eq_true_eq]
 exact hy.trans ⟨fun q => ⟨hlt, q⟩, fun q => q.2⟩
end
theorem TH (n : Nat) : Int.tmod (n : Int) 2 = ((n % 2 : Nat) : Int) := by rw [Int.tmod_eq_emod_of_nonneg (Int.natCast_nonneg n)]; rfl
theorem UB (n : Nat) : Int.tdiv (n : Int) 2 = ((n / 2 : Nat) : Int) := by rw [Int.tdiv_eq_ediv_of_nonneg (Int.natCast_nonneg n)]; rfl
theorem w_fa (op : Int) (ho : op = 8 ∨ op = 9 ∨ op = 10) (a b : Nat) (ha : a < 2 ^ 64) (hb : b < 2 ^ 64) : D_fa.wp (op, ((a : Int), (b : Int))) fun y => y = (Km op a b : Nat) := by
 refine of_wp ?_
 simp only [tt_fa]
 have p64 : (2 : Nat) ^ 64 = 18446744073709551616 := by decide
 have st0 : (⟨op, a, b, 0, 1, 0⟩ : X_fa_3) = ⟨op, ((a / 2 ^ 0 : Nat) : Int), ((b / 2 ^ 0 : Nat) : Int), ((Km op a b % 2 ^ 0 : Nat) : Int), IntKind.u64.wrap (1 * 2 ^ 0), ((0 : Nat) : Int)⟩ := by
  simp [Nat.mod_one]; rfl
 show D_fa_3.wp _ _
 rw [st0]
 refine CT (fun k => (⟨op, ((a / 2 ^ k : Nat) : Int), ((b / 2 ^ k : Nat) : Int), ((Km op a b % 2 ^ k : Nat) : Int), IntKind.u64.wrap (1 * 2 ^ k), (k : Nat)⟩ : X_fa_3)) 64 (fun _ => True) _ (fun D hJ => ?_) (fun D k hk _ hD => ?_) (Nat.zero_le _) trivial
 · simp only [tt_fa_3]
   refine AE ilI (fun h => absurd h (by decide)) fun _ => ?_
   show ((Km op a b % 2 ^ 64 : Nat) : Int) = _
   rw [Nat.mod_eq_of_lt (Ti op ha hb)]
 · have hpk : (2 : Nat) ^ (k + 1) ≤ 2 ^ 64 := Nat.pow_le_pow_right (by decide) (by omega)
   have hp1 : (2 : Nat) ^ (k + 1) = 2 * 2 ^ k := by rw [Nat.pow_succ, Nat.mul_comm]
   have hu : IntKind.u64.wrap (1 * 2 ^ k) = ((2 ^ k : Nat) : Int) := by
    rw [Int.one_mul, show ((2 : Int) ^ k) = ((2 ^ k : Nat) : Int) by rw [Int.natCast_pow]; rfl]
    exact Aj (Int.natCast_nonneg _) (by omega)
   have e2 : IntKind.i64.wrap ((k : Int) + 1) = ((k + 1 : Nat) : Int) := by rw [wrap64] <;> omega
   have hlt : ∀ n : Nat, n / 2 ^ k / 2 = n / 2 ^ (k + 1) := fun n => by rw [Nat.div_div_eq_div_mul, Nat.pow_succ]
   have hwd : ∀ n : Nat, n < 2 ^ 64 → IntKind.u64.wrap (Int.tdiv ((n / 2 ^ k : Nat) : Int) 2) = ((n / 2 ^ (k + 1) : Nat) : Int) := fun n hn => by
    rw [UB, hlt]
    have := Nat.div_le_self n (2 ^ (k + 1))
    exact Aj (Int.natCast_nonneg _) (by omega)
   have h8 : ∀ out : Int, out = ((Km op a b % 2 ^ (k + 1) : Nat) : Int) → (D_fa_8 D).wp (⟨op, ((a / 2 ^ k : Nat) : Int), ((b / 2 ^ k : Nat) : Int), out, IntKind.u64.wrap (1 * 2 ^ k), k⟩ : X_fa_8) fun y => y = (Km op a b : Nat) := fun out ho => by
    subst ho
    refine of_wp ?_
    simp only [tt_fa_8]
    refine of_wp ?_
    simp only [tt_fa_4, e2, hwd a ha, hwd b hb, K8]
    exact hD trivial
   have hstep := RI op ho a b k
   generalize hs : a / 2 ^ k % 2 + b / 2 ^ k % 2 = s at hstep
   have hsum : IntKind.u64.wrap (Int.tmod ((a / 2 ^ k : Nat) : Int) 2 + Int.tmod ((b / 2 ^ k : Nat) : Int) 2) = (s : Int) := by
    rw [TH, TH, ← hs]
    exact Aj (by omega) (by omega)
   have hB : T6 op (a / 2 ^ k % 2) (b / 2 ^ k % 2) ↔ (op = 8 ∧ s = 2 ∨ op = 9 ∧ 0 < s ∨ op = 10 ∧ s = 1) := by unfold T6; rw [hs]
   have hm : Km op a b % 2 ^ k < 2 ^ k := Nat.mod_lt _ (Nat.two_pow_pos k)
   have yes : (op = 8 ∧ s = 2 ∨ op = 9 ∧ 0 < s ∨ op = 10 ∧ s = 1) → (D_fa_8 D).wp (⟨op, ((a / 2 ^ k : Nat) : Int), ((b / 2 ^ k : Nat) : Int), IntKind.u64.wrap (((Km op a b % 2 ^ k : Nat) : Int) + IntKind.u64.wrap (1 * 2 ^ k)), IntKind.u64.wrap (1 * 2 ^ k), k⟩ : X_fa_8) fun y => y = (Km op a b : Nat) := fun q => by
    refine h8 _ ?_
    rw [hstep, if_pos (hB.2 q), hu]
    exact Aj (by omega) (by omega)
   have no : ¬ (op = 8 ∧ s = 2 ∨ op = 9 ∧ 0 < s ∨ op = 10 ∧ s = 1) → (D_fa_8 D).wp (⟨op, ((a / 2 ^ k : Nat) : Int), ((b / 2 ^ k : Nat) : Int), ((Km op a b % 2 ^ k : Nat) : Int), IntKind.u64.wrap (1 * 2 ^ k), k⟩ : X_fa_8) fun y => y = (Km op a b : Nat) := fun q => by
    refine h8 _ ?_
    rw [hstep, if_neg fun z => q (hB.1 z)]
   simp only [tt_fa_3, hsum]
   have i2 : ∀ n : Nat, (AX (s : Int) (n : Int) = true) ↔ s = n := fun n => ieI.trans Int.natCast_inj
   have i0 : (BR 0 (s : Int) = true) ↔ 0 < s := ilI.trans (by omega)
   refine AE ilI (fun _ => ?_) fun h => absurd (show ((k : Int) < 64) by omega) h
   have t10 : ¬ (op = 8 ∧ s = 2) → ¬ (op = 9 ∧ 0 < s) → (TT.ite (AX op 10) (TT.ite (AX (s : Int) 1) (.jump S_fa_8 (D_fa_8 D) ⟨op, ((a / 2 ^ k : Nat) : Int), ((b / 2 ^ k : Nat) : Int), IntKind.u64.wrap (((Km op a b % 2 ^ k : Nat) : Int) + IntKind.u64.wrap (1 * 2 ^ k)), IntKind.u64.wrap (1 * 2 ^ k), k⟩)
    (.jump S_fa_8 (D_fa_8 D) ⟨op, ((a / 2 ^ k : Nat) : Int), ((b / 2 ^ k : Nat) : Int), ((Km op a b % 2 ^ k : Nat) : Int), IntKind.u64.wrap (1 * 2 ^ k), k⟩)) (.jump S_fa_8 (D_fa_8 D) ⟨op, ((a / 2 ^ k : Nat) : Int), ((b / 2 ^ k : Nat) : Int), ((Km op a b % 2 ^ k : Nat) : Int), IntKind.u64.wrap (1 * 2 ^ k), k⟩) : TT Tryz.prog R_fa).wp fun y => y = (Km op a b : Nat) :=
    fun q8 q9 => AE ieI (fun h => AE (i2 1) (fun h2 => yes (.inr (.inr ⟨h, h2⟩))) fun h2 => no (by omega)) fun h => no (by omega)
   refine AE ieI (fun h => AE (i2 2) (fun h2 => yes (.inl ⟨h, h2⟩)) fun h2 => AE ieI (fun h9 => by omega) fun h9 => t10 (by omega) (by omega)) fun h => AE ieI (fun h9 => AE i0 (fun h2 => yes (.inr (.inl ⟨h9, h2⟩))) fun h2 => t10 (by omega) (by omega)) fun h9 => t10 (by omega) (by omega)
theorem NI {k n : Nat} (h : k < n) (hn : n ≤ 64) : IntKind.u64.wrap ((k : Int) + 1) = ((k + 1 : Nat) : Int) := by rw [Aj (by omega) (by omega)]; rfl
theorem w_fr (op a b : Int) (ha : CK a) (hb : CK b) (h3 : 3 ≤ op) (h14 : op ≤ 14) : D_fr.wp (op, (a, b)) fun y => y.1 = JN op a b := by
 have hbm : Int.tmod b 64 = b % 64 := Int.tmod_eq_emod_of_nonneg hb.1
 have ea : ((a.toNat : Nat) : Int) = a := Int.toNat_of_nonneg ha.1
 have eb : ((b.toNat : Nat) : Int) = b := Int.toNat_of_nonneg hb.1
 have hbits : op = 8 ∨ op = 9 ∨ op = 10 → D_fa.wp (op, (a, b)) fun y => y = JN op a b := fun q => by
  have := w_fa op q a.toNat b.toNat (CE ha) (CE hb)
  rw [ea, eb] at this
  exact this.mono fun y hy => by rw [hy, Sf q]
 have hdiv : IntKind.u64.wrap (Int.tdiv a b) = a / b := by
  rw [Int.tdiv_eq_ediv_of_nonneg ha.1]
  have h2 : a / b ≤ a := Int.ediv_le_self _ ha.1
  have h3 : 0 ≤ a / b := Int.ediv_nonneg ha.1 hb.1
  have := ha.2
  exact Aj h3 (by omega)
 refine of_wp ?_
 simp only [tt_fr]
 refine AE ieI (fun h => ?_) fun n3 => AE ieI (fun h => ?_) fun n4 => AE ieI (fun h => ?_) fun n5 => AE ieI (fun h => ?_) fun n6 => AE ieI (fun h => ?_) fun n7 => AE ieI (fun h => ?_) fun n8 =>
  AE ieI (fun h => ?_) fun n9 => AE ieI (fun h => ?_) fun n10 => AE ieI (fun h => ?_) fun n11 => AE ieI (fun h => ?_) fun n12 => AE ieI (fun h => ?_) fun n13 => AE ieI (fun h => ?_) fun n14 => by omega
 · subst h; rfl
 · subst h; rfl
 · subst h; rfl
 · subst h
   refine AE ieI (fun h => ?_) fun h => wN (by simpa [AX] using h) ?_
   · show (0 : Int) = if b = 0 then 0 else a / b
     rw [if_pos h]
   · show IntKind.u64.wrap _ = if b = 0 then 0 else a / b
     rw [if_neg h, hdiv]
 · subst h
   refine AE ieI (fun h => ?_) fun h => wN (by simpa [AX] using h) ?_
   · show (0 : Int) = if b = 0 then 0 else a % b
     rw [if_pos h]
   · show IntKind.u64.wrap (a - IntKind.u64.wrap (IntKind.u64.wrap (Int.tdiv a b) * b)) = if b = 0 then 0 else a % b
     rw [if_neg h, hdiv]
     have hm := Int.emod_def a b
     have hc : a / b * b = b * (a / b) := Int.mul_comm _ _
     have h0 := Int.emod_nonneg a h
     have h1 : 0 ≤ a / b * b := Int.mul_nonneg (Int.ediv_nonneg ha.1 hb.1) hb.1
     have := ha.2
     rw [Aj (z := a / b * b) h1 (by omega), Aj (by omega) (by omega)]
     omega
 · exact wC (hbits (.inl h)) fun y hy => hy
 · exact wC (hbits (.inr (.inl h))) fun y hy => hy
 · exact wC (hbits (.inr (.inr h))) fun y hy => hy
 · subst h
   rw [RT]
   show D_fr_22.wp _ _
   have h0 : (⟨a, b, 0⟩ : X_fr_22) = ⟨IntKind.u64.wrap (a * 2 ^ 0), b, ((0 : Nat) : Int)⟩ := by
    rw [Int.pow_zero, Int.mul_one, Aj ha.1 ha.2]; rfl
   rw [h0]
   refine CT (fun k => (⟨IntKind.u64.wrap (a * 2 ^ k), b, (k : Nat)⟩ : X_fr_22)) (b % 64).toNat (fun _ => True) _ (fun D hJ => ?_) (fun D k hk _ hD => ?_) (Nat.zero_le _) trivial
   · simp only [tt_fr_22, hbm]
     refine AE ilI (fun h => by omega) fun _ => of_wp ?_
     simp only [tt_fr_25]; rfl
   · simp only [tt_fr_22, hbm]
     refine AE ilI (fun _ => ?_) fun h => by omega
     rw [K8, NI hk (by omega)]
     exact hD trivial
 · subst h
   rw [RS]
   show D_fr_28.wp _ _
   have h0 : (⟨a, b, 0⟩ : X_fr_28) = ⟨a / 2 ^ 0, b, ((0 : Nat) : Int)⟩ := by
    rw [Int.pow_zero, Int.ediv_one]; rfl
   rw [h0]
   refine CT (fun k => (⟨a / 2 ^ k, b, (k : Nat)⟩ : X_fr_28)) (b % 64).toNat (fun _ => True) _ (fun D hJ => ?_) (fun D k hk _ hD => ?_) (Nat.zero_le _) trivial
   · simp only [tt_fr_28, hbm]
     refine AE ilI (fun h => by omega) fun _ => of_wp ?_
     simp only [tt_fr_31]; rfl
   · simp only [tt_fr_28, hbm]
     refine AE ilI (fun _ => ?_) fun h => by omega
     have hk0 : 0 ≤ a / 2 ^ k := Int.ediv_nonneg ha.1 (Int.le_of_lt (Int.pow_pos (by decide)))
     have hk1 : a / 2 ^ k ≤ a := Int.ediv_le_self _ ha.1
     have := ha.2
     rw [Int.tdiv_eq_ediv_of_nonneg hk0, Aj (by omega) (by omega), MJ a k ha.1, NI hk (by omega)]
     exact hD trivial
 · subst h
   exact AE ilI (fun h => (if_pos h).symm) fun h => (if_neg h).symm
 · subst h
   exact AE ieI (fun h => (if_pos h).symm) fun h => (if_neg h).symm
def GF (k : Int) : ByteArray := if As k = true then ⟨#[82, 84]⟩ else if B1 k = true then ⟨#[82]⟩ else if CR k = true then ⟨#[86]⟩ else ⟨#[]⟩
theorem Fw {k : Int} : CR k = true ↔ (8 ≤ k ∧ k ≤ 10 ∨ k = 12) := by simp only [CR, decide_eq_true_eq]
theorem w_f3w (k : Int) : D_f3w.wp k fun y => y = GF k := by
 refine of_wp ?_
 simp only [tt_f3w]
 have rt : (1 ≤ k ∧ k ≤ 4 ∨ k = 13) → (TT.ret (ByteArray.mk #[82, 84]) : TT Tryz.prog R_f3w).wp fun y => y = GF k := fun h => by unfold GF; rw [if_pos (Ap.2 h)]; rfl
 have r : (5 ≤ k ∧ k ≤ 7) → (TT.ret (ByteArray.mk #[82]) : TT Tryz.prog R_f3w).wp fun y => y = GF k := fun h => by
  unfold GF; rw [if_neg (by rw [Ap]; omega), if_pos (Bb.2 (by omega))]; rfl
 have v : (8 ≤ k ∧ k ≤ 10 ∨ k = 12) → (TT.ret (ByteArray.mk #[86]) : TT Tryz.prog R_f3w).wp fun y => y = GF k := fun h => by
  unfold GF; rw [if_neg (by rw [Ap]; omega), if_neg (by rw [Bb]; omega), if_pos (Fw.2 h)]; rfl
 refine AE ieI (fun h => rt (by omega)) fun n1 => AE ieI (fun h => rt (by omega)) fun n2 => AE ieI (fun h => rt (by omega)) fun n3 => AE ieI (fun h => rt (by omega)) fun n4 => AE ieI (fun h => rt (by omega)) fun n13 =>
  AE ieI (fun h => r (by omega)) fun n5 => AE ieI (fun h => r (by omega)) fun n6 => AE ieI (fun h => r (by omega)) fun n7 => AE ieI (fun h => v (by omega)) fun n8 => AE ieI (fun h => v (by omega)) fun n9 => AE ieI (fun h => v (by omega)) fun n10 => AE ieI (fun h => v (by omega)) fun n12 => ?_
 unfold GF
 rw [if_neg (by rw [Ap]; omega), if_neg (by rw [Bb]; omega), if_neg (by rw [Fw]; omega)]; rfl
theorem EO {s : ByteArray} {c : Int} {v : Bool} (h : D_f1w.ev 50 (s, c) = some v) : D_f1w.wp (s, c) fun y => y = v := ⟨v, D_f1w.GG 50 _ _ h, rfl⟩
theorem TV (k : Int) : D_f1w.wp (GF k, 82) fun y => y = B1 k := by
 unfold GF
 split
 · rename_i h; rw [CF (e := ⟨0, k, 0, 0, 0⟩) h]; exact EO (by kernel_rfl)
 split
 · rename_i h; rw [h]; exact EO (by kernel_rfl)
 · rename_i h; rw [show B1 k = false by simpa using h]
   split
   · exact EO (by kernel_rfl)
   · exact EO (by kernel_rfl)
theorem TU (k : Int) : D_f1w.wp (GF k, 84) fun y => y = As k := by
 unfold GF
 split
 · rename_i h; rw [h]; exact EO (by kernel_rfl)
 · rename_i h; rw [show As k = false by simpa using h]
   split
   · exact EO (by kernel_rfl)
   · split
     · exact EO (by kernel_rfl)
     · exact EO (by kernel_rfl)
theorem TS (k : Int) : D_f1w.wp (GF k, 86) fun y => y = CR k := by
 unfold GF
 split
 · rename_i h
   rw [show CR k = false from Bool.eq_false_iff.2 fun q => by rw [Fw] at q; rw [Ap] at h; omega]
   exact EO (by kernel_rfl)
 · split
   · rename_i h
     rw [show CR k = false from Bool.eq_false_iff.2 fun q => by rw [Fw] at q; rw [Bb] at h; omega]
     exact EO (by kernel_rfl)
   · split
     · rename_i h; rw [h]; exact EO (by kernel_rfl)
     · rename_i h; rw [show CR k = false by simpa using h]; exact EO (by kernel_rfl)
theorem w_f2y (k : Int) : D_f2y.wp k fun y => y = ⟨#[]⟩ ↔ ¬ (1 ≤ k ∧ k ≤ 15) := by
 refine of_wp ?_
 simp only [tt_f2y]
 refine AE ilI (fun h => ⟨fun _ => by omega, fun _ => rfl⟩) fun h1 => AE ilI (fun h => ⟨fun _ => by omega, fun _ => rfl⟩) fun h2 => of_wp ?_
 simp only [tt_f2y_4]
 have hw : IntKind.i64.wrap (k - 1) = k - 1 := wrap64 (by omega) (by omega)
 rw [hw]
 refine wN (by rw [ibI]; show 0 ≤ k - 1 ∧ k - 1 < ((15 : Nat) : Int); omega) ⟨fun h => absurd h ?_, fun h => absurd ⟨by omega, by omega⟩ h⟩
 generalize hi : (k - 1).toNat = i
 rcases (by omega : i = 0 ∨ i = 1 ∨ i = 2 ∨ i = 3 ∨ i = 4 ∨ i = 5 ∨ i = 6 ∨ i = 7 ∨ i = 8 ∨ i = 9 ∨ i = 10 ∨ i = 11 ∨ i = 12 ∨ i = 13 ∨ i = 14) with e | e | e | e | e | e | e | e | e | e | e | e | e | e | e <;> subst e <;> exact fun h => by cases h
theorem w_f2i (e : TEv) : D_f2i.wp e fun y => y = Ba e := by
 refine AU.wp.mono (Q := fun y : Bool => y = true ↔ Ba e = true) (of_wp ?_) fun y hy => BN hy
 simp only [tt_f2i]
 refine wC (w_f3w e.Kind) fun (f : ByteArray) hf => wC (w_f2y e.Kind) fun (y : ByteArray) hy => ?_
 subst hf
 refine AE (p := ¬ (1 ≤ e.Kind ∧ e.Kind ≤ 15)) (by rw [Lt]; exact hy) (fun h1 => BM fun k => h1 (Bz.1 k).1) fun h1 => AE ilI (fun h => BM fun k => ?_) fun h2 => AE ilI (fun h => BM fun k => ?_) fun h3 =>
  AE ilI (fun h => BM fun k => ?_) fun h4 => AE ilI (fun h => BM fun k => ?_) fun h5 => AE leI (fun h => BM fun k => ?_) fun h6 => of_wp ?_
 · have := (Bz.1 k).2.1; omega
 · have := (Bz.1 k).2.1; omega
 · have := (Bz.1 k).2.2.1; omega
 · have := (Bz.1 k).2.2.1; omega
 · have := (Bz.1 k).2.2.2.1; omega
 · simp only [tt_f2i_4]
   have iff : Ba e = true ↔ (B1 e.Kind = true ∨ e.Ring = 0) ∧ (As e.Kind = true ∨ e.AG = 0) ∧ (CR e.Kind = true ∨ e.Value = 0) := by
    rw [Bz]
    exact ⟨fun h => h.2.2.2.2, fun h => ⟨Classical.byContradiction h1, by omega, by omega, by omega, h⟩⟩
   rw [iff]
   have hV : (B1 e.Kind = true ∨ e.Ring = 0) → (As e.Kind = true ∨ e.AG = 0) → (TT.call con_f1w (GF e.Kind, 86) fun (y3 : R_f1w) => TT.ite y3 (.ret true) (.ret (AX e.Value 0)) : TT Tryz.prog R_f2i).wp
    fun y => y = true ↔ (B1 e.Kind = true ∨ e.Ring = 0) ∧ (As e.Kind = true ∨ e.AG = 0) ∧ (CR e.Kind = true ∨ e.Value = 0) := fun a b => by
    refine wC (TS e.Kind) fun (y : Bool) hy => ?_
    subst hy
    exact Bc (fun h => N8 ⟨a, b, .inl h⟩) fun h => DS ieI ⟨fun q => ⟨a, b, .inr q⟩, fun q => q.2.2.resolve_left h⟩
   have hT : (B1 e.Kind = true ∨ e.Ring = 0) → (TT.call con_f1w (GF e.Kind, 84) fun (y2 : R_f1w) => TT.ite y2 (TT.call con_f1w (GF e.Kind, 86) fun (y3 : R_f1w) => TT.ite y3 (.ret true) (.ret (AX e.Value 0)))
    (TT.ite (AX e.AG 0) (TT.call con_f1w (GF e.Kind, 86) fun (y3 : R_f1w) => TT.ite y3 (.ret true) (.ret (AX e.Value 0))) (.ret false)) : TT Tryz.prog R_f2i).wp
    fun y => y = true ↔ (B1 e.Kind = true ∨ e.Ring = 0) ∧ (As e.Kind = true ∨ e.AG = 0) ∧ (CR e.Kind = true ∨ e.Value = 0) := fun a => by
    refine wC (TU e.Kind) fun (y : Bool) hy => ?_
    subst hy
    exact Bc (fun h => hV a (.inl h)) fun h => AE ieI (fun q => hV a (.inr q)) fun q => BM fun z => z.2.1.elim h q
   refine wC (TV e.Kind) fun (y : Bool) hy => ?_
   subst hy
   exact Bc (fun h => hT (.inl h)) fun h => AE ieI (fun q => hT (.inr q)) fun q => BM fun z => z.1.elim h q
def Dd (a : TA6) : MA := ⟨a.Kind, a.Ring, a.Mode, a.Reader, a.AG, a.Value⟩
theorem w_f3x (l : Sl TIn) (t : TTh) (b : Nat) (hF : US l (l.get t.At.toNat)) (ho : (l.get t.At.toNat).Op ≤ 17) (ht : Df b t) (h0 : 0 ≤ t.At) (h1 : t.At < l.n) (hn : l.n ≤ 256) :
 D_f3x.wp (l, t) fun y => aT y = DW (l.get t.At.toNat) (aT t) ∧ Df b y := by
 refine of_wp ?_
 simp only [tt_f3x]
 generalize l.get t.At.toNat = i at hF ho
 obtain ⟨hi, hr, _⟩ := hF
 have hf := A5 hr
 have hA : Az i.A 8 = true := by rw [ibI]; omega
 have hB : Az i.B 8 = true := by rw [ibI]; omega
 have hC : Az i.C 8 = true := by rw [ibI]; omega
 have hw : IntKind.i64.wrap (t.At + 1) = t.At + 1 := wrap64 (by omega) (by omega)
 simp only [hA, hB, hC, hw, HX]
 refine wN (by rw [ibI]; exact ⟨h0, h1⟩) ?_
 have nx : (TT.ret (TTh.mk (t.At + 1) t.Phase t.Ring t.Status t.AG t.Af t.Seen) : TT Tryz.prog R_f3x).wp fun y => aT y = { aT t with At := t.At + 1 } ∧ Df b y := ⟨rfl, ht.with _ ht.rg⟩
 have jm : i.Op ≠ 1 → (TT.ret (TTh.mk (IntKind.i64.wrap i.K) t.Phase t.Ring t.Status t.AG t.Af t.Seen) : TT Tryz.prog R_f3x).wp fun y => aT y = { aT t with At := i.K } ∧ Df b y := fun h => by
  have := hf.2.2.2.2.2.1 h
  rw [wrap64 (by omega) (by omega)]
  exact ⟨rfl, ht.with _ ht.rg⟩
 have e0 : (aT t).At = t.At := rfl
 have e1 : (aT t).Af = t.Af := rfl
 unfold DW
 simp only [e0, e1]
 have hal : i.Op ≠ 1 → i.Op ≠ 2 → i.Op < 15 → (TT.need true (TT.need true (TT.call con_fr (i.Op, (t.Af i.B.toNat, t.Af i.C.toNat)) fun (y1 : R_fr) => TT.need true (TT.ret (TTh.mk (t.At + 1) t.Phase t.Ring t.Status t.AG (DU t.Af i.A y1.fst) t.Seen)))) : TT Tryz.prog R_f3x).wp
  fun y => aT y = { aT t with At := t.At + 1, Af := DU t.Af i.A (JN i.Op (t.Af i.B.toNat) (t.Af i.C.toNat)) } ∧ Df b y := fun n1 n2 h15 => by
  refine wN rfl (wN rfl (wC (w_fr i.Op _ _ (ht.rg _) (ht.rg _) (by omega) (by omega)) fun (y : Int × Bool) hy => wN rfl ?_))
  rw [hy]
  exact ⟨rfl, ht.with _ (BE ht.rg (KH (ht.rg _) (ht.rg _)))⟩
 refine AE ieI (fun h => ?_) fun n1 => AE ieI (fun h => ?_) fun n2 => AE ieI (fun h => ?_) fun n15 => AE ieI (fun h => ?_) fun n16 => AE ieI (fun h => ?_) fun n17 => ?_
 · rw [if_pos h]; exact wN rfl ⟨rfl, ht.with _ (BE ht.rg hi.1)⟩
 · rw [if_neg n1, if_pos h]; exact wN rfl (wN rfl ⟨rfl, ht.with _ (BE ht.rg (ht.rg _))⟩)
 · rw [if_neg n1, if_neg n2, if_pos (.inl h)]; exact jm n1
 · rw [if_neg n1, if_neg n2]
   refine wN rfl (AE ieI (fun q => ?_) fun q => AE ieI (fun h2 => by omega) fun _ => AE ilI (fun h2 => by omega) fun _ => ?_)
   · rw [if_pos (.inr (.inl ⟨h, q⟩))]; exact jm n1
   · rw [if_neg (by omega), if_neg (by omega)]; exact nx
 · rw [if_neg n1, if_neg n2]
   refine wN rfl (AE (p := t.Af i.A.toNat ≠ 0) (by rw [bnI, ieI]) (fun q => ?_) fun q => AE ilI (fun h2 => by omega) fun _ => ?_)
   · rw [if_pos (.inr (.inr ⟨h, q⟩))]; exact jm n1
   · rw [if_neg (by omega), if_neg (by omega)]; exact nx
 · rw [if_neg n1, if_neg n2, if_neg (by omega), if_pos (by omega)]
   exact AE ilI (fun h => hal n1 n2 h) fun h => by omega
theorem w_fj_11 (l : Sl TIn) (s : TTh) (z4 : TTh) (z5 : TA6) (hl : NG l) (hc : codeOk l) (h0 : 0 ≤ s.At) (h1 : s.At ≤ l.n) :
 D_fj_11.wp (⟨l, s, z4, z5⟩ : X_fj_11) fun y => y.1 = s ∧ Dd y.2 = Ek l.L (aT s) := by
 refine of_wp ?_
 simp only [tt_fj_11]
 refine AE ieI (fun h => ⟨rfl, ?_⟩) fun h => ?_
 · unfold Ek
   rw [if_pos (by rw [Sl.BL]; exact h)]; rfl
 · have h2 : s.At < l.n := by omega
   have hF := K1 hl hc h0 h2
   have hg : gI l.L (aT s).At = l.get s.At.toNat := G2 l h0 h2
   unfold Ek
   simp only [hg]
   rw [if_neg (by rw [Sl.BL]; exact h)]
   generalize l.get s.At.toNat = i at hF
   have hf := A5 hF.ri
   have hA : Az i.A 8 = true := by rw [ibI]; omega
   refine wN (by rw [ibI]; omega) ?_
   have g9 : i.Op ≤ 17 → ∀ {y : TA6}, Dd y = { zA with Kind := 9 } → s = s ∧ Dd y = if i.Op ≤ 17 then { zA with Kind := 9 } else if i.Op = 18 then ⟨1, i.C, i.D, 0, 0, (aT s).Af i.A.toNat⟩ else if i.Op = 19 then ⟨2, i.C, i.D, i.K, 0, 0⟩ else if i.Op = 20 then ⟨3, i.C, 0, 0, 0, 0⟩ else if i.Op = 21 then { zA with Kind := 4 } else if i.Op = 22 then { zA with Kind := 5 }
    else if i.Op = 23 then { zA with Kind := 6 } else if i.Op = 24 then { zA with Kind := 7, Value := (aT s).Af i.A.toNat } else { zA with Kind := 8 } := fun h y e => ⟨rfl, by rw [if_pos h]; exact e⟩
   refine AE ieI (fun h => wN hA ⟨rfl, ?_⟩) fun n18 => AE ieI (fun h => ⟨rfl, ?_⟩) fun n19 => AE ieI (fun h => ⟨rfl, ?_⟩) fun n20 => AE ieI (fun h => ⟨rfl, ?_⟩) fun n21 => AE ieI (fun h => ⟨rfl, ?_⟩) fun n22 =>
    AE ieI (fun h => ⟨rfl, ?_⟩) fun n23 => AE ieI (fun h => wN hA ⟨rfl, ?_⟩) fun n24 => AE ieI (fun h => ⟨rfl, ?_⟩) fun n25 => g9 (by omega) rfl
   · rw [if_neg (by omega), if_pos h]; rfl
   · have := hf.2.2.2.2.2.1 (by omega)
     rw [if_neg (by omega), if_neg n18, if_pos h, wrap64 (by omega) (by omega)]; rfl
   · rw [if_neg (by omega), if_neg n18, if_neg n19, if_pos h]; rfl
   · rw [if_neg (by omega), if_neg n18, if_neg n19, if_neg n20, if_pos h, h]; rfl
   · rw [if_neg (by omega), if_neg n18, if_neg n19, if_neg n20, if_neg n21, if_pos h, h]; rfl
   · rw [if_neg (by omega), if_neg n18, if_neg n19, if_neg n20, if_neg n21, if_neg n22, if_pos h, h]; rfl
   · rw [if_neg (by omega), if_neg n18, if_neg n19, if_neg n20, if_neg n21, if_neg n22, if_neg n23, if_pos h]; rfl
   · rw [if_neg (by omega), if_neg n18, if_neg n19, if_neg n20, if_neg n21, if_neg n22, if_neg n23, if_neg n24]; rfl
theorem w_fj (l : Sl TIn) (t : TTh) (b : Nat) (hl : NG l) (hc : codeOk l) (hT : Et l.L (aT t)) (ht : Df b t) :
 D_fj.wp (l, t) fun y => aT y.1 = (B0 l.L (aT t)).1 ∧ Dd y.2 = (B0 l.L (aT t)).2 ∧ Df b y.1 := by
 have a0 : 0 ≤ t.At := hT.a0
 have a1 : t.At ≤ l.n := by have := hT.a1; simpa [aT] using this
 have p1 := hT.p1
 refine of_wp ?_
 simp only [tt_fj]
 unfold B0
 have es : (aT t).Status = t.Status := rfl
 have ep : (aT t).Phase = t.Phase := rfl
 simp only [es, ep]
 refine AE (p := t.Status ≠ 0) (by rw [bnI, ieI]) (fun h => ?_) fun hs => AE ieI (fun h => ?_) fun hp1 => AE ieI (fun h => ?_) fun hp2 => ?_
 · rw [if_pos h]; exact ⟨rfl, rfl, ht⟩
 · have hq := p1 (by show t.Phase ≠ 0; omega)
   have h2 : t.At < l.n := by have := hq.2.1; simpa [aT] using this
   have hF := K1 hl hc a0 h2
   have hf := A5 hF.ri
   refine wN (by rw [ibI]; omega) (wN (by rw [ibI]; omega) ?_)
   rw [if_neg (fun k => k (Classical.byContradiction hs)), if_pos h]
   have : gI l.L (aT t).At = l.get t.At.toNat := G2 l a0 h2
   rw [this]
   exact ⟨rfl, rfl, ht⟩
 · have hq := p1 (by show t.Phase ≠ 0; omega)
   have h2 : t.At < l.n := by have := hq.2.1; simpa [aT] using this
   have hF := K1 hl hc a0 h2
   have hf := A5 hF.ri
   have ho : (l.get t.At.toNat).Op = 17 + t.Phase := by
    have := hq.2.2.1
    rwa [show gI l.L (aT t).At = l.get t.At.toNat from G2 l a0 h2] at this
   have hk := hf.2.2.2.2.2.1 (by omega)
   refine wN (by rw [ibI]; omega) ?_
   rw [if_neg (fun k => k (Classical.byContradiction hs)), if_neg hp1, if_pos h, wrap64 (by omega) (by omega)]
   have : gI l.L (aT t).At = l.get t.At.toNat := G2 l a0 h2
   rw [this]
   exact ⟨rfl, rfl, ht⟩
 · rw [if_neg (fun k => k (Classical.byContradiction hs)), if_neg hp1, if_neg hp2]
   simp only
   have h256 := hc.1
   refine C8 (tt := tt_fj_8) (fun x : X_fj_8 => x.Bf = l ∧ ∃ k : Nat, x.C1 = k ∧ k ≤ 256 ∧ (0 ≤ x.A0.At ∧ x.A0.At ≤ l.n) ∧ Dc l.L (256 - k) (aT x.A0) = Dc l.L 256 (aT t) ∧ Df b x.A0)
    (fun x => (256 - x.C1).toNat) (fun _ y => aT y.1 = Dc l.L 256 (aT t) ∧ Dd y.2 = Ek l.L (Dc l.L 256 (aT t)) ∧ Df b y.1) (fun D x hI hD => ?_) ⟨rfl, 0, rfl, by omega, ⟨a0, a1⟩, rfl, ht⟩
   obtain ⟨l', q, s, z4, z5⟩ := x
   obtain ⟨e1, k, e2, hk, hA, hrun, hw⟩ := hI
   simp only at e1 e2 hA hrun hw hD
   subst e1 e2
   simp only [tt_fj_8]
   have fin : (¬ ((aT s).At < l'.L.length ∧ (gI l'.L (aT s).At).Op ≤ 17) ∨ k = 256) → D_fj_11.wp (⟨l', s, z4, z5⟩ : X_fj_11) fun y => aT y.1 = Dc l'.L 256 (aT t) ∧ Dd y.2 = Ek l'.L (Dc l'.L 256 (aT t)) ∧ Df b y.1 := fun h => by
    have he : Dc l'.L 256 (aT t) = aT s := by
     rw [← hrun]
     rcases h with h | h
     · exact LL h _
     · rw [h]; rfl
    rw [he]
    refine (w_fj_11 l' s z4 z5 hl hc hA.1 hA.2).mono fun y hy => ?_
    rw [hy.1]
    exact ⟨rfl, hy.2, hw⟩
   refine AE ilI (fun hlt => AE ilI (fun h2 => ?_) fun h => fin (.inl fun z => ?_)) fun hlt => fin (.inr (by omega))
   · have hF := K1 hl hc hA.1 h2
     have hf := A5 hF.ri
     have hg : gI l'.L (aT s).At = l'.get s.At.toNat := G2 l' hA.1 h2
     refine wN (by rw [ibI]; omega) (AE leI (fun h17 => of_wp ?_) fun h => fin (.inl fun z => ?_))
     · simp only [tt_fj_10]
       refine wC (w_f3x l' s b hF h17 hw hA.1 h2 h256) fun (y : TTh) hy => ?_
       have e2 : IntKind.i64.wrap ((k : Int) + 1) = ((k + 1 : Nat) : Int) := by rw [wrap64] <;> omega
       rw [e2]
       have I7 : 0 ≤ y.At ∧ y.At ≤ l'.n := by
        have := Lp (i := l'.get s.At.toNat) (t := aT s) (n := l'.n) hA.1 h2 (fun q => (hf.2.2.2.2.2.1 q).1) hF.jm
        rw [← hy.1] at this; exact this
       refine hD _ ⟨rfl, k + 1, rfl, by omega, I7, ?_, hy.2⟩ (by simp only; omega)
       have hst : (aT s).At < l'.L.length ∧ (gI l'.L (aT s).At).Op ≤ 17 := ⟨by rw [Sl.BL]; exact h2, by rw [hg]; exact h17⟩
       rw [← hrun, show 256 - k = (256 - (k + 1)) + 1 by omega, Ie hst, hg, hy.1]
     · rw [hg] at z; omega
   · have := z.1; rw [Sl.BL] at this; exact h this
theorem w_f2r (a : TA6) (e : TEv) (hk : 1 ≤ e.Kind ∧ e.Kind ≤ 15) : D_f2r.wp (a, e) fun y => y = Cd (Dd a) e := by
 refine AU.wp.mono (Q := fun y : Bool => y = true ↔ Cd (Dd a) e = true) (of_wp ?_) fun y hy => BN hy
 simp only [tt_f2r]
 have hiff : Cd (Dd a) e = true ↔ (B1 e.Kind = true → a.Ring = e.Ring) ∧ (if e.Kind = 5 then ((a.Kind = 1 ∨ a.Kind = 2) ∧ a.Mode = 0) else if e.Kind = 6 then (a.Kind = 1 ∨ a.Kind = 2) else if e.Kind = 7 then ((a.Kind = 1 ∨ a.Kind = 2) ∧ a.Mode = 2)
  else if e.Kind = 2 ∨ e.Kind = 4 then (a.Kind = Ei e.Kind ∧ a.AG = e.AG) else if e.Kind = 12 then (a.Kind = 7 ∧ a.Value = e.Value) else a.Kind = Ei e.Kind) := by
  simp only [Cd, Bool.and_eq_true, Bool.or_eq_true, Bool.not_eq_true', decide_eq_true_eq]
  have e1 : (Dd a).Ring = a.Ring := rfl
  have e2 : (Dd a).Kind = a.Kind := rfl
  have e3 : (Dd a).Mode = a.Mode := rfl
  have e4 : (Dd a).AG = a.AG := rfl
  have e5 : (Dd a).Value = a.Value := rfl
  rw [e1, e2, e3, e4, e5]
  refine and_congr ⟨fun h k => ?_, fun h => ?_⟩ ?_
  · rcases h with h | h
    · rw [h] at k; cases k
    · exact h
  · cases q : B1 e.Kind
    · exact .inl rfl
    · exact .inr (h q)
  · repeat' split
    all_goals simp
 have h2 : ∀ w : Bool, (w = true ↔ (a.Kind = 1 ∨ a.Kind = 2)) → D_f2r_2.wp (⟨a, e, w⟩ : X_f2r_2) fun y => y = true ↔ Cd (Dd a) e = true := fun w hw => by
  rw [hiff, Bb]
  refine of_wp ?_
  simp only [tt_f2r_2, TT.wp, ieI, hw, Bool.false_eq_true, false_iff, Ei]
  refine ⟨fun h => ?_, fun h1 => ⟨fun h => ?_, fun h2 => ⟨fun h => ?_, fun h3 => ⟨fun h => ?_, fun h4 => ⟨fun h => ?_, fun h5 => ⟨fun h => ?_, fun h6 => ⟨fun h => ?_, fun h7 => ⟨fun h => ?_, fun h8 => ⟨fun h => ?_, fun h9 => ⟨fun h => ?_, fun h10 => ⟨fun h => ?_, fun h11 => ⟨fun h => ?_, fun h12 => ⟨fun h => ?_, fun h13 => ⟨fun h => ?_, fun h14 => ?_⟩⟩⟩⟩⟩⟩⟩⟩⟩⟩⟩⟩⟩⟩
  all_goals first
   | (rw [h]; simp; done)
   | (rw [h]; simp; omega)
   | (obtain h : e.Kind = 15 := by omega
      rw [h]; simp)
 exact AE ieI (fun h => h2 true (by simp [h])) fun h => h2 _ (by rw [ieI]; omega)
theorem Fj {α : Type} (s : Sl α) (k : Nat) (y : α) : (IG s k y).L = s.L.set k y := by
 apply List.ext_getElem
 · simp [IG]
 · intro i h1 h2
   rw [Sl.F6]
   by_cases e : i = k
   · subst e; rw [O3, List.getElem_set_self]
   · rw [O2 e, List.getElem_set_ne (fun q => e q.symm), Sl.F6]
def Cp (r : TR3) : MR := ⟨r.Au, r.AY.L, r.Aw, r.S.L.L⟩
structure R3 (c : TRg) (b : Int) (r : TR3) : Prop where
 rg : Ay c = true
 cp : r.Cf = c.Cf
 rd : r.S.AQ = c.AQ
 inv : Cz c b (Cp r)
 bb : b ≤ 4611686018427387904
section
variable {c : TRg} {b : Int} {r : TR3}
theorem R3.hn (h : R3 c b r) : 1 ≤ r.AY.n ∧ r.AY.n ≤ 8 ∧ (r.AY.n : Int) = c.AQ := by
 have := CQ h.rg
 have h2 := h.inv.rd
 simp only [Cp, Sl.BL] at h2
 omega
theorem R3.ln (h : R3 c b r) : 1 ≤ r.S.L.n ∧ r.S.L.n ≤ 64 ∧ (r.S.L.n : Int) = c.Cf := by
 have := CQ h.rg
 have h2 := h.inv.cap
 simp only [Cp, Sl.BL] at h2
 omega
theorem R3.t (h : R3 c b r) : 0 ≤ r.Au ∧ r.Au < 4611686018427387904 := by
 have h0 := h.inv.t0; have h1 := h.inv.tb; have := h.bb
 change 0 ≤ r.Au at h0; change r.Au < b at h1; omega
theorem R3.hd (h : R3 c b r) {k : Nat} (hk : k < r.AY.n) : 0 ≤ r.AY.get k ∧ r.AY.get k ≤ r.Au ∧ r.Au - r.AY.get k ≤ c.Cf :=
 h.inv.h0 _ (Sl.Ch.2 ⟨k, hk, rfl⟩)
theorem NV {j : Int} (h0 : 0 ≤ j) (h1 : j < r.AY.n) : hd (Cp r) j = r.AY.get j.toNat := Ii _ h0 h1 0
theorem MO : HO (Cp r) = r.S.L.n := by simp [HO, Cp]
theorem OR (h : R3 c b r) (t : Int) : GD (Cp r) t < r.S.L.n := by
 have := J1 h.inv h.rg t; simpa [Cp] using this
theorem IF (h : R3 c b r) (t : Int) : Av (Cp r) t = r.S.L.get (GD (Cp r) t) := by
 have := OR h t
 unfold Av
 show r.S.L.L.getD _ _ = _
 rw [List.getD, Sl.Db _ this]; rfl
theorem R3.slot (h : R3 c b r) (t : Int) : Lc c.Cf r.AY.n r.Au r.AY.L (GD (Cp r) t) (r.S.L.get (GD (Cp r) t)) := by
 have := h.inv.sl _ _ (IE h.inv h.rg t)
 rw [IF h] at this
 simpa [Cp] using this
theorem LG (h : R3 c b r) {t : Int} (h0 : 0 ≤ t) : IntKind.i64.wrap (Int.tmod t (IntKind.u64.wrap (r.S.L.n : Int))) = (GD (Cp r) t : Int) := by
 have := h.ln
 rw [Aj (z := (r.S.L.n : Int)) (by omega) (by omega), Int.tmod_eq_emod_of_nonneg h0]
 unfold GD
 rw [MO]
 have h1 := Int.emod_nonneg t (b := (r.S.L.n : Int)) (by omega)
 have h2 := Int.emod_lt_of_pos t (b := (r.S.L.n : Int)) (by omega)
 rw [wrap64 (by omega) (by omega)]
 omega
theorem w_fq (l : Sl Int) (h1 : 1 ≤ l.n) (h8 : l.n ≤ 8) : D_fq.wp l fun y => Ja l.L y := by
 refine of_wp ?_
 simp only [tt_fq]
 refine wN (by rw [ibI]; omega) ?_
 refine C8 (tt := tt_fq_3) (fun z : X_fq_3 => z.Bf = l ∧ ∃ k : Nat, z.DH = k ∧ k ≤ l.n ∧ z.P7 ∈ l.L ∧ ∀ j, j < k → z.P7 ≤ l.get j) (fun z => (l.n - z.DH).toNat)
  (fun _ y => Ja l.L y) (fun D z hI hD => ?_) ⟨rfl, 0, rfl, Nat.zero_le _, Sl.Ch.2 ⟨0, h1, rfl⟩, fun j hj => by omega⟩
 obtain ⟨l', m, i⟩ := z
 obtain ⟨e0, k, e1, hk, hmem, hle⟩ := hI
 simp only at e0 e1 hmem hle hD
 subst e0 e1
 simp only [tt_fq_3]
 have e3 : IntKind.i64.wrap ((k : Int) + 1) = ((k + 1 : Nat) : Int) := by rw [wrap64] <;> omega
 refine AE ilI (fun h => ?_) fun h => ?_
 · have hkm : k < l'.n := by omega
   refine wN (BI hkm) ?_
   rw [Int.toNat_natCast]
   refine AE ilI (fun hlt => wN (BI hkm) (of_wp ?_)) fun hlt => of_wp ?_
   · simp only [tt_fq_4, e3]
     refine hD _ ⟨rfl, k + 1, rfl, hkm, Sl.Ch.2 ⟨k, hkm, rfl⟩, fun j hj => ?_⟩ (by simp only; omega)
     by_cases q : j = k
     · subst q; exact Int.le_refl _
     · have := hle j (by omega); show l'.get k ≤ _; omega
   · simp only [tt_fq_4, e3]
     refine hD _ ⟨rfl, k + 1, rfl, hkm, hmem, fun j hj => ?_⟩ (by simp only; omega)
     by_cases q : j = k
     · subst q; exact Int.not_lt.1 hlt
     · exact hle j (by omega)
 · refine ⟨hmem, fun z hz => ?_⟩
   obtain ⟨j, hj, rfl⟩ := Sl.Ch.1 hz
   exact hle j (by omega)
theorem w_f3v (h : R3 c b r) : D_f3v.wp r fun y => y = Dt (Cp r) := by
 refine of_wp ?_
 simp only [tt_f3v]
 refine wC (w_fq r.AY h.hn.1 h.hn.2.1) fun (y : Int) hy => BN ?_
 rw [I2 (r := Cp r) hy, leI, h.cp, MO]
 obtain ⟨k, hk, e⟩ := Sl.Ch.1 hy.1
 have := h.hd hk
 have := h.t
 rw [Aj (by omega) (by omega), h.ln.2.2]
 exact Iff.rfl
theorem w_f3q (j : Int) (h0 : 0 ≤ j) (h1 : j < r.AY.n) : D_f3q.wp (r, j) fun y => y = DX (Cp r) j := by
 refine of_wp ?_
 simp only [tt_f3q]
 refine wN (by rw [ibI]; exact ⟨h0, h1⟩) ?_
 unfold DX
 rw [NV h0 h1]
 exact BN (by rw [decide_eq_true_eq]; exact ieI)
theorem w_f3z (s : TR2) (k : Nat) (x : TSo) (hk : k < s.L.n) (hn : s.L.n ≤ 64) : D_f3z.wp (s, ((k : Int), x)) fun y => y.L.L = s.L.L.set k x ∧ y.AQ = s.AQ ∧ CN y.L ∧ y.L.n = s.L.n := by
 refine of_wp ?_
 simp only [tt_f3z, Nat.zero_add, Int.toNat_natCast]
 refine wN (by simp [room]; omega) (wN (BI hk) (wN (by simp) (wN (by simp) ⟨?_, rfl, fun e => ?_, rfl⟩)))
 · rw [← Fj]
   refine Sl.SD rfl fun i _ => ?_
   show (⟨_, _, _⟩ : TSo) = cond (Nat.beq i k) x (s.L.get i)
   cases Nat.beq i k <;> rfl
 · simp only [Bool.cond_self, Bool.false_eq_true] at e
theorem w_f4d (h : R3 c b r) {t v : Int} (h0 : 0 ≤ t) (h1 : t < 4611686018427387904) :
 D_f4d.wp (r.S, (t, v)) fun y => (y.1 = 0 ↔ (Av (Cp r) t).AO = 2 * t) ∧ ((Av (Cp r) t).AO = 2 * t → y.2.L.L = r.S.L.L.set (GD (Cp r) t) ⟨2 * t + 1, v, 2 ^ r.AY.n - 1⟩ ∧ y.2.AQ = r.S.AQ ∧ CN y.2.L ∧ y.2.L.n = r.S.L.n) := by
 have hl := h.ln
 have hp := OR h t
 refine of_wp ?_
 simp only [tt_f4d]
 rw [LG h h0, Int.toNat_natCast, Aj (z := (r.S.L.n : Int)) (by omega) (by omega), Aj (z := 2 * t) (by omega) (by omega), Aj (z := 2 * t + 1) (by omega) (by omega)]
 rw [IF h]
 generalize hx : r.S.L.get (GD (Cp r) t) = x
 refine AE leI (fun q => absurd h1 (Int.not_lt.2 q)) fun _ => wN (by rw [bnI, ieI]; omega) (wN (BI hp) (AE ilI (fun q => ⟨⟨fun e => absurd e (show (8 : Int) ≠ 0 by decide), fun e => by omega⟩, fun e => by omega⟩) fun q1 => wN (BI hp)
  (AE ilI (fun q => ⟨⟨fun e => absurd e (show (11 : Int) ≠ 0 by decide), fun e => by omega⟩, fun e => by omega⟩) fun q2 => ?_)))
 have hr := CQ h.rg
 refine wC (w_f2c r.S.AQ (by rw [h.rd]; omega) (by rw [h.rd]; omega)) fun (y : Int) hy => ?_
 subst hy
 refine wC (w_f3z r.S _ _ hp hl.2.1) fun (y : TR2) hy => ⟨⟨fun _ => by omega, fun _ => rfl⟩, fun _ => ?_⟩
 have e : r.S.AQ.toNat = r.AY.n := by have := h.hn.2.2; rw [h.rd]; omega
 rw [e] at hy
 exact hy
theorem UJ {z : TR2} {l : List TSo} (hz : z.L.L = l) : Cp ⟨r.Cf, r.Au, r.AY, r.Aw, z⟩ = { Cp r with Am := l } := by
 subst hz; rfl
theorem w_f36 (h : R3 c b r) {t v : Int} (h0 : 0 ≤ t) (h1 : t < 4611686018427387904) :
 D_f36.wp (r, (t, v)) fun y => (y.1 = 0 ↔ GV (Cp r) t = true) ∧ (GV (Cp r) t = true → Cp y.2 = NM (Cp r) t v) := by
 refine of_wp ?_
 simp only [tt_f36]
 have hm : GV (Cp r) t = true ↔ t < r.Au ∧ (Av (Cp r) t).AO = 2 * t := by simp only [GV, decide_eq_true_eq]; exact Iff.rfl
 rw [hm]
 refine AE leI (fun q => ⟨⟨fun e => absurd e (show (11 : Int) ≠ 0 by decide), fun e => by omega⟩, fun e => by omega⟩) fun q => ?_
 refine wC (w_f4d h h0 h1) fun (y : Int × TR2) hy => ⟨hy.1.trans ⟨fun e => ⟨by omega, e⟩, fun e => e.2⟩, fun e => ?_⟩
 have := (hy.2 e.2).1
 rw [UJ this]
 unfold NM
 simp [Cp]
theorem w_f2g (x : Int) (j : Nat) (h0 : 0 ≤ x) (h1 : x < 256) (hj : j < 8) : D_f2g.wp (x, (j : Int)) fun y => y = C9 x (j : Int) := by
 refine of_wp ?_
 simp only [tt_f2g]
 have e0 : x = x / 2 ^ 0 := by simp
 show D_f2g_2.wp (⟨x, j, ((0 : Nat) : Int)⟩ : X_f2g_2) _
 have key : D_f2g_2.wp (⟨x / 2 ^ 0, j, ((0 : Nat) : Int)⟩ : X_f2g_2) fun y => y = C9 x (j : Int) := by
  refine CT (fun k => (⟨x / 2 ^ k, j, (k : Nat)⟩ : X_f2g_2)) j (fun _ => True) _ (fun D hJ => ?_) (fun D k hk _ hD => ?_) (Nat.zero_le _) trivial
  · simp only [tt_f2g_2, BQ, Nat.lt_irrefl, decide_false, CO]
    have := (LO h0 h1 hj).2
    refine BN ?_
    rw [ieI]
    have hm : Int.tmod (x / 2 ^ j) 2 = 0 ∨ Int.tmod (x / 2 ^ j) 2 = 1 := by
     have : 0 ≤ x / 2 ^ j := Int.ediv_nonneg h0 (Int.le_of_lt (Int.pow_pos (by decide)))
     rw [Int.tmod_eq_emod_of_nonneg this]; omega
    cases hb : C9 x (j : Int)
    · have := this.2 hb; exact ⟨fun e => by omega, fun e => by cases e⟩
    · refine ⟨fun _ => rfl, fun _ => ?_⟩
      rcases hm with e | e
      · have := this.1 e; rw [hb] at this; cases this
      · exact e
  · simp only [tt_f2g_2, BQ, hk, decide_true, C4]
    have e2 : IntKind.i64.wrap ((k : Int) + 1) = ((k + 1 : Nat) : Int) := by rw [wrap64] <;> omega
    rw [(LO h0 h1 (by omega)).1, e2]
    exact hD trivial
 rw [← e0] at key
 exact key
theorem I4 {x : Int} {j : Nat} (h0 : 0 ≤ x) (h1 : x < 256) (hj : j < 8) (hb : C9 x (j : Int) = true) : Vm.bits .andNot IntKind.i64 x (shl IntKind.i64 1 (j : Int)) = x - 2 ^ j ∧ 0 ≤ x - 2 ^ j := by
 have := OX ⟨x.toNat, by omega⟩ ⟨j, hj⟩
 simp only [show ((x.toNat : Nat) : Int) = x by omega] at this
 have h2 := (Kc (n := 8) (k := j) h0 (by exact_mod_cast h1) (by omega) hj hj hb).2
 exact ⟨this hb, h2⟩
theorem Hd {j : Nat} (hj : j ≤ 8) : (2 : Int) ^ j ≤ 256 := by exact_mod_cast Nat.pow_le_pow_right (by decide : 0 < 2) hj
theorem w_f2c' (j : Nat) (hj : j ≤ 8) : D_f2c.wp (j : Int) fun y => y = 2 ^ j - 1 := by
 by_cases h : j = 0
 · subst h
   refine ⟨0, ?_, by decide⟩
   exact D_f2c.GG 50 _ _ (by kernel_rfl)
 · have := w_f2c (j : Int) (by omega) (by omega)
   rwa [Int.toNat_natCast] at this
theorem w_f1a (h : R3 c b r) {j t : Int} (hj0 : 0 ≤ j) (hj : j < r.AY.n) (h0 : 0 ≤ t) (h1 : t < 2305843009213693952) :
 D_f1a.wp (r.S, (j, t)) fun y => (y.2.1 = 0 ↔ (Av (Cp r) t).AO = 2 * t + 1 ∧ C9 (Av (Cp r) t).Left j = true) ∧
  ((Av (Cp r) t).AO = 2 * t + 1 ∧ C9 (Av (Cp r) t).Left j = true → y.1 = (Av (Cp r) t).Value ∧ y.2.2.L.L = r.S.L.L.set (GD (Cp r) t) (KF (Av (Cp r) t) j t (HO (Cp r))) ∧ y.2.2.AQ = r.S.AQ ∧ CN y.2.2.L ∧ y.2.2.L.n = r.S.L.n) := by
 have hl := h.ln
 have hn := h.hn
 have hp := OR h t
 have hs := h.slot t
 have n9 : (9 : Int) ≠ 0 := by decide
 have n11 : (11 : Int) ≠ 0 := by decide
 refine of_wp ?_
 simp only [tt_f1a]
 refine AE leI (fun q => by omega) fun _ => AE ilI (fun q => by omega) fun _ => AE leI (fun q => by rw [h.rd] at q; omega) fun _ => of_wp ?_
 simp only [tt_f1a_3]
 rw [LG h h0, Int.toNat_natCast, Aj (z := (r.S.L.n : Int)) (by omega) (by omega), Aj (z := 2 * t) (by omega) (by omega), Aj (z := 2 * t + 1) (by omega) (by omega), IF h, MO]
 generalize hx : r.S.L.get (GD (Cp r) t) = x at hs
 refine wN (by rw [bnI, ieI]; omega) (wN (BI hp) (AE ilI (fun q => ⟨⟨fun e => absurd e n9, fun e => by omega⟩, fun e => by omega⟩) fun q1 => AE ilI (fun q => ⟨⟨fun e => absurd e n11, fun e => by omega⟩, fun e => by omega⟩) fun q2 => ?_))
 have hst : x.AO = 2 * t + 1 := by omega
 have hheld := hs.held (by omega)
 have h28 := Hd hn.2.1
 obtain ⟨jn, rfl⟩ : ∃ jn : Nat, j = jn := ⟨j.toNat, by omega⟩
 refine wC (w_f2g x.Left jn (by omega) (by omega) (by omega)) fun (y : Bool) hy => ?_
 subst hy
 refine AE bnI (fun q => ⟨⟨fun e => absurd e n11, fun e => absurd e.2 q⟩, fun e => absurd e.2 q⟩) fun q => of_wp ?_
 have hb := Classical.byContradiction q
 have hcl := I4 (j := jn) (x := x.Left) (by omega) (by omega) (by omega) hb
 simp only [tt_f1a_9]
 refine wC (w_f2c' jn (by omega)) fun (y : Int) hy => ?_
 subst hy
 have hpj := Hd (j := jn) (by omega)
 have hpp := FR jn
 rw [show (2 : Int) ^ jn - 1 + 1 = 2 ^ jn by omega, wrap64 (z := (2 : Int) ^ jn) (by omega) (by omega), wrap64 (z := x.Left - 2 ^ jn) (by omega) (by omega), Aj (z := (r.S.L.n : Int)) (by omega) (by omega), Aj (z := t + (r.S.L.n : Int)) (by omega) (by omega), Aj (z := 2 * (t + (r.S.L.n : Int))) (by omega) (by omega)]
 have fin : ∀ z : TSo, z = KF x (jn : Int) t (r.S.L.n : Int) → D_f1a_13.wp (⟨r.S, (GD (Cp r) t : Nat), x.Value, ⟨⟨true, 0, fun _ => ⟨0, 0, 0⟩⟩, 0⟩, z⟩ : X_f1a_13) fun y => (y.2.1 = 0 ↔ x.AO = 2 * t + 1 ∧ C9 x.Left (jn : Int) = true) ∧
  (x.AO = 2 * t + 1 ∧ C9 x.Left (jn : Int) = true → y.1 = x.Value ∧ y.2.2.L.L = r.S.L.L.set (GD (Cp r) t) (KF x (jn : Int) t (r.S.L.n : Int)) ∧ y.2.2.AQ = r.S.AQ ∧ CN y.2.2.L ∧ y.2.2.L.n = r.S.L.n) := fun z hz => by
  subst hz
  refine of_wp ?_
  simp only [tt_f1a_13]
  exact wC (w_f3z r.S _ _ hp hl.2.1) fun (y : TR2) hy => ⟨⟨fun _ => ⟨hst, hb⟩, fun _ => rfl⟩, fun _ => ⟨rfl, hy⟩⟩
 refine AE ieI (fun e => fin _ ?_) fun e => fin _ ?_
 · unfold KF; rw [Int.toNat_natCast, if_pos e]
 · unfold KF; rw [Int.toNat_natCast, if_neg e]
theorem w_f1m (h : R3 c b r) (hb : b ≤ 2305843009213693952) {j t : Int} (hj0 : 0 ≤ j) (hj : j < r.AY.n) (h0 : 0 ≤ t) :
 D_f1m.wp (r, (j, t)) fun y => (y.2.1 = 0 ↔ KE (Cp r) j t = true) ∧ (KE (Cp r) j t = true → y.1 = (Av (Cp r) t).Value ∧ Cp y.2.2 = QA (Cp r) j t) := by
 refine of_wp ?_
 simp only [tt_f1m]
 refine AE ilI (fun q => by omega) fun _ => AE leI (fun q => by omega) fun _ => of_wp ?_
 simp only [tt_f1m_3]
 have hm : KE (Cp r) j t = true ↔ t < r.AY.get j.toNat ∧ (Av (Cp r) t).AO = 2 * t + 1 ∧ C9 (Av (Cp r) t).Left j = true := by simp only [KE, decide_eq_true_eq, NV hj0 hj]
 rw [hm]
 refine wN (by rw [ibI]; exact ⟨hj0, hj⟩) (AE leI (fun q => ⟨⟨fun e => absurd e (show (11 : Int) ≠ 0 by decide), fun e => by omega⟩, fun e => by omega⟩) fun q => ?_)
 have htb := h.inv.tb
 change r.Au < b at htb
 have := h.hd (k := j.toNat) (by omega)
 refine wC (w_f1a h hj0 hj h0 (by omega)) fun (y : Int × Int × TR2) hy => ⟨hy.1.trans ⟨fun e => ⟨by omega, e⟩, fun e => e.2⟩, fun e => ?_⟩
 obtain ⟨k1, k2, _⟩ := hy.2 e.2
 refine ⟨k1, ?_⟩
 rw [UJ k2]; rfl
theorem w_f2w (h : R3 c b r) {j : Int} (hj0 : 0 ≤ j) (hj : j < r.AY.n) (he : DX (Cp r) j = false) : D_f2w.wp (r, j) fun y => Cp y.2.2 = Ej (Cp r) j := by
 refine of_wp ?_
 simp only [tt_f2w]
 refine AE ilI (fun q => by omega) fun _ => AE leI (fun q => by omega) fun _ => of_wp ?_
 obtain ⟨jn, rfl⟩ : ∃ jn : Nat, j = jn := ⟨j.toNat, by omega⟩
 have hjn : jn < r.AY.n := by omega
 have hne : r.AY.get jn ≠ r.Au := fun q => by
  simp only [DX, decide_eq_false_iff_not] at he
  rw [NV hj0 hj, Int.toNat_natCast] at he
  exact he q
 have hh := h.hd hjn
 have ht := h.t
 have hn := h.hn
 have hr : (true && room r.AY.n 8) = true := by simp [room]; omega
 simp only [tt_f2w_3, Nat.zero_add, Int.toNat_natCast, Ka, cond_false, Nat.sub_zero]
 have hb : Az (jn : Int) r.AY.n = true := BI hjn
 refine wN hb (AE ieI (fun q => absurd q hne) fun _ => wN hr (wN hb (wN (by simp) (wN hb (wN (by simp) (wN (by simp) (wN hb ?_)))))))
 rw [Aj (z := r.AY.get jn + 1) (by omega) (by omega)]
 show (⟨_, _, _, _⟩ : MR) = _
 unfold Ej
 rw [NV hj0 hj, Int.toNat_natCast]
 show (⟨_, _, _, _⟩ : MR) = ⟨_, r.AY.L.set jn (r.AY.get jn + 1), _, _⟩
 rw [← Fj]
 congr 1
theorem w_f3k (h : R3 c b r) : D_f3k.wp r fun y => Kk y = Cp r ∧ CN y.AY ∧ CN y.Am := by
 have hn := h.hn
 have hl := h.ln
 refine of_wp ?_
 simp only [tt_f3k, Nat.zero_add, Ka, cond_false, Nat.sub_zero]
 refine wN (by simp [room]; omega) (wN (by simp [room]; omega) ⟨rfl, fun e => ?_, fun e => ?_⟩)
 · simp only [Bool.cond_self, Bool.false_eq_true] at e
 · simp only [Bool.cond_self, Bool.false_eq_true] at e
theorem w_f4h (s : TRs) (hc : Ay c = true) (hi : Cz c b (Kk s)) (hb : b ≤ 4611686018427387904) : D_f4h.wp (c, s) fun y => R3 c b y ∧ Cp y = Kk s := by
 have hf := CQ hc
 have h1 := hi.cap
 have h2 := hi.rd
 simp only [Kk, Sl.BL] at h1 h2
 refine of_wp ?_
 simp only [tt_f4h, Nat.zero_add, Ka, cond_false, Nat.sub_zero]
 have e : ∀ {y : TR3}, Cp y = Kk s → y.Cf = c.Cf → y.S.AQ = c.AQ → R3 c b y ∧ Cp y = Kk s := fun a k1 k2 => ⟨⟨hc, k1, k2, by rw [a]; exact hi, hb⟩, a⟩
 exact wN (by simp [room]; omega) (wN (by simp [room]; omega) (e rfl (Aj (by omega) (by omega)) rfl))
end
theorem Ea {p : TPg} {t : Int} (h0 : 0 ≤ t) (h1 : t < p.AB.n) : Bo (aP p) t = (p.AB.get t.toNat).L := by
 unfold Bo aP
 simp only [List.getD, List.getElem?_map]
 rw [Sl.Db _ (by omega)]; rfl
theorem MM {p : TPg} {i : Int} (h0 : 0 ≤ i) (h1 : i < p.AJ.n) : KZ (aP p) i = p.AJ.get i.toNat := Ii _ h0 h1 _
theorem OA {s : TSt} {t : Int} (h0 : 0 ≤ t) (h1 : t < s.AB.n) : Mg (aS s) t = aT (s.AB.get t.toNat) := by
 unfold Mg aS
 simp only [List.getD, List.getElem?_map]
 rw [Sl.Db _ (by omega)]; rfl
theorem Q0 {s : TSt} {i : Int} (h0 : 0 ≤ i) (h1 : i < s.AJ.n) : DP (aS s) i = Kk (s.AJ.get i.toNat) := by
 unfold DP aS
 simp only [List.getD, List.getElem?_map]
 rw [Sl.Db _ (by omega)]; rfl
theorem IA {f : TFa} {t : Int} (h0 : 0 ≤ t) (h1 : t < f.threads.n) : Mg (aF f) t = aT (f.threads.get t.toNat) := by
 unfold Mg aF
 simp only [List.getD, List.getElem?_map]
 rw [Sl.Db _ (by omega)]; rfl
theorem Q1 {f : TFa} {i : Int} (h0 : 0 ≤ i) (h1 : i < f.rings.n) : DP (aF f) i = aR (f.rings.get i.toNat).x := by
 unfold DP aF
 simp only [List.getD, List.getElem?_map]
 rw [Sl.Db _ (by omega)]; rfl
structure P2 (e : TEv) : Prop where
 tk : CK e.AG
 vl : CK e.Value
section
variable {p : TPg} {B : Int} {m : MS} {e : TEv}
theorem Ez (h : Eu (aP p) B m) (f : DT (aP p) m e) (k : B1 e.Kind = true) :
 (0 ≤ e.Ring ∧ e.Ring < p.AJ.n) ∧ ((Bv (aP p) m e.Thread).Kind = 2 ∨ (Bv (aP p) m e.Thread).Kind = 11 → 0 ≤ (Bv (aP p) m e.Thread).Reader ∧ (Bv (aP p) m e.Thread).Reader < (p.AJ.get e.Ring.toNat).AQ) ∧
   (e.Kind = 3 ∨ e.Kind = 4 → 0 ≤ (Bv (aP p) m e.Thread).Reader ∧ (Bv (aP p) m e.Thread).Reader < (p.AJ.get e.Ring.toNat).AQ) := by
 obtain ⟨r0, r1, r2⟩ := Hn h f k
 have hf := Oi f.re f.ft
 have r1 : e.Ring.toNat < p.AJ.n := by simpa [aP] using r1
 rw [MM r0 (by omega)] at r2
 exact ⟨⟨r0, by omega⟩, r2, fun q => r2 (q.imp hf.f3 fun z => (hf.f4 z).1)⟩
theorem Ud (h : Eu (aP p) B m) (f : DT (aP p) m e) : 0 ≤ e.Thread ∧ e.Thread < p.AB.n := by
 have h1 := f.lt
 have h2 := h.nt
 have : (aP p).AB.length = p.AB.n := by simp [aP]
 have := f.th
 omega
end
structure SC (p : TPg) (B : Int) (k : Nat) (s : TSt) : Prop where
 hp : G6 p
 inv : Eu (aP p) B (aS s)
 ts : ∀ t, t < s.AB.n → Df k (s.AB.get t)
 hB : B ≤ 2305843009213693952
 hk : k ≤ 1000000000
section
variable {p : TPg} {B : Int} {k : Nat} {s : TSt} {e : TEv}
theorem SC.tn (h : SC p B k s) : s.AB.n = p.AB.n := by have := h.inv.nt; simpa [aS, aP] using this
theorem SC.rn (h : SC p B k s) : s.AJ.n = p.AJ.n := by have := h.inv.nr; simpa [aS, aP] using this
theorem SC.small (h : SC p B k s) : p.AB.n ≤ 8 ∧ p.AJ.n ≤ 8 := ⟨(BV h.inv.pi).2.1, (BV h.inv.pi).2.2.1⟩
theorem SC.JI (h : SC p B k s) {t : Int} (h0 : 0 ≤ t) (h1 : t < p.AB.n) : Et (p.AB.get t.toNat).L (aT (s.AB.get t.toNat)) := by
 have ht := h.tn
 have := h.inv.JI (t := t) (by simp [aS]; omega)
 rwa [Ea h0 h1, OA h0 (by omega)] at this
theorem SC.OP (h : SC p B k s) {i : Int} (h0 : 0 ≤ i) (h1 : i < p.AJ.n) : Cz (p.AJ.get i.toNat) B (Kk (s.AJ.get i.toNat)) := by
 have hr := h.rn
 have := (h.inv.OP (i := i) (by simp [aP]; omega)).1
 rwa [MM h0 h1, Q0 h0 (by omega)] at this
theorem Gx {B : Int} {m : MS} (h : Eu (aP p) B m) {t : Int} (h0 : 0 ≤ t) (h1 : t < p.AB.n) : Ge p.AJ.L (p.AB.get t.toNat).L := by
 have : (aP p).AB[t.toNat]? = some (p.AB.get t.toNat).L := by
  unfold aP
  simp only [List.getElem?_map]
  rw [Sl.Db _ (by omega)]; rfl
 exact PM h this
theorem Jl (h : SC p B k s) {t : Int} (h0 : 0 ≤ t) (h1 : t < p.AB.n) :
 D_fj.wp (p.AB.get t.toNat, s.AB.get t.toNat) fun y => aT y.1 = (B0 (Bo (aP p) t) (Mg (aS s) t)).1 ∧ Dd y.2 = Bv (aP p) (aS s) t ∧ Df k y.1 := by
 have ht := h.tn
 have h2 : t.toNat < p.AB.n := by omega
 unfold Bv
 rw [Ea h0 h1, OA h0 (by omega)]
 exact w_fj _ _ k (h.hp.c h2) (MK h.inv.pi h2) (h.JI h0 h1) (h.ts _ (by omega))
theorem w_f4a (h : SC p B k s) {t : Int} (h0 : 0 ≤ t) (h1 : t < p.AB.n) : D_f4a.wp (p, (s, t)) fun y => Dd y = Bv (aP p) (aS s) t := by
 have ht := h.tn
 refine of_wp ?_
 simp only [tt_f4a]
 exact wN (by rw [ibI]; omega) (wN (by rw [ibI]; omega) (wC (Jl h h0 h1) fun y hy => hy.2.1))
theorem w_f3r (h : SC p B k s) {i : Int} (h0 : 0 ≤ i) (h1 : i < p.AJ.n) : D_f3r.wp (p, (s, i)) fun y => R3 (p.AJ.get i.toNat) B y ∧ Cp y = DP (aS s) i := by
 have hr := h.rn
 have hB := h.hB
 refine of_wp ?_
 simp only [tt_f3r]
 rw [Q0 h0 (by omega)]
 exact wN (by rw [ibI]; omega) (wN (by rw [ibI]; omega) (wC (w_f4h _ (rg_of h.inv.pi (by omega)) (h.OP h0 h1) (by omega)) fun y hy => hy))
theorem RR : EH (aP p) (aS s) e = if Ba e = false then 3 else if (s.AB.n : Int) ≤ e.Thread then 5 else if (Bv (aP p) (aS s) e.Thread).Kind = 0 ∨ Cd (Bv (aP p) (aS s) e.Thread) e = false then 11 else 0 := by
 unfold EH
 rw [show ((aS s).AB.length : Int) = s.AB.n by simp [aS]]
theorem w_f3y (h : SC p B k s) : D_f3y.wp (p, (s, e)) fun y => y = EH (aP p) (aS s) e := by
 have ht := h.tn
 refine of_wp ?_
 simp only [tt_f3y]
 rw [RR]
 refine wC (w_f2i e) fun (y : Bool) hy => ?_
 subst hy
 refine A4 (g := id) (by rw [bnI]; simp) (fun _ => rfl) fun hR => A4 (g := id) leI (fun _ => rfl) fun hlt => ?_
 have hR : Ba e = true := by simpa using hR
 have hre := Bj hR
 refine wC (w_f4a h (t := e.Thread) hre.2.1.1 (by omega)) fun (a : TA6) ha => ?_
 rw [← ha]
 refine AE ieI (fun hk => by rw [if_pos (.inl hk)]; rfl) fun hk => wC (w_f2r a e hre.1) fun (y : Bool) hy => ?_
 subst hy
 refine AE bnI (fun hf => by rw [if_pos (.inr (by simpa using hf))]; rfl) fun hf => ?_
 have hF := Classical.byContradiction hf
 have hk' : (Dd a).Kind ≠ 0 := hk
 rw [if_neg (by rw [hF]; simp [hk'])]; rfl
theorem w_f3j (h : SC p B k s) (a : TA6) (cl : Bool) (hr : 0 ≤ e.Ring ∧ e.Ring < p.AJ.n) (hrd : e.Kind = 3 ∨ e.Kind = 4 → 0 ≤ a.Reader ∧ a.Reader < (p.AJ.get e.Ring.toNat).AQ) (ht : 0 ≤ e.AG ∧ e.AG < 4611686018427387904) :
 D_f3j.wp (p, (s, (a, (e, cl)))) fun y => y = (DA (DP (aS s) e.Ring) (Dd a) e && !(cl && decide (e.Kind = 1) && (DP (aS s) e.Ring).Aw)) := by
 refine of_wp ?_
 simp only [tt_f3j]
 refine wC (w_f3r h hr.1 hr.2) fun (r : TR3) hy => ?_
 obtain ⟨h3, he⟩ := hy
 rw [← he]
 have hn := h3.hn
 unfold DA
 have hcl : (Cp r).Aw = r.Aw := rfl
 refine AE ieI (fun q => ?_) fun n1 => AE ieI (fun q => ?_) fun n2 => AE ieI (fun q => ?_) fun n3 => AE ieI (fun q => ?_) fun n4 => ?_
 · rw [if_pos q, decide_eq_true q, Bool.and_true]
   have fl : (TT.call con_f3v r fun (y2 : R_f3v) => TT.ite (!y2) (.ret (AX e.AG r.Au)) (.ret false) : TT Tryz.prog R_f3j).wp fun y => y = (!Dt (Cp r) && decide (e.AG = (Cp r).Au)) := by
    refine wC (w_f3v h3) fun (y : Bool) hy => ?_
    subst hy
    exact AE bnI (fun z => by rw [show Dt (Cp r) = false by simpa using z]; exact BN (by simp only [Bool.not_false, Bool.true_and, decide_eq_true_eq]; exact ieI)) fun z => by rw [show Dt (Cp r) = true from Classical.byContradiction z]; rfl
   rw [hcl]
   cases cl
   · refine Bc (fun z => by cases z) fun _ => ?_
     simpa using fl
   · refine Bc (fun _ => AE bnI (fun z => ?_) fun z => ?_) fun z => absurd rfl z
     · rw [show r.Aw = false by simpa using z]; simpa using fl
     · rw [show r.Aw = true from Classical.byContradiction z]; simp [TT.wp]
 · rw [if_neg n1, if_pos q, decide_eq_false n1, Bool.and_false, Bool.false_and, Bool.not_false, Bool.and_true]
   exact wC (w_f36 h3 ht.1 ht.2) fun (y : Int × TR3) hy => BN (ieI.trans hy.1)
 · rw [if_neg n1, if_neg n2, if_pos q, decide_eq_false n1, Bool.and_false, Bool.false_and, Bool.not_false, Bool.and_true]
   obtain ⟨j0, j1⟩ := hrd (.inl q)
   refine wC (w_f3q a.Reader j0 (by omega)) fun (y : Bool) hy => ?_
   subst hy
   have e1 : (Dd a).Reader = a.Reader := rfl
   rw [e1]
   refine AE bnI (fun z => wN (by rw [ibI]; omega) ?_) fun z => ?_
   · rw [show DX (Cp r) a.Reader = false by simpa using z, NV j0 (by omega)]
     exact BN (by simp only [Bool.not_false, Bool.true_and, decide_eq_true_eq]; exact ieI)
   · rw [show DX (Cp r) a.Reader = true from Classical.byContradiction z]; rfl
 · rw [if_neg n1, if_neg n2, if_neg n3, if_pos q, decide_eq_false n1, Bool.and_false, Bool.false_and, Bool.not_false, Bool.and_true]
   obtain ⟨j0, j1⟩ := hrd (.inr q)
   exact wC (w_f1m h3 h.hB j0 (by omega) ht.1) fun (y : Int × Int × TR3) hy => BN (ieI.trans hy.1)
 · rw [if_neg n1, if_neg n2, if_neg n3, if_neg n4, decide_eq_false n1, Bool.and_false, Bool.false_and, Bool.not_false, Bool.and_true]
   exact BN (by rw [decide_eq_true_eq]; exact ieI)
theorem w_f10 (h : SC p B k s) (a : TA6) (hr : 0 ≤ e.Ring ∧ e.Ring < p.AJ.n) (ha : a.Kind = 1 ∨ a.Kind = 2) (hrd : a.Kind = 2 → 0 ≤ a.Reader ∧ a.Reader < (p.AJ.get e.Ring.toNat).AQ) :
 D_f10.wp (p, (s, (a, e))) fun y => y = (F8 (DP (aS s) e.Ring) (Dd a) && ((DP (aS s) e.Ring).Aw == decide (e.Kind = 6))) := by
 refine of_wp ?_
 simp only [tt_f10]
 refine wC (w_f3r h hr.1 hr.2) fun (r : TR3) hy => ?_
 obtain ⟨h3, he⟩ := hy
 rw [← he]
 have hn := h3.hn
 have e6 : AX e.Kind 6 = decide (e.Kind = 6) := BN (by rw [decide_eq_true_eq]; exact ieI)
 have h3' : ∀ w : Bool, D_f10_3.wp (⟨e, w, r⟩ : X_f10_3) fun y => y = (w && ((Cp r).Aw == decide (e.Kind = 6))) := fun w => by
  refine of_wp ?_
  simp only [tt_f10_3, e6]
  cases w
  · exact Bc (fun z => by cases z) fun _ => rfl
  · exact Bc (fun _ => rfl) fun z => absurd rfl z
 have e1 : (Dd a).Kind = a.Kind := rfl
 have e2 : (Dd a).Reader = a.Reader := rfl
 unfold F8
 rw [e1, e2]
 refine AE ieI (fun q => ?_) fun q => AE ieI (fun q2 => ?_) fun q2 => by omega
 · rw [if_pos q]
   have hcl : (Cp r).Aw = r.Aw := rfl
   refine Bc (fun z => ?_) fun z => wC (w_f3v h3) fun (y : Bool) hy => ?_
   · have := h3' true
     rw [hcl, z] at this ⊢; exact this
   · subst hy
     rw [hcl, show r.Aw = false by simpa using z, Bool.false_or]
     have hh : ∀ w, D_f10_3.wp (⟨e, w, r⟩ : X_f10_3) fun y => y = (w && (false == decide (e.Kind = 6))) := fun w => by
      have := h3' w
      rwa [hcl, show r.Aw = false by simpa using z] at this
     refine Bc (fun z2 => by rw [z2]; exact hh true) fun z2 => AE ieI (fun q2 => by omega) fun _ => by rw [show Dt (Cp r) = false by simpa using z2]; exact hh false
 · rw [if_neg q]
   obtain ⟨j0, j1⟩ := hrd q2
   refine wC (w_f3q a.Reader j0 (by omega)) fun (y : Bool) hy => ?_
   subst hy
   exact h3' _
theorem w_f3f (h : SC p B k s) (he : P2 e) : D_f3f.wp (p, (s, e)) fun y => y = BU (aP p) (aS s) e := by
 refine of_wp ?_
 simp only [tt_f3f]
 refine wC (w_f3y h) fun (y : Int) hy => ?_
 subst hy
 unfold BU
 refine AE (p := EH (aP p) (aS s) e ≠ 0) (by rw [bnI, ieI]) (fun q => by rw [decide_eq_false q]; rfl) fun q => ?_
 have q := Classical.byContradiction q
 rw [decide_eq_true q, Bool.true_and]
 have f := fitting q
 have hth := Ud h.inv f
 refine wC (w_f4a h hth.1 hth.2) fun (a : TA6) ha => ?_
 rw [← ha]
 have hf := Oi f.re f.ft
 have hre := Bj f.re
 have hrg := fun z => Ez h.inv f z
 rw [← ha] at hf hrg
 have n0 := h.inv.n0
 change 0 ≤ s.Gz at n0
 have htk : 0 ≤ e.AG ∧ e.AG < 4611686018427387904 := ⟨he.tk.1, hre.2.2.2.1⟩
 have tu : As e.Kind = true → D_f3j.wp (p, (s, (a, (e, true)))) fun y => y = KD (aS s) (Dd a) e := fun z => by
  have h1 := Ap.1 z
  obtain ⟨r1, _, r2⟩ := hrg (CF z)
  refine (w_f3j h a true r1 r2 htk).mono fun y hy => ?_
  rw [hy]
  unfold KD
  simp only
  rw [if_neg (by omega), if_neg (by omega), if_neg (by omega), if_neg (by omega)]
  by_cases k1 : e.Kind = 1
  · rw [if_pos k1, decide_eq_true k1]; simp
  · rw [if_neg k1, decide_eq_false k1, z]; simp
 have tr : As e.Kind = true → (TT.call con_f3j (p, (s, (a, (e, true)))) fun (y3 : R_f3j) => .ret y3 : TT Tryz.prog R_f3f).wp fun y => y = KD (aS s) (Dd a) e := fun z => wC (tu z) fun y hy => hy
 have rf : 5 ≤ e.Kind ∧ e.Kind ≤ 7 → (TT.call con_f10 (p, (s, (a, e))) fun (y3 : R_f10) => .ret y3 : TT Tryz.prog R_f3f).wp fun y => y = KD (aS s) (Dd a) e := fun z => by
  obtain ⟨r1, r2, _⟩ := hrg (Bb.2 (by omega))
  refine wC (w_f10 h a r1 (hf.f5 z) fun q => r2 (.inl q)) fun y hy => ?_
  show y = _
  rw [hy]
  unfold KD
  simp only
  by_cases k6 : e.Kind = 6
  · rw [if_neg (by omega), if_pos k6, decide_eq_true k6]
    generalize (DP (aS s) e.Ring).Aw = c
    cases F8 (DP (aS s) e.Ring) (Dd a) <;> cases c <;> rfl
  · rw [if_pos (by omega), decide_eq_false k6]
    generalize (DP (aS s) e.Ring).Aw = c
    cases F8 (DP (aS s) e.Ring) (Dd a) <;> cases c <;> rfl
 have tk := fun z => Ap (k := e.Kind).2 z
 refine AE ieI (fun q => tr (tk (by omega))) fun n1 => AE ieI (fun q => tr (tk (by omega))) fun n2 => AE ieI (fun q => tr (tk (by omega))) fun n3 => AE ieI (fun q => tr (tk (by omega))) fun n4 => AE ieI (fun q => tr (tk (by omega))) fun n13 =>
  AE ieI (fun q => rf (by omega)) fun n5 => AE ieI (fun q => rf (by omega)) fun n6 => AE ieI (fun q => rf (by omega)) fun n7 => ?_
 unfold KD
 simp only
 rw [if_neg (by omega), if_neg (by omega)]
 have hnow : (aS s).Gz = s.Gz := rfl
 have hend : (aS s).CB = s.CB := rfl
 rw [hnow, hend]
 refine A4 (g := id) ieI (fun _ => ?_) fun n8 => A4 (g := id) ieI (fun _ => rfl) fun n10 => ?_
 · have := he.vl
   refine AE leI (fun z => ?_) fun z => (decide_eq_false fun w => z w.1).symm
   rw [Aj (by have := this.1; omega) (by have := this.2; omega)]
   exact BN (by rw [decide_eq_true_eq]; exact ilI.trans ⟨fun w => ⟨z, w⟩, fun w => w.2⟩)
 · rw [if_neg n1, show As e.Kind = false from Bool.eq_false_iff.2 fun z => by rw [Ap] at z; omega]; rfl
end
def UV (m : MS) : Prop := ∀ r ∈ m.AJ, ∀ x ∈ r.Am, CK x.Value
theorem Qr {i : TIn} {t : MT} (hk : CK i.K) (h : ∀ j, CK (t.Af j)) : ∀ j, CK ((DW i t).Af j) := by
 unfold DW
 repeat' split
 · exact BE h hk
 · exact BE h (h _)
 · exact h
 · exact BE h (KH (h _) (h _))
 · exact h
theorem O4 {l : List TIn} (hl : ∀ i ∈ l, CK i.K) : ∀ (n : Nat) (t : MT), (∀ j, CK (t.Af j)) → 0 ≤ t.At → (∀ n' : Nat, 0 ≤ (Dc l n' t).At) → ∀ j, CK ((Dc l n t).Af j)
 | 0, _, h, _, _ => h
 | n + 1, t, h, h0, hA => by
   unfold Dc
   split
   · rename_i hc
     have hs : ∀ n' : Nat, 0 ≤ (Dc l n' (DW (gI l t.At) t)).At := fun n' => by rw [← Ie hc]; exact hA _
     exact O4 hl n _ (Qr (hl _ (HL h0 hc.1)) h) (hs 0) hs
   · exact h
theorem NJ {rs : List TRg} {l : List TIn} {t : MT} (hc : Ge rs l) (hl : ∀ i ∈ l, CK i.K) (hT : Et l t) (h : ∀ j, CK (t.Af j)) : (∀ j, CK ((B0 l t).1.Af j)) ∧ CK (B0 l t).2.Value := by
 unfold B0
 repeat' split
 · exact ⟨h, CA⟩
 · exact ⟨h, h _⟩
 · exact ⟨h, CA⟩
 · have hr := O4 hl 256 t h hT.a0 fun n => (Gj hc n t hT.a0 hT.a1).2.1
   refine ⟨hr, ?_⟩
   simp only [Ek]
   repeat' split
   all_goals first | exact CA | exact hr _
theorem HA {r : MR} (h : ∀ x ∈ r.Am, CK x.Value) (t : Int) : CK (Av r t).Value := by
 unfold Av
 rw [List.getD_eq_getElem?_getD]
 cases q : r.Am[GD r t]? with
 | none => exact CA
 | some x => exact h _ (List.mem_of_getElem? q)
theorem Lu {m : MS} (h : UV m) (i : Int) : ∀ x ∈ (DP m i).Am, CK x.Value := by
 unfold DP
 rw [List.getD_eq_getElem?_getD]
 cases q : m.AJ[i.toNat]? with
 | none => intro x hx; cases hx
 | some x => exact h _ (List.mem_of_getElem? q)
theorem Po {r : MR} {a : MA} {e : TEv} (h : ∀ x ∈ r.Am, CK x.Value) (ha : CK a.Value) : ∀ x ∈ (Bm r a e).Am, CK x.Value := by
 unfold Bm
 repeat' split
 · exact h
 · intro x hx
   rcases List.mem_or_eq_of_mem_set hx with q | q
   · exact h x q
   · subst q; exact ha
 · exact h
 · intro x hx
   rcases List.mem_or_eq_of_mem_set hx with q | q
   · exact h x q
   · subst q
     unfold KF
     split
     · exact CA
     · exact HA h _
 · exact h
 · exact h
theorem Lb {P : MP} {m : MS} {e : TEv} (h : UV m) (ha : CK (Bv P m e.Thread).Value) : UV (An P m e) := by
 intro r hr
 unfold An at hr
 simp only at hr
 split at hr
 · rcases List.mem_or_eq_of_mem_set hr with q | q
   · exact h r q
   · subst q; exact Po (Lu h _) ha
 · exact h r hr
theorem R8 {P : MP} : UV (FF P) := by
 intro r hr x hx
 simp only [FF, List.mem_map] at hr
 obtain ⟨c, _, rfl⟩ := hr
 simp only [F9, List.mem_map] at hx
 obtain ⟨i, _, rfl⟩ := hx
 exact CA
theorem G6.k {p : TPg} (h : G6 p) {t : Nat} (ht : t < p.AB.n) : ∀ i ∈ (p.AB.get t).L, CK i.K := fun i hi => by
 obtain ⟨j, hj, rfl⟩ := Sl.Ch.1 hi
 exact (h.ins t ht j hj).1
theorem w_fo (l : Sl TIn) (t : TTh) (e : TEv) (v : Int) (b : Nat) (hb : b * 8 + 8 ≤ 140737488351232) (hl : NG l) (hc : codeOk l) (ht : Df b t) (h0 : 0 ≤ t.At) (hv : CK v) (hev : CK e.Value) (het : CK e.AG)
 (I7 : e.Kind ≠ 1 → e.Kind ≠ 3 → e.Kind ≠ 14 → e.Kind ≠ 15 → t.At < l.n) :
 D_fo.wp (l, (t, (e, v))) fun y => aT y = BG (gI l.L t.At) (aT t) e v ∧ Df (b + 1) y := by
 have hsb := ht.sb
 have ok : ∀ {g : TTh}, (0 ≤ g.AG ∧ g.AG < 18446744073709551616) → g.Af = t.Af → g.Seen = t.Seen → Df (b + 1) g := fun {g} h1 h2 h3 => ⟨h1.1, h1.2, by rw [h2]; exact ht.rg, by rw [h3]; exact ht.sz, by rw [h3]; omega⟩
 refine of_wp ?_
 simp only [tt_fo]
 refine AE ieI (fun h => ⟨by rw [UQ _ h, h]; rfl, ok het rfl rfl⟩) fun h1 => AE ieI (fun h => ⟨by rw [UP _ h, h]; rfl, ok het rfl rfl⟩) fun h3 => AE ieI (fun h => ⟨by rw [R2 _ h, h]; rfl, ok ⟨ht.k0, ht.k1⟩ rfl rfl⟩) fun h14 =>
  AE ieI (fun h => ⟨by rw [R1 _ h, h]; rfl, ok ⟨ht.k0, ht.k1⟩ rfl rfl⟩) fun h15 => of_wp ?_
 have h2 := I7 h1 h3 h14 h15
 have h256 := hc.1
 have hF := K1 hl hc h0 h2
 rw [G2 l h0 h2]
 simp only [tt_fo_12]
 generalize l.get t.At.toNat = i at hF
 have hf := A5 hF.ri
 have hA : Az i.A 8 = true := by rw [ibI]; omega
 have hB : Az i.B 8 = true := by rw [ibI]; omega
 have hw : IntKind.i64.wrap (t.At + 1) = t.At + 1 := wrap64 (by omega) (by omega)
 have u1 : CK 1 := by unfold CK; decide
 have u2 : CK 2 := by unfold CK; decide
 have u3 : CK 3 := by unfold CK; decide
 rw [KG h1 h3 h14 h15]
 simp only [hA, hB, HX, Nat.zero_add, Ka, cond_false, Nat.sub_zero]
 refine wN (by rw [ibI]; exact ⟨h0, h2⟩) ?_
 have h23 : ∀ (g : Nat → Int) (sn : Sl Int) (z : TTh), (∀ j, CK (g j)) → CN sn → sn.n ≤ b + 1 →
  D_fo_33.wp (⟨⟨t.At, t.Phase, t.Ring, t.Status, t.AG, g, sn⟩, z⟩ : X_fo_33) fun y => aT y = ⟨t.At + 1, 0, 0, t.Status, 0, g, sn.L⟩ ∧ Df (b + 1) y := fun g sn z hg hs hn => by
  refine of_wp ?_
  simp only [tt_fo_33, hw]
  exact ⟨rfl, ⟨Int.le_refl 0, (by decide : (0 : Int) < 18446744073709551616), hg, hs, hn⟩⟩
 have e0 : (aT t).At = t.At := rfl
 have e1 : (aT t).Af = t.Af := rfl
 have e2 : (aT t).Seen = t.Seen.L := rfl
 have e3 : (aT t).Status = t.Status := rfl
 simp only [e0, e1, e2, e3]
 have go : ∀ (g : Nat → Int) (z : TTh), (∀ j, CK (g j)) → D_fo_33.wp (⟨⟨t.At, t.Phase, t.Ring, t.Status, t.AG, g, t.Seen⟩, z⟩ : X_fo_33) fun y => aT y = ⟨t.At + 1, 0, 0, t.Status, 0, g, t.Seen.L⟩ ∧ Df (b + 1) y :=
  fun g z hg => h23 g t.Seen z hg ht.sz (by omega)
 have w5 : IntKind.u64.wrap (IntKind.i64.wrap (5 - 4)) = 1 := rfl
 have w6 : IntKind.u64.wrap (IntKind.i64.wrap (6 - 4)) = 2 := rfl
 have w7 : IntKind.u64.wrap (IntKind.i64.wrap (7 - 4)) = 3 := rfl
 refine AE ieI (fun h => ?_) fun n2 => AE ieI (fun h => ?_) fun n4 => AE ieI (fun h => ?_) fun n5 => AE ieI (fun h => ?_) fun n6 => AE ieI (fun h => ?_) fun n7 => AE ieI (fun h => ?_) fun n8 => AE ieI (fun h => ?_) fun n9 =>
  AE ieI (fun h => ?_) fun n10 => AE ieI (fun h => ?_) fun n11 => AE ieI (fun h => ?_) fun n12 => ?_
 · simp only [h, if_true, Int.reduceEq, if_false]; exact wN rfl (go _ _ (BE ht.rg CA))
 · simp only [h, if_true, Int.reduceEq, if_false]; exact wN rfl (wN rfl (go _ _ (BE (BE ht.rg hv) CA)))
 · rw [h, w5]; simp only [if_true, Int.reduceEq, if_false]; exact wN rfl (go _ _ (BE ht.rg u1))
 · rw [h, w6]; simp only [if_true, Int.reduceEq, if_false]; exact wN rfl (go _ _ (BE ht.rg u2))
 · rw [h, w7]; simp only [if_true, Int.reduceEq, if_false]; exact wN rfl (go _ _ (BE ht.rg u3))
 · simp only [h, if_true, Int.reduceEq, if_false]; exact wN rfl (go _ _ (BE ht.rg hev))
 · simp only [h, if_true, Int.reduceEq, if_false]; exact wN rfl (go _ _ (BE ht.rg hev))
 · simp only [h, if_true, Int.reduceEq, if_false]; exact wN rfl (wN rfl (go _ _ (BE (BE ht.rg hev) CA)))
 · simp only [h, if_true, Int.reduceEq, if_false]; exact wN rfl (go _ _ (BE ht.rg u1))
 · simp only [h, if_true, Int.reduceEq, if_false]
   refine wN (by simp [room]; omega) (wN (by simp [room]; omega) ?_)
   have := h23 t.Af (snoc t.Seen e.Value) ⟨0, 0, 0, 0, 0, fun _ => 0, ⟨true, 0, fun _ => 0⟩⟩ ht.rg (fun z => by cases z) (by show t.Seen.n + 1 ≤ b + 1; omega)
   rw [Qt] at this
   exact this
 · rw [if_neg n2, if_neg n4, if_neg n5, if_neg n6, if_neg n7, if_neg n8, if_neg n9, if_neg n10, if_neg n11, if_neg n12]
   exact go _ _ ht.rg
theorem map_set {α β : Type} (f : α → β) (l : List α) (k : Nat) (x : α) : (l.set k x).map f = (l.map f).set k (f x) := by
 apply List.ext_getElem
 · simp
 · intro i h1 h2
   simp only [List.getElem_map]
   by_cases e : k = i
   · subst e; simp
   · simp [List.getElem_set_ne e]
section
variable {p : TPg} {k : Nat} {e : TEv}
theorem l_f6_25 (st : TSt) (z n : TTh) (zz : TSt) (v : Int) (hp : G6 p) (hP : De (aP p)) (h0 : 0 ≤ e.Thread) (h1 : e.Thread < p.AB.n) (hn : st.AB.n = p.AB.n) (hts : ∀ t, t < st.AB.n → Df k (st.AB.get t)) (hk : k ≤ 1000000000)
 (hw : Df k n) (hn0 : 0 ≤ n.At) (hv : CK v) (he : P2 e) (I7 : e.Kind ≠ 1 → e.Kind ≠ 3 → e.Kind ≠ 14 → e.Kind ≠ 15 → n.At < (p.AB.get e.Thread.toNat).n) :
 D_f6_25.wp (⟨p, e, v, st, zz, n⟩ : X_f6_25) fun y => aS y = ⟨(aS st).AB.set e.Thread.toNat (BG (gI (Bo (aP p) e.Thread) n.At) (aT n) e v), (aS st).AJ, st.Gz, st.Reads, st.CB⟩ ∧ ∀ t, t < y.AB.n → Df (k + 1) (y.AB.get t) := by
 have h8 := (BV hP).2.1
 have ht : e.Thread.toNat < p.AB.n := by omega
 refine of_wp ?_
 simp only [tt_f6_25, Nat.zero_add, Ka, cond_false, Nat.sub_zero]
 refine wN (by simp [room]; omega) (wN (by rw [ibI]; omega) ?_)
 refine wC (w_fo _ n e v k (by omega) (hp.c ht) (MK hP ht) hw hn0 hv he.vl he.tk I7) fun (y : TTh) hy => wN (by rw [ibI]; omega) (wN (by simp) (wN (by simp) (Cr ?_)))
 have key : ∀ {Q : Sl TTh → Prop}, Q (Sl.mk false st.AB.n (IG st.AB e.Thread.toNat y).get) → Q (Sl.mk (cond (Nat.beq st.AB.n 0) false false) st.AB.n fun i => (TTh.mk (cond (Nat.beq i e.Thread.toNat) y.At (st.AB.get i).At) (cond (Nat.beq i e.Thread.toNat) y.Phase (st.AB.get i).Phase) (cond (Nat.beq i e.Thread.toNat) y.Ring (st.AB.get i).Ring) (cond (Nat.beq i e.Thread.toNat) y.Status (st.AB.get i).Status)
  (cond (Nat.beq i e.Thread.toNat) y.AG (st.AB.get i).AG) (fun j => cond (Nat.beq i e.Thread.toNat) (y.Af j) ((st.AB.get i).Af j)) (Sl.mk (cond (Nat.beq i e.Thread.toNat) y.Seen.nil (st.AB.get i).Seen.nil) (cond (Nat.beq i e.Thread.toNat) y.Seen.n (st.AB.get i).Seen.n) (fun j => cond (Nat.beq i e.Thread.toNat) (y.Seen.get j) ((st.AB.get i).Seen.get j))))) := fun {Q} hh => by
  rw [Bool.cond_self]
  refine (congrArg (fun g => Q (Sl.mk false st.AB.n g)) (funext fun i => ?_)).mp hh
  show cond (Nat.beq i e.Thread.toNat) y (st.AB.get i) = _
  cases Nat.beq i e.Thread.toNat <;> rfl
 refine key (Q := fun T => (TT.ret (⟨T, st.AJ, st.Gz, st.Reads, st.CB⟩ : TSt) : TT Tryz.prog R_f6).wp _) ?_
 refine ⟨?_, fun t htt => ?_⟩
 · show (⟨List.map aT (Sl.L _), _, _, _, _⟩ : MS) = _
   have hL : (⟨false, st.AB.n, (IG st.AB e.Thread.toNat y).get⟩ : Sl TTh).L = st.AB.L.set e.Thread.toNat y := by rw [← Fj]; rfl
   rw [hL, map_set, hy.1, Ea h0 h1]
   rfl
 · show Df (k + 1) ((IG st.AB e.Thread.toNat y).get t)
   by_cases q : t = e.Thread.toNat
   · subst q; rw [O3]; exact hy.2
   · rw [O2 q]; exact (hts t htt).grow (by omega)
end
theorem w_f3k' (r : TR3) (hn : r.AY.n ≤ 8) (hl : r.S.L.n ≤ 64) : D_f3k.wp r fun y => Kk y = Cp r ∧ CN y.AY ∧ CN y.Am := by
 refine of_wp ?_
 simp only [tt_f3k, Nat.zero_add, Ka, cond_false, Nat.sub_zero]
 refine wN (by simp [room]; omega) (wN (by simp [room]; omega) ⟨rfl, fun e => ?_, fun e => ?_⟩)
 · simp only [Bool.cond_self, Bool.false_eq_true] at e
 · simp only [Bool.cond_self, Bool.false_eq_true] at e
section
variable {p : TPg} {B : Int} {k : Nat} {s : TSt} {e : TEv}
structure Bh (p : TPg) (k : Nat) (e : TEv) (n : TTh) (v : Int) : Prop where
 hp : G6 p
 hP : De (aP p)
 t0 : 0 ≤ e.Thread
 t1 : e.Thread < p.AB.n
 hk : k ≤ 1000000000
 hw : Df k n
 n0 : 0 ≤ n.At
 hv : CK v
 he : P2 e
 I7 : e.Kind ≠ 1 → e.Kind ≠ 3 → e.Kind ≠ 14 → e.Kind ≠ 15 → n.At < (p.AB.get e.Thread.toNat).n
def OB (p : TPg) (ts : List MT) (e : TEv) (n : TTh) (v : Int) : List MT := ts.set e.Thread.toNat (BG (gI (Bo (aP p) e.Thread) n.At) (aT n) e v)
theorem l_f6_19 (st zz : TSt) (z n : TTh) (v : Int) (h : Bh p k e n v) (hn : st.AB.n = p.AB.n) (hts : ∀ t, t < st.AB.n → Df k (st.AB.get t)) :
 D_f6_19.wp (⟨p, e, v, st, zz, n⟩ : X_f6_19) fun y => aS y = ⟨OB p (aS st).AB e n v, (aS st).AJ, if e.Kind = 8 then max st.Gz e.Value else st.Gz, if e.Kind = 10 then IntKind.u64.wrap (st.Reads + 1) else st.Reads, if e.Kind = 11 then true else st.CB⟩ ∧ ∀ t, t < y.AB.n → Df (k + 1) (y.AB.get t) := by
 have h25 : ∀ now rd en, D_f6_25.wp (⟨p, e, v, ⟨st.AB, st.AJ, now, rd, en⟩, zz, n⟩ : X_f6_25) fun y => aS y = ⟨OB p (aS st).AB e n v, (aS st).AJ, now, rd, en⟩ ∧ ∀ t, t < y.AB.n → Df (k + 1) (y.AB.get t) := fun now rd en =>
  l_f6_25 ⟨st.AB, st.AJ, now, rd, en⟩ z n zz v h.hp h.hP h.t0 h.t1 hn hts h.hk h.hw h.n0 h.hv h.he h.I7
 have h23 : ∀ now rd, D_f6_23.wp (⟨p, e, v, ⟨st.AB, st.AJ, now, rd, st.CB⟩, zz, n⟩ : X_f6_23) fun y => aS y = ⟨OB p (aS st).AB e n v, (aS st).AJ, now, rd, if e.Kind = 11 then true else st.CB⟩ ∧ ∀ t, t < y.AB.n → Df (k + 1) (y.AB.get t) := fun now rd => by
  refine of_wp ?_
  simp only [tt_f6_23]
  refine AE ieI (fun q => ?_) fun q => ?_
  · rw [if_pos q]; exact h25 _ _ _
  · rw [if_neg q]; exact h25 _ _ _
 have h21 : ∀ now, D_f6_21.wp (⟨p, e, v, ⟨st.AB, st.AJ, now, st.Reads, st.CB⟩, zz, n⟩ : X_f6_21) fun y => aS y = ⟨OB p (aS st).AB e n v, (aS st).AJ, now, if e.Kind = 10 then IntKind.u64.wrap (st.Reads + 1) else st.Reads, if e.Kind = 11 then true else st.CB⟩ ∧ ∀ t, t < y.AB.n → Df (k + 1) (y.AB.get t) := fun now => by
  refine of_wp ?_
  simp only [tt_f6_21]
  refine AE ieI (fun q => ?_) fun q => ?_
  · rw [if_pos q]; exact h23 _ _
  · rw [if_neg q]; exact h23 _ _
 refine of_wp ?_
 simp only [tt_f6_19]
 refine AE ieI (fun q => AE ilI (fun q2 => ?_) fun q2 => ?_) fun q => ?_
 · rw [if_pos q, Int.max_eq_right (Int.le_of_lt q2)]; exact h21 _
 · rw [if_pos q, Int.max_eq_left (Int.not_lt.1 q2)]; exact h21 _
 · rw [if_neg q]; exact h21 _
theorem l_f6_16 (st zz : TSt) (n : TTh) (v : Int) (r : TR3) (h : Bh p k e n v) (hn : st.AB.n = p.AB.n) (hts : ∀ t, t < st.AB.n → Df k (st.AB.get t)) (hr8 : st.AJ.n ≤ 8) (hr : 0 ≤ e.Ring ∧ e.Ring < st.AJ.n) (r8 : r.AY.n ≤ 8) (r64 : r.S.L.n ≤ 64) :
 D_f6_16.wp (⟨p, e, v, st, zz, n, r⟩ : X_f6_16) fun y => aS y = ⟨OB p (aS st).AB e n v, (aS st).AJ.set e.Ring.toNat (Cp r), if e.Kind = 8 then max st.Gz e.Value else st.Gz, if e.Kind = 10 then IntKind.u64.wrap (st.Reads + 1) else st.Reads, if e.Kind = 11 then true else st.CB⟩ ∧ ∀ t, t < y.AB.n → Df (k + 1) (y.AB.get t) := by
 refine of_wp ?_
 simp only [tt_f6_16, Nat.zero_add, Ka, cond_false, Nat.sub_zero]
 refine wN (by simp [room]; omega) (wC (w_f3k' r r8 r64) fun (y : TRs) hy => wN (by rw [ibI]; exact hr) (wN (by simp) (wN (by simp) (Cr ?_))))
 have key : ∀ {Q : Sl TRs → Prop}, Q (Sl.mk false st.AJ.n (IG st.AJ e.Ring.toNat y).get) → Q (Sl.mk (cond (Nat.beq st.AJ.n 0) false false) st.AJ.n fun i => (TRs.mk (cond (Nat.beq i e.Ring.toNat) y.Au (st.AJ.get i).Au)
  (Sl.mk (cond (Nat.beq i e.Ring.toNat) y.AY.nil (st.AJ.get i).AY.nil) (cond (Nat.beq i e.Ring.toNat) y.AY.n (st.AJ.get i).AY.n) (fun j => cond (Nat.beq i e.Ring.toNat) (y.AY.get j) ((st.AJ.get i).AY.get j))) (cond (Nat.beq i e.Ring.toNat) y.Aw (st.AJ.get i).Aw)
  (Sl.mk (cond (Nat.beq i e.Ring.toNat) y.Am.nil (st.AJ.get i).Am.nil) (cond (Nat.beq i e.Ring.toNat) y.Am.n (st.AJ.get i).Am.n) (fun j => (TSo.mk (cond (Nat.beq i e.Ring.toNat) (y.Am.get j).AO ((st.AJ.get i).Am.get j).AO) (cond (Nat.beq i e.Ring.toNat) (y.Am.get j).Value ((st.AJ.get i).Am.get j).Value) (cond (Nat.beq i e.Ring.toNat) (y.Am.get j).Left ((st.AJ.get i).Am.get j).Left)))))) := fun {Q} hh => by
  rw [Bool.cond_self]
  refine (congrArg (fun g => Q (Sl.mk false st.AJ.n g)) (funext fun i => ?_)).mp hh
  show cond (Nat.beq i e.Ring.toNat) y (st.AJ.get i) = _
  cases Nat.beq i e.Ring.toNat <;> rfl
 refine key (Q := fun T => (TT.jump S_f6_19 D_f6_19 (⟨p, e, v, (⟨st.AB, T, st.Gz, st.Reads, st.CB⟩ : TSt), zz, n⟩ : X_f6_19) : TT Tryz.prog R_f6).wp _) ?_
 have := l_f6_19 (k := k) ⟨st.AB, Sl.mk false st.AJ.n (IG st.AJ e.Ring.toNat y).get, st.Gz, st.Reads, st.CB⟩ zz n n v h hn hts
 have hL : (aS ⟨st.AB, Sl.mk false st.AJ.n (IG st.AJ e.Ring.toNat y).get, st.Gz, st.Reads, st.CB⟩).AJ = (aS st).AJ.set e.Ring.toNat (Cp r) := by
  show (Sl.L _).map Kk = _
  have hL : (Sl.mk false st.AJ.n (IG st.AJ e.Ring.toNat y).get : Sl TRs).L = st.AJ.L.set e.Ring.toNat y := by rw [← Fj]; rfl
  rw [hL, map_set, hy.1]; rfl
 rw [hL] at this
 exact this
theorem w_f6 (h : SC p B k s) (uv : UV (aS s)) (he : P2 e) (f : DT (aP p) (aS s) e) (ht : As e.Kind = true → DA (DP (aS s) e.Ring) (Bv (aP p) (aS s) e.Thread) e = true) :
 D_f6.wp (p, (s, e)) fun y => aS y = An (aP p) (aS s) e ∧ ∀ t, t < y.AB.n → Df (k + 1) (y.AB.get t) := by
 obtain ⟨t0, t1⟩ := Ud h.inv f
 have htn := h.tn
 have hrn := h.rn
 have h8 := h.small
 have hre := Bj f.re
 have hf := Oi f.re f.ft
 refine of_wp ?_
 simp only [tt_f6]
 refine wN (by rw [ibI]; omega) (wN (by rw [ibI]; omega) (wC (Jl h t0 t1) fun (y : TTh × TA6) hy => ?_))
 obtain ⟨n, a⟩ := y
 obtain ⟨hn, ha, hw⟩ := hy
 simp only at hn ha hw
 have htk : 0 ≤ e.AG ∧ e.AG < 4611686018427387904 := ⟨he.tk.1, hre.2.2.2.1⟩
 obtain ⟨hq, hnT, hkp, hcr⟩ := h.inv.asked f.lt
 rw [← hn] at hq hnT
 have n0 : 0 ≤ n.At := hnT.a0
 have I7 : e.Kind ≠ 14 → e.Kind ≠ 15 → n.At < (p.AB.get e.Thread.toNat).n := fun q1 q2 => by
  have := Rl hq hf hre.1 q1 q2
  rw [Ea t0 t1, Sl.BL] at this
  exact this
 have bh : ∀ v, CK v → Bh p k e n v := fun v hv => ⟨h.hp, h.inv.pi, t0, t1, h.hk, hw, n0, hv, he, fun _ _ q1 q2 => I7 q1 q2⟩
 have thr_eq : ∀ v, v = (if e.Kind = 4 then (Av (DP (aS s) e.Ring) e.AG).Value else 0) → OB p (aS s).AB e n v = (An (aP p) (aS s) e).AB := fun v hv => by
  unfold OB An
  simp only
  rw [← hn, hv]
  rfl
 -- with a ring
 have ring : As e.Kind = true → (∀ (r : TR3) (v : Int), CK v → v = (if e.Kind = 4 then (Av (DP (aS s) e.Ring) e.AG).Value else 0) → Cp r = Bm (DP (aS s) e.Ring) (Bv (aP p) (aS s) e.Thread) e → ∀ zz,
  D_f6_16.wp (⟨p, e, v, s, zz, n, r⟩ : X_f6_16) fun y => aS y = An (aP p) (aS s) e ∧ ∀ t, t < y.AB.n → Df (k + 1) (y.AB.get t)) := fun q r v hv hve hr zz => by
  obtain ⟨r1, _, r2⟩ := Ez h.inv f (CF q)
  have hR := h.inv.OP (i := e.Ring) (by simp [aP]; omega)
  have ho := Ez h.inv f (CF q)
  have hI := Mt hR.1 hR.2 h.hB he.tk.1 (by rw [MM r1.1 r1.2]; exact ho.2.1) hf (ht q)
  rw [← hr] at hI
  have hc := CQ hR.2
  have c1 := hI.cap
  have c2 := hI.rd
  simp only [Cp, Sl.BL] at c1 c2
  refine (l_f6_16 (k := k) s zz n v r (bh v hv) htn h.ts (by omega) (by omega) (by omega) (by omega)).mono fun y hy => ⟨?_, hy.2⟩
  rw [hy.1, thr_eq v hve, hr]
  have h1 := Ap.1 q
  unfold An
  simp only
  rw [if_pos q]
  rfl
 have vz : e.Kind ≠ 4 → (0 : Int) = (if e.Kind = 4 then (Av (DP (aS s) e.Ring) e.AG).Value else 0) := fun q => by rw [if_neg q]
 have wr := fun (q : As e.Kind = true) => (w_f3r h (Ez h.inv f (CF q)).1.1 (Ez h.inv f (CF q)).1.2)
 refine AE leI (fun k4 => ?_) fun k4 => AE ieI (fun k13 => ?_) fun k13 => ?_
 · have q : As e.Kind = true := Ap.2 (by omega)
   have hT := ht q
   unfold DA at hT
   refine wC (wr q) fun (r : TR3) hr => ?_
   obtain ⟨h3, hr⟩ := hr
   rw [← hr, ← ha] at hT
   have hn3 := h3.hn
   have ho := Ez h.inv f (CF q)
   rw [← ha] at ho
   refine AE ieI (fun k1 => ?_) fun n1 => AE ieI (fun k2 => ?_) fun n2 => AE ieI (fun k3 => ?_) fun n3 => AE ieI (fun k4 => ?_) fun n4 => by omega
   · refine ring q _ 0 CA (vz (by omega)) ?_ _
     have := h3.t
     unfold Bm
     rw [if_pos k1, ← hr, Aj (z := r.Au + 1) (by omega) (by omega)]; rfl
   · rw [if_neg n1, if_pos k2] at hT
     refine wC (w_f36 h3 htk.1 htk.2) fun (y : Int × TR3) hy => ring q _ 0 CA (vz (by omega)) ?_ _
     unfold Bm
     rw [if_neg n1, if_pos k2, hy.2 hT, ← hr, ← ha]; rfl
   · rw [if_neg n1, if_neg n2, if_pos k3] at hT
     simp only [Bool.and_eq_true, Bool.not_eq_true', decide_eq_true_eq] at hT
     obtain ⟨j0, j1⟩ := ho.2.2 (.inl k3)
     refine wC (w_f2w h3 (j := a.Reader) j0 (by show (Dd a).Reader < _; omega) hT.1) fun (y : Int × Int × TR3) hy => ring q _ 0 CA (vz (by omega)) ?_ _
     unfold Bm
     rw [if_neg n1, if_neg n2, if_pos k3, hy, ← hr, ← ha]; rfl
   · rw [if_neg n1, if_neg n2, if_neg n3, if_pos k4] at hT
     obtain ⟨j0, j1⟩ := ho.2.2 (.inr k4)
     refine wC (w_f1m h3 h.hB (j := a.Reader) j0 (by show (Dd a).Reader < _; omega) htk.1) fun (y : Int × Int × TR3) hy => ?_
     obtain ⟨hv, hy2⟩ := hy.2 hT
     refine ring q _ _ ?_ ?_ ?_ _
     · rw [hv, hr]; exact HA (Lu uv _) _
     · rw [hv, hr, if_pos k4]
     · unfold Bm
       rw [if_neg n1, if_neg n2, if_neg n3, if_pos k4, hy2, ← hr, ← ha]; rfl
 · have q : As e.Kind = true := Ap.2 (by omega)
   refine wC (wr q) fun (r : TR3) hr => ?_
   obtain ⟨h3, hr⟩ := hr
   refine AE ieI (fun z => by omega) fun n1 => AE ieI (fun z => by omega) fun n2 => AE ieI (fun z => by omega) fun n3 => AE ieI (fun z => by omega) fun n4 => AE ieI (fun _ => ?_) fun z => absurd k13 z
   refine ring q _ 0 CA (vz n4) ?_ _
   unfold Bm
   rw [if_neg n1, if_neg n2, if_neg n3, if_neg n4, if_pos k13, ← hr]; rfl
 · have q : As e.Kind = false := Bool.eq_false_iff.2 fun z => by rw [Ap] at z; omega
   refine (l_f6_19 (k := k) s _ n n 0 (bh 0 CA) htn h.ts).mono fun y hy => ⟨?_, hy.2⟩
   rw [hy.1, thr_eq 0 (vz (by omega))]
   unfold An
   simp only [q, Bool.false_eq_true, if_false]
   rfl
structure SV (p : TPg) (B : Int) (k : Nat) (s : TSt) : Prop where
 sc : SC p B k s
 uv : UV (aS s)
theorem S8 (h : SV p B k s) {t : Int} (h0 : 0 ≤ t) (h1 : t < p.AB.n) : CK (Bv (aP p) (aS s) t).Value := by
 have htn := h.sc.tn
 unfold Bv
 rw [Ea h0 h1, OA h0 (by omega)]
 exact (NJ (Gx h.sc.inv h0 h1) (h.sc.hp.k (by omega)) (h.sc.JI h0 h1) (h.sc.ts _ (by omega)).rg).2
theorem SV.behind (h : SV p B k s) (he : P2 e) (f : DT (aP p) (aS s) e) (ht : As e.Kind = true → DA (DP (aS s) e.Ring) (Bv (aP p) (aS s) e.Thread) e = true) (hB : B + 1 ≤ 2305843009213693952) (hk : k + 1 ≤ 1000000000) :
 D_f6.wp (p, (s, e)) fun y => aS y = An (aP p) (aS s) e ∧ SV p (B + 1) (k + 1) y :=
 (w_f6 h.sc h.uv he f ht).mono fun y hy => by
   obtain ⟨t0, t1⟩ := Ud h.sc.inv f
   exact ⟨hy.1, ⟨h.sc.hp, by rw [hy.1]; exact KO h.sc.inv h.sc.hB he.tk.1 f ht, hy.2, hB, hk⟩, by rw [hy.1]; exact Lb h.uv (S8 h t0 t1)⟩
theorem SV.grow (h : SV p B k s) (hB : B + 1 ≤ 2305843009213693952) (hk : k + 1 ≤ 1000000000) : SV p (B + 1) (k + 1) s :=
 ⟨⟨h.sc.hp, h.sc.inv.mono (by omega), fun t ht => (h.sc.ts t ht).grow (by omega), hB, hk⟩, h.uv⟩
theorem w_f4i (h : SV p B k s) (he : P2 e) (hB : B + 1 ≤ 2305843009213693952) (hk : k + 1 ≤ 1000000000) : D_f4i.wp (p, (s, e)) fun y => y.1 = (Qg (aP p) (aS s) e).1 ∧ aS y.2 = (Qg (aP p) (aS s) e).2 ∧ SV p (B + 1) (k + 1) y.2 := by
 refine of_wp ?_
 simp only [tt_f4i]
 refine wC (w_f3y h.sc) fun (y : Int) hy => ?_
 subst hy
 unfold Qg
 refine AE (p := EH (aP p) (aS s) e ≠ 0) (by rw [bnI, ieI]) (fun q => ?_) fun q => wC (w_f3f h.sc he) fun (y : Bool) hy => ?_
 · rw [if_pos q]; exact ⟨rfl, rfl, h.grow hB hk⟩
 · subst hy
   rw [if_neg q]
   refine AE bnI (fun q2 => ?_) fun q2 => ?_
   · rw [if_pos (by simpa using q2)]; exact ⟨rfl, rfl, h.grow hB hk⟩
   · have hA := Classical.byContradiction q2
     rw [if_neg (by rw [hA]; simp)]
     obtain ⟨f, _, hm⟩ := Gc hA
     exact wC (h.behind he f (fun z => NK (p := aP p) hm f.re z) hB hk) fun (y : TSt) hy => ⟨rfl, hy⟩
end
structure FC (p : TPg) (B : Int) (k : Nat) (f : TFa) : Prop where
 hp : G6 p
 inv : Eu (aP p) B (aF f)
 wf : FWf p k f
 uv : UV (aF f)
 hB : B ≤ 2305843009213693952
 hk : k ≤ 1000000000
theorem Dg {P : Program} {R : Type} {b1 b2 : Bool} {pr : Prop} {r : R} {Q : R → Prop} (h1 : b1 = true) (h2 : b2 = true) (h : Q r) : (TT.need b1 (TT.side pr (TT.need b2 (TT.ret r))) : TT P R).wp Q := ⟨h1, h2, h⟩
section
variable {p : TPg} {B : Int} {k : Nat} {f : TFa} {e : TEv}
theorem FC.code (h : FC p B k f) {t : Int} (h0 : 0 ≤ t) (h1 : t < p.AB.n) : NG (f.p.AB.get t.toNat) ∧ codeOk (f.p.AB.get t.toNat) ∧ (f.p.AB.get t.toNat).L = Bo (aP p) t ∧ f.p.AB.n = p.AB.n := by
 have hc := h.wf.cp
 have ht : t.toNat < p.AB.n := by omega
 have hs := (hc.t t.toNat ht).1
 refine ⟨hs.NG (h.hp.c ht), ?_, ?_, hc.n⟩
 · exact MK (p := f.p) (by rw [hc.same]; exact h.inv.pi) (by rw [hc.n]; exact ht)
 · rw [hs.L, Ea h0 h1]
theorem FC.JI (h : FC p B k f) {t : Int} (h0 : 0 ≤ t) (h1 : t < p.AB.n) : Et (Bo (aP p) t) (aT (f.threads.get t.toNat)) := by
 have ht := h.wf.tn
 have := h.inv.JI (t := t) (by simp [aF]; omega)
 rwa [IA h0 (by omega)] at this
theorem FC.ring (h : FC p B k f) {i : Int} (h0 : 0 ≤ i) (h1 : i < p.AJ.n) : RC (p.AJ.get i.toNat) B (f.rings.get i.toNat).x ∧ (f.rings.get i.toNat).nil = false ∧ DP (aF f) i = aR (f.rings.get i.toNat).x := by
 have hr := h.wf.rn
 have hB := h.hB
 have h2 : i.toNat < f.rings.n := by omega
 have hR := h.inv.OP (i := i) (by simp [aP]; omega)
 rw [MM h0 h1, Q1 h0 (by omega)] at hR
 obtain ⟨w1, w2⟩ := h.wf.rw _ h2
 exact ⟨⟨hR.2, w2, hR.1, by omega⟩, w1, Q1 h0 (by omega)⟩
theorem Lj (t : Int) (f : TFa) : D_f1f.wp (t, f) fun y => y = true ↔ 0 ≤ t ∧ t < f.threads.n := by
 refine CW ?_
 simp only [tt_f1f]
 exact AE leI (fun h => wN (by simp) (DS ilI ⟨fun k => ⟨h, k⟩, fun k => k.2⟩)) fun h => BM fun k => h k.1
theorem HQ (h : FC p B k f) {t : Int} (h0 : 0 ≤ t) (h1 : t < p.AB.n) : D_f17.wp (t, f) fun y => aA y = Bv (aP p) (aF f) t := by
 obtain ⟨c1, c2, c3, c4⟩ := h.code h0 h1
 have htn := h.wf.tn
 have hk := h.hk
 have hT := h.JI h0 h1
 rw [← c3] at hT
 refine CW ?_
 simp only [tt_f17, Nat.zero_add]
 refine wN (by rw [ibI]; omega) (wN (by rw [ibI]; omega) (wN (by simp) ?_))
 refine wC (w_f3a _ _ k (by omega) c1 c2 hT (h.wf.tw _ (by omega))) fun (y : TTh × TAk × Int) hy => wN (by simp) ?_
 unfold Bv
 rw [IA h0 (by omega), ← c3]
 exact hy.2.1
theorem Uy (h : FC p B k f) (t : Int) : D_f1t.wp (t, f) fun y => (0 ≤ t ∧ t < p.AB.n → y.2 = 0 ∧ aA y.1 = Bv (aP p) (aF f) t) := by
 have htn := h.wf.tn
 refine CW ?_
 simp only [tt_f1t]
 refine wC (Lj t f) fun (y : Bool) hy => ?_
 refine AE bnI (fun q hh => absurd (hy.2 (by omega)) q) fun q => ?_
 have hh := hy.1 (Classical.byContradiction q)
 exact wC (HQ h hh.1 (by omega)) fun y hy _ => ⟨rfl, hy⟩
theorem QB : EH (aP p) (aF f) e = if Ba e = false then 3 else if (f.threads.n : Int) ≤ e.Thread then 5 else if (Bv (aP p) (aF f) e.Thread).Kind = 0 ∨ Cd (Bv (aP p) (aF f) e.Thread) e = false then 11 else 0 := by
 unfold EH
 rw [show ((aF f).AB.length : Int) = f.threads.n by simp [aF]]
theorem GL (h : FC p B k f) (he : P2 e) : D_f14.wp (e, f) fun y => y = EH (aP p) (aF f) e := by
 have htn := h.wf.tn
 have hk := h.hk
 refine CW ?_
 simp only [tt_f14, Nat.zero_add]
 rw [QB]
 refine wC (w_f33 e) fun (y : Bool) hy => ?_
 subst hy
 refine A4 (g := Prod.fst) (by rw [bnI]; simp) (fun _ => rfl) fun hR => ?_
 have hR : Ba e = true := by simpa using hR
 have hre := Bj hR
 refine wC (Lj e.Thread f) fun (y : Bool) hy => ?_
 refine AE bnI (fun q => ?_) fun q => ?_
 · rw [if_pos (Int.not_lt.1 fun z => q (hy.2 ⟨hre.2.1.1, z⟩))]; rfl
 · have hh := hy.1 (Classical.byContradiction q)
   have h0 := hh.1
   have h1 : e.Thread < p.AB.n := by omega
   obtain ⟨c1, c2, c3, c4⟩ := h.code h0 h1
   have hT := h.JI h0 h1
   rw [← c3] at hT
   have hcr := Gx h.inv h0 h1
   rw [← Ea h0 h1, ← c3] at hcr
   refine wN (by rw [ibI]; omega) (wN (by rw [ibI]; omega) (wN (by simp) ?_))
   refine wC (w_f2a _ _ _ e 0 k (by omega) c1 c2 hcr hT (h.wf.tw _ (by omega)) CA he.vl he.tk.1) fun (y : TTh × Int) hy => wN (by simp) ?_
   have e1 : Bv (aP p) (aF f) e.Thread = (B0 (f.p.AB.get e.Thread.toNat).L (aT (f.threads.get e.Thread.toNat))).2 := by
    unfold Bv
    rw [IA h0 (by omega), ← c3]
   rw [if_neg (by omega), e1]
   show y.2 = _
   rw [hy.1]
   unfold QC
   rw [if_neg (by rw [hR]; simp)]
theorem Kp (h : FC p B k f) (a : TAk) (hr : 0 ≤ e.Ring ∧ e.Ring < p.AJ.n) (hrd : e.Kind = 3 ∨ e.Kind = 4 → 0 ≤ a.Reader ∧ a.Reader < (p.AJ.get e.Ring.toNat).AQ) (ht : 0 ≤ e.AG) :
 D_f1b.wp (e, (a, f)) fun y => y = DA (DP (aF f) e.Ring) (aA a) e := by
 obtain ⟨hC, hnil, hrn⟩ := h.ring hr.1 hr.2
 have hn := hC.hn
 have hfr := h.wf.rn
 have e1 : (aA a).Reader = a.Reader := rfl
 refine CW ?_
 simp only [tt_f1b, Nat.zero_add]
 have nd : ((true && true) && (((Nat.beq f.rings.n f.rings.n) && (Nat.blt e.Ring.toNat f.rings.n)) && (!(f.rings.get e.Ring.toNat).nil))) = true := by simp [hnil]; omega
 have nd2 : ((true && true) && (Nat.beq f.rings.n f.rings.n)) = true := by simp
 rw [hrn]
 unfold DA
 rw [e1]
 refine wN (by rw [ibI]; omega) (wN (by simp [hnil]) ?_)
 have bd : ∀ {x y : Int}, AX x y = decide (x = y) := fun {x y} => BN (by rw [decide_eq_true_eq]; exact ieI)
 refine A4 (g := Prod.fst) ieI (fun _ => wC (GK hC) fun (y : Bool) hy => ?_) fun n1 => A4 (g := Prod.fst) ieI (fun _ => wC (Mr hC ht) fun (y : Bool) hy => Dg nd nd2 hy) fun n2 =>
  A4 (g := Prod.fst) ieI (fun q3 => ?_) fun n3 => A4 (g := Prod.fst) ieI (fun q4 => ?_) fun n4 => wC (Iu _) fun (y : Int) hy => Dg nd nd2 ?_
 · subst hy
   refine AE bnI (fun q => wC (Iu _) fun (y : Int) hy => Dg nd nd2 ?_) fun q => Dg nd nd2 ?_
   · subst hy
     rw [show Dt (aR (f.rings.get e.Ring.toNat).x) = false by simpa using q]
     exact bd
   · rw [show Dt (aR (f.rings.get e.Ring.toNat).x) = true from Classical.byContradiction q]; rfl
 · obtain ⟨j0, j1⟩ := hrd (.inl q3)
   refine wC (EU a.Reader j0 (by omega)) fun (y : Bool) hy => ?_
   subst hy
   refine AE bnI (fun q => wC (Mq a.Reader _ j0 (by omega)) fun (y : Int) hy => Dg nd nd2 ?_) fun q => Dg nd nd2 ?_
   · subst hy
     rw [show DX (aR (f.rings.get e.Ring.toNat).x) a.Reader = false by simpa using q, NU j0 (by omega)]
     exact bd
   · rw [show DX (aR (f.rings.get e.Ring.toNat).x) a.Reader = true from Classical.byContradiction q]; rfl
 · obtain ⟨j0, j1⟩ := hrd (.inr q4)
   exact wC (N3 hC j0 (by omega) ht) fun (y : Bool) hy => Dg nd nd2 hy
 · subst hy
   exact bd
theorem Kq (h : FC p B k f) (a : TAk) (hr : 0 ≤ a.Ring ∧ a.Ring < p.AJ.n) (hrd : a.Kind ≠ 1 → 0 ≤ a.Reader ∧ a.Reader < (p.AJ.get a.Ring.toNat).AQ) :
 D_f15.wp (a, f) fun y => y = F8 (DP (aF f) a.Ring) (aA a) := by
 obtain ⟨hC, hnil, hrn⟩ := h.ring hr.1 hr.2
 have hn := hC.hn
 have hfr := h.wf.rn
 have e1 : (aA a).Reader = a.Reader := rfl
 have e2 : (aA a).Kind = a.Kind := rfl
 refine CW ?_
 simp only [tt_f15, Nat.zero_add]
 have nd : ((true && true) && (((Nat.beq f.rings.n f.rings.n) && (Nat.blt a.Ring.toNat f.rings.n)) && (!(f.rings.get a.Ring.toNat).nil))) = true := by simp [hnil]; omega
 have nd2 : ((true && true) && (Nat.beq f.rings.n f.rings.n)) = true := by simp
 rw [hrn]
 unfold F8
 rw [e1, e2]
 refine wN (by rw [ibI]; omega) (wN (by simp [hnil]) ?_)
 refine A4 (g := Prod.fst) ieI (fun _ => wC (DI _) fun (y : Bool) hy => ?_) fun q => ?_
 · subst hy
   refine Bc (fun q => Dg nd nd2 (by rw [q]; rfl)) fun q => wC (GK hC) fun (y : Bool) hy => Dg nd nd2 ?_
   subst hy
   rw [show (aR (f.rings.get a.Ring.toNat).x).Aw = false by simpa using q]; rfl
 · obtain ⟨j0, j1⟩ := hrd q
   exact wC (EU a.Reader j0 (by omega)) fun (y : Bool) hy => Dg nd nd2 hy
theorem w_f2z (hk : 1 ≤ e.Kind) : D_f2z.wp e fun y => y = As e.Kind := by
 refine of_wp ?_
 simp only [tt_f2z]
 exact AE leI (fun q => (Ap.2 (by omega)).symm) fun q => BN (by rw [Ap]; exact ieI.trans (by omega))
theorem H7 (h : FC p B k f) (he : P2 e) : D_fd.wp (e, f) fun y => y = BU (aP p) (aF f) e := by
 have hfr := h.wf.rn
 refine CW ?_
 simp only [tt_fd, Nat.zero_add]
 refine wC (GL h he) fun (y : Int) hy => ?_
 subst hy
 unfold BU
 refine AE (p := EH (aP p) (aF f) e ≠ 0) (by rw [bnI, ieI]) (fun q => by rw [decide_eq_false q]; rfl) fun q => ?_
 have q := Classical.byContradiction q
 rw [decide_eq_true q, Bool.true_and]
 have F := fitting q
 have hth := Ud h.inv F
 refine wC (HQ h hth.1 hth.2) fun (a : TAk) ha => ?_
 rw [← ha]
 have hf := Oi F.re F.ft
 have hre := Bj F.re
 have hrg := fun z => Ez h.inv F z
 rw [← ha] at hf hrg
 have n0 := h.inv.n0
 change 0 ≤ f.now at n0
 have hnow : (aF f).Gz = f.now := rfl
 have hend : (aF f).CB = f.ended := rfl
 -- no, shut, time
 have no : 5 ≤ e.Kind ∧ e.Kind ≤ 7 → D_f15.wp (a, f) fun y => y = F8 (DP (aF f) e.Ring) (aA a) := fun z => by
  obtain ⟨r1, r2, _⟩ := hrg (Bb.2 (by omega))
  have hr : a.Ring = e.Ring := hf.rg (Bb.2 (by omega))
  have h5 := hf.f5 z
  rw [← hr]
  rw [← hr] at r1 r2
  exact Kq h a r1 fun w => r2 (.inl (h5.resolve_left w))
 have nd : 5 ≤ e.Kind ∧ e.Kind ≤ 7 ∨ e.Kind = 1 → (Az e.Ring f.rings.n = true ∧ (((Nat.beq f.rings.n f.rings.n) && true) && (!(f.rings.get e.Ring.toNat).nil)) = true ∧ ((true && true) && (((Nat.beq f.rings.n f.rings.n) && (Nat.blt e.Ring.toNat f.rings.n)) && (!(f.rings.get e.Ring.toNat).nil))) = true ∧ DP (aF f) e.Ring = aR (f.rings.get e.Ring.toNat).x) := fun z => by
  obtain ⟨r1, _, _⟩ := hrg (Bb.2 (by omega))
  obtain ⟨_, hnil, hrn⟩ := h.ring r1.1 r1.2
  exact ⟨by rw [ibI]; omega, by simp [hnil], by simp [hnil]; omega, hrn⟩
 have nd2 : ((true && true) && (Nat.beq f.rings.n f.rings.n)) = true := by simp
 unfold KD
 simp only
 rw [hnow, hend]
 refine AE ieI (fun k5 => ?_) fun n5 => AE ieI (fun k7 => ?_) fun n7 => AE ieI (fun k6 => ?_) fun n6 => ?_
 · rw [if_pos (.inl k5)]
   obtain ⟨d1, d2, d3, d4⟩ := nd (.inl (by omega))
   refine wC (no (by omega)) fun (y : Bool) hy => ?_
   subst hy
   refine Bc (fun z => wN d1 (wN d2 (wC (DI _) fun (y : Bool) hy => Dg d3 nd2 ?_))) fun z => ?_
   · rw [z, d4, hy]; rfl
   · rw [show F8 (DP (aF f) e.Ring) (aA a) = false by simpa using z]; rfl
 · rw [if_pos (.inr k7)]
   obtain ⟨d1, d2, d3, d4⟩ := nd (.inl (by omega))
   refine wC (no (by omega)) fun (y : Bool) hy => ?_
   subst hy
   refine Bc (fun z => wN d1 (wN d2 (wC (DI _) fun (y : Bool) hy => Dg d3 nd2 ?_))) fun z => ?_
   · rw [z, d4, hy]; rfl
   · rw [show F8 (DP (aF f) e.Ring) (aA a) = false by simpa using z]; rfl
 · rw [if_neg (by omega), if_pos k6]
   obtain ⟨d1, d2, d3, d4⟩ := nd (.inl (by omega))
   refine wC (no (by omega)) fun (y : Bool) hy => ?_
   subst hy
   refine Bc (fun z => wN d1 (wN d2 (wC (DI _) fun (y : Bool) hy => Dg d3 nd2 ?_))) fun z => ?_
   · rw [z, d4, hy]; rfl
   · rw [show F8 (DP (aF f) e.Ring) (aA a) = false by simpa using z]; rfl
 · rw [if_neg (by omega), if_neg n6]
   refine A4 (g := Prod.fst) ieI (fun _ => ?_) fun n8 => A4 (g := Prod.fst) ieI (fun _ => rfl) fun n10 => ?_
   · have := he.vl
     refine AE leI (fun z => ?_) fun z => (decide_eq_false fun w => z w.1).symm
     rw [Aj (by have := this.1; omega) (by have := this.2; omega)]
     exact BN (by rw [decide_eq_true_eq]; exact ilI.trans ⟨fun w => ⟨z, w⟩, fun w => w.2⟩)
   · have tu : As e.Kind = true → D_f1b.wp (e, (a, f)) fun y => y = DA (DP (aF f) e.Ring) (aA a) e := fun z => by
      obtain ⟨r1, _, r2⟩ := hrg (CF z)
      exact Kp h a r1 r2 he.tk.1
     refine A4 (g := Prod.fst) ieI (fun k1 => ?_) fun n1 => of_wp ?_
     · obtain ⟨d1, d2, d3, d4⟩ := nd (.inr k1)
       refine wC (tu (Ap.2 (by omega))) fun (y : Bool) hy => ?_
       subst hy
       refine Bc (fun z => wN d1 (wN d2 (wC (DI _) fun (y : Bool) hy => Dg d3 nd2 ?_))) fun z => ?_
       · rw [z, d4, hy]; rfl
       · rw [show DA (DP (aF f) e.Ring) (aA a) e = false by simpa using z]; rfl
     · simp only [tt_fd_16]
       refine wC (w_f2z hre.1.1) fun (y : Bool) hy => ?_
       subst hy
       refine AE bnI (fun z => ?_) fun z => ?_
       · rw [show As e.Kind = false by simpa using z]; rfl
       · have z := Classical.byContradiction z
         rw [z]
         exact wC (tu z) fun y hy => hy
end
theorem OM {α : Type} {T T' : Sl α} (Q : Sl α → Prop) (h1 : T.nil = T'.nil) (h2 : T.n = T'.n) (h3 : ∀ i, T.get i = T'.get i) (h : Q T') : Q T := by
 obtain ⟨a, b, c⟩ := T
 obtain ⟨a', b', c'⟩ := T'
 simp only at h1 h2 h3
 subst h1 h2
 rw [show c = c' from funext h3]
 exact h
theorem Qv {α : Type} {T T' : Sl α} (h2 : T.n = T'.n) (h3 : ∀ i, T.get i = T'.get i) : T.L = T'.L := Sl.SD h2 fun i _ => h3 i
section
variable {c : TRg} {b : Int} {r : TRr}
theorem Mm (h : RC c b r) {t v : Int} (h0 : 0 ≤ t) (h1 : t < 4611686018427387904) (hst : (Av (aR r) t).AO = 2 * t) :
 D_f31.wp (t, (v, r.s.x)) fun y => y.2.l.L = r.s.x.l.L.set (GD (aR r) t) ⟨2 * t + 1, v, 2 ^ r.AA.AD.n - 1⟩ ∧ y.2.AV = r.s.x.AV ∧ CN y.2.l ∧ y.2.l.n = r.s.x.l.n := by
 have hn := h.hn
 rw [FP h] at hst
 refine of_wp ?_
 simp only [tt_f31]
 refine AE leI (fun q => by omega) fun _ => wC (JT h h0 _ _) fun (y : Nat × Nat) hy => ?_
 subst hy
 refine wN (by simp) (wC (w_f2t t h0 (by omega)) fun (y : Int) hy => ?_)
 subst hy
 refine AE (p := (r.s.x.l.get (GD (aR r) t)).AO < 2 * t) ilI (fun q => by omega) fun _ => wN (by simp) (wC (w_f2t t h0 (by omega)) fun (y : Int) hy => ?_)
 subst hy
 refine AE (p := 2 * t < (r.s.x.l.get (GD (aR r) t)).AO) ilI (fun q => by omega) fun _ => wC (w_f3b h0 h1) fun (y : Int) hy => ?_
 subst hy
 have hrd := h.wf.rd
 have hp8 := Hd (j := r.AA.AD.n) hn.2.1
 have hpp := FR r.AA.AD.n
 refine wN (by rw [leI, hrd]; omega) (wN (by simp) (wN (by simp) ⟨?_, rfl, h.wf.lz, rfl⟩))
 rw [← Fj]
 refine Qv rfl fun i => ?_
 have e : IntKind.i64.wrap (shl IntKind.i64 1 r.s.x.AV - 1) = 2 ^ r.AA.AD.n - 1 := by
  rw [hrd, Iw (by omega) (by omega), show c.AQ.toNat = r.AA.AD.n by omega, wrap64 (by omega) (by omega)]
 show (⟨_, _, cond _ (IntKind.i64.wrap (shl IntKind.i64 1 r.s.x.AV - 1)) _⟩ : TSo) = cond (Nat.beq i _) _ _
 rw [e]
 cases Nat.beq i (GD (aR r) t) <;> rfl
theorem Mn (h : RC c b r) {j t : Int} (hj0 : 0 ≤ j) (hj : j < r.AA.AD.n) (h0 : 0 ≤ t) (h1 : t < 2305843009213693952) (hg : (Av (aR r) t).AO = 2 * t + 1 ∧ C9 (Av (aR r) t).Left j = true) :
 D_f32.wp (j, (t, r.s.x)) fun y => y.1 = (Av (aR r) t).Value ∧ y.2.2.l.L = r.s.x.l.L.set (GD (aR r) t) (KF (Av (aR r) t) j t (HO (aR r))) ∧ y.2.2.AV = r.s.x.AV ∧ CN y.2.2.l ∧ y.2.2.l.n = r.s.x.l.n := by
 have hn := h.hn
 have hl := h.ln
 have hs := h.slot t
 refine of_wp ?_
 simp only [tt_f32]
 refine wC (It h hj0 hj h0 (by omega)) fun (y : Int) hy => ?_
 refine AE (p := y ≠ 0) (by rw [bnI, ieI]) (fun q => absurd (hy.2 hg) q) fun _ => wC (JT h h0 _ _) fun (y : Nat × Nat) hy => ?_
 subst hy
 rw [FP h] at hg ⊢
 rw [MN]
 obtain ⟨g1, g2⟩ := hg
 simp only [Nat.beq_refl, cond_true]
 generalize hx : r.s.x.l.get (GD (aR r) t) = x at hs g1 g2
 have hheld := hs.held (by omega)
 have h28 := Hd (j := r.AA.AD.n) hn.2.1
 obtain ⟨jn, rfl⟩ : ∃ jn : Nat, j = jn := ⟨j.toNat, by omega⟩
 obtain ⟨hcl, hcl0⟩ := I4 (j := jn) (x := x.Left) (by omega) (by omega) (by omega) g2
 rw [hcl, Aj (z := (r.s.x.l.n : Int)) (by omega) (by omega), Aj (z := t + (r.s.x.l.n : Int)) (by omega) (by omega)]
 have n1 : (true && (Nat.beq r.s.x.l.n r.s.x.l.n)) = true := by simp
 refine wN (by simp) (wN (by simp) (wN (by rw [leI]; exact hj0) (wN (by simp) (wN (by simp) (AE ieI (fun e => ?_) fun e => ?_)))))
 · refine wC (w_f2t (t + (r.s.x.l.n : Int)) (by omega) (by omega)) fun (y : Int) hy => wN (by simp) (wN (by simp) ⟨rfl, ?_, rfl, h.wf.lz, rfl⟩)
   subst hy
   rw [← Fj]
   refine Qv rfl fun i => ?_
   unfold KF
   rw [Int.toNat_natCast, if_pos e]
   show (⟨_, _, _⟩ : TSo) = cond (Nat.beq i _) _ _
   cases Nat.beq i (GD (aR r) t) <;> rfl
 · refine wN (by simp) ⟨rfl, ?_, rfl, h.wf.lz, rfl⟩
   rw [← Fj]
   refine Qv rfl fun i => ?_
   unfold KF
   rw [Int.toNat_natCast, if_neg e]
   show (⟨_, _, _⟩ : TSo) = cond (Nat.beq i _) _ _
   cases Nat.beq i (GD (aR r) t) <;> rfl
theorem Jk (h : RC c b r) {t v : Int} (h0 : 0 ≤ t) (hf : GV (aR r) t = true) : D_f2n.wp (t, (v, r)) fun y => Qf c y.2 ∧ aR y.2 = NM (aR r) t v := by
 have ht := h.t
 simp only [GV, decide_eq_true_eq] at hf
 have hlt : t < r.AA.tail := hf.1
 refine of_wp ?_
 simp only [tt_f2n]
 refine AE leI (fun q => by omega) fun _ => wN (by simp [h.wf.sn]) (wC (Mm h h0 (by omega) hf.2) fun (y : Int × TSs) hy => ⟨⟨rfl, hy.2.1.trans h.wf.rd, h.wf.ms, h.wf.hz, hy.2.2.1, h.wf.hn, ?_⟩, ?_⟩)
 · show (y.2.l.n : Int) = _; rw [hy.2.2.2]; exact h.wf.ln
 · show (⟨_, _, _, y.2.l.L⟩ : MR) = _
   rw [hy.1]
   unfold NM
   simp [aR]
theorem Jj (h : RC c b r) (hb : b ≤ 2305843009213693952) {j t : Int} (hj0 : 0 ≤ j) (hj : j < r.AA.AD.n) (h0 : 0 ≤ t) (hh : KE (aR r) j t = true) :
 D_f2o.wp (j, (t, r)) fun y => y.1 = (Av (aR r) t).Value ∧ Qf c y.2.2 ∧ aR y.2.2 = QA (aR r) j t := by
 have htb := h.inv.tb
 change r.AA.tail < b at htb
 have hd := h.hd (k := j.toNat) (by omega)
 simp only [KE, decide_eq_true_eq, NU hj0 hj] at hh
 refine of_wp ?_
 simp only [tt_f2o]
 refine wC (D5 j r.AA) fun (y : Bool) hy => ?_
 refine AE bnI (fun q => absurd (hy.2 ⟨hj0, hj⟩) q) fun _ => wN (by rw [ibI]; exact ⟨hj0, hj⟩) (wN (by simp) ?_)
 rw [Nat.zero_add]
 refine AE leI (fun q => by omega) fun _ => wN (by simp) (wN (by simp [h.wf.sn]) (wC (Mn h hj0 hj h0 (by omega) hh.2) fun (y : Int × Int × TSs) hy => ⟨hy.1, ⟨rfl, hy.2.2.1.trans h.wf.rd, h.wf.ms, h.wf.hz, hy.2.2.2.1, h.wf.hn, ?_⟩, ?_⟩))
 · show (y.2.2.l.n : Int) = _; rw [hy.2.2.2.2]; exact h.wf.ln
 · show (⟨_, _, _, y.2.2.l.L⟩ : MR) = _
   rw [hy.2.1]
   rfl
theorem Mp (h : RC c b r) {j : Int} (hj0 : 0 ≤ j) (hj : j < r.AA.AD.n) (he : DX (aR r) j = false) : D_f19.wp (j, r) fun y => Qf c y.2.2 ∧ aR y.2.2 = Ej (aR r) j := by
 have hn := h.hn
 have ht := h.t
 have hd := h.hd (k := j.toNat) (by omega)
 refine of_wp ?_
 simp only [tt_f19]
 refine wC (D5 j r.AA) fun (y : Bool) hy => ?_
 refine AE bnI (fun q => absurd (hy.2 ⟨hj0, hj⟩) q) fun _ => wC (EU j hj0 hj) fun (y : Bool) hy => ?_
 subst hy
 rw [he]
 refine Bc (fun q => by cases q) fun _ => wC (EU j hj0 hj) fun (y : Bool) hy => ?_
 subst hy
 rw [he]
 refine Bc (fun q => by cases q) fun _ => of_wp ?_
 simp only [tt_f19_9, Nat.zero_add]
 have i1 : Az j r.AA.AD.n = true := by rw [ibI]; exact ⟨hj0, hj⟩
 have n1 : ((Nat.beq r.AA.AD.n r.AA.AD.n) && true) = true := by simp
 have n2 : ((true && true) && (Nat.beq r.AA.AD.n r.AA.AD.n)) = true := by simp
 refine wN i1 (wN n1 (wN i1 (wN n1 (wN n2 (wN i1 (wN n1 (wN n2 ⟨⟨h.wf.sn, h.wf.rd, h.wf.ms, h.wf.hz, h.wf.lz, h.wf.hn, h.wf.ln⟩, ?_⟩)))))))
 unfold Ej
 rw [NU hj0 hj]
 show (⟨_, Sl.L _, _, _⟩ : MR) = ⟨_, r.AA.AD.L.set _ _, _, _⟩
 rw [← Fj]
 congr 1
 refine Qv rfl fun i => ?_
 show cond (Nat.beq i j.toNat) (IntKind.u64.wrap (r.AA.AD.get j.toNat + 1)) _ = cond _ _ _
 rw [Aj (by omega) (by omega)]
theorem Lh (r : TRr) : D_f35.wp r fun y => y = (0, { r with closed := true }) := of_wp rfl
theorem Li (h : RC c b r) : D_f30.wp r fun y => (r.closed = true ∧ y = (0, (10, r))) ∨ (r.closed = false ∧ Dt (aR r) = true ∧ y = (0, (8, r))) ∨
 (r.closed = false ∧ Dt (aR r) = false ∧ y.2.1 = 0 ∧ y.2.2 = { r with AA := ⟨r.AA.tail + 1, r.AA.AD⟩ }) := by
 have ht := h.t
 refine of_wp ?_
 simp only [tt_f30]
 refine Bc (fun q => .inl ⟨q, rfl⟩) fun q => wC (GK h) fun (y : Bool) hy => ?_
 have q : r.closed = false := by simpa using q
 subst hy
 refine Bc (fun q2 => .inr (.inl ⟨q, q2, rfl⟩)) fun q2 => .inr (.inr ⟨q, by simpa using q2, rfl, ?_⟩)
 rw [Aj (z := r.AA.tail + 1) (by omega) (by omega)]
theorem Si {s : TRs} (hc : Ay c = true) (h : Cz c b (Kk s)) (hb : b ≤ 4611686018427387904) (hz : CN s.AY) (sz : CN s.Am) : UG s := by
 have hf := CQ hc
 have c1 := h.cap
 have c2 := h.rd
 simp only [Kk, Sl.BL] at c1 c2
 have t0 := h.t0
 have tb := h.tb
 change 0 ≤ s.Au at t0
 change s.Au < b at tb
 have m64 : (64 : Nat) ≤ maxLen := by decide
 refine ⟨t0, by omega, by omega, fun j hj => ?_, hz, ⟨by omega, fun i hi => ?_, sz⟩⟩
 · have := h.h0 _ (Sl.Ch.2 ⟨j, hj, rfl⟩)
   change 0 ≤ s.AY.get j ∧ s.AY.get j ≤ s.Au ∧ _ at this
   omega
 · have hs := h.sl i (s.Am.get i) (Sl.Db _ hi)
   have h8 := Hd (j := (Kk s).AY.length) (by simp [Kk]; omega)
   have h0 := hs.s0
   have h1 := hs.s1
   have hl : 0 ≤ (s.Am.get i).Left ∧ (s.Am.get i).Left < 256 := by
    rcases (by omega : (s.Am.get i).AO % 2 = 0 ∨ (s.Am.get i).AO % 2 = 1) with e | e
    · have := hs.free e; omega
    · have := hs.held e; omega
   exact ⟨h0, by omega, by omega, by omega⟩
theorem Q2 {s : TRs} (hc : Ay c = true) (h : Cz c b (Kk s)) (hb : b ≤ 4611686018427387904) : Q3 c s := by
 have hf := CQ hc
 have c1 := h.cap
 have c2 := h.rd
 simp only [Kk, Sl.BL] at c1 c2
 have tb := h.tb
 change s.Au < b at tb
 have hnr : (Kk s).AY.length = c.AQ.toNat := by simp [Kk]; omega
 refine ⟨⟨c1, fun i hi => ?_⟩, c2, by omega, fun j hj => ?_, fun i hi => ?_⟩
 · have hs := h.sl i (s.Am.get i) (Sl.Db _ hi)
   exact ⟨hs.s1, hs.T8, hs.free, fun e => by have := hs.held e; rw [hnr] at this; exact this⟩
 · have := h.h0 _ (Sl.Ch.2 ⟨j, hj, rfl⟩)
   exact this.2
 · have hs := h.sl i (s.Am.get i) (Sl.Db _ hi)
   refine ⟨hs.PG, fun j hj => ⟨fun e1 e2 => hs.Sy e1 j _ (Sl.Db _ hj) e2, fun e1 e2 => hs.Rm e1 e2 _ (Sl.Ch.2 ⟨j, hj, rfl⟩)⟩⟩
end
structure RU (p : TPg) (rs rs' : Sl (Bx TRr)) (i : Nat) (m : MR) : Prop where
 n : rs'.n = rs.n
 ot : ∀ j, j ≠ i → rs'.get j = rs.get j
 nl : (rs'.get i).nil = false
 wf : Qf (p.AJ.get i) (rs'.get i).x
 eq : aR (rs'.get i).x = m
theorem LC {p : TPg} {rs rs' : Sl (Bx TRr)} {i : Nat} {m : MR} (z : Bx TRr) (h1 : rs'.n = rs.n) (h2 : ∀ j, rs'.get j = cond (Nat.beq j i) z (rs.get j)) (h3 : z.nil = false) (h4 : Qf (p.AJ.get i) z.x) (h5 : aR z.x = m) : RU p rs rs' i m := by
 have hi : rs'.get i = z := by rw [h2, Nat.beq_refl]; rfl
 exact ⟨h1, fun j hj => by rw [h2, Is hj]; rfl, by rw [hi]; exact h3, by rw [hi]; exact h4, by rw [hi]; exact h5⟩
theorem RU.L {p : TPg} {rs rs' : Sl (Bx TRr)} {i : Nat} {m : MR} (h : RU p rs rs' i m) : rs'.L.map (fun r => aR r.x) = (rs.L.map fun r => aR r.x).set i m := by
 apply List.ext_getElem
 · simp [h.n]
 · intro j h1 h2
   have hj : j < rs.n := by simpa [h.n] using h1
   simp only [List.getElem_map, Sl.F6]
   by_cases e : j = i
   · subst e; rw [List.getElem_set_self, h.eq]
   · rw [List.getElem_set_ne (fun q => e q.symm)]
     simp only [List.getElem_map, Sl.F6, h.ot j e]
section
variable {p : TPg} {B : Int} {k : Nat} {f : TFa} {e : TEv}
theorem Jm (h : FC p B k f) {i : Int} (h0 : 0 ≤ i) (h1 : i < p.AJ.n) (hF : Dt (DP (aF f) i) = false) :
 D_f2d.wp (i, f) fun y => ∃ rs, y = ⟨f.p, f.threads, rs, f.now, f.reads, f.ended⟩ ∧ RU p f.rings rs i.toNat { DP (aF f) i with Au := (DP (aF f) i).Au + 1 } := by
 obtain ⟨hC, hnil, hrn⟩ := h.ring h0 h1
 have hfr := h.wf.rn
 have hi : i.toNat < p.AJ.n := by omega
 rw [hrn] at hF ⊢
 have nd : ((true && true) && ((Nat.beq f.rings.n f.rings.n) && (Nat.blt i.toNat f.rings.n))) = true := by simp; omega
 have nd2 : ((true && true) && (Nat.beq f.rings.n f.rings.n)) = true := by simp
 have ib : Az i f.rings.n = true := by rw [ibI]; omega
 refine of_wp ?_
 simp only [tt_f2d, Nat.zero_add]
 refine wN ib (wN (by simp [hnil]) (wC (Li hC) fun (y : Int × Int × TRr) hy => wN nd (Cr (wN nd2 ?_))))
 rcases hy with ⟨hcl, rfl⟩ | ⟨_, hfl, _⟩ | ⟨hcl, _, hy0, hyr⟩
 · refine AE (p := (10 : Int) ≠ 10) (by rw [bnI, ieI]) (fun q => absurd rfl q) fun _ => ?_
   simp only [Nat.beq_refl, cond_true]
   have hc := hC.rg
   refine wN ib (wN (by simp) (wC (Lg (p.AJ.get i.toNat) _ hc hC.wf) fun (s : TRs) hs => wN (by simp; omega) (Cr (wN (by simp) ?_))))
   obtain ⟨e1, e2, e3⟩ := hs
   have hcp := h.wf.cp
   have hI := hC.inv.TN hF
   have ht := hC.t
   have hT : s.Au = (f.rings.get i.toNat).x.AA.tail := congrArg MR.Au e1
   have hb := h.hB
   rw [Aj (z := s.Au + 1) (by rw [hT]; omega) (by rw [hT]; omega), hcp.r.g _ hi]
   have es : Kk ⟨s.Au + 1, s.AY, s.Aw, s.Am⟩ = { aR (f.rings.get i.toNat).x with Au := (aR (f.rings.get i.toNat).x).Au + 1 } := by
    rw [← e1]; rfl
   rw [← es] at hI
   refine wN (by rw [ibI, hcp.r.n]; omega) (wC (w_fb (p.AJ.get i.toNat) ⟨s.Au + 1, s.AY, s.Aw, s.Am⟩ hc (Si hc hI (by omega) e2 e3)) fun (z : Bx TRr × Int) hz => ?_)
   rcases hz with ⟨_, z2, zn, zw, za⟩ | ⟨hno, _⟩
   rotate_left
   · exact absurd (Q2 hc hI (by omega)) hno
   refine AE ieI (fun _ => wN ib (wN (by simp) (wN (by simp) ⟨_, rfl, LC z.1 rfl (fun j => ?_) zn zw (za.trans es)⟩))) fun q => absurd z2 q
   show (⟨_, _⟩ : Bx TRr) = cond (Nat.beq j _) _ _
   cases Nat.beq j i.toNat <;> rfl
 · rw [hF] at hfl; cases hfl
 · refine AE (p := y.2.1 ≠ 10) (by rw [bnI, ieI]) (fun _ => ⟨_, rfl, LC ⟨false, y.2.2⟩ rfl (fun j => ?_) rfl ?_ ?_⟩) fun q => absurd (by rw [hy0]; decide) q
   · show (⟨_, _⟩ : Bx TRr) = cond (Nat.beq j _) _ _
     cases Nat.beq j i.toNat <;> rfl
   · show Qf _ y.2.2
     rw [hyr]
     exact ⟨hC.wf.sn, hC.wf.rd, hC.wf.ms, hC.wf.hz, hC.wf.lz, hC.wf.hn, hC.wf.ln⟩
   · show aR y.2.2 = _
     rw [hyr]; rfl
theorem QG (h : FC p B k f) (he : P2 e) (F : DT (aP p) (aF f) e) (v : Int) (hv : CK v) (hve : v = if e.Kind = 4 then (Av (DP (aF f) e.Ring) e.AG).Value else 0) (rs : Sl (Bx TRr)) (now rd : Int) (en : Bool) :
 D_fg_20.wp (⟨e, v, ⟨f.p, f.threads, rs, now, rd, en⟩⟩ : X_fg_20) fun y => ∃ ts, y = ⟨f.p, ts, rs, now, rd, en⟩ ∧ ts.n = f.threads.n ∧ ts.L.map aT = (An (aP p) (aF f) e).AB ∧ ∀ t, t < ts.n → Df (k + 1) (ts.get t) := by
 obtain ⟨h0, h1⟩ := Ud h.inv F
 obtain ⟨c1, c2, c3, c4⟩ := h.code h0 h1
 have htn := h.wf.tn
 have hk := h.hk
 have hT := h.JI h0 h1
 rw [← c3] at hT
 have hcr := Gx h.inv h0 h1
 rw [← Ea h0 h1, ← c3] at hcr
 refine of_wp ?_
 simp only [tt_fg_20, Nat.zero_add]
 have ib : Az e.Thread f.threads.n = true := by rw [ibI]; omega
 refine wN (by rw [ibI]; omega) (wN ib (wN (by simp) (wC (w_f2a _ _ _ e v k (by omega) c1 c2 hcr hT (h.wf.tw _ (by omega)) hv he.vl he.tk.1) fun (y : TTh × Int) hy => wN ib (wN (by simp) (wN (by simp) ?_)))))
 have hd : QC (f.p.AB.get e.Thread.toNat).L (aT (f.threads.get e.Thread.toNat)) e = 0 := by
  unfold QC
  have hft := F.ft
  have ha0 := F.a0
  unfold Bv at hft ha0
  rw [IA h0 (by omega), ← c3] at hft ha0
  rw [if_neg (by rw [F.re]; simp), if_neg (by rw [hft]; simp [ha0])]
 obtain ⟨hy1, hy2⟩ := hy.2 hd
 have hts : ∀ {T : Sl TTh}, T.n = f.threads.n → (∀ j, T.get j = cond (Nat.beq j e.Thread.toNat) y.1 (f.threads.get j)) → T.L.map aT = (An (aP p) (aF f) e).AB ∧ ∀ t, t < T.n → Df (k + 1) (T.get t) := fun {T} e1 e2 => by
  refine ⟨?_, fun t ht => ?_⟩
  · have : T.L = f.threads.L.set e.Thread.toNat y.1 := by rw [← Fj]; exact Qv e1 e2
    rw [this, map_set, hy1]
    unfold An
    simp only
    rw [IA h0 (by omega), ← c3, hve]
    rfl
  · rw [e2]
    by_cases q : t = e.Thread.toNat
    · subst q; rw [Nat.beq_refl]; exact hy2
    · rw [Is q]; exact (h.wf.tw t (by omega)).grow (by omega)
 refine ⟨_, rfl, rfl, hts rfl fun j => ?_⟩
 show (⟨_, _, _, _, _, _, _⟩ : TTh) = cond (Nat.beq j _) _ _
 cases Nat.beq j e.Thread.toNat <;> rfl
theorem FC.UR (h : FC p B k f) {t : Int} (h0 : 0 ≤ t) (h1 : t < p.AB.n) : CK (Bv (aP p) (aF f) t).Value := by
 have htn := h.wf.tn
 have := h.JI h0 h1
 unfold Bv
 rw [IA h0 (by omega)]
 rw [Ea h0 h1] at this ⊢
 exact (NJ (Gx h.inv h0 h1) (h.hp.k (by omega)) this (h.wf.tw _ (by omega)).rg).2
theorem Kr (h : FC p B k f) (he : P2 e) (F : DT (aP p) (aF f) e) (ht : As e.Kind = true → DA (DP (aF f) e.Ring) (Bv (aP p) (aF f) e.Thread) e = true) (hB : B + 1 ≤ 2305843009213693952) (hk : k + 1 ≤ 1000000000) :
 D_fg.wp (e, f) fun y => aF y = An (aP p) (aF f) e ∧ FC p (B + 1) (k + 1) y := by
 obtain ⟨t0, t1⟩ := Ud h.inv F
 have hfr := h.wf.rn
 have htn := h.wf.tn
 have hre := Bj F.re
 have hI := KO h.inv h.hB he.tk.1 F ht
 have hU := Lb h.uv (h.UR t0 t1)
 refine of_wp ?_
 simp only [tt_fg, Nat.zero_add]
 refine wC (HQ h t0 t1) fun (a : TAk) ha => ?_
 -- the end of all ways
 have fin : ∀ (v : Int) (rs : Sl (Bx TRr)) (now rd : Int) (en : Bool), CK v → v = (if e.Kind = 4 then (Av (DP (aF f) e.Ring) e.AG).Value else 0) → rs.n = p.AJ.n → (∀ i, i < rs.n → (rs.get i).nil = false ∧ Qf (p.AJ.get i) (rs.get i).x) →
  rs.L.map (fun r => aR r.x) = (An (aP p) (aF f) e).AJ → now = (An (aP p) (aF f) e).Gz → rd = (An (aP p) (aF f) e).Reads → en = (An (aP p) (aF f) e).CB →
  D_fg_20.wp (⟨e, v, ⟨f.p, f.threads, rs, now, rd, en⟩⟩ : X_fg_20) fun y => aF y = An (aP p) (aF f) e ∧ FC p (B + 1) (k + 1) y := fun v rs now rd en hv hve r1 r2 r3 e1 e2 e3 => by
  refine (QG h he F v hv hve rs now rd en).mono fun y hy => ?_
  obtain ⟨ts, rfl, n1, n2, n3⟩ := hy
  have ea : aF ⟨f.p, ts, rs, now, rd, en⟩ = An (aP p) (aF f) e := by
   show (⟨_, _, _, _, _⟩ : MS) = _
   rw [n2, r3, e1, e2, e3]
  exact ⟨ea, h.hp, by rw [ea]; exact hI, ⟨h.wf.cp, by show ts.n = _; omega, n3, r1, r2⟩, by rw [ea]; exact hU, hB, hk⟩
 have vz : e.Kind ≠ 4 → (0 : Int) = (if e.Kind = 4 then (Av (DP (aF f) e.Ring) e.AG).Value else 0) := fun q => by rw [if_neg q]
 have nw : e.Kind ≠ 8 → f.now = (An (aP p) (aF f) e).Gz := fun q => by unfold An; simp only; rw [if_neg q]; rfl
 have rd : e.Kind ≠ 10 → f.reads = (An (aP p) (aF f) e).Reads := fun q => by unfold An; simp only; rw [if_neg q]; rfl
 have en : e.Kind ≠ 11 → f.ended = (An (aP p) (aF f) e).CB := fun q => by unfold An; simp only; rw [if_neg q]; rfl
 have rgs : As e.Kind = false → f.rings.L.map (fun r => aR r.x) = (An (aP p) (aF f) e).AJ := fun q => by unfold An; simp only [q, Bool.false_eq_true, if_false]; rfl
 -- with a ring
 have ring : As e.Kind = true → ∀ (v : Int) (rs : Sl (Bx TRr)), CK v → v = (if e.Kind = 4 then (Av (DP (aF f) e.Ring) e.AG).Value else 0) → RU p f.rings rs e.Ring.toNat (Bm (DP (aF f) e.Ring) (Bv (aP p) (aF f) e.Thread) e) →
  D_fg_20.wp (⟨e, v, ⟨f.p, f.threads, rs, f.now, f.reads, f.ended⟩⟩ : X_fg_20) fun y => aF y = An (aP p) (aF f) e ∧ FC p (B + 1) (k + 1) y := fun q v rs hv hve hu => by
  have h1 := Ap.1 q
  refine fin v rs _ _ _ hv hve (by rw [hu.n]; exact hfr) (fun i hi => ?_) ?_ (nw (by omega)) (rd (by omega)) (en (by omega))
  · by_cases z : i = e.Ring.toNat
    · subst z; exact ⟨hu.nl, hu.wf⟩
    · rw [hu.ot i z]; exact h.wf.rw i (by rw [← hu.n]; exact hi)
  · rw [hu.L]
    unfold An
    simp only [q, if_true]
    rfl
 have tk := fun z => Ap (k := e.Kind).2 z
 have info := fun (q : As e.Kind = true) => by
  obtain ⟨r1, _, r2⟩ := Ez h.inv F (CF q)
  obtain ⟨hC, hnil, hrn⟩ := h.ring r1.1 r1.2
  exact (⟨r1, by rw [ha]; exact r2, hC, hnil, hrn, by rw [ibI]; omega, by simp [hnil], by simp; omega⟩ : (0 ≤ e.Ring ∧ e.Ring < p.AJ.n) ∧ (e.Kind = 3 ∨ e.Kind = 4 → 0 ≤ (aA a).Reader ∧ (aA a).Reader < (p.AJ.get e.Ring.toNat).AQ) ∧ RC (p.AJ.get e.Ring.toNat) B (f.rings.get e.Ring.toNat).x ∧ (f.rings.get e.Ring.toNat).nil = false ∧ DP (aF f) e.Ring = aR (f.rings.get e.Ring.toNat).x ∧ Az e.Ring f.rings.n = true ∧
   (((Nat.beq f.rings.n f.rings.n) && true) && (!(f.rings.get e.Ring.toNat).nil)) = true ∧ ((true && true) && ((Nat.beq f.rings.n f.rings.n) && (Nat.blt e.Ring.toNat f.rings.n))) = true)
 have nd2 : ((true && true) && (Nat.beq f.rings.n f.rings.n)) = true := by simp
 rw [← ha] at ht
 refine AE ieI (fun k1 => ?_) fun n1 => AE ieI (fun k2 => ?_) fun n2 => AE ieI (fun k3 => ?_) fun n3 => AE ieI (fun k4 => ?_) fun n4 => AE ieI (fun k13 => ?_) fun n13 => ?_
 · have q := tk (by omega)
   obtain ⟨r1, _⟩ := info q
   have hT := ht q
   unfold DA at hT
   rw [if_pos k1] at hT
   simp only [Bool.and_eq_true, Bool.not_eq_true', decide_eq_true_eq] at hT
   refine wC (Jm h r1.1 r1.2 hT.1) fun (y : TFa) hy => ?_
   obtain ⟨rs, rfl, hu⟩ := hy
   refine ring q 0 rs CA (vz (by omega)) ?_
   unfold Bm
   rw [if_pos k1]; exact hu
 · have q := tk (by omega)
   obtain ⟨r1, r2, hC, hnil, hrn, d1, d2, d3⟩ := info q
   have hT := ht q
   unfold DA at hT
   rw [if_neg n1, if_pos k2, hrn] at hT
   refine wN d1 (wN d2 (wC (Jk hC he.tk.1 hT) fun (y : Int × TRr) hy => wN d3 (Cr (wN nd2 (ring q 0 _ CA (vz (by omega)) (LC ⟨false, y.2⟩ rfl (fun j => ?_) rfl hy.1 ?_))))))
   · show (⟨_, _⟩ : Bx TRr) = cond (Nat.beq j _) _ _
     cases Nat.beq j e.Ring.toNat <;> rfl
   · unfold Bm
     rw [if_neg n1, if_pos k2, hrn, ← ha]; exact hy.2
 · have q := tk (by omega)
   obtain ⟨r1, r2, hC, hnil, hrn, d1, d2, d3⟩ := info q
   have hT := ht q
   unfold DA at hT
   rw [if_neg n1, if_neg n2, if_pos k3, hrn] at hT
   simp only [Bool.and_eq_true, Bool.not_eq_true', decide_eq_true_eq] at hT
   obtain ⟨j0, j1⟩ := r2 (.inl k3)
   have hn := hC.hn
   refine wN d1 (wN d2 (wC (Mp hC (j := a.Reader) j0 (by show (aA a).Reader < _; omega) hT.1) fun (y : Int × Int × TRr) hy => wN d3 (Cr (wN nd2 (ring q 0 _ CA (vz (by omega)) (LC ⟨false, y.2.2⟩ rfl (fun j => ?_) rfl hy.1 ?_))))))
   · show (⟨_, _⟩ : Bx TRr) = cond (Nat.beq j _) _ _
     cases Nat.beq j e.Ring.toNat <;> rfl
   · unfold Bm
     rw [if_neg n1, if_neg n2, if_pos k3, hrn, ← ha]; exact hy.2
 · have q := tk (by omega)
   obtain ⟨r1, r2, hC, hnil, hrn, d1, d2, d3⟩ := info q
   have hT := ht q
   unfold DA at hT
   rw [if_neg n1, if_neg n2, if_neg n3, if_pos k4, hrn] at hT
   obtain ⟨j0, j1⟩ := r2 (.inr k4)
   have hn := hC.hn
   refine wN d1 (wN d2 (wC (Jj hC h.hB (j := a.Reader) j0 (by show (aA a).Reader < _; omega) he.tk.1 hT) fun (y : Int × Int × TRr) hy => wN d3 (Cr (wN nd2 (ring q _ _ ?_ ?_ (LC ⟨false, y.2.2⟩ rfl (fun j => ?_) rfl hy.2.1 ?_))))))
   · rw [hy.1, ← hrn]; exact HA (Lu h.uv _) _
   · rw [hy.1, ← hrn, if_pos k4]
   · show (⟨_, _⟩ : Bx TRr) = cond (Nat.beq j _) _ _
     cases Nat.beq j e.Ring.toNat <;> rfl
   · unfold Bm
     rw [if_neg n1, if_neg n2, if_neg n3, if_pos k4, hrn, ← ha]; exact hy.2.2
 · have q := tk (by omega)
   obtain ⟨r1, r2, hC, hnil, hrn, d1, d2, d3⟩ := info q
   refine wN d1 (wN d2 (wC (Lh _) fun (y : Int × TRr) hy => wN d3 (Cr (wN nd2 (ring q 0 _ CA (vz (by omega)) (LC ⟨false, y.2⟩ rfl (fun j => ?_) rfl ?_ ?_))))))
   · show (⟨_, _⟩ : Bx TRr) = cond (Nat.beq j _) _ _
     cases Nat.beq j e.Ring.toNat <;> rfl
   · subst hy; exact ⟨hC.wf.sn, hC.wf.rd, hC.wf.ms, hC.wf.hz, hC.wf.lz, hC.wf.hn, hC.wf.ln⟩
   · subst hy
     unfold Bm
     rw [if_neg n1, if_neg n2, if_neg n3, if_neg n4, if_pos k13, hrn]; rfl
 · have q : As e.Kind = false := Bool.eq_false_iff.2 fun z => by rw [Ap] at z; omega
   refine AE ieI (fun k8 => ?_) fun n8 => AE ieI (fun k10 => ?_) fun n10 => AE ieI (fun k11 => ?_) fun n11 => ?_
   · refine fin 0 f.rings _ _ _ CA (vz n4) hfr h.wf.rw (rgs q) ?_ (rd (by omega)) (en (by omega))
     unfold An; simp only; rw [if_pos k8, Sx]; rfl
   · refine fin 0 f.rings _ _ _ CA (vz n4) hfr h.wf.rw (rgs q) (nw n8) ?_ (en (by omega))
     unfold An; simp only; rw [if_pos k10]; rfl
   · refine fin 0 f.rings _ _ _ CA (vz n4) hfr h.wf.rw (rgs q) (nw n8) (rd n10) ?_
     unfold An; simp only; rw [if_pos k11]
   · exact fin 0 f.rings _ _ _ CA (vz n4) hfr h.wf.rw (rgs q) (nw n8) (rd n10) (en n11)
theorem FC.grow (h : FC p B k f) (hB : B + 1 ≤ 2305843009213693952) (hk : k + 1 ≤ 1000000000) : FC p (B + 1) (k + 1) f :=
 ⟨h.hp, h.inv.mono (by omega), ⟨h.wf.cp, h.wf.tn, fun t ht => (h.wf.tw t ht).grow (by omega), h.wf.rn, h.wf.rw⟩, h.uv, hB, hk⟩
theorem Ms (h : FC p B k f) (he : P2 e) (hB : B + 1 ≤ 2305843009213693952) (hk : k + 1 ≤ 1000000000) : D_f2v.wp (e, f) fun y => y.1 = (Qg (aP p) (aF f) e).1 ∧ aF y.2 = (Qg (aP p) (aF f) e).2 ∧ FC p (B + 1) (k + 1) y.2 := by
 refine of_wp ?_
 simp only [tt_f2v]
 refine wC (GL h he) fun (y : Int) hy => ?_
 subst hy
 unfold Qg
 refine AE (p := EH (aP p) (aF f) e ≠ 0) (by rw [bnI, ieI]) (fun q => ?_) fun q => wC (H7 h he) fun (y : Bool) hy => ?_
 · rw [if_pos q]; exact ⟨rfl, rfl, h.grow hB hk⟩
 · subst hy
   rw [if_neg q]
   refine AE bnI (fun q2 => ?_) fun q2 => ?_
   · rw [if_pos (by simpa using q2)]; exact ⟨rfl, rfl, h.grow hB hk⟩
   · have hA := Classical.byContradiction q2
     rw [if_neg (by rw [hA]; simp)]
     obtain ⟨F, _, hm⟩ := Gc hA
     exact wC (Kr h he F (fun z => NK (p := aP p) hm F.re z) hB hk) fun (y : TFa) hy => ⟨rfl, hy⟩
end
end Go.Proofs.YtlhifcnjnmeknaaGreatDoor
