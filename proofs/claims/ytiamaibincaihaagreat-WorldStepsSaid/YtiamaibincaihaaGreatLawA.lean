/- Of what functions of the program do, plainly: no statement is proved here. -/
import Derived.Test.YtiamaibincaihaaGreatGC
namespace Go.Proofs.YtiamaibincaihaaGreat
open Go Go.Vm Go.Proofs
set_option maxRecDepth 10000
theorem GN {n : Nat} (h : n ≤ maxLen) : (n : Int) ≤ 9223372036854775807 := by have := (by decide : maxLen ≤ 9223372036854775807); omega
theorem w_f3i (x : Int) : D_f3i.wp x fun y => y = true ↔ 1 ≤ x ∧ x ≤ 17 := by
 refine of_wp ?_
 simp only [tt_f3i, TT.wp, leI, Bool.false_eq_true, false_iff]
 omega
theorem w_f3k (x : TIn) : D_f3k.wp x fun y => y = true ↔ 15 ≤ x.Op ∧ x.Op ≤ 17 := by
 refine of_wp ?_
 simp only [tt_f3k, TT.wp, leI, Bool.false_eq_true, false_iff]
 omega
def L0 (x : Int) : TCl × Bool :=
 if x = 1 then (⟨7, 0, 0, 0, 18446744073709551615⟩, true)
 else if x = 2 ∨ x = 23 then (⟨7, 7, 0, 0, 0⟩, true)
 else if x = 15 then (⟨0, 0, 0, 0, 256⟩, true)
 else if x = 16 ∨ x = 17 then (⟨7, 0, 0, 0, 256⟩, true)
 else if x = 18 then (⟨7, 7, 7, 2, 0⟩, true)
 else if x = 19 then (⟨7, 7, 7, 2, 7⟩, true)
 else if x = 20 then (⟨0, 0, 7, 0, 0⟩, true)
 else if x = 21 ∨ x = 22 ∨ x = 24 then (⟨7, 0, 0, 0, 0⟩, true)
 else if x = 25 then (⟨0, 0, 0, 0, 0⟩, true)
 else (⟨7, 7, 7, 0, 0⟩, decide (1 ≤ x ∧ x ≤ 17))
theorem w_f22 (x : Int) : D_f22.wp x fun y => y = L0 x := by
 have e : ∀ z, D_f22_24.wp (⟨x, z⟩ : X_f22_24) fun y => y = (⟨7, 7, 7, 0, 0⟩, decide (1 ≤ x ∧ x ≤ 17)) := by
  intro z
  refine of_wp ?_
  show (tt_f22_24 ⟨x, z⟩).wp _
  simp only [tt_f22_24]
  refine wC (w_f3i x) fun (y : Bool) hy => ?_
  have : y = decide (1 ≤ x ∧ x ≤ 17) := by rw [Bool.eq_iff_iff, decide_eq_true_eq]; exact hy
  subst this
  rfl
 refine of_wp ?_
 simp only [tt_f22, TT.wp, ieI, L0]
 refine ⟨fun h => by simp [h], fun h1 => ⟨fun h => by simp [h], fun h2 => ⟨fun h => by simp [h], fun h3 => ⟨fun h => by simp [h], fun h4 => ⟨fun h => by simp [h], fun h5 => ⟨fun h => by simp [h], fun h6 => ⟨fun h => by simp [h], fun h7 =>
  ⟨fun h => by simp [h], fun h8 => ⟨fun h => by simp [h], fun h9 => ⟨fun h => by simp [h], fun h10 => ⟨fun h => by simp [h], fun h11 => ⟨fun h => by simp [h], fun h12 => ⟨fun h => by simp [h], fun h13 => ?_⟩⟩⟩⟩⟩⟩⟩⟩⟩⟩⟩⟩⟩
 simp only [h1, h2, h3, h4, h5, h6, h7, h8, h9, h10, h11, h12, h13, if_false, or_self]
 exact e _
theorem Ph {i : TIn} (h0 : 0 ≤ i.K) (h1 : i.K < 18446744073709551616) :
 (L0 i.Op).2 = true ∧ (0 ≤ i.A ∧ i.A ≤ (L0 i.Op).1.a) ∧ (0 ≤ i.B ∧ i.B ≤ (L0 i.Op).1.b) ∧ (0 ≤ i.C ∧ i.C ≤ (L0 i.Op).1.c) ∧ (0 ≤ i.D ∧ i.D ≤ (L0 i.Op).1.d) ∧ i.K ≤ (L0 i.Op).1.k ↔ Bz i = true := by
 unfold L0 Bz
 simp only
 by_cases e1 : i.Op = 1
 · simp [e1]; omega
 by_cases e2 : i.Op = 2 ∨ i.Op = 23
 · simp only [e1, e2, if_false, if_true, Bool.and_eq_true, decide_eq_true_eq, true_and]; omega
 by_cases e3 : i.Op = 15
 · simp [e3]; omega
 by_cases e4 : i.Op = 16 ∨ i.Op = 17
 · have : ¬ (3 ≤ i.Op ∧ i.Op ≤ 14) := by omega
   simp only [e1, e2, e3, e4, this, if_false, if_true, Bool.and_eq_true, decide_eq_true_eq, true_and]; omega
 by_cases e5 : i.Op = 18
 · simp [e5]; omega
 by_cases e6 : i.Op = 19
 · simp [e6]; omega
 by_cases e7 : i.Op = 20
 · simp [e7]; omega
 by_cases e8 : i.Op = 21 ∨ i.Op = 22 ∨ i.Op = 24
 · have : ¬ (3 ≤ i.Op ∧ i.Op ≤ 14) := by omega
   simp only [e1, e2, e3, e4, e5, e6, e7, e8, this, if_false, if_true, Bool.and_eq_true, decide_eq_true_eq, true_and]; omega
 by_cases e9 : i.Op = 25
 · simp [e9]; omega
 by_cases e10 : 3 ≤ i.Op ∧ i.Op ≤ 14
 · have : 1 ≤ i.Op ∧ i.Op ≤ 17 := by omega
   simp only [e1, e2, e3, e4, e5, e6, e7, e8, e9, e10, this, if_false, if_true, Bool.and_eq_true, decide_eq_true_eq, true_and, and_self]; omega
 · have : ¬ (1 ≤ i.Op ∧ i.Op ≤ 17) := by omega
   simp only [e1, e2, e3, e4, e5, e6, e7, e8, e9, e10, this, if_false, decide_false, Bool.false_eq_true, false_and]
def Tv (i : TIn) : Prop := (0 ≤ i.K ∧ i.K < 18446744073709551616) ∧ i.A < 9223372036854775808 ∧ i.B < 9223372036854775808 ∧ i.C < 9223372036854775808 ∧ i.D < 9223372036854775808
theorem w_f3j (i : TIn) (h : Tv i) : D_f3j.wp i fun y => y = true ↔ Bz i = true := by
 refine of_wp ?_
 simp only [tt_f3j]
 refine wC (w_f22 i.Op) fun (y : TCl × Bool) hy => ?_
 subst hy
 rw [← Ph h.1.1 h.1.2]
 generalize L0 i.Op = m
 obtain ⟨⟨a, b, c, d, k⟩, ok⟩ := m
 cases ok <;> simp only [TT.wp, leI, Bool.false_eq_true, false_iff, false_imp_iff, not_false_eq_true, true_imp_iff, not_true_eq_false, true_and, and_true, false_and]
 · omega
theorem w_f23 (c : TRg) : D_f23.wp c fun y => y = true ↔ A8 c = true := by
 refine of_wp ?_
 have e : D_f23_3.wp (⟨c⟩ : X_f23_3) fun y => y = true ↔ (c.Kind = 1 ∧ c.AR = 1 ∨ c.Kind = 2 ∧ 1 ≤ c.AR ∧ c.AR ≤ 8) := by
  refine of_wp ?_
  simp only [tt_f23_3, TT.wp, leI, ieI, Bool.false_eq_true, true_iff, false_iff]
  omega
 simp only [tt_f23, TT.wp, ilI, Bool.false_eq_true, false_iff, A8, decide_eq_true_eq]
 refine ⟨fun h => by omega, fun h1 => ⟨fun h => by omega, fun h2 => e.mono fun y hy => by rw [hy]; omega⟩⟩
theorem w_f3g (x : Int) : D_f3g.wp x fun y => y = true ↔ 18 ≤ x ∧ x ≤ 20 := by
 refine of_wp ?_
 simp only [tt_f3g, TT.wp, ieI, true_iff]
 omega
structure Jk (p : TPg) : Prop where
 rn : p.AF.n ≤ maxLen
 tn : p.AB.n ≤ maxLen
 ln : ∀ t, t < p.AB.n → (p.AB.get t).n ≤ maxLen
 ins : ∀ t, t < p.AB.n → ∀ k, k < (p.AB.get t).n → Tv ((p.AB.get t).get k)
 rz : p.AF.nil = true → p.AF.n = 0
 lz : ∀ t, t < p.AB.n → (p.AB.get t).nil = true → (p.AB.get t).n = 0
def aP (p : TPg) : MP := ⟨p.AF.L, p.AB.L.map Sl.L⟩
theorem Gs {α : Type} (s : Sl α) {i : Int} (h0 : 0 ≤ i) (h : i < s.n) (d : α) : s.L.getD i.toNat d = s.get i.toNat := by
 have : i.toNat < s.n := by omega
 rw [List.getD, Sl.EF _ this]; rfl
theorem w_f3o (p : TPg) (i : TIn) (n : Nat) (hi : Tv i) (hn : n ≤ maxLen) (hr : ∀ c ∈ p.AF.L, A8 c = true) : D_f3o.wp (p, (i, (n : Int))) fun y => y = DZ p.AF.L i n := by
 refine of_wp ?_
 have hn := GN hn
 have hw : IntKind.u64.wrap (n : Int) = n := Am (by omega) (by omega)
 simp only [tt_f3o, hw]
 refine wC (w_f3j i hi) fun (y : Bool) hy => ?_
 simp only [TT.wp, leI, ilI, ieI, bnI, ibI, hy]
 refine ⟨fun h => by simp [DZ, h], fun h => ?_⟩
 have hR : Bz i = true := by simpa using h
 have hf := BF hR
 have hrd : 0 ≤ i.C → i.C < p.AF.n → IntKind.u64.wrap (p.AF.get i.C.toNat).AR = (p.AF.L.getD i.C.toNat ⟨0, 0, 0⟩).AR := fun h0 h1 => by
  rw [Gs _ h0 h1]
  have := Fw (hr _ (Sl.Cg.2 ⟨i.C.toNat, by omega, rfl⟩))
  exact Am (by omega) (by omega)
 have e : DZ p.AF.L i n = if 15 ≤ i.Op ∧ i.Op ≤ 17 ∧ (n : Int) < i.K then 5 else if 18 ≤ i.Op ∧ i.Op ≤ 20 ∧ (p.AF.n : Int) ≤ i.C then 7 else if i.Op = 19 ∧ (p.AF.L.getD i.C.toNat ⟨0, 0, 0⟩).AR ≤ i.K then 7 else 0 := by
  simp only [DZ, hR, Bool.true_eq_false, if_false, Sl.Bf]
 rw [e]
 refine QU (w_f3k i) fun (y : Bool) hj => ?_
 simp only [hj]
 refine ⟨fun h => ⟨fun h1 => by rw [if_pos ⟨h.1, h.2, h1⟩], fun h1 => ?_⟩, fun h => ?_⟩
 all_goals
  refine QU (w_f3g i.Op) fun (y : Bool) hg => ?_
  simp only [hg]
  refine ⟨fun h2 => ⟨fun h3 => ?_, fun h3 => ⟨fun h4 => ⟨?_, fun h5 => ?_, fun h5 => ?_⟩, fun h4 => ?_⟩⟩, fun h2 => ⟨fun h4 => by omega, fun h4 => ?_⟩⟩
  all_goals (repeat' split) <;> first | rfl | (exfalso; omega) | omega
def Jo (rs : List TRg) (l : Sl TIn) : Prop := ∀ k, k < l.n → DZ rs (l.get k) l.n = 0
theorem l_f3_16 (p : TPg) (hp : Jk p) (hr : ∀ c ∈ p.AF.L, A8 c = true) (t : Nat) (ht : t < p.AB.n) (D11 : AU X_f3_11 R_f3) (Q : R_f3 → Prop)
 (hbad : ∀ y : Int × Int × Int, y.2.2 ≠ 0 → ¬ Jo p.AF.L (p.AB.get t) → Q y) (hgood : Jo p.AF.L (p.AB.get t) → D11.wp ⟨p, p.AB, p.AB.n, IntKind.i64.wrap ((t : Int) + 1)⟩ Q) :
 (D_f3_16 D11).wp ⟨p, t, p.AB.get t, p.AB, p.AB.n, t, p.AB.get t, (p.AB.get t).n, 0⟩ Q := by
 have hl := hp.ln t ht
 refine C4 (fun k => (⟨p, t, p.AB.get t, p.AB, p.AB.n, t, p.AB.get t, (p.AB.get t).n, (k : Nat)⟩ : X_f3_16)) (p.AB.get t).n (fun k => ∀ j, j < k → DZ p.AF.L ((p.AB.get t).get j) (p.AB.get t).n = 0) Q
  (fun D hJ => ?_) (fun D k hk hJ hD => ?_) (k := 0) (Nat.zero_le _) (fun j hj => by omega)
 · simp only [tt_f3_16, BA, Nat.lt_irrefl, decide_false, B3]
   exact of_wp (hgood hJ)
 · simp only [tt_f3_16, BA, hk, decide_true, CQ, A6 hk, A9, Int.toNat_natCast, C0 hk hl]
   refine wC (w_f3o p _ _ (hp.ins t ht k hk) hl hr) fun (y : Int) hy => ?_
   subst hy
   simp only [TT.wp, bnI, ieI]
   refine ⟨fun h => hbad _ h fun hok => h (hok k hk), fun h => hD fun j hj => ?_⟩
   by_cases e : j = k
   · subst e; exact Classical.byContradiction h
   · exact hJ j (by omega)
theorem O4 (p : TPg) (h1 : 1 ≤ p.AB.n) (h2 : p.AB.n ≤ 8) (h3 : p.AF.n ≤ 8) (hr : ∀ c ∈ p.AF.L, A8 c = true)
 (ht : ∀ t, t < p.AB.n → (p.AB.get t).n ≤ 256 ∧ Jo p.AF.L (p.AB.get t)) : FL (aP p) where
 t1 := by simpa [aP] using h1
 t8 := by simpa [aP] using h2
 r8 := by simpa [aP] using h3
 rg := hr
 len l hl := by
  simp only [aP, List.mem_map] at hl
  obtain ⟨s, hs, rfl⟩ := hl
  obtain ⟨t, h, rfl⟩ := Sl.Cg.1 hs
  simpa using (ht t h).1
 ins l hl i hi := by
  simp only [aP, List.mem_map] at hl
  obtain ⟨s, hs, rfl⟩ := hl
  obtain ⟨t, h, rfl⟩ := Sl.Cg.1 hs
  obtain ⟨k, hk, rfl⟩ := Sl.Cg.1 hi
  have := (ht t h).2 k hk
  simpa [aP] using this
theorem BX {p : TPg} (h : FL (aP p)) : 1 ≤ p.AB.n ∧ p.AB.n ≤ 8 ∧ p.AF.n ≤ 8 ∧ (∀ c ∈ p.AF.L, A8 c = true) ∧ ∀ t, t < p.AB.n → (p.AB.get t).n ≤ 256 ∧ Jo p.AF.L (p.AB.get t) := by
 have hm : ∀ t, t < p.AB.n → (p.AB.get t).L ∈ (aP p).AB := fun t ht => List.mem_map.2 ⟨_, Sl.Cg.2 ⟨t, ht, rfl⟩, rfl⟩
 refine ⟨by simpa [aP] using h.t1, by simpa [aP] using h.t8, by simpa [aP] using h.r8, h.rg, fun t ht => ⟨by simpa using h.len _ (hm t ht), fun k hk => ?_⟩⟩
 have := h.ins _ (hm t ht) _ (Sl.Cg.2 ⟨k, hk, rfl⟩)
 simpa [aP] using this
theorem l_f3_11 (p : TPg) (hp : Jk p) (h1 : 1 ≤ p.AB.n) (h2 : p.AB.n ≤ 8) (h3 : p.AF.n ≤ 8) (hr : ∀ c ∈ p.AF.L, A8 c = true) :
 D_f3_11.wp ⟨p, p.AB, p.AB.n, 0⟩ fun y => y.2.2 = 0 ↔ FL (aP p) := by
 refine C4 (fun k => (⟨p, p.AB, p.AB.n, (k : Nat)⟩ : X_f3_11)) p.AB.n (fun k => ∀ t, t < k → (p.AB.get t).n ≤ 256 ∧ Jo p.AF.L (p.AB.get t)) _
  (fun D hJ => ?_) (fun D k hk hJ hD => ?_) (k := 0) (Nat.zero_le _) (fun j hj => by omega)
 · simp only [tt_f3_11, BA, Nat.lt_irrefl, decide_false, B3]
   exact ⟨fun _ => O4 p h1 h2 h3 hr hJ, fun _ => rfl⟩
 · simp only [tt_f3_11, BA, hk, decide_true, CQ, A6 hk, A9, Int.toNat_natCast]
   refine AE ilI (fun h => ?_) (fun h => ?_)
   · show ((4 : Int) = 0 ↔ _)
     refine ⟨fun h => by omega, fun hP => ?_⟩
     have := ((BX hP).2.2.2.2 k hk).1
     omega
   · refine l_f3_16 p hp hr k hk D _ (fun y hy hno => ⟨fun h => absurd h hy, fun hP => absurd ((BX hP).2.2.2.2 k hk).2 hno⟩) fun hok => ?_
     rw [C0 hk hp.tn]
     refine hD fun t ht => ?_
     by_cases e : t = k
     · subst e; exact ⟨by omega, hok⟩
     · exact hJ t (by omega)
theorem w_f3 (p : TPg) (hp : Jk p) : D_f3.wp p fun y => y.2.2 = 0 ↔ FL (aP p) := by
 have ne : ∀ {x : Int} {q : Prop}, x ≠ 0 → ¬ q → (x = 0 ↔ q) := fun h k => ⟨fun e => absurd e h, fun e => absurd e k⟩
 refine of_wp ?_
 simp only [tt_f3]
 refine AE ieI (fun h => ?_) fun h0 => AE ilI (fun h => ?_) fun h8 => AE ilI (fun h => ?_) fun hr8 => ?_
 · exact ne (by decide) fun hP => by have := (BX hP).1; omega
 · exact ne (by decide) fun hP => by have := (BX hP).2.1; omega
 · exact ne (by decide) fun hP => by have := (BX hP).2.2.1; omega
 · refine of_wp ?_
   simp only [tt_f3_4]
   refine C4 (fun k => (⟨p, p.AF, p.AF.n, (k : Nat)⟩ : X_f3_5)) p.AF.n (fun k => ∀ j, j < k → A8 (p.AF.get j) = true) _
    (fun D hJ => ?_) (fun D k hk hJ hD => ?_) (k := 0) (Nat.zero_le _) (fun j hj => by omega)
   · simp only [tt_f3_5, BA, Nat.lt_irrefl, decide_false, B3]
     refine of_wp ?_
     simp only [tt_f3_10]
     exact l_f3_11 p hp (by omega) (by omega) (by omega) fun c hc => by
      obtain ⟨j, hj, rfl⟩ := Sl.Cg.1 hc
      exact hJ j hj
   · simp only [tt_f3_5, BA, hk, decide_true, CQ, A6 hk, A9, Int.toNat_natCast, C0 hk hp.rn]
     refine wC (w_f23 _) fun (y : Bool) hy => ?_
     simp only [TT.wp, bnI, hy]
     refine ⟨fun h => ne (by decide) fun hP => h ((BX hP).2.2.2.1 _ (Sl.Cg.2 ⟨k, hk, rfl⟩)), fun h => hD fun j hj => ?_⟩
     by_cases e : j = k
     · subst e; exact Classical.byContradiction h
     · exact hJ j (by omega)
theorem w_f3a (p : TPg) (hp : Jk p) : D_f3a.wp p fun y => y = true ↔ FL (aP p) := by
 refine of_wp ?_
 simp only [tt_f3a]
 refine wC (w_f3 p hp) fun (y : Int × Int × Int) hy => ?_
 show (AW y.2.2 0 = true ↔ _)
 rw [ieI]
 exact hy
def C6 (x : Int) : ByteArray :=
 if x = 1 then ⟨#[114, 48, 48, 48, 110]⟩
 else if x = 2 ∨ x = 23 then ⟨#[114, 114, 48, 48, 48]⟩
 else if 3 ≤ x ∧ x ≤ 14 then ⟨#[114, 114, 114, 48, 48]⟩
 else if x = 15 then ⟨#[48, 48, 48, 48, 112]⟩
 else if x = 16 ∨ x = 17 then ⟨#[114, 48, 48, 48, 112]⟩
 else if x = 18 then ⟨#[114, 114, 103, 109, 48]⟩
 else if x = 19 then ⟨#[114, 114, 103, 109, 100]⟩
 else if x = 20 then ⟨#[48, 48, 103, 48, 48]⟩
 else if x = 21 ∨ x = 22 ∨ x = 24 then ⟨#[114, 48, 48, 48, 48]⟩
 else if x = 25 then ⟨#[48, 48, 48, 48, 48]⟩
 else ⟨#[]⟩
def Cp (c : Int) : Int := if c = 114 ∨ c = 103 ∨ c = 100 then 7 else if c = 109 then 2 else if c = 112 then 256 else if c = 110 then 18446744073709551615 else 0
theorem w_f47 (x : Int) : D_f47.wp x fun y => y = C6 x := by
 refine of_wp ?_
 simp only [tt_f47, TT.wp, ieI, leI]
 repeat' (first | apply And.intro | intro _)
 all_goals first
  | (exfalso; omega)
  | (rename_i h; subst h; rfl)
  | (unfold C6; rw [if_neg (by omega), if_neg (by omega), if_pos (by omega)])
  | (unfold C6; rw [if_neg (by omega), if_neg (by omega), if_neg (by omega), if_neg (by omega), if_neg (by omega), if_neg (by omega), if_neg (by omega), if_neg (by omega), if_neg (by omega), if_neg (by omega)])
theorem w_f43 (x : Int) : D_f43.wp x fun y => y = Cp x := by
 refine of_wp ?_
 simp only [tt_f43, TT.wp, ieI]
 repeat' (first | apply And.intro | intro _)
 all_goals first
  | (rename_i h; subst h; rfl)
  | (unfold Cp; rw [if_neg (by omega), if_neg (by omega), if_neg (by omega), if_neg (by omega)])
def J8 (i : TIn) (j : Nat) : Int := cond (Nat.beq j 0) i.A (cond (Nat.beq j 1) i.B (cond (Nat.beq j 2) i.C i.D))
theorem RW (x : Int) : C6 x = ⟨#[]⟩ ∨ (C6 x).size = 5 := by
 unfold C6
 repeat' split
 all_goals first | exact .inr rfl | exact .inl rfl
theorem Ps {i : TIn} (h : Tv i) : (C6 i.Op ≠ ⟨#[]⟩ ∧ i.K ≤ Cp (bt (C6 i.Op) 4) ∧ ∀ j, j < 4 → 0 ≤ J8 i j ∧ J8 i j ≤ Cp (bt (C6 i.Op) j)) ↔ Bz i = true := by
 have e4 : ∀ (f : ByteArray), (∀ j, j < 4 → 0 ≤ J8 i j ∧ J8 i j ≤ Cp (bt f j)) ↔ (0 ≤ i.A ∧ i.A ≤ Cp (bt f 0)) ∧ (0 ≤ i.B ∧ i.B ≤ Cp (bt f 1)) ∧ (0 ≤ i.C ∧ i.C ≤ Cp (bt f 2)) ∧ (0 ≤ i.D ∧ i.D ≤ Cp (bt f 3)) := by
  intro f
  refine ⟨fun h => ⟨h 0 (by omega), h 1 (by omega), h 2 (by omega), h 3 (by omega)⟩, fun h j hj => ?_⟩
  match j, hj with
  | 0, _ => exact h.1
  | 1, _ => exact h.2.1
  | 2, _ => exact h.2.2.1
  | 3, _ => exact h.2.2.2
 rw [e4]
 obtain ⟨⟨k0, k1⟩, _⟩ := h
 have m : Cp 114 = 7 ∧ Cp 48 = 0 ∧ Cp 110 = 18446744073709551615 ∧ Cp 112 = 256 ∧ Cp 103 = 7 ∧ Cp 109 = 2 ∧ Cp 100 = 7 := by decide
 obtain ⟨m1, m2, m3, m4, m5, m6, m7⟩ := m
 have ne : ∀ {a b c d e : UInt8}, (⟨#[a, b, c, d, e]⟩ : ByteArray) ≠ ⟨#[]⟩ := fun h => by cases h
 have b5 : ∀ (a b c d e : UInt8), bt ⟨#[a, b, c, d, e]⟩ 0 = (a.toNat : Int) ∧ bt ⟨#[a, b, c, d, e]⟩ 1 = (b.toNat : Int) ∧ bt ⟨#[a, b, c, d, e]⟩ 2 = (c.toNat : Int) ∧ bt ⟨#[a, b, c, d, e]⟩ 3 = (d.toNat : Int) ∧ bt ⟨#[a, b, c, d, e]⟩ 4 = (e.toNat : Int) :=
  fun a b c d e => ⟨rfl, rfl, rfl, rfl, rfl⟩
 have u : (((114 : UInt8).toNat : Nat) : Int) = 114 ∧ (((48 : UInt8).toNat : Nat) : Int) = 48 ∧ (((110 : UInt8).toNat : Nat) : Int) = 110 ∧ (((112 : UInt8).toNat : Nat) : Int) = 112 ∧ (((103 : UInt8).toNat : Nat) : Int) = 103 ∧
  (((109 : UInt8).toNat : Nat) : Int) = 109 ∧ (((100 : UInt8).toNat : Nat) : Int) = 100 := by decide
 obtain ⟨u1, u2, u3, u4, u5, u6, u7⟩ := u
 have key : ∀ (a b c d e : UInt8), ((⟨#[a, b, c, d, e]⟩ : ByteArray) ≠ ⟨#[]⟩ ∧ i.K ≤ Cp (bt ⟨#[a, b, c, d, e]⟩ 4) ∧ (0 ≤ i.A ∧ i.A ≤ Cp (bt ⟨#[a, b, c, d, e]⟩ 0)) ∧ (0 ≤ i.B ∧ i.B ≤ Cp (bt ⟨#[a, b, c, d, e]⟩ 1)) ∧ (0 ≤ i.C ∧ i.C ≤ Cp (bt ⟨#[a, b, c, d, e]⟩ 2)) ∧ (0 ≤ i.D ∧ i.D ≤ Cp (bt ⟨#[a, b, c, d, e]⟩ 3))) ↔
  (i.K ≤ Cp e.toNat ∧ (0 ≤ i.A ∧ i.A ≤ Cp a.toNat) ∧ (0 ≤ i.B ∧ i.B ≤ Cp b.toNat) ∧ (0 ≤ i.C ∧ i.C ≤ Cp c.toNat) ∧ (0 ≤ i.D ∧ i.D ≤ Cp d.toNat)) := by
  intro a b c d e
  obtain ⟨h0, h1, h2, h3, h4⟩ := b5 a b c d e
  rw [h0, h1, h2, h3, h4]
  exact ⟨fun h => h.2, fun h => ⟨ne, h⟩⟩
 by_cases e1 : i.Op = 1
 · have hf : C6 i.Op = ⟨#[114, 48, 48, 48, 110]⟩ := by rw [e1]; rfl
   rw [hf, key, u1, u2, u3, m1, m2, m3]; unfold Bz; simp only [e1]; simp; omega
 by_cases e2 : i.Op = 2 ∨ i.Op = 23
 · have hf : C6 i.Op = ⟨#[114, 114, 48, 48, 48]⟩ := by unfold C6; rw [if_neg e1, if_pos e2]
   rw [hf, key, u1, u2, m1, m2]; unfold Bz; simp only [e1, e2, if_false, if_true, Bool.and_eq_true, decide_eq_true_eq]; omega
 by_cases e3 : 3 ≤ i.Op ∧ i.Op ≤ 14
 · have hf : C6 i.Op = ⟨#[114, 114, 114, 48, 48]⟩ := by unfold C6; rw [if_neg e1, if_neg e2, if_pos e3]
   rw [hf, key, u1, u2, m1, m2]; unfold Bz; simp only [e1, e2, e3, if_false, if_true, and_self, Bool.and_eq_true, decide_eq_true_eq]; omega
 by_cases e4 : i.Op = 15
 · have hf : C6 i.Op = ⟨#[48, 48, 48, 48, 112]⟩ := by rw [e4]; rfl
   rw [hf, key, u2, u4, m2, m4]; unfold Bz; simp only [e4]; simp; omega
 by_cases e5 : i.Op = 16 ∨ i.Op = 17
 · have hf : C6 i.Op = ⟨#[114, 48, 48, 48, 112]⟩ := by unfold C6; rw [if_neg e1, if_neg e2, if_neg e3, if_neg e4, if_pos e5]
   rw [hf, key, u1, u2, u4, m1, m2, m4]; unfold Bz; simp only [e1, e2, e3, e4, e5, if_false, if_true, Bool.and_eq_true, decide_eq_true_eq]; omega
 by_cases e6 : i.Op = 18
 · have hf : C6 i.Op = ⟨#[114, 114, 103, 109, 48]⟩ := by rw [e6]; rfl
   rw [hf, key, u1, u2, u5, u6, m1, m2, m5, m6]; unfold Bz; simp only [e6]; simp; omega
 by_cases e7 : i.Op = 19
 · have hf : C6 i.Op = ⟨#[114, 114, 103, 109, 100]⟩ := by rw [e7]; rfl
   rw [hf, key, u1, u5, u6, u7, m1, m5, m6, m7]; unfold Bz; simp only [e7]; simp; omega
 by_cases e8 : i.Op = 20
 · have hf : C6 i.Op = ⟨#[48, 48, 103, 48, 48]⟩ := by rw [e8]; rfl
   rw [hf, key, u2, u5, m2, m5]; unfold Bz; simp only [e8]; simp; omega
 by_cases e9 : i.Op = 21 ∨ i.Op = 22 ∨ i.Op = 24
 · have hf : C6 i.Op = ⟨#[114, 48, 48, 48, 48]⟩ := by unfold C6; rw [if_neg e1, if_neg e2, if_neg e3, if_neg e4, if_neg e5, if_neg e6, if_neg e7, if_neg e8, if_pos e9]
   rw [hf, key, u1, u2, m1, m2]; unfold Bz; simp only [e1, e2, e3, e4, e5, e6, e7, e8, e9, if_false, if_true, Bool.and_eq_true, decide_eq_true_eq]; omega
 by_cases e10 : i.Op = 25
 · have hf : C6 i.Op = ⟨#[48, 48, 48, 48, 48]⟩ := by rw [e10]; rfl
   rw [hf, key, u2, m2]; unfold Bz; simp only [e10]; simp; omega
 · have hf : C6 i.Op = ⟨#[]⟩ := by unfold C6; rw [if_neg e1, if_neg e2, if_neg e3, if_neg e4, if_neg e5, if_neg e6, if_neg e7, if_neg e8, if_neg e9, if_neg e10]
   rw [hf]; unfold Bz; simp only [e1, e2, e3, e4, e5, e6, e7, e8, e9, e10, if_false, ne_eq, not_true_eq_false, false_and, Bool.false_eq_true]
theorem w_fm (i : TIn) (h : Tv i) : D_fm.wp i fun y => y = true ↔ Bz i = true := by
 refine of_wp ?_
 simp only [tt_fm]
 refine wC (w_f47 i.Op) fun (y : ByteArray) hy => ?_
 subst hy
 have hR := Ps h
 have hs := RW i.Op
 generalize C6 i.Op = f at hR hs
 refine AE (p := f = ⟨#[]⟩) M5 (fun he => ?_) (fun he => ?_)
 · show (false = true ↔ _)
   rw [← hR]; exact ⟨fun h => absurd h (by decide), fun h => absurd he h.1⟩
 · have hs : f.size = 5 := hs.resolve_left he
   refine wN (by rw [ibI, hs]; decide) ?_
   refine wC (w_f43 _) fun (y : Int) hy => ?_
   subst hy
   refine AE ilI (fun hk => ?_) (fun hk => ?_)
   · show (false = true ↔ _)
     rw [← hR]
     refine ⟨fun h => absurd h (by decide), fun h => ?_⟩
     have := h.2.1
     exact absurd hk (Int.not_lt.2 this)
   · refine of_wp ?_
     simp only [tt_fm_4]
     refine C4 (fun k => (⟨f, ⟨false, 4, J8 i⟩, (k : Nat)⟩ : X_fm_6)) 4 (fun k => ∀ j, j < k → 0 ≤ J8 i j ∧ J8 i j ≤ Cp (bt f j)) _
      (fun D hJ => ?_) (fun D k hk4 hJ hD => ?_) (k := 0) (Nat.zero_le _) (fun j hj => by omega)
     · simp only [tt_fm_6]
       refine AE ilI (fun hk => absurd hk (by decide)) (fun _ => ?_)
       show (true = true ↔ _)
       rw [← hR]
       exact ⟨fun _ => ⟨he, Int.not_lt.1 hk, hJ⟩, fun _ => rfl⟩
     · simp only [tt_fm_6]
       refine AE ilI (fun _ => ?_) (fun hk => absurd (Int.ofNat_lt.2 hk4) hk)
       refine wN (by rw [ibI]; exact ⟨Int.natCast_nonneg _, Int.ofNat_lt.2 hk4⟩) ?_
       rw [Int.toNat_natCast]
       have hb : J8 i k < 9223372036854775808 := by
        obtain ⟨_, a, b, c, d⟩ := h
        match k, hk4 with
        | 0, _ => exact a
        | 1, _ => exact b
        | 2, _ => exact c
        | 3, _ => exact d
       refine AE (p := J8 i k < 0) ilI (fun hn => ?_) (fun hn => ?_)
       · show (false = true ↔ _)
         rw [← hR]
         refine ⟨fun h => absurd h (by decide), fun h => ?_⟩
         have := (h.2.2 k hk4).1; omega
       · refine wN (by rw [ibI]; exact ⟨Int.natCast_nonneg _, Int.ofNat_lt.2 hk4⟩) (wN (by rw [ibI, hs]; omega) ?_)
         refine wC (w_f43 _) fun (y : Int) hy => ?_
         subst hy
         refine AE (p := Cp (bt f k) < J8 i k) (by rw [ilI]; show Cp _ < IntKind.u64.wrap (J8 i k) ↔ _; rw [Am (by omega) (by omega)]) (fun hn2 => ?_) (fun hn2 => ?_)
         · show (false = true ↔ _)
           rw [← hR]
           refine ⟨fun h => absurd h (by decide), fun h => ?_⟩
           have := (h.2.2 k hk4).2; omega
         · refine of_wp ?_
           simp only [tt_fm_7]
           have e : IntKind.i64.wrap ((k : Int) + 1) = ((k + 1 : Nat) : Int) := by rw [wrap64] <;> omega
           show D.wp ⟨f, ⟨false, 4, J8 i⟩, _⟩ _
           rw [e]
           refine hD fun j hj => ?_
           by_cases ej : j = k
           · subst ej; exact ⟨by omega, by omega⟩
           · exact hJ j (by omega)
theorem w_f46 (c : TRg) : D_f46.wp c fun y => y = true ↔ A8 c = true := by
 refine of_wp ?_
 simp only [tt_f46, TT.wp, leI, ieI, Bool.false_eq_true, true_iff, false_iff, A8, decide_eq_true_eq]
 omega
theorem w_f24 (p : TPg) (i : TIn) (n : Nat) (hn : n ≤ maxLen) (hr : ∀ c ∈ p.AF.L, A8 c = true) (hR : Bz i = true) : D_f24.wp (p, (i, (n : Int))) fun y => y = DZ p.AF.L i n := by
 have hn := GN hn
 have hw : IntKind.u64.wrap (n : Int) = n := Am (by omega) (by omega)
 have hf := BF hR
 have hrd : 0 ≤ i.C → i.C < p.AF.n → IntKind.u64.wrap (p.AF.get i.C.toNat).AR = (p.AF.L.getD i.C.toNat ⟨0, 0, 0⟩).AR := fun h0 h1 => by
  rw [Gs _ h0 h1]
  have := Fw (hr _ (Sl.Cg.2 ⟨i.C.toNat, by omega, rfl⟩))
  exact Am (by omega) (by omega)
 have e : DZ p.AF.L i n = if 15 ≤ i.Op ∧ i.Op ≤ 17 ∧ (n : Int) < i.K then 5 else if 18 ≤ i.Op ∧ i.Op ≤ 20 ∧ (p.AF.n : Int) ≤ i.C then 7 else if i.Op = 19 ∧ (p.AF.L.getD i.C.toNat ⟨0, 0, 0⟩).AR ≤ i.K then 7 else 0 := by
  simp only [DZ, hR, Bool.true_eq_false, if_false, Sl.Bf]
 have e3 : ¬ (15 ≤ i.Op ∧ i.Op ≤ 17 ∧ (n : Int) < i.K) → D_f24_3.wp (⟨p, i⟩ : X_f24_3) fun y => y = DZ p.AF.L i n := by
  intro hno
  refine of_wp ?_
  rw [e, if_neg hno]
  simp only [tt_f24_3, TT.wp, leI, ieI, ibI]
  repeat' (first | apply And.intro | intro _)
  all_goals first
   | omega
   | ((repeat' split) <;> first | rfl | (exfalso; omega) | omega)
 refine of_wp ?_
 simp only [tt_f24, hw]
 refine AE leI (fun h => AE leI (fun h2 => AE ilI (fun h3 => ?_) (fun h3 => ?_)) (fun h2 => ?_)) (fun h => ?_)
 · show (5 : Int) = _
   rw [e, if_pos ⟨h, h2, h3⟩]
 · exact e3 fun hh => h3 hh.2.2
 · exact e3 fun hh => h2 hh.2.1
 · exact e3 fun hh => h hh.1
theorem l_f2_15 (p : TPg) (hp : Jk p) (hr : ∀ c ∈ p.AF.L, A8 c = true) (t : Nat) (ht : t < p.AB.n) (D9 : AU X_f2_9 R_f2) (Q : R_f2 → Prop)
 (hbad : ∀ y : Int × Int × Int, y.2.2 ≠ 0 → ¬ Jo p.AF.L (p.AB.get t) → Q y) (hgood : Jo p.AF.L (p.AB.get t) → D9.wp ⟨p, IntKind.i64.wrap ((t : Int) + 1)⟩ Q) :
 (D_f2_15 D9).wp ⟨p, t, p.AB.get t, 0⟩ Q := by
 have hl := hp.ln t ht
 refine C4 (fun k => (⟨p, t, p.AB.get t, (k : Nat)⟩ : X_f2_15)) (p.AB.get t).n (fun k => ∀ j, j < k → DZ p.AF.L ((p.AB.get t).get j) (p.AB.get t).n = 0) Q
  (fun D hJ => ?_) (fun D k hk hJ hD => ?_) (k := 0) (Nat.zero_le _) (fun j hj => by omega)
 · simp only [tt_f2_15, BA, Nat.lt_irrefl, decide_false, B3]
   refine of_wp ?_
   simp only [tt_f2_10]
   exact hgood hJ
 · simp only [tt_f2_15, BA, hk, decide_true, CQ, A6 hk, A9, Int.toNat_natCast]
   have h20 : ∀ e, e = DZ p.AF.L ((p.AB.get t).get k) (p.AB.get t).n →
    (D_f2_20 D9 D).wp (⟨p, t, p.AB.get t, k, e⟩ : X_f2_20) Q := by
    intro e he
    refine of_wp ?_
    simp only [tt_f2_20]
    refine AE (p := e ≠ 0) (by rw [bnI, ieI]) (fun h => ?_) (fun h => ?_)
    · exact hbad (_, _, e) h fun hok => h (he.trans (hok k hk))
    · refine of_wp ?_
      simp only [tt_f2_16, C0 hk hl]
      refine hD fun j hj => ?_
      by_cases ej : j = k
      · subst ej; rw [← he]; exact Classical.byContradiction h
      · exact hJ j (by omega)
   refine wC (w_fm _ (hp.ins t ht k hk)) fun (y : Bool) hy => ?_
   refine AE hy (fun hR => ?_) (fun hR => ?_)
   · exact wN rfl (wC (w_f24 p _ _ hl hr hR) fun (y : Int) hy =>
     h20 y hy)
   · refine h20 6 ?_
     rw [DZ, if_pos (by simpa using hR)]
theorem l_f2_9 (p : TPg) (hp : Jk p) (h1 : 1 ≤ p.AB.n) (h2 : p.AB.n ≤ 8) (h3 : p.AF.n ≤ 8) (hr : ∀ c ∈ p.AF.L, A8 c = true) :
 D_f2_9.wp ⟨p, 0⟩ fun y => y.2.2 = 0 ↔ FL (aP p) := by
 refine C4 (fun k => (⟨p, (k : Nat)⟩ : X_f2_9)) p.AB.n (fun k => ∀ t, t < k → (p.AB.get t).n ≤ 256 ∧ Jo p.AF.L (p.AB.get t)) _
  (fun D hJ => ?_) (fun D k hk hJ hD => ?_) (k := 0) (Nat.zero_le _) (fun j hj => by omega)
 · simp only [tt_f2_9, BA, Nat.lt_irrefl, decide_false, B3]
   exact ⟨fun _ => O4 p h1 h2 h3 hr hJ, fun _ => rfl⟩
 · simp only [tt_f2_9, BA, hk, decide_true, CQ, A6 hk, A9, Int.toNat_natCast]
   refine AE ilI (fun h => ?_) (fun h => ?_)
   · show ((4 : Int) = 0 ↔ _)
     refine ⟨fun h => by omega, fun hP => ?_⟩
     have := ((BX hP).2.2.2.2 k hk).1
     omega
   · refine l_f2_15 p hp hr k hk D _ (fun y hy hno => ⟨fun h => absurd h hy, fun hP => absurd ((BX hP).2.2.2.2 k hk).2 hno⟩) fun hok => ?_
     rw [C0 hk hp.tn]
     refine hD fun t ht => ?_
     by_cases e : t = k
     · subst e; exact ⟨by omega, hok⟩
     · exact hJ t (by omega)
theorem w_f2 (p : TPg) (hp : Jk p) : D_f2.wp p fun y => y.2.2 = 0 ↔ FL (aP p) := by
 have ne : ∀ {x : Int} {q : Prop}, x ≠ 0 → ¬ q → (x = 0 ↔ q) := fun h k => ⟨fun e => absurd e h, fun e => absurd e k⟩
 refine of_wp ?_
 simp only [tt_f2]
 refine AE ieI (fun h => ?_) fun h0 => AE ilI (fun h => ?_) fun h8 => AE ilI (fun h => ?_) fun hr8 => ?_
 · exact ne (by decide) fun hP => by have := (BX hP).1; omega
 · exact ne (by decide) fun hP => by have := (BX hP).2.1; omega
 · exact ne (by decide) fun hP => by have := (BX hP).2.2.1; omega
 · refine of_wp ?_
   simp only [tt_f2_3]
   refine C4 (fun k => (⟨p, (k : Nat)⟩ : X_f2_4)) p.AF.n (fun k => ∀ j, j < k → A8 (p.AF.get j) = true) _
    (fun D hJ => ?_) (fun D k hk hJ hD => ?_) (k := 0) (Nat.zero_le _) (fun j hj => by omega)
   · simp only [tt_f2_4, BA, Nat.lt_irrefl, decide_false, B3]
     refine of_wp ?_
     simp only [tt_f2_8]
     exact l_f2_9 p hp (by omega) (by omega) (by omega) fun c hc => by
      obtain ⟨j, hj, rfl⟩ := Sl.Cg.1 hc
      exact hJ j hj
   · simp only [tt_f2_4, BA, hk, decide_true, CQ, A6 hk, A9, Int.toNat_natCast, C0 hk hp.rn]
     refine wC (w_f46 _) fun (y : Bool) hy => ?_
     simp only [TT.wp, bnI, hy]
     refine ⟨fun h => ne (by decide) fun hP => h ((BX hP).2.2.2.1 _ (Sl.Cg.2 ⟨k, hk, rfl⟩)), fun h => hD fun j hj => ?_⟩
     by_cases e : j = k
     · subst e; exact Classical.byContradiction h
     · exact hJ j (by omega)
theorem w_f41 (p : TPg) (hp : Jk p) : D_f41.wp p fun y => y = true ↔ FL (aP p) := by
 refine of_wp ?_
 simp only [tt_f41]
 refine wC (w_f2 p hp) fun (y : Int × Int × Int) hy => ?_
 show (AW y.2.2 0 = true ↔ _)
 rw [ieI]
 exact hy
theorem F9 {P : Program} {X R : Type} {tt : AU X R → X → TT P R} (st : Nat → X) (N : Nat) (p : Nat → Prop) (Q : R → Prop) (hend : ∀ D, (∀ j, j < N → p j) → (tt D (st N)).wp Q)
 (hstep : ∀ (D : AU X R) k, k < N → (p k → D.wp (st (k + 1)) Q) → (tt D (st k)).wp Q) : (AU.loop tt).wp (st 0) Q :=
 C4 st N (fun k => ∀ j, j < k → p j) Q hend
  (fun D k hk hJ hD => hstep D k hk fun h => hD fun j hj => by
    by_cases e : j = k
    · subst e; exact h
    · exact hJ j (by omega)) (Nat.zero_le _) fun j hj => by omega
theorem Bb {q : Prop} (h : ¬ q) : (false = true ↔ q) := ⟨fun e => absurd e (by decide), fun k => absurd k h⟩
theorem PI {q : Prop} (h : q) : (true = true ↔ q) := ⟨fun _ => h, fun _ => rfl⟩
theorem D4 {b : Bool} {p q : Prop} (hb : b = true ↔ p) (h : p ↔ q) : (b = true ↔ q) := hb.trans h
structure DI {α : Type} (y x : Sl α) : Prop where
 n : y.n = x.n
 g : ∀ i, i < x.n → y.get i = x.get i
theorem DI.L {α : Type} {y x : Sl α} (h : DI y x) : y.L = x.L := Sl.TR h.n fun i hi => h.g i (h.n ▸ hi)
theorem DI.refl {α : Type} (x : Sl α) : DI x x := ⟨rfl, fun _ _ => rfl⟩
def CR {α : Type} (x : Sl α) : Prop := x.nil = true → x.n = 0
theorem L9 (i : Nat) : Nat.blt i 0 = false := rfl
theorem room_le {n b : Nat} (h : n * b ≤ 140737488351232) : (true && room (0 + n) b) = true := by simp [room]; omega
theorem Kc (x : Sl Int) (h : CR x) (hn : x.n * 8 ≤ 140737488351232) : D_f2b.wp x fun y => DI y x ∧ CR y := by
 refine of_wp ?_
 simp only [tt_f2b]
 refine Al (fun e => ⟨⟨(h e).symm, fun i hi => by have := h e; omega⟩, fun _ => rfl⟩) fun _ => wN (room_le hn) ⟨⟨?_, fun i _ => rfl⟩, fun e => ?_⟩
 · exact Nat.zero_add _
 · simp only [Bool.cond_self, Bool.false_eq_true] at e
theorem IE (x : Sl Int) (h : CR x) (hn : x.n * 8 ≤ 140737488351232) : D_f1w.wp x fun y => DI y x ∧ CR y := by
 refine of_wp ?_
 simp only [tt_f1w]
 refine Al (fun e => ⟨⟨(h e).symm, fun i hi => by have := h e; omega⟩, fun _ => rfl⟩) fun _ => wN (room_le hn) ⟨⟨?_, fun i _ => rfl⟩, fun e => ?_⟩
 · exact Nat.zero_add _
 · simp only [Bool.cond_self, Bool.false_eq_true] at e
theorem J0 (x : Sl TSo) (h : CR x) (hn : x.n * 24 ≤ 140737488351232) : D_f1m.wp x fun y => DI y x ∧ CR y := by
 refine of_wp ?_
 simp only [tt_f1m]
 refine Al (fun e => ⟨⟨(h e).symm, fun i hi => by have := h e; omega⟩, fun _ => rfl⟩) fun _ => wN (room_le hn) ⟨⟨?_, fun i _ => rfl⟩, fun e => ?_⟩
 · exact Nat.zero_add _
 · simp only [Bool.cond_self, Bool.false_eq_true] at e
theorem Lq (x : Sl TIn) (h : CR x) (hn : x.n * 48 ≤ 140737488351232) : D_f1u.wp x fun y => DI y x ∧ CR y := by
 refine of_wp ?_
 simp only [tt_f1u]
 refine Al (fun e => ⟨⟨(h e).symm, fun i hi => by have := h e; omega⟩, fun _ => rfl⟩) fun _ => wN (room_le hn) ⟨⟨?_, fun i _ => rfl⟩, fun e => ?_⟩
 · exact Nat.zero_add _
 · simp only [Bool.cond_self, Bool.false_eq_true] at e
theorem Mt (x : Sl TRg) (h : CR x) (hn : x.n * 24 ≤ 140737488351232) : D_f21.wp x fun y => DI y x ∧ CR y := by
 refine of_wp ?_
 simp only [tt_f21]
 refine Al (fun e => ⟨⟨(h e).symm, fun i hi => by have := h e; omega⟩, fun _ => rfl⟩) fun _ => wN (room_le hn) ⟨⟨?_, fun i _ => rfl⟩, fun e => ?_⟩
 · exact Nat.zero_add _
 · simp only [Bool.cond_self, Bool.false_eq_true] at e
theorem J1 (x : Ar TSo) (h : 0 < x.n) (hn : x.n * 24 ≤ 140737488351232) : D_fx.wp x fun y => DI y ⟨false, x.n, x.get⟩ ∧ CR y := by
 refine B9 ?_
 simp only [tt_fx]
 refine wN (by simpa [Nat.blt_eq] using h) (wN (by simpa [room] using hn) ⟨⟨Nat.zero_add _, fun i _ => ?_⟩, fun e => ?_⟩)
 · simp [L9]
 · simp only [Bool.cond_self, Bool.false_eq_true] at e
theorem IF (x : Ar Int) (h : 0 < x.n) (hn : x.n * 8 ≤ 140737488351232) : D_f13.wp x fun y => DI y ⟨false, x.n, x.get⟩ ∧ CR y := by
 refine B9 ?_
 simp only [tt_f13]
 refine wN (by simpa [Nat.blt_eq] using h) (wN (by simpa [room] using hn) ⟨⟨Nat.zero_add _, fun i _ => ?_⟩, fun e => ?_⟩)
 · simp [L9]
 · simp only [Bool.cond_self, Bool.false_eq_true] at e
theorem Fl (x : Ar TTh) (h : 0 < x.n) (hn : x.n * 128 ≤ 140737488351232) : D_fi.wp x fun y => DI y ⟨false, x.n, x.get⟩ ∧ CR y := by
 refine B9 ?_
 simp only [tt_fi]
 refine wN (by simpa [Nat.blt_eq] using h) (wN (by simpa [room] using hn) ⟨⟨Nat.zero_add _, fun i _ => ?_⟩, fun e => ?_⟩)
 · simp [L9]
 · simp only [Bool.cond_self, Bool.false_eq_true] at e
def Sr (n : Nat) (i : TIn) : Prop := Bz i = true ∧ ¬ (15 ≤ i.Op ∧ i.Op ≤ 17 ∧ (n : Int) < i.K)
def codeOk (l : Sl TIn) : Prop := l.n ≤ 256 ∧ ∀ k, k < l.n → Sr l.n (l.get k)
structure OU (l : Sl TIn) : Prop where
 n : l.n ≤ maxLen
 i : ∀ k, k < l.n → Tv (l.get k)
theorem w_f33 (i : TIn) (l : Sl TIn) (hi : Tv i) (hl : l.n ≤ 256) : D_f33.wp (i, l) fun y => y = true ↔ ¬ Sr l.n i := by
 refine of_wp ?_
 simp only [tt_f33]
 refine wC (w_f3j i hi) fun (y : Bool) hy => ?_
 refine AE bnI (fun h => PI fun hc => h (hy.2 hc.1)) fun h => ?_
 have hR := hy.1 (Classical.byContradiction h)
 refine wC (w_f3k i) fun (z : Bool) hz => ?_
 refine AE hz (fun hj => ?_) fun hj => Bb fun k => k ⟨hR, fun hh => hj ⟨hh.1, hh.2.1⟩⟩
 refine D4 ilI ?_
 rw [Am (by omega) (by omega)]
 exact ⟨fun h k => k.2 ⟨hj.1, hj.2, h⟩, fun h => Classical.byContradiction fun h2 => h ⟨hR, fun hh => h2 hh.2.2⟩⟩
theorem I6 (l m : Sl TIn) (hl : OU l) (hm : m.n ≤ 256) : D_f6.wp (l, m) fun y => 0 ≤ y ↔ ¬ ∀ k, k < l.n → Sr m.n (l.get k) := by
 refine of_wp ?_
 simp only [tt_f6]
 refine F9 (fun k => (⟨l, m, l.n, (k : Nat)⟩ : X_f6_2)) l.n (fun k => Sr m.n (l.get k)) _ (fun D hJ => ?_) (fun D k hk hD => ?_)
 · simp only [tt_f6_2, BA, Nat.lt_irrefl, decide_false, B3]
   exact ⟨fun h => absurd h (by decide), fun h => absurd hJ h⟩
 · simp only [tt_f6_2, BA, hk, decide_true, CQ, A6 hk, A9, Int.toNat_natCast, C0 hk hl.n]
   refine wC (w_f33 _ m (hl.i k hk) hm) fun (y : Bool) hy => ?_
   refine AE hy (fun h => ⟨fun _ k2 => h (k2 k hk), fun _ => Int.natCast_nonneg k⟩) fun h => hD (Classical.byContradiction h)
theorem w_f3p (l : Sl TIn) (hl : OU l) : D_f3p.wp l fun y => y = true ↔ codeOk l := by
 refine of_wp ?_
 simp only [tt_f3p]
 refine AE ilI (fun h => Bb fun k => by have := k.1; omega) fun h => ?_
 have e : D_fn.wp (l, l) fun y => y = true ↔ ¬ ∀ k, k < l.n → Sr l.n (l.get k) := by
  refine of_wp ?_
  simp only [tt_fn]
  refine wC (I6 l l hl (by omega)) fun (y : Int) hy => D4 leI hy
 refine wC e fun (y : Bool) hy => ?_
 refine D4 bnI ?_
 rw [hy]
 exact ⟨fun k => ⟨by omega, Classical.byContradiction k⟩, fun k k2 => k2 k.2⟩
def aT (t : TTh) : MT := ⟨t.At, t.Phase, t.Ring, t.Status, t.AG, t.Ae, t.Seen.L⟩
theorem Hl (l : Sl TIn) {a : Int} (h0 : 0 ≤ a) (h1 : a < l.n) : gI l.L a = l.get a.toNat := by unfold gI; exact Gs l h0 h1 zI
theorem w_fw (l : Sl TIn) (t : TTh) (hl : OU l) (hk : 0 ≤ t.AG) : D_fw.wp (l, t) fun y => y = true ↔ codeOk l ∧ Fh l.L (aT t) := by
 refine of_wp ?_
 simp only [tt_fw]
 refine wC (w_f3p l hl) fun (y : Bool) hy => ?_
 refine AE bnI (fun h => Bb fun k => h (hy.2 k.1)) fun h => ?_
 have hc := hy.1 (Classical.byContradiction h)
 have a1 : Fh l.L (aT t) → t.At ≤ l.n := fun k => by have := k.a1; simpa [aT] using this
 refine AE ilI (fun h => Bb fun k => absurd k.2.a0 (Int.not_le.2 h)) fun h0 => AE ilI (fun h => Bb fun k => absurd (a1 k.2) (Int.not_le.2 h)) fun h1 =>
  AE ilI (fun h => Bb fun k => absurd k.2.st.1 (Int.not_le.2 h)) fun h2 => AE ilI (fun h => Bb fun k => absurd k.2.st.2 (Int.not_le.2 h)) fun h3 =>
  AE ilI (fun h => Bb fun k => absurd k.2.ph.1 (Int.not_le.2 h)) fun h4 => AE ilI (fun h => Bb fun k => absurd k.2.ph.2 (Int.not_le.2 h)) fun h5 => ?_
 refine of_wp ?_
 simp only [tt_fw_3]
 have mk : (t.Phase = 0 → t.Ring = 0 ∧ t.AG = 0) → (t.Phase ≠ 0 → t.Status = 0 ∧ t.At < l.n ∧ (l.get t.At.toNat).Op = 17 + t.Phase ∧ (l.get t.At.toNat).C = t.Ring ∧ t.AG < 4611686018427387904) → codeOk l ∧ Fh l.L (aT t) := by
  intro p0 p1
  refine ⟨hc, Int.not_lt.1 h0, ?_, ⟨Int.not_lt.1 h2, Int.not_lt.1 h3⟩, ⟨Int.not_lt.1 h4, Int.not_lt.1 h5⟩, p0, fun hp => ?_⟩
  · simpa [aT] using h1
  · obtain ⟨a, b, c, d, e⟩ := p1 hp
    refine ⟨a, by simpa [aT] using b, ?_, ?_, hk, e⟩
    · show (gI l.L t.At).Op = _; rw [Hl l (by omega) b]; exact c
    · show (gI l.L t.At).C = _; rw [Hl l (by omega) b]; exact d
 have un : Fh l.L (aT t) → t.Phase ≠ 0 → t.Status = 0 ∧ t.At < l.n ∧ (l.get t.At.toNat).Op = 17 + t.Phase ∧ (l.get t.At.toNat).C = t.Ring ∧ t.AG < 4611686018427387904 := by
  intro k hp
  obtain ⟨a, b, c, d, _, e⟩ := k.p1 hp
  have b : t.At < l.n := by simpa [aT] using b
  change (gI l.L t.At).Op = _ at c
  change (gI l.L t.At).C = _ at d
  rw [Hl l (by omega) b] at c d
  exact ⟨a, b, c, d, e⟩
 refine AE ieI (fun hp => AE ieI (fun hr => ?_) fun hr => Bb fun k => hr (k.2.p0 hp).1) fun hp => ?_
 · refine D4 ieI ⟨fun ht => mk (fun _ => ⟨hr, ht⟩) fun h => absurd hp h, fun k => (k.2.p0 hp).2⟩
 · refine AE (p := t.Status ≠ 0) (by rw [bnI, ieI]) (fun hs => Bb fun k => hs (k.2.p1 hp).1) fun hs => AE ieI (fun ha => Bb fun k => by have := (un k.2 hp).2.1; omega) fun ha => ?_
   refine of_wp ?_
   simp only [tt_fw_7]
   have hw : IntKind.i64.wrap (t.Phase - 1) = t.Phase - 1 := wrap64 (by omega) (by omega)
   refine wN (by rw [ibI]; omega) (wN (by rw [ibI, hw]; omega) ?_)
   have ho : (cond (Nat.beq (Int.toNat (IntKind.i64.wrap (t.Phase - 1))) 0) (18 : Int) (19 : Int)) = 17 + t.Phase := by
    rw [hw]
    rcases (by omega : t.Phase = 1 ∨ t.Phase = 2) with e | e <;> rw [e] <;> rfl
   rw [ho]
   refine AE ieI (fun e1 => AE ieI (fun e2 => ?_) fun e2 => Bb fun k => e2 (un k.2 hp).2.2.2.1) fun e1 => Bb fun k => e1 (un k.2 hp).2.2.1
   exact D4 ilI ⟨fun ht => mk (fun h => absurd h hp) fun _ => ⟨Classical.byContradiction hs, by omega, e1, e2, ht⟩, fun k => (un k.2 hp).2.2.2.2⟩
structure SQ (x : TSo) : Prop where
 s0 : 0 ≤ x.AP
 s1 : x.AP < 18446744073709551616
 l0 : -9223372036854775808 ≤ x.Left
 l1 : x.Left ≤ 9223372036854775807
structure NF (c nr : Int) (i : Nat) (x : TSo) : Prop where
 s1 : x.AP < 9223372036854775808
 VE : x.AP / 2 % c = i
 free : x.AP % 2 = 0 → x.Value = 0 ∧ x.Left = 0
 held : x.AP % 2 = 1 → 1 ≤ x.Left ∧ x.Left < 2 ^ nr.toNat
theorem w_f3s (c r : Int) : D_f3s.wp (c, r) fun y => y = true ↔ 1 ≤ c ∧ c ≤ 64 ∧ 1 ≤ r ∧ r ≤ 8 := by
 refine of_wp ?_
 simp only [tt_f3s, TT.wp, leI, Bool.false_eq_true, false_iff]
 omega
theorem Jf {r : Int} (h1 : 1 ≤ r) (h8 : r ≤ 8) : shl IntKind.i64 1 r = 2 ^ r.toNat := by
 rcases (by omega : r = 1 ∨ r = 2 ∨ r = 3 ∨ r = 4 ∨ r = 5 ∨ r = 6 ∨ r = 7 ∨ r = 8) with e | e | e | e | e | e | e | e <;> subst e <;> rfl
theorem w_f1y (i : Nat) (c r : Int) (x : TSo) (hx : SQ x) (hc : 1 ≤ c ∧ c ≤ 64 ∧ 1 ≤ r ∧ r ≤ 8) (hi : (i : Int) < 9223372036854775808) : D_f1y.wp ((i : Int), (c, (r, x))) fun y => y = true ↔ NF c r i x := by
 refine of_wp ?_
 have h0 := hx.s0
 have hs := hx.s1
 simp only [tt_f1y]
 have hd : Int.tdiv x.AP 2 = x.AP / 2 := Int.tdiv_eq_ediv_of_nonneg h0
 have hw1 : IntKind.u64.wrap (x.AP / 2) = x.AP / 2 := Am (by omega) (by omega)
 have hw2 : IntKind.u64.wrap c = c := Am (by omega) (by omega)
 have hw3 : IntKind.u64.wrap (i : Int) = i := Am (by omega) (by omega)
 have hm : Int.tmod (x.AP / 2) c = x.AP / 2 % c := Int.tmod_eq_emod_of_nonneg (by omega)
 have hm2 : Int.tmod x.AP 2 = x.AP % 2 := Int.tmod_eq_emod_of_nonneg h0
 rw [hd, hw1, hw2, hw3, hm]
 refine AE leI (fun h => Bb fun k => absurd k.s1 (Int.not_lt.2 h)) fun h => wN (by rw [bnI, ieI]; omega) (AE (p := x.AP / 2 % c ≠ i) (by rw [bnI, ieI]) (fun h => Bb fun k => h k.VE) fun h2 => ?_)
 refine of_wp ?_
 simp only [tt_f1y_3]
 rw [hm2]
 have h2 := Classical.byContradiction h2
 refine AE ieI (fun e => AE ieI (fun e2 => D4 ieI ⟨fun e3 => ⟨by omega, h2, fun _ => ⟨e2, e3⟩, fun e4 => by omega⟩, fun k => (k.free e).2⟩) fun e2 => Bb fun k => e2 (k.free e).1) fun e => ?_
 refine AE leI (fun e2 => wN (by rw [leI]; omega) ?_) fun e2 => Bb fun k => e2 (k.held (by omega)).1
 refine D4 ilI ?_
 rw [Jf hc.2.2.1 hc.2.2.2]
 exact ⟨fun e3 => ⟨by omega, h2, fun e4 => absurd e4 e, fun _ => ⟨e2, e3⟩⟩, fun k => (k.held (by omega)).2⟩
theorem w_f2a (r : Int) (h1 : 1 ≤ r) (h8 : r ≤ 8) : D_f2a.wp r fun y => y = 2 ^ r.toNat - 1 := by
 refine of_wp ?_
 simp only [tt_f2a]
 obtain ⟨n, rfl⟩ : ∃ n : Nat, r = n := ⟨r.toNat, by omega⟩
 refine C4 (fun k => (⟨n, (2 : Int) ^ k, (k : Nat)⟩ : X_f2a_3)) n (fun _ => True) _ (fun D hJ => ?_) (fun D k hk _ hD => ?_) (k := 0) (Nat.zero_le _) trivial
 · simp only [tt_f2a_3, BA, Nat.lt_irrefl, decide_false, B3]
   show IntKind.i64.wrap ((2 : Int) ^ n - 1) = 2 ^ (n : Int).toNat - 1
   rw [Int.toNat_natCast]
   have : n ≤ 8 := by omega
   rcases (by omega : n = 0 ∨ n = 1 ∨ n = 2 ∨ n = 3 ∨ n = 4 ∨ n = 5 ∨ n = 6 ∨ n = 7 ∨ n = 8) with e | e | e | e | e | e | e | e | e <;> subst e <;> rfl
 · simp only [tt_f2a_3, BA, hk, decide_true, CQ]
   have e1 : IntKind.i64.wrap ((2 : Int) * 2 ^ k) = 2 ^ (k + 1) := by
    rcases (by omega : k = 0 ∨ k = 1 ∨ k = 2 ∨ k = 3 ∨ k = 4 ∨ k = 5 ∨ k = 6 ∨ k = 7) with e | e | e | e | e | e | e | e <;> subst e <;> rfl
   have e2 : IntKind.i64.wrap ((k : Int) + 1) = ((k + 1 : Nat) : Int) := by rw [wrap64] <;> omega
   rw [e1, e2]
   exact hD trivial
def PU (c r : Int) (l : Sl TSo) : Prop := (l.n : Int) = c ∧ ∀ i, i < l.n → NF c r i (l.get i)
structure VO (l : Sl TSo) : Prop where
 n : l.n ≤ maxLen
 x : ∀ i, i < l.n → SQ (l.get i)
 z : CR l
theorem w_fy (c r : Int) (l : Sl TSo) (hl : VO l) (hc : 1 ≤ c ∧ c ≤ 64 ∧ 1 ≤ r ∧ r ≤ 8) :
 D_fy.wp (c, (r, l)) fun y => (PU c r l ∧ y.2 = 0 ∧ y.1.nil = false ∧ DI y.1.x.l l ∧ y.1.x.AX = r ∧ CR y.1.x.l) ∨ (¬ PU c r l ∧ y.2 = 3 ∧ y.1.nil = true) := by
 refine of_wp ?_
 simp only [tt_fy]
 refine wC (w_f3s c r) fun (y : Bool) hy => ?_
 refine AE bnI (fun h => absurd (hy.2 hc) h) fun _ => ?_
 refine AE (p := (l.n : Int) ≠ c) (by rw [bnI, ieI]) (fun h => .inr ⟨fun k => h k.1, rfl, rfl⟩) fun h => ?_
 have hn := Classical.byContradiction h
 refine F9 (fun k => (⟨c, r, l, l, l.n, (k : Nat)⟩ : X_fy_6)) l.n (fun k => NF c r k (l.get k)) _ (fun D hJ => ?_) (fun D k hk hD => ?_)
 · simp only [tt_fy_6, BA, Nat.lt_irrefl, decide_false, B3]
   refine of_wp ?_
   simp only [tt_fy_11]
   refine wC (J0 l hl.z (by omega)) fun (y : Sl TSo) hy => ?_
   exact .inl ⟨⟨hn, hJ⟩, rfl, rfl, hy.1, rfl, hy.2⟩
 · simp only [tt_fy_6, BA, hk, decide_true, CQ, A6 hk, A9, Int.toNat_natCast, C0 hk hl.n]
   refine wC (w_f1y k c r _ (hl.x k hk) hc (by have := GN hl.n; omega)) fun (y : Bool) hy => ?_
   refine AE bnI (fun h => .inr ⟨fun kk => h (hy.2 (kk.2 k hk)), rfl, rfl⟩) fun h => hD (hy.1 (Classical.byContradiction h))
def PN (c : Int) (x : TSo) (h : Int) (j : Nat) : Prop :=
 (x.AP % 2 = 1 → Df x.Left j = false → x.AP / 2 < h) ∧ (x.AP % 2 = 0 → c ≤ x.AP / 2 → x.AP / 2 - c < h)
def HC (c tail : Int) (AD : Sl Int) (x : TSo) : Prop := (x.AP % 2 = 1 → x.AP / 2 < tail) ∧ ∀ j, j < AD.n → PN c x (AD.get j) j
theorem UO : ∀ (x : Fin 256) (j : Fin 8), decide (Vm.bits .and IntKind.i64 (shr IntKind.i64 (x.val : Int) (j.val : Int)) 1 = 0) = !Df (x.val : Int) (j.val : Int) := by decide +kernel
theorem O1 {x : Int} {j : Nat} (h0 : 0 ≤ x) (h1 : x < 256) (hj : j < 8) : Vm.bits .and IntKind.i64 (shr IntKind.i64 x (j : Int)) 1 = 0 ↔ Df x (j : Int) = false := by
 have := UO ⟨x.toNat, by omega⟩ ⟨j, hj⟩
 simp only [show ((x.toNat : Nat) : Int) = x by omega] at this
 exact decide_eq_true_iff.symm.trans (by rw [this]; simp)
theorem Sv : ∀ (x : Fin 256) (j : Fin 8), IntKind.i64.wrap (Int.tdiv ((x.val : Int) / 2 ^ j.val) 2) = (x.val : Int) / 2 ^ (j.val + 1) ∧ (Int.tmod ((x.val : Int) / 2 ^ j.val) 2 = 0 ↔ Df (x.val : Int) (j.val : Int) = false) := by decide +kernel
theorem MY {x : Int} {j : Nat} (h0 : 0 ≤ x) (h1 : x < 256) (hj : j < 8) : IntKind.i64.wrap (Int.tdiv (x / 2 ^ j) 2) = x / 2 ^ (j + 1) ∧ (Int.tmod (x / 2 ^ j) 2 = 0 ↔ Df x (j : Int) = false) := by
 have := Sv ⟨x.toNat, by omega⟩ ⟨j, hj⟩
 simpa only [show ((x.toNat : Nat) : Int) = x by omega] using this
structure VR (l : Sl Int) : Prop where
 n : l.n ≤ 8
 h : ∀ j, j < l.n → 0 ≤ l.get j ∧ l.get j < 18446744073709551616
theorem Ll (x : TSo) (r : TRr) (hx : 0 ≤ x.AP ∧ x.AP < 9223372036854775808) (hl : 0 ≤ x.Left ∧ x.Left < 256) (hh : VR r.AA.AD) (hm : 0 ≤ r.most ∧ r.most ≤ 64) :
 D_f0.wp (x, r) fun y => y = true ↔ HC r.most r.AA.tail r.AA.AD x := by
 refine B9 ?_
 simp only [tt_f0]
 have hd : Int.tdiv x.AP 2 = x.AP / 2 := Int.tdiv_eq_ediv_of_nonneg hx.1
 have hw1 : IntKind.u64.wrap (x.AP / 2) = x.AP / 2 := Am (by omega) (by omega)
 have hm2 : Int.tmod x.AP 2 = x.AP % 2 := Int.tmod_eq_emod_of_nonneg hx.1
 rw [hd, hw1, hm2]
 have h5 : (x.AP % 2 = 1 → x.AP / 2 < r.AA.tail) → D_f0_5.wp (⟨x, x.AP / 2, AW (x.AP % 2) 1, r⟩ : X_f0_5) fun y => y.1 = true ↔ HC r.most r.AA.tail r.AA.AD x := by
  intro ht
  refine of_wp ?_
  simp only [tt_f0_5]
  refine F9 (fun k => (⟨x, x.AP / 2, AW (x.AP % 2) 1, r.AA.AD.n, (k : Nat), r⟩ : X_f0_6)) r.AA.AD.n (fun k => PN r.most x (r.AA.AD.get k) k) _ (fun D hJ => ?_) (fun D k hk hD => ?_)
  · simp only [tt_f0_6, BA, Nat.lt_irrefl, decide_false, B3]
    exact wN (by simp) (PI ⟨ht, hJ⟩)
  · have hn := hh.n
    have hg := hh.h k hk
    have e2 : IntKind.i64.wrap ((k : Int) + 1) = ((k + 1 : Nat) : Int) := by rw [wrap64] <;> omega
    simp only [tt_f0_6, BA, hk, decide_true, CQ, A6 hk, A9, Int.toNat_natCast, Nat.zero_add]
    refine wN (by simp) ?_
    have hb := O1 hl.1 hl.2 (Nat.lt_of_lt_of_le hk hn)
    have h12 : PN r.most x (r.AA.AD.get k) k → (D_f0_12 D).wp (⟨x, x.AP / 2, AW (x.AP % 2) 1, r.AA.AD.n, k, r⟩ : X_f0_12) fun y => y.1 = true ↔ HC r.most r.AA.tail r.AA.AD x := fun hc => by
     refine of_wp ?_
     simp only [tt_f0_12, e2]
     exact hD hc
    refine AE ieI (fun ho => ?_) fun ho => ?_
    · have nh : ∀ {t e : TT Tryz.prog RR_f0} {Q}, e.wp Q → (TT.ite (!(AW (x.AP % 2) 1)) t e).wp Q := fun h => Al (fun k => by rw [bnI, ieI] at k; exact absurd ho k) fun _ => h
      refine wN (by rw [leI]; omega) (AE (ieI.trans hb) (fun hz => AE leI (fun hle => wN (by simp) (Bb fun kk => ?_)) fun hle => nh (h12 ⟨fun _ _ => by omega, fun e => by omega⟩)) fun hz => nh (h12 ⟨fun _ e => absurd e hz, fun e => by omega⟩))
      have := (kk.2 k hk).1 ho hz
      omega
    · refine Al (fun _ => AE leI (fun h1 => ?_) fun h1 => h12 ⟨fun e => absurd e ho, fun _ e => absurd e h1⟩) fun k => absurd (bnI.2 fun e => ho (ieI.1 e)) k
      rw [Am (by omega) (by omega)]
      refine AE leI (fun h2 => wN (by simp) (Bb fun kk => ?_)) fun h2 => h12 ⟨fun e => absurd e ho, fun _ _ => by omega⟩
      have := (kk.2 k hk).2 (by omega) h1
      omega
 refine AE ieI (fun ho => AE leI (fun ht => Bb fun k => absurd (k.1 ho) (Int.not_lt.2 ht)) fun ht => h5 fun _ => by omega) fun ho => h5 fun e => absurd e ho
structure VQ (s : TRs) : Prop where
 t0 : 0 ≤ s.Ax
 t1 : s.Ax < 18446744073709551616
 hn : s.AV.n ≤ maxLen
 hh : ∀ j, j < s.AV.n → 0 ≤ s.AV.get j ∧ s.AV.get j < 18446744073709551616
 hz : CR s.AV
 ss : VO s.Ai
structure SB (c : TRg) (s : TRs) : Prop where
 sl : PU c.DE c.AR s.Ai
 rd : (s.AV.n : Int) = c.AR
 tb : s.Ax < 4611686018427387904
 h0 : ∀ j, j < s.AV.n → s.AV.get j ≤ s.Ax ∧ s.Ax - s.AV.get j ≤ c.DE
 st : ∀ i, i < s.Ai.n → HC c.DE s.Ax s.AV (s.Ai.get i)
theorem Cz {c : TRg} (h : A8 c = true) : 1 ≤ c.DE ∧ c.DE ≤ 64 ∧ 1 ≤ c.AR ∧ c.AR ≤ 8 := by
 simp only [A8, decide_eq_true_eq] at h; omega
theorem ON {c r : Int} {i : Nat} {x : TSo} (h : NF c r i x) (h8 : r ≤ 8) : 0 ≤ x.Left ∧ x.Left < 256 := by
 rcases (by omega : x.AP % 2 = 0 ∨ x.AP % 2 = 1) with e | e
 · have := h.free e; omega
 · have := h.held e
   have h2 : (2 : Int) ^ r.toNat ≤ 2 ^ 8 := by exact_mod_cast Nat.pow_le_pow_right (by decide) (by omega : r.toNat ≤ 8)
   omega
structure P6 (c : TRg) (r : TRr) : Prop where
 sn : r.s.nil = false
 rd : r.s.x.AX = c.AR
 ms : r.most = c.DE
 hz : CR r.AA.AD
 lz : CR r.s.x.l
 hn : (r.AA.AD.n : Int) = c.AR
 ln : (r.s.x.l.n : Int) = c.DE
def aR (r : TRr) : MR := ⟨r.AA.tail, r.AA.AD.L, r.closed, r.s.x.l.L⟩
def I3 (s : TRs) : MR := ⟨s.Ax, s.AV.L, s.Ao, s.Ai.L⟩
theorem w_f44 (c : TRg) : D_f44.wp c fun y => y = true ↔ (c.Kind = 1 ∧ c.AR = 1 ∨ c.Kind = 2) := by
 refine of_wp ?_
 simp only [tt_f44, TT.wp, ieI, Bool.false_eq_true, true_iff, false_iff]
 omega
theorem w_f2q (x : Int) (h0 : 0 ≤ x) (h1 : x < 9223372036854775808) : D_f2q.wp x fun y => y = 2 * x := by
 refine of_wp ?_
 simp only [tt_f2q]
 exact Am (by omega) (by omega)
def Ho (i : Nat) : TSo := ⟨2 * (i : Int), 0, 0⟩
theorem w_f1s (c r : Int) (hi : 1 ≤ c ∧ c ≤ 64 ∧ 1 ≤ r ∧ r ≤ 8) :
 D_f1s.wp (c, r) fun y => y.2 = 0 ∧ y.1.nil = false ∧ DI y.1.x.l ⟨false, c.toNat, Ho⟩ ∧ y.1.x.AX = r ∧ CR y.1.x.l := by
 refine of_wp ?_
 simp only [tt_f1s]
 refine wC (w_f3s c r) fun (y : Bool) hy => ?_
 refine AE bnI (fun h => absurd (hy.2 hi) h) fun _ => ?_
 obtain ⟨n, rfl⟩ : ∃ n : Nat, c = n := ⟨c.toNat, by omega⟩
 simp only [Int.toNat_natCast]
 refine wN (by simp [upto, room, Bm]; omega) (wN (by simp) ?_)
 have hl := by
  refine De (tt := tt_f1s_5) (fun x : X_f1s_5 => x.Ly = n ∧ ∃ k : Nat, x.HG = k ∧ k ≤ n ∧ x.C1.l.nil = false ∧ x.C1.l.n = n ∧ x.C1.AX = r ∧ (∀ i, i < n → x.C1.l.get i = if i < k then Ho i else ⟨0, 0, 0⟩)) (fun x => (n - x.HG).toNat)
   (fun _ y => y.2 = 0 ∧ y.1.nil = false ∧ DI y.1.x.l ⟨false, n, Ho⟩ ∧ y.1.x.AX = r ∧ CR y.1.x.l) (fun D x hI hD => ?_) (x := (⟨n, 0, ⟨⟨false, n, fun _ => ⟨0, 0, 0⟩⟩, r⟩⟩ : X_f1s_5)) ⟨rfl, 0, rfl, by omega, rfl, rfl, rfl, fun i _ => by simp⟩
  obtain ⟨e0, k, e1, hk, hz, hn, hr, hg⟩ := hI
  obtain ⟨q21, q22, ⟨⟨z, m, g⟩, rr⟩⟩ := x
  simp only at e0 e1 hz hn hr hg hD
  subst e0 e1 hz hn hr
  simp only [tt_f1s_5]
  refine AE ilI (fun h => ?_) fun h => ?_
  · have hkm : k < m := by omega
    rw [Am (by omega) (by omega)]
    refine wC (w_f2q k (by omega) (by omega)) fun (y : Int) hy => ?_
    subst hy
    refine wN (A6 hkm) (wN (by simp) (wN (by simp) ?_))
    have e2 : IntKind.i64.wrap ((k : Int) + 1) = ((k + 1 : Nat) : Int) := by rw [wrap64] <;> omega
    rw [e2]
    refine hD _ ⟨rfl, k + 1, rfl, hkm, rfl, rfl, rfl, fun i hi => ?_⟩ (by simp only; omega)
    simp only [Int.toNat_natCast, Nat.zero_add]
    by_cases e : i = k
    · subst e
      have := hg i hi
      simp only [this, Nat.lt_irrefl, if_false, Nat.beq_refl, cond_true, Ho]
      rw [if_pos (by omega)]
    · have hb : Nat.beq i k = false := Bool.eq_false_iff.2 fun h => e (Nat.eq_of_beq_eq_true h)
      simp only [hb, cond_false, hg i hi]
      by_cases e3 : i < k
      · rw [if_pos e3, if_pos (by omega)]
      · rw [if_neg e3, if_neg (by omega)]
  · have : k = m := by omega
    subst this
    refine ⟨rfl, rfl, ⟨rfl, fun i hi => ?_⟩, rfl, fun e => by cases e⟩
    show g i = Ho i
    rw [hg i hi, if_pos hi]
 exact hl
theorem Jg (n : Nat) (b : Bool) : (⟨b, n, fun _ => (0 : Int)⟩ : Sl Int).L = List.replicate n 0 := by
 apply List.ext_getElem
 · simp
 · intro i h1 h2; simp [Sl.Gw]
theorem w_f2p (c : TRg) (hc : A8 c = true) : D_f2p.wp c fun y => y.2 = 0 ∧ y.1.nil = false ∧ P6 c y.1.x ∧ aR y.1.x = Gz c := by
 have hf := Cz hc
 refine of_wp ?_
 simp only [tt_f2p]
 refine wC (w_f1s c.DE c.AR hf) fun (y : Bx TSs × Int) hy => ?_
 obtain ⟨⟨bn, ⟨sl, rd⟩⟩, er⟩ := y
 obtain ⟨rfl, rfl, hs, rfl, hz⟩ := hy
 refine AE (p := (0 : Int) ≠ 0) (by rw [bnI, ieI]) (fun h => absurd rfl h) fun _ => ?_
 refine wC (w_f44 c) fun (z : Bool) hz' => ?_
 refine AE bnI (fun h => absurd (hz'.2 (by simp only [A8, decide_eq_true_eq] at hc; omega)) h) fun _ => ?_
 refine of_wp ?_
 simp only [tt_f2p_4]
 have hroom : c.AR.toNat * 8 ≤ 140737488351232 := by omega
 refine wN (by simp [upto, room, Bm, hroom]; omega) ⟨rfl, rfl, ⟨rfl, rfl, Am (by omega) (by omega), fun e => by (cases e), hz, by show ((c.AR.toNat : Nat) : Int) = _; omega, by show (sl.n : Int) = _; rw [hs.n]; show ((c.DE.toNat : Nat) : Int) = _; omega⟩, ?_⟩
 show (⟨0, _, false, sl.L⟩ : MR) = _
 rw [hs.L, Jg]
 rfl
theorem w_fc (c : TRg) (s : TRs) (hc : A8 c = true) (hs : VQ s) :
 D_fc.wp (c, s) fun y => (SB c s ∧ y.2 = 0 ∧ y.1.nil = false ∧ P6 c y.1.x ∧ aR y.1.x = I3 s) ∨ (¬ SB c s ∧ y.2 = 3) := by
 have hf := Cz hc
 refine of_wp ?_
 simp only [tt_fc]
 refine wC (w_f2p c hc) fun (y : Bx TRr × Int) hy => ?_
 obtain ⟨⟨bn, r⟩, er⟩ := y
 obtain ⟨h0, h1, hw, _⟩ := hy
 simp only at h0 h1 hw
 subst h0 h1
 refine AE (p := (0 : Int) ≠ 0) (by rw [bnI, ieI]) (fun h => absurd rfl h) fun _ => ?_
 refine wC (w_fy c.DE c.AR s.Ai hs.ss hf) fun (z : Bx TSs × Int) hz => ?_
 obtain ⟨⟨zn, ⟨zl, zr⟩⟩, ze⟩ := z
 rcases hz with ⟨hsl, he, hzn, hsame, hrd, hlz⟩ | ⟨hno, he, _⟩
 · simp only at he hzn hsame hrd hlz
   subst he hzn hrd
   refine AE (p := (0 : Int) ≠ 0) (by rw [bnI, ieI]) (fun h => absurd rfl h) fun _ => ?_
   refine AE (p := (s.AV.n : Int) ≠ c.AR) (by rw [bnI, ieI]) (fun h => .inr ⟨fun k => h k.rd, rfl⟩) fun h1 => AE leI (fun h => .inr ⟨fun k => absurd k.tb (Int.not_lt.2 h), rfl⟩) fun h2 => ?_
   have h1 := Classical.byContradiction h1
   refine wN rfl ?_
   refine of_wp ?_
   simp only [tt_fc_7]
   refine wC (IE s.AV hs.hz (by omega)) fun (hd : Sl Int) hhd => ?_
   obtain ⟨hsm, hhz⟩ := hhd
   have t0 := hs.t0
   have hnn : hd.n = s.AV.n := hsm.n
   rw [hnn]
   refine F9 (fun k => (⟨s, s.AV.n, (k : Nat), ⟨⟨s.Ax, hd⟩, ⟨false, ⟨zl, c.AR⟩⟩, r.most, s.Ao⟩⟩ : X_fc_9)) s.AV.n (fun j => s.AV.get j ≤ s.Ax ∧ s.Ax - s.AV.get j ≤ c.DE) _ (fun D hJ => ?_) (fun D k hk hD => ?_)
   · simp only [tt_fc_9, BA, Nat.lt_irrefl, decide_false, B3]
     refine wN (by simp) (of_wp ?_)
     simp only [tt_fc_14]
     refine F9 (fun k => (⟨s.Ai, s.Ai.n, (k : Nat), ⟨⟨s.Ax, hd⟩, ⟨false, ⟨zl, c.AR⟩⟩, r.most, s.Ao⟩⟩ : X_fc_15)) s.Ai.n (fun i => HC c.DE s.Ax s.AV (s.Ai.get i)) _ (fun D hJ2 => ?_) (fun D k hk hD => ?_)
     · simp only [tt_fc_15, BA, Nat.lt_irrefl, decide_false, B3]
       refine .inl ⟨⟨hsl, h1, by omega, hJ, hJ2⟩, rfl, rfl, ⟨rfl, rfl, hw.ms, hhz, hlz, by show (hd.n : Int) = _; omega, by show (zl.n : Int) = _; rw [hsame.n]; exact hsl.1⟩, ?_⟩
       · show (⟨s.Ax, hd.L, s.Ao, zl.L⟩ : MR) = _
         rw [hsm.L, hsame.L]; rfl
     · have hx := hs.ss.x k hk
       have hp := hsl.2 k hk
       simp only [tt_fc_15, BA, hk, decide_true, CQ, A6 hk, A9, Int.toNat_natCast, C0 hk hs.ss.n]
       have hok : VR hd := ⟨by omega, fun j hj => by rw [hsm.g j (by omega)]; exact hs.hh j (by omega)⟩
       refine wC (Ll _ ⟨⟨s.Ax, hd⟩, ⟨false, ⟨zl, c.AR⟩⟩, r.most, s.Ao⟩ ⟨hx.s0, hp.s1⟩ (ON hp hf.2.2.2) hok (by rw [hw.ms]; omega)) fun (y : Bool) hy => ?_
       have heq : HC r.most s.Ax hd (s.Ai.get k) ↔ HC c.DE s.Ax s.AV (s.Ai.get k) := by
        rw [hw.ms]
        unfold HC
        rw [hsm.n]
        exact and_congr_right fun _ => ⟨fun h j hj => by have := h j hj; rwa [hsm.g j hj] at this, fun h j hj => by rw [hsm.g j hj]; exact h j hj⟩
       rw [heq] at hy
       exact AE bnI (fun h => .inr ⟨fun kk => h (hy.2 (kk.st k hk)), rfl⟩) fun h => hD (hy.1 (Classical.byContradiction h))
   · have hg := hs.hh k hk
     have hkd : k < hd.n := by omega
     simp only [tt_fc_9, BA, hk, decide_true, CQ, A6 hkd, A9, Int.toNat_natCast, Nat.zero_add, hsm.g k hk]
     refine wN (by simp) (AE ilI (fun h => wN (by simp) (.inr ⟨fun kk => ?_, rfl⟩)) fun h => ?_)
     · have := (kk.h0 k hk).1; omega
     · rw [Am (by omega) (by omega), hw.ms]
       refine AE ilI (fun h => wN (by simp) (.inr ⟨fun kk => ?_, rfl⟩)) fun h => ?_
       · have := (kk.h0 k hk).2; omega
       · refine of_wp ?_
         simp only [tt_fc_13, C0 hk hs.hn]
         rw [← hw.ms]
         exact hD ⟨by omega, by omega⟩
 · simp only at he
   subst he
   exact AE (p := (3 : Int) ≠ 0) (by rw [bnI, ieI]) (fun _ => .inr ⟨fun k => hno k.sl, rfl⟩) fun h => absurd (by decide) h
theorem P9 {X R : Type} {D : AU X R} {x x' : X} {Q : R → Prop} (h : D.wp x' Q) (e : x = x') : D.wp x Q := e ▸ h
theorem Ep {α β γ : Type} {s : Sl α} {t : Sl β} {f : α → γ} {g : β → γ} (hn : s.n = t.n) (h : ∀ i, i < t.n → f (s.get i) = g (t.get i)) : s.L.map f = t.L.map g := by
 apply List.ext_getElem
 · simp [hn]
 · intro i h1 h2
   simp only [List.getElem_map, Sl.Gw]
   exact h i (by simpa using h2)
def snoc {α : Type} (s : Sl α) (y : α) : Sl α := ⟨false, s.n + 1, fun i => cond (Nat.blt i s.n) (s.get i) y⟩
def IL {α : Type} (s : Sl α) (k : Nat) (y : α) : Sl α := ⟨s.nil, s.n, fun i => cond (Nat.beq i k) y (s.get i)⟩
theorem TA {i n : Nat} (h : i < n) : Nat.blt i n = true := by rw [Nat.blt_eq]; exact h
theorem TB (n : Nat) : Nat.blt n n = false := Bool.eq_false_iff.2 fun h => by rw [Nat.blt_eq] at h; omega
theorem Jb {i k : Nat} (h : i ≠ k) : Nat.beq i k = false := Bool.eq_false_iff.2 fun e => h (Nat.eq_of_beq_eq_true e)
theorem HT {α : Type} {s : Sl α} {y : α} {i : Nat} (h : i < s.n) : (snoc s y).get i = s.get i := by simp [snoc, TA h]
theorem HU {α : Type} {s : Sl α} {y : α} : (snoc s y).get s.n = y := by simp [snoc, TB]
theorem M3 {α : Type} {s : Sl α} {y : α} {i k : Nat} (h : i ≠ k) : (IL s k y).get i = s.get i := by simp [IL, Jb h]
theorem M4 {α : Type} {s : Sl α} {y : α} {k : Nat} : (IL s k y).get k = y := by simp [IL]
structure Jz (y p : TPg) : Prop where
 r : DI y.AF p.AF
 rz : CR y.AF
 n : y.AB.n = p.AB.n
 t : ∀ t, t < p.AB.n → DI (y.AB.get t) (p.AB.get t) ∧ CR (y.AB.get t)
theorem Jz.same {y p : TPg} (h : Jz y p) : aP y = aP p := by
 unfold aP
 rw [h.r.L, Ep h.n fun i hi => (h.t i hi).1.L]
theorem DI.OU {y x : Sl TIn} (h : DI y x) (hx : OU x) : OU y := ⟨h.n ▸ hx.n, fun k hk => by rw [h.g k (h.n ▸ hk)]; exact hx.i k (h.n ▸ hk)⟩
theorem w_f10 (p : TPg) (hp : Jk p) (hP : FL (aP p)) : D_f10.wp p fun y => Jz y p := by
 obtain ⟨_, h8, hr8, _, hl⟩ := BX hP
 refine of_wp ?_
 simp only [tt_f10]
 refine wC (Mt p.AF hp.rz (by omega)) fun (y : Sl TRg) hy => ?_
 refine De (tt := tt_f10_3) (fun x : X_f10_3 => x.SG = p.AB ∧ x.Tk = p.AB.n ∧ ∃ k : Nat, x.PW = k ∧ k ≤ p.AB.n ∧ x.BM.AF = y ∧ x.BM.AB.n = k ∧ ∀ t, t < k → DI (x.BM.AB.get t) (p.AB.get t) ∧ CR (x.BM.AB.get t))
  (fun x => (p.AB.n - x.PW).toNat) (fun _ y => Jz y p) (fun D x hI hD => ?_) ⟨rfl, rfl, 0, rfl, by omega, rfl, rfl, fun t ht => by omega⟩
 obtain ⟨e0, e1, k, e2, hk, e3, hn, hg⟩ := hI
 obtain ⟨q11, q12, q13, m2, ⟨mr, mt⟩⟩ := x
 simp only at e0 e1 e2 e3 hn hg hD
 subst e0 e1 e2 e3 hn
 simp only [tt_f10_3]
 refine AE ilI (fun h => ?_) fun h => ?_
 · have hkm : mt.n < p.AB.n := by omega
   refine wN (A6 hkm) ?_
   rw [Int.toNat_natCast]
   refine wC (Lq (p.AB.get mt.n) (hp.lz _ hkm) (by have := (hl _ hkm).1; omega)) fun (z : Sl TIn) hz => ?_
   refine wN (by simp [room]; omega) ?_
   rw [C0 hkm hp.tn]
   refine P9 (x' := ⟨p.AB, p.AB.n, ((mt.n + 1 : Nat) : Int), m2, ⟨mr, snoc mt z⟩⟩) (hD _ ⟨rfl, rfl, mt.n + 1, rfl, hkm, rfl, rfl, fun t ht => ?_⟩ (by simp only; omega)) ?_
   · by_cases e : t = mt.n
     · subst e; simp only [HU]; exact hz
     · have : t < mt.n := by omega
       simp only [HT this]; exact hg t this
   · refine congrArg (fun g => X_f10_3.mk p.AB p.AB.n ((mt.n + 1 : Nat) : Int) m2 ⟨mr, ⟨false, mt.n + 1, g⟩⟩) (funext fun i => ?_)
     cases Nat.blt i mt.n <;> rfl
 · exact ⟨hy.1, hy.2, by simp only; omega, fun t ht => hg t (by omega)⟩
structure EH (b : Nat) (t : TTh) : Prop where
 k0 : 0 ≤ t.AG
 k1 : t.AG < 18446744073709551616
 rg : ∀ j, 0 ≤ t.Ae j ∧ t.Ae j < 18446744073709551616
 sz : CR t.Seen
 sb : t.Seen.n ≤ b
theorem O3 (b : Nat) : EH b ⟨0, 0, 0, 0, 0, fun _ => 0, ⟨true, 0, fun _ => 0⟩⟩ := ⟨by decide, by decide, fun _ => ⟨Int.le_refl 0, (by decide : (0 : Int) < 18446744073709551616)⟩, fun _ => rfl, Nat.zero_le _⟩
structure Vf (p : TPg) (b : Nat) (f : TFa) : Prop where
 cp : Jz f.p p
 tn : f.threads.n = p.AB.n
 tw : ∀ t, t < f.threads.n → EH b (f.threads.get t)
 rn : f.rings.n = p.AF.n
 rw : ∀ i, i < f.rings.n → (f.rings.get i).nil = false ∧ P6 (p.AF.get i) (f.rings.get i).x
def aF (f : TFa) : MS := ⟨f.threads.L.map aT, f.rings.L.map fun r => aR r.x, f.now, f.reads, f.ended⟩
def aS (s : TSt) : MS := ⟨s.AB.L.map aT, s.AF.L.map I3, s.FQ, s.Reads, s.Ba⟩
theorem rg_of {p : TPg} (hP : FL (aP p)) {i : Nat} (h : i < p.AF.n) : A8 (p.AF.get i) = true := (BX hP).2.2.2.1 _ (Sl.Cg.2 ⟨i, h, rfl⟩)
theorem w_f19 (p : TPg) (hp : Jk p) (b : Nat) :
 D_f19.wp p fun y => (FL (aP p) ∧ y.2 = 0 ∧ y.1.nil = false ∧ Vf p b y.1.x ∧ aF y.1.x = Gk (aP p)) ∨ (¬ FL (aP p) ∧ y.2 = 1 ∧ y.1.nil = true) := by
 refine of_wp ?_
 simp only [tt_f19]
 refine wC (w_f3a p hp) fun (y : Bool) hy => ?_
 refine AE bnI (fun h => .inr ⟨fun k => h (hy.2 k), rfl, rfl⟩) fun h => ?_
 have hP := hy.1 (Classical.byContradiction h)
 obtain ⟨_, h8, hr8, _, hl⟩ := BX hP
 refine wC (w_f10 p hp hP) fun (q : TPg) hq => ?_
 refine wN (by simp [upto, room, Bm]; omega) ?_
 rw [Int.toNat_natCast]
 refine De (tt := tt_f19_5) (fun x : X_f19_5 => x.Ly = p.AF ∧ x.HG = p.AF.n ∧ ∃ k : Nat, x.DH = k ∧ k ≤ p.AF.n ∧ x.CZ.p = q ∧ x.CZ.threads = ⟨false, p.AB.n, fun _ => ⟨0, 0, 0, 0, 0, fun _ => 0, ⟨true, 0, fun _ => 0⟩⟩⟩ ∧ x.CZ.now = 0 ∧ x.CZ.reads = 0 ∧ x.CZ.ended = false ∧
  x.CZ.rings.n = k ∧ ∀ i, i < k → (x.CZ.rings.get i).nil = false ∧ P6 (p.AF.get i) (x.CZ.rings.get i).x ∧ aR (x.CZ.rings.get i).x = Gz (p.AF.get i))
  (fun x => (p.AF.n - x.DH).toNat) (fun _ y => (FL (aP p) ∧ y.2 = 0 ∧ y.1.nil = false ∧ Vf p b y.1.x ∧ aF y.1.x = Gk (aP p)) ∨ (¬ FL (aP p) ∧ y.2 = 1 ∧ y.1.nil = true)) (fun D x hI hD => ?_) ⟨rfl, rfl, 0, rfl, by omega, rfl, rfl, rfl, rfl, rfl, rfl, fun t ht => by omega⟩
 obtain ⟨e0, e1, k, e2, hk, e3, e4, e5, e6, e7, hn, hg⟩ := hI
 obtain ⟨q21, q22, q23, ⟨mp, mt, mr, mn, md, me⟩⟩ := x
 simp only at e0 e1 e2 e3 e4 e5 e6 e7 hn hg hD
 subst e0 e1 e2 e3 e4 e5 e6 e7 hn
 simp only [tt_f19_5]
 refine AE ilI (fun h => ?_) fun h => ?_
 · have hkm : mr.n < p.AF.n := by omega
   refine wN (A6 hkm) ?_
   rw [Int.toNat_natCast]
   refine wC (w_f2p (p.AF.get mr.n) (rg_of hP hkm)) fun (z : Bx TRr × Int) hz => ?_
   refine wN (by simp [room]; omega) ?_
   rw [C0 hkm hp.rn]
   refine P9 (x' := ⟨p.AF, p.AF.n, ((mr.n + 1 : Nat) : Int), ⟨mp, _, snoc mr z.1, 0, 0, false⟩⟩) (hD _ ⟨rfl, rfl, mr.n + 1, rfl, hkm, rfl, rfl, rfl, rfl, rfl, rfl, fun t ht => ?_⟩ (by simp only; omega)) ?_
   · by_cases e : t = mr.n
     · subst e; simp only [HU]; exact ⟨hz.2.1, hz.2.2⟩
     · have : t < mr.n := by omega
       simp only [HT this]; exact hg t this
   · refine congrArg (fun g => X_f19_5.mk p.AF p.AF.n ((mr.n + 1 : Nat) : Int) ⟨mp, _, ⟨false, mr.n + 1, g⟩, 0, 0, false⟩) (funext fun i => ?_)
     cases Nat.blt i mr.n <;> rfl
 · have hrn : mr.n = p.AF.n := by omega
   refine .inl ⟨hP, rfl, rfl, ⟨hq, rfl, fun t _ => O3 b, hrn, fun i hi => ⟨(hg i hi).1, (hg i hi).2.1⟩⟩, ?_⟩
   unfold aF Gk
   simp only [MS.mk.injEq, and_true]
   refine ⟨?_, ?_⟩
   · simp only [aP, List.map_map]
     exact Ep rfl fun i _ => rfl
   · exact Ep hrn fun i hi => (hg i (hrn ▸ hi)).2.2
theorem Mn {α β γ : Type} {s : Sl α} {t : Sl β} {f : α → γ} {g : β → γ} (h : s.L.map f = t.L.map g) : s.n = t.n ∧ ∀ i, i < t.n → f (s.get i) = g (t.get i) := by
 have hn : s.n = t.n := by simpa using congrArg List.length h
 refine ⟨hn, fun i hi => ?_⟩
 have h2 := congrArg (fun l => l[i]?) h
 simp only [List.getElem?_map, Sl.EF s (hn ▸ hi), Sl.EF t hi, Option.map_some, Option.some.injEq] at h2
 exact h2
theorem w_f26 (a b : Sl Int) (h : a.L = b.L) (hm : a.n ≤ maxLen) : D_f26.wp (a, b) fun y => y = true := by
 obtain ⟨hn, hg⟩ := Sl.TQ h
 refine of_wp ?_
 simp only [tt_f26]
 refine AE (p := (a.n : Int) ≠ b.n) (by rw [bnI, ieI]) (fun e => absurd (by rw [hn]) e) fun _ => ?_
 refine F9 (fun k => (⟨a, b, (k : Nat)⟩ : X_f26_4)) a.n (fun _ => True) _ (fun D hJ => ?_) (fun D k hk hD => ?_)
 · simp only [tt_f26_4, BA, Nat.lt_irrefl, decide_false, B3]; rfl
 · have hk2 : k < b.n := hn ▸ hk
   simp only [tt_f26_4, BA, hk, decide_true, CQ, A6 hk, A6 hk2, A9, Int.toNat_natCast, C0 hk hm, hg k hk]
   exact Al (fun e => absurd (ieI.2 rfl) (bnI.1 e)) fun _ => hD trivial
theorem w_f27 (a b : Sl TSo) (h : a.L = b.L) (hm : a.n ≤ maxLen) : D_f27.wp (a, b) fun y => y = true := by
 obtain ⟨hn, hg⟩ := Sl.TQ h
 refine of_wp ?_
 simp only [tt_f27]
 refine AE (p := (a.n : Int) ≠ b.n) (by rw [bnI, ieI]) (fun e => absurd (by rw [hn]) e) fun _ => ?_
 refine F9 (fun k => (⟨a, b, (k : Nat)⟩ : X_f27_4)) a.n (fun _ => True) _ (fun D hJ => ?_) (fun D k hk hD => ?_)
 · simp only [tt_f27_4, BA, Nat.lt_irrefl, decide_false, B3]; rfl
 · have hk2 : k < b.n := hn ▸ hk
   simp only [tt_f27_4, BA, hk, decide_true, CQ, A6 hk, A6 hk2, A9, Int.toNat_natCast, C0 hk hm, hg k hk]
   exact Al (fun e => absurd (by simp only [ieI.2, Bool.and_true]) (bnI.1 e)) fun _ => hD trivial
theorem w_f1h (a b : TRs) (h : I3 a = I3 b) (hm : a.AV.n ≤ maxLen) (hs : a.Ai.n ≤ maxLen) : D_f1h.wp (a, b) fun y => y = true := by
 simp only [I3, MR.mk.injEq] at h
 obtain ⟨h1, h2, h3, h4⟩ := h
 obtain ⟨hn, hg⟩ := Sl.TQ h2
 refine of_wp ?_
 simp only [tt_f1h]
 refine Al (fun e => absurd (ieI.2 h1) (bnI.1 e)) fun _ => Al (fun e => absurd (by rw [h3]; simp) (bnI.1 e)) fun _ => Al (fun e => absurd (ieI.2 (by rw [hn])) (bnI.1 e)) fun _ => ?_
 refine wC (w_f27 _ _ h4 hs) fun (y : Bool) hy => ?_
 subst hy
 refine Al (fun e => absurd rfl (bnI.1 e)) fun _ => of_wp ?_
 simp only [tt_f1h_3]
 refine F9 (fun k => (⟨a, b, (k : Nat)⟩ : X_f1h_4)) a.AV.n (fun _ => True) _ (fun D hJ => ?_) (fun D k hk hD => ?_)
 · simp only [tt_f1h_4, BA, Nat.lt_irrefl, decide_false, B3]; rfl
 · have hk2 : k < b.AV.n := hn ▸ hk
   simp only [tt_f1h_4, BA, hk, decide_true, CQ, A6 hk, A6 hk2, A9, Int.toNat_natCast, C0 hk hm, hg k hk]
   exact Al (fun e => absurd (ieI.2 rfl) (bnI.1 e)) fun _ => hD trivial
theorem w_f48 (a b : TTh) (h : aT a = aT b) (hm : a.Seen.n ≤ maxLen) : D_f48.wp (a, b) fun y => y = true := by
 simp only [aT, MT.mk.injEq] at h
 obtain ⟨h1, h2, h3, h4, h5, h6, h7⟩ := h
 refine of_wp ?_
 simp only [tt_f48, h1, h2, h3, h4, h5, h6]
 have ee : ∀ z : Int, AW z z = true := fun z => ieI.2 rfl
 simp only [ee, CQ, Bool.and_self]
 exact wC (w_f26 _ _ h7 hm) fun (y : Bool) hy => hy
structure VY (m : MS) : Prop where
 tn : m.AB.length ≤ maxLen
 rn : m.AF.length ≤ maxLen
 ts : ∀ t ∈ m.AB, t.Seen.length ≤ maxLen
 rs : ∀ r ∈ m.AF, r.AV.length ≤ maxLen ∧ r.Ai.length ≤ maxLen
theorem w_fj (a b : TSt) (h : aS a = aS b) (ha : VY (aS a)) : D_fj.wp (a, b) fun y => y = true := by
 have atn : a.AB.n ≤ maxLen := by have := ha.tn; simpa [aS] using this
 have arn : a.AF.n ≤ maxLen := by have := ha.rn; simpa [aS] using this
 have ats : ∀ t, t < a.AB.n → (a.AB.get t).Seen.n ≤ maxLen := fun t ht => by
  have := ha.ts _ (List.mem_map.2 ⟨_, Sl.Cg.2 ⟨t, ht, rfl⟩, rfl⟩)
  simpa [aT] using this
 have ars : ∀ t, t < a.AF.n → (a.AF.get t).AV.n ≤ maxLen ∧ (a.AF.get t).Ai.n ≤ maxLen := fun t ht => by
  have := ha.rs _ (List.mem_map.2 ⟨_, Sl.Cg.2 ⟨t, ht, rfl⟩, rfl⟩)
  simpa [I3] using this
 simp only [aS, MS.mk.injEq] at h
 obtain ⟨h1, h2, h3, h4, h5⟩ := h
 obtain ⟨n1, g1⟩ := Mn h1
 obtain ⟨n2, g2⟩ := Mn h2
 refine of_wp ?_
 simp only [tt_fj]
 refine Al (fun e => absurd (ieI.2 (by rw [n1])) (bnI.1 e)) fun _ => Al (fun e => absurd (ieI.2 (by rw [n2])) (bnI.1 e)) fun _ => Al (fun e => absurd (ieI.2 h3) (bnI.1 e)) fun _ =>
  Al (fun e => absurd (ieI.2 h4) (bnI.1 e)) fun _ => Al (fun e => absurd (by rw [h5]; simp) (bnI.1 e)) fun _ => of_wp ?_
 simp only [tt_fj_3]
 refine F9 (fun k => (⟨a, b, (k : Nat)⟩ : X_fj_4)) a.AB.n (fun _ => True) _ (fun D hJ => ?_) (fun D k hk hD => ?_)
 · simp only [tt_fj_4, BA, Nat.lt_irrefl, decide_false, B3]
   refine of_wp ?_
   simp only [tt_fj_8]
   refine F9 (fun k => (⟨a, b, (k : Nat)⟩ : X_fj_9)) a.AF.n (fun _ => True) _ (fun D hJ => ?_) (fun D k hk hD => ?_)
   · simp only [tt_fj_9, BA, Nat.lt_irrefl, decide_false, B3]; rfl
   · have hk2 : k < b.AF.n := n2 ▸ hk
     simp only [tt_fj_9, BA, hk, decide_true, CQ, A6 hk, A6 hk2, A9, Int.toNat_natCast, C0 hk arn]
     refine wC (w_f1h _ _ (g2 k hk2) (ars k hk).1 (ars k hk).2) fun (y : Bool) hy => ?_
     subst hy
     exact Al (fun e => absurd rfl (bnI.1 e)) fun _ => hD trivial
 · have hk2 : k < b.AB.n := n1 ▸ hk
   simp only [tt_fj_4, BA, hk, decide_true, CQ, A6 hk, A6 hk2, A9, Int.toNat_natCast, C0 hk atn]
   refine wC (w_f48 _ _ (g1 k hk2) (ats k hk)) fun (y : Bool) hy => ?_
   subst hy
   exact Al (fun e => absurd rfl (bnI.1 e)) fun _ => hD trivial
theorem Jk.c {p : TPg} (h : Jk p) {t : Nat} (ht : t < p.AB.n) : OU (p.AB.get t) := ⟨h.ln t ht, h.ins t ht⟩
theorem NX {p : TPg} (hP : FL (aP p)) {t : Nat} (ht : t < p.AB.n) : codeOk (p.AB.get t) := by
 obtain ⟨h1, h2⟩ := (BX hP).2.2.2.2 t ht
 refine ⟨h1, fun k hk => ?_⟩
 have := Gq (h2 k hk)
 exact ⟨this.1, fun hh => by have := this.2.1 ⟨hh.1, hh.2.1⟩; omega⟩
theorem Cn {P : Program} {R : Type} {p : Prop} {t : TT P R} {Q : R → Prop} (h : t.wp Q) : (TT.side p t).wp Q := h
theorem G8 (r : TRr) : D_f1x.wp r fun y => y = r.AA.tail := B9 rfl
theorem Es (j : Int) (c : TRc) : D_fz.wp (j, c) fun y => y = true ↔ 0 ≤ j ∧ j < c.AD.n := by
 refine B9 ?_
 simp only [tt_fz]
 exact AE leI (fun h => wN (by simp) (D4 ilI ⟨fun k => ⟨h, k⟩, fun k => k.2⟩)) fun h => Bb fun k => h k.1
theorem Jd (j : Int) (r : TRr) (h0 : 0 ≤ j) (h1 : j < r.AA.AD.n) : D_fr.wp (j, r) fun y => y = r.AA.AD.get j.toNat := by
 refine B9 ?_
 simp only [tt_fr]
 refine wC (Es j r.AA) fun (y : Bool) hy => ?_
 refine AE bnI (fun h => absurd (hy.2 ⟨h0, h1⟩) h) fun _ => of_wp ?_
 simp only [tt_fr_3, Nat.zero_add]
 exact wN (by rw [ibI]; exact ⟨h0, h1⟩) (wN (by simp) (wN (by simp) rfl))
theorem Qh {t : TTh} {y : Sl Int} (h : DI y t.Seen) : aT ⟨t.At, t.Phase, t.Ring, t.Status, t.AG, t.Ae, y⟩ = aT t := by
 simp only [aT, h.L]
theorem N0 (x : TSs) (h : 0 < x.l.n) (hn : x.l.n * 24 ≤ 140737488351232) : D_f1z.wp x fun y => DI y x.l ∧ CR y := by
 refine B9 ?_
 simp only [tt_f1z]
 refine wC (J1 ⟨x.l.n, x.l.get⟩ h hn) fun (y : Sl TSo) hy => wN (by simp) ⟨⟨hy.1.n, hy.1.g⟩, hy.2⟩
theorem GZ (c : TRg) (r : TRr) (hc : A8 c = true) (h : P6 c r) : D_f1k.wp r fun y => I3 y = aR r ∧ CR y.AV ∧ CR y.Ai := by
 have hf := Cz hc
 have hn := h.hn
 have ln := h.ln
 refine B9 ?_
 simp only [tt_f1k]
 refine wN (by simp [h.sn]) ?_
 refine wC (IF ⟨r.AA.AD.n, r.AA.AD.get⟩ (by show 0 < r.AA.AD.n; omega) (by show r.AA.AD.n * 8 ≤ _; omega)) fun (y : Sl Int) hy => ?_
 refine wC (N0 r.s.x (by omega) (by omega)) fun (z : Sl TSo) hz => wN (by simp [h.sn]) (Cn (wN (by simp) ?_))
 have e : y.L = r.AA.AD.L := hy.1.L
 refine ⟨?_, hy.2, hz.2⟩
 show (⟨r.AA.tail, y.L, r.closed, z.L⟩ : MR) = _
 rw [e, hz.1.L]; rfl
structure TM (b : Nat) (s : TSt) : Prop where
 ts : ∀ t, t < s.AB.n → EH b (s.AB.get t)
 rs : ∀ i, i < s.AF.n → CR (s.AF.get i).AV ∧ CR (s.AF.get i).Ai
theorem Kb (p : TPg) (b : Nat) (f : TFa) (hb : b * 8 ≤ 140737488351232) (hP : FL (aP p)) (h : Vf p b f) : D_f1.wp f fun y => aS y = aF f ∧ TM b y := by
 obtain ⟨h1, h8, hr8, _, hl⟩ := BX hP
 have htn := h.tn
 have hrn := h.rn
 refine B9 ?_
 simp only [tt_f1]
 refine wC (Fl ⟨f.threads.n, f.threads.get⟩ (by show 0 < f.threads.n; omega) (by show f.threads.n * 128 ≤ _; omega)) fun (y : Sl TTh) hy => wN (by simp) (wN (by simp) ?_)
 have yn : y.n = f.threads.n := hy.1.n
 have yg : ∀ i, i < f.threads.n → y.get i = f.threads.get i := hy.1.g
 refine De (tt := tt_f1_5) (fun x : X_f1_5 => x.NB = f.threads.n ∧ x.Ag = f ∧ ∃ k : Nat, x.Ek = k ∧ k ≤ f.threads.n ∧ x.Bp.AF = ⟨true, 0, fun _ => ⟨0, ⟨true, 0, fun _ => 0⟩, false, ⟨true, 0, fun _ => ⟨0, 0, 0⟩⟩⟩⟩ ∧ x.Bp.FQ = f.now ∧ x.Bp.Reads = f.reads ∧ x.Bp.Ba = f.ended ∧
  x.Bp.AB.n = f.threads.n ∧ ∀ t, t < f.threads.n → aT (x.Bp.AB.get t) = aT (f.threads.get t) ∧ CR (x.Bp.AB.get t).Seen ∧ (x.Bp.AB.get t).Seen.n ≤ b)
  (fun x => (f.threads.n - x.Ek).toNat) (fun _ y => aS y.1 = aF f ∧ TM b y.1) (fun D x hI hD => ?_)
  ⟨by rw [← yn], rfl, 0, rfl, Nat.zero_le _, rfl, rfl, rfl, rfl, yn, fun t ht => by show aT (y.get t) = _ ∧ CR (y.get t).Seen ∧ (y.get t).Seen.n ≤ b; rw [yg t ht]; exact ⟨rfl, (h.tw t ht).sz, (h.tw t ht).sb⟩⟩
 obtain ⟨e0, e1, k, e4, hk, e5, e6, e7, e8, hn, hg⟩ := hI
 obtain ⟨q29, q30, o0, ⟨mt, mr, mn, md, me⟩⟩ := x
 simp only at e0 e1 e4 e5 e6 e7 e8 hn hg hD
 subst e0 e1 e4 e5 e6 e7 e8
 simp only [tt_f1_5]
 refine AE ilI (fun hlt => ?_) fun hlt => ?_
 · have hkm : k < mt.n := by omega
   have hkf : k < o0.threads.n := by omega
   simp only [A6 hkm, A9, Int.toNat_natCast, Nat.zero_add]
   obtain ⟨g1, g2, g3⟩ := hg k hkf
   refine wN (by simp) ?_
   refine wC (Kc _ g2 (by omega)) fun (z : Sl Int) hz => wN rfl (wN (by simp) (wN (by simp) ?_))
   have e2 : IntKind.i64.wrap ((k : Int) + 1) = ((k + 1 : Nat) : Int) := by rw [wrap64] <;> omega
   rw [e2]
   refine P9 (x' := ⟨_, ((k + 1 : Nat) : Int), o0, ⟨IL mt k ⟨(mt.get k).At, (mt.get k).Phase, (mt.get k).Ring, (mt.get k).Status, (mt.get k).AG, (mt.get k).Ae, z⟩, _, _, _, _⟩⟩) (hD _ ⟨rfl, rfl, k + 1, rfl, by omega, rfl, rfl, rfl, rfl, hn, fun i hi => ?_⟩ (by simp only; omega)) ?_
   · by_cases e : i = k
     · subst e; simp only [M4]; exact ⟨(Qh hz.1).trans g1, hz.2, by rw [hz.1.n]; exact g3⟩
     · simp only [M3 e]; exact hg i hi
   · refine congrArg (fun g => X_f1_5.mk _ ((k + 1 : Nat) : Int) o0 ⟨⟨mt.nil, mt.n, g⟩, _, _, _, _⟩) (funext fun i => ?_)
     cases Nat.beq i k <;> rfl
 · refine Cn (of_wp ?_)
   simp only [tt_f1_9]
   refine De (tt := tt_f1_10) (fun x : X_f1_10 => x.Ti = o0.rings.n ∧ x.Ag = o0 ∧ ∃ k : Nat, x.DG = k ∧ k ≤ o0.rings.n ∧ x.Bp.AB = mt ∧ x.Bp.FQ = o0.now ∧ x.Bp.Reads = o0.reads ∧ x.Bp.Ba = o0.ended ∧
    x.Bp.AF.n = k ∧ ∀ i, i < k → I3 (x.Bp.AF.get i) = aR (o0.rings.get i).x ∧ CR (x.Bp.AF.get i).AV ∧ CR (x.Bp.AF.get i).Ai)
    (fun x => (o0.rings.n - x.DG).toNat) (fun _ y => aS y.1 = aF o0 ∧ TM b y.1) (fun D x hI hD => ?_) ⟨rfl, rfl, 0, rfl, Nat.zero_le _, rfl, rfl, rfl, rfl, rfl, fun t ht => by omega⟩
   obtain ⟨e0, e1, k, e4, hk, e5, e6, e7, e8, hrn2, hrg⟩ := hI
   obtain ⟨q29, q30, o0, ⟨xt, xr, xn, xd, xe⟩⟩ := x
   simp only at e0 e1 e4 e5 e6 e7 e8 hrn2 hrg hD
   subst e0 e1 e4 e5 e6 e7 e8 hrn2
   simp only [tt_f1_10]
   refine AE ilI (fun hlt => ?_) fun hlt => ?_
   · have hkr : xr.n < o0.rings.n := by omega
     obtain ⟨hnil, hw⟩ := h.rw _ hkr
     simp only [A6 hkr, A9, Int.toNat_natCast, Nat.zero_add]
     refine wN (by simp [hnil]) ?_
     refine wC (GZ _ _ (rg_of hP (by omega)) hw) fun (z : TRs) hz => wN (by simp [room]; omega) (wN (by simp [hnil]; omega) (Cn ?_))
     have e2 : IntKind.i64.wrap ((xr.n : Int) + 1) = ((xr.n + 1 : Nat) : Int) := by rw [wrap64] <;> omega
     rw [e2]
     refine P9 (x' := ⟨_, ((xr.n + 1 : Nat) : Int), o0, ⟨xt, snoc xr z, _, _, _⟩⟩) (hD _ ⟨rfl, rfl, xr.n + 1, rfl, by omega, rfl, rfl, rfl, rfl, rfl, fun i hi => ?_⟩ (by simp only; omega)) ?_
     · by_cases e : i = xr.n
       · subst e; simp only [HU]; exact hz
       · have : i < xr.n := by omega
         simp only [HT this]; exact hrg i this
     · refine congrArg (fun g => X_f1_10.mk _ ((xr.n + 1 : Nat) : Int) o0 ⟨xt, ⟨false, xr.n + 1, g⟩, _, _, _⟩) (funext fun i => ?_)
       cases Nat.blt i xr.n <;> rfl
   · have hkk : xr.n = o0.rings.n := by omega
     refine wN (by simp) ?_
     have htn2 : xt.n = o0.threads.n := by assumption
     refine ⟨?_, fun t ht => ?_, fun i hi => (hrg i hi).2⟩
     · show aS ⟨xt, xr, o0.now, o0.reads, o0.ended⟩ = aF o0
       unfold aF aS
       simp only [MS.mk.injEq, and_true]
       exact ⟨Ep htn2 fun i hi => (hg i hi).1, Ep hkk fun i hi => (hrg i (hkk ▸ hi)).1⟩
     · change t < xt.n at ht
       obtain ⟨g1, g2, g3⟩ := hg t (htn2 ▸ ht)
       have hw := h.tw t (htn2 ▸ ht)
       have k1 := congrArg MT.AG g1
       have k2 := congrArg MT.Ae g1
       change (xt.get t).AG = (o0.threads.get t).AG at k1
       change (xt.get t).Ae = (o0.threads.get t).Ae at k2
       exact ⟨by show 0 ≤ (xt.get t).AG; rw [k1]; exact hw.k0, by show (xt.get t).AG < _; rw [k1]; exact hw.k1, by show ∀ j, 0 ≤ (xt.get t).Ae j ∧ (xt.get t).Ae j < _; rw [k2]; exact hw.rg, g2, g3⟩
theorem w_f40 (x : Int) : D_f40.wp x fun y => y = true ↔ 18 ≤ x ∧ x ≤ 25 := by
 refine of_wp ?_
 simp only [tt_f40, TT.wp, leI, Bool.false_eq_true, false_iff]
 omega
theorem FO {a : Int} (h : Bs a) : (BitVec.ofInt (IntKind.bits .u64) a).toNat = a.toNat := by
 obtain ⟨h0, h1⟩ := h
 rw [BitVec.toNat_ofInt]
 show (a % ((2 ^ 64 : Nat) : Int)).toNat = a.toNat
 rw [Int.emod_eq_of_lt h0 (by exact h1)]
theorem Cl {a : Int} (h : Bs a) : a.toNat < 2 ^ 64 := by
 obtain ⟨h0, h1⟩ := h
 have : (2 : Nat) ^ 64 = 18446744073709551616 := by decide
 omega
theorem KV {n : Nat} (h : n < 2 ^ 64) : IntKind.u64.wrap (n : Int) = n := by
 have : (2 : Nat) ^ 64 = 18446744073709551616 := by decide
 exact Am (by omega) (by omega)
theorem Iy {a b : Int} (ha : Bs a) (hb : Bs b) : Vm.bits .and IntKind.u64 a b = ((a.toNat &&& b.toNat : Nat) : Int) := by
 simp only [Vm.bits, BitVec.toNat_and, FO ha, FO hb]
 exact KV (Nat.and_lt_two_pow _ (Cl hb))
theorem Nf {a b : Int} (ha : Bs a) (hb : Bs b) : Vm.bits .or IntKind.u64 a b = ((a.toNat ||| b.toNat : Nat) : Int) := by
 simp only [Vm.bits, BitVec.toNat_or, FO ha, FO hb]
 exact KV (Nat.or_lt_two_pow (Cl ha) (Cl hb))
theorem Nd {a b : Int} (ha : Bs a) (hb : Bs b) : Vm.bits .xor IntKind.u64 a b = ((a.toNat ^^^ b.toNat : Nat) : Int) := by
 simp only [Vm.bits, BitVec.toNat_xor, FO ha, FO hb]
 exact KV (Nat.xor_lt_two_pow (Cl ha) (Cl hb))
theorem UZ {b : Int} (hb : Bs b) : Vm.bits .and IntKind.u64 b 63 = b % 64 := by
 rw [Iy hb (by unfold Bs; decide)]
 have : b.toNat &&& 63 = b.toNat % 64 := Nat.and_two_pow_sub_one_eq_mod b.toNat 6
 show ((b.toNat &&& 63 : Nat) : Int) = _
 rw [this]
 have := hb.1
 omega
theorem w_f4b (b : Bool) : D_f4b.wp b fun y => y = if b = true then 1 else 0 := by
 refine of_wp ?_
 simp only [tt_f4b]
 exact Al (fun h => by rw [if_pos h]; rfl) fun h => by rw [if_neg h]; rfl
theorem w_f3d (a b : Int) (ha : Bs a) (hb : Bs b) : D_f3d.wp (a, b) fun y => y = if b = 0 then 0 else a / b := by
 refine of_wp ?_
 simp only [tt_f3d]
 refine AE ieI (fun h => by rw [if_pos h]; rfl) fun h => wN (by simpa [AW] using h) ?_
 rw [if_neg h]
 show IntKind.u64.wrap (Int.tdiv a b) = _
 rw [Int.tdiv_eq_ediv_of_nonneg ha.1]
 have h2 : a / b ≤ a := Int.ediv_le_self _ ha.1
 have h3 : 0 ≤ a / b := Int.ediv_nonneg ha.1 hb.1
 have := ha.2
 exact Am h3 (by omega)
theorem w_f45 (a b : Int) (ha : Bs a) : D_f45.wp (a, b) fun y => y = if b = 0 then 0 else a % b := by
 refine of_wp ?_
 simp only [tt_f45]
 refine AE ieI (fun h => by rw [if_pos h]; rfl) fun h => wN (by simpa [AW] using h) ?_
 rw [if_neg h]
 exact Int.tmod_eq_emod_of_nonneg ha.1
theorem Sd (a b : Int) : J7 11 a b = IntKind.u64.wrap (a * 2 ^ (b % 64).toNat) := rfl
theorem Sc (a b : Int) : J7 12 a b = a / 2 ^ (b % 64).toNat := rfl
theorem w_f4d (op a b : Int) (ha : Bs a) (hb : Bs b) (h3 : 3 ≤ op) (h14 : op ≤ 14) : D_f4d.wp (op, (a, b)) fun y => y.1 = J7 op a b := by
 refine of_wp ?_
 simp only [tt_f4d]
 have hm : (b % 64).toNat ≤ 63 := by omega
 have hmin : min (b % 64).toNat (IntKind.bits .u64) = (b % 64).toNat := Nat.min_eq_left (by show _ ≤ 64; omega)
 refine AE ieI (fun h => ?_) fun n3 => AE ieI (fun h => ?_) fun n4 => AE ieI (fun h => ?_) fun n5 => AE ieI (fun h => ?_) fun n6 => AE ieI (fun h => ?_) fun n7 => AE ieI (fun h => ?_) fun n8 =>
  AE ieI (fun h => ?_) fun n9 => AE ieI (fun h => ?_) fun n10 => AE ieI (fun h => ?_) fun n11 => AE ieI (fun h => ?_) fun n12 => AE ieI (fun h => ?_) fun n13 => AE ieI (fun h => ?_) fun n14 => by omega
 · subst h; rfl
 · subst h; rfl
 · subst h; rfl
 · subst h
   exact wC (w_f3d a b ha hb) fun (y : Int) hy => hy
 · subst h
   exact wC (w_f45 a b ha) fun (y : Int) hy => hy
 · subst h
   exact Iy ha hb
 · subst h
   exact Nf ha hb
 · subst h
   exact Nd ha hb
 · subst h
   show shl IntKind.u64 a (Vm.bits .and IntKind.u64 b 63) = J7 11 a b
   rw [Sd, UZ hb, shl, hmin]
 · subst h
   show shr IntKind.u64 a (Vm.bits .and IntKind.u64 b 63) = J7 12 a b
   rw [Sc, UZ hb, shr, hmin, Int.fdiv_eq_ediv_of_nonneg]
   exact Int.le_of_lt (Int.pow_pos (by decide))
 · subst h
   refine wC (w_f4b (Bg a b)) fun (y : Int) hy => ?_
   subst hy
   show (if Bg a b = true then (1 : Int) else 0) = if a < b then 1 else 0
   simp only [ilI]
 · subst h
   refine wC (w_f4b (AW a b)) fun (y : Int) hy => ?_
   subst hy
   show (if AW a b = true then (1 : Int) else 0) = if a = b then 1 else 0
   simp only [ieI]
theorem LA {op a b : Int} (ha : Bs a) (hb : Bs b) : Bs (J7 op a b) := by
 have hd : Bs (if b = 0 then 0 else a / b) := by
  split
  · exact Cd
  · exact ⟨Int.ediv_nonneg ha.1 hb.1, by have := Int.ediv_le_self b ha.1; have := ha.2; omega⟩
 have hr : Bs (if b = 0 then 0 else a % b) := by
  split
  · exact Cd
  · rename_i h
    have h1 : 0 < b := by have := hb.1; omega
    exact ⟨Int.emod_nonneg _ h, by have := Int.emod_lt_of_pos a h1; have := hb.2; omega⟩
 have hn : ∀ {n : Nat}, n < 2 ^ 64 → Bs (n : Int) := fun h => by
  have : (2 : Nat) ^ 64 = 18446744073709551616 := by decide
  exact ⟨Int.natCast_nonneg _, by omega⟩
 have it : ∀ {c : Prop} [Decidable c] {x y : Int}, Bs x → Bs y → Bs (if c then x else y) := fun h k => by split <;> assumption
 have u1 : Bs 1 := by unfold Bs; decide
 have hs : Bs (a / 2 ^ (b % 64).toNat) := ⟨Int.ediv_nonneg ha.1 (Int.le_of_lt (Int.pow_pos (by decide))), by have := Int.ediv_le_self (2 ^ (b % 64).toNat) ha.1; have := ha.2; omega⟩
 unfold J7
 exact it (HS _) (it (HS _) (it (HS _) (it hd (it hr (it (hn (Nat.and_lt_two_pow _ (Cl hb))) (it (hn (Nat.or_lt_two_pow (Cl ha) (Cl hb))) (it (hn (Nat.xor_lt_two_pow (Cl ha) (Cl hb))) (it (HS _) (it hs (it (it u1 Cd) (it u1 Cd)))))))))))
theorem BE {P : Program} {R Z : Type} {g : R → Z} {b : Bool} {p : Prop} [Decidable p] {t e : TT P R} {u v : Z} (hb : b = true ↔ p) (h1 : p → t.wp fun y => g y = u) (h2 : ¬ p → e.wp fun y => g y = v) : (TT.ite b t e).wp fun y => g y = if p then u else v :=
 AE hb (fun h => by rw [if_pos h]; exact h1 h) fun h => by rw [if_neg h]; exact h2 h
theorem Bd {a b : Bool} (h : a = true ↔ b = true) : a = b := Bool.eq_iff_iff.2 h
theorem w_f2t (k : Int) : D_f2t.wp k fun y => y = Az k := by
 refine AU.wp.mono (Q := fun y : Bool => y = true ↔ (1 ≤ k ∧ k ≤ 4 ∨ k = 13)) (of_wp ?_) fun y hy => Bd (hy.trans Av.symm)
 simp only [tt_f2t, TT.wp, leI, ieI, true_iff]
 omega
theorem w_f37 (k : Int) : D_f37.wp k fun y => y = CT k := by
 refine AU.wp.mono (Q := fun y : Bool => y = true ↔ (1 ≤ k ∧ k ≤ 7 ∨ k = 13)) (of_wp ?_) fun y hy => Bd (hy.trans Bq.symm)
 simp only [tt_f37]
 refine wC (w_f2t k) fun (y : Bool) hy => ?_
 subst hy
 simp only [TT.wp, leI, Av, true_iff, Bool.false_eq_true, false_iff]
 omega
theorem w_f3e (k : Int) : D_f3e.wp k fun y => y = C2 k := by
 refine AU.wp.mono (Q := fun y : Bool => y = true ↔ (8 ≤ k ∧ k ≤ 10 ∨ k = 12)) (of_wp ?_) fun y hy => Bd (hy.trans (by simp only [C2, decide_eq_true_eq]))
 simp only [tt_f3e, TT.wp, leI, ieI, true_iff]
 omega
theorem w_f29 (k : Int) : D_f29.wp k fun y => y = ⟨#[]⟩ ↔ ¬ (1 ≤ k ∧ k ≤ 15) := by
 refine of_wp ?_
 simp only [tt_f29]
 refine AE ilI (fun h => ⟨fun _ => by omega, fun _ => rfl⟩) fun h1 => AE ilI (fun h => ⟨fun _ => by omega, fun _ => rfl⟩) fun h2 => of_wp ?_
 simp only [tt_f29_3]
 have hn : D_f3u.wp PUnit.unit fun y => y.n = 15 ∧ ∀ i, i < 15 → y.get i ≠ ⟨#[]⟩ := by
  refine of_wp ?_
  simp only [tt_f3u]
  refine ⟨rfl, fun i hi => ?_⟩
  rcases (by omega : i = 0 ∨ i = 1 ∨ i = 2 ∨ i = 3 ∨ i = 4 ∨ i = 5 ∨ i = 6 ∨ i = 7 ∨ i = 8 ∨ i = 9 ∨ i = 10 ∨ i = 11 ∨ i = 12 ∨ i = 13 ∨ i = 14) with e | e | e | e | e | e | e | e | e | e | e | e | e | e | e <;> subst e <;> exact fun h => by cases h
 refine wC hn fun (y : Sl ByteArray) hy => ?_
 have hw : IntKind.i64.wrap (k - 1) = k - 1 := wrap64 (by omega) (by omega)
 rw [hw]
 exact wN (by rw [ibI, hy.1]; omega) ⟨fun h => absurd h (hy.2 _ (by omega)), fun h => absurd ⟨by omega, by omega⟩ h⟩
def Ju (e : TEv) : TEv := ⟨e.Thread, e.Kind, if CT e.Kind = true then e.Ring else 0, if Az e.Kind = true then e.AG else 0, if C2 e.Kind = true then e.Value else 0⟩
theorem w_f11 (e : TEv) : D_f11.wp e fun y => y = Ju e := by
 refine of_wp ?_
 simp only [tt_f11]
 refine wC (w_f37 e.Kind) fun (y : Bool) hy => ?_
 subst hy
 have h5 : ∀ r t z, D_f11_5.wp (⟨⟨e.Thread, e.Kind, r, t, e.Value⟩, z⟩ : X_f11_5) fun y => y = ⟨e.Thread, e.Kind, r, t, if C2 e.Kind = true then e.Value else 0⟩ := fun r t z => by
  refine of_wp ?_
  simp only [tt_f11_5]
  refine wC (w_f3e e.Kind) fun (y : Bool) hy => ?_
  subst hy
  exact AE bnI (fun h => by rw [if_neg h]; rfl) fun h => by rw [if_pos (Classical.byContradiction h)]; rfl
 have h3 : ∀ r z, D_f11_3.wp (⟨⟨e.Thread, e.Kind, r, e.AG, e.Value⟩, z⟩ : X_f11_3) fun y => y = ⟨e.Thread, e.Kind, r, if Az e.Kind = true then e.AG else 0, if C2 e.Kind = true then e.Value else 0⟩ := fun r z => by
  refine of_wp ?_
  simp only [tt_f11_3]
  refine wC (w_f2t e.Kind) fun (y : Bool) hy => ?_
  subst hy
  exact AE bnI (fun h => by rw [if_neg h]; exact h5 _ _ _) fun h => by rw [if_pos (Classical.byContradiction h)]; exact h5 _ _ _
 unfold Ju
 exact AE bnI (fun h => by rw [if_neg h]; exact h3 _ _) fun h => by rw [if_pos (Classical.byContradiction h)]; exact h3 _ _
theorem CS {e : TEv} : Bk e = true ↔ (1 ≤ e.Kind ∧ e.Kind ≤ 15) ∧ (0 ≤ e.Thread ∧ e.Thread ≤ 7) ∧ (0 ≤ e.Ring ∧ e.Ring ≤ 7) ∧ e.AG < 4611686018427387904 ∧
 (CT e.Kind = true ∨ e.Ring = 0) ∧ (Az e.Kind = true ∨ e.AG = 0) ∧ (C2 e.Kind = true ∨ e.Value = 0) := by
 simp only [Bk, decide_eq_true_eq]
theorem TD {e : TEv} : ((AW e.Thread (Ju e).Thread) && ((AW e.Kind (Ju e).Kind) && ((AW e.Ring (Ju e).Ring) && ((AW e.AG (Ju e).AG) && ((AW e.Value (Ju e).Value) && true))))) = true ↔
 (CT e.Kind = true ∨ e.Ring = 0) ∧ (Az e.Kind = true ∨ e.AG = 0) ∧ (C2 e.Kind = true ∨ e.Value = 0) := by
 simp only [Ju, Bool.and_eq_true, ieI, true_and, and_true]
 cases CT e.Kind <;> cases Az e.Kind <;> cases C2 e.Kind <;> simp
theorem w_f38 (e : TEv) : D_f38.wp e fun y => y = Bk e := by
 refine AU.wp.mono (Q := fun y : Bool => y = true ↔ Bk e = true) (of_wp ?_) fun y hy => Bd hy
 simp only [tt_f38]
 refine wC (w_f29 e.Kind) fun (y : ByteArray) hy => ?_
 refine AE (p := 1 ≤ e.Kind ∧ e.Kind ≤ 15) (by rw [bnI, M5]; exact (not_congr hy).trans Decidable.not_not) (fun h1 => ?_) fun h1 => Bb fun k => h1 (CS.1 k).1
 refine wC (w_f11 e) fun (y : TEv) hy => ?_
 subst hy
 refine AE TD (fun h2 => AE leI (fun h3 => AE ilI (fun h4 => AE leI (fun h5 => AE ilI (fun h6 => D4 ilI ?_) fun h => ?_) fun h => ?_) fun h => ?_) fun h => ?_) fun h => ?_
 · rw [CS]; exact ⟨fun h => ⟨h1, by omega, by omega, h, h2⟩, fun h => h.2.2.2.1⟩
 all_goals refine Bb fun k => ?_
 all_goals have k := CS.1 k
 · omega
 · omega
 · omega
 · omega
 · exact h k.2.2.2.2
def aA (a : TAk) : MA := ⟨a.Kind, a.Ring, a.Mode, a.Reader, a.AG, a.Value⟩
theorem w_f2r (k : Int) : D_f2r.wp k fun y => y = El k := by
 refine of_wp ?_
 simp only [tt_f2r, El]
 exact BE (g := id) ieI (fun _ => rfl) fun _ => BE (g := id) ieI (fun _ => rfl) fun _ => BE (g := id) ieI (fun _ => rfl) fun _ => BE (g := id) ieI (fun _ => rfl) fun _ => BE (g := id) ieI (fun _ => rfl) fun _ =>
  BE (g := id) ieI (fun _ => rfl) fun _ => BE (g := id) ieI (fun _ => rfl) fun _ => BE (g := id) ieI (fun _ => rfl) fun _ => BE (g := id) ieI (fun _ => rfl) fun _ => BE (g := id) ieI (fun _ => rfl) fun _ => BE (g := id) ieI (fun _ => rfl) fun _ => rfl
theorem w_fk (a : TAk) (e : TEv) : D_fk.wp (a, e) fun y => y = Cj (aA a) e := by
 refine of_wp ?_
 simp only [tt_fk]
 refine wC (w_f37 e.Kind) fun (y : Bool) hy => ?_
 subst hy
 have h4 : ∀ w : Bool, (w = true ↔ (a.Kind = 1 ∨ a.Kind = 2)) → D_fk_4.wp (⟨a, e, w⟩ : X_fk_4) fun y => y = (if e.Kind = 5 then decide ((a.Kind = 1 ∨ a.Kind = 2) ∧ a.Mode = 0)
  else if e.Kind = 6 then decide (a.Kind = 1 ∨ a.Kind = 2)
  else if e.Kind = 7 then decide ((a.Kind = 1 ∨ a.Kind = 2) ∧ a.Mode = 2)
  else if e.Kind = 2 ∨ e.Kind = 4 then decide (a.Kind = El e.Kind ∧ a.AG = e.AG)
  else if e.Kind = 12 then decide (a.Kind = 7 ∧ a.Value = e.Value)
  else decide (a.Kind = El e.Kind)) := fun w hw => by
  refine of_wp ?_
  simp only [tt_fk_4]
  have dd : ∀ {x y : Int} {p q : Prop} [Decidable q] {b : Bool}, (b = true ↔ p) → (q ↔ p ∧ x = y) → (TT.ite b (.ret (AW x y)) (.ret false) : TT Tryz.prog R_fk).wp fun z => z = decide q := fun {x y p q _ b} hb h =>
   AE hb (fun k => Bd (ieI.trans ⟨fun e => decide_eq_true (h.2 ⟨k, e⟩), fun e => (h.1 (of_decide_eq_true e)).2⟩)) fun k => (decide_eq_false fun e => k (h.1 e).1).symm
  have tk : (TT.call con_f2r e.Kind fun (y1 : R_f2r) => .ite (AW a.Kind y1) (.ret (AW a.AG e.AG)) (.ret false) : TT Tryz.prog R_fk).wp fun z => z = decide (a.Kind = El e.Kind ∧ a.AG = e.AG) := by
   refine wC (w_f2r e.Kind) fun (y : Int) hy => ?_
   subst hy
   exact dd ieI Iff.rfl
  refine BE (g := id) ieI (fun _ => dd hw Iff.rfl) fun _ => BE (g := id) ieI (fun _ => Bd (hw.trans (by simp))) fun _ => BE (g := id) ieI (fun _ => dd hw Iff.rfl) fun _ => ?_
  refine AE ieI (fun h => ?_) fun h2 => AE ieI (fun h => ?_) fun h4 => ?_
  · rw [if_pos (.inl h)]; exact tk
  · rw [if_pos (.inr h)]; exact tk
  · rw [if_neg (by omega)]
    refine BE (g := id) ieI (fun _ => dd ieI Iff.rfl) fun _ => of_wp ?_
    simp only [tt_fk_16]
    refine wC (w_f2r e.Kind) fun (y : Int) hy => ?_
    subst hy
    exact Bd (ieI.trans (by simp))
 have h3 : (CT e.Kind = true → a.Ring = e.Ring) → D_fk_3.wp (⟨a, e⟩ : X_fk_3) fun y => y = Cj (aA a) e := fun hr => by
  have hh : (!CT e.Kind || decide (a.Ring = e.Ring)) = true := by
   cases q : CT e.Kind
   · rfl
   · simpa using hr q
  unfold Cj
  show D_fk_3.wp _ fun y => y = ((!CT e.Kind || decide (a.Ring = e.Ring)) && _)
  rw [hh, Bool.true_and]
  refine of_wp ?_
  simp only [tt_fk_3]
  exact AE ieI (fun h => h4 true (by simp [h])) fun h => h4 _ (by rw [ieI]; omega)
 refine Al (fun h => AE (p := a.Ring ≠ e.Ring) (by rw [bnI, ieI]) (fun hn => ?_) fun hn => h3 fun _ => Classical.byContradiction hn) fun h => h3 fun k => absurd k h
 unfold Cj
 have : (!CT e.Kind || decide ((aA a).Ring = e.Ring)) = false := by rw [h]; exact decide_eq_false hn
 rw [this]; rfl
theorem IM (g : Nat → Int) (i v : Int) : (fun k => cond (Nat.beq k i.toNat) v (g k)) = D6 g i v := by
 funext k
 unfold D6
 by_cases h : k = i.toNat
 · subst h; simp
 · rw [Jb h, if_neg h]; rfl
theorem BO {g : Nat → Int} {i v : Int} (hg : ∀ j, Bs (g j)) (hv : Bs v) : ∀ j, Bs (D6 g i v j) := fun j => by
 unfold D6; split
 · exact hv
 · exact hg j
theorem EH.with {b : Nat} {t : TTh} (h : EH b t) (a : Int) {g : Nat → Int} (hg : ∀ j, Bs (g j)) : EH b ⟨a, t.Phase, t.Ring, t.Status, t.AG, g, t.Seen⟩ := ⟨h.k0, h.k1, hg, h.sz, h.sb⟩
theorem w_f34 (i : TIn) (t : TTh) (b : Nat) (hi : Tv i) (hr : Bz i = true) (ho : i.Op ≤ 17) (ht : EH b t) (ha : 0 ≤ t.At ∧ t.At < 1000) :
 D_f34.wp (i, t) fun y => aT y = EA i (aT t) ∧ EH b y := by
 have hf := BF hr
 have hA : A3 i.A 8 = true := by rw [ibI]; omega
 have hB : A3 i.B 8 = true := by rw [ibI]; omega
 have hC : A3 i.C 8 = true := by rw [ibI]; omega
 have hw : IntKind.i64.wrap (t.At + 1) = t.At + 1 := wrap64 (by omega) (by omega)
 refine of_wp ?_
 simp only [tt_f34, hA, hB, hC, hw, IM]
 have nx : (TT.ret (TTh.mk (t.At + 1) t.Phase t.Ring t.Status t.AG t.Ae t.Seen) : TT Tryz.prog R_f34).wp fun y => aT y = { aT t with At := t.At + 1 } ∧ EH b y := ⟨rfl, ht.with _ ht.rg⟩
 have jm : i.Op ≠ 1 → (TT.ret (TTh.mk (IntKind.i64.wrap i.K) t.Phase t.Ring t.Status t.AG t.Ae t.Seen) : TT Tryz.prog R_f34).wp fun y => aT y = { aT t with At := i.K } ∧ EH b y := fun h => by
  have := hf.2.2.2.2.2.1 h
  rw [wrap64 (by omega) (by omega)]
  exact ⟨rfl, ht.with _ ht.rg⟩
 have e0 : (aT t).At = t.At := rfl
 have e1 : (aT t).Ae = t.Ae := rfl
 unfold EA
 simp only [e0, e1]
 refine AE ieI (fun h => ?_) fun n1 => AE ieI (fun h => ?_) fun n2 => AE ieI (fun h => ?_) fun n15 => AE ieI (fun h => ?_) fun n16 => AE ieI (fun h => ?_) fun n17 => ?_
 · rw [if_pos h]; exact wN rfl ⟨rfl, ht.with _ (BO ht.rg hi.1)⟩
 · rw [if_neg n1, if_pos h]; exact wN rfl (wN rfl ⟨rfl, ht.with _ (BO ht.rg (ht.rg _))⟩)
 · rw [if_neg n1, if_neg n2, if_pos (.inl h)]; exact jm n1
 · rw [if_neg n1, if_neg n2]
   refine wN rfl (AE (p := t.Ae i.A.toNat = 0) (by rw [h]; simp [AW]) (fun q => ?_) fun q => ?_)
   · rw [if_pos (.inr (.inl ⟨h, q⟩))]; exact jm n1
   · rw [if_neg (by omega), if_neg (by omega)]; exact nx
 · rw [if_neg n1, if_neg n2]
   refine wN rfl (AE (p := t.Ae i.A.toNat ≠ 0) (by rw [h]; simp [AW]) (fun q => ?_) fun q => ?_)
   · rw [if_pos (.inr (.inr ⟨h, q⟩))]; exact jm n1
   · rw [if_neg (by omega), if_neg (by omega)]; exact nx
 · rw [if_neg n1, if_neg n2, if_neg (by omega), if_pos (by omega)]
   refine wN rfl (wN rfl (wC (w_f4d i.Op _ _ (ht.rg _) (ht.rg _) (by omega) (by omega)) fun (y : Int × Bool) hy => wN rfl ?_))
   rw [hy]
   exact ⟨rfl, ht.with _ (BO ht.rg (LA (ht.rg _) (ht.rg _)))⟩
theorem MQ {l : List TIn} {t : MT} (h : ¬ (t.At < l.length ∧ (gI l t.At).Op ≤ 17)) : ∀ n, EG l n t = t
 | 0 => rfl
 | n + 1 => by unfold EG; rw [if_neg h]
theorem JQ {l : List TIn} {t : MT} (h : t.At < l.length ∧ (gI l t.At).Op ≤ 17) (n : Nat) : EG l (n + 1) t = EG l n (EA (gI l t.At) t) := by
 show (if _ then _ else _) = _
 rw [if_pos h]
structure Vd (l : Sl TIn) (i : TIn) : Prop where
 ok : Tv i
 ri : Bz i = true
 jm : 15 ≤ i.Op ∧ i.Op ≤ 17 → i.K ≤ l.n
theorem L1 {l : Sl TIn} (hl : OU l) (hc : codeOk l) {a : Int} (h0 : 0 ≤ a) (h1 : a < l.n) : Vd l (l.get a.toNat) := by
 have hk : a.toNat < l.n := by omega
 obtain ⟨c1, c2⟩ := hc.2 _ hk
 exact ⟨hl.i _ hk, c1, fun q => by
  have c3 : ¬ ((l.n : Int) < (l.get a.toNat).K) := fun z => c2 ⟨q.1, q.2, z⟩
  omega⟩
theorem w_f3q (i : TIn) (t : TTh) (l : Sl TIn) (hr : Bz i = true) (h0 : 0 ≤ t.At) (h1 : t.At < l.n) (hi : l.get t.At.toNat = i) (ho : 18 ≤ i.Op) : D_f3q.wp (i, t) fun y => aA y = E3 l.L (aT t) := by
 have hf := BF hr
 have hA : A3 i.A 8 = true := by rw [ibI]; omega
 have hg : gI l.L (aT t).At = i := by rw [← hi]; exact Hl l h0 h1
 have hw : IntKind.i64.wrap i.K = i.K := by
  have := hf.2.2.2.2.2.1 (by omega)
  exact wrap64 (by omega) (by omega)
 refine of_wp ?_
 simp only [tt_f3q, hA, E3, hg, hw]
 rw [if_neg (by rw [Sl.Bf]; show t.At ≠ _; omega), if_neg (by omega)]
 exact BE ieI (fun _ => wN rfl rfl) fun _ => BE ieI (fun _ => rfl) fun _ => BE ieI (fun _ => rfl) fun _ => BE ieI (fun _ => rfl) fun _ => BE ieI (fun _ => rfl) fun _ => BE ieI (fun _ => rfl) fun _ => BE ieI (fun _ => wN rfl rfl) fun _ => rfl
theorem w_f9_12 (l : Sl TIn) (s : TTh) (z4 : TTh) (z5 : TAk) (hl : OU l) (hc : codeOk l) (h0 : 0 ≤ s.At) (h1 : s.At ≤ l.n) :
 D_f9_12.wp (⟨l, s, z4, z5⟩ : X_f9_12) fun y => y.1 = s ∧ aA y.2 = E3 l.L (aT s) := by
 refine of_wp ?_
 simp only [tt_f9_12]
 refine AE ieI (fun h => ⟨rfl, ?_⟩) fun h => ?_
 · unfold E3
   rw [if_pos (by rw [Sl.Bf]; exact h)]; rfl
 · have h2 : s.At < l.n := by omega
   have hF := L1 hl hc h0 h2
   have hf := BF hF.ri
   refine wN (by rw [ibI]; omega) (wC (w_f3i _) fun (y : Bool) hy => ?_)
   refine AE hy (fun hp => ⟨rfl, ?_⟩) fun hp => wN (by rw [ibI]; omega) ?_
   · unfold E3
     rw [if_neg (by rw [Sl.Bf]; exact h)]
     have : gI l.L (aT s).At = l.get s.At.toNat := Hl l h0 h2
     rw [this, if_pos hp.2]; rfl
   · exact wC (w_f3q _ s l hF.ri h0 h2 rfl (by omega)) fun y hy => ⟨rfl, hy⟩
theorem w_f9 (l : Sl TIn) (t : TTh) (b : Nat) (hl : OU l) (hc : codeOk l) (hT : Fh l.L (aT t)) (ht : EH b t) :
 D_f9.wp (l, t) fun y => aT y.1 = (CH l.L (aT t)).1 ∧ aA y.2 = (CH l.L (aT t)).2 ∧ EH b y.1 := by
 have a0 : 0 ≤ t.At := hT.a0
 have a1 : t.At ≤ l.n := by have := hT.a1; simpa [aT] using this
 have p1 := hT.p1
 refine of_wp ?_
 simp only [tt_f9]
 unfold CH
 have es : (aT t).Status = t.Status := rfl
 have ep : (aT t).Phase = t.Phase := rfl
 simp only [es, ep]
 refine AE (p := t.Status ≠ 0) (by rw [bnI, ieI]) (fun h => ?_) fun hs => AE ieI (fun h => ?_) fun hp1 => AE ieI (fun h => ?_) fun hp2 => ?_
 · rw [if_pos h]; exact ⟨rfl, rfl, ht⟩
 · have hq := p1 (by show t.Phase ≠ 0; omega)
   have h2 : t.At < l.n := by have := hq.2.1; simpa [aT] using this
   have hF := L1 hl hc a0 h2
   have hf := BF hF.ri
   refine wN (by rw [ibI]; omega) (wN (by rw [ibI]; omega) ?_)
   rw [if_neg (fun k => k (Classical.byContradiction hs)), if_pos h]
   have : gI l.L (aT t).At = l.get t.At.toNat := Hl l a0 h2
   rw [this]
   exact ⟨rfl, rfl, ht⟩
 · have hq := p1 (by show t.Phase ≠ 0; omega)
   have h2 : t.At < l.n := by have := hq.2.1; simpa [aT] using this
   have hF := L1 hl hc a0 h2
   have hf := BF hF.ri
   have ho : (l.get t.At.toNat).Op = 17 + t.Phase := by
    have := hq.2.2.1
    rwa [show gI l.L (aT t).At = l.get t.At.toNat from Hl l a0 h2] at this
   have hk := hf.2.2.2.2.2.1 (by omega)
   refine wN (by rw [ibI]; omega) ?_
   rw [if_neg (fun k => k (Classical.byContradiction hs)), if_neg hp1, if_pos h, wrap64 (by omega) (by omega)]
   have : gI l.L (aT t).At = l.get t.At.toNat := Hl l a0 h2
   rw [this]
   exact ⟨rfl, rfl, ht⟩
 · rw [if_neg (fun k => k (Classical.byContradiction hs)), if_neg hp1, if_neg hp2]
   simp only
   have h256 := hc.1
   refine De (tt := tt_f9_8) (fun x : X_f9_8 => x.B2 = l ∧ ∃ k : Nat, x.Ko = k ∧ k ≤ 256 ∧ (0 ≤ x.BM.At ∧ x.BM.At ≤ l.n) ∧ EG l.L (256 - k) (aT x.BM) = EG l.L 256 (aT t) ∧ EH b x.BM)
    (fun x => (256 - x.Ko).toNat) (fun _ y => aT y.1 = EG l.L 256 (aT t) ∧ aA y.2 = E3 l.L (EG l.L 256 (aT t)) ∧ EH b y.1) (fun D x hI hD => ?_) ⟨rfl, 0, rfl, by omega, ⟨a0, a1⟩, rfl, ht⟩
   obtain ⟨l', q, s, z4, z5⟩ := x
   obtain ⟨e1, k, e2, hk, hA, hrun, hw⟩ := hI
   simp only at e1 e2 hA hrun hw hD
   subst e1 e2
   simp only [tt_f9_8]
   have fin : (¬ ((aT s).At < l'.L.length ∧ (gI l'.L (aT s).At).Op ≤ 17) ∨ k = 256) → D_f9_12.wp (⟨l', s, z4, z5⟩ : X_f9_12) fun y => aT y.1 = EG l'.L 256 (aT t) ∧ aA y.2 = E3 l'.L (EG l'.L 256 (aT t)) ∧ EH b y.1 := fun h => by
    have he : EG l'.L 256 (aT t) = aT s := by
     rw [← hrun]
     rcases h with h | h
     · exact MQ h _
     · rw [h]; rfl
    rw [he]
    refine (w_f9_12 l' s z4 z5 hl hc hA.1 hA.2).mono fun y hy => ?_
    rw [hy.1]
    exact ⟨rfl, hy.2, hw⟩
   refine AE ilI (fun hlt => AE ieI (fun h => fin (.inl fun z => ?_)) fun h => ?_) fun hlt => fin (.inr (by omega))
   · have := z.1; rw [Sl.Bf] at this; change s.At < _ at this; omega
   · have h2 : s.At < l'.n := by omega
     have hF := L1 hl hc hA.1 h2
     have hf := BF hF.ri
     have hg : gI l'.L (aT s).At = l'.get s.At.toNat := Hl l' hA.1 h2
     refine wN (by rw [ibI]; omega) (wC (w_f40 _) fun (y : Bool) hy => ?_)
     refine AE hy (fun h => fin (.inl fun z => ?_)) fun h => of_wp ?_
     · rw [hg] at z; omega
     · simp only [tt_f9_10]
       have h17 : (l'.get s.At.toNat).Op ≤ 17 := by omega
       refine wN (by rw [ibI]; omega) (wC (w_f34 _ s b hF.ok hF.ri h17 hw (by omega)) fun (y : TTh) hy => of_wp ?_)
       simp only [tt_f9_11]
       have e2 : IntKind.i64.wrap ((k : Int) + 1) = ((k + 1 : Nat) : Int) := by rw [wrap64] <;> omega
       rw [e2]
       have Jp : 0 ≤ y.At ∧ y.At ≤ l'.n := by
        have := My (i := l'.get s.At.toNat) (t := aT s) (n := l'.n) hA.1 h2 (fun q => (hf.2.2.2.2.2.1 q).1) hF.jm
        rw [← hy.1] at this; exact this
       refine hD _ ⟨rfl, k + 1, rfl, by omega, Jp, ?_, hy.2⟩ (by simp only; omega)
       have hst : (aT s).At < l'.L.length ∧ (gI l'.L (aT s).At).Op ≤ 17 := ⟨by rw [Sl.Bf]; exact h2, by rw [hg]; exact h17⟩
       rw [← hrun, show 256 - k = (256 - (k + 1)) + 1 by omega, JQ hst, hg, hy.1]
theorem IG (x : Sl Int) (h : CR x) (hn : x.n * 8 ≤ 140737488351232) : D_f1v.wp x fun y => DI y x ∧ CR y := by
 refine of_wp ?_
 simp only [tt_f1v]
 refine Al (fun e => ⟨⟨(h e).symm, fun i hi => by have := h e; omega⟩, fun _ => rfl⟩) fun _ => wN (room_le hn) ⟨⟨?_, fun i _ => rfl⟩, fun e => ?_⟩
 · exact Nat.zero_add _
 · simp only [Bool.cond_self, Bool.false_eq_true] at e
theorem w_f36 (l : Sl TIn) (t : TTh) (b : Nat) (hb : b * 8 ≤ 140737488351232) (hl : OU l) (hc : codeOk l) (hT : Fh l.L (aT t)) (ht : EH b t) :
 D_f36.wp (l, t) fun y => aT y.1 = (CH l.L (aT t)).1 ∧ aA y.2.1 = (CH l.L (aT t)).2 ∧ EH b y.1 ∧ y.2.2 = 0 := by
 refine of_wp ?_
 simp only [tt_f36]
 refine wC (w_fw l t hl ht.k0) fun (y : Bool) hy => ?_
 refine AE bnI (fun h => absurd (hy.2 ⟨hc, hT⟩) h) fun _ => ?_
 have hsb := ht.sb
 refine wC (IG t.Seen ht.sz (by omega)) fun (z : Sl Int) hz => ?_
 have he : aT ⟨t.At, t.Phase, t.Ring, t.Status, t.AG, t.Ae, z⟩ = aT t := Qh hz.1
 have hn := hz.1.n
 refine wC (w_f9 l ⟨t.At, t.Phase, t.Ring, t.Status, t.AG, t.Ae, z⟩ b hl hc (by rw [he]; exact hT) ⟨ht.k0, ht.k1, ht.rg, hz.2, by show z.n ≤ b; omega⟩) fun (y : TTh × TAk) hy => ?_
 rw [he] at hy
 exact ⟨hy.1, hy.2.1, hy.2.2, rfl⟩
theorem EH.grow {b b' : Nat} {t : TTh} (h : EH b t) (k : b ≤ b') : EH b' t := ⟨h.k0, h.k1, h.rg, h.sz, Nat.le_trans h.sb k⟩
theorem K9 {i : TIn} {t : MT} {e : TEv} {v : Int} (h1 : e.Kind ≠ 1) (h3 : e.Kind ≠ 3) (h14 : e.Kind ≠ 14) (h15 : e.Kind ≠ 15) : BR i t e v =
 ⟨t.At + 1, 0, 0, t.Status, 0, (if e.Kind = 2 then D6 t.Ae i.B 0 else if e.Kind = 4 then D6 (D6 t.Ae i.A v) i.B 0 else if e.Kind = 5 then D6 t.Ae i.B 1 else if e.Kind = 6 then D6 t.Ae i.B 2 else if e.Kind = 7 then D6 t.Ae i.B 3 else if e.Kind = 8 then D6 t.Ae i.A e.Value else if e.Kind = 9 then D6 t.Ae i.A e.Value else if e.Kind = 10 then D6 (D6 t.Ae i.A e.Value) i.B 0 else if e.Kind = 11 then D6 t.Ae i.B 1 else t.Ae), if e.Kind = 12 then t.Seen ++ [e.Value] else t.Seen⟩ := by
 unfold BR
 rw [if_neg h1, if_neg h3, if_neg h14, if_neg h15]
theorem R0 {α : Type} (s : Sl α) (x : α) : (snoc s x).L = s.L ++ [x] := by
 apply List.ext_getElem
 · simp [snoc]
 · intro i h1 h2
   have h1 : i < s.n + 1 := by simpa [snoc] using h1
   simp only [Sl.Gw]
   by_cases e : i < s.n
   · rw [HT e, List.getElem_append_left (by simpa using e), Sl.Gw]
   · have : i = s.n := by omega
     subst this
     rw [HU, List.getElem_append_right (by simp)]
     simp
theorem w_fp (i : TIn) (t : TTh) (e : TEv) (v : Int) (b : Nat) (hb : b * 8 + 8 ≤ 140737488351232) (hr : Bz i = true) (ht : EH b t) (ha : 0 ≤ t.At ∧ t.At < 1000) (hv : Bs v) (hev : Bs e.Value)
 (h1 : e.Kind ≠ 1) (h3 : e.Kind ≠ 3) (h14 : e.Kind ≠ 14) (h15 : e.Kind ≠ 15) :
 D_fp.wp (i, (e, (v, t))) fun y => aT y = BR i (aT t) e v ∧ EH (b + 1) y := by
 have hf := BF hr
 have hA : A3 i.A 8 = true := by rw [ibI]; omega
 have hB : A3 i.B 8 = true := by rw [ibI]; omega
 have hw : IntKind.i64.wrap (t.At + 1) = t.At + 1 := wrap64 (by omega) (by omega)
 have u1 : Bs 1 := by unfold Bs; decide
 have u2 : Bs 2 := by unfold Bs; decide
 have u3 : Bs 3 := by unfold Bs; decide
 have hsb := ht.sb
 rw [K9 h1 h3 h14 h15]
 refine of_wp ?_
 simp only [tt_fp, hA, hB, IM]
 have h23 : ∀ (g : Nat → Int) (sn : Sl Int), (∀ j, Bs (g j)) → CR sn → sn.n ≤ b + 1 →
  D_fp_23.wp (⟨⟨t.At, t.Phase, t.Ring, t.Status, t.AG, g, sn⟩⟩ : X_fp_23) fun y => aT y = ⟨t.At + 1, 0, 0, t.Status, 0, g, sn.L⟩ ∧ EH (b + 1) y := fun g sn hg hs hn => by
  refine of_wp ?_
  simp only [tt_fp_23, hw]
  exact ⟨rfl, ⟨Int.le_refl 0, (by decide : (0 : Int) < 18446744073709551616), hg, hs, hn⟩⟩
 have e0 : (aT t).At = t.At := rfl
 have e1 : (aT t).Ae = t.Ae := rfl
 have e2 : (aT t).Seen = t.Seen.L := rfl
 have e3 : (aT t).Status = t.Status := rfl
 simp only [e0, e1, e2, e3]
 have go : ∀ (g : Nat → Int), (∀ j, Bs (g j)) → D_fp_23.wp (⟨⟨t.At, t.Phase, t.Ring, t.Status, t.AG, g, t.Seen⟩⟩ : X_fp_23) fun y => aT y = ⟨t.At + 1, 0, 0, t.Status, 0, g, t.Seen.L⟩ ∧ EH (b + 1) y :=
  fun g hg => h23 g t.Seen hg ht.sz (by omega)
 refine AE ieI (fun h => ?_) fun n2 => AE ieI (fun h => ?_) fun n4 => AE ieI (fun h => ?_) fun n5 => AE ieI (fun h => ?_) fun n6 => AE ieI (fun h => ?_) fun n7 => AE ieI (fun h => ?_) fun n8 => AE ieI (fun h => ?_) fun n9 =>
  AE ieI (fun h => ?_) fun n10 => AE ieI (fun h => ?_) fun n11 => AE ieI (fun h => ?_) fun n12 => ?_
 · simp only [h, if_true, Int.reduceEq, if_false]; exact wN rfl (go _ (BO ht.rg Cd))
 · simp only [h, if_true, Int.reduceEq, if_false]; exact wN rfl (wN rfl (go _ (BO (BO ht.rg hv) Cd)))
 · simp only [h, if_true, Int.reduceEq, if_false]; exact wN rfl (go _ (BO ht.rg u1))
 · simp only [h, if_true, Int.reduceEq, if_false]; exact wN rfl (go _ (BO ht.rg u2))
 · simp only [h, if_true, Int.reduceEq, if_false]; exact wN rfl (go _ (BO ht.rg u3))
 · simp only [h, if_true, Int.reduceEq, if_false]; exact wN rfl (go _ (BO ht.rg hev))
 · simp only [h, if_true, Int.reduceEq, if_false]; exact wN rfl (go _ (BO ht.rg hev))
 · simp only [h, if_true, Int.reduceEq, if_false]; exact wN rfl (wN rfl (go _ (BO (BO ht.rg hev) Cd)))
 · simp only [h, if_true, Int.reduceEq, if_false]; exact wN rfl (go _ (BO ht.rg u1))
 · simp only [h, if_true, Int.reduceEq, if_false]
   refine wN (by simp [room]; omega) ?_
   have := h23 t.Ae (snoc t.Seen e.Value) ht.rg (fun z => by cases z) (by show t.Seen.n + 1 ≤ b + 1; omega)
   rw [R0] at this
   exact this
 · rw [if_neg n2, if_neg n4, if_neg n5, if_neg n6, if_neg n7, if_neg n8, if_neg n9, if_neg n10, if_neg n11, if_neg n12]
   exact go _ ht.rg
theorem Sy {l : List TIn} {t n : MT} {a : MA} {e : TEv} (hq : Qm l t n a) (hf : UQ a e) (hk : 1 ≤ e.Kind ∧ e.Kind ≤ 15) (h14 : e.Kind ≠ 14) (h15 : e.Kind ≠ 15) : n.At < l.length := by
 have b1 := hf.f1; have b2 := hf.f2; have b3 := hf.f3; have b4 := hf.f4; have b5 := hf.f5; have b8 := hf.f8; have b9 := hf.f9; have b10 := hf.f10; have b12 := hf.f12; have b13 := hf.f13
 have hd : a.Kind = 1 ∨ a.Kind = 2 ∨ a.Kind = 3 ∨ (4 ≤ a.Kind ∧ a.Kind ≤ 7) ∨ a.Kind = 10 ∨ a.Kind = 11 := by omega
 rcases hd with h | h | h | h | h | h
 · exact (hq.k1 h).2.1
 · exact (hq.k2 h).2.1
 · exact (hq.k3 h).2.1
 · exact (hq.kn h).2
 · exact (hq.kp h).2.1
 · exact (hq.kr h).2.1
def RH (l : List TIn) (t : MT) (e : TEv) : Int :=
 if Bk e = false then 3 else if (CH l t).2.Kind = 0 ∨ Cj (CH l t).2 e = false then 11 else 0
theorem w_f28 (rs : List TRg) (l : Sl TIn) (t : TTh) (e : TEv) (v : Int) (b : Nat) (hb : b * 8 + 8 ≤ 140737488351232) (hl : OU l) (hc : codeOk l) (hcr : HR rs l.L) (hT : Fh l.L (aT t)) (ht : EH b t) (hv : Bs v) (hev : Bs e.Value) (het : 0 ≤ e.AG) :
 D_f28.wp (l, (t, (e, v))) fun y => y.2 = RH l.L (aT t) e ∧ (RH l.L (aT t) e = 0 → aT y.1 = BR (gI l.L (CH l.L (aT t)).1.At) (CH l.L (aT t)).1 e v ∧ EH (b + 1) y.1) := by
 refine of_wp ?_
 simp only [tt_f28]
 refine wC (w_f36 l t b (by omega) hl hc hT ht) fun (y : TTh × TAk × Int) hy => ?_
 obtain ⟨s, a, er⟩ := y
 obtain ⟨hs, ha, hw, h0⟩ := hy
 simp only at hs ha hw h0
 subst h0
 refine AE (p := (0 : Int) ≠ 0) (by rw [bnI, ieI]) (fun h => absurd rfl h) fun _ => ?_
 refine wC (w_f38 e) fun (y : Bool) hy => ?_
 subst hy
 unfold RH
 rw [← ha]
 refine AE bnI (fun h => ?_) fun h => ?_
 · have h : Bk e = false := by simpa using h
   rw [if_pos h]; exact ⟨rfl, fun k => absurd k (by decide)⟩
 · have hR : Bk e = true := Classical.byContradiction h
   rw [if_neg (by rw [hR]; decide)]
   refine AE ieI (fun hk => ?_) fun hk => wC (w_fk a e) fun (y : Bool) hy => ?_
   · rw [if_pos (.inl hk)]; exact ⟨rfl, fun k => absurd k (by decide)⟩
   · subst hy
     refine AE bnI (fun hf => ?_) fun hf => of_wp ?_
     · rw [if_pos (.inr (by simpa using hf))]; exact ⟨rfl, fun k => absurd k (by decide)⟩
     · have hF : Cj (aA a) e = true := Classical.byContradiction hf
       have hk' : (aA a).Kind ≠ 0 := hk
       rw [if_neg (by rw [hF]; simp [hk'])]
       rw [← hs]
       have hff := Pt hR hF
       have hq := Oz hcr hT
       rw [← ha, ← hs] at hq
       have hn := (MN hcr hT).2
       rw [← hs] at hn
       simp only [tt_f28_8]
       have n1 : Cj (aA a) e = true := hF
       have fin : ∀ {z : MT} {x : TTh}, aT x = z → EH (b + 1) x → (TT.ret ((x, 0) : R_f28) : TT Tryz.prog R_f28).wp fun y => y.2 = 0 ∧ (True → aT y.1 = z ∧ EH (b + 1) y.1) := fun h1 h2 => ⟨rfl, fun _ => ⟨h1, h2⟩⟩
       have hre := (B6 hR)
       have tk : Bs e.AG := ⟨het, by have := hre.2.2.2.1; omega⟩
       refine AE ieI (fun h => fin (by rw [Vc _ h]; rfl) ⟨tk.1, tk.2, hw.rg, hw.sz, Nat.le_succ_of_le hw.sb⟩) fun h1 => AE ieI (fun h => fin (by rw [Vb _ h]; rfl) ⟨tk.1, tk.2, hw.rg, hw.sz, Nat.le_succ_of_le hw.sb⟩) fun h3 =>
        AE ieI (fun h => fin (by rw [TF _ h]; rfl) ⟨hw.k0, hw.k1, hw.rg, hw.sz, Nat.le_succ_of_le hw.sb⟩) fun h14 => AE ieI (fun h => fin (by rw [TE _ h]; rfl) ⟨hw.k0, hw.k1, hw.rg, hw.sz, Nat.le_succ_of_le hw.sb⟩) fun h15 => ?_
       have Jp : s.At < l.n := by
        have := Sy (n := aT s) hq hff hre.1 h14 h15
        simpa [aT] using this
       have a0 : 0 ≤ s.At := hn.a0
       have h256 := hc.1
       have hi := L1 hl hc a0 Jp
       have hg : gI l.L (aT s).At = l.get s.At.toNat := Hl l a0 Jp
       rw [hg]
       refine wN (by rw [ibI]; omega) (wC (w_fp _ s e v b hb hi.ri hw (by omega) hv hev h1 h3 h14 h15) fun (y : TTh) hy => fin hy.1 hy.2)
structure RC (c : TRg) (b : Int) (r : TRr) : Prop where
 rg : A8 c = true
 wf : P6 c r
 inv : Db c b (aR r)
 bb : b ≤ 4611686018427387904
section
variable {c : TRg} {b : Int} {r : TRr}
theorem RC.hn (h : RC c b r) : 1 ≤ r.AA.AD.n ∧ r.AA.AD.n ≤ 8 ∧ (r.AA.AD.n : Int) = c.AR := by
 have := Cz h.rg; have := h.wf.hn; omega
theorem RC.ln (h : RC c b r) : 1 ≤ r.s.x.l.n ∧ r.s.x.l.n ≤ 64 ∧ (r.s.x.l.n : Int) = c.DE := by
 have := Cz h.rg; have := h.wf.ln; omega
theorem RC.t (h : RC c b r) : 0 ≤ r.AA.tail ∧ r.AA.tail < 4611686018427387904 := by
 have h0 := h.inv.t0; have h1 := h.inv.tb; have := h.bb
 change 0 ≤ r.AA.tail at h0; change r.AA.tail < b at h1; omega
theorem RC.hd (h : RC c b r) {k : Nat} (hk : k < r.AA.AD.n) : 0 ≤ r.AA.AD.get k ∧ r.AA.AD.get k ≤ r.AA.tail ∧ r.AA.tail - r.AA.AD.get k ≤ c.DE :=
 h.inv.h0 _ (Sl.Cg.2 ⟨k, hk, rfl⟩)
theorem MX {j : Int} (h0 : 0 ≤ j) (h1 : j < r.AA.AD.n) : hd (aR r) j = r.AA.AD.get j.toNat := Gs _ h0 h1 0
theorem NZ : IA (aR r) = r.s.x.l.n := by simp [IA, aR]
theorem SK (h : RC c b r) (t : Int) : G3 (aR r) t < r.s.x.l.n := by
 have := Kt h.inv h.rg t; simpa [aR] using this
theorem GI (h : RC c b r) (t : Int) : A1 (aR r) t = r.s.x.l.get (G3 (aR r) t) := by
 have := SK h t
 unfold A1
 show r.s.x.l.L.getD _ _ = _
 rw [List.getD, Sl.EF _ this]; rfl
theorem RC.slot (h : RC c b r) (t : Int) : Mm c.DE r.AA.AD.n r.AA.tail r.AA.AD.L (G3 (aR r) t) (r.s.x.l.get (G3 (aR r) t)) := by
 have := h.inv.sl _ _ (JC h.inv h.rg t)
 rw [GI h] at this
 simpa [aR] using this
theorem T9 (x y : Int) : Oh x y = min x y := by
 unfold Oh
 by_cases h : y < x
 · rw [ilI.2 h]; show y = _; omega
 · rw [MW.2 (Int.not_lt.1 h)]; show x = _; omega
theorem UA (x y : Int) : imax x y = max x y := by
 unfold imax
 by_cases h : x < y
 · rw [ilI.2 h]; show y = _; omega
 · rw [MW.2 (Int.not_lt.1 h)]; show x = _; omega
theorem Rt (x : Ar Int) (h1 : 1 ≤ x.n) (h8 : x.n ≤ 8) : D_f5.wp x fun y => (∃ k, k < x.n ∧ y = x.get k) ∧ ∀ k, k < x.n → y ≤ x.get k := by
 refine B9 ?_
 simp only [tt_f5]
 refine AE ilI (fun h => by omega) fun _ => of_wp ?_
 simp only [tt_f5_3]
 refine wN (by rw [ibI]; omega) (wN (by simp) ?_)
 refine De (tt := tt_f5_5) (fun z : X_f5_5 => z.Ag = x ∧ ∃ k : Nat, z.FG = k ∧ 1 ≤ k ∧ k ≤ x.n ∧ (∃ j, j < x.n ∧ z.BM = x.get j) ∧ ∀ j, j < k → z.BM ≤ x.get j) (fun z => (x.n - z.FG).toNat)
  (fun _ y => (∃ k, k < x.n ∧ y.1 = x.get k) ∧ ∀ k, k < x.n → y.1 ≤ x.get k) (fun D z hI hD => ?_) ⟨rfl, 1, rfl, by omega, by omega, ⟨0, by omega, by simp⟩, fun j hj => by
    have : j = 0 := by omega
    subst this; exact Int.le_refl _⟩
 obtain ⟨m, i, o⟩ := z
 obtain ⟨e0, k, e1, hk1, hk, ⟨j, hj, e2⟩, hle⟩ := hI
 simp only at e0 e1 e2 hle hD
 subst e0 e1
 simp only [tt_f5_5]
 refine AE ilI (fun h => ?_) fun h => ?_
 · have hkm : k < o.n := by omega
   have e3 : IntKind.i64.wrap ((k : Int) + 1) = ((k + 1 : Nat) : Int) := by rw [wrap64] <;> omega
   refine wN (A6 hkm) (wN (by simp) ?_)
   rw [e3, Nat.zero_add, Int.toNat_natCast, T9]
   refine hD _ ⟨rfl, k + 1, rfl, by omega, hkm, ?_, fun i hi => ?_⟩ (by simp only; omega)
   · by_cases q : m ≤ o.get k
     · exact ⟨j, hj, by show min m _ = _; omega⟩
     · exact ⟨k, hkm, by show min m _ = _; omega⟩
   · show min m (o.get k) ≤ o.get i
     by_cases q : i = k
     · subst q; omega
     · have := hle i (by omega); omega
 · exact ⟨⟨j, hj, e2⟩, fun i hi => hle i (by omega)⟩
theorem Mp (h : RC c b r) : D_f1i.wp r.AA fun y => KM (aR r).AV y := by
 refine B9 ?_
 simp only [tt_f1i]
 have hn := h.hn
 refine wC (Rt ⟨r.AA.AD.n, r.AA.AD.get⟩ hn.1 hn.2.1) fun (y : Int) hy => wN (by simp) ?_
 obtain ⟨⟨k, hk, e⟩, hle⟩ := hy
 refine ⟨Sl.Cg.2 ⟨k, hk, e.symm⟩, fun z hz => ?_⟩
 obtain ⟨i, hi, rfl⟩ := Sl.Cg.1 hz
 exact hle i hi
theorem Fm (h : RC c b r) : D_f1l.wp r fun y => y = Ed (aR r) := by
 refine B9 ?_
 simp only [tt_f1l]
 refine wC (Mp h) fun (y : Int) hy => Bd ?_
 rw [Jl hy, leI, h.wf.ms, NZ]
 obtain ⟨k, hk, e⟩ := Sl.Cg.1 hy.1
 have := h.hd hk
 have := h.t
 rw [Am (by omega) (by omega), h.wf.ln]
 exact Iff.rfl
theorem Ct (r : TRr) : D_f15.wp r fun y => y = (aR r).Ao := B9 rfl
theorem I5 (j : Int) (s : TRc_L1) (a : Ar Int) : D_f14.wp (j, (s, a)) fun y => y = true ↔ 0 ≤ j ∧ j < s.AD.n := by
 refine B9 ?_
 simp only [tt_f14]
 exact AE leI (fun h => D4 ilI ⟨fun k => ⟨h, k⟩, fun k => k.2⟩) fun h => Bb fun k => h k.1
theorem EJ (j : Int) (h0 : 0 ≤ j) (h1 : j < r.AA.AD.n) : D_f18.wp (j, r) fun y => y = EB (aR r) j := by
 refine B9 ?_
 simp only [tt_f18]
 refine wC (I5 _ _ _) fun (y : Bool) hy => ?_
 refine AE bnI (fun h => absurd (hy.2 ⟨h0, h1⟩) h) fun _ => wN (by rw [ibI]; exact ⟨h0, h1⟩) (wN (by simp) (wN (by simp) ?_))
 unfold EB
 rw [MX h0 h1]
 refine Bd ?_
 rw [decide_eq_true_eq, Nat.zero_add]
 exact ieI
theorem Tn (h : RC c b r) {t : Int} (h0 : 0 ≤ t) : Int.tmod t (IntKind.u64.wrap (r.s.x.l.n : Int)) = (G3 (aR r) t : Int) := by
 have := h.ln
 rw [Am (by omega) (by omega), Int.tmod_eq_emod_of_nonneg h0]
 unfold G3
 rw [NZ]
 have := Int.emod_nonneg t (b := (r.s.x.l.n : Int)) (by omega)
 omega
theorem KG (h : RC c b r) {t : Int} (h0 : 0 ≤ t) (a : Ar TSo) (z : Int) : D_fv.wp (t, ((⟨⟨r.s.x.l.nil, r.s.x.l.n⟩, z⟩ : TSs_L0), a)) fun y => y = (G3 (aR r) t, r.s.x.l.n) := by
 refine B9 ?_
 simp only [tt_fv]
 have hl := h.ln
 have hp := SK h t
 rw [Tn h h0, Am (by omega) (by omega)]
 refine wN (by rw [bnI, ieI]; omega) (wN (A6 hp) ?_)
 show (0 + Int.toNat _, _) = _
 rw [Int.toNat_natCast, Nat.zero_add]
theorem w_f39 {t : Int} (h0 : 0 ≤ t) (h1 : t < 4611686018427387904) : D_f39.wp t fun y => y = 2 * t + 1 := by
 refine of_wp ?_
 simp only [tt_f39]
 show IntKind.u64.wrap _ = _
 rw [Am (z := 2 * t) (by omega) (by omega), Am (by omega) (by omega)]
theorem Mo (h : RC c b r) {t : Int} (h0 : 0 ≤ t) (h1 : t < 4611686018427387904) : D_f1r.wp (t, r.s.x) fun y => y = decide ((A1 (aR r) t).AP = 2 * t) := by
 refine B9 ?_
 simp only [tt_f1r]
 refine AE ilI (fun _ => ?_) fun h => absurd h1 h
 refine wC (KG h h0 _ _) fun (y : Nat × Nat) hy => ?_
 subst hy
 refine wN (by simp) (wC (w_f2q t h0 (by omega)) fun (y : Int) hy => wN (by simp) ?_)
 subst hy
 rw [GI h]
 exact Bd (by rw [decide_eq_true_eq]; exact ieI)
theorem N2 (h : RC c b r) {t : Int} (h0 : 0 ≤ t) : D_f25.wp (t, r) fun y => y = HJ (aR r) t := by
 have ht := h.t
 refine B9 ?_
 simp only [tt_f25]
 unfold HJ
 have e : (aR r).Ax = r.AA.tail := rfl
 rw [e]
 refine AE ilI (fun hlt => ?_) fun hlt => ?_
 · refine wN (by simp [h.wf.sn]) (wC (Mo h h0 (by omega)) fun (y : Bool) hy => wN (by simp [h.wf.sn]) (Cn ?_))
   subst hy
   exact Bd (by simp only [decide_eq_true_eq]; exact ⟨fun q => ⟨hlt, q⟩, fun q => q.2⟩)
 · exact (decide_eq_false fun q => hlt q.1).symm
theorem Jc (h : RC c b r) {j t : Int} (hj0 : 0 ≤ j) (hj : j < r.AA.AD.n) (h0 : 0 ≤ t) (h1 : t < 4611686018427387904) :
 D_fo.wp (j, (t, r.s.x)) fun y => y = 0 ↔ (A1 (aR r) t).AP = 2 * t + 1 ∧ Df (A1 (aR r) t).Left j = true := by
 have hn := h.hn
 refine B9 ?_
 simp only [tt_fo]
 refine AE leI (fun q => absurd h1 (Int.not_lt.2 q)) fun _ => AE ilI (fun q => by omega) fun _ => AE leI (fun q => by rw [h.wf.rd] at q; omega) fun _ => of_wp ?_
 simp only [tt_fo_5]
 refine wC (KG h h0 _ _) fun (y : Nat × Nat) hy => ?_
 subst hy
 rw [GI h]
 have hs := h.slot t
 generalize r.s.x.l.get (G3 (aR r) t) = x at hs
 have ne : ∀ {e : Int} {q : Prop}, e ≠ 0 → ¬ q → (e = 0 ↔ q) := fun h k => ⟨fun e => absurd e h, fun e => absurd e k⟩
 refine wN (by simp) (wC (w_f39 h0 h1) fun (y : Int) hy => ?_)
 subst hy
 refine AE ilI (fun q => wN (by simp) (ne (show (9 : Int) ≠ 0 by decide) fun k => by omega)) fun q1 => wN (by simp) (wC (w_f39 h0 h1) fun (y : Int) hy => ?_)
 subst hy
 refine AE ilI (fun q => wN (by simp) (ne (show (11 : Int) ≠ 0 by decide) fun k => by omega)) fun q2 => wN (by simp) (wN (by rw [leI]; exact hj0) ?_)
 have hst : x.AP = 2 * t + 1 := by omega
 have hl := hs.held (by omega)
 have h28 : (2 : Int) ^ r.AA.AD.n ≤ 2 ^ 8 := by exact_mod_cast Nat.pow_le_pow_right (by decide) (by omega : r.AA.AD.n ≤ 8)
 have hb := O1 (x := x.Left) (j := j.toNat) (by omega) (by omega) (by omega)
 rw [show ((j.toNat : Nat) : Int) = j by omega] at hb
 refine AE (ieI.trans hb) (fun q => wN (by simp) (ne (show (11 : Int) ≠ 0 by decide) fun k => ?_)) fun q => wN (by simp) ⟨fun _ => ⟨hst, by simpa using q⟩, fun _ => rfl⟩
 rw [q] at k; exact absurd k.2 (by decide)
theorem PE (h : RC c b r) {j t : Int} (hj0 : 0 ≤ j) (hj : j < r.AA.AD.n) (h0 : 0 ≤ t) : D_f2e.wp (j, (t, r)) fun y => y = K7 (aR r) j t := by
 have ht := h.t
 have hh := h.hd (k := j.toNat) (by omega)
 refine B9 ?_
 simp only [tt_f2e]
 refine wC (Es j r.AA) fun (y : Bool) hy => ?_
 refine AE hy (fun _ => wN (by rw [ibI]; omega) (wN (by simp) ?_)) fun k => absurd ⟨hj0, hj⟩ k
 unfold K7
 rw [MX hj0 hj, Nat.zero_add]
 refine AE ilI (fun hlt => wN (by simp [h.wf.sn]) ?_) fun hlt => wN (by simp) (decide_eq_false fun q => hlt q.1).symm
 have e : D_f20.wp (j, (t, r.s.x)) fun y => y = true ↔ (A1 (aR r) t).AP = 2 * t + 1 ∧ Df (A1 (aR r) t).Left j = true := by
  refine B9 ?_
  simp only [tt_f20]
  exact wC (Jc h hj0 hj h0 (by omega)) fun (y : Int) hy => ieI.trans hy
 refine wC e fun (y : Bool) hy => wN (by simp [h.wf.sn]) (Cn (wN (by simp) (Bd ?_)))
 rw [decide_eq_true_eq]
 exact hy.trans ⟨fun q => ⟨hlt, q⟩, fun q => q.2⟩
end
theorem UR (n : Nat) : Int.tmod (n : Int) 2 = ((n % 2 : Nat) : Int) := by rw [Int.tmod_eq_emod_of_nonneg (Int.natCast_nonneg n)]; rfl
theorem VI (n : Nat) : Int.tdiv (n : Int) 2 = ((n / 2 : Nat) : Int) := by rw [Int.tdiv_eq_ediv_of_nonneg (Int.natCast_nonneg n)]; rfl
theorem w_fb (op : Int) (ho : op = 8 ∨ op = 9 ∨ op = 10) (a b : Nat) (ha : a < 2 ^ 64) (hb : b < 2 ^ 64) : D_fb.wp (op, ((a : Int), (b : Int))) fun y => y = (Li op a b : Nat) := by
 refine of_wp ?_
 simp only [tt_fb]
 have p64 : (2 : Nat) ^ 64 = 18446744073709551616 := by decide
 have st0 : (⟨op, a, b, 0, 1, 0⟩ : X_fb_3) = ⟨op, ((a / 2 ^ 0 : Nat) : Int), ((b / 2 ^ 0 : Nat) : Int), ((Li op a b % 2 ^ 0 : Nat) : Int), IntKind.u64.wrap (1 * 2 ^ 0), ((0 : Nat) : Int)⟩ := by
  simp [Nat.mod_one]; rfl
 show D_fb_3.wp _ _
 rw [st0]
 refine C4 (fun k => (⟨op, ((a / 2 ^ k : Nat) : Int), ((b / 2 ^ k : Nat) : Int), ((Li op a b % 2 ^ k : Nat) : Int), IntKind.u64.wrap (1 * 2 ^ k), (k : Nat)⟩ : X_fb_3)) 64 (fun _ => True) _ (fun D hJ => ?_) (fun D k hk _ hD => ?_) (Nat.zero_le _) trivial
 · simp only [tt_fb_3]
   refine AE ilI (fun h => absurd h (by decide)) fun _ => ?_
   show ((Li op a b % 2 ^ 64 : Nat) : Int) = _
   rw [Nat.mod_eq_of_lt (Uo op ha hb)]
 · have hpk : (2 : Nat) ^ (k + 1) ≤ 2 ^ 64 := Nat.pow_le_pow_right (by decide) (by omega)
   have hp1 : (2 : Nat) ^ (k + 1) = 2 * 2 ^ k := by rw [Nat.pow_succ, Nat.mul_comm]
   have hu : IntKind.u64.wrap (1 * 2 ^ k) = ((2 ^ k : Nat) : Int) := by
    rw [Int.one_mul, show ((2 : Int) ^ k) = ((2 ^ k : Nat) : Int) by rw [Int.natCast_pow]; rfl]
    exact Am (Int.natCast_nonneg _) (by omega)
   have e2 : IntKind.i64.wrap ((k : Int) + 1) = ((k + 1 : Nat) : Int) := by rw [wrap64] <;> omega
   have hlt : ∀ n : Nat, n / 2 ^ k / 2 = n / 2 ^ (k + 1) := fun n => by rw [Nat.div_div_eq_div_mul, Nat.pow_succ]
   have hwd : ∀ n : Nat, n < 2 ^ 64 → IntKind.u64.wrap (Int.tdiv ((n / 2 ^ k : Nat) : Int) 2) = ((n / 2 ^ (k + 1) : Nat) : Int) := fun n hn => by
    rw [VI, hlt]
    have := Nat.div_le_self n (2 ^ (k + 1))
    exact Am (Int.natCast_nonneg _) (by omega)
   have h8 : ∀ out : Int, out = ((Li op a b % 2 ^ (k + 1) : Nat) : Int) → (D_fb_8 D).wp (⟨op, ((a / 2 ^ k : Nat) : Int), ((b / 2 ^ k : Nat) : Int), out, IntKind.u64.wrap (1 * 2 ^ k), k⟩ : X_fb_8) fun y => y = (Li op a b : Nat) := fun out ho => by
    subst ho
    refine of_wp ?_
    simp only [tt_fb_8]
    refine of_wp ?_
    simp only [tt_fb_4, e2, hwd a ha, hwd b hb, MB]
    exact hD trivial
   have hstep := SP op ho a b k
   generalize hs : a / 2 ^ k % 2 + b / 2 ^ k % 2 = s at hstep
   have hsum : IntKind.u64.wrap (Int.tmod ((a / 2 ^ k : Nat) : Int) 2 + Int.tmod ((b / 2 ^ k : Nat) : Int) 2) = (s : Int) := by
    rw [UR, UR, ← hs]
    exact Am (by omega) (by omega)
   have hB : VC op (a / 2 ^ k % 2) (b / 2 ^ k % 2) ↔ (op = 8 ∧ s = 2 ∨ op = 9 ∧ 0 < s ∨ op = 10 ∧ s = 1) := by unfold VC; rw [hs]
   have hm : Li op a b % 2 ^ k < 2 ^ k := Nat.mod_lt _ (Nat.two_pow_pos k)
   have yes : (op = 8 ∧ s = 2 ∨ op = 9 ∧ 0 < s ∨ op = 10 ∧ s = 1) → (D_fb_8 D).wp (⟨op, ((a / 2 ^ k : Nat) : Int), ((b / 2 ^ k : Nat) : Int), IntKind.u64.wrap (((Li op a b % 2 ^ k : Nat) : Int) + IntKind.u64.wrap (1 * 2 ^ k)), IntKind.u64.wrap (1 * 2 ^ k), k⟩ : X_fb_8) fun y => y = (Li op a b : Nat) := fun q => by
    refine h8 _ ?_
    rw [hstep, if_pos (hB.2 q), hu]
    exact Am (by omega) (by omega)
   have no : ¬ (op = 8 ∧ s = 2 ∨ op = 9 ∧ 0 < s ∨ op = 10 ∧ s = 1) → (D_fb_8 D).wp (⟨op, ((a / 2 ^ k : Nat) : Int), ((b / 2 ^ k : Nat) : Int), ((Li op a b % 2 ^ k : Nat) : Int), IntKind.u64.wrap (1 * 2 ^ k), k⟩ : X_fb_8) fun y => y = (Li op a b : Nat) := fun q => by
    refine h8 _ ?_
    rw [hstep, if_neg fun z => q (hB.1 z)]
   simp only [tt_fb_3, hsum]
   have i2 : ∀ n : Nat, (AW (s : Int) (n : Int) = true) ↔ s = n := fun n => ieI.trans Int.natCast_inj
   have i0 : (Bg 0 (s : Int) = true) ↔ 0 < s := ilI.trans (by omega)
   refine AE ilI (fun _ => ?_) fun h => absurd (show ((k : Int) < 64) by omega) h
   have t10 : ¬ (op = 8 ∧ s = 2) → ¬ (op = 9 ∧ 0 < s) → (TT.ite (AW op 10) (TT.ite (AW (s : Int) 1) (.AM S_fb_8 (D_fb_8 D) ⟨op, ((a / 2 ^ k : Nat) : Int), ((b / 2 ^ k : Nat) : Int), IntKind.u64.wrap (((Li op a b % 2 ^ k : Nat) : Int) + IntKind.u64.wrap (1 * 2 ^ k)), IntKind.u64.wrap (1 * 2 ^ k), k⟩)
    (.AM S_fb_8 (D_fb_8 D) ⟨op, ((a / 2 ^ k : Nat) : Int), ((b / 2 ^ k : Nat) : Int), ((Li op a b % 2 ^ k : Nat) : Int), IntKind.u64.wrap (1 * 2 ^ k), k⟩)) (.AM S_fb_8 (D_fb_8 D) ⟨op, ((a / 2 ^ k : Nat) : Int), ((b / 2 ^ k : Nat) : Int), ((Li op a b % 2 ^ k : Nat) : Int), IntKind.u64.wrap (1 * 2 ^ k), k⟩) : TT Tryz.prog R_fb).wp fun y => y = (Li op a b : Nat) :=
    fun q8 q9 => AE ieI (fun h => AE (i2 1) (fun h2 => yes (.inr (.inr ⟨h, h2⟩))) fun h2 => no (by omega)) fun h => no (by omega)
   refine AE ieI (fun h => AE (i2 2) (fun h2 => yes (.inl ⟨h, h2⟩)) fun h2 => AE ieI (fun h9 => by omega) fun h9 => t10 (by omega) (by omega)) fun h => AE ieI (fun h9 => AE i0 (fun h2 => yes (.inr (.inl ⟨h9, h2⟩))) fun h2 => t10 (by omega) (by omega)) fun h9 => t10 (by omega) (by omega)
theorem OX {k n : Nat} (h : k < n) (hn : n ≤ 64) : IntKind.u64.wrap ((k : Int) + 1) = ((k + 1 : Nat) : Int) := by rw [Am (by omega) (by omega)]; rfl
theorem w_ft (op a b : Int) (ha : Bs a) (hb : Bs b) (h3 : 3 ≤ op) (h14 : op ≤ 14) : D_ft.wp (op, (a, b)) fun y => y.1 = J7 op a b := by
 have hbm : Int.tmod b 64 = b % 64 := Int.tmod_eq_emod_of_nonneg hb.1
 have ea : ((a.toNat : Nat) : Int) = a := Int.toNat_of_nonneg ha.1
 have eb : ((b.toNat : Nat) : Int) = b := Int.toNat_of_nonneg hb.1
 have hbits : op = 8 ∨ op = 9 ∨ op = 10 → D_fb.wp (op, (a, b)) fun y => y = J7 op a b := fun q => by
  have := w_fb op q a.toNat b.toNat (Cl ha) (Cl hb)
  rw [ea, eb] at this
  exact this.mono fun y hy => by rw [hy, Tt q]
 have hdiv : IntKind.u64.wrap (Int.tdiv a b) = a / b := by
  rw [Int.tdiv_eq_ediv_of_nonneg ha.1]
  have h2 : a / b ≤ a := Int.ediv_le_self _ ha.1
  have h3 : 0 ≤ a / b := Int.ediv_nonneg ha.1 hb.1
  have := ha.2
  exact Am h3 (by omega)
 refine of_wp ?_
 simp only [tt_ft]
 refine AE ieI (fun h => ?_) fun n3 => AE ieI (fun h => ?_) fun n4 => AE ieI (fun h => ?_) fun n5 => AE ieI (fun h => ?_) fun n6 => AE ieI (fun h => ?_) fun n7 => AE ieI (fun h => ?_) fun n8 =>
  AE ieI (fun h => ?_) fun n9 => AE ieI (fun h => ?_) fun n10 => AE ieI (fun h => ?_) fun n11 => AE ieI (fun h => ?_) fun n12 => AE ieI (fun h => ?_) fun n13 => AE ieI (fun h => ?_) fun n14 => by omega
 · subst h; rfl
 · subst h; rfl
 · subst h; rfl
 · subst h
   refine AE ieI (fun h => ?_) fun h => wN (by simpa [AW] using h) ?_
   · show (0 : Int) = if b = 0 then 0 else a / b
     rw [if_pos h]
   · show IntKind.u64.wrap _ = if b = 0 then 0 else a / b
     rw [if_neg h, hdiv]
 · subst h
   refine AE ieI (fun h => ?_) fun h => wN (by simpa [AW] using h) ?_
   · show (0 : Int) = if b = 0 then 0 else a % b
     rw [if_pos h]
   · show IntKind.u64.wrap (a - IntKind.u64.wrap (IntKind.u64.wrap (Int.tdiv a b) * b)) = if b = 0 then 0 else a % b
     rw [if_neg h, hdiv]
     have hm := Int.emod_def a b
     have hc : a / b * b = b * (a / b) := Int.mul_comm _ _
     have h0 := Int.emod_nonneg a h
     have h1 : 0 ≤ a / b * b := Int.mul_nonneg (Int.ediv_nonneg ha.1 hb.1) hb.1
     have := ha.2
     rw [Am (z := a / b * b) h1 (by omega), Am (by omega) (by omega)]
     omega
 · exact wC (hbits (.inl h)) fun y hy => hy
 · exact wC (hbits (.inr (.inl h))) fun y hy => hy
 · exact wC (hbits (.inr (.inr h))) fun y hy => hy
 · subst h
   rw [Sd]
   show D_ft_22.wp _ _
   have h0 : (⟨a, b, 0⟩ : X_ft_22) = ⟨IntKind.u64.wrap (a * 2 ^ 0), b, ((0 : Nat) : Int)⟩ := by
    rw [Int.pow_zero, Int.mul_one, Am ha.1 ha.2]; rfl
   rw [h0]
   refine C4 (fun k => (⟨IntKind.u64.wrap (a * 2 ^ k), b, (k : Nat)⟩ : X_ft_22)) (b % 64).toNat (fun _ => True) _ (fun D hJ => ?_) (fun D k hk _ hD => ?_) (Nat.zero_le _) trivial
   · simp only [tt_ft_22, hbm]
     refine AE ilI (fun h => by omega) fun _ => of_wp ?_
     simp only [tt_ft_25]; rfl
   · simp only [tt_ft_22, hbm]
     refine AE ilI (fun _ => ?_) fun h => by omega
     rw [MB, OX hk (by omega)]
     exact hD trivial
 · subst h
   rw [Sc]
   show D_ft_28.wp _ _
   have h0 : (⟨a, b, 0⟩ : X_ft_28) = ⟨a / 2 ^ 0, b, ((0 : Nat) : Int)⟩ := by
    rw [Int.pow_zero, Int.ediv_one]; rfl
   rw [h0]
   refine C4 (fun k => (⟨a / 2 ^ k, b, (k : Nat)⟩ : X_ft_28)) (b % 64).toNat (fun _ => True) _ (fun D hJ => ?_) (fun D k hk _ hD => ?_) (Nat.zero_le _) trivial
   · simp only [tt_ft_28, hbm]
     refine AE ilI (fun h => by omega) fun _ => of_wp ?_
     simp only [tt_ft_31]; rfl
   · simp only [tt_ft_28, hbm]
     refine AE ilI (fun _ => ?_) fun h => by omega
     have hk0 : 0 ≤ a / 2 ^ k := Int.ediv_nonneg ha.1 (Int.le_of_lt (Int.pow_pos (by decide)))
     have hk1 : a / 2 ^ k ≤ a := Int.ediv_le_self _ ha.1
     have := ha.2
     rw [Int.tdiv_eq_ediv_of_nonneg hk0, Am (by omega) (by omega), NW a k ha.1, OX hk (by omega)]
     exact hD trivial
 · subst h
   exact AE ilI (fun h => (if_pos h).symm) fun h => (if_neg h).symm
 · subst h
   exact AE ieI (fun h => (if_pos h).symm) fun h => (if_neg h).symm
def G4 (k : Int) : ByteArray := if Az k = true then ⟨#[82, 84]⟩ else if CT k = true then ⟨#[82]⟩ else if C2 k = true then ⟨#[86]⟩ else ⟨#[]⟩
theorem Gm {k : Int} : C2 k = true ↔ (8 ≤ k ∧ k ≤ 10 ∨ k = 12) := by simp only [C2, decide_eq_true_eq]
theorem w_f3w (k : Int) : D_f3w.wp k fun y => y = G4 k := by
 refine of_wp ?_
 simp only [tt_f3w]
 have rt : (1 ≤ k ∧ k ≤ 4 ∨ k = 13) → (TT.ret (ByteArray.mk #[82, 84]) : TT Tryz.prog R_f3w).wp fun y => y = G4 k := fun h => by unfold G4; rw [if_pos (Av.2 h)]; rfl
 have r : (5 ≤ k ∧ k ≤ 7) → (TT.ret (ByteArray.mk #[82]) : TT Tryz.prog R_f3w).wp fun y => y = G4 k := fun h => by
  unfold G4; rw [if_neg (by rw [Av]; omega), if_pos (Bq.2 (by omega))]; rfl
 have v : (8 ≤ k ∧ k ≤ 10 ∨ k = 12) → (TT.ret (ByteArray.mk #[86]) : TT Tryz.prog R_f3w).wp fun y => y = G4 k := fun h => by
  unfold G4; rw [if_neg (by rw [Av]; omega), if_neg (by rw [Bq]; omega), if_pos (Gm.2 h)]; rfl
 refine AE ieI (fun h => rt (by omega)) fun n1 => AE ieI (fun h => rt (by omega)) fun n2 => AE ieI (fun h => rt (by omega)) fun n3 => AE ieI (fun h => rt (by omega)) fun n4 => AE ieI (fun h => rt (by omega)) fun n13 =>
  AE ieI (fun h => r (by omega)) fun n5 => AE ieI (fun h => r (by omega)) fun n6 => AE ieI (fun h => r (by omega)) fun n7 => AE ieI (fun h => v (by omega)) fun n8 => AE ieI (fun h => v (by omega)) fun n9 => AE ieI (fun h => v (by omega)) fun n10 => AE ieI (fun h => v (by omega)) fun n12 => ?_
 unfold G4
 rw [if_neg (by rw [Av]; omega), if_neg (by rw [Bq]; omega), if_neg (by rw [Gm]; omega)]; rfl
theorem FA {s : ByteArray} {c : Int} {v : Bool} (h : D_f1t.ev 50 (s, c) = some v) : D_f1t.wp (s, c) fun y => y = v := ⟨v, D_f1t.Hm 50 _ _ h, rfl⟩
theorem Uf (k : Int) : D_f1t.wp (G4 k, 82) fun y => y = CT k := by
 unfold G4
 split
 · rename_i h; rw [Co (e := ⟨0, k, 0, 0, 0⟩) h]; exact FA (by kernel_rfl)
 split
 · rename_i h; rw [h]; exact FA (by kernel_rfl)
 · rename_i h; rw [show CT k = false by simpa using h]
   split
   · exact FA (by kernel_rfl)
   · exact FA (by kernel_rfl)
theorem Ue (k : Int) : D_f1t.wp (G4 k, 84) fun y => y = Az k := by
 unfold G4
 split
 · rename_i h; rw [h]; exact FA (by kernel_rfl)
 · rename_i h; rw [show Az k = false by simpa using h]
   split
   · exact FA (by kernel_rfl)
   · split
     · exact FA (by kernel_rfl)
     · exact FA (by kernel_rfl)
theorem Ud (k : Int) : D_f1t.wp (G4 k, 86) fun y => y = C2 k := by
 unfold G4
 split
 · rename_i h
   rw [show C2 k = false from Bool.eq_false_iff.2 fun q => by rw [Gm] at q; rw [Av] at h; omega]
   exact FA (by kernel_rfl)
 · split
   · rename_i h
     rw [show C2 k = false from Bool.eq_false_iff.2 fun q => by rw [Gm] at q; rw [Bq] at h; omega]
     exact FA (by kernel_rfl)
   · split
     · rename_i h; rw [h]; exact FA (by kernel_rfl)
     · rename_i h; rw [show C2 k = false by simpa using h]; exact FA (by kernel_rfl)
theorem w_f2v (k : Int) : D_f2v.wp k fun y => y = ⟨#[]⟩ ↔ ¬ (1 ≤ k ∧ k ≤ 15) := by
 refine of_wp ?_
 simp only [tt_f2v]
 refine AE ilI (fun h => ⟨fun _ => by omega, fun _ => rfl⟩) fun h1 => AE ilI (fun h => ⟨fun _ => by omega, fun _ => rfl⟩) fun h2 => of_wp ?_
 simp only [tt_f2v_4]
 have hw : IntKind.i64.wrap (k - 1) = k - 1 := wrap64 (by omega) (by omega)
 rw [hw]
 refine wN (by rw [ibI]; show 0 ≤ k - 1 ∧ k - 1 < ((15 : Nat) : Int); omega) ⟨fun h => absurd h ?_, fun h => absurd ⟨by omega, by omega⟩ h⟩
 generalize hi : (k - 1).toNat = i
 rcases (by omega : i = 0 ∨ i = 1 ∨ i = 2 ∨ i = 3 ∨ i = 4 ∨ i = 5 ∨ i = 6 ∨ i = 7 ∨ i = 8 ∨ i = 9 ∨ i = 10 ∨ i = 11 ∨ i = 12 ∨ i = 13 ∨ i = 14) with e | e | e | e | e | e | e | e | e | e | e | e | e | e | e <;> subst e <;> exact fun h => by cases h
theorem w_f2g (e : TEv) : D_f2g.wp e fun y => y = Bk e := by
 refine AU.wp.mono (Q := fun y : Bool => y = true ↔ Bk e = true) (of_wp ?_) fun y hy => Bd hy
 simp only [tt_f2g]
 refine wC (w_f3w e.Kind) fun (f : ByteArray) hf => wC (w_f2v e.Kind) fun (y : ByteArray) hy => ?_
 subst hf
 refine AE (p := ¬ (1 ≤ e.Kind ∧ e.Kind ≤ 15)) (by rw [M5]; exact hy) (fun h1 => Bb fun k => h1 (CS.1 k).1) fun h1 => AE ilI (fun h => Bb fun k => ?_) fun h2 => AE ilI (fun h => Bb fun k => ?_) fun h3 =>
  AE ilI (fun h => Bb fun k => ?_) fun h4 => AE ilI (fun h => Bb fun k => ?_) fun h5 => AE leI (fun h => Bb fun k => ?_) fun h6 => of_wp ?_
 · have := (CS.1 k).2.1; omega
 · have := (CS.1 k).2.1; omega
 · have := (CS.1 k).2.2.1; omega
 · have := (CS.1 k).2.2.1; omega
 · have := (CS.1 k).2.2.2.1; omega
 · simp only [tt_f2g_4]
   have iff : Bk e = true ↔ (CT e.Kind = true ∨ e.Ring = 0) ∧ (Az e.Kind = true ∨ e.AG = 0) ∧ (C2 e.Kind = true ∨ e.Value = 0) := by
    rw [CS]
    exact ⟨fun h => h.2.2.2.2, fun h => ⟨Classical.byContradiction h1, by omega, by omega, by omega, h⟩⟩
   rw [iff]
   have hV : (CT e.Kind = true ∨ e.Ring = 0) → (Az e.Kind = true ∨ e.AG = 0) → (TT.call con_f1t (G4 e.Kind, 86) fun (y3 : R_f1t) => TT.ite y3 (.ret true) (.ret (AW e.Value 0)) : TT Tryz.prog R_f2g).wp
    fun y => y = true ↔ (CT e.Kind = true ∨ e.Ring = 0) ∧ (Az e.Kind = true ∨ e.AG = 0) ∧ (C2 e.Kind = true ∨ e.Value = 0) := fun a b => by
    refine wC (Ud e.Kind) fun (y : Bool) hy => ?_
    subst hy
    exact Al (fun h => PI ⟨a, b, .inl h⟩) fun h => D4 ieI ⟨fun q => ⟨a, b, .inr q⟩, fun q => q.2.2.resolve_left h⟩
   have hT : (CT e.Kind = true ∨ e.Ring = 0) → (TT.call con_f1t (G4 e.Kind, 84) fun (y2 : R_f1t) => TT.ite y2 (TT.call con_f1t (G4 e.Kind, 86) fun (y3 : R_f1t) => TT.ite y3 (.ret true) (.ret (AW e.Value 0)))
    (TT.ite (AW e.AG 0) (TT.call con_f1t (G4 e.Kind, 86) fun (y3 : R_f1t) => TT.ite y3 (.ret true) (.ret (AW e.Value 0))) (.ret false)) : TT Tryz.prog R_f2g).wp
    fun y => y = true ↔ (CT e.Kind = true ∨ e.Ring = 0) ∧ (Az e.Kind = true ∨ e.AG = 0) ∧ (C2 e.Kind = true ∨ e.Value = 0) := fun a => by
    refine wC (Ue e.Kind) fun (y : Bool) hy => ?_
    subst hy
    exact Al (fun h => hV a (.inl h)) fun h => AE ieI (fun q => hV a (.inr q)) fun q => Bb fun z => z.2.1.elim h q
   refine wC (Uf e.Kind) fun (y : Bool) hy => ?_
   subst hy
   exact Al (fun h => hT (.inl h)) fun h => AE ieI (fun q => hT (.inr q)) fun q => Bb fun z => z.1.elim h q
def CK (a : TA6) : MA := ⟨a.Kind, a.Ring, a.Mode, a.Reader, a.AG, a.Value⟩
theorem w_f3v (l : Sl TIn) (t : TTh) (b : Nat) (hF : Vd l (l.get t.At.toNat)) (ho : (l.get t.At.toNat).Op ≤ 17) (ht : EH b t) (h0 : 0 ≤ t.At) (h1 : t.At < l.n) (hn : l.n ≤ 256) :
 D_f3v.wp (l, t) fun y => aT y = EA (l.get t.At.toNat) (aT t) ∧ EH b y := by
 refine of_wp ?_
 simp only [tt_f3v]
 generalize l.get t.At.toNat = i at hF ho
 obtain ⟨hi, hr, _⟩ := hF
 have hf := BF hr
 have hA : A3 i.A 8 = true := by rw [ibI]; omega
 have hB : A3 i.B 8 = true := by rw [ibI]; omega
 have hC : A3 i.C 8 = true := by rw [ibI]; omega
 have hw : IntKind.i64.wrap (t.At + 1) = t.At + 1 := wrap64 (by omega) (by omega)
 simp only [hA, hB, hC, hw, IM]
 refine wN (by rw [ibI]; exact ⟨h0, h1⟩) ?_
 have nx : (TT.ret (TTh.mk (t.At + 1) t.Phase t.Ring t.Status t.AG t.Ae t.Seen) : TT Tryz.prog R_f3v).wp fun y => aT y = { aT t with At := t.At + 1 } ∧ EH b y := ⟨rfl, ht.with _ ht.rg⟩
 have jm : i.Op ≠ 1 → (TT.ret (TTh.mk (IntKind.i64.wrap i.K) t.Phase t.Ring t.Status t.AG t.Ae t.Seen) : TT Tryz.prog R_f3v).wp fun y => aT y = { aT t with At := i.K } ∧ EH b y := fun h => by
  have := hf.2.2.2.2.2.1 h
  rw [wrap64 (by omega) (by omega)]
  exact ⟨rfl, ht.with _ ht.rg⟩
 have e0 : (aT t).At = t.At := rfl
 have e1 : (aT t).Ae = t.Ae := rfl
 unfold EA
 simp only [e0, e1]
 have hal : i.Op ≠ 1 → i.Op ≠ 2 → i.Op < 15 → (TT.need true (TT.need true (TT.call con_ft (i.Op, (t.Ae i.B.toNat, t.Ae i.C.toNat)) fun (y1 : R_ft) => TT.need true (TT.ret (TTh.mk (t.At + 1) t.Phase t.Ring t.Status t.AG (D6 t.Ae i.A y1.fst) t.Seen)))) : TT Tryz.prog R_f3v).wp
  fun y => aT y = { aT t with At := t.At + 1, Ae := D6 t.Ae i.A (J7 i.Op (t.Ae i.B.toNat) (t.Ae i.C.toNat)) } ∧ EH b y := fun n1 n2 h15 => by
  refine wN rfl (wN rfl (wC (w_ft i.Op _ _ (ht.rg _) (ht.rg _) (by omega) (by omega)) fun (y : Int × Bool) hy => wN rfl ?_))
  rw [hy]
  exact ⟨rfl, ht.with _ (BO ht.rg (LA (ht.rg _) (ht.rg _)))⟩
 refine AE ieI (fun h => ?_) fun n1 => AE ieI (fun h => ?_) fun n2 => AE ieI (fun h => ?_) fun n15 => AE ieI (fun h => ?_) fun n16 => AE ieI (fun h => ?_) fun n17 => ?_
 · rw [if_pos h]; exact wN rfl ⟨rfl, ht.with _ (BO ht.rg hi.1)⟩
 · rw [if_neg n1, if_pos h]; exact wN rfl (wN rfl ⟨rfl, ht.with _ (BO ht.rg (ht.rg _))⟩)
 · rw [if_neg n1, if_neg n2, if_pos (.inl h)]; exact jm n1
 · rw [if_neg n1, if_neg n2]
   refine wN rfl (AE ieI (fun q => ?_) fun q => AE ieI (fun h2 => by omega) fun _ => AE ilI (fun h2 => by omega) fun _ => ?_)
   · rw [if_pos (.inr (.inl ⟨h, q⟩))]; exact jm n1
   · rw [if_neg (by omega), if_neg (by omega)]; exact nx
 · rw [if_neg n1, if_neg n2]
   refine wN rfl (AE (p := t.Ae i.A.toNat ≠ 0) (by rw [bnI, ieI]) (fun q => ?_) fun q => AE ilI (fun h2 => by omega) fun _ => ?_)
   · rw [if_pos (.inr (.inr ⟨h, q⟩))]; exact jm n1
   · rw [if_neg (by omega), if_neg (by omega)]; exact nx
 · rw [if_neg n1, if_neg n2, if_neg (by omega), if_pos (by omega)]
   exact AE ilI (fun h => hal n1 n2 h) fun h => by omega
theorem w_fl_11 (l : Sl TIn) (s : TTh) (z4 : TTh) (z5 : TA6) (hl : OU l) (hc : codeOk l) (h0 : 0 ≤ s.At) (h1 : s.At ≤ l.n) :
 D_fl_11.wp (⟨l, s, z4, z5⟩ : X_fl_11) fun y => y.1 = s ∧ CK y.2 = E3 l.L (aT s) := by
 refine of_wp ?_
 simp only [tt_fl_11]
 refine AE ieI (fun h => ⟨rfl, ?_⟩) fun h => ?_
 · unfold E3
   rw [if_pos (by rw [Sl.Bf]; exact h)]; rfl
 · have h2 : s.At < l.n := by omega
   have hF := L1 hl hc h0 h2
   have hg : gI l.L (aT s).At = l.get s.At.toNat := Hl l h0 h2
   unfold E3
   simp only [hg]
   rw [if_neg (by rw [Sl.Bf]; exact h)]
   generalize l.get s.At.toNat = i at hF
   have hf := BF hF.ri
   have hA : A3 i.A 8 = true := by rw [ibI]; omega
   refine wN (by rw [ibI]; omega) ?_
   have g9 : i.Op ≤ 17 → ∀ {y : TA6}, CK y = { zA with Kind := 9 } → s = s ∧ CK y = if i.Op ≤ 17 then { zA with Kind := 9 } else if i.Op = 18 then ⟨1, i.C, i.D, 0, 0, (aT s).Ae i.A.toNat⟩ else if i.Op = 19 then ⟨2, i.C, i.D, i.K, 0, 0⟩ else if i.Op = 20 then ⟨3, i.C, 0, 0, 0, 0⟩ else if i.Op = 21 then { zA with Kind := 4 } else if i.Op = 22 then { zA with Kind := 5 }
    else if i.Op = 23 then { zA with Kind := 6 } else if i.Op = 24 then { zA with Kind := 7, Value := (aT s).Ae i.A.toNat } else { zA with Kind := 8 } := fun h y e => ⟨rfl, by rw [if_pos h]; exact e⟩
   refine AE ieI (fun h => wN hA ⟨rfl, ?_⟩) fun n18 => AE ieI (fun h => ⟨rfl, ?_⟩) fun n19 => AE ieI (fun h => ⟨rfl, ?_⟩) fun n20 => AE ieI (fun h => ⟨rfl, ?_⟩) fun n21 => AE ieI (fun h => ⟨rfl, ?_⟩) fun n22 =>
    AE ieI (fun h => ⟨rfl, ?_⟩) fun n23 => AE ieI (fun h => wN hA ⟨rfl, ?_⟩) fun n24 => AE ieI (fun h => ⟨rfl, ?_⟩) fun n25 => g9 (by omega) rfl
   · rw [if_neg (by omega), if_pos h]; rfl
   · have := hf.2.2.2.2.2.1 (by omega)
     rw [if_neg (by omega), if_neg n18, if_pos h, wrap64 (by omega) (by omega)]; rfl
   · rw [if_neg (by omega), if_neg n18, if_neg n19, if_pos h]; rfl
   · rw [if_neg (by omega), if_neg n18, if_neg n19, if_neg n20, if_pos h, h]; rfl
   · rw [if_neg (by omega), if_neg n18, if_neg n19, if_neg n20, if_neg n21, if_pos h, h]; rfl
   · rw [if_neg (by omega), if_neg n18, if_neg n19, if_neg n20, if_neg n21, if_neg n22, if_pos h, h]; rfl
   · rw [if_neg (by omega), if_neg n18, if_neg n19, if_neg n20, if_neg n21, if_neg n22, if_neg n23, if_pos h]; rfl
   · rw [if_neg (by omega), if_neg n18, if_neg n19, if_neg n20, if_neg n21, if_neg n22, if_neg n23, if_neg n24]; rfl
theorem w_fl (l : Sl TIn) (t : TTh) (b : Nat) (hl : OU l) (hc : codeOk l) (hT : Fh l.L (aT t)) (ht : EH b t) :
 D_fl.wp (l, t) fun y => aT y.1 = (CH l.L (aT t)).1 ∧ CK y.2 = (CH l.L (aT t)).2 ∧ EH b y.1 := by
 have a0 : 0 ≤ t.At := hT.a0
 have a1 : t.At ≤ l.n := by have := hT.a1; simpa [aT] using this
 have p1 := hT.p1
 refine of_wp ?_
 simp only [tt_fl]
 unfold CH
 have es : (aT t).Status = t.Status := rfl
 have ep : (aT t).Phase = t.Phase := rfl
 simp only [es, ep]
 refine AE (p := t.Status ≠ 0) (by rw [bnI, ieI]) (fun h => ?_) fun hs => AE ieI (fun h => ?_) fun hp1 => AE ieI (fun h => ?_) fun hp2 => ?_
 · rw [if_pos h]; exact ⟨rfl, rfl, ht⟩
 · have hq := p1 (by show t.Phase ≠ 0; omega)
   have h2 : t.At < l.n := by have := hq.2.1; simpa [aT] using this
   have hF := L1 hl hc a0 h2
   have hf := BF hF.ri
   refine wN (by rw [ibI]; omega) (wN (by rw [ibI]; omega) ?_)
   rw [if_neg (fun k => k (Classical.byContradiction hs)), if_pos h]
   have : gI l.L (aT t).At = l.get t.At.toNat := Hl l a0 h2
   rw [this]
   exact ⟨rfl, rfl, ht⟩
 · have hq := p1 (by show t.Phase ≠ 0; omega)
   have h2 : t.At < l.n := by have := hq.2.1; simpa [aT] using this
   have hF := L1 hl hc a0 h2
   have hf := BF hF.ri
   have ho : (l.get t.At.toNat).Op = 17 + t.Phase := by
    have := hq.2.2.1
    rwa [show gI l.L (aT t).At = l.get t.At.toNat from Hl l a0 h2] at this
   have hk := hf.2.2.2.2.2.1 (by omega)
   refine wN (by rw [ibI]; omega) ?_
   rw [if_neg (fun k => k (Classical.byContradiction hs)), if_neg hp1, if_pos h, wrap64 (by omega) (by omega)]
   have : gI l.L (aT t).At = l.get t.At.toNat := Hl l a0 h2
   rw [this]
   exact ⟨rfl, rfl, ht⟩
 · rw [if_neg (fun k => k (Classical.byContradiction hs)), if_neg hp1, if_neg hp2]
   simp only
   have h256 := hc.1
   refine De (tt := tt_fl_8) (fun x : X_fl_8 => x.B2 = l ∧ ∃ k : Nat, x.EY = k ∧ k ≤ 256 ∧ (0 ≤ x.BM.At ∧ x.BM.At ≤ l.n) ∧ EG l.L (256 - k) (aT x.BM) = EG l.L 256 (aT t) ∧ EH b x.BM)
    (fun x => (256 - x.EY).toNat) (fun _ y => aT y.1 = EG l.L 256 (aT t) ∧ CK y.2 = E3 l.L (EG l.L 256 (aT t)) ∧ EH b y.1) (fun D x hI hD => ?_) ⟨rfl, 0, rfl, by omega, ⟨a0, a1⟩, rfl, ht⟩
   obtain ⟨l', q, s, z4, z5⟩ := x
   obtain ⟨e1, k, e2, hk, hA, hrun, hw⟩ := hI
   simp only at e1 e2 hA hrun hw hD
   subst e1 e2
   simp only [tt_fl_8]
   have fin : (¬ ((aT s).At < l'.L.length ∧ (gI l'.L (aT s).At).Op ≤ 17) ∨ k = 256) → D_fl_11.wp (⟨l', s, z4, z5⟩ : X_fl_11) fun y => aT y.1 = EG l'.L 256 (aT t) ∧ CK y.2 = E3 l'.L (EG l'.L 256 (aT t)) ∧ EH b y.1 := fun h => by
    have he : EG l'.L 256 (aT t) = aT s := by
     rw [← hrun]
     rcases h with h | h
     · exact MQ h _
     · rw [h]; rfl
    rw [he]
    refine (w_fl_11 l' s z4 z5 hl hc hA.1 hA.2).mono fun y hy => ?_
    rw [hy.1]
    exact ⟨rfl, hy.2, hw⟩
   refine AE ilI (fun hlt => AE ilI (fun h2 => ?_) fun h => fin (.inl fun z => ?_)) fun hlt => fin (.inr (by omega))
   · have hF := L1 hl hc hA.1 h2
     have hf := BF hF.ri
     have hg : gI l'.L (aT s).At = l'.get s.At.toNat := Hl l' hA.1 h2
     refine wN (by rw [ibI]; omega) (AE leI (fun h17 => of_wp ?_) fun h => fin (.inl fun z => ?_))
     · simp only [tt_fl_10]
       refine wC (w_f3v l' s b hF h17 hw hA.1 h2 h256) fun (y : TTh) hy => ?_
       have e2 : IntKind.i64.wrap ((k : Int) + 1) = ((k + 1 : Nat) : Int) := by rw [wrap64] <;> omega
       rw [e2]
       have Jp : 0 ≤ y.At ∧ y.At ≤ l'.n := by
        have := My (i := l'.get s.At.toNat) (t := aT s) (n := l'.n) hA.1 h2 (fun q => (hf.2.2.2.2.2.1 q).1) hF.jm
        rw [← hy.1] at this; exact this
       refine hD _ ⟨rfl, k + 1, rfl, by omega, Jp, ?_, hy.2⟩ (by simp only; omega)
       have hst : (aT s).At < l'.L.length ∧ (gI l'.L (aT s).At).Op ≤ 17 := ⟨by rw [Sl.Bf]; exact h2, by rw [hg]; exact h17⟩
       rw [← hrun, show 256 - k = (256 - (k + 1)) + 1 by omega, JQ hst, hg, hy.1]
     · rw [hg] at z; omega
   · have := z.1; rw [Sl.Bf] at this; exact h this
theorem w_f2o (a : TA6) (e : TEv) (hk : 1 ≤ e.Kind ∧ e.Kind ≤ 15) : D_f2o.wp (a, e) fun y => y = Cj (CK a) e := by
 refine AU.wp.mono (Q := fun y : Bool => y = true ↔ Cj (CK a) e = true) (of_wp ?_) fun y hy => Bd hy
 simp only [tt_f2o]
 have hiff : Cj (CK a) e = true ↔ (CT e.Kind = true → a.Ring = e.Ring) ∧ (if e.Kind = 5 then ((a.Kind = 1 ∨ a.Kind = 2) ∧ a.Mode = 0) else if e.Kind = 6 then (a.Kind = 1 ∨ a.Kind = 2) else if e.Kind = 7 then ((a.Kind = 1 ∨ a.Kind = 2) ∧ a.Mode = 2)
  else if e.Kind = 2 ∨ e.Kind = 4 then (a.Kind = El e.Kind ∧ a.AG = e.AG) else if e.Kind = 12 then (a.Kind = 7 ∧ a.Value = e.Value) else a.Kind = El e.Kind) := by
  simp only [Cj, Bool.and_eq_true, Bool.or_eq_true, Bool.not_eq_true', decide_eq_true_eq]
  have e1 : (CK a).Ring = a.Ring := rfl
  have e2 : (CK a).Kind = a.Kind := rfl
  have e3 : (CK a).Mode = a.Mode := rfl
  have e4 : (CK a).AG = a.AG := rfl
  have e5 : (CK a).Value = a.Value := rfl
  rw [e1, e2, e3, e4, e5]
  refine and_congr ⟨fun h k => ?_, fun h => ?_⟩ ?_
  · rcases h with h | h
    · rw [h] at k; cases k
    · exact h
  · cases q : CT e.Kind
    · exact .inl rfl
    · exact .inr (h q)
  · repeat' split
    all_goals simp
 have h2 : ∀ w : Bool, (w = true ↔ (a.Kind = 1 ∨ a.Kind = 2)) → D_f2o_2.wp (⟨a, e, w⟩ : X_f2o_2) fun y => y = true ↔ Cj (CK a) e = true := fun w hw => by
  rw [hiff, Bq]
  refine of_wp ?_
  simp only [tt_f2o_2, TT.wp, ieI, hw, Bool.false_eq_true, false_iff, El]
  refine ⟨fun h => ?_, fun h1 => ⟨fun h => ?_, fun h2 => ⟨fun h => ?_, fun h3 => ⟨fun h => ?_, fun h4 => ⟨fun h => ?_, fun h5 => ⟨fun h => ?_, fun h6 => ⟨fun h => ?_, fun h7 => ⟨fun h => ?_, fun h8 => ⟨fun h => ?_, fun h9 => ⟨fun h => ?_, fun h10 => ⟨fun h => ?_, fun h11 => ⟨fun h => ?_, fun h12 => ⟨fun h => ?_, fun h13 => ⟨fun h => ?_, fun h14 => ?_⟩⟩⟩⟩⟩⟩⟩⟩⟩⟩⟩⟩⟩⟩
  all_goals first
   | (rw [h]; simp; done)
   | (rw [h]; simp; omega)
   | (obtain h : e.Kind = 15 := by omega
      rw [h]; simp)
 exact AE ieI (fun h => h2 true (by simp [h])) fun h => h2 _ (by rw [ieI]; omega)
theorem Gb {α : Type} (s : Sl α) (k : Nat) (y : α) : (IL s k y).L = s.L.set k y := by
 apply List.ext_getElem
 · simp [IL]
 · intro i h1 h2
   rw [Sl.Gw]
   by_cases e : i = k
   · subst e; rw [M4, List.getElem_set_self]
   · rw [M3 e, List.getElem_set_ne (fun q => e q.symm), Sl.Gw]
def DC (r : TR3) : MR := ⟨r.Ax, r.AV.L, r.Ao, r.S.L.L⟩
structure R3 (c : TRg) (b : Int) (r : TR3) : Prop where
 rg : A8 c = true
 cp : r.DE = c.DE
 rd : r.S.AR = c.AR
 inv : Db c b (DC r)
 bb : b ≤ 4611686018427387904
section
variable {c : TRg} {b : Int} {r : TR3}
theorem R3.hn (h : R3 c b r) : 1 ≤ r.AV.n ∧ r.AV.n ≤ 8 ∧ (r.AV.n : Int) = c.AR := by
 have := Cz h.rg
 have h2 := h.inv.rd
 simp only [DC, Sl.Bf] at h2
 omega
theorem R3.ln (h : R3 c b r) : 1 ≤ r.S.L.n ∧ r.S.L.n ≤ 64 ∧ (r.S.L.n : Int) = c.DE := by
 have := Cz h.rg
 have h2 := h.inv.cap
 simp only [DC, Sl.Bf] at h2
 omega
theorem R3.t (h : R3 c b r) : 0 ≤ r.Ax ∧ r.Ax < 4611686018427387904 := by
 have h0 := h.inv.t0; have h1 := h.inv.tb; have := h.bb
 change 0 ≤ r.Ax at h0; change r.Ax < b at h1; omega
theorem R3.hd (h : R3 c b r) {k : Nat} (hk : k < r.AV.n) : 0 ≤ r.AV.get k ∧ r.AV.get k ≤ r.Ax ∧ r.Ax - r.AV.get k ≤ c.DE :=
 h.inv.h0 _ (Sl.Cg.2 ⟨k, hk, rfl⟩)
theorem Ok {j : Int} (h0 : 0 ≤ j) (h1 : j < r.AV.n) : hd (DC r) j = r.AV.get j.toNat := Gs _ h0 h1 0
theorem Na : IA (DC r) = r.S.L.n := by simp [IA, DC]
theorem PY (h : R3 c b r) (t : Int) : G3 (DC r) t < r.S.L.n := by
 have := Kt h.inv h.rg t; simpa [DC] using this
theorem JD (h : R3 c b r) (t : Int) : A1 (DC r) t = r.S.L.get (G3 (DC r) t) := by
 have := PY h t
 unfold A1
 show r.S.L.L.getD _ _ = _
 rw [List.getD, Sl.EF _ this]; rfl
theorem R3.slot (h : R3 c b r) (t : Int) : Mm c.DE r.AV.n r.Ax r.AV.L (G3 (DC r) t) (r.S.L.get (G3 (DC r) t)) := by
 have := h.inv.sl _ _ (JC h.inv h.rg t)
 rw [JD h] at this
 simpa [DC] using this
theorem MI (h : R3 c b r) {t : Int} (h0 : 0 ≤ t) : IntKind.i64.wrap (Int.tmod t (IntKind.u64.wrap (r.S.L.n : Int))) = (G3 (DC r) t : Int) := by
 have := h.ln
 rw [Am (z := (r.S.L.n : Int)) (by omega) (by omega), Int.tmod_eq_emod_of_nonneg h0]
 unfold G3
 rw [Na]
 have h1 := Int.emod_nonneg t (b := (r.S.L.n : Int)) (by omega)
 have h2 := Int.emod_lt_of_pos t (b := (r.S.L.n : Int)) (by omega)
 rw [wrap64 (by omega) (by omega)]
 omega
theorem w_fs (l : Sl Int) (h1 : 1 ≤ l.n) (h8 : l.n ≤ 8) : D_fs.wp l fun y => KM l.L y := by
 refine of_wp ?_
 simp only [tt_fs]
 refine wN (by rw [ibI]; omega) ?_
 refine De (tt := tt_fs_3) (fun z : X_fs_3 => z.B2 = l ∧ ∃ k : Nat, z.FG = k ∧ k ≤ l.n ∧ z.RD ∈ l.L ∧ ∀ j, j < k → z.RD ≤ l.get j) (fun z => (l.n - z.FG).toNat)
  (fun _ y => KM l.L y) (fun D z hI hD => ?_) ⟨rfl, 0, rfl, Nat.zero_le _, Sl.Cg.2 ⟨0, h1, rfl⟩, fun j hj => by omega⟩
 obtain ⟨l', m, i⟩ := z
 obtain ⟨e0, k, e1, hk, hmem, hle⟩ := hI
 simp only at e0 e1 hmem hle hD
 subst e0 e1
 simp only [tt_fs_3]
 have e3 : IntKind.i64.wrap ((k : Int) + 1) = ((k + 1 : Nat) : Int) := by rw [wrap64] <;> omega
 refine AE ilI (fun h => ?_) fun h => ?_
 · have hkm : k < l'.n := by omega
   refine wN (A6 hkm) ?_
   rw [Int.toNat_natCast]
   refine AE ilI (fun hlt => wN (A6 hkm) (of_wp ?_)) fun hlt => of_wp ?_
   · simp only [tt_fs_4, e3]
     refine hD _ ⟨rfl, k + 1, rfl, hkm, Sl.Cg.2 ⟨k, hkm, rfl⟩, fun j hj => ?_⟩ (by simp only; omega)
     by_cases q : j = k
     · subst q; exact Int.le_refl _
     · have := hle j (by omega); show l'.get k ≤ _; omega
   · simp only [tt_fs_4, e3]
     refine hD _ ⟨rfl, k + 1, rfl, hkm, hmem, fun j hj => ?_⟩ (by simp only; omega)
     by_cases q : j = k
     · subst q; exact Int.not_lt.1 hlt
     · exact hle j (by omega)
 · refine ⟨hmem, fun z hz => ?_⟩
   obtain ⟨j, hj, rfl⟩ := Sl.Cg.1 hz
   exact hle j (by omega)
theorem w_f3l (h : R3 c b r) : D_f3l.wp r fun y => y = Ed (DC r) := by
 refine of_wp ?_
 simp only [tt_f3l]
 refine wC (w_fs r.AV h.hn.1 h.hn.2.1) fun (y : Int) hy => Bd ?_
 rw [Jl (r := DC r) hy, leI, h.cp, Na]
 obtain ⟨k, hk, e⟩ := Sl.Cg.1 hy.1
 have := h.hd hk
 have := h.t
 rw [Am (by omega) (by omega), h.ln.2.2]
 exact Iff.rfl
theorem w_f35 (j : Int) (h0 : 0 ≤ j) (h1 : j < r.AV.n) : D_f35.wp (r, j) fun y => y = EB (DC r) j := by
 refine of_wp ?_
 simp only [tt_f35]
 refine wN (by rw [ibI]; exact ⟨h0, h1⟩) ?_
 unfold EB
 rw [Ok h0 h1]
 exact Bd (by rw [decide_eq_true_eq]; exact ieI)
theorem w_f3z (s : TR2) (k : Nat) (x : TSo) (hk : k < s.L.n) (hn : s.L.n ≤ 64) : D_f3z.wp (s, ((k : Int), x)) fun y => y.L.L = s.L.L.set k x ∧ y.AR = s.AR ∧ CR y.L ∧ y.L.n = s.L.n := by
 refine of_wp ?_
 simp only [tt_f3z, Nat.zero_add, Int.toNat_natCast]
 refine wN (by simp [room]; omega) (wN (A6 hk) (wN (by simp) (wN (by simp) ⟨?_, rfl, fun e => ?_, rfl⟩)))
 · rw [← Gb]
   refine Sl.TR rfl fun i _ => ?_
   show (⟨_, _, _⟩ : TSo) = cond (Nat.beq i k) x (s.L.get i)
   cases Nat.beq i k <;> rfl
 · simp only [Bool.cond_self, Bool.false_eq_true] at e
theorem w_f4a (h : R3 c b r) {t v : Int} (h0 : 0 ≤ t) (h1 : t < 4611686018427387904) :
 D_f4a.wp (r.S, (t, v)) fun y => (y.1 = 0 ↔ (A1 (DC r) t).AP = 2 * t) ∧ ((A1 (DC r) t).AP = 2 * t → y.2.L.L = r.S.L.L.set (G3 (DC r) t) ⟨2 * t + 1, v, 2 ^ r.AV.n - 1⟩ ∧ y.2.AR = r.S.AR ∧ CR y.2.L ∧ y.2.L.n = r.S.L.n) := by
 have hl := h.ln
 have hp := PY h t
 refine of_wp ?_
 simp only [tt_f4a]
 rw [MI h h0, Int.toNat_natCast, Am (z := (r.S.L.n : Int)) (by omega) (by omega), Am (z := 2 * t) (by omega) (by omega), Am (z := 2 * t + 1) (by omega) (by omega)]
 rw [JD h]
 generalize hx : r.S.L.get (G3 (DC r) t) = x
 refine AE leI (fun q => absurd h1 (Int.not_lt.2 q)) fun _ => wN (by rw [bnI, ieI]; omega) (wN (A6 hp) (AE ilI (fun q => ⟨⟨fun e => absurd e (show (8 : Int) ≠ 0 by decide), fun e => by omega⟩, fun e => by omega⟩) fun q1 => wN (A6 hp)
  (AE ilI (fun q => ⟨⟨fun e => absurd e (show (11 : Int) ≠ 0 by decide), fun e => by omega⟩, fun e => by omega⟩) fun q2 => ?_)))
 have hr := Cz h.rg
 refine wC (w_f2a r.S.AR (by rw [h.rd]; omega) (by rw [h.rd]; omega)) fun (y : Int) hy => ?_
 subst hy
 refine wC (w_f3z r.S _ _ hp hl.2.1) fun (y : TR2) hy => ⟨⟨fun _ => by omega, fun _ => rfl⟩, fun _ => ?_⟩
 have e : r.S.AR.toNat = r.AV.n := by have := h.hn.2.2; rw [h.rd]; omega
 rw [e] at hy
 exact hy
theorem VT {z : TR2} {l : List TSo} (hz : z.L.L = l) : DC ⟨r.DE, r.Ax, r.AV, r.Ao, z⟩ = { DC r with Ai := l } := by
 subst hz; rfl
theorem w_f31 (h : R3 c b r) {t v : Int} (h0 : 0 ≤ t) (h1 : t < 4611686018427387904) :
 D_f31.wp (r, (t, v)) fun y => (y.1 = 0 ↔ HJ (DC r) t = true) ∧ (HJ (DC r) t = true → DC y.2 = Ob (DC r) t v) := by
 refine of_wp ?_
 simp only [tt_f31]
 have hm : HJ (DC r) t = true ↔ t < r.Ax ∧ (A1 (DC r) t).AP = 2 * t := by simp only [HJ, decide_eq_true_eq]; exact Iff.rfl
 rw [hm]
 refine AE leI (fun q => ⟨⟨fun e => absurd e (show (11 : Int) ≠ 0 by decide), fun e => by omega⟩, fun e => by omega⟩) fun q => ?_
 refine wC (w_f4a h h0 h1) fun (y : Int × TR2) hy => ⟨hy.1.trans ⟨fun e => ⟨by omega, e⟩, fun e => e.2⟩, fun e => ?_⟩
 have := (hy.2 e.2).1
 rw [VT this]
 unfold Ob
 simp [DC]
theorem w_f2f (x : Int) (j : Nat) (h0 : 0 ≤ x) (h1 : x < 256) (hj : j < 8) : D_f2f.wp (x, (j : Int)) fun y => y = Df x (j : Int) := by
 refine of_wp ?_
 simp only [tt_f2f]
 have e0 : x = x / 2 ^ 0 := by simp
 show D_f2f_2.wp (⟨x, j, ((0 : Nat) : Int)⟩ : X_f2f_2) _
 have key : D_f2f_2.wp (⟨x / 2 ^ 0, j, ((0 : Nat) : Int)⟩ : X_f2f_2) fun y => y = Df x (j : Int) := by
  refine C4 (fun k => (⟨x / 2 ^ k, j, (k : Nat)⟩ : X_f2f_2)) j (fun _ => True) _ (fun D hJ => ?_) (fun D k hk _ hD => ?_) (Nat.zero_le _) trivial
  · simp only [tt_f2f_2, BA, Nat.lt_irrefl, decide_false, B3]
    have := (MY h0 h1 hj).2
    refine Bd ?_
    rw [ieI]
    have hm : Int.tmod (x / 2 ^ j) 2 = 0 ∨ Int.tmod (x / 2 ^ j) 2 = 1 := by
     have : 0 ≤ x / 2 ^ j := Int.ediv_nonneg h0 (Int.le_of_lt (Int.pow_pos (by decide)))
     rw [Int.tmod_eq_emod_of_nonneg this]; omega
    cases hb : Df x (j : Int)
    · have := this.2 hb; exact ⟨fun e => by omega, fun e => by cases e⟩
    · refine ⟨fun _ => rfl, fun _ => ?_⟩
      rcases hm with e | e
      · have := this.1 e; rw [hb] at this; cases this
      · exact e
  · simp only [tt_f2f_2, BA, hk, decide_true, CQ]
    have e2 : IntKind.i64.wrap ((k : Int) + 1) = ((k + 1 : Nat) : Int) := by rw [wrap64] <;> omega
    rw [(MY h0 h1 (by omega)).1, e2]
    exact hD trivial
 rw [← e0] at key
 exact key
theorem Jn {x : Int} {j : Nat} (h0 : 0 ≤ x) (h1 : x < 256) (hj : j < 8) (hb : Df x (j : Int) = true) : Vm.bits .andNot IntKind.i64 x (shl IntKind.i64 1 (j : Int)) = x - 2 ^ j ∧ 0 ≤ x - 2 ^ j := by
 have := Pj ⟨x.toNat, by omega⟩ ⟨j, hj⟩
 simp only [show ((x.toNat : Nat) : Int) = x by omega] at this
 have h2 := (LW (n := 8) (k := j) h0 (by exact_mod_cast h1) (by omega) hj hj hb).2
 exact ⟨this hb, h2⟩
theorem IX {j : Nat} (hj : j ≤ 8) : (2 : Int) ^ j ≤ 256 := by exact_mod_cast Nat.pow_le_pow_right (by decide : 0 < 2) hj
theorem w_f2a' (j : Nat) (hj : j ≤ 8) : D_f2a.wp (j : Int) fun y => y = 2 ^ j - 1 := by
 by_cases h : j = 0
 · subst h
   refine ⟨0, ?_, by decide⟩
   exact D_f2a.Hm 50 _ _ (by kernel_rfl)
 · have := w_f2a (j : Int) (by omega) (by omega)
   rwa [Int.toNat_natCast] at this
theorem w_f1e (h : R3 c b r) {j t : Int} (hj0 : 0 ≤ j) (hj : j < r.AV.n) (h0 : 0 ≤ t) (h1 : t < 2305843009213693952) :
 D_f1e.wp (r.S, (j, t)) fun y => (y.2.1 = 0 ↔ (A1 (DC r) t).AP = 2 * t + 1 ∧ Df (A1 (DC r) t).Left j = true) ∧
  ((A1 (DC r) t).AP = 2 * t + 1 ∧ Df (A1 (DC r) t).Left j = true → y.1 = (A1 (DC r) t).Value ∧ y.2.2.L.L = r.S.L.L.set (G3 (DC r) t) (K8 (A1 (DC r) t) j t (IA (DC r))) ∧ y.2.2.AR = r.S.AR ∧ CR y.2.2.L ∧ y.2.2.L.n = r.S.L.n) := by
 have hl := h.ln
 have hn := h.hn
 have hp := PY h t
 have hs := h.slot t
 have n9 : (9 : Int) ≠ 0 := by decide
 have n11 : (11 : Int) ≠ 0 := by decide
 refine of_wp ?_
 simp only [tt_f1e]
 refine AE leI (fun q => by omega) fun _ => AE ilI (fun q => by omega) fun _ => AE leI (fun q => by rw [h.rd] at q; omega) fun _ => of_wp ?_
 simp only [tt_f1e_3]
 rw [MI h h0, Int.toNat_natCast, Am (z := (r.S.L.n : Int)) (by omega) (by omega), Am (z := 2 * t) (by omega) (by omega), Am (z := 2 * t + 1) (by omega) (by omega), JD h, Na]
 generalize hx : r.S.L.get (G3 (DC r) t) = x at hs
 refine wN (by rw [bnI, ieI]; omega) (wN (A6 hp) (AE ilI (fun q => ⟨⟨fun e => absurd e n9, fun e => by omega⟩, fun e => by omega⟩) fun q1 => AE ilI (fun q => ⟨⟨fun e => absurd e n11, fun e => by omega⟩, fun e => by omega⟩) fun q2 => ?_))
 have hst : x.AP = 2 * t + 1 := by omega
 have hheld := hs.held (by omega)
 have h28 := IX hn.2.1
 obtain ⟨jn, rfl⟩ : ∃ jn : Nat, j = jn := ⟨j.toNat, by omega⟩
 refine wC (w_f2f x.Left jn (by omega) (by omega) (by omega)) fun (y : Bool) hy => ?_
 subst hy
 refine AE bnI (fun q => ⟨⟨fun e => absurd e n11, fun e => absurd e.2 q⟩, fun e => absurd e.2 q⟩) fun q => of_wp ?_
 have hb := Classical.byContradiction q
 have hcl := Jn (j := jn) (x := x.Left) (by omega) (by omega) (by omega) hb
 simp only [tt_f1e_9]
 refine wC (w_f2a' jn (by omega)) fun (y : Int) hy => ?_
 subst hy
 have hpj := IX (j := jn) (by omega)
 have hpp := GK jn
 rw [show (2 : Int) ^ jn - 1 + 1 = 2 ^ jn by omega, wrap64 (z := (2 : Int) ^ jn) (by omega) (by omega), wrap64 (z := x.Left - 2 ^ jn) (by omega) (by omega), Am (z := (r.S.L.n : Int)) (by omega) (by omega), Am (z := t + (r.S.L.n : Int)) (by omega) (by omega), Am (z := 2 * (t + (r.S.L.n : Int))) (by omega) (by omega)]
 have fin : ∀ z : TSo, z = K8 x (jn : Int) t (r.S.L.n : Int) → D_f1e_13.wp (⟨r.S, (G3 (DC r) t : Nat), x.Value, ⟨⟨true, 0, fun _ => ⟨0, 0, 0⟩⟩, 0⟩, z⟩ : X_f1e_13) fun y => (y.2.1 = 0 ↔ x.AP = 2 * t + 1 ∧ Df x.Left (jn : Int) = true) ∧
  (x.AP = 2 * t + 1 ∧ Df x.Left (jn : Int) = true → y.1 = x.Value ∧ y.2.2.L.L = r.S.L.L.set (G3 (DC r) t) (K8 x (jn : Int) t (r.S.L.n : Int)) ∧ y.2.2.AR = r.S.AR ∧ CR y.2.2.L ∧ y.2.2.L.n = r.S.L.n) := fun z hz => by
  subst hz
  refine of_wp ?_
  simp only [tt_f1e_13]
  exact wC (w_f3z r.S _ _ hp hl.2.1) fun (y : TR2) hy => ⟨⟨fun _ => ⟨hst, hb⟩, fun _ => rfl⟩, fun _ => ⟨rfl, hy⟩⟩
 refine AE ieI (fun e => fin _ ?_) fun e => fin _ ?_
 · unfold K8; rw [Int.toNat_natCast, if_pos e]
 · unfold K8; rw [Int.toNat_natCast, if_neg e]
theorem w_f1p (h : R3 c b r) (hb : b ≤ 2305843009213693952) {j t : Int} (hj0 : 0 ≤ j) (hj : j < r.AV.n) (h0 : 0 ≤ t) :
 D_f1p.wp (r, (j, t)) fun y => (y.2.1 = 0 ↔ K7 (DC r) j t = true) ∧ (K7 (DC r) j t = true → y.1 = (A1 (DC r) t).Value ∧ DC y.2.2 = RF (DC r) j t) := by
 refine of_wp ?_
 simp only [tt_f1p]
 refine AE ilI (fun q => by omega) fun _ => AE leI (fun q => by omega) fun _ => of_wp ?_
 simp only [tt_f1p_3]
 have hm : K7 (DC r) j t = true ↔ t < r.AV.get j.toNat ∧ (A1 (DC r) t).AP = 2 * t + 1 ∧ Df (A1 (DC r) t).Left j = true := by simp only [K7, decide_eq_true_eq, Ok hj0 hj]
 rw [hm]
 refine wN (by rw [ibI]; exact ⟨hj0, hj⟩) (AE leI (fun q => ⟨⟨fun e => absurd e (show (11 : Int) ≠ 0 by decide), fun e => by omega⟩, fun e => by omega⟩) fun q => ?_)
 have htb := h.inv.tb
 change r.Ax < b at htb
 have := h.hd (k := j.toNat) (by omega)
 refine wC (w_f1e h hj0 hj h0 (by omega)) fun (y : Int × Int × TR2) hy => ⟨hy.1.trans ⟨fun e => ⟨by omega, e⟩, fun e => e.2⟩, fun e => ?_⟩
 obtain ⟨k1, k2, _⟩ := hy.2 e.2
 refine ⟨k1, ?_⟩
 rw [VT k2]; rfl
theorem w_f2s (h : R3 c b r) {j : Int} (hj0 : 0 ≤ j) (hj : j < r.AV.n) (he : EB (DC r) j = false) : D_f2s.wp (r, j) fun y => DC y.2.2 = FX (DC r) j := by
 refine of_wp ?_
 simp only [tt_f2s]
 refine AE ilI (fun q => by omega) fun _ => AE leI (fun q => by omega) fun _ => of_wp ?_
 obtain ⟨jn, rfl⟩ : ∃ jn : Nat, j = jn := ⟨j.toNat, by omega⟩
 have hjn : jn < r.AV.n := by omega
 have hne : r.AV.get jn ≠ r.Ax := fun q => by
  simp only [EB, decide_eq_false_iff_not] at he
  rw [Ok hj0 hj, Int.toNat_natCast] at he
  exact he q
 have hh := h.hd hjn
 have ht := h.t
 have hn := h.hn
 have hr : (true && room r.AV.n 8) = true := by simp [room]; omega
 simp only [tt_f2s_3, Nat.zero_add, Int.toNat_natCast, L9, cond_false, Nat.sub_zero]
 have hb : A3 (jn : Int) r.AV.n = true := A6 hjn
 refine wN hb (AE ieI (fun q => absurd q hne) fun _ => wN hr (wN hb (wN (by simp) (wN hb (wN (by simp) (wN (by simp) (wN hb ?_)))))))
 rw [Am (z := r.AV.get jn + 1) (by omega) (by omega)]
 show (⟨_, _, _, _⟩ : MR) = _
 unfold FX
 rw [Ok hj0 hj, Int.toNat_natCast]
 show (⟨_, _, _, _⟩ : MR) = ⟨_, r.AV.L.set jn (r.AV.get jn + 1), _, _⟩
 rw [← Gb]
 congr 1
theorem w_f3n (h : R3 c b r) : D_f3n.wp r fun y => I3 y = DC r ∧ CR y.AV ∧ CR y.Ai := by
 have hn := h.hn
 have hl := h.ln
 refine of_wp ?_
 simp only [tt_f3n, Nat.zero_add, L9, cond_false, Nat.sub_zero]
 refine wN (by simp [room]; omega) (wN (by simp [room]; omega) ⟨rfl, fun e => ?_, fun e => ?_⟩)
 · simp only [Bool.cond_self, Bool.false_eq_true] at e
 · simp only [Bool.cond_self, Bool.false_eq_true] at e
theorem w_f4e (s : TRs) (hc : A8 c = true) (hi : Db c b (I3 s)) (hb : b ≤ 4611686018427387904) : D_f4e.wp (c, s) fun y => R3 c b y ∧ DC y = I3 s := by
 have hf := Cz hc
 have h1 := hi.cap
 have h2 := hi.rd
 simp only [I3, Sl.Bf] at h1 h2
 refine of_wp ?_
 simp only [tt_f4e, Nat.zero_add, L9, cond_false, Nat.sub_zero]
 have e : ∀ {y : TR3}, DC y = I3 s → y.DE = c.DE → y.S.AR = c.AR → R3 c b y ∧ DC y = I3 s := fun a k1 k2 => ⟨⟨hc, k1, k2, by rw [a]; exact hi, hb⟩, a⟩
 exact wN (by simp [room]; omega) (wN (by simp [room]; omega) (e rfl (Am (by omega) (by omega)) rfl))
end
theorem FK {p : TPg} {t : Int} (h0 : 0 ≤ t) (h1 : t < p.AB.n) : CD (aP p) t = (p.AB.get t.toNat).L := by
 unfold CD aP
 simp only [List.getD, List.getElem?_map]
 rw [Sl.EF _ (by omega)]; rfl
theorem H9 {p : TPg} {i : Int} (h0 : 0 ≤ i) (h1 : i < p.AF.n) : LS (aP p) i = p.AF.get i.toNat := Gs _ h0 h1 _
theorem PJ {s : TSt} {t : Int} (h0 : 0 ≤ t) (h1 : t < s.AB.n) : Mx (aS s) t = aT (s.AB.get t.toNat) := by
 unfold Mx aS
 simp only [List.getD, List.getElem?_map]
 rw [Sl.EF _ (by omega)]; rfl
theorem R9 {s : TSt} {i : Int} (h0 : 0 ≤ i) (h1 : i < s.AF.n) : CO (aS s) i = I3 (s.AF.get i.toNat) := by
 unfold CO aS
 simp only [List.getD, List.getElem?_map]
 rw [Sl.EF _ (by omega)]; rfl
theorem I8 {f : TFa} {t : Int} (h0 : 0 ≤ t) (h1 : t < f.threads.n) : Mx (aF f) t = aT (f.threads.get t.toNat) := by
 unfold Mx aF
 simp only [List.getD, List.getElem?_map]
 rw [Sl.EF _ (by omega)]; rfl
theorem SA {f : TFa} {i : Int} (h0 : 0 ≤ i) (h1 : i < f.rings.n) : CO (aF f) i = aR (f.rings.get i.toNat).x := by
 unfold CO aF
 simp only [List.getD, List.getElem?_map]
 rw [Sl.EF _ (by omega)]; rfl
structure SR (e : TEv) : Prop where
 tk : Bs e.AG
 vl : Bs e.Value
section
variable {p : TPg} {B : Int} {m : MS} {e : TEv}
theorem Fo (h : Ec (aP p) B m) (f : Dg (aP p) m e) (k : CT e.Kind = true) :
 (0 ≤ e.Ring ∧ e.Ring < p.AF.n) ∧ ((Aq (aP p) m e.Thread).Kind = 2 ∨ (Aq (aP p) m e.Thread).Kind = 11 → 0 ≤ (Aq (aP p) m e.Thread).Reader ∧ (Aq (aP p) m e.Thread).Reader < (p.AF.get e.Ring.toNat).AR) ∧
   (e.Kind = 3 ∨ e.Kind = 4 → 0 ≤ (Aq (aP p) m e.Thread).Reader ∧ (Aq (aP p) m e.Thread).Reader < (p.AF.get e.Ring.toNat).AR) := by
 obtain ⟨r0, r1, r2⟩ := Il h f k
 have hf := Pt f.re f.ft
 have r1 : e.Ring.toNat < p.AF.n := by simpa [aP] using r1
 rw [H9 r0 (by omega)] at r2
 exact ⟨⟨r0, by omega⟩, r2, fun q => r2 (q.imp hf.f3 fun z => (hf.f4 z).1)⟩
theorem Em (h : Ec (aP p) B m) (f : Dg (aP p) m e) : 0 ≤ e.Thread ∧ e.Thread < p.AB.n := by
 have h1 := f.lt
 have h2 := h.nt
 have : (aP p).AB.length = p.AB.n := by simp [aP]
 have := f.th
 omega
end
structure SC (p : TPg) (B : Int) (k : Nat) (s : TSt) : Prop where
 hp : Jk p
 inv : Ec (aP p) B (aS s)
 ts : ∀ t, t < s.AB.n → EH k (s.AB.get t)
 hB : B ≤ 2305843009213693952
 hk : k ≤ 1000000000
section
variable {p : TPg} {B : Int} {k : Nat} {s : TSt} {e : TEv}
theorem SC.tn (h : SC p B k s) : s.AB.n = p.AB.n := by have := h.inv.nt; simpa [aS, aP] using this
theorem SC.rn (h : SC p B k s) : s.AF.n = p.AF.n := by have := h.inv.nr; simpa [aS, aP] using this
theorem SC.small (h : SC p B k s) : p.AB.n ≤ 8 ∧ p.AF.n ≤ 8 := ⟨(BX h.inv.pi).2.1, (BX h.inv.pi).2.2.1⟩
theorem SC.J2 (h : SC p B k s) {t : Int} (h0 : 0 ≤ t) (h1 : t < p.AB.n) : Fh (p.AB.get t.toNat).L (aT (s.AB.get t.toNat)) := by
 have ht := h.tn
 have := h.inv.J2 (t := t) (by simp [aS]; omega)
 rwa [FK h0 h1, PJ h0 (by omega)] at this
theorem SC.Kj (h : SC p B k s) {i : Int} (h0 : 0 ≤ i) (h1 : i < p.AF.n) : Db (p.AF.get i.toNat) B (I3 (s.AF.get i.toNat)) := by
 have hr := h.rn
 have := (h.inv.Kj (i := i) (by simp [aP]; omega)).1
 rwa [H9 h0 h1, R9 h0 (by omega)] at this
theorem Hh {B : Int} {m : MS} (h : Ec (aP p) B m) {t : Int} (h0 : 0 ≤ t) (h1 : t < p.AB.n) : HR p.AF.L (p.AB.get t.toNat).L := by
 have : (aP p).AB[t.toNat]? = some (p.AB.get t.toNat).L := by
  unfold aP
  simp only [List.getElem?_map]
  rw [Sl.EF _ (by omega)]; rfl
 exact QZ h this
theorem KZ (h : SC p B k s) {t : Int} (h0 : 0 ≤ t) (h1 : t < p.AB.n) :
 D_fl.wp (p.AB.get t.toNat, s.AB.get t.toNat) fun y => aT y.1 = (CH (CD (aP p) t) (Mx (aS s) t)).1 ∧ CK y.2 = Aq (aP p) (aS s) t ∧ EH k y.1 := by
 have ht := h.tn
 have h2 : t.toNat < p.AB.n := by omega
 unfold Aq
 rw [FK h0 h1, PJ h0 (by omega)]
 exact w_fl _ _ k (h.hp.c h2) (NX h.inv.pi h2) (h.J2 h0 h1) (h.ts _ (by omega))
theorem w_f3x (h : SC p B k s) {t : Int} (h0 : 0 ≤ t) (h1 : t < p.AB.n) : D_f3x.wp (p, (s, t)) fun y => CK y = Aq (aP p) (aS s) t := by
 have ht := h.tn
 refine of_wp ?_
 simp only [tt_f3x]
 exact wN (by rw [ibI]; omega) (wN (by rw [ibI]; omega) (wC (KZ h h0 h1) fun y hy => hy.2.1))
theorem w_f3f (h : SC p B k s) {i : Int} (h0 : 0 ≤ i) (h1 : i < p.AF.n) : D_f3f.wp (p, (s, i)) fun y => R3 (p.AF.get i.toNat) B y ∧ DC y = CO (aS s) i := by
 have hr := h.rn
 have hB := h.hB
 refine of_wp ?_
 simp only [tt_f3f]
 rw [R9 h0 (by omega)]
 exact wN (by rw [ibI]; omega) (wN (by rw [ibI]; omega) (wC (w_f4e _ (rg_of h.inv.pi (by omega)) (h.Kj h0 h1) (by omega)) fun y hy => hy))
theorem Sb : EP (aP p) (aS s) e = if Bk e = false then 3 else if (s.AB.n : Int) ≤ e.Thread then 5 else if (Aq (aP p) (aS s) e.Thread).Kind = 0 ∨ Cj (Aq (aP p) (aS s) e.Thread) e = false then 11 else 0 := by
 unfold EP
 rw [show ((aS s).AB.length : Int) = s.AB.n by simp [aS]]
theorem w_f3y (h : SC p B k s) : D_f3y.wp (p, (s, e)) fun y => y = EP (aP p) (aS s) e := by
 have ht := h.tn
 refine of_wp ?_
 simp only [tt_f3y]
 rw [Sb]
 refine wC (w_f2g e) fun (y : Bool) hy => ?_
 subst hy
 refine BE (g := id) (by rw [bnI]; simp) (fun _ => rfl) fun hR => BE (g := id) leI (fun _ => rfl) fun hlt => ?_
 have hR : Bk e = true := by simpa using hR
 have hre := B6 hR
 refine wC (w_f3x h (t := e.Thread) hre.2.1.1 (by omega)) fun (a : TA6) ha => ?_
 rw [← ha]
 refine AE ieI (fun hk => by rw [if_pos (.inl hk)]; rfl) fun hk => wC (w_f2o a e hre.1) fun (y : Bool) hy => ?_
 subst hy
 refine AE bnI (fun hf => by rw [if_pos (.inr (by simpa using hf))]; rfl) fun hf => ?_
 have hF := Classical.byContradiction hf
 have hk' : (CK a).Kind ≠ 0 := hk
 rw [if_neg (by rw [hF]; simp [hk'])]; rfl
theorem w_f3m (h : SC p B k s) (a : TA6) (cl : Bool) (hr : 0 ≤ e.Ring ∧ e.Ring < p.AF.n) (hrd : e.Kind = 3 ∨ e.Kind = 4 → 0 ≤ a.Reader ∧ a.Reader < (p.AF.get e.Ring.toNat).AR) (ht : 0 ≤ e.AG ∧ e.AG < 4611686018427387904) :
 D_f3m.wp (p, (s, (a, (e, cl)))) fun y => y = (DP (CO (aS s) e.Ring) (CK a) e && !(cl && decide (e.Kind = 1) && (CO (aS s) e.Ring).Ao)) := by
 refine of_wp ?_
 simp only [tt_f3m]
 refine wC (w_f3f h hr.1 hr.2) fun (r : TR3) hy => ?_
 obtain ⟨h3, he⟩ := hy
 rw [← he]
 have hn := h3.hn
 unfold DP
 have hcl : (DC r).Ao = r.Ao := rfl
 refine AE ieI (fun q => ?_) fun n1 => AE ieI (fun q => ?_) fun n2 => AE ieI (fun q => ?_) fun n3 => AE ieI (fun q => ?_) fun n4 => ?_
 · rw [if_pos q, decide_eq_true q, Bool.and_true]
   have fl : (TT.call con_f3l r fun (y2 : R_f3l) => TT.ite (!y2) (.ret (AW e.AG r.Ax)) (.ret false) : TT Tryz.prog R_f3m).wp fun y => y = (!Ed (DC r) && decide (e.AG = (DC r).Ax)) := by
    refine wC (w_f3l h3) fun (y : Bool) hy => ?_
    subst hy
    exact AE bnI (fun z => by rw [show Ed (DC r) = false by simpa using z]; exact Bd (by simp only [Bool.not_false, Bool.true_and, decide_eq_true_eq]; exact ieI)) fun z => by rw [show Ed (DC r) = true from Classical.byContradiction z]; rfl
   rw [hcl]
   cases cl
   · refine Al (fun z => by cases z) fun _ => ?_
     simpa using fl
   · refine Al (fun _ => AE bnI (fun z => ?_) fun z => ?_) fun z => absurd rfl z
     · rw [show r.Ao = false by simpa using z]; simpa using fl
     · rw [show r.Ao = true from Classical.byContradiction z]; simp [TT.wp]
 · rw [if_neg n1, if_pos q, decide_eq_false n1, Bool.and_false, Bool.false_and, Bool.not_false, Bool.and_true]
   exact wC (w_f31 h3 ht.1 ht.2) fun (y : Int × TR3) hy => Bd (ieI.trans hy.1)
 · rw [if_neg n1, if_neg n2, if_pos q, decide_eq_false n1, Bool.and_false, Bool.false_and, Bool.not_false, Bool.and_true]
   obtain ⟨j0, j1⟩ := hrd (.inl q)
   refine wC (w_f35 a.Reader j0 (by omega)) fun (y : Bool) hy => ?_
   subst hy
   have e1 : (CK a).Reader = a.Reader := rfl
   rw [e1]
   refine AE bnI (fun z => wN (by rw [ibI]; omega) ?_) fun z => ?_
   · rw [show EB (DC r) a.Reader = false by simpa using z, Ok j0 (by omega)]
     exact Bd (by simp only [Bool.not_false, Bool.true_and, decide_eq_true_eq]; exact ieI)
   · rw [show EB (DC r) a.Reader = true from Classical.byContradiction z]; rfl
 · rw [if_neg n1, if_neg n2, if_neg n3, if_pos q, decide_eq_false n1, Bool.and_false, Bool.false_and, Bool.not_false, Bool.and_true]
   obtain ⟨j0, j1⟩ := hrd (.inr q)
   exact wC (w_f1p h3 h.hB j0 (by omega) ht.1) fun (y : Int × Int × TR3) hy => Bd (ieI.trans hy.1)
 · rw [if_neg n1, if_neg n2, if_neg n3, if_neg n4, decide_eq_false n1, Bool.and_false, Bool.false_and, Bool.not_false, Bool.and_true]
   exact Bd (by rw [decide_eq_true_eq]; exact ieI)
theorem w_f12 (h : SC p B k s) (a : TA6) (hr : 0 ≤ e.Ring ∧ e.Ring < p.AF.n) (ha : a.Kind = 1 ∨ a.Kind = 2) (hrd : a.Kind = 2 → 0 ≤ a.Reader ∧ a.Reader < (p.AF.get e.Ring.toNat).AR) :
 D_f12.wp (p, (s, (a, e))) fun y => y = (Ca (CO (aS s) e.Ring) (CK a) && ((CO (aS s) e.Ring).Ao == decide (e.Kind = 6))) := by
 refine of_wp ?_
 simp only [tt_f12]
 refine wC (w_f3f h hr.1 hr.2) fun (r : TR3) hy => ?_
 obtain ⟨h3, he⟩ := hy
 rw [← he]
 have hn := h3.hn
 have e6 : AW e.Kind 6 = decide (e.Kind = 6) := Bd (by rw [decide_eq_true_eq]; exact ieI)
 have h3' : ∀ w : Bool, D_f12_3.wp (⟨e, w, r⟩ : X_f12_3) fun y => y = (w && ((DC r).Ao == decide (e.Kind = 6))) := fun w => by
  refine of_wp ?_
  simp only [tt_f12_3, e6]
  cases w
  · exact Al (fun z => by cases z) fun _ => rfl
  · exact Al (fun _ => rfl) fun z => absurd rfl z
 have e1 : (CK a).Kind = a.Kind := rfl
 have e2 : (CK a).Reader = a.Reader := rfl
 unfold Ca
 rw [e1, e2]
 refine AE ieI (fun q => ?_) fun q => AE ieI (fun q2 => ?_) fun q2 => by omega
 · rw [if_pos q]
   have hcl : (DC r).Ao = r.Ao := rfl
   refine Al (fun z => ?_) fun z => wC (w_f3l h3) fun (y : Bool) hy => ?_
   · have := h3' true
     rw [hcl, z] at this ⊢; exact this
   · subst hy
     rw [hcl, show r.Ao = false by simpa using z, Bool.false_or]
     have hh : ∀ w, D_f12_3.wp (⟨e, w, r⟩ : X_f12_3) fun y => y = (w && (false == decide (e.Kind = 6))) := fun w => by
      have := h3' w
      rwa [hcl, show r.Ao = false by simpa using z] at this
     refine Al (fun z2 => by rw [z2]; exact hh true) fun z2 => AE ieI (fun q2 => by omega) fun _ => by rw [show Ed (DC r) = false by simpa using z2]; exact hh false
 · rw [if_neg q]
   obtain ⟨j0, j1⟩ := hrd q2
   refine wC (w_f35 a.Reader j0 (by omega)) fun (y : Bool) hy => ?_
   subst hy
   exact h3' _
theorem w_f32 (h : SC p B k s) (he : SR e) : D_f32.wp (p, (s, e)) fun y => y = Cb (aP p) (aS s) e := by
 refine of_wp ?_
 simp only [tt_f32]
 refine wC (w_f3y h) fun (y : Int) hy => ?_
 subst hy
 unfold Cb
 refine AE (p := EP (aP p) (aS s) e ≠ 0) (by rw [bnI, ieI]) (fun q => by rw [decide_eq_false q]; rfl) fun q => ?_
 have q := Classical.byContradiction q
 rw [decide_eq_true q, Bool.true_and]
 have f := fitting q
 have hth := Em h.inv f
 refine wC (w_f3x h hth.1 hth.2) fun (a : TA6) ha => ?_
 rw [← ha]
 have hf := Pt f.re f.ft
 have hre := B6 f.re
 have hrg := fun z => Fo h.inv f z
 rw [← ha] at hf hrg
 have n0 := h.inv.n0
 change 0 ≤ s.FQ at n0
 have htk : 0 ≤ e.AG ∧ e.AG < 4611686018427387904 := ⟨he.tk.1, hre.2.2.2.1⟩
 have tu : Az e.Kind = true → D_f3m.wp (p, (s, (a, (e, true)))) fun y => y = JR (aS s) (CK a) e := fun z => by
  have h1 := Av.1 z
  obtain ⟨r1, _, r2⟩ := hrg (Co z)
  refine (w_f3m h a true r1 r2 htk).mono fun y hy => ?_
  rw [hy]
  unfold JR
  simp only
  rw [if_neg (by omega), if_neg (by omega), if_neg (by omega), if_neg (by omega)]
  by_cases k1 : e.Kind = 1
  · rw [if_pos k1, decide_eq_true k1]; simp
  · rw [if_neg k1, decide_eq_false k1, z]; simp
 have tr : Az e.Kind = true → (TT.call con_f3m (p, (s, (a, (e, true)))) fun (y3 : R_f3m) => .ret y3 : TT Tryz.prog R_f32).wp fun y => y = JR (aS s) (CK a) e := fun z => wC (tu z) fun y hy => hy
 have rf : 5 ≤ e.Kind ∧ e.Kind ≤ 7 → (TT.call con_f12 (p, (s, (a, e))) fun (y3 : R_f12) => .ret y3 : TT Tryz.prog R_f32).wp fun y => y = JR (aS s) (CK a) e := fun z => by
  obtain ⟨r1, r2, _⟩ := hrg (Bq.2 (by omega))
  refine wC (w_f12 h a r1 (hf.f5 z) fun q => r2 (.inl q)) fun y hy => ?_
  show y = _
  rw [hy]
  unfold JR
  simp only
  by_cases k6 : e.Kind = 6
  · rw [if_neg (by omega), if_pos k6, decide_eq_true k6]
    generalize (CO (aS s) e.Ring).Ao = c
    cases Ca (CO (aS s) e.Ring) (CK a) <;> cases c <;> rfl
  · rw [if_pos (by omega), decide_eq_false k6]
    generalize (CO (aS s) e.Ring).Ao = c
    cases Ca (CO (aS s) e.Ring) (CK a) <;> cases c <;> rfl
 have tk := fun z => Av (k := e.Kind).2 z
 refine AE ieI (fun q => tr (tk (by omega))) fun n1 => AE ieI (fun q => tr (tk (by omega))) fun n2 => AE ieI (fun q => tr (tk (by omega))) fun n3 => AE ieI (fun q => tr (tk (by omega))) fun n4 => AE ieI (fun q => tr (tk (by omega))) fun n13 =>
  AE ieI (fun q => rf (by omega)) fun n5 => AE ieI (fun q => rf (by omega)) fun n6 => AE ieI (fun q => rf (by omega)) fun n7 => ?_
 unfold JR
 simp only
 rw [if_neg (by omega), if_neg (by omega)]
 have hnow : (aS s).FQ = s.FQ := rfl
 have hend : (aS s).Ba = s.Ba := rfl
 rw [hnow, hend]
 refine BE (g := id) ieI (fun _ => ?_) fun n8 => BE (g := id) ieI (fun _ => rfl) fun n10 => ?_
 · have := he.vl
   refine AE leI (fun z => ?_) fun z => (decide_eq_false fun w => z w.1).symm
   rw [Am (by have := this.1; omega) (by have := this.2; omega)]
   exact Bd (by rw [decide_eq_true_eq]; exact ilI.trans ⟨fun w => ⟨z, w⟩, fun w => w.2⟩)
 · rw [if_neg n1, show Az e.Kind = false from Bool.eq_false_iff.2 fun z => by rw [Av] at z; omega]; rfl
end
def UV (m : MS) : Prop := ∀ r ∈ m.AF, ∀ x ∈ r.Ai, Bs x.Value
theorem Ry {i : TIn} {t : MT} (hk : Bs i.K) (h : ∀ j, Bs (t.Ae j)) : ∀ j, Bs ((EA i t).Ae j) := by
 unfold EA
 repeat' split
 · exact BO h hk
 · exact BO h (h _)
 · exact h
 · exact BO h (LA (h _) (h _))
 · exact h
theorem QC {l : List TIn} (hl : ∀ i ∈ l, Bs i.K) : ∀ (n : Nat) (t : MT), (∀ j, Bs (t.Ae j)) → 0 ≤ t.At → (∀ n' : Nat, 0 ≤ (EG l n' t).At) → ∀ j, Bs ((EG l n t).Ae j)
 | 0, _, h, _, _ => h
 | n + 1, t, h, h0, hA => by
   unfold EG
   split
   · rename_i hc
     have hs : ∀ n' : Nat, 0 ≤ (EG l n' (EA (gI l t.At) t)).At := fun n' => by rw [← JQ hc]; exact hA _
     exact QC hl n _ (Ry (hl _ (H6 h0 hc.1)) h) (hs 0) hs
   · exact h
theorem OY {rs : List TRg} {l : List TIn} {t : MT} (hc : HR rs l) (hl : ∀ i ∈ l, Bs i.K) (hT : Fh l t) (h : ∀ j, Bs (t.Ae j)) : (∀ j, Bs ((CH l t).1.Ae j)) ∧ Bs (CH l t).2.Value := by
 unfold CH
 repeat' split
 · exact ⟨h, Cd⟩
 · exact ⟨h, h _⟩
 · exact ⟨h, Cd⟩
 · have hr := QC hl 256 t h hT.a0 fun n => (HV hc n t hT.a0 hT.a1).2.1
   refine ⟨hr, ?_⟩
   simp only [E3]
   repeat' split
   all_goals first | exact Cd | exact hr _
theorem Hv {r : MR} (h : ∀ x ∈ r.Ai, Bs x.Value) (t : Int) : Bs (A1 r t).Value := by
 unfold A1
 rw [List.getD_eq_getElem?_getD]
 cases q : r.Ai[G3 r t]? with
 | none => exact Cd
 | some x => exact h _ (List.mem_of_getElem? q)
theorem M6 {m : MS} (h : UV m) (i : Int) : ∀ x ∈ (CO m i).Ai, Bs x.Value := by
 unfold CO
 rw [List.getD_eq_getElem?_getD]
 cases q : m.AF[i.toNat]? with
 | none => intro x hx; cases hx
 | some x => exact h _ (List.mem_of_getElem? q)
theorem Qx {r : MR} {a : MA} {e : TEv} (h : ∀ x ∈ r.Ai, Bs x.Value) (ha : Bs a.Value) : ∀ x ∈ (CB r a e).Ai, Bs x.Value := by
 unfold CB
 repeat' split
 · exact h
 · intro x hx
   rcases List.mem_or_eq_of_mem_set hx with q | q
   · exact h x q
   · subst q; exact ha
 · exact h
 · intro x hx
   rcases List.mem_or_eq_of_mem_set hx with q | q
   · exact h x q
   · subst q
     unfold K8
     split
     · exact Cd
     · exact Hv h _
 · exact h
 · exact h
theorem Ml {P : MP} {m : MS} {e : TEv} (h : UV m) (ha : Bs (Aq P m e.Thread).Value) : UV (As P m e) := by
 intro r hr
 unfold As at hr
 simp only at hr
 split at hr
 · rcases List.mem_or_eq_of_mem_set hr with q | q
   · exact h r q
   · subst q; exact Qx (M6 h _) ha
 · exact h r hr
theorem TL {P : MP} : UV (Gk P) := by
 intro r hr x hx
 simp only [Gk, List.mem_map] at hr
 obtain ⟨c, _, rfl⟩ := hr
 simp only [Gz, List.mem_map] at hx
 obtain ⟨i, _, rfl⟩ := hx
 exact Cd
theorem Jk.k {p : TPg} (h : Jk p) {t : Nat} (ht : t < p.AB.n) : ∀ i ∈ (p.AB.get t).L, Bs i.K := fun i hi => by
 obtain ⟨j, hj, rfl⟩ := Sl.Cg.1 hi
 exact (h.ins t ht j hj).1
theorem w_fq (l : Sl TIn) (t : TTh) (e : TEv) (v : Int) (b : Nat) (hb : b * 8 + 8 ≤ 140737488351232) (hl : OU l) (hc : codeOk l) (ht : EH b t) (h0 : 0 ≤ t.At) (hv : Bs v) (hev : Bs e.Value) (het : Bs e.AG)
 (Jp : e.Kind ≠ 1 → e.Kind ≠ 3 → e.Kind ≠ 14 → e.Kind ≠ 15 → t.At < l.n) :
 D_fq.wp (l, (t, (e, v))) fun y => aT y = BR (gI l.L t.At) (aT t) e v ∧ EH (b + 1) y := by
 have hsb := ht.sb
 have ok : ∀ {g : TTh}, (0 ≤ g.AG ∧ g.AG < 18446744073709551616) → g.Ae = t.Ae → g.Seen = t.Seen → EH (b + 1) g := fun {g} h1 h2 h3 => ⟨h1.1, h1.2, by rw [h2]; exact ht.rg, by rw [h3]; exact ht.sz, by rw [h3]; omega⟩
 refine of_wp ?_
 simp only [tt_fq]
 refine AE ieI (fun h => ⟨by rw [Vc _ h, h]; rfl, ok het rfl rfl⟩) fun h1 => AE ieI (fun h => ⟨by rw [Vb _ h, h]; rfl, ok het rfl rfl⟩) fun h3 => AE ieI (fun h => ⟨by rw [TF _ h, h]; rfl, ok ⟨ht.k0, ht.k1⟩ rfl rfl⟩) fun h14 =>
  AE ieI (fun h => ⟨by rw [TE _ h, h]; rfl, ok ⟨ht.k0, ht.k1⟩ rfl rfl⟩) fun h15 => of_wp ?_
 have h2 := Jp h1 h3 h14 h15
 have h256 := hc.1
 have hF := L1 hl hc h0 h2
 rw [Hl l h0 h2]
 simp only [tt_fq_12]
 generalize l.get t.At.toNat = i at hF
 have hf := BF hF.ri
 have hA : A3 i.A 8 = true := by rw [ibI]; omega
 have hB : A3 i.B 8 = true := by rw [ibI]; omega
 have hw : IntKind.i64.wrap (t.At + 1) = t.At + 1 := wrap64 (by omega) (by omega)
 have u1 : Bs 1 := by unfold Bs; decide
 have u2 : Bs 2 := by unfold Bs; decide
 have u3 : Bs 3 := by unfold Bs; decide
 rw [K9 h1 h3 h14 h15]
 simp only [hA, hB, IM, Nat.zero_add, L9, cond_false, Nat.sub_zero]
 refine wN (by rw [ibI]; exact ⟨h0, h2⟩) ?_
 have h23 : ∀ (g : Nat → Int) (sn : Sl Int) (z : TTh), (∀ j, Bs (g j)) → CR sn → sn.n ≤ b + 1 →
  D_fq_33.wp (⟨⟨t.At, t.Phase, t.Ring, t.Status, t.AG, g, sn⟩, z⟩ : X_fq_33) fun y => aT y = ⟨t.At + 1, 0, 0, t.Status, 0, g, sn.L⟩ ∧ EH (b + 1) y := fun g sn z hg hs hn => by
  refine of_wp ?_
  simp only [tt_fq_33, hw]
  exact ⟨rfl, ⟨Int.le_refl 0, (by decide : (0 : Int) < 18446744073709551616), hg, hs, hn⟩⟩
 have e0 : (aT t).At = t.At := rfl
 have e1 : (aT t).Ae = t.Ae := rfl
 have e2 : (aT t).Seen = t.Seen.L := rfl
 have e3 : (aT t).Status = t.Status := rfl
 simp only [e0, e1, e2, e3]
 have go : ∀ (g : Nat → Int) (z : TTh), (∀ j, Bs (g j)) → D_fq_33.wp (⟨⟨t.At, t.Phase, t.Ring, t.Status, t.AG, g, t.Seen⟩, z⟩ : X_fq_33) fun y => aT y = ⟨t.At + 1, 0, 0, t.Status, 0, g, t.Seen.L⟩ ∧ EH (b + 1) y :=
  fun g z hg => h23 g t.Seen z hg ht.sz (by omega)
 have w5 : IntKind.u64.wrap (IntKind.i64.wrap (5 - 4)) = 1 := rfl
 have w6 : IntKind.u64.wrap (IntKind.i64.wrap (6 - 4)) = 2 := rfl
 have w7 : IntKind.u64.wrap (IntKind.i64.wrap (7 - 4)) = 3 := rfl
 refine AE ieI (fun h => ?_) fun n2 => AE ieI (fun h => ?_) fun n4 => AE ieI (fun h => ?_) fun n5 => AE ieI (fun h => ?_) fun n6 => AE ieI (fun h => ?_) fun n7 => AE ieI (fun h => ?_) fun n8 => AE ieI (fun h => ?_) fun n9 =>
  AE ieI (fun h => ?_) fun n10 => AE ieI (fun h => ?_) fun n11 => AE ieI (fun h => ?_) fun n12 => ?_
 · simp only [h, if_true, Int.reduceEq, if_false]; exact wN rfl (go _ _ (BO ht.rg Cd))
 · simp only [h, if_true, Int.reduceEq, if_false]; exact wN rfl (wN rfl (go _ _ (BO (BO ht.rg hv) Cd)))
 · rw [h, w5]; simp only [if_true, Int.reduceEq, if_false]; exact wN rfl (go _ _ (BO ht.rg u1))
 · rw [h, w6]; simp only [if_true, Int.reduceEq, if_false]; exact wN rfl (go _ _ (BO ht.rg u2))
 · rw [h, w7]; simp only [if_true, Int.reduceEq, if_false]; exact wN rfl (go _ _ (BO ht.rg u3))
 · simp only [h, if_true, Int.reduceEq, if_false]; exact wN rfl (go _ _ (BO ht.rg hev))
 · simp only [h, if_true, Int.reduceEq, if_false]; exact wN rfl (go _ _ (BO ht.rg hev))
 · simp only [h, if_true, Int.reduceEq, if_false]; exact wN rfl (wN rfl (go _ _ (BO (BO ht.rg hev) Cd)))
 · simp only [h, if_true, Int.reduceEq, if_false]; exact wN rfl (go _ _ (BO ht.rg u1))
 · simp only [h, if_true, Int.reduceEq, if_false]
   refine wN (by simp [room]; omega) (wN (by simp [room]; omega) ?_)
   have := h23 t.Ae (snoc t.Seen e.Value) ⟨0, 0, 0, 0, 0, fun _ => 0, ⟨true, 0, fun _ => 0⟩⟩ ht.rg (fun z => by cases z) (by show t.Seen.n + 1 ≤ b + 1; omega)
   rw [R0] at this
   exact this
 · rw [if_neg n2, if_neg n4, if_neg n5, if_neg n6, if_neg n7, if_neg n8, if_neg n9, if_neg n10, if_neg n11, if_neg n12]
   exact go _ _ ht.rg
theorem map_set {α β : Type} (f : α → β) (l : List α) (k : Nat) (x : α) : (l.set k x).map f = (l.map f).set k (f x) := by
 apply List.ext_getElem
 · simp
 · intro i h1 h2
   simp only [List.getElem_map]
   by_cases e : k = i
   · subst e; simp
   · simp [List.getElem_set_ne e]
section
variable {p : TPg} {k : Nat} {e : TEv}
theorem l_f8_25 (st : TSt) (_z n : TTh) (zz : TSt) (v : Int) (hp : Jk p) (hP : FL (aP p)) (h0 : 0 ≤ e.Thread) (h1 : e.Thread < p.AB.n) (hn : st.AB.n = p.AB.n) (hts : ∀ t, t < st.AB.n → EH k (st.AB.get t)) (hk : k ≤ 1000000000)
 (hw : EH k n) (hn0 : 0 ≤ n.At) (hv : Bs v) (he : SR e) (Jp : e.Kind ≠ 1 → e.Kind ≠ 3 → e.Kind ≠ 14 → e.Kind ≠ 15 → n.At < (p.AB.get e.Thread.toNat).n) :
 D_f8_25.wp (⟨p, e, v, st, zz, n⟩ : X_f8_25) fun y => aS y = ⟨(aS st).AB.set e.Thread.toNat (BR (gI (CD (aP p) e.Thread) n.At) (aT n) e v), (aS st).AF, st.FQ, st.Reads, st.Ba⟩ ∧ ∀ t, t < y.AB.n → EH (k + 1) (y.AB.get t) := by
 have h8 := (BX hP).2.1
 have ht : e.Thread.toNat < p.AB.n := by omega
 refine of_wp ?_
 simp only [tt_f8_25, Nat.zero_add, L9, cond_false, Nat.sub_zero]
 refine wN (by simp [room]; omega) (wN (by rw [ibI]; omega) ?_)
 refine wC (w_fq _ n e v k (by omega) (hp.c ht) (NX hP ht) hw hn0 hv he.vl he.tk Jp) fun (y : TTh) hy => wN (by rw [ibI]; omega) (wN (by simp) (wN (by simp) (Cn ?_)))
 have key : ∀ {Q : Sl TTh → Prop}, Q (Sl.mk false st.AB.n (IL st.AB e.Thread.toNat y).get) → Q (Sl.mk (cond (Nat.beq st.AB.n 0) false false) st.AB.n fun i => (TTh.mk (cond (Nat.beq i e.Thread.toNat) y.At (st.AB.get i).At) (cond (Nat.beq i e.Thread.toNat) y.Phase (st.AB.get i).Phase) (cond (Nat.beq i e.Thread.toNat) y.Ring (st.AB.get i).Ring) (cond (Nat.beq i e.Thread.toNat) y.Status (st.AB.get i).Status)
  (cond (Nat.beq i e.Thread.toNat) y.AG (st.AB.get i).AG) (fun j => cond (Nat.beq i e.Thread.toNat) (y.Ae j) ((st.AB.get i).Ae j)) (Sl.mk (cond (Nat.beq i e.Thread.toNat) y.Seen.nil (st.AB.get i).Seen.nil) (cond (Nat.beq i e.Thread.toNat) y.Seen.n (st.AB.get i).Seen.n) (fun j => cond (Nat.beq i e.Thread.toNat) (y.Seen.get j) ((st.AB.get i).Seen.get j))))) := fun {Q} hh => by
  rw [Bool.cond_self]
  refine (congrArg (fun g => Q (Sl.mk false st.AB.n g)) (funext fun i => ?_)).mp hh
  show cond (Nat.beq i e.Thread.toNat) y (st.AB.get i) = _
  cases Nat.beq i e.Thread.toNat <;> rfl
 refine key (Q := fun T => (TT.ret (⟨T, st.AF, st.FQ, st.Reads, st.Ba⟩ : TSt) : TT Tryz.prog R_f8).wp _) ?_
 refine ⟨?_, fun t htt => ?_⟩
 · show (⟨List.map aT (Sl.L _), _, _, _, _⟩ : MS) = _
   have hL : (⟨false, st.AB.n, (IL st.AB e.Thread.toNat y).get⟩ : Sl TTh).L = st.AB.L.set e.Thread.toNat y := by rw [← Gb]; rfl
   rw [hL, map_set, hy.1, FK h0 h1]
   rfl
 · show EH (k + 1) ((IL st.AB e.Thread.toNat y).get t)
   by_cases q : t = e.Thread.toNat
   · subst q; rw [M4]; exact hy.2
   · rw [M3 q]; exact (hts t htt).grow (by omega)
end
theorem w_f3n' (r : TR3) (hn : r.AV.n ≤ 8) (hl : r.S.L.n ≤ 64) : D_f3n.wp r fun y => I3 y = DC r ∧ CR y.AV ∧ CR y.Ai := by
 refine of_wp ?_
 simp only [tt_f3n, Nat.zero_add, L9, cond_false, Nat.sub_zero]
 refine wN (by simp [room]; omega) (wN (by simp [room]; omega) ⟨rfl, fun e => ?_, fun e => ?_⟩)
 · simp only [Bool.cond_self, Bool.false_eq_true] at e
 · simp only [Bool.cond_self, Bool.false_eq_true] at e
section
variable {p : TPg} {B : Int} {k : Nat} {s : TSt} {e : TEv}
structure Bh (p : TPg) (k : Nat) (e : TEv) (n : TTh) (v : Int) : Prop where
 hp : Jk p
 hP : FL (aP p)
 t0 : 0 ≤ e.Thread
 t1 : e.Thread < p.AB.n
 hk : k ≤ 1000000000
 hw : EH k n
 n0 : 0 ≤ n.At
 hv : Bs v
 he : SR e
 Jp : e.Kind ≠ 1 → e.Kind ≠ 3 → e.Kind ≠ 14 → e.Kind ≠ 15 → n.At < (p.AB.get e.Thread.toNat).n
def PK (p : TPg) (ts : List MT) (e : TEv) (n : TTh) (v : Int) : List MT := ts.set e.Thread.toNat (BR (gI (CD (aP p) e.Thread) n.At) (aT n) e v)
theorem l_f8_19 (st zz : TSt) (z n : TTh) (v : Int) (h : Bh p k e n v) (hn : st.AB.n = p.AB.n) (hts : ∀ t, t < st.AB.n → EH k (st.AB.get t)) :
 D_f8_19.wp (⟨p, e, v, st, zz, n⟩ : X_f8_19) fun y => aS y = ⟨PK p (aS st).AB e n v, (aS st).AF, if e.Kind = 8 then max st.FQ e.Value else st.FQ, if e.Kind = 10 then IntKind.u64.wrap (st.Reads + 1) else st.Reads, if e.Kind = 11 then true else st.Ba⟩ ∧ ∀ t, t < y.AB.n → EH (k + 1) (y.AB.get t) := by
 have h25 : ∀ now rd en, D_f8_25.wp (⟨p, e, v, ⟨st.AB, st.AF, now, rd, en⟩, zz, n⟩ : X_f8_25) fun y => aS y = ⟨PK p (aS st).AB e n v, (aS st).AF, now, rd, en⟩ ∧ ∀ t, t < y.AB.n → EH (k + 1) (y.AB.get t) := fun now rd en =>
  l_f8_25 ⟨st.AB, st.AF, now, rd, en⟩ z n zz v h.hp h.hP h.t0 h.t1 hn hts h.hk h.hw h.n0 h.hv h.he h.Jp
 have h23 : ∀ now rd, D_f8_23.wp (⟨p, e, v, ⟨st.AB, st.AF, now, rd, st.Ba⟩, zz, n⟩ : X_f8_23) fun y => aS y = ⟨PK p (aS st).AB e n v, (aS st).AF, now, rd, if e.Kind = 11 then true else st.Ba⟩ ∧ ∀ t, t < y.AB.n → EH (k + 1) (y.AB.get t) := fun now rd => by
  refine of_wp ?_
  simp only [tt_f8_23]
  refine AE ieI (fun q => ?_) fun q => ?_
  · rw [if_pos q]; exact h25 _ _ _
  · rw [if_neg q]; exact h25 _ _ _
 have h21 : ∀ now, D_f8_21.wp (⟨p, e, v, ⟨st.AB, st.AF, now, st.Reads, st.Ba⟩, zz, n⟩ : X_f8_21) fun y => aS y = ⟨PK p (aS st).AB e n v, (aS st).AF, now, if e.Kind = 10 then IntKind.u64.wrap (st.Reads + 1) else st.Reads, if e.Kind = 11 then true else st.Ba⟩ ∧ ∀ t, t < y.AB.n → EH (k + 1) (y.AB.get t) := fun now => by
  refine of_wp ?_
  simp only [tt_f8_21]
  refine AE ieI (fun q => ?_) fun q => ?_
  · rw [if_pos q]; exact h23 _ _
  · rw [if_neg q]; exact h23 _ _
 refine of_wp ?_
 simp only [tt_f8_19]
 refine AE ieI (fun q => AE ilI (fun q2 => ?_) fun q2 => ?_) fun q => ?_
 · rw [if_pos q, Int.max_eq_right (Int.le_of_lt q2)]; exact h21 _
 · rw [if_pos q, Int.max_eq_left (Int.not_lt.1 q2)]; exact h21 _
 · rw [if_neg q]; exact h21 _
theorem l_f8_16 (st zz : TSt) (n : TTh) (v : Int) (r : TR3) (h : Bh p k e n v) (hn : st.AB.n = p.AB.n) (hts : ∀ t, t < st.AB.n → EH k (st.AB.get t)) (hr8 : st.AF.n ≤ 8) (hr : 0 ≤ e.Ring ∧ e.Ring < st.AF.n) (r8 : r.AV.n ≤ 8) (r64 : r.S.L.n ≤ 64) :
 D_f8_16.wp (⟨p, e, v, st, zz, n, r⟩ : X_f8_16) fun y => aS y = ⟨PK p (aS st).AB e n v, (aS st).AF.set e.Ring.toNat (DC r), if e.Kind = 8 then max st.FQ e.Value else st.FQ, if e.Kind = 10 then IntKind.u64.wrap (st.Reads + 1) else st.Reads, if e.Kind = 11 then true else st.Ba⟩ ∧ ∀ t, t < y.AB.n → EH (k + 1) (y.AB.get t) := by
 refine of_wp ?_
 simp only [tt_f8_16, Nat.zero_add, L9, cond_false, Nat.sub_zero]
 refine wN (by simp [room]; omega) (wC (w_f3n' r r8 r64) fun (y : TRs) hy => wN (by rw [ibI]; exact hr) (wN (by simp) (wN (by simp) (Cn ?_))))
 have key : ∀ {Q : Sl TRs → Prop}, Q (Sl.mk false st.AF.n (IL st.AF e.Ring.toNat y).get) → Q (Sl.mk (cond (Nat.beq st.AF.n 0) false false) st.AF.n fun i => (TRs.mk (cond (Nat.beq i e.Ring.toNat) y.Ax (st.AF.get i).Ax)
  (Sl.mk (cond (Nat.beq i e.Ring.toNat) y.AV.nil (st.AF.get i).AV.nil) (cond (Nat.beq i e.Ring.toNat) y.AV.n (st.AF.get i).AV.n) (fun j => cond (Nat.beq i e.Ring.toNat) (y.AV.get j) ((st.AF.get i).AV.get j))) (cond (Nat.beq i e.Ring.toNat) y.Ao (st.AF.get i).Ao)
  (Sl.mk (cond (Nat.beq i e.Ring.toNat) y.Ai.nil (st.AF.get i).Ai.nil) (cond (Nat.beq i e.Ring.toNat) y.Ai.n (st.AF.get i).Ai.n) (fun j => (TSo.mk (cond (Nat.beq i e.Ring.toNat) (y.Ai.get j).AP ((st.AF.get i).Ai.get j).AP) (cond (Nat.beq i e.Ring.toNat) (y.Ai.get j).Value ((st.AF.get i).Ai.get j).Value) (cond (Nat.beq i e.Ring.toNat) (y.Ai.get j).Left ((st.AF.get i).Ai.get j).Left)))))) := fun {Q} hh => by
  rw [Bool.cond_self]
  refine (congrArg (fun g => Q (Sl.mk false st.AF.n g)) (funext fun i => ?_)).mp hh
  show cond (Nat.beq i e.Ring.toNat) y (st.AF.get i) = _
  cases Nat.beq i e.Ring.toNat <;> rfl
 refine key (Q := fun T => (TT.AM S_f8_19 D_f8_19 (⟨p, e, v, (⟨st.AB, T, st.FQ, st.Reads, st.Ba⟩ : TSt), zz, n⟩ : X_f8_19) : TT Tryz.prog R_f8).wp _) ?_
 have := l_f8_19 (k := k) ⟨st.AB, Sl.mk false st.AF.n (IL st.AF e.Ring.toNat y).get, st.FQ, st.Reads, st.Ba⟩ zz n n v h hn hts
 have hL : (aS ⟨st.AB, Sl.mk false st.AF.n (IL st.AF e.Ring.toNat y).get, st.FQ, st.Reads, st.Ba⟩).AF = (aS st).AF.set e.Ring.toNat (DC r) := by
  show (Sl.L _).map I3 = _
  have hL : (Sl.mk false st.AF.n (IL st.AF e.Ring.toNat y).get : Sl TRs).L = st.AF.L.set e.Ring.toNat y := by rw [← Gb]; rfl
  rw [hL, map_set, hy.1]; rfl
 rw [hL] at this
 exact this
theorem w_f8 (h : SC p B k s) (uv : UV (aS s)) (he : SR e) (f : Dg (aP p) (aS s) e) (ht : Az e.Kind = true → DP (CO (aS s) e.Ring) (Aq (aP p) (aS s) e.Thread) e = true) :
 D_f8.wp (p, (s, e)) fun y => aS y = As (aP p) (aS s) e ∧ ∀ t, t < y.AB.n → EH (k + 1) (y.AB.get t) := by
 obtain ⟨t0, t1⟩ := Em h.inv f
 have htn := h.tn
 have hrn := h.rn
 have h8 := h.small
 have hre := B6 f.re
 have hf := Pt f.re f.ft
 refine of_wp ?_
 simp only [tt_f8]
 refine wN (by rw [ibI]; omega) (wN (by rw [ibI]; omega) (wC (KZ h t0 t1) fun (y : TTh × TA6) hy => ?_))
 obtain ⟨n, a⟩ := y
 obtain ⟨hn, ha, hw⟩ := hy
 simp only at hn ha hw
 have htk : 0 ≤ e.AG ∧ e.AG < 4611686018427387904 := ⟨he.tk.1, hre.2.2.2.1⟩
 obtain ⟨hq, hnT, hkp, hcr⟩ := h.inv.asked f.lt
 rw [← hn] at hq hnT
 have n0 : 0 ≤ n.At := hnT.a0
 have Jp : e.Kind ≠ 14 → e.Kind ≠ 15 → n.At < (p.AB.get e.Thread.toNat).n := fun q1 q2 => by
  have := Sy hq hf hre.1 q1 q2
  rw [FK t0 t1, Sl.Bf] at this
  exact this
 have bh : ∀ v, Bs v → Bh p k e n v := fun v hv => ⟨h.hp, h.inv.pi, t0, t1, h.hk, hw, n0, hv, he, fun _ _ q1 q2 => Jp q1 q2⟩
 have thr_eq : ∀ v, v = (if e.Kind = 4 then (A1 (CO (aS s) e.Ring) e.AG).Value else 0) → PK p (aS s).AB e n v = (As (aP p) (aS s) e).AB := fun v hv => by
  unfold PK As
  simp only
  rw [← hn, hv]
  rfl
 -- with a ring
 have ring : Az e.Kind = true → (∀ (r : TR3) (v : Int), Bs v → v = (if e.Kind = 4 then (A1 (CO (aS s) e.Ring) e.AG).Value else 0) → DC r = CB (CO (aS s) e.Ring) (Aq (aP p) (aS s) e.Thread) e → ∀ zz,
  D_f8_16.wp (⟨p, e, v, s, zz, n, r⟩ : X_f8_16) fun y => aS y = As (aP p) (aS s) e ∧ ∀ t, t < y.AB.n → EH (k + 1) (y.AB.get t)) := fun q r v hv hve hr zz => by
  obtain ⟨r1, _, r2⟩ := Fo h.inv f (Co q)
  have hR := h.inv.Kj (i := e.Ring) (by simp [aP]; omega)
  have ho := Fo h.inv f (Co q)
  have hI := N4 hR.1 hR.2 h.hB he.tk.1 (by rw [H9 r1.1 r1.2]; exact ho.2.1) hf (ht q)
  rw [← hr] at hI
  have hc := Cz hR.2
  have c1 := hI.cap
  have c2 := hI.rd
  simp only [DC, Sl.Bf] at c1 c2
  refine (l_f8_16 (k := k) s zz n v r (bh v hv) htn h.ts (by omega) (by omega) (by omega) (by omega)).mono fun y hy => ⟨?_, hy.2⟩
  rw [hy.1, thr_eq v hve, hr]
  have h1 := Av.1 q
  unfold As
  simp only
  rw [if_pos q]
  rfl
 have vz : e.Kind ≠ 4 → (0 : Int) = (if e.Kind = 4 then (A1 (CO (aS s) e.Ring) e.AG).Value else 0) := fun q => by rw [if_neg q]
 have wr := fun (q : Az e.Kind = true) => (w_f3f h (Fo h.inv f (Co q)).1.1 (Fo h.inv f (Co q)).1.2)
 refine AE leI (fun k4 => ?_) fun k4 => AE ieI (fun k13 => ?_) fun k13 => ?_
 · have q : Az e.Kind = true := Av.2 (by omega)
   have hT := ht q
   unfold DP at hT
   refine wC (wr q) fun (r : TR3) hr => ?_
   obtain ⟨h3, hr⟩ := hr
   rw [← hr, ← ha] at hT
   have hn3 := h3.hn
   have ho := Fo h.inv f (Co q)
   rw [← ha] at ho
   refine AE ieI (fun k1 => ?_) fun n1 => AE ieI (fun k2 => ?_) fun n2 => AE ieI (fun k3 => ?_) fun n3 => AE ieI (fun k4 => ?_) fun n4 => by omega
   · refine ring q _ 0 Cd (vz (by omega)) ?_ _
     have := h3.t
     unfold CB
     rw [if_pos k1, ← hr, Am (z := r.Ax + 1) (by omega) (by omega)]; rfl
   · rw [if_neg n1, if_pos k2] at hT
     refine wC (w_f31 h3 htk.1 htk.2) fun (y : Int × TR3) hy => ring q _ 0 Cd (vz (by omega)) ?_ _
     unfold CB
     rw [if_neg n1, if_pos k2, hy.2 hT, ← hr, ← ha]; rfl
   · rw [if_neg n1, if_neg n2, if_pos k3] at hT
     simp only [Bool.and_eq_true, Bool.not_eq_true', decide_eq_true_eq] at hT
     obtain ⟨j0, j1⟩ := ho.2.2 (.inl k3)
     refine wC (w_f2s h3 (j := a.Reader) j0 (by show (CK a).Reader < _; omega) hT.1) fun (y : Int × Int × TR3) hy => ring q _ 0 Cd (vz (by omega)) ?_ _
     unfold CB
     rw [if_neg n1, if_neg n2, if_pos k3, hy, ← hr, ← ha]; rfl
   · rw [if_neg n1, if_neg n2, if_neg n3, if_pos k4] at hT
     obtain ⟨j0, j1⟩ := ho.2.2 (.inr k4)
     refine wC (w_f1p h3 h.hB (j := a.Reader) j0 (by show (CK a).Reader < _; omega) htk.1) fun (y : Int × Int × TR3) hy => ?_
     obtain ⟨hv, hy2⟩ := hy.2 hT
     refine ring q _ _ ?_ ?_ ?_ _
     · rw [hv, hr]; exact Hv (M6 uv _) _
     · rw [hv, hr, if_pos k4]
     · unfold CB
       rw [if_neg n1, if_neg n2, if_neg n3, if_pos k4, hy2, ← hr, ← ha]; rfl
 · have q : Az e.Kind = true := Av.2 (by omega)
   refine wC (wr q) fun (r : TR3) hr => ?_
   obtain ⟨h3, hr⟩ := hr
   refine AE ieI (fun z => by omega) fun n1 => AE ieI (fun z => by omega) fun n2 => AE ieI (fun z => by omega) fun n3 => AE ieI (fun z => by omega) fun n4 => AE ieI (fun _ => ?_) fun z => absurd k13 z
   refine ring q _ 0 Cd (vz n4) ?_ _
   unfold CB
   rw [if_neg n1, if_neg n2, if_neg n3, if_neg n4, if_pos k13, ← hr]; rfl
 · have q : Az e.Kind = false := Bool.eq_false_iff.2 fun z => by rw [Av] at z; omega
   refine (l_f8_19 (k := k) s _ n n 0 (bh 0 Cd) htn h.ts).mono fun y hy => ⟨?_, hy.2⟩
   rw [hy.1, thr_eq 0 (vz (by omega))]
   unfold As
   simp only [q, Bool.false_eq_true, if_false]
   rfl
structure SV (p : TPg) (B : Int) (k : Nat) (s : TSt) : Prop where
 sc : SC p B k s
 uv : UV (aS s)
theorem Ni (h : SV p B k s) {t : Int} (h0 : 0 ≤ t) (h1 : t < p.AB.n) : Bs (Aq (aP p) (aS s) t).Value := by
 have htn := h.sc.tn
 unfold Aq
 rw [FK h0 h1, PJ h0 (by omega)]
 exact (OY (Hh h.sc.inv h0 h1) (h.sc.hp.k (by omega)) (h.sc.J2 h0 h1) (h.sc.ts _ (by omega)).rg).2
theorem SV.behind (h : SV p B k s) (he : SR e) (f : Dg (aP p) (aS s) e) (ht : Az e.Kind = true → DP (CO (aS s) e.Ring) (Aq (aP p) (aS s) e.Thread) e = true) (hB : B + 1 ≤ 2305843009213693952) (hk : k + 1 ≤ 1000000000) :
 D_f8.wp (p, (s, e)) fun y => aS y = As (aP p) (aS s) e ∧ SV p (B + 1) (k + 1) y :=
 (w_f8 h.sc h.uv he f ht).mono fun y hy => by
   obtain ⟨t0, t1⟩ := Em h.sc.inv f
   exact ⟨hy.1, ⟨h.sc.hp, by rw [hy.1]; exact LG h.sc.inv h.sc.hB he.tk.1 f ht, hy.2, hB, hk⟩, by rw [hy.1]; exact Ml h.uv (Ni h t0 t1)⟩
theorem SV.grow (h : SV p B k s) (hB : B + 1 ≤ 2305843009213693952) (hk : k + 1 ≤ 1000000000) : SV p (B + 1) (k + 1) s :=
 ⟨⟨h.sc.hp, h.sc.inv.mono (by omega), fun t ht => (h.sc.ts t ht).grow (by omega), hB, hk⟩, h.uv⟩
theorem w_f4f (h : SV p B k s) (he : SR e) (hB : B + 1 ≤ 2305843009213693952) (hk : k + 1 ≤ 1000000000) : D_f4f.wp (p, (s, e)) fun y => y.1 = (T3 (aP p) (aS s) e).1 ∧ aS y.2 = (T3 (aP p) (aS s) e).2 ∧ SV p (B + 1) (k + 1) y.2 := by
 refine of_wp ?_
 simp only [tt_f4f]
 refine wC (w_f3y h.sc) fun (y : Int) hy => ?_
 subst hy
 unfold T3
 refine AE (p := EP (aP p) (aS s) e ≠ 0) (by rw [bnI, ieI]) (fun q => ?_) fun q => wC (w_f32 h.sc he) fun (y : Bool) hy => ?_
 · rw [if_pos q]; exact ⟨rfl, rfl, h.grow hB hk⟩
 · subst hy
   rw [if_neg q]
   refine AE bnI (fun q2 => ?_) fun q2 => ?_
   · rw [if_pos (by simpa using q2)]; exact ⟨rfl, rfl, h.grow hB hk⟩
   · have hA := Classical.byContradiction q2
     rw [if_neg (by rw [hA]; simp)]
     obtain ⟨f, _, hm⟩ := HO hA
     exact wC (h.behind he f (fun z => OZ (p := aP p) hm f.re z) hB hk) fun (y : TSt) hy => ⟨rfl, hy⟩
end
structure FC (p : TPg) (B : Int) (k : Nat) (f : TFa) : Prop where
 hp : Jk p
 inv : Ec (aP p) B (aF f)
 wf : Vf p k f
 uv : UV (aF f)
 hB : B ≤ 2305843009213693952
 hk : k ≤ 1000000000
theorem EI {P : Program} {R : Type} {b1 b2 : Bool} {pr : Prop} {r : R} {Q : R → Prop} (h1 : b1 = true) (h2 : b2 = true) (h : Q r) : (TT.need b1 (TT.side pr (TT.need b2 (TT.ret r))) : TT P R).wp Q := ⟨h1, h2, h⟩
section
variable {p : TPg} {B : Int} {k : Nat} {f : TFa} {e : TEv}
theorem FC.small (h : FC p B k f) : 1 ≤ p.AB.n ∧ p.AB.n ≤ 8 ∧ p.AF.n ≤ 8 := ⟨(BX h.inv.pi).1, (BX h.inv.pi).2.1, (BX h.inv.pi).2.2.1⟩
theorem FC.code (h : FC p B k f) {t : Int} (h0 : 0 ≤ t) (h1 : t < p.AB.n) : OU (f.p.AB.get t.toNat) ∧ codeOk (f.p.AB.get t.toNat) ∧ (f.p.AB.get t.toNat).L = CD (aP p) t ∧ f.p.AB.n = p.AB.n := by
 have hc := h.wf.cp
 have ht : t.toNat < p.AB.n := by omega
 have hs := (hc.t t.toNat ht).1
 refine ⟨hs.OU (h.hp.c ht), ?_, ?_, hc.n⟩
 · exact NX (p := f.p) (by rw [hc.same]; exact h.inv.pi) (by rw [hc.n]; exact ht)
 · rw [hs.L, FK h0 h1]
theorem FC.J2 (h : FC p B k f) {t : Int} (h0 : 0 ≤ t) (h1 : t < p.AB.n) : Fh (CD (aP p) t) (aT (f.threads.get t.toNat)) := by
 have ht := h.wf.tn
 have := h.inv.J2 (t := t) (by simp [aF]; omega)
 rwa [I8 h0 (by omega)] at this
theorem FC.ring (h : FC p B k f) {i : Int} (h0 : 0 ≤ i) (h1 : i < p.AF.n) : RC (p.AF.get i.toNat) B (f.rings.get i.toNat).x ∧ (f.rings.get i.toNat).nil = false ∧ CO (aF f) i = aR (f.rings.get i.toNat).x := by
 have hr := h.wf.rn
 have hB := h.hB
 have h2 : i.toNat < f.rings.n := by omega
 have hR := h.inv.Kj (i := i) (by simp [aP]; omega)
 rw [H9 h0 h1, SA h0 (by omega)] at hR
 obtain ⟨w1, w2⟩ := h.wf.rw _ h2
 exact ⟨⟨hR.2, w2, hR.1, by omega⟩, w1, SA h0 (by omega)⟩
theorem ID (t : Int) (f : TFa) : D_f1b.wp (t, f) fun y => y = true ↔ 0 ≤ t ∧ t < f.threads.n := by
 refine B9 ?_
 simp only [tt_f1b]
 exact AE leI (fun h => wN (by simp) (D4 ilI ⟨fun k => ⟨h, k⟩, fun k => k.2⟩)) fun h => Bb fun k => h k.1
theorem Ga (h : FC p B k f) {t : Int} (h0 : 0 ≤ t) (h1 : t < p.AB.n) : D_f1c.wp (t, f) fun y => aA y = Aq (aP p) (aF f) t := by
 obtain ⟨c1, c2, c3, c4⟩ := h.code h0 h1
 have htn := h.wf.tn
 have hk := h.hk
 have hT := h.J2 h0 h1
 rw [← c3] at hT
 refine B9 ?_
 simp only [tt_f1c, Nat.zero_add]
 refine wN (by rw [ibI]; omega) (wN (by rw [ibI]; omega) (wN (by simp) ?_))
 refine wC (w_f36 _ _ k (by omega) c1 c2 hT (h.wf.tw _ (by omega))) fun (y : TTh × TAk × Int) hy => wN (by simp) ?_
 unfold Aq
 rw [I8 h0 (by omega), ← c3]
 exact hy.2.1
theorem RG : EP (aP p) (aF f) e = if Bk e = false then 3 else if (f.threads.n : Int) ≤ e.Thread then 5 else if (Aq (aP p) (aF f) e.Thread).Kind = 0 ∨ Cj (Aq (aP p) (aF f) e.Thread) e = false then 11 else 0 := by
 unfold EP
 rw [show ((aF f).AB.length : Int) = f.threads.n by simp [aF]]
theorem G9 (h : FC p B k f) (he : SR e) : D_f16.wp (e, f) fun y => y = EP (aP p) (aF f) e := by
 have htn := h.wf.tn
 have hk := h.hk
 refine B9 ?_
 simp only [tt_f16, Nat.zero_add]
 rw [RG]
 refine wC (w_f38 e) fun (y : Bool) hy => ?_
 subst hy
 refine BE (g := Prod.fst) (by rw [bnI]; simp) (fun _ => rfl) fun hR => ?_
 have hR : Bk e = true := by simpa using hR
 have hre := B6 hR
 refine wC (ID e.Thread f) fun (y : Bool) hy => ?_
 refine AE bnI (fun q => ?_) fun q => ?_
 · rw [if_pos (Int.not_lt.1 fun z => q (hy.2 ⟨hre.2.1.1, z⟩))]; rfl
 · have hh := hy.1 (Classical.byContradiction q)
   have h0 := hh.1
   have h1 : e.Thread < p.AB.n := by omega
   obtain ⟨c1, c2, c3, c4⟩ := h.code h0 h1
   have hT := h.J2 h0 h1
   rw [← c3] at hT
   have hcr := Hh h.inv h0 h1
   rw [← FK h0 h1, ← c3] at hcr
   refine wN (by rw [ibI]; omega) (wN (by rw [ibI]; omega) (wN (by simp) ?_))
   refine wC (w_f28 _ _ _ e 0 k (by omega) c1 c2 hcr hT (h.wf.tw _ (by omega)) Cd he.vl he.tk.1) fun (y : TTh × Int) hy => wN (by simp) ?_
   have e1 : Aq (aP p) (aF f) e.Thread = (CH (f.p.AB.get e.Thread.toNat).L (aT (f.threads.get e.Thread.toNat))).2 := by
    unfold Aq
    rw [I8 h0 (by omega), ← c3]
   rw [if_neg (by omega), e1]
   show y.2 = _
   rw [hy.1]
   unfold RH
   rw [if_neg (by rw [hR]; simp)]
theorem Lm (h : FC p B k f) (a : TAk) (hr : 0 ≤ e.Ring ∧ e.Ring < p.AF.n) (hrd : e.Kind = 3 ∨ e.Kind = 4 → 0 ≤ a.Reader ∧ a.Reader < (p.AF.get e.Ring.toNat).AR) (ht : 0 ≤ e.AG) :
 D_f1g.wp (e, (a, f)) fun y => y = DP (CO (aF f) e.Ring) (aA a) e := by
 obtain ⟨hC, hnil, hrn⟩ := h.ring hr.1 hr.2
 have hn := hC.hn
 have hfr := h.wf.rn
 have e1 : (aA a).Reader = a.Reader := rfl
 refine B9 ?_
 simp only [tt_f1g, Nat.zero_add]
 have nd : ((true && true) && (((Nat.beq f.rings.n f.rings.n) && (Nat.blt e.Ring.toNat f.rings.n)) && (!(f.rings.get e.Ring.toNat).nil))) = true := by simp [hnil]; omega
 have nd2 : ((true && true) && (Nat.beq f.rings.n f.rings.n)) = true := by simp
 rw [hrn]
 unfold DP
 rw [e1]
 refine wN (by rw [ibI]; omega) (wN (by simp [hnil]) ?_)
 have bd : ∀ {x y : Int}, AW x y = decide (x = y) := fun {x y} => Bd (by rw [decide_eq_true_eq]; exact ieI)
 refine BE (g := Prod.fst) ieI (fun _ => wC (Fm hC) fun (y : Bool) hy => ?_) fun n1 => BE (g := Prod.fst) ieI (fun _ => wC (N2 hC ht) fun (y : Bool) hy => EI nd nd2 hy) fun n2 =>
  BE (g := Prod.fst) ieI (fun q3 => ?_) fun n3 => BE (g := Prod.fst) ieI (fun q4 => ?_) fun n4 => wC (G8 _) fun (y : Int) hy => EI nd nd2 ?_
 · subst hy
   refine AE bnI (fun q => wC (G8 _) fun (y : Int) hy => EI nd nd2 ?_) fun q => EI nd nd2 ?_
   · subst hy
     rw [show Ed (aR (f.rings.get e.Ring.toNat).x) = false by simpa using q]
     exact bd
   · rw [show Ed (aR (f.rings.get e.Ring.toNat).x) = true from Classical.byContradiction q]; rfl
 · obtain ⟨j0, j1⟩ := hrd (.inl q3)
   refine wC (EJ a.Reader j0 (by omega)) fun (y : Bool) hy => ?_
   subst hy
   refine AE bnI (fun q => wC (Jd a.Reader _ j0 (by omega)) fun (y : Int) hy => EI nd nd2 ?_) fun q => EI nd nd2 ?_
   · subst hy
     rw [show EB (aR (f.rings.get e.Ring.toNat).x) a.Reader = false by simpa using q, MX j0 (by omega)]
     exact bd
   · rw [show EB (aR (f.rings.get e.Ring.toNat).x) a.Reader = true from Classical.byContradiction q]; rfl
 · obtain ⟨j0, j1⟩ := hrd (.inr q4)
   exact wC (PE hC j0 (by omega) ht) fun (y : Bool) hy => EI nd nd2 hy
 · subst hy
   exact bd
theorem Lo (h : FC p B k f) (a : TAk) (hr : 0 ≤ a.Ring ∧ a.Ring < p.AF.n) (hrd : a.Kind ≠ 1 → 0 ≤ a.Reader ∧ a.Reader < (p.AF.get a.Ring.toNat).AR) :
 D_f17.wp (a, f) fun y => y = Ca (CO (aF f) a.Ring) (aA a) := by
 obtain ⟨hC, hnil, hrn⟩ := h.ring hr.1 hr.2
 have hn := hC.hn
 have hfr := h.wf.rn
 have e1 : (aA a).Reader = a.Reader := rfl
 have e2 : (aA a).Kind = a.Kind := rfl
 refine B9 ?_
 simp only [tt_f17, Nat.zero_add]
 have nd : ((true && true) && (((Nat.beq f.rings.n f.rings.n) && (Nat.blt a.Ring.toNat f.rings.n)) && (!(f.rings.get a.Ring.toNat).nil))) = true := by simp [hnil]; omega
 have nd2 : ((true && true) && (Nat.beq f.rings.n f.rings.n)) = true := by simp
 rw [hrn]
 unfold Ca
 rw [e1, e2]
 refine wN (by rw [ibI]; omega) (wN (by simp [hnil]) ?_)
 refine BE (g := Prod.fst) ieI (fun _ => wC (Ct _) fun (y : Bool) hy => ?_) fun q => ?_
 · subst hy
   refine Al (fun q => EI nd nd2 (by rw [q]; rfl)) fun q => wC (Fm hC) fun (y : Bool) hy => EI nd nd2 ?_
   subst hy
   rw [show (aR (f.rings.get a.Ring.toNat).x).Ao = false by simpa using q]; rfl
 · obtain ⟨j0, j1⟩ := hrd q
   exact wC (EJ a.Reader j0 (by omega)) fun (y : Bool) hy => EI nd nd2 hy
theorem w_f2w (hk : 1 ≤ e.Kind) : D_f2w.wp e fun y => y = Az e.Kind := by
 refine of_wp ?_
 simp only [tt_f2w]
 exact AE leI (fun q => (Av.2 (by omega)).symm) fun q => Bd (by rw [Av]; exact ieI.trans (by omega))
theorem GF (h : FC p B k f) (he : SR e) : D_fd.wp (e, f) fun y => y = Cb (aP p) (aF f) e := by
 have hfr := h.wf.rn
 refine B9 ?_
 simp only [tt_fd, Nat.zero_add]
 refine wC (G9 h he) fun (y : Int) hy => ?_
 subst hy
 unfold Cb
 refine AE (p := EP (aP p) (aF f) e ≠ 0) (by rw [bnI, ieI]) (fun q => by rw [decide_eq_false q]; rfl) fun q => ?_
 have q := Classical.byContradiction q
 rw [decide_eq_true q, Bool.true_and]
 have F := fitting q
 have hth := Em h.inv F
 refine wC (Ga h hth.1 hth.2) fun (a : TAk) ha => ?_
 rw [← ha]
 have hf := Pt F.re F.ft
 have hre := B6 F.re
 have hrg := fun z => Fo h.inv F z
 rw [← ha] at hf hrg
 have n0 := h.inv.n0
 change 0 ≤ f.now at n0
 have hnow : (aF f).FQ = f.now := rfl
 have hend : (aF f).Ba = f.ended := rfl
 -- no, Eg, time
 have no : 5 ≤ e.Kind ∧ e.Kind ≤ 7 → D_f17.wp (a, f) fun y => y = Ca (CO (aF f) e.Ring) (aA a) := fun z => by
  obtain ⟨r1, r2, _⟩ := hrg (Bq.2 (by omega))
  have hr : a.Ring = e.Ring := hf.rg (Bq.2 (by omega))
  have h5 := hf.f5 z
  rw [← hr]
  rw [← hr] at r1 r2
  exact Lo h a r1 fun w => r2 (.inl (h5.resolve_left w))
 have nd : 5 ≤ e.Kind ∧ e.Kind ≤ 7 ∨ e.Kind = 1 → (A3 e.Ring f.rings.n = true ∧ (((Nat.beq f.rings.n f.rings.n) && true) && (!(f.rings.get e.Ring.toNat).nil)) = true ∧ ((true && true) && (((Nat.beq f.rings.n f.rings.n) && (Nat.blt e.Ring.toNat f.rings.n)) && (!(f.rings.get e.Ring.toNat).nil))) = true ∧ CO (aF f) e.Ring = aR (f.rings.get e.Ring.toNat).x) := fun z => by
  obtain ⟨r1, _, _⟩ := hrg (Bq.2 (by omega))
  obtain ⟨_, hnil, hrn⟩ := h.ring r1.1 r1.2
  exact ⟨by rw [ibI]; omega, by simp [hnil], by simp [hnil]; omega, hrn⟩
 have nd2 : ((true && true) && (Nat.beq f.rings.n f.rings.n)) = true := by simp
 unfold JR
 simp only
 rw [hnow, hend]
 refine AE ieI (fun k5 => ?_) fun n5 => AE ieI (fun k7 => ?_) fun n7 => AE ieI (fun k6 => ?_) fun n6 => ?_
 · rw [if_pos (.inl k5)]
   obtain ⟨d1, d2, d3, d4⟩ := nd (.inl (by omega))
   refine wC (no (by omega)) fun (y : Bool) hy => ?_
   subst hy
   refine Al (fun z => wN d1 (wN d2 (wC (Ct _) fun (y : Bool) hy => EI d3 nd2 ?_))) fun z => ?_
   · rw [z, d4, hy]; rfl
   · rw [show Ca (CO (aF f) e.Ring) (aA a) = false by simpa using z]; rfl
 · rw [if_pos (.inr k7)]
   obtain ⟨d1, d2, d3, d4⟩ := nd (.inl (by omega))
   refine wC (no (by omega)) fun (y : Bool) hy => ?_
   subst hy
   refine Al (fun z => wN d1 (wN d2 (wC (Ct _) fun (y : Bool) hy => EI d3 nd2 ?_))) fun z => ?_
   · rw [z, d4, hy]; rfl
   · rw [show Ca (CO (aF f) e.Ring) (aA a) = false by simpa using z]; rfl
 · rw [if_neg (by omega), if_pos k6]
   obtain ⟨d1, d2, d3, d4⟩ := nd (.inl (by omega))
   refine wC (no (by omega)) fun (y : Bool) hy => ?_
   subst hy
   refine Al (fun z => wN d1 (wN d2 (wC (Ct _) fun (y : Bool) hy => EI d3 nd2 ?_))) fun z => ?_
   · rw [z, d4, hy]; rfl
   · rw [show Ca (CO (aF f) e.Ring) (aA a) = false by simpa using z]; rfl
 · rw [if_neg (by omega), if_neg n6]
   refine BE (g := Prod.fst) ieI (fun _ => ?_) fun n8 => BE (g := Prod.fst) ieI (fun _ => rfl) fun n10 => ?_
   · have := he.vl
     refine AE leI (fun z => ?_) fun z => (decide_eq_false fun w => z w.1).symm
     rw [Am (by have := this.1; omega) (by have := this.2; omega)]
     exact Bd (by rw [decide_eq_true_eq]; exact ilI.trans ⟨fun w => ⟨z, w⟩, fun w => w.2⟩)
   · have tu : Az e.Kind = true → D_f1g.wp (e, (a, f)) fun y => y = DP (CO (aF f) e.Ring) (aA a) e := fun z => by
      obtain ⟨r1, _, r2⟩ := hrg (Co z)
      exact Lm h a r1 r2 he.tk.1
     refine BE (g := Prod.fst) ieI (fun k1 => ?_) fun n1 => of_wp ?_
     · obtain ⟨d1, d2, d3, d4⟩ := nd (.inr k1)
       refine wC (tu (Av.2 (by omega))) fun (y : Bool) hy => ?_
       subst hy
       refine Al (fun z => wN d1 (wN d2 (wC (Ct _) fun (y : Bool) hy => EI d3 nd2 ?_))) fun z => ?_
       · rw [z, d4, hy]; rfl
       · rw [show DP (CO (aF f) e.Ring) (aA a) e = false by simpa using z]; rfl
     · simp only [tt_fd_16]
       refine wC (w_f2w hre.1.1) fun (y : Bool) hy => ?_
       subst hy
       refine AE bnI (fun z => ?_) fun z => ?_
       · rw [show Az e.Kind = false by simpa using z]; rfl
       · have z := Classical.byContradiction z
         rw [z]
         exact wC (tu z) fun y hy => hy
end
theorem R2 {α : Type} {T T' : Sl α} (Q : Sl α → Prop) (h1 : T.nil = T'.nil) (h2 : T.n = T'.n) (h3 : ∀ i, T.get i = T'.get i) (h : Q T') : Q T := by
 obtain ⟨a, b, c⟩ := T
 obtain ⟨a', b', c'⟩ := T'
 simp only at h1 h2 h3
 subst h1 h2
 rw [show c = c' from funext h3]
 exact h
theorem R4 {α : Type} {T T' : Sl α} (h2 : T.n = T'.n) (h3 : ∀ i, T.get i = T'.get i) : T.L = T'.L := Sl.TR h2 fun i _ => h3 i
section
variable {c : TRg} {b : Int} {r : TRr}
theorem Ny (h : RC c b r) {t v : Int} (h0 : 0 ≤ t) (h1 : t < 4611686018427387904) (hst : (A1 (aR r) t).AP = 2 * t) :
 D_f2y.wp (t, (v, r.s.x)) fun y => y.2.l.L = r.s.x.l.L.set (G3 (aR r) t) ⟨2 * t + 1, v, 2 ^ r.AA.AD.n - 1⟩ ∧ y.2.AX = r.s.x.AX ∧ CR y.2.l ∧ y.2.l.n = r.s.x.l.n := by
 have hn := h.hn
 rw [GI h] at hst
 refine of_wp ?_
 simp only [tt_f2y]
 refine AE leI (fun q => by omega) fun _ => wC (KG h h0 _ _) fun (y : Nat × Nat) hy => ?_
 subst hy
 refine wN (by simp) (wC (w_f2q t h0 (by omega)) fun (y : Int) hy => ?_)
 subst hy
 refine AE (p := (r.s.x.l.get (G3 (aR r) t)).AP < 2 * t) ilI (fun q => by omega) fun _ => wN (by simp) (wC (w_f2q t h0 (by omega)) fun (y : Int) hy => ?_)
 subst hy
 refine AE (p := 2 * t < (r.s.x.l.get (G3 (aR r) t)).AP) ilI (fun q => by omega) fun _ => wC (w_f39 h0 h1) fun (y : Int) hy => ?_
 subst hy
 have hrd := h.wf.rd
 have hp8 := IX (j := r.AA.AD.n) hn.2.1
 have hpp := GK r.AA.AD.n
 refine wN (by rw [leI, hrd]; omega) (wN (by simp) (wN (by simp) ⟨?_, rfl, h.wf.lz, rfl⟩))
 rw [← Gb]
 refine R4 rfl fun i => ?_
 have e : IntKind.i64.wrap (shl IntKind.i64 1 r.s.x.AX - 1) = 2 ^ r.AA.AD.n - 1 := by
  rw [hrd, Jf (by omega) (by omega), show c.AR.toNat = r.AA.AD.n by omega, wrap64 (by omega) (by omega)]
 show (⟨_, _, cond _ (IntKind.i64.wrap (shl IntKind.i64 1 r.s.x.AX - 1)) _⟩ : TSo) = cond (Nat.beq i _) _ _
 rw [e]
 cases Nat.beq i (G3 (aR r) t) <;> rfl
theorem Nz (h : RC c b r) {j t : Int} (hj0 : 0 ≤ j) (hj : j < r.AA.AD.n) (h0 : 0 ≤ t) (h1 : t < 2305843009213693952) (hg : (A1 (aR r) t).AP = 2 * t + 1 ∧ Df (A1 (aR r) t).Left j = true) :
 D_f2z.wp (j, (t, r.s.x)) fun y => y.1 = (A1 (aR r) t).Value ∧ y.2.2.l.L = r.s.x.l.L.set (G3 (aR r) t) (K8 (A1 (aR r) t) j t (IA (aR r))) ∧ y.2.2.AX = r.s.x.AX ∧ CR y.2.2.l ∧ y.2.2.l.n = r.s.x.l.n := by
 have hn := h.hn
 have hl := h.ln
 have hs := h.slot t
 refine of_wp ?_
 simp only [tt_f2z]
 refine wC (Jc h hj0 hj h0 (by omega)) fun (y : Int) hy => ?_
 refine AE (p := y ≠ 0) (by rw [bnI, ieI]) (fun q => absurd (hy.2 hg) q) fun _ => wC (KG h h0 _ _) fun (y : Nat × Nat) hy => ?_
 subst hy
 rw [GI h] at hg ⊢
 rw [NZ]
 obtain ⟨g1, g2⟩ := hg
 simp only [Nat.beq_refl, cond_true]
 generalize hx : r.s.x.l.get (G3 (aR r) t) = x at hs g1 g2
 have hheld := hs.held (by omega)
 have h28 := IX (j := r.AA.AD.n) hn.2.1
 obtain ⟨jn, rfl⟩ : ∃ jn : Nat, j = jn := ⟨j.toNat, by omega⟩
 obtain ⟨hcl, hcl0⟩ := Jn (j := jn) (x := x.Left) (by omega) (by omega) (by omega) g2
 rw [hcl, Am (z := (r.s.x.l.n : Int)) (by omega) (by omega), Am (z := t + (r.s.x.l.n : Int)) (by omega) (by omega)]
 have n1 : (true && (Nat.beq r.s.x.l.n r.s.x.l.n)) = true := by simp
 refine wN (by simp) (wN (by simp) (wN (by rw [leI]; exact hj0) (wN (by simp) (wN (by simp) (AE ieI (fun e => ?_) fun e => ?_)))))
 · refine wC (w_f2q (t + (r.s.x.l.n : Int)) (by omega) (by omega)) fun (y : Int) hy => wN (by simp) (wN (by simp) ⟨rfl, ?_, rfl, h.wf.lz, rfl⟩)
   subst hy
   rw [← Gb]
   refine R4 rfl fun i => ?_
   unfold K8
   rw [Int.toNat_natCast, if_pos e]
   show (⟨_, _, _⟩ : TSo) = cond (Nat.beq i _) _ _
   cases Nat.beq i (G3 (aR r) t) <;> rfl
 · refine wN (by simp) ⟨rfl, ?_, rfl, h.wf.lz, rfl⟩
   rw [← Gb]
   refine R4 rfl fun i => ?_
   unfold K8
   rw [Int.toNat_natCast, if_neg e]
   show (⟨_, _, _⟩ : TSo) = cond (Nat.beq i _) _ _
   cases Nat.beq i (G3 (aR r) t) <;> rfl
theorem KY (h : RC c b r) {t v : Int} (h0 : 0 ≤ t) (hf : HJ (aR r) t = true) : D_f2m.wp (t, (v, r)) fun y => P6 c y.2 ∧ aR y.2 = Ob (aR r) t v := by
 have ht := h.t
 simp only [HJ, decide_eq_true_eq] at hf
 have hlt : t < r.AA.tail := hf.1
 refine of_wp ?_
 simp only [tt_f2m]
 refine AE leI (fun q => by omega) fun _ => wN (by simp [h.wf.sn]) (wC (Ny h h0 (by omega) hf.2) fun (y : Int × TSs) hy => ⟨⟨rfl, hy.2.1.trans h.wf.rd, h.wf.ms, h.wf.hz, hy.2.2.1, h.wf.hn, ?_⟩, ?_⟩)
 · show (y.2.l.n : Int) = _; rw [hy.2.2.2]; exact h.wf.ln
 · show (⟨_, _, _, y.2.l.L⟩ : MR) = _
   rw [hy.1]
   unfold Ob
   simp [aR]
theorem KX (h : RC c b r) (hb : b ≤ 2305843009213693952) {j t : Int} (hj0 : 0 ≤ j) (hj : j < r.AA.AD.n) (h0 : 0 ≤ t) (hh : K7 (aR r) j t = true) :
 D_f2n.wp (j, (t, r)) fun y => y.1 = (A1 (aR r) t).Value ∧ P6 c y.2.2 ∧ aR y.2.2 = RF (aR r) j t := by
 have htb := h.inv.tb
 change r.AA.tail < b at htb
 have hd := h.hd (k := j.toNat) (by omega)
 simp only [K7, decide_eq_true_eq, MX hj0 hj] at hh
 refine of_wp ?_
 simp only [tt_f2n]
 refine wC (Es j r.AA) fun (y : Bool) hy => ?_
 refine AE bnI (fun q => absurd (hy.2 ⟨hj0, hj⟩) q) fun _ => wN (by rw [ibI]; exact ⟨hj0, hj⟩) (wN (by simp) ?_)
 rw [Nat.zero_add]
 refine AE leI (fun q => by omega) fun _ => wN (by simp) (wN (by simp [h.wf.sn]) (wC (Nz h hj0 hj h0 (by omega) hh.2) fun (y : Int × Int × TSs) hy => ⟨hy.1, ⟨rfl, hy.2.2.1.trans h.wf.rd, h.wf.ms, h.wf.hz, hy.2.2.2.1, h.wf.hn, ?_⟩, ?_⟩))
 · show (y.2.2.l.n : Int) = _; rw [hy.2.2.2.2]; exact h.wf.ln
 · show (⟨_, _, _, y.2.2.l.L⟩ : MR) = _
   rw [hy.2.1]
   rfl
theorem N1 (h : RC c b r) {j : Int} (hj0 : 0 ≤ j) (hj : j < r.AA.AD.n) (he : EB (aR r) j = false) : D_f1d.wp (j, r) fun y => P6 c y.2.2 ∧ aR y.2.2 = FX (aR r) j := by
 have hn := h.hn
 have ht := h.t
 have hd := h.hd (k := j.toNat) (by omega)
 refine of_wp ?_
 simp only [tt_f1d]
 refine wC (Es j r.AA) fun (y : Bool) hy => ?_
 refine AE bnI (fun q => absurd (hy.2 ⟨hj0, hj⟩) q) fun _ => wC (EJ j hj0 hj) fun (y : Bool) hy => ?_
 subst hy
 rw [he]
 refine Al (fun q => by cases q) fun _ => wC (EJ j hj0 hj) fun (y : Bool) hy => ?_
 subst hy
 rw [he]
 refine Al (fun q => by cases q) fun _ => of_wp ?_
 simp only [tt_f1d_9, Nat.zero_add]
 have i1 : A3 j r.AA.AD.n = true := by rw [ibI]; exact ⟨hj0, hj⟩
 have n1 : ((Nat.beq r.AA.AD.n r.AA.AD.n) && true) = true := by simp
 have n2 : ((true && true) && (Nat.beq r.AA.AD.n r.AA.AD.n)) = true := by simp
 refine wN i1 (wN n1 (wN i1 (wN n1 (wN n2 (wN i1 (wN n1 (wN n2 ⟨⟨h.wf.sn, h.wf.rd, h.wf.ms, h.wf.hz, h.wf.lz, h.wf.hn, h.wf.ln⟩, ?_⟩)))))))
 unfold FX
 rw [MX hj0 hj]
 show (⟨_, Sl.L _, _, _⟩ : MR) = ⟨_, r.AA.AD.L.set _ _, _, _⟩
 rw [← Gb]
 congr 1
 refine R4 rfl fun i => ?_
 show cond (Nat.beq i j.toNat) (IntKind.u64.wrap (r.AA.AD.get j.toNat + 1)) _ = cond _ _ _
 rw [Am (by omega) (by omega)]
theorem Mq (r : TRr) : D_f30.wp r fun y => y = (0, { r with closed := true }) := of_wp rfl
theorem Mr (h : RC c b r) : D_f2x.wp r fun y => (r.closed = true ∧ y = (0, (10, r))) ∨ (r.closed = false ∧ Ed (aR r) = true ∧ y = (0, (8, r))) ∨
 (r.closed = false ∧ Ed (aR r) = false ∧ y.2.1 = 0 ∧ y.2.2 = { r with AA := ⟨r.AA.tail + 1, r.AA.AD⟩ }) := by
 have ht := h.t
 refine of_wp ?_
 simp only [tt_f2x]
 refine Al (fun q => .inl ⟨q, rfl⟩) fun q => wC (Fm h) fun (y : Bool) hy => ?_
 have q : r.closed = false := by simpa using q
 subst hy
 refine Al (fun q2 => .inr (.inl ⟨q, q2, rfl⟩)) fun q2 => .inr (.inr ⟨q, by simpa using q2, rfl, ?_⟩)
 rw [Am (z := r.AA.tail + 1) (by omega) (by omega)]
theorem QI {s : TRs} (hc : A8 c = true) (h : Db c b (I3 s)) (hb : b ≤ 4611686018427387904) (hz : CR s.AV) (sz : CR s.Ai) : VQ s := by
 have hf := Cz hc
 have c1 := h.cap
 have c2 := h.rd
 simp only [I3, Sl.Bf] at c1 c2
 have t0 := h.t0
 have tb := h.tb
 change 0 ≤ s.Ax at t0
 change s.Ax < b at tb
 have m64 : (64 : Nat) ≤ maxLen := by decide
 refine ⟨t0, by omega, by omega, fun j hj => ?_, hz, ⟨by omega, fun i hi => ?_, sz⟩⟩
 · have := h.h0 _ (Sl.Cg.2 ⟨j, hj, rfl⟩)
   change 0 ≤ s.AV.get j ∧ s.AV.get j ≤ s.Ax ∧ _ at this
   omega
 · have hs := h.sl i (s.Ai.get i) (Sl.EF _ hi)
   have h8 := IX (j := (I3 s).AV.length) (by simp [I3]; omega)
   have h0 := hs.s0
   have h1 := hs.s1
   have hl : 0 ≤ (s.Ai.get i).Left ∧ (s.Ai.get i).Left < 256 := by
    rcases (by omega : (s.Ai.get i).AP % 2 = 0 ∨ (s.Ai.get i).AP % 2 = 1) with e | e
    · have := hs.free e; omega
    · have := hs.held e; omega
   exact ⟨h0, by omega, by omega, by omega⟩
theorem OH {s : TRs} (hc : A8 c = true) (h : Db c b (I3 s)) (hb : b ≤ 4611686018427387904) : SB c s := by
 have hf := Cz hc
 have c1 := h.cap
 have c2 := h.rd
 simp only [I3, Sl.Bf] at c1 c2
 have tb := h.tb
 change s.Ax < b at tb
 have hnr : (I3 s).AV.length = c.AR.toNat := by simp [I3]; omega
 refine ⟨⟨c1, fun i hi => ?_⟩, c2, by omega, fun j hj => ?_, fun i hi => ?_⟩
 · have hs := h.sl i (s.Ai.get i) (Sl.EF _ hi)
   exact ⟨hs.s1, hs.VE, hs.free, fun e => by have := hs.held e; rw [hnr] at this; exact this⟩
 · have := h.h0 _ (Sl.Cg.2 ⟨j, hj, rfl⟩)
   exact this.2
 · have hs := h.sl i (s.Ai.get i) (Sl.EF _ hi)
   refine ⟨hs.QS, fun j hj => ⟨fun e1 e2 => hs.UB e1 j _ (Sl.EF _ hj) e2, fun e1 e2 => hs.S0 e1 e2 _ (Sl.Cg.2 ⟨j, hj, rfl⟩)⟩⟩
end
end Go.Proofs.YtiamaibincaihaaGreat
