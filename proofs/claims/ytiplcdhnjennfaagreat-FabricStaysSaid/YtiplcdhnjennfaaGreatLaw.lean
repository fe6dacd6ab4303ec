/- For every program and every list of events, done one behind the other: how all stands can be loaded, and goes on as it would have; what was handed in reads as it did. No conditions. -/
import Derived.Test.YtiplcdhnjennfaaGreatGC
import Derived.SizedLaws
import Derived.Test.YtiplcdhnjennfaaGreatRows
namespace Go.Proofs.YtiplcdhnjennfaaGreat
open Go Go.Vm Go.Proofs
set_option maxRecDepth 10000
open Go Go.Vm
set_option maxRecDepth 100000
theorem maxLen_le {n : Nat} (h : n ≤ maxLen) : (n : Int) ≤ 9223372036854775807 := by have := (by decide : maxLen ≤ 9223372036854775807); omega
theorem w_f2r (x : Int) : D_f2r.wp x fun y => y = true ↔ 1 ≤ x ∧ x ≤ 17 := by
  refine of_wp ?_
  simp only [tt_f2r, TT.wp, leI, Bool.false_eq_true, false_iff]
  omega
theorem w_f2t (x : TIn) : D_f2t.wp x fun y => y = true ↔ 15 ≤ x.Op ∧ x.Op ≤ 17 := by
  refine of_wp ?_
  simp only [tt_f2t, TT.wp, leI, Bool.false_eq_true, false_iff]
  omega
def limM (x : Int) : TCl × Bool :=
  if x = 1 then (⟨7, 0, 0, 0, 18446744073709551615⟩, true)
  else if x = 2 ∨ x = 23 then (⟨7, 7, 0, 0, 0⟩, true)
  else if x = 15 then (⟨0, 0, 0, 0, 256⟩, true)
  else if x = 16 ∨ x = 17 then (⟨7, 0, 0, 0, 256⟩, true)
  else if x = 18 then (⟨7, 7, 7, 2, 0⟩, true)
  else if x = 19 then (⟨7, 7, 7, 2, 7⟩, true)
  else if x = 20 then (⟨0, 0, 7, 0, 0⟩, true)
  else if x = 21 ∨ x = 22 ∨ x = 24 then (⟨7, 0, 0, 0, 0⟩, true)
  else if x = 25 then (⟨0, 0, 0, 0, 0⟩, true)
  else (⟨7, 7, 7, 0, 0⟩, decide (1 ≤ x ∧ x ≤ 17))
theorem w_f1t (x : Int) : D_f1t.wp x fun y => y = limM x := by
  have e : ∀ z, D_f1t_24.wp (⟨x, z⟩ : X_f1t_24) fun y => y = (⟨7, 7, 7, 0, 0⟩, decide (1 ≤ x ∧ x ≤ 17)) := by
    intro z
    refine of_wp ?_
    show (tt_f1t_24 ⟨x, z⟩).wp _
    simp only [tt_f1t_24]
    refine wC (w_f2r x) fun (y : Bool) hy => ?_
    have : y = decide (1 ≤ x ∧ x ≤ 17) := by rw [Bool.eq_iff_iff, decide_eq_true_eq]; exact hy
    subst this
    rfl
  refine of_wp ?_
  simp only [tt_f1t, TT.wp, ieI, limM]
  refine ⟨fun h => by simp [h], fun h1 => ⟨fun h => by simp [h], fun h2 => ⟨fun h => by simp [h], fun h3 => ⟨fun h => by simp [h], fun h4 => ⟨fun h => by simp [h], fun h5 => ⟨fun h => by simp [h], fun h6 => ⟨fun h => by simp [h], fun h7 =>
    ⟨fun h => by simp [h], fun h8 => ⟨fun h => by simp [h], fun h9 => ⟨fun h => by simp [h], fun h10 => ⟨fun h => by simp [h], fun h11 => ⟨fun h => by simp [h], fun h12 => ⟨fun h => by simp [h], fun h13 => ?_⟩⟩⟩⟩⟩⟩⟩⟩⟩⟩⟩⟩⟩
  simp only [h1, h2, h3, h4, h5, h6, h7, h8, h9, h10, h11, h12, h13, if_false, or_self]
  exact e _
theorem limM_right {i : TIn} (h0 : 0 ≤ i.K) (h1 : i.K < 18446744073709551616) :
    (limM i.Op).2 = true ∧ (0 ≤ i.A ∧ i.A ≤ (limM i.Op).1.a) ∧ (0 ≤ i.B ∧ i.B ≤ (limM i.Op).1.b) ∧ (0 ≤ i.C ∧ i.C ≤ (limM i.Op).1.c) ∧ (0 ≤ i.D ∧ i.D ≤ (limM i.Op).1.d) ∧ i.K ≤ (limM i.Op).1.k ↔ rightI i = true := by
  unfold limM rightI
  simp only
  by_cases e1 : i.Op = 1
  · simp [e1]; omega
  by_cases e2 : i.Op = 2 ∨ i.Op = 23
  · simp only [e1, e2, if_false, if_true, Bool.and_eq_true, decide_eq_true_eq, true_and]; omega
  by_cases e3 : i.Op = 15
  · simp [e3]; omega
  by_cases e4 : i.Op = 16 ∨ i.Op = 17
  · have : ¬ (3 ≤ i.Op ∧ i.Op ≤ 14) := by omega
    simp only [e1, e2, e3, e4, this, if_false, if_true, Bool.and_eq_true, decide_eq_true_eq, true_and]; omega
  by_cases e5 : i.Op = 18
  · simp [e5]; omega
  by_cases e6 : i.Op = 19
  · simp [e6]; omega
  by_cases e7 : i.Op = 20
  · simp [e7]; omega
  by_cases e8 : i.Op = 21 ∨ i.Op = 22 ∨ i.Op = 24
  · have : ¬ (3 ≤ i.Op ∧ i.Op ≤ 14) := by omega
    simp only [e1, e2, e3, e4, e5, e6, e7, e8, this, if_false, if_true, Bool.and_eq_true, decide_eq_true_eq, true_and]; omega
  by_cases e9 : i.Op = 25
  · simp [e9]; omega
  by_cases e10 : 3 ≤ i.Op ∧ i.Op ≤ 14
  · have : 1 ≤ i.Op ∧ i.Op ≤ 17 := by omega
    simp only [e1, e2, e3, e4, e5, e6, e7, e8, e9, e10, this, if_false, if_true, Bool.and_eq_true, decide_eq_true_eq, true_and, and_self]; omega
  · have : ¬ (1 ≤ i.Op ∧ i.Op ≤ 17) := by omega
    simp only [e1, e2, e3, e4, e5, e6, e7, e8, e9, e10, this, if_false, decide_false, Bool.false_eq_true, false_and]
def okI (i : TIn) : Prop := (0 ≤ i.K ∧ i.K < 18446744073709551616) ∧ i.A < 9223372036854775808 ∧ i.B < 9223372036854775808 ∧ i.C < 9223372036854775808 ∧ i.D < 9223372036854775808
theorem w_f2s (i : TIn) (h : okI i) : D_f2s.wp i fun y => y = true ↔ rightI i = true := by
  refine of_wp ?_
  simp only [tt_f2s]
  refine wC (w_f1t i.Op) fun (y : TCl × Bool) hy => ?_
  subst hy
  rw [← limM_right h.1.1 h.1.2]
  generalize limM i.Op = m
  obtain ⟨⟨a, b, c, d, k⟩, ok⟩ := m
  cases ok <;> simp only [TT.wp, leI, Bool.false_eq_true, false_iff, false_imp_iff, not_false_eq_true, true_imp_iff, not_true_eq_false, true_and, and_true, false_and]
  · omega
theorem w_f1u (c : TRg) : D_f1u.wp c fun y => y = true ↔ rightRg c = true := by
  refine of_wp ?_
  have e : D_f1u_3.wp (⟨c⟩ : X_f1u_3) fun y => y = true ↔ (c.Kind = 1 ∧ c.Readers = 1 ∨ c.Kind = 2 ∧ 1 ≤ c.Readers ∧ c.Readers ≤ 8) := by
    refine of_wp ?_
    simp only [tt_f1u_3, TT.wp, leI, ieI, Bool.false_eq_true, true_iff, false_iff]
    omega
  simp only [tt_f1u, TT.wp, ilI, Bool.false_eq_true, false_iff, rightRg, decide_eq_true_eq]
  refine ⟨fun h => by omega, fun h1 => ⟨fun h => by omega, fun h2 => e.mono fun y hy => by rw [hy]; omega⟩⟩
theorem w_f2q (x : Int) : D_f2q.wp x fun y => y = true ↔ 18 ≤ x ∧ x ≤ 20 := by
  refine of_wp ?_
  simp only [tt_f2q, TT.wp, ieI, true_iff]
  omega
structure okP (p : TPg) : Prop where
  rn : p.Rings.n ≤ maxLen
  tn : p.Threads.n ≤ maxLen
  ln : ∀ t, t < p.Threads.n → (p.Threads.get t).n ≤ maxLen
  ins : ∀ t, t < p.Threads.n → ∀ k, k < (p.Threads.get t).n → okI ((p.Threads.get t).get k)
  rz : p.Rings.nil = true → p.Rings.n = 0
  lz : ∀ t, t < p.Threads.n → (p.Threads.get t).nil = true → (p.Threads.get t).n = 0
def aP (p : TPg) : MP := ⟨p.Rings.L, p.Threads.L.map Sl.L⟩
theorem getD_L {α : Type} (s : Sl α) {i : Int} (h0 : 0 ≤ i) (h : i < s.n) (d : α) : s.L.getD i.toNat d = s.get i.toNat := by
  have : i.toNat < s.n := by omega
  rw [List.getD, Sl.L_get _ this]; rfl
theorem w_f2u (p : TPg) (i : TIn) (n : Nat) (hi : okI i) (hn : n ≤ maxLen) (hr : ∀ c ∈ p.Rings.L, rightRg c = true) : D_f2u.wp (p, (i, (n : Int))) fun y => y = instrE p.Rings.L i n := by
  refine of_wp ?_
  have hn := maxLen_le hn
  have hw : IntKind.u64.wrap (n : Int) = n := wrapu64 (by omega) (by omega)
  simp only [tt_f2u, hw]
  refine wC (w_f2s i hi) fun (y : Bool) hy => ?_
  simp only [TT.wp, leI, ilI, ieI, bnI, ibI, hy]
  refine ⟨fun h => by simp [instrE, h], fun h => ?_⟩
  have hR : rightI i = true := by simpa using h
  have hf := rightI_facts hR
  have hrd : 0 ≤ i.C → i.C < p.Rings.n → IntKind.u64.wrap (p.Rings.get i.C.toNat).Readers = (p.Rings.L.getD i.C.toNat ⟨0, 0, 0⟩).Readers := fun h0 h1 => by
    rw [getD_L _ h0 h1]
    have := rg_cap (hr _ (Sl.mem_L.2 ⟨i.C.toNat, by omega, rfl⟩))
    exact wrapu64 (by omega) (by omega)
  have e : instrE p.Rings.L i n = if 15 ≤ i.Op ∧ i.Op ≤ 17 ∧ (n : Int) < i.K then 5 else if 18 ≤ i.Op ∧ i.Op ≤ 20 ∧ (p.Rings.n : Int) ≤ i.C then 7 else if i.Op = 19 ∧ (p.Rings.L.getD i.C.toNat ⟨0, 0, 0⟩).Readers ≤ i.K then 7 else 0 := by
    simp only [instrE, hR, Bool.true_eq_false, if_false, Sl.L_length]
  rw [e]
  refine ex_call (w_f2t i) fun (y : Bool) hj => ?_
  simp only [hj]
  refine ⟨fun h => ⟨fun h1 => by rw [if_pos ⟨h.1, h.2, h1⟩], fun h1 => ?_⟩, fun h => ?_⟩
  all_goals
    refine ex_call (w_f2q i.Op) fun (y : Bool) hg => ?_
    simp only [hg]
    refine ⟨fun h2 => ⟨fun h3 => ?_, fun h3 => ⟨fun h4 => ⟨?_, fun h5 => ?_, fun h5 => ?_⟩, fun h4 => ?_⟩⟩, fun h2 => ⟨fun h4 => by omega, fun h4 => ?_⟩⟩
    all_goals (repeat' split) <;> first | rfl | (exfalso; omega) | omega
def insOk (rs : List TRg) (l : Sl TIn) : Prop := ∀ k, k < l.n → instrE rs (l.get k) l.n = 0
theorem l_f5_16 (p : TPg) (hp : okP p) (hr : ∀ c ∈ p.Rings.L, rightRg c = true) (t : Nat) (ht : t < p.Threads.n) (D11 : Dyn X_f5_11 R_f5) (Q : R_f5 → Prop)
    (hbad : ∀ y : Int × Int × Int, y.2.2 ≠ 0 → ¬ insOk p.Rings.L (p.Threads.get t) → Q y) (hgood : insOk p.Rings.L (p.Threads.get t) → D11.wp ⟨p, p.Threads, p.Threads.n, IntKind.i64.wrap ((t : Int) + 1)⟩ Q) :
    (D_f5_16 D11).wp ⟨p, t, p.Threads.get t, p.Threads, p.Threads.n, t, p.Threads.get t, (p.Threads.get t).n, 0⟩ Q := by
  have hl := hp.ln t ht
  refine count_wp (fun k => (⟨p, t, p.Threads.get t, p.Threads, p.Threads.n, t, p.Threads.get t, (p.Threads.get t).n, (k : Nat)⟩ : X_f5_16)) (p.Threads.get t).n (fun k => ∀ j, j < k → instrE p.Rings.L ((p.Threads.get t).get j) (p.Threads.get t).n = 0) Q
    (fun D hJ => ?_) (fun D k hk hJ hD => ?_) (k := 0) (Nat.zero_le _) (fun j hj => by omega)
  · simp only [tt_f5_16, ilt_nat, Nat.lt_irrefl, decide_false, wp_false]
    exact of_wp (hgood hJ)
  · simp only [tt_f5_16, ilt_nat, hk, decide_true, wp_true, inb_nat hk, wp_need_true, Int.toNat_natCast, next64 hk hl]
    refine wC (w_f2u p _ _ (hp.ins t ht k hk) hl hr) fun (y : Int) hy => ?_
    subst hy
    simp only [TT.wp, bnI, ieI]
    refine ⟨fun h => hbad _ h fun hok => h (hok k hk), fun h => hD fun j hj => ?_⟩
    by_cases e : j = k
    · subst e; exact Classical.byContradiction h
    · exact hJ j (by omega)
theorem PInv_iff (p : TPg) (h1 : 1 ≤ p.Threads.n) (h2 : p.Threads.n ≤ 8) (h3 : p.Rings.n ≤ 8) (hr : ∀ c ∈ p.Rings.L, rightRg c = true)
    (ht : ∀ t, t < p.Threads.n → (p.Threads.get t).n ≤ 256 ∧ insOk p.Rings.L (p.Threads.get t)) : PInv (aP p) where
  t1 := by simpa [aP] using h1
  t8 := by simpa [aP] using h2
  r8 := by simpa [aP] using h3
  rg := hr
  len l hl := by
    simp only [aP, List.mem_map] at hl
    obtain ⟨s, hs, rfl⟩ := hl
    obtain ⟨t, h, rfl⟩ := Sl.mem_L.1 hs
    simpa using (ht t h).1
  ins l hl i hi := by
    simp only [aP, List.mem_map] at hl
    obtain ⟨s, hs, rfl⟩ := hl
    obtain ⟨t, h, rfl⟩ := Sl.mem_L.1 hs
    obtain ⟨k, hk, rfl⟩ := Sl.mem_L.1 hi
    have := (ht t h).2 k hk
    simpa [aP] using this
theorem PInv_get {p : TPg} (h : PInv (aP p)) : 1 ≤ p.Threads.n ∧ p.Threads.n ≤ 8 ∧ p.Rings.n ≤ 8 ∧ (∀ c ∈ p.Rings.L, rightRg c = true) ∧ ∀ t, t < p.Threads.n → (p.Threads.get t).n ≤ 256 ∧ insOk p.Rings.L (p.Threads.get t) := by
  have hm : ∀ t, t < p.Threads.n → (p.Threads.get t).L ∈ (aP p).Threads := fun t ht => List.mem_map.2 ⟨_, Sl.mem_L.2 ⟨t, ht, rfl⟩, rfl⟩
  refine ⟨by simpa [aP] using h.t1, by simpa [aP] using h.t8, by simpa [aP] using h.r8, h.rg, fun t ht => ⟨by simpa using h.len _ (hm t ht), fun k hk => ?_⟩⟩
  have := h.ins _ (hm t ht) _ (Sl.mem_L.2 ⟨k, hk, rfl⟩)
  simpa [aP] using this
theorem l_f5_11 (p : TPg) (hp : okP p) (h1 : 1 ≤ p.Threads.n) (h2 : p.Threads.n ≤ 8) (h3 : p.Rings.n ≤ 8) (hr : ∀ c ∈ p.Rings.L, rightRg c = true) :
    D_f5_11.wp ⟨p, p.Threads, p.Threads.n, 0⟩ fun y => y.2.2 = 0 ↔ PInv (aP p) := by
  refine count_wp (fun k => (⟨p, p.Threads, p.Threads.n, (k : Nat)⟩ : X_f5_11)) p.Threads.n (fun k => ∀ t, t < k → (p.Threads.get t).n ≤ 256 ∧ insOk p.Rings.L (p.Threads.get t)) _
    (fun D hJ => ?_) (fun D k hk hJ hD => ?_) (k := 0) (Nat.zero_le _) (fun j hj => by omega)
  · simp only [tt_f5_11, ilt_nat, Nat.lt_irrefl, decide_false, wp_false]
    exact ⟨fun _ => PInv_iff p h1 h2 h3 hr hJ, fun _ => rfl⟩
  · simp only [tt_f5_11, ilt_nat, hk, decide_true, wp_true, inb_nat hk, wp_need_true, Int.toNat_natCast]
    refine wp_if ilI (fun h => ?_) (fun h => ?_)
    · show ((4 : Int) = 0 ↔ _)
      refine ⟨fun h => by omega, fun hP => ?_⟩
      have := ((PInv_get hP).2.2.2.2 k hk).1
      omega
    · refine l_f5_16 p hp hr k hk D _ (fun y hy hno => ⟨fun h => absurd h hy, fun hP => absurd ((PInv_get hP).2.2.2.2 k hk).2 hno⟩) fun hok => ?_
      rw [next64 hk hp.tn]
      refine hD fun t ht => ?_
      by_cases e : t = k
      · subst e; exact ⟨by omega, hok⟩
      · exact hJ t (by omega)
theorem w_f5 (p : TPg) (hp : okP p) : D_f5.wp p fun y => y.2.2 = 0 ↔ PInv (aP p) := by
  have ne : ∀ {x : Int} {q : Prop}, x ≠ 0 → ¬ q → (x = 0 ↔ q) := fun h k => ⟨fun e => absurd e h, fun e => absurd e k⟩
  refine of_wp ?_
  simp only [tt_f5]
  refine wp_if ieI (fun h => ?_) fun h0 => wp_if ilI (fun h => ?_) fun h8 => wp_if ilI (fun h => ?_) fun hr8 => ?_
  · exact ne (by decide) fun hP => by have := (PInv_get hP).1; omega
  · exact ne (by decide) fun hP => by have := (PInv_get hP).2.1; omega
  · exact ne (by decide) fun hP => by have := (PInv_get hP).2.2.1; omega
  · refine of_wp ?_
    simp only [tt_f5_4]
    refine count_wp (fun k => (⟨p, p.Rings, p.Rings.n, (k : Nat)⟩ : X_f5_5)) p.Rings.n (fun k => ∀ j, j < k → rightRg (p.Rings.get j) = true) _
      (fun D hJ => ?_) (fun D k hk hJ hD => ?_) (k := 0) (Nat.zero_le _) (fun j hj => by omega)
    · simp only [tt_f5_5, ilt_nat, Nat.lt_irrefl, decide_false, wp_false]
      refine of_wp ?_
      simp only [tt_f5_10]
      exact l_f5_11 p hp (by omega) (by omega) (by omega) fun c hc => by
        obtain ⟨j, hj, rfl⟩ := Sl.mem_L.1 hc
        exact hJ j hj
    · simp only [tt_f5_5, ilt_nat, hk, decide_true, wp_true, inb_nat hk, wp_need_true, Int.toNat_natCast, next64 hk hp.rn]
      refine wC (w_f1u _) fun (y : Bool) hy => ?_
      simp only [TT.wp, bnI, hy]
      refine ⟨fun h => ne (by decide) fun hP => h ((PInv_get hP).2.2.2.1 _ (Sl.mem_L.2 ⟨k, hk, rfl⟩)), fun h => hD fun j hj => ?_⟩
      by_cases e : j = k
      · subst e; exact Classical.byContradiction h
      · exact hJ j (by omega)
theorem w_f2v (p : TPg) (hp : okP p) : D_f2v.wp p fun y => y = true ↔ PInv (aP p) := by
  refine of_wp ?_
  simp only [tt_f2v]
  refine wC (w_f5 p hp) fun (y : Int × Int × Int) hy => ?_
  show (ieq y.2.2 0 = true ↔ _)
  rw [ieI]
  exact hy
def formM (x : Int) : ByteArray :=
  if x = 1 then ⟨#[114, 48, 48, 48, 110]⟩
  else if x = 2 ∨ x = 23 then ⟨#[114, 114, 48, 48, 48]⟩
  else if 3 ≤ x ∧ x ≤ 14 then ⟨#[114, 114, 114, 48, 48]⟩
  else if x = 15 then ⟨#[48, 48, 48, 48, 112]⟩
  else if x = 16 ∨ x = 17 then ⟨#[114, 48, 48, 48, 112]⟩
  else if x = 18 then ⟨#[114, 114, 103, 109, 48]⟩
  else if x = 19 then ⟨#[114, 114, 103, 109, 100]⟩
  else if x = 20 then ⟨#[48, 48, 103, 48, 48]⟩
  else if x = 21 ∨ x = 22 ∨ x = 24 then ⟨#[114, 48, 48, 48, 48]⟩
  else if x = 25 then ⟨#[48, 48, 48, 48, 48]⟩
  else ⟨#[]⟩
def mostB (c : Int) : Int := if c = 114 ∨ c = 103 ∨ c = 100 then 7 else if c = 109 then 2 else if c = 112 then 256 else if c = 110 then 18446744073709551615 else 0
theorem w_f39 (x : Int) : D_f39.wp x fun y => y = formM x := by
  refine of_wp ?_
  simp only [tt_f39, TT.wp, ieI, leI]
  repeat' (first | apply And.intro | intro _)
  all_goals first
    | (exfalso; omega)
    | (rename_i h; subst h; rfl)
    | (unfold formM; rw [if_neg (by omega), if_neg (by omega), if_pos (by omega)])
    | (unfold formM; rw [if_neg (by omega), if_neg (by omega), if_neg (by omega), if_neg (by omega), if_neg (by omega), if_neg (by omega), if_neg (by omega), if_neg (by omega), if_neg (by omega), if_neg (by omega)])
theorem w_f35 (x : Int) : D_f35.wp x fun y => y = mostB x := by
  refine of_wp ?_
  simp only [tt_f35, TT.wp, ieI]
  repeat' (first | apply And.intro | intro _)
  all_goals first
    | (rename_i h; subst h; rfl)
    | (unfold mostB; rw [if_neg (by omega), if_neg (by omega), if_neg (by omega), if_neg (by omega)])
def ins4 (i : TIn) (j : Nat) : Int := cond (Nat.beq j 0) i.A (cond (Nat.beq j 1) i.B (cond (Nat.beq j 2) i.C i.D))
theorem form_size (x : Int) : formM x = ⟨#[]⟩ ∨ (formM x).size = 5 := by
  unfold formM
  repeat' split
  all_goals first | exact .inr rfl | exact .inl rfl
theorem form_right {i : TIn} (h : okI i) : (formM i.Op ≠ ⟨#[]⟩ ∧ i.K ≤ mostB (bt (formM i.Op) 4) ∧ ∀ j, j < 4 → 0 ≤ ins4 i j ∧ ins4 i j ≤ mostB (bt (formM i.Op) j)) ↔ rightI i = true := by
  have e4 : ∀ (f : ByteArray), (∀ j, j < 4 → 0 ≤ ins4 i j ∧ ins4 i j ≤ mostB (bt f j)) ↔ (0 ≤ i.A ∧ i.A ≤ mostB (bt f 0)) ∧ (0 ≤ i.B ∧ i.B ≤ mostB (bt f 1)) ∧ (0 ≤ i.C ∧ i.C ≤ mostB (bt f 2)) ∧ (0 ≤ i.D ∧ i.D ≤ mostB (bt f 3)) := by
    intro f
    refine ⟨fun h => ⟨h 0 (by omega), h 1 (by omega), h 2 (by omega), h 3 (by omega)⟩, fun h j hj => ?_⟩
    match j, hj with
    | 0, _ => exact h.1
    | 1, _ => exact h.2.1
    | 2, _ => exact h.2.2.1
    | 3, _ => exact h.2.2.2
  rw [e4]
  obtain ⟨⟨k0, k1⟩, _⟩ := h
  have m : mostB 114 = 7 ∧ mostB 48 = 0 ∧ mostB 110 = 18446744073709551615 ∧ mostB 112 = 256 ∧ mostB 103 = 7 ∧ mostB 109 = 2 ∧ mostB 100 = 7 := by decide
  obtain ⟨m1, m2, m3, m4, m5, m6, m7⟩ := m
  have ne : ∀ {a b c d e : UInt8}, (⟨#[a, b, c, d, e]⟩ : ByteArray) ≠ ⟨#[]⟩ := fun h => by cases h
  have b5 : ∀ (a b c d e : UInt8), bt ⟨#[a, b, c, d, e]⟩ 0 = (a.toNat : Int) ∧ bt ⟨#[a, b, c, d, e]⟩ 1 = (b.toNat : Int) ∧ bt ⟨#[a, b, c, d, e]⟩ 2 = (c.toNat : Int) ∧ bt ⟨#[a, b, c, d, e]⟩ 3 = (d.toNat : Int) ∧ bt ⟨#[a, b, c, d, e]⟩ 4 = (e.toNat : Int) :=
    fun a b c d e => ⟨rfl, rfl, rfl, rfl, rfl⟩
  have u : (((114 : UInt8).toNat : Nat) : Int) = 114 ∧ (((48 : UInt8).toNat : Nat) : Int) = 48 ∧ (((110 : UInt8).toNat : Nat) : Int) = 110 ∧ (((112 : UInt8).toNat : Nat) : Int) = 112 ∧ (((103 : UInt8).toNat : Nat) : Int) = 103 ∧
      (((109 : UInt8).toNat : Nat) : Int) = 109 ∧ (((100 : UInt8).toNat : Nat) : Int) = 100 := by decide
  obtain ⟨u1, u2, u3, u4, u5, u6, u7⟩ := u
  have key : ∀ (a b c d e : UInt8), ((⟨#[a, b, c, d, e]⟩ : ByteArray) ≠ ⟨#[]⟩ ∧ i.K ≤ mostB (bt ⟨#[a, b, c, d, e]⟩ 4) ∧ (0 ≤ i.A ∧ i.A ≤ mostB (bt ⟨#[a, b, c, d, e]⟩ 0)) ∧ (0 ≤ i.B ∧ i.B ≤ mostB (bt ⟨#[a, b, c, d, e]⟩ 1)) ∧ (0 ≤ i.C ∧ i.C ≤ mostB (bt ⟨#[a, b, c, d, e]⟩ 2)) ∧ (0 ≤ i.D ∧ i.D ≤ mostB (bt ⟨#[a, b, c, d, e]⟩ 3))) ↔
      (i.K ≤ mostB e.toNat ∧ (0 ≤ i.A ∧ i.A ≤ mostB a.toNat) ∧ (0 ≤ i.B ∧ i.B ≤ mostB b.toNat) ∧ (0 ≤ i.C ∧ i.C ≤ mostB c.toNat) ∧ (0 ≤ i.D ∧ i.D ≤ mostB d.toNat)) := by
    intro a b c d e
    obtain ⟨h0, h1, h2, h3, h4⟩ := b5 a b c d e
    rw [h0, h1, h2, h3, h4]
    exact ⟨fun h => h.2, fun h => ⟨ne, h⟩⟩
  by_cases e1 : i.Op = 1
  · have hf : formM i.Op = ⟨#[114, 48, 48, 48, 110]⟩ := by rw [e1]; rfl
    rw [hf, key, u1, u2, u3, m1, m2, m3]; unfold rightI; simp only [e1]; simp; omega
  by_cases e2 : i.Op = 2 ∨ i.Op = 23
  · have hf : formM i.Op = ⟨#[114, 114, 48, 48, 48]⟩ := by unfold formM; rw [if_neg e1, if_pos e2]
    rw [hf, key, u1, u2, m1, m2]; unfold rightI; simp only [e1, e2, if_false, if_true, Bool.and_eq_true, decide_eq_true_eq]; omega
  by_cases e3 : 3 ≤ i.Op ∧ i.Op ≤ 14
  · have hf : formM i.Op = ⟨#[114, 114, 114, 48, 48]⟩ := by unfold formM; rw [if_neg e1, if_neg e2, if_pos e3]
    rw [hf, key, u1, u2, m1, m2]; unfold rightI; simp only [e1, e2, e3, if_false, if_true, and_self, Bool.and_eq_true, decide_eq_true_eq]; omega
  by_cases e4 : i.Op = 15
  · have hf : formM i.Op = ⟨#[48, 48, 48, 48, 112]⟩ := by rw [e4]; rfl
    rw [hf, key, u2, u4, m2, m4]; unfold rightI; simp only [e4]; simp; omega
  by_cases e5 : i.Op = 16 ∨ i.Op = 17
  · have hf : formM i.Op = ⟨#[114, 48, 48, 48, 112]⟩ := by unfold formM; rw [if_neg e1, if_neg e2, if_neg e3, if_neg e4, if_pos e5]
    rw [hf, key, u1, u2, u4, m1, m2, m4]; unfold rightI; simp only [e1, e2, e3, e4, e5, if_false, if_true, Bool.and_eq_true, decide_eq_true_eq]; omega
  by_cases e6 : i.Op = 18
  · have hf : formM i.Op = ⟨#[114, 114, 103, 109, 48]⟩ := by rw [e6]; rfl
    rw [hf, key, u1, u2, u5, u6, m1, m2, m5, m6]; unfold rightI; simp only [e6]; simp; omega
  by_cases e7 : i.Op = 19
  · have hf : formM i.Op = ⟨#[114, 114, 103, 109, 100]⟩ := by rw [e7]; rfl
    rw [hf, key, u1, u5, u6, u7, m1, m5, m6, m7]; unfold rightI; simp only [e7]; simp; omega
  by_cases e8 : i.Op = 20
  · have hf : formM i.Op = ⟨#[48, 48, 103, 48, 48]⟩ := by rw [e8]; rfl
    rw [hf, key, u2, u5, m2, m5]; unfold rightI; simp only [e8]; simp; omega
  by_cases e9 : i.Op = 21 ∨ i.Op = 22 ∨ i.Op = 24
  · have hf : formM i.Op = ⟨#[114, 48, 48, 48, 48]⟩ := by unfold formM; rw [if_neg e1, if_neg e2, if_neg e3, if_neg e4, if_neg e5, if_neg e6, if_neg e7, if_neg e8, if_pos e9]
    rw [hf, key, u1, u2, m1, m2]; unfold rightI; simp only [e1, e2, e3, e4, e5, e6, e7, e8, e9, if_false, if_true, Bool.and_eq_true, decide_eq_true_eq]; omega
  by_cases e10 : i.Op = 25
  · have hf : formM i.Op = ⟨#[48, 48, 48, 48, 48]⟩ := by rw [e10]; rfl
    rw [hf, key, u2, m2]; unfold rightI; simp only [e10]; simp; omega
  · have hf : formM i.Op = ⟨#[]⟩ := by unfold formM; rw [if_neg e1, if_neg e2, if_neg e3, if_neg e4, if_neg e5, if_neg e6, if_neg e7, if_neg e8, if_neg e9, if_neg e10]
    rw [hf]; unfold rightI; simp only [e1, e2, e3, e4, e5, e6, e7, e8, e9, e10, if_false, ne_eq, not_true_eq_false, false_and, Bool.false_eq_true]
theorem w_fi (i : TIn) (h : okI i) : D_fi.wp i fun y => y = true ↔ rightI i = true := by
  refine of_wp ?_
  simp only [tt_fi]
  refine wC (w_f39 i.Op) fun (y : ByteArray) hy => ?_
  subst hy
  have hR := form_right h
  have hs := form_size i.Op
  generalize formM i.Op = f at hR hs
  refine wp_if (p := f = ⟨#[]⟩) seq_iff (fun he => ?_) (fun he => ?_)
  · show (false = true ↔ _)
    rw [← hR]; exact ⟨fun h => absurd h (by decide), fun h => absurd he h.1⟩
  · have hs : f.size = 5 := hs.resolve_left he
    refine wN (by rw [ibI, hs]; decide) ?_
    refine wC (w_f35 _) fun (y : Int) hy => ?_
    subst hy
    refine wp_if ilI (fun hk => ?_) (fun hk => ?_)
    · show (false = true ↔ _)
      rw [← hR]
      refine ⟨fun h => absurd h (by decide), fun h => ?_⟩
      have := h.2.1
      exact absurd hk (Int.not_lt.2 this)
    · refine of_wp ?_
      simp only [tt_fi_4]
      refine count_wp (fun k => (⟨f, ⟨false, 4, ins4 i⟩, (k : Nat)⟩ : X_fi_6)) 4 (fun k => ∀ j, j < k → 0 ≤ ins4 i j ∧ ins4 i j ≤ mostB (bt f j)) _
        (fun D hJ => ?_) (fun D k hk4 hJ hD => ?_) (k := 0) (Nat.zero_le _) (fun j hj => by omega)
      · simp only [tt_fi_6]
        refine wp_if ilI (fun hk => absurd hk (by decide)) (fun _ => ?_)
        show (true = true ↔ _)
        rw [← hR]
        exact ⟨fun _ => ⟨he, Int.not_lt.1 hk, hJ⟩, fun _ => rfl⟩
      · simp only [tt_fi_6]
        refine wp_if ilI (fun _ => ?_) (fun hk => absurd (Int.ofNat_lt.2 hk4) hk)
        refine wN (by rw [ibI]; exact ⟨Int.natCast_nonneg _, Int.ofNat_lt.2 hk4⟩) ?_
        rw [Int.toNat_natCast]
        have hb : ins4 i k < 9223372036854775808 := by
          obtain ⟨_, a, b, c, d⟩ := h
          match k, hk4 with
          | 0, _ => exact a
          | 1, _ => exact b
          | 2, _ => exact c
          | 3, _ => exact d
        refine wp_if (p := ins4 i k < 0) ilI (fun hn => ?_) (fun hn => ?_)
        · show (false = true ↔ _)
          rw [← hR]
          refine ⟨fun h => absurd h (by decide), fun h => ?_⟩
          have := (h.2.2 k hk4).1; omega
        · refine wN (by rw [ibI]; exact ⟨Int.natCast_nonneg _, Int.ofNat_lt.2 hk4⟩) (wN (by rw [ibI, hs]; omega) ?_)
          refine wC (w_f35 _) fun (y : Int) hy => ?_
          subst hy
          refine wp_if (p := mostB (bt f k) < ins4 i k) (by rw [ilI]; show mostB _ < IntKind.u64.wrap (ins4 i k) ↔ _; rw [wrapu64 (by omega) (by omega)]) (fun hn2 => ?_) (fun hn2 => ?_)
          · show (false = true ↔ _)
            rw [← hR]
            refine ⟨fun h => absurd h (by decide), fun h => ?_⟩
            have := (h.2.2 k hk4).2; omega
          · refine of_wp ?_
            simp only [tt_fi_7]
            have e : IntKind.i64.wrap ((k : Int) + 1) = ((k + 1 : Nat) : Int) := by rw [wrap64] <;> omega
            show D.wp ⟨f, ⟨false, 4, ins4 i⟩, _⟩ _
            rw [e]
            refine hD fun j hj => ?_
            by_cases ej : j = k
            · subst ej; exact ⟨by omega, by omega⟩
            · exact hJ j (by omega)
theorem w_f38 (c : TRg) : D_f38.wp c fun y => y = true ↔ rightRg c = true := by
  refine of_wp ?_
  simp only [tt_f38, TT.wp, leI, ieI, Bool.false_eq_true, true_iff, false_iff, rightRg, decide_eq_true_eq]
  omega
theorem w_f1v (p : TPg) (i : TIn) (n : Nat) (hn : n ≤ maxLen) (hr : ∀ c ∈ p.Rings.L, rightRg c = true) (hR : rightI i = true) : D_f1v.wp (p, (i, (n : Int))) fun y => y = instrE p.Rings.L i n := by
  have hn := maxLen_le hn
  have hw : IntKind.u64.wrap (n : Int) = n := wrapu64 (by omega) (by omega)
  have hf := rightI_facts hR
  have hrd : 0 ≤ i.C → i.C < p.Rings.n → IntKind.u64.wrap (p.Rings.get i.C.toNat).Readers = (p.Rings.L.getD i.C.toNat ⟨0, 0, 0⟩).Readers := fun h0 h1 => by
    rw [getD_L _ h0 h1]
    have := rg_cap (hr _ (Sl.mem_L.2 ⟨i.C.toNat, by omega, rfl⟩))
    exact wrapu64 (by omega) (by omega)
  have e : instrE p.Rings.L i n = if 15 ≤ i.Op ∧ i.Op ≤ 17 ∧ (n : Int) < i.K then 5 else if 18 ≤ i.Op ∧ i.Op ≤ 20 ∧ (p.Rings.n : Int) ≤ i.C then 7 else if i.Op = 19 ∧ (p.Rings.L.getD i.C.toNat ⟨0, 0, 0⟩).Readers ≤ i.K then 7 else 0 := by
    simp only [instrE, hR, Bool.true_eq_false, if_false, Sl.L_length]
  have e3 : ¬ (15 ≤ i.Op ∧ i.Op ≤ 17 ∧ (n : Int) < i.K) → D_f1v_3.wp (⟨p, i⟩ : X_f1v_3) fun y => y = instrE p.Rings.L i n := by
    intro hno
    refine of_wp ?_
    rw [e, if_neg hno]
    simp only [tt_f1v_3, TT.wp, leI, ieI, ibI]
    repeat' (first | apply And.intro | intro _)
    all_goals first
      | omega
      | ((repeat' split) <;> first | rfl | (exfalso; omega) | omega)
  refine of_wp ?_
  simp only [tt_f1v, hw]
  refine wp_if leI (fun h => wp_if leI (fun h2 => wp_if ilI (fun h3 => ?_) (fun h3 => ?_)) (fun h2 => ?_)) (fun h => ?_)
  · show (5 : Int) = _
    rw [e, if_pos ⟨h, h2, h3⟩]
  · exact e3 fun hh => h3 hh.2.2
  · exact e3 fun hh => h2 hh.2.1
  · exact e3 fun hh => h hh.1
theorem l_f4_15 (p : TPg) (hp : okP p) (hr : ∀ c ∈ p.Rings.L, rightRg c = true) (t : Nat) (ht : t < p.Threads.n) (D9 : Dyn X_f4_9 R_f4) (Q : R_f4 → Prop)
    (hbad : ∀ y : Int × Int × Int, y.2.2 ≠ 0 → ¬ insOk p.Rings.L (p.Threads.get t) → Q y) (hgood : insOk p.Rings.L (p.Threads.get t) → D9.wp ⟨p, IntKind.i64.wrap ((t : Int) + 1)⟩ Q) :
    (D_f4_15 D9).wp ⟨p, t, p.Threads.get t, 0⟩ Q := by
  have hl := hp.ln t ht
  refine count_wp (fun k => (⟨p, t, p.Threads.get t, (k : Nat)⟩ : X_f4_15)) (p.Threads.get t).n (fun k => ∀ j, j < k → instrE p.Rings.L ((p.Threads.get t).get j) (p.Threads.get t).n = 0) Q
    (fun D hJ => ?_) (fun D k hk hJ hD => ?_) (k := 0) (Nat.zero_le _) (fun j hj => by omega)
  · simp only [tt_f4_15, ilt_nat, Nat.lt_irrefl, decide_false, wp_false]
    refine of_wp ?_
    simp only [tt_f4_10]
    exact hgood hJ
  · simp only [tt_f4_15, ilt_nat, hk, decide_true, wp_true, inb_nat hk, wp_need_true, Int.toNat_natCast]
    have h20 : ∀ e, e = instrE p.Rings.L ((p.Threads.get t).get k) (p.Threads.get t).n →
        (D_f4_20 D9 D).wp (⟨p, t, p.Threads.get t, k, e⟩ : X_f4_20) Q := by
      intro e he
      refine of_wp ?_
      simp only [tt_f4_20]
      refine wp_if (p := e ≠ 0) (by rw [bnI, ieI]) (fun h => ?_) (fun h => ?_)
      · exact hbad (_, _, e) h fun hok => h (he.trans (hok k hk))
      · refine of_wp ?_
        simp only [tt_f4_16, next64 hk hl]
        refine hD fun j hj => ?_
        by_cases ej : j = k
        · subst ej; rw [← he]; exact Classical.byContradiction h
        · exact hJ j (by omega)
    refine wC (w_fi _ (hp.ins t ht k hk)) fun (y : Bool) hy => ?_
    refine wp_if hy (fun hR => ?_) (fun hR => ?_)
    · exact wN rfl (wC (w_f1v p _ _ hl hr hR) fun (y : Int) hy =>
      h20 y hy)
    · refine h20 6 ?_
      rw [instrE, if_pos (by simpa using hR)]
theorem l_f4_9 (p : TPg) (hp : okP p) (h1 : 1 ≤ p.Threads.n) (h2 : p.Threads.n ≤ 8) (h3 : p.Rings.n ≤ 8) (hr : ∀ c ∈ p.Rings.L, rightRg c = true) :
    D_f4_9.wp ⟨p, 0⟩ fun y => y.2.2 = 0 ↔ PInv (aP p) := by
  refine count_wp (fun k => (⟨p, (k : Nat)⟩ : X_f4_9)) p.Threads.n (fun k => ∀ t, t < k → (p.Threads.get t).n ≤ 256 ∧ insOk p.Rings.L (p.Threads.get t)) _
    (fun D hJ => ?_) (fun D k hk hJ hD => ?_) (k := 0) (Nat.zero_le _) (fun j hj => by omega)
  · simp only [tt_f4_9, ilt_nat, Nat.lt_irrefl, decide_false, wp_false]
    exact ⟨fun _ => PInv_iff p h1 h2 h3 hr hJ, fun _ => rfl⟩
  · simp only [tt_f4_9, ilt_nat, hk, decide_true, wp_true, inb_nat hk, wp_need_true, Int.toNat_natCast]
    refine wp_if ilI (fun h => ?_) (fun h => ?_)
    · show ((4 : Int) = 0 ↔ _)
      refine ⟨fun h => by omega, fun hP => ?_⟩
      have := ((PInv_get hP).2.2.2.2 k hk).1
      omega
    · refine l_f4_15 p hp hr k hk D _ (fun y hy hno => ⟨fun h => absurd h hy, fun hP => absurd ((PInv_get hP).2.2.2.2 k hk).2 hno⟩) fun hok => ?_
      rw [next64 hk hp.tn]
      refine hD fun t ht => ?_
      by_cases e : t = k
      · subst e; exact ⟨by omega, hok⟩
      · exact hJ t (by omega)
theorem w_f4 (p : TPg) (hp : okP p) : D_f4.wp p fun y => y.2.2 = 0 ↔ PInv (aP p) := by
  have ne : ∀ {x : Int} {q : Prop}, x ≠ 0 → ¬ q → (x = 0 ↔ q) := fun h k => ⟨fun e => absurd e h, fun e => absurd e k⟩
  refine of_wp ?_
  simp only [tt_f4]
  refine wp_if ieI (fun h => ?_) fun h0 => wp_if ilI (fun h => ?_) fun h8 => wp_if ilI (fun h => ?_) fun hr8 => ?_
  · exact ne (by decide) fun hP => by have := (PInv_get hP).1; omega
  · exact ne (by decide) fun hP => by have := (PInv_get hP).2.1; omega
  · exact ne (by decide) fun hP => by have := (PInv_get hP).2.2.1; omega
  · refine of_wp ?_
    simp only [tt_f4_3]
    refine count_wp (fun k => (⟨p, (k : Nat)⟩ : X_f4_4)) p.Rings.n (fun k => ∀ j, j < k → rightRg (p.Rings.get j) = true) _
      (fun D hJ => ?_) (fun D k hk hJ hD => ?_) (k := 0) (Nat.zero_le _) (fun j hj => by omega)
    · simp only [tt_f4_4, ilt_nat, Nat.lt_irrefl, decide_false, wp_false]
      refine of_wp ?_
      simp only [tt_f4_8]
      exact l_f4_9 p hp (by omega) (by omega) (by omega) fun c hc => by
        obtain ⟨j, hj, rfl⟩ := Sl.mem_L.1 hc
        exact hJ j hj
    · simp only [tt_f4_4, ilt_nat, hk, decide_true, wp_true, inb_nat hk, wp_need_true, Int.toNat_natCast, next64 hk hp.rn]
      refine wC (w_f38 _) fun (y : Bool) hy => ?_
      simp only [TT.wp, bnI, hy]
      refine ⟨fun h => ne (by decide) fun hP => h ((PInv_get hP).2.2.2.1 _ (Sl.mem_L.2 ⟨k, hk, rfl⟩)), fun h => hD fun j hj => ?_⟩
      by_cases e : j = k
      · subst e; exact Classical.byContradiction h
      · exact hJ j (by omega)
theorem w_f33 (p : TPg) (hp : okP p) : D_f33.wp p fun y => y = true ↔ PInv (aP p) := by
  refine of_wp ?_
  simp only [tt_f33]
  refine wC (w_f4 p hp) fun (y : Int × Int × Int) hy => ?_
  show (ieq y.2.2 0 = true ↔ _)
  rw [ieI]
  exact hy
theorem all_wp {P : Program} {X R : Type} {tt : Dyn X R → X → TT P R} (st : Nat → X) (N : Nat) (p : Nat → Prop) (Q : R → Prop) (hend : ∀ D, (∀ j, j < N → p j) → (tt D (st N)).wp Q)
    (hstep : ∀ (D : Dyn X R) k, k < N → (p k → D.wp (st (k + 1)) Q) → (tt D (st k)).wp Q) : (Dyn.loop tt).wp (st 0) Q :=
  count_wp st N (fun k => ∀ j, j < k → p j) Q hend
    (fun D k hk hJ hD => hstep D k hk fun h => hD fun j hj => by
      by_cases e : j = k
      · subst e; exact h
      · exact hJ j (by omega)) (Nat.zero_le _) fun j hj => by omega
theorem ff_iff {q : Prop} (h : ¬ q) : (false = true ↔ q) := ⟨fun e => absurd e (by decide), fun k => absurd k h⟩
theorem tt_iff {q : Prop} (h : q) : (true = true ↔ q) := ⟨fun _ => h, fun _ => rfl⟩
theorem dec_iff {b : Bool} {p q : Prop} (hb : b = true ↔ p) (h : p ↔ q) : (b = true ↔ q) := hb.trans h
structure SameS {α : Type} (y x : Sl α) : Prop where
  n : y.n = x.n
  g : ∀ i, i < x.n → y.get i = x.get i
theorem SameS.L {α : Type} {y x : Sl α} (h : SameS y x) : y.L = x.L := Sl.L_ext h.n fun i hi => h.g i (h.n ▸ hi)
theorem SameS.refl {α : Type} (x : Sl α) : SameS x x := ⟨rfl, fun _ _ => rfl⟩
def SlOk {α : Type} (x : Sl α) : Prop := x.nil = true → x.n = 0
theorem blt0 (i : Nat) : Nat.blt i 0 = false := rfl
theorem room_le {n b : Nat} (h : n * b ≤ 140737488351232) : (true && room (0 + n) b) = true := by simp [room]; omega
theorem w_Clone_uint64 (x : Sl Int) (h : SlOk x) (hn : x.n * 8 ≤ 140737488351232) : D_f1g.wp x fun y => SameS y x ∧ SlOk y := by
  refine of_wp ?_
  simp only [tt_f1g]
  refine wp_ite (fun e => ⟨⟨(h e).symm, fun i hi => by have := h e; omega⟩, fun _ => rfl⟩) fun _ => wN (room_le hn) ⟨⟨?_, fun i _ => rfl⟩, fun e => ?_⟩
  · exact Nat.zero_add _
  · simp only [Bool.cond_self, Bool.false_eq_true] at e
theorem w_Clone_uint64_w0 (x : Sl Int) (h : SlOk x) (hn : x.n * 8 ≤ 140737488351232) : D_f1n.wp x fun y => SameS y x ∧ SlOk y := by
  refine of_wp ?_
  simp only [tt_f1n]
  refine wp_ite (fun e => ⟨⟨(h e).symm, fun i hi => by have := h e; omega⟩, fun _ => rfl⟩) fun _ => wN (room_le hn) ⟨⟨?_, fun i _ => rfl⟩, fun e => ?_⟩
  · exact Nat.zero_add _
  · simp only [Bool.cond_self, Bool.false_eq_true] at e
theorem w_Clone_Slot_w0 (x : Sl TSo) (h : SlOk x) (hn : x.n * 24 ≤ 140737488351232) : D_f1a.wp x fun y => SameS y x ∧ SlOk y := by
  refine of_wp ?_
  simp only [tt_f1a]
  refine wp_ite (fun e => ⟨⟨(h e).symm, fun i hi => by have := h e; omega⟩, fun _ => rfl⟩) fun _ => wN (room_le hn) ⟨⟨?_, fun i _ => rfl⟩, fun e => ?_⟩
  · exact Nat.zero_add _
  · simp only [Bool.cond_self, Bool.false_eq_true] at e
theorem w_Clone_Instr (x : Sl TIn) (h : SlOk x) (hn : x.n * 48 ≤ 140737488351232) : D_f1l.wp x fun y => SameS y x ∧ SlOk y := by
  refine of_wp ?_
  simp only [tt_f1l]
  refine wp_ite (fun e => ⟨⟨(h e).symm, fun i hi => by have := h e; omega⟩, fun _ => rfl⟩) fun _ => wN (room_le hn) ⟨⟨?_, fun i _ => rfl⟩, fun e => ?_⟩
  · exact Nat.zero_add _
  · simp only [Bool.cond_self, Bool.false_eq_true] at e
theorem w_Clone_Ring (x : Sl TRg) (h : SlOk x) (hn : x.n * 24 ≤ 140737488351232) : D_f1s.wp x fun y => SameS y x ∧ SlOk y := by
  refine of_wp ?_
  simp only [tt_f1s]
  refine wp_ite (fun e => ⟨⟨(h e).symm, fun i hi => by have := h e; omega⟩, fun _ => rfl⟩) fun _ => wN (room_le hn) ⟨⟨?_, fun i _ => rfl⟩, fun e => ?_⟩
  · exact Nat.zero_add _
  · simp only [Bool.cond_self, Bool.false_eq_true] at e
theorem w_Clone_Slot_o0 (x : Ar TSo) (h : 0 < x.n) (hn : x.n * 24 ≤ 140737488351232) : D_fp.wp x fun y => SameS y ⟨false, x.n, x.get⟩ ∧ SlOk y := by
  refine ro_wp ?_
  simp only [tt_fp]
  refine wN (by simpa [Nat.blt_eq] using h) (wN (by simpa [room] using hn) ⟨⟨Nat.zero_add _, fun i _ => ?_⟩, fun e => ?_⟩)
  · simp [blt0]
  · simp only [Bool.cond_self, Bool.false_eq_true] at e
theorem w_Clone_uint64_o0 (x : Ar Int) (h : 0 < x.n) (hn : x.n * 8 ≤ 140737488351232) : D_fw.wp x fun y => SameS y ⟨false, x.n, x.get⟩ ∧ SlOk y := by
  refine ro_wp ?_
  simp only [tt_fw]
  refine wN (by simpa [Nat.blt_eq] using h) (wN (by simpa [room] using hn) ⟨⟨Nat.zero_add _, fun i _ => ?_⟩, fun e => ?_⟩)
  · simp [blt0]
  · simp only [Bool.cond_self, Bool.false_eq_true] at e
theorem w_Clone_ThreadState_o0_w0 (x : Ar TTh) (h : 0 < x.n) (hn : x.n * 128 ≤ 140737488351232) : D_ff.wp x fun y => SameS y ⟨false, x.n, x.get⟩ ∧ SlOk y := by
  refine ro_wp ?_
  simp only [tt_ff]
  refine wN (by simpa [Nat.blt_eq] using h) (wN (by simpa [room] using hn) ⟨⟨Nat.zero_add _, fun i _ => ?_⟩, fun e => ?_⟩)
  · simp [blt0]
  · simp only [Bool.cond_self, Bool.false_eq_true] at e
def insC (n : Nat) (i : TIn) : Prop := rightI i = true ∧ ¬ (15 ≤ i.Op ∧ i.Op ≤ 17 ∧ (n : Int) < i.K)
def codeOk (l : Sl TIn) : Prop := l.n ≤ 256 ∧ ∀ k, k < l.n → insC l.n (l.get k)
structure okC (l : Sl TIn) : Prop where
  n : l.n ≤ maxLen
  i : ∀ k, k < l.n → okI (l.get k)
theorem w_f2i (i : TIn) (l : Sl TIn) (hi : okI i) (hl : l.n ≤ 256) : D_f2i.wp (i, l) fun y => y = true ↔ ¬ insC l.n i := by
  refine of_wp ?_
  simp only [tt_f2i]
  refine wC (w_f2s i hi) fun (y : Bool) hy => ?_
  refine wp_if bnI (fun h => tt_iff fun hc => h (hy.2 hc.1)) fun h => ?_
  have hR := hy.1 (Classical.byContradiction h)
  refine wC (w_f2t i) fun (z : Bool) hz => ?_
  refine wp_if hz (fun hj => ?_) fun hj => ff_iff fun k => k ⟨hR, fun hh => hj ⟨hh.1, hh.2.1⟩⟩
  refine dec_iff ilI ?_
  rw [wrapu64 (by omega) (by omega)]
  exact ⟨fun h k => k.2 ⟨hj.1, hj.2, h⟩, fun h => Classical.byContradiction fun h2 => h ⟨hR, fun hh => h2 hh.2.2⟩⟩
theorem w_IndexFunc_Code (l m : Sl TIn) (hl : okC l) (hm : m.n ≤ 256) : D_f8.wp (l, m) fun y => 0 ≤ y ↔ ¬ ∀ k, k < l.n → insC m.n (l.get k) := by
  refine of_wp ?_
  simp only [tt_f8]
  refine all_wp (fun k => (⟨l, m, l.n, (k : Nat)⟩ : X_f8_2)) l.n (fun k => insC m.n (l.get k)) _ (fun D hJ => ?_) (fun D k hk hD => ?_)
  · simp only [tt_f8_2, ilt_nat, Nat.lt_irrefl, decide_false, wp_false]
    exact ⟨fun h => absurd h (by decide), fun h => absurd hJ h⟩
  · simp only [tt_f8_2, ilt_nat, hk, decide_true, wp_true, inb_nat hk, wp_need_true, Int.toNat_natCast, next64 hk hl.n]
    refine wC (w_f2i _ m (hl.i k hk) hm) fun (y : Bool) hy => ?_
    refine wp_if hy (fun h => ⟨fun _ k2 => h (k2 k hk), fun _ => Int.natCast_nonneg k⟩) fun h => hD (Classical.byContradiction h)
theorem w_f2w (l : Sl TIn) (hl : okC l) : D_f2w.wp l fun y => y = true ↔ codeOk l := by
  refine of_wp ?_
  simp only [tt_f2w]
  refine wp_if ilI (fun h => ff_iff fun k => by have := k.1; omega) fun h => ?_
  have e : D_fj.wp (l, l) fun y => y = true ↔ ¬ ∀ k, k < l.n → insC l.n (l.get k) := by
    refine of_wp ?_
    simp only [tt_fj]
    refine wC (w_IndexFunc_Code l l hl (by omega)) fun (y : Int) hy => dec_iff leI hy
  refine wC e fun (y : Bool) hy => ?_
  refine dec_iff bnI ?_
  rw [hy]
  exact ⟨fun k => ⟨by omega, Classical.byContradiction k⟩, fun k k2 => k2 k.2⟩
def aT (t : TTh) : MT := ⟨t.At, t.Phase, t.Ring, t.Status, t.Ticket, t.Regs, t.Seen.L⟩
theorem gI_L (l : Sl TIn) {a : Int} (h0 : 0 ≤ a) (h1 : a < l.n) : gI l.L a = l.get a.toNat := by unfold gI; exact getD_L l h0 h1 zI
theorem w_fn (l : Sl TIn) (t : TTh) (hl : okC l) (hk : 0 ≤ t.Ticket) : D_fn.wp (l, t) fun y => y = true ↔ codeOk l ∧ TInv l.L (aT t) := by
  refine of_wp ?_
  simp only [tt_fn]
  refine wC (w_f2w l hl) fun (y : Bool) hy => ?_
  refine wp_if bnI (fun h => ff_iff fun k => h (hy.2 k.1)) fun h => ?_
  have hc := hy.1 (Classical.byContradiction h)
  have a1 : TInv l.L (aT t) → t.At ≤ l.n := fun k => by have := k.a1; simpa [aT] using this
  refine wp_if ilI (fun h => ff_iff fun k => absurd k.2.a0 (Int.not_le.2 h)) fun h0 => wp_if ilI (fun h => ff_iff fun k => absurd (a1 k.2) (Int.not_le.2 h)) fun h1 =>
    wp_if ilI (fun h => ff_iff fun k => absurd k.2.st.1 (Int.not_le.2 h)) fun h2 => wp_if ilI (fun h => ff_iff fun k => absurd k.2.st.2 (Int.not_le.2 h)) fun h3 =>
    wp_if ilI (fun h => ff_iff fun k => absurd k.2.ph.1 (Int.not_le.2 h)) fun h4 => wp_if ilI (fun h => ff_iff fun k => absurd k.2.ph.2 (Int.not_le.2 h)) fun h5 => ?_
  refine of_wp ?_
  simp only [tt_fn_3]
  have mk : (t.Phase = 0 → t.Ring = 0 ∧ t.Ticket = 0) → (t.Phase ≠ 0 → t.Status = 0 ∧ t.At < l.n ∧ (l.get t.At.toNat).Op = 17 + t.Phase ∧ (l.get t.At.toNat).C = t.Ring ∧ t.Ticket < 4611686018427387904) → codeOk l ∧ TInv l.L (aT t) := by
    intro p0 p1
    refine ⟨hc, Int.not_lt.1 h0, ?_, ⟨Int.not_lt.1 h2, Int.not_lt.1 h3⟩, ⟨Int.not_lt.1 h4, Int.not_lt.1 h5⟩, p0, fun hp => ?_⟩
    · simpa [aT] using h1
    · obtain ⟨a, b, c, d, e⟩ := p1 hp
      refine ⟨a, by simpa [aT] using b, ?_, ?_, hk, e⟩
      · show (gI l.L t.At).Op = _; rw [gI_L l (by omega) b]; exact c
      · show (gI l.L t.At).C = _; rw [gI_L l (by omega) b]; exact d
  have un : TInv l.L (aT t) → t.Phase ≠ 0 → t.Status = 0 ∧ t.At < l.n ∧ (l.get t.At.toNat).Op = 17 + t.Phase ∧ (l.get t.At.toNat).C = t.Ring ∧ t.Ticket < 4611686018427387904 := by
    intro k hp
    obtain ⟨a, b, c, d, _, e⟩ := k.p1 hp
    have b : t.At < l.n := by simpa [aT] using b
    change (gI l.L t.At).Op = _ at c
    change (gI l.L t.At).C = _ at d
    rw [gI_L l (by omega) b] at c d
    exact ⟨a, b, c, d, e⟩
  refine wp_if ieI (fun hp => wp_if ieI (fun hr => ?_) fun hr => ff_iff fun k => hr (k.2.p0 hp).1) fun hp => ?_
  · refine dec_iff ieI ⟨fun ht => mk (fun _ => ⟨hr, ht⟩) fun h => absurd hp h, fun k => (k.2.p0 hp).2⟩
  · refine wp_if (p := t.Status ≠ 0) (by rw [bnI, ieI]) (fun hs => ff_iff fun k => hs (k.2.p1 hp).1) fun hs => wp_if ieI (fun ha => ff_iff fun k => by have := (un k.2 hp).2.1; omega) fun ha => ?_
    refine of_wp ?_
    simp only [tt_fn_7]
    have hw : IntKind.i64.wrap (t.Phase - 1) = t.Phase - 1 := wrap64 (by omega) (by omega)
    refine wN (by rw [ibI]; omega) (wN (by rw [ibI, hw]; omega) ?_)
    have ho : (cond (Nat.beq (Int.toNat (IntKind.i64.wrap (t.Phase - 1))) 0) (18 : Int) (19 : Int)) = 17 + t.Phase := by
      rw [hw]
      rcases (by omega : t.Phase = 1 ∨ t.Phase = 2) with e | e <;> rw [e] <;> rfl
    rw [ho]
    refine wp_if ieI (fun e1 => wp_if ieI (fun e2 => ?_) fun e2 => ff_iff fun k => e2 (un k.2 hp).2.2.2.1) fun e1 => ff_iff fun k => e1 (un k.2 hp).2.2.1
    exact dec_iff ilI ⟨fun ht => mk (fun h => absurd h hp) fun _ => ⟨Classical.byContradiction hs, by omega, e1, e2, ht⟩, fun k => (un k.2 hp).2.2.2.2⟩
structure okSlot (x : TSo) : Prop where
  s0 : 0 ≤ x.Stamp
  s1 : x.Stamp < 18446744073709551616
  l0 : -9223372036854775808 ≤ x.Left
  l1 : x.Left ≤ 9223372036854775807
structure placeI (c nr : Int) (i : Nat) (x : TSo) : Prop where
  s1 : x.Stamp < 9223372036854775808
  at0 : x.Stamp / 2 % c = i
  free : x.Stamp % 2 = 0 → x.Value = 0 ∧ x.Left = 0
  held : x.Stamp % 2 = 1 → 1 ≤ x.Left ∧ x.Left < 2 ^ nr.toNat
theorem w_f2z (c r : Int) : D_f2z.wp (c, r) fun y => y = true ↔ 1 ≤ c ∧ c ≤ 64 ∧ 1 ≤ r ∧ r ≤ 8 := by
  refine of_wp ?_
  simp only [tt_f2z, TT.wp, leI, Bool.false_eq_true, false_iff]
  omega
theorem shl_readers {r : Int} (h1 : 1 ≤ r) (h8 : r ≤ 8) : shl IntKind.i64 1 r = 2 ^ r.toNat := by
  rcases (by omega : r = 1 ∨ r = 2 ∨ r = 3 ∨ r = 4 ∨ r = 5 ∨ r = 6 ∨ r = 7 ∨ r = 8) with e | e | e | e | e | e | e | e <;> subst e <;> rfl
theorem w_f1p (i : Nat) (c r : Int) (x : TSo) (hx : okSlot x) (hc : 1 ≤ c ∧ c ≤ 64 ∧ 1 ≤ r ∧ r ≤ 8) (hi : (i : Int) < 9223372036854775808) : D_f1p.wp ((i : Int), (c, (r, x))) fun y => y = true ↔ placeI c r i x := by
  refine of_wp ?_
  have h0 := hx.s0
  have hs := hx.s1
  simp only [tt_f1p]
  have hd : Int.tdiv x.Stamp 2 = x.Stamp / 2 := Int.tdiv_eq_ediv_of_nonneg h0
  have hw1 : IntKind.u64.wrap (x.Stamp / 2) = x.Stamp / 2 := wrapu64 (by omega) (by omega)
  have hw2 : IntKind.u64.wrap c = c := wrapu64 (by omega) (by omega)
  have hw3 : IntKind.u64.wrap (i : Int) = i := wrapu64 (by omega) (by omega)
  have hm : Int.tmod (x.Stamp / 2) c = x.Stamp / 2 % c := Int.tmod_eq_emod_of_nonneg (by omega)
  have hm2 : Int.tmod x.Stamp 2 = x.Stamp % 2 := Int.tmod_eq_emod_of_nonneg h0
  rw [hd, hw1, hw2, hw3, hm]
  refine wp_if leI (fun h => ff_iff fun k => absurd k.s1 (Int.not_lt.2 h)) fun h => wN (by rw [bnI, ieI]; omega) (wp_if (p := x.Stamp / 2 % c ≠ i) (by rw [bnI, ieI]) (fun h => ff_iff fun k => h k.at0) fun h2 => ?_)
  refine of_wp ?_
  simp only [tt_f1p_3]
  rw [hm2]
  have h2 := Classical.byContradiction h2
  refine wp_if ieI (fun e => wp_if ieI (fun e2 => dec_iff ieI ⟨fun e3 => ⟨by omega, h2, fun _ => ⟨e2, e3⟩, fun e4 => by omega⟩, fun k => (k.free e).2⟩) fun e2 => ff_iff fun k => e2 (k.free e).1) fun e => ?_
  refine wp_if leI (fun e2 => wN (by rw [leI]; omega) ?_) fun e2 => ff_iff fun k => e2 (k.held (by omega)).1
  refine dec_iff ilI ?_
  rw [shl_readers hc.2.2.1 hc.2.2.2]
  exact ⟨fun e3 => ⟨by omega, h2, fun e4 => absurd e4 e, fun _ => ⟨e2, e3⟩⟩, fun k => (k.held (by omega)).2⟩
def slotsI (c r : Int) (l : Sl TSo) : Prop := (l.n : Int) = c ∧ ∀ i, i < l.n → placeI c r i (l.get i)
structure okSs (l : Sl TSo) : Prop where
  n : l.n ≤ maxLen
  x : ∀ i, i < l.n → okSlot (l.get i)
  z : SlOk l
theorem w_fq (c r : Int) (l : Sl TSo) (hl : okSs l) (hc : 1 ≤ c ∧ c ≤ 64 ∧ 1 ≤ r ∧ r ≤ 8) :
    D_fq.wp (c, (r, l)) fun y => (slotsI c r l ∧ y.2 = 0 ∧ y.1.nil = false ∧ SameS y.1.x.l l ∧ y.1.x.readers = r ∧ SlOk y.1.x.l) ∨ (¬ slotsI c r l ∧ y.2 = 3 ∧ y.1.nil = true) := by
  refine of_wp ?_
  simp only [tt_fq]
  refine wC (w_f2z c r) fun (y : Bool) hy => ?_
  refine wp_if bnI (fun h => absurd (hy.2 hc) h) fun _ => ?_
  refine wp_if (p := (l.n : Int) ≠ c) (by rw [bnI, ieI]) (fun h => .inr ⟨fun k => h k.1, rfl, rfl⟩) fun h => ?_
  have hn := Classical.byContradiction h
  refine all_wp (fun k => (⟨c, r, l, l, l.n, (k : Nat)⟩ : X_fq_6)) l.n (fun k => placeI c r k (l.get k)) _ (fun D hJ => ?_) (fun D k hk hD => ?_)
  · simp only [tt_fq_6, ilt_nat, Nat.lt_irrefl, decide_false, wp_false]
    refine of_wp ?_
    simp only [tt_fq_11]
    refine wC (w_Clone_Slot_w0 l hl.z (by omega)) fun (y : Sl TSo) hy => ?_
    exact .inl ⟨⟨hn, hJ⟩, rfl, rfl, hy.1, rfl, hy.2⟩
  · simp only [tt_fq_6, ilt_nat, hk, decide_true, wp_true, inb_nat hk, wp_need_true, Int.toNat_natCast, next64 hk hl.n]
    refine wC (w_f1p k c r _ (hl.x k hk) hc (by have := maxLen_le hl.n; omega)) fun (y : Bool) hy => ?_
    refine wp_if bnI (fun h => .inr ⟨fun kk => h (hy.2 (kk.2 k hk)), rfl, rfl⟩) fun h => hD (hy.1 (Classical.byContradiction h))
def standJ (c : Int) (x : TSo) (h : Int) (j : Nat) : Prop :=
  (x.Stamp % 2 = 1 → bitI x.Left j = false → x.Stamp / 2 < h) ∧ (x.Stamp % 2 = 0 → c ≤ x.Stamp / 2 → x.Stamp / 2 - c < h)
def standI (c tail : Int) (heads : Sl Int) (x : TSo) : Prop := (x.Stamp % 2 = 1 → x.Stamp / 2 < tail) ∧ ∀ j, j < heads.n → standJ c x (heads.get j) j
theorem and_bit : ∀ (x : Fin 256) (j : Fin 8), decide (Vm.bits .and IntKind.i64 (shr IntKind.i64 (x.val : Int) (j.val : Int)) 1 = 0) = !bitI (x.val : Int) (j.val : Int) := by decide +kernel
theorem and_bit' {x : Int} {j : Nat} (h0 : 0 ≤ x) (h1 : x < 256) (hj : j < 8) : Vm.bits .and IntKind.i64 (shr IntKind.i64 x (j : Int)) 1 = 0 ↔ bitI x (j : Int) = false := by
  have := and_bit ⟨x.toNat, by omega⟩ ⟨j, hj⟩
  simp only [show ((x.toNat : Nat) : Int) = x by omega] at this
  exact decide_eq_true_iff.symm.trans (by rw [this]; simp)
structure okHs (l : Sl Int) : Prop where
  n : l.n ≤ 8
  h : ∀ j, j < l.n → 0 ≤ l.get j ∧ l.get j < 18446744073709551616
theorem w_ring_stands (x : TSo) (r : TRr) (hx : 0 ≤ x.Stamp ∧ x.Stamp < 9223372036854775808) (hl : 0 ≤ x.Left ∧ x.Left < 256) (hh : okHs r.cursors.heads) (hm : 0 ≤ r.most ∧ r.most ≤ 64) :
    D_f2.wp (x, r) fun y => y = true ↔ standI r.most r.cursors.tail r.cursors.heads x := by
  refine ro_wp ?_
  simp only [tt_f2]
  have hd : Int.tdiv x.Stamp 2 = x.Stamp / 2 := Int.tdiv_eq_ediv_of_nonneg hx.1
  have hw1 : IntKind.u64.wrap (x.Stamp / 2) = x.Stamp / 2 := wrapu64 (by omega) (by omega)
  have hm2 : Int.tmod x.Stamp 2 = x.Stamp % 2 := Int.tmod_eq_emod_of_nonneg hx.1
  rw [hd, hw1, hm2]
  have h5 : (x.Stamp % 2 = 1 → x.Stamp / 2 < r.cursors.tail) → D_f2_5.wp (⟨x, x.Stamp / 2, ieq (x.Stamp % 2) 1, r⟩ : X_f2_5) fun y => y.1 = true ↔ standI r.most r.cursors.tail r.cursors.heads x := by
    intro ht
    refine of_wp ?_
    simp only [tt_f2_5]
    refine all_wp (fun k => (⟨x, x.Stamp / 2, ieq (x.Stamp % 2) 1, r.cursors.heads.n, (k : Nat), r⟩ : X_f2_6)) r.cursors.heads.n (fun k => standJ r.most x (r.cursors.heads.get k) k) _ (fun D hJ => ?_) (fun D k hk hD => ?_)
    · simp only [tt_f2_6, ilt_nat, Nat.lt_irrefl, decide_false, wp_false]
      exact wN (by simp) (tt_iff ⟨ht, hJ⟩)
    · have hn := hh.n
      have hg := hh.h k hk
      have e2 : IntKind.i64.wrap ((k : Int) + 1) = ((k + 1 : Nat) : Int) := by rw [wrap64] <;> omega
      simp only [tt_f2_6, ilt_nat, hk, decide_true, wp_true, inb_nat hk, wp_need_true, Int.toNat_natCast, Nat.zero_add]
      refine wN (by simp) ?_
      have hb := and_bit' hl.1 hl.2 (Nat.lt_of_lt_of_le hk hn)
      have h12 : standJ r.most x (r.cursors.heads.get k) k → (D_f2_12 D).wp (⟨x, x.Stamp / 2, ieq (x.Stamp % 2) 1, r.cursors.heads.n, k, r⟩ : X_f2_12) fun y => y.1 = true ↔ standI r.most r.cursors.tail r.cursors.heads x := fun hc => by
        refine of_wp ?_
        simp only [tt_f2_12, e2]
        exact hD hc
      refine wp_if ieI (fun ho => ?_) fun ho => ?_
      · have nh : ∀ {t e : TT Tryz.prog RR_f2} {Q}, e.wp Q → (TT.ite (!(ieq (x.Stamp % 2) 1)) t e).wp Q := fun h => wp_ite (fun k => by rw [bnI, ieI] at k; exact absurd ho k) fun _ => h
        refine wN (by rw [leI]; omega) (wp_if (ieI.trans hb) (fun hz => wp_if leI (fun hle => wN (by simp) (ff_iff fun kk => ?_)) fun hle => nh (h12 ⟨fun _ _ => by omega, fun e => by omega⟩)) fun hz => nh (h12 ⟨fun _ e => absurd e hz, fun e => by omega⟩))
        have := (kk.2 k hk).1 ho hz
        omega
      · refine wp_ite (fun _ => wp_if leI (fun h1 => ?_) fun h1 => h12 ⟨fun e => absurd e ho, fun _ e => absurd e h1⟩) fun k => absurd (bnI.2 fun e => ho (ieI.1 e)) k
        rw [wrapu64 (by omega) (by omega)]
        refine wp_if leI (fun h2 => wN (by simp) (ff_iff fun kk => ?_)) fun h2 => h12 ⟨fun e => absurd e ho, fun _ _ => by omega⟩
        have := (kk.2 k hk).2 (by omega) h1
        omega
  refine wp_if ieI (fun ho => wp_if leI (fun ht => ff_iff fun k => absurd (k.1 ho) (Int.not_lt.2 ht)) fun ht => h5 fun _ => by omega) fun ho => h5 fun e => absurd e ho
structure okRS (s : TRs) : Prop where
  t0 : 0 ≤ s.Tail
  t1 : s.Tail < 18446744073709551616
  hn : s.Heads.n ≤ maxLen
  hh : ∀ j, j < s.Heads.n → 0 ≤ s.Heads.get j ∧ s.Heads.get j < 18446744073709551616
  hz : SlOk s.Heads
  ss : okSs s.Slots
structure ringL (c : TRg) (s : TRs) : Prop where
  sl : slotsI c.Cap c.Readers s.Slots
  rd : (s.Heads.n : Int) = c.Readers
  tb : s.Tail < 4611686018427387904
  h0 : ∀ j, j < s.Heads.n → s.Heads.get j ≤ s.Tail ∧ s.Tail - s.Heads.get j ≤ c.Cap
  st : ∀ i, i < s.Slots.n → standI c.Cap s.Tail s.Heads (s.Slots.get i)
theorem rg_facts {c : TRg} (h : rightRg c = true) : 1 ≤ c.Cap ∧ c.Cap ≤ 64 ∧ 1 ≤ c.Readers ∧ c.Readers ≤ 8 := by
  simp only [rightRg, decide_eq_true_eq] at h; omega
theorem placeI_left {c r : Int} {i : Nat} {x : TSo} (h : placeI c r i x) (h8 : r ≤ 8) : 0 ≤ x.Left ∧ x.Left < 256 := by
  rcases (by omega : x.Stamp % 2 = 0 ∨ x.Stamp % 2 = 1) with e | e
  · have := h.free e; omega
  · have := h.held e
    have h2 : (2 : Int) ^ r.toNat ≤ 2 ^ 8 := by exact_mod_cast Nat.pow_le_pow_right (by decide) (by omega : r.toNat ≤ 8)
    omega
structure RWf (c : TRg) (r : TRr) : Prop where
  sn : r.s.nil = false
  rd : r.s.x.readers = c.Readers
  ms : r.most = c.Cap
  hz : SlOk r.cursors.heads
  lz : SlOk r.s.x.l
  hn : (r.cursors.heads.n : Int) = c.Readers
  ln : (r.s.x.l.n : Int) = c.Cap
def aR (r : TRr) : MR := ⟨r.cursors.tail, r.cursors.heads.L, r.closed, r.s.x.l.L⟩
def aRS (s : TRs) : MR := ⟨s.Tail, s.Heads.L, s.Closed, s.Slots.L⟩
theorem w_f36 (c : TRg) : D_f36.wp c fun y => y = true ↔ (c.Kind = 1 ∧ c.Readers = 1 ∨ c.Kind = 2) := by
  refine of_wp ?_
  simp only [tt_f36, TT.wp, ieI, Bool.false_eq_true, true_iff, false_iff]
  omega
theorem w_f2b (x : Int) (h0 : 0 ≤ x) (h1 : x < 9223372036854775808) : D_f2b.wp x fun y => y = 2 * x := by
  refine of_wp ?_
  simp only [tt_f2b]
  exact wrapu64 (by omega) (by omega)
def zeroS (i : Nat) : TSo := ⟨2 * (i : Int), 0, 0⟩
theorem w_f1k (c r : Int) (hi : 1 ≤ c ∧ c ≤ 64 ∧ 1 ≤ r ∧ r ≤ 8) :
    D_f1k.wp (c, r) fun y => y.2 = 0 ∧ y.1.nil = false ∧ SameS y.1.x.l ⟨false, c.toNat, zeroS⟩ ∧ y.1.x.readers = r ∧ SlOk y.1.x.l := by
  refine of_wp ?_
  simp only [tt_f1k]
  refine wC (w_f2z c r) fun (y : Bool) hy => ?_
  refine wp_if bnI (fun h => absurd (hy.2 hi) h) fun _ => ?_
  obtain ⟨n, rfl⟩ : ∃ n : Nat, c = n := ⟨c.toNat, by omega⟩
  simp only [Int.toNat_natCast]
  refine wN (by simp [upto, room, ile]; omega) (wN (by simp) ?_)
  have hl := by
    refine loop_wp (tt := tt_f1k_5) (fun x : X_f1k_5 => x.q_21 = n ∧ ∃ k : Nat, x.q_22 = k ∧ k ≤ n ∧ x.m_16.l.nil = false ∧ x.m_16.l.n = n ∧ x.m_16.readers = r ∧ (∀ i, i < n → x.m_16.l.get i = if i < k then zeroS i else ⟨0, 0, 0⟩)) (fun x => (n - x.q_22).toNat)
      (fun _ y => y.2 = 0 ∧ y.1.nil = false ∧ SameS y.1.x.l ⟨false, n, zeroS⟩ ∧ y.1.x.readers = r ∧ SlOk y.1.x.l) (fun D x hI hD => ?_) (x := (⟨n, 0, ⟨⟨false, n, fun _ => ⟨0, 0, 0⟩⟩, r⟩⟩ : X_f1k_5)) ⟨rfl, 0, rfl, by omega, rfl, rfl, rfl, fun i _ => by simp⟩
    obtain ⟨e0, k, e1, hk, hz, hn, hr, hg⟩ := hI
    obtain ⟨q21, q22, ⟨⟨z, m, g⟩, rr⟩⟩ := x
    simp only at e0 e1 hz hn hr hg hD
    subst e0 e1 hz hn hr
    simp only [tt_f1k_5]
    refine wp_if ilI (fun h => ?_) fun h => ?_
    · have hkm : k < m := by omega
      rw [wrapu64 (by omega) (by omega)]
      refine wC (w_f2b k (by omega) (by omega)) fun (y : Int) hy => ?_
      subst hy
      refine wN (inb_nat hkm) (wN (by simp) (wN (by simp) ?_))
      have e2 : IntKind.i64.wrap ((k : Int) + 1) = ((k + 1 : Nat) : Int) := by rw [wrap64] <;> omega
      rw [e2]
      refine hD _ ⟨rfl, k + 1, rfl, hkm, rfl, rfl, rfl, fun i hi => ?_⟩ (by simp only; omega)
      simp only [Int.toNat_natCast, Nat.zero_add]
      by_cases e : i = k
      · subst e
        have := hg i hi
        simp only [this, Nat.lt_irrefl, if_false, Nat.beq_refl, cond_true, zeroS]
        rw [if_pos (by omega)]
      · have hb : Nat.beq i k = false := Bool.eq_false_iff.2 fun h => e (Nat.eq_of_beq_eq_true h)
        simp only [hb, cond_false, hg i hi]
        by_cases e3 : i < k
        · rw [if_pos e3, if_pos (by omega)]
        · rw [if_neg e3, if_neg (by omega)]
    · have : k = m := by omega
      subst this
      refine ⟨rfl, rfl, ⟨rfl, fun i hi => ?_⟩, rfl, fun e => by cases e⟩
      show g i = zeroS i
      rw [hg i hi, if_pos hi]
  exact hl
theorem replicate_L (n : Nat) (b : Bool) : (⟨b, n, fun _ => (0 : Int)⟩ : Sl Int).L = List.replicate n 0 := by
  apply List.ext_getElem
  · simp
  · intro i h1 h2; simp [Sl.L_getE]
theorem w_f29 (c : TRg) (hc : rightRg c = true) : D_f29.wp c fun y => y.2 = 0 ∧ y.1.nil = false ∧ RWf c y.1.x ∧ aR y.1.x = mNewR c := by
  have hf := rg_facts hc
  refine of_wp ?_
  simp only [tt_f29]
  refine wC (w_f1k c.Cap c.Readers hf) fun (y : Bx TSs × Int) hy => ?_
  obtain ⟨⟨bn, ⟨sl, rd⟩⟩, er⟩ := y
  obtain ⟨rfl, rfl, hs, rfl, hz⟩ := hy
  refine wp_if (p := (0 : Int) ≠ 0) (by rw [bnI, ieI]) (fun h => absurd rfl h) fun _ => ?_
  refine wC (w_f36 c) fun (z : Bool) hz' => ?_
  refine wp_if bnI (fun h => absurd (hz'.2 (by simp only [rightRg, decide_eq_true_eq] at hc; omega)) h) fun _ => ?_
  refine of_wp ?_
  simp only [tt_f29_4]
  have hroom : c.Readers.toNat * 8 ≤ 140737488351232 := by omega
  refine wN (by simp [upto, room, ile, hroom]; omega) ⟨rfl, rfl, ⟨rfl, rfl, wrapu64 (by omega) (by omega), fun e => by (cases e), hz, by show ((c.Readers.toNat : Nat) : Int) = _; omega, by show (sl.n : Int) = _; rw [hs.n]; show ((c.Cap.toNat : Nat) : Int) = _; omega⟩, ?_⟩
  show (⟨0, _, false, sl.L⟩ : MR) = _
  rw [hs.L, replicate_L]
  rfl
theorem w_fb (c : TRg) (s : TRs) (hc : rightRg c = true) (hs : okRS s) :
    D_fb.wp (c, s) fun y => (ringL c s ∧ y.2 = 0 ∧ y.1.nil = false ∧ RWf c y.1.x ∧ aR y.1.x = aRS s) ∨ (¬ ringL c s ∧ y.2 = 3) := by
  have hf := rg_facts hc
  refine of_wp ?_
  simp only [tt_fb]
  refine wC (w_f29 c hc) fun (y : Bx TRr × Int) hy => ?_
  obtain ⟨⟨bn, r⟩, er⟩ := y
  obtain ⟨h0, h1, hw, _⟩ := hy
  simp only at h0 h1 hw
  subst h0 h1
  refine wp_if (p := (0 : Int) ≠ 0) (by rw [bnI, ieI]) (fun h => absurd rfl h) fun _ => ?_
  refine wC (w_fq c.Cap c.Readers s.Slots hs.ss hf) fun (z : Bx TSs × Int) hz => ?_
  obtain ⟨⟨zn, ⟨zl, zr⟩⟩, ze⟩ := z
  rcases hz with ⟨hsl, he, hzn, hsame, hrd, hlz⟩ | ⟨hno, he, _⟩
  · simp only at he hzn hsame hrd hlz
    subst he hzn hrd
    refine wp_if (p := (0 : Int) ≠ 0) (by rw [bnI, ieI]) (fun h => absurd rfl h) fun _ => ?_
    refine wp_if (p := (s.Heads.n : Int) ≠ c.Readers) (by rw [bnI, ieI]) (fun h => .inr ⟨fun k => h k.rd, rfl⟩) fun h1 => wp_if leI (fun h => .inr ⟨fun k => absurd k.tb (Int.not_lt.2 h), rfl⟩) fun h2 => ?_
    have h1 := Classical.byContradiction h1
    refine wN rfl ?_
    refine of_wp ?_
    simp only [tt_fb_7]
    refine wC (w_Clone_uint64_w0 s.Heads hs.hz (by omega)) fun (hd : Sl Int) hhd => ?_
    obtain ⟨hsm, hhz⟩ := hhd
    have t0 := hs.t0
    have hnn : hd.n = s.Heads.n := hsm.n
    rw [hnn]
    refine all_wp (fun k => (⟨s, s.Heads.n, (k : Nat), ⟨⟨s.Tail, hd⟩, ⟨false, ⟨zl, c.Readers⟩⟩, r.most, s.Closed⟩⟩ : X_fb_9)) s.Heads.n (fun j => s.Heads.get j ≤ s.Tail ∧ s.Tail - s.Heads.get j ≤ c.Cap) _ (fun D hJ => ?_) (fun D k hk hD => ?_)
    · simp only [tt_fb_9, ilt_nat, Nat.lt_irrefl, decide_false, wp_false]
      refine wN (by simp) (of_wp ?_)
      simp only [tt_fb_14]
      refine all_wp (fun k => (⟨s.Slots, s.Slots.n, (k : Nat), ⟨⟨s.Tail, hd⟩, ⟨false, ⟨zl, c.Readers⟩⟩, r.most, s.Closed⟩⟩ : X_fb_15)) s.Slots.n (fun i => standI c.Cap s.Tail s.Heads (s.Slots.get i)) _ (fun D hJ2 => ?_) (fun D k hk hD => ?_)
      · simp only [tt_fb_15, ilt_nat, Nat.lt_irrefl, decide_false, wp_false]
        refine .inl ⟨⟨hsl, h1, by omega, hJ, hJ2⟩, rfl, rfl, ⟨rfl, rfl, hw.ms, hhz, hlz, by show (hd.n : Int) = _; omega, by show (zl.n : Int) = _; rw [hsame.n]; exact hsl.1⟩, ?_⟩
        · show (⟨s.Tail, hd.L, s.Closed, zl.L⟩ : MR) = _
          rw [hsm.L, hsame.L]; rfl
      · have hx := hs.ss.x k hk
        have hp := hsl.2 k hk
        simp only [tt_fb_15, ilt_nat, hk, decide_true, wp_true, inb_nat hk, wp_need_true, Int.toNat_natCast, next64 hk hs.ss.n]
        have hok : okHs hd := ⟨by omega, fun j hj => by rw [hsm.g j (by omega)]; exact hs.hh j (by omega)⟩
        refine wC (w_ring_stands _ ⟨⟨s.Tail, hd⟩, ⟨false, ⟨zl, c.Readers⟩⟩, r.most, s.Closed⟩ ⟨hx.s0, hp.s1⟩ (placeI_left hp hf.2.2.2) hok (by rw [hw.ms]; omega)) fun (y : Bool) hy => ?_
        have heq : standI r.most s.Tail hd (s.Slots.get k) ↔ standI c.Cap s.Tail s.Heads (s.Slots.get k) := by
          rw [hw.ms]
          unfold standI
          rw [hsm.n]
          exact and_congr_right fun _ => ⟨fun h j hj => by have := h j hj; rwa [hsm.g j hj] at this, fun h j hj => by rw [hsm.g j hj]; exact h j hj⟩
        rw [heq] at hy
        exact wp_if bnI (fun h => .inr ⟨fun kk => h (hy.2 (kk.st k hk)), rfl⟩) fun h => hD (hy.1 (Classical.byContradiction h))
    · have hg := hs.hh k hk
      have hkd : k < hd.n := by omega
      simp only [tt_fb_9, ilt_nat, hk, decide_true, wp_true, inb_nat hkd, wp_need_true, Int.toNat_natCast, Nat.zero_add, hsm.g k hk]
      refine wN (by simp) (wp_if ilI (fun h => wN (by simp) (.inr ⟨fun kk => ?_, rfl⟩)) fun h => ?_)
      · have := (kk.h0 k hk).1; omega
      · rw [wrapu64 (by omega) (by omega), hw.ms]
        refine wp_if ilI (fun h => wN (by simp) (.inr ⟨fun kk => ?_, rfl⟩)) fun h => ?_
        · have := (kk.h0 k hk).2; omega
        · refine of_wp ?_
          simp only [tt_fb_13, next64 hk hs.hn]
          rw [← hw.ms]
          exact hD ⟨by omega, by omega⟩
  · simp only at he
    subst he
    exact wp_if (p := (3 : Int) ≠ 0) (by rw [bnI, ieI]) (fun _ => .inr ⟨fun k => hno k.sl, rfl⟩) fun h => absurd (by decide) h
theorem wp_eq {X R : Type} {D : Dyn X R} {x x' : X} {Q : R → Prop} (h : D.wp x' Q) (e : x = x') : D.wp x Q := e ▸ h
theorem L_map_ext {α β γ : Type} {s : Sl α} {t : Sl β} {f : α → γ} {g : β → γ} (hn : s.n = t.n) (h : ∀ i, i < t.n → f (s.get i) = g (t.get i)) : s.L.map f = t.L.map g := by
  apply List.ext_getElem
  · simp [hn]
  · intro i h1 h2
    simp only [List.getElem_map, Sl.L_getE]
    exact h i (by simpa using h2)
def snoc {α : Type} (s : Sl α) (y : α) : Sl α := ⟨false, s.n + 1, fun i => cond (Nat.blt i s.n) (s.get i) y⟩
def setS {α : Type} (s : Sl α) (k : Nat) (y : α) : Sl α := ⟨s.nil, s.n, fun i => cond (Nat.beq i k) y (s.get i)⟩
theorem blt_true {i n : Nat} (h : i < n) : Nat.blt i n = true := by rw [Nat.blt_eq]; exact h
theorem blt_self (n : Nat) : Nat.blt n n = false := Bool.eq_false_iff.2 fun h => by rw [Nat.blt_eq] at h; omega
theorem beq_ne {i k : Nat} (h : i ≠ k) : Nat.beq i k = false := Bool.eq_false_iff.2 fun e => h (Nat.eq_of_beq_eq_true e)
theorem snoc_lt {α : Type} {s : Sl α} {y : α} {i : Nat} (h : i < s.n) : (snoc s y).get i = s.get i := by simp [snoc, blt_true h]
theorem snoc_eq {α : Type} {s : Sl α} {y : α} : (snoc s y).get s.n = y := by simp [snoc, blt_self]
theorem setS_ne {α : Type} {s : Sl α} {y : α} {i k : Nat} (h : i ≠ k) : (setS s k y).get i = s.get i := by simp [setS, beq_ne h]
theorem setS_eq {α : Type} {s : Sl α} {y : α} {k : Nat} : (setS s k y).get k = y := by simp [setS]
structure CopyP (y p : TPg) : Prop where
  r : SameS y.Rings p.Rings
  rz : SlOk y.Rings
  n : y.Threads.n = p.Threads.n
  t : ∀ t, t < p.Threads.n → SameS (y.Threads.get t) (p.Threads.get t) ∧ SlOk (y.Threads.get t)
theorem CopyP.same {y p : TPg} (h : CopyP y p) : aP y = aP p := by
  unfold aP
  rw [h.r.L, L_map_ext h.n fun i hi => (h.t i hi).1.L]
theorem SameS.okC {y x : Sl TIn} (h : SameS y x) (hx : okC x) : okC y := ⟨h.n ▸ hx.n, fun k hk => by rw [h.g k (h.n ▸ hk)]; exact hx.i k (h.n ▸ hk)⟩
theorem w_fs (p : TPg) (hp : okP p) (hP : PInv (aP p)) : D_fs.wp p fun y => CopyP y p := by
  obtain ⟨_, h8, hr8, _, hl⟩ := PInv_get hP
  refine of_wp ?_
  simp only [tt_fs]
  refine wC (w_Clone_Ring p.Rings hp.rz (by omega)) fun (y : Sl TRg) hy => ?_
  refine loop_wp (tt := tt_fs_3) (fun x : X_fs_3 => x.q_11 = p.Threads ∧ x.q_12 = p.Threads.n ∧ ∃ k : Nat, x.q_13 = k ∧ k ≤ p.Threads.n ∧ x.m_3.Rings = y ∧ x.m_3.Threads.n = k ∧ ∀ t, t < k → SameS (x.m_3.Threads.get t) (p.Threads.get t) ∧ SlOk (x.m_3.Threads.get t))
    (fun x => (p.Threads.n - x.q_13).toNat) (fun _ y => CopyP y p) (fun D x hI hD => ?_) ⟨rfl, rfl, 0, rfl, by omega, rfl, rfl, fun t ht => by omega⟩
  obtain ⟨e0, e1, k, e2, hk, e3, hn, hg⟩ := hI
  obtain ⟨q11, q12, q13, m2, ⟨mr, mt⟩⟩ := x
  simp only at e0 e1 e2 e3 hn hg hD
  subst e0 e1 e2 e3 hn
  simp only [tt_fs_3]
  refine wp_if ilI (fun h => ?_) fun h => ?_
  · have hkm : mt.n < p.Threads.n := by omega
    refine wN (inb_nat hkm) ?_
    rw [Int.toNat_natCast]
    refine wC (w_Clone_Instr (p.Threads.get mt.n) (hp.lz _ hkm) (by have := (hl _ hkm).1; omega)) fun (z : Sl TIn) hz => ?_
    refine wN (by simp [room]; omega) ?_
    rw [next64 hkm hp.tn]
    refine wp_eq (x' := ⟨p.Threads, p.Threads.n, ((mt.n + 1 : Nat) : Int), m2, ⟨mr, snoc mt z⟩⟩) (hD _ ⟨rfl, rfl, mt.n + 1, rfl, hkm, rfl, rfl, fun t ht => ?_⟩ (by simp only; omega)) ?_
    · by_cases e : t = mt.n
      · subst e; simp only [snoc_eq]; exact hz
      · have : t < mt.n := by omega
        simp only [snoc_lt this]; exact hg t this
    · refine congrArg (fun g => X_fs_3.mk p.Threads p.Threads.n ((mt.n + 1 : Nat) : Int) m2 ⟨mr, ⟨false, mt.n + 1, g⟩⟩) (funext fun i => ?_)
      cases Nat.blt i mt.n <;> rfl
  · exact ⟨hy.1, hy.2, by simp only; omega, fun t ht => hg t (by omega)⟩
structure TWf (b : Nat) (t : TTh) : Prop where
  k0 : 0 ≤ t.Ticket
  k1 : t.Ticket < 18446744073709551616
  rg : ∀ j, 0 ≤ t.Regs j ∧ t.Regs j < 18446744073709551616
  sz : SlOk t.Seen
  sb : t.Seen.n ≤ b
theorem TWf_zero (b : Nat) : TWf b ⟨0, 0, 0, 0, 0, fun _ => 0, ⟨true, 0, fun _ => 0⟩⟩ := ⟨by decide, by decide, fun _ => ⟨Int.le_refl 0, (by decide : (0 : Int) < 18446744073709551616)⟩, fun _ => rfl, Nat.zero_le _⟩
structure FWf (p : TPg) (b : Nat) (f : TFa) : Prop where
  cp : CopyP f.p p
  tn : f.threads.n = p.Threads.n
  tw : ∀ t, t < f.threads.n → TWf b (f.threads.get t)
  rn : f.rings.n = p.Rings.n
  rw : ∀ i, i < f.rings.n → (f.rings.get i).nil = false ∧ RWf (p.Rings.get i) (f.rings.get i).x
def aF (f : TFa) : MS := ⟨f.threads.L.map aT, f.rings.L.map fun r => aR r.x, f.now, f.reads, f.ended⟩
def aS (s : TSt) : MS := ⟨s.Threads.L.map aT, s.Rings.L.map aRS, s.Now, s.Reads, s.Ended⟩
theorem rg_of {p : TPg} (hP : PInv (aP p)) {i : Nat} (h : i < p.Rings.n) : rightRg (p.Rings.get i) = true := (PInv_get hP).2.2.2.1 _ (Sl.mem_L.2 ⟨i, h, rfl⟩)
theorem w_f12 (p : TPg) (hp : okP p) (b : Nat) :
    D_f12.wp p fun y => (PInv (aP p) ∧ y.2 = 0 ∧ y.1.nil = false ∧ FWf p b y.1.x ∧ aF y.1.x = mNew (aP p)) ∨ (¬ PInv (aP p) ∧ y.2 = 1 ∧ y.1.nil = true) := by
  refine of_wp ?_
  simp only [tt_f12]
  refine wC (w_f2v p hp) fun (y : Bool) hy => ?_
  refine wp_if bnI (fun h => .inr ⟨fun k => h (hy.2 k), rfl, rfl⟩) fun h => ?_
  have hP := hy.1 (Classical.byContradiction h)
  obtain ⟨_, h8, hr8, _, hl⟩ := PInv_get hP
  refine wC (w_fs p hp hP) fun (q : TPg) hq => ?_
  refine wN (by simp [upto, room, ile]; omega) ?_
  rw [Int.toNat_natCast]
  refine loop_wp (tt := tt_f12_5) (fun x : X_f12_5 => x.q_21 = p.Rings ∧ x.q_22 = p.Rings.n ∧ ∃ k : Nat, x.q_23 = k ∧ k ≤ p.Rings.n ∧ x.m_19.p = q ∧ x.m_19.threads = ⟨false, p.Threads.n, fun _ => ⟨0, 0, 0, 0, 0, fun _ => 0, ⟨true, 0, fun _ => 0⟩⟩⟩ ∧ x.m_19.now = 0 ∧ x.m_19.reads = 0 ∧ x.m_19.ended = false ∧
      x.m_19.rings.n = k ∧ ∀ i, i < k → (x.m_19.rings.get i).nil = false ∧ RWf (p.Rings.get i) (x.m_19.rings.get i).x ∧ aR (x.m_19.rings.get i).x = mNewR (p.Rings.get i))
    (fun x => (p.Rings.n - x.q_23).toNat) (fun _ y => (PInv (aP p) ∧ y.2 = 0 ∧ y.1.nil = false ∧ FWf p b y.1.x ∧ aF y.1.x = mNew (aP p)) ∨ (¬ PInv (aP p) ∧ y.2 = 1 ∧ y.1.nil = true)) (fun D x hI hD => ?_) ⟨rfl, rfl, 0, rfl, by omega, rfl, rfl, rfl, rfl, rfl, rfl, fun t ht => by omega⟩
  obtain ⟨e0, e1, k, e2, hk, e3, e4, e5, e6, e7, hn, hg⟩ := hI
  obtain ⟨q21, q22, q23, ⟨mp, mt, mr, mn, md, me⟩⟩ := x
  simp only at e0 e1 e2 e3 e4 e5 e6 e7 hn hg hD
  subst e0 e1 e2 e3 e4 e5 e6 e7 hn
  simp only [tt_f12_5]
  refine wp_if ilI (fun h => ?_) fun h => ?_
  · have hkm : mr.n < p.Rings.n := by omega
    refine wN (inb_nat hkm) ?_
    rw [Int.toNat_natCast]
    refine wC (w_f29 (p.Rings.get mr.n) (rg_of hP hkm)) fun (z : Bx TRr × Int) hz => ?_
    refine wN (by simp [room]; omega) ?_
    rw [next64 hkm hp.rn]
    refine wp_eq (x' := ⟨p.Rings, p.Rings.n, ((mr.n + 1 : Nat) : Int), ⟨mp, _, snoc mr z.1, 0, 0, false⟩⟩) (hD _ ⟨rfl, rfl, mr.n + 1, rfl, hkm, rfl, rfl, rfl, rfl, rfl, rfl, fun t ht => ?_⟩ (by simp only; omega)) ?_
    · by_cases e : t = mr.n
      · subst e; simp only [snoc_eq]; exact ⟨hz.2.1, hz.2.2⟩
      · have : t < mr.n := by omega
        simp only [snoc_lt this]; exact hg t this
    · refine congrArg (fun g => X_f12_5.mk p.Rings p.Rings.n ((mr.n + 1 : Nat) : Int) ⟨mp, _, ⟨false, mr.n + 1, g⟩, 0, 0, false⟩) (funext fun i => ?_)
      cases Nat.blt i mr.n <;> rfl
  · have hrn : mr.n = p.Rings.n := by omega
    refine .inl ⟨hP, rfl, rfl, ⟨hq, rfl, fun t _ => TWf_zero b, hrn, fun i hi => ⟨(hg i hi).1, (hg i hi).2.1⟩⟩, ?_⟩
    unfold aF mNew
    simp only [MS.mk.injEq, and_true]
    refine ⟨?_, ?_⟩
    · simp only [aP, List.map_map]
      exact L_map_ext rfl fun i _ => rfl
    · exact L_map_ext hrn fun i hi => (hg i (hrn ▸ hi)).2.2
theorem L_map_inj {α β γ : Type} {s : Sl α} {t : Sl β} {f : α → γ} {g : β → γ} (h : s.L.map f = t.L.map g) : s.n = t.n ∧ ∀ i, i < t.n → f (s.get i) = g (t.get i) := by
  have hn : s.n = t.n := by simpa using congrArg List.length h
  refine ⟨hn, fun i hi => ?_⟩
  have h2 := congrArg (fun l => l[i]?) h
  simp only [List.getElem?_map, Sl.L_get s (hn ▸ hi), Sl.L_get t hi, Option.map_some, Option.some.injEq] at h2
  exact h2
theorem w_f1x (a b : Sl Int) (h : a.L = b.L) (hm : a.n ≤ maxLen) : D_f1x.wp (a, b) fun y => y = true := by
  obtain ⟨hn, hg⟩ := Sl.L_inj h
  refine of_wp ?_
  simp only [tt_f1x]
  refine wp_if (p := (a.n : Int) ≠ b.n) (by rw [bnI, ieI]) (fun e => absurd (by rw [hn]) e) fun _ => ?_
  refine all_wp (fun k => (⟨a, b, (k : Nat)⟩ : X_f1x_4)) a.n (fun _ => True) _ (fun D hJ => ?_) (fun D k hk hD => ?_)
  · simp only [tt_f1x_4, ilt_nat, Nat.lt_irrefl, decide_false, wp_false]; rfl
  · have hk2 : k < b.n := hn ▸ hk
    simp only [tt_f1x_4, ilt_nat, hk, decide_true, wp_true, inb_nat hk, inb_nat hk2, wp_need_true, Int.toNat_natCast, next64 hk hm, hg k hk]
    exact wp_ite (fun e => absurd (ieI.2 rfl) (bnI.1 e)) fun _ => hD trivial
theorem w_f1y (a b : Sl TSo) (h : a.L = b.L) (hm : a.n ≤ maxLen) : D_f1y.wp (a, b) fun y => y = true := by
  obtain ⟨hn, hg⟩ := Sl.L_inj h
  refine of_wp ?_
  simp only [tt_f1y]
  refine wp_if (p := (a.n : Int) ≠ b.n) (by rw [bnI, ieI]) (fun e => absurd (by rw [hn]) e) fun _ => ?_
  refine all_wp (fun k => (⟨a, b, (k : Nat)⟩ : X_f1y_4)) a.n (fun _ => True) _ (fun D hJ => ?_) (fun D k hk hD => ?_)
  · simp only [tt_f1y_4, ilt_nat, Nat.lt_irrefl, decide_false, wp_false]; rfl
  · have hk2 : k < b.n := hn ▸ hk
    simp only [tt_f1y_4, ilt_nat, hk, decide_true, wp_true, inb_nat hk, inb_nat hk2, wp_need_true, Int.toNat_natCast, next64 hk hm, hg k hk]
    exact wp_ite (fun e => absurd (by simp only [ieI.2, Bool.and_true]) (bnI.1 e)) fun _ => hD trivial
theorem w_f16 (a b : TRs) (h : aRS a = aRS b) (hm : a.Heads.n ≤ maxLen) (hs : a.Slots.n ≤ maxLen) : D_f16.wp (a, b) fun y => y = true := by
  simp only [aRS, MR.mk.injEq] at h
  obtain ⟨h1, h2, h3, h4⟩ := h
  obtain ⟨hn, hg⟩ := Sl.L_inj h2
  refine of_wp ?_
  simp only [tt_f16]
  refine wp_ite (fun e => absurd (ieI.2 h1) (bnI.1 e)) fun _ => wp_ite (fun e => absurd (by rw [h3]; simp) (bnI.1 e)) fun _ => wp_ite (fun e => absurd (ieI.2 (by rw [hn])) (bnI.1 e)) fun _ => ?_
  refine wC (w_f1y _ _ h4 hs) fun (y : Bool) hy => ?_
  subst hy
  refine wp_ite (fun e => absurd rfl (bnI.1 e)) fun _ => of_wp ?_
  simp only [tt_f16_3]
  refine all_wp (fun k => (⟨a, b, (k : Nat)⟩ : X_f16_4)) a.Heads.n (fun _ => True) _ (fun D hJ => ?_) (fun D k hk hD => ?_)
  · simp only [tt_f16_4, ilt_nat, Nat.lt_irrefl, decide_false, wp_false]; rfl
  · have hk2 : k < b.Heads.n := hn ▸ hk
    simp only [tt_f16_4, ilt_nat, hk, decide_true, wp_true, inb_nat hk, inb_nat hk2, wp_need_true, Int.toNat_natCast, next64 hk hm, hg k hk]
    exact wp_ite (fun e => absurd (ieI.2 rfl) (bnI.1 e)) fun _ => hD trivial
theorem w_f3a (a b : TTh) (h : aT a = aT b) (hm : a.Seen.n ≤ maxLen) : D_f3a.wp (a, b) fun y => y = true := by
  simp only [aT, MT.mk.injEq] at h
  obtain ⟨h1, h2, h3, h4, h5, h6, h7⟩ := h
  refine of_wp ?_
  simp only [tt_f3a, h1, h2, h3, h4, h5, h6]
  have ee : ∀ z : Int, ieq z z = true := fun z => ieI.2 rfl
  simp only [ee, wp_true, Bool.and_self]
  exact wC (w_f1x _ _ h7 hm) fun (y : Bool) hy => hy
structure okS (b : Nat) (s : TSt) : Prop where
  tn : s.Threads.n ≤ maxLen
  rn : s.Rings.n ≤ maxLen
  ts : ∀ t, t < s.Threads.n → TWf b (s.Threads.get t)
  rs : ∀ i, i < s.Rings.n → okRS (s.Rings.get i)
  n0 : 0 ≤ s.Now
  r0 : 0 ≤ s.Reads
structure lenM (m : MS) : Prop where
  tn : m.Threads.length ≤ maxLen
  rn : m.Rings.length ≤ maxLen
  ts : ∀ t ∈ m.Threads, t.Seen.length ≤ maxLen
  rs : ∀ r ∈ m.Rings, r.Heads.length ≤ maxLen ∧ r.Slots.length ≤ maxLen
theorem w_fh (a b : TSt) (h : aS a = aS b) (ha : lenM (aS a)) : D_fh.wp (a, b) fun y => y = true := by
  have atn : a.Threads.n ≤ maxLen := by have := ha.tn; simpa [aS] using this
  have arn : a.Rings.n ≤ maxLen := by have := ha.rn; simpa [aS] using this
  have ats : ∀ t, t < a.Threads.n → (a.Threads.get t).Seen.n ≤ maxLen := fun t ht => by
    have := ha.ts _ (List.mem_map.2 ⟨_, Sl.mem_L.2 ⟨t, ht, rfl⟩, rfl⟩)
    simpa [aT] using this
  have ars : ∀ t, t < a.Rings.n → (a.Rings.get t).Heads.n ≤ maxLen ∧ (a.Rings.get t).Slots.n ≤ maxLen := fun t ht => by
    have := ha.rs _ (List.mem_map.2 ⟨_, Sl.mem_L.2 ⟨t, ht, rfl⟩, rfl⟩)
    simpa [aRS] using this
  simp only [aS, MS.mk.injEq] at h
  obtain ⟨h1, h2, h3, h4, h5⟩ := h
  obtain ⟨n1, g1⟩ := L_map_inj h1
  obtain ⟨n2, g2⟩ := L_map_inj h2
  refine of_wp ?_
  simp only [tt_fh]
  refine wp_ite (fun e => absurd (ieI.2 (by rw [n1])) (bnI.1 e)) fun _ => wp_ite (fun e => absurd (ieI.2 (by rw [n2])) (bnI.1 e)) fun _ => wp_ite (fun e => absurd (ieI.2 h3) (bnI.1 e)) fun _ =>
    wp_ite (fun e => absurd (ieI.2 h4) (bnI.1 e)) fun _ => wp_ite (fun e => absurd (by rw [h5]; simp) (bnI.1 e)) fun _ => of_wp ?_
  simp only [tt_fh_3]
  refine all_wp (fun k => (⟨a, b, (k : Nat)⟩ : X_fh_4)) a.Threads.n (fun _ => True) _ (fun D hJ => ?_) (fun D k hk hD => ?_)
  · simp only [tt_fh_4, ilt_nat, Nat.lt_irrefl, decide_false, wp_false]
    refine of_wp ?_
    simp only [tt_fh_8]
    refine all_wp (fun k => (⟨a, b, (k : Nat)⟩ : X_fh_9)) a.Rings.n (fun _ => True) _ (fun D hJ => ?_) (fun D k hk hD => ?_)
    · simp only [tt_fh_9, ilt_nat, Nat.lt_irrefl, decide_false, wp_false]; rfl
    · have hk2 : k < b.Rings.n := n2 ▸ hk
      simp only [tt_fh_9, ilt_nat, hk, decide_true, wp_true, inb_nat hk, inb_nat hk2, wp_need_true, Int.toNat_natCast, next64 hk arn]
      refine wC (w_f16 _ _ (g2 k hk2) (ars k hk).1 (ars k hk).2) fun (y : Bool) hy => ?_
      subst hy
      exact wp_ite (fun e => absurd rfl (bnI.1 e)) fun _ => hD trivial
  · have hk2 : k < b.Threads.n := n1 ▸ hk
    simp only [tt_fh_4, ilt_nat, hk, decide_true, wp_true, inb_nat hk, inb_nat hk2, wp_need_true, Int.toNat_natCast, next64 hk atn]
    refine wC (w_f3a _ _ (g1 k hk2) (ats k hk)) fun (y : Bool) hy => ?_
    subst hy
    exact wp_ite (fun e => absurd rfl (bnI.1 e)) fun _ => hD trivial
def pendS (rs : Sl TRs) (l : Sl TIn) (t : TTh) : Prop :=
  (t.Phase = 1 → t.Ticket < (rs.get t.Ring.toNat).Tail) ∧ (t.Phase = 2 → t.Ticket < (rs.get t.Ring.toNat).Heads.get (l.get t.At.toNat).K.toNat)
structure fabL (p : TPg) (s : TSt) : Prop where
  tn : s.Threads.n = p.Threads.n
  rn : s.Rings.n = p.Rings.n
  nw : s.Now < 9223372036854775808
  ri : ∀ i, i < s.Rings.n → ringL (p.Rings.get i) (s.Rings.get i) ∧ (s.Rings.get i).Tail < 2305843009213693952
  ti : ∀ t, t < s.Threads.n → TInv (p.Threads.get t).L (aT (s.Threads.get t)) ∧ pendS s.Rings (p.Threads.get t) (s.Threads.get t)
theorem okP.c {p : TPg} (h : okP p) {t : Nat} (ht : t < p.Threads.n) : okC (p.Threads.get t) := ⟨h.ln t ht, h.ins t ht⟩
theorem code_of {p : TPg} (hP : PInv (aP p)) {t : Nat} (ht : t < p.Threads.n) : codeOk (p.Threads.get t) := by
  obtain ⟨h1, h2⟩ := (PInv_get hP).2.2.2.2 t ht
  refine ⟨h1, fun k hk => ?_⟩
  have := instrE_facts (h2 k hk)
  exact ⟨this.1, fun hh => by have := this.2.1 ⟨hh.1, hh.2.1⟩; omega⟩
theorem wait_of {p : TPg} (hP : PInv (aP p)) {t : Nat} (ht : t < p.Threads.n) {x : TTh} (hi : TInv (p.Threads.get t).L (aT x)) (hp : x.Phase ≠ 0) :
    (0 ≤ x.At ∧ x.At < (p.Threads.get t).n) ∧ (0 ≤ x.Ring ∧ x.Ring < p.Rings.n) ∧ (x.Phase = 2 → 0 ≤ ((p.Threads.get t).get x.At.toNat).K ∧ ((p.Threads.get t).get x.At.toNat).K < (p.Rings.get x.Ring.toNat).Readers) := by
  obtain ⟨_, b, c, d, _, _⟩ := hi.p1 hp
  have a0 : 0 ≤ x.At := hi.a0
  have b : x.At < (p.Threads.get t).n := by simpa [aT] using b
  change (gI (p.Threads.get t).L x.At).Op = 17 + x.Phase at c
  change (gI (p.Threads.get t).L x.At).C = x.Ring at d
  rw [gI_L _ a0 b] at c d
  have hph := hi.ph
  change 0 ≤ x.Phase ∧ x.Phase ≤ 2 at hph
  have hf := instrE_facts (((PInv_get hP).2.2.2.2 t ht).2 x.At.toNat (by omega))
  have hr := rightI_facts hf.1
  have h18 := hf.2.2.1 (by omega)
  rw [Sl.L_length, d] at h18
  have r0 : 0 ≤ x.Ring := by omega
  refine ⟨⟨a0, b⟩, ⟨r0, h18⟩, fun e => ⟨(hr.2.2.2.2.2.1 (by omega)).1, ?_⟩⟩
  have := hf.2.2.2 (by omega)
  rw [d, getD_L _ r0 h18] at this
  exact this
theorem wp_side' {P : Program} {R : Type} {p : Prop} {t : TT P R} {Q : R → Prop} (h : t.wp Q) : (TT.side p t).wp Q := h
theorem w_ring_Tail (r : TRr) : D_f1o.wp r fun y => y = r.cursors.tail := ro_wp rfl
theorem w_ring_reader (j : Int) (c : TRc) : D_fr.wp (j, c) fun y => y = true ↔ 0 ≤ j ∧ j < c.heads.n := by
  refine ro_wp ?_
  simp only [tt_fr]
  exact wp_if leI (fun h => wN (by simp) (dec_iff ilI ⟨fun k => ⟨h, k⟩, fun k => k.2⟩)) fun h => ff_iff fun k => h k.1
theorem w_ring_Head (j : Int) (r : TRr) (h0 : 0 ≤ j) (h1 : j < r.cursors.heads.n) : D_fm.wp (j, r) fun y => y = r.cursors.heads.get j.toNat := by
  refine ro_wp ?_
  simp only [tt_fm]
  refine wC (w_ring_reader j r.cursors) fun (y : Bool) hy => ?_
  refine wp_if bnI (fun h => absurd (hy.2 ⟨h0, h1⟩) h) fun _ => of_wp ?_
  simp only [tt_fm_3, Nat.zero_add]
  exact wN (by rw [ibI]; exact ⟨h0, h1⟩) (wN (by simp) (wN (by simp) rfl))
def pendF (rs : Sl (Bx TRr)) (l : Sl TIn) (t : TTh) : Prop :=
  (t.Phase = 1 → t.Ticket < (rs.get t.Ring.toNat).x.cursors.tail) ∧ (t.Phase = 2 → t.Ticket < (rs.get t.Ring.toNat).x.cursors.heads.get (l.get t.At.toNat).K.toNat)
theorem w_pending (i : Nat) (f : TFa) (hi : i < f.threads.n) (hp : i < f.p.Threads.n)
    (hr : (f.threads.get i).Phase ≠ 0 → 0 ≤ (f.threads.get i).Ring ∧ (f.threads.get i).Ring < f.rings.n ∧ (f.rings.get (f.threads.get i).Ring.toNat).nil = false)
    (h2 : (f.threads.get i).Phase = 2 → (0 ≤ (f.threads.get i).At ∧ (f.threads.get i).At < (f.p.Threads.get i).n) ∧
      0 ≤ ((f.p.Threads.get i).get (f.threads.get i).At.toNat).K ∧ ((f.p.Threads.get i).get (f.threads.get i).At.toNat).K < (f.rings.get (f.threads.get i).Ring.toNat).x.cursors.heads.n ∧ (f.rings.get (f.threads.get i).Ring.toNat).x.cursors.heads.n ≤ maxLen) :
    D_fx.wp ((i : Int), f) fun y => y = true ↔ pendF f.rings (f.p.Threads.get i) (f.threads.get i) := by
  refine ro_wp ?_
  simp only [tt_fx, Int.toNat_natCast, Nat.zero_add]
  refine wN (inb_nat hi) (wN (by simp) (wN (by simp) ?_))
  generalize ht : f.threads.get i = t at *
  refine wp_if ieI (fun e => ?_) fun e => ?_
  · obtain ⟨r0, r1, rn⟩ := hr (by omega)
    refine wN (by rw [ibI]; exact ⟨r0, r1⟩) (wN (by simp [rn]) ?_)
    refine wC (w_ring_Tail _) fun (y : Int) hy => ?_
    subst hy
    refine wN (by simp [rn]; omega) (wp_side' (wN (by simp) (dec_iff ilI ⟨fun k => ⟨fun _ => k, fun e2 => by omega⟩, fun k => k.1 e⟩)))
  · refine wp_if ieI (fun e2 => ?_) fun e2 => tt_iff ⟨fun h => absurd h e, fun h => absurd h e2⟩
    obtain ⟨r0, r1, rn⟩ := hr (by omega)
    obtain ⟨⟨a0, a1⟩, k0, k1, hm⟩ := h2 e2
    have hm := maxLen_le hm
    refine wN (by rw [ibI]; exact ⟨r0, r1⟩) (wN (by simp [rn]) (wN (inb_nat hp) (wN (by rw [ibI]; exact ⟨a0, a1⟩) ?_)))
    rw [wrap64 (by omega) (by omega)]
    refine wC (w_ring_Head _ _ k0 k1) fun (y : Int) hy => ?_
    subst hy
    exact wN (by simp [rn]; omega) (wp_side' (wN (by simp) (dec_iff ilI ⟨fun k => ⟨fun h => absurd h e, fun _ => k⟩, fun k => k.2 e2⟩)))
theorem aT_seen {t : TTh} {y : Sl Int} (h : SameS y t.Seen) : aT ⟨t.At, t.Phase, t.Ring, t.Status, t.Ticket, t.Regs, y⟩ = aT t := by
  simp only [aT, h.L]
theorem pend_iff {xr : Sl (Bx TRr)} {rs : Sl TRs} {l l' : Sl TIn} {t : TTh} (hl : SameS l' l) (h : t.Phase ≠ 0 → aR (xr.get t.Ring.toNat).x = aRS (rs.get t.Ring.toNat))
    (h2 : t.Phase = 2 → (0 ≤ t.At ∧ t.At < l.n) ∧ 0 ≤ (l.get t.At.toNat).K ∧ (l.get t.At.toNat).K < (rs.get t.Ring.toNat).Heads.n) : pendF xr l' t ↔ pendS rs l t := by
  unfold pendF pendS
  refine and_congr (forall_congr' fun e => ?_) (forall_congr' fun e => ?_)
  · have := congrArg MR.Tail (h (by omega))
    change (xr.get t.Ring.toNat).x.cursors.tail = (rs.get t.Ring.toNat).Tail at this
    rw [this]
  · have := congrArg MR.Heads (h (by omega))
    change (xr.get t.Ring.toNat).x.cursors.heads.L = (rs.get t.Ring.toNat).Heads.L at this
    obtain ⟨hn, hg⟩ := Sl.L_inj this
    obtain ⟨⟨a0, a1⟩, k0, k1⟩ := h2 e
    rw [hl.g _ (by omega), hg _ (by omega)]
theorem w_f6 (p : TPg) (s : TSt) (b : Nat) (hb : b * 8 ≤ 140737488351232) (hp : okP p) (hP : PInv (aP p)) (hs : okS b s) :
    D_f6.wp (p, s) fun y => (fabL p s ∧ y.2 = 0 ∧ y.1.nil = false ∧ FWf p b y.1.x ∧ aF y.1.x = aS s) ∨ (¬ fabL p s ∧ y.2 = 3 ∧ y.1.nil = true) := by
  refine of_wp ?_
  simp only [tt_f6]
  refine wC (w_f12 p hp b) fun (y : Bx TFa × Int) hy => ?_
  obtain ⟨⟨yn, ⟨yp, yt, yr, ynow, yrd, ye⟩⟩, er⟩ := y
  rcases hy with ⟨_, h0, h1, hF, _⟩ | ⟨hno, _⟩
  rotate_left
  · exact absurd hP hno
  simp only at h0 h1 hF
  subst h0 h1
  refine wp_if (p := (0 : Int) ≠ 0) (by rw [bnI, ieI]) (fun h => absurd rfl h) fun _ => wp_if (p := (s.Threads.n : Int) ≠ p.Threads.n) (by rw [bnI, ieI]) (fun e => .inr ⟨fun k => e (by rw [k.tn]), rfl, rfl⟩) fun o1 =>
    wp_if (p := (s.Rings.n : Int) ≠ p.Rings.n) (by rw [bnI, ieI]) (fun e => .inr ⟨fun k => e (by rw [k.rn]), rfl, rfl⟩) fun o2 => wp_if leI (fun e => .inr ⟨fun k => absurd k.nw (Int.not_lt.2 e), rfl, rfl⟩) fun o3 => wN rfl (of_wp ?_)
  have n1 : s.Threads.n = p.Threads.n := by have := Classical.byContradiction o1; omega
  have n2 : s.Rings.n = p.Rings.n := by have := Classical.byContradiction o2; omega
  clear o1 o2
  have rn := hF.rn
  have tn := hF.tn
  change yr.n = p.Rings.n at rn
  change yt.n = p.Threads.n at tn
  simp only [tt_f6_6]
  refine loop_wp (tt := tt_f6_8) (fun x : X_f6_8 => x.p_2 = p ∧ x.s_3 = s ∧ x.q_57 = s.Rings ∧ x.q_58 = s.Rings.n ∧ ∃ k : Nat, x.q_59 = k ∧ k ≤ s.Rings.n ∧ x.n_6.p = yp ∧ x.n_6.threads = yt ∧ x.n_6.now = s.Now ∧ x.n_6.reads = s.Reads ∧ x.n_6.ended = s.Ended ∧
      x.n_6.rings.n = s.Rings.n ∧ ∀ i, i < k → (ringL (p.Rings.get i) (s.Rings.get i) ∧ (s.Rings.get i).Tail < 2305843009213693952) ∧ (x.n_6.rings.get i).nil = false ∧ RWf (p.Rings.get i) (x.n_6.rings.get i).x ∧ aR (x.n_6.rings.get i).x = aRS (s.Rings.get i))
    (fun x => (s.Rings.n - x.q_59).toNat) (fun _ y => (fabL p s ∧ y.2 = 0 ∧ y.1.nil = false ∧ FWf p b y.1.x ∧ aF y.1.x = aS s) ∨ (¬ fabL p s ∧ y.2 = 3 ∧ y.1.nil = true)) (fun D x hI hD => ?_)
    ⟨rfl, rfl, rfl, rfl, 0, rfl, Nat.zero_le _, rfl, rfl, rfl, rfl, rfl, by show yr.n = _; omega, fun i hi => by omega⟩
  obtain ⟨e0, e1, e2, e3, k, e4, hk, e5, e6, e7, e8, e9, hn, hg⟩ := hI
  obtain ⟨q2, q3, q57, q58, q59, ⟨mp, mt, mr, mn, md, me⟩⟩ := x
  simp only at e0 e1 e2 e3 e4 e5 e6 e7 e8 e9 hn hg hD
  subst e0 e1 e2 e3 e4 e5 e6 e7 e8 e9
  simp only [tt_f6_8]
  refine wp_if ilI (fun h => ?_) fun h => ?_
  · have hkm : k < q3.Rings.n := by omega
    have hkp : k < q2.Rings.n := by omega
    have hkr : k < mr.n := by omega
    simp only [inb_nat hkm, inb_nat hkp, inb_nat hkr, wp_need_true, Int.toNat_natCast, Nat.zero_add]
    refine wC (w_fb _ _ (rg_of hP hkp) (hs.rs k hkm)) fun (z : Bx TRr × Int) hz => wN rfl (wN (by simp) (wN (by simp) ?_))
    rcases hz with ⟨hL, z2, zn, zw, za⟩ | ⟨hno, z2⟩
    · refine wp_if (p := z.2 ≠ 0) (by rw [bnI, ieI]) (fun h => absurd z2 h) fun _ => wp_if leI (fun h => .inr ⟨fun kk => absurd (kk.ri k hkm).2 (Int.not_lt.2 h), rfl, rfl⟩) fun h9 => of_wp ?_
      simp only [tt_f6_13, next64 hkm hs.rn]
      refine wp_eq (x' := ⟨q2, q3, q3.Rings, q3.Rings.n, ((k + 1 : Nat) : Int), ⟨mp, mt, setS mr k z.1, _, _, _⟩⟩) (hD _ ⟨rfl, rfl, rfl, rfl, k + 1, rfl, hkm, rfl, rfl, rfl, rfl, rfl, hn, fun i hi => ?_⟩ (by simp only; omega)) ?_
      · by_cases e : i = k
        · subst e; simp only [setS_eq]; exact ⟨⟨hL, by omega⟩, zn, zw, za⟩
        · simp only [setS_ne e]; exact hg i (by omega)
      · refine congrArg (fun g => X_f6_8.mk q2 q3 q3.Rings q3.Rings.n ((k + 1 : Nat) : Int) ⟨mp, mt, ⟨mr.nil, mr.n, g⟩, _, _, _⟩) (funext fun i => ?_)
        cases Nat.beq i k <;> rfl
    · exact wp_if (p := z.2 ≠ 0) (by rw [bnI, ieI]) (fun h => .inr ⟨fun kk => hno (kk.ri k hkm).1, rfl, rfl⟩) fun h => absurd (by rw [z2]; decide) h
  · have hkk : k = q3.Rings.n := by omega
    subst hkk
    refine of_wp ?_
    simp only [tt_f6_14]
    refine loop_wp (tt := tt_f6_15) (fun x : X_f6_15 => x.p_2 = q2 ∧ x.q_89 = q3.Threads ∧ x.q_90 = q3.Threads.n ∧ ∃ k : Nat, x.q_91 = k ∧ k ≤ q3.Threads.n ∧ x.n_6.p = mp ∧ x.n_6.rings = mr ∧ x.n_6.now = q3.Now ∧ x.n_6.reads = q3.Reads ∧ x.n_6.ended = q3.Ended ∧
        x.n_6.threads.n = q3.Threads.n ∧ ∀ t, t < k → (TInv (q2.Threads.get t).L (aT (q3.Threads.get t)) ∧ pendS q3.Rings (q2.Threads.get t) (q3.Threads.get t)) ∧ TWf b (x.n_6.threads.get t) ∧ aT (x.n_6.threads.get t) = aT (q3.Threads.get t))
      (fun x => (q3.Threads.n - x.q_91).toNat) (fun _ y => (fabL q2 q3 ∧ y.2 = 0 ∧ y.1.nil = false ∧ FWf q2 b y.1.x ∧ aF y.1.x = aS q3) ∨ (¬ fabL q2 q3 ∧ y.2 = 3 ∧ y.1.nil = true)) (fun D x hI hD => ?_)
      ⟨rfl, rfl, rfl, 0, rfl, Nat.zero_le _, rfl, rfl, rfl, rfl, rfl, by show mt.n = _; omega, fun i hi => by omega⟩
    obtain ⟨e0, e1, e2, k, e4, hk, e5, e6, e7, e8, e9, htn, htg⟩ := hI
    obtain ⟨x2, x89, x90, x91, ⟨xp, xt, xr, xn, xd, xe⟩⟩ := x
    simp only at e0 e1 e2 e4 e5 e6 e7 e8 e9 htn htg hD
    subst e0 e1 e2 e4 e5 e6 e7 e8 e9
    simp only [tt_f6_15]
    refine wp_if ilI (fun h => ?_) fun h => ?_
    · have hkm : k < q3.Threads.n := by omega
      have hkp : k < x2.Threads.n := by omega
      have hkt : k < xt.n := by omega
      simp only [inb_nat hkm, inb_nat hkp, inb_nat hkt, wp_need_true, Int.toNat_natCast, Nat.zero_add]
      have ht := hs.ts k hkm
      refine wC (w_Clone_uint64 _ ht.sz (by have := ht.sb; omega)) fun (z : Sl Int) hz => wN rfl (wN (by simp) (wN (by simp) (wN rfl ?_)))
      refine wC (w_fn (x2.Threads.get k) ⟨(q3.Threads.get k).At, (q3.Threads.get k).Phase, (q3.Threads.get k).Ring, (q3.Threads.get k).Status, (q3.Threads.get k).Ticket, (q3.Threads.get k).Regs, z⟩ (hp.c hkp) ht.k0) fun (y : Bool) hy => ?_
      rw [aT_seen hz.1] at hy
      refine wp_if bnI (fun h => .inr ⟨fun kk => h (hy.2 ⟨code_of hP hkp, (kk.ti k hkm).1⟩), rfl, rfl⟩) fun h => ?_
      have hT := (hy.1 (Classical.byContradiction h)).2
      have hw := fun q => wait_of hP hkp hT q
      have heq : ∀ (P : Sl TTh → Prop), P (setS xt k ⟨(q3.Threads.get k).At, (q3.Threads.get k).Phase, (q3.Threads.get k).Ring, (q3.Threads.get k).Status, (q3.Threads.get k).Ticket, (q3.Threads.get k).Regs, z⟩) →
          P ⟨xt.nil, xt.n, fun i => (TTh.mk (cond (Nat.beq i k) (q3.Threads.get k).At (xt.get i).At) (cond (Nat.beq i k) (q3.Threads.get k).Phase (xt.get i).Phase) (cond (Nat.beq i k) (q3.Threads.get k).Ring (xt.get i).Ring) (cond (Nat.beq i k) (q3.Threads.get k).Status (xt.get i).Status) (cond (Nat.beq i k) (q3.Threads.get k).Ticket (xt.get i).Ticket) (fun j => cond (Nat.beq i k) ((q3.Threads.get k).Regs j) ((xt.get i).Regs j)) (Sl.mk (cond (Nat.beq i k) z.nil (xt.get i).Seen.nil) (cond (Nat.beq i k) z.n (xt.get i).Seen.n) (fun j => cond (Nat.beq i k) (z.get j) ((xt.get i).Seen.get j))))⟩ := by
        intro P hh
        refine (congrArg (fun g => P ⟨xt.nil, xt.n, g⟩) (funext fun i => ?_)).mp hh
        cases Nat.beq i k <;> rfl
      refine heq (fun T => (TT.call con_fx ((k : Int), (⟨xp, T, xr, q3.Now, q3.Reads, q3.Ended⟩ : TFa)) _ : TT Tryz.prog R_f6).wp _) ?_
      have hgt : (setS xt k (⟨(q3.Threads.get k).At, (q3.Threads.get k).Phase, (q3.Threads.get k).Ring, (q3.Threads.get k).Status, (q3.Threads.get k).Ticket, (q3.Threads.get k).Regs, z⟩ : TTh)).get k = _ := setS_eq
      have hcp : CopyP xp x2 := hF.cp
      have hck := (hcp.t k hkp).1
      have hR : (q3.Threads.get k).Phase ≠ 0 → (0 ≤ (q3.Threads.get k).Ring ∧ (q3.Threads.get k).Ring < xr.n) ∧ (xr.get (q3.Threads.get k).Ring.toNat).nil = false ∧ aR (xr.get (q3.Threads.get k).Ring.toNat).x = aRS (q3.Rings.get (q3.Threads.get k).Ring.toNat) := by
        intro e
        obtain ⟨_, ⟨r0, r1⟩, _⟩ := hw e
        have := hg (q3.Threads.get k).Ring.toNat (by omega)
        exact ⟨⟨r0, by omega⟩, this.2.1, this.2.2.2⟩
      have hK : (q3.Threads.get k).Phase = 2 → (0 ≤ (q3.Threads.get k).At ∧ (q3.Threads.get k).At < (x2.Threads.get k).n) ∧ 0 ≤ ((x2.Threads.get k).get (q3.Threads.get k).At.toNat).K ∧ ((x2.Threads.get k).get (q3.Threads.get k).At.toNat).K < (q3.Rings.get (q3.Threads.get k).Ring.toNat).Heads.n := by
        intro e
        obtain ⟨ha, ⟨r0, r1⟩, hk2⟩ := hw (by omega)
        have := (hg (q3.Threads.get k).Ring.toNat (by omega)).1.1.rd
        have := hk2 e
        exact ⟨ha, this.1, by omega⟩
      have hpend := w_pending k (⟨xp, setS xt k ⟨(q3.Threads.get k).At, (q3.Threads.get k).Phase, (q3.Threads.get k).Ring, (q3.Threads.get k).Status, (q3.Threads.get k).Ticket, (q3.Threads.get k).Regs, z⟩, xr, q3.Now, q3.Reads, q3.Ended⟩ : TFa) hkt (by show k < xp.Threads.n; rw [hcp.n]; exact hkp)
        (by simp only [hgt]; exact fun e => ⟨(hR e).1.1, (hR e).1.2, (hR e).2.1⟩)
        (by
          simp only [hgt]
          intro e
          obtain ⟨⟨a0, a1⟩, k0, k1⟩ := hK e
          have hh := congrArg MR.Heads (hR (by omega)).2.2
          change (xr.get (q3.Threads.get k).Ring.toNat).x.cursors.heads.L = (q3.Rings.get (q3.Threads.get k).Ring.toNat).Heads.L at hh
          have hh := (Sl.L_inj hh).1
          obtain ⟨_, ⟨r0, r1⟩, _⟩ := hw (by omega)
          have := (hs.rs (q3.Threads.get k).Ring.toNat (by omega)).hn
          rw [hck.g _ (by omega), hh, hck.n]
          exact ⟨⟨a0, a1⟩, k0, k1, this⟩)
      simp only [hgt] at hpend
      refine wC hpend fun (y : Bool) hy => ?_
      have hpi : pendF xr (xp.Threads.get k) ⟨(q3.Threads.get k).At, (q3.Threads.get k).Phase, (q3.Threads.get k).Ring, (q3.Threads.get k).Status, (q3.Threads.get k).Ticket, (q3.Threads.get k).Regs, z⟩ ↔ pendS q3.Rings (x2.Threads.get k) (q3.Threads.get k) :=
        pend_iff (t := q3.Threads.get k) hck (fun e => (hR e).2.2) hK
      have hy := Iff.trans hy hpi
      refine wp_if bnI (fun h => .inr ⟨fun kk => h (hy.2 (kk.ti k hkm).2), rfl, rfl⟩) fun hyy => of_wp ?_
      have hpd := hy.1 (Classical.byContradiction hyy)
      simp only [tt_f6_21, next64 hkm hs.tn]
      refine heq (fun T => D.wp (⟨x2, q3.Threads, q3.Threads.n, ((k + 1 : Nat) : Int), ⟨xp, T, xr, q3.Now, q3.Reads, q3.Ended⟩⟩ : X_f6_15) _) ?_
      refine hD _ ⟨rfl, rfl, rfl, k + 1, rfl, hkm, rfl, rfl, rfl, rfl, rfl, htn, fun i hi => ?_⟩ (by simp only; omega)
      by_cases e : i = k
      · subst e; simp only [setS_eq]
        exact ⟨⟨hT, hpd⟩, ⟨ht.k0, ht.k1, ht.rg, hz.2, by have := ht.sb; have := hz.1.n; show z.n ≤ b; omega⟩, aT_seen hz.1⟩
      · simp only [setS_ne e]; exact htg i (by omega)
    · have hkk : k = q3.Threads.n := by omega
      subst hkk
      refine .inl ⟨⟨n1, n2, by omega, fun i hi => (hg i hi).1, fun t ht => (htg t ht).1⟩, rfl, rfl, ⟨hF.cp, by show xt.n = _; omega, fun t ht => (htg t (htn ▸ ht)).2.1, by show xr.n = _; omega, fun i hi => (hg i (hn ▸ hi)).2.imp_right fun h => h.1⟩, ?_⟩
      unfold aF aS
      simp only [MS.mk.injEq, and_true]
      exact ⟨L_map_ext htn fun i hi => (htg i hi).2.2, L_map_ext hn fun i hi => (hg i hi).2.2.2⟩
theorem w_slots_All (x : TSs) (h : 0 < x.l.n) (hn : x.l.n * 24 ≤ 140737488351232) : D_f1r.wp x fun y => SameS y x.l ∧ SlOk y := by
  refine ro_wp ?_
  simp only [tt_f1r]
  refine wC (w_Clone_Slot_o0 ⟨x.l.n, x.l.get⟩ h hn) fun (y : Sl TSo) hy => wN (by simp) ⟨⟨hy.1.n, hy.1.g⟩, hy.2⟩
theorem w_ring_State (c : TRg) (r : TRr) (hc : rightRg c = true) (h : RWf c r) : D_f18.wp r fun y => aRS y = aR r ∧ SlOk y.Heads ∧ SlOk y.Slots := by
  have hf := rg_facts hc
  have hn := h.hn
  have ln := h.ln
  refine ro_wp ?_
  simp only [tt_f18]
  refine wN (by simp [h.sn]) ?_
  refine wC (w_Clone_uint64_o0 ⟨r.cursors.heads.n, r.cursors.heads.get⟩ (by show 0 < r.cursors.heads.n; omega) (by show r.cursors.heads.n * 8 ≤ _; omega)) fun (y : Sl Int) hy => ?_
  refine wC (w_slots_All r.s.x (by omega) (by omega)) fun (z : Sl TSo) hz => wN (by simp [h.sn]) (wp_side' (wN (by simp) ?_))
  have e : y.L = r.cursors.heads.L := hy.1.L
  refine ⟨?_, hy.2, hz.2⟩
  show (⟨r.cursors.tail, y.L, r.closed, z.L⟩ : MR) = _
  rw [e, hz.1.L]; rfl
structure StOk (b : Nat) (s : TSt) : Prop where
  ts : ∀ t, t < s.Threads.n → TWf b (s.Threads.get t)
  rs : ∀ i, i < s.Rings.n → SlOk (s.Rings.get i).Heads ∧ SlOk (s.Rings.get i).Slots
theorem w_fabric_State (p : TPg) (b : Nat) (f : TFa) (hb : b * 8 ≤ 140737488351232) (hP : PInv (aP p)) (h : FWf p b f) : D_f3.wp f fun y => aS y = aF f ∧ StOk b y := by
  obtain ⟨h1, h8, hr8, _, hl⟩ := PInv_get hP
  have htn := h.tn
  have hrn := h.rn
  refine ro_wp ?_
  simp only [tt_f3]
  refine wC (w_Clone_ThreadState_o0_w0 ⟨f.threads.n, f.threads.get⟩ (by show 0 < f.threads.n; omega) (by show f.threads.n * 128 ≤ _; omega)) fun (y : Sl TTh) hy => wN (by simp) (wN (by simp) ?_)
  have yn : y.n = f.threads.n := hy.1.n
  have yg : ∀ i, i < f.threads.n → y.get i = f.threads.get i := hy.1.g
  refine loop_wp (tt := tt_f3_5) (fun x : X_f3_5 => x.q_29 = f.threads.n ∧ x.o_0 = f ∧ ∃ k : Nat, x.q_30 = k ∧ k ≤ f.threads.n ∧ x.m_2.Rings = ⟨true, 0, fun _ => ⟨0, ⟨true, 0, fun _ => 0⟩, false, ⟨true, 0, fun _ => ⟨0, 0, 0⟩⟩⟩⟩ ∧ x.m_2.Now = f.now ∧ x.m_2.Reads = f.reads ∧ x.m_2.Ended = f.ended ∧
      x.m_2.Threads.n = f.threads.n ∧ ∀ t, t < f.threads.n → aT (x.m_2.Threads.get t) = aT (f.threads.get t) ∧ SlOk (x.m_2.Threads.get t).Seen ∧ (x.m_2.Threads.get t).Seen.n ≤ b)
    (fun x => (f.threads.n - x.q_30).toNat) (fun _ y => aS y.1 = aF f ∧ StOk b y.1) (fun D x hI hD => ?_)
    ⟨by rw [← yn], rfl, 0, rfl, Nat.zero_le _, rfl, rfl, rfl, rfl, yn, fun t ht => by show aT (y.get t) = _ ∧ SlOk (y.get t).Seen ∧ (y.get t).Seen.n ≤ b; rw [yg t ht]; exact ⟨rfl, (h.tw t ht).sz, (h.tw t ht).sb⟩⟩
  obtain ⟨e0, e1, k, e4, hk, e5, e6, e7, e8, hn, hg⟩ := hI
  obtain ⟨q29, q30, o0, ⟨mt, mr, mn, md, me⟩⟩ := x
  simp only at e0 e1 e4 e5 e6 e7 e8 hn hg hD
  subst e0 e1 e4 e5 e6 e7 e8
  simp only [tt_f3_5]
  refine wp_if ilI (fun hlt => ?_) fun hlt => ?_
  · have hkm : k < mt.n := by omega
    have hkf : k < o0.threads.n := by omega
    simp only [inb_nat hkm, wp_need_true, Int.toNat_natCast, Nat.zero_add]
    obtain ⟨g1, g2, g3⟩ := hg k hkf
    refine wN (by simp) ?_
    refine wC (w_Clone_uint64 _ g2 (by omega)) fun (z : Sl Int) hz => wN rfl (wN (by simp) (wN (by simp) ?_))
    have e2 : IntKind.i64.wrap ((k : Int) + 1) = ((k + 1 : Nat) : Int) := by rw [wrap64] <;> omega
    rw [e2]
    refine wp_eq (x' := ⟨_, ((k + 1 : Nat) : Int), o0, ⟨setS mt k ⟨(mt.get k).At, (mt.get k).Phase, (mt.get k).Ring, (mt.get k).Status, (mt.get k).Ticket, (mt.get k).Regs, z⟩, _, _, _, _⟩⟩) (hD _ ⟨rfl, rfl, k + 1, rfl, by omega, rfl, rfl, rfl, rfl, hn, fun i hi => ?_⟩ (by simp only; omega)) ?_
    · by_cases e : i = k
      · subst e; simp only [setS_eq]; exact ⟨(aT_seen hz.1).trans g1, hz.2, by rw [hz.1.n]; exact g3⟩
      · simp only [setS_ne e]; exact hg i hi
    · refine congrArg (fun g => X_f3_5.mk _ ((k + 1 : Nat) : Int) o0 ⟨⟨mt.nil, mt.n, g⟩, _, _, _, _⟩) (funext fun i => ?_)
      cases Nat.beq i k <;> rfl
  · refine wp_side' (of_wp ?_)
    simp only [tt_f3_9]
    refine loop_wp (tt := tt_f3_10) (fun x : X_f3_10 => x.q_50 = o0.rings.n ∧ x.o_0 = o0 ∧ ∃ k : Nat, x.q_51 = k ∧ k ≤ o0.rings.n ∧ x.m_2.Threads = mt ∧ x.m_2.Now = o0.now ∧ x.m_2.Reads = o0.reads ∧ x.m_2.Ended = o0.ended ∧
        x.m_2.Rings.n = k ∧ ∀ i, i < k → aRS (x.m_2.Rings.get i) = aR (o0.rings.get i).x ∧ SlOk (x.m_2.Rings.get i).Heads ∧ SlOk (x.m_2.Rings.get i).Slots)
      (fun x => (o0.rings.n - x.q_51).toNat) (fun _ y => aS y.1 = aF o0 ∧ StOk b y.1) (fun D x hI hD => ?_) ⟨rfl, rfl, 0, rfl, Nat.zero_le _, rfl, rfl, rfl, rfl, rfl, fun t ht => by omega⟩
    obtain ⟨e0, e1, k, e4, hk, e5, e6, e7, e8, hrn2, hrg⟩ := hI
    obtain ⟨q29, q30, o0, ⟨xt, xr, xn, xd, xe⟩⟩ := x
    simp only at e0 e1 e4 e5 e6 e7 e8 hrn2 hrg hD
    subst e0 e1 e4 e5 e6 e7 e8 hrn2
    simp only [tt_f3_10]
    refine wp_if ilI (fun hlt => ?_) fun hlt => ?_
    · have hkr : xr.n < o0.rings.n := by omega
      obtain ⟨hnil, hw⟩ := h.rw _ hkr
      simp only [inb_nat hkr, wp_need_true, Int.toNat_natCast, Nat.zero_add]
      refine wN (by simp [hnil]) ?_
      refine wC (w_ring_State _ _ (rg_of hP (by omega)) hw) fun (z : TRs) hz => wN (by simp [room]; omega) (wN (by simp [hnil]; omega) (wp_side' ?_))
      have e2 : IntKind.i64.wrap ((xr.n : Int) + 1) = ((xr.n + 1 : Nat) : Int) := by rw [wrap64] <;> omega
      rw [e2]
      refine wp_eq (x' := ⟨_, ((xr.n + 1 : Nat) : Int), o0, ⟨xt, snoc xr z, _, _, _⟩⟩) (hD _ ⟨rfl, rfl, xr.n + 1, rfl, by omega, rfl, rfl, rfl, rfl, rfl, fun i hi => ?_⟩ (by simp only; omega)) ?_
      · by_cases e : i = xr.n
        · subst e; simp only [snoc_eq]; exact hz
        · have : i < xr.n := by omega
          simp only [snoc_lt this]; exact hrg i this
      · refine congrArg (fun g => X_f3_10.mk _ ((xr.n + 1 : Nat) : Int) o0 ⟨xt, ⟨false, xr.n + 1, g⟩, _, _, _⟩) (funext fun i => ?_)
        cases Nat.blt i xr.n <;> rfl
    · have hkk : xr.n = o0.rings.n := by omega
      refine wN (by simp) ?_
      have htn2 : xt.n = o0.threads.n := by assumption
      refine ⟨?_, fun t ht => ?_, fun i hi => (hrg i hi).2⟩
      · show aS ⟨xt, xr, o0.now, o0.reads, o0.ended⟩ = aF o0
        unfold aF aS
        simp only [MS.mk.injEq, and_true]
        exact ⟨L_map_ext htn2 fun i hi => (hg i hi).1, L_map_ext hkk fun i hi => (hrg i (hkk ▸ hi)).1⟩
      · change t < xt.n at ht
        obtain ⟨g1, g2, g3⟩ := hg t (htn2 ▸ ht)
        have hw := h.tw t (htn2 ▸ ht)
        have k1 := congrArg MT.Ticket g1
        have k2 := congrArg MT.Regs g1
        change (xt.get t).Ticket = (o0.threads.get t).Ticket at k1
        change (xt.get t).Regs = (o0.threads.get t).Regs at k2
        exact ⟨by show 0 ≤ (xt.get t).Ticket; rw [k1]; exact hw.k0, by show (xt.get t).Ticket < _; rw [k1]; exact hw.k1, by show ∀ j, 0 ≤ (xt.get t).Regs j ∧ (xt.get t).Regs j < _; rw [k2]; exact hw.rg, g2, g3⟩
theorem w_f32 (x : Int) : D_f32.wp x fun y => y = true ↔ 18 ≤ x ∧ x ≤ 25 := by
  refine of_wp ?_
  simp only [tt_f32, TT.wp, leI, Bool.false_eq_true, false_iff]
  omega
theorem ofInt_u64 {a : Int} (h : U64 a) : (BitVec.ofInt (IntKind.bits .u64) a).toNat = a.toNat := by
  obtain ⟨h0, h1⟩ := h
  rw [BitVec.toNat_ofInt]
  show (a % ((2 ^ 64 : Nat) : Int)).toNat = a.toNat
  rw [Int.emod_eq_of_lt h0 (by exact h1)]
theorem toNat_u64 {a : Int} (h : U64 a) : a.toNat < 2 ^ 64 := by
  obtain ⟨h0, h1⟩ := h
  have : (2 : Nat) ^ 64 = 18446744073709551616 := by decide
  omega
theorem wrap_nat {n : Nat} (h : n < 2 ^ 64) : IntKind.u64.wrap (n : Int) = n := by
  have : (2 : Nat) ^ 64 = 18446744073709551616 := by decide
  exact wrapu64 (by omega) (by omega)
theorem bits_and_u64 {a b : Int} (ha : U64 a) (hb : U64 b) : Vm.bits .and IntKind.u64 a b = ((a.toNat &&& b.toNat : Nat) : Int) := by
  simp only [Vm.bits, BitVec.toNat_and, ofInt_u64 ha, ofInt_u64 hb]
  exact wrap_nat (Nat.and_lt_two_pow _ (toNat_u64 hb))
theorem bits_or_u64' {a b : Int} (ha : U64 a) (hb : U64 b) : Vm.bits .or IntKind.u64 a b = ((a.toNat ||| b.toNat : Nat) : Int) := by
  simp only [Vm.bits, BitVec.toNat_or, ofInt_u64 ha, ofInt_u64 hb]
  exact wrap_nat (Nat.or_lt_two_pow (toNat_u64 ha) (toNat_u64 hb))
theorem bits_xor_u64 {a b : Int} (ha : U64 a) (hb : U64 b) : Vm.bits .xor IntKind.u64 a b = ((a.toNat ^^^ b.toNat : Nat) : Int) := by
  simp only [Vm.bits, BitVec.toNat_xor, ofInt_u64 ha, ofInt_u64 hb]
  exact wrap_nat (Nat.xor_lt_two_pow (toNat_u64 ha) (toNat_u64 hb))
theorem and63 {b : Int} (hb : U64 b) : Vm.bits .and IntKind.u64 b 63 = b % 64 := by
  rw [bits_and_u64 hb (by unfold U64; decide)]
  have : b.toNat &&& 63 = b.toNat % 64 := Nat.and_two_pow_sub_one_eq_mod b.toNat 6
  show ((b.toNat &&& 63 : Nat) : Int) = _
  rw [this]
  have := hb.1
  omega
theorem w_f3b (b : Bool) : D_f3b.wp b fun y => y = if b = true then 1 else 0 := by
  refine of_wp ?_
  simp only [tt_f3b]
  exact wp_ite (fun h => by rw [if_pos h]; rfl) fun h => by rw [if_neg h]; rfl
theorem w_f2o (a b : Int) (ha : U64 a) (hb : U64 b) : D_f2o.wp (a, b) fun y => y = if b = 0 then 0 else a / b := by
  refine of_wp ?_
  simp only [tt_f2o]
  refine wp_if ieI (fun h => by rw [if_pos h]; rfl) fun h => wN (by simpa [ieq] using h) ?_
  rw [if_neg h]
  show IntKind.u64.wrap (Int.tdiv a b) = _
  rw [Int.tdiv_eq_ediv_of_nonneg ha.1]
  have h2 : a / b ≤ a := Int.ediv_le_self _ ha.1
  have h3 : 0 ≤ a / b := Int.ediv_nonneg ha.1 hb.1
  have := ha.2
  exact wrapu64 h3 (by omega)
theorem w_f37 (a b : Int) (ha : U64 a) : D_f37.wp (a, b) fun y => y = if b = 0 then 0 else a % b := by
  refine of_wp ?_
  simp only [tt_f37]
  refine wp_if ieI (fun h => by rw [if_pos h]; rfl) fun h => wN (by simpa [ieq] using h) ?_
  rw [if_neg h]
  exact Int.tmod_eq_emod_of_nonneg ha.1
theorem mAlu11 (a b : Int) : mAlu 11 a b = IntKind.u64.wrap (a * 2 ^ (b % 64).toNat) := rfl
theorem mAlu12 (a b : Int) : mAlu 12 a b = a / 2 ^ (b % 64).toNat := rfl
theorem w_f3d (op a b : Int) (ha : U64 a) (hb : U64 b) (h3 : 3 ≤ op) (h14 : op ≤ 14) : D_f3d.wp (op, (a, b)) fun y => y.1 = mAlu op a b := by
  refine of_wp ?_
  simp only [tt_f3d]
  have hm : (b % 64).toNat ≤ 63 := by omega
  have hmin : min (b % 64).toNat (IntKind.bits .u64) = (b % 64).toNat := Nat.min_eq_left (by show _ ≤ 64; omega)
  refine wp_if ieI (fun h => ?_) fun n3 => wp_if ieI (fun h => ?_) fun n4 => wp_if ieI (fun h => ?_) fun n5 => wp_if ieI (fun h => ?_) fun n6 => wp_if ieI (fun h => ?_) fun n7 => wp_if ieI (fun h => ?_) fun n8 =>
    wp_if ieI (fun h => ?_) fun n9 => wp_if ieI (fun h => ?_) fun n10 => wp_if ieI (fun h => ?_) fun n11 => wp_if ieI (fun h => ?_) fun n12 => wp_if ieI (fun h => ?_) fun n13 => wp_if ieI (fun h => ?_) fun n14 => by omega
  · subst h; rfl
  · subst h; rfl
  · subst h; rfl
  · subst h
    exact wC (w_f2o a b ha hb) fun (y : Int) hy => hy
  · subst h
    exact wC (w_f37 a b ha) fun (y : Int) hy => hy
  · subst h
    exact bits_and_u64 ha hb
  · subst h
    exact bits_or_u64' ha hb
  · subst h
    exact bits_xor_u64 ha hb
  · subst h
    show shl IntKind.u64 a (Vm.bits .and IntKind.u64 b 63) = mAlu 11 a b
    rw [mAlu11, and63 hb, shl, hmin]
  · subst h
    show shr IntKind.u64 a (Vm.bits .and IntKind.u64 b 63) = mAlu 12 a b
    rw [mAlu12, and63 hb, shr, hmin, Int.fdiv_eq_ediv_of_nonneg]
    exact Int.le_of_lt (Int.pow_pos (by decide))
  · subst h
    refine wC (w_f3b (ilt a b)) fun (y : Int) hy => ?_
    subst hy
    show (if ilt a b = true then (1 : Int) else 0) = if a < b then 1 else 0
    simp only [ilI]
  · subst h
    refine wC (w_f3b (ieq a b)) fun (y : Int) hy => ?_
    subst hy
    show (if ieq a b = true then (1 : Int) else 0) = if a = b then 1 else 0
    simp only [ieI]
theorem mAlu_U64 {op a b : Int} (ha : U64 a) (hb : U64 b) : U64 (mAlu op a b) := by
  have hd : U64 (if b = 0 then 0 else a / b) := by
    split
    · exact U64_0
    · exact ⟨Int.ediv_nonneg ha.1 hb.1, by have := Int.ediv_le_self b ha.1; have := ha.2; omega⟩
  have hr : U64 (if b = 0 then 0 else a % b) := by
    split
    · exact U64_0
    · rename_i h
      have h1 : 0 < b := by have := hb.1; omega
      exact ⟨Int.emod_nonneg _ h, by have := Int.emod_lt_of_pos a h1; have := hb.2; omega⟩
  have hn : ∀ {n : Nat}, n < 2 ^ 64 → U64 (n : Int) := fun h => by
    have : (2 : Nat) ^ 64 = 18446744073709551616 := by decide
    exact ⟨Int.natCast_nonneg _, by omega⟩
  have it : ∀ {c : Prop} [Decidable c] {x y : Int}, U64 x → U64 y → U64 (if c then x else y) := fun h k => by split <;> assumption
  have u1 : U64 1 := by unfold U64; decide
  have hs : U64 (a / 2 ^ (b % 64).toNat) := ⟨Int.ediv_nonneg ha.1 (Int.le_of_lt (Int.pow_pos (by decide))), by have := Int.ediv_le_self (2 ^ (b % 64).toNat) ha.1; have := ha.2; omega⟩
  unfold mAlu
  exact it (wf_wrap64 _) (it (wf_wrap64 _) (it (wf_wrap64 _) (it hd (it hr (it (hn (Nat.and_lt_two_pow _ (toNat_u64 hb))) (it (hn (Nat.or_lt_two_pow (toNat_u64 ha) (toNat_u64 hb))) (it (hn (Nat.xor_lt_two_pow (toNat_u64 ha) (toNat_u64 hb))) (it (wf_wrap64 _) (it hs (it (it u1 U64_0) (it u1 U64_0)))))))))))
theorem wp_ifeq {P : Program} {R Z : Type} {g : R → Z} {b : Bool} {p : Prop} [Decidable p] {t e : TT P R} {u v : Z} (hb : b = true ↔ p) (h1 : p → t.wp fun y => g y = u) (h2 : ¬ p → e.wp fun y => g y = v) : (TT.ite b t e).wp fun y => g y = if p then u else v :=
  wp_if hb (fun h => by rw [if_pos h]; exact h1 h) fun h => by rw [if_neg h]; exact h2 h
theorem bool_of {a b : Bool} (h : a = true ↔ b = true) : a = b := Bool.eq_iff_iff.2 h
theorem w_f2d (k : Int) : D_f2d.wp k fun y => y = kTicket k := by
  refine Dyn.wp.mono (Q := fun y : Bool => y = true ↔ (1 ≤ k ∧ k ≤ 4 ∨ k = 13)) (of_wp ?_) fun y hy => bool_of (hy.trans kTicket_iff.symm)
  simp only [tt_f2d, TT.wp, leI, ieI, true_iff]
  omega
theorem w_f2l (k : Int) : D_f2l.wp k fun y => y = kRing k := by
  refine Dyn.wp.mono (Q := fun y : Bool => y = true ↔ (1 ≤ k ∧ k ≤ 7 ∨ k = 13)) (of_wp ?_) fun y hy => bool_of (hy.trans kRing_iff.symm)
  simp only [tt_f2l]
  refine wC (w_f2d k) fun (y : Bool) hy => ?_
  subst hy
  simp only [TT.wp, leI, kTicket_iff, true_iff, Bool.false_eq_true, false_iff]
  omega
theorem w_f2p (k : Int) : D_f2p.wp k fun y => y = kValue k := by
  refine Dyn.wp.mono (Q := fun y : Bool => y = true ↔ (8 ≤ k ∧ k ≤ 10 ∨ k = 12)) (of_wp ?_) fun y hy => bool_of (hy.trans (by simp only [kValue, decide_eq_true_eq]))
  simp only [tt_f2p, TT.wp, leI, ieI, true_iff]
  omega
theorem w_f20 (k : Int) : D_f20.wp k fun y => y = ⟨#[]⟩ ↔ ¬ (1 ≤ k ∧ k ≤ 15) := by
  refine of_wp ?_
  simp only [tt_f20]
  refine wp_if ilI (fun h => ⟨fun _ => by omega, fun _ => rfl⟩) fun h1 => wp_if ilI (fun h => ⟨fun _ => by omega, fun _ => rfl⟩) fun h2 => of_wp ?_
  simp only [tt_f20_3]
  have hn : D_f30.wp PUnit.unit fun y => y.n = 15 ∧ ∀ i, i < 15 → y.get i ≠ ⟨#[]⟩ := by
    refine of_wp ?_
    simp only [tt_f30]
    refine ⟨rfl, fun i hi => ?_⟩
    rcases (by omega : i = 0 ∨ i = 1 ∨ i = 2 ∨ i = 3 ∨ i = 4 ∨ i = 5 ∨ i = 6 ∨ i = 7 ∨ i = 8 ∨ i = 9 ∨ i = 10 ∨ i = 11 ∨ i = 12 ∨ i = 13 ∨ i = 14) with e | e | e | e | e | e | e | e | e | e | e | e | e | e | e <;> subst e <;> exact fun h => by cases h
  refine wC hn fun (y : Sl ByteArray) hy => ?_
  have hw : IntKind.i64.wrap (k - 1) = k - 1 := wrap64 (by omega) (by omega)
  rw [hw]
  exact wN (by rw [ibI, hy.1]; omega) ⟨fun h => absurd h (hy.2 _ (by omega)), fun h => absurd ⟨by omega, by omega⟩ h⟩
def bareE (e : TEv) : TEv := ⟨e.Thread, e.Kind, if kRing e.Kind = true then e.Ring else 0, if kTicket e.Kind = true then e.Ticket else 0, if kValue e.Kind = true then e.Value else 0⟩
theorem w_ft (e : TEv) : D_ft.wp e fun y => y = bareE e := by
  refine of_wp ?_
  simp only [tt_ft]
  refine wC (w_f2l e.Kind) fun (y : Bool) hy => ?_
  subst hy
  have h5 : ∀ r t z, D_ft_5.wp (⟨⟨e.Thread, e.Kind, r, t, e.Value⟩, z⟩ : X_ft_5) fun y => y = ⟨e.Thread, e.Kind, r, t, if kValue e.Kind = true then e.Value else 0⟩ := fun r t z => by
    refine of_wp ?_
    simp only [tt_ft_5]
    refine wC (w_f2p e.Kind) fun (y : Bool) hy => ?_
    subst hy
    exact wp_if bnI (fun h => by rw [if_neg h]; rfl) fun h => by rw [if_pos (Classical.byContradiction h)]; rfl
  have h3 : ∀ r z, D_ft_3.wp (⟨⟨e.Thread, e.Kind, r, e.Ticket, e.Value⟩, z⟩ : X_ft_3) fun y => y = ⟨e.Thread, e.Kind, r, if kTicket e.Kind = true then e.Ticket else 0, if kValue e.Kind = true then e.Value else 0⟩ := fun r z => by
    refine of_wp ?_
    simp only [tt_ft_3]
    refine wC (w_f2d e.Kind) fun (y : Bool) hy => ?_
    subst hy
    exact wp_if bnI (fun h => by rw [if_neg h]; exact h5 _ _ _) fun h => by rw [if_pos (Classical.byContradiction h)]; exact h5 _ _ _
  unfold bareE
  exact wp_if bnI (fun h => by rw [if_neg h]; exact h3 _ _) fun h => by rw [if_pos (Classical.byContradiction h)]; exact h3 _ _
theorem mRightE_iff {e : TEv} : mRightE e = true ↔ (1 ≤ e.Kind ∧ e.Kind ≤ 15) ∧ (0 ≤ e.Thread ∧ e.Thread ≤ 7) ∧ (0 ≤ e.Ring ∧ e.Ring ≤ 7) ∧ e.Ticket < 4611686018427387904 ∧
    (kRing e.Kind = true ∨ e.Ring = 0) ∧ (kTicket e.Kind = true ∨ e.Ticket = 0) ∧ (kValue e.Kind = true ∨ e.Value = 0) := by
  simp only [mRightE, decide_eq_true_eq]
theorem bare_iff {e : TEv} : ((ieq e.Thread (bareE e).Thread) && ((ieq e.Kind (bareE e).Kind) && ((ieq e.Ring (bareE e).Ring) && ((ieq e.Ticket (bareE e).Ticket) && ((ieq e.Value (bareE e).Value) && true))))) = true ↔
    (kRing e.Kind = true ∨ e.Ring = 0) ∧ (kTicket e.Kind = true ∨ e.Ticket = 0) ∧ (kValue e.Kind = true ∨ e.Value = 0) := by
  simp only [bareE, Bool.and_eq_true, ieI, true_and, and_true]
  cases kRing e.Kind <;> cases kTicket e.Kind <;> cases kValue e.Kind <;> simp
theorem w_f2m (e : TEv) : D_f2m.wp e fun y => y = mRightE e := by
  refine Dyn.wp.mono (Q := fun y : Bool => y = true ↔ mRightE e = true) (of_wp ?_) fun y hy => bool_of hy
  simp only [tt_f2m]
  refine wC (w_f20 e.Kind) fun (y : ByteArray) hy => ?_
  refine wp_if (p := 1 ≤ e.Kind ∧ e.Kind ≤ 15) (by rw [bnI, seq_iff]; exact (not_congr hy).trans Decidable.not_not) (fun h1 => ?_) fun h1 => ff_iff fun k => h1 (mRightE_iff.1 k).1
  refine wC (w_ft e) fun (y : TEv) hy => ?_
  subst hy
  refine wp_if bare_iff (fun h2 => wp_if leI (fun h3 => wp_if ilI (fun h4 => wp_if leI (fun h5 => wp_if ilI (fun h6 => dec_iff ilI ?_) fun h => ?_) fun h => ?_) fun h => ?_) fun h => ?_) fun h => ?_
  · rw [mRightE_iff]; exact ⟨fun h => ⟨h1, by omega, by omega, h, h2⟩, fun h => h.2.2.2.1⟩
  all_goals refine ff_iff fun k => ?_
  all_goals have k := mRightE_iff.1 k
  · omega
  · omega
  · omega
  · omega
  · exact h k.2.2.2.2
def aA (a : TAk) : MA := ⟨a.Kind, a.Ring, a.Mode, a.Reader, a.Ticket, a.Value⟩
theorem w_f2c (k : Int) : D_f2c.wp k fun y => y = mWants k := by
  refine of_wp ?_
  simp only [tt_f2c, mWants]
  exact wp_ifeq (g := id) ieI (fun _ => rfl) fun _ => wp_ifeq (g := id) ieI (fun _ => rfl) fun _ => wp_ifeq (g := id) ieI (fun _ => rfl) fun _ => wp_ifeq (g := id) ieI (fun _ => rfl) fun _ => wp_ifeq (g := id) ieI (fun _ => rfl) fun _ =>
    wp_ifeq (g := id) ieI (fun _ => rfl) fun _ => wp_ifeq (g := id) ieI (fun _ => rfl) fun _ => wp_ifeq (g := id) ieI (fun _ => rfl) fun _ => wp_ifeq (g := id) ieI (fun _ => rfl) fun _ => wp_ifeq (g := id) ieI (fun _ => rfl) fun _ => wp_ifeq (g := id) ieI (fun _ => rfl) fun _ => rfl
theorem w_fg (a : TAk) (e : TEv) : D_fg.wp (a, e) fun y => y = mFitsA (aA a) e := by
  refine of_wp ?_
  simp only [tt_fg]
  refine wC (w_f2l e.Kind) fun (y : Bool) hy => ?_
  subst hy
  have h4 : ∀ w : Bool, (w = true ↔ (a.Kind = 1 ∨ a.Kind = 2)) → D_fg_4.wp (⟨a, e, w⟩ : X_fg_4) fun y => y = (if e.Kind = 5 then decide ((a.Kind = 1 ∨ a.Kind = 2) ∧ a.Mode = 0)
      else if e.Kind = 6 then decide (a.Kind = 1 ∨ a.Kind = 2)
      else if e.Kind = 7 then decide ((a.Kind = 1 ∨ a.Kind = 2) ∧ a.Mode = 2)
      else if e.Kind = 2 ∨ e.Kind = 4 then decide (a.Kind = mWants e.Kind ∧ a.Ticket = e.Ticket)
      else if e.Kind = 12 then decide (a.Kind = 7 ∧ a.Value = e.Value)
      else decide (a.Kind = mWants e.Kind)) := fun w hw => by
    refine of_wp ?_
    simp only [tt_fg_4]
    have dd : ∀ {x y : Int} {p q : Prop} [Decidable q] {b : Bool}, (b = true ↔ p) → (q ↔ p ∧ x = y) → (TT.ite b (.ret (ieq x y)) (.ret false) : TT Tryz.prog R_fg).wp fun z => z = decide q := fun {x y p q _ b} hb h =>
      wp_if hb (fun k => bool_of (ieI.trans ⟨fun e => decide_eq_true (h.2 ⟨k, e⟩), fun e => (h.1 (of_decide_eq_true e)).2⟩)) fun k => (decide_eq_false fun e => k (h.1 e).1).symm
    have tk : (TT.call con_f2c e.Kind fun (y1 : R_f2c) => .ite (ieq a.Kind y1) (.ret (ieq a.Ticket e.Ticket)) (.ret false) : TT Tryz.prog R_fg).wp fun z => z = decide (a.Kind = mWants e.Kind ∧ a.Ticket = e.Ticket) := by
      refine wC (w_f2c e.Kind) fun (y : Int) hy => ?_
      subst hy
      exact dd ieI Iff.rfl
    refine wp_ifeq (g := id) ieI (fun _ => dd hw Iff.rfl) fun _ => wp_ifeq (g := id) ieI (fun _ => bool_of (hw.trans (by simp))) fun _ => wp_ifeq (g := id) ieI (fun _ => dd hw Iff.rfl) fun _ => ?_
    refine wp_if ieI (fun h => ?_) fun h2 => wp_if ieI (fun h => ?_) fun h4 => ?_
    · rw [if_pos (.inl h)]; exact tk
    · rw [if_pos (.inr h)]; exact tk
    · rw [if_neg (by omega)]
      refine wp_ifeq (g := id) ieI (fun _ => dd ieI Iff.rfl) fun _ => of_wp ?_
      simp only [tt_fg_16]
      refine wC (w_f2c e.Kind) fun (y : Int) hy => ?_
      subst hy
      exact bool_of (ieI.trans (by simp))
  have h3 : (kRing e.Kind = true → a.Ring = e.Ring) → D_fg_3.wp (⟨a, e⟩ : X_fg_3) fun y => y = mFitsA (aA a) e := fun hr => by
    have hh : (!kRing e.Kind || decide (a.Ring = e.Ring)) = true := by
      cases q : kRing e.Kind
      · rfl
      · simpa using hr q
    unfold mFitsA
    show D_fg_3.wp _ fun y => y = ((!kRing e.Kind || decide (a.Ring = e.Ring)) && _)
    rw [hh, Bool.true_and]
    refine of_wp ?_
    simp only [tt_fg_3]
    exact wp_if ieI (fun h => h4 true (by simp [h])) fun h => h4 _ (by rw [ieI]; omega)
  refine wp_ite (fun h => wp_if (p := a.Ring ≠ e.Ring) (by rw [bnI, ieI]) (fun hn => ?_) fun hn => h3 fun _ => Classical.byContradiction hn) fun h => h3 fun k => absurd k h
  unfold mFitsA
  have : (!kRing e.Kind || decide ((aA a).Ring = e.Ring)) = false := by rw [h]; exact decide_eq_false hn
  rw [this]; rfl
theorem regs_set (g : Nat → Int) (i v : Int) : (fun k => cond (Nat.beq k i.toNat) v (g k)) = setR g i v := by
  funext k
  unfold setR
  by_cases h : k = i.toNat
  · subst h; simp
  · rw [beq_ne h, if_neg h]; rfl
theorem U64_set {g : Nat → Int} {i v : Int} (hg : ∀ j, U64 (g j)) (hv : U64 v) : ∀ j, U64 (setR g i v j) := fun j => by
  unfold setR; split
  · exact hv
  · exact hg j
theorem TWf.with {b : Nat} {t : TTh} (h : TWf b t) (a : Int) {g : Nat → Int} (hg : ∀ j, U64 (g j)) : TWf b ⟨a, t.Phase, t.Ring, t.Status, t.Ticket, g, t.Seen⟩ := ⟨h.k0, h.k1, hg, h.sz, h.sb⟩
theorem w_f2j (i : TIn) (t : TTh) (b : Nat) (hi : okI i) (hr : rightI i = true) (ho : i.Op ≤ 17) (ht : TWf b t) (ha : 0 ≤ t.At ∧ t.At < 1000) :
    D_f2j.wp (i, t) fun y => aT y = mStepI i (aT t) ∧ TWf b y := by
  have hf := rightI_facts hr
  have hA : inb i.A 8 = true := by rw [ibI]; omega
  have hB : inb i.B 8 = true := by rw [ibI]; omega
  have hC : inb i.C 8 = true := by rw [ibI]; omega
  have hw : IntKind.i64.wrap (t.At + 1) = t.At + 1 := wrap64 (by omega) (by omega)
  refine of_wp ?_
  simp only [tt_f2j, hA, hB, hC, hw, regs_set]
  have nx : (TT.ret (TTh.mk (t.At + 1) t.Phase t.Ring t.Status t.Ticket t.Regs t.Seen) : TT Tryz.prog R_f2j).wp fun y => aT y = { aT t with At := t.At + 1 } ∧ TWf b y := ⟨rfl, ht.with _ ht.rg⟩
  have jm : i.Op ≠ 1 → (TT.ret (TTh.mk (IntKind.i64.wrap i.K) t.Phase t.Ring t.Status t.Ticket t.Regs t.Seen) : TT Tryz.prog R_f2j).wp fun y => aT y = { aT t with At := i.K } ∧ TWf b y := fun h => by
    have := hf.2.2.2.2.2.1 h
    rw [wrap64 (by omega) (by omega)]
    exact ⟨rfl, ht.with _ ht.rg⟩
  have e0 : (aT t).At = t.At := rfl
  have e1 : (aT t).Regs = t.Regs := rfl
  unfold mStepI
  simp only [e0, e1]
  refine wp_if ieI (fun h => ?_) fun n1 => wp_if ieI (fun h => ?_) fun n2 => wp_if ieI (fun h => ?_) fun n15 => wp_if ieI (fun h => ?_) fun n16 => wp_if ieI (fun h => ?_) fun n17 => ?_
  · rw [if_pos h]; exact wN rfl ⟨rfl, ht.with _ (U64_set ht.rg hi.1)⟩
  · rw [if_neg n1, if_pos h]; exact wN rfl (wN rfl ⟨rfl, ht.with _ (U64_set ht.rg (ht.rg _))⟩)
  · rw [if_neg n1, if_neg n2, if_pos (.inl h)]; exact jm n1
  · rw [if_neg n1, if_neg n2]
    refine wN rfl (wp_if (p := t.Regs i.A.toNat = 0) (by rw [h]; simp [ieq]) (fun q => ?_) fun q => ?_)
    · rw [if_pos (.inr (.inl ⟨h, q⟩))]; exact jm n1
    · rw [if_neg (by omega), if_neg (by omega)]; exact nx
  · rw [if_neg n1, if_neg n2]
    refine wN rfl (wp_if (p := t.Regs i.A.toNat ≠ 0) (by rw [h]; simp [ieq]) (fun q => ?_) fun q => ?_)
    · rw [if_pos (.inr (.inr ⟨h, q⟩))]; exact jm n1
    · rw [if_neg (by omega), if_neg (by omega)]; exact nx
  · rw [if_neg n1, if_neg n2, if_neg (by omega), if_pos (by omega)]
    refine wN rfl (wN rfl (wC (w_f3d i.Op _ _ (ht.rg _) (ht.rg _) (by omega) (by omega)) fun (y : Int × Bool) hy => wN rfl ?_))
    rw [hy]
    exact ⟨rfl, ht.with _ (U64_set ht.rg (mAlu_U64 (ht.rg _) (ht.rg _)))⟩
theorem mRun_stop {l : List TIn} {t : MT} (h : ¬ (t.At < l.length ∧ (gI l t.At).Op ≤ 17)) : ∀ n, mRun l n t = t
  | 0 => rfl
  | n + 1 => by unfold mRun; rw [if_neg h]
theorem mRun_step {l : List TIn} {t : MT} (h : t.At < l.length ∧ (gI l t.At).Op ≤ 17) (n : Nat) : mRun l (n + 1) t = mRun l n (mStepI (gI l t.At) t) := by
  show (if _ then _ else _) = _
  rw [if_pos h]
structure InsF (l : Sl TIn) (i : TIn) : Prop where
  ok : okI i
  ri : rightI i = true
  jm : 15 ≤ i.Op ∧ i.Op ≤ 17 → i.K ≤ l.n
theorem insF {l : Sl TIn} (hl : okC l) (hc : codeOk l) {a : Int} (h0 : 0 ≤ a) (h1 : a < l.n) : InsF l (l.get a.toNat) := by
  have hk : a.toNat < l.n := by omega
  obtain ⟨c1, c2⟩ := hc.2 _ hk
  exact ⟨hl.i _ hk, c1, fun q => by
    have c3 : ¬ ((l.n : Int) < (l.get a.toNat).K) := fun z => c2 ⟨q.1, q.2, z⟩
    omega⟩
theorem w_f2x (i : TIn) (t : TTh) (l : Sl TIn) (hr : rightI i = true) (h0 : 0 ≤ t.At) (h1 : t.At < l.n) (hi : l.get t.At.toNat = i) (ho : 18 ≤ i.Op) : D_f2x.wp (i, t) fun y => aA y = mAskI l.L (aT t) := by
  have hf := rightI_facts hr
  have hA : inb i.A 8 = true := by rw [ibI]; omega
  have hg : gI l.L (aT t).At = i := by rw [← hi]; exact gI_L l h0 h1
  have hw : IntKind.i64.wrap i.K = i.K := by
    have := hf.2.2.2.2.2.1 (by omega)
    exact wrap64 (by omega) (by omega)
  refine of_wp ?_
  simp only [tt_f2x, hA, mAskI, hg, hw]
  rw [if_neg (by rw [Sl.L_length]; show t.At ≠ _; omega), if_neg (by omega)]
  exact wp_ifeq ieI (fun _ => wN rfl rfl) fun _ => wp_ifeq ieI (fun _ => rfl) fun _ => wp_ifeq ieI (fun _ => rfl) fun _ => wp_ifeq ieI (fun _ => rfl) fun _ => wp_ifeq ieI (fun _ => rfl) fun _ => wp_ifeq ieI (fun _ => rfl) fun _ => wp_ifeq ieI (fun _ => wN rfl rfl) fun _ => rfl
theorem w_fa_12 (l : Sl TIn) (s : TTh) (z4 : TTh) (z5 : TAk) (hl : okC l) (hc : codeOk l) (h0 : 0 ≤ s.At) (h1 : s.At ≤ l.n) :
    D_fa_12.wp (⟨l, s, z4, z5⟩ : X_fa_12) fun y => y.1 = s ∧ aA y.2 = mAskI l.L (aT s) := by
  refine of_wp ?_
  simp only [tt_fa_12]
  refine wp_if ieI (fun h => ⟨rfl, ?_⟩) fun h => ?_
  · unfold mAskI
    rw [if_pos (by rw [Sl.L_length]; exact h)]; rfl
  · have h2 : s.At < l.n := by omega
    have hF := insF hl hc h0 h2
    have hf := rightI_facts hF.ri
    refine wN (by rw [ibI]; omega) (wC (w_f2r _) fun (y : Bool) hy => ?_)
    refine wp_if hy (fun hp => ⟨rfl, ?_⟩) fun hp => wN (by rw [ibI]; omega) ?_
    · unfold mAskI
      rw [if_neg (by rw [Sl.L_length]; exact h)]
      have : gI l.L (aT s).At = l.get s.At.toNat := gI_L l h0 h2
      rw [this, if_pos hp.2]; rfl
    · exact wC (w_f2x _ s l hF.ri h0 h2 rfl (by omega)) fun y hy => ⟨rfl, hy⟩
theorem w_fa (l : Sl TIn) (t : TTh) (b : Nat) (hl : okC l) (hc : codeOk l) (hT : TInv l.L (aT t)) (ht : TWf b t) :
    D_fa.wp (l, t) fun y => aT y.1 = (mNext l.L (aT t)).1 ∧ aA y.2 = (mNext l.L (aT t)).2 ∧ TWf b y.1 := by
  have a0 : 0 ≤ t.At := hT.a0
  have a1 : t.At ≤ l.n := by have := hT.a1; simpa [aT] using this
  have p1 := hT.p1
  refine of_wp ?_
  simp only [tt_fa]
  unfold mNext
  have es : (aT t).Status = t.Status := rfl
  have ep : (aT t).Phase = t.Phase := rfl
  simp only [es, ep]
  refine wp_if (p := t.Status ≠ 0) (by rw [bnI, ieI]) (fun h => ?_) fun hs => wp_if ieI (fun h => ?_) fun hp1 => wp_if ieI (fun h => ?_) fun hp2 => ?_
  · rw [if_pos h]; exact ⟨rfl, rfl, ht⟩
  · have hq := p1 (by show t.Phase ≠ 0; omega)
    have h2 : t.At < l.n := by have := hq.2.1; simpa [aT] using this
    have hF := insF hl hc a0 h2
    have hf := rightI_facts hF.ri
    refine wN (by rw [ibI]; omega) (wN (by rw [ibI]; omega) ?_)
    rw [if_neg (fun k => k (Classical.byContradiction hs)), if_pos h]
    have : gI l.L (aT t).At = l.get t.At.toNat := gI_L l a0 h2
    rw [this]
    exact ⟨rfl, rfl, ht⟩
  · have hq := p1 (by show t.Phase ≠ 0; omega)
    have h2 : t.At < l.n := by have := hq.2.1; simpa [aT] using this
    have hF := insF hl hc a0 h2
    have hf := rightI_facts hF.ri
    have ho : (l.get t.At.toNat).Op = 17 + t.Phase := by
      have := hq.2.2.1
      rwa [show gI l.L (aT t).At = l.get t.At.toNat from gI_L l a0 h2] at this
    have hk := hf.2.2.2.2.2.1 (by omega)
    refine wN (by rw [ibI]; omega) ?_
    rw [if_neg (fun k => k (Classical.byContradiction hs)), if_neg hp1, if_pos h, wrap64 (by omega) (by omega)]
    have : gI l.L (aT t).At = l.get t.At.toNat := gI_L l a0 h2
    rw [this]
    exact ⟨rfl, rfl, ht⟩
  · rw [if_neg (fun k => k (Classical.byContradiction hs)), if_neg hp1, if_neg hp2]
    simp only
    have h256 := hc.1
    refine loop_wp (tt := tt_fa_8) (fun x : X_fa_8 => x.l_0 = l ∧ ∃ k : Nat, x.q_48 = k ∧ k ≤ 256 ∧ (0 ≤ x.m_3.At ∧ x.m_3.At ≤ l.n) ∧ mRun l.L (256 - k) (aT x.m_3) = mRun l.L 256 (aT t) ∧ TWf b x.m_3)
      (fun x => (256 - x.q_48).toNat) (fun _ y => aT y.1 = mRun l.L 256 (aT t) ∧ aA y.2 = mAskI l.L (mRun l.L 256 (aT t)) ∧ TWf b y.1) (fun D x hI hD => ?_) ⟨rfl, 0, rfl, by omega, ⟨a0, a1⟩, rfl, ht⟩
    obtain ⟨l', q, s, z4, z5⟩ := x
    obtain ⟨e1, k, e2, hk, hA, hrun, hw⟩ := hI
    simp only at e1 e2 hA hrun hw hD
    subst e1 e2
    simp only [tt_fa_8]
    have fin : (¬ ((aT s).At < l'.L.length ∧ (gI l'.L (aT s).At).Op ≤ 17) ∨ k = 256) → D_fa_12.wp (⟨l', s, z4, z5⟩ : X_fa_12) fun y => aT y.1 = mRun l'.L 256 (aT t) ∧ aA y.2 = mAskI l'.L (mRun l'.L 256 (aT t)) ∧ TWf b y.1 := fun h => by
      have he : mRun l'.L 256 (aT t) = aT s := by
        rw [← hrun]
        rcases h with h | h
        · exact mRun_stop h _
        · rw [h]; rfl
      rw [he]
      refine (w_fa_12 l' s z4 z5 hl hc hA.1 hA.2).mono fun y hy => ?_
      rw [hy.1]
      exact ⟨rfl, hy.2, hw⟩
    refine wp_if ilI (fun hlt => wp_if ieI (fun h => fin (.inl fun z => ?_)) fun h => ?_) fun hlt => fin (.inr (by omega))
    · have := z.1; rw [Sl.L_length] at this; change s.At < _ at this; omega
    · have h2 : s.At < l'.n := by omega
      have hF := insF hl hc hA.1 h2
      have hf := rightI_facts hF.ri
      have hg : gI l'.L (aT s).At = l'.get s.At.toNat := gI_L l' hA.1 h2
      refine wN (by rw [ibI]; omega) (wC (w_f32 _) fun (y : Bool) hy => ?_)
      refine wp_if hy (fun h => fin (.inl fun z => ?_)) fun h => of_wp ?_
      · rw [hg] at z; omega
      · simp only [tt_fa_10]
        have h17 : (l'.get s.At.toNat).Op ≤ 17 := by omega
        refine wN (by rw [ibI]; omega) (wC (w_f2j _ s b hF.ok hF.ri h17 hw (by omega)) fun (y : TTh) hy => of_wp ?_)
        simp only [tt_fa_11]
        have e2 : IntKind.i64.wrap ((k : Int) + 1) = ((k + 1 : Nat) : Int) := by rw [wrap64] <;> omega
        rw [e2]
        have hat : 0 ≤ y.At ∧ y.At ≤ l'.n := by
          have := step_at (i := l'.get s.At.toNat) (t := aT s) (n := l'.n) hA.1 h2 (fun q => (hf.2.2.2.2.2.1 q).1) hF.jm
          rw [← hy.1] at this; exact this
        refine hD _ ⟨rfl, k + 1, rfl, by omega, hat, ?_, hy.2⟩ (by simp only; omega)
        have hst : (aT s).At < l'.L.length ∧ (gI l'.L (aT s).At).Op ≤ 17 := ⟨by rw [Sl.L_length]; exact h2, by rw [hg]; exact h17⟩
        rw [← hrun, show 256 - k = (256 - (k + 1)) + 1 by omega, mRun_step hst, hg, hy.1]
theorem w_Clone_uint64_a0 (x : Sl Int) (h : SlOk x) (hn : x.n * 8 ≤ 140737488351232) : D_f1m.wp x fun y => SameS y x ∧ SlOk y := by
  refine of_wp ?_
  simp only [tt_f1m]
  refine wp_ite (fun e => ⟨⟨(h e).symm, fun i hi => by have := h e; omega⟩, fun _ => rfl⟩) fun _ => wN (room_le hn) ⟨⟨?_, fun i _ => rfl⟩, fun e => ?_⟩
  · exact Nat.zero_add _
  · simp only [Bool.cond_self, Bool.false_eq_true] at e
theorem w_f2k (l : Sl TIn) (t : TTh) (b : Nat) (hb : b * 8 ≤ 140737488351232) (hl : okC l) (hc : codeOk l) (hT : TInv l.L (aT t)) (ht : TWf b t) :
    D_f2k.wp (l, t) fun y => aT y.1 = (mNext l.L (aT t)).1 ∧ aA y.2.1 = (mNext l.L (aT t)).2 ∧ TWf b y.1 ∧ y.2.2 = 0 := by
  refine of_wp ?_
  simp only [tt_f2k]
  refine wC (w_fn l t hl ht.k0) fun (y : Bool) hy => ?_
  refine wp_if bnI (fun h => absurd (hy.2 ⟨hc, hT⟩) h) fun _ => ?_
  have hsb := ht.sb
  refine wC (w_Clone_uint64_a0 t.Seen ht.sz (by omega)) fun (z : Sl Int) hz => ?_
  have he : aT ⟨t.At, t.Phase, t.Ring, t.Status, t.Ticket, t.Regs, z⟩ = aT t := aT_seen hz.1
  have hn := hz.1.n
  refine wC (w_fa l ⟨t.At, t.Phase, t.Ring, t.Status, t.Ticket, t.Regs, z⟩ b hl hc (by rw [he]; exact hT) ⟨ht.k0, ht.k1, ht.rg, hz.2, by show z.n ≤ b; omega⟩) fun (y : TTh × TAk) hy => ?_
  rw [he] at hy
  exact ⟨hy.1, hy.2.1, hy.2.2, rfl⟩
theorem TWf.grow {b b' : Nat} {t : TTh} (h : TWf b t) (k : b ≤ b') : TWf b' t := ⟨h.k0, h.k1, h.rg, h.sz, Nat.le_trans h.sb k⟩
theorem mBehindT_e {i : TIn} {t : MT} {e : TEv} {v : Int} (h1 : e.Kind ≠ 1) (h3 : e.Kind ≠ 3) (h14 : e.Kind ≠ 14) (h15 : e.Kind ≠ 15) : mBehindT i t e v =
    ⟨t.At + 1, 0, 0, t.Status, 0, (if e.Kind = 2 then setR t.Regs i.B 0 else if e.Kind = 4 then setR (setR t.Regs i.A v) i.B 0 else if e.Kind = 5 then setR t.Regs i.B 1 else if e.Kind = 6 then setR t.Regs i.B 2 else if e.Kind = 7 then setR t.Regs i.B 3 else if e.Kind = 8 then setR t.Regs i.A e.Value else if e.Kind = 9 then setR t.Regs i.A e.Value else if e.Kind = 10 then setR (setR t.Regs i.A e.Value) i.B 0 else if e.Kind = 11 then setR t.Regs i.B 1 else t.Regs), if e.Kind = 12 then t.Seen ++ [e.Value] else t.Seen⟩ := by
  unfold mBehindT
  rw [if_neg h1, if_neg h3, if_neg h14, if_neg h15]
theorem snoc_L {α : Type} (s : Sl α) (x : α) : (snoc s x).L = s.L ++ [x] := by
  apply List.ext_getElem
  · simp [snoc]
  · intro i h1 h2
    have h1 : i < s.n + 1 := by simpa [snoc] using h1
    simp only [Sl.L_getE]
    by_cases e : i < s.n
    · rw [snoc_lt e, List.getElem_append_left (by simpa using e), Sl.L_getE]
    · have : i = s.n := by omega
      subst this
      rw [snoc_eq, List.getElem_append_right (by simp)]
      simp
theorem w_fl (i : TIn) (t : TTh) (e : TEv) (v : Int) (b : Nat) (hb : b * 8 + 8 ≤ 140737488351232) (hr : rightI i = true) (ht : TWf b t) (ha : 0 ≤ t.At ∧ t.At < 1000) (hv : U64 v) (hev : U64 e.Value)
    (h1 : e.Kind ≠ 1) (h3 : e.Kind ≠ 3) (h14 : e.Kind ≠ 14) (h15 : e.Kind ≠ 15) :
    D_fl.wp (i, (e, (v, t))) fun y => aT y = mBehindT i (aT t) e v ∧ TWf (b + 1) y := by
  have hf := rightI_facts hr
  have hA : inb i.A 8 = true := by rw [ibI]; omega
  have hB : inb i.B 8 = true := by rw [ibI]; omega
  have hw : IntKind.i64.wrap (t.At + 1) = t.At + 1 := wrap64 (by omega) (by omega)
  have u1 : U64 1 := by unfold U64; decide
  have u2 : U64 2 := by unfold U64; decide
  have u3 : U64 3 := by unfold U64; decide
  have hsb := ht.sb
  rw [mBehindT_e h1 h3 h14 h15]
  refine of_wp ?_
  simp only [tt_fl, hA, hB, regs_set]
  have h23 : ∀ (g : Nat → Int) (sn : Sl Int), (∀ j, U64 (g j)) → SlOk sn → sn.n ≤ b + 1 →
      D_fl_23.wp (⟨⟨t.At, t.Phase, t.Ring, t.Status, t.Ticket, g, sn⟩⟩ : X_fl_23) fun y => aT y = ⟨t.At + 1, 0, 0, t.Status, 0, g, sn.L⟩ ∧ TWf (b + 1) y := fun g sn hg hs hn => by
    refine of_wp ?_
    simp only [tt_fl_23, hw]
    exact ⟨rfl, ⟨Int.le_refl 0, (by decide : (0 : Int) < 18446744073709551616), hg, hs, hn⟩⟩
  have e0 : (aT t).At = t.At := rfl
  have e1 : (aT t).Regs = t.Regs := rfl
  have e2 : (aT t).Seen = t.Seen.L := rfl
  have e3 : (aT t).Status = t.Status := rfl
  simp only [e0, e1, e2, e3]
  have go : ∀ (g : Nat → Int), (∀ j, U64 (g j)) → D_fl_23.wp (⟨⟨t.At, t.Phase, t.Ring, t.Status, t.Ticket, g, t.Seen⟩⟩ : X_fl_23) fun y => aT y = ⟨t.At + 1, 0, 0, t.Status, 0, g, t.Seen.L⟩ ∧ TWf (b + 1) y :=
    fun g hg => h23 g t.Seen hg ht.sz (by omega)
  refine wp_if ieI (fun h => ?_) fun n2 => wp_if ieI (fun h => ?_) fun n4 => wp_if ieI (fun h => ?_) fun n5 => wp_if ieI (fun h => ?_) fun n6 => wp_if ieI (fun h => ?_) fun n7 => wp_if ieI (fun h => ?_) fun n8 => wp_if ieI (fun h => ?_) fun n9 =>
    wp_if ieI (fun h => ?_) fun n10 => wp_if ieI (fun h => ?_) fun n11 => wp_if ieI (fun h => ?_) fun n12 => ?_
  · simp only [h, if_true, Int.reduceEq, if_false]; exact wN rfl (go _ (U64_set ht.rg U64_0))
  · simp only [h, if_true, Int.reduceEq, if_false]; exact wN rfl (wN rfl (go _ (U64_set (U64_set ht.rg hv) U64_0)))
  · simp only [h, if_true, Int.reduceEq, if_false]; exact wN rfl (go _ (U64_set ht.rg u1))
  · simp only [h, if_true, Int.reduceEq, if_false]; exact wN rfl (go _ (U64_set ht.rg u2))
  · simp only [h, if_true, Int.reduceEq, if_false]; exact wN rfl (go _ (U64_set ht.rg u3))
  · simp only [h, if_true, Int.reduceEq, if_false]; exact wN rfl (go _ (U64_set ht.rg hev))
  · simp only [h, if_true, Int.reduceEq, if_false]; exact wN rfl (go _ (U64_set ht.rg hev))
  · simp only [h, if_true, Int.reduceEq, if_false]; exact wN rfl (wN rfl (go _ (U64_set (U64_set ht.rg hev) U64_0)))
  · simp only [h, if_true, Int.reduceEq, if_false]; exact wN rfl (go _ (U64_set ht.rg u1))
  · simp only [h, if_true, Int.reduceEq, if_false]
    refine wN (by simp [room]; omega) ?_
    have := h23 t.Regs (snoc t.Seen e.Value) ht.rg (fun z => by cases z) (by show t.Seen.n + 1 ≤ b + 1; omega)
    rw [snoc_L] at this
    exact this
  · rw [if_neg n2, if_neg n4, if_neg n5, if_neg n6, if_neg n7, if_neg n8, if_neg n9, if_neg n10, if_neg n11, if_neg n12]
    exact go _ ht.rg
theorem fit_at {l : List TIn} {t n : MT} {a : MA} {e : TEv} (hq : Asked l t n a) (hf : FitF a e) (hk : 1 ≤ e.Kind ∧ e.Kind ≤ 15) (h14 : e.Kind ≠ 14) (h15 : e.Kind ≠ 15) : n.At < l.length := by
  have b1 := hf.f1; have b2 := hf.f2; have b3 := hf.f3; have b4 := hf.f4; have b5 := hf.f5; have b8 := hf.f8; have b9 := hf.f9; have b10 := hf.f10; have b12 := hf.f12; have b13 := hf.f13
  have hd : a.Kind = 1 ∨ a.Kind = 2 ∨ a.Kind = 3 ∨ (4 ≤ a.Kind ∧ a.Kind ≤ 7) ∨ a.Kind = 10 ∨ a.Kind = 11 := by omega
  rcases hd with h | h | h | h | h | h
  · exact (hq.k1 h).2.1
  · exact (hq.k2 h).2.1
  · exact (hq.k3 h).2.1
  · exact (hq.kn h).2
  · exact (hq.kp h).2.1
  · exact (hq.kr h).2.1
def mDoT (l : List TIn) (t : MT) (e : TEv) : Int :=
  if mRightE e = false then 3 else if (mNext l t).2.Kind = 0 ∨ mFitsA (mNext l t).2 e = false then 11 else 0
theorem w_f1z (rs : List TRg) (l : Sl TIn) (t : TTh) (e : TEv) (v : Int) (b : Nat) (hb : b * 8 + 8 ≤ 140737488351232) (hl : okC l) (hc : codeOk l) (hcr : CodeIn rs l.L) (hT : TInv l.L (aT t)) (ht : TWf b t) (hv : U64 v) (hev : U64 e.Value) (het : 0 ≤ e.Ticket) :
    D_f1z.wp (l, (t, (e, v))) fun y => y.2 = mDoT l.L (aT t) e ∧ (mDoT l.L (aT t) e = 0 → aT y.1 = mBehindT (gI l.L (mNext l.L (aT t)).1.At) (mNext l.L (aT t)).1 e v ∧ TWf (b + 1) y.1) := by
  refine of_wp ?_
  simp only [tt_f1z]
  refine wC (w_f2k l t b (by omega) hl hc hT ht) fun (y : TTh × TAk × Int) hy => ?_
  obtain ⟨s, a, er⟩ := y
  obtain ⟨hs, ha, hw, h0⟩ := hy
  simp only at hs ha hw h0
  subst h0
  refine wp_if (p := (0 : Int) ≠ 0) (by rw [bnI, ieI]) (fun h => absurd rfl h) fun _ => ?_
  refine wC (w_f2m e) fun (y : Bool) hy => ?_
  subst hy
  unfold mDoT
  rw [← ha]
  refine wp_if bnI (fun h => ?_) fun h => ?_
  · have h : mRightE e = false := by simpa using h
    rw [if_pos h]; exact ⟨rfl, fun k => absurd k (by decide)⟩
  · have hR : mRightE e = true := Classical.byContradiction h
    rw [if_neg (by rw [hR]; decide)]
    refine wp_if ieI (fun hk => ?_) fun hk => wC (w_fg a e) fun (y : Bool) hy => ?_
    · rw [if_pos (.inl hk)]; exact ⟨rfl, fun k => absurd k (by decide)⟩
    · subst hy
      refine wp_if bnI (fun hf => ?_) fun hf => of_wp ?_
      · rw [if_pos (.inr (by simpa using hf))]; exact ⟨rfl, fun k => absurd k (by decide)⟩
      · have hF : mFitsA (aA a) e = true := Classical.byContradiction hf
        have hk' : (aA a).Kind ≠ 0 := hk
        rw [if_neg (by rw [hF]; simp [hk'])]
        rw [← hs]
        have hff := fitF hR hF
        have hq := asked_of hcr hT
        rw [← ha, ← hs] at hq
        have hn := (next_kept hcr hT).2
        rw [← hs] at hn
        simp only [tt_f1z_8]
        have n1 : mFitsA (aA a) e = true := hF
        have fin : ∀ {z : MT} {x : TTh}, aT x = z → TWf (b + 1) x → (TT.ret ((x, 0) : R_f1z) : TT Tryz.prog R_f1z).wp fun y => y.2 = 0 ∧ (True → aT y.1 = z ∧ TWf (b + 1) y.1) := fun h1 h2 => ⟨rfl, fun _ => ⟨h1, h2⟩⟩
        have hre := (rightE_facts hR)
        have tk : U64 e.Ticket := ⟨het, by have := hre.2.2.2.1; omega⟩
        refine wp_if ieI (fun h => fin (by rw [bT1 _ h]; rfl) ⟨tk.1, tk.2, hw.rg, hw.sz, Nat.le_succ_of_le hw.sb⟩) fun h1 => wp_if ieI (fun h => fin (by rw [bT3 _ h]; rfl) ⟨tk.1, tk.2, hw.rg, hw.sz, Nat.le_succ_of_le hw.sb⟩) fun h3 =>
          wp_if ieI (fun h => fin (by rw [bT14 _ h]; rfl) ⟨hw.k0, hw.k1, hw.rg, hw.sz, Nat.le_succ_of_le hw.sb⟩) fun h14 => wp_if ieI (fun h => fin (by rw [bT15 _ h]; rfl) ⟨hw.k0, hw.k1, hw.rg, hw.sz, Nat.le_succ_of_le hw.sb⟩) fun h15 => ?_
        have hat : s.At < l.n := by
          have := fit_at (n := aT s) hq hff hre.1 h14 h15
          simpa [aT] using this
        have a0 : 0 ≤ s.At := hn.a0
        have h256 := hc.1
        have hi := insF hl hc a0 hat
        have hg : gI l.L (aT s).At = l.get s.At.toNat := gI_L l a0 hat
        rw [hg]
        refine wN (by rw [ibI]; omega) (wC (w_fl _ s e v b hb hi.ri hw (by omega) hv hev h1 h3 h14 h15) fun (y : TTh) hy => fin hy.1 hy.2)
structure RC (c : TRg) (b : Int) (r : TRr) : Prop where
  rg : rightRg c = true
  wf : RWf c r
  inv : RInv c b (aR r)
  bb : b ≤ 4611686018427387904
section
variable {c : TRg} {b : Int} {r : TRr}
theorem RC.hn (h : RC c b r) : 1 ≤ r.cursors.heads.n ∧ r.cursors.heads.n ≤ 8 ∧ (r.cursors.heads.n : Int) = c.Readers := by
  have := rg_facts h.rg; have := h.wf.hn; omega
theorem RC.ln (h : RC c b r) : 1 ≤ r.s.x.l.n ∧ r.s.x.l.n ≤ 64 ∧ (r.s.x.l.n : Int) = c.Cap := by
  have := rg_facts h.rg; have := h.wf.ln; omega
theorem RC.t (h : RC c b r) : 0 ≤ r.cursors.tail ∧ r.cursors.tail < 4611686018427387904 := by
  have h0 := h.inv.t0; have h1 := h.inv.tb; have := h.bb
  change 0 ≤ r.cursors.tail at h0; change r.cursors.tail < b at h1; omega
theorem RC.hd (h : RC c b r) {k : Nat} (hk : k < r.cursors.heads.n) : 0 ≤ r.cursors.heads.get k ∧ r.cursors.heads.get k ≤ r.cursors.tail ∧ r.cursors.tail - r.cursors.heads.get k ≤ c.Cap :=
  h.inv.h0 _ (Sl.mem_L.2 ⟨k, hk, rfl⟩)
theorem hd_aR {j : Int} (h0 : 0 ≤ j) (h1 : j < r.cursors.heads.n) : hd (aR r) j = r.cursors.heads.get j.toNat := getD_L _ h0 h1 0
theorem capR_aR : capR (aR r) = r.s.x.l.n := by simp [capR, aR]
theorem plc_aR (h : RC c b r) (t : Int) : plc (aR r) t < r.s.x.l.n := by
  have := plc_lt h.inv h.rg t; simpa [aR] using this
theorem slotAt_aR (h : RC c b r) (t : Int) : slotAt (aR r) t = r.s.x.l.get (plc (aR r) t) := by
  have := plc_aR h t
  unfold slotAt
  show r.s.x.l.L.getD _ _ = _
  rw [List.getD, Sl.L_get _ this]; rfl
theorem RC.slot (h : RC c b r) (t : Int) : SlInv c.Cap r.cursors.heads.n r.cursors.tail r.cursors.heads.L (plc (aR r) t) (r.s.x.l.get (plc (aR r) t)) := by
  have := h.inv.sl _ _ (slotAt_in h.inv h.rg t)
  rw [slotAt_aR h] at this
  simpa [aR] using this
theorem imin_eq (x y : Int) : imin x y = min x y := by
  unfold imin
  by_cases h : y < x
  · rw [ilI.2 h]; show y = _; omega
  · rw [ilt_false.2 (Int.not_lt.1 h)]; show x = _; omega
theorem imax_eq (x y : Int) : imax x y = max x y := by
  unfold imax
  by_cases h : x < y
  · rw [ilI.2 h]; show y = _; omega
  · rw [ilt_false.2 (Int.not_lt.1 h)]; show x = _; omega
theorem w_Min_o0 (x : Ar Int) (h1 : 1 ≤ x.n) (h8 : x.n ≤ 8) : D_f7.wp x fun y => (∃ k, k < x.n ∧ y = x.get k) ∧ ∀ k, k < x.n → y ≤ x.get k := by
  refine ro_wp ?_
  simp only [tt_f7]
  refine wp_if ilI (fun h => by omega) fun _ => of_wp ?_
  simp only [tt_f7_3]
  refine wN (by rw [ibI]; omega) (wN (by simp) ?_)
  refine loop_wp (tt := tt_f7_5) (fun z : X_f7_5 => z.o_0 = x ∧ ∃ k : Nat, z.i_4 = k ∧ 1 ≤ k ∧ k ≤ x.n ∧ (∃ j, j < x.n ∧ z.m_3 = x.get j) ∧ ∀ j, j < k → z.m_3 ≤ x.get j) (fun z => (x.n - z.i_4).toNat)
    (fun _ y => (∃ k, k < x.n ∧ y.1 = x.get k) ∧ ∀ k, k < x.n → y.1 ≤ x.get k) (fun D z hI hD => ?_) ⟨rfl, 1, rfl, by omega, by omega, ⟨0, by omega, by simp⟩, fun j hj => by
      have : j = 0 := by omega
      subst this; exact Int.le_refl _⟩
  obtain ⟨m, i, o⟩ := z
  obtain ⟨e0, k, e1, hk1, hk, ⟨j, hj, e2⟩, hle⟩ := hI
  simp only at e0 e1 e2 hle hD
  subst e0 e1
  simp only [tt_f7_5]
  refine wp_if ilI (fun h => ?_) fun h => ?_
  · have hkm : k < o.n := by omega
    have e3 : IntKind.i64.wrap ((k : Int) + 1) = ((k + 1 : Nat) : Int) := by rw [wrap64] <;> omega
    refine wN (inb_nat hkm) (wN (by simp) ?_)
    rw [e3, Nat.zero_add, Int.toNat_natCast, imin_eq]
    refine hD _ ⟨rfl, k + 1, rfl, by omega, hkm, ?_, fun i hi => ?_⟩ (by simp only; omega)
    · by_cases q : m ≤ o.get k
      · exact ⟨j, hj, by show min m _ = _; omega⟩
      · exact ⟨k, hkm, by show min m _ = _; omega⟩
    · show min m (o.get k) ≤ o.get i
      by_cases q : i = k
      · subst q; omega
      · have := hle i (by omega); omega
  · exact ⟨⟨j, hj, e2⟩, fun i hi => hle i (by omega)⟩
theorem w_ring_least (h : RC c b r) : D_f17.wp r.cursors fun y => isLeast (aR r).Heads y := by
  refine ro_wp ?_
  simp only [tt_f17]
  have hn := h.hn
  refine wC (w_Min_o0 ⟨r.cursors.heads.n, r.cursors.heads.get⟩ hn.1 hn.2.1) fun (y : Int) hy => wN (by simp) ?_
  obtain ⟨⟨k, hk, e⟩, hle⟩ := hy
  refine ⟨Sl.mem_L.2 ⟨k, hk, e.symm⟩, fun z hz => ?_⟩
  obtain ⟨i, hi, rfl⟩ := Sl.mem_L.1 hz
  exact hle i hi
theorem w_ring_Full (h : RC c b r) : D_f19.wp r fun y => y = mFull (aR r) := by
  refine ro_wp ?_
  simp only [tt_f19]
  refine wC (w_ring_least h) fun (y : Int) hy => bool_of ?_
  rw [mFull_least hy, leI, h.wf.ms, capR_aR]
  obtain ⟨k, hk, e⟩ := Sl.mem_L.1 hy.1
  have := h.hd hk
  have := h.t
  rw [wrapu64 (by omega) (by omega), h.wf.ln]
  exact Iff.rfl
theorem w_ring_Closed (r : TRr) : D_f14.wp r fun y => y = (aR r).Closed := ro_wp rfl
theorem w_ring_reader_l0 (j : Int) (s : TRc_L1) (a : Ar Int) : D_fv.wp (j, (s, a)) fun y => y = true ↔ 0 ≤ j ∧ j < s.heads.n := by
  refine ro_wp ?_
  simp only [tt_fv]
  exact wp_if leI (fun h => dec_iff ilI ⟨fun k => ⟨h, k⟩, fun k => k.2⟩) fun h => ff_iff fun k => h k.1
theorem w_ring_Empty (j : Int) (h0 : 0 ≤ j) (h1 : j < r.cursors.heads.n) : D_f15.wp (j, r) fun y => y = mEmpty (aR r) j := by
  refine ro_wp ?_
  simp only [tt_f15]
  refine wC (w_ring_reader_l0 _ _ _) fun (y : Bool) hy => ?_
  refine wp_if bnI (fun h => absurd (hy.2 ⟨h0, h1⟩) h) fun _ => wN (by rw [ibI]; exact ⟨h0, h1⟩) (wN (by simp) (wN (by simp) ?_))
  unfold mEmpty
  rw [hd_aR h0 h1]
  refine bool_of ?_
  rw [decide_eq_true_eq, Nat.zero_add]
  exact ieI
theorem plc_mod (h : RC c b r) {t : Int} (h0 : 0 ≤ t) : Int.tmod t (IntKind.u64.wrap (r.s.x.l.n : Int)) = (plc (aR r) t : Int) := by
  have := h.ln
  rw [wrapu64 (by omega) (by omega), Int.tmod_eq_emod_of_nonneg h0]
  unfold plc
  rw [capR_aR]
  have := Int.emod_nonneg t (b := (r.s.x.l.n : Int)) (by omega)
  omega
theorem w_place (h : RC c b r) {t : Int} (h0 : 0 ≤ t) (a : Ar TSo) (z : Int) : D_fo.wp (t, ((⟨⟨r.s.x.l.nil, r.s.x.l.n⟩, z⟩ : TSs_L0), a)) fun y => y = (plc (aR r) t, r.s.x.l.n) := by
  refine ro_wp ?_
  simp only [tt_fo]
  have hl := h.ln
  have hp := plc_aR h t
  rw [plc_mod h h0, wrapu64 (by omega) (by omega)]
  refine wN (by rw [bnI, ieI]; omega) (wN (inb_nat hp) ?_)
  show (0 + Int.toNat _, _) = _
  rw [Int.toNat_natCast, Nat.zero_add]
theorem w_f2n {t : Int} (h0 : 0 ≤ t) (h1 : t < 4611686018427387904) : D_f2n.wp t fun y => y = 2 * t + 1 := by
  refine of_wp ?_
  simp only [tt_f2n]
  show IntKind.u64.wrap _ = _
  rw [wrapu64 (z := 2 * t) (by omega) (by omega), wrapu64 (by omega) (by omega)]
theorem w_slots_Free (h : RC c b r) {t : Int} (h0 : 0 ≤ t) (h1 : t < 4611686018427387904) : D_f1j.wp (t, r.s.x) fun y => y = decide ((slotAt (aR r) t).Stamp = 2 * t) := by
  refine ro_wp ?_
  simp only [tt_f1j]
  refine wp_if ilI (fun _ => ?_) fun h => absurd h1 h
  refine wC (w_place h h0 _ _) fun (y : Nat × Nat) hy => ?_
  subst hy
  refine wN (by simp) (wC (w_f2b t h0 (by omega)) fun (y : Int) hy => wN (by simp) ?_)
  subst hy
  rw [slotAt_aR h]
  exact bool_of (by rw [decide_eq_true_eq]; exact ieI)
theorem w_ring_Free (h : RC c b r) {t : Int} (h0 : 0 ≤ t) : D_f1w.wp (t, r) fun y => y = mFree (aR r) t := by
  have ht := h.t
  refine ro_wp ?_
  simp only [tt_f1w]
  unfold mFree
  have e : (aR r).Tail = r.cursors.tail := rfl
  rw [e]
  refine wp_if ilI (fun hlt => ?_) fun hlt => ?_
  · refine wN (by simp [h.wf.sn]) (wC (w_slots_Free h h0 (by omega)) fun (y : Bool) hy => wN (by simp [h.wf.sn]) (wp_side' ?_))
    subst hy
    exact bool_of (by simp only [decide_eq_true_eq]; exact ⟨fun q => ⟨hlt, q⟩, fun q => q.2⟩)
  · exact (decide_eq_false fun q => hlt q.1).symm
theorem w_slots_got (h : RC c b r) {j t : Int} (hj0 : 0 ≤ j) (hj : j < r.cursors.heads.n) (h0 : 0 ≤ t) (h1 : t < 4611686018427387904) :
    D_fk.wp (j, (t, r.s.x)) fun y => y = 0 ↔ (slotAt (aR r) t).Stamp = 2 * t + 1 ∧ bitI (slotAt (aR r) t).Left j = true := by
  have hn := h.hn
  refine ro_wp ?_
  simp only [tt_fk]
  refine wp_if leI (fun q => absurd h1 (Int.not_lt.2 q)) fun _ => wp_if ilI (fun q => by omega) fun _ => wp_if leI (fun q => by rw [h.wf.rd] at q; omega) fun _ => of_wp ?_
  simp only [tt_fk_5]
  refine wC (w_place h h0 _ _) fun (y : Nat × Nat) hy => ?_
  subst hy
  rw [slotAt_aR h]
  have hs := h.slot t
  generalize r.s.x.l.get (plc (aR r) t) = x at hs
  have ne : ∀ {e : Int} {q : Prop}, e ≠ 0 → ¬ q → (e = 0 ↔ q) := fun h k => ⟨fun e => absurd e h, fun e => absurd e k⟩
  refine wN (by simp) (wC (w_f2n h0 h1) fun (y : Int) hy => ?_)
  subst hy
  refine wp_if ilI (fun q => wN (by simp) (ne (show (9 : Int) ≠ 0 by decide) fun k => by omega)) fun q1 => wN (by simp) (wC (w_f2n h0 h1) fun (y : Int) hy => ?_)
  subst hy
  refine wp_if ilI (fun q => wN (by simp) (ne (show (11 : Int) ≠ 0 by decide) fun k => by omega)) fun q2 => wN (by simp) (wN (by rw [leI]; exact hj0) ?_)
  have hst : x.Stamp = 2 * t + 1 := by omega
  have hl := hs.held (by omega)
  have h28 : (2 : Int) ^ r.cursors.heads.n ≤ 2 ^ 8 := by exact_mod_cast Nat.pow_le_pow_right (by decide) (by omega : r.cursors.heads.n ≤ 8)
  have hb := and_bit' (x := x.Left) (j := j.toNat) (by omega) (by omega) (by omega)
  rw [show ((j.toNat : Nat) : Int) = j by omega] at hb
  refine wp_if (ieI.trans hb) (fun q => wN (by simp) (ne (show (11 : Int) ≠ 0 by decide) fun k => ?_)) fun q => wN (by simp) ⟨fun _ => ⟨hst, by simpa using q⟩, fun _ => rfl⟩
  rw [q] at k; exact absurd k.2 (by decide)
theorem w_ring_Has (h : RC c b r) {j t : Int} (hj0 : 0 ≤ j) (hj : j < r.cursors.heads.n) (h0 : 0 ≤ t) : D_f23.wp (j, (t, r)) fun y => y = mHas (aR r) j t := by
  have ht := h.t
  have hh := h.hd (k := j.toNat) (by omega)
  refine ro_wp ?_
  simp only [tt_f23]
  refine wC (w_ring_reader j r.cursors) fun (y : Bool) hy => ?_
  refine wp_if hy (fun _ => wN (by rw [ibI]; omega) (wN (by simp) ?_)) fun k => absurd ⟨hj0, hj⟩ k
  unfold mHas
  rw [hd_aR hj0 hj, Nat.zero_add]
  refine wp_if ilI (fun hlt => wN (by simp [h.wf.sn]) ?_) fun hlt => wN (by simp) (decide_eq_false fun q => hlt q.1).symm
  have e : D_f1q.wp (j, (t, r.s.x)) fun y => y = true ↔ (slotAt (aR r) t).Stamp = 2 * t + 1 ∧ bitI (slotAt (aR r) t).Left j = true := by
    refine ro_wp ?_
    simp only [tt_f1q]
    exact wC (w_slots_got h hj0 hj h0 (by omega)) fun (y : Int) hy => ieI.trans hy
  refine wC e fun (y : Bool) hy => wN (by simp [h.wf.sn]) (wp_side' (wN (by simp) (bool_of ?_)))
  rw [decide_eq_true_eq]
  exact hy.trans ⟨fun q => ⟨hlt, q⟩, fun q => q.2⟩
end


theorem setS_L {α : Type} (s : Sl α) (k : Nat) (y : α) : (setS s k y).L = s.L.set k y := by
  apply List.ext_getElem
  · simp [setS]
  · intro i h1 h2
    rw [Sl.L_getE]
    by_cases e : i = k
    · subst e; rw [setS_eq, List.getElem_set_self]
    · rw [setS_ne e, List.getElem_set_ne (fun q => e q.symm), Sl.L_getE]
section
theorem left_clear' {x : Int} {j : Nat} (h0 : 0 ≤ x) (h1 : x < 256) (hj : j < 8) (hb : bitI x (j : Int) = true) : Vm.bits .andNot IntKind.i64 x (shl IntKind.i64 1 (j : Int)) = x - 2 ^ j ∧ 0 ≤ x - 2 ^ j := by
  have := left_clear ⟨x.toNat, by omega⟩ ⟨j, hj⟩
  simp only [show ((x.toNat : Nat) : Int) = x by omega] at this
  have h2 := (bit_clear' (n := 8) (k := j) h0 (by exact_mod_cast h1) (by omega) hj hj hb).2
  exact ⟨this hb, h2⟩
theorem pow_lt8 {j : Nat} (hj : j ≤ 8) : (2 : Int) ^ j ≤ 256 := by exact_mod_cast Nat.pow_le_pow_right (by decide : 0 < 2) hj
end
theorem code_aP {p : TPg} {t : Int} (h0 : 0 ≤ t) (h1 : t < p.Threads.n) : codeOf (aP p) t = (p.Threads.get t.toNat).L := by
  unfold codeOf aP
  simp only [List.getD, List.getElem?_map]
  rw [Sl.L_get _ (by omega)]; rfl
theorem cfg_aP {p : TPg} {i : Int} (h0 : 0 ≤ i) (h1 : i < p.Rings.n) : cfgOf (aP p) i = p.Rings.get i.toNat := getD_L _ h0 h1 _
theorem thr_aS {s : TSt} {t : Int} (h0 : 0 ≤ t) (h1 : t < s.Threads.n) : thr (aS s) t = aT (s.Threads.get t.toNat) := by
  unfold thr aS
  simp only [List.getD, List.getElem?_map]
  rw [Sl.L_get _ (by omega)]; rfl
theorem rng_aS {s : TSt} {i : Int} (h0 : 0 ≤ i) (h1 : i < s.Rings.n) : rng (aS s) i = aRS (s.Rings.get i.toNat) := by
  unfold rng aS
  simp only [List.getD, List.getElem?_map]
  rw [Sl.L_get _ (by omega)]; rfl
theorem thr_aF {f : TFa} {t : Int} (h0 : 0 ≤ t) (h1 : t < f.threads.n) : thr (aF f) t = aT (f.threads.get t.toNat) := by
  unfold thr aF
  simp only [List.getD, List.getElem?_map]
  rw [Sl.L_get _ (by omega)]; rfl
theorem rng_aF {f : TFa} {i : Int} (h0 : 0 ≤ i) (h1 : i < f.rings.n) : rng (aF f) i = aR (f.rings.get i.toNat).x := by
  unfold rng aF
  simp only [List.getD, List.getElem?_map]
  rw [Sl.L_get _ (by omega)]; rfl
structure okE (e : TEv) : Prop where
  tk : U64 e.Ticket
  vl : U64 e.Value
section
variable {p : TPg} {B : Int} {m : MS} {e : TEv}
theorem turn_ok (h : FInv (aP p) B m) (f : Fitting (aP p) m e) (k : kRing e.Kind = true) :
    (0 ≤ e.Ring ∧ e.Ring < p.Rings.n) ∧ ((mAsk (aP p) m e.Thread).Kind = 2 ∨ (mAsk (aP p) m e.Thread).Kind = 11 → 0 ≤ (mAsk (aP p) m e.Thread).Reader ∧ (mAsk (aP p) m e.Thread).Reader < (p.Rings.get e.Ring.toNat).Readers) ∧
      (e.Kind = 3 ∨ e.Kind = 4 → 0 ≤ (mAsk (aP p) m e.Thread).Reader ∧ (mAsk (aP p) m e.Thread).Reader < (p.Rings.get e.Ring.toNat).Readers) := by
  obtain ⟨r0, r1, r2⟩ := fit_ring h f k
  have hf := fitF f.re f.ft
  have r1 : e.Ring.toNat < p.Rings.n := by simpa [aP] using r1
  rw [cfg_aP r0 (by omega)] at r2
  exact ⟨⟨r0, by omega⟩, r2, fun q => r2 (q.imp hf.f3 fun z => (hf.f4 z).1)⟩
theorem fit_thread (h : FInv (aP p) B m) (f : Fitting (aP p) m e) : 0 ≤ e.Thread ∧ e.Thread < p.Threads.n := by
  have h1 := f.lt
  have h2 := h.nt
  have : (aP p).Threads.length = p.Threads.n := by simp [aP]
  have := f.th
  omega
end
section
variable {p : TPg} {B : Int}
theorem codeIn_of {B : Int} {m : MS} (h : FInv (aP p) B m) {t : Int} (h0 : 0 ≤ t) (h1 : t < p.Threads.n) : CodeIn p.Rings.L (p.Threads.get t.toNat).L := by
  have : (aP p).Threads[t.toNat]? = some (p.Threads.get t.toNat).L := by
    unfold aP
    simp only [List.getElem?_map]
    rw [Sl.L_get _ (by omega)]; rfl
  exact code_in h this
end
def UV (m : MS) : Prop := ∀ r ∈ m.Rings, ∀ x ∈ r.Slots, U64 x.Value
theorem step_U64 {i : TIn} {t : MT} (hk : U64 i.K) (h : ∀ j, U64 (t.Regs j)) : ∀ j, U64 ((mStepI i t).Regs j) := by
  unfold mStepI
  repeat' split
  · exact U64_set h hk
  · exact U64_set h (h _)
  · exact h
  · exact U64_set h (mAlu_U64 (h _) (h _))
  · exact h
theorem run_U64 {l : List TIn} (hl : ∀ i ∈ l, U64 i.K) : ∀ (n : Nat) (t : MT), (∀ j, U64 (t.Regs j)) → 0 ≤ t.At → (∀ n' : Nat, 0 ≤ (mRun l n' t).At) → ∀ j, U64 ((mRun l n t).Regs j)
  | 0, _, h, _, _ => h
  | n + 1, t, h, h0, hA => by
    unfold mRun
    split
    · rename_i hc
      have hs : ∀ n' : Nat, 0 ≤ (mRun l n' (mStepI (gI l t.At) t)).At := fun n' => by rw [← mRun_step hc]; exact hA _
      exact run_U64 hl n _ (step_U64 (hl _ (gI_mem h0 hc.1)) h) (hs 0) hs
    · exact h
theorem next_U64 {rs : List TRg} {l : List TIn} {t : MT} (hc : CodeIn rs l) (hl : ∀ i ∈ l, U64 i.K) (hT : TInv l t) (h : ∀ j, U64 (t.Regs j)) : (∀ j, U64 ((mNext l t).1.Regs j)) ∧ U64 (mNext l t).2.Value := by
  unfold mNext
  repeat' split
  · exact ⟨h, U64_0⟩
  · exact ⟨h, h _⟩
  · exact ⟨h, U64_0⟩
  · have hr := run_U64 hl 256 t h hT.a0 fun n => (run_keeps hc n t hT.a0 hT.a1).2.1
    refine ⟨hr, ?_⟩
    simp only [mAskI]
    repeat' split
    all_goals first | exact U64_0 | exact hr _
theorem slotAt_U64 {r : MR} (h : ∀ x ∈ r.Slots, U64 x.Value) (t : Int) : U64 (slotAt r t).Value := by
  unfold slotAt
  rw [List.getD_eq_getElem?_getD]
  cases q : r.Slots[plc r t]? with
  | none => exact U64_0
  | some x => exact h _ (List.mem_of_getElem? q)
theorem rng_U64 {m : MS} (h : UV m) (i : Int) : ∀ x ∈ (rng m i).Slots, U64 x.Value := by
  unfold rng
  rw [List.getD_eq_getElem?_getD]
  cases q : m.Rings[i.toNat]? with
  | none => intro x hx; cases hx
  | some x => exact h _ (List.mem_of_getElem? q)
theorem ringB_U64 {r : MR} {a : MA} {e : TEv} (h : ∀ x ∈ r.Slots, U64 x.Value) (ha : U64 a.Value) : ∀ x ∈ (mRingB r a e).Slots, U64 x.Value := by
  unfold mRingB
  repeat' split
  · exact h
  · intro x hx
    rcases List.mem_or_eq_of_mem_set hx with q | q
    · exact h x q
    · subst q; exact ha
  · exact h
  · intro x hx
    rcases List.mem_or_eq_of_mem_set hx with q | q
    · exact h x q
    · subst q
      unfold mGot
      split
      · exact U64_0
      · exact slotAt_U64 h _
  · exact h
  · exact h
theorem UV_behind {P : MP} {m : MS} {e : TEv} (h : UV m) (ha : U64 (mAsk P m e.Thread).Value) : UV (mBehind P m e) := by
  intro r hr
  unfold mBehind at hr
  simp only at hr
  split at hr
  · rcases List.mem_or_eq_of_mem_set hr with q | q
    · exact h r q
    · subst q; exact ringB_U64 (rng_U64 h _) ha
  · exact h r hr
theorem UV_new {P : MP} : UV (mNew P) := by
  intro r hr x hx
  simp only [mNew, List.mem_map] at hr
  obtain ⟨c, _, rfl⟩ := hr
  simp only [mNewR, List.mem_map] at hx
  obtain ⟨i, _, rfl⟩ := hx
  exact U64_0
theorem okP.k {p : TPg} (h : okP p) {t : Nat} (ht : t < p.Threads.n) : ∀ i ∈ (p.Threads.get t).L, U64 i.K := fun i hi => by
  obtain ⟨j, hj, rfl⟩ := Sl.mem_L.1 hi
  exact (h.ins t ht j hj).1
theorem map_set {α β : Type} (f : α → β) (l : List α) (k : Nat) (x : α) : (l.set k x).map f = (l.map f).set k (f x) := by
  apply List.ext_getElem
  · simp
  · intro i h1 h2
    simp only [List.getElem_map]
    by_cases e : k = i
    · subst e; simp
    · simp [List.getElem_set_ne e]

structure FC (p : TPg) (B : Int) (k : Nat) (f : TFa) : Prop where
  hp : okP p
  inv : FInv (aP p) B (aF f)
  wf : FWf p k f
  uv : UV (aF f)
  hB : B ≤ 2305843009213693952
  hk : k ≤ 1000000000
theorem wp_nsn {P : Program} {R : Type} {b1 b2 : Bool} {pr : Prop} {r : R} {Q : R → Prop} (h1 : b1 = true) (h2 : b2 = true) (h : Q r) : (TT.need b1 (TT.side pr (TT.need b2 (TT.ret r))) : TT P R).wp Q := ⟨h1, h2, h⟩
section
variable {p : TPg} {B : Int} {k : Nat} {f : TFa} {e : TEv}
theorem FC.small (h : FC p B k f) : 1 ≤ p.Threads.n ∧ p.Threads.n ≤ 8 ∧ p.Rings.n ≤ 8 := ⟨(PInv_get h.inv.pi).1, (PInv_get h.inv.pi).2.1, (PInv_get h.inv.pi).2.2.1⟩
theorem FC.code (h : FC p B k f) {t : Int} (h0 : 0 ≤ t) (h1 : t < p.Threads.n) : okC (f.p.Threads.get t.toNat) ∧ codeOk (f.p.Threads.get t.toNat) ∧ (f.p.Threads.get t.toNat).L = codeOf (aP p) t ∧ f.p.Threads.n = p.Threads.n := by
  have hc := h.wf.cp
  have ht : t.toNat < p.Threads.n := by omega
  have hs := (hc.t t.toNat ht).1
  refine ⟨hs.okC (h.hp.c ht), ?_, ?_, hc.n⟩
  · exact code_of (p := f.p) (by rw [hc.same]; exact h.inv.pi) (by rw [hc.n]; exact ht)
  · rw [hs.L, code_aP h0 h1]
theorem FC.tinv (h : FC p B k f) {t : Int} (h0 : 0 ≤ t) (h1 : t < p.Threads.n) : TInv (codeOf (aP p) t) (aT (f.threads.get t.toNat)) := by
  have ht := h.wf.tn
  have := h.inv.tinv (t := t) (by simp [aF]; omega)
  rwa [thr_aF h0 (by omega)] at this
theorem FC.ring (h : FC p B k f) {i : Int} (h0 : 0 ≤ i) (h1 : i < p.Rings.n) : RC (p.Rings.get i.toNat) B (f.rings.get i.toNat).x ∧ (f.rings.get i.toNat).nil = false ∧ rng (aF f) i = aR (f.rings.get i.toNat).x := by
  have hr := h.wf.rn
  have hB := h.hB
  have h2 : i.toNat < f.rings.n := by omega
  have hR := h.inv.rinv (i := i) (by simp [aP]; omega)
  rw [cfg_aP h0 h1, rng_aF h0 (by omega)] at hR
  obtain ⟨w1, w2⟩ := h.wf.rw _ h2
  exact ⟨⟨hR.2, w2, hR.1, by omega⟩, w1, rng_aF h0 (by omega)⟩
theorem w_fabric_has (t : Int) (f : TFa) : D_fy.wp (t, f) fun y => y = true ↔ 0 ≤ t ∧ t < f.threads.n := by
  refine ro_wp ?_
  simp only [tt_fy]
  exact wp_if leI (fun h => wN (by simp) (dec_iff ilI ⟨fun k => ⟨h, k⟩, fun k => k.2⟩)) fun h => ff_iff fun k => h k.1
theorem w_fabric_ask (h : FC p B k f) {t : Int} (h0 : 0 ≤ t) (h1 : t < p.Threads.n) : D_fz.wp (t, f) fun y => aA y = mAsk (aP p) (aF f) t := by
  obtain ⟨c1, c2, c3, c4⟩ := h.code h0 h1
  have htn := h.wf.tn
  have hk := h.hk
  have hT := h.tinv h0 h1
  rw [← c3] at hT
  refine ro_wp ?_
  simp only [tt_fz, Nat.zero_add]
  refine wN (by rw [ibI]; omega) (wN (by rw [ibI]; omega) (wN (by simp) ?_))
  refine wC (w_f2k _ _ k (by omega) c1 c2 hT (h.wf.tw _ (by omega))) fun (y : TTh × TAk × Int) hy => wN (by simp) ?_
  unfold mAsk
  rw [thr_aF h0 (by omega), ← c3]
  exact hy.2.1
theorem mFits_eqF : mFits (aP p) (aF f) e = if mRightE e = false then 3 else if (f.threads.n : Int) ≤ e.Thread then 5 else if (mAsk (aP p) (aF f) e.Thread).Kind = 0 ∨ mFitsA (mAsk (aP p) (aF f) e.Thread) e = false then 11 else 0 := by
  unfold mFits
  rw [show ((aF f).Threads.length : Int) = f.threads.n by simp [aF]]
theorem w_fabric_wrong (h : FC p B k f) (he : okE e) : D_fu.wp (e, f) fun y => y = mFits (aP p) (aF f) e := by
  have htn := h.wf.tn
  have hk := h.hk
  refine ro_wp ?_
  simp only [tt_fu, Nat.zero_add]
  rw [mFits_eqF]
  refine wC (w_f2m e) fun (y : Bool) hy => ?_
  subst hy
  refine wp_ifeq (g := Prod.fst) (by rw [bnI]; simp) (fun _ => rfl) fun hR => ?_
  have hR : mRightE e = true := by simpa using hR
  have hre := rightE_facts hR
  refine wC (w_fabric_has e.Thread f) fun (y : Bool) hy => ?_
  refine wp_if bnI (fun q => ?_) fun q => ?_
  · rw [if_pos (Int.not_lt.1 fun z => q (hy.2 ⟨hre.2.1.1, z⟩))]; rfl
  · have hh := hy.1 (Classical.byContradiction q)
    have h0 := hh.1
    have h1 : e.Thread < p.Threads.n := by omega
    obtain ⟨c1, c2, c3, c4⟩ := h.code h0 h1
    have hT := h.tinv h0 h1
    rw [← c3] at hT
    have hcr := codeIn_of h.inv h0 h1
    rw [← code_aP h0 h1, ← c3] at hcr
    refine wN (by rw [ibI]; omega) (wN (by rw [ibI]; omega) (wN (by simp) ?_))
    refine wC (w_f1z _ _ _ e 0 k (by omega) c1 c2 hcr hT (h.wf.tw _ (by omega)) U64_0 he.vl he.tk.1) fun (y : TTh × Int) hy => wN (by simp) ?_
    have e1 : mAsk (aP p) (aF f) e.Thread = (mNext (f.p.Threads.get e.Thread.toNat).L (aT (f.threads.get e.Thread.toNat))).2 := by
      unfold mAsk
      rw [thr_aF h0 (by omega), ← c3]
    rw [if_neg (by omega), e1]
    show y.2 = _
    rw [hy.1]
    unfold mDoT
    rw [if_neg (by rw [hR]; simp)]
theorem w_fabric_turn (h : FC p B k f) (a : TAk) (hr : 0 ≤ e.Ring ∧ e.Ring < p.Rings.n) (hrd : e.Kind = 3 ∨ e.Kind = 4 → 0 ≤ a.Reader ∧ a.Reader < (p.Rings.get e.Ring.toNat).Readers) (ht : 0 ≤ e.Ticket) :
    D_f10.wp (e, (a, f)) fun y => y = mTurn (rng (aF f) e.Ring) (aA a) e := by
  obtain ⟨hC, hnil, hrn⟩ := h.ring hr.1 hr.2
  have hn := hC.hn
  have hfr := h.wf.rn
  have e1 : (aA a).Reader = a.Reader := rfl
  refine ro_wp ?_
  simp only [tt_f10, Nat.zero_add]
  have nd : ((true && true) && (((Nat.beq f.rings.n f.rings.n) && (Nat.blt e.Ring.toNat f.rings.n)) && (!(f.rings.get e.Ring.toNat).nil))) = true := by simp [hnil]; omega
  have nd2 : ((true && true) && (Nat.beq f.rings.n f.rings.n)) = true := by simp
  rw [hrn]
  unfold mTurn
  rw [e1]
  refine wN (by rw [ibI]; omega) (wN (by simp [hnil]) ?_)
  have bd : ∀ {x y : Int}, ieq x y = decide (x = y) := fun {x y} => bool_of (by rw [decide_eq_true_eq]; exact ieI)
  refine wp_ifeq (g := Prod.fst) ieI (fun _ => wC (w_ring_Full hC) fun (y : Bool) hy => ?_) fun n1 => wp_ifeq (g := Prod.fst) ieI (fun _ => wC (w_ring_Free hC ht) fun (y : Bool) hy => wp_nsn nd nd2 hy) fun n2 =>
    wp_ifeq (g := Prod.fst) ieI (fun q3 => ?_) fun n3 => wp_ifeq (g := Prod.fst) ieI (fun q4 => ?_) fun n4 => wC (w_ring_Tail _) fun (y : Int) hy => wp_nsn nd nd2 ?_
  · subst hy
    refine wp_if bnI (fun q => wC (w_ring_Tail _) fun (y : Int) hy => wp_nsn nd nd2 ?_) fun q => wp_nsn nd nd2 ?_
    · subst hy
      rw [show mFull (aR (f.rings.get e.Ring.toNat).x) = false by simpa using q]
      exact bd
    · rw [show mFull (aR (f.rings.get e.Ring.toNat).x) = true from Classical.byContradiction q]; rfl
  · obtain ⟨j0, j1⟩ := hrd (.inl q3)
    refine wC (w_ring_Empty a.Reader j0 (by omega)) fun (y : Bool) hy => ?_
    subst hy
    refine wp_if bnI (fun q => wC (w_ring_Head a.Reader _ j0 (by omega)) fun (y : Int) hy => wp_nsn nd nd2 ?_) fun q => wp_nsn nd nd2 ?_
    · subst hy
      rw [show mEmpty (aR (f.rings.get e.Ring.toNat).x) a.Reader = false by simpa using q, hd_aR j0 (by omega)]
      exact bd
    · rw [show mEmpty (aR (f.rings.get e.Ring.toNat).x) a.Reader = true from Classical.byContradiction q]; rfl
  · obtain ⟨j0, j1⟩ := hrd (.inr q4)
    exact wC (w_ring_Has hC j0 (by omega) ht) fun (y : Bool) hy => wp_nsn nd nd2 hy
  · subst hy
    exact bd
theorem w_fabric_none (h : FC p B k f) (a : TAk) (hr : 0 ≤ a.Ring ∧ a.Ring < p.Rings.n) (hrd : a.Kind ≠ 1 → 0 ≤ a.Reader ∧ a.Reader < (p.Rings.get a.Ring.toNat).Readers) :
    D_f11.wp (a, f) fun y => y = mNone (rng (aF f) a.Ring) (aA a) := by
  obtain ⟨hC, hnil, hrn⟩ := h.ring hr.1 hr.2
  have hn := hC.hn
  have hfr := h.wf.rn
  have e1 : (aA a).Reader = a.Reader := rfl
  have e2 : (aA a).Kind = a.Kind := rfl
  refine ro_wp ?_
  simp only [tt_f11, Nat.zero_add]
  have nd : ((true && true) && (((Nat.beq f.rings.n f.rings.n) && (Nat.blt a.Ring.toNat f.rings.n)) && (!(f.rings.get a.Ring.toNat).nil))) = true := by simp [hnil]; omega
  have nd2 : ((true && true) && (Nat.beq f.rings.n f.rings.n)) = true := by simp
  rw [hrn]
  unfold mNone
  rw [e1, e2]
  refine wN (by rw [ibI]; omega) (wN (by simp [hnil]) ?_)
  refine wp_ifeq (g := Prod.fst) ieI (fun _ => wC (w_ring_Closed _) fun (y : Bool) hy => ?_) fun q => ?_
  · subst hy
    refine wp_ite (fun q => wp_nsn nd nd2 (by rw [q]; rfl)) fun q => wC (w_ring_Full hC) fun (y : Bool) hy => wp_nsn nd nd2 ?_
    subst hy
    rw [show (aR (f.rings.get a.Ring.toNat).x).Closed = false by simpa using q]; rfl
  · obtain ⟨j0, j1⟩ := hrd q
    exact wC (w_ring_Empty a.Reader j0 (by omega)) fun (y : Bool) hy => wp_nsn nd nd2 hy
theorem w_f2a (hk : 1 ≤ e.Kind) : D_f2a.wp e fun y => y = kTicket e.Kind := by
  refine of_wp ?_
  simp only [tt_f2a]
  exact wp_if leI (fun q => (kTicket_iff.2 (by omega)).symm) fun q => bool_of (by rw [kTicket_iff]; exact ieI.trans (by omega))
theorem w_fabric_Allowed (h : FC p B k f) (he : okE e) : D_fc.wp (e, f) fun y => y = mAllowed (aP p) (aF f) e := by
  have hfr := h.wf.rn
  refine ro_wp ?_
  simp only [tt_fc, Nat.zero_add]
  refine wC (w_fabric_wrong h he) fun (y : Int) hy => ?_
  subst hy
  unfold mAllowed
  refine wp_if (p := mFits (aP p) (aF f) e ≠ 0) (by rw [bnI, ieI]) (fun q => by rw [decide_eq_false q]; rfl) fun q => ?_
  have q := Classical.byContradiction q
  rw [decide_eq_true q, Bool.true_and]
  have F := fitting q
  have hth := fit_thread h.inv F
  refine wC (w_fabric_ask h hth.1 hth.2) fun (a : TAk) ha => ?_
  rw [← ha]
  have hf := fitF F.re F.ft
  have hre := rightE_facts F.re
  have hrg := fun z => turn_ok h.inv F z
  rw [← ha] at hf hrg
  have n0 := h.inv.n0
  change 0 ≤ f.now at n0
  have hnow : (aF f).Now = f.now := rfl
  have hend : (aF f).Ended = f.ended := rfl
  -- no, shut, time
  have no : 5 ≤ e.Kind ∧ e.Kind ≤ 7 → D_f11.wp (a, f) fun y => y = mNone (rng (aF f) e.Ring) (aA a) := fun z => by
    obtain ⟨r1, r2, _⟩ := hrg (kRing_iff.2 (by omega))
    have hr : a.Ring = e.Ring := hf.rg (kRing_iff.2 (by omega))
    have h5 := hf.f5 z
    rw [← hr]
    rw [← hr] at r1 r2
    exact w_fabric_none h a r1 fun w => r2 (.inl (h5.resolve_left w))
  have nd : 5 ≤ e.Kind ∧ e.Kind ≤ 7 ∨ e.Kind = 1 → (inb e.Ring f.rings.n = true ∧ (((Nat.beq f.rings.n f.rings.n) && true) && (!(f.rings.get e.Ring.toNat).nil)) = true ∧ ((true && true) && (((Nat.beq f.rings.n f.rings.n) && (Nat.blt e.Ring.toNat f.rings.n)) && (!(f.rings.get e.Ring.toNat).nil))) = true ∧ rng (aF f) e.Ring = aR (f.rings.get e.Ring.toNat).x) := fun z => by
    obtain ⟨r1, _, _⟩ := hrg (kRing_iff.2 (by omega))
    obtain ⟨_, hnil, hrn⟩ := h.ring r1.1 r1.2
    exact ⟨by rw [ibI]; omega, by simp [hnil], by simp [hnil]; omega, hrn⟩
  have nd2 : ((true && true) && (Nat.beq f.rings.n f.rings.n)) = true := by simp
  unfold mMay
  simp only
  rw [hnow, hend]
  refine wp_if ieI (fun k5 => ?_) fun n5 => wp_if ieI (fun k7 => ?_) fun n7 => wp_if ieI (fun k6 => ?_) fun n6 => ?_
  · rw [if_pos (.inl k5)]
    obtain ⟨d1, d2, d3, d4⟩ := nd (.inl (by omega))
    refine wC (no (by omega)) fun (y : Bool) hy => ?_
    subst hy
    refine wp_ite (fun z => wN d1 (wN d2 (wC (w_ring_Closed _) fun (y : Bool) hy => wp_nsn d3 nd2 ?_))) fun z => ?_
    · rw [z, d4, hy]; rfl
    · rw [show mNone (rng (aF f) e.Ring) (aA a) = false by simpa using z]; rfl
  · rw [if_pos (.inr k7)]
    obtain ⟨d1, d2, d3, d4⟩ := nd (.inl (by omega))
    refine wC (no (by omega)) fun (y : Bool) hy => ?_
    subst hy
    refine wp_ite (fun z => wN d1 (wN d2 (wC (w_ring_Closed _) fun (y : Bool) hy => wp_nsn d3 nd2 ?_))) fun z => ?_
    · rw [z, d4, hy]; rfl
    · rw [show mNone (rng (aF f) e.Ring) (aA a) = false by simpa using z]; rfl
  · rw [if_neg (by omega), if_pos k6]
    obtain ⟨d1, d2, d3, d4⟩ := nd (.inl (by omega))
    refine wC (no (by omega)) fun (y : Bool) hy => ?_
    subst hy
    refine wp_ite (fun z => wN d1 (wN d2 (wC (w_ring_Closed _) fun (y : Bool) hy => wp_nsn d3 nd2 ?_))) fun z => ?_
    · rw [z, d4, hy]; rfl
    · rw [show mNone (rng (aF f) e.Ring) (aA a) = false by simpa using z]; rfl
  · rw [if_neg (by omega), if_neg n6]
    refine wp_ifeq (g := Prod.fst) ieI (fun _ => ?_) fun n8 => wp_ifeq (g := Prod.fst) ieI (fun _ => rfl) fun n10 => ?_
    · have := he.vl
      refine wp_if leI (fun z => ?_) fun z => (decide_eq_false fun w => z w.1).symm
      rw [wrapu64 (by have := this.1; omega) (by have := this.2; omega)]
      exact bool_of (by rw [decide_eq_true_eq]; exact ilI.trans ⟨fun w => ⟨z, w⟩, fun w => w.2⟩)
    · have tu : kTicket e.Kind = true → D_f10.wp (e, (a, f)) fun y => y = mTurn (rng (aF f) e.Ring) (aA a) e := fun z => by
        obtain ⟨r1, _, r2⟩ := hrg (ticket_ring z)
        exact w_fabric_turn h a r1 r2 he.tk.1
      refine wp_ifeq (g := Prod.fst) ieI (fun k1 => ?_) fun n1 => of_wp ?_
      · obtain ⟨d1, d2, d3, d4⟩ := nd (.inr k1)
        refine wC (tu (kTicket_iff.2 (by omega))) fun (y : Bool) hy => ?_
        subst hy
        refine wp_ite (fun z => wN d1 (wN d2 (wC (w_ring_Closed _) fun (y : Bool) hy => wp_nsn d3 nd2 ?_))) fun z => ?_
        · rw [z, d4, hy]; rfl
        · rw [show mTurn (rng (aF f) e.Ring) (aA a) e = false by simpa using z]; rfl
      · simp only [tt_fc_16]
        refine wC (w_f2a hre.1.1) fun (y : Bool) hy => ?_
        subst hy
        refine wp_if bnI (fun z => ?_) fun z => ?_
        · rw [show kTicket e.Kind = false by simpa using z]; rfl
        · have z := Classical.byContradiction z
          rw [z]
          exact wC (tu z) fun y hy => hy
end
theorem sl_L {α : Type} {T T' : Sl α} (h2 : T.n = T'.n) (h3 : ∀ i, T.get i = T'.get i) : T.L = T'.L := Sl.L_ext h2 fun i _ => h3 i
section
variable {c : TRg} {b : Int} {r : TRr}
theorem w_slots_Put (h : RC c b r) {t v : Int} (h0 : 0 ≤ t) (h1 : t < 4611686018427387904) (hst : (slotAt (aR r) t).Stamp = 2 * t) :
    D_f2f.wp (t, (v, r.s.x)) fun y => y.2.l.L = r.s.x.l.L.set (plc (aR r) t) ⟨2 * t + 1, v, 2 ^ r.cursors.heads.n - 1⟩ ∧ y.2.readers = r.s.x.readers ∧ SlOk y.2.l ∧ y.2.l.n = r.s.x.l.n := by
  have hn := h.hn
  rw [slotAt_aR h] at hst
  refine of_wp ?_
  simp only [tt_f2f]
  refine wp_if leI (fun q => by omega) fun _ => wC (w_place h h0 _ _) fun (y : Nat × Nat) hy => ?_
  subst hy
  refine wN (by simp) (wC (w_f2b t h0 (by omega)) fun (y : Int) hy => ?_)
  subst hy
  refine wp_if (p := (r.s.x.l.get (plc (aR r) t)).Stamp < 2 * t) ilI (fun q => by omega) fun _ => wN (by simp) (wC (w_f2b t h0 (by omega)) fun (y : Int) hy => ?_)
  subst hy
  refine wp_if (p := 2 * t < (r.s.x.l.get (plc (aR r) t)).Stamp) ilI (fun q => by omega) fun _ => wC (w_f2n h0 h1) fun (y : Int) hy => ?_
  subst hy
  have hrd := h.wf.rd
  have hp8 := pow_lt8 (j := r.cursors.heads.n) hn.2.1
  have hpp := pow2_pos r.cursors.heads.n
  refine wN (by rw [leI, hrd]; omega) (wN (by simp) (wN (by simp) ⟨?_, rfl, h.wf.lz, rfl⟩))
  rw [← setS_L]
  refine sl_L rfl fun i => ?_
  have e : IntKind.i64.wrap (shl IntKind.i64 1 r.s.x.readers - 1) = 2 ^ r.cursors.heads.n - 1 := by
    rw [hrd, shl_readers (by omega) (by omega), show c.Readers.toNat = r.cursors.heads.n by omega, wrap64 (by omega) (by omega)]
  show (⟨_, _, cond _ (IntKind.i64.wrap (shl IntKind.i64 1 r.s.x.readers - 1)) _⟩ : TSo) = cond (Nat.beq i _) _ _
  rw [e]
  cases Nat.beq i (plc (aR r) t) <;> rfl
theorem w_slots_Get (h : RC c b r) {j t : Int} (hj0 : 0 ≤ j) (hj : j < r.cursors.heads.n) (h0 : 0 ≤ t) (h1 : t < 2305843009213693952) (hg : (slotAt (aR r) t).Stamp = 2 * t + 1 ∧ bitI (slotAt (aR r) t).Left j = true) :
    D_f2g.wp (j, (t, r.s.x)) fun y => y.1 = (slotAt (aR r) t).Value ∧ y.2.2.l.L = r.s.x.l.L.set (plc (aR r) t) (mGot (slotAt (aR r) t) j t (capR (aR r))) ∧ y.2.2.readers = r.s.x.readers ∧ SlOk y.2.2.l ∧ y.2.2.l.n = r.s.x.l.n := by
  have hn := h.hn
  have hl := h.ln
  have hs := h.slot t
  refine of_wp ?_
  simp only [tt_f2g]
  refine wC (w_slots_got h hj0 hj h0 (by omega)) fun (y : Int) hy => ?_
  refine wp_if (p := y ≠ 0) (by rw [bnI, ieI]) (fun q => absurd (hy.2 hg) q) fun _ => wC (w_place h h0 _ _) fun (y : Nat × Nat) hy => ?_
  subst hy
  rw [slotAt_aR h] at hg ⊢
  rw [capR_aR]
  obtain ⟨g1, g2⟩ := hg
  simp only [Nat.beq_refl, cond_true]
  generalize hx : r.s.x.l.get (plc (aR r) t) = x at hs g1 g2
  have hheld := hs.held (by omega)
  have h28 := pow_lt8 (j := r.cursors.heads.n) hn.2.1
  obtain ⟨jn, rfl⟩ : ∃ jn : Nat, j = jn := ⟨j.toNat, by omega⟩
  obtain ⟨hcl, hcl0⟩ := left_clear' (j := jn) (x := x.Left) (by omega) (by omega) (by omega) g2
  rw [hcl, wrapu64 (z := (r.s.x.l.n : Int)) (by omega) (by omega), wrapu64 (z := t + (r.s.x.l.n : Int)) (by omega) (by omega)]
  have n1 : (true && (Nat.beq r.s.x.l.n r.s.x.l.n)) = true := by simp
  refine wN (by simp) (wN (by simp) (wN (by rw [leI]; exact hj0) (wN (by simp) (wN (by simp) (wp_if ieI (fun e => ?_) fun e => ?_)))))
  · refine wC (w_f2b (t + (r.s.x.l.n : Int)) (by omega) (by omega)) fun (y : Int) hy => wN (by simp) (wN (by simp) ⟨rfl, ?_, rfl, h.wf.lz, rfl⟩)
    subst hy
    rw [← setS_L]
    refine sl_L rfl fun i => ?_
    unfold mGot
    rw [Int.toNat_natCast, if_pos e]
    show (⟨_, _, _⟩ : TSo) = cond (Nat.beq i _) _ _
    cases Nat.beq i (plc (aR r) t) <;> rfl
  · refine wN (by simp) ⟨rfl, ?_, rfl, h.wf.lz, rfl⟩
    rw [← setS_L]
    refine sl_L rfl fun i => ?_
    unfold mGot
    rw [Int.toNat_natCast, if_neg e]
    show (⟨_, _, _⟩ : TSo) = cond (Nat.beq i _) _ _
    cases Nat.beq i (plc (aR r) t) <;> rfl
theorem w_ring_Publish (h : RC c b r) {t v : Int} (h0 : 0 ≤ t) (hf : mFree (aR r) t = true) : D_f27.wp (t, (v, r)) fun y => RWf c y.2 ∧ aR y.2 = mPut (aR r) t v := by
  have ht := h.t
  simp only [mFree, decide_eq_true_eq] at hf
  have hlt : t < r.cursors.tail := hf.1
  refine of_wp ?_
  simp only [tt_f27]
  refine wp_if leI (fun q => by omega) fun _ => wN (by simp [h.wf.sn]) (wC (w_slots_Put h h0 (by omega) hf.2) fun (y : Int × TSs) hy => ⟨⟨rfl, hy.2.1.trans h.wf.rd, h.wf.ms, h.wf.hz, hy.2.2.1, h.wf.hn, ?_⟩, ?_⟩)
  · show (y.2.l.n : Int) = _; rw [hy.2.2.2]; exact h.wf.ln
  · show (⟨_, _, _, y.2.l.L⟩ : MR) = _
    rw [hy.1]
    unfold mPut
    simp [aR]
theorem w_ring_Release (h : RC c b r) (hb : b ≤ 2305843009213693952) {j t : Int} (hj0 : 0 ≤ j) (hj : j < r.cursors.heads.n) (h0 : 0 ≤ t) (hh : mHas (aR r) j t = true) :
    D_f28.wp (j, (t, r)) fun y => y.1 = (slotAt (aR r) t).Value ∧ RWf c y.2.2 ∧ aR y.2.2 = mRel (aR r) j t := by
  have htb := h.inv.tb
  change r.cursors.tail < b at htb
  have hd := h.hd (k := j.toNat) (by omega)
  simp only [mHas, decide_eq_true_eq, hd_aR hj0 hj] at hh
  refine of_wp ?_
  simp only [tt_f28]
  refine wC (w_ring_reader j r.cursors) fun (y : Bool) hy => ?_
  refine wp_if bnI (fun q => absurd (hy.2 ⟨hj0, hj⟩) q) fun _ => wN (by rw [ibI]; exact ⟨hj0, hj⟩) (wN (by simp) ?_)
  rw [Nat.zero_add]
  refine wp_if leI (fun q => by omega) fun _ => wN (by simp) (wN (by simp [h.wf.sn]) (wC (w_slots_Get h hj0 hj h0 (by omega) hh.2) fun (y : Int × Int × TSs) hy => ⟨hy.1, ⟨rfl, hy.2.2.1.trans h.wf.rd, h.wf.ms, h.wf.hz, hy.2.2.2.1, h.wf.hn, ?_⟩, ?_⟩))
  · show (y.2.2.l.n : Int) = _; rw [hy.2.2.2.2]; exact h.wf.ln
  · show (⟨_, _, _, y.2.2.l.L⟩ : MR) = _
    rw [hy.2.1]
    rfl
theorem w_ring_Take (h : RC c b r) {j : Int} (hj0 : 0 ≤ j) (hj : j < r.cursors.heads.n) (he : mEmpty (aR r) j = false) : D_f13.wp (j, r) fun y => RWf c y.2.2 ∧ aR y.2.2 = mTake (aR r) j := by
  have hn := h.hn
  have ht := h.t
  have hd := h.hd (k := j.toNat) (by omega)
  refine of_wp ?_
  simp only [tt_f13]
  refine wC (w_ring_reader j r.cursors) fun (y : Bool) hy => ?_
  refine wp_if bnI (fun q => absurd (hy.2 ⟨hj0, hj⟩) q) fun _ => wC (w_ring_Empty j hj0 hj) fun (y : Bool) hy => ?_
  subst hy
  rw [he]
  refine wp_ite (fun q => by cases q) fun _ => wC (w_ring_Empty j hj0 hj) fun (y : Bool) hy => ?_
  subst hy
  rw [he]
  refine wp_ite (fun q => by cases q) fun _ => of_wp ?_
  simp only [tt_f13_9, Nat.zero_add]
  have i1 : inb j r.cursors.heads.n = true := by rw [ibI]; exact ⟨hj0, hj⟩
  have n1 : ((Nat.beq r.cursors.heads.n r.cursors.heads.n) && true) = true := by simp
  have n2 : ((true && true) && (Nat.beq r.cursors.heads.n r.cursors.heads.n)) = true := by simp
  refine wN i1 (wN n1 (wN i1 (wN n1 (wN n2 (wN i1 (wN n1 (wN n2 ⟨⟨h.wf.sn, h.wf.rd, h.wf.ms, h.wf.hz, h.wf.lz, h.wf.hn, h.wf.ln⟩, ?_⟩)))))))
  unfold mTake
  rw [hd_aR hj0 hj]
  show (⟨_, Sl.L _, _, _⟩ : MR) = ⟨_, r.cursors.heads.L.set _ _, _, _⟩
  rw [← setS_L]
  congr 1
  refine sl_L rfl fun i => ?_
  show cond (Nat.beq i j.toNat) (IntKind.u64.wrap (r.cursors.heads.get j.toNat + 1)) _ = cond _ _ _
  rw [wrapu64 (by omega) (by omega)]
theorem w_ring_Close (r : TRr) : D_f2h.wp r fun y => y = (0, { r with closed := true }) := of_wp rfl
theorem w_ring_Claim (h : RC c b r) : D_f2e.wp r fun y => (r.closed = true ∧ y = (0, (10, r))) ∨ (r.closed = false ∧ mFull (aR r) = true ∧ y = (0, (8, r))) ∨
    (r.closed = false ∧ mFull (aR r) = false ∧ y.2.1 = 0 ∧ y.2.2 = { r with cursors := ⟨r.cursors.tail + 1, r.cursors.heads⟩ }) := by
  have ht := h.t
  refine of_wp ?_
  simp only [tt_f2e]
  refine wp_ite (fun q => .inl ⟨q, rfl⟩) fun q => wC (w_ring_Full h) fun (y : Bool) hy => ?_
  have q : r.closed = false := by simpa using q
  subst hy
  refine wp_ite (fun q2 => .inr (.inl ⟨q, q2, rfl⟩)) fun q2 => .inr (.inr ⟨q, by simpa using q2, rfl, ?_⟩)
  rw [wrapu64 (z := r.cursors.tail + 1) (by omega) (by omega)]
theorem okRS_of {s : TRs} (hc : rightRg c = true) (h : RInv c b (aRS s)) (hb : b ≤ 4611686018427387904) (hz : SlOk s.Heads) (sz : SlOk s.Slots) : okRS s := by
  have hf := rg_facts hc
  have c1 := h.cap
  have c2 := h.rd
  simp only [aRS, Sl.L_length] at c1 c2
  have t0 := h.t0
  have tb := h.tb
  change 0 ≤ s.Tail at t0
  change s.Tail < b at tb
  have m64 : (64 : Nat) ≤ maxLen := by decide
  refine ⟨t0, by omega, by omega, fun j hj => ?_, hz, ⟨by omega, fun i hi => ?_, sz⟩⟩
  · have := h.h0 _ (Sl.mem_L.2 ⟨j, hj, rfl⟩)
    change 0 ≤ s.Heads.get j ∧ s.Heads.get j ≤ s.Tail ∧ _ at this
    omega
  · have hs := h.sl i (s.Slots.get i) (Sl.L_get _ hi)
    have h8 := pow_lt8 (j := (aRS s).Heads.length) (by simp [aRS]; omega)
    have h0 := hs.s0
    have h1 := hs.s1
    have hl : 0 ≤ (s.Slots.get i).Left ∧ (s.Slots.get i).Left < 256 := by
      rcases (by omega : (s.Slots.get i).Stamp % 2 = 0 ∨ (s.Slots.get i).Stamp % 2 = 1) with e | e
      · have := hs.free e; omega
      · have := hs.held e; omega
    exact ⟨h0, by omega, by omega, by omega⟩
theorem ringL_of {s : TRs} (hc : rightRg c = true) (h : RInv c b (aRS s)) (hb : b ≤ 4611686018427387904) : ringL c s := by
  have hf := rg_facts hc
  have c1 := h.cap
  have c2 := h.rd
  simp only [aRS, Sl.L_length] at c1 c2
  have tb := h.tb
  change s.Tail < b at tb
  have hnr : (aRS s).Heads.length = c.Readers.toNat := by simp [aRS]; omega
  refine ⟨⟨c1, fun i hi => ?_⟩, c2, by omega, fun j hj => ?_, fun i hi => ?_⟩
  · have hs := h.sl i (s.Slots.get i) (Sl.L_get _ hi)
    exact ⟨hs.s1, hs.at0, hs.free, fun e => by have := hs.held e; rw [hnr] at this; exact this⟩
  · have := h.h0 _ (Sl.mem_L.2 ⟨j, hj, rfl⟩)
    exact this.2
  · have hs := h.sl i (s.Slots.get i) (Sl.L_get _ hi)
    refine ⟨hs.hTail, fun j hj => ⟨fun e1 e2 => hs.hBit e1 j _ (Sl.L_get _ hj) e2, fun e1 e2 => hs.fHead e1 e2 _ (Sl.mem_L.2 ⟨j, hj, rfl⟩)⟩⟩
end
structure RU (p : TPg) (rs rs' : Sl (Bx TRr)) (i : Nat) (m : MR) : Prop where
  n : rs'.n = rs.n
  ot : ∀ j, j ≠ i → rs'.get j = rs.get j
  nl : (rs'.get i).nil = false
  wf : RWf (p.Rings.get i) (rs'.get i).x
  eq : aR (rs'.get i).x = m
theorem ru_of {p : TPg} {rs rs' : Sl (Bx TRr)} {i : Nat} {m : MR} (z : Bx TRr) (h1 : rs'.n = rs.n) (h2 : ∀ j, rs'.get j = cond (Nat.beq j i) z (rs.get j)) (h3 : z.nil = false) (h4 : RWf (p.Rings.get i) z.x) (h5 : aR z.x = m) : RU p rs rs' i m := by
  have hi : rs'.get i = z := by rw [h2, Nat.beq_refl]; rfl
  exact ⟨h1, fun j hj => by rw [h2, beq_ne hj]; rfl, by rw [hi]; exact h3, by rw [hi]; exact h4, by rw [hi]; exact h5⟩
theorem RU.L {p : TPg} {rs rs' : Sl (Bx TRr)} {i : Nat} {m : MR} (h : RU p rs rs' i m) : rs'.L.map (fun r => aR r.x) = (rs.L.map fun r => aR r.x).set i m := by
  apply List.ext_getElem
  · simp [h.n]
  · intro j h1 h2
    have hj : j < rs.n := by simpa [h.n] using h1
    simp only [List.getElem_map, Sl.L_getE]
    by_cases e : j = i
    · subst e; rw [List.getElem_set_self, h.eq]
    · rw [List.getElem_set_ne (fun q => e q.symm)]
      simp only [List.getElem_map, Sl.L_getE, h.ot j e]
section
variable {p : TPg} {B : Int} {k : Nat} {f : TFa} {e : TEv}
theorem w_fabric_claim (h : FC p B k f) {i : Int} (h0 : 0 ≤ i) (h1 : i < p.Rings.n) (hF : mFull (rng (aF f) i) = false) :
    D_f21.wp (i, f) fun y => ∃ rs, y = ⟨f.p, f.threads, rs, f.now, f.reads, f.ended⟩ ∧ RU p f.rings rs i.toNat { rng (aF f) i with Tail := (rng (aF f) i).Tail + 1 } := by
  obtain ⟨hC, hnil, hrn⟩ := h.ring h0 h1
  have hfr := h.wf.rn
  have hi : i.toNat < p.Rings.n := by omega
  rw [hrn] at hF ⊢
  have nd : ((true && true) && ((Nat.beq f.rings.n f.rings.n) && (Nat.blt i.toNat f.rings.n))) = true := by simp; omega
  have nd2 : ((true && true) && (Nat.beq f.rings.n f.rings.n)) = true := by simp
  have ib : inb i f.rings.n = true := by rw [ibI]; omega
  refine of_wp ?_
  simp only [tt_f21, Nat.zero_add]
  refine wN ib (wN (by simp [hnil]) (wC (w_ring_Claim hC) fun (y : Int × Int × TRr) hy => wN nd (wp_side' (wN nd2 ?_))))
  rcases hy with ⟨hcl, rfl⟩ | ⟨_, hfl, _⟩ | ⟨hcl, _, hy0, hyr⟩
  · refine wp_if (p := (10 : Int) ≠ 10) (by rw [bnI, ieI]) (fun q => absurd rfl q) fun _ => ?_
    simp only [Nat.beq_refl, cond_true]
    have hc := hC.rg
    refine wN ib (wN (by simp) (wC (w_ring_State (p.Rings.get i.toNat) _ hc hC.wf) fun (s : TRs) hs => wN (by simp; omega) (wp_side' (wN (by simp) ?_))))
    obtain ⟨e1, e2, e3⟩ := hs
    have hcp := h.wf.cp
    have hI := hC.inv.claim hF
    have ht := hC.t
    have hT : s.Tail = (f.rings.get i.toNat).x.cursors.tail := congrArg MR.Tail e1
    have hb := h.hB
    rw [wrapu64 (z := s.Tail + 1) (by rw [hT]; omega) (by rw [hT]; omega), hcp.r.g _ hi]
    have es : aRS ⟨s.Tail + 1, s.Heads, s.Closed, s.Slots⟩ = { aR (f.rings.get i.toNat).x with Tail := (aR (f.rings.get i.toNat).x).Tail + 1 } := by
      rw [← e1]; rfl
    rw [← es] at hI
    refine wN (by rw [ibI, hcp.r.n]; omega) (wC (w_fb (p.Rings.get i.toNat) ⟨s.Tail + 1, s.Heads, s.Closed, s.Slots⟩ hc (okRS_of hc hI (by omega) e2 e3)) fun (z : Bx TRr × Int) hz => ?_)
    rcases hz with ⟨_, z2, zn, zw, za⟩ | ⟨hno, _⟩
    rotate_left
    · exact absurd (ringL_of hc hI (by omega)) hno
    refine wp_if ieI (fun _ => wN ib (wN (by simp) (wN (by simp) ⟨_, rfl, ru_of z.1 rfl (fun j => ?_) zn zw (za.trans es)⟩))) fun q => absurd z2 q
    show (⟨_, _⟩ : Bx TRr) = cond (Nat.beq j _) _ _
    cases Nat.beq j i.toNat <;> rfl
  · rw [hF] at hfl; cases hfl
  · refine wp_if (p := y.2.1 ≠ 10) (by rw [bnI, ieI]) (fun _ => ⟨_, rfl, ru_of ⟨false, y.2.2⟩ rfl (fun j => ?_) rfl ?_ ?_⟩) fun q => absurd (by rw [hy0]; decide) q
    · show (⟨_, _⟩ : Bx TRr) = cond (Nat.beq j _) _ _
      cases Nat.beq j i.toNat <;> rfl
    · show RWf _ y.2.2
      rw [hyr]
      exact ⟨hC.wf.sn, hC.wf.rd, hC.wf.ms, hC.wf.hz, hC.wf.lz, hC.wf.hn, hC.wf.ln⟩
    · show aR y.2.2 = _
      rw [hyr]; rfl
theorem l_done_20 (h : FC p B k f) (he : okE e) (F : Fitting (aP p) (aF f) e) (v : Int) (hv : U64 v) (hve : v = if e.Kind = 4 then (slotAt (rng (aF f) e.Ring) e.Ticket).Value else 0) (rs : Sl (Bx TRr)) (now rd : Int) (en : Bool) :
    D_fd_20.wp (⟨e, v, ⟨f.p, f.threads, rs, now, rd, en⟩⟩ : X_fd_20) fun y => ∃ ts, y = ⟨f.p, ts, rs, now, rd, en⟩ ∧ ts.n = f.threads.n ∧ ts.L.map aT = (mBehind (aP p) (aF f) e).Threads ∧ ∀ t, t < ts.n → TWf (k + 1) (ts.get t) := by
  obtain ⟨h0, h1⟩ := fit_thread h.inv F
  obtain ⟨c1, c2, c3, c4⟩ := h.code h0 h1
  have htn := h.wf.tn
  have hk := h.hk
  have hT := h.tinv h0 h1
  rw [← c3] at hT
  have hcr := codeIn_of h.inv h0 h1
  rw [← code_aP h0 h1, ← c3] at hcr
  refine of_wp ?_
  simp only [tt_fd_20, Nat.zero_add]
  have ib : inb e.Thread f.threads.n = true := by rw [ibI]; omega
  refine wN (by rw [ibI]; omega) (wN ib (wN (by simp) (wC (w_f1z _ _ _ e v k (by omega) c1 c2 hcr hT (h.wf.tw _ (by omega)) hv he.vl he.tk.1) fun (y : TTh × Int) hy => wN ib (wN (by simp) (wN (by simp) ?_)))))
  have hd : mDoT (f.p.Threads.get e.Thread.toNat).L (aT (f.threads.get e.Thread.toNat)) e = 0 := by
    unfold mDoT
    have hft := F.ft
    have ha0 := F.a0
    unfold mAsk at hft ha0
    rw [thr_aF h0 (by omega), ← c3] at hft ha0
    rw [if_neg (by rw [F.re]; simp), if_neg (by rw [hft]; simp [ha0])]
  obtain ⟨hy1, hy2⟩ := hy.2 hd
  have hts : ∀ {T : Sl TTh}, T.n = f.threads.n → (∀ j, T.get j = cond (Nat.beq j e.Thread.toNat) y.1 (f.threads.get j)) → T.L.map aT = (mBehind (aP p) (aF f) e).Threads ∧ ∀ t, t < T.n → TWf (k + 1) (T.get t) := fun {T} e1 e2 => by
    refine ⟨?_, fun t ht => ?_⟩
    · have : T.L = f.threads.L.set e.Thread.toNat y.1 := by rw [← setS_L]; exact sl_L e1 e2
      rw [this, map_set, hy1]
      unfold mBehind
      simp only
      rw [thr_aF h0 (by omega), ← c3, hve]
      rfl
    · rw [e2]
      by_cases q : t = e.Thread.toNat
      · subst q; rw [Nat.beq_refl]; exact hy2
      · rw [beq_ne q]; exact (h.wf.tw t (by omega)).grow (by omega)
  refine ⟨_, rfl, rfl, hts rfl fun j => ?_⟩
  show (⟨_, _, _, _, _, _, _⟩ : TTh) = cond (Nat.beq j _) _ _
  cases Nat.beq j e.Thread.toNat <;> rfl
theorem FC.ask64 (h : FC p B k f) {t : Int} (h0 : 0 ≤ t) (h1 : t < p.Threads.n) : U64 (mAsk (aP p) (aF f) t).Value := by
  have htn := h.wf.tn
  have := h.tinv h0 h1
  unfold mAsk
  rw [thr_aF h0 (by omega)]
  rw [code_aP h0 h1] at this ⊢
  exact (next_U64 (codeIn_of h.inv h0 h1) (h.hp.k (by omega)) this (h.wf.tw _ (by omega)).rg).2
theorem w_fabric_done (h : FC p B k f) (he : okE e) (F : Fitting (aP p) (aF f) e) (ht : kTicket e.Kind = true → mTurn (rng (aF f) e.Ring) (mAsk (aP p) (aF f) e.Thread) e = true) (hB : B + 1 ≤ 2305843009213693952) (hk : k + 1 ≤ 1000000000) :
    D_fd.wp (e, f) fun y => aF y = mBehind (aP p) (aF f) e ∧ FC p (B + 1) (k + 1) y := by
  obtain ⟨t0, t1⟩ := fit_thread h.inv F
  have hfr := h.wf.rn
  have htn := h.wf.tn
  have hre := rightE_facts F.re
  have hI := inv_behind h.inv h.hB he.tk.1 F ht
  have hU := UV_behind h.uv (h.ask64 t0 t1)
  refine of_wp ?_
  simp only [tt_fd, Nat.zero_add]
  refine wC (w_fabric_ask h t0 t1) fun (a : TAk) ha => ?_
  -- the end of all ways
  have fin : ∀ (v : Int) (rs : Sl (Bx TRr)) (now rd : Int) (en : Bool), U64 v → v = (if e.Kind = 4 then (slotAt (rng (aF f) e.Ring) e.Ticket).Value else 0) → rs.n = p.Rings.n → (∀ i, i < rs.n → (rs.get i).nil = false ∧ RWf (p.Rings.get i) (rs.get i).x) →
      rs.L.map (fun r => aR r.x) = (mBehind (aP p) (aF f) e).Rings → now = (mBehind (aP p) (aF f) e).Now → rd = (mBehind (aP p) (aF f) e).Reads → en = (mBehind (aP p) (aF f) e).Ended →
      D_fd_20.wp (⟨e, v, ⟨f.p, f.threads, rs, now, rd, en⟩⟩ : X_fd_20) fun y => aF y = mBehind (aP p) (aF f) e ∧ FC p (B + 1) (k + 1) y := fun v rs now rd en hv hve r1 r2 r3 e1 e2 e3 => by
    refine (l_done_20 h he F v hv hve rs now rd en).mono fun y hy => ?_
    obtain ⟨ts, rfl, n1, n2, n3⟩ := hy
    have ea : aF ⟨f.p, ts, rs, now, rd, en⟩ = mBehind (aP p) (aF f) e := by
      show (⟨_, _, _, _, _⟩ : MS) = _
      rw [n2, r3, e1, e2, e3]
    exact ⟨ea, h.hp, by rw [ea]; exact hI, ⟨h.wf.cp, by show ts.n = _; omega, n3, r1, r2⟩, by rw [ea]; exact hU, hB, hk⟩
  have vz : e.Kind ≠ 4 → (0 : Int) = (if e.Kind = 4 then (slotAt (rng (aF f) e.Ring) e.Ticket).Value else 0) := fun q => by rw [if_neg q]
  have nw : e.Kind ≠ 8 → f.now = (mBehind (aP p) (aF f) e).Now := fun q => by unfold mBehind; simp only; rw [if_neg q]; rfl
  have rd : e.Kind ≠ 10 → f.reads = (mBehind (aP p) (aF f) e).Reads := fun q => by unfold mBehind; simp only; rw [if_neg q]; rfl
  have en : e.Kind ≠ 11 → f.ended = (mBehind (aP p) (aF f) e).Ended := fun q => by unfold mBehind; simp only; rw [if_neg q]; rfl
  have rgs : kTicket e.Kind = false → f.rings.L.map (fun r => aR r.x) = (mBehind (aP p) (aF f) e).Rings := fun q => by unfold mBehind; simp only [q, Bool.false_eq_true, if_false]; rfl
  -- with a ring
  have ring : kTicket e.Kind = true → ∀ (v : Int) (rs : Sl (Bx TRr)), U64 v → v = (if e.Kind = 4 then (slotAt (rng (aF f) e.Ring) e.Ticket).Value else 0) → RU p f.rings rs e.Ring.toNat (mRingB (rng (aF f) e.Ring) (mAsk (aP p) (aF f) e.Thread) e) →
      D_fd_20.wp (⟨e, v, ⟨f.p, f.threads, rs, f.now, f.reads, f.ended⟩⟩ : X_fd_20) fun y => aF y = mBehind (aP p) (aF f) e ∧ FC p (B + 1) (k + 1) y := fun q v rs hv hve hu => by
    have h1 := kTicket_iff.1 q
    refine fin v rs _ _ _ hv hve (by rw [hu.n]; exact hfr) (fun i hi => ?_) ?_ (nw (by omega)) (rd (by omega)) (en (by omega))
    · by_cases z : i = e.Ring.toNat
      · subst z; exact ⟨hu.nl, hu.wf⟩
      · rw [hu.ot i z]; exact h.wf.rw i (by rw [← hu.n]; exact hi)
    · rw [hu.L]
      unfold mBehind
      simp only [q, if_true]
      rfl
  have tk := fun z => kTicket_iff (k := e.Kind).2 z
  have info := fun (q : kTicket e.Kind = true) => by
    obtain ⟨r1, _, r2⟩ := turn_ok h.inv F (ticket_ring q)
    obtain ⟨hC, hnil, hrn⟩ := h.ring r1.1 r1.2
    exact (⟨r1, by rw [ha]; exact r2, hC, hnil, hrn, by rw [ibI]; omega, by simp [hnil], by simp; omega⟩ : (0 ≤ e.Ring ∧ e.Ring < p.Rings.n) ∧ (e.Kind = 3 ∨ e.Kind = 4 → 0 ≤ (aA a).Reader ∧ (aA a).Reader < (p.Rings.get e.Ring.toNat).Readers) ∧ RC (p.Rings.get e.Ring.toNat) B (f.rings.get e.Ring.toNat).x ∧ (f.rings.get e.Ring.toNat).nil = false ∧ rng (aF f) e.Ring = aR (f.rings.get e.Ring.toNat).x ∧ inb e.Ring f.rings.n = true ∧
      (((Nat.beq f.rings.n f.rings.n) && true) && (!(f.rings.get e.Ring.toNat).nil)) = true ∧ ((true && true) && ((Nat.beq f.rings.n f.rings.n) && (Nat.blt e.Ring.toNat f.rings.n))) = true)
  have nd2 : ((true && true) && (Nat.beq f.rings.n f.rings.n)) = true := by simp
  rw [← ha] at ht
  refine wp_if ieI (fun k1 => ?_) fun n1 => wp_if ieI (fun k2 => ?_) fun n2 => wp_if ieI (fun k3 => ?_) fun n3 => wp_if ieI (fun k4 => ?_) fun n4 => wp_if ieI (fun k13 => ?_) fun n13 => ?_
  · have q := tk (by omega)
    obtain ⟨r1, _⟩ := info q
    have hT := ht q
    unfold mTurn at hT
    rw [if_pos k1] at hT
    simp only [Bool.and_eq_true, Bool.not_eq_true', decide_eq_true_eq] at hT
    refine wC (w_fabric_claim h r1.1 r1.2 hT.1) fun (y : TFa) hy => ?_
    obtain ⟨rs, rfl, hu⟩ := hy
    refine ring q 0 rs U64_0 (vz (by omega)) ?_
    unfold mRingB
    rw [if_pos k1]; exact hu
  · have q := tk (by omega)
    obtain ⟨r1, r2, hC, hnil, hrn, d1, d2, d3⟩ := info q
    have hT := ht q
    unfold mTurn at hT
    rw [if_neg n1, if_pos k2, hrn] at hT
    refine wN d1 (wN d2 (wC (w_ring_Publish hC he.tk.1 hT) fun (y : Int × TRr) hy => wN d3 (wp_side' (wN nd2 (ring q 0 _ U64_0 (vz (by omega)) (ru_of ⟨false, y.2⟩ rfl (fun j => ?_) rfl hy.1 ?_))))))
    · show (⟨_, _⟩ : Bx TRr) = cond (Nat.beq j _) _ _
      cases Nat.beq j e.Ring.toNat <;> rfl
    · unfold mRingB
      rw [if_neg n1, if_pos k2, hrn, ← ha]; exact hy.2
  · have q := tk (by omega)
    obtain ⟨r1, r2, hC, hnil, hrn, d1, d2, d3⟩ := info q
    have hT := ht q
    unfold mTurn at hT
    rw [if_neg n1, if_neg n2, if_pos k3, hrn] at hT
    simp only [Bool.and_eq_true, Bool.not_eq_true', decide_eq_true_eq] at hT
    obtain ⟨j0, j1⟩ := r2 (.inl k3)
    have hn := hC.hn
    refine wN d1 (wN d2 (wC (w_ring_Take hC (j := a.Reader) j0 (by show (aA a).Reader < _; omega) hT.1) fun (y : Int × Int × TRr) hy => wN d3 (wp_side' (wN nd2 (ring q 0 _ U64_0 (vz (by omega)) (ru_of ⟨false, y.2.2⟩ rfl (fun j => ?_) rfl hy.1 ?_))))))
    · show (⟨_, _⟩ : Bx TRr) = cond (Nat.beq j _) _ _
      cases Nat.beq j e.Ring.toNat <;> rfl
    · unfold mRingB
      rw [if_neg n1, if_neg n2, if_pos k3, hrn, ← ha]; exact hy.2
  · have q := tk (by omega)
    obtain ⟨r1, r2, hC, hnil, hrn, d1, d2, d3⟩ := info q
    have hT := ht q
    unfold mTurn at hT
    rw [if_neg n1, if_neg n2, if_neg n3, if_pos k4, hrn] at hT
    obtain ⟨j0, j1⟩ := r2 (.inr k4)
    have hn := hC.hn
    refine wN d1 (wN d2 (wC (w_ring_Release hC h.hB (j := a.Reader) j0 (by show (aA a).Reader < _; omega) he.tk.1 hT) fun (y : Int × Int × TRr) hy => wN d3 (wp_side' (wN nd2 (ring q _ _ ?_ ?_ (ru_of ⟨false, y.2.2⟩ rfl (fun j => ?_) rfl hy.2.1 ?_))))))
    · rw [hy.1, ← hrn]; exact slotAt_U64 (rng_U64 h.uv _) _
    · rw [hy.1, ← hrn, if_pos k4]
    · show (⟨_, _⟩ : Bx TRr) = cond (Nat.beq j _) _ _
      cases Nat.beq j e.Ring.toNat <;> rfl
    · unfold mRingB
      rw [if_neg n1, if_neg n2, if_neg n3, if_pos k4, hrn, ← ha]; exact hy.2.2
  · have q := tk (by omega)
    obtain ⟨r1, r2, hC, hnil, hrn, d1, d2, d3⟩ := info q
    refine wN d1 (wN d2 (wC (w_ring_Close _) fun (y : Int × TRr) hy => wN d3 (wp_side' (wN nd2 (ring q 0 _ U64_0 (vz (by omega)) (ru_of ⟨false, y.2⟩ rfl (fun j => ?_) rfl ?_ ?_))))))
    · show (⟨_, _⟩ : Bx TRr) = cond (Nat.beq j _) _ _
      cases Nat.beq j e.Ring.toNat <;> rfl
    · subst hy; exact ⟨hC.wf.sn, hC.wf.rd, hC.wf.ms, hC.wf.hz, hC.wf.lz, hC.wf.hn, hC.wf.ln⟩
    · subst hy
      unfold mRingB
      rw [if_neg n1, if_neg n2, if_neg n3, if_neg n4, if_pos k13, hrn]; rfl
  · have q : kTicket e.Kind = false := Bool.eq_false_iff.2 fun z => by rw [kTicket_iff] at z; omega
    refine wp_if ieI (fun k8 => ?_) fun n8 => wp_if ieI (fun k10 => ?_) fun n10 => wp_if ieI (fun k11 => ?_) fun n11 => ?_
    · refine fin 0 f.rings _ _ _ U64_0 (vz n4) hfr h.wf.rw (rgs q) ?_ (rd (by omega)) (en (by omega))
      unfold mBehind; simp only; rw [if_pos k8, imax_eq]; rfl
    · refine fin 0 f.rings _ _ _ U64_0 (vz n4) hfr h.wf.rw (rgs q) (nw n8) ?_ (en (by omega))
      unfold mBehind; simp only; rw [if_pos k10]; rfl
    · refine fin 0 f.rings _ _ _ U64_0 (vz n4) hfr h.wf.rw (rgs q) (nw n8) (rd n10) ?_
      unfold mBehind; simp only; rw [if_pos k11]
    · exact fin 0 f.rings _ _ _ U64_0 (vz n4) hfr h.wf.rw (rgs q) (nw n8) (rd n10) (en n11)
theorem FC.grow (h : FC p B k f) (hB : B + 1 ≤ 2305843009213693952) (hk : k + 1 ≤ 1000000000) : FC p (B + 1) (k + 1) f :=
  ⟨h.hp, h.inv.mono (by omega), ⟨h.wf.cp, h.wf.tn, fun t ht => (h.wf.tw t ht).grow (by omega), h.wf.rn, h.wf.rw⟩, h.uv, hB, hk⟩
theorem w_fabric_Do (h : FC p B k f) (he : okE e) (hB : B + 1 ≤ 2305843009213693952) (hk : k + 1 ≤ 1000000000) : D_f1f.wp (e, f) fun y => y.1 = (mDo (aP p) (aF f) e).1 ∧ aF y.2 = (mDo (aP p) (aF f) e).2 ∧ FC p (B + 1) (k + 1) y.2 := by
  refine of_wp ?_
  simp only [tt_f1f]
  refine wC (w_fabric_wrong h he) fun (y : Int) hy => ?_
  subst hy
  unfold mDo
  refine wp_if (p := mFits (aP p) (aF f) e ≠ 0) (by rw [bnI, ieI]) (fun q => ?_) fun q => wC (w_fabric_Allowed h he) fun (y : Bool) hy => ?_
  · rw [if_pos q]; exact ⟨rfl, rfl, h.grow hB hk⟩
  · subst hy
    rw [if_neg q]
    refine wp_if bnI (fun q2 => ?_) fun q2 => ?_
    · rw [if_pos (by simpa using q2)]; exact ⟨rfl, rfl, h.grow hB hk⟩
    · have hA := Classical.byContradiction q2
      rw [if_neg (by rw [hA]; simp)]
      obtain ⟨F, _, hm⟩ := allowed_fit hA
      exact wC (w_fabric_done h he F (fun z => may_turn (p := aP p) hm F.re z) hB hk) fun (y : TFa) hy => ⟨rfl, hy⟩
end
section
variable {p : TPg} {B : Int} {k : Nat} {f : TFa}
theorem w_fabric_Ring (h : FC p B k f) (i : Int) : D_fe.wp (i, f) fun y => (0 ≤ i ∧ i < p.Rings.n → y.nil = false ∧ RWf (p.Rings.get i.toNat) y.x ∧ aR y.x = rng (aF f) i) ∧ (¬ (0 ≤ i ∧ i < p.Rings.n) → y.nil = true) := by
  have hfr := h.wf.rn
  refine ro_wp ?_
  simp only [tt_fe]
  refine wp_if ilI (fun q => ⟨fun z => by omega, fun _ => rfl⟩) fun q1 => wp_if leI (fun q => wN (by simp) ⟨fun z => by omega, fun _ => rfl⟩) fun q2 => wN (by simp) (of_wp ?_)
  have h0 : 0 ≤ i := by omega
  have h1 : i < p.Rings.n := by omega
  obtain ⟨hC, hnil, hrn⟩ := h.ring h0 h1
  have hi : i.toNat < p.Rings.n := by omega
  have hcp := h.wf.cp
  have hb := h.hB
  simp only [tt_fe_3, Nat.zero_add]
  refine wN (by rw [ibI, hcp.r.n]; omega) (wN (by rw [ibI]; omega) (wN (by simp [hnil]) (wC (w_ring_State (p.Rings.get i.toNat) _ hC.rg hC.wf) fun (s : TRs) hs => ?_)))
  obtain ⟨e1, e2, e3⟩ := hs
  rw [hcp.r.g _ hi]
  have hI := hC.inv
  rw [← e1] at hI
  refine wC (w_fb (p.Rings.get i.toNat) s hC.rg (okRS_of hC.rg hI (by omega) e2 e3)) fun (z : Bx TRr × Int) hz => wN (by simp [hnil]; omega) (wp_side' (wN (by simp) ?_))
  rcases hz with ⟨_, _, zn, zw, za⟩ | ⟨hno, _⟩
  · exact ⟨fun _ => ⟨zn, zw, by rw [za, e1, hrn]⟩, fun z => absurd ⟨h0, h1⟩ z⟩
  · exact absurd (ringL_of hC.rg hI (by omega)) hno
theorem lenM_FC (h : FC p B k f) : lenM (aF f) where
  tn := by have := h.small; have := h.wf.tn; have : (8 : Nat) ≤ maxLen := by decide
           simp [aF]; omega
  rn := by have := h.small; have := h.wf.rn; have : (8 : Nat) ≤ maxLen := by decide
           simp [aF]; omega
  ts t ht := by
    have hk := h.hk
    have : (1000000000 : Nat) ≤ maxLen := by decide
    simp only [aF, List.mem_map] at ht
    obtain ⟨x, hx, rfl⟩ := ht
    obtain ⟨i, hi, rfl⟩ := Sl.mem_L.1 hx
    have := (h.wf.tw i hi).sb
    simp only [aT, Sl.L_length]; omega
  rs r hr := by
    have : (64 : Nat) ≤ maxLen := by decide
    have hrn := h.wf.rn
    simp only [aF, List.mem_map] at hr
    obtain ⟨x, hx, rfl⟩ := hr
    obtain ⟨i, hi, rfl⟩ := Sl.mem_L.1 hx
    obtain ⟨hC, _⟩ := h.ring (i := (i : Int)) (Int.natCast_nonneg i) (by omega)
    rw [Int.toNat_natCast] at hC
    have := hC.hn
    have := hC.ln
    simp only [aR, Sl.L_length]; omega
end
theorem law_Few (p : TPg) (hp : okP p) : D_f1h.wp (p, 100) fun y => y = true → p.Rings.n ≤ 10 ∧ p.Threads.n ≤ 10 ∧ ∀ t, t < p.Threads.n → (p.Threads.get t).n ≤ 100 := by
  refine of_wp ?_
  simp only [tt_f1h]
  refine wp_if ilI (fun _ => fun h => by cases h) fun h1 => wp_if ilI (fun _ => fun h => by cases h) fun h2 => of_wp ?_
  simp only [tt_f1h_3]
  refine loop_wp (tt := tt_f1h_5) (fun x : X_f1h_5 => x.most_1 = 100 ∧ x.p_2 = p ∧ ∃ k : Nat, x.i_6 = k ∧ k ≤ p.Threads.n ∧ ∀ t, t < k → (p.Threads.get t).n ≤ 100) (fun x => (p.Threads.n - x.i_6).toNat) (fun _ y => y = true → p.Rings.n ≤ 10 ∧ p.Threads.n ≤ 10 ∧ ∀ t, t < p.Threads.n → (p.Threads.get t).n ≤ 100) (fun D x hI hD => ?_) ⟨rfl, rfl, 0, rfl, Nat.zero_le _, fun t ht => by omega⟩
  obtain ⟨m, p', n, i⟩ := x
  obtain ⟨e0, e1, k, e2, hk, hg⟩ := hI
  simp only at e0 e1 e2 hg hD
  subst e0 e1 e2
  simp only [tt_f1h_5]
  refine wp_if ilI (fun h => ?_) fun h => fun _ => ⟨by omega, by omega, fun t ht => hg t (by omega)⟩
  have hkm : k < p'.Threads.n := by omega
  refine wN (inb_nat hkm) ?_
  rw [Int.toNat_natCast]
  refine wp_if ilI (fun _ => fun h => by cases h) fun h3 => wN (inb_nat hkm) ?_
  rw [next64 hkm hp.tn]
  refine hD _ ⟨rfl, rfl, k + 1, rfl, hkm, fun t ht => ?_⟩ (by simp only; omega)
  by_cases e : t = k
  · subst e; omega
  · exact hg t (by omega)
theorem law_f34 (p : TPg) (hp : okP p) : D_f34.wp p fun y => y = true ↔ PInv (aP p) := by
  refine of_wp ?_
  simp only [tt_f34]
  exact wC (w_f33 p hp) fun (y : Bool) hy => hy
theorem law_few (p : TPg) (hp : okP p) : D_f3c.wp p fun y => y = true → PInv (aP p) := by
  refine of_wp ?_
  simp only [tt_f3c]
  refine wC (law_Few p hp) fun (y : Bool) _ => wp_ite (fun _ => wC (law_f34 p hp) fun (z : Bool) hz => hz.1) fun _ => fun h => by cases h
theorem w17_awake_ev : D_f2y.ev 1000 PUnit.unit = some true := by kernel_rfl
theorem law_awake : D_f2y.wp PUnit.unit fun y => y = true := ⟨true, D_f2y.evOK 1000 _ _ w17_awake_ev, rfl⟩
structure okL (l : Sl TEv) : Prop where
  n : l.n ≤ maxLen
  e : ∀ i, i < l.n → okE (l.get i)
theorem FC_new {p q : TPg} (hp : okP p) (hc : CopyP q p) (hP : PInv (aP p)) {f : TFa} (hF : FWf q 0 f) (ha : aF f = mNew (aP q)) : FC p 1 0 f ∧ aF f = mNew (aP p) := by
  have hqp := hc.same
  rw [hqp] at ha
  have h1 := hF.cp
  have cp : CopyP f.p p := ⟨⟨h1.r.n.trans hc.r.n, fun i hi => (h1.r.g i (by rw [hc.r.n]; exact hi)).trans (hc.r.g i hi)⟩, h1.rz, h1.n.trans hc.n, fun t ht => by
    have a := h1.t t (by rw [hc.n]; exact ht)
    have b := (hc.t t ht).1
    exact ⟨⟨a.1.n.trans b.n, fun i hi => (a.1.g i (by rw [b.n]; exact hi)).trans (b.g i hi)⟩, a.2⟩⟩
  refine ⟨⟨hp, by rw [ha]; exact inv_new hP, ⟨cp, hF.tn.trans hc.n, hF.tw, hF.rn.trans hc.r.n, fun i hi => ?_⟩, by rw [ha]; exact UV_new, by decide, by decide⟩, ha⟩
  have := hF.rw i hi
  have hi' : i < p.Rings.n := by have := hF.rn; have := hc.r.n; omega
  rw [hc.r.g i hi'] at this
  exact this
theorem copy_refl {p : TPg} (hp : okP p) : CopyP p p := ⟨SameS.refl _, hp.rz, rfl, fun t ht => ⟨SameS.refl _, hp.lz t ht⟩⟩
section
variable {p : TPg} {B : Int} {k : Nat} {f : TFa} {s : TSt}
theorem law_State (h : FC p B k f) (he : aF f = aS s) (y : TSt) (hy : aS y = aF f ∧ StOk k y) : D_fh.wp (y, s) fun z => z = true :=
  w_fh y s (hy.1.trans he) (by rw [hy.1]; exact lenM_FC h)
theorem wp_State (h : FC p B k f) : D_f3.wp f fun y => aS y = aF f ∧ StOk k y := w_fabric_State p k f (by have := h.hk; omega) h.inv.pi h.wf
end

section
variable {p : TPg} {B : Int} {k : Nat} {f : TFa} {s : TSt}
theorem inv_loads (h : FInv (aP p) B (aS s)) (hB : B ≤ 2305843009213693952) (hn : s.Now < 9223372036854775808) : fabL p s := by
  have tn : s.Threads.n = p.Threads.n := by have := h.nt; simpa [aS, aP] using this
  have rn : s.Rings.n = p.Rings.n := by have := h.nr; simpa [aS, aP] using this
  refine ⟨tn, rn, hn, fun i hi => ?_, fun t ht => ?_⟩
  · have hR := h.rinv (i := (i : Int)) (by simp [aP]; omega)
    rw [cfg_aP (Int.natCast_nonneg i) (by omega), rng_aS (Int.natCast_nonneg i) (by omega), Int.toNat_natCast] at hR
    have := hR.1.tb
    change (s.Rings.get i).Tail < B at this
    exact ⟨ringL_of hR.2 hR.1 (by omega), by omega⟩
  · have hT := h.tinv (t := (t : Int)) (by simp [aS]; exact ht)
    rw [code_aP (Int.natCast_nonneg t) (by omega), thr_aS (Int.natCast_nonneg t) (by omega), Int.toNat_natCast] at hT
    have hp : t < p.Threads.n := by omega
    have e1 : (aS s).Threads[t]? = some (aT (s.Threads.get t)) := by
      have := thr_in (s := aS s) (t := (t : Int)) (by simp [aS]; exact ht)
      rwa [thr_aS (Int.natCast_nonneg t) (by omega), Int.toNat_natCast] at this
    have e2 : (aP p).Threads[t]? = some (p.Threads.get t).L := by
      unfold aP
      simp only [List.getElem?_map]
      rw [Sl.L_get _ hp]; rfl
    refine ⟨hT, fun q => ?_, fun q => ?_⟩
    · obtain ⟨_, ⟨r0, r1⟩, _⟩ := wait_of h.pi hp hT (by omega)
      have := h.p1 t _ e1 q
      change (s.Threads.get t).Ticket < (rng (aS s) (s.Threads.get t).Ring).Tail at this
      rw [rng_aS r0 (by omega)] at this
      exact this
    · obtain ⟨⟨a0, a1⟩, ⟨r0, r1⟩, hK⟩ := wait_of h.pi hp hT (by omega)
      obtain ⟨k0, k1⟩ := hK q
      have := h.p2 t _ _ e2 e1 q
      change (s.Threads.get t).Ticket < hd (rng (aS s) (s.Threads.get t).Ring) (gI (p.Threads.get t).L (s.Threads.get t).At).K at this
      rw [gI_L _ a0 a1, rng_aS r0 (by omega)] at this
      have hR := h.rinv (i := (s.Threads.get t).Ring) (by simp [aP]; omega)
      rw [cfg_aP r0 r1, rng_aS r0 (by omega)] at hR
      have hl := hR.1.rd
      simp only [aRS, Sl.L_length] at hl
      have e3 : hd (aRS (s.Rings.get (s.Threads.get t).Ring.toNat)) ((p.Threads.get t).get (s.Threads.get t).At.toNat).K = (s.Rings.get (s.Threads.get t).Ring.toNat).Heads.get ((p.Threads.get t).get (s.Threads.get t).At.toNat).K.toNat := getD_L _ k0 (by omega) 0
      rw [e3] at this
      exact this
theorem okS_of (h : FC p B k f) (e : aS s = aF f) (ho : StOk k s) (hr : 0 ≤ f.reads) : okS k s := by
  have hsm := h.small
  have h8 : (8 : Nat) ≤ maxLen := by decide
  have hi : FInv (aP p) B (aS s) := by rw [e]; exact h.inv
  have tn : s.Threads.n = p.Threads.n := by have := hi.nt; simpa [aS, aP] using this
  have rn : s.Rings.n = p.Rings.n := by have := hi.nr; simpa [aS, aP] using this
  have hb := h.hB
  refine ⟨by omega, by omega, ho.ts, fun i hii => ?_, hi.n0, ?_⟩
  · have hR := hi.rinv (i := (i : Int)) (by simp [aP]; omega)
    rw [cfg_aP (Int.natCast_nonneg i) (by omega), rng_aS (Int.natCast_nonneg i) (by omega), Int.toNat_natCast] at hR
    exact okRS_of hR.2 hR.1 (by omega) (ho.rs i hii).1 (ho.rs i hii).2
  · have : s.Reads = f.reads := congrArg MS.Reads e
    omega
theorem law_Load (h : FC p B k f) (e : aS s = aF f) (ho : StOk k s) (hr : 0 ≤ f.reads) (hn : f.now < 9223372036854775808) : D_f6.wp (p, s) fun y => y.2 = 0 ∧ y.1.nil = false ∧ FC p B k y.1.x ∧ aF y.1.x = aF f := by
  have hk := h.hk
  have hnow : s.Now = f.now := congrArg MS.Now e
  refine (w_f6 p s k (by omega) h.hp h.inv.pi (okS_of h e ho hr)).mono fun y hy => ?_
  rcases hy with ⟨_, y2, yn, yF, ya⟩ | ⟨hno, _⟩
  · have ya := ya.trans e
    exact ⟨y2, yn, ⟨h.hp, by rw [ya]; exact h.inv, yF, by rw [ya]; exact h.uv, h.hB, h.hk⟩, ya⟩
  · exact absurd (inv_loads (by rw [e]; exact h.inv) h.hB (by omega)) hno
end
theorem mDo_now {P : MP} {m : MS} {e : TEv} (h : 0 ≤ m.Reads) : (mDo P m e).2.Now ≤ m.Now + 1048576 ∧ 0 ≤ (mDo P m e).2.Reads := by
  cases q : mAllowed P m e
  · rw [(refused_do q).2]; exact ⟨by omega, h⟩
  · rw [allowed_do q]
    refine ⟨behind_now q, ?_⟩
    show 0 ≤ if e.Kind = 10 then IntKind.u64.wrap (m.Reads + 1) else m.Reads
    split
    · exact (wf_wrap64 _).1
    · exact h
theorem law_FabricStays (p : TPg) (l more : Sl TEv) (hp : okP p) (hl : okL l) (hm : okL more) (hsum : (l.n : Int) + more.n < 9223372036854775808) : D_f1.wp (p, (l, more)) fun y => y = true := by
  refine of_wp ?_
  simp only [tt_f1]
  have aw : ∀ {k : Bool → TT Tryz.prog R_f1} {Q}, (k true).wp Q → (TT.call con_f2y PUnit.unit k).wp Q := fun h => wC law_awake fun (y : Bool) hy => by subst hy; exact h
  refine aw (wp_ite (fun h => by simp at h) fun _ => ?_)
  rw [wrap64 (z := (l.n : Int) + more.n) (by omega) (by omega)]
  refine wC (law_few p hp) fun (y : Bool) hy => wp_if bnI (fun _ => aw rfl) fun hf => wp_if ilI (fun _ => aw rfl) fun hl80 => of_wp ?_
  have hP := hy (Classical.byContradiction hf)
  simp only [tt_f1_3]
  refine wC (w_f12 p hp 0) fun (y : Bx TFa × Int) hy => ?_
  rcases hy with ⟨_, y2, yn, yF, ya⟩ | ⟨hno, _⟩
  rotate_left
  · exact absurd hP hno
  obtain ⟨hFC, ya⟩ := FC_new hp (copy_refl hp) hP yF ya
  refine wN (by simp [yn]) ?_
  -- the second part
  have h26 : ∀ (f g : TFa) {B : Int} {k : Nat}, FC p B k f → FC p B k g → aF f = aF g → D_f1_26.wp (⟨f, g⟩ : X_f1_26) fun y => y = true := fun f g B k h1 h2 he => by
    refine of_wp ?_
    simp only [tt_f1_26]
    exact wC (wp_State h1) fun (a : TSt) ha => wC (wp_State h2) fun (b : TSt) hb => wC (law_State (s := b) h1 (he.trans hb.1.symm) a ha) fun (u : Bool) hu => hu
  have h21 : ∀ (f g : TFa) (n : Nat), n ≤ 80 → FC p (1 + n) n f → FC p (1 + n) n g → aF f = aF g → D_f1_21.wp (⟨more, more.n, 0, f, g⟩ : X_f1_21) fun y => y = true := fun f g n hn h1 h2 he => by
    refine loop_wp (tt := tt_f1_21) (fun x : X_f1_21 => x.q_77 = more ∧ x.q_78 = more.n ∧ ∃ k : Nat, x.q_79 = k ∧ k ≤ more.n ∧ FC p (1 + n + k) (n + k) x.n_7 ∧ FC p (1 + n + k) (n + k) x.n_12 ∧ aF x.n_7 = aF x.n_12) (fun x => (more.n - x.q_79).toNat) (fun _ y => y = true) (fun D x hI hD => ?_)
      ⟨rfl, rfl, 0, rfl, Nat.zero_le _, by simpa using h1, by simpa using h2, he⟩
    obtain ⟨l', q77, q79, f, g⟩ := x
    obtain ⟨e1, e2, k, e3, hk, hF, hG, hfg⟩ := hI
    simp only at e1 e2 e3 hF hG hfg hD
    subst e1 e2 e3
    simp only [tt_f1_21]
    refine wp_if ilI (fun h => ?_) fun h => h26 _ _ hF hG hfg
    have hkm : k < l'.n := by omega
    have hE := hm.e k hkm
    refine wN (inb_nat hkm) ?_
    rw [Int.toNat_natCast]
    refine wC (w_fabric_Allowed hF hE) fun (y : Bool) hy => wC (w_fabric_Allowed hG hE) fun (z : Bool) hz => ?_
    rw [hfg, ← hz] at hy
    subst hy
    refine wp_ite (fun e => by simp at e) fun _ => wC (w_fabric_Do hF hE (by omega) (by omega)) fun (y : Int × TFa) hy => wC (w_fabric_Do hG hE (by omega) (by omega)) fun (z : Int × TFa) hz => ?_
    obtain ⟨y1, y2, y3⟩ := hy
    obtain ⟨z1, z2, z3⟩ := hz
    rw [hfg] at y1 y2
    refine wp_if (p := y.1 ≠ z.1) (by rw [bnI, ieI]) (fun e => absurd (y1.trans z1.symm) e) fun _ => of_wp ?_
    simp only [tt_f1_25, next64 hkm hm.n]
    have c1 : (1 : Int) + n + ((k + 1 : Nat) : Int) = 1 + n + k + 1 := by omega
    exact hD _ ⟨rfl, rfl, k + 1, rfl, hkm, by rw [c1]; exact y3, by rw [c1]; exact z3, y2.trans z2.symm⟩ (by simp only; omega)
  -- between
  have h17 : ∀ (f : TFa) (n : Nat), n ≤ 80 → FC p (1 + n) n f → 0 ≤ f.reads → f.now < 9223372036854775808 → D_f1_17.wp (⟨more, p, f⟩ : X_f1_17) fun y => y = true := fun f n hn h1 hr hnow => by
    refine of_wp ?_
    simp only [tt_f1_17]
    refine wC (wp_State h1) fun (s : TSt) hs => wC (law_Load h1 hs.1 hs.2 hr hnow) fun (z : Bx TFa × Int) hz => wN (by simp [hz.2.1]) (wp_if (p := z.2 ≠ 0) (by rw [bnI, ieI]) (fun e => absurd hz.1 e) fun _ => of_wp ?_)
    simp only [tt_f1_20]
    exact h21 f z.1.x n hn h1 hz.2.2.1 hz.2.2.2.symm
  have h12 : ∀ (f : TFa) (n : Nat), n ≤ 80 → FC p (1 + n) n f → 0 ≤ f.reads → f.now < 9223372036854775808 → D_f1_12.wp (⟨more, p, p.Rings.n, 0, f⟩ : X_f1_12) fun y => y = true := fun f n hn h1 hr hnow => by
    refine all_wp (fun i => (⟨more, p, p.Rings.n, (i : Nat), f⟩ : X_f1_12)) p.Rings.n (fun _ => True) _ (fun D hJ => ?_) (fun D i hi hD => ?_)
    · simp only [tt_f1_12, ilt_nat, Nat.lt_irrefl, decide_false, wp_false]
      exact h17 f n hn h1 hr hnow
    · simp only [tt_f1_12, ilt_nat, hi, decide_true, wp_true, next64 hi hp.rn]
      refine wC (w_fabric_Ring h1 _) fun (a : Bx TRr) ha => ?_
      obtain ⟨an, aw', aa⟩ := ha.1 (by omega)
      have hcl : D_f25.wp a fun _ => True := by
        refine of_wp ?_
        simp only [tt_f25]
        exact wN (by simp [an]) trivial
      refine wC hcl fun _ _ => wC (w_fabric_Ring h1 _) fun (b : Bx TRr) hb => ?_
      obtain ⟨bn, bw, ba⟩ := hb.1 (by omega)
      rw [Int.toNat_natCast] at bw
      obtain ⟨hC, _, hrn⟩ := h1.ring (i := (i : Int)) (Int.natCast_nonneg i) (by omega)
      rw [Int.toNat_natCast] at hC
      have hCb : RC (p.Rings.get i) (1 + n) b.x := ⟨hC.rg, bw, by rw [ba, hrn, Int.toNat_natCast]; exact hC.inv, hC.bb⟩
      have hcm : D_f26.wp b fun _ => True := by
        refine of_wp ?_
        simp only [tt_f26]
        exact wN (by simp [bn]) (wp_ite (fun _ => trivial) fun _ => wC (w_ring_Full hCb) fun _ _ => wp_ite (fun _ => trivial) fun _ => trivial)
      exact wC hcm fun _ _ => hD trivial
  -- the first part
  refine loop_wp (tt := tt_f1_7) (fun x : X_f1_7 => x.more_2 = more ∧ x.p_3 = p ∧ x.q_39 = l ∧ x.q_40 = l.n ∧ ∃ k : Nat, x.q_41 = k ∧ k ≤ l.n ∧ FC p (1 + k) k x.n_7 ∧ 0 ≤ x.n_7.reads ∧ x.n_7.now ≤ k * 1048576) (fun x => (l.n - x.q_41).toNat) (fun _ y => y = true) (fun D x hI hD => ?_)
    ⟨rfl, rfl, rfl, rfl, 0, rfl, Nat.zero_le _, hFC, by rw [show y.1.x.reads = 0 from congrArg MS.Reads ya]; decide, by rw [show y.1.x.now = 0 from congrArg MS.Now ya]; decide⟩
  obtain ⟨more', p', l', q40, q41, f⟩ := x
  obtain ⟨e0, e1, e2, e3, k, e4, hk, hF, hr, hnow⟩ := hI
  simp only at e0 e1 e2 e3 e4 hF hr hnow hD
  subst e0 e1 e2 e3 e4
  simp only [tt_f1_7]
  refine wp_if ilI (fun h => ?_) fun h => of_wp ?_
  · have hkm : k < l'.n := by omega
    have hE := hl.e k hkm
    refine wN (inb_nat hkm) ?_
    rw [Int.toNat_natCast]
    refine wC (w_fabric_Do hF hE (by omega) (by omega)) fun (y : Int × TFa) hy => ?_
    obtain ⟨_, y2, y3⟩ := hy
    rw [next64 hkm hl.n]
    have hd := mDo_now (P := aP p') (m := aF f) (e := l'.get k) hr
    rw [← y2] at hd
    have n1 : y.2.now ≤ f.now + 1048576 := hd.1
    exact hD _ ⟨rfl, rfl, rfl, rfl, k + 1, rfl, hkm, by rw [show (1 : Int) + ((k + 1 : Nat) : Int) = 1 + k + 1 by omega]; exact y3, hd.2, by show y.2.now ≤ _; omega⟩ (by simp only; omega)
  · simp only [tt_f1_11]
    exact h12 f k (by omega) hF hr (by omega)
namespace Sz
open Go.ChangeShapes Go.WideShapes Go.ChangeAt Go.RowKit
section
variable {H : Type} {enc : TypeId × Value → H} {P : Program}
def Sized (P : Program) (t : TypeId) (d : DataW H) : Prop := ∀ n ∈ d.weights P t, n ≤ reachBytes
theorem lifted_sized {C : Checked} {os : Os} {f : FuncId} {fn : Func} {s : ChangeSpec} {conds : List PathCond} {fresh handsOn : Bool} {tb : TypeId}
    (own : ownKnob C.prog.godebug = none) (started : os.Started) (noInit : C.prog.inits.idxOf? f = none) (hfn : C.prog.funcs[f]? = some fn)
    (witness : ∃ (w : World) (tape : Tape) (i : Input), w.os = os ∧ (w.forCall tape i).Shaped C.prog ∧ i.vars = [] ∧ Input.okWide C.prog (w.forCall tape i) .any w.heap.size f i ∧
      s.pre6 enc C.prog fn conds false (w.forCall tape i).memory i.args ∧ ({} : Assume).holds C.prog (lone (Frame.enter C.prog f i.args .normal) [] (w.forCall tape i)))
    (hl : laidOutB C.prog = true) (hm : mapsRowed C.prog = true) (hz : ∀ t e, t < C.prog.types.size → C.prog.underlying t = some (.slice e) → 0 < C.prog.cellsOf e)
    (hp : (fn.params.toList.all fun t => decide (t < C.prog.types.size)) = true) (hvars : s.vars = []) (hr : fn.resultTypes = #[tb]) (htb : C.prog.underlying tb = some .bool)
    (hs : ∀ ds : List (DataW H), ds.length = fn.params.toList.length → s.fn H (ds ++ []) = { results := [.lit (.bool true)], args := ds })
    (contract : ∀ (W : World) (base : Nat) (args : Array Value) (ds : List (DataW H)) (ps : List MemPlace),
      (∀ (j : Nat) t v, fn.params[j]? = some t → args[j]? = some v → Value.okWide C.prog W .any base t v) →
      DataW.TrodAll enc C.prog W 0 (fun _ => true) true fn.params.toList args.toList ds ps → (∀ (j : Nat) t d, fn.params.toList[j]? = some t → ds[j]? = some d → Sized C.prog t d) →
      Calls C.prog f args W fun e w' => e = .returned (.bool true) ∧ Below W.heap.size W w') :
    ReturnsInHanded {} C os f .any (s.pre6 enc C.prog fn conds false) (s.post enc C.prog fn false fresh handsOn false) := by
  refine returnsInHanded_of_change_sized own started noInit hfn witness ?_
  intro W base args ds gs before hval hW _ hsz _
  have hW' := hW
  obtain ⟨p, q, hA, hV, rfl, _, _⟩ := hW
  rw [hvars] at hV
  obtain ⟨rfl, rfl⟩ := trodVars_none hV
  simp only [List.append_nil] at hW'
  refine (contract W base args ds p hval hA fun j t d ht hd n hn => ?_).mono fun e W' ⟨he, hB⟩ => ⟨_, he, ?_⟩
  · have hj : j < fn.params.toList.length := (List.getElem?_eq_some_iff.1 ht).1
    have := List.all_eq_true.1 hsz n (DataW.weights_mem_each (j := j) (t := t) (d := d) (by rw [List.getElem?_append_left hj]; exact ht) (by rw [List.append_nil]; exact hd) n hn)
    simpa using this
  · exact post_true hl hm hz (fun t ht => of_decide_eq_true (List.all_eq_true.1 hp t ht)) hvars hr htb (hs ds (Go.trodAll_length hA).2) hW' hA hB
theorem slice_sized {W : World} {t e : TypeId} {fuel : Nat} {cs : List Value} {x : DataW H × List MemPlace} {tok : Option TypeId} {s n : Nat} {nil : Bool} {get : Nat → V} {fp : Foot} (ht : P.underlying t = some (.slice e))
    (hd : DataW.trod enc P W 0 (fun _ => true) true fuel t cs = some x) (h2 : RelT (old W) W noNames (.sl tok s nil n get) cs fp) (hz : Sized P t x.1) : n * P.bytesOf e ≤ reachBytes := by
  simp only [RelT] at h2
  obtain ⟨ad, cap', hv, _⟩ := h2
  rcases Go.Deep.open_slice ht hd with ⟨e1, _⟩ | ⟨a, len, cap, m, k, D, Pl, e1, _, _, _, _, e2, _⟩
  · rw [hv] at e1
    have := (Value.slice.inj (List.cons.inj e1).1).2.1
    subst this
    rw [Nat.zero_mul]; exact Nat.zero_le _
  · rw [hv] at e1
    have e3 := (Value.slice.inj (List.cons.inj e1).1).2.1
    have e4 : x.1 = _ := congrArg Prod.fst e2
    unfold Sized at hz
    rw [e4] at hz
    have := hz ((len + (m - len)) * P.bytesOf e) (by simp [DataW.weights, ht])
    refine Nat.le_trans (Nat.mul_le_mul_right _ ?_) this
    omega
theorem slice_sized' {W : World} {base : Nat} {t e : TypeId} {v : Value} {d : DataW H} {ps : List MemPlace} {tok : Option TypeId} {s n : Nat} {nil : Bool} {get : Nat → V} (ht : P.underlying t = some (.slice e))
    (hok : Value.okWide P W .any base t v) (hd : DataW.Trod enc P W 0 (fun _ => true) true t v d ps) (hb : RelV (old W) W noNames (.sl tok s nil n get) v none_) (hz : Sized P t d) : n * P.bytesOf e ≤ reachBytes := by
  obtain ⟨fuel, hd⟩ := hd
  rw [cells_slice ht W base v hok] at hd
  have h1 : Rel1 (old W) W noNames (.sl tok s nil n get) v none_ := hb
  exact slice_sized (x := (d, ps)) ht hd (h1.2 rfl) hz
end
end Sz
def ok_TRg (x : TRg) : Prop := (fun n => (Lit.int .i64 n).wf = true) x.Kind ∧ (fun n => (Lit.int .i64 n).wf = true) x.Cap ∧ (fun n => (Lit.int .i64 n).wf = true) x.Readers ∧ True
noncomputable def fl_TRg_0 : Field := (flds Tryz.prog 98).toList.getD 0 default
noncomputable def fl_TRg_1 : Field := (flds Tryz.prog 98).toList.getD 1 default
noncomputable def fl_TRg_2 : Field := (flds Tryz.prog 98).toList.getD 2 default
theorem op_TRg : Opens Tryz.prog 98 e_TRg ok_TRg :=
  Opens.map (opens_struct (fs := flds Tryz.prog 98) (l := fl_TRg_0 :: fl_TRg_1 :: fl_TRg_2 :: []) (by kernel_rfl) (by kernel_rfl) (by kernel_rfl)
    (opens_cons (u := 3) (s := 1) (by kernel_rfl) (by kernel_rfl) (by kernel_rfl) (opens_int (k := .i64) (by kernel_rfl)) (opens_cons (u := 3) (s := 1) (by kernel_rfl) (by kernel_rfl) (by kernel_rfl) (opens_int (k := .i64) (by kernel_rfl)) (opens_cons (u := 3) (s := 1) (by kernel_rfl) (by kernel_rfl) (by kernel_rfl) (opens_int (k := .i64) (by kernel_rfl)) opens_nil)))) (fun x => ⟨x.1, x.2.1, x.2.2.1⟩) (fun _ => rfl) (fun _ h => h)
def ok_TIn (x : TIn) : Prop := (fun n => (Lit.int .i64 n).wf = true) x.Op ∧ (fun n => (Lit.int .i64 n).wf = true) x.A ∧ (fun n => (Lit.int .i64 n).wf = true) x.B ∧ (fun n => (Lit.int .i64 n).wf = true) x.C ∧ (fun n => (Lit.int .i64 n).wf = true) x.D ∧ (fun n => (Lit.int .u64 n).wf = true) x.K ∧ True
noncomputable def fl_TIn_0 : Field := (flds Tryz.prog 81).toList.getD 0 default
noncomputable def fl_TIn_1 : Field := (flds Tryz.prog 81).toList.getD 1 default
noncomputable def fl_TIn_2 : Field := (flds Tryz.prog 81).toList.getD 2 default
noncomputable def fl_TIn_3 : Field := (flds Tryz.prog 81).toList.getD 3 default
noncomputable def fl_TIn_4 : Field := (flds Tryz.prog 81).toList.getD 4 default
noncomputable def fl_TIn_5 : Field := (flds Tryz.prog 81).toList.getD 5 default
theorem op_TIn : Opens Tryz.prog 81 e_TIn ok_TIn :=
  Opens.map (opens_struct (fs := flds Tryz.prog 81) (l := fl_TIn_0 :: fl_TIn_1 :: fl_TIn_2 :: fl_TIn_3 :: fl_TIn_4 :: fl_TIn_5 :: []) (by kernel_rfl) (by kernel_rfl) (by kernel_rfl)
    (opens_cons (u := 3) (s := 1) (by kernel_rfl) (by kernel_rfl) (by kernel_rfl) (opens_int (k := .i64) (by kernel_rfl)) (opens_cons (u := 3) (s := 1) (by kernel_rfl) (by kernel_rfl) (by kernel_rfl) (opens_int (k := .i64) (by kernel_rfl)) (opens_cons (u := 3) (s := 1) (by kernel_rfl) (by kernel_rfl) (by kernel_rfl) (opens_int (k := .i64) (by kernel_rfl)) (opens_cons (u := 3) (s := 1) (by kernel_rfl) (by kernel_rfl) (by kernel_rfl) (opens_int (k := .i64) (by kernel_rfl)) (opens_cons (u := 3) (s := 1) (by kernel_rfl) (by kernel_rfl) (by kernel_rfl) (opens_int (k := .i64) (by kernel_rfl)) (opens_cons (u := 35) (s := 1) (by kernel_rfl) (by kernel_rfl) (by kernel_rfl) (opens_int (k := .u64) (by kernel_rfl)) opens_nil))))))) (fun x => ⟨x.1, x.2.1, x.2.2.1, x.2.2.2.1, x.2.2.2.2.1, x.2.2.2.2.2.1⟩) (fun _ => rfl) (fun _ h => h)
def ok_TPg (x : TPg) : Prop := (okSl ok_TRg) x.Rings ∧ (okSl (okSl ok_TIn)) x.Threads ∧ True
noncomputable def fl_TPg_0 : Field := (flds Tryz.prog 25).toList.getD 0 default
noncomputable def fl_TPg_1 : Field := (flds Tryz.prog 25).toList.getD 1 default
theorem op_TPg : Opens Tryz.prog 25 e_TPg ok_TPg :=
  Opens.map (opens_struct (fs := flds Tryz.prog 25) (l := fl_TPg_0 :: fl_TPg_1 :: []) (by kernel_rfl) (by kernel_rfl) (by kernel_rfl)
    (opens_cons (u := 22) (s := 1) (by kernel_rfl) (by kernel_rfl) (by kernel_rfl) (opens_slice (e := 98) (s := 3) (d_TRg .undef) (by kernel_rfl) (by kernel_rfl) (by decide) (op_TRg)) (opens_cons (u := 23) (s := 1) (by kernel_rfl) (by kernel_rfl) (by kernel_rfl) (opens_slice (e := 82) (s := 1) (dsl_TIn .undef) (by kernel_rfl) (by kernel_rfl) (by decide) (opens_slice (e := 81) (s := 6) (d_TIn .undef) (by kernel_rfl) (by kernel_rfl) (by decide) (op_TIn))) opens_nil))) (fun x => ⟨x.1, x.2.1⟩) (fun _ => rfl) (fun _ h => h)
def ok_TEv (x : TEv) : Prop := (fun n => (Lit.int .i64 n).wf = true) x.Thread ∧ (fun n => (Lit.int .i64 n).wf = true) x.Kind ∧ (fun n => (Lit.int .i64 n).wf = true) x.Ring ∧ (fun n => (Lit.int .u64 n).wf = true) x.Ticket ∧ (fun n => (Lit.int .u64 n).wf = true) x.Value ∧ True
noncomputable def fl_TEv_0 : Field := (flds Tryz.prog 46).toList.getD 0 default
noncomputable def fl_TEv_1 : Field := (flds Tryz.prog 46).toList.getD 1 default
noncomputable def fl_TEv_2 : Field := (flds Tryz.prog 46).toList.getD 2 default
noncomputable def fl_TEv_3 : Field := (flds Tryz.prog 46).toList.getD 3 default
noncomputable def fl_TEv_4 : Field := (flds Tryz.prog 46).toList.getD 4 default
theorem op_TEv : Opens Tryz.prog 46 e_TEv ok_TEv :=
  Opens.map (opens_struct (fs := flds Tryz.prog 46) (l := fl_TEv_0 :: fl_TEv_1 :: fl_TEv_2 :: fl_TEv_3 :: fl_TEv_4 :: []) (by kernel_rfl) (by kernel_rfl) (by kernel_rfl)
    (opens_cons (u := 3) (s := 1) (by kernel_rfl) (by kernel_rfl) (by kernel_rfl) (opens_int (k := .i64) (by kernel_rfl)) (opens_cons (u := 3) (s := 1) (by kernel_rfl) (by kernel_rfl) (by kernel_rfl) (opens_int (k := .i64) (by kernel_rfl)) (opens_cons (u := 3) (s := 1) (by kernel_rfl) (by kernel_rfl) (by kernel_rfl) (opens_int (k := .i64) (by kernel_rfl)) (opens_cons (u := 35) (s := 1) (by kernel_rfl) (by kernel_rfl) (by kernel_rfl) (opens_int (k := .u64) (by kernel_rfl)) (opens_cons (u := 35) (s := 1) (by kernel_rfl) (by kernel_rfl) (by kernel_rfl) (opens_int (k := .u64) (by kernel_rfl)) opens_nil)))))) (fun x => ⟨x.1, x.2.1, x.2.2.1, x.2.2.2.1, x.2.2.2.2.1⟩) (fun _ => rfl) (fun _ h => h)
theorem given_Program : Given Tryz.prog 25 e_TPg ok_TPg :=
  given_struct (fs := flds Tryz.prog 25) (by kernel_rfl) op_TPg (fun _ => rfl) (fun _ => rfl)
theorem okP_of {p : TPg} (h : ok_TPg p) : okP p := by
  obtain ⟨⟨rz, rn, rr⟩, ⟨_, tn, tt⟩, _⟩ := h
  refine ⟨rn, tn, fun t ht => (tt t ht).2.1, fun t ht k hk => ?_, rz, fun t ht => (tt t ht).1⟩
  obtain ⟨_, a, b, c, d, k, _⟩ := (tt t ht).2.2 k hk
  have a := wf_i64 a; have b := wf_i64 b; have c := wf_i64 c; have d := wf_i64 d
  exact ⟨wf_u64 k, by omega, by omega, by omega, by omega⟩
theorem given_Events : Given Tryz.prog 44 esl_TEv (okSl ok_TEv) :=
  given_leaf (cells_slice (e := 46) (by kernel_rfl)) (opens_slice (e := 46) (s := 5) (d_TEv .undef) (by kernel_rfl) (by kernel_rfl) (by decide) op_TEv) (fun _ => rfl) (fun _ => rfl)
theorem okE_of {e : TEv} (h : ok_TEv e) : okE e := by
  obtain ⟨_, _, _, t, v, _⟩ := h
  exact ⟨wf_u64 t, wf_u64 v⟩
theorem okL_of {l : Sl TEv} (h : okSl ok_TEv l) : okL l := ⟨h.2.1, fun i hi => okE_of (h.2.2 i hi)⟩

open Go.ChangeShapes Go.WideShapes Go.ChangeAt Go.RowKit
theorem Tryz.own : ownKnob Tryz.prog.godebug = none := by kernel_rfl
theorem Tryz.laidOut : laidOutB Tryz.prog = true := by kernel_rfl
theorem Tryz.rowed : mapsRowed Tryz.prog = true := by kernel_rfl
theorem Tryz.full : ∀ t e, t < Tryz.prog.types.size → Tryz.prog.underlying t = some (.slice e) → 0 < Tryz.prog.cellsOf e := slices_full_of Tryz.prog (by kernel_rfl)
def zeroProgram : Value := .agg #[.slice none 0 0, .slice none 0 0]
open Go.ChangeShapes Go.WideShapes Go.ChangeAt Go.RowKit
theorem fabricStays_lifted (os : Os) (started : os.Started) (H : Type) (enc : TypeId × Value → H) :
    ReturnsInHanded {} Tryz.checked os 9 .any (Rows.fabricStaysSpec.pre6 enc Tryz.prog Tryz.f9 Rows.fabricStaysRow.domain false) (Rows.fabricStaysSpec.post enc Tryz.prog Tryz.f9 false true false false) := by
  refine Sz.lifted_sized (tb := 4) (C := Tryz.checked) Tryz.own started (by kernel_rfl) Tryz.func9
    (ChangeSpec.witness6 (enc := enc) (C := Tryz.checked) false ⟨#[], #[zeroProgram, .slice none 0 0, .slice none 0 0], []⟩ 8 (by kernel_rfl) (by kernel_rfl) (by kernel_rfl) (by kernel_rfl)) Tryz.laidOut Tryz.rowed Tryz.full
    (by kernel_rfl) rfl rfl (by kernel_rfl) ?_ ?_
  · intro ds hl
    match ds, hl with
    | [_, _, _], _ => rfl
  · intro W base args ds ps hval hA hz
    rw [Tryz.params9] at hA hval hz
    obtain ⟨v0, v1, v2, d0, d1, d2, p0, p1, p2, rfl, rfl, rfl, h0, h1, h2⟩ := trodAll_three hA
    obtain ⟨a, ha, ra⟩ := given_Program H enc W base v0 d0 p0 (hval 0 25 v0 rfl rfl) h0
    obtain ⟨b, hb, rb⟩ := given_Events H enc W base v1 d1 p1 (hval 1 44 v1 rfl rfl) h1
    obtain ⟨c, hc, rc⟩ := given_Events H enc W base v2 d2 p2 (hval 2 44 v2 rfl rfl) h2
    have hb40 : Tryz.prog.bytesOf 46 = 40 := by kernel_rfl
    have hr := reachBytes_lt
    have s1 := Sz.slice_sized' (P := Tryz.prog) (e := 46) (by kernel_rfl) (hval 1 44 v1 rfl rfl) h1 rb (hz 1 44 d1 rfl rfl)
    have s2 := Sz.slice_sized' (P := Tryz.prog) (e := 46) (by kernel_rfl) (hval 2 44 v2 rfl rfl) h2 rc (hz 2 44 d2 rfl rfl)
    rw [hb40] at s1 s2
    obtain ⟨y, hy, rfl⟩ := law_FabricStays a b c (okP_of ha) (okL_of hb) (okL_of hc) (by omega)
    refine calls_bool (con_f1.ok (a, (b, c)) true hy) (fun j x v hx hv => ?_) rfl
    match j, hx, hv with
    | 0, hx, hv => change some (e_TPg a) = some x at hx; cases hx; simp at hv; subst hv; exact ra
    | 1, hx, hv => change some (esl_TEv b) = some x at hx; cases hx; simp at hv; subst hv; exact rb
    | 2, hx, hv => change some (esl_TEv c) = some x at hx; cases hx; simp at hv; subst hv; exact rc
theorem fabricStays_holds : Rows.FabricStaysSaid :=
  OpenClaim.holds_of_wide 9 Tryz.f9 rfl rfl rfl rfl rfl rfl rfl ⟨rfl, rfl, rfl, rfl, rfl⟩ rfl rfl rfl rfl rfl (by kernel_rfl) Tryz.func9 (by kernel_rfl)
    (of_decide_eq_true (by kernel_rfl)) (by unfold Func.isWrapper; first | (rw [if_pos (by decide +kernel)]; kernel_rfl) | (rw [if_neg (by decide +kernel)]; exact ⟨rfl, rfl⟩))
    (fun os started H enc _ => fabricStays_lifted os started H enc)
end Go.Proofs.YtiplcdhnjennfaaGreat
