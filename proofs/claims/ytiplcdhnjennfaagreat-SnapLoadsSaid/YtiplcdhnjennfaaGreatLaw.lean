/- For every program and every text of bytes: snap.Load gives back a fabric just if the bytes are a state's with which the program may stand, and then it stands so; what was handed in reads as it did. No conditions. -/
import Derived.Test.YtiplcdhnjennfaaGreatGC
import Derived.Test.YtiplcdhnjennfaaGreatRows
namespace Go.Proofs.YtiplcdhnjennfaaGreat
open Go Go.Vm Go.Proofs
set_option maxRecDepth 100000
theorem eq_i64 (z : Int) (h0 : -9223372036854775808 ≤ z) (h1 : z ≤ 9223372036854775807) : IntKind.i64.wrap z = z := wrap64 h0 h1
theorem maxLen_le {n : Nat} (h : n ≤ maxLen) : (n : Int) ≤ 9223372036854775807 := by have := (by decide : maxLen ≤ 9223372036854775807); omega

/-! ### Instructions: code and its reference -/
theorem w_code_Plain (x : Int) : D_code_Plain.wp x fun y => y = true ↔ 1 ≤ x ∧ x ≤ 17 := by
  refine of_wp ?_
  simp only [tt_code_Plain, TT.wp, ile_iff, Bool.false_eq_true, false_iff]
  omega
theorem w_code_Jumps (x : TApi_Instr) : D_code_Jumps.wp x fun y => y = true ↔ 15 ≤ x.Op ∧ x.Op ≤ 17 := by
  refine of_wp ?_
  simp only [tt_code_Jumps, TT.wp, ile_iff, Bool.false_eq_true, false_iff]
  omega

def limM (x : Int) : TCode_limits × Bool :=
  if x = 1 then (⟨7, 0, 0, 0, 18446744073709551615⟩, true)
  else if x = 2 ∨ x = 23 then (⟨7, 7, 0, 0, 0⟩, true)
  else if x = 15 then (⟨0, 0, 0, 0, 256⟩, true)
  else if x = 16 ∨ x = 17 then (⟨7, 0, 0, 0, 256⟩, true)
  else if x = 18 then (⟨7, 7, 7, 2, 0⟩, true)
  else if x = 19 then (⟨7, 7, 7, 2, 7⟩, true)
  else if x = 20 then (⟨0, 0, 7, 0, 0⟩, true)
  else if x = 21 ∨ x = 22 ∨ x = 24 then (⟨7, 0, 0, 0, 0⟩, true)
  else if x = 25 then (⟨0, 0, 0, 0, 0⟩, true)
  else (⟨7, 7, 7, 0, 0⟩, decide (1 ≤ x ∧ x ≤ 17))
theorem w_code_limit (x : Int) : D_code_limit.wp x fun y => y = limM x := by
  have e : ∀ z, D_code_limit_24.wp (⟨x, z⟩ : X_code_limit_24) fun y => y = (⟨7, 7, 7, 0, 0⟩, decide (1 ≤ x ∧ x ≤ 17)) := by
    intro z
    refine of_wp ?_
    show (tt_code_limit_24 ⟨x, z⟩).wp _
    simp only [tt_code_limit_24]
    refine wp_call (w_code_Plain x) fun (y : Bool) hy => ?_
    have : y = decide (1 ≤ x ∧ x ≤ 17) := by rw [Bool.eq_iff_iff, decide_eq_true_eq]; exact hy
    subst this
    rfl
  refine of_wp ?_
  simp only [tt_code_limit, TT.wp, ieq_iff, limM]
  refine ⟨fun h => by simp [h], fun h1 => ⟨fun h => by simp [h], fun h2 => ⟨fun h => by simp [h], fun h3 => ⟨fun h => by simp [h], fun h4 => ⟨fun h => by simp [h], fun h5 => ⟨fun h => by simp [h], fun h6 => ⟨fun h => by simp [h], fun h7 =>
    ⟨fun h => by simp [h], fun h8 => ⟨fun h => by simp [h], fun h9 => ⟨fun h => by simp [h], fun h10 => ⟨fun h => by simp [h], fun h11 => ⟨fun h => by simp [h], fun h12 => ⟨fun h => by simp [h], fun h13 => ?_⟩⟩⟩⟩⟩⟩⟩⟩⟩⟩⟩⟩⟩
  simp only [h1, h2, h3, h4, h5, h6, h7, h8, h9, h10, h11, h12, h13, if_false, or_self]
  exact e _

theorem limM_right {i : TApi_Instr} (h0 : 0 ≤ i.K) (h1 : i.K < 18446744073709551616) :
    (limM i.Op).2 = true ∧ (0 ≤ i.A ∧ i.A ≤ (limM i.Op).1.a) ∧ (0 ≤ i.B ∧ i.B ≤ (limM i.Op).1.b) ∧ (0 ≤ i.C ∧ i.C ≤ (limM i.Op).1.c) ∧ (0 ≤ i.D ∧ i.D ≤ (limM i.Op).1.d) ∧ i.K ≤ (limM i.Op).1.k ↔ rightI i = true := by
  unfold limM rightI
  simp only
  by_cases e1 : i.Op = 1
  · simp [e1]; omega
  by_cases e2 : i.Op = 2 ∨ i.Op = 23
  · simp only [e1, e2, if_false, if_true, Bool.and_eq_true, decide_eq_true_eq, true_and]; omega
  by_cases e3 : i.Op = 15
  · simp [e3]; omega
  by_cases e4 : i.Op = 16 ∨ i.Op = 17
  · have : ¬ (3 ≤ i.Op ∧ i.Op ≤ 14) := by omega
    simp only [e1, e2, e3, e4, this, if_false, if_true, Bool.and_eq_true, decide_eq_true_eq, true_and]; omega
  by_cases e5 : i.Op = 18
  · simp [e5]; omega
  by_cases e6 : i.Op = 19
  · simp [e6]; omega
  by_cases e7 : i.Op = 20
  · simp [e7]; omega
  by_cases e8 : i.Op = 21 ∨ i.Op = 22 ∨ i.Op = 24
  · have : ¬ (3 ≤ i.Op ∧ i.Op ≤ 14) := by omega
    simp only [e1, e2, e3, e4, e5, e6, e7, e8, this, if_false, if_true, Bool.and_eq_true, decide_eq_true_eq, true_and]; omega
  by_cases e9 : i.Op = 25
  · simp [e9]; omega
  by_cases e10 : 3 ≤ i.Op ∧ i.Op ≤ 14
  · have : 1 ≤ i.Op ∧ i.Op ≤ 17 := by omega
    simp only [e1, e2, e3, e4, e5, e6, e7, e8, e9, e10, this, if_false, if_true, Bool.and_eq_true, decide_eq_true_eq, true_and, and_self]; omega
  · have : ¬ (1 ≤ i.Op ∧ i.Op ≤ 17) := by omega
    simp only [e1, e2, e3, e4, e5, e6, e7, e8, e9, e10, this, if_false, decide_false, Bool.false_eq_true, false_and]

/-- A number of an instruction that was handed in. -/
def okI (i : TApi_Instr) : Prop := (0 ≤ i.K ∧ i.K < 18446744073709551616) ∧ i.A < 9223372036854775808 ∧ i.B < 9223372036854775808 ∧ i.C < 9223372036854775808 ∧ i.D < 9223372036854775808

theorem w_code_Right (i : TApi_Instr) (h : okI i) : D_code_Right.wp i fun y => y = true ↔ rightI i = true := by
  refine of_wp ?_
  simp only [tt_code_Right]
  refine wp_call (w_code_limit i.Op) fun (y : TCode_limits × Bool) hy => ?_
  subst hy
  rw [← limM_right h.1.1 h.1.2]
  generalize limM i.Op = m
  obtain ⟨⟨a, b, c, d, k⟩, ok⟩ := m
  cases ok <;> simp only [TT.wp, ile_iff, Bool.false_eq_true, false_iff, false_imp_iff, not_false_eq_true, true_imp_iff, not_true_eq_false, true_and, and_true, false_and]
  · omega

theorem w_check_ring (c : TApi_Ring) : D_check_ring.wp c fun y => y = true ↔ rightRg c = true := by
  refine of_wp ?_
  have e : D_check_ring_3.wp (⟨c⟩ : X_check_ring_3) fun y => y = true ↔ (c.Kind = 1 ∧ c.Readers = 1 ∨ c.Kind = 2 ∧ 1 ≤ c.Readers ∧ c.Readers ≤ 8) := by
    refine of_wp ?_
    simp only [tt_check_ring_3, TT.wp, ile_iff, ieq_iff, Bool.false_eq_true, true_iff, false_iff]
    omega
  simp only [tt_check_ring, TT.wp, ilt_iff, Bool.false_eq_true, false_iff, rightRg, decide_eq_true_eq]
  refine ⟨fun h => by omega, fun h1 => ⟨fun h => by omega, fun h2 => e.mono fun y hy => by rw [hy]; omega⟩⟩
theorem w_check_rings (x : Int) : D_check_rings.wp x fun y => y = true ↔ 18 ≤ x ∧ x ≤ 20 := by
  refine of_wp ?_
  simp only [tt_check_rings, TT.wp, ieq_iff, true_iff]
  omega

structure okRg (c : TApi_Ring) : Prop where
  k0 : -9223372036854775808 ≤ c.Readers
  k1 : c.Readers ≤ 9223372036854775807
/-- A program that was handed in. -/
structure okP (p : TApi_Program) : Prop where
  rn : p.Rings.n ≤ maxLen
  tn : p.Threads.n ≤ maxLen
  ln : ∀ t, t < p.Threads.n → (p.Threads.get t).n ≤ maxLen
  ins : ∀ t, t < p.Threads.n → ∀ k, k < (p.Threads.get t).n → okI ((p.Threads.get t).get k)
  rz : p.Rings.nil = true → p.Rings.n = 0
  lz : ∀ t, t < p.Threads.n → (p.Threads.get t).nil = true → (p.Threads.get t).n = 0

def aP (p : TApi_Program) : MP := ⟨p.Rings.L, p.Threads.L.map Sl.L⟩

theorem getD_L {α : Type} (s : Sl α) {i : Int} (h0 : 0 ≤ i) (h : i < s.n) (d : α) : s.L.getD i.toNat d = s.get i.toNat := by
  have : i.toNat < s.n := by omega
  rw [List.getD, Sl.L_get _ this]; rfl

theorem w_check_instr (p : TApi_Program) (i : TApi_Instr) (n : Nat) (hi : okI i) (hn : n ≤ maxLen) (hr : ∀ c ∈ p.Rings.L, rightRg c = true) : D_check_instr.wp (p, (i, (n : Int))) fun y => y = instrE p.Rings.L i n := by
  refine of_wp ?_
  have hn := maxLen_le hn
  have hw : IntKind.u64.wrap (n : Int) = n := wrapu64 (by omega) (by omega)
  simp only [tt_check_instr, hw]
  refine wp_call (w_code_Right i hi) fun (y : Bool) hy => ?_
  simp only [TT.wp, ile_iff, ilt_iff, ieq_iff, bnot_iff, inb_iff2, hy]
  refine ⟨fun h => by simp [instrE, h], fun h => ?_⟩
  have hR : rightI i = true := by simpa using h
  have hf := rightI_facts hR
  have hrd : 0 ≤ i.C → i.C < p.Rings.n → IntKind.u64.wrap (p.Rings.get i.C.toNat).Readers = (p.Rings.L.getD i.C.toNat ⟨0, 0, 0⟩).Readers := fun h0 h1 => by
    rw [getD_L _ h0 h1]
    have := rg_cap (hr _ (Sl.mem_L.2 ⟨i.C.toNat, by omega, rfl⟩))
    exact wrapu64 (by omega) (by omega)
  have e : instrE p.Rings.L i n = if 15 ≤ i.Op ∧ i.Op ≤ 17 ∧ (n : Int) < i.K then 5 else if 18 ≤ i.Op ∧ i.Op ≤ 20 ∧ (p.Rings.n : Int) ≤ i.C then 7 else if i.Op = 19 ∧ (p.Rings.L.getD i.C.toNat ⟨0, 0, 0⟩).Readers ≤ i.K then 7 else 0 := by
    simp only [instrE, hR, Bool.true_eq_false, if_false, Sl.L_length]
  rw [e]
  refine ex_call (w_code_Jumps i) fun (y : Bool) hj => ?_
  simp only [hj]
  refine ⟨fun h => ⟨fun h1 => by rw [if_pos ⟨h.1, h.2, h1⟩], fun h1 => ?_⟩, fun h => ?_⟩
  all_goals
    refine ex_call (w_check_rings i.Op) fun (y : Bool) hg => ?_
    simp only [hg]
    refine ⟨fun h2 => ⟨fun h3 => ?_, fun h3 => ⟨fun h4 => ⟨?_, fun h5 => ?_, fun h5 => ?_⟩, fun h4 => ?_⟩⟩, fun h2 => ⟨fun h4 => by omega, fun h4 => ?_⟩⟩
    all_goals (repeat' split) <;> first | rfl | (exfalso; omega) | omega

/-- The loops of a check: over a thread's instructions, and over the threads. -/
def insOk (rs : List TApi_Ring) (l : Sl TApi_Instr) : Prop := ∀ k, k < l.n → instrE rs (l.get k) l.n = 0
theorem l_check_Check_16 (p : TApi_Program) (hp : okP p) (hr : ∀ c ∈ p.Rings.L, rightRg c = true) (t : Nat) (ht : t < p.Threads.n) (D11 : Dyn X_check_Check_11 R_check_Check) (Q : R_check_Check → Prop)
    (hbad : ∀ y : Int × Int × Int, y.2.2 ≠ 0 → ¬ insOk p.Rings.L (p.Threads.get t) → Q y) (hgood : insOk p.Rings.L (p.Threads.get t) → D11.wp ⟨p, p.Threads, p.Threads.n, IntKind.i64.wrap ((t : Int) + 1)⟩ Q) :
    (D_check_Check_16 D11).wp ⟨p, t, p.Threads.get t, p.Threads, p.Threads.n, t, p.Threads.get t, (p.Threads.get t).n, 0⟩ Q := by
  have hl := hp.ln t ht
  refine count_wp (fun k => (⟨p, t, p.Threads.get t, p.Threads, p.Threads.n, t, p.Threads.get t, (p.Threads.get t).n, (k : Nat)⟩ : X_check_Check_16)) (p.Threads.get t).n (fun k => ∀ j, j < k → instrE p.Rings.L ((p.Threads.get t).get j) (p.Threads.get t).n = 0) Q
    (fun D hJ => ?_) (fun D k hk hJ hD => ?_) (k := 0) (Nat.zero_le _) (fun j hj => by omega)
  · simp only [tt_check_Check_16, ilt_nat, Nat.lt_irrefl, decide_false, wp_false]
    exact of_wp (hgood hJ)
  · simp only [tt_check_Check_16, ilt_nat, hk, decide_true, wp_true, inb_nat hk, wp_need_true, Int.toNat_natCast, next64 hk hl]
    refine wp_call (w_check_instr p _ _ (hp.ins t ht k hk) hl hr) fun (y : Int) hy => ?_
    subst hy
    simp only [TT.wp, bnot_iff, ieq_iff]
    refine ⟨fun h => hbad _ h fun hok => h (hok k hk), fun h => hD fun j hj => ?_⟩
    by_cases e : j = k
    · subst e; exact Classical.byContradiction h
    · exact hJ j (by omega)

theorem PInv_iff (p : TApi_Program) (h1 : 1 ≤ p.Threads.n) (h2 : p.Threads.n ≤ 8) (h3 : p.Rings.n ≤ 8) (hr : ∀ c ∈ p.Rings.L, rightRg c = true)
    (ht : ∀ t, t < p.Threads.n → (p.Threads.get t).n ≤ 256 ∧ insOk p.Rings.L (p.Threads.get t)) : PInv (aP p) where
  t1 := by simpa [aP] using h1
  t8 := by simpa [aP] using h2
  r8 := by simpa [aP] using h3
  rg := hr
  len l hl := by
    simp only [aP, List.mem_map] at hl
    obtain ⟨s, hs, rfl⟩ := hl
    obtain ⟨t, h, rfl⟩ := Sl.mem_L.1 hs
    simpa using (ht t h).1
  ins l hl i hi := by
    simp only [aP, List.mem_map] at hl
    obtain ⟨s, hs, rfl⟩ := hl
    obtain ⟨t, h, rfl⟩ := Sl.mem_L.1 hs
    obtain ⟨k, hk, rfl⟩ := Sl.mem_L.1 hi
    have := (ht t h).2 k hk
    simpa [aP] using this
theorem PInv_get {p : TApi_Program} (h : PInv (aP p)) : 1 ≤ p.Threads.n ∧ p.Threads.n ≤ 8 ∧ p.Rings.n ≤ 8 ∧ (∀ c ∈ p.Rings.L, rightRg c = true) ∧ ∀ t, t < p.Threads.n → (p.Threads.get t).n ≤ 256 ∧ insOk p.Rings.L (p.Threads.get t) := by
  have hm : ∀ t, t < p.Threads.n → (p.Threads.get t).L ∈ (aP p).Threads := fun t ht => List.mem_map.2 ⟨_, Sl.mem_L.2 ⟨t, ht, rfl⟩, rfl⟩
  refine ⟨by simpa [aP] using h.t1, by simpa [aP] using h.t8, by simpa [aP] using h.r8, h.rg, fun t ht => ⟨by simpa using h.len _ (hm t ht), fun k hk => ?_⟩⟩
  have := h.ins _ (hm t ht) _ (Sl.mem_L.2 ⟨k, hk, rfl⟩)
  simpa [aP] using this

theorem l_check_Check_11 (p : TApi_Program) (hp : okP p) (h1 : 1 ≤ p.Threads.n) (h2 : p.Threads.n ≤ 8) (h3 : p.Rings.n ≤ 8) (hr : ∀ c ∈ p.Rings.L, rightRg c = true) :
    D_check_Check_11.wp ⟨p, p.Threads, p.Threads.n, 0⟩ fun y => y.2.2 = 0 ↔ PInv (aP p) := by
  refine count_wp (fun k => (⟨p, p.Threads, p.Threads.n, (k : Nat)⟩ : X_check_Check_11)) p.Threads.n (fun k => ∀ t, t < k → (p.Threads.get t).n ≤ 256 ∧ insOk p.Rings.L (p.Threads.get t)) _
    (fun D hJ => ?_) (fun D k hk hJ hD => ?_) (k := 0) (Nat.zero_le _) (fun j hj => by omega)
  · simp only [tt_check_Check_11, ilt_nat, Nat.lt_irrefl, decide_false, wp_false]
    exact ⟨fun _ => PInv_iff p h1 h2 h3 hr hJ, fun _ => rfl⟩
  · simp only [tt_check_Check_11, ilt_nat, hk, decide_true, wp_true, inb_nat hk, wp_need_true, Int.toNat_natCast]
    refine wp_if ilt_iff (fun h => ?_) (fun h => ?_)
    · show ((4 : Int) = 0 ↔ _)
      refine ⟨fun h => by omega, fun hP => ?_⟩
      have := ((PInv_get hP).2.2.2.2 k hk).1
      omega
    · refine l_check_Check_16 p hp hr k hk D _ (fun y hy hno => ⟨fun h => absurd h hy, fun hP => absurd ((PInv_get hP).2.2.2.2 k hk).2 hno⟩) fun hok => ?_
      rw [next64 hk hp.tn]
      refine hD fun t ht => ?_
      by_cases e : t = k
      · subst e; exact ⟨by omega, hok⟩
      · exact hJ t (by omega)

theorem w_check_Check (p : TApi_Program) (hp : okP p) : D_check_Check.wp p fun y => y.2.2 = 0 ↔ PInv (aP p) := by
  have ne : ∀ {x : Int} {q : Prop}, x ≠ 0 → ¬ q → (x = 0 ↔ q) := fun h k => ⟨fun e => absurd e h, fun e => absurd e k⟩
  refine of_wp ?_
  simp only [tt_check_Check]
  refine wp_if ieq_iff (fun h => ?_) fun h0 => wp_if ilt_iff (fun h => ?_) fun h8 => wp_if ilt_iff (fun h => ?_) fun hr8 => ?_
  · exact ne (by decide) fun hP => by have := (PInv_get hP).1; omega
  · exact ne (by decide) fun hP => by have := (PInv_get hP).2.1; omega
  · exact ne (by decide) fun hP => by have := (PInv_get hP).2.2.1; omega
  · refine of_wp ?_
    simp only [tt_check_Check_4]
    refine count_wp (fun k => (⟨p, p.Rings, p.Rings.n, (k : Nat)⟩ : X_check_Check_5)) p.Rings.n (fun k => ∀ j, j < k → rightRg (p.Rings.get j) = true) _
      (fun D hJ => ?_) (fun D k hk hJ hD => ?_) (k := 0) (Nat.zero_le _) (fun j hj => by omega)
    · simp only [tt_check_Check_5, ilt_nat, Nat.lt_irrefl, decide_false, wp_false]
      refine of_wp ?_
      simp only [tt_check_Check_10]
      exact l_check_Check_11 p hp (by omega) (by omega) (by omega) fun c hc => by
        obtain ⟨j, hj, rfl⟩ := Sl.mem_L.1 hc
        exact hJ j hj
    · simp only [tt_check_Check_5, ilt_nat, hk, decide_true, wp_true, inb_nat hk, wp_need_true, Int.toNat_natCast, next64 hk hp.rn]
      refine wp_call (w_check_ring _) fun (y : Bool) hy => ?_
      simp only [TT.wp, bnot_iff, hy]
      refine ⟨fun h => ne (by decide) fun hP => h ((PInv_get hP).2.2.2.1 _ (Sl.mem_L.2 ⟨k, hk, rfl⟩)), fun h => hD fun j hj => ?_⟩
      by_cases e : j = k
      · subst e; exact Classical.byContradiction h
      · exact hJ j (by omega)

theorem w_check_Right (p : TApi_Program) (hp : okP p) : D_check_Right.wp p fun y => y = true ↔ PInv (aP p) := by
  refine of_wp ?_
  simp only [tt_check_Right]
  refine wp_call (w_check_Check p hp) fun (y : Int × Int × Int) hy => ?_
  show (ieq y.2.2 0 = true ↔ _)
  rw [ieq_iff]
  exact hy
/-! ### The references' check of a program -/
def formM (x : Int) : ByteArray :=
  if x = 1 then ⟨#[114, 48, 48, 48, 110]⟩
  else if x = 2 ∨ x = 23 then ⟨#[114, 114, 48, 48, 48]⟩
  else if 3 ≤ x ∧ x ≤ 14 then ⟨#[114, 114, 114, 48, 48]⟩
  else if x = 15 then ⟨#[48, 48, 48, 48, 112]⟩
  else if x = 16 ∨ x = 17 then ⟨#[114, 48, 48, 48, 112]⟩
  else if x = 18 then ⟨#[114, 114, 103, 109, 48]⟩
  else if x = 19 then ⟨#[114, 114, 103, 109, 100]⟩
  else if x = 20 then ⟨#[48, 48, 103, 48, 48]⟩
  else if x = 21 ∨ x = 22 ∨ x = 24 then ⟨#[114, 48, 48, 48, 48]⟩
  else if x = 25 then ⟨#[48, 48, 48, 48, 48]⟩
  else ⟨#[]⟩
def mostB (c : Int) : Int := if c = 114 ∨ c = 103 ∨ c = 100 then 7 else if c = 109 then 2 else if c = 112 then 256 else if c = 110 then 18446744073709551615 else 0

theorem w_r09_form (x : Int) : D_r09_form.wp x fun y => y = formM x := by
  refine of_wp ?_
  simp only [tt_r09_form, TT.wp, ieq_iff, ile_iff]
  repeat' (first | apply And.intro | intro _)
  all_goals first
    | (exfalso; omega)
    | (rename_i h; subst h; rfl)
    | (unfold formM; rw [if_neg (by omega), if_neg (by omega), if_pos (by omega)])
    | (unfold formM; rw [if_neg (by omega), if_neg (by omega), if_neg (by omega), if_neg (by omega), if_neg (by omega), if_neg (by omega), if_neg (by omega), if_neg (by omega), if_neg (by omega), if_neg (by omega)])
theorem w_r09_most (x : Int) : D_r09_most.wp x fun y => y = mostB x := by
  refine of_wp ?_
  simp only [tt_r09_most, TT.wp, ieq_iff]
  repeat' (first | apply And.intro | intro _)
  all_goals first
    | (rename_i h; subst h; rfl)
    | (unfold mostB; rw [if_neg (by omega), if_neg (by omega), if_neg (by omega), if_neg (by omega)])

def ins4 (i : TApi_Instr) (j : Nat) : Int := cond (Nat.beq j 0) i.A (cond (Nat.beq j 1) i.B (cond (Nat.beq j 2) i.C i.D))
theorem form_size (x : Int) : formM x = ⟨#[]⟩ ∨ (formM x).size = 5 := by
  unfold formM
  repeat' split
  all_goals first | exact .inr rfl | exact .inl rfl

theorem form_right {i : TApi_Instr} (h : okI i) : (formM i.Op ≠ ⟨#[]⟩ ∧ i.K ≤ mostB (bt (formM i.Op) 4) ∧ ∀ j, j < 4 → 0 ≤ ins4 i j ∧ ins4 i j ≤ mostB (bt (formM i.Op) j)) ↔ rightI i = true := by
  have e4 : ∀ (f : ByteArray), (∀ j, j < 4 → 0 ≤ ins4 i j ∧ ins4 i j ≤ mostB (bt f j)) ↔ (0 ≤ i.A ∧ i.A ≤ mostB (bt f 0)) ∧ (0 ≤ i.B ∧ i.B ≤ mostB (bt f 1)) ∧ (0 ≤ i.C ∧ i.C ≤ mostB (bt f 2)) ∧ (0 ≤ i.D ∧ i.D ≤ mostB (bt f 3)) := by
    intro f
    refine ⟨fun h => ⟨h 0 (by omega), h 1 (by omega), h 2 (by omega), h 3 (by omega)⟩, fun h j hj => ?_⟩
    match j, hj with
    | 0, _ => exact h.1
    | 1, _ => exact h.2.1
    | 2, _ => exact h.2.2.1
    | 3, _ => exact h.2.2.2
  rw [e4]
  obtain ⟨⟨k0, k1⟩, _⟩ := h
  have m : mostB 114 = 7 ∧ mostB 48 = 0 ∧ mostB 110 = 18446744073709551615 ∧ mostB 112 = 256 ∧ mostB 103 = 7 ∧ mostB 109 = 2 ∧ mostB 100 = 7 := by decide
  obtain ⟨m1, m2, m3, m4, m5, m6, m7⟩ := m
  have ne : ∀ {a b c d e : UInt8}, (⟨#[a, b, c, d, e]⟩ : ByteArray) ≠ ⟨#[]⟩ := fun h => by cases h
  have b5 : ∀ (a b c d e : UInt8), bt ⟨#[a, b, c, d, e]⟩ 0 = (a.toNat : Int) ∧ bt ⟨#[a, b, c, d, e]⟩ 1 = (b.toNat : Int) ∧ bt ⟨#[a, b, c, d, e]⟩ 2 = (c.toNat : Int) ∧ bt ⟨#[a, b, c, d, e]⟩ 3 = (d.toNat : Int) ∧ bt ⟨#[a, b, c, d, e]⟩ 4 = (e.toNat : Int) :=
    fun a b c d e => ⟨rfl, rfl, rfl, rfl, rfl⟩
  have u : (((114 : UInt8).toNat : Nat) : Int) = 114 ∧ (((48 : UInt8).toNat : Nat) : Int) = 48 ∧ (((110 : UInt8).toNat : Nat) : Int) = 110 ∧ (((112 : UInt8).toNat : Nat) : Int) = 112 ∧ (((103 : UInt8).toNat : Nat) : Int) = 103 ∧
      (((109 : UInt8).toNat : Nat) : Int) = 109 ∧ (((100 : UInt8).toNat : Nat) : Int) = 100 := by decide
  obtain ⟨u1, u2, u3, u4, u5, u6, u7⟩ := u
  have key : ∀ (a b c d e : UInt8), ((⟨#[a, b, c, d, e]⟩ : ByteArray) ≠ ⟨#[]⟩ ∧ i.K ≤ mostB (bt ⟨#[a, b, c, d, e]⟩ 4) ∧ (0 ≤ i.A ∧ i.A ≤ mostB (bt ⟨#[a, b, c, d, e]⟩ 0)) ∧ (0 ≤ i.B ∧ i.B ≤ mostB (bt ⟨#[a, b, c, d, e]⟩ 1)) ∧ (0 ≤ i.C ∧ i.C ≤ mostB (bt ⟨#[a, b, c, d, e]⟩ 2)) ∧ (0 ≤ i.D ∧ i.D ≤ mostB (bt ⟨#[a, b, c, d, e]⟩ 3))) ↔
      (i.K ≤ mostB e.toNat ∧ (0 ≤ i.A ∧ i.A ≤ mostB a.toNat) ∧ (0 ≤ i.B ∧ i.B ≤ mostB b.toNat) ∧ (0 ≤ i.C ∧ i.C ≤ mostB c.toNat) ∧ (0 ≤ i.D ∧ i.D ≤ mostB d.toNat)) := by
    intro a b c d e
    obtain ⟨h0, h1, h2, h3, h4⟩ := b5 a b c d e
    rw [h0, h1, h2, h3, h4]
    exact ⟨fun h => h.2, fun h => ⟨ne, h⟩⟩
  by_cases e1 : i.Op = 1
  · have hf : formM i.Op = ⟨#[114, 48, 48, 48, 110]⟩ := by rw [e1]; rfl
    rw [hf, key, u1, u2, u3, m1, m2, m3]; unfold rightI; simp only [e1]; simp; omega
  by_cases e2 : i.Op = 2 ∨ i.Op = 23
  · have hf : formM i.Op = ⟨#[114, 114, 48, 48, 48]⟩ := by unfold formM; rw [if_neg e1, if_pos e2]
    rw [hf, key, u1, u2, m1, m2]; unfold rightI; simp only [e1, e2, if_false, if_true, Bool.and_eq_true, decide_eq_true_eq]; omega
  by_cases e3 : 3 ≤ i.Op ∧ i.Op ≤ 14
  · have hf : formM i.Op = ⟨#[114, 114, 114, 48, 48]⟩ := by unfold formM; rw [if_neg e1, if_neg e2, if_pos e3]
    rw [hf, key, u1, u2, m1, m2]; unfold rightI; simp only [e1, e2, e3, if_false, if_true, and_self, Bool.and_eq_true, decide_eq_true_eq]; omega
  by_cases e4 : i.Op = 15
  · have hf : formM i.Op = ⟨#[48, 48, 48, 48, 112]⟩ := by rw [e4]; rfl
    rw [hf, key, u2, u4, m2, m4]; unfold rightI; simp only [e4]; simp; omega
  by_cases e5 : i.Op = 16 ∨ i.Op = 17
  · have hf : formM i.Op = ⟨#[114, 48, 48, 48, 112]⟩ := by unfold formM; rw [if_neg e1, if_neg e2, if_neg e3, if_neg e4, if_pos e5]
    rw [hf, key, u1, u2, u4, m1, m2, m4]; unfold rightI; simp only [e1, e2, e3, e4, e5, if_false, if_true, Bool.and_eq_true, decide_eq_true_eq]; omega
  by_cases e6 : i.Op = 18
  · have hf : formM i.Op = ⟨#[114, 114, 103, 109, 48]⟩ := by rw [e6]; rfl
    rw [hf, key, u1, u2, u5, u6, m1, m2, m5, m6]; unfold rightI; simp only [e6]; simp; omega
  by_cases e7 : i.Op = 19
  · have hf : formM i.Op = ⟨#[114, 114, 103, 109, 100]⟩ := by rw [e7]; rfl
    rw [hf, key, u1, u5, u6, u7, m1, m5, m6, m7]; unfold rightI; simp only [e7]; simp; omega
  by_cases e8 : i.Op = 20
  · have hf : formM i.Op = ⟨#[48, 48, 103, 48, 48]⟩ := by rw [e8]; rfl
    rw [hf, key, u2, u5, m2, m5]; unfold rightI; simp only [e8]; simp; omega
  by_cases e9 : i.Op = 21 ∨ i.Op = 22 ∨ i.Op = 24
  · have hf : formM i.Op = ⟨#[114, 48, 48, 48, 48]⟩ := by unfold formM; rw [if_neg e1, if_neg e2, if_neg e3, if_neg e4, if_neg e5, if_neg e6, if_neg e7, if_neg e8, if_pos e9]
    rw [hf, key, u1, u2, m1, m2]; unfold rightI; simp only [e1, e2, e3, e4, e5, e6, e7, e8, e9, if_false, if_true, Bool.and_eq_true, decide_eq_true_eq]; omega
  by_cases e10 : i.Op = 25
  · have hf : formM i.Op = ⟨#[48, 48, 48, 48, 48]⟩ := by rw [e10]; rfl
    rw [hf, key, u2, m2]; unfold rightI; simp only [e10]; simp; omega
  · have hf : formM i.Op = ⟨#[]⟩ := by unfold formM; rw [if_neg e1, if_neg e2, if_neg e3, if_neg e4, if_neg e5, if_neg e6, if_neg e7, if_neg e8, if_neg e9, if_neg e10]
    rw [hf]; unfold rightI; simp only [e1, e2, e3, e4, e5, e6, e7, e8, e9, e10, if_false, ne_eq, not_true_eq_false, false_and, Bool.false_eq_true]

theorem w_r09_Right (i : TApi_Instr) (h : okI i) : D_r09_Right.wp i fun y => y = true ↔ rightI i = true := by
  refine of_wp ?_
  simp only [tt_r09_Right]
  refine wp_call (w_r09_form i.Op) fun (y : ByteArray) hy => ?_
  subst hy
  have hR := form_right h
  have hs := form_size i.Op
  generalize formM i.Op = f at hR hs
  refine wp_if (p := f = ⟨#[]⟩) seq_iff (fun he => ?_) (fun he => ?_)
  · show (false = true ↔ _)
    rw [← hR]; exact ⟨fun h => absurd h (by decide), fun h => absurd he h.1⟩
  · have hs : f.size = 5 := hs.resolve_left he
    refine wp_need (by rw [inb_iff2, hs]; decide) ?_
    refine wp_call (w_r09_most _) fun (y : Int) hy => ?_
    subst hy
    refine wp_if ilt_iff (fun hk => ?_) (fun hk => ?_)
    · show (false = true ↔ _)
      rw [← hR]
      refine ⟨fun h => absurd h (by decide), fun h => ?_⟩
      have := h.2.1
      exact absurd hk (Int.not_lt.2 this)
    · refine of_wp ?_
      simp only [tt_r09_Right_4]
      refine count_wp (fun k => (⟨f, ⟨false, 4, ins4 i⟩, (k : Nat)⟩ : X_r09_Right_6)) 4 (fun k => ∀ j, j < k → 0 ≤ ins4 i j ∧ ins4 i j ≤ mostB (bt f j)) _
        (fun D hJ => ?_) (fun D k hk4 hJ hD => ?_) (k := 0) (Nat.zero_le _) (fun j hj => by omega)
      · simp only [tt_r09_Right_6]
        refine wp_if ilt_iff (fun hk => absurd hk (by decide)) (fun _ => ?_)
        show (true = true ↔ _)
        rw [← hR]
        exact ⟨fun _ => ⟨he, Int.not_lt.1 hk, hJ⟩, fun _ => rfl⟩
      · simp only [tt_r09_Right_6]
        refine wp_if ilt_iff (fun _ => ?_) (fun hk => absurd (Int.ofNat_lt.2 hk4) hk)
        refine wp_need (by rw [inb_iff2]; exact ⟨Int.natCast_nonneg _, Int.ofNat_lt.2 hk4⟩) ?_
        rw [Int.toNat_natCast]
        have hb : ins4 i k < 9223372036854775808 := by
          obtain ⟨_, a, b, c, d⟩ := h
          match k, hk4 with
          | 0, _ => exact a
          | 1, _ => exact b
          | 2, _ => exact c
          | 3, _ => exact d
        refine wp_if (p := ins4 i k < 0) ilt_iff (fun hn => ?_) (fun hn => ?_)
        · show (false = true ↔ _)
          rw [← hR]
          refine ⟨fun h => absurd h (by decide), fun h => ?_⟩
          have := (h.2.2 k hk4).1; omega
        · refine wp_need (by rw [inb_iff2]; exact ⟨Int.natCast_nonneg _, Int.ofNat_lt.2 hk4⟩) (wp_need (by rw [inb_iff2, hs]; omega) ?_)
          refine wp_call (w_r09_most _) fun (y : Int) hy => ?_
          subst hy
          refine wp_if (p := mostB (bt f k) < ins4 i k) (by rw [ilt_iff]; show mostB _ < IntKind.u64.wrap (ins4 i k) ↔ _; rw [wrapu64 (by omega) (by omega)]) (fun hn2 => ?_) (fun hn2 => ?_)
          · show (false = true ↔ _)
            rw [← hR]
            refine ⟨fun h => absurd h (by decide), fun h => ?_⟩
            have := (h.2.2 k hk4).2; omega
          · refine of_wp ?_
            simp only [tt_r09_Right_7]
            have e : IntKind.i64.wrap ((k : Int) + 1) = ((k + 1 : Nat) : Int) := by rw [wrap64] <;> omega
            show D.wp ⟨f, ⟨false, 4, ins4 i⟩, _⟩ _
            rw [e]
            refine hD fun j hj => ?_
            by_cases ej : j = k
            · subst ej; exact ⟨by omega, by omega⟩
            · exact hJ j (by omega)

theorem w_r11_ring (c : TApi_Ring) : D_r11_ring.wp c fun y => y = true ↔ rightRg c = true := by
  refine of_wp ?_
  simp only [tt_r11_ring, TT.wp, ile_iff, ieq_iff, Bool.false_eq_true, true_iff, false_iff, rightRg, decide_eq_true_eq]
  omega

theorem w_r11_instr (p : TApi_Program) (i : TApi_Instr) (n : Nat) (hn : n ≤ maxLen) (hr : ∀ c ∈ p.Rings.L, rightRg c = true) (hR : rightI i = true) : D_r11_instr.wp (p, (i, (n : Int))) fun y => y = instrE p.Rings.L i n := by
  have hn := maxLen_le hn
  have hw : IntKind.u64.wrap (n : Int) = n := wrapu64 (by omega) (by omega)
  have hf := rightI_facts hR
  have hrd : 0 ≤ i.C → i.C < p.Rings.n → IntKind.u64.wrap (p.Rings.get i.C.toNat).Readers = (p.Rings.L.getD i.C.toNat ⟨0, 0, 0⟩).Readers := fun h0 h1 => by
    rw [getD_L _ h0 h1]
    have := rg_cap (hr _ (Sl.mem_L.2 ⟨i.C.toNat, by omega, rfl⟩))
    exact wrapu64 (by omega) (by omega)
  have e : instrE p.Rings.L i n = if 15 ≤ i.Op ∧ i.Op ≤ 17 ∧ (n : Int) < i.K then 5 else if 18 ≤ i.Op ∧ i.Op ≤ 20 ∧ (p.Rings.n : Int) ≤ i.C then 7 else if i.Op = 19 ∧ (p.Rings.L.getD i.C.toNat ⟨0, 0, 0⟩).Readers ≤ i.K then 7 else 0 := by
    simp only [instrE, hR, Bool.true_eq_false, if_false, Sl.L_length]
  have e3 : ¬ (15 ≤ i.Op ∧ i.Op ≤ 17 ∧ (n : Int) < i.K) → D_r11_instr_3.wp (⟨p, i⟩ : X_r11_instr_3) fun y => y = instrE p.Rings.L i n := by
    intro hno
    refine of_wp ?_
    rw [e, if_neg hno]
    simp only [tt_r11_instr_3, TT.wp, ile_iff, ieq_iff, inb_iff2]
    repeat' (first | apply And.intro | intro _)
    all_goals first
      | omega
      | ((repeat' split) <;> first | rfl | (exfalso; omega) | omega)
  refine of_wp ?_
  simp only [tt_r11_instr, hw]
  refine wp_if ile_iff (fun h => wp_if ile_iff (fun h2 => wp_if ilt_iff (fun h3 => ?_) (fun h3 => ?_)) (fun h2 => ?_)) (fun h => ?_)
  · show (5 : Int) = _
    rw [e, if_pos ⟨h, h2, h3⟩]
  · exact e3 fun hh => h3 hh.2.2
  · exact e3 fun hh => h2 hh.2.1
  · exact e3 fun hh => h hh.1
theorem l_r11_Check_15 (p : TApi_Program) (hp : okP p) (hr : ∀ c ∈ p.Rings.L, rightRg c = true) (t : Nat) (ht : t < p.Threads.n) (D9 : Dyn X_r11_Check_9 R_r11_Check) (Q : R_r11_Check → Prop)
    (hbad : ∀ y : Int × Int × Int, y.2.2 ≠ 0 → ¬ insOk p.Rings.L (p.Threads.get t) → Q y) (hgood : insOk p.Rings.L (p.Threads.get t) → D9.wp ⟨p, IntKind.i64.wrap ((t : Int) + 1)⟩ Q) :
    (D_r11_Check_15 D9).wp ⟨p, t, p.Threads.get t, 0⟩ Q := by
  have hl := hp.ln t ht
  refine count_wp (fun k => (⟨p, t, p.Threads.get t, (k : Nat)⟩ : X_r11_Check_15)) (p.Threads.get t).n (fun k => ∀ j, j < k → instrE p.Rings.L ((p.Threads.get t).get j) (p.Threads.get t).n = 0) Q
    (fun D hJ => ?_) (fun D k hk hJ hD => ?_) (k := 0) (Nat.zero_le _) (fun j hj => by omega)
  · simp only [tt_r11_Check_15, ilt_nat, Nat.lt_irrefl, decide_false, wp_false]
    refine of_wp ?_
    simp only [tt_r11_Check_10]
    exact hgood hJ
  · simp only [tt_r11_Check_15, ilt_nat, hk, decide_true, wp_true, inb_nat hk, wp_need_true, Int.toNat_natCast]
    have h20 : ∀ e, e = instrE p.Rings.L ((p.Threads.get t).get k) (p.Threads.get t).n →
        (D_r11_Check_20 D9 D).wp (⟨p, t, p.Threads.get t, k, e⟩ : X_r11_Check_20) Q := by
      intro e he
      refine of_wp ?_
      simp only [tt_r11_Check_20]
      refine wp_if (p := e ≠ 0) (by rw [bnot_iff, ieq_iff]) (fun h => ?_) (fun h => ?_)
      · exact hbad (_, _, e) h fun hok => h (he.trans (hok k hk))
      · refine of_wp ?_
        simp only [tt_r11_Check_16, next64 hk hl]
        refine hD fun j hj => ?_
        by_cases ej : j = k
        · subst ej; rw [← he]; exact Classical.byContradiction h
        · exact hJ j (by omega)
    refine wp_call (w_r09_Right _ (hp.ins t ht k hk)) fun (y : Bool) hy => ?_
    refine wp_if hy (fun hR => ?_) (fun hR => ?_)
    · exact wp_need rfl (wp_call (w_r11_instr p _ _ hl hr hR) fun (y : Int) hy =>
      h20 y hy)
    · refine h20 6 ?_
      rw [instrE, if_pos (by simpa using hR)]

theorem l_r11_Check_9 (p : TApi_Program) (hp : okP p) (h1 : 1 ≤ p.Threads.n) (h2 : p.Threads.n ≤ 8) (h3 : p.Rings.n ≤ 8) (hr : ∀ c ∈ p.Rings.L, rightRg c = true) :
    D_r11_Check_9.wp ⟨p, 0⟩ fun y => y.2.2 = 0 ↔ PInv (aP p) := by
  refine count_wp (fun k => (⟨p, (k : Nat)⟩ : X_r11_Check_9)) p.Threads.n (fun k => ∀ t, t < k → (p.Threads.get t).n ≤ 256 ∧ insOk p.Rings.L (p.Threads.get t)) _
    (fun D hJ => ?_) (fun D k hk hJ hD => ?_) (k := 0) (Nat.zero_le _) (fun j hj => by omega)
  · simp only [tt_r11_Check_9, ilt_nat, Nat.lt_irrefl, decide_false, wp_false]
    exact ⟨fun _ => PInv_iff p h1 h2 h3 hr hJ, fun _ => rfl⟩
  · simp only [tt_r11_Check_9, ilt_nat, hk, decide_true, wp_true, inb_nat hk, wp_need_true, Int.toNat_natCast]
    refine wp_if ilt_iff (fun h => ?_) (fun h => ?_)
    · show ((4 : Int) = 0 ↔ _)
      refine ⟨fun h => by omega, fun hP => ?_⟩
      have := ((PInv_get hP).2.2.2.2 k hk).1
      omega
    · refine l_r11_Check_15 p hp hr k hk D _ (fun y hy hno => ⟨fun h => absurd h hy, fun hP => absurd ((PInv_get hP).2.2.2.2 k hk).2 hno⟩) fun hok => ?_
      rw [next64 hk hp.tn]
      refine hD fun t ht => ?_
      by_cases e : t = k
      · subst e; exact ⟨by omega, hok⟩
      · exact hJ t (by omega)

theorem w_r11_Check (p : TApi_Program) (hp : okP p) : D_r11_Check.wp p fun y => y.2.2 = 0 ↔ PInv (aP p) := by
  have ne : ∀ {x : Int} {q : Prop}, x ≠ 0 → ¬ q → (x = 0 ↔ q) := fun h k => ⟨fun e => absurd e h, fun e => absurd e k⟩
  refine of_wp ?_
  simp only [tt_r11_Check]
  refine wp_if ieq_iff (fun h => ?_) fun h0 => wp_if ilt_iff (fun h => ?_) fun h8 => wp_if ilt_iff (fun h => ?_) fun hr8 => ?_
  · exact ne (by decide) fun hP => by have := (PInv_get hP).1; omega
  · exact ne (by decide) fun hP => by have := (PInv_get hP).2.1; omega
  · exact ne (by decide) fun hP => by have := (PInv_get hP).2.2.1; omega
  · refine of_wp ?_
    simp only [tt_r11_Check_3]
    refine count_wp (fun k => (⟨p, (k : Nat)⟩ : X_r11_Check_4)) p.Rings.n (fun k => ∀ j, j < k → rightRg (p.Rings.get j) = true) _
      (fun D hJ => ?_) (fun D k hk hJ hD => ?_) (k := 0) (Nat.zero_le _) (fun j hj => by omega)
    · simp only [tt_r11_Check_4, ilt_nat, Nat.lt_irrefl, decide_false, wp_false]
      refine of_wp ?_
      simp only [tt_r11_Check_8]
      exact l_r11_Check_9 p hp (by omega) (by omega) (by omega) fun c hc => by
        obtain ⟨j, hj, rfl⟩ := Sl.mem_L.1 hc
        exact hJ j hj
    · simp only [tt_r11_Check_4, ilt_nat, hk, decide_true, wp_true, inb_nat hk, wp_need_true, Int.toNat_natCast, next64 hk hp.rn]
      refine wp_call (w_r11_ring _) fun (y : Bool) hy => ?_
      simp only [TT.wp, bnot_iff, hy]
      refine ⟨fun h => ne (by decide) fun hP => h ((PInv_get hP).2.2.2.1 _ (Sl.mem_L.2 ⟨k, hk, rfl⟩)), fun h => hD fun j hj => ?_⟩
      by_cases e : j = k
      · subst e; exact Classical.byContradiction h
      · exact hJ j (by omega)

theorem w_r11_Right (p : TApi_Program) (hp : okP p) : D_r11_Right.wp p fun y => y = true ↔ PInv (aP p) := by
  refine of_wp ?_
  simp only [tt_r11_Right]
  refine wp_call (w_r11_Check p hp) fun (y : Int × Int × Int) hy => ?_
  show (ieq y.2.2 0 = true ↔ _)
  rw [ieq_iff]
  exact hy
/-- A loop over all of some things. -/
theorem all_wp {P : Program} {X R : Type} {tt : Dyn X R → X → TT P R} (st : Nat → X) (N : Nat) (p : Nat → Prop) (Q : R → Prop) (hend : ∀ D, (∀ j, j < N → p j) → (tt D (st N)).wp Q)
    (hstep : ∀ (D : Dyn X R) k, k < N → (p k → D.wp (st (k + 1)) Q) → (tt D (st k)).wp Q) : (Dyn.loop tt).wp (st 0) Q :=
  count_wp st N (fun k => ∀ j, j < k → p j) Q hend
    (fun D k hk hJ hD => hstep D k hk fun h => hD fun j hj => by
      by_cases e : j = k
      · subst e; exact h
      · exact hJ j (by omega)) (Nat.zero_le _) fun j hj => by omega

theorem ff_iff {q : Prop} (h : ¬ q) : (false = true ↔ q) := ⟨fun e => absurd e (by decide), fun k => absurd k h⟩
theorem tt_iff {q : Prop} (h : q) : (true = true ↔ q) := ⟨fun _ => h, fun _ => rfl⟩
theorem dec_iff {b : Bool} {p q : Prop} (hb : b = true ↔ p) (h : p ↔ q) : (b = true ↔ q) := hb.trans h

/-- Two slices with the same elements. -/
structure SameS {α : Type} (y x : Sl α) : Prop where
  n : y.n = x.n
  g : ∀ i, i < x.n → y.get i = x.get i
theorem SameS.L {α : Type} {y x : Sl α} (h : SameS y x) : y.L = x.L := Sl.L_ext h.n fun i hi => h.g i (h.n ▸ hi)
theorem SameS.refl {α : Type} (x : Sl α) : SameS x x := ⟨rfl, fun _ _ => rfl⟩
def SlOk {α : Type} (x : Sl α) : Prop := x.nil = true → x.n = 0

theorem blt0 (i : Nat) : Nat.blt i 0 = false := rfl
theorem room_le {n b : Nat} (h : n * b ≤ 140737488351232) : (true && room (0 + n) b) = true := by simp [room]; omega

theorem w_Clone_uint64 (x : Sl Int) (h : SlOk x) (hn : x.n * 8 ≤ 140737488351232) : D_slices_Clone_uint64.wp x fun y => SameS y x ∧ SlOk y := by
  refine of_wp ?_
  simp only [tt_slices_Clone_uint64]
  refine wp_ite (fun e => ⟨⟨(h e).symm, fun i hi => by have := h e; omega⟩, fun _ => rfl⟩) fun _ => wp_need (room_le hn) ⟨⟨?_, fun i _ => rfl⟩, fun e => ?_⟩
  · exact Nat.zero_add _
  · simp only [Bool.cond_self, Bool.false_eq_true] at e
theorem w_Clone_uint64_w0 (x : Sl Int) (h : SlOk x) (hn : x.n * 8 ≤ 140737488351232) : D_slices_Clone_uint64_w0.wp x fun y => SameS y x ∧ SlOk y := by
  refine of_wp ?_
  simp only [tt_slices_Clone_uint64_w0]
  refine wp_ite (fun e => ⟨⟨(h e).symm, fun i hi => by have := h e; omega⟩, fun _ => rfl⟩) fun _ => wp_need (room_le hn) ⟨⟨?_, fun i _ => rfl⟩, fun e => ?_⟩
  · exact Nat.zero_add _
  · simp only [Bool.cond_self, Bool.false_eq_true] at e
theorem w_Clone_Slot_w0 (x : Sl TApi_Slot) (h : SlOk x) (hn : x.n * 24 ≤ 140737488351232) : D_slices_Clone_api_Slot_w0.wp x fun y => SameS y x ∧ SlOk y := by
  refine of_wp ?_
  simp only [tt_slices_Clone_api_Slot_w0]
  refine wp_ite (fun e => ⟨⟨(h e).symm, fun i hi => by have := h e; omega⟩, fun _ => rfl⟩) fun _ => wp_need (room_le hn) ⟨⟨?_, fun i _ => rfl⟩, fun e => ?_⟩
  · exact Nat.zero_add _
  · simp only [Bool.cond_self, Bool.false_eq_true] at e
theorem w_Clone_Instr (x : Sl TApi_Instr) (h : SlOk x) (hn : x.n * 48 ≤ 140737488351232) : D_slices_Clone_api_Instr.wp x fun y => SameS y x ∧ SlOk y := by
  refine of_wp ?_
  simp only [tt_slices_Clone_api_Instr]
  refine wp_ite (fun e => ⟨⟨(h e).symm, fun i hi => by have := h e; omega⟩, fun _ => rfl⟩) fun _ => wp_need (room_le hn) ⟨⟨?_, fun i _ => rfl⟩, fun e => ?_⟩
  · exact Nat.zero_add _
  · simp only [Bool.cond_self, Bool.false_eq_true] at e
theorem w_Clone_Ring (x : Sl TApi_Ring) (h : SlOk x) (hn : x.n * 24 ≤ 140737488351232) : D_slices_Clone_api_Ring.wp x fun y => SameS y x ∧ SlOk y := by
  refine of_wp ?_
  simp only [tt_slices_Clone_api_Ring]
  refine wp_ite (fun e => ⟨⟨(h e).symm, fun i hi => by have := h e; omega⟩, fun _ => rfl⟩) fun _ => wp_need (room_le hn) ⟨⟨?_, fun i _ => rfl⟩, fun e => ?_⟩
  · exact Nat.zero_add _
  · simp only [Bool.cond_self, Bool.false_eq_true] at e
theorem w_Clone_Slot_o0 (x : Ar TApi_Slot) (h : 0 < x.n) (hn : x.n * 24 ≤ 140737488351232) : D_slices_Clone_api_Slot_o0.wp x fun y => SameS y ⟨false, x.n, x.get⟩ ∧ SlOk y := by
  refine ro_wp ?_
  simp only [tt_slices_Clone_api_Slot_o0]
  refine wp_need (by simpa [Nat.blt_eq] using h) (wp_need (by simpa [room] using hn) ⟨⟨Nat.zero_add _, fun i _ => ?_⟩, fun e => ?_⟩)
  · simp [blt0]
  · simp only [Bool.cond_self, Bool.false_eq_true] at e
theorem w_Clone_uint64_o0 (x : Ar Int) (h : 0 < x.n) (hn : x.n * 8 ≤ 140737488351232) : D_slices_Clone_uint64_o0.wp x fun y => SameS y ⟨false, x.n, x.get⟩ ∧ SlOk y := by
  refine ro_wp ?_
  simp only [tt_slices_Clone_uint64_o0]
  refine wp_need (by simpa [Nat.blt_eq] using h) (wp_need (by simpa [room] using hn) ⟨⟨Nat.zero_add _, fun i _ => ?_⟩, fun e => ?_⟩)
  · simp [blt0]
  · simp only [Bool.cond_self, Bool.false_eq_true] at e
theorem w_Clone_ThreadState_o0_w0 (x : Ar TApi_ThreadState) (h : 0 < x.n) (hn : x.n * 128 ≤ 140737488351232) : D_slices_Clone_api_ThreadState_o0_w0.wp x fun y => SameS y ⟨false, x.n, x.get⟩ ∧ SlOk y := by
  refine ro_wp ?_
  simp only [tt_slices_Clone_api_ThreadState_o0_w0]
  refine wp_need (by simpa [Nat.blt_eq] using h) (wp_need (by simpa [room] using hn) ⟨⟨Nat.zero_add _, fun i _ => ?_⟩, fun e => ?_⟩)
  · simp [blt0]
  · simp only [Bool.cond_self, Bool.false_eq_true] at e

/-! ### A thread's code -/
def insC (n : Nat) (i : TApi_Instr) : Prop := rightI i = true ∧ ¬ (15 ≤ i.Op ∧ i.Op ≤ 17 ∧ (n : Int) < i.K)
def codeOk (l : Sl TApi_Instr) : Prop := l.n ≤ 256 ∧ ∀ k, k < l.n → insC l.n (l.get k)
structure okC (l : Sl TApi_Instr) : Prop where
  n : l.n ≤ maxLen
  i : ∀ k, k < l.n → okI (l.get k)

theorem w_thread_Code_1 (i : TApi_Instr) (l : Sl TApi_Instr) (hi : okI i) (hl : l.n ≤ 256) : D_thread_Code_1.wp (i, l) fun y => y = true ↔ ¬ insC l.n i := by
  refine of_wp ?_
  simp only [tt_thread_Code_1]
  refine wp_call (w_code_Right i hi) fun (y : Bool) hy => ?_
  refine wp_if bnot_iff (fun h => tt_iff fun hc => h (hy.2 hc.1)) fun h => ?_
  have hR := hy.1 (Classical.byContradiction h)
  refine wp_call (w_code_Jumps i) fun (z : Bool) hz => ?_
  refine wp_if hz (fun hj => ?_) fun hj => ff_iff fun k => k ⟨hR, fun hh => hj ⟨hh.1, hh.2.1⟩⟩
  refine dec_iff ilt_iff ?_
  rw [wrapu64 (by omega) (by omega)]
  exact ⟨fun h k => k.2 ⟨hj.1, hj.2, h⟩, fun h => Classical.byContradiction fun h2 => h ⟨hR, fun hh => h2 hh.2.2⟩⟩

theorem w_IndexFunc_Code (l m : Sl TApi_Instr) (hl : okC l) (hm : m.n ≤ 256) : D_slices_IndexFunc_api_Instr__thread_Code_1.wp (l, m) fun y => 0 ≤ y ↔ ¬ ∀ k, k < l.n → insC m.n (l.get k) := by
  refine of_wp ?_
  simp only [tt_slices_IndexFunc_api_Instr__thread_Code_1]
  refine all_wp (fun k => (⟨l, m, l.n, (k : Nat)⟩ : X_slices_IndexFunc_api_Instr__thread_Code_1_2)) l.n (fun k => insC m.n (l.get k)) _ (fun D hJ => ?_) (fun D k hk hD => ?_)
  · simp only [tt_slices_IndexFunc_api_Instr__thread_Code_1_2, ilt_nat, Nat.lt_irrefl, decide_false, wp_false]
    exact ⟨fun h => absurd h (by decide), fun h => absurd hJ h⟩
  · simp only [tt_slices_IndexFunc_api_Instr__thread_Code_1_2, ilt_nat, hk, decide_true, wp_true, inb_nat hk, wp_need_true, Int.toNat_natCast, next64 hk hl.n]
    refine wp_call (w_thread_Code_1 _ m (hl.i k hk) hm) fun (y : Bool) hy => ?_
    refine wp_if hy (fun h => ⟨fun _ k2 => h (k2 k hk), fun _ => Int.natCast_nonneg k⟩) fun h => hD (Classical.byContradiction h)

theorem w_thread_Code (l : Sl TApi_Instr) (hl : okC l) : D_thread_Code.wp l fun y => y = true ↔ codeOk l := by
  refine of_wp ?_
  simp only [tt_thread_Code]
  refine wp_if ilt_iff (fun h => ff_iff fun k => by have := k.1; omega) fun h => ?_
  have e : D_slices_ContainsFunc_api_Instr__thread_Code_1.wp (l, l) fun y => y = true ↔ ¬ ∀ k, k < l.n → insC l.n (l.get k) := by
    refine of_wp ?_
    simp only [tt_slices_ContainsFunc_api_Instr__thread_Code_1]
    refine wp_call (w_IndexFunc_Code l l hl (by omega)) fun (y : Int) hy => dec_iff ile_iff hy
  refine wp_call e fun (y : Bool) hy => ?_
  refine dec_iff bnot_iff ?_
  rw [hy]
  exact ⟨fun k => ⟨by omega, Classical.byContradiction k⟩, fun k k2 => k2 k.2⟩

theorem w_r16_Code (l : Sl TApi_Instr) (hl : okC l) : D_r16_Code.wp l fun y => y = true ↔ codeOk l := by
  refine of_wp ?_
  simp only [tt_r16_Code]
  refine wp_if ilt_iff (fun h => ff_iff fun k => by have := k.1; omega) fun h => ?_
  refine all_wp (fun k => (⟨l, (k : Nat)⟩ : X_r16_Code_4)) l.n (fun k => insC l.n (l.get k)) _ (fun D hJ => ?_) (fun D k hk hD => ?_)
  · simp only [tt_r16_Code_4, ilt_nat, Nat.lt_irrefl, decide_false, wp_false]
    exact tt_iff ⟨by omega, hJ⟩
  · simp only [tt_r16_Code_4, ilt_nat, hk, decide_true, wp_true, inb_nat hk, wp_need_true, Int.toNat_natCast]
    have hw : IntKind.u64.wrap (l.n : Int) = l.n := wrapu64 (by omega) (by omega)
    have h5 : insC l.n (l.get k) → (D_r16_Code_5 D).wp (⟨l, k⟩ : X_r16_Code_5) fun y => y = true ↔ codeOk l := fun hc => by
      refine of_wp ?_
      simp only [tt_r16_Code_5, next64 hk hl.n]
      exact hD hc
    refine wp_call (w_r09_Right _ (hl.i k hk)) fun (y : Bool) hy => ?_
    refine wp_if bnot_iff (fun h => ff_iff fun kk => h (hy.2 (kk.2 k hk).1)) fun h => ?_
    have hR := hy.1 (Classical.byContradiction h)
    rw [hw]
    refine wp_need rfl (wp_if ile_iff (fun h1 => wp_need rfl (wp_if ile_iff (fun h2 => wp_need rfl (wp_if ilt_iff (fun h3 => ?_) fun h3 => ?_)) fun h2 => ?_)) fun h1 => ?_)
    · exact ff_iff fun kk => (kk.2 k hk).2 ⟨h1, h2, h3⟩
    · exact h5 ⟨hR, fun hh => h3 hh.2.2⟩
    · exact h5 ⟨hR, fun hh => h2 hh.2.1⟩
    · exact h5 ⟨hR, fun hh => h1 hh.1⟩

/-! ### How a thread stands -/
def aT (t : TApi_ThreadState) : MT := ⟨t.At, t.Phase, t.Ring, t.Status, t.Ticket, t.Regs, t.Seen.L⟩
theorem gI_L (l : Sl TApi_Instr) {a : Int} (h0 : 0 ≤ a) (h1 : a < l.n) : gI l.L a = l.get a.toNat := by unfold gI; exact getD_L l h0 h1 zI

theorem w_thread_Right (l : Sl TApi_Instr) (t : TApi_ThreadState) (hl : okC l) (hk : 0 ≤ t.Ticket) : D_thread_Right.wp (l, t) fun y => y = true ↔ codeOk l ∧ TInv l.L (aT t) := by
  refine of_wp ?_
  simp only [tt_thread_Right]
  refine wp_call (w_thread_Code l hl) fun (y : Bool) hy => ?_
  refine wp_if bnot_iff (fun h => ff_iff fun k => h (hy.2 k.1)) fun h => ?_
  have hc := hy.1 (Classical.byContradiction h)
  have a1 : TInv l.L (aT t) → t.At ≤ l.n := fun k => by have := k.a1; simpa [aT] using this
  refine wp_if ilt_iff (fun h => ff_iff fun k => absurd k.2.a0 (Int.not_le.2 h)) fun h0 => wp_if ilt_iff (fun h => ff_iff fun k => absurd (a1 k.2) (Int.not_le.2 h)) fun h1 =>
    wp_if ilt_iff (fun h => ff_iff fun k => absurd k.2.st.1 (Int.not_le.2 h)) fun h2 => wp_if ilt_iff (fun h => ff_iff fun k => absurd k.2.st.2 (Int.not_le.2 h)) fun h3 =>
    wp_if ilt_iff (fun h => ff_iff fun k => absurd k.2.ph.1 (Int.not_le.2 h)) fun h4 => wp_if ilt_iff (fun h => ff_iff fun k => absurd k.2.ph.2 (Int.not_le.2 h)) fun h5 => ?_
  refine of_wp ?_
  simp only [tt_thread_Right_3]
  have mk : (t.Phase = 0 → t.Ring = 0 ∧ t.Ticket = 0) → (t.Phase ≠ 0 → t.Status = 0 ∧ t.At < l.n ∧ (l.get t.At.toNat).Op = 17 + t.Phase ∧ (l.get t.At.toNat).C = t.Ring ∧ t.Ticket < 4611686018427387904) → codeOk l ∧ TInv l.L (aT t) := by
    intro p0 p1
    refine ⟨hc, Int.not_lt.1 h0, ?_, ⟨Int.not_lt.1 h2, Int.not_lt.1 h3⟩, ⟨Int.not_lt.1 h4, Int.not_lt.1 h5⟩, p0, fun hp => ?_⟩
    · simpa [aT] using h1
    · obtain ⟨a, b, c, d, e⟩ := p1 hp
      refine ⟨a, by simpa [aT] using b, ?_, ?_, hk, e⟩
      · show (gI l.L t.At).Op = _; rw [gI_L l (by omega) b]; exact c
      · show (gI l.L t.At).C = _; rw [gI_L l (by omega) b]; exact d
  have un : TInv l.L (aT t) → t.Phase ≠ 0 → t.Status = 0 ∧ t.At < l.n ∧ (l.get t.At.toNat).Op = 17 + t.Phase ∧ (l.get t.At.toNat).C = t.Ring ∧ t.Ticket < 4611686018427387904 := by
    intro k hp
    obtain ⟨a, b, c, d, _, e⟩ := k.p1 hp
    have b : t.At < l.n := by simpa [aT] using b
    change (gI l.L t.At).Op = _ at c
    change (gI l.L t.At).C = _ at d
    rw [gI_L l (by omega) b] at c d
    exact ⟨a, b, c, d, e⟩
  refine wp_if ieq_iff (fun hp => wp_if ieq_iff (fun hr => ?_) fun hr => ff_iff fun k => hr (k.2.p0 hp).1) fun hp => ?_
  · refine dec_iff ieq_iff ⟨fun ht => mk (fun _ => ⟨hr, ht⟩) fun h => absurd hp h, fun k => (k.2.p0 hp).2⟩
  · refine wp_if (p := t.Status ≠ 0) (by rw [bnot_iff, ieq_iff]) (fun hs => ff_iff fun k => hs (k.2.p1 hp).1) fun hs => wp_if ieq_iff (fun ha => ff_iff fun k => by have := (un k.2 hp).2.1; omega) fun ha => ?_
    refine of_wp ?_
    simp only [tt_thread_Right_7]
    have hw : IntKind.i64.wrap (t.Phase - 1) = t.Phase - 1 := wrap64 (by omega) (by omega)
    refine wp_need (by rw [inb_iff2]; omega) (wp_need (by rw [inb_iff2, hw]; omega) ?_)
    have ho : (cond (Nat.beq (Int.toNat (IntKind.i64.wrap (t.Phase - 1))) 0) (18 : Int) (19 : Int)) = 17 + t.Phase := by
      rw [hw]
      rcases (by omega : t.Phase = 1 ∨ t.Phase = 2) with e | e <;> rw [e] <;> rfl
    rw [ho]
    refine wp_if ieq_iff (fun e1 => wp_if ieq_iff (fun e2 => ?_) fun e2 => ff_iff fun k => e2 (un k.2 hp).2.2.2.1) fun e1 => ff_iff fun k => e1 (un k.2 hp).2.2.1
    exact dec_iff ilt_iff ⟨fun ht => mk (fun h => absurd h hp) fun _ => ⟨Classical.byContradiction hs, by omega, e1, e2, ht⟩, fun k => (un k.2 hp).2.2.2.2⟩

theorem w_r16_Right (l : Sl TApi_Instr) (t : TApi_ThreadState) (hl : okC l) (hk : 0 ≤ t.Ticket) : D_r16_Right.wp (l, t) fun y => y = true ↔ codeOk l ∧ TInv l.L (aT t) := by
  refine of_wp ?_
  simp only [tt_r16_Right]
  refine wp_call (w_r16_Code l hl) fun (y : Bool) hy => ?_
  refine wp_if bnot_iff (fun h => ff_iff fun k => h (hy.2 k.1)) fun h => ?_
  have hc := hy.1 (Classical.byContradiction h)
  have a1 : TInv l.L (aT t) → t.At ≤ l.n := fun k => by have := k.a1; simpa [aT] using this
  refine wp_if ilt_iff (fun h => ff_iff fun k => absurd k.2.a0 (Int.not_le.2 h)) fun h0 => wp_if ilt_iff (fun h => ff_iff fun k => absurd (a1 k.2) (Int.not_le.2 h)) fun h1 =>
    wp_if ilt_iff (fun h => ff_iff fun k => absurd k.2.st.1 (Int.not_le.2 h)) fun h2 => wp_if ilt_iff (fun h => ff_iff fun k => absurd k.2.st.2 (Int.not_le.2 h)) fun h3 =>
    wp_if ilt_iff (fun h => ff_iff fun k => absurd k.2.ph.1 (Int.not_le.2 h)) fun h4 => wp_if ilt_iff (fun h => ff_iff fun k => absurd k.2.ph.2 (Int.not_le.2 h)) fun h5 => ?_
  refine of_wp ?_
  simp only [tt_r16_Right_3]
  have mk : (t.Phase = 0 → t.Ring = 0 ∧ t.Ticket = 0) → (t.Phase ≠ 0 → t.Status = 0 ∧ t.At < l.n ∧ (l.get t.At.toNat).Op = 17 + t.Phase ∧ (l.get t.At.toNat).C = t.Ring ∧ t.Ticket < 4611686018427387904) → codeOk l ∧ TInv l.L (aT t) := by
    intro p0 p1
    refine ⟨hc, Int.not_lt.1 h0, ?_, ⟨Int.not_lt.1 h2, Int.not_lt.1 h3⟩, ⟨Int.not_lt.1 h4, Int.not_lt.1 h5⟩, p0, fun hp => ?_⟩
    · simpa [aT] using h1
    · obtain ⟨a, b, c, d, e⟩ := p1 hp
      refine ⟨a, by simpa [aT] using b, ?_, ?_, hk, e⟩
      · show (gI l.L t.At).Op = _; rw [gI_L l (by omega) b]; exact c
      · show (gI l.L t.At).C = _; rw [gI_L l (by omega) b]; exact d
  have un : TInv l.L (aT t) → t.Phase ≠ 0 → t.Status = 0 ∧ t.At < l.n ∧ (l.get t.At.toNat).Op = 17 + t.Phase ∧ (l.get t.At.toNat).C = t.Ring ∧ t.Ticket < 4611686018427387904 := by
    intro k hp
    obtain ⟨a, b, c, d, _, e⟩ := k.p1 hp
    have b : t.At < l.n := by simpa [aT] using b
    change (gI l.L t.At).Op = _ at c
    change (gI l.L t.At).C = _ at d
    rw [gI_L l (by omega) b] at c d
    exact ⟨a, b, c, d, e⟩
  refine wp_if ieq_iff (fun hp => wp_if ieq_iff (fun hr => ?_) fun hr => ff_iff fun k => hr (k.2.p0 hp).1) fun hp => ?_
  · refine dec_iff ieq_iff ⟨fun ht => mk (fun _ => ⟨hr, ht⟩) fun h => absurd hp h, fun k => (k.2.p0 hp).2⟩
  · refine wp_if ieq_iff (fun hs => wp_if ilt_iff (fun ha => ?_) fun ha => ff_iff fun k => by have := (un k.2 hp).2.1; omega) fun hs => ff_iff fun k => hs (k.2.p1 hp).1
    have hw : IntKind.i64.wrap (17 + t.Phase) = 17 + t.Phase := wrap64 (by omega) (by omega)
    rw [hw]
    refine wp_need (by rw [inb_iff2]; omega) (wp_if ieq_iff (fun e1 => wp_need (by rw [inb_iff2]; omega) (wp_if ieq_iff (fun e2 => ?_) fun e2 => ff_iff fun k => e2 (un k.2 hp).2.2.2.1)) fun e1 => ff_iff fun k => e1 (un k.2 hp).2.2.1)
    exact dec_iff ilt_iff ⟨fun ht => mk (fun h => absurd h hp) fun _ => ⟨hs, ha, e1, e2, ht⟩, fun k => (un k.2 hp).2.2.2.2⟩
/-! ### Places -/
structure okSlot (x : TApi_Slot) : Prop where
  s0 : 0 ≤ x.Stamp
  s1 : x.Stamp < 18446744073709551616
  l0 : -9223372036854775808 ≤ x.Left
  l1 : x.Left ≤ 9223372036854775807

/-- A place that may stand so, by itself. -/
structure placeI (c nr : Int) (i : Nat) (x : TApi_Slot) : Prop where
  s1 : x.Stamp < 9223372036854775808
  at0 : x.Stamp / 2 % c = i
  free : x.Stamp % 2 = 0 → x.Value = 0 ∧ x.Left = 0
  held : x.Stamp % 2 = 1 → 1 ≤ x.Left ∧ x.Left < 2 ^ nr.toNat

theorem w_slots_may (c r : Int) : D_slots_may.wp (c, r) fun y => y = true ↔ 1 ≤ c ∧ c ≤ 64 ∧ 1 ≤ r ∧ r ≤ 8 := by
  refine of_wp ?_
  simp only [tt_slots_may, TT.wp, ile_iff, Bool.false_eq_true, false_iff]
  omega

theorem shl_readers {r : Int} (h1 : 1 ≤ r) (h8 : r ≤ 8) : shl IntKind.i64 1 r = 2 ^ r.toNat := by
  rcases (by omega : r = 1 ∨ r = 2 ∨ r = 3 ∨ r = 4 ∨ r = 5 ∨ r = 6 ∨ r = 7 ∨ r = 8) with e | e | e | e | e | e | e | e <;> subst e <;> rfl

theorem w_slots_right (i : Nat) (c r : Int) (x : TApi_Slot) (hx : okSlot x) (hc : 1 ≤ c ∧ c ≤ 64 ∧ 1 ≤ r ∧ r ≤ 8) (hi : (i : Int) < 9223372036854775808) : D_slots_right.wp ((i : Int), (c, (r, x))) fun y => y = true ↔ placeI c r i x := by
  refine of_wp ?_
  have h0 := hx.s0
  have hs := hx.s1
  simp only [tt_slots_right]
  have hd : Int.tdiv x.Stamp 2 = x.Stamp / 2 := Int.tdiv_eq_ediv_of_nonneg h0
  have hw1 : IntKind.u64.wrap (x.Stamp / 2) = x.Stamp / 2 := wrapu64 (by omega) (by omega)
  have hw2 : IntKind.u64.wrap c = c := wrapu64 (by omega) (by omega)
  have hw3 : IntKind.u64.wrap (i : Int) = i := wrapu64 (by omega) (by omega)
  have hm : Int.tmod (x.Stamp / 2) c = x.Stamp / 2 % c := Int.tmod_eq_emod_of_nonneg (by omega)
  have hm2 : Int.tmod x.Stamp 2 = x.Stamp % 2 := Int.tmod_eq_emod_of_nonneg h0
  rw [hd, hw1, hw2, hw3, hm]
  refine wp_if ile_iff (fun h => ff_iff fun k => absurd k.s1 (Int.not_lt.2 h)) fun h => wp_need (by rw [bnot_iff, ieq_iff]; omega) (wp_if (p := x.Stamp / 2 % c ≠ i) (by rw [bnot_iff, ieq_iff]) (fun h => ff_iff fun k => h k.at0) fun h2 => ?_)
  refine of_wp ?_
  simp only [tt_slots_right_3]
  rw [hm2]
  have h2 := Classical.byContradiction h2
  refine wp_if ieq_iff (fun e => wp_if ieq_iff (fun e2 => dec_iff ieq_iff ⟨fun e3 => ⟨by omega, h2, fun _ => ⟨e2, e3⟩, fun e4 => by omega⟩, fun k => (k.free e).2⟩) fun e2 => ff_iff fun k => e2 (k.free e).1) fun e => ?_
  refine wp_if ile_iff (fun e2 => wp_need (by rw [ile_iff]; omega) ?_) fun e2 => ff_iff fun k => e2 (k.held (by omega)).1
  refine dec_iff ilt_iff ?_
  rw [shl_readers hc.2.2.1 hc.2.2.2]
  exact ⟨fun e3 => ⟨by omega, h2, fun e4 => absurd e4 e, fun _ => ⟨e2, e3⟩⟩, fun k => (k.held (by omega)).2⟩

theorem w_r12_all (r : Int) (h1 : 1 ≤ r) (h8 : r ≤ 8) : D_r12_all.wp r fun y => y = 2 ^ r.toNat - 1 := by
  refine of_wp ?_
  simp only [tt_r12_all]
  obtain ⟨n, rfl⟩ : ∃ n : Nat, r = n := ⟨r.toNat, by omega⟩
  refine count_wp (fun k => (⟨n, (2 : Int) ^ k, (k : Nat)⟩ : X_r12_all_3)) n (fun _ => True) _ (fun D hJ => ?_) (fun D k hk _ hD => ?_) (k := 0) (Nat.zero_le _) trivial
  · simp only [tt_r12_all_3, ilt_nat, Nat.lt_irrefl, decide_false, wp_false]
    show IntKind.i64.wrap ((2 : Int) ^ n - 1) = 2 ^ (n : Int).toNat - 1
    rw [Int.toNat_natCast]
    have : n ≤ 8 := by omega
    rcases (by omega : n = 0 ∨ n = 1 ∨ n = 2 ∨ n = 3 ∨ n = 4 ∨ n = 5 ∨ n = 6 ∨ n = 7 ∨ n = 8) with e | e | e | e | e | e | e | e | e <;> subst e <;> rfl
  · simp only [tt_r12_all_3, ilt_nat, hk, decide_true, wp_true]
    have e1 : IntKind.i64.wrap ((2 : Int) * 2 ^ k) = 2 ^ (k + 1) := by
      rcases (by omega : k = 0 ∨ k = 1 ∨ k = 2 ∨ k = 3 ∨ k = 4 ∨ k = 5 ∨ k = 6 ∨ k = 7) with e | e | e | e | e | e | e | e <;> subst e <;> rfl
    have e2 : IntKind.i64.wrap ((k : Int) + 1) = ((k + 1 : Nat) : Int) := by rw [wrap64] <;> omega
    rw [e1, e2]
    exact hD trivial

/-- Slots that may stand so, by themselves. -/
def slotsI (c r : Int) (l : Sl TApi_Slot) : Prop := (l.n : Int) = c ∧ ∀ i, i < l.n → placeI c r i (l.get i)
structure okSs (l : Sl TApi_Slot) : Prop where
  n : l.n ≤ maxLen
  x : ∀ i, i < l.n → okSlot (l.get i)
  z : SlOk l

theorem w_r12_Right (c r : Int) (l : Sl TApi_Slot) (hl : okSs l) (hc : 1 ≤ c ∧ c ≤ 64 ∧ 1 ≤ r ∧ r ≤ 8) : D_r12_Right.wp (c, (r, l)) fun y => y = true ↔ slotsI c r l := by
  refine of_wp ?_
  simp only [tt_r12_Right]
  refine wp_if (p := (l.n : Int) ≠ c) (by rw [bnot_iff, ieq_iff]) (fun h => ff_iff fun k => h k.1) fun h => ?_
  have hn := Classical.byContradiction h
  refine all_wp (fun k => (⟨c, r, l, (k : Nat)⟩ : X_r12_Right_4)) l.n (fun k => placeI c r k (l.get k)) _ (fun D hJ => ?_) (fun D k hk hD => ?_)
  · simp only [tt_r12_Right_4, ilt_nat, Nat.lt_irrefl, decide_false, wp_false]
    exact tt_iff ⟨hn, hJ⟩
  · have hx := hl.x k hk
    have h0 := hx.s0
    have hs := hx.s1
    have hd : Int.tdiv (l.get k).Stamp 2 = (l.get k).Stamp / 2 := Int.tdiv_eq_ediv_of_nonneg h0
    have hw1 : IntKind.u64.wrap ((l.get k).Stamp / 2) = (l.get k).Stamp / 2 := wrapu64 (by omega) (by omega)
    have hw2 : IntKind.u64.wrap c = c := wrapu64 (by omega) (by omega)
    have hw3 : IntKind.u64.wrap (k : Int) = k := wrapu64 (by omega) (by omega)
    have hm : Int.tmod ((l.get k).Stamp / 2) c = (l.get k).Stamp / 2 % c := Int.tmod_eq_emod_of_nonneg (by omega)
    have hm2 : Int.tmod (l.get k).Stamp 2 = (l.get k).Stamp % 2 := Int.tmod_eq_emod_of_nonneg h0
    simp only [tt_r12_Right_4, ilt_nat, hk, decide_true, wp_true, inb_nat hk, wp_need_true, Int.toNat_natCast, hd, hw1, hw2, hw3, hm]
    have h5 : placeI c r k (l.get k) → (D_r12_Right_5 D).wp (⟨c, r, l, k⟩ : X_r12_Right_5) fun y => y = true ↔ slotsI c r l := fun hc => by
      refine of_wp ?_
      simp only [tt_r12_Right_5, next64 hk hl.n]
      exact hD hc
    refine wp_if ile_iff (fun h => ff_iff fun kk => absurd (kk.2 k hk).s1 (Int.not_lt.2 h)) fun h => wp_need (by rw [bnot_iff, ieq_iff]; omega) (wp_if (p := (l.get k).Stamp / 2 % c ≠ k) (by rw [bnot_iff, ieq_iff]) (fun h => ff_iff fun kk => h (kk.2 k hk).at0) fun h2 => ?_)
    have h2 := Classical.byContradiction h2
    refine of_wp ?_
    simp only [tt_r12_Right_10, hm2]
    refine wp_if ieq_iff (fun e => wp_if (p := (l.get k).Value ≠ 0) (by rw [bnot_iff, ieq_iff]) (fun e2 => ff_iff fun kk => e2 ((kk.2 k hk).free e).1) fun e2 => wp_if (p := (l.get k).Left ≠ 0) (by rw [bnot_iff, ieq_iff]) (fun e3 => ff_iff fun kk => e3 ((kk.2 k hk).free e).2) fun e3 => ?_) fun e => ?_
    · refine wp_if ieq_iff (fun e4 => by omega) fun _ => h5 ⟨by omega, h2, fun _ => ⟨Classical.byContradiction e2, Classical.byContradiction e3⟩, fun e4 => by omega⟩
    · refine wp_if ieq_iff (fun e4 => wp_if ilt_iff (fun e5 => ff_iff fun kk => absurd ((kk.2 k hk).held e4).1 (Int.not_le.2 e5)) fun e5 => ?_) fun e4 => by omega
      refine wp_call (w_r12_all r hc.2.2.1 hc.2.2.2) fun (y : Int) hy => ?_
      subst hy
      refine wp_if ilt_iff (fun e6 => ff_iff fun kk => ?_) fun e6 => h5 ⟨by omega, h2, fun e7 => absurd e7 e, fun _ => ⟨by omega, by omega⟩⟩
      have := ((kk.2 k hk).held e4).2
      omega

theorem w_slots_Load (c r : Int) (l : Sl TApi_Slot) (hl : okSs l) (hc : 1 ≤ c ∧ c ≤ 64 ∧ 1 ≤ r ∧ r ≤ 8) :
    D_slots_Load.wp (c, (r, l)) fun y => (slotsI c r l ∧ y.2 = 0 ∧ y.1.nil = false ∧ SameS y.1.x.l l ∧ y.1.x.readers = r ∧ SlOk y.1.x.l) ∨ (¬ slotsI c r l ∧ y.2 = 3 ∧ y.1.nil = true) := by
  refine of_wp ?_
  simp only [tt_slots_Load]
  refine wp_call (w_slots_may c r) fun (y : Bool) hy => ?_
  refine wp_if bnot_iff (fun h => absurd (hy.2 hc) h) fun _ => ?_
  refine wp_if (p := (l.n : Int) ≠ c) (by rw [bnot_iff, ieq_iff]) (fun h => .inr ⟨fun k => h k.1, rfl, rfl⟩) fun h => ?_
  have hn := Classical.byContradiction h
  refine all_wp (fun k => (⟨c, r, l, l, l.n, (k : Nat)⟩ : X_slots_Load_6)) l.n (fun k => placeI c r k (l.get k)) _ (fun D hJ => ?_) (fun D k hk hD => ?_)
  · simp only [tt_slots_Load_6, ilt_nat, Nat.lt_irrefl, decide_false, wp_false]
    refine of_wp ?_
    simp only [tt_slots_Load_11]
    refine wp_call (w_Clone_Slot_w0 l hl.z (by omega)) fun (y : Sl TApi_Slot) hy => ?_
    exact .inl ⟨⟨hn, hJ⟩, rfl, rfl, hy.1, rfl, hy.2⟩
  · simp only [tt_slots_Load_6, ilt_nat, hk, decide_true, wp_true, inb_nat hk, wp_need_true, Int.toNat_natCast, next64 hk hl.n]
    refine wp_call (w_slots_right k c r _ (hl.x k hk) hc (by have := maxLen_le hl.n; omega)) fun (y : Bool) hy => ?_
    refine wp_if bnot_iff (fun h => .inr ⟨fun kk => h (hy.2 (kk.2 k hk)), rfl, rfl⟩) fun h => hD (hy.1 (Classical.byContradiction h))
/-! ### A ring's places beside its heads -/
def standJ (c : Int) (x : TApi_Slot) (h : Int) (j : Nat) : Prop :=
  (x.Stamp % 2 = 1 → bitI x.Left j = false → x.Stamp / 2 < h) ∧ (x.Stamp % 2 = 0 → c ≤ x.Stamp / 2 → x.Stamp / 2 - c < h)
def standI (c tail : Int) (heads : Sl Int) (x : TApi_Slot) : Prop := (x.Stamp % 2 = 1 → x.Stamp / 2 < tail) ∧ ∀ j, j < heads.n → standJ c x (heads.get j) j

theorem and_bit : ∀ (x : Fin 256) (j : Fin 8), decide (Vm.bits .and IntKind.i64 (shr IntKind.i64 (x.val : Int) (j.val : Int)) 1 = 0) = !bitI (x.val : Int) (j.val : Int) := by decide +kernel
theorem and_bit' {x : Int} {j : Nat} (h0 : 0 ≤ x) (h1 : x < 256) (hj : j < 8) : Vm.bits .and IntKind.i64 (shr IntKind.i64 x (j : Int)) 1 = 0 ↔ bitI x (j : Int) = false := by
  have := and_bit ⟨x.toNat, by omega⟩ ⟨j, hj⟩
  simp only [show ((x.toNat : Nat) : Int) = x by omega] at this
  exact decide_eq_true_iff.symm.trans (by rw [this]; simp)
theorem half_bit : ∀ (x : Fin 256) (j : Fin 8), IntKind.i64.wrap (Int.tdiv ((x.val : Int) / 2 ^ j.val) 2) = (x.val : Int) / 2 ^ (j.val + 1) ∧ (Int.tmod ((x.val : Int) / 2 ^ j.val) 2 = 0 ↔ bitI (x.val : Int) (j.val : Int) = false) := by decide +kernel
theorem half_bit' {x : Int} {j : Nat} (h0 : 0 ≤ x) (h1 : x < 256) (hj : j < 8) : IntKind.i64.wrap (Int.tdiv (x / 2 ^ j) 2) = x / 2 ^ (j + 1) ∧ (Int.tmod (x / 2 ^ j) 2 = 0 ↔ bitI x (j : Int) = false) := by
  have := half_bit ⟨x.toNat, by omega⟩ ⟨j, hj⟩
  simpa only [show ((x.toNat : Nat) : Int) = x by omega] using this

structure okHs (l : Sl Int) : Prop where
  n : l.n ≤ 8
  h : ∀ j, j < l.n → 0 ≤ l.get j ∧ l.get j < 18446744073709551616

theorem w_ring_stands (x : TApi_Slot) (r : TRing_Ring) (hx : 0 ≤ x.Stamp ∧ x.Stamp < 9223372036854775808) (hl : 0 ≤ x.Left ∧ x.Left < 256) (hh : okHs r.cursors.heads) (hm : 0 ≤ r.most ∧ r.most ≤ 64) :
    D_ring_Ring_stands.wp (x, r) fun y => y = true ↔ standI r.most r.cursors.tail r.cursors.heads x := by
  refine ro_wp ?_
  simp only [tt_ring_Ring_stands]
  have hd : Int.tdiv x.Stamp 2 = x.Stamp / 2 := Int.tdiv_eq_ediv_of_nonneg hx.1
  have hw1 : IntKind.u64.wrap (x.Stamp / 2) = x.Stamp / 2 := wrapu64 (by omega) (by omega)
  have hm2 : Int.tmod x.Stamp 2 = x.Stamp % 2 := Int.tmod_eq_emod_of_nonneg hx.1
  rw [hd, hw1, hm2]
  have h5 : (x.Stamp % 2 = 1 → x.Stamp / 2 < r.cursors.tail) → D_ring_Ring_stands_5.wp (⟨x, x.Stamp / 2, ieq (x.Stamp % 2) 1, r⟩ : X_ring_Ring_stands_5) fun y => y.1 = true ↔ standI r.most r.cursors.tail r.cursors.heads x := by
    intro ht
    refine of_wp ?_
    simp only [tt_ring_Ring_stands_5]
    refine all_wp (fun k => (⟨x, x.Stamp / 2, ieq (x.Stamp % 2) 1, r.cursors.heads.n, (k : Nat), r⟩ : X_ring_Ring_stands_6)) r.cursors.heads.n (fun k => standJ r.most x (r.cursors.heads.get k) k) _ (fun D hJ => ?_) (fun D k hk hD => ?_)
    · simp only [tt_ring_Ring_stands_6, ilt_nat, Nat.lt_irrefl, decide_false, wp_false]
      exact wp_need (by simp) (tt_iff ⟨ht, hJ⟩)
    · have hn := hh.n
      have hg := hh.h k hk
      have e2 : IntKind.i64.wrap ((k : Int) + 1) = ((k + 1 : Nat) : Int) := by rw [wrap64] <;> omega
      simp only [tt_ring_Ring_stands_6, ilt_nat, hk, decide_true, wp_true, inb_nat hk, wp_need_true, Int.toNat_natCast, Nat.zero_add]
      refine wp_need (by simp) ?_
      have hb := and_bit' hl.1 hl.2 (Nat.lt_of_lt_of_le hk hn)
      have h12 : standJ r.most x (r.cursors.heads.get k) k → (D_ring_Ring_stands_12 D).wp (⟨x, x.Stamp / 2, ieq (x.Stamp % 2) 1, r.cursors.heads.n, k, r⟩ : X_ring_Ring_stands_12) fun y => y.1 = true ↔ standI r.most r.cursors.tail r.cursors.heads x := fun hc => by
        refine of_wp ?_
        simp only [tt_ring_Ring_stands_12, e2]
        exact hD hc
      refine wp_if ieq_iff (fun ho => ?_) fun ho => ?_
      · have nh : ∀ {t e : TT Tryz.prog RR_ring_Ring_stands} {Q}, e.wp Q → (TT.ite (!(ieq (x.Stamp % 2) 1)) t e).wp Q := fun h => wp_ite (fun k => by rw [bnot_iff, ieq_iff] at k; exact absurd ho k) fun _ => h
        refine wp_need (by rw [ile_iff]; omega) (wp_if (ieq_iff.trans hb) (fun hz => wp_if ile_iff (fun hle => wp_need (by simp) (ff_iff fun kk => ?_)) fun hle => nh (h12 ⟨fun _ _ => by omega, fun e => by omega⟩)) fun hz => nh (h12 ⟨fun _ e => absurd e hz, fun e => by omega⟩))
        have := (kk.2 k hk).1 ho hz
        omega
      · refine wp_ite (fun _ => wp_if ile_iff (fun h1 => ?_) fun h1 => h12 ⟨fun e => absurd e ho, fun _ e => absurd e h1⟩) fun k => absurd (bnot_iff.2 fun e => ho (ieq_iff.1 e)) k
        rw [wrapu64 (by omega) (by omega)]
        refine wp_if ile_iff (fun h2 => wp_need (by simp) (ff_iff fun kk => ?_)) fun h2 => h12 ⟨fun e => absurd e ho, fun _ _ => by omega⟩
        have := (kk.2 k hk).2 (by omega) h1
        omega
  refine wp_if ieq_iff (fun ho => wp_if ile_iff (fun ht => ff_iff fun k => absurd (k.1 ho) (Int.not_lt.2 ht)) fun ht => h5 fun _ => by omega) fun ho => h5 fun e => absurd e ho

theorem w_r13_place (x : TApi_Slot) (c tail : Int) (hs : Sl Int) (hx : 0 ≤ x.Stamp ∧ x.Stamp < 9223372036854775808) (hl : 0 ≤ x.Left ∧ x.Left < 256) (hh : okHs hs) (hm : 0 ≤ c ∧ c ≤ 64) :
    D_r13_place.wp (x, (c, (tail, hs))) fun y => y = true ↔ standI c tail hs x := by
  refine of_wp ?_
  simp only [tt_r13_place]
  have hd : Int.tdiv x.Stamp 2 = x.Stamp / 2 := Int.tdiv_eq_ediv_of_nonneg hx.1
  have hw1 : IntKind.u64.wrap (x.Stamp / 2) = x.Stamp / 2 := wrapu64 (by omega) (by omega)
  have hm2 : Int.tmod x.Stamp 2 = x.Stamp % 2 := Int.tmod_eq_emod_of_nonneg hx.1
  rw [hd, hw1, hm2]
  have h5 : (x.Stamp % 2 = 1 → x.Stamp / 2 < tail) → D_r13_place_4.wp (⟨c, hs, x, x.Stamp / 2⟩ : X_r13_place_4) fun y => y = true ↔ standI c tail hs x := by
    intro ht
    refine of_wp ?_
    simp only [tt_r13_place_4]
    have e0 : x.Left = x.Left / 2 ^ 0 := by simp
    show Dyn.wp _ (⟨c, hs, x, x.Stamp / 2, x.Left, ((0 : Nat) : Int)⟩ : X_r13_place_6) _
    rw [e0]
    refine all_wp (fun k => (⟨c, hs, x, x.Stamp / 2, x.Left / 2 ^ k, (k : Nat)⟩ : X_r13_place_6)) hs.n (fun k => standJ c x (hs.get k) k) _ (fun D hJ => ?_) (fun D k hk hD => ?_)
    · simp only [tt_r13_place_6, ilt_nat, Nat.lt_irrefl, decide_false, wp_false]
      exact tt_iff ⟨ht, hJ⟩
    · have hn := hh.n
      have hg := hh.h k hk
      have e2 : IntKind.i64.wrap ((k : Int) + 1) = ((k + 1 : Nat) : Int) := by rw [wrap64] <;> omega
      obtain ⟨hb1, hb2⟩ := half_bit' hl.1 hl.2 (Nat.lt_of_lt_of_le hk hn)
      simp only [tt_r13_place_6, ilt_nat, hk, decide_true, wp_true, inb_nat hk, Int.toNat_natCast, hm2]
      have h12 : standJ c x (hs.get k) k → (D_r13_place_12 D).wp (⟨c, hs, x, x.Stamp / 2, x.Left / 2 ^ k, k⟩ : X_r13_place_12) fun y => y = true ↔ standI c tail hs x := fun hc => by
        refine of_wp ?_
        simp only [tt_r13_place_12, hb1]
        refine of_wp ?_
        simp only [tt_r13_place_7, e2]
        exact hD hc
      have h10 : (x.Stamp % 2 = 1 → bitI x.Left k = false → x.Stamp / 2 < hs.get k) → (D_r13_place_10 D).wp (⟨c, hs, x, x.Stamp / 2, x.Left / 2 ^ k, k⟩ : X_r13_place_10) fun y => y = true ↔ standI c tail hs x := fun hc => by
        refine of_wp ?_
        simp only [tt_r13_place_10, hm2, inb_nat hk, Int.toNat_natCast]
        refine wp_if ieq_iff (fun ho => wp_if ile_iff (fun h1 => wp_need rfl ?_) fun h1 => h12 ⟨hc, fun _ e => absurd e h1⟩) fun ho => h12 ⟨hc, fun e => absurd e ho⟩
        rw [wrapu64 (by omega) (by omega)]
        refine wp_if ile_iff (fun h2 => ff_iff fun kk => ?_) fun h2 => h12 ⟨hc, fun _ _ => by omega⟩
        have := (kk.2 k hk).2 ho h1
        omega
      refine wp_if ieq_iff (fun ho => wp_if (ieq_iff.trans hb2) (fun hz => wp_need rfl (wp_if ile_iff (fun hle => ff_iff fun kk => ?_) fun hle => h10 fun _ _ => by omega)) fun hz => h10 fun _ e => absurd e hz) fun ho => h10 fun e => absurd e ho
      have := (kk.2 k hk).1 ho hz
      omega
  refine wp_if ieq_iff (fun ho => wp_if ile_iff (fun ht => ff_iff fun k => absurd (k.1 ho) (Int.not_lt.2 ht)) fun ht => h5 fun _ => by omega) fun ho => h5 fun e => absurd e ho

/-! ### A ring's state -/
structure okRS (s : TApi_RingState) : Prop where
  t0 : 0 ≤ s.Tail
  t1 : s.Tail < 18446744073709551616
  hn : s.Heads.n ≤ maxLen
  hh : ∀ j, j < s.Heads.n → 0 ≤ s.Heads.get j ∧ s.Heads.get j < 18446744073709551616
  hz : SlOk s.Heads
  ss : okSs s.Slots
structure ringL (c : TApi_Ring) (s : TApi_RingState) : Prop where
  sl : slotsI c.Cap c.Readers s.Slots
  rd : (s.Heads.n : Int) = c.Readers
  tb : s.Tail < 4611686018427387904
  h0 : ∀ j, j < s.Heads.n → s.Heads.get j ≤ s.Tail ∧ s.Tail - s.Heads.get j ≤ c.Cap
  st : ∀ i, i < s.Slots.n → standI c.Cap s.Tail s.Heads (s.Slots.get i)

theorem rg_facts {c : TApi_Ring} (h : rightRg c = true) : 1 ≤ c.Cap ∧ c.Cap ≤ 64 ∧ 1 ≤ c.Readers ∧ c.Readers ≤ 8 := by
  simp only [rightRg, decide_eq_true_eq] at h; omega
theorem placeI_left {c r : Int} {i : Nat} {x : TApi_Slot} (h : placeI c r i x) (h8 : r ≤ 8) : 0 ≤ x.Left ∧ x.Left < 256 := by
  rcases (by omega : x.Stamp % 2 = 0 ∨ x.Stamp % 2 = 1) with e | e
  · have := h.free e; omega
  · have := h.held e
    have h2 : (2 : Int) ^ r.toNat ≤ 2 ^ 8 := by exact_mod_cast Nat.pow_le_pow_right (by decide) (by omega : r.toNat ≤ 8)
    omega

theorem w_r13_Loads (c : TApi_Ring) (s : TApi_RingState) (hc : rightRg c = true) (hs : okRS s) : D_r13_Loads.wp (c, s) fun y => y = true ↔ ringL c s := by
  have hc := rg_facts hc
  refine of_wp ?_
  simp only [tt_r13_Loads]
  refine wp_if (p := (s.Heads.n : Int) ≠ c.Readers) (by rw [bnot_iff, ieq_iff]) (fun h => ff_iff fun k => h k.rd) fun h1 => wp_if ile_iff (fun h => ff_iff fun k => absurd k.tb (Int.not_lt.2 h)) fun h2 => ?_
  have h1 := Classical.byContradiction h1
  refine wp_call (w_r12_Right c.Cap c.Readers s.Slots hs.ss hc) fun (y : Bool) hy => ?_
  refine wp_if bnot_iff (fun h => ff_iff fun k => h (hy.2 k.sl)) fun h => ?_
  have hsl := hy.1 (Classical.byContradiction h)
  refine of_wp ?_
  simp only [tt_r13_Loads_3]
  have t0 := hs.t0
  refine all_wp (fun k => (⟨c, s, (k : Nat)⟩ : X_r13_Loads_4)) s.Heads.n (fun j => s.Heads.get j ≤ s.Tail ∧ s.Tail - s.Heads.get j ≤ c.Cap) _ (fun D hJ => ?_) (fun D k hk hD => ?_)
  · simp only [tt_r13_Loads_4, ilt_nat, Nat.lt_irrefl, decide_false, wp_false]
    refine of_wp ?_
    simp only [tt_r13_Loads_8]
    refine all_wp (fun k => (⟨c, s, (k : Nat)⟩ : X_r13_Loads_9)) s.Slots.n (fun i => standI c.Cap s.Tail s.Heads (s.Slots.get i)) _ (fun D hJ2 => ?_) (fun D k hk hD => ?_)
    · simp only [tt_r13_Loads_9, ilt_nat, Nat.lt_irrefl, decide_false, wp_false]
      exact tt_iff ⟨hsl, h1, by omega, hJ, hJ2⟩
    · have hx := hs.ss.x k hk
      have hp := hsl.2 k hk
      simp only [tt_r13_Loads_9, ilt_nat, hk, decide_true, wp_true, inb_nat hk, wp_need_true, Int.toNat_natCast, next64 hk hs.ss.n]
      rw [wrapu64 (by omega) (by omega)]
      refine wp_call (w_r13_place _ c.Cap s.Tail s.Heads ⟨hx.s0, hp.s1⟩ (placeI_left hp hc.2.2.2) ⟨by omega, hs.hh⟩ (by omega)) fun (y : Bool) hy => ?_
      exact wp_if bnot_iff (fun h => ff_iff fun kk => h (hy.2 (kk.st k hk))) fun h => hD (hy.1 (Classical.byContradiction h))
  · have hg := hs.hh k hk
    simp only [tt_r13_Loads_4, ilt_nat, hk, decide_true, wp_true, inb_nat hk, wp_need_true, Int.toNat_natCast]
    rw [wrapu64 (z := c.Cap) (by omega) (by omega)]
    refine wp_if ilt_iff (fun h => ff_iff fun kk => ?_) fun h => wp_need rfl ?_
    · have := (kk.h0 k hk).1; omega
    · rw [wrapu64 (by omega) (by omega)]
      refine wp_if ilt_iff (fun h => ff_iff fun kk => ?_) fun h => ?_
      · have := (kk.h0 k hk).2; omega
      · refine of_wp ?_
        simp only [tt_r13_Loads_5, next64 hk hs.hn]
        exact hD ⟨by omega, by omega⟩

/-- A ring in memory. -/
structure RWf (c : TApi_Ring) (r : TRing_Ring) : Prop where
  sn : r.s.nil = false
  rd : r.s.x.readers = c.Readers
  ms : r.most = c.Cap
  hz : SlOk r.cursors.heads
  lz : SlOk r.s.x.l
  hn : (r.cursors.heads.n : Int) = c.Readers
  ln : (r.s.x.l.n : Int) = c.Cap
def aR (r : TRing_Ring) : MR := ⟨r.cursors.tail, r.cursors.heads.L, r.closed, r.s.x.l.L⟩
def aRS (s : TApi_RingState) : MR := ⟨s.Tail, s.Heads.L, s.Closed, s.Slots.L⟩
theorem w_ring_may (c : TApi_Ring) : D_ring_may.wp c fun y => y = true ↔ (c.Kind = 1 ∧ c.Readers = 1 ∨ c.Kind = 2) := by
  refine of_wp ?_
  simp only [tt_ring_may, TT.wp, ieq_iff, Bool.false_eq_true, true_iff, false_iff]
  omega
theorem w_slots_free (x : Int) (h0 : 0 ≤ x) (h1 : x < 9223372036854775808) : D_slots_free.wp x fun y => y = 2 * x := by
  refine of_wp ?_
  simp only [tt_slots_free]
  exact wrapu64 (by omega) (by omega)

def zeroS (i : Nat) : TApi_Slot := ⟨2 * (i : Int), 0, 0⟩

theorem w_slots_New (c r : Int) (hi : 1 ≤ c ∧ c ≤ 64 ∧ 1 ≤ r ∧ r ≤ 8) :
    D_slots_New.wp (c, r) fun y => y.2 = 0 ∧ y.1.nil = false ∧ SameS y.1.x.l ⟨false, c.toNat, zeroS⟩ ∧ y.1.x.readers = r ∧ SlOk y.1.x.l := by
  refine of_wp ?_
  simp only [tt_slots_New]
  refine wp_call (w_slots_may c r) fun (y : Bool) hy => ?_
  refine wp_if bnot_iff (fun h => absurd (hy.2 hi) h) fun _ => ?_
  obtain ⟨n, rfl⟩ : ∃ n : Nat, c = n := ⟨c.toNat, by omega⟩
  simp only [Int.toNat_natCast]
  refine wp_need (by simp [upto, room, ile]; omega) (wp_need (by simp) ?_)
  have hl := by
    refine loop_wp (tt := tt_slots_New_5) (fun x : X_slots_New_5 => x.q_21 = n ∧ ∃ k : Nat, x.q_22 = k ∧ k ≤ n ∧ x.m_16.l.nil = false ∧ x.m_16.l.n = n ∧ x.m_16.readers = r ∧ (∀ i, i < n → x.m_16.l.get i = if i < k then zeroS i else ⟨0, 0, 0⟩)) (fun x => (n - x.q_22).toNat)
      (fun _ y => y.2 = 0 ∧ y.1.nil = false ∧ SameS y.1.x.l ⟨false, n, zeroS⟩ ∧ y.1.x.readers = r ∧ SlOk y.1.x.l) (fun D x hI hD => ?_) (x := (⟨n, 0, ⟨⟨false, n, fun _ => ⟨0, 0, 0⟩⟩, r⟩⟩ : X_slots_New_5)) ⟨rfl, 0, rfl, by omega, rfl, rfl, rfl, fun i _ => by simp⟩
    obtain ⟨e0, k, e1, hk, hz, hn, hr, hg⟩ := hI
    obtain ⟨q21, q22, ⟨⟨z, m, g⟩, rr⟩⟩ := x
    simp only at e0 e1 hz hn hr hg hD
    subst e0 e1 hz hn hr
    simp only [tt_slots_New_5]
    refine wp_if ilt_iff (fun h => ?_) fun h => ?_
    · have hkm : k < m := by omega
      rw [wrapu64 (by omega) (by omega)]
      refine wp_call (w_slots_free k (by omega) (by omega)) fun (y : Int) hy => ?_
      subst hy
      refine wp_need (inb_nat hkm) (wp_need (by simp) (wp_need (by simp) ?_))
      have e2 : IntKind.i64.wrap ((k : Int) + 1) = ((k + 1 : Nat) : Int) := by rw [wrap64] <;> omega
      rw [e2]
      refine hD _ ⟨rfl, k + 1, rfl, hkm, rfl, rfl, rfl, fun i hi => ?_⟩ (by simp only; omega)
      simp only [Int.toNat_natCast, Nat.zero_add]
      by_cases e : i = k
      · subst e
        have := hg i hi
        simp only [this, Nat.lt_irrefl, if_false, Nat.beq_refl, cond_true, zeroS]
        rw [if_pos (by omega)]
      · have hb : Nat.beq i k = false := Bool.eq_false_iff.2 fun h => e (Nat.eq_of_beq_eq_true h)
        simp only [hb, cond_false, hg i hi]
        by_cases e3 : i < k
        · rw [if_pos e3, if_pos (by omega)]
        · rw [if_neg e3, if_neg (by omega)]
    · have : k = m := by omega
      subst this
      refine ⟨rfl, rfl, ⟨rfl, fun i hi => ?_⟩, rfl, fun e => by cases e⟩
      show g i = zeroS i
      rw [hg i hi, if_pos hi]
  exact hl

theorem replicate_L (n : Nat) (b : Bool) : (⟨b, n, fun _ => (0 : Int)⟩ : Sl Int).L = List.replicate n 0 := by
  apply List.ext_getElem
  · simp
  · intro i h1 h2; simp [Sl.L_getE]

theorem w_ring_New (c : TApi_Ring) (hc : rightRg c = true) : D_ring_New.wp c fun y => y.2 = 0 ∧ y.1.nil = false ∧ RWf c y.1.x ∧ aR y.1.x = mNewR c := by
  have hf := rg_facts hc
  refine of_wp ?_
  simp only [tt_ring_New]
  refine wp_call (w_slots_New c.Cap c.Readers hf) fun (y : Bx TSlots_Slots × Int) hy => ?_
  obtain ⟨⟨bn, ⟨sl, rd⟩⟩, er⟩ := y
  obtain ⟨rfl, rfl, hs, rfl, hz⟩ := hy
  refine wp_if (p := (0 : Int) ≠ 0) (by rw [bnot_iff, ieq_iff]) (fun h => absurd rfl h) fun _ => ?_
  refine wp_call (w_ring_may c) fun (z : Bool) hz' => ?_
  refine wp_if bnot_iff (fun h => absurd (hz'.2 (by simp only [rightRg, decide_eq_true_eq] at hc; omega)) h) fun _ => ?_
  refine of_wp ?_
  simp only [tt_ring_New_4]
  have hroom : c.Readers.toNat * 8 ≤ 140737488351232 := by omega
  refine wp_need (by simp [upto, room, ile, hroom]; omega) ⟨rfl, rfl, ⟨rfl, rfl, wrapu64 (by omega) (by omega), fun e => by (cases e), hz, by show ((c.Readers.toNat : Nat) : Int) = _; omega, by show (sl.n : Int) = _; rw [hs.n]; show ((c.Cap.toNat : Nat) : Int) = _; omega⟩, ?_⟩
  show (⟨0, _, false, sl.L⟩ : MR) = _
  rw [hs.L, replicate_L]
  rfl

theorem w_ring_Load (c : TApi_Ring) (s : TApi_RingState) (hc : rightRg c = true) (hs : okRS s) :
    D_ring_Load.wp (c, s) fun y => (ringL c s ∧ y.2 = 0 ∧ y.1.nil = false ∧ RWf c y.1.x ∧ aR y.1.x = aRS s) ∨ (¬ ringL c s ∧ y.2 = 3) := by
  have hf := rg_facts hc
  refine of_wp ?_
  simp only [tt_ring_Load]
  refine wp_call (w_ring_New c hc) fun (y : Bx TRing_Ring × Int) hy => ?_
  obtain ⟨⟨bn, r⟩, er⟩ := y
  obtain ⟨h0, h1, hw, _⟩ := hy
  simp only at h0 h1 hw
  subst h0 h1
  refine wp_if (p := (0 : Int) ≠ 0) (by rw [bnot_iff, ieq_iff]) (fun h => absurd rfl h) fun _ => ?_
  refine wp_call (w_slots_Load c.Cap c.Readers s.Slots hs.ss hf) fun (z : Bx TSlots_Slots × Int) hz => ?_
  obtain ⟨⟨zn, ⟨zl, zr⟩⟩, ze⟩ := z
  rcases hz with ⟨hsl, he, hzn, hsame, hrd, hlz⟩ | ⟨hno, he, _⟩
  · simp only at he hzn hsame hrd hlz
    subst he hzn hrd
    refine wp_if (p := (0 : Int) ≠ 0) (by rw [bnot_iff, ieq_iff]) (fun h => absurd rfl h) fun _ => ?_
    refine wp_if (p := (s.Heads.n : Int) ≠ c.Readers) (by rw [bnot_iff, ieq_iff]) (fun h => .inr ⟨fun k => h k.rd, rfl⟩) fun h1 => wp_if ile_iff (fun h => .inr ⟨fun k => absurd k.tb (Int.not_lt.2 h), rfl⟩) fun h2 => ?_
    have h1 := Classical.byContradiction h1
    refine wp_need rfl ?_
    refine of_wp ?_
    simp only [tt_ring_Load_7]
    refine wp_call (w_Clone_uint64_w0 s.Heads hs.hz (by omega)) fun (hd : Sl Int) hhd => ?_
    obtain ⟨hsm, hhz⟩ := hhd
    have t0 := hs.t0
    have hnn : hd.n = s.Heads.n := hsm.n
    rw [hnn]
    refine all_wp (fun k => (⟨s, s.Heads.n, (k : Nat), ⟨⟨s.Tail, hd⟩, ⟨false, ⟨zl, c.Readers⟩⟩, r.most, s.Closed⟩⟩ : X_ring_Load_9)) s.Heads.n (fun j => s.Heads.get j ≤ s.Tail ∧ s.Tail - s.Heads.get j ≤ c.Cap) _ (fun D hJ => ?_) (fun D k hk hD => ?_)
    · simp only [tt_ring_Load_9, ilt_nat, Nat.lt_irrefl, decide_false, wp_false]
      refine wp_need (by simp) (of_wp ?_)
      simp only [tt_ring_Load_14]
      refine all_wp (fun k => (⟨s.Slots, s.Slots.n, (k : Nat), ⟨⟨s.Tail, hd⟩, ⟨false, ⟨zl, c.Readers⟩⟩, r.most, s.Closed⟩⟩ : X_ring_Load_15)) s.Slots.n (fun i => standI c.Cap s.Tail s.Heads (s.Slots.get i)) _ (fun D hJ2 => ?_) (fun D k hk hD => ?_)
      · simp only [tt_ring_Load_15, ilt_nat, Nat.lt_irrefl, decide_false, wp_false]
        refine .inl ⟨⟨hsl, h1, by omega, hJ, hJ2⟩, rfl, rfl, ⟨rfl, rfl, hw.ms, hhz, hlz, by show (hd.n : Int) = _; omega, by show (zl.n : Int) = _; rw [hsame.n]; exact hsl.1⟩, ?_⟩
        · show (⟨s.Tail, hd.L, s.Closed, zl.L⟩ : MR) = _
          rw [hsm.L, hsame.L]; rfl
      · have hx := hs.ss.x k hk
        have hp := hsl.2 k hk
        simp only [tt_ring_Load_15, ilt_nat, hk, decide_true, wp_true, inb_nat hk, wp_need_true, Int.toNat_natCast, next64 hk hs.ss.n]
        have hok : okHs hd := ⟨by omega, fun j hj => by rw [hsm.g j (by omega)]; exact hs.hh j (by omega)⟩
        refine wp_call (w_ring_stands _ ⟨⟨s.Tail, hd⟩, ⟨false, ⟨zl, c.Readers⟩⟩, r.most, s.Closed⟩ ⟨hx.s0, hp.s1⟩ (placeI_left hp hf.2.2.2) hok (by rw [hw.ms]; omega)) fun (y : Bool) hy => ?_
        have heq : standI r.most s.Tail hd (s.Slots.get k) ↔ standI c.Cap s.Tail s.Heads (s.Slots.get k) := by
          rw [hw.ms]
          unfold standI
          rw [hsm.n]
          exact and_congr_right fun _ => ⟨fun h j hj => by have := h j hj; rwa [hsm.g j hj] at this, fun h j hj => by rw [hsm.g j hj]; exact h j hj⟩
        rw [heq] at hy
        exact wp_if bnot_iff (fun h => .inr ⟨fun kk => h (hy.2 (kk.st k hk)), rfl⟩) fun h => hD (hy.1 (Classical.byContradiction h))
    · have hg := hs.hh k hk
      have hkd : k < hd.n := by omega
      simp only [tt_ring_Load_9, ilt_nat, hk, decide_true, wp_true, inb_nat hkd, wp_need_true, Int.toNat_natCast, Nat.zero_add, hsm.g k hk]
      refine wp_need (by simp) (wp_if ilt_iff (fun h => wp_need (by simp) (.inr ⟨fun kk => ?_, rfl⟩)) fun h => ?_)
      · have := (kk.h0 k hk).1; omega
      · rw [wrapu64 (by omega) (by omega), hw.ms]
        refine wp_if ilt_iff (fun h => wp_need (by simp) (.inr ⟨fun kk => ?_, rfl⟩)) fun h => ?_
        · have := (kk.h0 k hk).2; omega
        · refine of_wp ?_
          simp only [tt_ring_Load_13, next64 hk hs.hn]
          rw [← hw.ms]
          exact hD ⟨by omega, by omega⟩
  · simp only at he
    subst he
    exact wp_if (p := (3 : Int) ≠ 0) (by rw [bnot_iff, ieq_iff]) (fun _ => .inr ⟨fun k => hno k.sl, rfl⟩) fun h => absurd (by decide) h
theorem wp_eq {X R : Type} {D : Dyn X R} {x x' : X} {Q : R → Prop} (h : D.wp x' Q) (e : x = x') : D.wp x Q := e ▸ h
theorem L_map_ext {α β γ : Type} {s : Sl α} {t : Sl β} {f : α → γ} {g : β → γ} (hn : s.n = t.n) (h : ∀ i, i < t.n → f (s.get i) = g (t.get i)) : s.L.map f = t.L.map g := by
  apply List.ext_getElem
  · simp [hn]
  · intro i h1 h2
    simp only [List.getElem_map, Sl.L_getE]
    exact h i (by simpa using h2)

/-- One more element; another one. -/
def snoc {α : Type} (s : Sl α) (y : α) : Sl α := ⟨false, s.n + 1, fun i => cond (Nat.blt i s.n) (s.get i) y⟩
def setS {α : Type} (s : Sl α) (k : Nat) (y : α) : Sl α := ⟨s.nil, s.n, fun i => cond (Nat.beq i k) y (s.get i)⟩
theorem blt_true {i n : Nat} (h : i < n) : Nat.blt i n = true := by rw [Nat.blt_eq]; exact h
theorem blt_self (n : Nat) : Nat.blt n n = false := Bool.eq_false_iff.2 fun h => by rw [Nat.blt_eq] at h; omega
theorem beq_ne {i k : Nat} (h : i ≠ k) : Nat.beq i k = false := Bool.eq_false_iff.2 fun e => h (Nat.eq_of_beq_eq_true e)
theorem snoc_lt {α : Type} {s : Sl α} {y : α} {i : Nat} (h : i < s.n) : (snoc s y).get i = s.get i := by simp [snoc, blt_true h]
theorem snoc_eq {α : Type} {s : Sl α} {y : α} : (snoc s y).get s.n = y := by simp [snoc, blt_self]
theorem setS_ne {α : Type} {s : Sl α} {y : α} {i k : Nat} (h : i ≠ k) : (setS s k y).get i = s.get i := by simp [setS, beq_ne h]
theorem setS_eq {α : Type} {s : Sl α} {y : α} {k : Nat} : (setS s k y).get k = y := by simp [setS]

/-- A copy of a program. -/
structure CopyP (y p : TApi_Program) : Prop where
  r : SameS y.Rings p.Rings
  rz : SlOk y.Rings
  n : y.Threads.n = p.Threads.n
  t : ∀ t, t < p.Threads.n → SameS (y.Threads.get t) (p.Threads.get t) ∧ SlOk (y.Threads.get t)
theorem CopyP.same {y p : TApi_Program} (h : CopyP y p) : aP y = aP p := by
  unfold aP
  rw [h.r.L, L_map_ext h.n fun i hi => (h.t i hi).1.L]
theorem SameS.okC {y x : Sl TApi_Instr} (h : SameS y x) (hx : okC x) : okC y := ⟨h.n ▸ hx.n, fun k hk => by rw [h.g k (h.n ▸ hk)]; exact hx.i k (h.n ▸ hk)⟩
theorem CopyP.okP {y p : TApi_Program} (h : CopyP y p) (hp : okP p) : okP y where
  rn := h.r.n ▸ hp.rn
  tn := h.n ▸ hp.tn
  ln t ht := by rw [(h.t t (h.n ▸ ht)).1.n]; exact hp.ln t (h.n ▸ ht)
  ins t ht k hk := by
    have := (h.t t (h.n ▸ ht)).1
    rw [this.g k (this.n ▸ hk)]; exact hp.ins t (h.n ▸ ht) k (this.n ▸ hk)
  rz := h.rz
  lz t ht := (h.t t (h.n ▸ ht)).2

theorem w_fabric_copied (p : TApi_Program) (hp : okP p) (hP : PInv (aP p)) : D_fabric_copied.wp p fun y => CopyP y p := by
  obtain ⟨_, h8, hr8, _, hl⟩ := PInv_get hP
  refine of_wp ?_
  simp only [tt_fabric_copied]
  refine wp_call (w_Clone_Ring p.Rings hp.rz (by omega)) fun (y : Sl TApi_Ring) hy => ?_
  refine loop_wp (tt := tt_fabric_copied_3) (fun x : X_fabric_copied_3 => x.q_11 = p.Threads ∧ x.q_12 = p.Threads.n ∧ ∃ k : Nat, x.q_13 = k ∧ k ≤ p.Threads.n ∧ x.m_3.Rings = y ∧ x.m_3.Threads.n = k ∧ ∀ t, t < k → SameS (x.m_3.Threads.get t) (p.Threads.get t) ∧ SlOk (x.m_3.Threads.get t))
    (fun x => (p.Threads.n - x.q_13).toNat) (fun _ y => CopyP y p) (fun D x hI hD => ?_) ⟨rfl, rfl, 0, rfl, by omega, rfl, rfl, fun t ht => by omega⟩
  obtain ⟨e0, e1, k, e2, hk, e3, hn, hg⟩ := hI
  obtain ⟨q11, q12, q13, m2, ⟨mr, mt⟩⟩ := x
  simp only at e0 e1 e2 e3 hn hg hD
  subst e0 e1 e2 e3 hn
  simp only [tt_fabric_copied_3]
  refine wp_if ilt_iff (fun h => ?_) fun h => ?_
  · have hkm : mt.n < p.Threads.n := by omega
    refine wp_need (inb_nat hkm) ?_
    rw [Int.toNat_natCast]
    refine wp_call (w_Clone_Instr (p.Threads.get mt.n) (hp.lz _ hkm) (by have := (hl _ hkm).1; omega)) fun (z : Sl TApi_Instr) hz => ?_
    refine wp_need (by simp [room]; omega) ?_
    rw [next64 hkm hp.tn]
    refine wp_eq (x' := ⟨p.Threads, p.Threads.n, ((mt.n + 1 : Nat) : Int), m2, ⟨mr, snoc mt z⟩⟩) (hD _ ⟨rfl, rfl, mt.n + 1, rfl, hkm, rfl, rfl, fun t ht => ?_⟩ (by simp only; omega)) ?_
    · by_cases e : t = mt.n
      · subst e; simp only [snoc_eq]; exact hz
      · have : t < mt.n := by omega
        simp only [snoc_lt this]; exact hg t this
    · refine congrArg (fun g => X_fabric_copied_3.mk p.Threads p.Threads.n ((mt.n + 1 : Nat) : Int) m2 ⟨mr, ⟨false, mt.n + 1, g⟩⟩) (funext fun i => ?_)
      cases Nat.blt i mt.n <;> rfl
  · exact ⟨hy.1, hy.2, by simp only; omega, fun t ht => hg t (by omega)⟩

/-! ### A fabric in memory -/
structure TWf (b : Nat) (t : TApi_ThreadState) : Prop where
  k0 : 0 ≤ t.Ticket
  k1 : t.Ticket < 18446744073709551616
  rg : ∀ j, 0 ≤ t.Regs j ∧ t.Regs j < 18446744073709551616
  sz : SlOk t.Seen
  sb : t.Seen.n ≤ b
theorem TWf_zero (b : Nat) : TWf b ⟨0, 0, 0, 0, 0, fun _ => 0, ⟨true, 0, fun _ => 0⟩⟩ := ⟨by decide, by decide, fun _ => ⟨Int.le_refl 0, (by decide : (0 : Int) < 18446744073709551616)⟩, fun _ => rfl, Nat.zero_le _⟩
structure FWf (p : TApi_Program) (b : Nat) (f : TFabric_Fabric) : Prop where
  cp : CopyP f.p p
  tn : f.threads.n = p.Threads.n
  tw : ∀ t, t < f.threads.n → TWf b (f.threads.get t)
  rn : f.rings.n = p.Rings.n
  rw : ∀ i, i < f.rings.n → (f.rings.get i).nil = false ∧ RWf (p.Rings.get i) (f.rings.get i).x
def aF (f : TFabric_Fabric) : MS := ⟨f.threads.L.map aT, f.rings.L.map fun r => aR r.x, f.now, f.reads, f.ended⟩
def aS (s : TApi_State) : MS := ⟨s.Threads.L.map aT, s.Rings.L.map aRS, s.Now, s.Reads, s.Ended⟩

theorem rg_of {p : TApi_Program} (hP : PInv (aP p)) {i : Nat} (h : i < p.Rings.n) : rightRg (p.Rings.get i) = true := (PInv_get hP).2.2.2.1 _ (Sl.mem_L.2 ⟨i, h, rfl⟩)

theorem w_fabric_New (p : TApi_Program) (hp : okP p) (b : Nat) :
    D_fabric_New.wp p fun y => (PInv (aP p) ∧ y.2 = 0 ∧ y.1.nil = false ∧ FWf p b y.1.x ∧ aF y.1.x = mNew (aP p)) ∨ (¬ PInv (aP p) ∧ y.2 = 1 ∧ y.1.nil = true) := by
  refine of_wp ?_
  simp only [tt_fabric_New]
  refine wp_call (w_check_Right p hp) fun (y : Bool) hy => ?_
  refine wp_if bnot_iff (fun h => .inr ⟨fun k => h (hy.2 k), rfl, rfl⟩) fun h => ?_
  have hP := hy.1 (Classical.byContradiction h)
  obtain ⟨_, h8, hr8, _, hl⟩ := PInv_get hP
  refine wp_call (w_fabric_copied p hp hP) fun (q : TApi_Program) hq => ?_
  refine wp_need (by simp [upto, room, ile]; omega) ?_
  rw [Int.toNat_natCast]
  refine loop_wp (tt := tt_fabric_New_5) (fun x : X_fabric_New_5 => x.q_21 = p.Rings ∧ x.q_22 = p.Rings.n ∧ ∃ k : Nat, x.q_23 = k ∧ k ≤ p.Rings.n ∧ x.m_19.p = q ∧ x.m_19.threads = ⟨false, p.Threads.n, fun _ => ⟨0, 0, 0, 0, 0, fun _ => 0, ⟨true, 0, fun _ => 0⟩⟩⟩ ∧ x.m_19.now = 0 ∧ x.m_19.reads = 0 ∧ x.m_19.ended = false ∧
      x.m_19.rings.n = k ∧ ∀ i, i < k → (x.m_19.rings.get i).nil = false ∧ RWf (p.Rings.get i) (x.m_19.rings.get i).x ∧ aR (x.m_19.rings.get i).x = mNewR (p.Rings.get i))
    (fun x => (p.Rings.n - x.q_23).toNat) (fun _ y => (PInv (aP p) ∧ y.2 = 0 ∧ y.1.nil = false ∧ FWf p b y.1.x ∧ aF y.1.x = mNew (aP p)) ∨ (¬ PInv (aP p) ∧ y.2 = 1 ∧ y.1.nil = true)) (fun D x hI hD => ?_) ⟨rfl, rfl, 0, rfl, by omega, rfl, rfl, rfl, rfl, rfl, rfl, fun t ht => by omega⟩
  obtain ⟨e0, e1, k, e2, hk, e3, e4, e5, e6, e7, hn, hg⟩ := hI
  obtain ⟨q21, q22, q23, ⟨mp, mt, mr, mn, md, me⟩⟩ := x
  simp only at e0 e1 e2 e3 e4 e5 e6 e7 hn hg hD
  subst e0 e1 e2 e3 e4 e5 e6 e7 hn
  simp only [tt_fabric_New_5]
  refine wp_if ilt_iff (fun h => ?_) fun h => ?_
  · have hkm : mr.n < p.Rings.n := by omega
    refine wp_need (inb_nat hkm) ?_
    rw [Int.toNat_natCast]
    refine wp_call (w_ring_New (p.Rings.get mr.n) (rg_of hP hkm)) fun (z : Bx TRing_Ring × Int) hz => ?_
    refine wp_need (by simp [room]; omega) ?_
    rw [next64 hkm hp.rn]
    refine wp_eq (x' := ⟨p.Rings, p.Rings.n, ((mr.n + 1 : Nat) : Int), ⟨mp, _, snoc mr z.1, 0, 0, false⟩⟩) (hD _ ⟨rfl, rfl, mr.n + 1, rfl, hkm, rfl, rfl, rfl, rfl, rfl, rfl, fun t ht => ?_⟩ (by simp only; omega)) ?_
    · by_cases e : t = mr.n
      · subst e; simp only [snoc_eq]; exact ⟨hz.2.1, hz.2.2⟩
      · have : t < mr.n := by omega
        simp only [snoc_lt this]; exact hg t this
    · refine congrArg (fun g => X_fabric_New_5.mk p.Rings p.Rings.n ((mr.n + 1 : Nat) : Int) ⟨mp, _, ⟨false, mr.n + 1, g⟩, 0, 0, false⟩) (funext fun i => ?_)
      cases Nat.blt i mr.n <;> rfl
  · have hrn : mr.n = p.Rings.n := by omega
    refine .inl ⟨hP, rfl, rfl, ⟨hq, rfl, fun t _ => TWf_zero b, hrn, fun i hi => ⟨(hg i hi).1, (hg i hi).2.1⟩⟩, ?_⟩
    unfold aF mNew
    simp only [MS.mk.injEq, and_true]
    refine ⟨?_, ?_⟩
    · simp only [aP, List.map_map]
      exact L_map_ext rfl fun i _ => rfl
    · exact L_map_ext hrn fun i hi => (hg i (hrn ▸ hi)).2.2
theorem L_map_inj {α β γ : Type} {s : Sl α} {t : Sl β} {f : α → γ} {g : β → γ} (h : s.L.map f = t.L.map g) : s.n = t.n ∧ ∀ i, i < t.n → f (s.get i) = g (t.get i) := by
  have hn : s.n = t.n := by simpa using congrArg List.length h
  refine ⟨hn, fun i hi => ?_⟩
  have h2 := congrArg (fun l => l[i]?) h
  simp only [List.getElem?_map, Sl.L_get s (hn ▸ hi), Sl.L_get t hi, Option.map_some, Option.some.injEq] at h2
  exact h2

/-! ### Two states that are alike -/
theorem w_r02_Same (a b : Sl Int) (h : a.L = b.L) (hm : a.n ≤ maxLen) : D_r02_Same.wp (a, b) fun y => y = true := by
  obtain ⟨hn, hg⟩ := Sl.L_inj h
  refine of_wp ?_
  simp only [tt_r02_Same]
  refine wp_if (p := (a.n : Int) ≠ b.n) (by rw [bnot_iff, ieq_iff]) (fun e => absurd (by rw [hn]) e) fun _ => ?_
  refine all_wp (fun k => (⟨a, b, (k : Nat)⟩ : X_r02_Same_4)) a.n (fun _ => True) _ (fun D hJ => ?_) (fun D k hk hD => ?_)
  · simp only [tt_r02_Same_4, ilt_nat, Nat.lt_irrefl, decide_false, wp_false]; rfl
  · have hk2 : k < b.n := hn ▸ hk
    simp only [tt_r02_Same_4, ilt_nat, hk, decide_true, wp_true, inb_nat hk, inb_nat hk2, wp_need_true, Int.toNat_natCast, next64 hk hm, hg k hk]
    exact wp_ite (fun e => absurd (ieq_iff.2 rfl) (bnot_iff.1 e)) fun _ => hD trivial
theorem w_r12_Same (a b : Sl TApi_Slot) (h : a.L = b.L) (hm : a.n ≤ maxLen) : D_r12_Same.wp (a, b) fun y => y = true := by
  obtain ⟨hn, hg⟩ := Sl.L_inj h
  refine of_wp ?_
  simp only [tt_r12_Same]
  refine wp_if (p := (a.n : Int) ≠ b.n) (by rw [bnot_iff, ieq_iff]) (fun e => absurd (by rw [hn]) e) fun _ => ?_
  refine all_wp (fun k => (⟨a, b, (k : Nat)⟩ : X_r12_Same_4)) a.n (fun _ => True) _ (fun D hJ => ?_) (fun D k hk hD => ?_)
  · simp only [tt_r12_Same_4, ilt_nat, Nat.lt_irrefl, decide_false, wp_false]; rfl
  · have hk2 : k < b.n := hn ▸ hk
    simp only [tt_r12_Same_4, ilt_nat, hk, decide_true, wp_true, inb_nat hk, inb_nat hk2, wp_need_true, Int.toNat_natCast, next64 hk hm, hg k hk]
    exact wp_ite (fun e => absurd (by simp only [ieq_iff.2, Bool.and_true]) (bnot_iff.1 e)) fun _ => hD trivial
theorem w_r13_Same (a b : TApi_RingState) (h : aRS a = aRS b) (hm : a.Heads.n ≤ maxLen) (hs : a.Slots.n ≤ maxLen) : D_r13_Same.wp (a, b) fun y => y = true := by
  simp only [aRS, MR.mk.injEq] at h
  obtain ⟨h1, h2, h3, h4⟩ := h
  obtain ⟨hn, hg⟩ := Sl.L_inj h2
  refine of_wp ?_
  simp only [tt_r13_Same]
  refine wp_ite (fun e => absurd (ieq_iff.2 h1) (bnot_iff.1 e)) fun _ => wp_ite (fun e => absurd (by rw [h3]; simp) (bnot_iff.1 e)) fun _ => wp_ite (fun e => absurd (ieq_iff.2 (by rw [hn])) (bnot_iff.1 e)) fun _ => ?_
  refine wp_call (w_r12_Same _ _ h4 hs) fun (y : Bool) hy => ?_
  subst hy
  refine wp_ite (fun e => absurd rfl (bnot_iff.1 e)) fun _ => of_wp ?_
  simp only [tt_r13_Same_3]
  refine all_wp (fun k => (⟨a, b, (k : Nat)⟩ : X_r13_Same_4)) a.Heads.n (fun _ => True) _ (fun D hJ => ?_) (fun D k hk hD => ?_)
  · simp only [tt_r13_Same_4, ilt_nat, Nat.lt_irrefl, decide_false, wp_false]; rfl
  · have hk2 : k < b.Heads.n := hn ▸ hk
    simp only [tt_r13_Same_4, ilt_nat, hk, decide_true, wp_true, inb_nat hk, inb_nat hk2, wp_need_true, Int.toNat_natCast, next64 hk hm, hg k hk]
    exact wp_ite (fun e => absurd (ieq_iff.2 rfl) (bnot_iff.1 e)) fun _ => hD trivial
theorem w_r16_Same (a b : TApi_ThreadState) (h : aT a = aT b) (hm : a.Seen.n ≤ maxLen) : D_r16_Same.wp (a, b) fun y => y = true := by
  simp only [aT, MT.mk.injEq] at h
  obtain ⟨h1, h2, h3, h4, h5, h6, h7⟩ := h
  refine of_wp ?_
  simp only [tt_r16_Same, h1, h2, h3, h4, h5, h6]
  have ee : ∀ z : Int, ieq z z = true := fun z => ieq_iff.2 rfl
  simp only [ee, wp_true, Bool.and_self]
  exact wp_call (w_r02_Same _ _ h7 hm) fun (y : Bool) hy => hy

structure okS (b : Nat) (s : TApi_State) : Prop where
  tn : s.Threads.n ≤ maxLen
  rn : s.Rings.n ≤ maxLen
  ts : ∀ t, t < s.Threads.n → TWf b (s.Threads.get t)
  rs : ∀ i, i < s.Rings.n → okRS (s.Rings.get i)
  n0 : 0 ≤ s.Now
  r0 : 0 ≤ s.Reads
/-- The lengths of what stands. -/
structure lenM (m : MS) : Prop where
  tn : m.Threads.length ≤ maxLen
  rn : m.Rings.length ≤ maxLen
  ts : ∀ t ∈ m.Threads, t.Seen.length ≤ maxLen
  rs : ∀ r ∈ m.Rings, r.Heads.length ≤ maxLen ∧ r.Slots.length ≤ maxLen
theorem w_r17_Same (a b : TApi_State) (h : aS a = aS b) (ha : lenM (aS a)) : D_r17_Same.wp (a, b) fun y => y = true := by
  have atn : a.Threads.n ≤ maxLen := by have := ha.tn; simpa [aS] using this
  have arn : a.Rings.n ≤ maxLen := by have := ha.rn; simpa [aS] using this
  have ats : ∀ t, t < a.Threads.n → (a.Threads.get t).Seen.n ≤ maxLen := fun t ht => by
    have := ha.ts _ (List.mem_map.2 ⟨_, Sl.mem_L.2 ⟨t, ht, rfl⟩, rfl⟩)
    simpa [aT] using this
  have ars : ∀ t, t < a.Rings.n → (a.Rings.get t).Heads.n ≤ maxLen ∧ (a.Rings.get t).Slots.n ≤ maxLen := fun t ht => by
    have := ha.rs _ (List.mem_map.2 ⟨_, Sl.mem_L.2 ⟨t, ht, rfl⟩, rfl⟩)
    simpa [aRS] using this
  simp only [aS, MS.mk.injEq] at h
  obtain ⟨h1, h2, h3, h4, h5⟩ := h
  obtain ⟨n1, g1⟩ := L_map_inj h1
  obtain ⟨n2, g2⟩ := L_map_inj h2
  refine of_wp ?_
  simp only [tt_r17_Same]
  refine wp_ite (fun e => absurd (ieq_iff.2 (by rw [n1])) (bnot_iff.1 e)) fun _ => wp_ite (fun e => absurd (ieq_iff.2 (by rw [n2])) (bnot_iff.1 e)) fun _ => wp_ite (fun e => absurd (ieq_iff.2 h3) (bnot_iff.1 e)) fun _ =>
    wp_ite (fun e => absurd (ieq_iff.2 h4) (bnot_iff.1 e)) fun _ => wp_ite (fun e => absurd (by rw [h5]; simp) (bnot_iff.1 e)) fun _ => of_wp ?_
  simp only [tt_r17_Same_3]
  refine all_wp (fun k => (⟨a, b, (k : Nat)⟩ : X_r17_Same_4)) a.Threads.n (fun _ => True) _ (fun D hJ => ?_) (fun D k hk hD => ?_)
  · simp only [tt_r17_Same_4, ilt_nat, Nat.lt_irrefl, decide_false, wp_false]
    refine of_wp ?_
    simp only [tt_r17_Same_8]
    refine all_wp (fun k => (⟨a, b, (k : Nat)⟩ : X_r17_Same_9)) a.Rings.n (fun _ => True) _ (fun D hJ => ?_) (fun D k hk hD => ?_)
    · simp only [tt_r17_Same_9, ilt_nat, Nat.lt_irrefl, decide_false, wp_false]; rfl
    · have hk2 : k < b.Rings.n := n2 ▸ hk
      simp only [tt_r17_Same_9, ilt_nat, hk, decide_true, wp_true, inb_nat hk, inb_nat hk2, wp_need_true, Int.toNat_natCast, next64 hk arn]
      refine wp_call (w_r13_Same _ _ (g2 k hk2) (ars k hk).1 (ars k hk).2) fun (y : Bool) hy => ?_
      subst hy
      exact wp_ite (fun e => absurd rfl (bnot_iff.1 e)) fun _ => hD trivial
  · have hk2 : k < b.Threads.n := n1 ▸ hk
    simp only [tt_r17_Same_4, ilt_nat, hk, decide_true, wp_true, inb_nat hk, inb_nat hk2, wp_need_true, Int.toNat_natCast, next64 hk atn]
    refine wp_call (w_r16_Same _ _ (g1 k hk2) (ats k hk)) fun (y : Bool) hy => ?_
    subst hy
    exact wp_ite (fun e => absurd rfl (bnot_iff.1 e)) fun _ => hD trivial

/-! ### A state that may be loaded -/
def pendS (rs : Sl TApi_RingState) (l : Sl TApi_Instr) (t : TApi_ThreadState) : Prop :=
  (t.Phase = 1 → t.Ticket < (rs.get t.Ring.toNat).Tail) ∧ (t.Phase = 2 → t.Ticket < (rs.get t.Ring.toNat).Heads.get (l.get t.At.toNat).K.toNat)
structure fabL (p : TApi_Program) (s : TApi_State) : Prop where
  tn : s.Threads.n = p.Threads.n
  rn : s.Rings.n = p.Rings.n
  nw : s.Now < 9223372036854775808
  ri : ∀ i, i < s.Rings.n → ringL (p.Rings.get i) (s.Rings.get i) ∧ (s.Rings.get i).Tail < 2305843009213693952
  ti : ∀ t, t < s.Threads.n → TInv (p.Threads.get t).L (aT (s.Threads.get t)) ∧ pendS s.Rings (p.Threads.get t) (s.Threads.get t)

theorem okP.c {p : TApi_Program} (h : okP p) {t : Nat} (ht : t < p.Threads.n) : okC (p.Threads.get t) := ⟨h.ln t ht, h.ins t ht⟩
theorem code_of {p : TApi_Program} (hP : PInv (aP p)) {t : Nat} (ht : t < p.Threads.n) : codeOk (p.Threads.get t) := by
  obtain ⟨h1, h2⟩ := (PInv_get hP).2.2.2.2 t ht
  refine ⟨h1, fun k hk => ?_⟩
  have := instrE_facts (h2 k hk)
  exact ⟨this.1, fun hh => by have := this.2.1 ⟨hh.1, hh.2.1⟩; omega⟩
/-- What a thread that waits waits at. -/
theorem wait_of {p : TApi_Program} (hP : PInv (aP p)) {t : Nat} (ht : t < p.Threads.n) {x : TApi_ThreadState} (hi : TInv (p.Threads.get t).L (aT x)) (hp : x.Phase ≠ 0) :
    (0 ≤ x.At ∧ x.At < (p.Threads.get t).n) ∧ (0 ≤ x.Ring ∧ x.Ring < p.Rings.n) ∧ (x.Phase = 2 → 0 ≤ ((p.Threads.get t).get x.At.toNat).K ∧ ((p.Threads.get t).get x.At.toNat).K < (p.Rings.get x.Ring.toNat).Readers) := by
  obtain ⟨_, b, c, d, _, _⟩ := hi.p1 hp
  have a0 : 0 ≤ x.At := hi.a0
  have b : x.At < (p.Threads.get t).n := by simpa [aT] using b
  change (gI (p.Threads.get t).L x.At).Op = 17 + x.Phase at c
  change (gI (p.Threads.get t).L x.At).C = x.Ring at d
  rw [gI_L _ a0 b] at c d
  have hph := hi.ph
  change 0 ≤ x.Phase ∧ x.Phase ≤ 2 at hph
  have hf := instrE_facts (((PInv_get hP).2.2.2.2 t ht).2 x.At.toNat (by omega))
  have hr := rightI_facts hf.1
  have h18 := hf.2.2.1 (by omega)
  rw [Sl.L_length, d] at h18
  have r0 : 0 ≤ x.Ring := by omega
  refine ⟨⟨a0, b⟩, ⟨r0, h18⟩, fun e => ⟨(hr.2.2.2.2.2.1 (by omega)).1, ?_⟩⟩
  have := hf.2.2.2 (by omega)
  rw [d, getD_L _ r0 h18] at this
  exact this

theorem w_r17_Loads (p : TApi_Program) (s : TApi_State) (b : Nat) (hp : okP p) (hP : PInv (aP p)) (hs : okS b s) : D_r17_Loads.wp (p, s) fun y => y = true ↔ fabL p s := by
  refine of_wp ?_
  simp only [tt_r17_Loads]
  refine wp_if (p := (s.Threads.n : Int) ≠ p.Threads.n) (by rw [bnot_iff, ieq_iff]) (fun e => ff_iff fun k => e (by rw [k.tn])) fun e1 => wp_if (p := (s.Rings.n : Int) ≠ p.Rings.n) (by rw [bnot_iff, ieq_iff]) (fun e => ff_iff fun k => e (by rw [k.rn])) fun e2 =>
    wp_if ile_iff (fun e => ff_iff fun k => absurd k.nw (Int.not_lt.2 e)) fun e3 => of_wp ?_
  have n1 : s.Threads.n = p.Threads.n := by have := Classical.byContradiction e1; omega
  have n2 : s.Rings.n = p.Rings.n := by have := Classical.byContradiction e2; omega
  simp only [tt_r17_Loads_3]
  refine all_wp (fun k => (⟨p, s, (k : Nat)⟩ : X_r17_Loads_4)) s.Rings.n (fun i => ringL (p.Rings.get i) (s.Rings.get i) ∧ (s.Rings.get i).Tail < 2305843009213693952) _ (fun D hJ => ?_) (fun D k hk hD => ?_)
  · simp only [tt_r17_Loads_4, ilt_nat, Nat.lt_irrefl, decide_false, wp_false]
    refine of_wp ?_
    simp only [tt_r17_Loads_8]
    refine all_wp (fun k => (⟨p, s, (k : Nat)⟩ : X_r17_Loads_9)) s.Threads.n (fun t => TInv (p.Threads.get t).L (aT (s.Threads.get t)) ∧ pendS s.Rings (p.Threads.get t) (s.Threads.get t)) _ (fun D hJ2 => ?_) (fun D k hk hD => ?_)
    · simp only [tt_r17_Loads_9, ilt_nat, Nat.lt_irrefl, decide_false, wp_false]
      exact tt_iff ⟨n1, n2, by omega, hJ, hJ2⟩
    · have hk2 : k < p.Threads.n := n1 ▸ hk
      simp only [tt_r17_Loads_9, ilt_nat, hk, decide_true, wp_true, inb_nat hk, inb_nat hk2, wp_need_true, Int.toNat_natCast]
      refine wp_call (w_r16_Right _ _ (hp.c hk2) (hs.ts k hk).k0) fun (y : Bool) hy => ?_
      refine wp_if bnot_iff (fun h => ff_iff fun kk => h (hy.2 ⟨code_of hP hk2, (kk.ti k hk).1⟩)) fun h => ?_
      have hT := (hy.1 (Classical.byContradiction h)).2
      have hw := fun q => wait_of hP hk2 hT q
      generalize hx : s.Threads.get k = x at *
      have h10 : pendS s.Rings (p.Threads.get k) x → (D_r17_Loads_10 D).wp (⟨p, s, k⟩ : X_r17_Loads_10) fun y => y = true ↔ fabL p s := fun hc => by
        refine of_wp ?_
        simp only [tt_r17_Loads_10, next64 hk hs.tn]
        exact hD ⟨hT, hc⟩
      have hd2 : x.Phase = 2 → inb x.Ring s.Rings.n = true ∧ inb x.At (p.Threads.get k).n = true ∧ inb ((p.Threads.get k).get x.At.toNat).K (s.Rings.get x.Ring.toNat).Heads.n = true := by
        intro e
        obtain ⟨⟨a0, a1⟩, ⟨r0, r1⟩, hK⟩ := hw (by omega)
        obtain ⟨k0, k1⟩ := hK e
        have := (hJ x.Ring.toNat (by omega)).1.rd
        simp only [inb_iff2]
        omega
      refine wp_if ieq_iff (fun e => ?_) fun e => wp_if ieq_iff (fun e => ?_) fun e2 => h10 ⟨fun h => absurd h e, fun h => absurd h e2⟩
      · obtain ⟨⟨a0, a1⟩, ⟨r0, r1⟩, _⟩ := hw (by omega)
        refine wp_need (by rw [inb_iff2]; omega) (wp_if ile_iff (fun h => ff_iff fun kk => ?_) fun h => wp_if ieq_iff (fun e2 => by omega) fun _ => h10 ⟨fun _ => by omega, fun h => by omega⟩)
        have := (kk.ti k hk).2.1
        rw [hx] at this
        have := this e
        omega
      · obtain ⟨i1, i2, i3⟩ := hd2 e
        refine wp_need i1 (wp_need rfl (wp_need i2 (wp_need i3 (wp_if ile_iff (fun h => ff_iff fun kk => ?_) fun h => h10 ⟨fun h => by omega, fun _ => by omega⟩))))
        have := (kk.ti k hk).2.2
        rw [hx] at this
        have := this e
        omega
  · have hk2 : k < p.Rings.n := n2 ▸ hk
    simp only [tt_r17_Loads_4, ilt_nat, hk, decide_true, wp_true, inb_nat hk, inb_nat hk2, wp_need_true, Int.toNat_natCast]
    refine wp_if ile_iff (fun e => ff_iff fun kk => absurd (kk.ri k hk).2 (Int.not_lt.2 e)) fun h1 => wp_need rfl (wp_need rfl ?_)
    refine wp_call (w_r13_Loads _ _ (rg_of hP hk2) (hs.rs k hk)) fun (y : Bool) hy => ?_
    refine wp_if bnot_iff (fun h => ff_iff fun kk => h (hy.2 (kk.ri k hk).1)) fun h => of_wp ?_
    simp only [tt_r17_Loads_5, next64 hk hs.rn]
    exact hD ⟨hy.1 (Classical.byContradiction h), by omega⟩
theorem wp_side' {P : Program} {R : Type} {p : Prop} {t : TT P R} {Q : R → Prop} (h : t.wp Q) : (TT.side p t).wp Q := h

theorem w_ring_Tail (r : TRing_Ring) : D_ring_Ring_Tail.wp r fun y => y = r.cursors.tail := ro_wp rfl
theorem w_ring_reader (j : Int) (c : TRing_cursors) : D_ring_cursors_reader.wp (j, c) fun y => y = true ↔ 0 ≤ j ∧ j < c.heads.n := by
  refine ro_wp ?_
  simp only [tt_ring_cursors_reader]
  exact wp_if ile_iff (fun h => wp_need (by simp) (dec_iff ilt_iff ⟨fun k => ⟨h, k⟩, fun k => k.2⟩)) fun h => ff_iff fun k => h k.1
theorem w_ring_Head (j : Int) (r : TRing_Ring) (h0 : 0 ≤ j) (h1 : j < r.cursors.heads.n) : D_ring_Ring_Head.wp (j, r) fun y => y = r.cursors.heads.get j.toNat := by
  refine ro_wp ?_
  simp only [tt_ring_Ring_Head]
  refine wp_call (w_ring_reader j r.cursors) fun (y : Bool) hy => ?_
  refine wp_if bnot_iff (fun h => absurd (hy.2 ⟨h0, h1⟩) h) fun _ => of_wp ?_
  simp only [tt_ring_Ring_Head_3, Nat.zero_add]
  exact wp_need (by rw [inb_iff2]; exact ⟨h0, h1⟩) (wp_need (by simp) (wp_need (by simp) rfl))

def pendF (rs : Sl (Bx TRing_Ring)) (l : Sl TApi_Instr) (t : TApi_ThreadState) : Prop :=
  (t.Phase = 1 → t.Ticket < (rs.get t.Ring.toNat).x.cursors.tail) ∧ (t.Phase = 2 → t.Ticket < (rs.get t.Ring.toNat).x.cursors.heads.get (l.get t.At.toNat).K.toNat)

theorem w_pending (i : Nat) (f : TFabric_Fabric) (hi : i < f.threads.n) (hp : i < f.p.Threads.n)
    (hr : (f.threads.get i).Phase ≠ 0 → 0 ≤ (f.threads.get i).Ring ∧ (f.threads.get i).Ring < f.rings.n ∧ (f.rings.get (f.threads.get i).Ring.toNat).nil = false)
    (h2 : (f.threads.get i).Phase = 2 → (0 ≤ (f.threads.get i).At ∧ (f.threads.get i).At < (f.p.Threads.get i).n) ∧
      0 ≤ ((f.p.Threads.get i).get (f.threads.get i).At.toNat).K ∧ ((f.p.Threads.get i).get (f.threads.get i).At.toNat).K < (f.rings.get (f.threads.get i).Ring.toNat).x.cursors.heads.n ∧ (f.rings.get (f.threads.get i).Ring.toNat).x.cursors.heads.n ≤ maxLen) :
    D_fabric_Fabric_pending.wp ((i : Int), f) fun y => y = true ↔ pendF f.rings (f.p.Threads.get i) (f.threads.get i) := by
  refine ro_wp ?_
  simp only [tt_fabric_Fabric_pending, Int.toNat_natCast, Nat.zero_add]
  refine wp_need (inb_nat hi) (wp_need (by simp) (wp_need (by simp) ?_))
  generalize ht : f.threads.get i = t at *
  refine wp_if ieq_iff (fun e => ?_) fun e => ?_
  · obtain ⟨r0, r1, rn⟩ := hr (by omega)
    refine wp_need (by rw [inb_iff2]; exact ⟨r0, r1⟩) (wp_need (by simp [rn]) ?_)
    refine wp_call (w_ring_Tail _) fun (y : Int) hy => ?_
    subst hy
    refine wp_need (by simp [rn]; omega) (wp_side' (wp_need (by simp) (dec_iff ilt_iff ⟨fun k => ⟨fun _ => k, fun e2 => by omega⟩, fun k => k.1 e⟩)))
  · refine wp_if ieq_iff (fun e2 => ?_) fun e2 => tt_iff ⟨fun h => absurd h e, fun h => absurd h e2⟩
    obtain ⟨r0, r1, rn⟩ := hr (by omega)
    obtain ⟨⟨a0, a1⟩, k0, k1, hm⟩ := h2 e2
    have hm := maxLen_le hm
    refine wp_need (by rw [inb_iff2]; exact ⟨r0, r1⟩) (wp_need (by simp [rn]) (wp_need (inb_nat hp) (wp_need (by rw [inb_iff2]; exact ⟨a0, a1⟩) ?_)))
    rw [wrap64 (by omega) (by omega)]
    refine wp_call (w_ring_Head _ _ k0 k1) fun (y : Int) hy => ?_
    subst hy
    exact wp_need (by simp [rn]; omega) (wp_side' (wp_need (by simp) (dec_iff ilt_iff ⟨fun k => ⟨fun h => absurd h e, fun _ => k⟩, fun k => k.2 e2⟩)))

theorem aT_seen {t : TApi_ThreadState} {y : Sl Int} (h : SameS y t.Seen) : aT ⟨t.At, t.Phase, t.Ring, t.Status, t.Ticket, t.Regs, y⟩ = aT t := by
  simp only [aT, h.L]

theorem pend_iff {xr : Sl (Bx TRing_Ring)} {rs : Sl TApi_RingState} {l l' : Sl TApi_Instr} {t : TApi_ThreadState} (hl : SameS l' l) (h : t.Phase ≠ 0 → aR (xr.get t.Ring.toNat).x = aRS (rs.get t.Ring.toNat))
    (h2 : t.Phase = 2 → (0 ≤ t.At ∧ t.At < l.n) ∧ 0 ≤ (l.get t.At.toNat).K ∧ (l.get t.At.toNat).K < (rs.get t.Ring.toNat).Heads.n) : pendF xr l' t ↔ pendS rs l t := by
  unfold pendF pendS
  refine and_congr (forall_congr' fun e => ?_) (forall_congr' fun e => ?_)
  · have := congrArg MR.Tail (h (by omega))
    change (xr.get t.Ring.toNat).x.cursors.tail = (rs.get t.Ring.toNat).Tail at this
    rw [this]
  · have := congrArg MR.Heads (h (by omega))
    change (xr.get t.Ring.toNat).x.cursors.heads.L = (rs.get t.Ring.toNat).Heads.L at this
    obtain ⟨hn, hg⟩ := Sl.L_inj this
    obtain ⟨⟨a0, a1⟩, k0, k1⟩ := h2 e
    rw [hl.g _ (by omega), hg _ (by omega)]

theorem w_fabric_Load (p : TApi_Program) (s : TApi_State) (b : Nat) (hb : b * 8 ≤ 140737488351232) (hp : okP p) (hP : PInv (aP p)) (hs : okS b s) :
    D_fabric_Load.wp (p, s) fun y => (fabL p s ∧ y.2 = 0 ∧ y.1.nil = false ∧ FWf p b y.1.x ∧ aF y.1.x = aS s) ∨ (¬ fabL p s ∧ y.2 = 3 ∧ y.1.nil = true) := by
  refine of_wp ?_
  simp only [tt_fabric_Load]
  refine wp_call (w_fabric_New p hp b) fun (y : Bx TFabric_Fabric × Int) hy => ?_
  obtain ⟨⟨yn, ⟨yp, yt, yr, ynow, yrd, ye⟩⟩, er⟩ := y
  rcases hy with ⟨_, h0, h1, hF, _⟩ | ⟨hno, _⟩
  rotate_left
  · exact absurd hP hno
  simp only at h0 h1 hF
  subst h0 h1
  refine wp_if (p := (0 : Int) ≠ 0) (by rw [bnot_iff, ieq_iff]) (fun h => absurd rfl h) fun _ => wp_if (p := (s.Threads.n : Int) ≠ p.Threads.n) (by rw [bnot_iff, ieq_iff]) (fun e => .inr ⟨fun k => e (by rw [k.tn]), rfl, rfl⟩) fun o1 =>
    wp_if (p := (s.Rings.n : Int) ≠ p.Rings.n) (by rw [bnot_iff, ieq_iff]) (fun e => .inr ⟨fun k => e (by rw [k.rn]), rfl, rfl⟩) fun o2 => wp_if ile_iff (fun e => .inr ⟨fun k => absurd k.nw (Int.not_lt.2 e), rfl, rfl⟩) fun o3 => wp_need rfl (of_wp ?_)
  have n1 : s.Threads.n = p.Threads.n := by have := Classical.byContradiction o1; omega
  have n2 : s.Rings.n = p.Rings.n := by have := Classical.byContradiction o2; omega
  clear o1 o2
  have rn := hF.rn
  have tn := hF.tn
  change yr.n = p.Rings.n at rn
  change yt.n = p.Threads.n at tn
  simp only [tt_fabric_Load_6]
  refine loop_wp (tt := tt_fabric_Load_8) (fun x : X_fabric_Load_8 => x.p_2 = p ∧ x.s_3 = s ∧ x.q_57 = s.Rings ∧ x.q_58 = s.Rings.n ∧ ∃ k : Nat, x.q_59 = k ∧ k ≤ s.Rings.n ∧ x.n_6.p = yp ∧ x.n_6.threads = yt ∧ x.n_6.now = s.Now ∧ x.n_6.reads = s.Reads ∧ x.n_6.ended = s.Ended ∧
      x.n_6.rings.n = s.Rings.n ∧ ∀ i, i < k → (ringL (p.Rings.get i) (s.Rings.get i) ∧ (s.Rings.get i).Tail < 2305843009213693952) ∧ (x.n_6.rings.get i).nil = false ∧ RWf (p.Rings.get i) (x.n_6.rings.get i).x ∧ aR (x.n_6.rings.get i).x = aRS (s.Rings.get i))
    (fun x => (s.Rings.n - x.q_59).toNat) (fun _ y => (fabL p s ∧ y.2 = 0 ∧ y.1.nil = false ∧ FWf p b y.1.x ∧ aF y.1.x = aS s) ∨ (¬ fabL p s ∧ y.2 = 3 ∧ y.1.nil = true)) (fun D x hI hD => ?_)
    ⟨rfl, rfl, rfl, rfl, 0, rfl, Nat.zero_le _, rfl, rfl, rfl, rfl, rfl, by show yr.n = _; omega, fun i hi => by omega⟩
  obtain ⟨e0, e1, e2, e3, k, e4, hk, e5, e6, e7, e8, e9, hn, hg⟩ := hI
  obtain ⟨q2, q3, q57, q58, q59, ⟨mp, mt, mr, mn, md, me⟩⟩ := x
  simp only at e0 e1 e2 e3 e4 e5 e6 e7 e8 e9 hn hg hD
  subst e0 e1 e2 e3 e4 e5 e6 e7 e8 e9
  simp only [tt_fabric_Load_8]
  refine wp_if ilt_iff (fun h => ?_) fun h => ?_
  · have hkm : k < q3.Rings.n := by omega
    have hkp : k < q2.Rings.n := by omega
    have hkr : k < mr.n := by omega
    simp only [inb_nat hkm, inb_nat hkp, inb_nat hkr, wp_need_true, Int.toNat_natCast, Nat.zero_add]
    refine wp_call (w_ring_Load _ _ (rg_of hP hkp) (hs.rs k hkm)) fun (z : Bx TRing_Ring × Int) hz => wp_need rfl (wp_need (by simp) (wp_need (by simp) ?_))
    rcases hz with ⟨hL, z2, zn, zw, za⟩ | ⟨hno, z2⟩
    · refine wp_if (p := z.2 ≠ 0) (by rw [bnot_iff, ieq_iff]) (fun h => absurd z2 h) fun _ => wp_if ile_iff (fun h => .inr ⟨fun kk => absurd (kk.ri k hkm).2 (Int.not_lt.2 h), rfl, rfl⟩) fun h9 => of_wp ?_
      simp only [tt_fabric_Load_13, next64 hkm hs.rn]
      refine wp_eq (x' := ⟨q2, q3, q3.Rings, q3.Rings.n, ((k + 1 : Nat) : Int), ⟨mp, mt, setS mr k z.1, _, _, _⟩⟩) (hD _ ⟨rfl, rfl, rfl, rfl, k + 1, rfl, hkm, rfl, rfl, rfl, rfl, rfl, hn, fun i hi => ?_⟩ (by simp only; omega)) ?_
      · by_cases e : i = k
        · subst e; simp only [setS_eq]; exact ⟨⟨hL, by omega⟩, zn, zw, za⟩
        · simp only [setS_ne e]; exact hg i (by omega)
      · refine congrArg (fun g => X_fabric_Load_8.mk q2 q3 q3.Rings q3.Rings.n ((k + 1 : Nat) : Int) ⟨mp, mt, ⟨mr.nil, mr.n, g⟩, _, _, _⟩) (funext fun i => ?_)
        cases Nat.beq i k <;> rfl
    · exact wp_if (p := z.2 ≠ 0) (by rw [bnot_iff, ieq_iff]) (fun h => .inr ⟨fun kk => hno (kk.ri k hkm).1, rfl, rfl⟩) fun h => absurd (by rw [z2]; decide) h
  · have hkk : k = q3.Rings.n := by omega
    subst hkk
    refine of_wp ?_
    simp only [tt_fabric_Load_14]
    refine loop_wp (tt := tt_fabric_Load_15) (fun x : X_fabric_Load_15 => x.p_2 = q2 ∧ x.q_89 = q3.Threads ∧ x.q_90 = q3.Threads.n ∧ ∃ k : Nat, x.q_91 = k ∧ k ≤ q3.Threads.n ∧ x.n_6.p = mp ∧ x.n_6.rings = mr ∧ x.n_6.now = q3.Now ∧ x.n_6.reads = q3.Reads ∧ x.n_6.ended = q3.Ended ∧
        x.n_6.threads.n = q3.Threads.n ∧ ∀ t, t < k → (TInv (q2.Threads.get t).L (aT (q3.Threads.get t)) ∧ pendS q3.Rings (q2.Threads.get t) (q3.Threads.get t)) ∧ TWf b (x.n_6.threads.get t) ∧ aT (x.n_6.threads.get t) = aT (q3.Threads.get t))
      (fun x => (q3.Threads.n - x.q_91).toNat) (fun _ y => (fabL q2 q3 ∧ y.2 = 0 ∧ y.1.nil = false ∧ FWf q2 b y.1.x ∧ aF y.1.x = aS q3) ∨ (¬ fabL q2 q3 ∧ y.2 = 3 ∧ y.1.nil = true)) (fun D x hI hD => ?_)
      ⟨rfl, rfl, rfl, 0, rfl, Nat.zero_le _, rfl, rfl, rfl, rfl, rfl, by show mt.n = _; omega, fun i hi => by omega⟩
    obtain ⟨e0, e1, e2, k, e4, hk, e5, e6, e7, e8, e9, htn, htg⟩ := hI
    obtain ⟨x2, x89, x90, x91, ⟨xp, xt, xr, xn, xd, xe⟩⟩ := x
    simp only at e0 e1 e2 e4 e5 e6 e7 e8 e9 htn htg hD
    subst e0 e1 e2 e4 e5 e6 e7 e8 e9
    simp only [tt_fabric_Load_15]
    refine wp_if ilt_iff (fun h => ?_) fun h => ?_
    · have hkm : k < q3.Threads.n := by omega
      have hkp : k < x2.Threads.n := by omega
      have hkt : k < xt.n := by omega
      simp only [inb_nat hkm, inb_nat hkp, inb_nat hkt, wp_need_true, Int.toNat_natCast, Nat.zero_add]
      have ht := hs.ts k hkm
      refine wp_call (w_Clone_uint64 _ ht.sz (by have := ht.sb; omega)) fun (z : Sl Int) hz => wp_need rfl (wp_need (by simp) (wp_need (by simp) (wp_need rfl ?_)))
      refine wp_call (w_thread_Right (x2.Threads.get k) ⟨(q3.Threads.get k).At, (q3.Threads.get k).Phase, (q3.Threads.get k).Ring, (q3.Threads.get k).Status, (q3.Threads.get k).Ticket, (q3.Threads.get k).Regs, z⟩ (hp.c hkp) ht.k0) fun (y : Bool) hy => ?_
      rw [aT_seen hz.1] at hy
      refine wp_if bnot_iff (fun h => .inr ⟨fun kk => h (hy.2 ⟨code_of hP hkp, (kk.ti k hkm).1⟩), rfl, rfl⟩) fun h => ?_
      have hT := (hy.1 (Classical.byContradiction h)).2
      have hw := fun q => wait_of hP hkp hT q
      have heq : ∀ (P : Sl TApi_ThreadState → Prop), P (setS xt k ⟨(q3.Threads.get k).At, (q3.Threads.get k).Phase, (q3.Threads.get k).Ring, (q3.Threads.get k).Status, (q3.Threads.get k).Ticket, (q3.Threads.get k).Regs, z⟩) →
          P ⟨xt.nil, xt.n, fun i => (TApi_ThreadState.mk (cond (Nat.beq i k) (q3.Threads.get k).At (xt.get i).At) (cond (Nat.beq i k) (q3.Threads.get k).Phase (xt.get i).Phase) (cond (Nat.beq i k) (q3.Threads.get k).Ring (xt.get i).Ring) (cond (Nat.beq i k) (q3.Threads.get k).Status (xt.get i).Status) (cond (Nat.beq i k) (q3.Threads.get k).Ticket (xt.get i).Ticket) (fun j => cond (Nat.beq i k) ((q3.Threads.get k).Regs j) ((xt.get i).Regs j)) (Sl.mk (cond (Nat.beq i k) z.nil (xt.get i).Seen.nil) (cond (Nat.beq i k) z.n (xt.get i).Seen.n) (fun j => cond (Nat.beq i k) (z.get j) ((xt.get i).Seen.get j))))⟩ := by
        intro P hh
        refine (congrArg (fun g => P ⟨xt.nil, xt.n, g⟩) (funext fun i => ?_)).mp hh
        cases Nat.beq i k <;> rfl
      refine heq (fun T => (TT.call con_fabric_Fabric_pending ((k : Int), (⟨xp, T, xr, q3.Now, q3.Reads, q3.Ended⟩ : TFabric_Fabric)) _ : TT Tryz.prog R_fabric_Load).wp _) ?_
      have hgt : (setS xt k (⟨(q3.Threads.get k).At, (q3.Threads.get k).Phase, (q3.Threads.get k).Ring, (q3.Threads.get k).Status, (q3.Threads.get k).Ticket, (q3.Threads.get k).Regs, z⟩ : TApi_ThreadState)).get k = _ := setS_eq
      have hcp : CopyP xp x2 := hF.cp
      have hck := (hcp.t k hkp).1
      have hR : (q3.Threads.get k).Phase ≠ 0 → (0 ≤ (q3.Threads.get k).Ring ∧ (q3.Threads.get k).Ring < xr.n) ∧ (xr.get (q3.Threads.get k).Ring.toNat).nil = false ∧ aR (xr.get (q3.Threads.get k).Ring.toNat).x = aRS (q3.Rings.get (q3.Threads.get k).Ring.toNat) := by
        intro e
        obtain ⟨_, ⟨r0, r1⟩, _⟩ := hw e
        have := hg (q3.Threads.get k).Ring.toNat (by omega)
        exact ⟨⟨r0, by omega⟩, this.2.1, this.2.2.2⟩
      have hK : (q3.Threads.get k).Phase = 2 → (0 ≤ (q3.Threads.get k).At ∧ (q3.Threads.get k).At < (x2.Threads.get k).n) ∧ 0 ≤ ((x2.Threads.get k).get (q3.Threads.get k).At.toNat).K ∧ ((x2.Threads.get k).get (q3.Threads.get k).At.toNat).K < (q3.Rings.get (q3.Threads.get k).Ring.toNat).Heads.n := by
        intro e
        obtain ⟨ha, ⟨r0, r1⟩, hk2⟩ := hw (by omega)
        have := (hg (q3.Threads.get k).Ring.toNat (by omega)).1.1.rd
        have := hk2 e
        exact ⟨ha, this.1, by omega⟩
      have hpend := w_pending k (⟨xp, setS xt k ⟨(q3.Threads.get k).At, (q3.Threads.get k).Phase, (q3.Threads.get k).Ring, (q3.Threads.get k).Status, (q3.Threads.get k).Ticket, (q3.Threads.get k).Regs, z⟩, xr, q3.Now, q3.Reads, q3.Ended⟩ : TFabric_Fabric) hkt (by show k < xp.Threads.n; rw [hcp.n]; exact hkp)
        (by simp only [hgt]; exact fun e => ⟨(hR e).1.1, (hR e).1.2, (hR e).2.1⟩)
        (by
          simp only [hgt]
          intro e
          obtain ⟨⟨a0, a1⟩, k0, k1⟩ := hK e
          have hh := congrArg MR.Heads (hR (by omega)).2.2
          change (xr.get (q3.Threads.get k).Ring.toNat).x.cursors.heads.L = (q3.Rings.get (q3.Threads.get k).Ring.toNat).Heads.L at hh
          have hh := (Sl.L_inj hh).1
          obtain ⟨_, ⟨r0, r1⟩, _⟩ := hw (by omega)
          have := (hs.rs (q3.Threads.get k).Ring.toNat (by omega)).hn
          rw [hck.g _ (by omega), hh, hck.n]
          exact ⟨⟨a0, a1⟩, k0, k1, this⟩)
      simp only [hgt] at hpend
      refine wp_call hpend fun (y : Bool) hy => ?_
      have hpi : pendF xr (xp.Threads.get k) ⟨(q3.Threads.get k).At, (q3.Threads.get k).Phase, (q3.Threads.get k).Ring, (q3.Threads.get k).Status, (q3.Threads.get k).Ticket, (q3.Threads.get k).Regs, z⟩ ↔ pendS q3.Rings (x2.Threads.get k) (q3.Threads.get k) :=
        pend_iff (t := q3.Threads.get k) hck (fun e => (hR e).2.2) hK
      have hy := Iff.trans hy hpi
      refine wp_if bnot_iff (fun h => .inr ⟨fun kk => h (hy.2 (kk.ti k hkm).2), rfl, rfl⟩) fun hyy => of_wp ?_
      have hpd := hy.1 (Classical.byContradiction hyy)
      simp only [tt_fabric_Load_21, next64 hkm hs.tn]
      refine heq (fun T => D.wp (⟨x2, q3.Threads, q3.Threads.n, ((k + 1 : Nat) : Int), ⟨xp, T, xr, q3.Now, q3.Reads, q3.Ended⟩⟩ : X_fabric_Load_15) _) ?_
      refine hD _ ⟨rfl, rfl, rfl, k + 1, rfl, hkm, rfl, rfl, rfl, rfl, rfl, htn, fun i hi => ?_⟩ (by simp only; omega)
      by_cases e : i = k
      · subst e; simp only [setS_eq]
        exact ⟨⟨hT, hpd⟩, ⟨ht.k0, ht.k1, ht.rg, hz.2, by have := ht.sb; have := hz.1.n; show z.n ≤ b; omega⟩, aT_seen hz.1⟩
      · simp only [setS_ne e]; exact htg i (by omega)
    · have hkk : k = q3.Threads.n := by omega
      subst hkk
      refine .inl ⟨⟨n1, n2, by omega, fun i hi => (hg i hi).1, fun t ht => (htg t ht).1⟩, rfl, rfl, ⟨hF.cp, by show xt.n = _; omega, fun t ht => (htg t (htn ▸ ht)).2.1, by show xr.n = _; omega, fun i hi => (hg i (hn ▸ hi)).2.imp_right fun h => h.1⟩, ?_⟩
      unfold aF aS
      simp only [MS.mk.injEq, and_true]
      exact ⟨L_map_ext htn fun i hi => (htg i hi).2.2, L_map_ext hn fun i hi => (hg i hi).2.2.2⟩
theorem w_slots_All (x : TSlots_Slots) (h : 0 < x.l.n) (hn : x.l.n * 24 ≤ 140737488351232) : D_slots_Slots_All.wp x fun y => SameS y x.l ∧ SlOk y := by
  refine ro_wp ?_
  simp only [tt_slots_Slots_All]
  refine wp_call (w_Clone_Slot_o0 ⟨x.l.n, x.l.get⟩ h hn) fun (y : Sl TApi_Slot) hy => wp_need (by simp) ⟨⟨hy.1.n, hy.1.g⟩, hy.2⟩
theorem w_ring_State (c : TApi_Ring) (r : TRing_Ring) (hc : rightRg c = true) (h : RWf c r) : D_ring_Ring_State.wp r fun y => aRS y = aR r ∧ SlOk y.Heads ∧ SlOk y.Slots := by
  have hf := rg_facts hc
  have hn := h.hn
  have ln := h.ln
  refine ro_wp ?_
  simp only [tt_ring_Ring_State]
  refine wp_need (by simp [h.sn]) ?_
  refine wp_call (w_Clone_uint64_o0 ⟨r.cursors.heads.n, r.cursors.heads.get⟩ (by show 0 < r.cursors.heads.n; omega) (by show r.cursors.heads.n * 8 ≤ _; omega)) fun (y : Sl Int) hy => ?_
  refine wp_call (w_slots_All r.s.x (by omega) (by omega)) fun (z : Sl TApi_Slot) hz => wp_need (by simp [h.sn]) (wp_side' (wp_need (by simp) ?_))
  have e : y.L = r.cursors.heads.L := hy.1.L
  refine ⟨?_, hy.2, hz.2⟩
  show (⟨r.cursors.tail, y.L, r.closed, z.L⟩ : MR) = _
  rw [e, hz.1.L]; rfl

/-- What a fabric tells is well formed. -/
structure StOk (b : Nat) (s : TApi_State) : Prop where
  ts : ∀ t, t < s.Threads.n → TWf b (s.Threads.get t)
  rs : ∀ i, i < s.Rings.n → SlOk (s.Rings.get i).Heads ∧ SlOk (s.Rings.get i).Slots
theorem w_fabric_State (p : TApi_Program) (b : Nat) (f : TFabric_Fabric) (hb : b * 8 ≤ 140737488351232) (hP : PInv (aP p)) (h : FWf p b f) : D_fabric_Fabric_State.wp f fun y => aS y = aF f ∧ StOk b y := by
  obtain ⟨h1, h8, hr8, _, hl⟩ := PInv_get hP
  have htn := h.tn
  have hrn := h.rn
  refine ro_wp ?_
  simp only [tt_fabric_Fabric_State]
  refine wp_call (w_Clone_ThreadState_o0_w0 ⟨f.threads.n, f.threads.get⟩ (by show 0 < f.threads.n; omega) (by show f.threads.n * 128 ≤ _; omega)) fun (y : Sl TApi_ThreadState) hy => wp_need (by simp) (wp_need (by simp) ?_)
  have yn : y.n = f.threads.n := hy.1.n
  have yg : ∀ i, i < f.threads.n → y.get i = f.threads.get i := hy.1.g
  refine loop_wp (tt := tt_fabric_Fabric_State_5) (fun x : X_fabric_Fabric_State_5 => x.q_29 = f.threads.n ∧ x.o_0 = f ∧ ∃ k : Nat, x.q_30 = k ∧ k ≤ f.threads.n ∧ x.m_2.Rings = ⟨true, 0, fun _ => ⟨0, ⟨true, 0, fun _ => 0⟩, false, ⟨true, 0, fun _ => ⟨0, 0, 0⟩⟩⟩⟩ ∧ x.m_2.Now = f.now ∧ x.m_2.Reads = f.reads ∧ x.m_2.Ended = f.ended ∧
      x.m_2.Threads.n = f.threads.n ∧ ∀ t, t < f.threads.n → aT (x.m_2.Threads.get t) = aT (f.threads.get t) ∧ SlOk (x.m_2.Threads.get t).Seen ∧ (x.m_2.Threads.get t).Seen.n ≤ b)
    (fun x => (f.threads.n - x.q_30).toNat) (fun _ y => aS y.1 = aF f ∧ StOk b y.1) (fun D x hI hD => ?_)
    ⟨by rw [← yn], rfl, 0, rfl, Nat.zero_le _, rfl, rfl, rfl, rfl, yn, fun t ht => by show aT (y.get t) = _ ∧ SlOk (y.get t).Seen ∧ (y.get t).Seen.n ≤ b; rw [yg t ht]; exact ⟨rfl, (h.tw t ht).sz, (h.tw t ht).sb⟩⟩
  obtain ⟨e0, e1, k, e4, hk, e5, e6, e7, e8, hn, hg⟩ := hI
  obtain ⟨q29, q30, o0, ⟨mt, mr, mn, md, me⟩⟩ := x
  simp only at e0 e1 e4 e5 e6 e7 e8 hn hg hD
  subst e0 e1 e4 e5 e6 e7 e8
  simp only [tt_fabric_Fabric_State_5]
  refine wp_if ilt_iff (fun hlt => ?_) fun hlt => ?_
  · have hkm : k < mt.n := by omega
    have hkf : k < o0.threads.n := by omega
    simp only [inb_nat hkm, wp_need_true, Int.toNat_natCast, Nat.zero_add]
    obtain ⟨g1, g2, g3⟩ := hg k hkf
    refine wp_need (by simp) ?_
    refine wp_call (w_Clone_uint64 _ g2 (by omega)) fun (z : Sl Int) hz => wp_need rfl (wp_need (by simp) (wp_need (by simp) ?_))
    have e2 : IntKind.i64.wrap ((k : Int) + 1) = ((k + 1 : Nat) : Int) := by rw [wrap64] <;> omega
    rw [e2]
    refine wp_eq (x' := ⟨_, ((k + 1 : Nat) : Int), o0, ⟨setS mt k ⟨(mt.get k).At, (mt.get k).Phase, (mt.get k).Ring, (mt.get k).Status, (mt.get k).Ticket, (mt.get k).Regs, z⟩, _, _, _, _⟩⟩) (hD _ ⟨rfl, rfl, k + 1, rfl, by omega, rfl, rfl, rfl, rfl, hn, fun i hi => ?_⟩ (by simp only; omega)) ?_
    · by_cases e : i = k
      · subst e; simp only [setS_eq]; exact ⟨(aT_seen hz.1).trans g1, hz.2, by rw [hz.1.n]; exact g3⟩
      · simp only [setS_ne e]; exact hg i hi
    · refine congrArg (fun g => X_fabric_Fabric_State_5.mk _ ((k + 1 : Nat) : Int) o0 ⟨⟨mt.nil, mt.n, g⟩, _, _, _, _⟩) (funext fun i => ?_)
      cases Nat.beq i k <;> rfl
  · refine wp_side' (of_wp ?_)
    simp only [tt_fabric_Fabric_State_9]
    refine loop_wp (tt := tt_fabric_Fabric_State_10) (fun x : X_fabric_Fabric_State_10 => x.q_50 = o0.rings.n ∧ x.o_0 = o0 ∧ ∃ k : Nat, x.q_51 = k ∧ k ≤ o0.rings.n ∧ x.m_2.Threads = mt ∧ x.m_2.Now = o0.now ∧ x.m_2.Reads = o0.reads ∧ x.m_2.Ended = o0.ended ∧
        x.m_2.Rings.n = k ∧ ∀ i, i < k → aRS (x.m_2.Rings.get i) = aR (o0.rings.get i).x ∧ SlOk (x.m_2.Rings.get i).Heads ∧ SlOk (x.m_2.Rings.get i).Slots)
      (fun x => (o0.rings.n - x.q_51).toNat) (fun _ y => aS y.1 = aF o0 ∧ StOk b y.1) (fun D x hI hD => ?_) ⟨rfl, rfl, 0, rfl, Nat.zero_le _, rfl, rfl, rfl, rfl, rfl, fun t ht => by omega⟩
    obtain ⟨e0, e1, k, e4, hk, e5, e6, e7, e8, hrn2, hrg⟩ := hI
    obtain ⟨q29, q30, o0, ⟨xt, xr, xn, xd, xe⟩⟩ := x
    simp only at e0 e1 e4 e5 e6 e7 e8 hrn2 hrg hD
    subst e0 e1 e4 e5 e6 e7 e8 hrn2
    simp only [tt_fabric_Fabric_State_10]
    refine wp_if ilt_iff (fun hlt => ?_) fun hlt => ?_
    · have hkr : xr.n < o0.rings.n := by omega
      obtain ⟨hnil, hw⟩ := h.rw _ hkr
      simp only [inb_nat hkr, wp_need_true, Int.toNat_natCast, Nat.zero_add]
      refine wp_need (by simp [hnil]) ?_
      refine wp_call (w_ring_State _ _ (rg_of hP (by omega)) hw) fun (z : TApi_RingState) hz => wp_need (by simp [room]; omega) (wp_need (by simp [hnil]; omega) (wp_side' ?_))
      have e2 : IntKind.i64.wrap ((xr.n : Int) + 1) = ((xr.n + 1 : Nat) : Int) := by rw [wrap64] <;> omega
      rw [e2]
      refine wp_eq (x' := ⟨_, ((xr.n + 1 : Nat) : Int), o0, ⟨xt, snoc xr z, _, _, _⟩⟩) (hD _ ⟨rfl, rfl, xr.n + 1, rfl, by omega, rfl, rfl, rfl, rfl, rfl, fun i hi => ?_⟩ (by simp only; omega)) ?_
      · by_cases e : i = xr.n
        · subst e; simp only [snoc_eq]; exact hz
        · have : i < xr.n := by omega
          simp only [snoc_lt this]; exact hrg i this
      · refine congrArg (fun g => X_fabric_Fabric_State_10.mk _ ((xr.n + 1 : Nat) : Int) o0 ⟨xt, ⟨false, xr.n + 1, g⟩, _, _, _⟩) (funext fun i => ?_)
        cases Nat.blt i xr.n <;> rfl
    · have hkk : xr.n = o0.rings.n := by omega
      refine wp_need (by simp) ?_
      have htn2 : xt.n = o0.threads.n := by assumption
      refine ⟨?_, fun t ht => ?_, fun i hi => (hrg i hi).2⟩
      · show aS ⟨xt, xr, o0.now, o0.reads, o0.ended⟩ = aF o0
        unfold aF aS
        simp only [MS.mk.injEq, and_true]
        exact ⟨L_map_ext htn2 fun i hi => (hg i hi).1, L_map_ext hkk fun i hi => (hrg i (hkk ▸ hi)).1⟩
      · change t < xt.n at ht
        obtain ⟨g1, g2, g3⟩ := hg t (htn2 ▸ ht)
        have hw := h.tw t (htn2 ▸ ht)
        have k1 := congrArg MT.Ticket g1
        have k2 := congrArg MT.Regs g1
        change (xt.get t).Ticket = (o0.threads.get t).Ticket at k1
        change (xt.get t).Regs = (o0.threads.get t).Regs at k2
        exact ⟨by show 0 ≤ (xt.get t).Ticket; rw [k1]; exact hw.k0, by show (xt.get t).Ticket < _; rw [k1]; exact hw.k1, by show ∀ j, 0 ≤ (xt.get t).Regs j ∧ (xt.get t).Regs j < _; rw [k2]; exact hw.rg, g2, g3⟩
/-! ### What is read from bytes is in range -/
def U64 (z : Int) : Prop := 0 ≤ z ∧ z < 18446744073709551616
structure okRd (r : TOctet_Reader) : Prop where
  a0 : 0 ≤ r.at0
  a1 : r.at0 ≤ r.s.size
  s1 : r.s.size ≤ 1000000000
structure okSr (r : TSnap_reader) : Prop where
  nn : r.r.nil = false
  ok : okRd r.r.x

theorem bt_range (b : ByteArray) (i : Nat) : 0 ≤ bt b i ∧ bt b i < 256 := by
  unfold bt
  split
  · rename_i hh; have := UInt8.toNat_lt (b[i]'hh); exact ⟨Int.natCast_nonneg _, by omega⟩
  · decide
theorem w_Left (r : TOctet_Reader) (h : okRd r) : D_octet_Reader_Left.wp r fun y => y = r.s.size - r.at0 := by
  have := h.a0; have := h.a1; have := h.s1
  refine ro_wp ?_
  simp only [tt_octet_Reader_Left]
  exact wrap64 (by omega) (by omega)
theorem w_Take1 (r : TOctet_Reader) (h : okRd r) : D_octet_Reader_Take.wp (1, r) fun y => okRd y.2.2 ∧ (y.2.1 = 0 → y.1.size = 1) := by
  have := h.a0; have := h.a1; have := h.s1
  refine of_wp ?_
  simp only [tt_octet_Reader_Take]
  refine wp_if ilt_iff (fun e => absurd e (by decide)) fun _ => ?_
  refine wp_call (w_Left r h) fun (y : Int) hy => ?_
  subst hy
  refine wp_if ilt_iff (fun e => ⟨h, fun e2 => absurd (show (2 : Int) = 0 from e2) (by decide)⟩) fun e => ?_
  rw [wrap64 (by omega) (by omega)]
  refine wp_need (by simp [upto]; omega) ⟨⟨by show 0 ≤ r.at0 + 1; omega, by show r.at0 + 1 ≤ (r.s.size : Int); omega, h.s1⟩, fun _ => ?_⟩
  simp only [ByteArray.size_extract]
  omega
theorem w_Byte (r : TOctet_Reader) (h : okRd r) : D_octet_Reader_Byte.wp r fun y => okRd y.2.2 ∧ 0 ≤ y.1 ∧ y.1 < 256 := by
  refine of_wp ?_
  simp only [tt_octet_Reader_Byte]
  refine wp_call (w_Take1 r h) fun (y : ByteArray × Int × TOctet_Reader) hy => ?_
  refine wp_if (p := y.2.1 ≠ 0) (by rw [bnot_iff, ieq_iff]) (fun _ => ⟨hy.1, Int.le_refl 0, (by decide : (0 : Int) < 256)⟩) fun e => ?_
  have := hy.2 (Classical.byContradiction e)
  exact wp_need (by rw [inb_iff2]; omega) ⟨hy.1, bt_range _ _⟩
theorem U64_0 : U64 0 := by unfold U64; decide
theorem bits_or_u64 (x y : Int) : U64 (Vm.bits .or IntKind.u64 x y) := wf_wrap64 _
theorem w_varint_Read (r : TOctet_Reader) (h : okRd r) : D_varint_Read.wp r fun y => U64 y.1 ∧ okRd y.2.2 := by
  refine of_wp ?_
  simp only [tt_varint_Read]
  refine loop_wp (tt := tt_varint_Read_2) (fun x : X_varint_Read_2 => U64 x.n_2 ∧ (0 ≤ x.q_7 ∧ x.q_7 ≤ 10) ∧ okRd x.o_0) (fun x => (10 - x.q_7).toNat) (fun _ y => U64 y.1 ∧ okRd y.2.2) (fun D x hI hD => ?_) ⟨U64_0, ⟨Int.le_refl 0, (by decide : (0 : Int) ≤ 10)⟩, h⟩
  obtain ⟨n, q, r⟩ := x
  obtain ⟨hn, hq, hr⟩ := hI
  simp only at hn hq hr hD
  simp only [tt_varint_Read_2]
  have z0 : U64 0 := by unfold U64; decide
  refine wp_if ilt_iff (fun h10 => ?_) fun _ => ⟨hn, hr⟩
  refine wp_call (w_Byte r hr) fun (y : Int × Int × TOctet_Reader) hy => ?_
  have h10 : (D_varint_Read_10 D).wp (⟨n, q, y.1, q, y.2.2⟩ : X_varint_Read_10) fun y => U64 y.1 ∧ okRd y.2.2 := by
    refine of_wp ?_
    simp only [tt_varint_Read_10]
    refine wp_need (by rw [ile_iff, wrap64] <;> omega) (wp_if ilt_iff (fun _ => ⟨bits_or_u64 _ _, hy.1⟩) fun _ => of_wp ?_)
    simp only [tt_varint_Read_12]
    rw [wrap64 (z := q + 1) (by omega) (by omega)]
    exact hD _ ⟨bits_or_u64 _ _, by simp only; omega, hy.1⟩ (by simp only; omega)
  refine wp_ite (fun _ => ⟨z0, hy.1⟩) fun _ => wp_ite (fun _ => wp_ite (fun _ => ⟨z0, hy.1⟩) fun _ => wp_ite (fun _ => wp_ite (fun _ => ⟨z0, hy.1⟩) fun _ => h10) fun _ => h10) fun _ => wp_ite (fun _ => wp_ite (fun _ => ⟨z0, hy.1⟩) fun _ => h10) fun _ => h10

theorem w_sr_number (r : TSnap_reader) (h : okSr r) : D_snap_reader_number.wp r fun y => U64 y.1 ∧ okSr y.2 := by
  refine of_wp ?_
  simp only [tt_snap_reader_number]
  refine wp_need (by simp [h.nn]) ?_
  refine wp_call (w_varint_Read _ h.ok) fun (y : Int × Int × TOctet_Reader) hy => ?_
  exact wp_ite (fun _ => ⟨hy.1, rfl, hy.2⟩) fun _ => ⟨hy.1, rfl, hy.2⟩
theorem w_sr_small (m : Int) (r : TSnap_reader) (h : okSr r) (hm : 0 ≤ m ∧ m ≤ 65535) : D_snap_reader_small.wp (m, r) fun y => (0 ≤ y.1 ∧ y.1 ≤ m) ∧ okSr y.2 := by
  refine of_wp ?_
  simp only [tt_snap_reader_small]
  refine wp_call (w_sr_number r h) fun (y : Int × TSnap_reader) hy => ?_
  obtain ⟨⟨y0, y1⟩, hy⟩ := hy
  rw [wrapu64 (by omega) (by omega)]
  refine wp_if ilt_iff (fun _ => ⟨⟨Int.le_refl 0, hm.1⟩, hy.nn, hy.ok⟩) fun e => ?_
  rw [wrap64 (by omega) (by omega)]
  exact ⟨⟨y0, by show y.1 ≤ m; omega⟩, hy⟩

def okIs (m : Int) (l : Sl Int) : Prop := (l.n : Int) ≤ m ∧ SlOk l ∧ ∀ i, i < l.n → U64 (l.get i)
theorem okIs_nil {m : Int} (h : 0 ≤ m) : okIs m ⟨true, 0, fun _ => 0⟩ := ⟨h, fun _ => rfl, fun i hi => absurd hi (Nat.not_lt_zero i)⟩
theorem w_ReadList (m : Int) (r : TOctet_Reader) (h : okRd r) (hm : 0 ≤ m ∧ m ≤ 65536) : D_varint_ReadList.wp (m, r) fun y => okIs m y.1 ∧ okRd y.2.2 := by
  refine of_wp ?_
  simp only [tt_varint_ReadList]
  refine wp_if ilt_iff (fun e => by omega) fun _ => ?_
  refine wp_call (w_varint_Read r h) fun (y : Int × Int × TOctet_Reader) hy => ?_
  obtain ⟨⟨y0, y1⟩, hy⟩ := hy
  have h6 : ∀ (e : Int), (e = 0 → y.1 ≤ m) → D_varint_ReadList_6.wp (⟨y.1, e, y.2.2⟩ : X_varint_ReadList_6) fun y => okIs m y.1 ∧ okRd y.2.2 := by
    intro e he
    refine of_wp ?_
    simp only [tt_varint_ReadList_6]
    refine wp_if (p := e ≠ 0) (by rw [bnot_iff, ieq_iff]) (fun _ => ⟨okIs_nil hm.1, hy⟩) fun e0 => ?_
    have hle := he (Classical.byContradiction e0)
    generalize y.1 = n at *
    refine loop_wp (tt := tt_varint_ReadList_10) (fun x : X_varint_ReadList_10 => x.q_29 = n ∧ (x.l_8.n : Int) = x.q_30 ∧ x.q_30 ≤ n ∧ okIs m x.l_8 ∧ okRd x.o_0) (fun x => (n - x.q_30).toNat) (fun _ y => okIs m y.1 ∧ okRd y.2.2) (fun D x hI hD => ?_) ⟨rfl, rfl, y0, okIs_nil hm.1, hy⟩
    obtain ⟨l, q29, q30, r⟩ := x
    obtain ⟨e1, e2, e3, hl, hr⟩ := hI
    simp only at e1 e2 e3 hl hr hD
    subst e1 e2
    simp only [tt_varint_ReadList_10]
    refine wp_if ilt_iff (fun hlt => ?_) fun _ => ⟨hl, hr⟩
    refine wp_call (w_varint_Read r hr) fun (y : Int × Int × TOctet_Reader) hy => ?_
    refine wp_ite (fun _ => ⟨okIs_nil hm.1, hy.2⟩) fun _ => wp_need (by simp [room]; omega) ?_
    rw [wrapu64 (by omega) (by omega)]
    refine hD _ ⟨rfl, by simp only; omega, by simp only; omega, ⟨by simp only; omega, fun e => by simp at e, fun i hi => ?_⟩, hy.2⟩ (by simp only; omega)
    show U64 (cond (Nat.blt i l.n) (l.get i) y.1)
    by_cases e : i < l.n
    · rw [blt_true e]; exact hl.2.2 i e
    · have : i = l.n := by simp only at hi; omega
      subst this; rw [blt_self]; exact hy.1
  refine wp_if ieq_iff (fun e => ?_) fun e => h6 _ fun h => absurd h e
  rw [wrapu64 (by omega) (by omega)]
  exact wp_if ilt_iff (fun _ => h6 4 fun h => absurd h (by decide)) fun hh => h6 _ fun _ => by omega
theorem w_sr_list (m : Int) (r : TSnap_reader) (h : okSr r) (hm : 0 ≤ m ∧ m ≤ 65536) : D_snap_reader_list.wp (m, r) fun y => okIs m y.1 ∧ okSr y.2 := by
  refine of_wp ?_
  simp only [tt_snap_reader_list]
  refine wp_need (by simp [h.nn]) ?_
  refine wp_call (w_ReadList m _ h.ok hm) fun (y : Sl Int × Int × TOctet_Reader) hy => ?_
  exact wp_ite (fun _ => ⟨hy.1, rfl, hy.2⟩) fun _ => ⟨hy.1, rfl, hy.2⟩

theorem w_sr_thread (r : TSnap_reader) (h : okSr r) : D_snap_reader_thread.wp r fun y => TWf 65536 y.1 ∧ okSr y.2 := by
  refine of_wp ?_
  simp only [tt_snap_reader_thread]
  refine wp_call (w_sr_small 65535 r h (by decide)) fun (y1 : Int × TSnap_reader) h1 => wp_call (w_sr_small 65535 _ h1.2 (by decide)) fun (y2 : Int × TSnap_reader) h2 => wp_call (w_sr_small 65535 _ h2.2 (by decide)) fun (y3 : Int × TSnap_reader) h3 =>
    wp_call (w_sr_small 65535 _ h3.2 (by decide)) fun (y4 : Int × TSnap_reader) h4 => wp_call (w_sr_number _ h4.2) fun (y5 : Int × TSnap_reader) h5 => ?_
  refine loop_wp (tt := tt_snap_reader_thread_4) (fun x : X_snap_reader_thread_4 => (0 ≤ x.q_19 ∧ x.q_19 ≤ 8) ∧ okSr x.o_0 ∧ U64 x.m_2.Ticket ∧ ∀ j, U64 (x.m_2.Regs j)) (fun x => (8 - x.q_19).toNat) (fun _ y => TWf 65536 y.1 ∧ okSr y.2) (fun D x hI hD => ?_)
    ⟨⟨Int.le_refl 0, (by decide : (0 : Int) ≤ 8)⟩, h5.2, h5.1, fun _ => ⟨Int.le_refl 0, (by decide : (0 : Int) < 18446744073709551616)⟩⟩
  obtain ⟨q, r, t⟩ := x
  obtain ⟨hq, hr, ht, hg⟩ := hI
  simp only at hq hr ht hg hD
  simp only [tt_snap_reader_thread_4]
  refine wp_if ilt_iff (fun hlt => ?_) fun _ => of_wp ?_
  · refine wp_call (w_sr_number r hr) fun (y : Int × TSnap_reader) hy => wp_need (by rw [inb_iff2]; omega) ?_
    rw [wrap64 (by omega) (by omega)]
    refine hD _ ⟨by simp only; omega, hy.2, ht, fun j => ?_⟩ (by simp only; omega)
    show U64 (cond (Nat.beq j q.toNat) y.1 (t.Regs j))
    cases Nat.beq j q.toNat
    · exact hg j
    · exact hy.1
  · simp only [tt_snap_reader_thread_8]
    refine wp_call (w_sr_list 65536 r hr (by decide)) fun (y : Sl Int × TSnap_reader) hy => ⟨⟨ht.1, ht.2, hg, hy.1.2.1, ?_⟩, hy.2⟩
    have := hy.1.1
    show y.1.n ≤ 65536
    omega

theorem w_sr_ring (r : TSnap_reader) (h : okSr r) : D_snap_reader_ring.wp r fun y => okRS y.1 ∧ okSr y.2 := by
  refine of_wp ?_
  simp only [tt_snap_reader_ring]
  refine wp_call (w_sr_number r h) fun (y1 : Int × TSnap_reader) h1 => wp_call (w_sr_list 8 _ h1.2 (by decide)) fun (y2 : Sl Int × TSnap_reader) h2 => wp_call (w_sr_small 1 _ h2.2 (by decide)) fun (y3 : Int × TSnap_reader) h3 =>
    wp_call (w_sr_small 64 _ h3.2 (by decide)) fun (y4 : Int × TSnap_reader) h4 => ?_
  have hmx : (65 : Nat) ≤ maxLen := by decide
  refine loop_wp (tt := tt_snap_reader_ring_5) (fun x : X_snap_reader_ring_5 => (0 ≤ x.n_3 ∧ (x.m_2.Slots.n : Int) + x.n_3 ≤ 64) ∧ okSr x.o_0 ∧ okRS x.m_2) (fun x => x.n_3.toNat) (fun _ y => okRS y.1 ∧ okSr y.2) (fun D x hI hD => ?_)
    ⟨⟨h4.1.1, by show ((0 : Nat) : Int) + y4.1 ≤ 64; have := h4.1.2; omega⟩, h4.2, ⟨h1.1.1, h1.1.2, by have := h2.1.1; show y2.1.n ≤ maxLen; omega, h2.1.2.2, h2.1.2.1, ⟨Nat.zero_le _, fun i hi => absurd hi (Nat.not_lt_zero i), fun _ => rfl⟩⟩⟩
  obtain ⟨q, r, s⟩ := x
  obtain ⟨hq, hr, hs⟩ := hI
  simp only at hq hr hs hD
  simp only [tt_snap_reader_ring_5]
  refine wp_if ilt_iff (fun hlt => wp_ite (fun _ => of_wp ?_) fun _ => ⟨hs, hr⟩) fun _ => ⟨hs, hr⟩
  simp only [tt_snap_reader_ring_7]
  refine wp_call (w_sr_number r hr) fun (z1 : Int × TSnap_reader) k1 => wp_call (w_sr_number _ k1.2) fun (z2 : Int × TSnap_reader) k2 => wp_call (w_sr_small 65535 _ k2.2 (by decide)) fun (z3 : Int × TSnap_reader) k3 => wp_need (by simp [room]; omega) ?_
  rw [wrap64 (by omega) (by omega)]
  refine wp_eq (x' := ⟨q - 1, z3.2, ⟨s.Tail, s.Heads, s.Closed, snoc s.Slots ⟨z1.1, z2.1, z3.1⟩⟩⟩) (hD _ ⟨by simp only [snoc]; omega, k3.2, ⟨hs.t0, hs.t1, hs.hn, hs.hh, hs.hz, ⟨by simp only [snoc]; omega, fun i hi => ?_, fun e => by cases e⟩⟩⟩ (by simp only; omega)) ?_
  · by_cases e : i < s.Slots.n
    · simp only [snoc_lt e]; exact hs.ss.x i e
    · have : i = s.Slots.n := by simp only [snoc] at hi; omega
      subst this; simp only [snoc_eq]
      have := k3.1
      exact ⟨k1.1.1, k1.1.2, by show -9223372036854775808 ≤ z3.1; omega, by show z3.1 ≤ 9223372036854775807; omega⟩
  · refine congrArg (fun g => X_snap_reader_ring_5.mk (q - 1) z3.2 ⟨s.Tail, s.Heads, s.Closed, ⟨false, s.Slots.n + 1, g⟩⟩) (funext fun i => ?_)
    cases Nat.blt i s.Slots.n <;> rfl
theorem okS_zero {t : Sl TApi_ThreadState} {r : Sl TApi_RingState} (ht : t.n = 0) (hr : r.n = 0) (e : Bool) : okS 65536 ⟨t, r, 0, 0, e⟩ :=
  ⟨by show t.n ≤ _; omega, by show r.n ≤ _; omega, fun i hi => by change i < t.n at hi; omega, fun i hi => by change i < r.n at hi; omega, Int.le_refl 0, Int.le_refl 0⟩

structure rdS (s : TApi_State) : Prop where
  ts : ∀ t, t < s.Threads.n → TWf 65536 (s.Threads.get t)
  rs : ∀ i, i < s.Rings.n → okRS (s.Rings.get i)

theorem l_snap_Read_10 (s : TApi_State) (r : TSnap_reader) (hs : rdS s) (ht : s.Threads.n ≤ 8) (hn : s.Rings.n ≤ 8) (hr : okSr r) : D_snap_Read_10.wp (⟨s, r⟩ : X_snap_Read_10) fun y => okS 65536 y.1 := by
  refine of_wp ?_
  simp only [tt_snap_Read_10]
  refine wp_call (w_sr_number r hr) fun (y1 : Int × TSnap_reader) h1 => wp_call (w_sr_number _ h1.2) fun (y2 : Int × TSnap_reader) h2 => wp_call (w_sr_small 1 _ h2.2 (by decide)) fun (y3 : Int × TSnap_reader) h3 => ?_
  refine wp_ite (fun _ => okS_zero rfl rfl _) fun _ => wp_need (by simp [h3.2.nn]) ?_
  refine wp_call (w_Left _ h3.2.ok) fun (y4 : Int) _ => wp_ite (fun _ => okS_zero rfl rfl _) fun _ => ?_
  have hm : (8 : Nat) ≤ maxLen := by decide
  exact ⟨Nat.le_trans ht hm, Nat.le_trans hn hm, hs.ts, hs.rs, h1.1.1, h2.1.1⟩

theorem l_snap_Read_6 (s : TApi_State) (r : TSnap_reader) (hs : rdS s) (ht : s.Threads.n ≤ 8) (hn : s.Rings.n = 0) (hr : okSr r) : D_snap_Read_6.wp (⟨s, r⟩ : X_snap_Read_6) fun y => okS 65536 y.1 := by
  refine of_wp ?_
  simp only [tt_snap_Read_6]
  refine wp_call (w_sr_small 8 r hr (by decide)) fun (y1 : Int × TSnap_reader) h1 => ?_
  refine loop_wp (tt := tt_snap_Read_7) (fun x : X_snap_Read_7 => (0 ≤ x.n_6 ∧ (x.m_2.Rings.n : Int) + x.n_6 ≤ 8) ∧ x.m_2.Threads.n ≤ 8 ∧ rdS x.m_2 ∧ okSr x.m_10) (fun x => x.n_6.toNat) (fun _ y => okS 65536 y.1) (fun D x hI hD => ?_)
    ⟨⟨h1.1.1, by show (s.Rings.n : Int) + y1.1 ≤ 8; have := h1.1.2; omega⟩, ht, hs, h1.2⟩
  obtain ⟨q, s, r⟩ := x
  obtain ⟨hq, ht, hs, hr⟩ := hI
  simp only at hq ht hs hr hD
  simp only [tt_snap_Read_7]
  refine wp_if ilt_iff (fun hlt => wp_ite (fun _ => of_wp ?_) fun _ => l_snap_Read_10 s r hs ht (by omega) hr) fun _ => l_snap_Read_10 s r hs ht (by omega) hr
  simp only [tt_snap_Read_9]
  refine wp_call (w_sr_ring r hr) fun (z : TApi_RingState × TSnap_reader) hz => wp_need (by simp [room]; omega) ?_
  rw [wrap64 (by omega) (by omega)]
  refine wp_eq (x' := ⟨q - 1, ⟨s.Threads, snoc s.Rings z.1, s.Now, s.Reads, s.Ended⟩, z.2⟩) (hD _ ⟨by simp only [snoc]; omega, ht, ⟨hs.ts, fun i hi => ?_⟩, hz.2⟩ (by simp only; omega)) ?_
  · by_cases e : i < s.Rings.n
    · simp only [snoc_lt e]; exact hs.rs i e
    · have : i = s.Rings.n := by simp only [snoc] at hi; omega
      subst this; simp only [snoc_eq]; exact hz.1
  · refine congrArg (fun g => X_snap_Read_7.mk (q - 1) ⟨s.Threads, ⟨false, s.Rings.n + 1, g⟩, s.Now, s.Reads, s.Ended⟩ z.2) (funext fun i => ?_)
    cases Nat.blt i s.Rings.n <;> rfl

theorem w_snap_Read (b : ByteArray) (hb : b.size ≤ 1000000000) : D_snap_Read.wp b fun y => okS 65536 y.1 := by
  refine of_wp ?_
  simp only [tt_snap_Read]
  have h0 : D_octet_New.wp b fun y => y = ⟨false, ⟨b, 0⟩⟩ := of_wp rfl
  refine wp_call h0 fun (y : Bx TOctet_Reader) hy => ?_
  subst hy
  refine wp_call (w_sr_small 8 _ ⟨rfl, ⟨Int.le_refl 0, Int.natCast_nonneg _, hb⟩⟩ (by decide)) fun (y1 : Int × TSnap_reader) h1 => ?_
  refine loop_wp (tt := tt_snap_Read_3) (fun x : X_snap_Read_3 => (0 ≤ x.n_5 ∧ (x.m_2.Threads.n : Int) + x.n_5 ≤ 8) ∧ x.m_2.Rings.n = 0 ∧ rdS x.m_2 ∧ okSr x.m_10) (fun x => x.n_5.toNat) (fun _ y => okS 65536 y.1) (fun D x hI hD => ?_)
    ⟨⟨h1.1.1, by show ((0 : Nat) : Int) + y1.1 ≤ 8; have := h1.1.2; omega⟩, rfl, ⟨fun i hi => absurd hi (Nat.not_lt_zero i), fun i hi => absurd hi (Nat.not_lt_zero i)⟩, h1.2⟩
  obtain ⟨q, s, r⟩ := x
  obtain ⟨hq, ht, hs, hr⟩ := hI
  simp only at hq ht hs hr hD
  simp only [tt_snap_Read_3]
  refine wp_if ilt_iff (fun hlt => wp_ite (fun _ => of_wp ?_) fun _ => l_snap_Read_6 s r hs (by omega) ht hr) fun _ => l_snap_Read_6 s r hs (by omega) ht hr
  simp only [tt_snap_Read_5]
  refine wp_call (w_sr_thread r hr) fun (z : TApi_ThreadState × TSnap_reader) hz => wp_need (by simp [room]; omega) ?_
  rw [wrap64 (by omega) (by omega)]
  refine wp_eq (x' := ⟨q - 1, ⟨snoc s.Threads z.1, s.Rings, s.Now, s.Reads, s.Ended⟩, z.2⟩) (hD _ ⟨by simp only [snoc]; omega, ht, ⟨fun i hi => ?_, hs.rs⟩, hz.2⟩ (by simp only; omega)) ?_
  · by_cases e : i < s.Threads.n
    · simp only [snoc_lt e]; exact hs.ts i e
    · have : i = s.Threads.n := by simp only [snoc] at hi; omega
      subst this; simp only [snoc_eq]; exact hz.1
  · refine congrArg (fun g => X_snap_Read_3.mk (q - 1) ⟨⟨false, s.Threads.n + 1, g⟩, s.Rings, s.Now, s.Reads, s.Ended⟩ z.2) (funext fun i => ?_)
    cases Nat.blt i s.Threads.n <;> rfl

/-! ### The law -/
theorem w_r09_Few (p : TApi_Program) (m : Int) (hp : okP p) : D_r09_Few.wp (p, m) fun _ => True := by
  refine of_wp ?_
  simp only [tt_r09_Few]
  refine wp_ite (fun _ => trivial) fun _ => wp_ite (fun _ => trivial) fun _ => of_wp ?_
  simp only [tt_r09_Few_3]
  refine loop_wp (tt := tt_r09_Few_5) (fun x : X_r09_Few_5 => x.p_2 = p ∧ ∃ k : Nat, x.i_6 = k ∧ k ≤ p.Threads.n) (fun x => (p.Threads.n - x.i_6).toNat) (fun _ _ => True) (fun D x hI hD => ?_) ⟨rfl, 0, rfl, Nat.zero_le _⟩
  obtain ⟨m, p', n, i⟩ := x
  obtain ⟨e1, k, e2, hk⟩ := hI
  simp only at e1 e2 hD
  subst e1 e2
  simp only [tt_r09_Few_5]
  refine wp_if ilt_iff (fun h => ?_) fun _ => trivial
  have hkm : k < p'.Threads.n := by omega
  refine wp_need (inb_nat hkm) (wp_ite (fun _ => trivial) fun _ => wp_need (inb_nat hkm) ?_)
  rw [next64 hkm hp.tn]
  exact hD _ ⟨rfl, k + 1, rfl, hkm⟩ (by simp only; omega)

theorem w_snap_Load (p : TApi_Program) (b : ByteArray) (hp : okP p) (y : R_snap_Read) (hy : D_snap_Read.rel b y) (hs : okS 65536 y.1) :
    D_snap_Load.wp (p, b) fun z => (¬ PInv (aP p) ∧ z.2 = 1 ∧ z.1.nil = true) ∨ (PInv (aP p) ∧ (y.2 ≠ 0 ∨ ¬ fabL p y.1) ∧ z.2 = 3 ∧ z.1.nil = true) ∨ (PInv (aP p) ∧ y.2 = 0 ∧ fabL p y.1 ∧ z.2 = 0 ∧ z.1.nil = false ∧ FWf p 65536 z.1.x ∧ aF z.1.x = aS y.1) := by
  refine of_wp ?_
  simp only [tt_snap_Load]
  refine wp_call (w_fabric_New p hp 0) fun (z : Bx TFabric_Fabric × Int) hz => ?_
  rcases hz with ⟨hP, z2, _⟩ | ⟨hP, z2, _⟩
  · refine wp_if (p := z.2 ≠ 0) (by rw [bnot_iff, ieq_iff]) (fun h => absurd z2 h) fun _ => ⟨y, hy, ?_⟩
    refine wp_if (p := y.2 ≠ 0) (by rw [bnot_iff, ieq_iff]) (fun h => .inr (.inl ⟨hP, .inl h, rfl, rfl⟩)) fun h => ?_
    refine wp_call (w_fabric_Load p y.1 65536 (by decide) hp hP hs) fun (x : Bx TFabric_Fabric × Int) hx => ?_
    rcases hx with ⟨hL, x2, xn, hF, ha⟩ | ⟨hL, x2, xn⟩
    · exact .inr (.inr ⟨hP, Classical.byContradiction h, hL, x2, xn, hF, ha⟩)
    · exact .inr (.inl ⟨hP, .inr hL, x2, xn⟩)
  · exact wp_if (p := z.2 ≠ 0) (by rw [bnot_iff, ieq_iff]) (fun h => .inl ⟨hP, rfl, rfl⟩) fun h => absurd (by rw [z2]; decide) h

theorem w22_awake_ev : D_w22_awake.ev 100 PUnit.unit = some true := by kernel_rfl
theorem w_w22_awake : D_w22_awake.wp PUnit.unit fun y => y = true := ⟨true, D_w22_awake.evOK 100 _ _ w22_awake_ev, rfl⟩

theorem lenM_of {b : Nat} {s : TApi_State} (h : okS b s) (hb : b ≤ maxLen) : lenM (aS s) where
  tn := by simpa [aS] using h.tn
  rn := by simpa [aS] using h.rn
  ts t ht := by
    simp only [aS, List.mem_map] at ht
    obtain ⟨x, hx, rfl⟩ := ht
    obtain ⟨i, hi, rfl⟩ := Sl.mem_L.1 hx
    have := (h.ts i hi).sb
    simp only [aT, Sl.L_length]; omega
  rs r hr := by
    simp only [aS, List.mem_map] at hr
    obtain ⟨x, hx, rfl⟩ := hr
    obtain ⟨i, hi, rfl⟩ := Sl.mem_L.1 hx
    have := h.rs i hi
    simp only [aRS, Sl.L_length]; exact ⟨this.hn, this.ss.n⟩

theorem w_r17_Right (p : TApi_Program) (hp : okP p) : D_r17_Right.wp p fun y => y = true ↔ PInv (aP p) := by
  refine of_wp ?_
  simp only [tt_r17_Right]
  exact wp_call (w_r11_Right p hp) fun (y : Bool) hy => hy

theorem w_SnapLoads (p : TApi_Program) (b : ByteArray) (hp : okP p) : D_w22_SnapLoads.wp (p, b) fun y => y = true := by
  refine of_wp ?_
  simp only [tt_w22_SnapLoads]
  have aw : ∀ {k : Bool → TT Tryz.prog R_w22_SnapLoads} {Q}, (k true).wp Q → (TT.call con_w22_awake PUnit.unit k).wp Q := fun h => wp_call w_w22_awake fun (y : Bool) hy => by subst hy; exact h
  refine aw (wp_ite (fun h => by simp at h) fun _ => ?_)
  refine wp_call (w_r09_Few p 100 hp) fun (y : Bool) _ => wp_ite (fun _ => aw rfl) fun _ => wp_if ilt_iff (fun _ => aw rfl) fun hsz => of_wp ?_
  simp only [tt_w22_SnapLoads_3]
  obtain ⟨y, hy, hs⟩ := w_snap_Read b (by omega)
  refine wp_call (w_snap_Load p b hp y hy hs) fun (z : Bx TFabric_Fabric × Int) hz => ?_
  refine wp_call (w_r17_Right p hp) fun (w : Bool) hw => ?_
  refine wp_if bnot_iff (fun h => ?_) fun h => ?_
  · rcases hz with ⟨_, z2, zn⟩ | ⟨hP, _⟩ | ⟨hP, _⟩
    · exact wp_ite (fun _ => ieq_iff.2 z2) fun e => absurd zn e
    · exact absurd (hw.2 hP) h
    · exact absurd (hw.2 hP) h
  · have hP := hw.1 (Classical.byContradiction h)
    rcases hz with ⟨hno, _⟩ | ⟨_, hz⟩ | ⟨_, hz⟩
    · exact absurd hP hno
    · obtain ⟨hor, z2, zn⟩ := hz
      refine ⟨y, hy, wp_if (p := y.2 ≠ 0) (by rw [bnot_iff, ieq_iff]) (fun _ => wp_ite (fun _ => ieq_iff.2 z2) fun e => absurd zn e) fun h0 => ?_⟩
      refine wp_call (w_r17_Loads p y.1 65536 hp hP hs) fun (l : Bool) hl => ?_
      refine wp_if bnot_iff (fun _ => wp_ite (fun _ => ieq_iff.2 z2) fun e => absurd zn e) fun hlt => ?_
      rcases hor with h1 | h1
      · exact absurd h1 h0
      · exact absurd (hl.1 (Classical.byContradiction hlt)) h1
    · obtain ⟨y2, hL, z2, zn, hF, ha⟩ := hz
      refine ⟨y, hy, wp_if (p := y.2 ≠ 0) (by rw [bnot_iff, ieq_iff]) (fun h0 => absurd y2 h0) fun _ => ?_⟩
      refine wp_call (w_r17_Loads p y.1 65536 hp hP hs) fun (l : Bool) hl => ?_
      refine wp_if bnot_iff (fun hlt => absurd (hl.2 hL) hlt) fun _ => wp_need (by simp [zn]) (of_wp ?_)
      simp only [tt_w22_SnapLoads_9]
      refine wp_if ieq_iff (fun _ => ?_) fun e => absurd z2 e
      refine wp_call (w_fabric_State p 65536 z.1.x (by decide) hP hF) fun (st : TApi_State) hst => ?_
      have hst := hst.1.trans ha
      exact wp_call (w_r17_Same st y.1 hst (hst ▸ lenM_of hs (by decide))) fun (q : Bool) hq => hq
def ok_TApi_Ring (x : TApi_Ring) : Prop := (fun n => (Lit.int .i64 n).wf = true) x.Kind ∧ (fun n => (Lit.int .i64 n).wf = true) x.Cap ∧ (fun n => (Lit.int .i64 n).wf = true) x.Readers ∧ True
noncomputable def fl_TApi_Ring_0 : Field := (flds Tryz.prog 98).toList.getD 0 default
noncomputable def fl_TApi_Ring_1 : Field := (flds Tryz.prog 98).toList.getD 1 default
noncomputable def fl_TApi_Ring_2 : Field := (flds Tryz.prog 98).toList.getD 2 default
theorem op_TApi_Ring : Opens Tryz.prog 98 e_TApi_Ring ok_TApi_Ring :=
  Opens.map (opens_struct (fs := flds Tryz.prog 98) (l := fl_TApi_Ring_0 :: fl_TApi_Ring_1 :: fl_TApi_Ring_2 :: []) (by kernel_rfl) (by kernel_rfl) (by kernel_rfl)
    (opens_cons (u := 3) (s := 1) (by kernel_rfl) (by kernel_rfl) (by kernel_rfl) (opens_int (k := .i64) (by kernel_rfl)) (opens_cons (u := 3) (s := 1) (by kernel_rfl) (by kernel_rfl) (by kernel_rfl) (opens_int (k := .i64) (by kernel_rfl)) (opens_cons (u := 3) (s := 1) (by kernel_rfl) (by kernel_rfl) (by kernel_rfl) (opens_int (k := .i64) (by kernel_rfl)) opens_nil)))) (fun x => ⟨x.1, x.2.1, x.2.2.1⟩) (fun _ => rfl) (fun _ h => h)

def ok_TApi_Instr (x : TApi_Instr) : Prop := (fun n => (Lit.int .i64 n).wf = true) x.Op ∧ (fun n => (Lit.int .i64 n).wf = true) x.A ∧ (fun n => (Lit.int .i64 n).wf = true) x.B ∧ (fun n => (Lit.int .i64 n).wf = true) x.C ∧ (fun n => (Lit.int .i64 n).wf = true) x.D ∧ (fun n => (Lit.int .u64 n).wf = true) x.K ∧ True
noncomputable def fl_TApi_Instr_0 : Field := (flds Tryz.prog 81).toList.getD 0 default
noncomputable def fl_TApi_Instr_1 : Field := (flds Tryz.prog 81).toList.getD 1 default
noncomputable def fl_TApi_Instr_2 : Field := (flds Tryz.prog 81).toList.getD 2 default
noncomputable def fl_TApi_Instr_3 : Field := (flds Tryz.prog 81).toList.getD 3 default
noncomputable def fl_TApi_Instr_4 : Field := (flds Tryz.prog 81).toList.getD 4 default
noncomputable def fl_TApi_Instr_5 : Field := (flds Tryz.prog 81).toList.getD 5 default
theorem op_TApi_Instr : Opens Tryz.prog 81 e_TApi_Instr ok_TApi_Instr :=
  Opens.map (opens_struct (fs := flds Tryz.prog 81) (l := fl_TApi_Instr_0 :: fl_TApi_Instr_1 :: fl_TApi_Instr_2 :: fl_TApi_Instr_3 :: fl_TApi_Instr_4 :: fl_TApi_Instr_5 :: []) (by kernel_rfl) (by kernel_rfl) (by kernel_rfl)
    (opens_cons (u := 3) (s := 1) (by kernel_rfl) (by kernel_rfl) (by kernel_rfl) (opens_int (k := .i64) (by kernel_rfl)) (opens_cons (u := 3) (s := 1) (by kernel_rfl) (by kernel_rfl) (by kernel_rfl) (opens_int (k := .i64) (by kernel_rfl)) (opens_cons (u := 3) (s := 1) (by kernel_rfl) (by kernel_rfl) (by kernel_rfl) (opens_int (k := .i64) (by kernel_rfl)) (opens_cons (u := 3) (s := 1) (by kernel_rfl) (by kernel_rfl) (by kernel_rfl) (opens_int (k := .i64) (by kernel_rfl)) (opens_cons (u := 3) (s := 1) (by kernel_rfl) (by kernel_rfl) (by kernel_rfl) (opens_int (k := .i64) (by kernel_rfl)) (opens_cons (u := 35) (s := 1) (by kernel_rfl) (by kernel_rfl) (by kernel_rfl) (opens_int (k := .u64) (by kernel_rfl)) opens_nil))))))) (fun x => ⟨x.1, x.2.1, x.2.2.1, x.2.2.2.1, x.2.2.2.2.1, x.2.2.2.2.2.1⟩) (fun _ => rfl) (fun _ h => h)

def ok_TApi_Program (x : TApi_Program) : Prop := (okSl ok_TApi_Ring) x.Rings ∧ (okSl (okSl ok_TApi_Instr)) x.Threads ∧ True
noncomputable def fl_TApi_Program_0 : Field := (flds Tryz.prog 25).toList.getD 0 default
noncomputable def fl_TApi_Program_1 : Field := (flds Tryz.prog 25).toList.getD 1 default
theorem op_TApi_Program : Opens Tryz.prog 25 e_TApi_Program ok_TApi_Program :=
  Opens.map (opens_struct (fs := flds Tryz.prog 25) (l := fl_TApi_Program_0 :: fl_TApi_Program_1 :: []) (by kernel_rfl) (by kernel_rfl) (by kernel_rfl)
    (opens_cons (u := 22) (s := 1) (by kernel_rfl) (by kernel_rfl) (by kernel_rfl) (opens_slice (e := 98) (s := 3) (d_TApi_Ring .undef) (by kernel_rfl) (by kernel_rfl) (by decide) (op_TApi_Ring)) (opens_cons (u := 23) (s := 1) (by kernel_rfl) (by kernel_rfl) (by kernel_rfl) (opens_slice (e := 82) (s := 1) (dsl_TApi_Instr .undef) (by kernel_rfl) (by kernel_rfl) (by decide) (opens_slice (e := 81) (s := 6) (d_TApi_Instr .undef) (by kernel_rfl) (by kernel_rfl) (by decide) (op_TApi_Instr))) opens_nil))) (fun x => ⟨x.1, x.2.1⟩) (fun _ => rfl) (fun _ h => h)


theorem given_Program : Given Tryz.prog 25 e_TApi_Program ok_TApi_Program :=
  given_struct (fs := flds Tryz.prog 25) (by kernel_rfl) op_TApi_Program (fun _ => rfl) (fun _ => rfl)
theorem okP_of {p : TApi_Program} (h : ok_TApi_Program p) : okP p := by
  obtain ⟨⟨rz, rn, rr⟩, ⟨_, tn, tt⟩, _⟩ := h
  refine ⟨rn, tn, fun t ht => (tt t ht).2.1, fun t ht k hk => ?_, rz, fun t ht => (tt t ht).1⟩
  obtain ⟨_, a, b, c, d, k, _⟩ := (tt t ht).2.2 k hk
  have a := wf_i64 a; have b := wf_i64 b; have c := wf_i64 c; have d := wf_i64 d
  exact ⟨wf_u64 k, by omega, by omega, by omega, by omega⟩

theorem given_Str : Given Tryz.prog 9 V.str (fun s => s.size ≤ maxLen) :=
  given_leaf (cells_str (by kernel_rfl)) (opens_str (by kernel_rfl)) (fun _ => rfl) (fun _ => rfl)


open Go.ChangeShapes Go.WideShapes Go.ChangeAt Go.RowKit

theorem Tryz.own : ownKnob Tryz.prog.godebug = none := by kernel_rfl
theorem Tryz.laidOut : laidOutB Tryz.prog = true := by kernel_rfl
theorem Tryz.rowed : mapsRowed Tryz.prog = true := by kernel_rfl
theorem Tryz.full : ∀ t e, t < Tryz.prog.types.size → Tryz.prog.underlying t = some (.slice e) → 0 < Tryz.prog.cellsOf e := slices_full_of Tryz.prog (by kernel_rfl)

def zeroProgram : Value := .agg #[.slice none 0 0, .slice none 0 0]

theorem snapLoads_lifted (os : Os) (started : os.Started) (H : Type) (enc : TypeId × Value → H) :
    ReturnsInHanded {} Tryz.checked os 3 .any (Rows.snapLoadsSpec.pre6 enc Tryz.prog Tryz.f3 Rows.snapLoadsRow.domain false) (Rows.snapLoadsSpec.post enc Tryz.prog Tryz.f3 false true false false) := by
  refine lifted (tb := 4) (C := Tryz.checked) Tryz.own started (by kernel_rfl) Tryz.func3
    (ChangeSpec.witness6 (enc := enc) (C := Tryz.checked) false ⟨#[], #[zeroProgram, .string ⟨#[]⟩], []⟩ 8 (by kernel_rfl) (by kernel_rfl) (by kernel_rfl) (by kernel_rfl)) Tryz.laidOut Tryz.rowed Tryz.full
    (by kernel_rfl) rfl rfl (by kernel_rfl) ?_ ?_
  · intro ds hl
    match ds, hl with
    | [_, _], _ => rfl
  · intro W base args ds ps hval hA
    rw [Tryz.params3] at hA hval
    obtain ⟨v0, v1, d0, d1, p0, p1, rfl, rfl, rfl, h0, h1⟩ := trodAll_two hA
    obtain ⟨a, ha, ra⟩ := given_Program H enc W base v0 d0 p0 (hval 0 25 v0 rfl rfl) h0
    obtain ⟨b, _, rb⟩ := given_Str H enc W base v1 d1 p1 (hval 1 9 v1 rfl rfl) h1
    obtain ⟨y, hy, rfl⟩ := w_SnapLoads a b (okP_of ha)
    refine calls_bool (con_w22_SnapLoads.ok (a, b) true hy) (fun j x v hx hv => ?_) rfl
    match j, hx, hv with
    | 0, hx, hv => change some (e_TApi_Program a) = some x at hx; cases hx; simp at hv; subst hv; exact ra
    | 1, hx, hv => change some (V.str b) = some x at hx; cases hx; simp at hv; subst hv; exact rb

theorem snapLoads_holds : Rows.SnapLoadsSaid :=
  OpenClaim.holds_of_wide 3 Tryz.f3 rfl rfl rfl rfl rfl rfl rfl ⟨rfl, rfl, rfl, rfl, rfl⟩ rfl rfl rfl rfl rfl (by kernel_rfl) Tryz.func3 (by kernel_rfl)
    (of_decide_eq_true (by kernel_rfl)) (by unfold Func.isWrapper; first | (rw [if_pos (by decide +kernel)]; kernel_rfl) | (rw [if_neg (by decide +kernel)]; exact ⟨rfl, rfl⟩))
    (fun os started H enc _ => snapLoads_lifted os started H enc)
end Go.Proofs.YtiplcdhnjennfaaGreat
