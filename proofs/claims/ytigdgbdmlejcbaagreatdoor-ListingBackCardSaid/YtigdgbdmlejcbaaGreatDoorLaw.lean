/- For every program: what is printed is read as it was; what was handed in reads as it did. No conditions beyond the card's own. -/
import Derived.Test.YtigdgbdmlejcbaaGreatDoorGC
import Derived.Lib.ParseIntBCases
import Derived.Test.YtigdgbdmlejcbaaGreatDoorRows
import Derived.Test.YtigdgbdmlejcbaaGreatDoorCards
import Derived.Test.YtigdgbdmlejcbaaGreatDoorTie
import Derived.Deep.DeepHandedRow
import Derived.Deep.DeepWitnessRowRef
import Derived.Stop.LaidErr
import Derived.Lib.LaidTab
import Derived.MakeChecks
import Derived.Shelf.Vars
import Derived.Lay
namespace Go.Proofs.YtigdgbdmlejcbaaGreatDoor
open Go Go.Vm Go.Proofs
set_option maxRecDepth 100000
theorem all_wp {P : Program} {X R : Type} {tt : Dyn X R → X → TT P R} (st : Nat → X) (N : Nat) (p : Nat → Prop) (Q : R → Prop) (hend : ∀ D, (∀ j, j < N → p j) → (tt D (st N)).wp Q)
    (hstep : ∀ (D : Dyn X R) k, k < N → (∀ j, j < k → p j) → (p k → D.wp (st (k + 1)) Q) → (tt D (st k)).wp Q) : (Dyn.loop tt).wp (st 0) Q :=
  count_wp st N (fun k => ∀ j, j < k → p j) Q hend
    (fun D k hk hJ hD => hstep D k hk hJ fun h => hD fun j hj => by
      by_cases e : j = k
      · subst e; exact h
      · exact hJ j (by omega)) (Nat.zero_le _) fun j hj => by omega
theorem ff_iff {q : Prop} (h : ¬ q) : (false = true ↔ q) := ⟨fun e => absurd e (by decide), fun k => absurd k h⟩
theorem tt_iff {q : Prop} (h : q) : (true = true ↔ q) := ⟨fun _ => h, fun _ => rfl⟩
theorem dec_iff {b : Bool} {p q : Prop} (hb : b = true ↔ p) (h : p ↔ q) : (b = true ↔ q) := hb.trans h
theorem bool_of {a b : Bool} (h : a = true ↔ b = true) : a = b := Bool.eq_iff_iff.2 h
theorem L_push {α : Type} (w : Sl α) (b : Bool) (y : α) : (Sl.mk b (w.n + 1) fun i => cond (Nat.blt i w.n) (w.get i) y).L = w.L ++ [y] := by
  show (List.range (w.n + 1)).map (fun i => cond (Nat.blt i w.n) (w.get i) y) = _
  rw [List.range_succ, List.map_append]
  unfold Sl.L
  congr 1
  · refine List.map_congr_left fun i hi => ?_
    have : Nat.blt i w.n = true := by simpa using List.mem_range.1 hi
    rw [this]; rfl
  · have : Nat.blt w.n w.n = false := by
      cases h : Nat.blt w.n w.n
      · rfl
      · rw [Nat.blt_eq] at h; omega
    rw [List.map_singleton, this]
    rfl
theorem nd1 {R : Type} {t : TT Tryz.prog R} {Q : R → Prop} {p : Prop} [Decidable p] (h : p) (k : t.wp Q) : (TT.need (decide p) t).wp Q := ⟨decide_eq_true h, k⟩
theorem w_Itoa {n : Int} (h0 : 0 ≤ n) (h1 : n ≤ 9223372036854775807) : ∃ y, con_strconv_Itoa.rel n y ∧ y = mkB (Lib.decDigits n.toNat) := by
  refine ⟨digB n.toNat, ?_, digB_eq _ (by omega)⟩
  show itoaS n = some _
  unfold itoaS
  rw [show (ile 0 n && ile n 9223372036854775807) = true by simp only [Bool.and_eq_true, ile_iff]; exact ⟨h0, h1⟩]
  rfl
theorem w_FU {n : Int} (h0 : 0 ≤ n) (h1 : n < 18446744073709551616) : ∃ y, con_strconv_FormatUint.rel (n, 10) y ∧ y = mkB (Lib.decDigits n.toNat) := by
  refine ⟨digB n.toNat, ?_, digB_eq _ (by omega)⟩
  show fuS (n, 10) = some _
  unfold fuS
  rw [show (ile 0 (n, (10 : Int)).1 && (ile (n, (10 : Int)).1 18446744073709551615 && ieq (n, (10 : Int)).2 10)) = true by simp only [Bool.and_eq_true, ile_iff, ieq_iff]; exact ⟨h0, by omega, trivial⟩]
  rfl
theorem dig_byte {d : Int} (h0 : 0 ≤ d) (h1 : d < 10) : bytesOf 1 (fun _ => IntKind.u8.wrap (IntKind.u64.wrap (48 + d))) = mkB [UInt8.ofNat (48 + d.toNat)] := by
  rw [wrapu64 (by omega) (by omega), wrapu8]
  obtain ⟨m, rfl⟩ := Int.eq_ofNat_of_zero_le h0
  rw [show ((48 : Int) + (m : Int)) % 256 = ((48 + m : Nat) : Int) by omega]
  rfl
theorem w_r10_Number {n : Int} (h0 : 0 ≤ n) (h1 : n < 18446744073709551616) : D_r10_Number.wp n fun y => y = mkB (Lib.decDigits n.toNat) := by
  refine of_wp ?_
  simp only [tt_r10_Number]
  have len : ∀ {a b : List UInt8}, a.length + b.length ≤ 40 → (mkB a).size + (mkB b).size ≤ (9223372036854775807 : Nat) := fun {a b} h => by rw [mkB_size, mkB_size]; omega
  refine loop_wp (x := (⟨n, ⟨#[]⟩⟩ : X_r10_Number_2)) (fun x => 0 ≤ x.n_0 ∧ x.n_0 ≤ n ∧ ∃ o : List UInt8, x.out_3 = mkB o ∧ Lib.decDigits n.toNat = Lib.decDigits x.n_0.toNat ++ o) (fun x => x.n_0.toNat) (fun _ y => y = mkB (Lib.decDigits n.toNat)) (fun D x hx hD => ?_) ⟨h0, Int.le_refl _, [], rfl, by simp⟩
  obtain ⟨a, out⟩ := x
  obtain ⟨ha0, ha1, o, ho, he⟩ := hx
  simp only at ha0 ha1 ho he
  subst ho
  have hl := digN_len n.toNat (by omega)
  rw [he, List.length_append] at hl
  simp only [tt_r10_Number_2]
  refine wp_if ilt_iff (fun h => ?_) fun h => ?_
  · have hm : Int.tmod a 10 = a % 10 := Int.tmod_eq_emod_of_nonneg ha0
    have hq : Int.tdiv a 10 = a / 10 := Int.tdiv_eq_ediv_of_nonneg ha0
    have hw : IntKind.u64.wrap (a / 10) = a / 10 := wrapu64 (by omega) (by omega)
    rw [hm, hq, hw, dig_byte (by omega) (by omega), mkB_app]
    have hr : ¬ a.toNat < 10 := by omega
    refine wp_side.2 ?_
    refine nd1 (len ?_) ?_
    · rw [List.length_singleton]; omega
    refine hD ⟨a / 10, mkB ([UInt8.ofNat (48 + (a % 10).toNat)] ++ o)⟩ ⟨by show 0 ≤ a / 10; omega, by show a / 10 ≤ n; omega, _, rfl, ?_⟩ (by show (a / 10).toNat < a.toNat; omega)
    show Lib.decDigits n.toNat = Lib.decDigits (a / 10).toNat ++ _
    rw [he, dig_rec hr, show (a / 10).toNat = a.toNat / 10 by omega, show (a % 10).toNat = a.toNat % 10 by omega, List.append_assoc]
  · refine of_wp ?_
    simp only [tt_r10_Number_5]
    rw [dig_byte (by omega) (by omega), mkB_app]
    refine wp_side.2 ?_
    refine nd1 (len ?_) ?_
    · rw [List.length_singleton]; omega
    rw [he, dig_one (by omega)]
    rfl
theorem map_mkB (W : List (List UInt8)) : (W.map mkB).map (·.data.toList) = W := by
  rw [List.map_map]
  conv => rhs; rw [← List.map_id W]
  exact List.map_congr_left fun x _ => mkB_data x
theorem w_Join {l : Sl ByteArray} {W : List (List UInt8)} (hL : l.L = W.map mkB) (hn : l.n ≤ 10) (hb : (Lib.join W [32]).length ≤ 1000) : ∃ y, con_strings_Join.rel (l, ByteArray.mk #[32]) y ∧ y = mkB (Lib.join W [32]) := by
  have e : l.L.map (·.data.toList) = W := by rw [hL, map_mkB]
  refine ⟨joinB l.L (ByteArray.mk #[32]), ⟨?_, rfl⟩, ?_⟩
  · show joinOk (l, ByteArray.mk #[32]) = true
    unfold joinOk
    simp only [e, Bool.and_eq_true, Nat.ble_eq]
    exact ⟨by omega, Nat.le_trans hb (by decide)⟩
  · unfold joinB; rw [e]; rfl
theorem room_ok {n b : Nat} (h : n * b ≤ 140737488351232) : (true && room n b) = true := by simp [room]; omega
theorem sz_ok {a b : List UInt8} (h : a.length + b.length ≤ 200) : (mkB a).size + (mkB b).size ≤ (9223372036854775807 : Nat) := by rw [mkB_size, mkB_size]; omega
theorem w_slices_Index (s : Sl ByteArray) (v : ByteArray) (hn : s.n ≤ 1000) : D_slices_Index_string.wp (s, v) fun y => (y = -1 ∧ ∀ j, j < s.n → v ≠ s.get j) ∨ ∃ k : Nat, k < s.n ∧ y = (k : Int) ∧ v = s.get k := by
  refine of_wp ?_
  simp only [tt_slices_Index_string]
  refine all_wp (fun k => (⟨s, v, s.n, (k : Nat)⟩ : X_slices_Index_string_2)) s.n (fun k => v ≠ s.get k) _ (fun D hJ => ?_) (fun D k hk _ hD => ?_)
  · simp only [tt_slices_Index_string_2, ilt_nat, Nat.lt_irrefl, decide_false, wp_false]
    exact .inl ⟨rfl, hJ⟩
  · simp only [tt_slices_Index_string_2, ilt_nat, hk, decide_true, wp_true, inb_nat hk, wp_need_true, Int.toNat_natCast, next64 hk (show s.n ≤ maxLen by simp only [maxLen]; omega)]
    exact wp_if seq_iff (fun h => .inr ⟨k, hk, rfl, h⟩) fun h => hD h
theorem eq_i64 (z : Int) (h0 : -9223372036854775808 ≤ z) (h1 : z ≤ 9223372036854775807) : IntKind.i64.wrap z = z := wrap64 h0 h1
theorem maxLen_le {n : Nat} (h : n ≤ maxLen) : (n : Int) ≤ 9223372036854775807 := by have := (by decide : maxLen ≤ 9223372036854775807); omega

/-! ### Instructions: code and its reference -/
theorem w_code_Plain (x : Int) : D_code_Plain.wp x fun y => y = true ↔ 1 ≤ x ∧ x ≤ 17 := by
  refine of_wp ?_
  simp only [tt_code_Plain, TT.wp, ile_iff, ilt_iff, ieq_iff, bnot_iff, inb_iff2, Bool.and_eq_true, Bool.false_eq_true, true_iff, false_iff]
  omega
def limM (x : Int) : TCode_limits × Bool :=
  if x = 1 then (⟨7, 0, 0, 0, 18446744073709551615⟩, true)
  else if x = 2 ∨ x = 23 then (⟨7, 7, 0, 0, 0⟩, true)
  else if x = 15 then (⟨0, 0, 0, 0, 256⟩, true)
  else if x = 16 ∨ x = 17 then (⟨7, 0, 0, 0, 256⟩, true)
  else if x = 18 then (⟨7, 7, 7, 2, 0⟩, true)
  else if x = 19 then (⟨7, 7, 7, 2, 7⟩, true)
  else if x = 20 then (⟨0, 0, 7, 0, 0⟩, true)
  else if x = 21 ∨ x = 22 ∨ x = 24 then (⟨7, 0, 0, 0, 0⟩, true)
  else if x = 25 then (⟨0, 0, 0, 0, 0⟩, true)
  else (⟨7, 7, 7, 0, 0⟩, decide (1 ≤ x ∧ x ≤ 17))
theorem w_code_limit (x : Int) : D_code_limit.wp x fun y => y = limM x := by
  have e : ∀ z, D_code_limit_24.wp (⟨x, z⟩ : X_code_limit_24) fun y => y = (⟨7, 7, 7, 0, 0⟩, decide (1 ≤ x ∧ x ≤ 17)) := by
    intro z
    refine of_wp ?_
    show (tt_code_limit_24 ⟨x, z⟩).wp _
    simp only [tt_code_limit_24]
    refine wp_call (w_code_Plain x) fun (y : Bool) hy => ?_
    have : y = decide (1 ≤ x ∧ x ≤ 17) := by rw [Bool.eq_iff_iff, decide_eq_true_eq]; exact hy
    subst this
    rfl
  refine of_wp ?_
  simp only [tt_code_limit, TT.wp, ieq_iff, ieq_false, limM]
  refine ⟨fun h => by simp [h], fun h1 => ⟨fun h => by simp [h], fun h2 => ⟨fun h => by simp [h], fun h3 => ⟨fun h => by simp [h], fun h4 => ⟨fun h => by simp [h], fun h5 => ⟨fun h => by simp [h], fun h6 => ⟨fun h => by simp [h], fun h7 =>
    ⟨fun h => by simp [h], fun h8 => ⟨fun h => by simp [h], fun h9 => ⟨fun h => by simp [h], fun h10 => ⟨fun h => by simp [h], fun h11 => ⟨fun h => by simp [h], fun h12 => ⟨fun h => by simp [h], fun h13 => ?_⟩⟩⟩⟩⟩⟩⟩⟩⟩⟩⟩⟩⟩
  simp only [h1, h2, h3, h4, h5, h6, h7, h8, h9, h10, h11, h12, h13, if_false, or_self]
  exact e _

theorem limM_right {i : TApi_Instr} (h0 : 0 ≤ i.K) (h1 : i.K < 18446744073709551616) :
    (limM i.Op).2 = true ∧ (0 ≤ i.A ∧ i.A ≤ (limM i.Op).1.a) ∧ (0 ≤ i.B ∧ i.B ≤ (limM i.Op).1.b) ∧ (0 ≤ i.C ∧ i.C ≤ (limM i.Op).1.c) ∧ (0 ≤ i.D ∧ i.D ≤ (limM i.Op).1.d) ∧ i.K ≤ (limM i.Op).1.k ↔ rightI i = true := by
  unfold limM rightI
  simp only
  by_cases e1 : i.Op = 1
  · simp [e1]; omega
  by_cases e2 : i.Op = 2 ∨ i.Op = 23
  · simp only [e1, e2, if_false, if_true, Bool.and_eq_true, decide_eq_true_eq, true_and]; omega
  by_cases e3 : i.Op = 15
  · simp [e3]; omega
  by_cases e4 : i.Op = 16 ∨ i.Op = 17
  · have : ¬ (3 ≤ i.Op ∧ i.Op ≤ 14) := by omega
    simp only [e1, e2, e3, e4, this, if_false, if_true, Bool.and_eq_true, decide_eq_true_eq, true_and]; omega
  by_cases e5 : i.Op = 18
  · simp [e5]; omega
  by_cases e6 : i.Op = 19
  · simp [e6]; omega
  by_cases e7 : i.Op = 20
  · simp [e7]; omega
  by_cases e8 : i.Op = 21 ∨ i.Op = 22 ∨ i.Op = 24
  · have : ¬ (3 ≤ i.Op ∧ i.Op ≤ 14) := by omega
    simp only [e1, e2, e3, e4, e5, e6, e7, e8, this, if_false, if_true, Bool.and_eq_true, decide_eq_true_eq, true_and]; omega
  by_cases e9 : i.Op = 25
  · simp [e9]; omega
  by_cases e10 : 3 ≤ i.Op ∧ i.Op ≤ 14
  · have : 1 ≤ i.Op ∧ i.Op ≤ 17 := by omega
    simp only [e1, e2, e3, e4, e5, e6, e7, e8, e9, e10, this, if_false, if_true, Bool.and_eq_true, decide_eq_true_eq, true_and, and_self]; omega
  · have : ¬ (1 ≤ i.Op ∧ i.Op ≤ 17) := by omega
    simp only [e1, e2, e3, e4, e5, e6, e7, e8, e9, e10, this, if_false, decide_false, Bool.false_eq_true, false_and]

/-- A number of an instruction that was handed in. -/
def okI (i : TApi_Instr) : Prop := (0 ≤ i.K ∧ i.K < 18446744073709551616) ∧ i.A < 9223372036854775808 ∧ i.B < 9223372036854775808 ∧ i.C < 9223372036854775808 ∧ i.D < 9223372036854775808

theorem w_code_Right (i : TApi_Instr) (h : okI i) : D_code_Right.wp i fun y => y = true ↔ rightI i = true := by
  refine of_wp ?_
  simp only [tt_code_Right]
  refine wp_call (w_code_limit i.Op) fun (y : TCode_limits × Bool) hy => ?_
  subst hy
  rw [← limM_right h.1.1 h.1.2]
  generalize limM i.Op = m
  obtain ⟨⟨a, b, c, d, k⟩, ok⟩ := m
  cases ok <;> simp only [TT.wp, ile_iff, ilt_iff, ieq_iff, bnot_iff, inb_iff2, Bool.and_eq_true, Bool.false_eq_true, true_iff, false_iff, false_imp_iff, not_false_eq_true, true_imp_iff, not_true_eq_false, true_and, and_true, false_and]
  · omega

/-! ### The references' check of a program -/
def formM (x : Int) : ByteArray :=
  if x = 1 then ⟨#[114, 48, 48, 48, 110]⟩
  else if x = 2 ∨ x = 23 then ⟨#[114, 114, 48, 48, 48]⟩
  else if 3 ≤ x ∧ x ≤ 14 then ⟨#[114, 114, 114, 48, 48]⟩
  else if x = 15 then ⟨#[48, 48, 48, 48, 112]⟩
  else if x = 16 ∨ x = 17 then ⟨#[114, 48, 48, 48, 112]⟩
  else if x = 18 then ⟨#[114, 114, 103, 109, 48]⟩
  else if x = 19 then ⟨#[114, 114, 103, 109, 100]⟩
  else if x = 20 then ⟨#[48, 48, 103, 48, 48]⟩
  else if x = 21 ∨ x = 22 ∨ x = 24 then ⟨#[114, 48, 48, 48, 48]⟩
  else if x = 25 then ⟨#[48, 48, 48, 48, 48]⟩
  else ⟨#[]⟩
def mostB (c : Int) : Int := if c = 114 ∨ c = 103 ∨ c = 100 then 7 else if c = 109 then 2 else if c = 112 then 256 else if c = 110 then 18446744073709551615 else 0

theorem w_r09_form (x : Int) : D_r09_form.wp x fun y => y = formM x := by
  refine of_wp ?_
  simp only [tt_r09_form, TT.wp, ieq_iff, ile_iff]
  repeat' (first | apply And.intro | intro _)
  all_goals first
    | (exfalso; omega)
    | (rename_i h; subst h; rfl)
    | (unfold formM; rw [if_neg (by omega), if_neg (by omega), if_pos (by omega)])
    | (unfold formM; rw [if_neg (by omega), if_neg (by omega), if_neg (by omega), if_neg (by omega), if_neg (by omega), if_neg (by omega), if_neg (by omega), if_neg (by omega), if_neg (by omega), if_neg (by omega)])
theorem w_r09_most (x : Int) : D_r09_most.wp x fun y => y = mostB x := by
  refine of_wp ?_
  simp only [tt_r09_most, TT.wp, ieq_iff]
  repeat' (first | apply And.intro | intro _)
  all_goals first
    | (rename_i h; subst h; rfl)
    | (unfold mostB; rw [if_neg (by omega), if_neg (by omega), if_neg (by omega), if_neg (by omega)])

def ins4 (i : TApi_Instr) (j : Nat) : Int := cond (Nat.beq j 0) i.A (cond (Nat.beq j 1) i.B (cond (Nat.beq j 2) i.C i.D))
theorem form_size (x : Int) : formM x = ⟨#[]⟩ ∨ (formM x).size = 5 := by
  unfold formM
  repeat' split
  all_goals first | exact .inr rfl | exact .inl rfl

theorem form_right {i : TApi_Instr} (h : okI i) : (formM i.Op ≠ ⟨#[]⟩ ∧ i.K ≤ mostB (bt (formM i.Op) 4) ∧ ∀ j, j < 4 → 0 ≤ ins4 i j ∧ ins4 i j ≤ mostB (bt (formM i.Op) j)) ↔ rightI i = true := by
  have e4 : ∀ (f : ByteArray), (∀ j, j < 4 → 0 ≤ ins4 i j ∧ ins4 i j ≤ mostB (bt f j)) ↔ (0 ≤ i.A ∧ i.A ≤ mostB (bt f 0)) ∧ (0 ≤ i.B ∧ i.B ≤ mostB (bt f 1)) ∧ (0 ≤ i.C ∧ i.C ≤ mostB (bt f 2)) ∧ (0 ≤ i.D ∧ i.D ≤ mostB (bt f 3)) := by
    intro f
    refine ⟨fun h => ⟨h 0 (by omega), h 1 (by omega), h 2 (by omega), h 3 (by omega)⟩, fun h j hj => ?_⟩
    match j, hj with
    | 0, _ => exact h.1
    | 1, _ => exact h.2.1
    | 2, _ => exact h.2.2.1
    | 3, _ => exact h.2.2.2
  rw [e4]
  obtain ⟨⟨k0, k1⟩, _⟩ := h
  have m : mostB 114 = 7 ∧ mostB 48 = 0 ∧ mostB 110 = 18446744073709551615 ∧ mostB 112 = 256 ∧ mostB 103 = 7 ∧ mostB 109 = 2 ∧ mostB 100 = 7 := by decide
  obtain ⟨m1, m2, m3, m4, m5, m6, m7⟩ := m
  have ne : ∀ {a b c d e : UInt8}, (⟨#[a, b, c, d, e]⟩ : ByteArray) ≠ ⟨#[]⟩ := fun h => by cases h
  have b5 : ∀ (a b c d e : UInt8), bt ⟨#[a, b, c, d, e]⟩ 0 = (a.toNat : Int) ∧ bt ⟨#[a, b, c, d, e]⟩ 1 = (b.toNat : Int) ∧ bt ⟨#[a, b, c, d, e]⟩ 2 = (c.toNat : Int) ∧ bt ⟨#[a, b, c, d, e]⟩ 3 = (d.toNat : Int) ∧ bt ⟨#[a, b, c, d, e]⟩ 4 = (e.toNat : Int) :=
    fun a b c d e => ⟨rfl, rfl, rfl, rfl, rfl⟩
  have u : (((114 : UInt8).toNat : Nat) : Int) = 114 ∧ (((48 : UInt8).toNat : Nat) : Int) = 48 ∧ (((110 : UInt8).toNat : Nat) : Int) = 110 ∧ (((112 : UInt8).toNat : Nat) : Int) = 112 ∧ (((103 : UInt8).toNat : Nat) : Int) = 103 ∧
      (((109 : UInt8).toNat : Nat) : Int) = 109 ∧ (((100 : UInt8).toNat : Nat) : Int) = 100 := by decide
  obtain ⟨u1, u2, u3, u4, u5, u6, u7⟩ := u
  have key : ∀ (a b c d e : UInt8), ((⟨#[a, b, c, d, e]⟩ : ByteArray) ≠ ⟨#[]⟩ ∧ i.K ≤ mostB (bt ⟨#[a, b, c, d, e]⟩ 4) ∧ (0 ≤ i.A ∧ i.A ≤ mostB (bt ⟨#[a, b, c, d, e]⟩ 0)) ∧ (0 ≤ i.B ∧ i.B ≤ mostB (bt ⟨#[a, b, c, d, e]⟩ 1)) ∧ (0 ≤ i.C ∧ i.C ≤ mostB (bt ⟨#[a, b, c, d, e]⟩ 2)) ∧ (0 ≤ i.D ∧ i.D ≤ mostB (bt ⟨#[a, b, c, d, e]⟩ 3))) ↔
      (i.K ≤ mostB e.toNat ∧ (0 ≤ i.A ∧ i.A ≤ mostB a.toNat) ∧ (0 ≤ i.B ∧ i.B ≤ mostB b.toNat) ∧ (0 ≤ i.C ∧ i.C ≤ mostB c.toNat) ∧ (0 ≤ i.D ∧ i.D ≤ mostB d.toNat)) := by
    intro a b c d e
    obtain ⟨h0, h1, h2, h3, h4⟩ := b5 a b c d e
    rw [h0, h1, h2, h3, h4]
    exact ⟨fun h => h.2, fun h => ⟨ne, h⟩⟩
  by_cases e1 : i.Op = 1
  · have hf : formM i.Op = ⟨#[114, 48, 48, 48, 110]⟩ := by rw [e1]; rfl
    rw [hf, key, u1, u2, u3, m1, m2, m3]; unfold rightI; simp only [e1]; simp; omega
  by_cases e2 : i.Op = 2 ∨ i.Op = 23
  · have hf : formM i.Op = ⟨#[114, 114, 48, 48, 48]⟩ := by unfold formM; rw [if_neg e1, if_pos e2]
    rw [hf, key, u1, u2, m1, m2]; unfold rightI; simp only [e1, e2, if_false, if_true, Bool.and_eq_true, decide_eq_true_eq]; omega
  by_cases e3 : 3 ≤ i.Op ∧ i.Op ≤ 14
  · have hf : formM i.Op = ⟨#[114, 114, 114, 48, 48]⟩ := by unfold formM; rw [if_neg e1, if_neg e2, if_pos e3]
    rw [hf, key, u1, u2, m1, m2]; unfold rightI; simp only [e1, e2, e3, if_false, if_true, and_self, Bool.and_eq_true, decide_eq_true_eq]; omega
  by_cases e4 : i.Op = 15
  · have hf : formM i.Op = ⟨#[48, 48, 48, 48, 112]⟩ := by rw [e4]; rfl
    rw [hf, key, u2, u4, m2, m4]; unfold rightI; simp only [e4]; simp; omega
  by_cases e5 : i.Op = 16 ∨ i.Op = 17
  · have hf : formM i.Op = ⟨#[114, 48, 48, 48, 112]⟩ := by unfold formM; rw [if_neg e1, if_neg e2, if_neg e3, if_neg e4, if_pos e5]
    rw [hf, key, u1, u2, u4, m1, m2, m4]; unfold rightI; simp only [e1, e2, e3, e4, e5, if_false, if_true, Bool.and_eq_true, decide_eq_true_eq]; omega
  by_cases e6 : i.Op = 18
  · have hf : formM i.Op = ⟨#[114, 114, 103, 109, 48]⟩ := by rw [e6]; rfl
    rw [hf, key, u1, u2, u5, u6, m1, m2, m5, m6]; unfold rightI; simp only [e6]; simp; omega
  by_cases e7 : i.Op = 19
  · have hf : formM i.Op = ⟨#[114, 114, 103, 109, 100]⟩ := by rw [e7]; rfl
    rw [hf, key, u1, u5, u6, u7, m1, m5, m6, m7]; unfold rightI; simp only [e7]; simp; omega
  by_cases e8 : i.Op = 20
  · have hf : formM i.Op = ⟨#[48, 48, 103, 48, 48]⟩ := by rw [e8]; rfl
    rw [hf, key, u2, u5, m2, m5]; unfold rightI; simp only [e8]; simp; omega
  by_cases e9 : i.Op = 21 ∨ i.Op = 22 ∨ i.Op = 24
  · have hf : formM i.Op = ⟨#[114, 48, 48, 48, 48]⟩ := by unfold formM; rw [if_neg e1, if_neg e2, if_neg e3, if_neg e4, if_neg e5, if_neg e6, if_neg e7, if_neg e8, if_pos e9]
    rw [hf, key, u1, u2, m1, m2]; unfold rightI; simp only [e1, e2, e3, e4, e5, e6, e7, e8, e9, if_false, if_true, Bool.and_eq_true, decide_eq_true_eq]; omega
  by_cases e10 : i.Op = 25
  · have hf : formM i.Op = ⟨#[48, 48, 48, 48, 48]⟩ := by rw [e10]; rfl
    rw [hf, key, u2, m2]; unfold rightI; simp only [e10]; simp; omega
  · have hf : formM i.Op = ⟨#[]⟩ := by unfold formM; rw [if_neg e1, if_neg e2, if_neg e3, if_neg e4, if_neg e5, if_neg e6, if_neg e7, if_neg e8, if_neg e9, if_neg e10]
    rw [hf]; unfold rightI; simp only [e1, e2, e3, e4, e5, e6, e7, e8, e9, e10, if_false, ne_eq, not_true_eq_false, false_and, Bool.false_eq_true]

theorem w_r09_Right (i : TApi_Instr) (h : okI i) : D_r09_Right.wp i fun y => y = true ↔ rightI i = true := by
  refine of_wp ?_
  simp only [tt_r09_Right]
  refine wp_call (w_r09_form i.Op) fun (y : ByteArray) hy => ?_
  subst hy
  have hR := form_right h
  have hs := form_size i.Op
  generalize formM i.Op = f at hR hs
  refine wp_if (p := f = ⟨#[]⟩) seq_iff (fun he => ?_) (fun he => ?_)
  · show (false = true ↔ _)
    rw [← hR]; exact ⟨fun h => absurd h (by decide), fun h => absurd he h.1⟩
  · have hs : f.size = 5 := hs.resolve_left he
    refine wp_need (by rw [inb_iff2, hs]; decide) ?_
    refine wp_call (w_r09_most _) fun (y : Int) hy => ?_
    subst hy
    refine wp_if ilt_iff (fun hk => ?_) (fun hk => ?_)
    · show (false = true ↔ _)
      rw [← hR]
      refine ⟨fun h => absurd h (by decide), fun h => ?_⟩
      have := h.2.1
      exact absurd hk (Int.not_lt.2 this)
    · refine of_wp ?_
      simp only [tt_r09_Right_4]
      refine count_wp (fun k => (⟨f, ⟨false, 4, ins4 i⟩, (k : Nat)⟩ : X_r09_Right_6)) 4 (fun k => ∀ j, j < k → 0 ≤ ins4 i j ∧ ins4 i j ≤ mostB (bt f j)) _
        (fun D hJ => ?_) (fun D k hk4 hJ hD => ?_) (k := 0) (Nat.zero_le _) (fun j hj => by omega)
      · simp only [tt_r09_Right_6]
        refine wp_if ilt_iff (fun hk => absurd hk (by decide)) (fun _ => ?_)
        show (true = true ↔ _)
        rw [← hR]
        exact ⟨fun _ => ⟨he, Int.not_lt.1 hk, hJ⟩, fun _ => rfl⟩
      · simp only [tt_r09_Right_6]
        refine wp_if ilt_iff (fun _ => ?_) (fun hk => absurd (Int.ofNat_lt.2 hk4) hk)
        refine wp_need (by rw [inb_iff2]; exact ⟨Int.natCast_nonneg _, Int.ofNat_lt.2 hk4⟩) ?_
        rw [Int.toNat_natCast]
        have hb : ins4 i k < 9223372036854775808 := by
          obtain ⟨_, a, b, c, d⟩ := h
          match k, hk4 with
          | 0, _ => exact a
          | 1, _ => exact b
          | 2, _ => exact c
          | 3, _ => exact d
        refine wp_if (p := ins4 i k < 0) ilt_iff (fun hn => ?_) (fun hn => ?_)
        · show (false = true ↔ _)
          rw [← hR]
          refine ⟨fun h => absurd h (by decide), fun h => ?_⟩
          have := (h.2.2 k hk4).1; omega
        · refine wp_need (by rw [inb_iff2]; exact ⟨Int.natCast_nonneg _, Int.ofNat_lt.2 hk4⟩) (wp_need (by rw [inb_iff2, hs]; omega) ?_)
          refine wp_call (w_r09_most _) fun (y : Int) hy => ?_
          subst hy
          refine wp_if (p := mostB (bt f k) < ins4 i k) (by rw [ilt_iff]; show mostB _ < IntKind.u64.wrap (ins4 i k) ↔ _; rw [wrapu64 (by omega) (by omega)]) (fun hn2 => ?_) (fun hn2 => ?_)
          · show (false = true ↔ _)
            rw [← hR]
            refine ⟨fun h => absurd h (by decide), fun h => ?_⟩
            have := (h.2.2 k hk4).2; omega
          · refine of_wp ?_
            simp only [tt_r09_Right_7]
            have e : IntKind.i64.wrap ((k : Int) + 1) = ((k + 1 : Nat) : Int) := by rw [wrap64] <;> omega
            show D.wp ⟨f, ⟨false, 4, ins4 i⟩, _⟩ _
            rw [e]
            refine hD fun j hj => ?_
            by_cases ej : j = k
            · subst ej; exact ⟨by omega, by omega⟩
            · exact hJ j (by omega)

theorem WfI.ok {i : TApi_Instr} (h : WfI i) : okI i := by
  obtain ⟨_, ha, hb, hc, hd, hk⟩ := h
  exact ⟨hk, by omega, by omega, by omega, by omega⟩
/-! ### Names -/
theorem w_code_Seen (x : Int) : D_code_Seen.wp x fun y => y = true ↔ 18 ≤ x ∧ x ≤ 25 := by
  refine of_wp ?_
  simp only [tt_code_Seen, TT.wp, ile_iff, ilt_iff, ieq_iff, bnot_iff, inb_iff2, Bool.and_eq_true, Bool.false_eq_true, true_iff, false_iff]
  omega
theorem w_code_names : D_code_names.wp PUnit.unit fun y => y.n = 25 ∧ ∀ i, i < 25 → y.get i = mkB (opN i) := by
  refine of_wp ?_
  simp only [tt_code_names]
  refine ⟨rfl, fun i hi => ?_⟩
  show cond _ _ _ = _
  rcases (by omega : i = 0 ∨ i = 1 ∨ i = 2 ∨ i = 3 ∨ i = 4 ∨ i = 5 ∨ i = 6 ∨ i = 7 ∨ i = 8 ∨ i = 9 ∨ i = 10 ∨ i = 11 ∨ i = 12 ∨ i = 13 ∨ i = 14 ∨ i = 15 ∨ i = 16 ∨ i = 17 ∨ i = 18 ∨ i = 19 ∨ i = 20 ∨ i = 21 ∨ i = 22 ∨ i = 23 ∨ i = 24) with e | e | e | e | e | e | e | e | e | e | e | e | e | e | e | e | e | e | e | e | e | e | e | e | e <;> subst e <;> rfl
theorem w_code_Name (k : Int) : D_code_Name.wp k fun y => y = mkB (opK k) := by
  have h3 : (1 ≤ k ∧ k ≤ 25) → D_code_Name_3.wp (⟨k⟩ : X_code_Name_3) fun y => y = mkB (opK k) := fun h => by
    refine of_wp ?_
    simp only [tt_code_Name_3]
    refine wp_call w_code_names fun (y : Sl ByteArray) hy => ?_
    have hw : IntKind.i64.wrap (k - 1) = k - 1 := wrap64 (by omega) (by omega)
    rw [hw]
    refine wp_need (by rw [inb_iff2, hy.1]; omega) ?_
    show y.get (k - 1).toNat = _
    rw [hy.2 _ (by omega), opK, if_pos (by omega)]
  refine of_wp ?_
  simp only [tt_code_Name]
  refine wp_call (w_code_Plain k) fun (y : Bool) hy => wp_if (p := ¬ (1 ≤ k ∧ k ≤ 17)) (by rw [bnot_iff, hy]) (fun h1 => ?_) fun h1 => h3 (by omega)
  refine wp_call (w_code_Seen k) fun (y : Bool) hy => wp_if (p := ¬ (18 ≤ k ∧ k ≤ 25)) (by rw [bnot_iff, hy]) (fun h2 => ?_) fun h2 => h3 (by omega)
  show ByteArray.mk #[] = mkB (opK k)
  rw [opK_empty.2 (by omega)]; rfl
theorem w_r09_Name (k : Int) : D_r09_Name.wp k fun y => y = mkB (opK k) := by
  refine of_wp ?_
  simp only [tt_r09_Name]
  have no : ¬ (1 ≤ k ∧ k ≤ 25) → (ByteArray.mk #[] : ByteArray) = mkB (opK k) := fun h => by rw [opK_empty.2 h]; rfl
  refine wp_if ilt_iff (fun h => no (by omega)) fun h1 => wp_if ilt_iff (fun h => no (by omega)) fun h2 => of_wp ?_
  simp only [tt_r09_Name_4]
  have hw : IntKind.i64.wrap (k - 1) = k - 1 := wrap64 (by omega) (by omega)
  rw [hw]
  refine wp_need (by rw [inb_iff2]; show 0 ≤ k - 1 ∧ k - 1 < ((25 : Nat) : Int); omega) ?_
  rw [opK, if_pos (by omega)]
  have hi : (k - 1).toNat < 25 := by omega
  generalize (k - 1).toNat = i at hi
  rcases (by omega : i = 0 ∨ i = 1 ∨ i = 2 ∨ i = 3 ∨ i = 4 ∨ i = 5 ∨ i = 6 ∨ i = 7 ∨ i = 8 ∨ i = 9 ∨ i = 10 ∨ i = 11 ∨ i = 12 ∨ i = 13 ∨ i = 14 ∨ i = 15 ∨ i = 16 ∨ i = 17 ∨ i = 18 ∨ i = 19 ∨ i = 20 ∨ i = 21 ∨ i = 22 ∨ i = 23 ∨ i = 24) with e | e | e | e | e | e | e | e | e | e | e | e | e | e | e | e | e | e | e | e | e | e | e | e | e <;> subst e <;> rfl
theorem w_code_Find (v : ByteArray) : D_code_Find.wp v fun y => (y = (0, false) ∧ ∀ k, 1 ≤ k ∧ k ≤ 25 → v ≠ mkB (opK k)) ∨ ∃ k, (1 ≤ k ∧ k ≤ 25) ∧ y = (k, true) ∧ v = mkB (opK k) := by
  refine of_wp ?_
  simp only [tt_code_Find]
  refine wp_call w_code_names fun (y : Sl ByteArray) hy => wp_call (w_slices_Index y v (by omega)) fun (z : Int) hz => ?_
  rcases hz with ⟨rfl, h⟩ | ⟨k, hk, rfl, h⟩
  · refine wp_if ilt_iff (fun _ => .inl ⟨rfl, fun k hk e => h (k - 1).toNat (by omega) ?_⟩) fun q => absurd (by decide) q
    rw [hy.2 _ (by omega), e, opK, if_pos hk]
  · refine wp_if ilt_iff (fun q => by omega) fun _ => .inr ⟨(k : Int) + 1, by omega, ?_, ?_⟩
    · show (IntKind.i64.wrap ((k : Int) + 1), true) = _
      rw [wrap64 (by omega) (by omega)]
    · rw [h, hy.2 _ (by omega), opK, if_pos (by omega), show ((k : Int) + 1 - 1).toNat = k by omega]
theorem w_waits : D_listing_waits.wp PUnit.unit fun y => y.n = 3 ∧ ∀ i, i < 3 → y.get i = mkB (wtN i) := by
  refine of_wp ?_
  simp only [tt_listing_waits]
  refine ⟨rfl, fun i hi => ?_⟩
  show cond _ _ _ = _
  rcases (by omega : i = 0 ∨ i = 1 ∨ i = 2) with e | e | e <;> subst e <;> rfl
theorem w_r10_waits {k : Int} (h : 0 ≤ k ∧ k ≤ 2) : D_r10_waits.wp k fun y => y = mkB (wtN k.toNat) := by
  refine of_wp ?_
  simp only [tt_r10_waits]
  refine wp_need (by rw [inb_iff2]; omega) ?_
  rcases (by omega : k = 0 ∨ k = 1 ∨ k = 2) with e | e | e <;> subst e <;> rfl

/-! ### Numbers of words -/
theorem spl_mem {c : UInt8} : ∀ {s : List UInt8} {w : List UInt8}, w ∈ spl c s → w.length ≤ s.length
  | [], w, h => by rw [spl, List.mem_singleton] at h; subst h; exact Nat.le_refl _
  | b :: r, w, h => by
    have hne := spl_ne c r
    rw [spl] at h
    cases hr : spl c r with
    | nil => exact absurd hr hne
    | cons x y =>
      rw [hr] at h
      split at h
      · rcases List.mem_cons.1 h with rfl | h
        · exact Nat.zero_le _
        · exact Nat.le_succ_of_le (spl_mem (hr ▸ h))
      · rcases List.mem_cons.1 h with rfl | h
        · have := spl_mem (c := c) (s := r) (w := x) (by rw [hr]; simp)
          simp only [List.headD_cons, List.length_cons]; omega
        · exact Nat.le_succ_of_le (spl_mem (hr ▸ (List.mem_cons_of_mem _ h)))
/-- A slice of words that are not long. -/
def SzW (l : Sl ByteArray) : Prop := l.n ≤ 5000000 ∧ ∀ i, i < l.n → (l.get i).size ≤ 5000000
theorem szW_of {l : Sl ByteArray} {W : List (List UInt8)} (hL : l.L = W.map mkB) (hn : W.length ≤ 5000000) (h : ∀ w ∈ W, w.length ≤ 5000000) : SzW l := by
  have e : l.n = W.length := by have := congrArg List.length hL; simpa using this
  refine ⟨by omega, fun i hi => ?_⟩
  have hm : l.get i ∈ l.L := Sl.mem_L.2 ⟨i, hi, rfl⟩
  rw [hL] at hm
  obtain ⟨w, hw, e⟩ := List.mem_map.1 hm
  rw [← e, mkB_size]
  exact h w hw
theorem w_PU {s : ByteArray} (hs : s.size ≤ 5000000) : ∃ y, con_strconv_ParseUint.rel (s, 10, 64) y ∧ (0 ≤ y.1 ∧ y.1 < 18446744073709551616) ∧ ∀ n, n < 18446744073709551616 → s = mkB (Lib.decDigits n) → y = ((n : Int), false) := by
  have hp : (2 : Nat) ^ 64 - 1 = 18446744073709551615 := by decide
  have hc : (Nat.blt s.size 281474976710656 && (ieq 10 10 && ieq 64 64)) = true := by
    simp only [Bool.and_eq_true, ieq_iff, and_true, Nat.blt_eq]; omega
  have key : ∀ v : Int × Bool, puS (s, 10, 64) = some v → con_strconv_ParseUint.rel (s, 10, 64) v := fun v h => h
  cases h : Lib.parseUintB 64 s.data.toList with
  | ok u =>
    refine ⟨((u : Int), false), key _ ?_, ?_, fun n hn e => ?_⟩
    · unfold puS; rw [hc]; simp only [h]; rfl
    · have := Lib.parseUintB_le h
      rw [hp] at this
      exact ⟨Int.natCast_nonneg u, by show (u : Int) < _; omega⟩
    · rw [e, mkB_data, parse_dig hn] at h
      cases h; rfl
  | «syntax» =>
    refine ⟨(0, true), key _ ?_, ⟨Int.le_refl _, by decide⟩, fun n hn e => ?_⟩
    · unfold puS; rw [hc]; simp only [h]; rfl
    · rw [e, mkB_data, parse_dig hn] at h; cases h
  | range =>
    refine ⟨(18446744073709551615, true), key _ ?_, ⟨by decide, by decide⟩, fun n hn e => ?_⟩
    · unfold puS; rw [hc]; simp only [h]; rfl
    · rw [e, mkB_data, parse_dig hn] at h; cases h
theorem w_Split {s : ByteArray} (hs : s.size ≤ 4000000) : ∃ y, con_strings_Split.rel (s, ByteArray.mk #[32]) y ∧ y.L = (spl 32 s.data.toList).map mkB := by
  refine ⟨slL (splL (s, mkB [32])), ?_, ?_⟩
  · show splS (s, mkB [32]) = some _
    unfold splS
    rw [show (Nat.blt s.size 4294967281 && Nat.ble 1 (mkB [32]).size) = true by
      simp only [Bool.and_eq_true, Nat.blt_eq, Nat.ble_eq]
      exact ⟨by omega, by decide⟩]
    rfl
  · rw [← splL_eq]
    apply List.ext_getElem?
    intro i
    rw [Sl.L_get?]
    show (if i < (splL (s, mkB [32])).length then some ((splL (s, mkB [32])).getD i ByteArray.empty) else none) = _
    by_cases h : i < (splL (s, mkB [32])).length
    · rw [if_pos h]; simp [List.getD, List.getElem?_eq_getElem h]
    · rw [if_neg h, List.getElem?_eq_none (by omega)]
theorem spl_sz {s : ByteArray} (hs : s.size ≤ 4000000) : (spl 32 s.data.toList).length ≤ 4000001 ∧ ∀ w ∈ spl 32 s.data.toList, w.length ≤ 4000000 := by
  have hl := data_len s
  refine ⟨?_, fun w hw => ?_⟩
  · rw [spl_len]
    have := List.count_le_length (a := (32 : UInt8)) (l := s.data.toList)
    omega
  · have := spl_mem hw; omega
theorem data_mkB {s : ByteArray} {l : List UInt8} : mkB l = s ↔ l = s.data.toList := ⟨fun h => by rw [← h, mkB_data], fun h => by rw [h, mkB_list]⟩
theorem w_Cut {s : ByteArray} (hs : s.size ≤ 4000000) : con_strings_Cut.rel (s, ByteArray.mk #[10]) (cutB (s, mkB [10])) := by
  show cutS (s, mkB [10]) = some _
  unfold cutS
  rw [show Nat.blt s.size 4294967281 = true by simp only [Nat.blt_eq]; omega]
  rfl
theorem bt_mkB {l : List UInt8} {k : Nat} (h : k < l.length) : bt (mkB l) k = ((l[k].toNat : Nat) : Int) := by
  have h' : k < (mkB l).size := by rw [mkB_size]; exact h
  unfold bt
  rw [dif_pos h']
  rfl
theorem bt_data {s : ByteArray} {k : Nat} (h : k < s.data.toList.length) : bt s k = ((s.data.toList[k].toNat : Nat) : Int) := by
  have := bt_mkB h
  rwa [mkB_list] at this
theorem ext_mkB {s : ByteArray} {i at_ : Nat} {a t : List UInt8} (h : s.data.toList.drop at_ = a ++ t) (hi : at_ + a.length = i) : s.extract at_ i = mkB a := by
  have e : (s.extract at_ i).data.toList = a := by rw [Lib.extract_data, h, show i - at_ = a.length by omega, List.take_left]
  rw [← mkB_list (s.extract at_ i), e]
theorem u8_of {c : UInt8} {n : Nat} (hn : n < 256) : ((c.toNat : Nat) : Int) = (n : Int) ↔ c = UInt8.ofNat n := by
  rw [Int.natCast_inj]
  constructor
  · intro h; apply UInt8.toNat_inj.1; rw [h, UInt8.toNat_ofNat']; omega
  · intro h; rw [h, UInt8.toNat_ofNat']; omega
theorem w_number {s : ByteArray} (hs : s.size ≤ 5000000) : D_listing_number.wp s fun y => (0 ≤ y ∧ y < 18446744073709551616) ∧ ∀ n, n < 18446744073709551616 → s = mkB (Lib.decDigits n) → y = (n : Int) := by
  refine of_wp ?_
  simp only [tt_listing_number]
  refine wp_call (w_PU hs) fun (y : Int × Bool) hy => wp_ite (fun h => ⟨⟨Int.le_refl _, by show (0 : Int) < _; decide⟩, fun n hn e => ?_⟩) fun h => ⟨hy.1, fun n hn e => ?_⟩
  · rw [hy.2 n hn e] at h; cases h
  · show y.1 = _
    rw [hy.2 n hn e]
theorem imin_small {v m : Int} (h : 0 ≤ v) (hm : 0 ≤ m ∧ m ≤ 9223372036854775807) : 0 ≤ IntKind.i64.wrap (imin v m) ∧ IntKind.i64.wrap (imin v m) ≤ m ∧ (v ≤ m → IntKind.i64.wrap (imin v m) = v) := by
  have hm : 0 ≤ imin v m ∧ imin v m ≤ m ∧ (v ≤ m → imin v m = v) := by
    unfold imin
    cases q : ilt m v
    · rw [ilt_false] at q; exact ⟨h, q, fun _ => rfl⟩
    · rw [ilt_iff] at q; exact ⟨by show (0 : Int) ≤ m; omega, Int.le_refl _, fun k => by omega⟩
  rw [wrap64 (by omega) (by omega)]
  exact hm
theorem w_small {s : ByteArray} (hs : s.size ≤ 5000000) : D_listing_small.wp s fun y => (0 ≤ y ∧ y ≤ 1048576) ∧ ∀ n, n ≤ 1048576 → s = mkB (Lib.decDigits n) → y = (n : Int) := by
  refine of_wp ?_
  simp only [tt_listing_small]
  refine wp_call (w_number hs) fun (y : Int) hy => ?_
  have hm := imin_small (v := y) (m := 1048576) hy.1.1 (by decide)
  exact ⟨⟨hm.1, hm.2.1⟩, fun n hn e => by
    have : y = (n : Int) := hy.2 n (by omega) e
    show IntKind.i64.wrap (imin y 1048576) = _
    rw [hm.2.2 (by omega), this]⟩
theorem w_HasPrefix (s t : ByteArray) : D_internal_stringslite_HasPrefix.wp (s, t) fun y => y = true ↔ (t.size ≤ s.size ∧ s.extract 0 t.size = t) := by
  refine of_wp ?_
  simp only [tt_internal_stringslite_HasPrefix]
  refine wp_if ile_iff (fun h => wp_need (by rw [upto_iff]; omega) ?_) fun h => ff_iff fun q => h (by omega)
  show seq _ _ = true ↔ _
  rw [seq_iff]
  exact ⟨fun q => ⟨by omega, q⟩, fun q => q.2⟩
theorem ext_size (s : ByteArray) (a b : Nat) : (s.extract a b).size ≤ s.size := by
  have := congrArg List.length (Lib.extract_data s a b)
  rw [data_len, List.length_take, List.length_drop, data_len] at this
  omega
theorem w_Trim (s : ByteArray) : D_strings_TrimPrefix.wp (s, ByteArray.mk #[114]) fun y => y.size ≤ s.size ∧ ∀ l, s = mkB (114 :: l) → y = mkB l := by
  refine of_wp ?_
  simp only [tt_strings_TrimPrefix]
  have h2 : D_internal_stringslite_TrimPrefix.wp (s, ByteArray.mk #[114]) fun y => y.size ≤ s.size ∧ ∀ l, s = mkB (114 :: l) → y = mkB l := by
    refine of_wp ?_
    simp only [tt_internal_stringslite_TrimPrefix]
    refine wp_call (w_HasPrefix s (ByteArray.mk #[114])) fun (y : Bool) hy => wp_if hy (fun h => ?_) fun h => ⟨Nat.le_refl _, fun l e => absurd ?_ h⟩
    · refine wp_need (by rw [upto_iff]; have := h.1; omega) ⟨ext_size _ _ _, fun l e => ?_⟩
      show s.extract 1 s.size = mkB l
      refine ext_mkB (t := []) ?_ ?_
      · rw [e, mkB_data]; simp
      · rw [e, mkB_size, List.length_cons]; omega
    · refine ⟨by rw [e, mkB_size, List.length_cons]; show 1 ≤ _; omega, ?_⟩
      show s.extract 0 1 = mkB [114]
      exact ext_mkB (a := [114]) (t := l) (by rw [e, mkB_data]; rfl) rfl
  exact wp_call h2 fun (y : ByteArray) hy => hy
theorem w_register {s : ByteArray} (hs : s.size ≤ 5000000) : D_listing_register.wp s fun y => (0 ≤ y ∧ y ≤ 1048576) ∧ ∀ n, n ≤ 1048576 → s = mkB (114 :: Lib.decDigits n) → y = (n : Int) := by
  refine of_wp ?_
  simp only [tt_listing_register]
  refine wp_call (w_Trim s) fun (y : ByteArray) hy => wp_call (w_small (s := y) (by omega)) fun (z : Int) hz => ⟨hz.1, fun n hn e => hz.2 n hn (hy.2 _ e)⟩
/-! ### Rings' lines -/
theorem imin_lt0 {a b : Int} : ilt (imin a b) 0 = true ↔ a < 0 ∨ b < 0 := by
  rw [ilt_iff]
  unfold imin
  cases q : ilt b a
  · rw [ilt_false] at q; show a < 0 ↔ _; omega
  · rw [ilt_iff] at q; show b < 0 ↔ _; omega
theorem imax_gt {a b : Int} : ilt 255 (imax a b) = true ↔ 255 < a ∨ 255 < b := by
  rw [ilt_iff]
  unfold imax
  cases q : ilt a b
  · rw [ilt_false] at q; show 255 < a ↔ _; omega
  · rw [ilt_iff] at q; show 255 < b ↔ _; omega
theorem hd_qu {r : TApi_Ring} (h : r.Kind = 1) (c : 0 ≤ r.Cap ∧ r.Cap ≤ 255) (d : r.Readers = 1) : hdL r = quL ++ 32 :: Lib.decDigits r.Cap.toNat := by
  rw [hdL, hwds, if_pos (by omega), if_pos ⟨h, d⟩, join_two, Lib.join_one]
theorem hd_ca {r : TApi_Ring} (h : r.Kind = 2) (c : 0 ≤ r.Cap ∧ r.Cap ≤ 255) (d : 0 ≤ r.Readers ∧ r.Readers ≤ 255) : hdL r = caL ++ 32 :: (Lib.decDigits r.Cap.toNat ++ 32 :: Lib.decDigits r.Readers.toNat) := by
  rw [hdL, hwds, if_pos ⟨c, d⟩, if_neg (by omega), if_pos h, join_two, join_two, Lib.join_one]
theorem hd_none {r : TApi_Ring} (h : ¬ (((0 ≤ r.Cap ∧ r.Cap ≤ 255) ∧ 0 ≤ r.Readers ∧ r.Readers ≤ 255) ∧ (r.Kind = 1 ∧ r.Readers = 1 ∨ r.Kind = 2))) : (ByteArray.mk #[] : ByteArray) = hdB r := by
  cases ring_cls r with
  | qu h1 c d w => exact absurd ⟨⟨c, by omega⟩, .inl ⟨h1, d⟩⟩ h
  | ca h1 c d w => exact absurd ⟨⟨c, d⟩, .inr h1⟩ h
  | no h1 w => rw [hdB, hdL, w]; rfl
theorem w_head (r : TApi_Ring) : D_listing_head.wp r fun y => y = hdB r := by
  refine of_wp ?_
  simp only [tt_listing_head]
  have cast : r.Kind = 2 → (0 ≤ r.Cap ∧ r.Cap ≤ 255) → (0 ≤ r.Readers ∧ r.Readers ≤ 255) → (TT.call con_strconv_Itoa (r.Cap) fun (y1 : R_strconv_Itoa) =>
     (.need (decide ((((ByteArray.size (ByteArray.mk #[99, 97, 115, 116, 32])) + (ByteArray.size y1)) ≤ (9223372036854775807 : Nat)))) <|
     (.need (decide ((((ByteArray.size ((ByteArray.mk #[99, 97, 115, 116, 32]) ++ y1)) + (ByteArray.size (ByteArray.mk #[32]))) ≤ (9223372036854775807 : Nat)))) <|
     (.call con_strconv_Itoa (r.Readers) fun (y2 : R_strconv_Itoa) =>
     (.need (decide ((((ByteArray.size (((ByteArray.mk #[99, 97, 115, 116, 32]) ++ y1) ++ (ByteArray.mk #[32]))) + (ByteArray.size y2)) ≤ (9223372036854775807 : Nat)))) <|
     (.ret ((((ByteArray.mk #[99, 97, 115, 116, 32]) ++ y1) ++ (ByteArray.mk #[32])) ++ y2)))))) : TT Tryz.prog R_listing_head).wp fun y => y = hdB r := fun h c d => by
    have e : ∀ l : List UInt8, (ByteArray.mk #[99, 97, 115, 116, 32]) ++ mkB l = mkB (caL ++ 32 :: l) := fun l => mkB_app [99, 97, 115, 116, 32] l
    have e1 : (ByteArray.mk #[32] : ByteArray) = mkB [32] := rfl
    have e2 : (ByteArray.mk #[99, 97, 115, 116, 32] : ByteArray).size = 5 := rfl
    have d1 := digN_len r.Cap.toNat (by omega)
    have d2 := digN_len r.Readers.toNat (by omega)
    refine wp_call (w_Itoa (n := r.Cap) (by omega) (by omega)) fun (y : ByteArray) hy => ?_
    subst hy
    refine nd1 (by rw [e2, mkB_size]; omega) ?_
    rw [e, e1, mkB_app]
    refine nd1 (sz_ok (by simp [caL]; omega)) (wp_call (w_Itoa (n := r.Readers) (by omega) (by omega)) fun (y : ByteArray) hy => ?_)
    subst hy
    rw [mkB_app]
    refine nd1 (sz_ok (by simp [caL]; omega)) ?_
    show mkB _ = hdB r
    rw [hdB, hd_ca h c d]
    simp
  refine wp_if (p := r.Cap < 0 ∨ r.Readers < 0) imin_lt0 (fun h => hd_none (by omega)) fun h1 => wp_if (p := 255 < r.Cap ∨ 255 < r.Readers) imax_gt (fun h => hd_none (by omega)) fun h2 =>
    wp_if ieq_iff (fun h3 => wp_if ieq_iff (fun h4 => ?_) fun h4 => wp_if ieq_iff (fun h5 => by omega) fun h5 => hd_none (by omega)) fun h3 => wp_if ieq_iff (fun h5 => cast h5 (by omega) (by omega)) fun h5 => hd_none (by omega)
  have d1 := digN_len r.Cap.toNat (by omega)
  refine wp_call (w_Itoa (n := r.Cap) (by omega) (by omega)) fun (y : ByteArray) hy => ?_
  subst hy
  refine nd1 (by rw [mkB_size]; show 6 + _ ≤ _; omega) ?_
  show (ByteArray.mk #[113, 117, 101, 117, 101, 32]) ++ mkB (Lib.decDigits r.Cap.toNat) = hdB r
  rw [hdB, hd_qu h3 (by omega) h4]
  exact mkB_app [113, 117, 101, 117, 101, 32] _
theorem w_r10_Ring (r : TApi_Ring) : D_r10_Ring.wp r fun y => y = hdB r := by
  refine of_wp ?_
  simp only [tt_r10_Ring]
  refine wp_if ilt_iff (fun h => hd_none (by omega)) fun h1 => wp_if ilt_iff (fun h => hd_none (by omega)) fun h2 => wp_if ilt_iff (fun h => hd_none (by omega)) fun h3 => wp_if ilt_iff (fun h => hd_none (by omega)) fun h4 => of_wp ?_
  have u1 : IntKind.u64.wrap r.Cap = r.Cap := wrapu64 (by omega) (by omega)
  have u2 : IntKind.u64.wrap r.Readers = r.Readers := wrapu64 (by omega) (by omega)
  have c : 0 ≤ r.Cap ∧ r.Cap ≤ 255 := by omega
  have d : 0 ≤ r.Readers ∧ r.Readers ≤ 255 := by omega
  have h5 : ¬ (r.Kind = 1 ∧ r.Readers = 1) → D_r10_Ring_5.wp (⟨r⟩ : X_r10_Ring_5) fun y => y = hdB r := fun n1 => by
    refine of_wp ?_
    simp only [tt_r10_Ring_5, u1, u2]
    refine wp_if ieq_iff (fun h => ?_) fun h => hd_none (by omega)
    have e : ∀ l : List UInt8, (ByteArray.mk #[99, 97, 115, 116, 32]) ++ mkB l = mkB (caL ++ 32 :: l) := fun l => mkB_app [99, 97, 115, 116, 32] l
    have e1 : (ByteArray.mk #[32] : ByteArray) = mkB [32] := rfl
    have e2 : (ByteArray.mk #[99, 97, 115, 116, 32] : ByteArray).size = 5 := rfl
    have d1 := digN_len r.Cap.toNat (by omega)
    have d2 := digN_len r.Readers.toNat (by omega)
    refine wp_call (w_r10_Number (n := r.Cap) (by omega) (by omega)) fun (y : ByteArray) hy => ?_
    subst hy
    refine nd1 (by rw [e2, mkB_size]; omega) ?_
    rw [e, e1, mkB_app]
    refine nd1 (sz_ok (by simp [caL]; omega)) (wp_call (w_r10_Number (n := r.Readers) (by omega) (by omega)) fun (y : ByteArray) hy => ?_)
    subst hy
    rw [mkB_app]
    refine nd1 (sz_ok (by simp [caL]; omega)) ?_
    show mkB _ = hdB r
    rw [hdB, hd_ca h c d]
    simp
  simp only [tt_r10_Ring_3, u1]
  refine wp_if ieq_iff (fun q1 => wp_if ieq_iff (fun q2 => ?_) fun q2 => h5 (by omega)) fun q1 => h5 (by omega)
  have d1 := digN_len r.Cap.toNat (by omega)
  refine wp_call (w_r10_Number (n := r.Cap) (by omega) (by omega)) fun (y : ByteArray) hy => ?_
  subst hy
  refine nd1 (by rw [mkB_size]; show 6 + _ ≤ _; omega) ?_
  show (ByteArray.mk #[113, 117, 101, 117, 101, 32]) ++ mkB (Lib.decDigits r.Cap.toNat) = hdB r
  rw [hdB, hd_qu q1 c q2]
  exact mkB_app [113, 117, 101, 117, 101, 32] _

/-! ### Instructions' lines -/
theorem w_f0 {i : TApi_Instr} (h : 0 ≤ i.A ∧ i.A ≤ 7) : D_listing_regA_1.wp i fun y => y = mkB (fldW i 0) := by
  refine of_wp ?_
  simp only [tt_listing_regA_1]
  have d1 := digN_len i.A.toNat (by omega)
  refine wp_call (w_Itoa (n := i.A) (by omega) (by omega)) fun (y : ByteArray) hy => ?_
  subst hy
  refine nd1 (by rw [mkB_size]; show 1 + _ ≤ _; omega) ?_
  exact mkB_app [114] _
theorem w_f1 {i : TApi_Instr} (h : 0 ≤ i.B ∧ i.B ≤ 7) : D_listing_regB_1.wp i fun y => y = mkB (fldW i 1) := by
  refine of_wp ?_
  simp only [tt_listing_regB_1]
  have d1 := digN_len i.B.toNat (by omega)
  refine wp_call (w_Itoa (n := i.B) (by omega) (by omega)) fun (y : ByteArray) hy => ?_
  subst hy
  refine nd1 (by rw [mkB_size]; show 1 + _ ≤ _; omega) ?_
  exact mkB_app [114] _
theorem w_f2 {i : TApi_Instr} (h : 0 ≤ i.C ∧ i.C ≤ 7) : D_listing_regC_1.wp i fun y => y = mkB (fldW i 2) := by
  refine of_wp ?_
  simp only [tt_listing_regC_1]
  have d1 := digN_len i.C.toNat (by omega)
  refine wp_call (w_Itoa (n := i.C) (by omega) (by omega)) fun (y : ByteArray) hy => ?_
  subst hy
  refine nd1 (by rw [mkB_size]; show 1 + _ ≤ _; omega) ?_
  exact mkB_app [114] _
theorem w_f3 {i : TApi_Instr} (h : 0 ≤ i.C ∧ i.C ≤ 7) : D_listing_ring_1.wp i fun y => y = mkB (fldW i 3) := by
  refine of_wp ?_
  simp only [tt_listing_ring_1]
  exact wp_call (w_Itoa (n := i.C) (by omega) (by omega)) fun (y : ByteArray) hy => hy
theorem w_f4 {i : TApi_Instr} (h : 0 ≤ i.D ∧ i.D ≤ 2) : D_listing_how_1.wp i fun y => y = mkB (fldW i 4) := by
  refine of_wp ?_
  simp only [tt_listing_how_1]
  refine wp_call w_waits fun (y : Sl ByteArray) hy => wp_need (by rw [inb_iff2, hy.1]; omega) ?_
  exact hy.2 _ (by omega)
theorem w_f5 {i : TApi_Instr} (h : 0 ≤ i.K ∧ i.K < 18446744073709551616) : D_listing_figure_1.wp i fun y => y = mkB (fldW i 5) := by
  refine of_wp ?_
  simp only [tt_listing_figure_1]
  exact wp_call (w_FU h.1 h.2) fun (y : ByteArray) hy => hy
theorem w_parts (op : Int) : ∃ y, con_listing_parts.rel op y ∧ y = op := ⟨op, rfl, rfl⟩
theorem w_line {i : TApi_Instr} (hr : rightI i = true) (w : WfI i) : D_listing_line.wp i fun y => y = lnB i := by
  have hf := rightI_facts hr
  have hK := w.2.2.2.2.2
  have hlen := lnL_len hr w
  unfold lnL at hlen
  refine of_wp ?_
  simp only [tt_listing_line]
  refine wp_call (w_code_Name i.Op) fun (y1 : ByteArray) hy1 => wp_call (w_parts i.Op) fun (op : Int) hop => ?_
  subst hy1
  have join : ∀ {l : Sl ByteArray}, l.L = (wdsI i).map mkB → l.n ≤ 10 → (TT.call con_strings_Join (l, (ByteArray.mk #[32])) fun (y5 : R_strings_Join) => (.ret y5) : TT Tryz.prog R_listing_line).wp fun y => y = lnB i := fun hL hn =>
    wp_call (w_Join hL hn (by omega)) fun (y : ByteArray) hy => hy
  refine wp_if (p := op = 1 ∨ op = 16 ∨ op = 17) (by simp only [Bool.or_eq_true, ieq_iff]) (fun q => ?_) fun n_ak => ?_
  · rw [hop] at q
    refine wp_call (w_f0 hf.2.1) fun (y : ByteArray) hy => ?_
    subst hy
    refine wp_call (w_f5 hK) fun (y : ByteArray) hy => ?_
    subst hy
    exact join (by rw [wdsI, frm_ak q]; rfl) (by show 3 ≤ 10; omega)
  refine wp_if (p := op = 2 ∨ op = 23) (by simp only [Bool.or_eq_true, ieq_iff]) (fun q => ?_) fun n_ab => ?_
  · rw [hop] at q
    refine wp_call (w_f0 hf.2.1) fun (y : ByteArray) hy => ?_
    subst hy
    refine wp_call (w_f1 hf.2.2.1) fun (y : ByteArray) hy => ?_
    subst hy
    exact join (by rw [wdsI, frm_ab q]; rfl) (by show 3 ≤ 10; omega)
  refine wp_if (p := op = 15) (by simp only [Bool.or_eq_true, ieq_iff]) (fun q => ?_) fun n_k => ?_
  · rw [hop] at q
    refine wp_call (w_f5 hK) fun (y : ByteArray) hy => ?_
    subst hy
    exact join (by rw [wdsI, frm_k q]; rfl) (by show 2 ≤ 10; omega)
  refine wp_if (p := op = 18) (by simp only [Bool.or_eq_true, ieq_iff]) (fun q => ?_) fun n_send => ?_
  · rw [hop] at q
    refine wp_call (w_f0 hf.2.1) fun (y : ByteArray) hy => ?_
    subst hy
    refine wp_call (w_f1 hf.2.2.1) fun (y : ByteArray) hy => ?_
    subst hy
    refine wp_call (w_f3 hf.2.2.2.1) fun (y : ByteArray) hy => ?_
    subst hy
    refine wp_call (w_f4 hf.2.2.2.2.1) fun (y : ByteArray) hy => ?_
    subst hy
    exact join (by rw [wdsI, frm_send q]; rfl) (by show 5 ≤ 10; omega)
  refine wp_if (p := op = 19) (by simp only [Bool.or_eq_true, ieq_iff]) (fun q => ?_) fun n_recv => ?_
  · rw [hop] at q
    refine wp_call (w_f0 hf.2.1) fun (y : ByteArray) hy => ?_
    subst hy
    refine wp_call (w_f1 hf.2.2.1) fun (y : ByteArray) hy => ?_
    subst hy
    refine wp_call (w_f3 hf.2.2.2.1) fun (y : ByteArray) hy => ?_
    subst hy
    refine wp_call (w_f4 hf.2.2.2.2.1) fun (y : ByteArray) hy => ?_
    subst hy
    refine wp_call (w_f5 hK) fun (y : ByteArray) hy => ?_
    subst hy
    exact join (by rw [wdsI, frm_recv q]; rfl) (by show 6 ≤ 10; omega)
  refine wp_if (p := op = 20) (by simp only [Bool.or_eq_true, ieq_iff]) (fun q => ?_) fun n_c => ?_
  · rw [hop] at q
    refine wp_call (w_f3 hf.2.2.2.1) fun (y : ByteArray) hy => ?_
    subst hy
    exact join (by rw [wdsI, frm_c q]; rfl) (by show 2 ≤ 10; omega)
  refine wp_if (p := op = 21 ∨ op = 22 ∨ op = 24) (by simp only [Bool.or_eq_true, ieq_iff]) (fun q => ?_) fun n_a => ?_
  · rw [hop] at q
    refine wp_call (w_f0 hf.2.1) fun (y : ByteArray) hy => ?_
    subst hy
    exact join (by rw [wdsI, frm_a q]; rfl) (by show 2 ≤ 10; omega)
  refine wp_if (p := op = 25) (by simp only [Bool.or_eq_true, ieq_iff]) (fun q => ?_) fun n_halt => ?_
  · rw [hop] at q
    exact join (by rw [wdsI, frm_halt q]; rfl) (by show 1 ≤ 10; omega)
  rw [hop] at n_ak n_ab n_k n_send n_recv n_c n_a n_halt
  refine wp_call (w_f0 hf.2.1) fun (y : ByteArray) hy => ?_
  subst hy
  refine wp_call (w_f1 hf.2.2.1) fun (y : ByteArray) hy => ?_
  subst hy
  refine wp_call (w_f2 hf.2.2.2.1) fun (y : ByteArray) hy => ?_
  subst hy
  exact join (by rw [wdsI, frm_abc (by omega)]; rfl) (by show 4 ≤ 10; omega)
theorem w_Line {i : TApi_Instr} (w : WfI i) : D_listing_Line.wp i fun y => (rightI i = true → y = (lnB i, 0)) ∧ (rightI i ≠ true → y = (ByteArray.mk #[], 1)) := by
  refine of_wp ?_
  simp only [tt_listing_Line]
  refine wp_call (w_code_Right i w.ok) fun (y : Bool) hy => wp_if (p := ¬ rightI i = true) (by rw [bnot_iff, hy]) (fun h => ⟨fun k => absurd k h, fun _ => rfl⟩) fun h => ?_
  have h := Classical.byContradiction h
  refine wp_call (w_line h w) fun (y : ByteArray) hy => ?_
  subst hy
  exact ⟨fun _ => rfl, fun k => absurd h k⟩
/-! ### A line's ring -/
def RingP (s : ByteArray) (y : TApi_Ring × Bool) : Prop := (y.2 = true → IsHd s.data.toList y.1) ∧ ∀ e, IsHd s.data.toList e → y = (e, true)
def LineP (s : ByteArray) (y : TApi_Instr × Bool) : Prop := (y.2 = true → IsLn s.data.toList y.1) ∧ ∀ e, IsLn s.data.toList e → y = (e, true)
theorem ring_no {s : ByteArray} {e : TApi_Ring} (h : ∀ e0, ¬ IsHd s.data.toList e0) : RingP s (e, false) := ⟨(fun q => by cases q), fun e0 k => absurd k (h e0)⟩
theorem line_no {s : ByteArray} {e : TApi_Instr} (h : ∀ e0, ¬ IsLn s.data.toList e0) : LineP s (e, false) := ⟨(fun q => by cases q), fun e0 k => absurd k (h e0)⟩
theorem ringP_of {s : ByteArray} {r : TApi_Ring} (hs : s ≠ ByteArray.mk #[]) (h : ∀ e0, IsHd s.data.toList e0 → r = e0) : RingP s (r, seq (hdB r) s) := by
  refine ⟨fun q => ?_, fun e0 k => ?_⟩
  · have e := data_mkB.1 (seq_iff.1 q)
    refine ⟨fun c => hs ?_, e⟩
    rw [hd_empty.2 c] at e
    exact (data_mkB.2 e).symm
  · rw [h e0 k]
    rw [show seq (hdB e0) s = true from seq_iff.2 (data_mkB.2 k.2)]
theorem hd_ne {s : ByteArray} {e : TApi_Ring} (h : IsHd s.data.toList e) : s ≠ ByteArray.mk #[] := fun q => by
  have := h.2
  rw [q] at this
  exact h.1 (hd_empty.1 this)
theorem w_rr7 {s : ByteArray} {r : TApi_Ring} (h : ∀ e0, IsHd s.data.toList e0 → r = e0) : D_listing_readRing_7.wp (⟨s, r⟩ : X_listing_readRing_7) fun y => RingP s y := by
  refine of_wp ?_
  simp only [tt_listing_readRing_7]
  refine wp_if (p := s ≠ ByteArray.mk #[]) (by rw [bnot_iff, seq_iff]) (fun hs => wp_call (w_head r) fun (y : ByteArray) hy => ?_) fun hs => ring_no fun e0 k => hs (hd_ne k)
  subst hy
  exact ringP_of hs h
theorem hd_words {s : ByteArray} {y : Sl ByteArray} (hy : y.L = (spl 32 s.data.toList).map mkB) {e : TApi_Ring} (h : IsHd s.data.toList e) : y.L = (hwds e).map mkB := by rw [hy, h.wds]
theorem ring_two {y : Sl ByteArray} {e : TApi_Ring} (hy : y.L = (hwds e).map mkB) (h : y.n = 2) : e.Kind = 1 ∧ (0 ≤ e.Cap ∧ e.Cap ≤ 255) ∧ e.Readers = 1 ∧ y.get 1 = mkB (Lib.decDigits e.Cap.toNat) := by
  have hl := congrArg List.length hy
  rw [Sl.L_length, List.length_map, h] at hl
  cases ring_cls e with
  | qu h1 c d w =>
    refine ⟨h1, c, d, ?_⟩
    have := Sl.L_get y (show 1 < y.n by omega)
    rw [hy, w] at this
    exact (Option.some.inj this).symm
  | ca h1 c d w => rw [w] at hl; cases hl
  | no h1 w => rw [w] at hl; cases hl
theorem ring_three {y : Sl ByteArray} {e : TApi_Ring} (hy : y.L = (hwds e).map mkB) (h : y.n = 3) : e.Kind = 2 ∧ (0 ≤ e.Cap ∧ e.Cap ≤ 255) ∧ (0 ≤ e.Readers ∧ e.Readers ≤ 255) ∧ y.get 1 = mkB (Lib.decDigits e.Cap.toNat) ∧ y.get 2 = mkB (Lib.decDigits e.Readers.toNat) := by
  have hl := congrArg List.length hy
  rw [Sl.L_length, List.length_map, h] at hl
  cases ring_cls e with
  | qu h1 c d w => rw [w] at hl; cases hl
  | ca h1 c d w =>
    refine ⟨h1, c, d, ?_, ?_⟩
    · have := Sl.L_get y (show 1 < y.n by omega)
      rw [hy, w] at this
      exact (Option.some.inj this).symm
    · have := Sl.L_get y (show 2 < y.n by omega)
      rw [hy, w] at this
      exact (Option.some.inj this).symm
  | no h1 w => rw [w] at hl; cases hl
theorem ring_else {y : Sl ByteArray} {e : TApi_Ring} (hy : y.L = (hwds e).map mkB) (h : hwds e ≠ []) : y.n = 2 ∨ y.n = 3 := by
  have hl := congrArg List.length hy
  rw [Sl.L_length, List.length_map] at hl
  cases ring_cls e with
  | qu h1 c d w => rw [w] at hl; exact .inl hl
  | ca h1 c d w => rw [w] at hl; exact .inr hl
  | no h1 w => exact absurd w h
theorem w_readRing {s : ByteArray} (hs : s.size ≤ 4000000) : D_listing_readRing.wp s fun y => RingP s y := by
  obtain ⟨sz1, sz2⟩ := spl_sz hs
  refine of_wp ?_
  simp only [tt_listing_readRing]
  refine wp_call (w_Split hs) fun (y : Sl ByteArray) hy => ?_
  have hsz : SzW y := szW_of hy (by omega) fun w hw => by have := sz2 w hw; omega
  refine wp_if ieq_iff (fun h => ?_) fun h => wp_if ieq_iff (fun h3 => ?_) fun h3 => w_rr7 fun e0 k => ?_
  · have h : y.n = 2 := by omega
    refine wp_need (by rw [inb_iff2, h]; decide) (wp_call (w_small (hsz.2 1 (by omega))) fun (v : Int) hv => w_rr7 fun e0 k => ?_)
    obtain ⟨a, b, c, d⟩ := ring_two (hd_words hy k) h
    have e : v = ((e0.Cap.toNat : Nat) : Int) := hv.2 _ (by omega) d
    exact ext_R a.symm (by show v = e0.Cap; omega) c.symm
  · have h : y.n = 3 := by omega
    refine wp_need (by rw [inb_iff2, h]; decide) (wp_call (w_small (hsz.2 1 (by omega))) fun (v : Int) hv => wp_need (by rw [inb_iff2, h]; decide) (wp_call (w_small (hsz.2 2 (by omega))) fun (u : Int) hu => w_rr7 fun e0 k => ?_))
    obtain ⟨a, b, c, d, f⟩ := ring_three (hd_words hy k) h
    have e : v = ((e0.Cap.toNat : Nat) : Int) := hv.2 _ (by omega) d
    have g : u = ((e0.Readers.toNat : Nat) : Int) := hu.2 _ (by omega) f
    exact ext_R a.symm (by show v = e0.Cap; omega) (by show u = e0.Readers; omega)
  · rcases ring_else (hd_words hy k) k.1 with q | q
    · exact absurd (by omega) h
    · exact absurd (by omega) h3

/-! ### A line's instruction -/
theorem isLn_words {s : ByteArray} {y : Sl ByteArray} (hy : y.L = (spl 32 s.data.toList).map mkB) {e : TApi_Instr} (h : IsLn s.data.toList e) : y.L = (wdsI e).map mkB := by rw [hy, ← h.2.2, spl_ln h.1]
theorem word_at {y : Sl ByteArray} {e : TApi_Instr} {j l : Nat} (h : y.L = (wdsI e).map mkB) (hl : (frm e.Op)[j]? = some l) : y.get (j + 1) = mkB (fldW e l) := by
  have hn := congrArg List.length h
  rw [Sl.L_length, List.length_map, wdsI, List.length_cons, List.length_map] at hn
  have hj : j < (frm e.Op).length := (List.getElem?_eq_some_iff.1 hl).1
  have := Sl.L_get y (show j + 1 < y.n by omega)
  rw [h, wdsI, List.map_cons, List.getElem?_cons_succ, List.getElem?_map, List.getElem?_map, hl] at this
  exact (Option.some.inj this).symm
theorem word_op {y : Sl ByteArray} {e : TApi_Instr} (h : y.L = (wdsI e).map mkB) : y.get 0 = mkB (opK e.Op) ∧ y.n = (frm e.Op).length + 1 := by
  have hn := congrArg List.length h
  rw [Sl.L_length, List.length_map, wdsI, List.length_cons, List.length_map] at hn
  have := Sl.L_get y (show 0 < y.n by omega)
  rw [h] at this
  exact ⟨(Option.some.inj this).symm, hn⟩
theorem right_zero {i : TApi_Instr} (h : rightI i = true) : (0 ∉ frm i.Op → i.A = 0) ∧ (1 ∉ frm i.Op → i.B = 0) ∧ (2 ∉ frm i.Op → 3 ∉ frm i.Op → i.C = 0) ∧ (4 ∉ frm i.Op → i.D = 0) ∧ (5 ∉ frm i.Op → i.K = 0) := by
  have c := right_cls h
  cases c with
  | ak h f a b c d => rw [f]; exact ⟨fun q => absurd (by decide) q, fun _ => b, fun _ _ => c, fun _ => d, fun q => absurd (by decide) q⟩
  | ab h f a b c d k => rw [f]; exact ⟨fun q => absurd (by decide) q, fun q => absurd (by decide) q, fun _ _ => c, fun _ => d, fun _ => k⟩
  | k h f a b c d => rw [f]; exact ⟨fun _ => a, fun _ => b, fun _ _ => c, fun _ => d, fun q => absurd (by decide) q⟩
  | send h f a b c d k => rw [f]; exact ⟨fun q => absurd (by decide) q, fun q => absurd (by decide) q, fun _ q => absurd (by decide) q, fun q => absurd (by decide) q, fun _ => k⟩
  | recv h f a b c d => rw [f]; exact ⟨fun q => absurd (by decide) q, fun q => absurd (by decide) q, fun _ q => absurd (by decide) q, fun q => absurd (by decide) q, fun q => absurd (by decide) q⟩
  | c h f a b c d k => rw [f]; exact ⟨fun _ => a, fun _ => b, fun _ q => absurd (by decide) q, fun _ => d, fun _ => k⟩
  | a h f a b c d k => rw [f]; exact ⟨fun q => absurd (by decide) q, fun _ => b, fun _ _ => c, fun _ => d, fun _ => k⟩
  | halt h f a b c d k => rw [f]; exact ⟨fun _ => a, fun _ => b, fun _ _ => c, fun _ => d, fun _ => k⟩
  | abc h f a b c d k => rw [f]; exact ⟨fun q => absurd (by decide) q, fun q => absurd (by decide) q, fun q => absurd (by decide) q, fun _ => d, fun _ => k⟩
theorem w_g0 {w : ByteArray} (hw : w.size ≤ 5000000) (i : TApi_Instr) : D_listing_regA_2.wp (w, i) fun y => ∃ v, y = TApi_Instr.mk i.Op v i.B i.C i.D i.K ∧ (0 ≤ v ∧ v ≤ 1048576) ∧ ∀ n, n ≤ 1048576 → w = mkB (114 :: Lib.decDigits n) → v = (n : Int) := by
  refine of_wp ?_
  simp only [tt_listing_regA_2]
  exact wp_call (w_register hw) fun (v : Int) hv => ⟨v, rfl, hv⟩
theorem w_g1 {w : ByteArray} (hw : w.size ≤ 5000000) (i : TApi_Instr) : D_listing_regB_2.wp (w, i) fun y => ∃ v, y = TApi_Instr.mk i.Op i.A v i.C i.D i.K ∧ (0 ≤ v ∧ v ≤ 1048576) ∧ ∀ n, n ≤ 1048576 → w = mkB (114 :: Lib.decDigits n) → v = (n : Int) := by
  refine of_wp ?_
  simp only [tt_listing_regB_2]
  exact wp_call (w_register hw) fun (v : Int) hv => ⟨v, rfl, hv⟩
theorem w_g2 {w : ByteArray} (hw : w.size ≤ 5000000) (i : TApi_Instr) : D_listing_regC_2.wp (w, i) fun y => ∃ v, y = TApi_Instr.mk i.Op i.A i.B v i.D i.K ∧ (0 ≤ v ∧ v ≤ 1048576) ∧ ∀ n, n ≤ 1048576 → w = mkB (114 :: Lib.decDigits n) → v = (n : Int) := by
  refine of_wp ?_
  simp only [tt_listing_regC_2]
  exact wp_call (w_register hw) fun (v : Int) hv => ⟨v, rfl, hv⟩
theorem w_g3 {w : ByteArray} (hw : w.size ≤ 5000000) (i : TApi_Instr) : D_listing_ring_2.wp (w, i) fun y => ∃ v, y = TApi_Instr.mk i.Op i.A i.B v i.D i.K ∧ (0 ≤ v ∧ v ≤ 1048576) ∧ ∀ n, n ≤ 1048576 → w = mkB (Lib.decDigits n) → v = (n : Int) := by
  refine of_wp ?_
  simp only [tt_listing_ring_2]
  exact wp_call (w_small hw) fun (v : Int) hv => ⟨v, rfl, hv⟩
theorem w_g4 (w : ByteArray) (i : TApi_Instr) : D_listing_how_2.wp (w, i) fun y => ∃ v, y = TApi_Instr.mk i.Op i.A i.B i.C v i.K ∧ (-1 ≤ v ∧ v ≤ 2) ∧ ∀ n, n ≤ 2 → w = mkB (wtN n) → v = (n : Int) := by
  refine of_wp ?_
  simp only [tt_listing_how_2]
  refine wp_call w_waits fun (y : Sl ByteArray) hy => wp_call (w_slices_Index y w (by omega)) fun (v : Int) hv => ⟨v, rfl, ?_⟩
  rcases hv with ⟨rfl, h⟩ | ⟨k, hk, rfl, h⟩
  · exact ⟨by decide, fun n hn e => absurd (e.trans (hy.2 n (by omega)).symm) (h n (by omega))⟩
  · refine ⟨by omega, fun n hn e => ?_⟩
    rw [hy.2 k (by omega)] at h
    have := wtN_inj n (by omega) k (by omega) (mkB_inj (e.symm.trans h))
    omega
theorem w_g5 {w : ByteArray} (hw : w.size ≤ 5000000) (i : TApi_Instr) : D_listing_figure_2.wp (w, i) fun y => ∃ v, y = TApi_Instr.mk i.Op i.A i.B i.C i.D v ∧ (0 ≤ v ∧ v < 18446744073709551616) ∧ ∀ n, n < 18446744073709551616 → w = mkB (Lib.decDigits n) → v = (n : Int) := by
  refine of_wp ?_
  simp only [tt_listing_figure_2]
  exact wp_call (w_number hw) fun (v : Int) hv => ⟨v, rfl, hv⟩
theorem lineP_of {s : ByteArray} {i : TApi_Instr} (hr : rightI i = true) (w : WfI i) (h : ∀ e0, IsLn s.data.toList e0 → i = e0) : LineP s (i, seq (lnB i) s) := by
  refine ⟨fun q => ⟨hr, w, data_mkB.1 (seq_iff.1 q)⟩, fun e0 k => ?_⟩
  rw [h e0 k, show seq (lnB e0) s = true from seq_iff.2 (data_mkB.2 k.2.2)]
theorem w_fin {s : ByteArray} {i : TApi_Instr} (w : WfI i) (h : ∀ e0, IsLn s.data.toList e0 → i = e0) : (TT.call con_code_Right i fun (y : R_code_Right) => .ite y (.call con_listing_line i fun (z : R_listing_line) => .ret (i, seq z s)) (.ret (i, false)) : TT Tryz.prog R_listing_readInstr).wp fun y => LineP s y := by
  refine wp_call (w_code_Right i w.ok) fun (y : Bool) hy => wp_if hy (fun hr => wp_call (w_line hr w) fun (z : ByteArray) hz => ?_) fun hr => line_no fun e0 k => hr ?_
  · subst hz
    exact lineP_of hr w h
  · rw [h e0 k]; exact k.1
theorem w_readInstr {s : ByteArray} (hs : s.size ≤ 4000000) : D_listing_readInstr.wp s fun y => LineP s y := by
  obtain ⟨sz1, sz2⟩ := spl_sz hs
  refine of_wp ?_
  have u1 : IntKind.i64.wrap ((0 : Int) + 1) = 1 := by decide
  have u2 : IntKind.i64.wrap ((1 : Int) + 1) = 2 := by decide
  have u3 : IntKind.i64.wrap ((2 : Int) + 1) = 3 := by decide
  have u4 : IntKind.i64.wrap ((3 : Int) + 1) = 4 := by decide
  have u5 : IntKind.i64.wrap ((4 : Int) + 1) = 5 := by decide
  have v0 : IntKind.i64.wrap ((((0 : Nat) : Nat) : Int) + 1) = 1 := by decide
  have v1 : IntKind.i64.wrap ((((1 : Nat) : Nat) : Int) + 1) = 2 := by decide
  have v2 : IntKind.i64.wrap ((((2 : Nat) : Nat) : Int) + 1) = 3 := by decide
  have v3 : IntKind.i64.wrap ((((3 : Nat) : Nat) : Int) + 1) = 4 := by decide
  have v4 : IntKind.i64.wrap ((((4 : Nat) : Nat) : Int) + 1) = 5 := by decide
  have v5 : IntKind.i64.wrap ((((5 : Nat) : Nat) : Int) + 1) = 6 := by decide
  simp only [tt_listing_readInstr, u1, u2, u3, u4, u5, v0, v1, v2, v3, v4, v5]
  refine wp_call (w_Split hs) fun (y : Sl ByteArray) hy => ?_
  have hsz : SzW y := szW_of hy (by omega) fun w hw => by have := sz2 w hw; omega
  have yn : y.n = (spl 32 s.data.toList).length := by have := congrArg List.length hy; simpa using this
  have y0 : 0 < y.n := by
    have := spl_ne 32 s.data.toList
    cases q : spl 32 s.data.toList with
    | nil => exact absurd q this
    | cons a b => rw [q] at yn; simp at yn; omega
  have two : ∀ e0, IsLn s.data.toList e0 → y.L = (wdsI e0).map mkB := fun e0 k => isLn_words hy k
  have zw : ∀ (z : Int), z = 0 → (0 : Int) ≤ z := fun z h => by omega
  refine wp_need (by rw [inb_iff2]; omega) (wp_call (w_code_Find _) fun (f : Int × Bool) hf => wp_if (p := ¬ f.2 = true) bnot_iff (fun h => line_no fun e0 k => ?_) fun hf2 => wp_call (w_parts f.1) fun (op : Int) hop => ?_)
  · have h1 := (word_op (two e0 k)).1
    have hk := (rightI_facts k.1).1
    rcases hf with ⟨_, q⟩ | ⟨j, hj, rfl, q⟩
    · exact q _ hk h1
    · exact h rfl
  have hq := Classical.byContradiction hf2
  clear hf2
  obtain ⟨f1, f2⟩ := f
  simp only at hop hq ⊢
  subst hop
  have hop : 1 ≤ op ∧ op ≤ 25 := by
    rcases hf with ⟨e, q⟩ | ⟨j, hj, e, q⟩
    · cases e; cases hq
    · cases e; exact hj
  have hE : ∀ e0, IsLn s.data.toList e0 → e0.Op = op ∧ y.n = (frm op).length + 1 := fun e0 k => by
    obtain ⟨h1, h2⟩ := word_op (two e0 k)
    have hk := (rightI_facts k.1).1
    have e : e0.Op = op := by
      rcases hf with ⟨e, q⟩ | ⟨j, hj, e, q⟩
      · exact absurd h1 (q _ hk)
      · cases e
        exact opK_inj hk (mkB_inj (h1.symm.trans q))
    exact ⟨e, by rw [← e]; exact h2⟩
  clear hf hq
  refine wp_if (p := op = 1 ∨ op = 16 ∨ op = 17) (by simp only [Bool.or_eq_true, ieq_iff]) (fun q => ?_) fun n_ak => ?_
  · have hf := frm_ak q
    refine wp_if (p := ¬ y.n = 3) (by rw [bnot_iff, ieq_iff]; omega) (fun h => line_no fun e0 k => h (by have := (hE e0 k).2; rw [hf] at this; exact this)) fun h => ?_
    have h := Classical.byContradiction h
    refine wp_need (by rw [inb_iff2, h]; decide) (wp_call (w_g0 (hsz.2 1 (by omega)) _) fun (z : TApi_Instr) hz => ?_)
    obtain ⟨vA, rfl, vAr, vAw⟩ := hz
    refine wp_need (by rw [inb_iff2, h]; decide) (wp_call (w_g5 (hsz.2 2 (by omega)) _) fun (z : TApi_Instr) hz => ?_)
    obtain ⟨vK, rfl, vKr, vKw⟩ := hz
    have wi : WfI ⟨op, vA, 0, 0, 0, vK⟩ := ⟨⟨by show _ ≤ op; omega, by show op ≤ _; omega⟩, ⟨by show _ ≤ vA; omega, by show vA ≤ _; omega⟩, ⟨by show _ ≤ (0 : Int); omega, by show (0 : Int) ≤ _; omega⟩, ⟨by show _ ≤ (0 : Int); omega, by show (0 : Int) ≤ _; omega⟩, ⟨by show _ ≤ (0 : Int); omega, by show (0 : Int) ≤ _; omega⟩, ⟨by show _ ≤ vK; omega, by show vK < _; omega⟩⟩
    refine w_fin wi fun e0 k => ?_
    have eo := (hE e0 k).1
    have hfe : frm e0.Op = [0, 5] := by rw [eo, hf]
    have z := right_zero k.1
    rw [hfe] at z
    have ff := rightI_facts k.1
    have kk := k.2.1.2.2.2.2.2
    have eA : vA = ((e0.A.toNat : Nat) : Int) := vAw _ (by omega) (word_at (two e0 k) (j := 0) (l := 0) (by rw [hfe]; rfl))
    have eK : vK = ((e0.K.toNat : Nat) : Int) := vKw _ (by omega) (word_at (two e0 k) (j := 1) (l := 5) (by rw [hfe]; rfl))
    exact ext_I eo.symm (by show vA = e0.A; omega) (z.2.1 (by decide)).symm (z.2.2.1 (by decide) (by decide)).symm (z.2.2.2.1 (by decide)).symm (by show vK = e0.K; omega)
  refine wp_if (p := op = 2 ∨ op = 23) (by simp only [Bool.or_eq_true, ieq_iff]) (fun q => ?_) fun n_ab => ?_
  · have hf := frm_ab q
    refine wp_if (p := ¬ y.n = 3) (by rw [bnot_iff, ieq_iff]; omega) (fun h => line_no fun e0 k => h (by have := (hE e0 k).2; rw [hf] at this; exact this)) fun h => ?_
    have h := Classical.byContradiction h
    refine wp_need (by rw [inb_iff2, h]; decide) (wp_call (w_g0 (hsz.2 1 (by omega)) _) fun (z : TApi_Instr) hz => ?_)
    obtain ⟨vA, rfl, vAr, vAw⟩ := hz
    refine wp_need (by rw [inb_iff2, h]; decide) (wp_call (w_g1 (hsz.2 2 (by omega)) _) fun (z : TApi_Instr) hz => ?_)
    obtain ⟨vB, rfl, vBr, vBw⟩ := hz
    have wi : WfI ⟨op, vA, vB, 0, 0, 0⟩ := ⟨⟨by show _ ≤ op; omega, by show op ≤ _; omega⟩, ⟨by show _ ≤ vA; omega, by show vA ≤ _; omega⟩, ⟨by show _ ≤ vB; omega, by show vB ≤ _; omega⟩, ⟨by show _ ≤ (0 : Int); omega, by show (0 : Int) ≤ _; omega⟩, ⟨by show _ ≤ (0 : Int); omega, by show (0 : Int) ≤ _; omega⟩, ⟨by show _ ≤ (0 : Int); omega, by show (0 : Int) < _; omega⟩⟩
    refine w_fin wi fun e0 k => ?_
    have eo := (hE e0 k).1
    have hfe : frm e0.Op = [0, 1] := by rw [eo, hf]
    have z := right_zero k.1
    rw [hfe] at z
    have ff := rightI_facts k.1
    have kk := k.2.1.2.2.2.2.2
    have eA : vA = ((e0.A.toNat : Nat) : Int) := vAw _ (by omega) (word_at (two e0 k) (j := 0) (l := 0) (by rw [hfe]; rfl))
    have eB : vB = ((e0.B.toNat : Nat) : Int) := vBw _ (by omega) (word_at (two e0 k) (j := 1) (l := 1) (by rw [hfe]; rfl))
    exact ext_I eo.symm (by show vA = e0.A; omega) (by show vB = e0.B; omega) (z.2.2.1 (by decide) (by decide)).symm (z.2.2.2.1 (by decide)).symm (z.2.2.2.2 (by decide)).symm
  refine wp_if (p := op = 15) (by simp only [Bool.or_eq_true, ieq_iff]) (fun q => ?_) fun n_k => ?_
  · have hf := frm_k q
    refine wp_if (p := ¬ y.n = 2) (by rw [bnot_iff, ieq_iff]; omega) (fun h => line_no fun e0 k => h (by have := (hE e0 k).2; rw [hf] at this; exact this)) fun h => ?_
    have h := Classical.byContradiction h
    refine wp_need (by rw [inb_iff2, h]; decide) (wp_call (w_g5 (hsz.2 1 (by omega)) _) fun (z : TApi_Instr) hz => ?_)
    obtain ⟨vK, rfl, vKr, vKw⟩ := hz
    have wi : WfI ⟨op, 0, 0, 0, 0, vK⟩ := ⟨⟨by show _ ≤ op; omega, by show op ≤ _; omega⟩, ⟨by show _ ≤ (0 : Int); omega, by show (0 : Int) ≤ _; omega⟩, ⟨by show _ ≤ (0 : Int); omega, by show (0 : Int) ≤ _; omega⟩, ⟨by show _ ≤ (0 : Int); omega, by show (0 : Int) ≤ _; omega⟩, ⟨by show _ ≤ (0 : Int); omega, by show (0 : Int) ≤ _; omega⟩, ⟨by show _ ≤ vK; omega, by show vK < _; omega⟩⟩
    refine w_fin wi fun e0 k => ?_
    have eo := (hE e0 k).1
    have hfe : frm e0.Op = [5] := by rw [eo, hf]
    have z := right_zero k.1
    rw [hfe] at z
    have ff := rightI_facts k.1
    have kk := k.2.1.2.2.2.2.2
    have eK : vK = ((e0.K.toNat : Nat) : Int) := vKw _ (by omega) (word_at (two e0 k) (j := 0) (l := 5) (by rw [hfe]; rfl))
    exact ext_I eo.symm (z.1 (by decide)).symm (z.2.1 (by decide)).symm (z.2.2.1 (by decide) (by decide)).symm (z.2.2.2.1 (by decide)).symm (by show vK = e0.K; omega)
  refine wp_if (p := op = 18) (by simp only [Bool.or_eq_true, ieq_iff]) (fun q => ?_) fun n_send => ?_
  · have hf := frm_send q
    refine wp_if (p := ¬ y.n = 5) (by rw [bnot_iff, ieq_iff]; omega) (fun h => line_no fun e0 k => h (by have := (hE e0 k).2; rw [hf] at this; exact this)) fun h => ?_
    have h := Classical.byContradiction h
    refine wp_need (by rw [inb_iff2, h]; decide) (wp_call (w_g0 (hsz.2 1 (by omega)) _) fun (z : TApi_Instr) hz => ?_)
    obtain ⟨vA, rfl, vAr, vAw⟩ := hz
    refine wp_need (by rw [inb_iff2, h]; decide) (wp_call (w_g1 (hsz.2 2 (by omega)) _) fun (z : TApi_Instr) hz => ?_)
    obtain ⟨vB, rfl, vBr, vBw⟩ := hz
    refine wp_need (by rw [inb_iff2, h]; decide) (wp_call (w_g3 (hsz.2 3 (by omega)) _) fun (z : TApi_Instr) hz => ?_)
    obtain ⟨vC, rfl, vCr, vCw⟩ := hz
    refine wp_need (by rw [inb_iff2, h]; decide) (wp_call (w_g4 (y.get 4) _) fun (z : TApi_Instr) hz => ?_)
    obtain ⟨vD, rfl, vDr, vDw⟩ := hz
    have wi : WfI ⟨op, vA, vB, vC, vD, 0⟩ := ⟨⟨by show _ ≤ op; omega, by show op ≤ _; omega⟩, ⟨by show _ ≤ vA; omega, by show vA ≤ _; omega⟩, ⟨by show _ ≤ vB; omega, by show vB ≤ _; omega⟩, ⟨by show _ ≤ vC; omega, by show vC ≤ _; omega⟩, ⟨by show _ ≤ vD; omega, by show vD ≤ _; omega⟩, ⟨by show _ ≤ (0 : Int); omega, by show (0 : Int) < _; omega⟩⟩
    refine w_fin wi fun e0 k => ?_
    have eo := (hE e0 k).1
    have hfe : frm e0.Op = [0, 1, 3, 4] := by rw [eo, hf]
    have z := right_zero k.1
    rw [hfe] at z
    have ff := rightI_facts k.1
    have kk := k.2.1.2.2.2.2.2
    have eA : vA = ((e0.A.toNat : Nat) : Int) := vAw _ (by omega) (word_at (two e0 k) (j := 0) (l := 0) (by rw [hfe]; rfl))
    have eB : vB = ((e0.B.toNat : Nat) : Int) := vBw _ (by omega) (word_at (two e0 k) (j := 1) (l := 1) (by rw [hfe]; rfl))
    have eC : vC = ((e0.C.toNat : Nat) : Int) := vCw _ (by omega) (word_at (two e0 k) (j := 2) (l := 3) (by rw [hfe]; rfl))
    have eD : vD = ((e0.D.toNat : Nat) : Int) := vDw _ (by omega) (word_at (two e0 k) (j := 3) (l := 4) (by rw [hfe]; rfl))
    exact ext_I eo.symm (by show vA = e0.A; omega) (by show vB = e0.B; omega) (by show vC = e0.C; omega) (by show vD = e0.D; omega) (z.2.2.2.2 (by decide)).symm
  refine wp_if (p := op = 19) (by simp only [Bool.or_eq_true, ieq_iff]) (fun q => ?_) fun n_recv => ?_
  · have hf := frm_recv q
    refine wp_if (p := ¬ y.n = 6) (by rw [bnot_iff, ieq_iff]; omega) (fun h => line_no fun e0 k => h (by have := (hE e0 k).2; rw [hf] at this; exact this)) fun h => ?_
    have h := Classical.byContradiction h
    refine wp_need (by rw [inb_iff2, h]; decide) (wp_call (w_g0 (hsz.2 1 (by omega)) _) fun (z : TApi_Instr) hz => ?_)
    obtain ⟨vA, rfl, vAr, vAw⟩ := hz
    refine wp_need (by rw [inb_iff2, h]; decide) (wp_call (w_g1 (hsz.2 2 (by omega)) _) fun (z : TApi_Instr) hz => ?_)
    obtain ⟨vB, rfl, vBr, vBw⟩ := hz
    refine wp_need (by rw [inb_iff2, h]; decide) (wp_call (w_g3 (hsz.2 3 (by omega)) _) fun (z : TApi_Instr) hz => ?_)
    obtain ⟨vC, rfl, vCr, vCw⟩ := hz
    refine wp_need (by rw [inb_iff2, h]; decide) (wp_call (w_g4 (y.get 4) _) fun (z : TApi_Instr) hz => ?_)
    obtain ⟨vD, rfl, vDr, vDw⟩ := hz
    refine wp_need (by rw [inb_iff2, h]; decide) (wp_call (w_g5 (hsz.2 5 (by omega)) _) fun (z : TApi_Instr) hz => ?_)
    obtain ⟨vK, rfl, vKr, vKw⟩ := hz
    have wi : WfI ⟨op, vA, vB, vC, vD, vK⟩ := ⟨⟨by show _ ≤ op; omega, by show op ≤ _; omega⟩, ⟨by show _ ≤ vA; omega, by show vA ≤ _; omega⟩, ⟨by show _ ≤ vB; omega, by show vB ≤ _; omega⟩, ⟨by show _ ≤ vC; omega, by show vC ≤ _; omega⟩, ⟨by show _ ≤ vD; omega, by show vD ≤ _; omega⟩, ⟨by show _ ≤ vK; omega, by show vK < _; omega⟩⟩
    refine w_fin wi fun e0 k => ?_
    have eo := (hE e0 k).1
    have hfe : frm e0.Op = [0, 1, 3, 4, 5] := by rw [eo, hf]
    have z := right_zero k.1
    rw [hfe] at z
    have ff := rightI_facts k.1
    have kk := k.2.1.2.2.2.2.2
    have eA : vA = ((e0.A.toNat : Nat) : Int) := vAw _ (by omega) (word_at (two e0 k) (j := 0) (l := 0) (by rw [hfe]; rfl))
    have eB : vB = ((e0.B.toNat : Nat) : Int) := vBw _ (by omega) (word_at (two e0 k) (j := 1) (l := 1) (by rw [hfe]; rfl))
    have eC : vC = ((e0.C.toNat : Nat) : Int) := vCw _ (by omega) (word_at (two e0 k) (j := 2) (l := 3) (by rw [hfe]; rfl))
    have eD : vD = ((e0.D.toNat : Nat) : Int) := vDw _ (by omega) (word_at (two e0 k) (j := 3) (l := 4) (by rw [hfe]; rfl))
    have eK : vK = ((e0.K.toNat : Nat) : Int) := vKw _ (by omega) (word_at (two e0 k) (j := 4) (l := 5) (by rw [hfe]; rfl))
    exact ext_I eo.symm (by show vA = e0.A; omega) (by show vB = e0.B; omega) (by show vC = e0.C; omega) (by show vD = e0.D; omega) (by show vK = e0.K; omega)
  refine wp_if (p := op = 20) (by simp only [Bool.or_eq_true, ieq_iff]) (fun q => ?_) fun n_c => ?_
  · have hf := frm_c q
    refine wp_if (p := ¬ y.n = 2) (by rw [bnot_iff, ieq_iff]; omega) (fun h => line_no fun e0 k => h (by have := (hE e0 k).2; rw [hf] at this; exact this)) fun h => ?_
    have h := Classical.byContradiction h
    refine wp_need (by rw [inb_iff2, h]; decide) (wp_call (w_g3 (hsz.2 1 (by omega)) _) fun (z : TApi_Instr) hz => ?_)
    obtain ⟨vC, rfl, vCr, vCw⟩ := hz
    have wi : WfI ⟨op, 0, 0, vC, 0, 0⟩ := ⟨⟨by show _ ≤ op; omega, by show op ≤ _; omega⟩, ⟨by show _ ≤ (0 : Int); omega, by show (0 : Int) ≤ _; omega⟩, ⟨by show _ ≤ (0 : Int); omega, by show (0 : Int) ≤ _; omega⟩, ⟨by show _ ≤ vC; omega, by show vC ≤ _; omega⟩, ⟨by show _ ≤ (0 : Int); omega, by show (0 : Int) ≤ _; omega⟩, ⟨by show _ ≤ (0 : Int); omega, by show (0 : Int) < _; omega⟩⟩
    refine w_fin wi fun e0 k => ?_
    have eo := (hE e0 k).1
    have hfe : frm e0.Op = [3] := by rw [eo, hf]
    have z := right_zero k.1
    rw [hfe] at z
    have ff := rightI_facts k.1
    have kk := k.2.1.2.2.2.2.2
    have eC : vC = ((e0.C.toNat : Nat) : Int) := vCw _ (by omega) (word_at (two e0 k) (j := 0) (l := 3) (by rw [hfe]; rfl))
    exact ext_I eo.symm (z.1 (by decide)).symm (z.2.1 (by decide)).symm (by show vC = e0.C; omega) (z.2.2.2.1 (by decide)).symm (z.2.2.2.2 (by decide)).symm
  refine wp_if (p := op = 21 ∨ op = 22 ∨ op = 24) (by simp only [Bool.or_eq_true, ieq_iff]) (fun q => ?_) fun n_a => ?_
  · have hf := frm_a q
    refine wp_if (p := ¬ y.n = 2) (by rw [bnot_iff, ieq_iff]; omega) (fun h => line_no fun e0 k => h (by have := (hE e0 k).2; rw [hf] at this; exact this)) fun h => ?_
    have h := Classical.byContradiction h
    refine wp_need (by rw [inb_iff2, h]; decide) (wp_call (w_g0 (hsz.2 1 (by omega)) _) fun (z : TApi_Instr) hz => ?_)
    obtain ⟨vA, rfl, vAr, vAw⟩ := hz
    have wi : WfI ⟨op, vA, 0, 0, 0, 0⟩ := ⟨⟨by show _ ≤ op; omega, by show op ≤ _; omega⟩, ⟨by show _ ≤ vA; omega, by show vA ≤ _; omega⟩, ⟨by show _ ≤ (0 : Int); omega, by show (0 : Int) ≤ _; omega⟩, ⟨by show _ ≤ (0 : Int); omega, by show (0 : Int) ≤ _; omega⟩, ⟨by show _ ≤ (0 : Int); omega, by show (0 : Int) ≤ _; omega⟩, ⟨by show _ ≤ (0 : Int); omega, by show (0 : Int) < _; omega⟩⟩
    refine w_fin wi fun e0 k => ?_
    have eo := (hE e0 k).1
    have hfe : frm e0.Op = [0] := by rw [eo, hf]
    have z := right_zero k.1
    rw [hfe] at z
    have ff := rightI_facts k.1
    have kk := k.2.1.2.2.2.2.2
    have eA : vA = ((e0.A.toNat : Nat) : Int) := vAw _ (by omega) (word_at (two e0 k) (j := 0) (l := 0) (by rw [hfe]; rfl))
    exact ext_I eo.symm (by show vA = e0.A; omega) (z.2.1 (by decide)).symm (z.2.2.1 (by decide) (by decide)).symm (z.2.2.2.1 (by decide)).symm (z.2.2.2.2 (by decide)).symm
  refine wp_if (p := op = 25) (by simp only [Bool.or_eq_true, ieq_iff]) (fun q => ?_) fun n_halt => ?_
  · have hf := frm_halt q
    refine wp_if (p := ¬ y.n = 1) (by rw [bnot_iff, ieq_iff]; omega) (fun h => line_no fun e0 k => h (by have := (hE e0 k).2; rw [hf] at this; exact this)) fun h => ?_
    have h := Classical.byContradiction h
    have wi : WfI ⟨op, 0, 0, 0, 0, 0⟩ := ⟨⟨by show _ ≤ op; omega, by show op ≤ _; omega⟩, ⟨by show _ ≤ (0 : Int); omega, by show (0 : Int) ≤ _; omega⟩, ⟨by show _ ≤ (0 : Int); omega, by show (0 : Int) ≤ _; omega⟩, ⟨by show _ ≤ (0 : Int); omega, by show (0 : Int) ≤ _; omega⟩, ⟨by show _ ≤ (0 : Int); omega, by show (0 : Int) ≤ _; omega⟩, ⟨by show _ ≤ (0 : Int); omega, by show (0 : Int) < _; omega⟩⟩
    refine w_fin wi fun e0 k => ?_
    have eo := (hE e0 k).1
    have hfe : frm e0.Op = [] := by rw [eo, hf]
    have z := right_zero k.1
    rw [hfe] at z
    have ff := rightI_facts k.1
    have kk := k.2.1.2.2.2.2.2
    exact ext_I eo.symm (z.1 (by decide)).symm (z.2.1 (by decide)).symm (z.2.2.1 (by decide) (by decide)).symm (z.2.2.2.1 (by decide)).symm (z.2.2.2.2 (by decide)).symm
  have hf : frm op = [0, 1, 2] := frm_abc (by omega)
  refine wp_if (p := ¬ y.n = 4) (by rw [bnot_iff, ieq_iff]; omega) (fun h => line_no fun e0 k => h (by have := (hE e0 k).2; rw [hf] at this; exact this)) fun h => ?_
  have h := Classical.byContradiction h
  refine wp_need (by rw [inb_iff2, h]; decide) (wp_call (w_g0 (hsz.2 1 (by omega)) _) fun (z : TApi_Instr) hz => ?_)
  obtain ⟨vA, rfl, vAr, vAw⟩ := hz
  refine wp_need (by rw [inb_iff2, h]; decide) (wp_call (w_g1 (hsz.2 2 (by omega)) _) fun (z : TApi_Instr) hz => ?_)
  obtain ⟨vB, rfl, vBr, vBw⟩ := hz
  refine wp_need (by rw [inb_iff2, h]; decide) (wp_call (w_g2 (hsz.2 3 (by omega)) _) fun (z : TApi_Instr) hz => ?_)
  obtain ⟨vC, rfl, vCr, vCw⟩ := hz
  have wi : WfI ⟨op, vA, vB, vC, 0, 0⟩ := ⟨⟨by show _ ≤ op; omega, by show op ≤ _; omega⟩, ⟨by show _ ≤ vA; omega, by show vA ≤ _; omega⟩, ⟨by show _ ≤ vB; omega, by show vB ≤ _; omega⟩, ⟨by show _ ≤ vC; omega, by show vC ≤ _; omega⟩, ⟨by show _ ≤ (0 : Int); omega, by show (0 : Int) ≤ _; omega⟩, ⟨by show _ ≤ (0 : Int); omega, by show (0 : Int) < _; omega⟩⟩
  refine w_fin wi fun e0 k => ?_
  have eo := (hE e0 k).1
  have hfe : frm e0.Op = [0, 1, 2] := by rw [eo, hf]
  have z := right_zero k.1
  rw [hfe] at z
  have ff := rightI_facts k.1
  have kk := k.2.1.2.2.2.2.2
  have eA : vA = ((e0.A.toNat : Nat) : Int) := vAw _ (by omega) (word_at (two e0 k) (j := 0) (l := 0) (by rw [hfe]; rfl))
  have eB : vB = ((e0.B.toNat : Nat) : Int) := vBw _ (by omega) (word_at (two e0 k) (j := 1) (l := 1) (by rw [hfe]; rfl))
  have eC : vC = ((e0.C.toNat : Nat) : Int) := vCw _ (by omega) (word_at (two e0 k) (j := 2) (l := 2) (by rw [hfe]; rfl))
  exact ext_I eo.symm (by show vA = e0.A; omega) (by show vB = e0.B; omega) (by show vC = e0.C; omega) (z.2.2.2.1 (by decide)).symm (z.2.2.2.2 (by decide)).symm
/-! ### The document's numbers of words -/
def numW (s : ByteArray) : Nat → Int
  | 0 => 0
  | k + 1 => IntKind.u64.wrap (IntKind.u64.wrap (10 * numW s k) + IntKind.u64.wrap (IntKind.u8.wrap (bt s k - 48)))
theorem numW_rng (s : ByteArray) : ∀ k, 0 ≤ numW s k ∧ numW s k < 18446744073709551616
  | 0 => ⟨Int.le_refl _, by show (0 : Int) < _; decide⟩
  | k + 1 => wf_wrap64 _
theorem w_r10_value {s : ByteArray} (hs : s.size ≤ 5000000) : D_r10_value.wp s fun y => y = numW s s.size := by
  refine of_wp ?_
  simp only [tt_r10_value]
  refine count_wp (fun k => (⟨s, numW s k, (k : Nat)⟩ : X_r10_value_3)) s.size (fun _ => True) _ (fun D _ => ?_) (fun D k hk _ hD => ?_) (Nat.zero_le _) trivial
  · simp only [tt_r10_value_3, ilt_nat, Nat.lt_irrefl, decide_false, wp_false]; rfl
  · simp only [tt_r10_value_3, ilt_nat, hk, decide_true, wp_true, inb_nat hk, wp_need_true, Int.toNat_natCast, next64 hk (show s.size ≤ maxLen by simp only [maxLen]; omega)]
    exact hD trivial
theorem numW_val {l : List UInt8} (hd : ∀ c ∈ l, 48 ≤ c.toNat ∧ c.toNat ≤ 57) (hv : valF 0 l < 18446744073709551616) : ∀ k, k ≤ l.length → numW (mkB l) k = ((valF 0 (l.take k) : Nat) : Int)
  | 0, _ => by rw [List.take_zero, valF_nil]; rfl
  | k + 1, h => by
    have hk : k < l.length := h
    have ih := numW_val hd hv k (by omega)
    have ht : l.take (k + 1) = l.take k ++ [l[k]] := by rw [List.take_add_one, List.getElem?_eq_getElem hk]; rfl
    have hle : valF 0 (l.take (k + 1)) ≤ valF 0 l := by
      conv => rhs; rw [← List.take_append_drop (k + 1) l, valF_app]
      exact valF_ge _ _
    have hs : valF 0 (l.take (k + 1)) = valF 0 (l.take k) * 10 + (l[k].toNat - 48) := by rw [ht, valF_app, valF_cons, valF_nil]
    have hc := hd l[k] (List.getElem_mem hk)
    rw [numW, ih, bt_mkB hk, hs, wrapu8, show (((l[k].toNat : Nat) : Int) - 48) % 256 = ((l[k].toNat - 48 : Nat) : Int) by omega]
    rw [wrapu64 (z := 10 * _) (by omega) (by omega), wrapu64 (z := ((l[k].toNat - 48 : Nat) : Int)) (by omega) (by omega), wrapu64 (by omega) (by omega)]
    omega
theorem numW_dig {n : Nat} (h : n < 18446744073709551616) : numW (mkB (Lib.decDigits n)) (mkB (Lib.decDigits n)).size = (n : Int) := by
  rw [mkB_size, numW_val (dig_all n) (by rw [valF_dig]; exact h) _ (Nat.le_refl _), List.take_length, valF_dig]
theorem w_r10_small {s : ByteArray} (hs : s.size ≤ 5000000) (k : Nat) : D_r10_small.wp (s, (k : Int)) fun y => (0 ≤ y ∧ y ≤ 1000) ∧ ∀ p n, p.length = k → n ≤ 1000 → s = mkB (p ++ Lib.decDigits n) → y = (n : Int) := by
  refine of_wp ?_
  simp only [tt_r10_small]
  refine wp_if ilt_iff (fun h => ⟨⟨by show (0 : Int) ≤ 1000; decide, Int.le_refl _⟩, fun p n hp hn e => ?_⟩) fun h => ?_
  · rw [e, mkB_size, List.length_append, hp] at h; omega
  · refine wp_need (by rw [upto_iff]; omega) ?_
    rw [Int.toNat_natCast]
    refine wp_call (w_r10_value (s := s.extract k s.size) (by have := ext_size s k s.size; omega)) fun (v : Int) hv => ?_
    subst hv
    have hr := numW_rng (s.extract k s.size) (s.extract k s.size).size
    have hm := imin_small (m := 1000) hr.1 (by decide)
    refine ⟨⟨hm.1, hm.2.1⟩, fun p n hp hn e => ?_⟩
    have hx : s.extract k s.size = mkB (Lib.decDigits n) := by
      refine ext_mkB (t := []) ?_ ?_
      · rw [e, mkB_data, ← hp, List.drop_left, List.append_nil]
      · rw [e, mkB_size, List.length_append, hp]
    have hv := numW_dig (n := n) (by omega)
    rw [← hx] at hv
    show IntKind.i64.wrap (imin (numW (s.extract k s.size) (s.extract k s.size).size) 1000) = _
    rw [hm.2.2 (by omega), hv]

/-! ### The document's words -/
theorem w_words {s : ByteArray} (hs : s.size ≤ 4000000) : D_r10_words.wp s fun y => y.L = (spl 32 s.data.toList).map mkB := by
  have hN := data_len s
  refine of_wp ?_
  simp only [tt_r10_words]
  refine loop_wp (x := (⟨s, Sl.mk true 0 fun _ => ByteArray.mk #[], 0, 0⟩ : X_r10_words_4))
    (fun x => x.s_0 = s ∧ ∃ i : Nat, x.i_5 = (i : Int) ∧ x.out_3.n ≤ i ∧ ((i ≤ s.size ∧ ∃ (a : Nat) (p : List UInt8), x.at_4 = (a : Int) ∧ s.data.toList.drop a = p ++ s.data.toList.drop i ∧ a + p.length = i ∧ (32 : UInt8) ∉ p ∧ x.out_3.L ++ (spl 32 (s.data.toList.drop a)).map mkB = (spl 32 s.data.toList).map mkB) ∨
      (i = s.size + 1 ∧ x.out_3.L = (spl 32 s.data.toList).map mkB)))
    (fun x => s.size + 2 - x.i_5.toNat) (fun _ (y : Sl ByteArray) => y.L = (spl 32 s.data.toList).map mkB) (fun D x hx hD => ?_) ⟨rfl, 0, rfl, Nat.le_refl _, .inl ⟨Nat.zero_le _, 0, [], rfl, rfl, rfl, by simp, rfl⟩⟩
  obtain ⟨s', w, at_, i'⟩ := x
  obtain ⟨h1, i, h3, hwn, hx⟩ := hx
  simp only at h1 h3 hwn hx
  subst h1
  subst h3
  have hne : i ≤ s'.size + 1 → IntKind.i64.wrap ((i : Int) + 1) = ((i + 1 : Nat) : Int) := fun h => by rw [wrap64 (by omega) (by omega)]; rfl
  simp only [tt_r10_words_4]
  rcases hx with ⟨hi, a, p, h4, hd, hap, hp, hL⟩ | ⟨hi, hL⟩
  · subst h4
    have push : ∀ (b : Bool), (Sl.mk b (w.n + 1) fun i2 => cond (Nat.blt i2 w.n) (w.get i2) (ByteArray.extract s' (Int.toNat (a : Int)) (Int.toNat (i : Int)))).L = w.L ++ [mkB p] := fun b => by
      rw [L_push, Int.toNat_natCast, Int.toNat_natCast, ext_mkB hd hap]
    have up : (upto (i : Int) s'.size && upto (a : Int) (Int.toNat (i : Int))) = true := by
      rw [Bool.and_eq_true, upto_iff, upto_iff, Int.toNat_natCast]; omega
    have ro : (true && room (w.n + 1) 16) = true := room_ok (by omega)
    refine wp_if ile_iff (fun _ => wp_if ieq_iff (fun he => ?_) fun he => ?_) fun h => absurd (by omega) h
    · obtain rfl : i = s'.size := by omega
      refine wp_need up (wp_need ro (of_wp ?_))
      simp only [tt_r10_words_5, hne (by omega)]
      refine hD _ ⟨rfl, s'.size + 1, rfl, by show w.n + 1 ≤ s'.size + 1; omega, .inr ⟨rfl, ?_⟩⟩ (by show s'.size + 2 - ((s'.size + 1 : Nat) : Int).toNat < s'.size + 2 - ((s'.size : Nat) : Int).toNat; omega)
      rw [push, ← hL, hd, List.drop_of_length_le (by omega), List.append_nil, spl_none hp]
      rfl
    · have hlt : i < s'.data.toList.length := by omega
      have hdi : s'.data.toList.drop i = s'.data.toList[i] :: s'.data.toList.drop (i + 1) := List.drop_eq_getElem_cons hlt
      refine wp_need (by rw [inb_iff2]; omega) ?_
      rw [Int.toNat_natCast, bt_data hlt]
      refine wp_if (p := s'.data.toList[i] = 32) (ieq_iff.trans (u8_of (n := 32) (by omega))) (fun hc => ?_) fun hc => ?_
      · refine wp_need up (wp_need ro (of_wp ?_))
        simp only [tt_r10_words_5, hne (by omega)]
        have hpush := push (cond (Nat.beq 1 0) w.nil false)
        refine hD _ ⟨rfl, i + 1, rfl, by show w.n + 1 ≤ i + 1; omega, .inl ⟨by omega, i + 1, [], rfl, rfl, rfl, by simp, ?_⟩⟩ (by show s'.size + 2 - ((i + 1 : Nat) : Int).toNat < s'.size + 2 - ((i : Nat) : Int).toNat; omega)
        show (Sl.mk (cond (Nat.beq 1 0) w.nil false) (w.n + 1) fun i2 => cond (Nat.blt i2 w.n) (w.get i2) (ByteArray.extract s' (Int.toNat (a : Int)) (Int.toNat (i : Int)))).L ++ _ = _
        rw [hpush, ← hL, hd, hdi, hc, spl_app hp, List.map_cons, List.append_assoc]
        rfl
      · refine of_wp ?_
        simp only [tt_r10_words_5, hne (by omega)]
        refine hD _ ⟨rfl, i + 1, rfl, by show w.n ≤ i + 1; omega, .inl ⟨by omega, a, p ++ [s'.data.toList[i]], rfl, ?_, ?_, ?_, hL⟩⟩ (by show s'.size + 2 - ((i + 1 : Nat) : Int).toNat < s'.size + 2 - ((i : Nat) : Int).toNat; omega)
        · rw [hd, hdi, List.append_assoc]; rfl
        · rw [List.length_append, List.length_singleton]; omega
        · rw [List.mem_append, List.mem_singleton]
          rintro (q | q)
          · exact hp q
          · exact hc q.symm
  · refine wp_if ile_iff (fun h => by omega) fun _ => hL

/-! ### The document reads a ring -/
theorem w_qr7 {s : ByteArray} {z r : TApi_Ring} (h : ∀ e0, IsHd s.data.toList e0 → r = e0) : D_r10_readRing_7.wp (⟨s, z, r⟩ : X_r10_readRing_7) fun y => RingP s y := by
  refine of_wp ?_
  simp only [tt_r10_readRing_7]
  refine wp_if (p := s ≠ ByteArray.mk #[]) (by rw [bnot_iff, seq_iff]) (fun hs => wp_call (w_r10_Ring r) fun (y : ByteArray) hy => ?_) fun hs => ring_no fun e0 k => hs (hd_ne k)
  subst hy
  exact ringP_of hs h
theorem w_r10_readRing {s : ByteArray} (hs : s.size ≤ 4000000) : D_r10_readRing.wp s fun y => RingP s y := by
  obtain ⟨sz1, sz2⟩ := spl_sz hs
  refine of_wp ?_
  simp only [tt_r10_readRing]
  refine wp_call (w_words hs) fun (y : Sl ByteArray) hy => ?_
  have hsz : SzW y := szW_of hy (by omega) fun w hw => by have := sz2 w hw; omega
  have h5 : ∀ r : TApi_Ring, (y.n ≠ 3 → ∀ e0, IsHd s.data.toList e0 → r = e0) → D_r10_readRing_5.wp (⟨s, y, ⟨0, 0, 0⟩, r⟩ : X_r10_readRing_5) fun y => RingP s y := fun r hr => by
    refine of_wp ?_
    simp only [tt_r10_readRing_5]
    refine wp_if ieq_iff (fun h3 => ?_) fun h3 => w_qr7 fun e0 k => hr (by omega) e0 k
    have h : y.n = 3 := by omega
    refine wp_need (by rw [inb_iff2, h]; decide) (wp_call (w_r10_small (hsz.2 1 (by omega)) 0) fun (v : Int) hv => wp_need (by rw [inb_iff2, h]; decide) (wp_call (w_r10_small (hsz.2 2 (by omega)) 0) fun (u : Int) hu => w_qr7 fun e0 k => ?_))
    obtain ⟨a, b, c, d, f⟩ := ring_three (hd_words hy k) h
    have e : v = ((e0.Cap.toNat : Nat) : Int) := hv.2 [] _ rfl (by omega) d
    have g : u = ((e0.Readers.toNat : Nat) : Int) := hu.2 [] _ rfl (by omega) f
    exact ext_R a.symm (by show v = e0.Cap; omega) (by show u = e0.Readers; omega)
  refine wp_if ieq_iff (fun h => ?_) fun h => h5 _ fun n3 e0 k => ?_
  · have h : y.n = 2 := by omega
    refine wp_need (by rw [inb_iff2, h]; decide) (wp_call (w_r10_small (hsz.2 1 (by omega)) 0) fun (v : Int) hv => h5 _ fun _ e0 k => ?_)
    obtain ⟨a, b, c, d⟩ := ring_two (hd_words hy k) h
    have e : v = ((e0.Cap.toNat : Nat) : Int) := hv.2 [] _ rfl (by omega) d
    exact ext_R a.symm (by show v = e0.Cap; omega) c.symm
  · rcases ring_else (hd_words hy k) k.1 with q | q
    · exact absurd (by omega) h
    · exact absurd q n3

/-! ### The document's line -/
def lt8 : Nat → UInt8
  | 0 => 65
  | 1 => 66
  | 2 => 82
  | 3 => 67
  | 4 => 68
  | _ => 75
def nmF (op : Int) : List UInt8 := if 1 ≤ op ∧ op ≤ 25 then (frm op).map lt8 else []
theorem nmF_in {op : Int} (h : 1 ≤ op ∧ op ≤ 25) : nmF op = (frm op).map lt8 := if_pos h
theorem nmF_out {op : Int} (h : ¬ (1 ≤ op ∧ op ≤ 25)) : nmF op = [] := if_neg h
theorem nmF_ak {op : Int} (h : op = 1 ∨ op = 16 ∨ op = 17) : nmF op = [65, 75] := by rw [nmF_in (by omega), frm_ak h]; rfl
theorem nmF_ab {op : Int} (h : op = 2 ∨ op = 23) : nmF op = [65, 66] := by rw [nmF_in (by omega), frm_ab h]; rfl
theorem nmF_k {op : Int} (h : op = 15) : nmF op = [75] := by rw [nmF_in (by omega), frm_k h]; rfl
theorem nmF_send {op : Int} (h : op = 18) : nmF op = [65, 66, 67, 68] := by rw [nmF_in (by omega), frm_send h]; rfl
theorem nmF_recv {op : Int} (h : op = 19) : nmF op = [65, 66, 67, 68, 75] := by rw [nmF_in (by omega), frm_recv h]; rfl
theorem nmF_c {op : Int} (h : op = 20) : nmF op = [67] := by rw [nmF_in (by omega), frm_c h]; rfl
theorem nmF_a {op : Int} (h : op = 21 ∨ op = 22 ∨ op = 24) : nmF op = [65] := by rw [nmF_in (by omega), frm_a h]; rfl
theorem nmF_halt {op : Int} (h : op = 25) : nmF op = [] := by rw [nmF_in (by omega), frm_halt h]; rfl
theorem nmF_abc {op : Int} (h : 3 ≤ op ∧ op ≤ 14) : nmF op = [65, 66, 82] := by rw [nmF_in (by omega), frm_abc h]; rfl
theorem w_r10_names (op : Int) : D_r10_names.wp op fun y => y = mkB (nmF op) := by
  refine of_wp ?_
  simp only [tt_r10_names, TT.wp, ieq_iff, ile_iff]
  repeat' (first | apply And.intro | intro _)
  all_goals first
    | (exfalso; omega)
    | (rw [nmF_ak (by omega)]; rfl)
    | (rw [nmF_ab (by omega)]; rfl)
    | (rw [nmF_k (by omega)]; rfl)
    | (rw [nmF_send (by omega)]; rfl)
    | (rw [nmF_recv (by omega)]; rfl)
    | (rw [nmF_c (by omega)]; rfl)
    | (rw [nmF_a (by omega)]; rfl)
    | (rw [nmF_abc (by omega)]; rfl)
    | (by_cases q : 1 ≤ op ∧ op ≤ 25
       · rw [nmF_halt (by omega)]; rfl
       · rw [nmF_out q]; rfl)
theorem frm_le {op : Int} {k l : Nat} (h : (frm op)[k]? = some l) : l ≤ 5 := by
  have : ∀ m ∈ frm op, m ≤ 5 := by
    unfold frm
    repeat' split
    all_goals decide
  exact this l (List.mem_of_getElem? h)
theorem join_cons (x : List UInt8) : ∀ ws : List (List UInt8), Lib.join (x :: ws) [32] = x ++ (ws.map fun w => 32 :: w).flatten
  | [] => by rw [Lib.join_one]; simp
  | y :: r => by rw [join_two, join_cons y r]; simp
/-- A line's beginning. -/
def preL (i : TApi_Instr) (k : Nat) : List UInt8 := opK i.Op ++ (((frm i.Op).take k).map fun l => 32 :: fldW i l).flatten
theorem preL_end (i : TApi_Instr) : preL i (frm i.Op).length = lnL i := by
  rw [preL, List.take_length, lnL, wdsI, join_cons, List.map_map]; rfl
theorem preL_succ {i : TApi_Instr} {k l : Nat} (h : (frm i.Op)[k]? = some l) : preL i (k + 1) = preL i k ++ 32 :: fldW i l := by
  rw [preL, preL, List.take_add_one, h]
  simp
theorem preL_len {i : TApi_Instr} (k : Nat) : (preL i k).length ≤ (lnL i).length := by
  rw [← preL_end, preL, preL, List.take_length, List.length_append, List.length_append]
  have : ((List.take k (frm i.Op)).map fun l => 32 :: fldW i l).flatten.length ≤ ((frm i.Op).map fun l => 32 :: fldW i l).flatten.length := by
    conv => rhs; rw [← List.take_append_drop k (frm i.Op), List.map_append, List.flatten_append, List.length_append]
    omega
  omega
theorem w_r10_Line {i : TApi_Instr} (hr : rightI i = true) (w : WfI i) : D_r10_Line.wp i fun y => y = lnB i := by
  have hf := rightI_facts hr
  have hK := w.2.2.2.2.2
  have hlen := lnL_len hr w
  refine of_wp ?_
  simp only [tt_r10_Line]
  refine wp_call (w_r09_Name i.Op) fun (y : ByteArray) hy => wp_call (w_r10_names i.Op) fun (f : ByteArray) hy2 => ?_
  subst hy
  subst hy2
  rw [nmF_in hf.1]
  have hfl := frm_len i.Op
  have h0 : mkB (opK i.Op) = mkB (preL i 0) := by rw [preL]; simp
  rw [h0]
  refine count_wp (fun k => (⟨i, mkB (preL i k), mkB ((frm i.Op).map lt8), (k : Nat)⟩ : X_r10_Line_4)) (frm i.Op).length (fun _ => True) _ (fun D _ => ?_) (fun D k hk _ hD => ?_) (Nat.zero_le _) trivial
  · simp only [tt_r10_Line_4, mkB_size, List.length_map, ilt_nat, Nat.lt_irrefl, decide_false, wp_false]
    show mkB (preL i _) = lnB i
    rw [preL_end]; rfl
  · obtain ⟨l, hl⟩ : ∃ l, (frm i.Op)[k]? = some l := ⟨_, List.getElem?_eq_getElem hk⟩
    have hb : bt (mkB ((frm i.Op).map lt8)) k = (((lt8 l).toNat : Nat) : Int) := by
      rw [bt_mkB (by rw [List.length_map]; exact hk), List.getElem_map]
      rw [List.getElem?_eq_getElem hk] at hl
      rw [Option.some.inj hl]
    have hp := preL_len (i := i) (k + 1)
    have hps := preL_succ hl
    rw [hps, List.length_append, List.length_cons] at hp
    have sp : (ByteArray.mk #[32] : ByteArray) = mkB [32] := rfl
    have rp : (ByteArray.mk #[114] : ByteArray) = mkB [114] := rfl
    have hne : IntKind.i64.wrap ((k : Int) + 1) = ((k + 1 : Nat) : Int) := by rw [wrap64 (by omega) (by omega)]; rfl
    have h5 : ∀ s, s = mkB (preL i (k + 1)) → (D_r10_Line_5 D).wp (⟨i, s, mkB ((frm i.Op).map lt8), (k : Nat)⟩ : X_r10_Line_5) fun y => y = lnB i := fun s hs => by
      subst hs
      refine of_wp ?_
      simp only [tt_r10_Line_5, hne]
      exact hD trivial
    have ua : IntKind.u64.wrap i.A = i.A := wrapu64 (by omega) (by omega)
    have ub : IntKind.u64.wrap i.B = i.B := wrapu64 (by omega) (by omega)
    have uc : IntKind.u64.wrap i.C = i.C := wrapu64 (by omega) (by omega)
    simp only [tt_r10_Line_4, mkB_size, List.length_map, ilt_nat, hk, decide_true, wp_true, inb_nat hk, wp_need_true, Int.toNat_natCast, hb, ua, ub, uc, sp, rp]
    refine nd1 (by show _ + (1 : Nat) ≤ _; omega) (wp_need rfl ?_)
    rw [mkB_app]
    have hl5 := frm_le hl
    rcases (by omega : l = 0 ∨ l = 1 ∨ l = 2 ∨ l = 3 ∨ l = 4 ∨ l = 5) with e | e | e | e | e | e <;> subst e
    · refine wp_ite (fun _ => ?_) fun h => absurd rfl h
      have d1 : (fldW i 0).length = (Lib.decDigits i.A.toNat).length + 1 := List.length_cons
      refine wp_call (w_r10_Number (n := i.A) (by omega) (by omega)) fun (y : ByteArray) hy => ?_
      subst hy
      refine nd1 (by rw [mkB_size]; show (1 : Nat) + _ ≤ _; omega) ?_
      rw [mkB_app]
      refine nd1 (by rw [mkB_size, mkB_size]; simp; omega) (h5 _ ?_)
      rw [mkB_app, hps]
      simp [fldW]
    · refine wp_ite (fun h => by cases h) fun _ => wp_ite (fun _ => ?_) fun h => absurd rfl h
      have d1 : (fldW i 1).length = (Lib.decDigits i.B.toNat).length + 1 := List.length_cons
      refine wp_call (w_r10_Number (n := i.B) (by omega) (by omega)) fun (y : ByteArray) hy => ?_
      subst hy
      refine nd1 (by rw [mkB_size]; show (1 : Nat) + _ ≤ _; omega) ?_
      rw [mkB_app]
      refine nd1 (by rw [mkB_size, mkB_size]; simp; omega) (h5 _ ?_)
      rw [mkB_app, hps]
      simp [fldW]
    · refine wp_ite (fun h => by cases h) fun _ => wp_ite (fun h => by cases h) fun _ => wp_ite (fun _ => ?_) fun h => absurd rfl h
      have d1 : (fldW i 2).length = (Lib.decDigits i.C.toNat).length + 1 := List.length_cons
      refine wp_call (w_r10_Number (n := i.C) (by omega) (by omega)) fun (y : ByteArray) hy => ?_
      subst hy
      refine nd1 (by rw [mkB_size]; show (1 : Nat) + _ ≤ _; omega) ?_
      rw [mkB_app]
      refine nd1 (by rw [mkB_size, mkB_size]; simp; omega) (h5 _ ?_)
      rw [mkB_app, hps]
      simp [fldW]
    · refine wp_ite (fun h => by cases h) fun _ => wp_ite (fun h => by cases h) fun _ => wp_ite (fun h => by cases h) fun _ => wp_ite (fun _ => ?_) fun h => absurd rfl h
      have d1 : (fldW i 3).length = (Lib.decDigits i.C.toNat).length := rfl
      refine wp_call (w_r10_Number (n := i.C) (by omega) (by omega)) fun (y : ByteArray) hy => ?_
      subst hy
      refine nd1 (by rw [mkB_size, mkB_size]; simp; omega) (h5 _ ?_)
      rw [mkB_app, hps]
      simp [fldW]
    · refine wp_ite (fun h => by cases h) fun _ => wp_ite (fun h => by cases h) fun _ => wp_ite (fun h => by cases h) fun _ => wp_ite (fun h => by cases h) fun _ => wp_ite (fun _ => ?_) fun h => absurd rfl h
      have d1 : (fldW i 4).length = (wtN i.D.toNat).length := rfl
      refine wp_call (w_r10_waits hf.2.2.2.2.1) fun (y : ByteArray) hy => ?_
      subst hy
      refine nd1 (by rw [mkB_size, mkB_size]; simp; omega) (h5 _ ?_)
      rw [mkB_app, hps]
      simp [fldW]
    · refine wp_ite (fun h => by cases h) fun _ => wp_ite (fun h => by cases h) fun _ => wp_ite (fun h => by cases h) fun _ => wp_ite (fun h => by cases h) fun _ => wp_ite (fun h => by cases h) fun _ => wp_ite (fun _ => ?_) fun h => absurd rfl h
      have d1 : (fldW i 5).length = (Lib.decDigits i.K.toNat).length := rfl
      refine wp_call (w_r10_Number hK.1 hK.2) fun (y : ByteArray) hy => ?_
      subst hy
      refine nd1 (by rw [mkB_size, mkB_size]; simp; omega) (h5 _ ?_)
      rw [mkB_app, hps]
      simp [fldW]
/-! ### The document reads an instruction -/
def setL (e m : TApi_Instr) : Nat → TApi_Instr
  | 0 => ⟨m.Op, e.A, m.B, m.C, m.D, m.K⟩
  | 1 => ⟨m.Op, m.A, e.B, m.C, m.D, m.K⟩
  | 2 => ⟨m.Op, m.A, m.B, e.C, m.D, m.K⟩
  | 3 => ⟨m.Op, m.A, m.B, e.C, m.D, m.K⟩
  | 4 => ⟨m.Op, m.A, m.B, m.C, e.D, m.K⟩
  | _ => ⟨m.Op, m.A, m.B, m.C, m.D, e.K⟩
def aftL (e : TApi_Instr) (L : List Nat) : TApi_Instr := L.foldl (fun m l => setL e m l) ⟨e.Op, 0, 0, 0, 0, 0⟩
theorem aftL_snoc (e : TApi_Instr) (L : List Nat) (l : Nat) : aftL e (L ++ [l]) = setL e (aftL e L) l := by simp [aftL]
theorem aftL_end {e : TApi_Instr} (h : rightI e = true) : aftL e (frm e.Op) = e := by
  have c := right_cls h
  cases c with
  | ak h f a b c d => rw [f]; exact ext_I rfl rfl b.symm c.symm d.symm rfl
  | ab h f a b c d k => rw [f]; exact ext_I rfl rfl rfl c.symm d.symm k.symm
  | k h f a b c d => rw [f]; exact ext_I rfl a.symm b.symm c.symm d.symm rfl
  | send h f a b c d k => rw [f]; exact ext_I rfl rfl rfl rfl rfl k.symm
  | recv h f a b c d => rw [f]; exact ext_I rfl rfl rfl rfl rfl rfl
  | c h f a b c d k => rw [f]; exact ext_I rfl a.symm b.symm rfl d.symm k.symm
  | a h f a b c d k => rw [f]; exact ext_I rfl rfl b.symm c.symm d.symm k.symm
  | halt h f a b c d k => rw [f]; exact ext_I rfl a.symm b.symm c.symm d.symm k.symm
  | abc h f a b c d k => rw [f]; exact ext_I rfl rfl rfl rfl d.symm k.symm
theorem w_qi33 {s : ByteArray} {z m : TApi_Instr} (w : WfI m) (h : ∀ e0, IsLn s.data.toList e0 → m = e0) : D_r10_readInstr_33.wp (⟨s, z, m⟩ : X_r10_readInstr_33) fun y => LineP s y := by
  refine of_wp ?_
  simp only [tt_r10_readInstr_33]
  refine wp_call (w_r09_Right m w.ok) fun (y : Bool) hy => wp_if hy (fun hr => wp_call (w_r10_Line hr w) fun (z : ByteArray) hz => ?_) fun hr => line_no fun e0 k => hr ?_
  · subst hz
    exact lineP_of hr w h
  · rw [h e0 k]; exact k.1
theorem seq_wt {n : Nat} {x : ByteArray} : seq (mkB (wtN n)) x = true ↔ x = mkB (wtN n) := by rw [seq_iff]; exact eq_comm
theorem w_qi12 {s : ByteArray} {w : Sl ByteArray} {z m : TApi_Instr} (hw : SzW w) (hop : 1 ≤ m.Op ∧ m.Op ≤ 25) (hn : w.n = (frm m.Op).length + 1) (wm : WfI m) (hm : m = ⟨m.Op, 0, 0, 0, 0, 0⟩)
    (hL : ∀ e0, IsLn s.data.toList e0 → w.L = (wdsI e0).map mkB ∧ e0.Op = m.Op) : D_r10_readInstr_12.wp (⟨s, w, mkB ((frm m.Op).map lt8), 0, z, m⟩ : X_r10_readInstr_12) fun y => LineP s y := by
  have hsz := frm_len m.Op
  generalize hP : frm m.Op = F at hn hsz
  refine loop_wp (x := (⟨s, w, mkB (F.map lt8), 0, z, m⟩ : X_r10_readInstr_12)) (fun x => x.s_0 = s ∧ x.w_4 = w ∧ x.f_7 = mkB (F.map lt8) ∧ x.m_2 = z ∧ ∃ i : Nat, i ≤ F.length ∧ x.k_8 = (i : Int) ∧ WfI x.m_5 ∧ ∀ e0, IsLn s.data.toList e0 → x.m_5 = aftL e0 (F.take i))
    (fun x => F.length - x.k_8.toNat) (fun _ (y : TApi_Instr × Bool) => LineP s y) (fun D x hx hD => ?_) ⟨rfl, rfl, rfl, rfl, 0, Nat.zero_le _, rfl, wm, fun e0 k => ?_⟩
  · obtain ⟨s', w', f', i', z', n⟩ := x
    obtain ⟨h1, h2, h3, h4, i, hi, h5, wn, hE⟩ := hx
    simp only at h1 h2 h3 h4 h5 wn hE
    subst h1
    subst h2
    subst h3
    subst h4
    subst h5
    simp only [tt_r10_readInstr_12, mkB_size, List.length_map, ilt_nat]
    by_cases hlt : i < F.length
    · have hne : IntKind.i64.wrap ((i : Int) + 1) = ((i + 1 : Nat) : Int) := by rw [wrap64 (by omega) (by omega)]; rfl
      obtain ⟨l, hl⟩ : ∃ l, F[i]? = some l := ⟨_, List.getElem?_eq_getElem hlt⟩
      have hb : bt (mkB (F.map lt8)) i = (((lt8 l).toNat : Nat) : Int) := by
        rw [bt_mkB (by rw [List.length_map]; exact hlt), List.getElem_map]
        rw [List.getElem?_eq_getElem hlt] at hl
        rw [Option.some.inj hl]
      have htk : F.take (i + 1) = F.take i ++ [l] := by rw [List.take_add_one, hl]; rfl
      have word : ∀ e0, IsLn s'.data.toList e0 → w'.get (i + 1) = mkB (fldW e0 l) := fun e0 k => by
        obtain ⟨a, b⟩ := hL e0 k
        exact word_at a (by rw [b, hP]; exact hl)
      have hl5 : l ≤ 5 := frm_le (op := m.Op) (k := i) (by rw [hP]; exact hl)
      have h13 : ∀ n' : TApi_Instr, WfI n' → (∀ e0, IsLn s'.data.toList e0 → n' = setL e0 n l) → (D_r10_readInstr_13 D).wp (⟨s', w', mkB (F.map lt8), (i : Nat), z', n'⟩ : X_r10_readInstr_13) fun y => LineP s' y := fun n' wn' hE' => by
        refine of_wp ?_
        simp only [tt_r10_readInstr_13, hne]
        refine hD _ ⟨rfl, rfl, rfl, rfl, i + 1, hlt, rfl, wn', fun e0 k => ?_⟩ (by show F.length - ((i + 1 : Nat) : Int).toNat < F.length - ((i : Nat) : Int).toNat; omega)
        rw [htk, aftL_snoc, ← hE e0 k]
        exact hE' e0 k
      have hsw := hw.2 (i + 1) (by omega)
      have facts : ∀ e0, IsLn s'.data.toList e0 → (0 ≤ e0.A ∧ e0.A ≤ 7) ∧ (0 ≤ e0.B ∧ e0.B ≤ 7) ∧ (0 ≤ e0.C ∧ e0.C ≤ 7) ∧ (0 ≤ e0.D ∧ e0.D ≤ 2) ∧ 0 ≤ e0.K ∧ e0.K < 18446744073709551616 := fun e0 k => by
        have f := rightI_facts k.1
        exact ⟨f.2.1, f.2.2.1, f.2.2.2.1, f.2.2.2.2.1, k.2.1.2.2.2.2.2⟩
      simp only [hlt, decide_true, wp_true, hne, Int.toNat_natCast, hb, inb_nat hlt]
      refine wp_need (inb_nat (by omega)) (wp_need rfl ?_)
      rcases (by omega : l = 0 ∨ l = 1 ∨ l = 2 ∨ l = 3 ∨ l = 4 ∨ l = 5) with e | e | e | e | e | e <;> subst e
      · refine wp_ite (fun _ => wp_call (w_r10_small hsw 1) fun (v : Int) hv => h13 _ ⟨wn.1, ⟨by have hv1 : 0 ≤ v ∧ v ≤ 1000 := hv.1; show _ ≤ v; omega, by have hv1 : 0 ≤ v ∧ v ≤ 1000 := hv.1; show v ≤ _; omega⟩, wn.2.2⟩ fun e0 k => ?_) fun h => absurd rfl h
        have f := facts e0 k
        have e : v = ((e0.A.toNat : Nat) : Int) := hv.2 [114] _ rfl (by omega) (word e0 k)
        exact ext_I rfl (by show v = e0.A; omega) rfl rfl rfl rfl
      · refine wp_ite (fun h => by cases h) fun _ => wp_ite (fun _ => wp_call (w_r10_small hsw 1) fun (v : Int) hv => h13 _ ⟨wn.1, wn.2.1, ⟨by have hv1 : 0 ≤ v ∧ v ≤ 1000 := hv.1; show _ ≤ v; omega, by have hv1 : 0 ≤ v ∧ v ≤ 1000 := hv.1; show v ≤ _; omega⟩, wn.2.2.2⟩ fun e0 k => ?_) fun h => absurd rfl h
        have f := facts e0 k
        have e : v = ((e0.B.toNat : Nat) : Int) := hv.2 [114] _ rfl (by omega) (word e0 k)
        exact ext_I rfl rfl (by show v = e0.B; omega) rfl rfl rfl
      · refine wp_ite (fun h => by cases h) fun _ => wp_ite (fun h => by cases h) fun _ => wp_ite (fun _ => wp_call (w_r10_small hsw 1) fun (v : Int) hv => h13 _ ⟨wn.1, wn.2.1, wn.2.2.1, ⟨by have hv1 : 0 ≤ v ∧ v ≤ 1000 := hv.1; show _ ≤ v; omega, by have hv1 : 0 ≤ v ∧ v ≤ 1000 := hv.1; show v ≤ _; omega⟩, wn.2.2.2.2⟩ fun e0 k => ?_) fun h => absurd rfl h
        have f := facts e0 k
        have e : v = ((e0.C.toNat : Nat) : Int) := hv.2 [114] _ rfl (by omega) (word e0 k)
        exact ext_I rfl rfl rfl (by show v = e0.C; omega) rfl rfl
      · refine wp_ite (fun h => by cases h) fun _ => wp_ite (fun h => by cases h) fun _ => wp_ite (fun h => by cases h) fun _ => wp_ite (fun _ => wp_call (w_r10_small hsw 0) fun (v : Int) hv => h13 _ ⟨wn.1, wn.2.1, wn.2.2.1, ⟨by have hv1 : 0 ≤ v ∧ v ≤ 1000 := hv.1; show _ ≤ v; omega, by have hv1 : 0 ≤ v ∧ v ≤ 1000 := hv.1; show v ≤ _; omega⟩, wn.2.2.2.2⟩ fun e0 k => ?_) fun h => absurd rfl h
        have f := facts e0 k
        have e : v = ((e0.C.toNat : Nat) : Int) := hv.2 [] _ rfl (by omega) (word e0 k)
        exact ext_I rfl rfl rfl (by show v = e0.C; omega) rfl rfl
      · refine wp_ite (fun h => by cases h) fun _ => wp_ite (fun h => by cases h) fun _ => wp_ite (fun h => by cases h) fun _ => wp_ite (fun h => by cases h) fun _ => wp_ite (fun _ => ?_) fun h => absurd rfl h
        refine loop_wp (x := (⟨s', w', mkB (F.map lt8), (i : Nat), w'.get (i + 1), 0, z', ⟨n.Op, n.A, n.B, n.C, 3, n.K⟩⟩ : X_r10_readInstr_27))
          (fun x => x.s_0 = s' ∧ x.w_4 = w' ∧ x.f_7 = mkB (F.map lt8) ∧ x.k_8 = (i : Int) ∧ x.x_9 = w'.get (i + 1) ∧ x.m_2 = z' ∧ ∃ (j : Nat) (d : Int), j ≤ 3 ∧ x.n_10 = (j : Int) ∧ x.m_5 = ⟨n.Op, n.A, n.B, n.C, d, n.K⟩ ∧ (0 ≤ d ∧ d ≤ 3) ∧ ∀ q, q < j → w'.get (i + 1) = mkB (wtN q) → d = (q : Int))
          (fun x => 3 - x.n_10.toNat) (fun _ (y : TApi_Instr × Bool) => LineP s' y) (fun D27 x hx hD27 => ?_) ⟨rfl, rfl, rfl, rfl, rfl, rfl, 0, 3, by omega, rfl, rfl, by omega, fun q hq => by omega⟩
        obtain ⟨s2, w2, f2, k2, x2, n2, z2, m2⟩ := x
        obtain ⟨g1, g2, g3, g4, g5, g6, j, d, hj, g7, g8, hd, hq⟩ := hx
        simp only at g1 g2 g3 g4 g5 g6 g7 g8
        subst g1
        subst g2
        subst g3
        subst g4
        subst g5
        subst g6
        subst g7
        subst g8
        have hnj : IntKind.i64.wrap ((j : Int) + 1) = ((j + 1 : Nat) : Int) := by rw [wrap64 (by omega) (by omega)]; rfl
        simp only [tt_r10_readInstr_27]
        refine wp_if ilt_iff (fun hj3 => ?_) fun hj3 => ?_
        · have hj3 : j < 3 := by omega
          have h28 : ∀ d' : Int, (0 ≤ d' ∧ d' ≤ 3) → (∀ q, q < j + 1 → w2.get (i + 1) = mkB (wtN q) → d' = (q : Int)) → (D_r10_readInstr_28 D D27).wp (⟨s2, w2, mkB (F.map lt8), (i : Nat), w2.get (i + 1), (j : Nat), z2, ⟨n.Op, n.A, n.B, n.C, d', n.K⟩⟩ : X_r10_readInstr_28) fun y => LineP s2 y := fun d' hd' hq' => by
            refine of_wp ?_
            simp only [tt_r10_readInstr_28, hnj]
            exact hD27 _ ⟨rfl, rfl, rfl, rfl, rfl, rfl, j + 1, d', hj3, rfl, rfl, hd', hq'⟩ (by show 3 - ((j + 1 : Nat) : Int).toNat < 3 - ((j : Nat) : Int).toNat; omega)
          refine wp_call (w_r10_waits (k := (j : Int)) (by omega)) fun (y : ByteArray) hy => ?_
          subst hy
          rw [Int.toNat_natCast]
          refine wp_if seq_wt (fun hx => h28 _ (by omega) fun q hq2 e => ?_) fun hx => h28 _ hd fun q hq2 e => ?_
          · have := wtN_inj q (by omega) j hj3 (mkB_inj (e.symm.trans hx))
            omega
          · by_cases e2 : q = j
            · subst e2; exact absurd e hx
            · exact hq q (by omega) e
        · refine h13 _ ⟨wn.1, wn.2.1, wn.2.2.1, wn.2.2.2.1, ⟨by show _ ≤ d; omega, by show d ≤ _; omega⟩, wn.2.2.2.2.2⟩ fun e0 k => ?_
          have f := facts e0 k
          have e : d = ((e0.D.toNat : Nat) : Int) := hq _ (by omega) (word e0 k)
          exact ext_I rfl rfl rfl rfl (by show d = e0.D; omega) rfl
      · refine wp_ite (fun h => by cases h) fun _ => wp_ite (fun h => by cases h) fun _ => wp_ite (fun h => by cases h) fun _ => wp_ite (fun h => by cases h) fun _ => wp_ite (fun h => by cases h) fun _ => wp_ite (fun _ => wp_call (w_r10_value hsw) fun (v : Int) hv => ?_) fun h => absurd rfl h
        subst hv
        have hr := numW_rng (w'.get (i + 1)) (w'.get (i + 1)).size
        refine h13 _ ⟨wn.1, wn.2.1, wn.2.2.1, wn.2.2.2.1, wn.2.2.2.2.1, hr⟩ fun e0 k => ?_
        have f := facts e0 k
        have hv := numW_dig (n := e0.K.toNat) (by omega)
        have hw := word e0 k
        rw [show fldW e0 5 = Lib.decDigits e0.K.toNat from rfl] at hw
        rw [← hw] at hv
        exact ext_I rfl rfl rfl rfl rfl (by show numW _ _ = e0.K; rw [hv]; omega)
    · simp only [hlt, decide_false, wp_false]
      refine w_qi33 wn fun e0 k => ?_
      obtain rfl : i = F.length := by omega
      rw [hE e0 k, List.take_length, ← hP, ← (hL e0 k).2, aftL_end k.1]
  · rw [hm, List.take_zero]
    show _ = (⟨e0.Op, 0, 0, 0, 0, 0⟩ : TApi_Instr)
    rw [(hL e0 k).2]
theorem w_qi8 {s : ByteArray} {w : Sl ByteArray} {z m : TApi_Instr} (hw : SzW w) (hop : 0 ≤ m.Op ∧ m.Op ≤ 25) (hm : m = ⟨m.Op, 0, 0, 0, 0, 0⟩)
    (hL : ∀ e0, IsLn s.data.toList e0 → w.L = (wdsI e0).map mkB ∧ e0.Op = m.Op) : D_r10_readInstr_8.wp (⟨s, w, z, m⟩ : X_r10_readInstr_8) fun y => LineP s y := by
  refine of_wp ?_
  simp only [tt_r10_readInstr_8]
  refine wp_call (w_r10_names m.Op) fun (f : ByteArray) hf => ?_
  subst hf
  refine wp_if ieq_iff (fun h => line_no fun e0 k => ?_) fun h0 => ?_
  · have := (rightI_facts k.1).1
    have := (hL e0 k).2
    omega
  have hop : 1 ≤ m.Op ∧ m.Op ≤ 25 := by omega
  have hfl := frm_len m.Op
  rw [nmF_in hop]
  simp only [mkB_size, List.length_map]
  have hw2 : IntKind.i64.wrap ((1 : Int) + ((frm m.Op).length : Int)) = ((1 + (frm m.Op).length : Nat) : Int) := by rw [wrap64 (by omega) (by omega)]; rfl
  rw [hw2]
  refine wp_if (p := ¬ w.n = 1 + (frm m.Op).length) (by rw [bnot_iff, ieq_iff]; exact not_congr Int.natCast_inj) (fun h => line_no fun e0 k => h ?_) fun h => of_wp ?_
  · obtain ⟨a, b⟩ := hL e0 k
    have := (word_op a).2
    rw [b] at this
    omega
  · simp only [tt_r10_readInstr_11]
    have big : (0 : Int) < 18446744073709551616 := by decide
    have wm : WfI m := by
      rw [hm]
      exact ⟨⟨by show _ ≤ m.Op; omega, by show m.Op ≤ _; omega⟩, ⟨by show _ ≤ (0 : Int); decide, by show (0 : Int) ≤ _; decide⟩, ⟨by show _ ≤ (0 : Int); decide, by show (0 : Int) ≤ _; decide⟩, ⟨by show _ ≤ (0 : Int); decide, by show (0 : Int) ≤ _; decide⟩, ⟨by show _ ≤ (0 : Int); decide, by show (0 : Int) ≤ _; decide⟩, Int.le_refl _, big⟩
    exact w_qi12 hw hop (by have := Classical.byContradiction h; omega) wm hm hL
theorem w_r10_readInstr {s : ByteArray} (hs : s.size ≤ 4000000) : D_r10_readInstr.wp s fun y => LineP s y := by
  obtain ⟨sz1, sz2⟩ := spl_sz hs
  refine of_wp ?_
  simp only [tt_r10_readInstr]
  refine wp_call (w_words hs) fun (w : Sl ByteArray) hy => ?_
  have hw : SzW w := szW_of hy (by omega) fun w hw => by have := sz2 w hw; omega
  have hL : ∀ e0, IsLn s.data.toList e0 → w.L = (wdsI e0).map mkB := fun e0 k => isLn_words hy k
  have yn : w.n = (spl 32 s.data.toList).length := by have := congrArg List.length hy; simpa using this
  have y0 : 0 < w.n := by
    have := spl_ne 32 s.data.toList
    cases q : spl 32 s.data.toList with
    | nil => exact absurd q this
    | cons a b => rw [q] at yn; simp at yn; omega
  refine loop_wp (x := (⟨s, w, 1, ⟨0, 0, 0, 0, 0, 0⟩, ⟨0, 0, 0, 0, 0, 0⟩⟩ : X_r10_readInstr_4)) (fun x => x.s_0 = s ∧ x.w_4 = w ∧ ∃ (k : Nat) (K : Int), (1 ≤ k ∧ k ≤ 26) ∧ x.op_6 = (k : Int) ∧ x.m_5 = ⟨K, 0, 0, 0, 0, 0⟩ ∧ (0 ≤ K ∧ K ≤ 25) ∧ ∀ e0, IsLn s.data.toList e0 → K = if e0.Op < (k : Int) then e0.Op else 0)
    (fun x => 27 - x.op_6.toNat) (fun _ (y : TApi_Instr × Bool) => LineP s y) (fun D x hx hD => ?_) ⟨rfl, rfl, 1, 0, by omega, rfl, rfl, by omega, fun e0 k => ?_⟩
  · obtain ⟨s', w', k', z', n⟩ := x
    obtain ⟨h1, h3, k, K, hk, h5, h6, hK, hE⟩ := hx
    simp only at h1 h3 h5 h6
    subst h1
    subst h3
    subst h5
    subst h6
    have one : ∀ e0, IsLn s'.data.toList e0 → w'.get 0 = mkB (opK e0.Op) := fun e0 q => (word_op (hL e0 q)).1
    simp only [tt_r10_readInstr_4]
    refine wp_if ile_iff (fun hle => ?_) fun hle => ?_
    · have hne : IntKind.i64.wrap ((k : Int) + 1) = ((k + 1 : Nat) : Int) := by rw [wrap64 (by omega) (by omega)]; rfl
      have h5 : ∀ K' : Int, (0 ≤ K' ∧ K' ≤ 25) → (∀ e0, IsLn s'.data.toList e0 → K' = if e0.Op < ((k + 1 : Nat) : Int) then e0.Op else 0) → (D_r10_readInstr_5 D).wp (⟨s', w', (k : Nat), z', ⟨K', 0, 0, 0, 0, 0⟩⟩ : X_r10_readInstr_5) fun y => LineP s' y := fun K' hK' hE' => by
        refine of_wp ?_
        simp only [tt_r10_readInstr_5, hne]
        exact hD _ ⟨rfl, rfl, k + 1, K', by omega, rfl, rfl, hK', hE'⟩ (by show 27 - ((k + 1 : Nat) : Int).toNat < 27 - ((k : Nat) : Int).toNat; omega)
      refine wp_call (w_r09_Name (k : Int)) fun (y : ByteArray) hy => wp_need (by rw [inb_iff2]; omega) ?_
      subst hy
      refine wp_if seq_iff (fun q => h5 _ (by omega) fun e0 r => ?_) fun q => h5 _ hK fun e0 r => ?_
      · have e1 : (k : Int) = e0.Op := opK_inj (by omega) (mkB_inj (q.trans (one e0 r)))
        rw [if_pos (by omega), e1]
      · have e1 : (k : Int) ≠ e0.Op := fun e => q (by show mkB (opK (k : Int)) = w'.get 0; rw [one e0 r, e])
        rw [hE e0 r]
        by_cases h : e0.Op < (k : Int)
        · rw [if_pos h, if_pos (by omega)]
        · rw [if_neg h, if_neg (by omega)]
    · refine w_qi8 hw hK rfl fun e0 r => ⟨hL e0 r, ?_⟩
      have hk' := (rightI_facts r.1).1
      have hEK := hE e0 r
      rw [if_pos (by omega)] at hEK
      exact hEK.symm
  · have hk' := (rightI_facts k.1).1
    rw [if_neg (by omega)]
/-! ### Programs as they stand in memory -/
def aP (p : TApi_Program) : MPg := ⟨p.Rings.L, p.Threads.L.map Sl.L⟩
theorem beq_eq {i j : Nat} : Nat.beq i j = true ↔ i = j := Nat.beq_eq ▸ Iff.rfl
theorem ins_cond {c : Bool} {a b : TApi_Instr} : TApi_Instr.mk (cond c a.Op b.Op) (cond c a.A b.A) (cond c a.B b.B) (cond c a.C b.C) (cond c a.D b.D) (cond c a.K b.K) = cond c a b := by cases c <;> rfl
theorem rng_cond {c : Bool} {a b : TApi_Ring} : TApi_Ring.mk (cond c a.Kind b.Kind) (cond c a.Cap b.Cap) (cond c a.Readers b.Readers) = cond c a b := by cases c <;> rfl
theorem rng_push (l : Sl TApi_Ring) (b : Bool) (r : TApi_Ring) : (Sl.mk b (l.n + 1) fun i2 => TApi_Ring.mk (cond (Nat.blt i2 l.n) (l.get i2).Kind r.Kind) (cond (Nat.blt i2 l.n) (l.get i2).Cap r.Cap) (cond (Nat.blt i2 l.n) (l.get i2).Readers r.Readers)).L = l.L ++ [r] := by
  rw [← L_push l b r]
  exact Sl.L_ext rfl fun i _ => rng_cond (c := Nat.blt i l.n) (a := l.get i) (b := r)
def inF (T : Sl (Sl TApi_Instr)) (J : Nat) (m : TApi_Instr) (i1 : Nat) : Sl TApi_Instr :=
  Sl.mk (cond (Nat.beq i1 J) (cond (Nat.beq 1 0) (T.get J).nil false) (cond (Nat.beq i1 J) (T.get J).nil (T.get i1).nil)) (cond (Nat.beq i1 J) ((T.get J).n + 1) (cond (Nat.beq i1 J) (T.get J).n (T.get i1).n)) fun i2 =>
    TApi_Instr.mk (cond (Nat.beq i1 J) (cond (Nat.blt i2 (T.get J).n) ((T.get J).get i2).Op m.Op) (cond (Nat.beq i1 J) ((T.get J).get i2).Op ((T.get i1).get i2).Op))
      (cond (Nat.beq i1 J) (cond (Nat.blt i2 (T.get J).n) ((T.get J).get i2).A m.A) (cond (Nat.beq i1 J) ((T.get J).get i2).A ((T.get i1).get i2).A))
      (cond (Nat.beq i1 J) (cond (Nat.blt i2 (T.get J).n) ((T.get J).get i2).B m.B) (cond (Nat.beq i1 J) ((T.get J).get i2).B ((T.get i1).get i2).B))
      (cond (Nat.beq i1 J) (cond (Nat.blt i2 (T.get J).n) ((T.get J).get i2).C m.C) (cond (Nat.beq i1 J) ((T.get J).get i2).C ((T.get i1).get i2).C))
      (cond (Nat.beq i1 J) (cond (Nat.blt i2 (T.get J).n) ((T.get J).get i2).D m.D) (cond (Nat.beq i1 J) ((T.get J).get i2).D ((T.get i1).get i2).D))
      (cond (Nat.beq i1 J) (cond (Nat.blt i2 (T.get J).n) ((T.get J).get i2).K m.K) (cond (Nat.beq i1 J) ((T.get J).get i2).K ((T.get i1).get i2).K))
theorem inF_ne {T : Sl (Sl TApi_Instr)} {J i : Nat} {m : TApi_Instr} (h : i ≠ J) : inF T J m i = T.get i := by
  have e : Nat.beq i J = false := by
    cases q : Nat.beq i J
    · rfl
    · exact absurd (beq_eq.1 q) h
  unfold inF
  rw [e]
  rfl
theorem inF_eq {T : Sl (Sl TApi_Instr)} {J : Nat} {m : TApi_Instr} : (inF T J m J).L = (T.get J).L ++ [m] := by
  have e : Nat.beq J J = true := beq_eq.2 rfl
  rw [← L_push (T.get J) false m]
  unfold inF
  rw [e]
  exact Sl.L_ext rfl fun i _ => ins_cond (c := Nat.blt i (T.get J).n) (a := (T.get J).get i) (b := m)
theorem L_snoc {α : Type} {T : Sl α} {J : Nat} (h : J + 1 = T.n) : T.L = (List.range J).map T.get ++ [T.get J] := by
  unfold Sl.L
  rw [← h, List.range_succ, List.map_append]; rfl
theorem in_push {T : Sl (Sl TApi_Instr)} {J : Nat} (hJ : J + 1 = T.n) (b : Bool) (m : TApi_Instr) : (Sl.mk b T.n (inF T J m)).L.map Sl.L = (T.L.map Sl.L).dropLast ++ [(T.L.map Sl.L).getLastD [] ++ [m]] := by
  have e1 := L_snoc hJ
  have e2 := L_snoc (T := Sl.mk b T.n (inF T J m)) hJ
  rw [e1, e2, List.map_append, List.map_append, List.map_singleton, List.map_singleton]
  have e3 : (List.range J).map (Sl.mk b T.n (inF T J m)).get = (List.range J).map T.get := List.map_congr_left fun i hi => inF_ne (by have := List.mem_range.1 hi; omega)
  rw [e3, show (Sl.mk b T.n (inF T J m)).get J = inF T J m J from rfl, inF_eq]
  simp
def thF (T : Sl (Sl TApi_Instr)) (i1 : Nat) : Sl TApi_Instr :=
  Sl.mk (cond (Nat.blt i1 T.n) (T.get i1).nil true) (cond (Nat.blt i1 T.n) (T.get i1).n (0 : Nat)) fun i2 => TApi_Instr.mk (cond (Nat.blt i1 T.n) ((T.get i1).get i2).Op (0 : Int)) (cond (Nat.blt i1 T.n) ((T.get i1).get i2).A (0 : Int))
    (cond (Nat.blt i1 T.n) ((T.get i1).get i2).B (0 : Int)) (cond (Nat.blt i1 T.n) ((T.get i1).get i2).C (0 : Int)) (cond (Nat.blt i1 T.n) ((T.get i1).get i2).D (0 : Int)) (cond (Nat.blt i1 T.n) ((T.get i1).get i2).K (0 : Int))
theorem th_push (T : Sl (Sl TApi_Instr)) (b : Bool) : (Sl.mk b (T.n + 1) (thF T)).L.map Sl.L = T.L.map Sl.L ++ [[]] := by
  have e : (Sl.mk b (T.n + 1) (thF T)).L = T.L ++ [(⟨true, 0, fun _ => ⟨0, 0, 0, 0, 0, 0⟩⟩ : Sl TApi_Instr)] := by
    rw [← L_push T b]
    refine Sl.L_ext rfl fun i _ => ?_
    show thF T i = cond (Nat.blt i T.n) (T.get i) _
    unfold thF
    cases Nat.blt i T.n <;> rfl
  rw [e, List.map_append]; rfl
theorem aP_rs (p : TApi_Program) : (aP p).rs.length = p.Rings.n := by simp [aP]
theorem aP_ts (p : TApi_Program) : (aP p).ts.length = p.Threads.n := by simp [aP]
theorem aP_nil {p : TApi_Program} : (aP p).ts = [] ↔ p.Threads.n = 0 := by rw [← List.length_eq_zero_iff, aP_ts]
theorem aP_last {p : TApi_Program} {J : Nat} (h : J + 1 = p.Threads.n) : (aP p).ts.getLastD [] = (p.Threads.get J).L := by
  show (p.Threads.L.map Sl.L).getLastD [] = _
  rw [L_snoc h, List.map_append]
  simp
theorem ring_rd {s : ByteArray} {y : TApi_Ring × Bool} (h : RingP s y) : (y.2 = true → rdR s.data.toList = some y.1) ∧ (y.2 ≠ true → rdR s.data.toList = none) := by
  refine ⟨fun q => rdR_some.2 (h.1 q), fun q => rdR_none.2 fun e k => q ?_⟩
  rw [h.2 e k]
theorem line_rd {s : ByteArray} {y : TApi_Instr × Bool} (h : LineP s y) : (y.2 = true → rdI s.data.toList = some y.1) ∧ (y.2 ≠ true → rdI s.data.toList = none) := by
  refine ⟨fun q => rdI_some.2 (h.1 q), fun q => rdI_none.2 fun e k => q ?_⟩
  rw [h.2 e k]
theorem seq_thr {s : ByteArray} : seq s (ByteArray.mk #[116, 104, 114, 101, 97, 100]) = true ↔ s.data.toList = thrL := by
  rw [seq_iff]
  exact ⟨fun h => by rw [h]; rfl, fun h => (data_mkB.2 h.symm).symm⟩
/-! ### The program takes a line -/
def TakeP (R : Option MPg) (y : Bool × TApi_Program) : Prop := match R with
  | some q => y.1 = true ∧ aP y.2 = q
  | none => y.1 = false
structure Small (p : TApi_Program) : Prop where
  r : p.Rings.n ≤ 8
  t : p.Threads.n ≤ 8
  l : ∀ t, t < p.Threads.n → (p.Threads.get t).n ≤ 256
theorem small_of {p : TApi_Program} (h : ListOk (aP p)) : Small p := by
  refine ⟨by rw [← aP_rs]; exact h.rn, by rw [← aP_ts]; exact h.tn, fun t ht => ?_⟩
  have := (h.t (p.Threads.get t).L (List.mem_map.2 ⟨_, Sl.mem_L.2 ⟨t, ht, rfl⟩, rfl⟩)).1
  rwa [Sl.L_length] at this
theorem w_take9 {s : ByteArray} {p : TApi_Program} (hs : s.size ≤ 4000000) (hp : Small p) (hn : ¬ (s.data.toList = thrL ∧ (aP p).ts.length < 8)) : D_listing_take_9.wp (⟨s, (p.Threads.n : Nat), p⟩ : X_listing_take_9) fun y => TakeP (tk2 (aP p) s.data.toList) y := by
  refine of_wp ?_
  simp only [tt_listing_take_9]
  unfold tk2
  rw [if_neg hn]
  refine wp_call (w_readInstr hs) fun (y : TApi_Instr × Bool) hy => ?_
  obtain ⟨k1, k2⟩ := line_rd hy
  refine wp_if bnot_iff (fun h => by rw [k2 h]; exact rfl) fun h => ?_
  rw [k1 (Classical.byContradiction h)]
  simp only
  refine wp_if ieq_iff (fun h0 => ?_) fun h0 => ?_
  · rw [if_neg fun q => q.1 (aP_nil.2 (by omega))]; exact rfl
  · have ht := hp.t
    have hw : IntKind.i64.wrap ((p.Threads.n : Int) - 1) = ((p.Threads.n - 1 : Nat) : Int) := by rw [wrap64 (by omega) (by omega)]; omega
    have hJ : p.Threads.n - 1 + 1 = p.Threads.n := by omega
    have hl := aP_last hJ
    have hb : Nat.beq p.Threads.n p.Threads.n = true := beq_eq.2 rfl
    simp only [hw, Int.toNat_natCast, Nat.zero_add, hb, Bool.and_true]
    have hz := hp.l (p.Threads.n - 1) (by omega)
    refine wp_need (inb_nat (by omega)) (wp_need rfl (wp_if ile_iff (fun h2 => wp_need rfl ?_) fun h2 => wp_need rfl (of_wp ?_)))
    · rw [if_neg fun q => by have := q.2; rw [hl, Sl.L_length] at this; omega]; exact rfl
    · simp only [tt_listing_take_12, hw, Int.toNat_natCast, Nat.zero_add, hb, Bool.and_true]
      refine wp_need (inb_nat (by omega)) (wp_need rfl (wp_need (by simp [room]; omega) (wp_need (inb_nat (by omega)) (wp_need rfl (wp_need rfl ?_)))))
      rw [if_pos ⟨fun q => h0 (by have := aP_nil.1 q; omega), by rw [hl, Sl.L_length]; omega⟩]
      refine of_wp ?_
      simp only [tt_listing_take_13]
      refine ⟨rfl, ?_⟩
      show (⟨p.Rings.L, (Sl.mk p.Threads.nil p.Threads.n (inF p.Threads (p.Threads.n - 1) y.1)).L.map Sl.L⟩ : MPg) = _
      rw [in_push hJ]; rfl
theorem w_take6 {s : ByteArray} {p : TApi_Program} (hs : s.size ≤ 4000000) (hp : Small p) : D_listing_take_6.wp (⟨s, (p.Threads.n : Nat), p⟩ : X_listing_take_6) fun y => TakeP (tk2 (aP p) s.data.toList) y := by
  refine of_wp ?_
  simp only [tt_listing_take_6]
  refine wp_if seq_thr (fun h => wp_if ilt_iff (fun h8 => wp_need (room_ok (by omega)) ?_) fun h8 => w_take9 hs hp fun q => h8 (by have := q.2; rw [aP_ts] at this; omega)) fun h => w_take9 hs hp fun q => h q.1
  unfold tk2
  rw [if_pos ⟨h, by rw [aP_ts]; omega⟩]
  refine ⟨rfl, ?_⟩
  show (⟨p.Rings.L, (Sl.mk (cond (Nat.beq 1 0) p.Threads.nil false) (p.Threads.n + 1) (thF p.Threads)).L.map Sl.L⟩ : MPg) = _
  rw [th_push]; rfl
theorem w_take {s : ByteArray} {p : TApi_Program} (hs : s.size ≤ 4000000) (hp : Small p) : D_listing_take.wp (s, p) fun y => TakeP (tk (aP p) s.data.toList) y := by
  refine of_wp ?_
  simp only [tt_listing_take]
  refine wp_need (by rw [beq_eq.2 rfl]; rfl) (wp_call (w_readRing hs) fun (y : TApi_Ring × Bool) hy => ?_)
  obtain ⟨k1, k2⟩ := ring_rd hy
  have hr := hp.r
  have ht := hp.t
  unfold tk
  refine wp_ite (fun h => ?_) fun h => by rw [k2 h]; exact w_take6 hs hp
  rw [k1 h]
  simp only
  refine wp_if ieq_iff (fun h0 => wp_if ilt_iff (fun h8 => wp_need (room_ok (by omega)) ?_) fun h8 => ?_) fun h0 => ?_
  · rw [if_pos ⟨aP_nil.2 (by omega), by rw [aP_rs]; omega⟩]
    refine ⟨rfl, ?_⟩
    show (⟨_, p.Threads.L.map Sl.L⟩ : MPg) = _
    rw [rng_push]; rfl
  · rw [if_neg fun q => h8 (by have := q.2; rw [aP_rs] at this; omega)]
    exact w_take6 hs hp
  · rw [if_neg fun q => h0 (by have := aP_nil.1 q.1; omega)]
    exact w_take6 hs hp

/-! ### The program reads a text -/
def emP : TApi_Program := ⟨Sl.mk true 0 fun _ => ⟨0, 0, 0⟩, Sl.mk true 0 fun _ => Sl.mk true 0 fun _ => ⟨0, 0, 0, 0, 0, 0⟩⟩
def ReadP (R : MPg ⊕ Nat) (y : TApi_Program × Int × Int) : Prop := match R with
  | .inl q => aP y.1 = q ∧ y.2 = (0, 0)
  | .inr n => y = (emP, (n : Int), 3)
theorem w_listing_Read {s : ByteArray} (hs : s.size ≤ 1000000) : D_listing_Read.wp s fun y => ReadP (rdP ⟨[], []⟩ 1 (spl 10 s.data.toList)) y := by
  refine of_wp ?_
  simp only [tt_listing_Read]
  generalize hR : rdP ⟨[], []⟩ 1 (spl 10 s.data.toList) = R
  refine loop_wp (x := (⟨s, 1, emP⟩ : X_listing_Read_2)) (fun x => ListOk (aP x.m_2) ∧ ∃ k : Nat, x.at_3 = (k : Int) ∧ k + x.s_0.size ≤ 1000001 ∧ rdP (aP x.m_2) k (spl 10 x.s_0.data.toList) = R) (fun x => x.s_0.size) (fun _ (y : TApi_Program × Int × Int) => ReadP R y) (fun D x hx hD => ?_)
    (show ListOk (aP emP) ∧ ∃ k : Nat, (1 : Int) = (k : Int) ∧ k + s.size ≤ 1000001 ∧ rdP (aP emP) k (spl 10 s.data.toList) = R from ⟨empty_ok, 1, rfl, by omega, hR⟩)
  obtain ⟨s, at_, p⟩ := x
  obtain ⟨hok, k, hk, hs, hR⟩ := hx
  simp only at hok hk hs hR
  subst hk
  have hw : IntKind.i64.wrap ((k : Int) + 1) = ((k + 1 : Nat) : Int) := by rw [wrap64 (by omega) (by omega)]; rfl
  have stop : R = .inr k → (TT.ret (emP, ((k : Int), 3)) : TT Tryz.prog R_listing_Read).wp fun y => ReadP R y := fun h => by
    rw [h]; exact rfl
  have hsm := small_of hok
  simp only [tt_listing_Read_2]
  refine wp_if (p := s ≠ ByteArray.mk #[]) (by rw [bnot_iff, seq_iff]) (fun hne => ⟨_, w_Cut (by omega), ?_⟩) fun he => ?_
  · by_cases hm : (10 : UInt8) ∈ s.data.toList
    · obtain ⟨a, r, e, ha⟩ := at_first hm
      rw [cutB_mem e ha]
      have hl := data_len s
      rw [e, List.length_append, List.length_cons] at hl
      rw [e, rdP_line ha] at hR
      refine wp_ite (fun h => by cases h) fun _ => wp_call (w_take (s := mkB a) (by rw [mkB_size]; omega) hsm) fun (y : Bool × TApi_Program) hy => ?_
      rw [mkB_data] at hy
      cases ht : tk (aP p) a with
      | none =>
        rw [ht] at hy hR
        exact wp_ite (fun _ => stop hR.symm) fun h => absurd (by rw [show y.1 = false from hy]; rfl) h
      | some q =>
        rw [ht] at hy hR
        obtain ⟨y1, y2⟩ := hy
        refine wp_ite (fun h => by rw [y1] at h; cases h) fun _ => of_wp ?_
        simp only [tt_listing_Read_7]
        refine of_wp ?_
        simp only [tt_listing_Read_3, hw]
        have hq := (tk_text ht hok).1
        rw [← y2] at hq hR
        exact hD _ ⟨hq, k + 1, rfl, by show k + 1 + (mkB r).size ≤ _; rw [mkB_size]; omega, by rw [mkB_data]; exact hR⟩ (by show (mkB r).size < s.size; rw [mkB_size]; omega)
    · rw [cutB_miss hm]
      refine wp_ite (fun _ => stop ?_) fun h => absurd rfl h
      rw [← hR, rdP_last hm, if_neg]
      intro q
      exact hne (data_mkB (l := []).2 q.symm).symm
  · have he := Classical.byContradiction he
    rw [he] at hR
    rw [← hR]
    show (TT.side _ (TT.ret (p, (0, 0))) : TT Tryz.prog R_listing_Read).wp fun y => ReadP (rdP (aP p) k [[]]) y
    rw [rdP, if_pos rfl]
    exact ⟨rfl, rfl⟩
/-! ### The document reads a text -/
noncomputable def insO (p : MPg) (l : List UInt8) : Option MPg :=
  match rdI l with
  | some i => if p.ts ≠ [] ∧ (p.ts.getLastD []).length < 256 then some ⟨p.rs, p.ts.dropLast ++ [p.ts.getLastD [] ++ [i]]⟩ else none
  | none => none
theorem tk2_no {p : MPg} {l : List UInt8} (h : ¬ (l = thrL ∧ p.ts.length < 8)) : tk2 p l = insO p l := by unfold tk2 insO; rw [if_neg h]; cases rdI l <;> rfl
theorem insO_none {p : MPg} {l : List UInt8} (h : rdI l = none) : insO p l = none := by unfold insO; rw [h]
theorem insO_some {p : MPg} {l : List UInt8} {i : TApi_Instr} (h : rdI l = some i) : insO p l = if p.ts ≠ [] ∧ (p.ts.getLastD []).length < 256 then some ⟨p.rs, p.ts.dropLast ++ [p.ts.getLastD [] ++ [i]]⟩ else none := by unfold insO; rw [h]
theorem tk2_yes {p : MPg} {l : List UInt8} (h : l = thrL ∧ p.ts.length < 8) : tk2 p l = some ⟨p.rs, p.ts ++ [[]]⟩ := by unfold tk2; rw [if_pos h]
theorem tk_none {p : MPg} {l : List UInt8} (h : rdR l = none) : tk p l = tk2 p l := by unfold tk; rw [h]
theorem tk_no {p : MPg} {l : List UInt8} {r : TApi_Ring} (h : rdR l = some r) (c : ¬ (p.ts = [] ∧ p.rs.length < 8)) : tk p l = tk2 p l := by unfold tk; rw [h]; exact if_neg c
theorem tk_yes {p : MPg} {l : List UInt8} {r : TApi_Ring} (h : rdR l = some r) (c : p.ts = [] ∧ p.rs.length < 8) : tk p l = some ⟨p.rs ++ [r], p.ts⟩ := by unfold tk; rw [h]; exact if_pos c
def RefP (R : MPg ⊕ Nat) (y : TApi_Program × Int) : Prop := match R with
  | .inl q => aP y.1 = q ∧ y.2 = 0
  | .inr n => y = (emP, (n : Int))
theorem w_r10_Read {s : ByteArray} (hs : s.size ≤ 1000000) : D_r10_Read.wp s fun y => RefP (rdP ⟨[], []⟩ 1 (spl 10 s.data.toList)) y := by
  have hN := data_len s
  refine of_wp ?_
  simp only [tt_r10_Read]
  generalize hR : rdP ⟨[], []⟩ 1 (spl 10 s.data.toList) = R
  refine loop_wp (x := (⟨s, 0, 1, 0, emP, emP⟩ : X_r10_Read_4))
    (fun x => x.s_0 = s ∧ ListOk (aP x.m_4) ∧ ∃ (i a k : Nat) (p : List UInt8), x.i_7 = (i : Int) ∧ x.at_5 = (a : Int) ∧ x.line_6 = (k : Int) ∧ k ≤ i + 1 ∧ i ≤ s.size ∧ s.data.toList.drop a = p ++ s.data.toList.drop i ∧ a + p.length = i ∧ (10 : UInt8) ∉ p ∧ rdP (aP x.m_4) k (spl 10 (s.data.toList.drop a)) = R)
    (fun x => s.size - x.i_7.toNat) (fun _ (y : TApi_Program × Int) => RefP R y) (fun D x hx hD => ?_)
    (show s = s ∧ ListOk (aP emP) ∧ ∃ (i a k : Nat) (p : List UInt8), (0 : Int) = (i : Int) ∧ (0 : Int) = (a : Int) ∧ (1 : Int) = (k : Int) ∧ k ≤ i + 1 ∧ i ≤ s.size ∧ s.data.toList.drop a = p ++ s.data.toList.drop i ∧ a + p.length = i ∧ (10 : UInt8) ∉ p ∧ rdP (aP emP) k (spl 10 (s.data.toList.drop a)) = R from
      ⟨rfl, empty_ok, 0, 0, 1, [], rfl, rfl, rfl, by omega, Nat.zero_le _, rfl, rfl, by simp, hR⟩)
  obtain ⟨s', at_, line, i', z, m⟩ := x
  obtain ⟨h1, hok, i, a, k, p, h2, h3, h4, hki, hi, hd, hap, hp, hR⟩ := hx
  simp only at h1 h2 h3 h4 hok hR
  subst h1
  subst h2
  subst h3
  subst h4
  have hw : IntKind.i64.wrap ((k : Int) + 1) = ((k + 1 : Nat) : Int) := by rw [wrap64 (by omega) (by omega)]; rfl
  have hne : IntKind.i64.wrap ((i : Int) + 1) = ((i + 1 : Nat) : Int) := by rw [wrap64 (by omega) (by omega)]; rfl
  have hsm := small_of hok
  have h5 : ∀ (m' : TApi_Program) (a' k' : Nat) (p' : List UInt8), ListOk (aP m') → k' ≤ i + 2 → i + 1 ≤ s'.size → s'.data.toList.drop a' = p' ++ s'.data.toList.drop (i + 1) → a' + p'.length = i + 1 → (10 : UInt8) ∉ p' → rdP (aP m') k' (spl 10 (s'.data.toList.drop a')) = R →
      (D_r10_Read_5 D).wp (⟨s', (a' : Nat), (k' : Nat), (i : Nat), z, m'⟩ : X_r10_Read_5) fun y => RefP R y := fun m' a' k' p' g1 g2 g3 g4 g5 g6 g7 => by
    refine of_wp ?_
    simp only [tt_r10_Read_5, hne]
    exact hD _ ⟨rfl, g1, i + 1, a', k', p', rfl, rfl, rfl, g2, g3, g4, g5, g6, g7⟩ (by show s'.size - ((i + 1 : Nat) : Int).toNat < s'.size - ((i : Nat) : Int).toNat; omega)
  simp only [tt_r10_Read_4]
  refine wp_if ilt_iff (fun hlt => ?_) fun hlt => ?_
  · have hlt' : i < s'.data.toList.length := by omega
    have hdi : s'.data.toList.drop i = s'.data.toList[i] :: s'.data.toList.drop (i + 1) := List.drop_eq_getElem_cons hlt'
    refine wp_need (by rw [inb_iff2]; omega) ?_
    rw [Int.toNat_natCast, bt_data hlt']
    refine wp_if (p := ¬ s'.data.toList[i] = 10) (by rw [bnot_iff]; exact not_congr (ieq_iff.trans (u8_of (n := 10) (by omega)))) (fun hc => ?_) fun hc => ?_
    · refine h5 m a k (p ++ [s'.data.toList[i]]) hok (by omega) (by omega) ?_ ?_ ?_ hR
      · rw [hd, hdi, List.append_assoc]; rfl
      · rw [List.length_append, List.length_singleton]; omega
      · rw [List.mem_append, List.mem_singleton]
        rintro (q | q)
        · exact hp q
        · exact hc q.symm
    · have hc := Classical.byContradiction hc
      refine wp_need (by rw [Bool.and_eq_true, upto_iff, upto_iff]; omega) ?_
      have hx : ByteArray.extract s' (Int.toNat (a : Int)) i = mkB p := by rw [Int.toNat_natCast]; exact ext_mkB hd hap
      rw [hx]
      rw [hd, hdi, hc, rdP_line hp] at hR
      have stop : tk (aP m) p = none → (TT.ret (emP, (k : Int)) : TT Tryz.prog R_r10_Read).wp fun y => RefP R y := fun h => by
        rw [h] at hR
        rw [← hR]; exact rfl
      have go : ∀ m' : TApi_Program, tk (aP m) p = some (aP m') → (D_r10_Read_18 D).wp (⟨s', (k : Nat), (i : Nat), z, m'⟩ : X_r10_Read_18) fun y => RefP R y := fun m' h => by
        have hok' := (tk_text h hok).1
        rw [h] at hR
        refine of_wp ?_
        simp only [tt_r10_Read_18, hne, hw]
        exact h5 m' (i + 1) (k + 1) [] hok' (by omega) (by omega) rfl rfl (by simp) hR
      have hpl : p.length ≤ s'.size := by omega
      refine wp_call (w_r10_readRing (s := mkB p) (by rw [mkB_size]; omega)) fun (y2 : TApi_Ring × Bool) hy2 => wp_call (w_r10_readInstr (s := mkB p) (by rw [mkB_size]; omega)) fun (y3 : TApi_Instr × Bool) hy3 => ?_
      obtain ⟨r1, r2⟩ := ring_rd hy2
      obtain ⟨l1, l2⟩ := line_rd hy3
      have hth := seq_thr (s := mkB p)
      rw [mkB_data] at r1 r2 l1 l2 hth
      have hr := hsm.r
      have ht := hsm.t
      have hb : Nat.beq m.Threads.n m.Threads.n = true := beq_eq.2 rfl
      clear h5 hD hR
      refine wp_need (by rw [hb]; rfl) (wp_ite (fun h => wp_if ieq_iff (fun h0 => wp_if ilt_iff (fun h8 => wp_need (room_ok (by omega)) (go _ ?_)) fun h8 => have e1 : tk (aP m) p = tk2 (aP m) p := tk_no (r1 h) (fun q => h8 (by have := q.2; rw [aP_rs] at this; omega)); ?_) fun h0 => have e1 : tk (aP m) p = tk2 (aP m) p := tk_no (r1 h) (fun q => h0 (by have := aP_nil.1 q.1; omega)); ?_)
        fun h => have e1 : tk (aP m) p = tk2 (aP m) p := tk_none (r2 h); ?_)
      · rw [tk_yes (r1 h) ⟨aP_nil.2 (by omega), by rw [aP_rs]; omega⟩]
        show _ = some (⟨_, m.Threads.L.map Sl.L⟩ : MPg)
        rw [rng_push]; rfl
      all_goals refine wp_if hth (fun h => wp_if ilt_iff (fun h8 => wp_need (room_ok (by omega)) (go _ ?_)) fun h8 => have e2 : tk (aP m) p = insO (aP m) p := e1.trans (tk2_no fun q => h8 (by have := q.2; rw [aP_ts] at this; omega)); ?_) fun h => have e2 : tk (aP m) p = insO (aP m) p := e1.trans (tk2_no fun q => h q.1); ?_
      all_goals first
        | (rw [e1, tk2_yes ⟨h, by rw [aP_ts]; omega⟩]
           show _ = some (⟨m.Rings.L, (Sl.mk (cond (Nat.beq 1 0) m.Threads.nil false) (m.Threads.n + 1) (thF m.Threads)).L.map Sl.L⟩ : MPg)
           rw [th_push]; rfl)
        | skip
      all_goals refine wp_ite (fun q => wp_if ilt_iff (fun h0 => ?_) fun h0 => stop (by rw [e2, insO_some (l1 q), if_neg fun c => c.1 (aP_nil.2 (by omega))])) fun q => stop (by rw [e2, insO_none (l2 q)])
      all_goals
        have hw1 : IntKind.i64.wrap ((m.Threads.n : Int) - 1) = ((m.Threads.n - 1 : Nat) : Int) := by rw [wrap64 (by omega) (by omega)]; omega
        have hJ : m.Threads.n - 1 + 1 = m.Threads.n := by omega
        have hl := aP_last hJ
        have hz := hsm.l (m.Threads.n - 1) (by omega)
        have hI := insO_some (p := aP m) (l1 q)
        rw [hl, Sl.L_length] at hI
        simp only [hw1, Int.toNat_natCast, Nat.zero_add, hb, Bool.and_true]
        refine wp_need (inb_nat (by omega)) (wp_need rfl (wp_if ilt_iff (fun h6 => wp_need rfl (wp_need (inb_nat (by omega)) (wp_need rfl (wp_need (by simp [room]; omega) (wp_need (inb_nat (by omega)) (wp_need rfl (wp_need rfl (go _ ?_)))))))) fun h6 => wp_need rfl (stop (by rw [e2, hI, if_neg fun c => h6 (by omega)]))))
        rw [e2, hI, if_pos ⟨fun c => by have := aP_nil.1 c; omega, by omega⟩]
        show _ = some (⟨m.Rings.L, (Sl.mk m.Threads.nil m.Threads.n (inF m.Threads (m.Threads.n - 1) y3.1)).L.map Sl.L⟩ : MPg)
        rw [in_push hJ, ← hl]; rfl
  · have hil : i = s'.size := by omega
    have he : s'.data.toList.drop i = [] := List.drop_of_length_le (by omega)
    rw [he, List.append_nil] at hd
    rw [hd, rdP_last hp] at hR
    refine of_wp ?_
    simp only [tt_r10_Read_20]
    refine wp_if ilt_iff (fun h => ?_) fun h => ?_
    · rw [if_neg (fun q => by rw [q] at hap; simp at hap; omega)] at hR
      rw [← hR]; exact rfl
    · have : p = [] := List.length_eq_zero_iff.1 (by omega)
      rw [if_pos this] at hR
      rw [← hR]; exact ⟨rfl, rfl⟩
/-! ### What may be written -/
structure WfP (p : TApi_Program) : Prop where
  rn : p.Rings.n ≤ maxLen
  tn : p.Threads.n ≤ maxLen
  ln : ∀ t, t < p.Threads.n → (p.Threads.get t).n ≤ maxLen
  i : ∀ t, t < p.Threads.n → ∀ k, k < (p.Threads.get t).n → WfI ((p.Threads.get t).get k)
def okRg (r : TApi_Ring) : Prop := (0 ≤ r.Kind ∧ r.Kind ≤ 255) ∧ (0 ≤ r.Cap ∧ r.Cap ≤ 255) ∧ 0 ≤ r.Readers ∧ r.Readers ≤ 255
def okTh (l : Sl TApi_Instr) : Prop := l.n ≤ 256 ∧ ∀ k, k < l.n → rightI (l.get k) = true
structure WrM (p : TApi_Program) : Prop where
  rn : p.Rings.n ≤ 8
  tn : p.Threads.n ≤ 8
  r : ∀ i, i < p.Rings.n → okRg (p.Rings.get i)
  t : ∀ t, t < p.Threads.n → okTh (p.Threads.get t)
theorem w_r09_Written {p : TApi_Program} (w : WfP p) : D_r09_Written.wp p fun y => y = true ↔ WrM p := by
  refine of_wp ?_
  simp only [tt_r09_Written]
  refine wp_if ilt_iff (fun h => ff_iff fun q => by have := q.rn; omega) fun h1 => wp_if ilt_iff (fun h => ff_iff fun q => by have := q.tn; omega) fun h2 => of_wp ?_
  simp only [tt_r09_Written_3]
  refine all_wp (fun k => (⟨p, (k : Nat)⟩ : X_r09_Written_4)) p.Rings.n (fun k => okRg (p.Rings.get k)) _ (fun D hJ => ?_) (fun D k hk _ hD => ?_)
  · simp only [tt_r09_Written_4, ilt_nat, Nat.lt_irrefl, decide_false, wp_false]
    refine of_wp ?_
    simp only [tt_r09_Written_9]
    refine all_wp (fun t => (⟨p, (t : Nat)⟩ : X_r09_Written_10)) p.Threads.n (fun t => okTh (p.Threads.get t)) _ (fun D hT => ?_) (fun D t ht _ hD => ?_)
    · simp only [tt_r09_Written_10, ilt_nat, Nat.lt_irrefl, decide_false, wp_false]
      exact tt_iff ⟨by omega, by omega, hJ, hT⟩
    · simp only [tt_r09_Written_10, ilt_nat, ht, decide_true, wp_true, inb_nat ht, wp_need_true, Int.toNat_natCast]
      refine wp_if ilt_iff (fun h => ff_iff fun q => by have := (q.t t ht).1; omega) fun h3 => ?_
      refine all_wp (fun k => (⟨p, (t : Nat), (k : Nat)⟩ : X_r09_Written_15)) (p.Threads.get t).n (fun k => rightI ((p.Threads.get t).get k) = true) _ (fun D5 hK => ?_) (fun D5 k hk _ hD5 => ?_)
      · simp only [tt_r09_Written_15, inb_nat ht, wp_need_true, Int.toNat_natCast, ilt_nat, Nat.lt_irrefl, decide_false, wp_false]
        refine of_wp ?_
        simp only [tt_r09_Written_11, next64 ht w.tn]
        exact hD ⟨by omega, hK⟩
      · simp only [tt_r09_Written_15, inb_nat ht, wp_need_true, Int.toNat_natCast, ilt_nat, hk, decide_true, wp_true, inb_nat hk, next64 hk (w.ln t ht)]
        refine wp_call (w_r09_Right _ (w.i t ht k hk).ok) fun (y : Bool) hy => wp_if (p := ¬ rightI ((p.Threads.get t).get k) = true) (by rw [bnot_iff, hy]) (fun h => ff_iff fun q => h ((q.t t ht).2 k hk)) fun h => hD5 (Classical.byContradiction h)
  · simp only [tt_r09_Written_4, ilt_nat, hk, decide_true, wp_true, inb_nat hk, wp_need_true, Int.toNat_natCast]
    have no : ¬ okRg (p.Rings.get k) → (false = true ↔ WrM p) := fun h => ff_iff fun q => h (q.r k hk)
    refine wp_if ilt_iff (fun h => no fun q => by have := q.1; omega) fun a1 => wp_if ilt_iff (fun h => no fun q => by have := q.1; omega) fun a2 => wp_if ilt_iff (fun h => no fun q => by have := q.2.1; omega) fun a3 =>
      wp_if ilt_iff (fun h => no fun q => by have := q.2.1; omega) fun a4 => wp_if ilt_iff (fun h => no fun q => by have := q.2.2; omega) fun a5 => wp_if ilt_iff (fun h => no fun q => by have := q.2.2; omega) fun a6 => of_wp ?_
    simp only [tt_r09_Written_5, next64 hk w.rn]
    exact hD ⟨by omega, by omega, by omega⟩
theorem w_written1 {i : TApi_Instr} (w : WfI i) : D_code_written_1.wp i fun y => y = true ↔ ¬ rightI i = true := by
  refine of_wp ?_
  simp only [tt_code_written_1]
  refine wp_call (w_code_Right i w.ok) fun (y : Bool) hy => ?_
  show (!y) = true ↔ _
  rw [bnot_iff, hy]
theorem w_contains {l : Sl TApi_Instr} (hn : l.n ≤ maxLen) (w : ∀ k, k < l.n → WfI (l.get k)) : D_slices_ContainsFunc_api_Instr__code_written_1.wp l fun y => y = true ↔ ¬ ∀ k, k < l.n → rightI (l.get k) = true := by
  refine of_wp ?_
  simp only [tt_slices_ContainsFunc_api_Instr__code_written_1]
  have h : D_slices_IndexFunc_api_Instr__code_written_1.wp l fun y => 0 ≤ y ↔ ¬ ∀ k, k < l.n → rightI (l.get k) = true := by
    refine of_wp ?_
    simp only [tt_slices_IndexFunc_api_Instr__code_written_1]
    refine all_wp (fun k => (⟨l, (l.n : Nat), (k : Nat)⟩ : X_slices_IndexFunc_api_Instr__code_written_1_2)) l.n (fun k => rightI (l.get k) = true) _ (fun D hJ => ?_) (fun D k hk _ hD => ?_)
    · simp only [tt_slices_IndexFunc_api_Instr__code_written_1_2, ilt_nat, Nat.lt_irrefl, decide_false, wp_false]
      exact ⟨fun q => absurd q (by decide), fun q => absurd hJ q⟩
    · simp only [tt_slices_IndexFunc_api_Instr__code_written_1_2, ilt_nat, hk, decide_true, wp_true, inb_nat hk, wp_need_true, Int.toNat_natCast, next64 hk hn]
      refine wp_call (w_written1 (w k hk)) fun (y : Bool) hy => wp_if hy (fun h => ⟨fun _ q => h (q k hk), fun _ => Int.natCast_nonneg k⟩) fun h => hD (Classical.byContradiction h)
  refine wp_call h fun (y : Int) hy => ?_
  show ile 0 y = true ↔ _
  rw [ile_iff]; exact hy
theorem imin3 {a b c : Int} : ilt (imin (imin a b) c) 0 = true ↔ a < 0 ∨ b < 0 ∨ c < 0 := by
  rw [imin_lt0, ← ilt_iff, imin_lt0, or_assoc]
theorem imax3 {a b c : Int} : ilt 255 (imax (imax a b) c) = true ↔ 255 < a ∨ 255 < b ∨ 255 < c := by
  rw [imax_gt, ← ilt_iff, imax_gt, or_assoc]
theorem w_code_written {p : TApi_Program} (w : WfP p) : D_code_written.wp p fun y => y = true ↔ WrM p := by
  refine of_wp ?_
  simp only [tt_code_written]
  refine wp_if ilt_iff (fun h => ff_iff fun q => by have := q.rn; omega) fun h1 => wp_if ilt_iff (fun h => ff_iff fun q => by have := q.tn; omega) fun h2 => of_wp ?_
  simp only [tt_code_written_3]
  refine all_wp (fun k => (⟨p, p.Rings, (p.Rings.n : Nat), (k : Nat)⟩ : X_code_written_4)) p.Rings.n (fun k => okRg (p.Rings.get k)) _ (fun D hJ => ?_) (fun D k hk _ hD => ?_)
  · simp only [tt_code_written_4, ilt_nat, Nat.lt_irrefl, decide_false, wp_false]
    refine of_wp ?_
    simp only [tt_code_written_9]
    refine all_wp (fun t => (⟨p.Threads, (p.Threads.n : Nat), (t : Nat)⟩ : X_code_written_10)) p.Threads.n (fun t => okTh (p.Threads.get t)) _ (fun D hT => ?_) (fun D t ht _ hD => ?_)
    · simp only [tt_code_written_10, ilt_nat, Nat.lt_irrefl, decide_false, wp_false]
      exact tt_iff ⟨by omega, by omega, hJ, hT⟩
    · simp only [tt_code_written_10, ilt_nat, ht, decide_true, wp_true, inb_nat ht, wp_need_true, Int.toNat_natCast]
      refine wp_if ilt_iff (fun h => ff_iff fun q => by have := (q.t t ht).1; omega) fun h3 => wp_call (w_contains (w.ln t ht) (w.i t ht)) fun (y : Bool) hy => wp_if hy (fun h => ff_iff fun q => h (q.t t ht).2) fun h => of_wp ?_
      simp only [tt_code_written_14, next64 ht w.tn]
      exact hD ⟨by omega, Classical.byContradiction h⟩
  · simp only [tt_code_written_4, ilt_nat, hk, decide_true, wp_true, inb_nat hk, wp_need_true, Int.toNat_natCast]
    have no : ¬ okRg (p.Rings.get k) → (false = true ↔ WrM p) := fun h => ff_iff fun q => h (q.r k hk)
    refine wp_if imin3 (fun h => no fun q => by have := q.1; have := q.2.1; have := q.2.2; omega) fun a1 => wp_if imax3 (fun h => no fun q => by have := q.1; have := q.2.1; have := q.2.2; omega) fun a2 => of_wp ?_
    simp only [tt_code_written_8, next64 hk w.rn]
    exact hD ⟨by omega, by omega, by omega⟩

/-! ### The bytes of a program are not many -/
theorem w_Put {l b : Sl Int} (h : b.n + l.n ≤ 1000000) : D_octet_Writer_Put.wp (l, ⟨b⟩) fun y => y.b.n = b.n + l.n := by
  refine of_wp ?_
  simp only [tt_octet_Writer_Put]
  exact wp_need (by simp [room]; omega) rfl
theorem w_Text {s : ByteArray} {b : Sl Int} (h : b.n + s.size ≤ 1000000) : D_octet_Writer_Text.wp (s, ⟨b⟩) fun y => y.b.n = b.n + s.size := by
  refine of_wp ?_
  simp only [tt_octet_Writer_Text]
  exact wp_need (by simp [room]; omega) rfl
theorem w_String (x : TOctet_Writer) : D_octet_Writer_String.wp x fun _ => True := by
  refine ro_wp ?_
  simp only [tt_octet_Writer_String]
  trivial
theorem shr7 (m : Nat) : shr .u64 (m : Int) 7 = ((m / 128 : Nat) : Int) := by
  show (m : Int).fdiv (2 ^ 7) = _
  rw [Int.fdiv_eq_ediv_of_nonneg _ (by decide)]
  omega
def vB : Nat → Nat
  | 0 => 18446744073709551616
  | k + 1 => vB k / 128
theorem w_varint {n : Int} (h0 : 0 ≤ n) (h1 : n < 18446744073709551616) : D_varint_Print.wp n fun y => y.size ≤ 11 := by
  refine of_wp ?_
  simp only [tt_varint_Print]
  refine loop_wp (x := (⟨n, Sl.mk false 0 fun _ => (0 : Int)⟩ : X_varint_Print_2)) (fun x => ∃ m : Nat, x.n_0 = (m : Int) ∧ x.b_3.n ≤ 10 ∧ m < vB x.b_3.n + 1) (fun x => x.n_0.toNat) (fun _ (y : ByteArray) => y.size ≤ 11) (fun D x hx hD => ?_)
    ⟨n.toNat, by show n = _; omega, Nat.zero_le _, by show n.toNat < 18446744073709551616 + 1; omega⟩
  obtain ⟨m', b⟩ := x
  obtain ⟨m, e, hb, hm⟩ := hx
  simp only at e hb hm
  subst e
  simp only [tt_varint_Print_2]
  refine wp_if ile_iff (fun h => ?_) fun h => of_wp ?_
  · have hk : b.n ≤ 9 := by
      refine Classical.byContradiction fun q => ?_
      have e : b.n = 10 := by omega
      rw [e] at hm
      have : vB 10 = 0 := by decide
      omega
    rw [shr7]
    refine wp_need (by simp [room]; omega) (hD _ ⟨m / 128, rfl, by show b.n + 1 ≤ 10; omega, ?_⟩ (by show ((m / 128 : Nat) : Int).toNat < (m : Int).toNat; omega))
    show m / 128 < vB b.n / 128 + 1
    omega
  · simp only [tt_varint_Print_5]
    refine wp_need (by simp [room]; omega) ?_
    show ByteArray.size (bytesOf (b.n + 1) _) ≤ 11
    show (Array.size _) ≤ 11
    simp [bytesOf]; omega
theorem w_code_Print {p : TApi_Program} (w : WfP p) : D_code_Print.wp p fun y => (WrM p → y.2 = 0) ∧ (¬ WrM p → y.2 = 1) := by
  refine of_wp ?_
  simp only [tt_code_Print]
  refine wp_call (w_code_written w) fun (y : Bool) hy => wp_if (p := ¬ WrM p) (by rw [bnot_iff, hy]) (fun h => ⟨fun q => absurd q h, fun _ => rfl⟩) fun h => ?_
  have h := Classical.byContradiction h
  generalize hQ : (fun y : ByteArray × Int => (WrM p → y.2 = 0) ∧ (¬ WrM p → y.2 = 1)) = Q
  have fin : ∀ s : ByteArray, Q (s, 0) := fun s => by rw [← hQ]; exact ⟨fun _ => rfl, fun q => absurd h q⟩
  have hr := h.rn
  have ht := h.tn
  have h12 : ∀ (m : TOctet_Writer), m.b.n ≤ 30 → D_code_Print_12.wp (⟨p.Threads, (p.Threads.n : Nat), 0, m⟩ : X_code_Print_12) Q := fun m hm => by
    refine loop_wp (x := (⟨p.Threads, (p.Threads.n : Nat), 0, m⟩ : X_code_Print_12)) (fun x => x.q_46 = p.Threads ∧ x.q_47 = (p.Threads.n : Int) ∧ ∃ t : Nat, x.q_48 = (t : Int) ∧ t ≤ p.Threads.n ∧ x.m_4.b.n ≤ 30 + t * 5000) (fun x => p.Threads.n - x.q_48.toNat) (fun _ => Q) (fun D x hx hD => ?_)
      ⟨rfl, rfl, 0, rfl, Nat.zero_le _, by simpa using hm⟩
    obtain ⟨T, n, t', ⟨b⟩⟩ := x
    obtain ⟨e1, e2, t, e3, htt, hb⟩ := hx
    simp only at e1 e2 e3 hb
    subst e1
    subst e2
    subst e3
    simp only [tt_code_Print_12, ilt_nat]
    by_cases hlt : t < p.Threads.n
    · have hln := (h.t t hlt).1
      simp only [hlt, decide_true, wp_true, inb_nat hlt, wp_need_true, Int.toNat_natCast]
      have hu : IntKind.u64.wrap (((p.Threads.get t).n : Nat) : Int) = (((p.Threads.get t).n : Nat) : Int) := wrapu64 (by omega) (by omega)
      rw [hu]
      refine wp_call (w_varint (by omega) (by omega)) fun (v : ByteArray) hv => wp_call (w_Text (s := v) (b := b) (by omega)) fun (y : TOctet_Writer) hy => ?_
      refine loop_wp (x := (⟨p.Threads, (p.Threads.n : Nat), (t : Nat), p.Threads.get t, ((p.Threads.get t).n : Nat), 0, y⟩ : X_code_Print_16)) (fun x => x.q_46 = p.Threads ∧ x.q_47 = (p.Threads.n : Int) ∧ x.q_48 = (t : Int) ∧ x.q_57 = p.Threads.get t ∧ x.q_58 = ((p.Threads.get t).n : Int) ∧
        ∃ k : Nat, x.q_59 = (k : Int) ∧ k ≤ (p.Threads.get t).n ∧ x.m_4.b.n ≤ 41 + t * 5000 + k * 16) (fun x => (p.Threads.get t).n - x.q_59.toNat) (fun _ => Q) (fun D6 x hx hD6 => ?_) ⟨rfl, rfl, rfl, rfl, rfl, 0, rfl, Nat.zero_le _, by show y.b.n ≤ _; omega⟩
      obtain ⟨T, n, t', L, m', k', ⟨b6⟩⟩ := x
      obtain ⟨e1, e2, e3, e4, e5, k, e6, hkk, hb6⟩ := hx
      simp only at e1 e2 e3 e4 e5 e6 hb6
      subst e1
      subst e2
      subst e3
      subst e4
      subst e5
      subst e6
      simp only [tt_code_Print_16, ilt_nat]
      by_cases hk : k < (p.Threads.get t).n
      · simp only [hk, decide_true, wp_true, inb_nat hk, wp_need_true, Int.toNat_natCast, next64 hk (w.ln t hlt)]
        have wi := (w.i t hlt k hk).2.2.2.2.2
        refine wp_call (w_Put (by show b6.n + 5 ≤ _; omega)) fun (y6 : TOctet_Writer) hy6 => wp_call (w_varint wi.1 wi.2) fun (v6 : ByteArray) hv6 => ?_
        obtain ⟨c6⟩ := y6
        have hy6 : c6.n = b6.n + 5 := hy6
        refine wp_call (w_Text (s := v6) (b := c6) (by omega)) fun (z6 : TOctet_Writer) hz6 => ?_
        exact hD6 _ ⟨rfl, rfl, rfl, rfl, rfl, k + 1, rfl, hk, by show z6.b.n ≤ _; omega⟩ (by show (p.Threads.get t).n - ((k + 1 : Nat) : Int).toNat < (p.Threads.get t).n - ((k : Nat) : Int).toNat; omega)
      · simp only [hk, decide_false, wp_false]
        refine of_wp ?_
        simp only [tt_code_Print_21, next64 hlt w.tn]
        exact hD _ ⟨rfl, rfl, t + 1, rfl, hlt, by show b6.n ≤ _; omega⟩ (by show p.Threads.n - ((t + 1 : Nat) : Int).toNat < p.Threads.n - ((t : Nat) : Int).toNat; omega)
    · simp only [hlt, decide_false, wp_false]
      exact wp_call (w_String _) fun (s : ByteArray) _ => fin s
  refine wp_call (w_Put (by show 0 + 1 ≤ _; omega)) fun (y : TOctet_Writer) hy => ?_
  refine loop_wp (x := (⟨p, p.Rings, (p.Rings.n : Nat), 0, y⟩ : X_code_Print_6)) (fun x => x.p_1 = p ∧ x.q_21 = p.Rings ∧ x.q_22 = (p.Rings.n : Int) ∧ ∃ k : Nat, x.q_23 = (k : Int) ∧ k ≤ p.Rings.n ∧ x.m_4.b.n ≤ 1 + k * 3) (fun x => p.Rings.n - x.q_23.toNat) (fun _ => Q) (fun D x hx hD => ?_)
    ⟨rfl, rfl, rfl, 0, rfl, Nat.zero_le _, by show y.b.n ≤ 1; have hy : y.b.n = 0 + 1 := hy; omega⟩
  obtain ⟨p', R, n, k', ⟨b⟩⟩ := x
  obtain ⟨e1, e2, e3, k, e4, hkk, hb⟩ := hx
  simp only at e1 e2 e3 e4 hb
  subst e1
  subst e2
  subst e3
  subst e4
  simp only [tt_code_Print_6, ilt_nat]
  by_cases hk : k < p'.Rings.n
  · simp only [hk, decide_true, wp_true, inb_nat hk, wp_need_true, Int.toNat_natCast, next64 hk w.rn]
    refine wp_call (w_Put (by show b.n + 3 ≤ _; omega)) fun (y6 : TOctet_Writer) hy6 => ?_
    have hy6 : y6.b.n = b.n + 3 := hy6
    exact hD _ ⟨rfl, rfl, rfl, k + 1, rfl, hk, by show y6.b.n ≤ _; omega⟩ (by show p'.Rings.n - ((k + 1 : Nat) : Int).toNat < p'.Rings.n - ((k : Nat) : Int).toNat; omega)
  · simp only [hk, decide_false, wp_false]
    refine of_wp ?_
    simp only [tt_code_Print_10]
    refine wp_call (w_Put (by show b.n + 1 ≤ _; omega)) fun (y6 : TOctet_Writer) hy6 => ?_
    have hy6 : y6.b.n = b.n + 1 := hy6
    exact h12 y6 (by omega)
/-! ### What may be listed -/
theorem hwds_ok {r : TApi_Ring} (h : hwds r ≠ []) : okRg r := by
  cases ring_cls r with
  | qu h1 c d w => exact ⟨by omega, c, by omega⟩
  | ca h1 c d w => exact ⟨by omega, c, d⟩
  | no h1 w => exact absurd w h
theorem ts_mem {p : TApi_Program} {l : List TApi_Instr} : l ∈ (aP p).ts ↔ ∃ t, t < p.Threads.n ∧ (p.Threads.get t).L = l := by
  refine List.mem_map.trans ⟨fun ⟨x, h1, h2⟩ => ?_, fun ⟨t, h1, h2⟩ => ⟨_, Sl.mem_L.2 ⟨t, h1, rfl⟩, h2⟩⟩
  obtain ⟨t, ht, rfl⟩ := Sl.mem_L.1 h1
  exact ⟨t, ht, h2⟩
theorem listOk_iff {p : TApi_Program} (w : WfP p) : ListOk (aP p) ↔ (∀ i, i < p.Rings.n → hwds (p.Rings.get i) ≠ []) ∧ WrM p := by
  refine ⟨fun h => ⟨fun i hi => h.r _ (Sl.mem_L.2 ⟨i, hi, rfl⟩), ?_⟩, fun h => ?_⟩
  · refine ⟨by rw [← aP_rs]; exact h.rn, by rw [← aP_ts]; exact h.tn, fun i hi => hwds_ok (h.r _ (Sl.mem_L.2 ⟨i, hi, rfl⟩)), fun t ht => ?_⟩
    obtain ⟨h1, h2⟩ := h.t _ (ts_mem.2 ⟨t, ht, rfl⟩)
    rw [Sl.L_length] at h1
    exact ⟨h1, fun k hk => (h2 _ (Sl.mem_L.2 ⟨k, hk, rfl⟩)).1⟩
  · refine ⟨by rw [aP_rs]; exact h.2.rn, by rw [aP_ts]; exact h.2.tn, fun r hr => ?_, fun l hl => ?_⟩
    · obtain ⟨i, hi, rfl⟩ := Sl.mem_L.1 (show r ∈ p.Rings.L from hr)
      exact h.1 i hi
    · obtain ⟨t, ht, rfl⟩ := ts_mem.1 hl
      rw [Sl.L_length]
      refine ⟨(h.2.t t ht).1, fun i hi => ?_⟩
      obtain ⟨k, hk, rfl⟩ := Sl.mem_L.1 hi
      exact ⟨(h.2.t t ht).2 k hk, w.i t ht k hk⟩
theorem seq_hd {r : TApi_Ring} : seq (hdB r) (ByteArray.mk #[]) = true ↔ hwds r = [] := by
  rw [seq_iff, ← hd_empty]
  exact ⟨fun h => mkB_inj (b := []) h, fun h => by rw [hdB, h]; rfl⟩
theorem w_r10_Listed {p : TApi_Program} (w : WfP p) : D_r10_Listed.wp p fun y => y = true ↔ ListOk (aP p) := by
  refine Dyn.wp.mono (Q := fun y : Bool => y = true ↔ (∀ i, i < p.Rings.n → hwds (p.Rings.get i) ≠ []) ∧ WrM p) (of_wp ?_) fun y hy => hy.trans (listOk_iff w).symm
  simp only [tt_r10_Listed]
  refine all_wp (fun k => (⟨p, (k : Nat)⟩ : X_r10_Listed_2)) p.Rings.n (fun k => hwds (p.Rings.get k) ≠ []) _ (fun D hJ => ?_) (fun D k hk _ hD => ?_)
  · simp only [tt_r10_Listed_2, ilt_nat, Nat.lt_irrefl, decide_false, wp_false]
    exact wp_call (w_r09_Written w) fun (y : Bool) hy => ⟨fun q => ⟨hJ, hy.1 q⟩, fun q => hy.2 q.2⟩
  · simp only [tt_r10_Listed_2, ilt_nat, hk, decide_true, wp_true, inb_nat hk, wp_need_true, Int.toNat_natCast, next64 hk w.rn]
    refine wp_call (w_r10_Ring _) fun (y : ByteArray) hy => ?_
    subst hy
    exact wp_if seq_hd (fun h => ff_iff fun q => q.1 k hk h) fun h => hD h

/-! ### The document prints a program -/
theorem lnsT_one (l : List UInt8) : lnsT [l] = l ++ [10] := by simp [lnsT]
theorem tx_pre {q : MPg} (h : ListOk q) {A B : List (List UInt8)} (e : lns q = A ++ B) : (lnsT A).length ≤ 400000 := by
  have := tx_len h
  rw [txP, e, lnsT_app, List.length_append] at this
  omega
theorem lns_rings (p : TApi_Program) (k : Nat) : ∃ B, lns (aP p) = (p.Rings.L.take k).map hdL ++ B :=
  ⟨(p.Rings.L.drop k).map hdL ++ lnsTs (aP p).ts, by rw [← List.append_assoc, ← List.map_append, List.take_append_drop]; rfl⟩
theorem lns_ths (p : TApi_Program) (t : Nat) : lns (aP p) = (p.Rings.L.map hdL ++ lnsTs ((aP p).ts.take t)) ++ lnsTs ((aP p).ts.drop t) := by
  rw [List.append_assoc, ← lnsTs_app, List.take_append_drop]; rfl
theorem ts_get {p : TApi_Program} {t : Nat} (h : t < p.Threads.n) : (aP p).ts[t]? = some (p.Threads.get t).L := by
  show (p.Threads.L.map Sl.L)[t]? = _
  rw [List.getElem?_map, Sl.L_get p.Threads h]; rfl
theorem ts_drop {p : TApi_Program} {t : Nat} (h : t < p.Threads.n) : (aP p).ts.drop t = (p.Threads.get t).L :: (aP p).ts.drop (t + 1) := by
  have hl : t < (aP p).ts.length := by rw [aP_ts]; exact h
  rw [List.drop_eq_getElem_cons hl]
  congr 1
  have := ts_get h
  rw [List.getElem?_eq_getElem hl] at this
  exact Option.some.inj this
theorem ts_take {p : TApi_Program} {t : Nat} (h : t < p.Threads.n) : (aP p).ts.take (t + 1) = (aP p).ts.take t ++ [(p.Threads.get t).L] := by
  rw [List.take_add_one, ts_get h]; rfl
theorem lns_ins (p : TApi_Program) {t : Nat} (h : t < p.Threads.n) (k : Nat) : ∃ B, lns (aP p) = (p.Rings.L.map hdL ++ lnsTs ((aP p).ts.take t) ++ thrL :: ((p.Threads.get t).L.take k).map lnL) ++ B := by
  refine ⟨((p.Threads.get t).L.drop k).map lnL ++ lnsTs ((aP p).ts.drop (t + 1)), ?_⟩
  have e : (p.Threads.get t).L.map lnL = ((p.Threads.get t).L.take k).map lnL ++ ((p.Threads.get t).L.drop k).map lnL := by rw [← List.map_append, List.take_append_drop]
  rw [lns_ths p t, ts_drop h, show lnsTs ((p.Threads.get t).L :: (aP p).ts.drop (t + 1)) = (thrL :: (p.Threads.get t).L.map lnL) ++ lnsTs ((aP p).ts.drop (t + 1)) from by simp [lnsTs], e]
  simp only [List.append_assoc, List.cons_append]
theorem L_take {α : Type} (l : Sl α) {k : Nat} (h : k < l.n) : l.L.take (k + 1) = l.L.take k ++ [l.get k] := by
  rw [List.take_add_one, Sl.L_get l h]; rfl
theorem w_r10_Print {p : TApi_Program} (w : WfP p) (h : ListOk (aP p)) : D_r10_Print.wp p fun y => y = mkB (txP (aP p)) := by
  have hW := ((listOk_iff w).1 h).2
  have nl : (ByteArray.mk #[10] : ByteArray) = mkB [10] := rfl
  have szs : ∀ {A B : List UInt8}, A.length ≤ 400000 → B.length ≤ 200 → (mkB A).size + (mkB B).size ≤ (9223372036854775807 : Nat) := fun a b => by rw [mkB_size, mkB_size]; omega
  have h6 : D_r10_Print_6.wp (⟨p, mkB (lnsT (p.Rings.L.map hdL))⟩ : X_r10_Print_6) fun y => y = mkB (txP (aP p)) := by
    refine of_wp ?_
    simp only [tt_r10_Print_6]
    have e0 : lnsT (p.Rings.L.map hdL) = lnsT (p.Rings.L.map hdL ++ lnsTs ((aP p).ts.take 0)) := by simp [lnsTs]
    rw [e0]
    refine count_wp (fun t => (⟨p, mkB (lnsT (p.Rings.L.map hdL ++ lnsTs ((aP p).ts.take t))), (t : Nat)⟩ : X_r10_Print_7)) p.Threads.n (fun _ => True) _ (fun D _ => ?_) (fun D t ht _ hD => ?_) (Nat.zero_le _) trivial
    · simp only [tt_r10_Print_7, ilt_nat, Nat.lt_irrefl, decide_false, wp_false]
      show mkB _ = mkB _
      rw [List.take_of_length_le (by rw [aP_ts]; exact Nat.le_refl _)]; rfl
    · simp only [tt_r10_Print_7, ilt_nat, ht, decide_true, wp_true]
      have et : (ByteArray.mk #[116, 104, 114, 101, 97, 100, 10] : ByteArray) = mkB (thrL ++ [10]) := rfl
      rw [et, mkB_app]
      refine nd1 (szs (tx_pre h (lns_ths p t)) (by decide)) ?_
      have e1 : lnsT (p.Rings.L.map hdL ++ lnsTs ((aP p).ts.take t)) ++ (thrL ++ [10]) = lnsT (p.Rings.L.map hdL ++ lnsTs ((aP p).ts.take t) ++ thrL :: ((p.Threads.get t).L.take 0).map lnL) := by
        rw [List.take_zero, List.map_nil, lnsT_app _ [thrL], lnsT_one]
      rw [e1]
      refine count_wp (fun k => (⟨p, mkB (lnsT (p.Rings.L.map hdL ++ lnsTs ((aP p).ts.take t) ++ thrL :: ((p.Threads.get t).L.take k).map lnL)), (t : Nat), (k : Nat)⟩ : X_r10_Print_11)) (p.Threads.get t).n (fun _ => True) _ (fun D6 _ => ?_) (fun D6 k hk _ hD6 => ?_) (Nat.zero_le _) trivial
      · simp only [tt_r10_Print_11, inb_nat ht, wp_need_true, Int.toNat_natCast, ilt_nat, Nat.lt_irrefl, decide_false, wp_false]
        refine of_wp ?_
        simp only [tt_r10_Print_8, next64 ht w.tn]
        have := hD trivial
        rw [ts_take ht, lnsTs_app, lnsTs_one, ← List.append_assoc] at this
        rw [List.take_of_length_le (l := (p.Threads.get t).L) (by rw [Sl.L_length]; exact Nat.le_refl _)]
        exact this
      · simp only [tt_r10_Print_11, inb_nat ht, wp_need_true, Int.toNat_natCast, ilt_nat, hk, decide_true, wp_true, inb_nat hk, next64 hk (w.ln t ht)]
        have hr := (hW.t t ht).2 k hk
        have wi := w.i t ht k hk
        refine wp_call (w_r10_Line hr wi) fun (y : ByteArray) hy => ?_
        subst hy
        have hl := lnL_len hr wi
        obtain ⟨B, hB⟩ := lns_ins p ht k
        have e2 : lnB ((p.Threads.get t).get k) ++ ByteArray.mk #[10] = mkB (lnL ((p.Threads.get t).get k) ++ [10]) := mkB_app _ [10]
        rw [e2, mkB_app]
        refine nd1 (szs (A := lnL ((p.Threads.get t).get k)) (B := [10]) (by omega) (by decide)) (nd1 (szs (tx_pre h hB) (by simp; omega)) ?_)
        have := hD6 trivial
        rw [L_take _ hk, List.map_append, List.map_singleton, ← List.cons_append, ← List.append_assoc, lnsT_app _ [lnL ((p.Threads.get t).get k)], lnsT_one] at this
        exact this
  refine of_wp ?_
  simp only [tt_r10_Print]
  have e0 : (ByteArray.mk #[] : ByteArray) = mkB (lnsT ((p.Rings.L.take 0).map hdL)) := rfl
  rw [e0]
  refine count_wp (fun k => (⟨p, mkB (lnsT ((p.Rings.L.take k).map hdL)), (k : Nat)⟩ : X_r10_Print_3)) p.Rings.n (fun _ => True) _ (fun D _ => ?_) (fun D k hk _ hD => ?_) (Nat.zero_le _) trivial
  · simp only [tt_r10_Print_3, ilt_nat, Nat.lt_irrefl, decide_false, wp_false]
    rw [List.take_of_length_le (by simp)]
    exact h6
  · simp only [tt_r10_Print_3, ilt_nat, hk, decide_true, wp_true, inb_nat hk, wp_need_true, Int.toNat_natCast, next64 hk w.rn]
    refine wp_call (w_r10_Ring _) fun (y : ByteArray) hy => ?_
    subst hy
    have hl := hd_len (p.Rings.get k)
    obtain ⟨B, hB⟩ := lns_rings p k
    have e2 : hdB (p.Rings.get k) ++ ByteArray.mk #[10] = mkB (hdL (p.Rings.get k) ++ [10]) := mkB_app _ [10]
    rw [e2, mkB_app]
    refine nd1 (szs (A := hdL (p.Rings.get k)) (B := [10]) (by omega) (by decide)) (nd1 (szs (tx_pre h hB) (by simp; omega)) ?_)
    have := hD trivial
    rw [L_take _ hk, List.map_append, List.map_singleton, lnsT_app, lnsT_one] at this
    exact this

/-! ### The program prints a program -/
theorem catL_lines (L : List (List UInt8)) : catL (L.map mkB) = mkB (lnsT L) := by
  induction L with
  | nil => rfl
  | cons e l ih =>
    rw [List.map_cons, catL, ih, lnsT_cons]
    show mkB e ++ mkB [10] ++ mkB (lnsT l) = _
    rw [mkB_app, mkB_app]
    simp
theorem catT_lines (S : List (List TApi_Instr)) : catT (S.map fun l => l.map lnB) = mkB (lnsT (lnsTs S)) := by
  induction S with
  | nil => rfl
  | cons l S ih =>
    have e : l.map lnB = (l.map lnL).map mkB := by rw [List.map_map]; rfl
    rw [List.map_cons, catT, ih, e, catL_lines, show lnsTs (l :: S) = (thrL :: l.map lnL) ++ lnsTs S from by simp [lnsTs], lnsT_app, lnsT_cons]
    show mkB (thrL ++ [10]) ++ mkB _ ++ mkB _ = _
    rw [mkB_app, mkB_app]
    simp
theorem w_listing_Print {p : TApi_Program} (w : WfP p) : ∃ y, con_listing_Print.rel p y ∧ (ListOk (aP p) → y = (mkB (txP (aP p)), 0)) ∧ (¬ ListOk (aP p) → y = (ByteArray.mk #[], 1)) := by
  obtain ⟨c, hc, c0, c1⟩ := w_code_Print w
  by_cases hW : WrM p
  · have hc0 := c0 hW
    have eH : p.Rings.L.map hdB = (p.Rings.L.map hdL).map mkB := by rw [List.map_map]; rfl
    have hH : lpHead p (p.Rings.L.map hdB) := by
      refine ⟨by simp, ?_, fun i hi => ?_⟩
      · rw [eH, catL_lines, mkB_size]
        have := lnsT_len 150 (L := p.Rings.L.map hdL) fun l hl => by
          obtain ⟨r, _, rfl⟩ := List.mem_map.1 hl
          have := hd_len r; omega
        rw [List.length_map, Sl.L_length] at this
        have := hW.rn
        have : p.Rings.n * 151 ≤ 8 * 151 := Nat.mul_le_mul_right _ hW.rn
        omega
      · obtain ⟨y, hy, rfl⟩ := w_head (p.Rings.get i)
        have : (p.Rings.L.map hdB).getD i ByteArray.empty = hdB (p.Rings.get i) := by simp [List.getD, List.getElem?_map, Sl.L_get p.Rings hi]
        rw [this]; exact hy
    cases hb : anyE (p.Rings.L.map hdB) with
    | true =>
      have hbad := anyE_true hb
      refine ⟨(⟨#[]⟩, 1), ⟨c, hc, .inr ⟨hc0, _, hH, .inl ⟨hbad, rfl⟩⟩⟩, fun q => ?_, fun _ => rfl⟩
      obtain ⟨k0, g1, _, g3⟩ := hbad
      rw [List.length_map, Sl.L_length] at g1
      have e : (p.Rings.L.map hdB).getD k0 ByteArray.empty = hdB (p.Rings.get k0) := by simp [List.getD, List.getElem?_map, Sl.L_get p.Rings g1]
      rw [e] at g3
      exact absurd (hd_empty.1 (mkB_inj (b := []) g3)) (q.r _ (Sl.mem_L.2 ⟨k0, g1, rfl⟩))
    | false =>
      have hne := anyE_false hb
      have hL : ListOk (aP p) := (listOk_iff w).2 ⟨fun i hi q => hne ?_, hW⟩
      · have eT : (p.Threads.L.map fun l => l.L.map lnB) = (aP p).ts.map fun l => l.map lnB := by
          show _ = (p.Threads.L.map Sl.L).map _
          rw [List.map_map]; rfl
        have etx : catL (p.Rings.L.map hdB) ++ catT (p.Threads.L.map fun l => l.L.map lnB) = mkB (txP (aP p)) := by
          rw [eH, eT, catL_lines, catT_lines, mkB_app, ← lnsT_app]; rfl
        refine ⟨(catL (p.Rings.L.map hdB) ++ catT (p.Threads.L.map fun l => l.L.map lnB), 0), ⟨c, hc, .inr ⟨hc0, _, hH, .inr ⟨hne, _, ⟨by simp, fun t ht => ?_⟩, ?_, rfl⟩⟩⟩, fun _ => by rw [etx], fun q => absurd hL q⟩
        · have e : (p.Threads.L.map fun l => l.L.map lnB).getD t [] = (p.Threads.get t).L.map lnB := by simp [List.getD, List.getElem?_map, Sl.L_get p.Threads ht]
          rw [e]
          refine ⟨by simp, fun i hi => ?_⟩
          obtain ⟨y, hy, rfl⟩ := w_line ((hW.t t ht).2 i hi) (w.i t ht i hi)
          have e2 : ((p.Threads.get t).L.map lnB).getD i ByteArray.empty = lnB ((p.Threads.get t).get i) := by simp [List.getD, List.getElem?_map, Sl.L_get (p.Threads.get t) hi]
          rw [e2]; exact hy
        · rw [etx, mkB_size]
          have := tx_len hL
          omega
      · exact List.mem_map.2 ⟨_, Sl.mem_L.2 ⟨i, hi, rfl⟩, by rw [hdB, hd_empty.2 q]; rfl⟩
  · exact ⟨(⟨#[]⟩, 1), ⟨c, hc, .inl ⟨by rw [c1 hW]; decide, rfl⟩⟩, fun q => absurd ((listOk_iff w).1 q).2 hW, fun _ => rfl⟩
/-! ### Programs that are the same -/
theorem ins_eq {a b : TApi_Instr} : ((ieq a.Op b.Op) && ((ieq a.A b.A) && ((ieq a.B b.B) && ((ieq a.C b.C) && ((ieq a.D b.D) && ((ieq a.K b.K) && true)))))) = true ↔ a = b := by
  simp only [Bool.and_eq_true, ieq_iff, and_true]
  exact ⟨fun h => ext_I h.1 h.2.1 h.2.2.1 h.2.2.2.1 h.2.2.2.2.1 h.2.2.2.2.2, fun h => by rw [h]; exact ⟨rfl, rfl, rfl, rfl, rfl, rfl⟩⟩
theorem rng_eq {a b : TApi_Ring} : ((ieq a.Kind b.Kind) && ((ieq a.Cap b.Cap) && ((ieq a.Readers b.Readers) && true))) = true ↔ a = b := by
  simp only [Bool.and_eq_true, ieq_iff, and_true]
  exact ⟨fun h => ext_R h.1 h.2.1 h.2.2, fun h => by rw [h]; exact ⟨rfl, rfl, rfl⟩⟩
structure EqP (a b : TApi_Program) : Prop where
  rn : a.Rings.n = b.Rings.n
  tn : a.Threads.n = b.Threads.n
  r : ∀ i, i < a.Rings.n → a.Rings.get i = b.Rings.get i
  t : ∀ t, t < a.Threads.n → (a.Threads.get t).n = (b.Threads.get t).n ∧ ∀ k, k < (a.Threads.get t).n → (a.Threads.get t).get k = (b.Threads.get t).get k
theorem eqP_iff {a b : TApi_Program} : EqP a b ↔ aP a = aP b := by
  refine ⟨fun h => ?_, fun h => ?_⟩
  · have e1 : a.Rings.L = b.Rings.L := Sl.L_ext h.rn h.r
    have e2 : a.Threads.L.map Sl.L = b.Threads.L.map Sl.L := by
      apply List.ext_getElem?
      intro i
      rw [List.getElem?_map, List.getElem?_map, Sl.L_get?, Sl.L_get?, ← h.tn]
      by_cases q : i < a.Threads.n
      · rw [if_pos q, if_pos q]
        exact congrArg some (Sl.L_ext (h.t i q).1 (h.t i q).2)
      · rw [if_neg q, if_neg q]
    rw [aP, aP, e1, e2]
  · have e1 : a.Rings.L = b.Rings.L := congrArg MPg.rs h
    have e2 : a.Threads.L.map Sl.L = b.Threads.L.map Sl.L := congrArg MPg.ts h
    have e3 : a.Threads.n = b.Threads.n := by have := congrArg List.length e2; simpa using this
    obtain ⟨r1, r2⟩ := Sl.L_inj e1
    refine ⟨r1, e3, r2, fun t ht => ?_⟩
    have := ts_get (p := a) ht
    rw [h, ts_get (by omega)] at this
    obtain ⟨h1, h2⟩ := Sl.L_inj (Option.some.inj this).symm
    exact ⟨h1, h2⟩
theorem w_r09_Same {a b : TApi_Program} (h1 : a.Rings.n ≤ maxLen) (h2 : a.Threads.n ≤ maxLen) (h3 : ∀ t, t < a.Threads.n → (a.Threads.get t).n ≤ maxLen) : D_r09_Same.wp (a, b) fun y => y = true ↔ aP a = aP b := by
  refine Dyn.wp.mono (Q := fun y : Bool => y = true ↔ EqP a b) (of_wp ?_) fun y hy => hy.trans eqP_iff
  simp only [tt_r09_Same]
  refine wp_if (p := ¬ a.Rings.n = b.Rings.n) (by rw [bnot_iff, ieq_iff]; exact not_congr Int.natCast_inj) (fun h => ff_iff fun q => h q.rn) fun hr => wp_if (p := ¬ a.Threads.n = b.Threads.n) (by rw [bnot_iff, ieq_iff]; exact not_congr Int.natCast_inj) (fun h => ff_iff fun q => h q.tn) fun ht => of_wp ?_
  have hr := Classical.byContradiction hr
  have ht := Classical.byContradiction ht
  simp only [tt_r09_Same_3]
  refine all_wp (fun k => (⟨a, b, (k : Nat)⟩ : X_r09_Same_4)) a.Rings.n (fun k => a.Rings.get k = b.Rings.get k) _ (fun D hJ => ?_) (fun D k hk _ hD => ?_)
  · simp only [tt_r09_Same_4, ilt_nat, Nat.lt_irrefl, decide_false, wp_false]
    refine of_wp ?_
    simp only [tt_r09_Same_8]
    refine all_wp (fun t => (⟨a, b, (t : Nat)⟩ : X_r09_Same_9)) a.Threads.n (fun t => (a.Threads.get t).n = (b.Threads.get t).n ∧ ∀ k, k < (a.Threads.get t).n → (a.Threads.get t).get k = (b.Threads.get t).get k) _ (fun D hT => ?_) (fun D t hlt _ hD => ?_)
    · simp only [tt_r09_Same_9, ilt_nat, Nat.lt_irrefl, decide_false, wp_false]
      exact tt_iff ⟨hr, ht, hJ, hT⟩
    · simp only [tt_r09_Same_9, ilt_nat, hlt, decide_true, wp_true, inb_nat hlt, inb_nat (ht ▸ hlt : t < b.Threads.n), wp_need_true, Int.toNat_natCast]
      refine wp_if (p := ¬ (a.Threads.get t).n = (b.Threads.get t).n) (by rw [bnot_iff, ieq_iff]; exact not_congr Int.natCast_inj) (fun h => ff_iff fun q => h (q.t t hlt).1) fun hn => ?_
      have hn := Classical.byContradiction hn
      refine all_wp (fun k => (⟨a, b, (t : Nat), (k : Nat)⟩ : X_r09_Same_14)) (a.Threads.get t).n (fun k => (a.Threads.get t).get k = (b.Threads.get t).get k) _ (fun D5 hK => ?_) (fun D5 k hk _ hD5 => ?_)
      · simp only [tt_r09_Same_14, inb_nat hlt, wp_need_true, Int.toNat_natCast, ilt_nat, Nat.lt_irrefl, decide_false, wp_false]
        refine of_wp ?_
        simp only [tt_r09_Same_10, next64 hlt h2]
        exact hD ⟨hn, hK⟩
      · simp only [tt_r09_Same_14, inb_nat hlt, inb_nat (ht ▸ hlt : t < b.Threads.n), wp_need_true, Int.toNat_natCast, ilt_nat, hk, decide_true, wp_true, inb_nat hk, inb_nat (hn ▸ hk : k < (b.Threads.get t).n), next64 hk (h3 t hlt)]
        exact wp_if (p := ¬ (a.Threads.get t).get k = (b.Threads.get t).get k) (by rw [bnot_iff, ins_eq]) (fun h => ff_iff fun q => h ((q.t t hlt).2 k hk)) fun h => hD5 (Classical.byContradiction h)
  · simp only [tt_r09_Same_4, ilt_nat, hk, decide_true, wp_true, inb_nat hk, inb_nat (hr ▸ hk : k < b.Rings.n), wp_need_true, Int.toNat_natCast, next64 hk h1]
    exact wp_if (p := ¬ a.Rings.get k = b.Rings.get k) (by rw [bnot_iff, rng_eq]) (fun h => ff_iff fun q => h (q.r k hk)) fun h => hD (Classical.byContradiction h)

/-! ### Few instructions, and copies -/
structure FewP (p : TApi_Program) : Prop where
  r : p.Rings.n ≤ 10
  t : p.Threads.n ≤ 10
  l : ∀ t, t < p.Threads.n → (p.Threads.get t).n ≤ 100
theorem w_Few (p : TApi_Program) (m : Int) (hm : m ≤ 100) (hp : WfP p) : D_r09_Few.wp (p, m) fun y => y = true → FewP p := by
  refine of_wp ?_
  simp only [tt_r09_Few]
  refine wp_if ilt_iff (fun _ => fun h => by cases h) fun h1 => wp_if ilt_iff (fun _ => fun h => by cases h) fun h2 => of_wp ?_
  simp only [tt_r09_Few_3]
  refine loop_wp (tt := tt_r09_Few_5) (fun x : X_r09_Few_5 => x.most_1 = m ∧ x.p_2 = p ∧ ∃ k : Nat, x.i_6 = k ∧ k ≤ p.Threads.n ∧ ∀ t, t < k → (p.Threads.get t).n ≤ 100) (fun x => (p.Threads.n - x.i_6).toNat) (fun _ y => y = true → FewP p) (fun D x hI hD => ?_) ⟨rfl, rfl, 0, rfl, Nat.zero_le _, fun t ht => by omega⟩
  obtain ⟨m', p', n, i⟩ := x
  obtain ⟨e0, e1, k, e2, hk, hg⟩ := hI
  simp only at e0 e1 e2 hg hD
  subst e0 e1 e2
  simp only [tt_r09_Few_5]
  refine wp_if ilt_iff (fun h => ?_) fun h => fun _ => ⟨by omega, by omega, fun t ht => hg t (by omega)⟩
  have hkm : k < p'.Threads.n := by omega
  refine wp_need (inb_nat hkm) ?_
  rw [Int.toNat_natCast]
  refine wp_if ilt_iff (fun _ => fun h => by cases h) fun h3 => wp_need (inb_nat hkm) ?_
  rw [next64 hkm hp.tn]
  refine hD _ ⟨rfl, rfl, k + 1, rfl, hkm, fun t ht => ?_⟩ (by simp only; omega)
  by_cases e : t = k
  · subst e; omega
  · exact hg t (by omega)
def cpF (T : Sl (Sl TApi_Instr)) (l : Sl TApi_Instr) (i2 : Nat) : Sl TApi_Instr :=
  Sl.mk (cond (Nat.blt i2 T.n) (T.get i2).nil (cond (Nat.beq l.n 0) false false)) (cond (Nat.blt i2 T.n) (T.get i2).n ((0 : Nat) + l.n)) fun i3 => TApi_Instr.mk (cond (Nat.blt i2 T.n) ((T.get i2).get i3).Op (cond (Nat.blt i3 0) (0 : Int) (l.get (i3 - 0)).Op))
    (cond (Nat.blt i2 T.n) ((T.get i2).get i3).A (cond (Nat.blt i3 0) (0 : Int) (l.get (i3 - 0)).A)) (cond (Nat.blt i2 T.n) ((T.get i2).get i3).B (cond (Nat.blt i3 0) (0 : Int) (l.get (i3 - 0)).B)) (cond (Nat.blt i2 T.n) ((T.get i2).get i3).C (cond (Nat.blt i3 0) (0 : Int) (l.get (i3 - 0)).C))
    (cond (Nat.blt i2 T.n) ((T.get i2).get i3).D (cond (Nat.blt i3 0) (0 : Int) (l.get (i3 - 0)).D)) (cond (Nat.blt i2 T.n) ((T.get i2).get i3).K (cond (Nat.blt i3 0) (0 : Int) (l.get (i3 - 0)).K))
theorem cp_push (T : Sl (Sl TApi_Instr)) (l : Sl TApi_Instr) (b : Bool) : (Sl.mk b (T.n + 1) (cpF T l)).L.map Sl.L = T.L.map Sl.L ++ [l.L] := by
  have e : (Sl.mk b (T.n + 1) (cpF T l)).L = T.L ++ [Sl.mk (cond (Nat.beq l.n 0) false false) ((0 : Nat) + l.n) fun i3 => l.get (i3 - 0)] := by
    rw [← L_push T b]
    refine Sl.L_ext rfl fun i _ => ?_
    show cpF T l i = cond (Nat.blt i T.n) (T.get i) _
    unfold cpF
    cases Nat.blt i T.n <;> rfl
  rw [e, List.map_append]
  show _ ++ [_] = _
  congr 2
  exact Sl.L_ext (Nat.zero_add _) fun _ _ => rfl
theorem w_Copy {p : TApi_Program} (h : FewP p) : D_r09_Copy.wp p fun y => aP y = aP p := by
  obtain ⟨h1, h2, h3⟩ := h
  refine of_wp ?_
  simp only [tt_r09_Copy]
  refine wp_need (by simp [room]; omega) ?_
  have e0 : (Sl.mk (cond (Nat.beq p.Rings.n 0) false false) ((0 : Nat) + p.Rings.n) fun i1 => TApi_Ring.mk (cond (Nat.blt i1 0) (0 : Int) (p.Rings.get (i1 - 0)).Kind) (cond (Nat.blt i1 0) (0 : Int) (p.Rings.get (i1 - 0)).Cap) (cond (Nat.blt i1 0) (0 : Int) (p.Rings.get (i1 - 0)).Readers)).L = p.Rings.L :=
    Sl.L_ext (Nat.zero_add _) fun _ _ => rfl
  refine loop_wp (tt := tt_r09_Copy_3) (fun x : X_r09_Copy_3 => x.p_1 = p ∧ ∃ k : Nat, x.i_4 = k ∧ k ≤ p.Threads.n ∧ x.m_3.Rings.L = p.Rings.L ∧ x.m_3.Threads.n = k ∧ x.m_3.Threads.L.map Sl.L = (aP p).ts.take k) (fun x => (p.Threads.n - x.i_4).toNat)
    (fun _ y => aP y = aP p) (fun D x hI hD => ?_) ⟨rfl, 0, rfl, Nat.zero_le _, e0, rfl, rfl⟩
  obtain ⟨p', i, m2, ⟨mr, mt⟩⟩ := x
  obtain ⟨e0, k, e1, hk, hs, hn, hg⟩ := hI
  simp only at e0 e1 hs hn hg hD
  subst e0 e1 hn
  simp only [tt_r09_Copy_3]
  refine wp_if ilt_iff (fun h => ?_) fun h => ?_
  · have hkm : mt.n < p'.Threads.n := by omega
    have hln := h3 mt.n hkm
    rw [Int.toNat_natCast]
    refine wp_need (inb_nat hkm) (wp_need (by simp [room]; omega) (wp_need (by simp [room]; omega) ?_))
    have e3 : IntKind.i64.wrap ((mt.n : Int) + 1) = ((mt.n + 1 : Nat) : Int) := by rw [wrap64] <;> omega
    rw [e3]
    refine hD _ ⟨rfl, mt.n + 1, rfl, hkm, hs, rfl, ?_⟩ (by simp only; omega)
    show (Sl.mk (cond (Nat.beq 1 0) mt.nil false) (mt.n + 1) (cpF mt (p'.Threads.get mt.n))).L.map Sl.L = _
    rw [cp_push, hg, ts_take hkm]
  · have : mt.n = p'.Threads.n := by omega
    show (⟨mr.L, mt.L.map Sl.L⟩ : MPg) = _
    rw [hs, hg, List.take_of_length_le (by rw [aP_ts]; omega)]; rfl
theorem wfP_of {y p : TApi_Program} (h : aP y = aP p) (w : WfP p) : WfP y := by
  have e := eqP_iff.2 h
  refine ⟨by rw [e.rn]; exact w.rn, by rw [e.tn]; exact w.tn, fun t ht => by rw [(e.t t ht).1]; exact w.ln t (e.tn ▸ ht), fun t ht k hk => ?_⟩
  rw [(e.t t ht).2 k hk]
  exact w.i t (e.tn ▸ ht) k ((e.t t ht).1 ▸ hk)
theorem wfP_list {q : MPg} {y : TApi_Program} (h : aP y = q) (hq : ListOk q) : WfP y := by
  subst h
  have s := small_of hq
  have big : (256 : Nat) ≤ maxLen := by decide
  refine ⟨by have := s.r; simp only [maxLen]; omega, by have := s.t; simp only [maxLen]; omega, fun t ht => by have := s.l t ht; omega, fun t ht k hk => ?_⟩
  exact ((hq.t _ (ts_mem.2 ⟨t, ht, rfl⟩)).2 _ (Sl.mem_L.2 ⟨k, hk, rfl⟩)).2
theorem awake_ev : D_w10_awake.ev 1000 PUnit.unit = some true := by kernel_rfl
theorem w_awake : D_w10_awake.wp PUnit.unit fun y => y = true := ⟨true, D_w10_awake.evOK _ _ _ awake_ev, rfl⟩
theorem beq_iff' {a b : Bool} : (a == b) = true ↔ (a = true ↔ b = true) := by cases a <;> cases b <;> simp
/-! ### ListingPrints -/
theorem w_Prints_7 {p : TApi_Program} {s : ByteArray} {e : Int} (w : WfP p) (h1 : ListOk (aP p) → s = mkB (txP (aP p)) ∧ e = 0) (h2 : ¬ ListOk (aP p) → s = ByteArray.mk #[] ∧ e = 1) : D_w10_ListingPrints_7.wp (⟨p, s, e⟩ : X_w10_ListingPrints_7) fun y => y = true := by
  refine of_wp ?_
  simp only [tt_w10_ListingPrints_7]
  refine wp_call (w_r10_Listed w) fun (y : Bool) hy => wp_if (p := ¬ ListOk (aP p)) (by rw [bnot_iff, hy]) (fun h => ?_) fun h => ?_
  · obtain ⟨rfl, rfl⟩ := h2 h
    exact wp_ite (fun _ => rfl) fun q => absurd (seq_iff.2 rfl) q
  · have h := Classical.byContradiction h
    obtain ⟨rfl, rfl⟩ := h1 h
    refine wp_call (w_r10_Print w h) fun (y : ByteArray) hy => ?_
    subst hy
    exact wp_ite (fun _ => rfl) fun q => absurd (seq_iff.2 rfl) q
theorem law_ListingPrints {p : TApi_Program} {i : TApi_Instr} (w : WfP p) (wi : WfI i) : D_w10_ListingPrints.wp (p, i) fun y => y = true := by
  refine of_wp ?_
  simp only [tt_w10_ListingPrints]
  refine wp_call w_awake fun (y : Bool) hy => ?_
  subst hy
  refine wp_ite (fun h => by cases h) fun _ => wp_call (w_Few p 100 (by decide) w) fun (y : Bool) hy => wp_if (p := ¬ y = true) bnot_iff (fun _ => wp_call w_awake fun (y : Bool) hy => hy) fun hn => of_wp ?_
  have hf := hy (Classical.byContradiction hn)
  simp only [tt_w10_ListingPrints_3]
  refine wp_call (w_Copy hf) fun (c : TApi_Program) hc => ?_
  have hc : aP c = aP p := hc
  refine wp_call (w_listing_Print (wfP_of hc w)) fun (y2 : ByteArray × Int) h2 => wp_call (w_Line wi) fun (y3 : ByteArray × Int) h3 => wp_call (w_r09_Right i wi.ok) fun (y4 : Bool) h4 => ?_
  rw [hc] at h2
  have h7 : D_w10_ListingPrints_7.wp (⟨p, y2.1, y2.2⟩ : X_w10_ListingPrints_7) fun y => y = true := w_Prints_7 w (fun h => by rw [h2.1 h]; exact ⟨rfl, rfl⟩) fun h => by rw [h2.2 h]; exact ⟨rfl, rfl⟩
  by_cases hr : rightI i = true
  · rw [h3.1 hr, h4.2 hr]
    refine wp_ite (fun h => by cases h) fun _ => wp_ite (fun h => by cases h) fun _ => wp_ite (fun _ => wp_call (w_r10_Line hr wi) fun (y : ByteArray) hy => ?_) fun _ => h7
    subst hy
    exact wp_ite (fun h => absurd (seq_iff.2 rfl) (bnot_iff.1 h)) fun _ => h7
  · rw [h3.2 hr, show y4 = false from Bool.eq_false_iff.2 fun q => hr (h4.1 q)]
    exact wp_ite (fun h => by cases h) fun _ => wp_ite (fun _ => wp_ite (fun h => absurd (seq_iff.2 rfl) (bnot_iff.1 h)) fun _ => wp_ite (fun h => by cases h) fun _ => wp_ite (fun h => by cases h) fun _ => h7) fun _ => wp_ite (fun h => by cases h) fun _ => h7

/-! ### ListingReads -/
theorem law_ListingReads (s : ByteArray) : D_w10_ListingReads.wp s fun y => y = true := by
  refine of_wp ?_
  simp only [tt_w10_ListingReads]
  refine wp_call w_awake fun (y : Bool) hy => ?_
  subst hy
  refine wp_ite (fun h => by cases h) fun _ => wp_if ilt_iff (fun _ => wp_call w_awake fun (y : Bool) hy => hy) fun hn => of_wp ?_
  simp only [tt_w10_ListingReads_3]
  refine wp_call (w_listing_Read (s := s) (by omega)) fun (y1 : TApi_Program × Int × Int) h1 => wp_call (w_r10_Read (s := s) (by omega)) fun (y2 : TApi_Program × Int) h2 => ?_
  cases hR : rdP ⟨[], []⟩ 1 (spl 10 s.data.toList) with
  | inl q =>
    rw [hR] at h1 h2
    obtain ⟨a1, b1⟩ := h1
    obtain ⟨a2, b2⟩ := h2
    obtain ⟨hq, ht⟩ := rdP_whole hR
    have w1 := wfP_list a1 hq
    rw [← a1] at hq
    refine wp_ite (fun h => by rw [b2] at h; cases h) fun _ => wp_call (w_listing_Print w1) fun (y3 : ByteArray × Int) h3 => ?_
    have e3 := h3.1 hq
    rw [a1, ht, mkB_list] at e3
    rw [e3, b1]
    refine wp_ite (fun _ => wp_ite (fun _ => wp_call (w_r09_Same w1.rn w1.tn w1.ln) fun (y4 : Bool) h4 => ?_) fun h => absurd rfl h) fun h => absurd rfl h
    rw [h4.2 (a1.trans a2.symm)]
    exact wp_ite (fun _ => wp_ite (fun _ => rfl) fun h => absurd (seq_iff.2 rfl) h) fun h => absurd rfl h
  | inr n =>
    rw [hR] at h1 h2
    have h1 : y1 = (emP, (n : Int), 3) := h1
    have h2 : y2 = (emP, (n : Int)) := h2
    have hn0 : n ≠ 0 := by
      have : ∀ (P : List (List UInt8)) (p : MPg) (k m : Nat), rdP p k P = .inr m → k ≤ m := by
        intro P
        induction P with
        | nil => intro p k m h; cases h
        | cons l r ih =>
          intro p k m h
          cases r with
          | nil =>
            rw [rdP] at h
            split at h
            · cases h
            · cases h; exact Nat.le_refl _
          | cons l2 r =>
            rw [rdP] at h
            split at h
            · have := ih _ _ _ h; omega
            · cases h; exact Nat.le_refl _
      have := this _ _ _ _ hR
      omega
    rw [h1, h2]
    refine wp_if (p := ¬ (n : Int) = 0) (by rw [bnot_iff]; exact not_congr ieq_iff) (fun _ => wp_ite (fun _ => wp_if ieq_iff (fun _ => wp_call (w_r09_Same (a := emP) (b := emP) (Nat.zero_le _) (Nat.zero_le _) fun t ht => absurd ht (Nat.not_lt_zero _)) fun (y : Bool) hy => hy.2 rfl) fun h => absurd rfl h) fun h => absurd rfl h) fun h => absurd (by omega) h

/-! ### ListingBack -/
theorem law_ListingBack {p : TApi_Program} (w : WfP p) : D_w10_ListingBack.wp p fun y => y = true := by
  refine of_wp ?_
  simp only [tt_w10_ListingBack]
  refine wp_call w_awake fun (y : Bool) hy => ?_
  subst hy
  refine wp_ite (fun h => by cases h) fun _ => wp_call (w_Few p 100 (by decide) w) fun (y : Bool) hy => wp_if (p := ¬ y = true) bnot_iff (fun _ => wp_call w_awake fun (y : Bool) hy => hy) fun hn => wp_call (w_r10_Listed w) fun (y : Bool) hy => wp_if (p := ¬ ListOk (aP p)) (by rw [bnot_iff, hy]) (fun _ => wp_call w_awake fun (y : Bool) hy => hy) fun hL => of_wp ?_
  have hL := Classical.byContradiction hL
  simp only [tt_w10_ListingBack_3]
  refine wp_call (w_listing_Print w) fun (y1 : ByteArray × Int) h1 => ?_
  rw [h1.1 hL]
  have hlen := tx_len hL
  refine wp_call (w_listing_Read (s := mkB (txP (aP p))) (by rw [mkB_size]; omega)) fun (y2 : TApi_Program × Int × Int) h2 => ?_
  rw [mkB_data, rdP_back hL] at h2
  obtain ⟨a, b⟩ := h2
  rw [b]
  refine wp_ite (fun _ => wp_ite (fun _ => wp_ite (fun _ => wp_call (w_r09_Same w.rn w.tn w.ln) fun (y : Bool) hy => hy.2 a.symm) fun h => absurd rfl h) fun h => absurd rfl h) fun h => absurd rfl h

/-! ### ListingOne -/
theorem law_ListingOne {p q : TApi_Program} (w : WfP p) (v : WfP q) : D_w10_ListingOne.wp (p, q) fun y => y = true := by
  refine of_wp ?_
  simp only [tt_w10_ListingOne]
  refine wp_call w_awake fun (y : Bool) hy => ?_
  subst hy
  refine wp_ite (fun h => by cases h) fun _ => wp_call (w_Few p 100 (by decide) w) fun (y : Bool) hy => wp_if (p := ¬ y = true) bnot_iff (fun _ => wp_call w_awake fun (y : Bool) hy => hy) fun _ =>
    wp_call (w_Few q 100 (by decide) v) fun (y : Bool) hy => wp_if (p := ¬ y = true) bnot_iff (fun _ => wp_call w_awake fun (y : Bool) hy => hy) fun _ =>
    wp_call (w_r10_Listed w) fun (y : Bool) hy => wp_if (p := ¬ ListOk (aP p)) (by rw [bnot_iff, hy]) (fun _ => wp_call w_awake fun (y : Bool) hy => hy) fun hp =>
    wp_call (w_r10_Listed v) fun (y : Bool) hy => wp_if (p := ¬ ListOk (aP q)) (by rw [bnot_iff, hy]) (fun _ => wp_call w_awake fun (y : Bool) hy => hy) fun hq => of_wp ?_
  have hp := Classical.byContradiction hp
  have hq := Classical.byContradiction hq
  simp only [tt_w10_ListingOne_3]
  refine wp_call (w_listing_Print w) fun (y1 : ByteArray × Int) h1 => wp_call (w_listing_Print v) fun (y2 : ByteArray × Int) h2 => ?_
  rw [h1.1 hp, h2.1 hq]
  refine wp_ite (fun _ => wp_ite (fun _ => wp_call (w_r09_Same w.rn w.tn w.ln) fun (y : Bool) hy => beq_iff'.2 ?_) fun h => absurd rfl h) fun h => absurd rfl h
  rw [seq_iff, hy]
  exact ⟨fun h => tx_inj hp hq (mkB_inj h), fun h => by rw [h]⟩
/-! ### Counting lines' ends -/
theorem count_take (s : List UInt8) {k : Nat} (h : k < s.length) : (s.take (k + 1)).count 10 = (s.take k).count 10 + if s[k] = 10 then 1 else 0 := by
  rw [List.take_add_one, List.getElem?_eq_getElem h, List.count_append]
  congr 1
  by_cases q : s[k] = 10
  · rw [if_pos q, q]; rfl
  · rw [if_neg q]
    exact List.count_eq_zero.2 (by simpa using fun e => q e.symm)
theorem tx_count {q : MPg} (h : ListOk q) : (txP q).count 10 = (lns q).length := lnsT_count (lns_no h)

/-! ### ListingPlace -/
theorem w_Place_20 {p : TApi_Program} {bad more : ByteArray} {n : Nat} (hL : ListOk (aP p)) (hb : bad.size ≤ 60) (hm : more.size ≤ 100) (h10 : (10 : UInt8) ∉ bad.data.toList) (ht : tk (aP p) bad.data.toList = none) (hn : n = 1 + (lns (aP p)).length) :
    D_w10_ListingPlace_20.wp (⟨bad, more, mkB (txP (aP p)), (n : Int)⟩ : X_w10_ListingPlace_20) fun y => y = true := by
  have hlen := tx_len hL
  have l1 := data_len bad
  have l2 := data_len more
  have nl : (ByteArray.mk #[10] : ByteArray) = mkB [10] := rfl
  have e : ((mkB (txP (aP p)) ++ bad) ++ mkB [10]) ++ more = mkB (txP (aP p) ++ (bad.data.toList ++ 10 :: more.data.toList)) := by
    conv => lhs; rw [← mkB_list bad, ← mkB_list more]
    rw [mkB_app, mkB_app, mkB_app]
    simp
  refine of_wp ?_
  simp only [tt_w10_ListingPlace_20, nl]
  refine nd1 (by rw [mkB_size]; omega) (nd1 (by rw [ByteArray.size_append, mkB_size, mkB_size, List.length_singleton]; omega) (nd1 (by rw [ByteArray.size_append, ByteArray.size_append, mkB_size, mkB_size, List.length_singleton]; omega) ?_))
  rw [e]
  refine wp_call (w_listing_Read (by rw [mkB_size]; simp; omega)) fun (y : TApi_Program × Int × Int) hy => ?_
  rw [mkB_data, rdP_pre hL, rdP_line h10, ht] at hy
  have hy : y = (emP, ((1 + (lns (aP p)).length : Nat) : Int), 3) := hy
  rw [hy, hn]
  exact wp_ite (fun _ => ieq_iff.2 rfl) fun h => absurd rfl h
theorem w_Place_15 {p : TApi_Program} {bad more : ByteArray} (hL : ListOk (aP p)) (hb : bad.size ≤ 60) (hm : more.size ≤ 100) (h10 : (10 : UInt8) ∉ bad.data.toList) (ht : tk (aP p) bad.data.toList = none) :
    D_w10_ListingPlace_15.wp (⟨bad, more, mkB (txP (aP p)), 1, ((mkB (txP (aP p))).size : Nat), 0⟩ : X_w10_ListingPlace_15) fun y => y = true := by
  have hlen := tx_len hL
  rw [mkB_size]
  have e0 : (1 : Int) = ((1 + ((txP (aP p)).take 0).count 10 : Nat) : Int) := by simp
  rw [e0]
  refine count_wp (fun k => (⟨bad, more, mkB (txP (aP p)), ((1 + ((txP (aP p)).take k).count 10 : Nat) : Int), ((txP (aP p)).length : Nat), (k : Nat)⟩ : X_w10_ListingPlace_15)) (txP (aP p)).length (fun _ => True) _ (fun D _ => ?_) (fun D k hk _ hD => ?_) (Nat.zero_le _) trivial
  · simp only [tt_w10_ListingPlace_15, ilt_nat, Nat.lt_irrefl, decide_false, wp_false]
    refine w_Place_20 hL hb hm h10 ht ?_
    rw [List.take_length, tx_count hL]
  · have hc := count_take (txP (aP p)) hk
    have hcl := List.count_le_length (a := (10 : UInt8)) (l := (txP (aP p)).take k)
    rw [List.length_take] at hcl
    have h19 : ∀ m : Int, m = ((1 + ((txP (aP p)).take (k + 1)).count 10 : Nat) : Int) → (D_w10_ListingPlace_19 D).wp (⟨bad, more, mkB (txP (aP p)), m, ((txP (aP p)).length : Nat), (k : Nat)⟩ : X_w10_ListingPlace_19) fun y => y = true := fun m hm => by
      subst hm
      refine of_wp ?_
      simp only [tt_w10_ListingPlace_19, next64 hk (show (txP (aP p)).length ≤ maxLen by simp only [maxLen]; omega)]
      exact hD trivial
    simp only [tt_w10_ListingPlace_15, ilt_nat, hk, decide_true, wp_true, mkB_size, inb_nat hk, wp_need_true, Int.toNat_natCast, bt_mkB hk]
    refine wp_if (p := (txP (aP p))[k] = 10) (ieq_iff.trans (u8_of (n := 10) (by omega))) (fun q => h19 _ ?_) fun q => h19 _ ?_
    · rw [hc, if_pos q, wrap64 (by omega) (by omega)]; omega
    · rw [hc, if_neg q]; rfl
theorem law_ListingPlace {p : TApi_Program} {bad more : ByteArray} (w : WfP p) : D_w10_ListingPlace.wp (p, bad, more) fun y => y = true := by
  refine of_wp ?_
  simp only [tt_w10_ListingPlace]
  refine wp_call w_awake fun (y : Bool) hy => ?_
  subst hy
  refine wp_ite (fun h => by cases h) fun _ => wp_call (w_Few p 60 (by decide) w) fun (y : Bool) hy => wp_if (p := ¬ y = true) bnot_iff (fun _ => wp_call w_awake fun (y : Bool) hy => hy) fun hn => wp_call (w_r10_Listed w) fun (y : Bool) hy => wp_if (p := ¬ ListOk (aP p)) (by rw [bnot_iff, hy]) (fun _ => wp_call w_awake fun (y : Bool) hy => hy) fun hL =>
    wp_if ilt_iff (fun _ => wp_call w_awake fun (y : Bool) hy => hy) fun hb => wp_if ilt_iff (fun _ => wp_call w_awake fun (y : Bool) hy => hy) fun hm => wp_if ieq_iff (fun _ => wp_call w_awake fun (y : Bool) hy => hy) fun _ => of_wp ?_
  have hL := Classical.byContradiction hL
  have hb : bad.size ≤ 60 := by have hb : ¬ (60 : Int) < (bad.size : Int) := hb; omega
  have hm : more.size ≤ 100 := by have hm : ¬ (100 : Int) < (more.size : Int) := hm; omega
  have l1 := data_len bad
  have hlen := tx_len hL
  simp only [tt_w10_ListingPlace_3]
  refine all_wp (fun k => (⟨bad, more, p, (bad.size : Nat), (k : Nat)⟩ : X_w10_ListingPlace_4)) bad.size (fun k => ∀ h : k < bad.data.toList.length, bad.data.toList[k] ≠ 10) _ (fun D hJ => ?_) (fun D k hk _ hD => ?_)
  · simp only [tt_w10_ListingPlace_4, ilt_nat, Nat.lt_irrefl, decide_false, wp_false]
    have h10 : (10 : UInt8) ∉ bad.data.toList := fun q => by
      obtain ⟨k, hk, e⟩ := List.mem_iff_getElem.1 q
      exact hJ k (by omega) hk e
    refine of_wp ?_
    have nl : (ByteArray.mk #[10] : ByteArray) = mkB [10] := rfl
    simp only [tt_w10_ListingPlace_9, nl]
    refine wp_call (w_r10_Print w hL) fun (y : ByteArray) hy => ?_
    subst hy
    have e : (mkB (txP (aP p)) ++ bad) ++ mkB [10] = mkB (txP (aP p) ++ (bad.data.toList ++ 10 :: [])) := by
      conv => lhs; rw [← mkB_list bad]
      rw [mkB_app, mkB_app]
      simp
    refine nd1 (by rw [mkB_size]; omega) (nd1 (by rw [ByteArray.size_append, mkB_size, mkB_size, List.length_singleton]; omega) ?_)
    rw [e]
    refine wp_call (w_r10_Read (by rw [mkB_size]; simp; omega)) fun (y : TApi_Program × Int) hy => ?_
    rw [mkB_data, rdP_pre hL, rdP_line h10] at hy
    cases ht : tk (aP p) bad.data.toList with
    | none => exact wp_ite (fun _ => rfl) fun _ => w_Place_15 hL hb hm h10 ht
    | some q =>
      rw [ht] at hy
      simp only at hy
      rw [rdP_last (a := []) (by simp)] at hy
      have hy : aP y.1 = q ∧ y.2 = 0 := hy
      exact wp_ite (fun _ => rfl) fun h => absurd (ieq_iff.2 hy.2) h
  · simp only [tt_w10_ListingPlace_4, ilt_nat, hk, decide_true, wp_true, inb_nat hk, wp_need_true, Int.toNat_natCast, next64 hk (show bad.size ≤ maxLen by simp only [maxLen]; omega), bt_data (show k < bad.data.toList.length by omega)]
    exact wp_if (p := bad.data.toList[k] = 10) (ieq_iff.trans (u8_of (n := 10) (by omega))) (fun _ => rfl) fun q => hD fun _ => q

/-! ### ListingLines -/
theorem drop_end {a b : List UInt8} : (a ++ b).drop ((a ++ b).length - b.length) = b := by
  rw [List.length_append, Nat.add_sub_cancel, List.drop_left]
theorem w_Lines_31 {p : TApi_Program} (hL : ListOk (aP p)) : D_w10_ListingLines_31.wp (⟨mkB (txP (aP p)), 0, ((lns (aP p)).length : Nat), mkB (lnsT (lnsTs (aP p).ts)), ((lns (aP p)).length : Nat)⟩ : X_w10_ListingLines_31) fun y => y = true := by
  have hlen := tx_len hL
  have e : txP (aP p) = lnsT ((aP p).rs.map hdL) ++ lnsT (lnsTs (aP p).ts) := lnsT_app _ _
  have hle : (lnsT (lnsTs (aP p).ts)).length ≤ (txP (aP p)).length := by rw [e, List.length_append]; omega
  refine of_wp ?_
  simp only [tt_w10_ListingLines_31, mkB_size]
  have hw : IntKind.i64.wrap (((txP (aP p)).length : Int) - ((lnsT (lnsTs (aP p).ts)).length : Int)) = (((txP (aP p)).length - (lnsT (lnsTs (aP p).ts)).length : Nat) : Int) := by rw [wrap64 (by omega) (by omega)]; omega
  rw [hw]
  refine wp_ite (fun _ => wp_if ieq_iff (fun _ => wp_if ile_iff (fun _ => wp_need (by rw [upto_iff]; omega) (seq_iff.2 ?_)) fun h => absurd (by omega) h) fun h => absurd rfl h) fun h => absurd rfl h
  rw [Int.toNat_natCast]
  refine ext_mkB (t := []) ?_ (by omega)
  rw [mkB_data, List.append_nil, e]
  exact drop_end
theorem w_Lines_24 {p : TApi_Program} (hL : ListOk (aP p)) : D_w10_ListingLines_24.wp (⟨mkB (txP (aP p)), 0, ((lns (aP p)).length : Nat), mkB (lnsT (lnsTs (aP p).ts))⟩ : X_w10_ListingLines_24) fun y => y = true := by
  have hlen := tx_len hL
  refine of_wp ?_
  simp only [tt_w10_ListingLines_24, mkB_size]
  have e0 : (0 : Int) = ((((txP (aP p)).take 0).count 10 : Nat) : Int) := by simp
  have key : D_w10_ListingLines_26.wp (⟨mkB (txP (aP p)), 0, ((lns (aP p)).length : Nat), mkB (lnsT (lnsTs (aP p).ts)), ((((txP (aP p)).take 0).count 10 : Nat) : Int), ((txP (aP p)).length : Nat), ((0 : Nat) : Int)⟩ : X_w10_ListingLines_26) fun y => y = true := by
    refine count_wp (fun k => (⟨mkB (txP (aP p)), 0, ((lns (aP p)).length : Nat), mkB (lnsT (lnsTs (aP p).ts)), ((((txP (aP p)).take k).count 10 : Nat) : Int), ((txP (aP p)).length : Nat), (k : Nat)⟩ : X_w10_ListingLines_26)) (txP (aP p)).length (fun _ => True) _ (fun D _ => ?_) (fun D k hk _ hD => ?_) (Nat.zero_le _) trivial
    · simp only [tt_w10_ListingLines_26, ilt_nat, Nat.lt_irrefl, decide_false, wp_false]
      have := w_Lines_31 hL
      rw [← tx_count hL] at this
      rw [List.take_length, ← tx_count hL]
      exact this
    · have hc := count_take (txP (aP p)) hk
      have hcl := List.count_le_length (a := (10 : UInt8)) (l := (txP (aP p)).take k)
      rw [List.length_take] at hcl
      have h30 : ∀ m : Int, m = ((((txP (aP p)).take (k + 1)).count 10 : Nat) : Int) → (D_w10_ListingLines_30 D).wp (⟨mkB (txP (aP p)), 0, ((lns (aP p)).length : Nat), mkB (lnsT (lnsTs (aP p).ts)), m, ((txP (aP p)).length : Nat), (k : Nat)⟩ : X_w10_ListingLines_30) fun y => y = true := fun m hm => by
        subst hm
        refine of_wp ?_
        simp only [tt_w10_ListingLines_30, next64 hk (show (txP (aP p)).length ≤ maxLen by simp only [maxLen]; omega)]
        exact hD trivial
      simp only [tt_w10_ListingLines_26, ilt_nat, hk, decide_true, wp_true, mkB_size, inb_nat hk, wp_need_true, Int.toNat_natCast, bt_mkB hk]
      refine wp_if (p := (txP (aP p))[k] = 10) (ieq_iff.trans (u8_of (n := 10) (by omega))) (fun q => h30 _ ?_) fun q => h30 _ ?_
      · rw [hc, if_pos q, wrap64 (by omega) (by omega)]; rfl
      · rw [hc, if_neg q]; rfl
  exact key
theorem w_Lines_9 {p : TApi_Program} (w : WfP p) (hL : ListOk (aP p)) : D_w10_ListingLines_9.wp (⟨p, mkB (txP (aP p)), 0, (p.Rings.n : Nat), ByteArray.mk #[]⟩ : X_w10_ListingLines_9) fun y => y = true := by
  have hW := ((listOk_iff w).1 hL).2
  have hlen := tx_len hL
  have hnn := lns_n hL
  have szs : ∀ {A B : List UInt8}, A.length ≤ 400000 → B.length ≤ 200 → (mkB A).size + (mkB B).size ≤ (9223372036854775807 : Nat) := fun a b => by rw [mkB_size, mkB_size]; omega
  have ln1 : (lns (aP p)).length = p.Rings.n + (lnsTs (aP p).ts).length := by rw [lns, List.length_append, List.length_map, aP_rs]
  have pre : ∀ {A B : List (List UInt8)}, lnsTs (aP p).ts = A ++ B → (lnsT A).length ≤ 400000 ∧ p.Rings.n + A.length ≤ 2064 := fun {A B} e => by
    have e1 : txP (aP p) = lnsT ((aP p).rs.map hdL) ++ lnsT (lnsTs (aP p).ts) := lnsT_app _ _
    rw [e1, e, lnsT_app, List.length_append, List.length_append] at hlen
    rw [ln1, e, List.length_append] at hnn
    omega
  refine of_wp ?_
  simp only [tt_w10_ListingLines_9]
  have key : D_w10_ListingLines_10.wp (⟨mkB (txP (aP p)), 0, ((p.Rings.n + (lnsTs ((aP p).ts.take 0)).length : Nat) : Int), mkB (lnsT (lnsTs ((aP p).ts.take 0))), p.Threads, (p.Threads.n : Nat), ((0 : Nat) : Int)⟩ : X_w10_ListingLines_10) fun y => y = true := by
    refine count_wp (fun t => (⟨mkB (txP (aP p)), 0, ((p.Rings.n + (lnsTs ((aP p).ts.take t)).length : Nat) : Int), mkB (lnsT (lnsTs ((aP p).ts.take t))), p.Threads, (p.Threads.n : Nat), (t : Nat)⟩ : X_w10_ListingLines_10)) p.Threads.n (fun _ => True) _ (fun D _ => ?_) (fun D t ht _ hD => ?_) (Nat.zero_le _) trivial
    · simp only [tt_w10_ListingLines_10, ilt_nat, Nat.lt_irrefl, decide_false, wp_false]
      have e : (aP p).ts.take p.Threads.n = (aP p).ts := List.take_of_length_le (by rw [aP_ts]; exact Nat.le_refl _)
      rw [e, ← ln1]
      exact w_Lines_24 hL
    · have sp1 : lnsTs (aP p).ts = lnsTs ((aP p).ts.take t) ++ lnsTs ((aP p).ts.drop t) := by rw [← lnsTs_app, List.take_append_drop]
      have sp2 : ∀ k, lnsTs (aP p).ts = (lnsTs ((aP p).ts.take t) ++ thrL :: ((p.Threads.get t).L.take k).map lnL) ++ (((p.Threads.get t).L.drop k).map lnL ++ lnsTs ((aP p).ts.drop (t + 1))) := fun k => by
        have e : (p.Threads.get t).L.map lnL = ((p.Threads.get t).L.take k).map lnL ++ ((p.Threads.get t).L.drop k).map lnL := by rw [← List.map_append, List.take_append_drop]
        rw [sp1, ts_drop ht, show lnsTs ((p.Threads.get t).L :: (aP p).ts.drop (t + 1)) = (thrL :: (p.Threads.get t).L.map lnL) ++ lnsTs ((aP p).ts.drop (t + 1)) from by simp [lnsTs], e]
        simp only [List.append_assoc, List.cons_append]
      have et : (ByteArray.mk #[116, 104, 114, 101, 97, 100, 10] : ByteArray) = mkB (thrL ++ [10]) := rfl
      have p1 := pre sp1
      simp only [tt_w10_ListingLines_10, ilt_nat, ht, decide_true, wp_true, inb_nat ht, wp_need_true, Int.toNat_natCast, et, mkB_app]
      refine nd1 (szs p1.1 (by decide)) ?_
      have en : IntKind.i64.wrap (((p.Rings.n + (lnsTs ((aP p).ts.take t)).length : Nat) : Int) + 1) = ((p.Rings.n + (lnsTs ((aP p).ts.take t) ++ thrL :: ((p.Threads.get t).L.take 0).map lnL).length : Nat) : Int) := by
        rw [wrap64 (by omega) (by omega), List.take_zero, List.map_nil, List.length_append, List.length_singleton]; omega
      have ew : lnsT (lnsTs ((aP p).ts.take t)) ++ (thrL ++ [10]) = lnsT (lnsTs ((aP p).ts.take t) ++ thrL :: ((p.Threads.get t).L.take 0).map lnL) := by
        rw [List.take_zero, List.map_nil, lnsT_app, lnsT_one]
      rw [en, ew]
      refine count_wp (fun k => (⟨mkB (txP (aP p)), 0, ((p.Rings.n + (lnsTs ((aP p).ts.take t) ++ thrL :: ((p.Threads.get t).L.take k).map lnL).length : Nat) : Int), mkB (lnsT (lnsTs ((aP p).ts.take t) ++ thrL :: ((p.Threads.get t).L.take k).map lnL)), p.Threads, (p.Threads.n : Nat), (t : Nat), p.Threads.get t, ((p.Threads.get t).n : Nat), (k : Nat)⟩ : X_w10_ListingLines_15))
        (p.Threads.get t).n (fun _ => True) _ (fun D5 _ => ?_) (fun D5 k hk _ hD5 => ?_) (Nat.zero_le _) trivial
      · simp only [tt_w10_ListingLines_15, ilt_nat, Nat.lt_irrefl, decide_false, wp_false]
        refine of_wp ?_
        simp only [tt_w10_ListingLines_23, next64 ht w.tn]
        have := hD trivial
        rw [ts_take ht, lnsTs_app, lnsTs_one] at this
        rw [List.take_of_length_le (l := (p.Threads.get t).L) (by rw [Sl.L_length]; exact Nat.le_refl _)]
        exact this
      · simp only [tt_w10_ListingLines_15, ilt_nat, hk, decide_true, wp_true, inb_nat hk, wp_need_true, Int.toNat_natCast, next64 hk (w.ln t ht)]
        have hr := (hW.t t ht).2 k hk
        have wi := w.i t ht k hk
        have p2 := pre (sp2 k)
        refine wp_call (w_Line wi) fun (y : ByteArray × Int) hy => ?_
        rw [hy.1 hr]
        have hl := lnL_len hr wi
        have e2 : lnB ((p.Threads.get t).get k) ++ ByteArray.mk #[10] = mkB (lnL ((p.Threads.get t).get k) ++ [10]) := mkB_app _ [10]
        refine wp_ite (fun h => by cases h) fun _ => nd1 (szs (A := lnL ((p.Threads.get t).get k)) (B := [10]) (by omega) (by decide)) ?_
        simp only [e2, mkB_app]
        refine nd1 (szs p2.1 (by simp; omega)) ?_
        have := hD5 trivial
        rw [L_take _ hk, List.map_append, List.map_singleton, ← List.cons_append, ← List.append_assoc, lnsT_app _ [lnL ((p.Threads.get t).get k)], lnsT_one, List.length_append (bs := [lnL ((p.Threads.get t).get k)])] at this
        have en2 : IntKind.i64.wrap (((p.Rings.n + (lnsTs ((aP p).ts.take t) ++ thrL :: ((p.Threads.get t).L.take k).map lnL).length : Nat) : Int) + 1) = ((p.Rings.n + ((lnsTs ((aP p).ts.take t) ++ thrL :: ((p.Threads.get t).L.take k).map lnL).length + [lnL ((p.Threads.get t).get k)].length) : Nat) : Int) := by
          rw [wrap64 (by omega) (by omega), List.length_singleton]; omega
        rw [en2]
        exact this
  exact key
theorem law_ListingLines {p : TApi_Program} (w : WfP p) : D_w10_ListingLines.wp p fun y => y = true := by
  refine of_wp ?_
  simp only [tt_w10_ListingLines]
  refine wp_call w_awake fun (y : Bool) hy => ?_
  subst hy
  refine wp_ite (fun h => by cases h) fun _ => wp_call (w_Few p 100 (by decide) w) fun (y : Bool) hy => wp_if (p := ¬ y = true) bnot_iff (fun _ => wp_call w_awake fun (y : Bool) hy => hy) fun hn => wp_call (w_r10_Listed w) fun (y : Bool) hy => wp_if (p := ¬ ListOk (aP p)) (by rw [bnot_iff, hy]) (fun _ => wp_call w_awake fun (y : Bool) hy => hy) fun hL => of_wp ?_
  have hL := Classical.byContradiction hL
  simp only [tt_w10_ListingLines_3]
  refine wp_call (w_listing_Print w) fun (y1 : ByteArray × Int) h1 => ?_
  rw [h1.1 hL]
  refine count_wp (fun k => (⟨p, mkB (txP (aP p)), 0, (k : Nat), ByteArray.mk #[], (p.Rings.n : Nat), (k : Nat)⟩ : X_w10_ListingLines_6)) p.Rings.n (fun _ => True) _ (fun D _ => ?_) (fun D k hk _ hD => ?_) (Nat.zero_le _) trivial
  · simp only [tt_w10_ListingLines_6, ilt_nat, Nat.lt_irrefl, decide_false, wp_false]
    exact w_Lines_9 w hL
  · simp only [tt_w10_ListingLines_6, ilt_nat, hk, decide_true, wp_true, next64 hk w.rn]
    exact hD trivial
def ok_TApi_Ring (x : TApi_Ring) : Prop := (fun n => (Lit.int .i64 n).wf = true) x.Kind ∧ (fun n => (Lit.int .i64 n).wf = true) x.Cap ∧ (fun n => (Lit.int .i64 n).wf = true) x.Readers ∧ True
noncomputable def fl_TApi_Ring_0 : Field := (flds Tryz.prog 51).toList.getD 0 default
noncomputable def fl_TApi_Ring_1 : Field := (flds Tryz.prog 51).toList.getD 1 default
noncomputable def fl_TApi_Ring_2 : Field := (flds Tryz.prog 51).toList.getD 2 default
theorem op_TApi_Ring : Opens Tryz.prog 51 e_TApi_Ring ok_TApi_Ring :=
  Opens.map (opens_struct (fs := flds Tryz.prog 51) (l := fl_TApi_Ring_0 :: fl_TApi_Ring_1 :: fl_TApi_Ring_2 :: []) (by kernel_rfl) (by kernel_rfl) (by kernel_rfl)
    (opens_cons (u := 3) (s := 1) (by kernel_rfl) (by kernel_rfl) (by kernel_rfl) (opens_int (k := .i64) (by kernel_rfl)) (opens_cons (u := 3) (s := 1) (by kernel_rfl) (by kernel_rfl) (by kernel_rfl) (opens_int (k := .i64) (by kernel_rfl)) (opens_cons (u := 3) (s := 1) (by kernel_rfl) (by kernel_rfl) (by kernel_rfl) (opens_int (k := .i64) (by kernel_rfl)) opens_nil)))) (fun x => ⟨x.1, x.2.1, x.2.2.1⟩) (fun _ => rfl) (fun _ h => h)

def ok_TApi_Instr (x : TApi_Instr) : Prop := (fun n => (Lit.int .i64 n).wf = true) x.Op ∧ (fun n => (Lit.int .i64 n).wf = true) x.A ∧ (fun n => (Lit.int .i64 n).wf = true) x.B ∧ (fun n => (Lit.int .i64 n).wf = true) x.C ∧ (fun n => (Lit.int .i64 n).wf = true) x.D ∧ (fun n => (Lit.int .u64 n).wf = true) x.K ∧ True
noncomputable def fl_TApi_Instr_0 : Field := (flds Tryz.prog 28).toList.getD 0 default
noncomputable def fl_TApi_Instr_1 : Field := (flds Tryz.prog 28).toList.getD 1 default
noncomputable def fl_TApi_Instr_2 : Field := (flds Tryz.prog 28).toList.getD 2 default
noncomputable def fl_TApi_Instr_3 : Field := (flds Tryz.prog 28).toList.getD 3 default
noncomputable def fl_TApi_Instr_4 : Field := (flds Tryz.prog 28).toList.getD 4 default
noncomputable def fl_TApi_Instr_5 : Field := (flds Tryz.prog 28).toList.getD 5 default
theorem op_TApi_Instr : Opens Tryz.prog 28 e_TApi_Instr ok_TApi_Instr :=
  Opens.map (opens_struct (fs := flds Tryz.prog 28) (l := fl_TApi_Instr_0 :: fl_TApi_Instr_1 :: fl_TApi_Instr_2 :: fl_TApi_Instr_3 :: fl_TApi_Instr_4 :: fl_TApi_Instr_5 :: []) (by kernel_rfl) (by kernel_rfl) (by kernel_rfl)
    (opens_cons (u := 3) (s := 1) (by kernel_rfl) (by kernel_rfl) (by kernel_rfl) (opens_int (k := .i64) (by kernel_rfl)) (opens_cons (u := 3) (s := 1) (by kernel_rfl) (by kernel_rfl) (by kernel_rfl) (opens_int (k := .i64) (by kernel_rfl)) (opens_cons (u := 3) (s := 1) (by kernel_rfl) (by kernel_rfl) (by kernel_rfl) (opens_int (k := .i64) (by kernel_rfl)) (opens_cons (u := 3) (s := 1) (by kernel_rfl) (by kernel_rfl) (by kernel_rfl) (opens_int (k := .i64) (by kernel_rfl)) (opens_cons (u := 3) (s := 1) (by kernel_rfl) (by kernel_rfl) (by kernel_rfl) (opens_int (k := .i64) (by kernel_rfl)) (opens_cons (u := 26) (s := 1) (by kernel_rfl) (by kernel_rfl) (by kernel_rfl) (opens_int (k := .u64) (by kernel_rfl)) opens_nil))))))) (fun x => ⟨x.1, x.2.1, x.2.2.1, x.2.2.2.1, x.2.2.2.2.1, x.2.2.2.2.2.1⟩) (fun _ => rfl) (fun _ h => h)

def ok_TApi_Program (x : TApi_Program) : Prop := (okSl ok_TApi_Ring) x.Rings ∧ (okSl (okSl ok_TApi_Instr)) x.Threads ∧ True
noncomputable def fl_TApi_Program_0 : Field := (flds Tryz.prog 25).toList.getD 0 default
noncomputable def fl_TApi_Program_1 : Field := (flds Tryz.prog 25).toList.getD 1 default
theorem op_TApi_Program : Opens Tryz.prog 25 e_TApi_Program ok_TApi_Program :=
  Opens.map (opens_struct (fs := flds Tryz.prog 25) (l := fl_TApi_Program_0 :: fl_TApi_Program_1 :: []) (by kernel_rfl) (by kernel_rfl) (by kernel_rfl)
    (opens_cons (u := 22) (s := 1) (by kernel_rfl) (by kernel_rfl) (by kernel_rfl) (opens_slice (e := 51) (s := 3) (d_TApi_Ring .undef) (by kernel_rfl) (by kernel_rfl) (by decide) (op_TApi_Ring)) (opens_cons (u := 23) (s := 1) (by kernel_rfl) (by kernel_rfl) (by kernel_rfl) (opens_slice (e := 47) (s := 1) (dsl_TApi_Instr .undef) (by kernel_rfl) (by kernel_rfl) (by decide) (opens_slice (e := 28) (s := 6) (d_TApi_Instr .undef) (by kernel_rfl) (by kernel_rfl) (by decide) (op_TApi_Instr))) opens_nil))) (fun x => ⟨x.1, x.2.1⟩) (fun _ => rfl) (fun _ h => h)
theorem given_Program : Given Tryz.prog 25 e_TApi_Program ok_TApi_Program := given_struct (fs := flds Tryz.prog 25) (by kernel_rfl) op_TApi_Program (fun _ => rfl) (fun _ => rfl)
theorem given_Instr : Given Tryz.prog 28 e_TApi_Instr ok_TApi_Instr := given_struct (fs := flds Tryz.prog 28) (by kernel_rfl) op_TApi_Instr (fun _ => rfl) (fun _ => rfl)
theorem given_Str : Given Tryz.prog 9 V.str (fun s => s.size ≤ maxLen) := given_leaf (cells_str (by kernel_rfl)) (opens_str (by kernel_rfl)) (fun _ => rfl) (fun _ => rfl)
theorem wfI_of {e : TApi_Instr} (h : ok_TApi_Instr e) : WfI e := by
  obtain ⟨o, a, b, c, d, k, _⟩ := h
  exact ⟨wf_i64 o, wf_i64 a, wf_i64 b, wf_i64 c, wf_i64 d, wf_u64 k⟩
theorem wfPr_of {p : TApi_Program} (h : ok_TApi_Program p) : WfP p := by
  obtain ⟨⟨_, rn, _⟩, ⟨_, tn, tt⟩, _⟩ := h
  exact ⟨rn, tn, fun t ht => (tt t ht).2.1, fun t ht k hk => wfI_of ((tt t ht).2.2 k hk)⟩


open Go.ChangeShapes Go.WideShapes Go.ChangeAt Go.RowKit

theorem Tryz.own : ownKnob Tryz.prog.godebug = none := by kernel_rfl
theorem Tryz.laidOut : laidOutB Tryz.prog = true := by kernel_rfl
theorem Tryz.rowed : mapsRowed Tryz.prog = true := by kernel_rfl
theorem Tryz.full : ∀ t e, t < Tryz.prog.types.size → Tryz.prog.underlying t = some (.slice e) → 0 < Tryz.prog.cellsOf e := slices_full_of Tryz.prog (by kernel_rfl)
def zeroInstr : Value := .agg #[.int .i64 0, .int .i64 0, .int .i64 0, .int .i64 0, .int .i64 0, .int .u64 0]
def zeroProgram : Value := .agg #[.slice none 0 0, .slice none 0 0]

/-! ### What the library's variables hold -/
theorem var_heap {W : World} {n : String} {g : Nat} {c : Array Value} (hg : Tryz.prog.globalNamed n = some g) (h : W.var? Tryz.prog n = some c) : ∃ t fr, W.heap[g]? = some (.cells c t fr) := by
  unfold World.var? at h
  rw [hg] at h
  simp only [Option.bind_some] at h
  split at h
  · cases h; rename_i hh; exact ⟨_, _, hh⟩
  · cases h
theorem star : "*" ++ "errors.errorString" = "*errors.errorString" := by decide
theorem row152 (u : TypeId) (h : Tryz.prog.typeName? 3 u = some "*errors.errorString") : u = 152 :=
  typeName_ptr_named (nm := "errors.errorString") (by rw [star]; kernel_rfl) (by kernel_rfl) (by decide) u (by rw [star]; exact h)
theorem mem_known1 {P : Program} {n : String} {ok : Array Value → Prop} {x : Known} (h : x ∈ known1 P n ok) : ∃ g, P.globalNamed n = some g ∧ x = ⟨g, ok⟩ := by
  unfold known1 at h
  split at h
  · rename_i g hg; exact ⟨g, hg, List.mem_singleton.1 h⟩
  · cases h
theorem holds_of {W : World} (hL : laidMetH Tryz.prog Rows.listingPrintsRow.laid W) (hsh : W.ShapedOpen Tryz.prog) : Holds Tryz.prog W := by
  rw [MakeChecks.laidMetH_plain _ _ _ (by kernel_rfl)] at hL
  have h3 := hL.tail.tail
  have h5 := h3.tail.tail
  have h6 := h5.tail
  intro x hx
  simp only [knownOf, List.mem_append] at hx
  rcases hx with hx | hx | hx | hx
  · obtain ⟨g, hg, rfl⟩ := mem_known1 hx
    have ht : Lib.TabIs Tryz.prog W "internal/strconv.uint64pow10" .u64 pow10L := Lib.tabIs_of_head (g := 1) (t := 129) (e := 26) (n := 20) (by kernel_rfl) (by kernel_rfl) (by kernel_rfl) (by kernel_rfl) (by kernel_rfl) (by kernel_rfl) h3
    obtain ⟨t, fr, hh⟩ := var_heap hg ht
    exact ⟨_, t, fr, hh, rfl⟩
  · obtain ⟨g, hg, rfl⟩ := mem_known1 hx
    obtain rfl : 0 = g := Option.some.inj ((show Tryz.prog.globalNamed "internal/bytealg.MaxLen" = some 0 by kernel_rfl).symm.trans hg)
    have h0 : ((begin Tryz.prog (fun _ _ => 0) default).world.heap[0]?).bind Obj.row? = some (#[.int .i64 0], 3) := by kernel_rfl
    obtain ⟨m, hm⟩ := cell_of_shapedOpen_int (zero := #[.int .i64 0]) (k := .i64) hsh (of_decide_eq_true (by kernel_rfl)) h0 rfl (by kernel_rfl) (by kernel_rfl) (by kernel_rfl)
    obtain ⟨cs, hh, hs, _⟩ := hsh.1 0 _ _ (of_decide_eq_true (by kernel_rfl)) h0
    refine ⟨cs, _, _, hh, m, ?_⟩
    have h1 : cs.size = 1 := hs
    have hm : cs[0]? = some (.int .i64 m) := by
      have := hm
      simp only [World.cell?, hh, Option.isSome_none, Bool.false_eq_true, if_false] at this
      exact this
    obtain ⟨l⟩ := cs
    match l, h1, hm with
    | [v], _, hm => simp at hm; rw [hm]
  · obtain ⟨g, hg, rfl⟩ := mem_known1 hx
    obtain ⟨a, s, hv, _⟩ := laid_sentinel h6 (g := 4) (ti := 58) (tp := 152) (te := 154) (ts := 9) (by kernel_rfl) (by kernel_rfl) Tryz.underlying58 row152 Tryz.underlying152 Tryz.underlying154 rfl rfl (by kernel_rfl) (by kernel_rfl) (by kernel_rfl)
    obtain ⟨t, fr, hh⟩ := var_heap hg hv
    exact ⟨_, t, fr, hh, _, rfl, .inr ⟨_, _, rfl⟩⟩
  · obtain ⟨g, hg, rfl⟩ := mem_known1 hx
    obtain ⟨a, s, hv, _⟩ := laid_sentinel h5 (g := 5) (ti := 58) (tp := 152) (te := 154) (ts := 9) (by kernel_rfl) (by kernel_rfl) Tryz.underlying58 row152 Tryz.underlying152 Tryz.underlying154 rfl rfl (by kernel_rfl) (by kernel_rfl) (by kernel_rfl)
    obtain ⟨t, fr, hh⟩ := var_heap hg hv
    exact ⟨_, t, fr, hh, _, rfl, .inr ⟨_, _, rfl⟩⟩
theorem laid_of {W : World} (hL : laidMetH Tryz.prog Rows.listingPrintsRow.laid W) (hsh : W.ShapedOpen Tryz.prog) : Laid Tryz.prog (ctx W) := fun x hx => by
  obtain ⟨c, t, fr, h1, h2⟩ := holds_of hL hsh x hx
  refine ⟨c, t, fr, h1, h2, fun j k => ?_⟩
  have hlt : x.g < W.heap.size := (Array.getElem?_eq_some_iff.1 h1).1
  rcases k with k | k
  · exact Nat.not_le_of_lt hlt k
  · exact k

/-- A statement whose answer is one truth, over variables that are laid. -/
theorem lifted_row {s : ChangeSpec} {row : OpenClaim} {os : Os} {f : FuncId} {fn : Func} {F : Stop.Interp} {H : Type} {enc : TypeId × Value → H} (started : os.Started) (noInit : Tryz.prog.inits.idxOf? f = none) (hfn : Tryz.prog.funcs[f]? = some fn)
    (hlaid : row.laid = Rows.listingPrintsRow.laid)
    (hwit : ∃ (w : World) (tape : Tape) (i : Input), w.os = os ∧ (w.forCall tape i).Shaped Tryz.prog ∧ i.vars = [] ∧ Input.okWide Tryz.prog (w.forCall tape i) .any w.heap.size f i ∧
      (OpenSpec.ofChange s).preRow enc Tryz.prog fn row.domain false row.laid (w.forCall tape i).memory i.args ∧ ({} : Assume).holds Tryz.prog (lone (Frame.enter Tryz.prog f i.args .normal) [] (w.forCall tape i)))
    (hp : (fn.params.toList.all fun t => decide (t < Tryz.prog.types.size)) = true) (hvars : s.vars = []) (hr : fn.resultTypes = #[4])
    (hs : ∀ ds : List (DataW H), ds.length = fn.params.toList.length → s.fn H (ds ++ []) = { results := [.lit (.bool true)], args := ds })
    (contract : ∀ (W : World) (base : Nat) (args : Array Value) (ds : List (DataW H)) (ps : List MemPlace), Laid Tryz.prog (ctx W) →
      (∀ (j : Nat) t v, fn.params[j]? = some t → args[j]? = some v → Value.okWide Tryz.prog W .any base t v) →
      DataW.TrodAll enc Tryz.prog W 0 (fun _ => true) true fn.params.toList args.toList ds ps →
      Calls Tryz.prog f args W fun e w' => e = .returned (.bool true) ∧ Below W.heap.size W w') :
    ReturnsInHanded {} Tryz.checked os f .any ((OpenSpec.ofChange s).preRow enc Tryz.prog fn row.domain false row.laid) (((OpenSpec.ofChange s).at F).post enc Tryz.prog fn false true false false) := by
  refine returnsInHanded_of_row (C := Tryz.checked) (s := OpenSpec.ofChange s) Tryz.own started noInit hfn hwit ?_
  intro W base args ds gs before hval hW _ _ _ hL hsh _
  have hW' : DataW.Whole enc Tryz.prog fn.params.toList s.vars false W args.toList ds gs before := hW
  have hW := hW'
  obtain ⟨p, q, hA, hV, rfl, _, _⟩ := hW
  rw [hvars] at hV
  obtain ⟨rfl, rfl⟩ := trodVars_none hV
  simp only [List.append_nil] at hW'
  rw [hlaid] at hL
  refine (contract W base args ds p (laid_of hL hsh) hval hA).mono fun e W' ⟨he, hB⟩ => ⟨_, he, ?_⟩
  exact post_true (s := s) Tryz.laidOut Tryz.rowed Tryz.full (fun t ht => of_decide_eq_true (List.all_eq_true.1 hp t ht)) hvars hr (by kernel_rfl) (hs ds (Go.trodAll_length hA).2) hW' hA hB
theorem laid_met (os : Os) (args : Array Value) : laidMet Tryz.prog Rows.listingPrintsRow.laid ((World.laidAll Tryz.prog os Rows.listingPrintsRow.laid).forCall (fun _ _ => 0) ⟨#[], args, []⟩).memory :=
  laidMet_laidAll args (by kernel_rfl) (by kernel_rfl)
open Go.ChangeShapes Go.WideShapes Go.ChangeAt Go.RowKit

theorem listingBack_lifted (os : Os) (started : os.Started) (H : Type) (enc : TypeId × Value → H) (F : Stop.Interp) :
    ReturnsInHanded {} Tryz.checked os 5 .any ((OpenSpec.ofChange Rows.listingBackSpec).preRow enc Tryz.prog Tryz.f5 Rows.listingBackRow.domain false Rows.listingBackRow.laid) (((OpenSpec.ofChange Rows.listingBackSpec).at F).post enc Tryz.prog Tryz.f5 false true false false) := by
  obtain ⟨x, hx⟩ := Option.isSome_iff_exists.1 (show (DataW.whole enc Tryz.prog ((World.laidAll Tryz.prog os Rows.listingPrintsRow.laid).forCall (fun _ _ => 0) ⟨#[], #[zeroProgram], []⟩).memory Tryz.f5.params.toList Rows.listingBackSpec.vars false (#[zeroProgram] : Array Value).toList 8).isSome = true by kernel_rfl)
  refine lifted_row (s := Rows.listingBackSpec) (row := Rows.listingBackRow) started (by kernel_rfl) Tryz.func5 rfl
    (witness_row_atRef (enc := enc) (C := Tryz.checked) false (World.laidAll Tryz.prog os Rows.listingPrintsRow.laid) #[zeroProgram] (World.laidAll_os _ _ _) (by kernel_rfl) (by kernel_rfl) (by kernel_rfl)
      (OpenSpec.preRow_of_cond 8 hx (by kernel_rfl) (fun k hk => by cases hk) (by kernel_rfl) (laid_met os _)))
    (by kernel_rfl) rfl rfl ?_ ?_
  · intro ds hl
    match ds, hl with
    | [_], _ => rfl
  · intro W base args ds ps hG hval hA
    rw [Tryz.params5] at hA hval
    obtain ⟨v0, d0, rfl, rfl, h0⟩ := trodAll_one hA
    obtain ⟨a, ha, ra⟩ := given_Program H enc W base v0 d0 _ (hval 0 25 v0 rfl rfl) h0
    obtain ⟨y, hy, rfl⟩ := law_ListingBack  (wfPr_of ha)
    refine calls_bool (con_w10_ListingBack.ok a true hy) hG (fun j x v hx hv => ?_) rfl
    match j, hx, hv with
    | 0, hx, hv => change some (e_TApi_Program a) = some x at hx; cases hx; simp at hv; subst hv; exact ra

theorem listingBack_said : Rows.ListingBackSaid :=
  OpenClaim.holds_of_cond 5 Tryz.f5 rfl rfl rfl rfl rfl rfl rfl ⟨rfl, rfl, rfl, rfl, rfl⟩ rfl rfl rfl rfl rfl (by kernel_rfl) Tryz.func5 (by kernel_rfl)
    (of_decide_eq_true (by kernel_rfl)) (by unfold Func.isWrapper; first | (rw [if_pos (by decide +kernel)]; kernel_rfl) | (rw [if_neg (by decide +kernel)]; exact ⟨rfl, rfl⟩))
    (fun os started H enc _ F => by rw [OpenClaim.pre_eq_preRow]; exact listingBack_lifted os started H enc F)

theorem listingBack_plain (f : FuncId) (fn : Func) (hf : Tryz.pinned.checked.prog.funcNamed "rondeau/rondeaulaw10.ListingBack" = some f) (hfn : Tryz.pinned.checked.prog.funcs[f]? = some fn) :
    true = Tryz.pinned.checked.prog.looks [] ∧ ∀ (j : Nat) t, fn.params[j]? = some t → Tryz.pinned.checked.prog.wantsStandIn t = false := by
  obtain rfl : f = 5 := Option.some.inj ((show Tryz.prog.funcNamed "rondeau/rondeaulaw10.ListingBack" = some 5 by kernel_rfl).symm.trans hf) |>.symm
  obtain rfl : fn = Tryz.f5 := (Option.some.inj (Tryz.func5.symm.trans hfn)).symm
  refine ⟨by kernel_rfl, fun j t ht => ?_⟩
  have hall : (Tryz.f5.params.toList.all fun t => !Tryz.prog.wantsStandIn t) = true := by kernel_rfl
  have := List.all_eq_true.1 hall t (Array.mem_toList_iff.2 (Array.mem_of_getElem? ht))
  exact (show Tryz.prog.wantsStandIn t = false by simpa using this)

theorem listingBack_holds : Rows.ListingBackCardSaid :=
  Claim7.holds_tied_plain_at .later [] _ _ _ _ listingBack_said (fun _ h => by cases h) (by kernel_rfl) (fun _ h => by cases h) listingBack_row_tie rfl ⟨rfl, rfl⟩ (by kernel_rfl) rfl listingBack_plain (by kernel_rfl)
end Go.Proofs.YtigdgbdmlejcbaaGreatDoor
