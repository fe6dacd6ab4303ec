/- For every program and every list of events: what a thread saw is the values of its sees that were done, in their order, and a thread that halted, or spun, does nothing more; what was handed in reads as it did. No conditions. -/
import Derived.Test.YtlhifcnjnmeknaaGreatGF
import Derived.Test.YtlhifcnjnmeknaaGreatRows
noncomputable section
namespace Go.Proofs.YtlhifcnjnmeknaaGreat
open Go Go.Vm Go.Proofs
set_option maxRecDepth 10000
set_option maxRecDepth 100000
theorem Hg {n : Nat} (h : n ≤ maxLen) : (n : Int) ≤ 9223372036854775807 := by have := (by decide : maxLen ≤ 9223372036854775807); omega
theorem w_f2l (x : Int) : D_f2l.wp x fun y => y = true ↔ 1 ≤ x ∧ x ≤ 17 := by
 refine of_wp ?_
 simp only [tt_f2l, TT.wp, leI, Bool.false_eq_true, false_iff]
 omega
theorem w_f2n (x : TIn) : D_f2n.wp x fun y => y = true ↔ 15 ≤ x.Op ∧ x.Op ≤ 17 := by
 refine of_wp ?_
 simp only [tt_f2n, TT.wp, leI, Bool.false_eq_true, false_iff]
 omega
def J5 (x : Int) : TCl × Bool :=
 if x = 1 then (⟨7, 0, 0, 0, 18446744073709551615⟩, true)
 else if x = 2 ∨ x = 23 then (⟨7, 7, 0, 0, 0⟩, true)
 else if x = 15 then (⟨0, 0, 0, 0, 256⟩, true)
 else if x = 16 ∨ x = 17 then (⟨7, 0, 0, 0, 256⟩, true)
 else if x = 18 then (⟨7, 7, 7, 2, 0⟩, true)
 else if x = 19 then (⟨7, 7, 7, 2, 7⟩, true)
 else if x = 20 then (⟨0, 0, 7, 0, 0⟩, true)
 else if x = 21 ∨ x = 22 ∨ x = 24 then (⟨7, 0, 0, 0, 0⟩, true)
 else if x = 25 then (⟨0, 0, 0, 0, 0⟩, true)
 else (⟨7, 7, 7, 0, 0⟩, decide (1 ≤ x ∧ x ≤ 17))
theorem w_f1q (x : Int) : D_f1q.wp x fun y => y = J5 x := by
 have e : ∀ z, D_f1q_24.wp (⟨x, z⟩ : X_f1q_24) fun y => y = (⟨7, 7, 7, 0, 0⟩, decide (1 ≤ x ∧ x ≤ 17)) := by
  intro z
  refine of_wp ?_
  show (tt_f1q_24 ⟨x, z⟩).wp _
  simp only [tt_f1q_24]
  refine wC (w_f2l x) fun (y : Bool) hy => ?_
  have : y = decide (1 ≤ x ∧ x ≤ 17) := by rw [Bool.eq_iff_iff, decide_eq_true_eq]; exact hy
  subst this
  rfl
 refine of_wp ?_
 simp only [tt_f1q, TT.wp, ieI, J5]
 refine ⟨fun h => by simp [h], fun h1 => ⟨fun h => by simp [h], fun h2 => ⟨fun h => by simp [h], fun h3 => ⟨fun h => by simp [h], fun h4 => ⟨fun h => by simp [h], fun h5 => ⟨fun h => by simp [h], fun h6 => ⟨fun h => by simp [h], fun h7 =>
  ⟨fun h => by simp [h], fun h8 => ⟨fun h => by simp [h], fun h9 => ⟨fun h => by simp [h], fun h10 => ⟨fun h => by simp [h], fun h11 => ⟨fun h => by simp [h], fun h12 => ⟨fun h => by simp [h], fun h13 => ?_⟩⟩⟩⟩⟩⟩⟩⟩⟩⟩⟩⟩⟩
 simp only [h1, h2, h3, h4, h5, h6, h7, h8, h9, h10, h11, h12, h13, if_false, or_self]
 exact e _
theorem NH {i : TIn} (h0 : 0 ≤ i.K) (h1 : i.K < 18446744073709551616) :
 (J5 i.Op).2 = true ∧ (0 ≤ i.A ∧ i.A ≤ (J5 i.Op).1.a) ∧ (0 ≤ i.B ∧ i.B ≤ (J5 i.Op).1.b) ∧ (0 ≤ i.C ∧ i.C ≤ (J5 i.Op).1.c) ∧ (0 ≤ i.D ∧ i.D ≤ (J5 i.Op).1.d) ∧ i.K ≤ (J5 i.Op).1.k ↔ BO i = true := by
 unfold J5 BO
 simp only
 by_cases e1 : i.Op = 1
 · simp [e1]; omega
 by_cases e2 : i.Op = 2 ∨ i.Op = 23
 · simp only [e1, e2, if_false, if_true, Bool.and_eq_true, decide_eq_true_eq, true_and]; omega
 by_cases e3 : i.Op = 15
 · simp [e3]; omega
 by_cases e4 : i.Op = 16 ∨ i.Op = 17
 · have : ¬ (3 ≤ i.Op ∧ i.Op ≤ 14) := by omega
   simp only [e1, e2, e3, e4, this, if_false, if_true, Bool.and_eq_true, decide_eq_true_eq, true_and]; omega
 by_cases e5 : i.Op = 18
 · simp [e5]; omega
 by_cases e6 : i.Op = 19
 · simp [e6]; omega
 by_cases e7 : i.Op = 20
 · simp [e7]; omega
 by_cases e8 : i.Op = 21 ∨ i.Op = 22 ∨ i.Op = 24
 · have : ¬ (3 ≤ i.Op ∧ i.Op ≤ 14) := by omega
   simp only [e1, e2, e3, e4, e5, e6, e7, e8, this, if_false, if_true, Bool.and_eq_true, decide_eq_true_eq, true_and]; omega
 by_cases e9 : i.Op = 25
 · simp [e9]; omega
 by_cases e10 : 3 ≤ i.Op ∧ i.Op ≤ 14
 · have : 1 ≤ i.Op ∧ i.Op ≤ 17 := by omega
   simp only [e1, e2, e3, e4, e5, e6, e7, e8, e9, e10, this, if_false, if_true, Bool.and_eq_true, decide_eq_true_eq, true_and, and_self]; omega
 · have : ¬ (1 ≤ i.Op ∧ i.Op ≤ 17) := by omega
   simp only [e1, e2, e3, e4, e5, e6, e7, e8, e9, e10, this, if_false, decide_false, Bool.false_eq_true, false_and]
def RV (i : TIn) : Prop := (0 ≤ i.K ∧ i.K < 18446744073709551616) ∧ i.A < 9223372036854775808 ∧ i.B < 9223372036854775808 ∧ i.C < 9223372036854775808 ∧ i.D < 9223372036854775808
theorem w_f2m (i : TIn) (h : RV i) : D_f2m.wp i fun y => y = true ↔ BO i = true := by
 refine of_wp ?_
 simp only [tt_f2m]
 refine wC (w_f1q i.Op) fun (y : TCl × Bool) hy => ?_
 subst hy
 rw [← NH h.1.1 h.1.2]
 generalize J5 i.Op = m
 obtain ⟨⟨a, b, c, d, k⟩, ok⟩ := m
 cases ok <;> simp only [TT.wp, leI, Bool.false_eq_true, false_iff, false_imp_iff, not_false_eq_true, true_imp_iff, not_true_eq_false, true_and, and_true, false_and]
 · omega
theorem w_f1r (c : TRg) : D_f1r.wp c fun y => y = true ↔ As c = true := by
 refine of_wp ?_
 have e : D_f1r_3.wp (⟨c⟩ : X_f1r_3) fun y => y = true ↔ (c.Kind = 1 ∧ c.AX = 1 ∨ c.Kind = 2 ∧ 1 ≤ c.AX ∧ c.AX ≤ 8) := by
  refine of_wp ?_
  simp only [tt_f1r_3, TT.wp, leI, ieI, Bool.false_eq_true, true_iff, false_iff]
  omega
 simp only [tt_f1r, TT.wp, ilI, Bool.false_eq_true, false_iff, As, decide_eq_true_eq]
 refine ⟨fun h => by omega, fun h1 => ⟨fun h => by omega, fun h2 => e.mono fun y hy => by rw [hy]; omega⟩⟩
theorem w_f2k (x : Int) : D_f2k.wp x fun y => y = true ↔ 18 ≤ x ∧ x ≤ 20 := by
 refine of_wp ?_
 simp only [tt_f2k, TT.wp, ieI, true_iff]
 omega
structure Jq (p : TPg) : Prop where
 rn : p.AK.n ≤ maxLen
 tn : p.AD.n ≤ maxLen
 ln : ∀ t, t < p.AD.n → (p.AD.get t).n ≤ maxLen
 ins : ∀ t, t < p.AD.n → ∀ k, k < (p.AD.get t).n → RV ((p.AD.get t).get k)
 rz : p.AK.nil = true → p.AK.n = 0
 lz : ∀ t, t < p.AD.n → (p.AD.get t).nil = true → (p.AD.get t).n = 0
def aP (p : TPg) : MP := ⟨p.AK.L, p.AD.L.map Sl.L⟩
theorem JU {α : Type} (s : Sl α) {i : Int} (h0 : 0 ≤ i) (h : i < s.n) (d : α) : s.L.getD i.toNat d = s.get i.toNat := by
 have : i.toNat < s.n := by omega
 rw [List.getD, Sl.Eh _ this]; rfl
theorem w_f2o (p : TPg) (i : TIn) (n : Nat) (hi : RV i) (hn : n ≤ maxLen) (hr : ∀ c ∈ p.AK.L, As c = true) : D_f2o.wp (p, (i, (n : Int))) fun y => y = Ci p.AK.L i n := by
 refine of_wp ?_
 have hn := Hg hn
 have hw : IntKind.u64.wrap (n : Int) = n := A5 (by omega) (by omega)
 simp only [tt_f2o, hw]
 refine wC (w_f2m i hi) fun (y : Bool) hy => ?_
 simp only [TT.wp, leI, ilI, ieI, bnI, ibI, hy]
 refine ⟨fun h => by simp [Ci, h], fun h => ?_⟩
 have hR : BO i = true := by simpa using h
 have hf := BM hR
 have hrd : 0 ≤ i.C → i.C < p.AK.n → IntKind.u64.wrap (p.AK.get i.C.toNat).AX = (p.AK.L.getD i.C.toNat ⟨0, 0, 0⟩).AX := fun h0 h1 => by
  rw [JU _ h0 h1]
  have := Ej (hr _ (Sl.DA.2 ⟨i.C.toNat, by omega, rfl⟩))
  exact A5 (by omega) (by omega)
 have e : Ci p.AK.L i n = if 15 ≤ i.Op ∧ i.Op ≤ 17 ∧ (n : Int) < i.K then 5 else if 18 ≤ i.Op ∧ i.Op ≤ 20 ∧ (p.AK.n : Int) ≤ i.C then 7 else if i.Op = 19 ∧ (p.AK.L.getD i.C.toNat ⟨0, 0, 0⟩).AX ≤ i.K then 7 else 0 := by
  simp only [Ci, hR, Bool.true_eq_false, if_false, Sl.C2]
 rw [e]
 refine N3 (w_f2n i) fun (y : Bool) hj => ?_
 simp only [hj]
 refine ⟨fun h => ⟨fun h1 => by rw [if_pos ⟨h.1, h.2, h1⟩], fun h1 => ?_⟩, fun h => ?_⟩
 all_goals
  refine N3 (w_f2k i.Op) fun (y : Bool) hg => ?_
  simp only [hg]
  refine ⟨fun h2 => ⟨fun h3 => ?_, fun h3 => ⟨fun h4 => ⟨?_, fun h5 => ?_, fun h5 => ?_⟩, fun h4 => ?_⟩⟩, fun h2 => ⟨fun h4 => by omega, fun h4 => ?_⟩⟩
  all_goals (repeat' split) <;> first | rfl | (exfalso; omega) | omega
def H7 (rs : List TRg) (l : Sl TIn) : Prop := ∀ k, k < l.n → Ci rs (l.get k) l.n = 0
theorem l_f5_16 (p : TPg) (hp : Jq p) (hr : ∀ c ∈ p.AK.L, As c = true) (t : Nat) (ht : t < p.AD.n) (D11 : AV X_f5_11 R_f5) (Q : R_f5 → Prop)
 (hbad : ∀ y : Int × Int × Int, y.2.2 ≠ 0 → ¬ H7 p.AK.L (p.AD.get t) → Q y) (hgood : H7 p.AK.L (p.AD.get t) → D11.wp ⟨p, p.AD, p.AD.n, IntKind.i64.wrap ((t : Int) + 1)⟩ Q) :
 (D_f5_16 D11).wp ⟨p, t, p.AD.get t, p.AD, p.AD.n, t, p.AD.get t, (p.AD.get t).n, 0⟩ Q := by
 have hl := hp.ln t ht
 refine DN (fun k => (⟨p, t, p.AD.get t, p.AD, p.AD.n, t, p.AD.get t, (p.AD.get t).n, (k : Nat)⟩ : X_f5_16)) (p.AD.get t).n (fun k => ∀ j, j < k → Ci p.AK.L ((p.AD.get t).get j) (p.AD.get t).n = 0) Q
  (fun D hJ => ?_) (fun D k hk hJ hD => ?_) (k := 0) (Nat.zero_le _) (fun j hj => by omega)
 · simp only [tt_f5_16, BT, Nat.lt_irrefl, decide_false, Cc]
   exact of_wp (hgood hJ)
 · simp only [tt_f5_16, BT, hk, decide_true, DC, A6 hk, BK, Int.toNat_natCast, Ct hk hl]
   refine wC (w_f2o p _ _ (hp.ins t ht k hk) hl hr) fun (y : Int) hy => ?_
   subst hy
   simp only [TT.wp, bnI, ieI]
   refine ⟨fun h => hbad _ h fun hok => h (hok k hk), fun h => hD fun j hj => ?_⟩
   by_cases e : j = k
   · subst e; exact Classical.byContradiction h
   · exact hJ j (by omega)
theorem Mi (p : TPg) (h1 : 1 ≤ p.AD.n) (h2 : p.AD.n ≤ 8) (h3 : p.AK.n ≤ 8) (hr : ∀ c ∈ p.AK.L, As c = true)
 (ht : ∀ t, t < p.AD.n → (p.AD.get t).n ≤ 256 ∧ H7 p.AK.L (p.AD.get t)) : FD (aP p) where
 t1 := by simpa [aP] using h1
 t8 := by simpa [aP] using h2
 r8 := by simpa [aP] using h3
 rg := hr
 len l hl := by
  simp only [aP, List.mem_map] at hl
  obtain ⟨s, hs, rfl⟩ := hl
  obtain ⟨t, h, rfl⟩ := Sl.DA.1 hs
  simpa using (ht t h).1
 ins l hl i hi := by
  simp only [aP, List.mem_map] at hl
  obtain ⟨s, hs, rfl⟩ := hl
  obtain ⟨t, h, rfl⟩ := Sl.DA.1 hs
  obtain ⟨k, hk, rfl⟩ := Sl.DA.1 hi
  have := (ht t h).2 k hk
  simpa [aP] using this
theorem Bk {p : TPg} (h : FD (aP p)) : 1 ≤ p.AD.n ∧ p.AD.n ≤ 8 ∧ p.AK.n ≤ 8 ∧ (∀ c ∈ p.AK.L, As c = true) ∧ ∀ t, t < p.AD.n → (p.AD.get t).n ≤ 256 ∧ H7 p.AK.L (p.AD.get t) := by
 have hm : ∀ t, t < p.AD.n → (p.AD.get t).L ∈ (aP p).AD := fun t ht => List.mem_map.2 ⟨_, Sl.DA.2 ⟨t, ht, rfl⟩, rfl⟩
 refine ⟨by simpa [aP] using h.t1, by simpa [aP] using h.t8, by simpa [aP] using h.r8, h.rg, fun t ht => ⟨by simpa using h.len _ (hm t ht), fun k hk => ?_⟩⟩
 have := h.ins _ (hm t ht) _ (Sl.DA.2 ⟨k, hk, rfl⟩)
 simpa [aP] using this
theorem l_f5_11 (p : TPg) (hp : Jq p) (h1 : 1 ≤ p.AD.n) (h2 : p.AD.n ≤ 8) (h3 : p.AK.n ≤ 8) (hr : ∀ c ∈ p.AK.L, As c = true) :
 D_f5_11.wp ⟨p, p.AD, p.AD.n, 0⟩ fun y => y.2.2 = 0 ↔ FD (aP p) := by
 refine DN (fun k => (⟨p, p.AD, p.AD.n, (k : Nat)⟩ : X_f5_11)) p.AD.n (fun k => ∀ t, t < k → (p.AD.get t).n ≤ 256 ∧ H7 p.AK.L (p.AD.get t)) _
  (fun D hJ => ?_) (fun D k hk hJ hD => ?_) (k := 0) (Nat.zero_le _) (fun j hj => by omega)
 · simp only [tt_f5_11, BT, Nat.lt_irrefl, decide_false, Cc]
   exact ⟨fun _ => Mi p h1 h2 h3 hr hJ, fun _ => rfl⟩
 · simp only [tt_f5_11, BT, hk, decide_true, DC, A6 hk, BK, Int.toNat_natCast]
   refine AM ilI (fun h => ?_) (fun h => ?_)
   · show ((4 : Int) = 0 ↔ _)
     refine ⟨fun h => by omega, fun hP => ?_⟩
     have := ((Bk hP).2.2.2.2 k hk).1
     omega
   · refine l_f5_16 p hp hr k hk D _ (fun y hy hno => ⟨fun h => absurd h hy, fun hP => absurd ((Bk hP).2.2.2.2 k hk).2 hno⟩) fun hok => ?_
     rw [Ct hk hp.tn]
     refine hD fun t ht => ?_
     by_cases e : t = k
     · subst e; exact ⟨by omega, hok⟩
     · exact hJ t (by omega)
theorem w_f5 (p : TPg) (hp : Jq p) : D_f5.wp p fun y => y.2.2 = 0 ↔ FD (aP p) := by
 have ne : ∀ {x : Int} {q : Prop}, x ≠ 0 → ¬ q → (x = 0 ↔ q) := fun h k => ⟨fun e => absurd e h, fun e => absurd e k⟩
 refine of_wp ?_
 simp only [tt_f5]
 refine AM ieI (fun h => ?_) fun h0 => AM ilI (fun h => ?_) fun h8 => AM ilI (fun h => ?_) fun hr8 => ?_
 · exact ne (by decide) fun hP => by have := (Bk hP).1; omega
 · exact ne (by decide) fun hP => by have := (Bk hP).2.1; omega
 · exact ne (by decide) fun hP => by have := (Bk hP).2.2.1; omega
 · refine of_wp ?_
   simp only [tt_f5_4]
   refine DN (fun k => (⟨p, p.AK, p.AK.n, (k : Nat)⟩ : X_f5_5)) p.AK.n (fun k => ∀ j, j < k → As (p.AK.get j) = true) _
    (fun D hJ => ?_) (fun D k hk hJ hD => ?_) (k := 0) (Nat.zero_le _) (fun j hj => by omega)
   · simp only [tt_f5_5, BT, Nat.lt_irrefl, decide_false, Cc]
     refine of_wp ?_
     simp only [tt_f5_10]
     exact l_f5_11 p hp (by omega) (by omega) (by omega) fun c hc => by
      obtain ⟨j, hj, rfl⟩ := Sl.DA.1 hc
      exact hJ j hj
   · simp only [tt_f5_5, BT, hk, decide_true, DC, A6 hk, BK, Int.toNat_natCast, Ct hk hp.rn]
     refine wC (w_f1r _) fun (y : Bool) hy => ?_
     simp only [TT.wp, bnI, hy]
     refine ⟨fun h => ne (by decide) fun hP => h ((Bk hP).2.2.2.1 _ (Sl.DA.2 ⟨k, hk, rfl⟩)), fun h => hD fun j hj => ?_⟩
     by_cases e : j = k
     · subst e; exact Classical.byContradiction h
     · exact hJ j (by omega)
theorem w_f2p (p : TPg) (hp : Jq p) : D_f2p.wp p fun y => y = true ↔ FD (aP p) := by
 refine of_wp ?_
 simp only [tt_f2p]
 refine wC (w_f5 p hp) fun (y : Int × Int × Int) hy => ?_
 show (Ad y.2.2 0 = true ↔ _)
 rw [ieI]
 exact hy
def CE (x : Int) : ByteArray :=
 if x = 1 then ⟨#[114, 48, 48, 48, 110]⟩
 else if x = 2 ∨ x = 23 then ⟨#[114, 114, 48, 48, 48]⟩
 else if 3 ≤ x ∧ x ≤ 14 then ⟨#[114, 114, 114, 48, 48]⟩
 else if x = 15 then ⟨#[48, 48, 48, 48, 112]⟩
 else if x = 16 ∨ x = 17 then ⟨#[114, 48, 48, 48, 112]⟩
 else if x = 18 then ⟨#[114, 114, 103, 109, 48]⟩
 else if x = 19 then ⟨#[114, 114, 103, 109, 100]⟩
 else if x = 20 then ⟨#[48, 48, 103, 48, 48]⟩
 else if x = 21 ∨ x = 22 ∨ x = 24 then ⟨#[114, 48, 48, 48, 48]⟩
 else if x = 25 then ⟨#[48, 48, 48, 48, 48]⟩
 else ⟨#[]⟩
def Bz (c : Int) : Int := if c = 114 ∨ c = 103 ∨ c = 100 then 7 else if c = 109 then 2 else if c = 112 then 256 else if c = 110 then 18446744073709551615 else 0
theorem w_f33 (x : Int) : D_f33.wp x fun y => y = CE x := by
 refine of_wp ?_
 simp only [tt_f33, TT.wp, ieI, leI]
 repeat' (first | apply And.intro | intro _)
 all_goals first
  | (exfalso; omega)
  | (rename_i h; subst h; rfl)
  | (unfold CE; rw [if_neg (by omega), if_neg (by omega), if_pos (by omega)])
  | (unfold CE; rw [if_neg (by omega), if_neg (by omega), if_neg (by omega), if_neg (by omega), if_neg (by omega), if_neg (by omega), if_neg (by omega), if_neg (by omega), if_neg (by omega), if_neg (by omega)])
theorem w_f2z (x : Int) : D_f2z.wp x fun y => y = Bz x := by
 refine of_wp ?_
 simp only [tt_f2z, TT.wp, ieI]
 repeat' (first | apply And.intro | intro _)
 all_goals first
  | (rename_i h; subst h; rfl)
  | (unfold Bz; rw [if_neg (by omega), if_neg (by omega), if_neg (by omega), if_neg (by omega)])
def IQ (i : TIn) (j : Nat) : Int := cond (Nat.beq j 0) i.A (cond (Nat.beq j 1) i.B (cond (Nat.beq j 2) i.C i.D))
theorem PD (x : Int) : CE x = ⟨#[]⟩ ∨ (CE x).size = 5 := by
 unfold CE
 repeat' split
 all_goals first | exact .inr rfl | exact .inl rfl
theorem NQ {i : TIn} (h : RV i) : (CE i.Op ≠ ⟨#[]⟩ ∧ i.K ≤ Bz (bt (CE i.Op) 4) ∧ ∀ j, j < 4 → 0 ≤ IQ i j ∧ IQ i j ≤ Bz (bt (CE i.Op) j)) ↔ BO i = true := by
 have e4 : ∀ (f : ByteArray), (∀ j, j < 4 → 0 ≤ IQ i j ∧ IQ i j ≤ Bz (bt f j)) ↔ (0 ≤ i.A ∧ i.A ≤ Bz (bt f 0)) ∧ (0 ≤ i.B ∧ i.B ≤ Bz (bt f 1)) ∧ (0 ≤ i.C ∧ i.C ≤ Bz (bt f 2)) ∧ (0 ≤ i.D ∧ i.D ≤ Bz (bt f 3)) := by
  intro f
  refine ⟨fun h => ⟨h 0 (by omega), h 1 (by omega), h 2 (by omega), h 3 (by omega)⟩, fun h j hj => ?_⟩
  match j, hj with
  | 0, _ => exact h.1
  | 1, _ => exact h.2.1
  | 2, _ => exact h.2.2.1
  | 3, _ => exact h.2.2.2
 rw [e4]
 obtain ⟨⟨k0, k1⟩, _⟩ := h
 have m : Bz 114 = 7 ∧ Bz 48 = 0 ∧ Bz 110 = 18446744073709551615 ∧ Bz 112 = 256 ∧ Bz 103 = 7 ∧ Bz 109 = 2 ∧ Bz 100 = 7 := by decide
 obtain ⟨m1, m2, m3, m4, m5, m6, m7⟩ := m
 have ne : ∀ {a b c d e : UInt8}, (⟨#[a, b, c, d, e]⟩ : ByteArray) ≠ ⟨#[]⟩ := fun h => by cases h
 have b5 : ∀ (a b c d e : UInt8), bt ⟨#[a, b, c, d, e]⟩ 0 = (a.toNat : Int) ∧ bt ⟨#[a, b, c, d, e]⟩ 1 = (b.toNat : Int) ∧ bt ⟨#[a, b, c, d, e]⟩ 2 = (c.toNat : Int) ∧ bt ⟨#[a, b, c, d, e]⟩ 3 = (d.toNat : Int) ∧ bt ⟨#[a, b, c, d, e]⟩ 4 = (e.toNat : Int) :=
  fun a b c d e => ⟨rfl, rfl, rfl, rfl, rfl⟩
 have u : (((114 : UInt8).toNat : Nat) : Int) = 114 ∧ (((48 : UInt8).toNat : Nat) : Int) = 48 ∧ (((110 : UInt8).toNat : Nat) : Int) = 110 ∧ (((112 : UInt8).toNat : Nat) : Int) = 112 ∧ (((103 : UInt8).toNat : Nat) : Int) = 103 ∧
  (((109 : UInt8).toNat : Nat) : Int) = 109 ∧ (((100 : UInt8).toNat : Nat) : Int) = 100 := by decide
 obtain ⟨u1, u2, u3, u4, u5, u6, u7⟩ := u
 have key : ∀ (a b c d e : UInt8), ((⟨#[a, b, c, d, e]⟩ : ByteArray) ≠ ⟨#[]⟩ ∧ i.K ≤ Bz (bt ⟨#[a, b, c, d, e]⟩ 4) ∧ (0 ≤ i.A ∧ i.A ≤ Bz (bt ⟨#[a, b, c, d, e]⟩ 0)) ∧ (0 ≤ i.B ∧ i.B ≤ Bz (bt ⟨#[a, b, c, d, e]⟩ 1)) ∧ (0 ≤ i.C ∧ i.C ≤ Bz (bt ⟨#[a, b, c, d, e]⟩ 2)) ∧ (0 ≤ i.D ∧ i.D ≤ Bz (bt ⟨#[a, b, c, d, e]⟩ 3))) ↔
  (i.K ≤ Bz e.toNat ∧ (0 ≤ i.A ∧ i.A ≤ Bz a.toNat) ∧ (0 ≤ i.B ∧ i.B ≤ Bz b.toNat) ∧ (0 ≤ i.C ∧ i.C ≤ Bz c.toNat) ∧ (0 ≤ i.D ∧ i.D ≤ Bz d.toNat)) := by
  intro a b c d e
  obtain ⟨h0, h1, h2, h3, h4⟩ := b5 a b c d e
  rw [h0, h1, h2, h3, h4]
  exact ⟨fun h => h.2, fun h => ⟨ne, h⟩⟩
 by_cases e1 : i.Op = 1
 · have hf : CE i.Op = ⟨#[114, 48, 48, 48, 110]⟩ := by rw [e1]; rfl
   rw [hf, key, u1, u2, u3, m1, m2, m3]; unfold BO; simp only [e1]; simp; omega
 by_cases e2 : i.Op = 2 ∨ i.Op = 23
 · have hf : CE i.Op = ⟨#[114, 114, 48, 48, 48]⟩ := by unfold CE; rw [if_neg e1, if_pos e2]
   rw [hf, key, u1, u2, m1, m2]; unfold BO; simp only [e1, e2, if_false, if_true, Bool.and_eq_true, decide_eq_true_eq]; omega
 by_cases e3 : 3 ≤ i.Op ∧ i.Op ≤ 14
 · have hf : CE i.Op = ⟨#[114, 114, 114, 48, 48]⟩ := by unfold CE; rw [if_neg e1, if_neg e2, if_pos e3]
   rw [hf, key, u1, u2, m1, m2]; unfold BO; simp only [e1, e2, e3, if_false, if_true, and_self, Bool.and_eq_true, decide_eq_true_eq]; omega
 by_cases e4 : i.Op = 15
 · have hf : CE i.Op = ⟨#[48, 48, 48, 48, 112]⟩ := by rw [e4]; rfl
   rw [hf, key, u2, u4, m2, m4]; unfold BO; simp only [e4]; simp; omega
 by_cases e5 : i.Op = 16 ∨ i.Op = 17
 · have hf : CE i.Op = ⟨#[114, 48, 48, 48, 112]⟩ := by unfold CE; rw [if_neg e1, if_neg e2, if_neg e3, if_neg e4, if_pos e5]
   rw [hf, key, u1, u2, u4, m1, m2, m4]; unfold BO; simp only [e1, e2, e3, e4, e5, if_false, if_true, Bool.and_eq_true, decide_eq_true_eq]; omega
 by_cases e6 : i.Op = 18
 · have hf : CE i.Op = ⟨#[114, 114, 103, 109, 48]⟩ := by rw [e6]; rfl
   rw [hf, key, u1, u2, u5, u6, m1, m2, m5, m6]; unfold BO; simp only [e6]; simp; omega
 by_cases e7 : i.Op = 19
 · have hf : CE i.Op = ⟨#[114, 114, 103, 109, 100]⟩ := by rw [e7]; rfl
   rw [hf, key, u1, u5, u6, u7, m1, m5, m6, m7]; unfold BO; simp only [e7]; simp; omega
 by_cases e8 : i.Op = 20
 · have hf : CE i.Op = ⟨#[48, 48, 103, 48, 48]⟩ := by rw [e8]; rfl
   rw [hf, key, u2, u5, m2, m5]; unfold BO; simp only [e8]; simp; omega
 by_cases e9 : i.Op = 21 ∨ i.Op = 22 ∨ i.Op = 24
 · have hf : CE i.Op = ⟨#[114, 48, 48, 48, 48]⟩ := by unfold CE; rw [if_neg e1, if_neg e2, if_neg e3, if_neg e4, if_neg e5, if_neg e6, if_neg e7, if_neg e8, if_pos e9]
   rw [hf, key, u1, u2, m1, m2]; unfold BO; simp only [e1, e2, e3, e4, e5, e6, e7, e8, e9, if_false, if_true, Bool.and_eq_true, decide_eq_true_eq]; omega
 by_cases e10 : i.Op = 25
 · have hf : CE i.Op = ⟨#[48, 48, 48, 48, 48]⟩ := by rw [e10]; rfl
   rw [hf, key, u2, m2]; unfold BO; simp only [e10]; simp; omega
 · have hf : CE i.Op = ⟨#[]⟩ := by unfold CE; rw [if_neg e1, if_neg e2, if_neg e3, if_neg e4, if_neg e5, if_neg e6, if_neg e7, if_neg e8, if_neg e9, if_neg e10]
   rw [hf]; unfold BO; simp only [e1, e2, e3, e4, e5, e6, e7, e8, e9, e10, if_false, ne_eq, not_true_eq_false, false_and, Bool.false_eq_true]
theorem w_fg (i : TIn) (h : RV i) : D_fg.wp i fun y => y = true ↔ BO i = true := by
 refine of_wp ?_
 simp only [tt_fg]
 refine wC (w_f33 i.Op) fun (y : ByteArray) hy => ?_
 subst hy
 have hR := NQ h
 have hs := PD i.Op
 generalize CE i.Op = f at hR hs
 refine AM (p := f = ⟨#[]⟩) Nj (fun he => ?_) (fun he => ?_)
 · show (false = true ↔ _)
   rw [← hR]; exact ⟨fun h => absurd h (by decide), fun h => absurd he h.1⟩
 · have hs : f.size = 5 := hs.resolve_left he
   refine wN (by rw [ibI, hs]; decide) ?_
   refine wC (w_f2z _) fun (y : Int) hy => ?_
   subst hy
   refine AM ilI (fun hk => ?_) (fun hk => ?_)
   · show (false = true ↔ _)
     rw [← hR]
     refine ⟨fun h => absurd h (by decide), fun h => ?_⟩
     have := h.2.1
     exact absurd hk (Int.not_lt.2 this)
   · refine of_wp ?_
     simp only [tt_fg_4]
     refine DN (fun k => (⟨f, ⟨false, 4, IQ i⟩, (k : Nat)⟩ : X_fg_6)) 4 (fun k => ∀ j, j < k → 0 ≤ IQ i j ∧ IQ i j ≤ Bz (bt f j)) _
      (fun D hJ => ?_) (fun D k hk4 hJ hD => ?_) (k := 0) (Nat.zero_le _) (fun j hj => by omega)
     · simp only [tt_fg_6]
       refine AM ilI (fun hk => absurd hk (by decide)) (fun _ => ?_)
       show (true = true ↔ _)
       rw [← hR]
       exact ⟨fun _ => ⟨he, Int.not_lt.1 hk, hJ⟩, fun _ => rfl⟩
     · simp only [tt_fg_6]
       refine AM ilI (fun _ => ?_) (fun hk => absurd (Int.ofNat_lt.2 hk4) hk)
       refine wN (by rw [ibI]; exact ⟨Int.natCast_nonneg _, Int.ofNat_lt.2 hk4⟩) ?_
       rw [Int.toNat_natCast]
       have hb : IQ i k < 9223372036854775808 := by
        obtain ⟨_, a, b, c, d⟩ := h
        match k, hk4 with
        | 0, _ => exact a
        | 1, _ => exact b
        | 2, _ => exact c
        | 3, _ => exact d
       refine AM (p := IQ i k < 0) ilI (fun hn => ?_) (fun hn => ?_)
       · show (false = true ↔ _)
         rw [← hR]
         refine ⟨fun h => absurd h (by decide), fun h => ?_⟩
         have := (h.2.2 k hk4).1; omega
       · refine wN (by rw [ibI]; exact ⟨Int.natCast_nonneg _, Int.ofNat_lt.2 hk4⟩) (wN (by rw [ibI, hs]; omega) ?_)
         refine wC (w_f2z _) fun (y : Int) hy => ?_
         subst hy
         refine AM (p := Bz (bt f k) < IQ i k) (by rw [ilI]; show Bz _ < IntKind.u64.wrap (IQ i k) ↔ _; rw [A5 (by omega) (by omega)]) (fun hn2 => ?_) (fun hn2 => ?_)
         · show (false = true ↔ _)
           rw [← hR]
           refine ⟨fun h => absurd h (by decide), fun h => ?_⟩
           have := (h.2.2 k hk4).2; omega
         · refine of_wp ?_
           simp only [tt_fg_7]
           have e : IntKind.i64.wrap ((k : Int) + 1) = ((k + 1 : Nat) : Int) := by rw [wrap64] <;> omega
           show D.wp ⟨f, ⟨false, 4, IQ i⟩, _⟩ _
           rw [e]
           refine hD fun j hj => ?_
           by_cases ej : j = k
           · subst ej; exact ⟨by omega, by omega⟩
           · exact hJ j (by omega)
theorem w_f32 (c : TRg) : D_f32.wp c fun y => y = true ↔ As c = true := by
 refine of_wp ?_
 simp only [tt_f32, TT.wp, leI, ieI, Bool.false_eq_true, true_iff, false_iff, As, decide_eq_true_eq]
 omega
theorem w_f1s (p : TPg) (i : TIn) (n : Nat) (hn : n ≤ maxLen) (hr : ∀ c ∈ p.AK.L, As c = true) (hR : BO i = true) : D_f1s.wp (p, (i, (n : Int))) fun y => y = Ci p.AK.L i n := by
 have hn := Hg hn
 have hw : IntKind.u64.wrap (n : Int) = n := A5 (by omega) (by omega)
 have hf := BM hR
 have hrd : 0 ≤ i.C → i.C < p.AK.n → IntKind.u64.wrap (p.AK.get i.C.toNat).AX = (p.AK.L.getD i.C.toNat ⟨0, 0, 0⟩).AX := fun h0 h1 => by
  rw [JU _ h0 h1]
  have := Ej (hr _ (Sl.DA.2 ⟨i.C.toNat, by omega, rfl⟩))
  exact A5 (by omega) (by omega)
 have e : Ci p.AK.L i n = if 15 ≤ i.Op ∧ i.Op ≤ 17 ∧ (n : Int) < i.K then 5 else if 18 ≤ i.Op ∧ i.Op ≤ 20 ∧ (p.AK.n : Int) ≤ i.C then 7 else if i.Op = 19 ∧ (p.AK.L.getD i.C.toNat ⟨0, 0, 0⟩).AX ≤ i.K then 7 else 0 := by
  simp only [Ci, hR, Bool.true_eq_false, if_false, Sl.C2]
 have e3 : ¬ (15 ≤ i.Op ∧ i.Op ≤ 17 ∧ (n : Int) < i.K) → D_f1s_3.wp (⟨p, i⟩ : X_f1s_3) fun y => y = Ci p.AK.L i n := by
  intro hno
  refine of_wp ?_
  rw [e, if_neg hno]
  simp only [tt_f1s_3, TT.wp, leI, ieI, ibI]
  repeat' (first | apply And.intro | intro _)
  all_goals first
   | omega
   | ((repeat' split) <;> first | rfl | (exfalso; omega) | omega)
 refine of_wp ?_
 simp only [tt_f1s, hw]
 refine AM leI (fun h => AM leI (fun h2 => AM ilI (fun h3 => ?_) (fun h3 => ?_)) (fun h2 => ?_)) (fun h => ?_)
 · show (5 : Int) = _
   rw [e, if_pos ⟨h, h2, h3⟩]
 · exact e3 fun hh => h3 hh.2.2
 · exact e3 fun hh => h2 hh.2.1
 · exact e3 fun hh => h hh.1
theorem l_f2_15 (p : TPg) (hp : Jq p) (hr : ∀ c ∈ p.AK.L, As c = true) (t : Nat) (ht : t < p.AD.n) (D9 : AV X_f2_9 R_f2) (Q : R_f2 → Prop)
 (hbad : ∀ y : Int × Int × Int, y.2.2 ≠ 0 → ¬ H7 p.AK.L (p.AD.get t) → Q y) (hgood : H7 p.AK.L (p.AD.get t) → D9.wp ⟨p, IntKind.i64.wrap ((t : Int) + 1)⟩ Q) :
 (D_f2_15 D9).wp ⟨p, t, p.AD.get t, 0⟩ Q := by
 have hl := hp.ln t ht
 refine DN (fun k => (⟨p, t, p.AD.get t, (k : Nat)⟩ : X_f2_15)) (p.AD.get t).n (fun k => ∀ j, j < k → Ci p.AK.L ((p.AD.get t).get j) (p.AD.get t).n = 0) Q
  (fun D hJ => ?_) (fun D k hk hJ hD => ?_) (k := 0) (Nat.zero_le _) (fun j hj => by omega)
 · simp only [tt_f2_15, BT, Nat.lt_irrefl, decide_false, Cc]
   refine of_wp ?_
   simp only [tt_f2_10]
   exact hgood hJ
 · simp only [tt_f2_15, BT, hk, decide_true, DC, A6 hk, BK, Int.toNat_natCast]
   have h20 : ∀ e, e = Ci p.AK.L ((p.AD.get t).get k) (p.AD.get t).n →
    (D_f2_20 D9 D).wp (⟨p, t, p.AD.get t, k, e⟩ : X_f2_20) Q := by
    intro e he
    refine of_wp ?_
    simp only [tt_f2_20]
    refine AM (p := e ≠ 0) (by rw [bnI, ieI]) (fun h => ?_) (fun h => ?_)
    · exact hbad (_, _, e) h fun hok => h (he.trans (hok k hk))
    · refine of_wp ?_
      simp only [tt_f2_16, Ct hk hl]
      refine hD fun j hj => ?_
      by_cases ej : j = k
      · subst ej; rw [← he]; exact Classical.byContradiction h
      · exact hJ j (by omega)
   refine wC (w_fg _ (hp.ins t ht k hk)) fun (y : Bool) hy => ?_
   refine AM hy (fun hR => ?_) (fun hR => ?_)
   · exact wN rfl (wC (w_f1s p _ _ hl hr hR) fun (y : Int) hy =>
     h20 y hy)
   · refine h20 6 ?_
     rw [Ci, if_pos (by simpa using hR)]
theorem l_f2_9 (p : TPg) (hp : Jq p) (h1 : 1 ≤ p.AD.n) (h2 : p.AD.n ≤ 8) (h3 : p.AK.n ≤ 8) (hr : ∀ c ∈ p.AK.L, As c = true) :
 D_f2_9.wp ⟨p, 0⟩ fun y => y.2.2 = 0 ↔ FD (aP p) := by
 refine DN (fun k => (⟨p, (k : Nat)⟩ : X_f2_9)) p.AD.n (fun k => ∀ t, t < k → (p.AD.get t).n ≤ 256 ∧ H7 p.AK.L (p.AD.get t)) _
  (fun D hJ => ?_) (fun D k hk hJ hD => ?_) (k := 0) (Nat.zero_le _) (fun j hj => by omega)
 · simp only [tt_f2_9, BT, Nat.lt_irrefl, decide_false, Cc]
   exact ⟨fun _ => Mi p h1 h2 h3 hr hJ, fun _ => rfl⟩
 · simp only [tt_f2_9, BT, hk, decide_true, DC, A6 hk, BK, Int.toNat_natCast]
   refine AM ilI (fun h => ?_) (fun h => ?_)
   · show ((4 : Int) = 0 ↔ _)
     refine ⟨fun h => by omega, fun hP => ?_⟩
     have := ((Bk hP).2.2.2.2 k hk).1
     omega
   · refine l_f2_15 p hp hr k hk D _ (fun y hy hno => ⟨fun h => absurd h hy, fun hP => absurd ((Bk hP).2.2.2.2 k hk).2 hno⟩) fun hok => ?_
     rw [Ct hk hp.tn]
     refine hD fun t ht => ?_
     by_cases e : t = k
     · subst e; exact ⟨by omega, hok⟩
     · exact hJ t (by omega)
theorem w_f2 (p : TPg) (hp : Jq p) : D_f2.wp p fun y => y.2.2 = 0 ↔ FD (aP p) := by
 have ne : ∀ {x : Int} {q : Prop}, x ≠ 0 → ¬ q → (x = 0 ↔ q) := fun h k => ⟨fun e => absurd e h, fun e => absurd e k⟩
 refine of_wp ?_
 simp only [tt_f2]
 refine AM ieI (fun h => ?_) fun h0 => AM ilI (fun h => ?_) fun h8 => AM ilI (fun h => ?_) fun hr8 => ?_
 · exact ne (by decide) fun hP => by have := (Bk hP).1; omega
 · exact ne (by decide) fun hP => by have := (Bk hP).2.1; omega
 · exact ne (by decide) fun hP => by have := (Bk hP).2.2.1; omega
 · refine of_wp ?_
   simp only [tt_f2_3]
   refine DN (fun k => (⟨p, (k : Nat)⟩ : X_f2_4)) p.AK.n (fun k => ∀ j, j < k → As (p.AK.get j) = true) _
    (fun D hJ => ?_) (fun D k hk hJ hD => ?_) (k := 0) (Nat.zero_le _) (fun j hj => by omega)
   · simp only [tt_f2_4, BT, Nat.lt_irrefl, decide_false, Cc]
     refine of_wp ?_
     simp only [tt_f2_8]
     exact l_f2_9 p hp (by omega) (by omega) (by omega) fun c hc => by
      obtain ⟨j, hj, rfl⟩ := Sl.DA.1 hc
      exact hJ j hj
   · simp only [tt_f2_4, BT, hk, decide_true, DC, A6 hk, BK, Int.toNat_natCast, Ct hk hp.rn]
     refine wC (w_f32 _) fun (y : Bool) hy => ?_
     simp only [TT.wp, bnI, hy]
     refine ⟨fun h => ne (by decide) fun hP => h ((Bk hP).2.2.2.1 _ (Sl.DA.2 ⟨k, hk, rfl⟩)), fun h => hD fun j hj => ?_⟩
     by_cases e : j = k
     · subst e; exact Classical.byContradiction h
     · exact hJ j (by omega)
theorem w_f2x (p : TPg) (hp : Jq p) : D_f2x.wp p fun y => y = true ↔ FD (aP p) := by
 refine of_wp ?_
 simp only [tt_f2x]
 refine wC (w_f2 p hp) fun (y : Int × Int × Int) hy => ?_
 show (Ad y.2.2 0 = true ↔ _)
 rw [ieI]
 exact hy
theorem Jn {P : Program} {X R : Type} {tt : AV X R → X → TT P R} (st : Nat → X) (N : Nat) (p : Nat → Prop) (Q : R → Prop) (hend : ∀ D, (∀ j, j < N → p j) → (tt D (st N)).wp Q)
 (hstep : ∀ (D : AV X R) k, k < N → (p k → D.wp (st (k + 1)) Q) → (tt D (st k)).wp Q) : (AV.loop tt).wp (st 0) Q :=
 DN st N (fun k => ∀ j, j < k → p j) Q hend
  (fun D k hk hJ hD => hstep D k hk fun h => hD fun j hj => by
    by_cases e : j = k
    · subst e; exact h
    · exact hJ j (by omega)) (Nat.zero_le _) fun j hj => by omega
theorem Ba {q : Prop} (h : ¬ q) : (false = true ↔ q) := ⟨fun e => absurd e (by decide), fun k => absurd k h⟩
theorem Pk {q : Prop} (h : q) : (true = true ↔ q) := ⟨fun _ => h, fun _ => rfl⟩
theorem DM {b : Bool} {p q : Prop} (hb : b = true ↔ p) (h : p ↔ q) : (b = true ↔ q) := hb.trans h
structure CY {α : Type} (y x : Sl α) : Prop where
 n : y.n = x.n
 g : ∀ i, i < x.n → y.get i = x.get i
theorem CY.L {α : Type} {y x : Sl α} (h : CY y x) : y.L = x.L := Sl.R8 h.n fun i hi => h.g i (h.n ▸ hi)
theorem CY.refl {α : Type} (x : Sl α) : CY x x := ⟨rfl, fun _ _ => rfl⟩
def Cv {α : Type} (x : Sl α) : Prop := x.nil = true → x.n = 0
theorem S7 (i : Nat) : Nat.blt i 0 = false := rfl
theorem room_le {n b : Nat} (h : n * b ≤ 140737488351232) : (true && room (0 + n) b) = true := by simp [room]; omega
theorem Ir (x : Sl Int) (h : Cv x) (hn : x.n * 8 ≤ 140737488351232) : D_f1a.wp x fun y => CY y x ∧ Cv y := by
 refine of_wp ?_
 simp only [tt_f1a]
 refine BX (fun e => ⟨⟨(h e).symm, fun i hi => by have := h e; omega⟩, fun _ => rfl⟩) fun _ => wN (room_le hn) ⟨⟨?_, fun i _ => rfl⟩, fun e => ?_⟩
 · exact Nat.zero_add _
 · simp only [Bool.cond_self, Bool.false_eq_true] at e
theorem Gj (x : Sl Int) (h : Cv x) (hn : x.n * 8 ≤ 140737488351232) : D_f1j.wp x fun y => CY y x ∧ Cv y := by
 refine of_wp ?_
 simp only [tt_f1j]
 refine BX (fun e => ⟨⟨(h e).symm, fun i hi => by have := h e; omega⟩, fun _ => rfl⟩) fun _ => wN (room_le hn) ⟨⟨?_, fun i _ => rfl⟩, fun e => ?_⟩
 · exact Nat.zero_add _
 · simp only [Bool.cond_self, Bool.false_eq_true] at e
theorem IH (x : Sl TSo) (h : Cv x) (hn : x.n * 24 ≤ 140737488351232) : D_f17.wp x fun y => CY y x ∧ Cv y := by
 refine of_wp ?_
 simp only [tt_f17]
 refine BX (fun e => ⟨⟨(h e).symm, fun i hi => by have := h e; omega⟩, fun _ => rfl⟩) fun _ => wN (room_le hn) ⟨⟨?_, fun i _ => rfl⟩, fun e => ?_⟩
 · exact Nat.zero_add _
 · simp only [Bool.cond_self, Bool.false_eq_true] at e
theorem Jx (x : Sl TIn) (h : Cv x) (hn : x.n * 48 ≤ 140737488351232) : D_f1h.wp x fun y => CY y x ∧ Cv y := by
 refine of_wp ?_
 simp only [tt_f1h]
 refine BX (fun e => ⟨⟨(h e).symm, fun i hi => by have := h e; omega⟩, fun _ => rfl⟩) fun _ => wN (room_le hn) ⟨⟨?_, fun i _ => rfl⟩, fun e => ?_⟩
 · exact Nat.zero_add _
 · simp only [Bool.cond_self, Bool.false_eq_true] at e
theorem Kg (x : Sl TRg) (h : Cv x) (hn : x.n * 24 ≤ 140737488351232) : D_f1p.wp x fun y => CY y x ∧ Cv y := by
 refine of_wp ?_
 simp only [tt_f1p]
 refine BX (fun e => ⟨⟨(h e).symm, fun i hi => by have := h e; omega⟩, fun _ => rfl⟩) fun _ => wN (room_le hn) ⟨⟨?_, fun i _ => rfl⟩, fun e => ?_⟩
 · exact Nat.zero_add _
 · simp only [Bool.cond_self, Bool.false_eq_true] at e
theorem II (x : Ar TSo) (h : 0 < x.n) (hn : x.n * 24 ≤ 140737488351232) : D_fn.wp x fun y => CY y ⟨false, x.n, x.get⟩ ∧ Cv y := by
 refine B5 ?_
 simp only [tt_fn]
 refine wN (by simpa [Nat.blt_eq] using h) (wN (by simpa [room] using hn) ⟨⟨Nat.zero_add _, fun i _ => ?_⟩, fun e => ?_⟩)
 · simp [S7]
 · simp only [Bool.cond_self, Bool.false_eq_true] at e
theorem Gk (x : Ar Int) (h : 0 < x.n) (hn : x.n * 8 ≤ 140737488351232) : D_fu.wp x fun y => CY y ⟨false, x.n, x.get⟩ ∧ Cv y := by
 refine B5 ?_
 simp only [tt_fu]
 refine wN (by simpa [Nat.blt_eq] using h) (wN (by simpa [room] using hn) ⟨⟨Nat.zero_add _, fun i _ => ?_⟩, fun e => ?_⟩)
 · simp [S7]
 · simp only [Bool.cond_self, Bool.false_eq_true] at e
def QY (n : Nat) (i : TIn) : Prop := BO i = true ∧ ¬ (15 ≤ i.Op ∧ i.Op ≤ 17 ∧ (n : Int) < i.K)
def codeOk (l : Sl TIn) : Prop := l.n ≤ 256 ∧ ∀ k, k < l.n → QY l.n (l.get k)
structure Nt (l : Sl TIn) : Prop where
 n : l.n ≤ maxLen
 i : ∀ k, k < l.n → RV (l.get k)
theorem w_f2c (i : TIn) (l : Sl TIn) (hi : RV i) (hl : l.n ≤ 256) : D_f2c.wp (i, l) fun y => y = true ↔ ¬ QY l.n i := by
 refine of_wp ?_
 simp only [tt_f2c]
 refine wC (w_f2m i hi) fun (y : Bool) hy => ?_
 refine AM bnI (fun h => Pk fun hc => h (hy.2 hc.1)) fun h => ?_
 have hR := hy.1 (Classical.byContradiction h)
 refine wC (w_f2n i) fun (z : Bool) hz => ?_
 refine AM hz (fun hj => ?_) fun hj => Ba fun k => k ⟨hR, fun hh => hj ⟨hh.1, hh.2.1⟩⟩
 refine DM ilI ?_
 rw [A5 (by omega) (by omega)]
 exact ⟨fun h k => k.2 ⟨hj.1, hj.2, h⟩, fun h => Classical.byContradiction fun h2 => h ⟨hR, fun hh => h2 hh.2.2⟩⟩
theorem HQ (l m : Sl TIn) (hl : Nt l) (hm : m.n ≤ 256) : D_f7.wp (l, m) fun y => 0 ≤ y ↔ ¬ ∀ k, k < l.n → QY m.n (l.get k) := by
 refine of_wp ?_
 simp only [tt_f7]
 refine Jn (fun k => (⟨l, m, l.n, (k : Nat)⟩ : X_f7_2)) l.n (fun k => QY m.n (l.get k)) _ (fun D hJ => ?_) (fun D k hk hD => ?_)
 · simp only [tt_f7_2, BT, Nat.lt_irrefl, decide_false, Cc]
   exact ⟨fun h => absurd h (by decide), fun h => absurd hJ h⟩
 · simp only [tt_f7_2, BT, hk, decide_true, DC, A6 hk, BK, Int.toNat_natCast, Ct hk hl.n]
   refine wC (w_f2c _ m (hl.i k hk) hm) fun (y : Bool) hy => ?_
   refine AM hy (fun h => ⟨fun _ k2 => h (k2 k hk), fun _ => Int.natCast_nonneg k⟩) fun h => hD (Classical.byContradiction h)
theorem w_f2q (l : Sl TIn) (hl : Nt l) : D_f2q.wp l fun y => y = true ↔ codeOk l := by
 refine of_wp ?_
 simp only [tt_f2q]
 refine AM ilI (fun h => Ba fun k => by have := k.1; omega) fun h => ?_
 have e : D_fh.wp (l, l) fun y => y = true ↔ ¬ ∀ k, k < l.n → QY l.n (l.get k) := by
  refine of_wp ?_
  simp only [tt_fh]
  refine wC (HQ l l hl (by omega)) fun (y : Int) hy => DM leI hy
 refine wC e fun (y : Bool) hy => ?_
 refine DM bnI ?_
 rw [hy]
 exact ⟨fun k => ⟨by omega, Classical.byContradiction k⟩, fun k k2 => k2 k.2⟩
def aT (t : TTh) : MT := ⟨t.At, t.Phase, t.Ring, t.Status, t.AJ, t.Ao, t.Seen.L⟩
theorem J7 (l : Sl TIn) {a : Int} (h0 : 0 ≤ a) (h1 : a < l.n) : gI l.L a = l.get a.toNat := by unfold gI; exact JU l h0 h1 zI
theorem w_fl (l : Sl TIn) (t : TTh) (hl : Nt l) (hk : 0 ≤ t.AJ) : D_fl.wp (l, t) fun y => y = true ↔ codeOk l ∧ Ew l.L (aT t) := by
 refine of_wp ?_
 simp only [tt_fl]
 refine wC (w_f2q l hl) fun (y : Bool) hy => ?_
 refine AM bnI (fun h => Ba fun k => h (hy.2 k.1)) fun h => ?_
 have hc := hy.1 (Classical.byContradiction h)
 have a1 : Ew l.L (aT t) → t.At ≤ l.n := fun k => by have := k.a1; simpa [aT] using this
 refine AM ilI (fun h => Ba fun k => absurd k.2.a0 (Int.not_le.2 h)) fun h0 => AM ilI (fun h => Ba fun k => absurd (a1 k.2) (Int.not_le.2 h)) fun h1 =>
  AM ilI (fun h => Ba fun k => absurd k.2.st.1 (Int.not_le.2 h)) fun h2 => AM ilI (fun h => Ba fun k => absurd k.2.st.2 (Int.not_le.2 h)) fun h3 =>
  AM ilI (fun h => Ba fun k => absurd k.2.ph.1 (Int.not_le.2 h)) fun h4 => AM ilI (fun h => Ba fun k => absurd k.2.ph.2 (Int.not_le.2 h)) fun h5 => ?_
 refine of_wp ?_
 simp only [tt_fl_3]
 have mk : (t.Phase = 0 → t.Ring = 0 ∧ t.AJ = 0) → (t.Phase ≠ 0 → t.Status = 0 ∧ t.At < l.n ∧ (l.get t.At.toNat).Op = 17 + t.Phase ∧ (l.get t.At.toNat).C = t.Ring ∧ t.AJ < 4611686018427387904) → codeOk l ∧ Ew l.L (aT t) := by
  intro p0 p1
  refine ⟨hc, Int.not_lt.1 h0, ?_, ⟨Int.not_lt.1 h2, Int.not_lt.1 h3⟩, ⟨Int.not_lt.1 h4, Int.not_lt.1 h5⟩, p0, fun hp => ?_⟩
  · simpa [aT] using h1
  · obtain ⟨a, b, c, d, e⟩ := p1 hp
    refine ⟨a, by simpa [aT] using b, ?_, ?_, hk, e⟩
    · show (gI l.L t.At).Op = _; rw [J7 l (by omega) b]; exact c
    · show (gI l.L t.At).C = _; rw [J7 l (by omega) b]; exact d
 have un : Ew l.L (aT t) → t.Phase ≠ 0 → t.Status = 0 ∧ t.At < l.n ∧ (l.get t.At.toNat).Op = 17 + t.Phase ∧ (l.get t.At.toNat).C = t.Ring ∧ t.AJ < 4611686018427387904 := by
  intro k hp
  obtain ⟨a, b, c, d, _, e⟩ := k.p1 hp
  have b : t.At < l.n := by simpa [aT] using b
  change (gI l.L t.At).Op = _ at c
  change (gI l.L t.At).C = _ at d
  rw [J7 l (by omega) b] at c d
  exact ⟨a, b, c, d, e⟩
 refine AM ieI (fun hp => AM ieI (fun hr => ?_) fun hr => Ba fun k => hr (k.2.p0 hp).1) fun hp => ?_
 · refine DM ieI ⟨fun ht => mk (fun _ => ⟨hr, ht⟩) fun h => absurd hp h, fun k => (k.2.p0 hp).2⟩
 · refine AM (p := t.Status ≠ 0) (by rw [bnI, ieI]) (fun hs => Ba fun k => hs (k.2.p1 hp).1) fun hs => AM ieI (fun ha => Ba fun k => by have := (un k.2 hp).2.1; omega) fun ha => ?_
   refine of_wp ?_
   simp only [tt_fl_7]
   have hw : IntKind.i64.wrap (t.Phase - 1) = t.Phase - 1 := wrap64 (by omega) (by omega)
   refine wN (by rw [ibI]; omega) (wN (by rw [ibI, hw]; omega) ?_)
   have ho : (cond (Nat.beq (Int.toNat (IntKind.i64.wrap (t.Phase - 1))) 0) (18 : Int) (19 : Int)) = 17 + t.Phase := by
    rw [hw]
    rcases (by omega : t.Phase = 1 ∨ t.Phase = 2) with e | e <;> rw [e] <;> rfl
   rw [ho]
   refine AM ieI (fun e1 => AM ieI (fun e2 => ?_) fun e2 => Ba fun k => e2 (un k.2 hp).2.2.2.1) fun e1 => Ba fun k => e1 (un k.2 hp).2.2.1
   exact DM ilI ⟨fun ht => mk (fun h => absurd h hp) fun _ => ⟨Classical.byContradiction hs, by omega, e1, e2, ht⟩, fun k => (un k.2 hp).2.2.2.2⟩
structure QE (x : TSo) : Prop where
 s0 : 0 ≤ x.AQ
 s1 : x.AQ < 18446744073709551616
 l0 : -9223372036854775808 ≤ x.Left
 l1 : x.Left ≤ 9223372036854775807
structure Kx (c nr : Int) (i : Nat) (x : TSo) : Prop where
 s1 : x.AQ < 9223372036854775808
 Sv : x.AQ / 2 % c = i
 free : x.AQ % 2 = 0 → x.Value = 0 ∧ x.Left = 0
 held : x.AQ % 2 = 1 → 1 ≤ x.Left ∧ x.Left < 2 ^ nr.toNat
theorem w_f2t (c r : Int) : D_f2t.wp (c, r) fun y => y = true ↔ 1 ≤ c ∧ c ≤ 64 ∧ 1 ≤ r ∧ r ≤ 8 := by
 refine of_wp ?_
 simp only [tt_f2t, TT.wp, leI, Bool.false_eq_true, false_iff]
 omega
theorem Hy {r : Int} (h1 : 1 ≤ r) (h8 : r ≤ 8) : shl IntKind.i64 1 r = 2 ^ r.toNat := by
 rcases (by omega : r = 1 ∨ r = 2 ∨ r = 3 ∨ r = 4 ∨ r = 5 ∨ r = 6 ∨ r = 7 ∨ r = 8) with e | e | e | e | e | e | e | e <;> subst e <;> rfl
theorem w_f1m (i : Nat) (c r : Int) (x : TSo) (hx : QE x) (hc : 1 ≤ c ∧ c ≤ 64 ∧ 1 ≤ r ∧ r ≤ 8) (hi : (i : Int) < 9223372036854775808) : D_f1m.wp ((i : Int), (c, (r, x))) fun y => y = true ↔ Kx c r i x := by
 refine of_wp ?_
 have h0 := hx.s0
 have hs := hx.s1
 simp only [tt_f1m]
 have hd : Int.tdiv x.AQ 2 = x.AQ / 2 := Int.tdiv_eq_ediv_of_nonneg h0
 have hw1 : IntKind.u64.wrap (x.AQ / 2) = x.AQ / 2 := A5 (by omega) (by omega)
 have hw2 : IntKind.u64.wrap c = c := A5 (by omega) (by omega)
 have hw3 : IntKind.u64.wrap (i : Int) = i := A5 (by omega) (by omega)
 have hm : Int.tmod (x.AQ / 2) c = x.AQ / 2 % c := Int.tmod_eq_emod_of_nonneg (by omega)
 have hm2 : Int.tmod x.AQ 2 = x.AQ % 2 := Int.tmod_eq_emod_of_nonneg h0
 rw [hd, hw1, hw2, hw3, hm]
 refine AM leI (fun h => Ba fun k => absurd k.s1 (Int.not_lt.2 h)) fun h => wN (by rw [bnI, ieI]; omega) (AM (p := x.AQ / 2 % c ≠ i) (by rw [bnI, ieI]) (fun h => Ba fun k => h k.Sv) fun h2 => ?_)
 refine of_wp ?_
 simp only [tt_f1m_3]
 rw [hm2]
 have h2 := Classical.byContradiction h2
 refine AM ieI (fun e => AM ieI (fun e2 => DM ieI ⟨fun e3 => ⟨by omega, h2, fun _ => ⟨e2, e3⟩, fun e4 => by omega⟩, fun k => (k.free e).2⟩) fun e2 => Ba fun k => e2 (k.free e).1) fun e => ?_
 refine AM leI (fun e2 => wN (by rw [leI]; omega) ?_) fun e2 => Ba fun k => e2 (k.held (by omega)).1
 refine DM ilI ?_
 rw [Hy hc.2.2.1 hc.2.2.2]
 exact ⟨fun e3 => ⟨by omega, h2, fun e4 => absurd e4 e, fun _ => ⟨e2, e3⟩⟩, fun k => (k.held (by omega)).2⟩
def M5 (c r : Int) (l : Sl TSo) : Prop := (l.n : Int) = c ∧ ∀ i, i < l.n → Kx c r i (l.get i)
structure S0 (l : Sl TSo) : Prop where
 n : l.n ≤ maxLen
 x : ∀ i, i < l.n → QE (l.get i)
 z : Cv l
theorem w_fo (c r : Int) (l : Sl TSo) (hl : S0 l) (hc : 1 ≤ c ∧ c ≤ 64 ∧ 1 ≤ r ∧ r ≤ 8) :
 D_fo.wp (c, (r, l)) fun y => (M5 c r l ∧ y.2 = 0 ∧ y.1.nil = false ∧ CY y.1.x.l l ∧ y.1.x.AP = r ∧ Cv y.1.x.l) ∨ (¬ M5 c r l ∧ y.2 = 3 ∧ y.1.nil = true) := by
 refine of_wp ?_
 simp only [tt_fo]
 refine wC (w_f2t c r) fun (y : Bool) hy => ?_
 refine AM bnI (fun h => absurd (hy.2 hc) h) fun _ => ?_
 refine AM (p := (l.n : Int) ≠ c) (by rw [bnI, ieI]) (fun h => .inr ⟨fun k => h k.1, rfl, rfl⟩) fun h => ?_
 have hn := Classical.byContradiction h
 refine Jn (fun k => (⟨c, r, l, l, l.n, (k : Nat)⟩ : X_fo_6)) l.n (fun k => Kx c r k (l.get k)) _ (fun D hJ => ?_) (fun D k hk hD => ?_)
 · simp only [tt_fo_6, BT, Nat.lt_irrefl, decide_false, Cc]
   refine of_wp ?_
   simp only [tt_fo_11]
   refine wC (IH l hl.z (by omega)) fun (y : Sl TSo) hy => ?_
   exact .inl ⟨⟨hn, hJ⟩, rfl, rfl, hy.1, rfl, hy.2⟩
 · simp only [tt_fo_6, BT, hk, decide_true, DC, A6 hk, BK, Int.toNat_natCast, Ct hk hl.n]
   refine wC (w_f1m k c r _ (hl.x k hk) hc (by have := Hg hl.n; omega)) fun (y : Bool) hy => ?_
   refine AM bnI (fun h => .inr ⟨fun kk => h (hy.2 (kk.2 k hk)), rfl, rfl⟩) fun h => hD (hy.1 (Classical.byContradiction h))
def My (c : Int) (x : TSo) (h : Int) (j : Nat) : Prop :=
 (x.AQ % 2 = 1 → EE x.Left j = false → x.AQ / 2 < h) ∧ (x.AQ % 2 = 0 → c ≤ x.AQ / 2 → x.AQ / 2 - c < h)
def Fi (c tail : Int) (AB : Sl Int) (x : TSo) : Prop := (x.AQ % 2 = 1 → x.AQ / 2 < tail) ∧ ∀ j, j < AB.n → My c x (AB.get j) j
theorem Ry : ∀ (x : Fin 256) (j : Fin 8), decide (Vm.bits .and IntKind.i64 (shr IntKind.i64 (x.val : Int) (j.val : Int)) 1 = 0) = !EE (x.val : Int) (j.val : Int) := by decide +kernel
theorem Mf {x : Int} {j : Nat} (h0 : 0 ≤ x) (h1 : x < 256) (hj : j < 8) : Vm.bits .and IntKind.i64 (shr IntKind.i64 x (j : Int)) 1 = 0 ↔ EE x (j : Int) = false := by
 have := Ry ⟨x.toNat, by omega⟩ ⟨j, hj⟩
 simp only [show ((x.toNat : Nat) : Int) = x by omega] at this
 exact decide_eq_true_iff.symm.trans (by rw [this]; simp)
structure S2 (l : Sl Int) : Prop where
 n : l.n ≤ 8
 h : ∀ j, j < l.n → 0 ≤ l.get j ∧ l.get j < 18446744073709551616
theorem Jr (x : TSo) (r : TRr) (hx : 0 ≤ x.AQ ∧ x.AQ < 9223372036854775808) (hl : 0 ≤ x.Left ∧ x.Left < 256) (hh : S2 r.AA.AB) (hm : 0 ≤ r.most ∧ r.most ≤ 64) :
 D_f1.wp (x, r) fun y => y = true ↔ Fi r.most r.AA.tail r.AA.AB x := by
 refine B5 ?_
 simp only [tt_f1]
 have hd : Int.tdiv x.AQ 2 = x.AQ / 2 := Int.tdiv_eq_ediv_of_nonneg hx.1
 have hw1 : IntKind.u64.wrap (x.AQ / 2) = x.AQ / 2 := A5 (by omega) (by omega)
 have hm2 : Int.tmod x.AQ 2 = x.AQ % 2 := Int.tmod_eq_emod_of_nonneg hx.1
 rw [hd, hw1, hm2]
 have h5 : (x.AQ % 2 = 1 → x.AQ / 2 < r.AA.tail) → D_f1_5.wp (⟨x, x.AQ / 2, Ad (x.AQ % 2) 1, r⟩ : X_f1_5) fun y => y.1 = true ↔ Fi r.most r.AA.tail r.AA.AB x := by
  intro ht
  refine of_wp ?_
  simp only [tt_f1_5]
  refine Jn (fun k => (⟨x, x.AQ / 2, Ad (x.AQ % 2) 1, r.AA.AB.n, (k : Nat), r⟩ : X_f1_6)) r.AA.AB.n (fun k => My r.most x (r.AA.AB.get k) k) _ (fun D hJ => ?_) (fun D k hk hD => ?_)
  · simp only [tt_f1_6, BT, Nat.lt_irrefl, decide_false, Cc]
    exact wN (by simp) (Pk ⟨ht, hJ⟩)
  · have hn := hh.n
    have hg := hh.h k hk
    have e2 : IntKind.i64.wrap ((k : Int) + 1) = ((k + 1 : Nat) : Int) := by rw [wrap64] <;> omega
    simp only [tt_f1_6, BT, hk, decide_true, DC, A6 hk, BK, Int.toNat_natCast, Nat.zero_add]
    refine wN (by simp) ?_
    have hb := Mf hl.1 hl.2 (Nat.lt_of_lt_of_le hk hn)
    have h12 : My r.most x (r.AA.AB.get k) k → (D_f1_12 D).wp (⟨x, x.AQ / 2, Ad (x.AQ % 2) 1, r.AA.AB.n, k, r⟩ : X_f1_12) fun y => y.1 = true ↔ Fi r.most r.AA.tail r.AA.AB x := fun hc => by
     refine of_wp ?_
     simp only [tt_f1_12, e2]
     exact hD hc
    refine AM ieI (fun ho => ?_) fun ho => ?_
    · have nh : ∀ {t e : TT Tryz.prog RR_f1} {Q}, e.wp Q → (TT.ite (!(Ad (x.AQ % 2) 1)) t e).wp Q := fun h => BX (fun k => by rw [bnI, ieI] at k; exact absurd ho k) fun _ => h
      refine wN (by rw [leI]; omega) (AM (ieI.trans hb) (fun hz => AM leI (fun hle => wN (by simp) (Ba fun kk => ?_)) fun hle => nh (h12 ⟨fun _ _ => by omega, fun e => by omega⟩)) fun hz => nh (h12 ⟨fun _ e => absurd e hz, fun e => by omega⟩))
      have := (kk.2 k hk).1 ho hz
      omega
    · refine BX (fun _ => AM leI (fun h1 => ?_) fun h1 => h12 ⟨fun e => absurd e ho, fun _ e => absurd e h1⟩) fun k => absurd (bnI.2 fun e => ho (ieI.1 e)) k
      rw [A5 (by omega) (by omega)]
      refine AM leI (fun h2 => wN (by simp) (Ba fun kk => ?_)) fun h2 => h12 ⟨fun e => absurd e ho, fun _ _ => by omega⟩
      have := (kk.2 k hk).2 (by omega) h1
      omega
 refine AM ieI (fun ho => AM leI (fun ht => Ba fun k => absurd (k.1 ho) (Int.not_lt.2 ht)) fun ht => h5 fun _ => by omega) fun ho => h5 fun e => absurd e ho
structure S1 (s : TRs) : Prop where
 t0 : 0 ≤ s.A4
 t1 : s.A4 < 18446744073709551616
 hn : s.An.n ≤ maxLen
 hh : ∀ j, j < s.An.n → 0 ≤ s.An.get j ∧ s.An.get j < 18446744073709551616
 hz : Cv s.An
 ss : S0 s.Aw
structure P2 (c : TRg) (s : TRs) : Prop where
 sl : M5 c.Dn c.AX s.Aw
 rd : (s.An.n : Int) = c.AX
 tb : s.A4 < 4611686018427387904
 h0 : ∀ j, j < s.An.n → s.An.get j ≤ s.A4 ∧ s.A4 - s.An.get j ≤ c.Dn
 st : ∀ i, i < s.Aw.n → Fi c.Dn s.A4 s.An (s.Aw.get i)
theorem EM {c : TRg} (h : As c = true) : 1 ≤ c.Dn ∧ c.Dn ≤ 64 ∧ 1 ≤ c.AX ∧ c.AX ≤ 8 := by
 simp only [As, decide_eq_true_eq] at h; omega
theorem L3 {c r : Int} {i : Nat} {x : TSo} (h : Kx c r i x) (h8 : r ≤ 8) : 0 ≤ x.Left ∧ x.Left < 256 := by
 rcases (by omega : x.AQ % 2 = 0 ∨ x.AQ % 2 = 1) with e | e
 · have := h.free e; omega
 · have := h.held e
   have h2 : (2 : Int) ^ r.toNat ≤ 2 ^ 8 := by exact_mod_cast Nat.pow_le_pow_right (by decide) (by omega : r.toNat ≤ 8)
   omega
structure PX (c : TRg) (r : TRr) : Prop where
 sn : r.s.nil = false
 rd : r.s.x.AP = c.AX
 ms : r.most = c.Dn
 hz : Cv r.AA.AB
 lz : Cv r.s.x.l
 hn : (r.AA.AB.n : Int) = c.AX
 ln : (r.s.x.l.n : Int) = c.Dn
def aR (r : TRr) : MR := ⟨r.AA.tail, r.AA.AB.L, r.closed, r.s.x.l.L⟩
def Qx (s : TRs) : MR := ⟨s.A4, s.An.L, s.B4, s.Aw.L⟩
theorem w_f30 (c : TRg) : D_f30.wp c fun y => y = true ↔ (c.Kind = 1 ∧ c.AX = 1 ∨ c.Kind = 2) := by
 refine of_wp ?_
 simp only [tt_f30, TT.wp, ieI, Bool.false_eq_true, true_iff, false_iff]
 omega
theorem w_f25 (x : Int) (h0 : 0 ≤ x) (h1 : x < 9223372036854775808) : D_f25.wp x fun y => y = 2 * x := by
 refine of_wp ?_
 simp only [tt_f25]
 exact A5 (by omega) (by omega)
def LX (i : Nat) : TSo := ⟨2 * (i : Int), 0, 0⟩
theorem w_f1g (c r : Int) (hi : 1 ≤ c ∧ c ≤ 64 ∧ 1 ≤ r ∧ r ≤ 8) :
 D_f1g.wp (c, r) fun y => y.2 = 0 ∧ y.1.nil = false ∧ CY y.1.x.l ⟨false, c.toNat, LX⟩ ∧ y.1.x.AP = r ∧ Cv y.1.x.l := by
 refine of_wp ?_
 simp only [tt_f1g]
 refine wC (w_f2t c r) fun (y : Bool) hy => ?_
 refine AM bnI (fun h => absurd (hy.2 hi) h) fun _ => ?_
 obtain ⟨n, rfl⟩ : ∃ n : Nat, c = n := ⟨c.toNat, by omega⟩
 simp only [Int.toNat_natCast]
 refine wN (by simp [upto, room, Bh]; omega) (wN (by simp) ?_)
 have hl := by
  refine Ee (tt := tt_f1g_5) (fun x : X_f1g_5 => x.J4 = n ∧ ∃ k : Nat, x.Fm = k ∧ k ≤ n ∧ x.FN.l.nil = false ∧ x.FN.l.n = n ∧ x.FN.AP = r ∧ (∀ i, i < n → x.FN.l.get i = if i < k then LX i else ⟨0, 0, 0⟩)) (fun x => (n - x.Fm).toNat)
   (fun _ y => y.2 = 0 ∧ y.1.nil = false ∧ CY y.1.x.l ⟨false, n, LX⟩ ∧ y.1.x.AP = r ∧ Cv y.1.x.l) (fun D x hI hD => ?_) (x := (⟨n, 0, ⟨⟨false, n, fun _ => ⟨0, 0, 0⟩⟩, r⟩⟩ : X_f1g_5)) ⟨rfl, 0, rfl, by omega, rfl, rfl, rfl, fun i _ => by simp⟩
  obtain ⟨e0, k, e1, hk, hz, hn, hr, hg⟩ := hI
  obtain ⟨q21, q22, ⟨⟨z, m, g⟩, rr⟩⟩ := x
  simp only at e0 e1 hz hn hr hg hD
  subst e0 e1 hz hn hr
  simp only [tt_f1g_5]
  refine AM ilI (fun h => ?_) fun h => ?_
  · have hkm : k < m := by omega
    rw [A5 (by omega) (by omega)]
    refine wC (w_f25 k (by omega) (by omega)) fun (y : Int) hy => ?_
    subst hy
    refine wN (A6 hkm) (wN (by simp) (wN (by simp) ?_))
    have e2 : IntKind.i64.wrap ((k : Int) + 1) = ((k + 1 : Nat) : Int) := by rw [wrap64] <;> omega
    rw [e2]
    refine hD _ ⟨rfl, k + 1, rfl, hkm, rfl, rfl, rfl, fun i hi => ?_⟩ (by simp only; omega)
    simp only [Int.toNat_natCast, Nat.zero_add]
    by_cases e : i = k
    · subst e
      have := hg i hi
      simp only [this, Nat.lt_irrefl, if_false, Nat.beq_refl, cond_true, LX]
      rw [if_pos (by omega)]
    · have hb : Nat.beq i k = false := Bool.eq_false_iff.2 fun h => e (Nat.eq_of_beq_eq_true h)
      simp only [hb, cond_false, hg i hi]
      by_cases e3 : i < k
      · rw [if_pos e3, if_pos (by omega)]
      · rw [if_neg e3, if_neg (by omega)]
  · have : k = m := by omega
    subst this
    refine ⟨rfl, rfl, ⟨rfl, fun i hi => ?_⟩, rfl, fun e => by cases e⟩
    show g i = LX i
    rw [hg i hi, if_pos hi]
 exact hl
theorem Lw (n : Nat) (b : Bool) : (⟨b, n, fun _ => (0 : Int)⟩ : Sl Int).L = List.replicate n 0 := by
 apply List.ext_getElem
 · simp
 · intro i h1 h2; simp [Sl.F4]
theorem w_f23 (c : TRg) (hc : As c = true) : D_f23.wp c fun y => y.2 = 0 ∧ y.1.nil = false ∧ PX c y.1.x ∧ aR y.1.x = H5 c := by
 have hf := EM hc
 refine of_wp ?_
 simp only [tt_f23]
 refine wC (w_f1g c.Dn c.AX hf) fun (y : Bx TSs × Int) hy => ?_
 obtain ⟨⟨bn, ⟨sl, rd⟩⟩, er⟩ := y
 obtain ⟨rfl, rfl, hs, rfl, hz⟩ := hy
 refine AM (p := (0 : Int) ≠ 0) (by rw [bnI, ieI]) (fun h => absurd rfl h) fun _ => ?_
 refine wC (w_f30 c) fun (z : Bool) hz' => ?_
 refine AM bnI (fun h => absurd (hz'.2 (by simp only [As, decide_eq_true_eq] at hc; omega)) h) fun _ => ?_
 refine of_wp ?_
 simp only [tt_f23_4]
 have hroom : c.AX.toNat * 8 ≤ 140737488351232 := by omega
 refine wN (by simp [upto, room, Bh, hroom]; omega) ⟨rfl, rfl, ⟨rfl, rfl, A5 (by omega) (by omega), fun e => by (cases e), hz, by show ((c.AX.toNat : Nat) : Int) = _; omega, by show (sl.n : Int) = _; rw [hs.n]; show ((c.Dn.toNat : Nat) : Int) = _; omega⟩, ?_⟩
 show (⟨0, _, false, sl.L⟩ : MR) = _
 rw [hs.L, Lw]
 rfl
theorem w_fb (c : TRg) (s : TRs) (hc : As c = true) (hs : S1 s) :
 D_fb.wp (c, s) fun y => (P2 c s ∧ y.2 = 0 ∧ y.1.nil = false ∧ PX c y.1.x ∧ aR y.1.x = Qx s) ∨ (¬ P2 c s ∧ y.2 = 3) := by
 have hf := EM hc
 refine of_wp ?_
 simp only [tt_fb]
 refine wC (w_f23 c hc) fun (y : Bx TRr × Int) hy => ?_
 obtain ⟨⟨bn, r⟩, er⟩ := y
 obtain ⟨h0, h1, hw, _⟩ := hy
 simp only at h0 h1 hw
 subst h0 h1
 refine AM (p := (0 : Int) ≠ 0) (by rw [bnI, ieI]) (fun h => absurd rfl h) fun _ => ?_
 refine wC (w_fo c.Dn c.AX s.Aw hs.ss hf) fun (z : Bx TSs × Int) hz => ?_
 obtain ⟨⟨zn, ⟨zl, zr⟩⟩, ze⟩ := z
 rcases hz with ⟨hsl, he, hzn, hsame, hrd, hlz⟩ | ⟨hno, he, _⟩
 · simp only at he hzn hsame hrd hlz
   subst he hzn hrd
   refine AM (p := (0 : Int) ≠ 0) (by rw [bnI, ieI]) (fun h => absurd rfl h) fun _ => ?_
   refine AM (p := (s.An.n : Int) ≠ c.AX) (by rw [bnI, ieI]) (fun h => .inr ⟨fun k => h k.rd, rfl⟩) fun h1 => AM leI (fun h => .inr ⟨fun k => absurd k.tb (Int.not_lt.2 h), rfl⟩) fun h2 => ?_
   have h1 := Classical.byContradiction h1
   refine wN rfl ?_
   refine of_wp ?_
   simp only [tt_fb_7]
   refine wC (Gj s.An hs.hz (by omega)) fun (hd : Sl Int) hhd => ?_
   obtain ⟨hsm, hhz⟩ := hhd
   have t0 := hs.t0
   have hnn : hd.n = s.An.n := hsm.n
   rw [hnn]
   refine Jn (fun k => (⟨s, s.An.n, (k : Nat), ⟨⟨s.A4, hd⟩, ⟨false, ⟨zl, c.AX⟩⟩, r.most, s.B4⟩⟩ : X_fb_9)) s.An.n (fun j => s.An.get j ≤ s.A4 ∧ s.A4 - s.An.get j ≤ c.Dn) _ (fun D hJ => ?_) (fun D k hk hD => ?_)
   · simp only [tt_fb_9, BT, Nat.lt_irrefl, decide_false, Cc]
     refine wN (by simp) (of_wp ?_)
     simp only [tt_fb_14]
     refine Jn (fun k => (⟨s.Aw, s.Aw.n, (k : Nat), ⟨⟨s.A4, hd⟩, ⟨false, ⟨zl, c.AX⟩⟩, r.most, s.B4⟩⟩ : X_fb_15)) s.Aw.n (fun i => Fi c.Dn s.A4 s.An (s.Aw.get i)) _ (fun D hJ2 => ?_) (fun D k hk hD => ?_)
     · simp only [tt_fb_15, BT, Nat.lt_irrefl, decide_false, Cc]
       refine .inl ⟨⟨hsl, h1, by omega, hJ, hJ2⟩, rfl, rfl, ⟨rfl, rfl, hw.ms, hhz, hlz, by show (hd.n : Int) = _; omega, by show (zl.n : Int) = _; rw [hsame.n]; exact hsl.1⟩, ?_⟩
       · show (⟨s.A4, hd.L, s.B4, zl.L⟩ : MR) = _
         rw [hsm.L, hsame.L]; rfl
     · have hx := hs.ss.x k hk
       have hp := hsl.2 k hk
       simp only [tt_fb_15, BT, hk, decide_true, DC, A6 hk, BK, Int.toNat_natCast, Ct hk hs.ss.n]
       have hok : S2 hd := ⟨by omega, fun j hj => by rw [hsm.g j (by omega)]; exact hs.hh j (by omega)⟩
       refine wC (Jr _ ⟨⟨s.A4, hd⟩, ⟨false, ⟨zl, c.AX⟩⟩, r.most, s.B4⟩ ⟨hx.s0, hp.s1⟩ (L3 hp hf.2.2.2) hok (by rw [hw.ms]; omega)) fun (y : Bool) hy => ?_
       have heq : Fi r.most s.A4 hd (s.Aw.get k) ↔ Fi c.Dn s.A4 s.An (s.Aw.get k) := by
        rw [hw.ms]
        unfold Fi
        rw [hsm.n]
        exact and_congr_right fun _ => ⟨fun h j hj => by have := h j hj; rwa [hsm.g j hj] at this, fun h j hj => by rw [hsm.g j hj]; exact h j hj⟩
       rw [heq] at hy
       exact AM bnI (fun h => .inr ⟨fun kk => h (hy.2 (kk.st k hk)), rfl⟩) fun h => hD (hy.1 (Classical.byContradiction h))
   · have hg := hs.hh k hk
     have hkd : k < hd.n := by omega
     simp only [tt_fb_9, BT, hk, decide_true, DC, A6 hkd, BK, Int.toNat_natCast, Nat.zero_add, hsm.g k hk]
     refine wN (by simp) (AM ilI (fun h => wN (by simp) (.inr ⟨fun kk => ?_, rfl⟩)) fun h => ?_)
     · have := (kk.h0 k hk).1; omega
     · rw [A5 (by omega) (by omega), hw.ms]
       refine AM ilI (fun h => wN (by simp) (.inr ⟨fun kk => ?_, rfl⟩)) fun h => ?_
       · have := (kk.h0 k hk).2; omega
       · refine of_wp ?_
         simp only [tt_fb_13, Ct hk hs.hn]
         rw [← hw.ms]
         exact hD ⟨by omega, by omega⟩
 · simp only at he
   subst he
   exact AM (p := (3 : Int) ≠ 0) (by rw [bnI, ieI]) (fun _ => .inr ⟨fun k => hno k.sl, rfl⟩) fun h => absurd (by decide) h
theorem R2 {X R : Type} {D : AV X R} {x x' : X} {Q : R → Prop} (h : D.wp x' Q) (e : x = x') : D.wp x Q := e ▸ h
theorem Ht {α β γ : Type} {s : Sl α} {t : Sl β} {f : α → γ} {g : β → γ} (hn : s.n = t.n) (h : ∀ i, i < t.n → f (s.get i) = g (t.get i)) : s.L.map f = t.L.map g := by
 apply List.ext_getElem
 · simp [hn]
 · intro i h1 h2
   simp only [List.getElem_map, Sl.F4]
   exact h i (by simpa using h2)
def snoc {α : Type} (s : Sl α) (y : α) : Sl α := ⟨false, s.n + 1, fun i => cond (Nat.blt i s.n) (s.get i) y⟩
def OU {α : Type} (s : Sl α) (k : Nat) (y : α) : Sl α := ⟨s.nil, s.n, fun i => cond (Nat.beq i k) y (s.get i)⟩
theorem Qq {i n : Nat} (h : i < n) : Nat.blt i n = true := by rw [Nat.blt_eq]; exact h
theorem Qr (n : Nat) : Nat.blt n n = false := Bool.eq_false_iff.2 fun h => by rw [Nat.blt_eq] at h; omega
theorem Hs {i k : Nat} (h : i ≠ k) : Nat.beq i k = false := Bool.eq_false_iff.2 fun e => h (Nat.eq_of_beq_eq_true e)
theorem Kn {α : Type} {s : Sl α} {y : α} {i : Nat} (h : i < s.n) : (snoc s y).get i = s.get i := by simp [snoc, Qq h]
theorem Ko {α : Type} {s : Sl α} {y : α} : (snoc s y).get s.n = y := by simp [snoc, Qr]
theorem Q9 {α : Type} {s : Sl α} {y : α} {i k : Nat} (h : i ≠ k) : (OU s k y).get i = s.get i := by simp [OU, Hs h]
theorem RA {α : Type} {s : Sl α} {y : α} {k : Nat} : (OU s k y).get k = y := by simp [OU]
structure IG (y p : TPg) : Prop where
 r : CY y.AK p.AK
 rz : Cv y.AK
 n : y.AD.n = p.AD.n
 t : ∀ t, t < p.AD.n → CY (y.AD.get t) (p.AD.get t) ∧ Cv (y.AD.get t)
theorem IG.same {y p : TPg} (h : IG y p) : aP y = aP p := by
 unfold aP
 rw [h.r.L, Ht h.n fun i hi => (h.t i hi).1.L]
theorem CY.Nt {y x : Sl TIn} (h : CY y x) (hx : Nt x) : Nt y := ⟨h.n ▸ hx.n, fun k hk => by rw [h.g k (h.n ▸ hk)]; exact hx.i k (h.n ▸ hk)⟩
theorem w_fq (p : TPg) (hp : Jq p) (hP : FD (aP p)) : D_fq.wp p fun y => IG y p := by
 obtain ⟨_, h8, hr8, _, hl⟩ := Bk hP
 refine of_wp ?_
 simp only [tt_fq]
 refine wC (Kg p.AK hp.rz (by omega)) fun (y : Sl TRg) hy => ?_
 refine Ee (tt := tt_fq_3) (fun x : X_fq_3 => x.P6 = p.AD ∧ x.RN = p.AD.n ∧ ∃ k : Nat, x.M9 = k ∧ k ≤ p.AD.n ∧ x.C4.AK = y ∧ x.C4.AD.n = k ∧ ∀ t, t < k → CY (x.C4.AD.get t) (p.AD.get t) ∧ Cv (x.C4.AD.get t))
  (fun x => (p.AD.n - x.M9).toNat) (fun _ y => IG y p) (fun D x hI hD => ?_) ⟨rfl, rfl, 0, rfl, by omega, rfl, rfl, fun t ht => by omega⟩
 obtain ⟨e0, e1, k, e2, hk, e3, hn, hg⟩ := hI
 obtain ⟨q11, q12, q13, m2, ⟨mr, mt⟩⟩ := x
 simp only at e0 e1 e2 e3 hn hg hD
 subst e0 e1 e2 e3 hn
 simp only [tt_fq_3]
 refine AM ilI (fun h => ?_) fun h => ?_
 · have hkm : mt.n < p.AD.n := by omega
   refine wN (A6 hkm) ?_
   rw [Int.toNat_natCast]
   refine wC (Jx (p.AD.get mt.n) (hp.lz _ hkm) (by have := (hl _ hkm).1; omega)) fun (z : Sl TIn) hz => ?_
   refine wN (by simp [room]; omega) ?_
   rw [Ct hkm hp.tn]
   refine R2 (x' := ⟨p.AD, p.AD.n, ((mt.n + 1 : Nat) : Int), m2, ⟨mr, snoc mt z⟩⟩) (hD _ ⟨rfl, rfl, mt.n + 1, rfl, hkm, rfl, rfl, fun t ht => ?_⟩ (by simp only; omega)) ?_
   · by_cases e : t = mt.n
     · subst e; simp only [Ko]; exact hz
     · have : t < mt.n := by omega
       simp only [Kn this]; exact hg t this
   · refine congrArg (fun g => X_fq_3.mk p.AD p.AD.n ((mt.n + 1 : Nat) : Int) m2 ⟨mr, ⟨false, mt.n + 1, g⟩⟩) (funext fun i => ?_)
     cases Nat.blt i mt.n <;> rfl
 · exact ⟨hy.1, hy.2, by simp only; omega, fun t ht => hg t (by omega)⟩
structure HL (b : Nat) (t : TTh) : Prop where
 k0 : 0 ≤ t.AJ
 k1 : t.AJ < 18446744073709551616
 rg : ∀ j, 0 ≤ t.Ao j ∧ t.Ao j < 18446744073709551616
 sz : Cv t.Seen
 sb : t.Seen.n ≤ b
theorem Qy (b : Nat) : HL b ⟨0, 0, 0, 0, 0, fun _ => 0, ⟨true, 0, fun _ => 0⟩⟩ := ⟨by decide, by decide, fun _ => ⟨Int.le_refl 0, (by decide : (0 : Int) < 18446744073709551616)⟩, fun _ => rfl, Nat.zero_le _⟩
structure FWf (p : TPg) (b : Nat) (f : TFa) : Prop where
 cp : IG f.p p
 tn : f.threads.n = p.AD.n
 tw : ∀ t, t < f.threads.n → HL b (f.threads.get t)
 rn : f.rings.n = p.AK.n
 rw : ∀ i, i < f.rings.n → (f.rings.get i).nil = false ∧ PX (p.AK.get i) (f.rings.get i).x
def aF (f : TFa) : MS := ⟨f.threads.L.map aT, f.rings.L.map fun r => aR r.x, f.now, f.reads, f.ended⟩
theorem rg_of {p : TPg} (hP : FD (aP p)) {i : Nat} (h : i < p.AK.n) : As (p.AK.get i) = true := (Bk hP).2.2.2.1 _ (Sl.DA.2 ⟨i, h, rfl⟩)
theorem w_f10 (p : TPg) (hp : Jq p) (b : Nat) :
 D_f10.wp p fun y => (FD (aP p) ∧ y.2 = 0 ∧ y.1.nil = false ∧ FWf p b y.1.x ∧ aF y.1.x = GN (aP p)) ∨ (¬ FD (aP p) ∧ y.2 = 1 ∧ y.1.nil = true) := by
 refine of_wp ?_
 simp only [tt_f10]
 refine wC (w_f2p p hp) fun (y : Bool) hy => ?_
 refine AM bnI (fun h => .inr ⟨fun k => h (hy.2 k), rfl, rfl⟩) fun h => ?_
 have hP := hy.1 (Classical.byContradiction h)
 obtain ⟨_, h8, hr8, _, hl⟩ := Bk hP
 refine wC (w_fq p hp hP) fun (q : TPg) hq => ?_
 refine wN (by simp [upto, room, Bh]; omega) ?_
 rw [Int.toNat_natCast]
 refine Ee (tt := tt_f10_5) (fun x : X_f10_5 => x.J4 = p.AK ∧ x.Fm = p.AK.n ∧ ∃ k : Nat, x.M8 = k ∧ k ≤ p.AK.n ∧ x.Bo.p = q ∧ x.Bo.threads = ⟨false, p.AD.n, fun _ => ⟨0, 0, 0, 0, 0, fun _ => 0, ⟨true, 0, fun _ => 0⟩⟩⟩ ∧ x.Bo.now = 0 ∧ x.Bo.reads = 0 ∧ x.Bo.ended = false ∧
  x.Bo.rings.n = k ∧ ∀ i, i < k → (x.Bo.rings.get i).nil = false ∧ PX (p.AK.get i) (x.Bo.rings.get i).x ∧ aR (x.Bo.rings.get i).x = H5 (p.AK.get i))
  (fun x => (p.AK.n - x.M8).toNat) (fun _ y => (FD (aP p) ∧ y.2 = 0 ∧ y.1.nil = false ∧ FWf p b y.1.x ∧ aF y.1.x = GN (aP p)) ∨ (¬ FD (aP p) ∧ y.2 = 1 ∧ y.1.nil = true)) (fun D x hI hD => ?_) ⟨rfl, rfl, 0, rfl, by omega, rfl, rfl, rfl, rfl, rfl, rfl, fun t ht => by omega⟩
 obtain ⟨e0, e1, k, e2, hk, e3, e4, e5, e6, e7, hn, hg⟩ := hI
 obtain ⟨q21, q22, q23, ⟨mp, mt, mr, mn, md, me⟩⟩ := x
 simp only at e0 e1 e2 e3 e4 e5 e6 e7 hn hg hD
 subst e0 e1 e2 e3 e4 e5 e6 e7 hn
 simp only [tt_f10_5]
 refine AM ilI (fun h => ?_) fun h => ?_
 · have hkm : mr.n < p.AK.n := by omega
   refine wN (A6 hkm) ?_
   rw [Int.toNat_natCast]
   refine wC (w_f23 (p.AK.get mr.n) (rg_of hP hkm)) fun (z : Bx TRr × Int) hz => ?_
   refine wN (by simp [room]; omega) ?_
   rw [Ct hkm hp.rn]
   refine R2 (x' := ⟨p.AK, p.AK.n, ((mr.n + 1 : Nat) : Int), ⟨mp, _, snoc mr z.1, 0, 0, false⟩⟩) (hD _ ⟨rfl, rfl, mr.n + 1, rfl, hkm, rfl, rfl, rfl, rfl, rfl, rfl, fun t ht => ?_⟩ (by simp only; omega)) ?_
   · by_cases e : t = mr.n
     · subst e; simp only [Ko]; exact ⟨hz.2.1, hz.2.2⟩
     · have : t < mr.n := by omega
       simp only [Kn this]; exact hg t this
   · refine congrArg (fun g => X_f10_5.mk p.AK p.AK.n ((mr.n + 1 : Nat) : Int) ⟨mp, _, ⟨false, mr.n + 1, g⟩, 0, 0, false⟩) (funext fun i => ?_)
     cases Nat.blt i mr.n <;> rfl
 · have hrn : mr.n = p.AK.n := by omega
   refine .inl ⟨hP, rfl, rfl, ⟨hq, rfl, fun t _ => Qy b, hrn, fun i hi => ⟨(hg i hi).1, (hg i hi).2.1⟩⟩, ?_⟩
   unfold aF GN
   simp only [MS.mk.injEq, and_true]
   refine ⟨?_, ?_⟩
   · simp only [aP, List.map_map]
     exact Ht rfl fun i _ => rfl
   · exact Ht hrn fun i hi => (hg i (hrn ▸ hi)).2.2
theorem Jq.c {p : TPg} (h : Jq p) {t : Nat} (ht : t < p.AD.n) : Nt (p.AD.get t) := ⟨h.ln t ht, h.ins t ht⟩
theorem Rt {p : TPg} (hP : FD (aP p)) {t : Nat} (ht : t < p.AD.n) : codeOk (p.AD.get t) := by
 obtain ⟨h1, h2⟩ := (Bk hP).2.2.2.2 t ht
 refine ⟨h1, fun k hk => ?_⟩
 have := FT (h2 k hk)
 exact ⟨this.1, fun hh => by have := this.2.1 ⟨hh.1, hh.2.1⟩; omega⟩
theorem DD {P : Program} {R : Type} {p : Prop} {t : TT P R} {Q : R → Prop} (h : t.wp Q) : (TT.side p t).wp Q := h
theorem Hv (r : TRr) : D_f1k.wp r fun y => y = r.AA.tail := B5 rfl
theorem Dg (j : Int) (c : TRc) : D_fp.wp (j, c) fun y => y = true ↔ 0 ≤ j ∧ j < c.AB.n := by
 refine B5 ?_
 simp only [tt_fp]
 exact AM leI (fun h => wN (by simp) (DM ilI ⟨fun k => ⟨h, k⟩, fun k => k.2⟩)) fun h => Ba fun k => h k.1
theorem Lh (j : Int) (r : TRr) (h0 : 0 ≤ j) (h1 : j < r.AA.AB.n) : D_fk.wp (j, r) fun y => y = r.AA.AB.get j.toNat := by
 refine B5 ?_
 simp only [tt_fk]
 refine wC (Dg j r.AA) fun (y : Bool) hy => ?_
 refine AM bnI (fun h => absurd (hy.2 ⟨h0, h1⟩) h) fun _ => of_wp ?_
 simp only [tt_fk_3, Nat.zero_add]
 exact wN (by rw [ibI]; exact ⟨h0, h1⟩) (wN (by simp) (wN (by simp) rfl))
theorem R0 {t : TTh} {y : Sl Int} (h : CY y t.Seen) : aT ⟨t.At, t.Phase, t.Ring, t.Status, t.AJ, t.Ao, y⟩ = aT t := by
 simp only [aT, h.L]
theorem Lf (x : TSs) (h : 0 < x.l.n) (hn : x.l.n * 24 ≤ 140737488351232) : D_f1o.wp x fun y => CY y x.l ∧ Cv y := by
 refine B5 ?_
 simp only [tt_f1o]
 refine wC (II ⟨x.l.n, x.l.get⟩ h hn) fun (y : Sl TSo) hy => wN (by simp) ⟨⟨hy.1.n, hy.1.g⟩, hy.2⟩
theorem Kd (c : TRg) (r : TRr) (hc : As c = true) (h : PX c r) : D_f1d.wp r fun y => Qx y = aR r ∧ Cv y.An ∧ Cv y.Aw := by
 have hf := EM hc
 have hn := h.hn
 have ln := h.ln
 refine B5 ?_
 simp only [tt_f1d]
 refine wN (by simp [h.sn]) ?_
 refine wC (Gk ⟨r.AA.AB.n, r.AA.AB.get⟩ (by show 0 < r.AA.AB.n; omega) (by show r.AA.AB.n * 8 ≤ _; omega)) fun (y : Sl Int) hy => ?_
 refine wC (Lf r.s.x (by omega) (by omega)) fun (z : Sl TSo) hz => wN (by simp [h.sn]) (DD (wN (by simp) ?_))
 have e : y.L = r.AA.AB.L := hy.1.L
 refine ⟨?_, hy.2, hz.2⟩
 show (⟨r.AA.tail, y.L, r.closed, z.L⟩ : MR) = _
 rw [e, hz.1.L]; rfl
theorem w_f2w (x : Int) : D_f2w.wp x fun y => y = true ↔ 18 ≤ x ∧ x ≤ 25 := by
 refine of_wp ?_
 simp only [tt_f2w, TT.wp, leI, Bool.false_eq_true, false_iff]
 omega
theorem EI {a : Int} (h : Ck a) : (BitVec.ofInt (IntKind.bits .u64) a).toNat = a.toNat := by
 obtain ⟨h0, h1⟩ := h
 rw [BitVec.toNat_ofInt]
 show (a % ((2 ^ 64 : Nat) : Int)).toNat = a.toNat
 rw [Int.emod_eq_of_lt h0 (by exact h1)]
theorem CQ {a : Int} (h : Ck a) : a.toNat < 2 ^ 64 := by
 obtain ⟨h0, h1⟩ := h
 have : (2 : Nat) ^ 64 = 18446744073709551616 := by decide
 omega
theorem Im {n : Nat} (h : n < 2 ^ 64) : IntKind.u64.wrap (n : Int) = n := by
 have : (2 : Nat) ^ 64 = 18446744073709551616 := by decide
 exact A5 (by omega) (by omega)
theorem HH {a b : Int} (ha : Ck a) (hb : Ck b) : Vm.bits .and IntKind.u64 a b = ((a.toNat &&& b.toNat : Nat) : Int) := by
 simp only [Vm.bits, BitVec.toNat_and, EI ha, EI hb]
 exact Im (Nat.and_lt_two_pow _ (CQ hb))
theorem LJ {a b : Int} (ha : Ck a) (hb : Ck b) : Vm.bits .or IntKind.u64 a b = ((a.toNat ||| b.toNat : Nat) : Int) := by
 simp only [Vm.bits, BitVec.toNat_or, EI ha, EI hb]
 exact Im (Nat.or_lt_two_pow (CQ ha) (CQ hb))
theorem LI {a b : Int} (ha : Ck a) (hb : Ck b) : Vm.bits .xor IntKind.u64 a b = ((a.toNat ^^^ b.toNat : Nat) : Int) := by
 simp only [Vm.bits, BitVec.toNat_xor, EI ha, EI hb]
 exact Im (Nat.xor_lt_two_pow (CQ ha) (CQ hb))
theorem R7 {b : Int} (hb : Ck b) : Vm.bits .and IntKind.u64 b 63 = b % 64 := by
 rw [HH hb (by unfold Ck; decide)]
 have : b.toNat &&& 63 = b.toNat % 64 := Nat.and_two_pow_sub_one_eq_mod b.toNat 6
 show ((b.toNat &&& 63 : Nat) : Int) = _
 rw [this]
 have := hb.1
 omega
theorem w_f34 (b : Bool) : D_f34.wp b fun y => y = if b = true then 1 else 0 := by
 refine of_wp ?_
 simp only [tt_f34]
 exact BX (fun h => by rw [if_pos h]; rfl) fun h => by rw [if_neg h]; rfl
theorem w_f2i (a b : Int) (ha : Ck a) (hb : Ck b) : D_f2i.wp (a, b) fun y => y = if b = 0 then 0 else a / b := by
 refine of_wp ?_
 simp only [tt_f2i]
 refine AM ieI (fun h => by rw [if_pos h]; rfl) fun h => wN (by simpa [Ad] using h) ?_
 rw [if_neg h]
 show IntKind.u64.wrap (Int.tdiv a b) = _
 rw [Int.tdiv_eq_ediv_of_nonneg ha.1]
 have h2 : a / b ≤ a := Int.ediv_le_self _ ha.1
 have h3 : 0 ≤ a / b := Int.ediv_nonneg ha.1 hb.1
 have := ha.2
 exact A5 h3 (by omega)
theorem w_f31 (a b : Int) (ha : Ck a) : D_f31.wp (a, b) fun y => y = if b = 0 then 0 else a % b := by
 refine of_wp ?_
 simp only [tt_f31]
 refine AM ieI (fun h => by rw [if_pos h]; rfl) fun h => wN (by simpa [Ad] using h) ?_
 rw [if_neg h]
 exact Int.tmod_eq_emod_of_nonneg ha.1
theorem SW (a b : Int) : MF 11 a b = IntKind.u64.wrap (a * 2 ^ (b % 64).toNat) := rfl
theorem SV (a b : Int) : MF 12 a b = a / 2 ^ (b % 64).toNat := rfl
theorem w_f36 (op a b : Int) (ha : Ck a) (hb : Ck b) (h3 : 3 ≤ op) (h14 : op ≤ 14) : D_f36.wp (op, (a, b)) fun y => y.1 = MF op a b := by
 refine of_wp ?_
 simp only [tt_f36]
 have hm : (b % 64).toNat ≤ 63 := by omega
 have hmin : min (b % 64).toNat (IntKind.bits .u64) = (b % 64).toNat := Nat.min_eq_left (by show _ ≤ 64; omega)
 refine AM ieI (fun h => ?_) fun n3 => AM ieI (fun h => ?_) fun n4 => AM ieI (fun h => ?_) fun n5 => AM ieI (fun h => ?_) fun n6 => AM ieI (fun h => ?_) fun n7 => AM ieI (fun h => ?_) fun n8 =>
  AM ieI (fun h => ?_) fun n9 => AM ieI (fun h => ?_) fun n10 => AM ieI (fun h => ?_) fun n11 => AM ieI (fun h => ?_) fun n12 => AM ieI (fun h => ?_) fun n13 => AM ieI (fun h => ?_) fun n14 => by omega
 · subst h; rfl
 · subst h; rfl
 · subst h; rfl
 · subst h
   exact wC (w_f2i a b ha hb) fun (y : Int) hy => hy
 · subst h
   exact wC (w_f31 a b ha) fun (y : Int) hy => hy
 · subst h
   exact HH ha hb
 · subst h
   exact LJ ha hb
 · subst h
   exact LI ha hb
 · subst h
   show shl IntKind.u64 a (Vm.bits .and IntKind.u64 b 63) = MF 11 a b
   rw [SW, R7 hb, shl, hmin]
 · subst h
   show shr IntKind.u64 a (Vm.bits .and IntKind.u64 b 63) = MF 12 a b
   rw [SV, R7 hb, shr, hmin, Int.fdiv_eq_ediv_of_nonneg]
   exact Int.le_of_lt (Int.pow_pos (by decide))
 · subst h
   refine wC (w_f34 (Bu a b)) fun (y : Int) hy => ?_
   subst hy
   show (if Bu a b = true then (1 : Int) else 0) = if a < b then 1 else 0
   simp only [ilI]
 · subst h
   refine wC (w_f34 (Ad a b)) fun (y : Int) hy => ?_
   subst hy
   show (if Ad a b = true then (1 : Int) else 0) = if a = b then 1 else 0
   simp only [ieI]
theorem ME {op a b : Int} (ha : Ck a) (hb : Ck b) : Ck (MF op a b) := by
 have hd : Ck (if b = 0 then 0 else a / b) := by
  split
  · exact Co
  · exact ⟨Int.ediv_nonneg ha.1 hb.1, by have := Int.ediv_le_self b ha.1; have := ha.2; omega⟩
 have hr : Ck (if b = 0 then 0 else a % b) := by
  split
  · exact Co
  · rename_i h
    have h1 : 0 < b := by have := hb.1; omega
    exact ⟨Int.emod_nonneg _ h, by have := Int.emod_lt_of_pos a h1; have := hb.2; omega⟩
 have hn : ∀ {n : Nat}, n < 2 ^ 64 → Ck (n : Int) := fun h => by
  have : (2 : Nat) ^ 64 = 18446744073709551616 := by decide
  exact ⟨Int.natCast_nonneg _, by omega⟩
 have it : ∀ {c : Prop} [Decidable c] {x y : Int}, Ck x → Ck y → Ck (if c then x else y) := fun h k => by split <;> assumption
 have u1 : Ck 1 := by unfold Ck; decide
 have hs : Ck (a / 2 ^ (b % 64).toNat) := ⟨Int.ediv_nonneg ha.1 (Int.le_of_lt (Int.pow_pos (by decide))), by have := Int.ediv_le_self (2 ^ (b % 64).toNat) ha.1; have := ha.2; omega⟩
 unfold MF
 exact it (F6 _) (it (F6 _) (it (F6 _) (it hd (it hr (it (hn (Nat.and_lt_two_pow _ (CQ hb))) (it (hn (Nat.or_lt_two_pow (CQ ha) (CQ hb))) (it (hn (Nat.xor_lt_two_pow (CQ ha) (CQ hb))) (it (F6 _) (it hs (it (it u1 Co) (it u1 Co)))))))))))
theorem A0 {P : Program} {R Z : Type} {g : R → Z} {b : Bool} {p : Prop} [Decidable p] {t e : TT P R} {u v : Z} (hb : b = true ↔ p) (h1 : p → t.wp fun y => g y = u) (h2 : ¬ p → e.wp fun y => g y = v) : (TT.ite b t e).wp fun y => g y = if p then u else v :=
 AM hb (fun h => by rw [if_pos h]; exact h1 h) fun h => by rw [if_neg h]; exact h2 h
theorem CK {a b : Bool} (h : a = true ↔ b = true) : a = b := Bool.eq_iff_iff.2 h
theorem w_f27 (k : Int) : D_f27.wp k fun y => y = BB k := by
 refine AV.wp.mono (Q := fun y : Bool => y = true ↔ (1 ≤ k ∧ k ≤ 4 ∨ k = 13)) (of_wp ?_) fun y hy => CK (hy.trans A9.symm)
 simp only [tt_f27, TT.wp, leI, ieI, true_iff]
 omega
theorem w_f2f (k : Int) : D_f2f.wp k fun y => y = Cn k := by
 refine AV.wp.mono (Q := fun y : Bool => y = true ↔ (1 ≤ k ∧ k ≤ 7 ∨ k = 13)) (of_wp ?_) fun y hy => CK (hy.trans CT.symm)
 simp only [tt_f2f]
 refine wC (w_f27 k) fun (y : Bool) hy => ?_
 subst hy
 simp only [TT.wp, leI, A9, true_iff, Bool.false_eq_true, false_iff]
 omega
theorem w_f2j (k : Int) : D_f2j.wp k fun y => y = Er k := by
 refine AV.wp.mono (Q := fun y : Bool => y = true ↔ (8 ≤ k ∧ k ≤ 10 ∨ k = 12)) (of_wp ?_) fun y hy => CK (hy.trans (by simp only [Er, decide_eq_true_eq]))
 simp only [tt_f2j, TT.wp, leI, ieI, true_iff]
 omega
theorem w_f1v (k : Int) : D_f1v.wp k fun y => y = ⟨#[]⟩ ↔ ¬ (1 ≤ k ∧ k ≤ 15) := by
 refine of_wp ?_
 simp only [tt_f1v]
 refine AM ilI (fun h => ⟨fun _ => by omega, fun _ => rfl⟩) fun h1 => AM ilI (fun h => ⟨fun _ => by omega, fun _ => rfl⟩) fun h2 => of_wp ?_
 simp only [tt_f1v_3]
 have hn : D_f2u.wp PUnit.unit fun y => y.n = 15 ∧ ∀ i, i < 15 → y.get i ≠ ⟨#[]⟩ := by
  refine of_wp ?_
  simp only [tt_f2u]
  refine ⟨rfl, fun i hi => ?_⟩
  rcases (by omega : i = 0 ∨ i = 1 ∨ i = 2 ∨ i = 3 ∨ i = 4 ∨ i = 5 ∨ i = 6 ∨ i = 7 ∨ i = 8 ∨ i = 9 ∨ i = 10 ∨ i = 11 ∨ i = 12 ∨ i = 13 ∨ i = 14) with e | e | e | e | e | e | e | e | e | e | e | e | e | e | e <;> subst e <;> exact fun h => by cases h
 refine wC hn fun (y : Sl ByteArray) hy => ?_
 have hw : IntKind.i64.wrap (k - 1) = k - 1 := wrap64 (by omega) (by omega)
 rw [hw]
 exact wN (by rw [ibI, hy.1]; omega) ⟨fun h => absurd h (hy.2 _ (by omega)), fun h => absurd ⟨by omega, by omega⟩ h⟩
def IB (e : TEv) : TEv := ⟨e.Thread, e.Kind, if Cn e.Kind = true then e.Ring else 0, if BB e.Kind = true then e.AJ else 0, if Er e.Kind = true then e.Value else 0⟩
theorem w_fr (e : TEv) : D_fr.wp e fun y => y = IB e := by
 refine of_wp ?_
 simp only [tt_fr]
 refine wC (w_f2f e.Kind) fun (y : Bool) hy => ?_
 subst hy
 have h5 : ∀ r t z, D_fr_5.wp (⟨⟨e.Thread, e.Kind, r, t, e.Value⟩, z⟩ : X_fr_5) fun y => y = ⟨e.Thread, e.Kind, r, t, if Er e.Kind = true then e.Value else 0⟩ := fun r t z => by
  refine of_wp ?_
  simp only [tt_fr_5]
  refine wC (w_f2j e.Kind) fun (y : Bool) hy => ?_
  subst hy
  exact AM bnI (fun h => by rw [if_neg h]; rfl) fun h => by rw [if_pos (Classical.byContradiction h)]; rfl
 have h3 : ∀ r z, D_fr_3.wp (⟨⟨e.Thread, e.Kind, r, e.AJ, e.Value⟩, z⟩ : X_fr_3) fun y => y = ⟨e.Thread, e.Kind, r, if BB e.Kind = true then e.AJ else 0, if Er e.Kind = true then e.Value else 0⟩ := fun r z => by
  refine of_wp ?_
  simp only [tt_fr_3]
  refine wC (w_f27 e.Kind) fun (y : Bool) hy => ?_
  subst hy
  exact AM bnI (fun h => by rw [if_neg h]; exact h5 _ _ _) fun h => by rw [if_pos (Classical.byContradiction h)]; exact h5 _ _ _
 unfold IB
 exact AM bnI (fun h => by rw [if_neg h]; exact h3 _ _) fun h => by rw [if_pos (Classical.byContradiction h)]; exact h3 _ _
theorem Ft {e : TEv} : Bt e = true ↔ (1 ≤ e.Kind ∧ e.Kind ≤ 15) ∧ (0 ≤ e.Thread ∧ e.Thread ≤ 7) ∧ (0 ≤ e.Ring ∧ e.Ring ≤ 7) ∧ e.AJ < 4611686018427387904 ∧
 (Cn e.Kind = true ∨ e.Ring = 0) ∧ (BB e.Kind = true ∨ e.AJ = 0) ∧ (Er e.Kind = true ∨ e.Value = 0) := by
 simp only [Bt, decide_eq_true_eq]
theorem Qt {e : TEv} : ((Ad e.Thread (IB e).Thread) && ((Ad e.Kind (IB e).Kind) && ((Ad e.Ring (IB e).Ring) && ((Ad e.AJ (IB e).AJ) && ((Ad e.Value (IB e).Value) && true))))) = true ↔
 (Cn e.Kind = true ∨ e.Ring = 0) ∧ (BB e.Kind = true ∨ e.AJ = 0) ∧ (Er e.Kind = true ∨ e.Value = 0) := by
 simp only [IB, Bool.and_eq_true, ieI, true_and, and_true]
 cases Cn e.Kind <;> cases BB e.Kind <;> cases Er e.Kind <;> simp
theorem w_f2g (e : TEv) : D_f2g.wp e fun y => y = Bt e := by
 refine AV.wp.mono (Q := fun y : Bool => y = true ↔ Bt e = true) (of_wp ?_) fun y hy => CK hy
 simp only [tt_f2g]
 refine wC (w_f1v e.Kind) fun (y : ByteArray) hy => ?_
 refine AM (p := 1 ≤ e.Kind ∧ e.Kind ≤ 15) (by rw [bnI, Nj]; exact (not_congr hy).trans Decidable.not_not) (fun h1 => ?_) fun h1 => Ba fun k => h1 (Ft.1 k).1
 refine wC (w_fr e) fun (y : TEv) hy => ?_
 subst hy
 refine AM Qt (fun h2 => AM leI (fun h3 => AM ilI (fun h4 => AM leI (fun h5 => AM ilI (fun h6 => DM ilI ?_) fun h => ?_) fun h => ?_) fun h => ?_) fun h => ?_) fun h => ?_
 · rw [Ft]; exact ⟨fun h => ⟨h1, by omega, by omega, h, h2⟩, fun h => h.2.2.2.1⟩
 all_goals refine Ba fun k => ?_
 all_goals have k := Ft.1 k
 · omega
 · omega
 · omega
 · omega
 · exact h k.2.2.2.2
def aA (a : TAk) : MA := ⟨a.Kind, a.Ring, a.Mode, a.Reader, a.AJ, a.Value⟩
theorem w_f26 (k : Int) : D_f26.wp k fun y => y = Fs k := by
 refine of_wp ?_
 simp only [tt_f26, Fs]
 exact A0 (g := id) ieI (fun _ => rfl) fun _ => A0 (g := id) ieI (fun _ => rfl) fun _ => A0 (g := id) ieI (fun _ => rfl) fun _ => A0 (g := id) ieI (fun _ => rfl) fun _ => A0 (g := id) ieI (fun _ => rfl) fun _ =>
  A0 (g := id) ieI (fun _ => rfl) fun _ => A0 (g := id) ieI (fun _ => rfl) fun _ => A0 (g := id) ieI (fun _ => rfl) fun _ => A0 (g := id) ieI (fun _ => rfl) fun _ => A0 (g := id) ieI (fun _ => rfl) fun _ => A0 (g := id) ieI (fun _ => rfl) fun _ => rfl
theorem w_fe (a : TAk) (e : TEv) : D_fe.wp (a, e) fun y => y = Dc (aA a) e := by
 refine of_wp ?_
 simp only [tt_fe]
 refine wC (w_f2f e.Kind) fun (y : Bool) hy => ?_
 subst hy
 have h4 : ∀ w : Bool, (w = true ↔ (a.Kind = 1 ∨ a.Kind = 2)) → D_fe_4.wp (⟨a, e, w⟩ : X_fe_4) fun y => y = (if e.Kind = 5 then decide ((a.Kind = 1 ∨ a.Kind = 2) ∧ a.Mode = 0)
  else if e.Kind = 6 then decide (a.Kind = 1 ∨ a.Kind = 2)
  else if e.Kind = 7 then decide ((a.Kind = 1 ∨ a.Kind = 2) ∧ a.Mode = 2)
  else if e.Kind = 2 ∨ e.Kind = 4 then decide (a.Kind = Fs e.Kind ∧ a.AJ = e.AJ)
  else if e.Kind = 12 then decide (a.Kind = 7 ∧ a.Value = e.Value)
  else decide (a.Kind = Fs e.Kind)) := fun w hw => by
  refine of_wp ?_
  simp only [tt_fe_4]
  have dd : ∀ {x y : Int} {p q : Prop} [Decidable q] {b : Bool}, (b = true ↔ p) → (q ↔ p ∧ x = y) → (TT.ite b (.ret (Ad x y)) (.ret false) : TT Tryz.prog R_fe).wp fun z => z = decide q := fun {x y p q _ b} hb h =>
   AM hb (fun k => CK (ieI.trans ⟨fun e => decide_eq_true (h.2 ⟨k, e⟩), fun e => (h.1 (of_decide_eq_true e)).2⟩)) fun k => (decide_eq_false fun e => k (h.1 e).1).symm
  have tk : (TT.call con_f26 e.Kind fun (y1 : R_f26) => .ite (Ad a.Kind y1) (.ret (Ad a.AJ e.AJ)) (.ret false) : TT Tryz.prog R_fe).wp fun z => z = decide (a.Kind = Fs e.Kind ∧ a.AJ = e.AJ) := by
   refine wC (w_f26 e.Kind) fun (y : Int) hy => ?_
   subst hy
   exact dd ieI Iff.rfl
  refine A0 (g := id) ieI (fun _ => dd hw Iff.rfl) fun _ => A0 (g := id) ieI (fun _ => CK (hw.trans (by simp))) fun _ => A0 (g := id) ieI (fun _ => dd hw Iff.rfl) fun _ => ?_
  refine AM ieI (fun h => ?_) fun h2 => AM ieI (fun h => ?_) fun h4 => ?_
  · rw [if_pos (.inl h)]; exact tk
  · rw [if_pos (.inr h)]; exact tk
  · rw [if_neg (by omega)]
    refine A0 (g := id) ieI (fun _ => dd ieI Iff.rfl) fun _ => of_wp ?_
    simp only [tt_fe_16]
    refine wC (w_f26 e.Kind) fun (y : Int) hy => ?_
    subst hy
    exact CK (ieI.trans (by simp))
 have h3 : (Cn e.Kind = true → a.Ring = e.Ring) → D_fe_3.wp (⟨a, e⟩ : X_fe_3) fun y => y = Dc (aA a) e := fun hr => by
  have hh : (!Cn e.Kind || decide (a.Ring = e.Ring)) = true := by
   cases q : Cn e.Kind
   · rfl
   · simpa using hr q
  unfold Dc
  show D_fe_3.wp _ fun y => y = ((!Cn e.Kind || decide (a.Ring = e.Ring)) && _)
  rw [hh, Bool.true_and]
  refine of_wp ?_
  simp only [tt_fe_3]
  exact AM ieI (fun h => h4 true (by simp [h])) fun h => h4 _ (by rw [ieI]; omega)
 refine BX (fun h => AM (p := a.Ring ≠ e.Ring) (by rw [bnI, ieI]) (fun hn => ?_) fun hn => h3 fun _ => Classical.byContradiction hn) fun h => h3 fun k => absurd k h
 unfold Dc
 have : (!Cn e.Kind || decide ((aA a).Ring = e.Ring)) = false := by rw [h]; exact decide_eq_false hn
 rw [this]; rfl
theorem Lx (g : Nat → Int) (i v : Int) : (fun k => cond (Nat.beq k i.toNat) v (g k)) = DF g i v := by
 funext k
 unfold DF
 by_cases h : k = i.toNat
 · subst h; simp
 · rw [Hs h, if_neg h]; rfl
theorem B2 {g : Nat → Int} {i v : Int} (hg : ∀ j, Ck (g j)) (hv : Ck v) : ∀ j, Ck (DF g i v j) := fun j => by
 unfold DF; split
 · exact hv
 · exact hg j
theorem HL.with {b : Nat} {t : TTh} (h : HL b t) (a : Int) {g : Nat → Int} (hg : ∀ j, Ck (g j)) : HL b ⟨a, t.Phase, t.Ring, t.Status, t.AJ, g, t.Seen⟩ := ⟨h.k0, h.k1, hg, h.sz, h.sb⟩
theorem w_f2d (i : TIn) (t : TTh) (b : Nat) (hi : RV i) (hr : BO i = true) (ho : i.Op ≤ 17) (ht : HL b t) (ha : 0 ≤ t.At ∧ t.At < 1000) :
 D_f2d.wp (i, t) fun y => aT y = Db i (aT t) ∧ HL b y := by
 have hf := BM hr
 have hA : BA i.A 8 = true := by rw [ibI]; omega
 have hB : BA i.B 8 = true := by rw [ibI]; omega
 have hC : BA i.C 8 = true := by rw [ibI]; omega
 have hw : IntKind.i64.wrap (t.At + 1) = t.At + 1 := wrap64 (by omega) (by omega)
 refine of_wp ?_
 simp only [tt_f2d, hA, hB, hC, hw, Lx]
 have nx : (TT.ret (TTh.mk (t.At + 1) t.Phase t.Ring t.Status t.AJ t.Ao t.Seen) : TT Tryz.prog R_f2d).wp fun y => aT y = { aT t with At := t.At + 1 } ∧ HL b y := ⟨rfl, ht.with _ ht.rg⟩
 have jm : i.Op ≠ 1 → (TT.ret (TTh.mk (IntKind.i64.wrap i.K) t.Phase t.Ring t.Status t.AJ t.Ao t.Seen) : TT Tryz.prog R_f2d).wp fun y => aT y = { aT t with At := i.K } ∧ HL b y := fun h => by
  have := hf.2.2.2.2.2.1 h
  rw [wrap64 (by omega) (by omega)]
  exact ⟨rfl, ht.with _ ht.rg⟩
 have e0 : (aT t).At = t.At := rfl
 have e1 : (aT t).Ao = t.Ao := rfl
 unfold Db
 simp only [e0, e1]
 refine AM ieI (fun h => ?_) fun n1 => AM ieI (fun h => ?_) fun n2 => AM ieI (fun h => ?_) fun n15 => AM ieI (fun h => ?_) fun n16 => AM ieI (fun h => ?_) fun n17 => ?_
 · rw [if_pos h]; exact wN rfl ⟨rfl, ht.with _ (B2 ht.rg hi.1)⟩
 · rw [if_neg n1, if_pos h]; exact wN rfl (wN rfl ⟨rfl, ht.with _ (B2 ht.rg (ht.rg _))⟩)
 · rw [if_neg n1, if_neg n2, if_pos (.inl h)]; exact jm n1
 · rw [if_neg n1, if_neg n2]
   refine wN rfl (AM (p := t.Ao i.A.toNat = 0) (by rw [h]; simp [Ad]) (fun q => ?_) fun q => ?_)
   · rw [if_pos (.inr (.inl ⟨h, q⟩))]; exact jm n1
   · rw [if_neg (by omega), if_neg (by omega)]; exact nx
 · rw [if_neg n1, if_neg n2]
   refine wN rfl (AM (p := t.Ao i.A.toNat ≠ 0) (by rw [h]; simp [Ad]) (fun q => ?_) fun q => ?_)
   · rw [if_pos (.inr (.inr ⟨h, q⟩))]; exact jm n1
   · rw [if_neg (by omega), if_neg (by omega)]; exact nx
 · rw [if_neg n1, if_neg n2, if_neg (by omega), if_pos (by omega)]
   refine wN rfl (wN rfl (wC (w_f36 i.Op _ _ (ht.rg _) (ht.rg _) (by omega) (by omega)) fun (y : Int × Bool) hy => wN rfl ?_))
   rw [hy]
   exact ⟨rfl, ht.with _ (B2 ht.rg (ME (ht.rg _) (ht.rg _)))⟩
theorem Ow {l : List TIn} {t : MT} (h : ¬ (t.At < l.length ∧ (gI l t.At).Op ≤ 17)) : ∀ n, ER l n t = t
 | 0 => rfl
 | n + 1 => by unfold ER; rw [if_neg h]
theorem KO {l : List TIn} {t : MT} (h : t.At < l.length ∧ (gI l t.At).Op ≤ 17) (n : Nat) : ER l (n + 1) t = ER l n (Db (gI l t.At) t) := by
 show (if _ then _ else _) = _
 rw [if_pos h]
structure InsF (l : Sl TIn) (i : TIn) : Prop where
 ok : RV i
 ri : BO i = true
 jm : 15 ≤ i.Op ∧ i.Op ≤ 17 → i.K ≤ l.n
theorem QX {l : Sl TIn} (hl : Nt l) (hc : codeOk l) {a : Int} (h0 : 0 ≤ a) (h1 : a < l.n) : InsF l (l.get a.toNat) := by
 have hk : a.toNat < l.n := by omega
 obtain ⟨c1, c2⟩ := hc.2 _ hk
 exact ⟨hl.i _ hk, c1, fun q => by
  have c3 : ¬ ((l.n : Int) < (l.get a.toNat).K) := fun z => c2 ⟨q.1, q.2, z⟩
  omega⟩
theorem w_f2r (i : TIn) (t : TTh) (l : Sl TIn) (hr : BO i = true) (h0 : 0 ≤ t.At) (h1 : t.At < l.n) (hi : l.get t.At.toNat = i) (ho : 18 ≤ i.Op) : D_f2r.wp (i, t) fun y => aA y = GQ l.L (aT t) := by
 have hf := BM hr
 have hA : BA i.A 8 = true := by rw [ibI]; omega
 have hg : gI l.L (aT t).At = i := by rw [← hi]; exact J7 l h0 h1
 have hw : IntKind.i64.wrap i.K = i.K := by
  have := hf.2.2.2.2.2.1 (by omega)
  exact wrap64 (by omega) (by omega)
 refine of_wp ?_
 simp only [tt_f2r, hA, GQ, hg, hw]
 rw [if_neg (by rw [Sl.C2]; show t.At ≠ _; omega), if_neg (by omega)]
 exact A0 ieI (fun _ => wN rfl rfl) fun _ => A0 ieI (fun _ => rfl) fun _ => A0 ieI (fun _ => rfl) fun _ => A0 ieI (fun _ => rfl) fun _ => A0 ieI (fun _ => rfl) fun _ => A0 ieI (fun _ => rfl) fun _ => A0 ieI (fun _ => wN rfl rfl) fun _ => rfl
theorem w_fa_12 (l : Sl TIn) (s : TTh) (z4 : TTh) (z5 : TAk) (hl : Nt l) (hc : codeOk l) (h0 : 0 ≤ s.At) (h1 : s.At ≤ l.n) :
 D_fa_12.wp (⟨l, s, z4, z5⟩ : X_fa_12) fun y => y.1 = s ∧ aA y.2 = GQ l.L (aT s) := by
 refine of_wp ?_
 simp only [tt_fa_12]
 refine AM ieI (fun h => ⟨rfl, ?_⟩) fun h => ?_
 · unfold GQ
   rw [if_pos (by rw [Sl.C2]; exact h)]; rfl
 · have h2 : s.At < l.n := by omega
   have hF := QX hl hc h0 h2
   have hf := BM hF.ri
   refine wN (by rw [ibI]; omega) (wC (w_f2l _) fun (y : Bool) hy => ?_)
   refine AM hy (fun hp => ⟨rfl, ?_⟩) fun hp => wN (by rw [ibI]; omega) ?_
   · unfold GQ
     rw [if_neg (by rw [Sl.C2]; exact h)]
     have : gI l.L (aT s).At = l.get s.At.toNat := J7 l h0 h2
     rw [this, if_pos hp.2]; rfl
   · exact wC (w_f2r _ s l hF.ri h0 h2 rfl (by omega)) fun y hy => ⟨rfl, hy⟩
theorem w_fa (l : Sl TIn) (t : TTh) (b : Nat) (hl : Nt l) (hc : codeOk l) (hT : Ew l.L (aT t)) (ht : HL b t) :
 D_fa.wp (l, t) fun y => aT y.1 = (Bp l.L (aT t)).1 ∧ aA y.2 = (Bp l.L (aT t)).2 ∧ HL b y.1 := by
 have a0 : 0 ≤ t.At := hT.a0
 have a1 : t.At ≤ l.n := by have := hT.a1; simpa [aT] using this
 have p1 := hT.p1
 refine of_wp ?_
 simp only [tt_fa]
 unfold Bp
 have es : (aT t).Status = t.Status := rfl
 have ep : (aT t).Phase = t.Phase := rfl
 simp only [es, ep]
 refine AM (p := t.Status ≠ 0) (by rw [bnI, ieI]) (fun h => ?_) fun hs => AM ieI (fun h => ?_) fun hp1 => AM ieI (fun h => ?_) fun hp2 => ?_
 · rw [if_pos h]; exact ⟨rfl, rfl, ht⟩
 · have hq := p1 (by show t.Phase ≠ 0; omega)
   have h2 : t.At < l.n := by have := hq.2.1; simpa [aT] using this
   have hF := QX hl hc a0 h2
   have hf := BM hF.ri
   refine wN (by rw [ibI]; omega) (wN (by rw [ibI]; omega) ?_)
   rw [if_neg (fun k => k (Classical.byContradiction hs)), if_pos h]
   have : gI l.L (aT t).At = l.get t.At.toNat := J7 l a0 h2
   rw [this]
   exact ⟨rfl, rfl, ht⟩
 · have hq := p1 (by show t.Phase ≠ 0; omega)
   have h2 : t.At < l.n := by have := hq.2.1; simpa [aT] using this
   have hF := QX hl hc a0 h2
   have hf := BM hF.ri
   have ho : (l.get t.At.toNat).Op = 17 + t.Phase := by
    have := hq.2.2.1
    rwa [show gI l.L (aT t).At = l.get t.At.toNat from J7 l a0 h2] at this
   have hk := hf.2.2.2.2.2.1 (by omega)
   refine wN (by rw [ibI]; omega) ?_
   rw [if_neg (fun k => k (Classical.byContradiction hs)), if_neg hp1, if_pos h, wrap64 (by omega) (by omega)]
   have : gI l.L (aT t).At = l.get t.At.toNat := J7 l a0 h2
   rw [this]
   exact ⟨rfl, rfl, ht⟩
 · rw [if_neg (fun k => k (Classical.byContradiction hs)), if_neg hp1, if_neg hp2]
   simp only
   have h256 := hc.1
   refine Ee (tt := tt_fa_8) (fun x : X_fa_8 => x.Fb = l ∧ ∃ k : Nat, x.I7 = k ∧ k ≤ 256 ∧ (0 ≤ x.C4.At ∧ x.C4.At ≤ l.n) ∧ ER l.L (256 - k) (aT x.C4) = ER l.L 256 (aT t) ∧ HL b x.C4)
    (fun x => (256 - x.I7).toNat) (fun _ y => aT y.1 = ER l.L 256 (aT t) ∧ aA y.2 = GQ l.L (ER l.L 256 (aT t)) ∧ HL b y.1) (fun D x hI hD => ?_) ⟨rfl, 0, rfl, by omega, ⟨a0, a1⟩, rfl, ht⟩
   obtain ⟨l', q, s, z4, z5⟩ := x
   obtain ⟨e1, k, e2, hk, hA, hrun, hw⟩ := hI
   simp only at e1 e2 hA hrun hw hD
   subst e1 e2
   simp only [tt_fa_8]
   have fin : (¬ ((aT s).At < l'.L.length ∧ (gI l'.L (aT s).At).Op ≤ 17) ∨ k = 256) → D_fa_12.wp (⟨l', s, z4, z5⟩ : X_fa_12) fun y => aT y.1 = ER l'.L 256 (aT t) ∧ aA y.2 = GQ l'.L (ER l'.L 256 (aT t)) ∧ HL b y.1 := fun h => by
    have he : ER l'.L 256 (aT t) = aT s := by
     rw [← hrun]
     rcases h with h | h
     · exact Ow h _
     · rw [h]; rfl
    rw [he]
    refine (w_fa_12 l' s z4 z5 hl hc hA.1 hA.2).mono fun y hy => ?_
    rw [hy.1]
    exact ⟨rfl, hy.2, hw⟩
   refine AM ilI (fun hlt => AM ieI (fun h => fin (.inl fun z => ?_)) fun h => ?_) fun hlt => fin (.inr (by omega))
   · have := z.1; rw [Sl.C2] at this; change s.At < _ at this; omega
   · have h2 : s.At < l'.n := by omega
     have hF := QX hl hc hA.1 h2
     have hf := BM hF.ri
     have hg : gI l'.L (aT s).At = l'.get s.At.toNat := J7 l' hA.1 h2
     refine wN (by rw [ibI]; omega) (wC (w_f2w _) fun (y : Bool) hy => ?_)
     refine AM hy (fun h => fin (.inl fun z => ?_)) fun h => of_wp ?_
     · rw [hg] at z; omega
     · simp only [tt_fa_10]
       have h17 : (l'.get s.At.toNat).Op ≤ 17 := by omega
       refine wN (by rw [ibI]; omega) (wC (w_f2d _ s b hF.ok hF.ri h17 hw (by omega)) fun (y : TTh) hy => of_wp ?_)
       simp only [tt_fa_11]
       have e2 : IntKind.i64.wrap ((k : Int) + 1) = ((k + 1 : Nat) : Int) := by rw [wrap64] <;> omega
       rw [e2]
       have Mp : 0 ≤ y.At ∧ y.At ≤ l'.n := by
        have := Ni (i := l'.get s.At.toNat) (t := aT s) (n := l'.n) hA.1 h2 (fun q => (hf.2.2.2.2.2.1 q).1) hF.jm
        rw [← hy.1] at this; exact this
       refine hD _ ⟨rfl, k + 1, rfl, by omega, Mp, ?_, hy.2⟩ (by simp only; omega)
       have hst : (aT s).At < l'.L.length ∧ (gI l'.L (aT s).At).Op ≤ 17 := ⟨by rw [Sl.C2]; exact h2, by rw [hg]; exact h17⟩
       rw [← hrun, show 256 - k = (256 - (k + 1)) + 1 by omega, KO hst, hg, hy.1]
theorem Gl (x : Sl Int) (h : Cv x) (hn : x.n * 8 ≤ 140737488351232) : D_f1i.wp x fun y => CY y x ∧ Cv y := by
 refine of_wp ?_
 simp only [tt_f1i]
 refine BX (fun e => ⟨⟨(h e).symm, fun i hi => by have := h e; omega⟩, fun _ => rfl⟩) fun _ => wN (room_le hn) ⟨⟨?_, fun i _ => rfl⟩, fun e => ?_⟩
 · exact Nat.zero_add _
 · simp only [Bool.cond_self, Bool.false_eq_true] at e
theorem w_f2e (l : Sl TIn) (t : TTh) (b : Nat) (hb : b * 8 ≤ 140737488351232) (hl : Nt l) (hc : codeOk l) (hT : Ew l.L (aT t)) (ht : HL b t) :
 D_f2e.wp (l, t) fun y => aT y.1 = (Bp l.L (aT t)).1 ∧ aA y.2.1 = (Bp l.L (aT t)).2 ∧ HL b y.1 ∧ y.2.2 = 0 := by
 refine of_wp ?_
 simp only [tt_f2e]
 refine wC (w_fl l t hl ht.k0) fun (y : Bool) hy => ?_
 refine AM bnI (fun h => absurd (hy.2 ⟨hc, hT⟩) h) fun _ => ?_
 have hsb := ht.sb
 refine wC (Gl t.Seen ht.sz (by omega)) fun (z : Sl Int) hz => ?_
 have he : aT ⟨t.At, t.Phase, t.Ring, t.Status, t.AJ, t.Ao, z⟩ = aT t := R0 hz.1
 have hn := hz.1.n
 refine wC (w_fa l ⟨t.At, t.Phase, t.Ring, t.Status, t.AJ, t.Ao, z⟩ b hl hc (by rw [he]; exact hT) ⟨ht.k0, ht.k1, ht.rg, hz.2, by show z.n ≤ b; omega⟩) fun (y : TTh × TAk) hy => ?_
 rw [he] at hy
 exact ⟨hy.1, hy.2.1, hy.2.2, rfl⟩
theorem HL.grow {b b' : Nat} {t : TTh} (h : HL b t) (k : b ≤ b') : HL b' t := ⟨h.k0, h.k1, h.rg, h.sz, Nat.le_trans h.sb k⟩
theorem NG {i : TIn} {t : MT} {e : TEv} {v : Int} (h1 : e.Kind ≠ 1) (h3 : e.Kind ≠ 3) (h14 : e.Kind ≠ 14) (h15 : e.Kind ≠ 15) : A8 i t e v =
 ⟨t.At + 1, 0, 0, t.Status, 0, (if e.Kind = 2 then DF t.Ao i.B 0 else if e.Kind = 4 then DF (DF t.Ao i.A v) i.B 0 else if e.Kind = 5 then DF t.Ao i.B 1 else if e.Kind = 6 then DF t.Ao i.B 2 else if e.Kind = 7 then DF t.Ao i.B 3 else if e.Kind = 8 then DF t.Ao i.A e.Value else if e.Kind = 9 then DF t.Ao i.A e.Value else if e.Kind = 10 then DF (DF t.Ao i.A e.Value) i.B 0 else if e.Kind = 11 then DF t.Ao i.B 1 else t.Ao), if e.Kind = 12 then t.Seen ++ [e.Value] else t.Seen⟩ := by
 unfold A8
 rw [if_neg h1, if_neg h3, if_neg h14, if_neg h15]
theorem SC {α : Type} (s : Sl α) (x : α) : (snoc s x).L = s.L ++ [x] := by
 apply List.ext_getElem
 · simp [snoc]
 · intro i h1 h2
   have h1 : i < s.n + 1 := by simpa [snoc] using h1
   simp only [Sl.F4]
   by_cases e : i < s.n
   · rw [Kn e, List.getElem_append_left (by simpa using e), Sl.F4]
   · have : i = s.n := by omega
     subst this
     rw [Ko, List.getElem_append_right (by simp)]
     simp
theorem w_fj (i : TIn) (t : TTh) (e : TEv) (v : Int) (b : Nat) (hb : b * 8 + 8 ≤ 140737488351232) (hr : BO i = true) (ht : HL b t) (ha : 0 ≤ t.At ∧ t.At < 1000) (hv : Ck v) (hev : Ck e.Value)
 (h1 : e.Kind ≠ 1) (h3 : e.Kind ≠ 3) (h14 : e.Kind ≠ 14) (h15 : e.Kind ≠ 15) :
 D_fj.wp (i, (e, (v, t))) fun y => aT y = A8 i (aT t) e v ∧ HL (b + 1) y := by
 have hf := BM hr
 have hA : BA i.A 8 = true := by rw [ibI]; omega
 have hB : BA i.B 8 = true := by rw [ibI]; omega
 have hw : IntKind.i64.wrap (t.At + 1) = t.At + 1 := wrap64 (by omega) (by omega)
 have u1 : Ck 1 := by unfold Ck; decide
 have u2 : Ck 2 := by unfold Ck; decide
 have u3 : Ck 3 := by unfold Ck; decide
 have hsb := ht.sb
 rw [NG h1 h3 h14 h15]
 refine of_wp ?_
 simp only [tt_fj, hA, hB, Lx]
 have h23 : ∀ (g : Nat → Int) (sn : Sl Int), (∀ j, Ck (g j)) → Cv sn → sn.n ≤ b + 1 →
  D_fj_23.wp (⟨⟨t.At, t.Phase, t.Ring, t.Status, t.AJ, g, sn⟩⟩ : X_fj_23) fun y => aT y = ⟨t.At + 1, 0, 0, t.Status, 0, g, sn.L⟩ ∧ HL (b + 1) y := fun g sn hg hs hn => by
  refine of_wp ?_
  simp only [tt_fj_23, hw]
  exact ⟨rfl, ⟨Int.le_refl 0, (by decide : (0 : Int) < 18446744073709551616), hg, hs, hn⟩⟩
 have e0 : (aT t).At = t.At := rfl
 have e1 : (aT t).Ao = t.Ao := rfl
 have e2 : (aT t).Seen = t.Seen.L := rfl
 have e3 : (aT t).Status = t.Status := rfl
 simp only [e0, e1, e2, e3]
 have go : ∀ (g : Nat → Int), (∀ j, Ck (g j)) → D_fj_23.wp (⟨⟨t.At, t.Phase, t.Ring, t.Status, t.AJ, g, t.Seen⟩⟩ : X_fj_23) fun y => aT y = ⟨t.At + 1, 0, 0, t.Status, 0, g, t.Seen.L⟩ ∧ HL (b + 1) y :=
  fun g hg => h23 g t.Seen hg ht.sz (by omega)
 refine AM ieI (fun h => ?_) fun n2 => AM ieI (fun h => ?_) fun n4 => AM ieI (fun h => ?_) fun n5 => AM ieI (fun h => ?_) fun n6 => AM ieI (fun h => ?_) fun n7 => AM ieI (fun h => ?_) fun n8 => AM ieI (fun h => ?_) fun n9 =>
  AM ieI (fun h => ?_) fun n10 => AM ieI (fun h => ?_) fun n11 => AM ieI (fun h => ?_) fun n12 => ?_
 · simp only [h, if_true, Int.reduceEq, if_false]; exact wN rfl (go _ (B2 ht.rg Co))
 · simp only [h, if_true, Int.reduceEq, if_false]; exact wN rfl (wN rfl (go _ (B2 (B2 ht.rg hv) Co)))
 · simp only [h, if_true, Int.reduceEq, if_false]; exact wN rfl (go _ (B2 ht.rg u1))
 · simp only [h, if_true, Int.reduceEq, if_false]; exact wN rfl (go _ (B2 ht.rg u2))
 · simp only [h, if_true, Int.reduceEq, if_false]; exact wN rfl (go _ (B2 ht.rg u3))
 · simp only [h, if_true, Int.reduceEq, if_false]; exact wN rfl (go _ (B2 ht.rg hev))
 · simp only [h, if_true, Int.reduceEq, if_false]; exact wN rfl (go _ (B2 ht.rg hev))
 · simp only [h, if_true, Int.reduceEq, if_false]; exact wN rfl (wN rfl (go _ (B2 (B2 ht.rg hev) Co)))
 · simp only [h, if_true, Int.reduceEq, if_false]; exact wN rfl (go _ (B2 ht.rg u1))
 · simp only [h, if_true, Int.reduceEq, if_false]
   refine wN (by simp [room]; omega) ?_
   have := h23 t.Ao (snoc t.Seen e.Value) ht.rg (fun z => by cases z) (by show t.Seen.n + 1 ≤ b + 1; omega)
   rw [SC] at this
   exact this
 · rw [if_neg n2, if_neg n4, if_neg n5, if_neg n6, if_neg n7, if_neg n8, if_neg n9, if_neg n10, if_neg n11, if_neg n12]
   exact go _ ht.rg
theorem SZ {l : List TIn} {t n : MT} {a : MA} {e : TEv} (hq : OL l t n a) (hf : R1 a e) (hk : 1 ≤ e.Kind ∧ e.Kind ≤ 15) (h14 : e.Kind ≠ 14) (h15 : e.Kind ≠ 15) : n.At < l.length := by
 have b1 := hf.f1; have b2 := hf.f2; have b3 := hf.f3; have b4 := hf.f4; have b5 := hf.f5; have b8 := hf.f8; have b9 := hf.f9; have b10 := hf.f10; have b12 := hf.f12; have b13 := hf.f13
 have hd : a.Kind = 1 ∨ a.Kind = 2 ∨ a.Kind = 3 ∨ (4 ≤ a.Kind ∧ a.Kind ≤ 7) ∨ a.Kind = 10 ∨ a.Kind = 11 := by omega
 rcases hd with h | h | h | h | h | h
 · exact (hq.k1 h).2.1
 · exact (hq.k2 h).2.1
 · exact (hq.k3 h).2.1
 · exact (hq.kn h).2
 · exact (hq.kp h).2.1
 · exact (hq.kr h).2.1
def O0 (l : List TIn) (t : MT) (e : TEv) : Int :=
 if Bt e = false then 3 else if (Bp l t).2.Kind = 0 ∨ Dc (Bp l t).2 e = false then 11 else 0
theorem w_f1u (rs : List TRg) (l : Sl TIn) (t : TTh) (e : TEv) (v : Int) (b : Nat) (hb : b * 8 + 8 ≤ 140737488351232) (hl : Nt l) (hc : codeOk l) (hcr : F5 rs l.L) (hT : Ew l.L (aT t)) (ht : HL b t) (hv : Ck v) (hev : Ck e.Value) (het : 0 ≤ e.AJ) :
 D_f1u.wp (l, (t, (e, v))) fun y => y.2 = O0 l.L (aT t) e ∧ (O0 l.L (aT t) e = 0 → aT y.1 = A8 (gI l.L (Bp l.L (aT t)).1.At) (Bp l.L (aT t)).1 e v ∧ HL (b + 1) y.1) := by
 refine of_wp ?_
 simp only [tt_f1u]
 refine wC (w_f2e l t b (by omega) hl hc hT ht) fun (y : TTh × TAk × Int) hy => ?_
 obtain ⟨s, a, er⟩ := y
 obtain ⟨hs, ha, hw, h0⟩ := hy
 simp only at hs ha hw h0
 subst h0
 refine AM (p := (0 : Int) ≠ 0) (by rw [bnI, ieI]) (fun h => absurd rfl h) fun _ => ?_
 refine wC (w_f2g e) fun (y : Bool) hy => ?_
 subst hy
 unfold O0
 rw [← ha]
 refine AM bnI (fun h => ?_) fun h => ?_
 · have h : Bt e = false := by simpa using h
   rw [if_pos h]; exact ⟨rfl, fun k => absurd k (by decide)⟩
 · have hR : Bt e = true := Classical.byContradiction h
   rw [if_neg (by rw [hR]; decide)]
   refine AM ieI (fun hk => ?_) fun hk => wC (w_fe a e) fun (y : Bool) hy => ?_
   · rw [if_pos (.inl hk)]; exact ⟨rfl, fun k => absurd k (by decide)⟩
   · subst hy
     refine AM bnI (fun hf => ?_) fun hf => of_wp ?_
     · rw [if_pos (.inr (by simpa using hf))]; exact ⟨rfl, fun k => absurd k (by decide)⟩
     · have hF : Dc (aA a) e = true := Classical.byContradiction hf
       have hk' : (aA a).Kind ≠ 0 := hk
       rw [if_neg (by rw [hF]; simp [hk'])]
       rw [← hs]
       have hff := Qf hR hF
       have hq := Md hcr hT
       rw [← ha, ← hs] at hq
       have hn := (KN hcr hT).2
       rw [← hs] at hn
       simp only [tt_f1u_8]
       have n1 : Dc (aA a) e = true := hF
       have fin : ∀ {z : MT} {x : TTh}, aT x = z → HL (b + 1) x → (TT.ret ((x, 0) : R_f1u) : TT Tryz.prog R_f1u).wp fun y => y.2 = 0 ∧ (True → aT y.1 = z ∧ HL (b + 1) y.1) := fun h1 h2 => ⟨rfl, fun _ => ⟨h1, h2⟩⟩
       have hre := (Bw hR)
       have tk : Ck e.AJ := ⟨het, by have := hre.2.2.2.1; omega⟩
       refine AM ieI (fun h => fin (by rw [Su _ h]; rfl) ⟨tk.1, tk.2, hw.rg, hw.sz, Nat.le_succ_of_le hw.sb⟩) fun h1 => AM ieI (fun h => fin (by rw [Ss _ h]; rfl) ⟨tk.1, tk.2, hw.rg, hw.sz, Nat.le_succ_of_le hw.sb⟩) fun h3 =>
        AM ieI (fun h => fin (by rw [PR _ h]; rfl) ⟨hw.k0, hw.k1, hw.rg, hw.sz, Nat.le_succ_of_le hw.sb⟩) fun h14 => AM ieI (fun h => fin (by rw [PQ _ h]; rfl) ⟨hw.k0, hw.k1, hw.rg, hw.sz, Nat.le_succ_of_le hw.sb⟩) fun h15 => ?_
       have Mp : s.At < l.n := by
        have := SZ (n := aT s) hq hff hre.1 h14 h15
        simpa [aT] using this
       have a0 : 0 ≤ s.At := hn.a0
       have h256 := hc.1
       have hi := QX hl hc a0 Mp
       have hg : gI l.L (aT s).At = l.get s.At.toNat := J7 l a0 Mp
       rw [hg]
       refine wN (by rw [ibI]; omega) (wC (w_fj _ s e v b hb hi.ri hw (by omega) hv hev h1 h3 h14 h15) fun (y : TTh) hy => fin hy.1 hy.2)
structure RC (c : TRg) (b : Int) (r : TRr) : Prop where
 rg : As c = true
 wf : PX c r
 inv : C8 c b (aR r)
 bb : b ≤ 4611686018427387904
section
variable {c : TRg} {b : Int} {r : TRr}
theorem RC.hn (h : RC c b r) : 1 ≤ r.AA.AB.n ∧ r.AA.AB.n ≤ 8 ∧ (r.AA.AB.n : Int) = c.AX := by
 have := EM h.rg; have := h.wf.hn; omega
theorem RC.ln (h : RC c b r) : 1 ≤ r.s.x.l.n ∧ r.s.x.l.n ≤ 64 ∧ (r.s.x.l.n : Int) = c.Dn := by
 have := EM h.rg; have := h.wf.ln; omega
theorem RC.t (h : RC c b r) : 0 ≤ r.AA.tail ∧ r.AA.tail < 4611686018427387904 := by
 have h0 := h.inv.t0; have h1 := h.inv.tb; have := h.bb
 change 0 ≤ r.AA.tail at h0; change r.AA.tail < b at h1; omega
theorem RC.hd (h : RC c b r) {k : Nat} (hk : k < r.AA.AB.n) : 0 ≤ r.AA.AB.get k ∧ r.AA.AB.get k ≤ r.AA.tail ∧ r.AA.tail - r.AA.AB.get k ≤ c.Dn :=
 h.inv.h0 _ (Sl.DA.2 ⟨k, hk, rfl⟩)
theorem ML {j : Int} (h0 : 0 ≤ j) (h1 : j < r.AA.AB.n) : hd (aR r) j = r.AA.AB.get j.toNat := JU _ h0 h1 0
theorem LF : IV (aR r) = r.s.x.l.n := by simp [IV, aR]
theorem QA (h : RC c b r) (t : Int) : IP (aR r) t < r.s.x.l.n := by
 have := Kw h.inv h.rg t; simpa [aR] using this
theorem Ez (h : RC c b r) (t : Int) : A2 (aR r) t = r.s.x.l.get (IP (aR r) t) := by
 have := QA h t
 unfold A2
 show r.s.x.l.L.getD _ _ = _
 rw [List.getD, Sl.Eh _ this]; rfl
theorem RC.slot (h : RC c b r) (t : Int) : Mh c.Dn r.AA.AB.n r.AA.tail r.AA.AB.L (IP (aR r) t) (r.s.x.l.get (IP (aR r) t)) := by
 have := h.inv.sl _ _ (KE h.inv h.rg t)
 rw [Ez h] at this
 simpa [aR] using this
theorem Rg (x y : Int) : MH x y = min x y := by
 unfold MH
 by_cases h : y < x
 · rw [ilI.2 h]; show y = _; omega
 · rw [KQ.2 (Int.not_lt.1 h)]; show x = _; omega
theorem Rh (x y : Int) : imax x y = max x y := by
 unfold imax
 by_cases h : x < y
 · rw [ilI.2 h]; show y = _; omega
 · rw [KQ.2 (Int.not_lt.1 h)]; show x = _; omega
theorem Pf (x : Ar Int) (h1 : 1 ≤ x.n) (h8 : x.n ≤ 8) : D_f6.wp x fun y => (∃ k, k < x.n ∧ y = x.get k) ∧ ∀ k, k < x.n → y ≤ x.get k := by
 refine B5 ?_
 simp only [tt_f6]
 refine AM ilI (fun h => by omega) fun _ => of_wp ?_
 simp only [tt_f6_3]
 refine wN (by rw [ibI]; omega) (wN (by simp) ?_)
 refine Ee (tt := tt_f6_5) (fun z : X_f6_5 => z.Ae = x ∧ ∃ k : Nat, z.Ie = k ∧ 1 ≤ k ∧ k ≤ x.n ∧ (∃ j, j < x.n ∧ z.C4 = x.get j) ∧ ∀ j, j < k → z.C4 ≤ x.get j) (fun z => (x.n - z.Ie).toNat)
  (fun _ y => (∃ k, k < x.n ∧ y.1 = x.get k) ∧ ∀ k, k < x.n → y.1 ≤ x.get k) (fun D z hI hD => ?_) ⟨rfl, 1, rfl, by omega, by omega, ⟨0, by omega, by simp⟩, fun j hj => by
    have : j = 0 := by omega
    subst this; exact Int.le_refl _⟩
 obtain ⟨m, i, o⟩ := z
 obtain ⟨e0, k, e1, hk1, hk, ⟨j, hj, e2⟩, hle⟩ := hI
 simp only at e0 e1 e2 hle hD
 subst e0 e1
 simp only [tt_f6_5]
 refine AM ilI (fun h => ?_) fun h => ?_
 · have hkm : k < o.n := by omega
   have e3 : IntKind.i64.wrap ((k : Int) + 1) = ((k + 1 : Nat) : Int) := by rw [wrap64] <;> omega
   refine wN (A6 hkm) (wN (by simp) ?_)
   rw [e3, Nat.zero_add, Int.toNat_natCast, Rg]
   refine hD _ ⟨rfl, k + 1, rfl, by omega, hkm, ?_, fun i hi => ?_⟩ (by simp only; omega)
   · by_cases q : m ≤ o.get k
     · exact ⟨j, hj, by show min m _ = _; omega⟩
     · exact ⟨k, hkm, by show min m _ = _; omega⟩
   · show min m (o.get k) ≤ o.get i
     by_cases q : i = k
     · subst q; omega
     · have := hle i (by omega); omega
 · exact ⟨⟨j, hj, e2⟩, fun i hi => hle i (by omega)⟩
theorem Kc (h : RC c b r) : D_f16.wp r.AA fun y => Nw (aR r).An y := by
 refine B5 ?_
 simp only [tt_f16]
 have hn := h.hn
 refine wC (Pf ⟨r.AA.AB.n, r.AA.AB.get⟩ hn.1 hn.2.1) fun (y : Int) hy => wN (by simp) ?_
 obtain ⟨⟨k, hk, e⟩, hle⟩ := hy
 refine ⟨Sl.DA.2 ⟨k, hk, e.symm⟩, fun z hz => ?_⟩
 obtain ⟨i, hi, rfl⟩ := Sl.DA.1 hz
 exact hle i hi
theorem Ff (h : RC c b r) : D_f1b.wp r fun y => y = E5 (aR r) := by
 refine B5 ?_
 simp only [tt_f1b]
 refine wC (Kc h) fun (y : Int) hy => CK ?_
 rw [MC hy, leI, h.wf.ms, LF]
 obtain ⟨k, hk, e⟩ := Sl.DA.1 hy.1
 have := h.hd hk
 have := h.t
 rw [A5 (by omega) (by omega), h.wf.ln]
 exact Iff.rfl
theorem Cw (r : TRr) : D_f14.wp r fun y => y = (aR r).B4 := B5 rfl
theorem HO (j : Int) (s : TRc_L1) (a : Ar Int) : D_ft.wp (j, (s, a)) fun y => y = true ↔ 0 ≤ j ∧ j < s.AB.n := by
 refine B5 ?_
 simp only [tt_ft]
 exact AM leI (fun h => DM ilI ⟨fun k => ⟨h, k⟩, fun k => k.2⟩) fun h => Ba fun k => h k.1
theorem D7 (j : Int) (h0 : 0 ≤ j) (h1 : j < r.AA.AB.n) : D_f15.wp (j, r) fun y => y = FO (aR r) j := by
 refine B5 ?_
 simp only [tt_f15]
 refine wC (HO _ _ _) fun (y : Bool) hy => ?_
 refine AM bnI (fun h => absurd (hy.2 ⟨h0, h1⟩) h) fun _ => wN (by rw [ibI]; exact ⟨h0, h1⟩) (wN (by simp) (wN (by simp) ?_))
 unfold FO
 rw [ML h0 h1]
 refine CK ?_
 rw [decide_eq_true_eq, Nat.zero_add]
 exact ieI
theorem RQ (h : RC c b r) {t : Int} (h0 : 0 ≤ t) : Int.tmod t (IntKind.u64.wrap (r.s.x.l.n : Int)) = (IP (aR r) t : Int) := by
 have := h.ln
 rw [A5 (by omega) (by omega), Int.tmod_eq_emod_of_nonneg h0]
 unfold IP
 rw [LF]
 have := Int.emod_nonneg t (b := (r.s.x.l.n : Int)) (by omega)
 omega
theorem IY (h : RC c b r) {t : Int} (h0 : 0 ≤ t) (a : Ar TSo) (z : Int) : D_fm.wp (t, ((⟨⟨r.s.x.l.nil, r.s.x.l.n⟩, z⟩ : TSs_L0), a)) fun y => y = (IP (aR r) t, r.s.x.l.n) := by
 refine B5 ?_
 simp only [tt_fm]
 have hl := h.ln
 have hp := QA h t
 rw [RQ h h0, A5 (by omega) (by omega)]
 refine wN (by rw [bnI, ieI]; omega) (wN (A6 hp) ?_)
 show (0 + Int.toNat _, _) = _
 rw [Int.toNat_natCast, Nat.zero_add]
theorem w_f2h {t : Int} (h0 : 0 ≤ t) (h1 : t < 4611686018427387904) : D_f2h.wp t fun y => y = 2 * t + 1 := by
 refine of_wp ?_
 simp only [tt_f2h]
 show IntKind.u64.wrap _ = _
 rw [A5 (z := 2 * t) (by omega) (by omega), A5 (by omega) (by omega)]
theorem Kb (h : RC c b r) {t : Int} (h0 : 0 ≤ t) (h1 : t < 4611686018427387904) : D_f1f.wp (t, r.s.x) fun y => y = decide ((A2 (aR r) t).AQ = 2 * t) := by
 refine B5 ?_
 simp only [tt_f1f]
 refine AM ilI (fun _ => ?_) fun h => absurd h1 h
 refine wC (IY h h0 _ _) fun (y : Nat × Nat) hy => ?_
 subst hy
 refine wN (by simp) (wC (w_f25 t h0 (by omega)) fun (y : Int) hy => wN (by simp) ?_)
 subst hy
 rw [Ez h]
 exact CK (by rw [decide_eq_true_eq]; exact ieI)
theorem Li (h : RC c b r) {t : Int} (h0 : 0 ≤ t) : D_f1t.wp (t, r) fun y => y = JM (aR r) t := by
 have ht := h.t
 refine B5 ?_
 simp only [tt_f1t]
 unfold JM
 have e : (aR r).A4 = r.AA.tail := rfl
 rw [e]
 refine AM ilI (fun hlt => ?_) fun hlt => ?_
 · refine wN (by simp [h.wf.sn]) (wC (Kb h h0 (by omega)) fun (y : Bool) hy => wN (by simp [h.wf.sn]) (DD ?_))
   subst hy
   exact CK (by simp only [decide_eq_true_eq]; exact ⟨fun q => ⟨hlt, q⟩, fun q => q.2⟩)
 · exact (decide_eq_false fun q => hlt q.1).symm
theorem Hu (h : RC c b r) {j t : Int} (hj0 : 0 ≤ j) (hj : j < r.AA.AB.n) (h0 : 0 ≤ t) (h1 : t < 4611686018427387904) :
 D_fi.wp (j, (t, r.s.x)) fun y => y = 0 ↔ (A2 (aR r) t).AQ = 2 * t + 1 ∧ EE (A2 (aR r) t).Left j = true := by
 have hn := h.hn
 refine B5 ?_
 simp only [tt_fi]
 refine AM leI (fun q => absurd h1 (Int.not_lt.2 q)) fun _ => AM ilI (fun q => by omega) fun _ => AM leI (fun q => by rw [h.wf.rd] at q; omega) fun _ => of_wp ?_
 simp only [tt_fi_5]
 refine wC (IY h h0 _ _) fun (y : Nat × Nat) hy => ?_
 subst hy
 rw [Ez h]
 have hs := h.slot t
 generalize r.s.x.l.get (IP (aR r) t) = x at hs
 have ne : ∀ {e : Int} {q : Prop}, e ≠ 0 → ¬ q → (e = 0 ↔ q) := fun h k => ⟨fun e => absurd e h, fun e => absurd e k⟩
 refine wN (by simp) (wC (w_f2h h0 h1) fun (y : Int) hy => ?_)
 subst hy
 refine AM ilI (fun q => wN (by simp) (ne (show (9 : Int) ≠ 0 by decide) fun k => by omega)) fun q1 => wN (by simp) (wC (w_f2h h0 h1) fun (y : Int) hy => ?_)
 subst hy
 refine AM ilI (fun q => wN (by simp) (ne (show (11 : Int) ≠ 0 by decide) fun k => by omega)) fun q2 => wN (by simp) (wN (by rw [leI]; exact hj0) ?_)
 have hst : x.AQ = 2 * t + 1 := by omega
 have hl := hs.held (by omega)
 have h28 : (2 : Int) ^ r.AA.AB.n ≤ 2 ^ 8 := by exact_mod_cast Nat.pow_le_pow_right (by decide) (by omega : r.AA.AB.n ≤ 8)
 have hb := Mf (x := x.Left) (j := j.toNat) (by omega) (by omega) (by omega)
 rw [show ((j.toNat : Nat) : Int) = j by omega] at hb
 refine AM (ieI.trans hb) (fun q => wN (by simp) (ne (show (11 : Int) ≠ 0 by decide) fun k => ?_)) fun q => wN (by simp) ⟨fun _ => ⟨hst, by simpa using q⟩, fun _ => rfl⟩
 rw [q] at k; exact absurd k.2 (by decide)
theorem Ms (h : RC c b r) {j t : Int} (hj0 : 0 ≤ j) (hj : j < r.AA.AB.n) (h0 : 0 ≤ t) : D_f1z.wp (j, (t, r)) fun y => y = NF (aR r) j t := by
 have ht := h.t
 have hh := h.hd (k := j.toNat) (by omega)
 refine B5 ?_
 simp only [tt_f1z]
 refine wC (Dg j r.AA) fun (y : Bool) hy => ?_
 refine AM hy (fun _ => wN (by rw [ibI]; omega) (wN (by simp) ?_)) fun k => absurd ⟨hj0, hj⟩ k
 unfold NF
 rw [ML hj0 hj, Nat.zero_add]
 refine AM ilI (fun hlt => wN (by simp [h.wf.sn]) ?_) fun hlt => wN (by simp) (decide_eq_false fun q => hlt q.1).symm
 have e : D_f1n.wp (j, (t, r.s.x)) fun y => y = true ↔ (A2 (aR r) t).AQ = 2 * t + 1 ∧ EE (A2 (aR r) t).Left j = true := by
  refine B5 ?_
  simp only [tt_f1n]
  exact wC (Hu h hj0 hj h0 (by omega)) fun (y : Int) hy => ieI.trans hy
 refine wC e fun (y : Bool) hy => wN (by simp [h.wf.sn]) (DD (wN (by simp) (CK ?_)))
 rw [decide_eq_true_eq]
 exact hy.trans ⟨fun q => ⟨hlt, q⟩, fun q => q.2⟩
end


theorem I0 {α : Type} (s : Sl α) (k : Nat) (y : α) : (OU s k y).L = s.L.set k y := by
 apply List.ext_getElem
 · simp [OU]
 · intro i h1 h2
   rw [Sl.F4]
   by_cases e : i = k
   · subst e; rw [RA, List.getElem_set_self]
   · rw [Q9 e, List.getElem_set_ne (fun q => e q.symm), Sl.F4]
section
theorem MG {x : Int} {j : Nat} (h0 : 0 ≤ x) (h1 : x < 256) (hj : j < 8) (hb : EE x (j : Int) = true) : Vm.bits .andNot IntKind.i64 x (shl IntKind.i64 1 (j : Int)) = x - 2 ^ j ∧ 0 ≤ x - 2 ^ j := by
 have := NI ⟨x.toNat, by omega⟩ ⟨j, hj⟩
 simp only [show ((x.toNat : Nat) : Int) = x by omega] at this
 have h2 := (Jf (n := 8) (k := j) h0 (by exact_mod_cast h1) (by omega) hj hj hb).2
 exact ⟨this hb, h2⟩
theorem Kv {j : Nat} (hj : j ≤ 8) : (2 : Int) ^ j ≤ 256 := by exact_mod_cast Nat.pow_le_pow_right (by decide : 0 < 2) hj
end
theorem Ii {p : TPg} {t : Int} (h0 : 0 ≤ t) (h1 : t < p.AD.n) : BV (aP p) t = (p.AD.get t.toNat).L := by
 unfold BV aP
 simp only [List.getD, List.getElem?_map]
 rw [Sl.Eh _ (by omega)]; rfl
theorem Ql {p : TPg} {i : Int} (h0 : 0 ≤ i) (h1 : i < p.AK.n) : Jd (aP p) i = p.AK.get i.toNat := JU _ h0 h1 _
theorem GW {f : TFa} {t : Int} (h0 : 0 ≤ t) (h1 : t < f.threads.n) : GL (aF f) t = aT (f.threads.get t.toNat) := by
 unfold GL aF
 simp only [List.getD, List.getElem?_map]
 rw [Sl.Eh _ (by omega)]; rfl
theorem P0 {f : TFa} {i : Int} (h0 : 0 ≤ i) (h1 : i < f.rings.n) : EH (aF f) i = aR (f.rings.get i.toNat).x := by
 unfold EH aF
 simp only [List.getD, List.getElem?_map]
 rw [Sl.Eh _ (by omega)]; rfl
structure SQ (e : TEv) : Prop where
 tk : Ck e.AJ
 vl : Ck e.Value
section
variable {p : TPg} {B : Int} {m : MS} {e : TEv}
theorem Ng (h : D4 (aP p) B m) (f : CZ (aP p) m e) (k : Cn e.Kind = true) :
 (0 ≤ e.Ring ∧ e.Ring < p.AK.n) ∧ ((CC (aP p) m e.Thread).Kind = 2 ∨ (CC (aP p) m e.Thread).Kind = 11 → 0 ≤ (CC (aP p) m e.Thread).Reader ∧ (CC (aP p) m e.Thread).Reader < (p.AK.get e.Ring.toNat).AX) ∧
   (e.Kind = 3 ∨ e.Kind = 4 → 0 ≤ (CC (aP p) m e.Thread).Reader ∧ (CC (aP p) m e.Thread).Reader < (p.AK.get e.Ring.toNat).AX) := by
 obtain ⟨r0, r1, r2⟩ := G7 h f k
 have hf := Qf f.re f.ft
 have r1 : e.Ring.toNat < p.AK.n := by simpa [aP] using r1
 rw [Ql r0 (by omega)] at r2
 exact ⟨⟨r0, by omega⟩, r2, fun q => r2 (q.imp hf.f3 fun z => (hf.f4 z).1)⟩
theorem Ge (h : D4 (aP p) B m) (f : CZ (aP p) m e) : 0 ≤ e.Thread ∧ e.Thread < p.AD.n := by
 have h1 := f.lt
 have h2 := h.nt
 have : (aP p).AD.length = p.AD.n := by simp [aP]
 have := f.th
 omega
end
section
variable {p : TPg} {B : Int}
theorem Hq {B : Int} {m : MS} (h : D4 (aP p) B m) {t : Int} (h0 : 0 ≤ t) (h1 : t < p.AD.n) : F5 p.AK.L (p.AD.get t.toNat).L := by
 have : (aP p).AD[t.toNat]? = some (p.AD.get t.toNat).L := by
  unfold aP
  simp only [List.getElem?_map]
  rw [Sl.Eh _ (by omega)]; rfl
 exact N7 h this
end
def UV (m : MS) : Prop := ∀ r ∈ m.AK, ∀ x ∈ r.Aw, Ck x.Value
theorem Pp {i : TIn} {t : MT} (hk : Ck i.K) (h : ∀ j, Ck (t.Ao j)) : ∀ j, Ck ((Db i t).Ao j) := by
 unfold Db
 repeat' split
 · exact B2 h hk
 · exact B2 h (h _)
 · exact h
 · exact B2 h (ME (h _) (h _))
 · exact h
theorem Nl {l : List TIn} (hl : ∀ i ∈ l, Ck i.K) : ∀ (n : Nat) (t : MT), (∀ j, Ck (t.Ao j)) → 0 ≤ t.At → (∀ n' : Nat, 0 ≤ (ER l n' t).At) → ∀ j, Ck ((ER l n t).Ao j)
 | 0, _, h, _, _ => h
 | n + 1, t, h, h0, hA => by
   unfold ER
   split
   · rename_i hc
     have hs : ∀ n' : Nat, 0 ≤ (ER l n' (Db (gI l t.At) t)).At := fun n' => by rw [← KO hc]; exact hA _
     exact Nl hl n _ (Pp (hl _ (Gd h0 hc.1)) h) (hs 0) hs
   · exact h
theorem QI {rs : List TRg} {l : List TIn} {t : MT} (hc : F5 rs l) (hl : ∀ i ∈ l, Ck i.K) (hT : Ew l t) (h : ∀ j, Ck (t.Ao j)) : (∀ j, Ck ((Bp l t).1.Ao j)) ∧ Ck (Bp l t).2.Value := by
 unfold Bp
 repeat' split
 · exact ⟨h, Co⟩
 · exact ⟨h, h _⟩
 · exact ⟨h, Co⟩
 · have hr := Nl hl 256 t h hT.a0 fun n => (F7 hc n t hT.a0 hT.a1).2.1
   refine ⟨hr, ?_⟩
   simp only [GQ]
   repeat' split
   all_goals first | exact Co | exact hr _
theorem Iy {r : MR} (h : ∀ x ∈ r.Aw, Ck x.Value) (t : Int) : Ck (A2 r t).Value := by
 unfold A2
 rw [List.getD_eq_getElem?_getD]
 cases q : r.Aw[IP r t]? with
 | none => exact Co
 | some x => exact h _ (List.mem_of_getElem? q)
theorem Nn {m : MS} (h : UV m) (i : Int) : ∀ x ∈ (EH m i).Aw, Ck x.Value := by
 unfold EH
 rw [List.getD_eq_getElem?_getD]
 cases q : m.AK[i.toNat]? with
 | none => intro x hx; cases hx
 | some x => exact h _ (List.mem_of_getElem? q)
theorem OX {r : MR} {a : MA} {e : TEv} (h : ∀ x ∈ r.Aw, Ck x.Value) (ha : Ck a.Value) : ∀ x ∈ (B9 r a e).Aw, Ck x.Value := by
 unfold B9
 repeat' split
 · exact h
 · intro x hx
   rcases List.mem_or_eq_of_mem_set hx with q | q
   · exact h x q
   · subst q; exact ha
 · exact h
 · intro x hx
   rcases List.mem_or_eq_of_mem_set hx with q | q
   · exact h x q
   · subst q
     unfold Oy
     split
     · exact Co
     · exact Iy h _
 · exact h
 · exact h
theorem PW {P : MP} {m : MS} {e : TEv} (h : UV m) (ha : Ck (CC P m e.Thread).Value) : UV (Ai P m e) := by
 intro r hr
 unfold Ai at hr
 simp only at hr
 split at hr
 · rcases List.mem_or_eq_of_mem_set hr with q | q
   · exact h r q
   · subst q; exact OX (Nn h _) ha
 · exact h r hr
theorem Sk {P : MP} : UV (GN P) := by
 intro r hr x hx
 simp only [GN, List.mem_map] at hr
 obtain ⟨c, _, rfl⟩ := hr
 simp only [H5, List.mem_map] at hx
 obtain ⟨i, _, rfl⟩ := hx
 exact Co
theorem Jq.k {p : TPg} (h : Jq p) {t : Nat} (ht : t < p.AD.n) : ∀ i ∈ (p.AD.get t).L, Ck i.K := fun i hi => by
 obtain ⟨j, hj, rfl⟩ := Sl.DA.1 hi
 exact (h.ins t ht j hj).1
theorem map_set {α β : Type} (f : α → β) (l : List α) (k : Nat) (x : α) : (l.set k x).map f = (l.map f).set k (f x) := by
 apply List.ext_getElem
 · simp
 · intro i h1 h2
   simp only [List.getElem_map]
   by_cases e : k = i
   · subst e; simp
   · simp [List.getElem_set_ne e]

structure FC (p : TPg) (B : Int) (k : Nat) (f : TFa) : Prop where
 hp : Jq p
 inv : D4 (aP p) B (aF f)
 wf : FWf p k f
 uv : UV (aF f)
 hB : B ≤ 2305843009213693952
 hk : k ≤ 1000000000
theorem DE {P : Program} {R : Type} {b1 b2 : Bool} {pr : Prop} {r : R} {Q : R → Prop} (h1 : b1 = true) (h2 : b2 = true) (h : Q r) : (TT.need b1 (TT.side pr (TT.need b2 (TT.ret r))) : TT P R).wp Q := ⟨h1, h2, h⟩
section
variable {p : TPg} {B : Int} {k : Nat} {f : TFa} {e : TEv}
theorem FC.code (h : FC p B k f) {t : Int} (h0 : 0 ≤ t) (h1 : t < p.AD.n) : Nt (f.p.AD.get t.toNat) ∧ codeOk (f.p.AD.get t.toNat) ∧ (f.p.AD.get t.toNat).L = BV (aP p) t ∧ f.p.AD.n = p.AD.n := by
 have hc := h.wf.cp
 have ht : t.toNat < p.AD.n := by omega
 have hs := (hc.t t.toNat ht).1
 refine ⟨hs.Nt (h.hp.c ht), ?_, ?_, hc.n⟩
 · exact Rt (p := f.p) (by rw [hc.same]; exact h.inv.pi) (by rw [hc.n]; exact ht)
 · rw [hs.L, Ii h0 h1]
theorem FC.Lk (h : FC p B k f) {t : Int} (h0 : 0 ≤ t) (h1 : t < p.AD.n) : Ew (BV (aP p) t) (aT (f.threads.get t.toNat)) := by
 have ht := h.wf.tn
 have := h.inv.Lk (t := t) (by simp [aF]; omega)
 rwa [GW h0 (by omega)] at this
theorem FC.ring (h : FC p B k f) {i : Int} (h0 : 0 ≤ i) (h1 : i < p.AK.n) : RC (p.AK.get i.toNat) B (f.rings.get i.toNat).x ∧ (f.rings.get i.toNat).nil = false ∧ EH (aF f) i = aR (f.rings.get i.toNat).x := by
 have hr := h.wf.rn
 have hB := h.hB
 have h2 : i.toNat < f.rings.n := by omega
 have hR := h.inv.SG (i := i) (by simp [aP]; omega)
 rw [Ql h0 h1, P0 h0 (by omega)] at hR
 obtain ⟨w1, w2⟩ := h.wf.rw _ h2
 exact ⟨⟨hR.2, w2, hR.1, by omega⟩, w1, P0 h0 (by omega)⟩
theorem FG (t : Int) (f : TFa) : D_fv.wp (t, f) fun y => y = true ↔ 0 ≤ t ∧ t < f.threads.n := by
 refine B5 ?_
 simp only [tt_fv]
 exact AM leI (fun h => wN (by simp) (DM ilI ⟨fun k => ⟨h, k⟩, fun k => k.2⟩)) fun h => Ba fun k => h k.1
theorem Gi (h : FC p B k f) {t : Int} (h0 : 0 ≤ t) (h1 : t < p.AD.n) : D_fw.wp (t, f) fun y => aA y = CC (aP p) (aF f) t := by
 obtain ⟨c1, c2, c3, c4⟩ := h.code h0 h1
 have htn := h.wf.tn
 have hk := h.hk
 have hT := h.Lk h0 h1
 rw [← c3] at hT
 refine B5 ?_
 simp only [tt_fw, Nat.zero_add]
 refine wN (by rw [ibI]; omega) (wN (by rw [ibI]; omega) (wN (by simp) ?_))
 refine wC (w_f2e _ _ k (by omega) c1 c2 hT (h.wf.tw _ (by omega))) fun (y : TTh × TAk × Int) hy => wN (by simp) ?_
 unfold CC
 rw [GW h0 (by omega), ← c3]
 exact hy.2.1
theorem Oz : FY (aP p) (aF f) e = if Bt e = false then 3 else if (f.threads.n : Int) ≤ e.Thread then 5 else if (CC (aP p) (aF f) e.Thread).Kind = 0 ∨ Dc (CC (aP p) (aF f) e.Thread) e = false then 11 else 0 := by
 unfold FY
 rw [show ((aF f).AD.length : Int) = f.threads.n by simp [aF]]
theorem Fg (h : FC p B k f) (he : SQ e) : D_fs.wp (e, f) fun y => y = FY (aP p) (aF f) e := by
 have htn := h.wf.tn
 have hk := h.hk
 refine B5 ?_
 simp only [tt_fs, Nat.zero_add]
 rw [Oz]
 refine wC (w_f2g e) fun (y : Bool) hy => ?_
 subst hy
 refine A0 (g := Prod.fst) (by rw [bnI]; simp) (fun _ => rfl) fun hR => ?_
 have hR : Bt e = true := by simpa using hR
 have hre := Bw hR
 refine wC (FG e.Thread f) fun (y : Bool) hy => ?_
 refine AM bnI (fun q => ?_) fun q => ?_
 · rw [if_pos (Int.not_lt.1 fun z => q (hy.2 ⟨hre.2.1.1, z⟩))]; rfl
 · have hh := hy.1 (Classical.byContradiction q)
   have h0 := hh.1
   have h1 : e.Thread < p.AD.n := by omega
   obtain ⟨c1, c2, c3, c4⟩ := h.code h0 h1
   have hT := h.Lk h0 h1
   rw [← c3] at hT
   have hcr := Hq h.inv h0 h1
   rw [← Ii h0 h1, ← c3] at hcr
   refine wN (by rw [ibI]; omega) (wN (by rw [ibI]; omega) (wN (by simp) ?_))
   refine wC (w_f1u _ _ _ e 0 k (by omega) c1 c2 hcr hT (h.wf.tw _ (by omega)) Co he.vl he.tk.1) fun (y : TTh × Int) hy => wN (by simp) ?_
   have e1 : CC (aP p) (aF f) e.Thread = (Bp (f.p.AD.get e.Thread.toNat).L (aT (f.threads.get e.Thread.toNat))).2 := by
    unfold CC
    rw [GW h0 (by omega), ← c3]
   rw [if_neg (by omega), e1]
   show y.2 = _
   rw [hy.1]
   unfold O0
   rw [if_neg (by rw [hR]; simp)]
theorem Js (h : FC p B k f) (a : TAk) (hr : 0 ≤ e.Ring ∧ e.Ring < p.AK.n) (hrd : e.Kind = 3 ∨ e.Kind = 4 → 0 ≤ a.Reader ∧ a.Reader < (p.AK.get e.Ring.toNat).AX) (ht : 0 ≤ e.AJ) :
 D_fx.wp (e, (a, f)) fun y => y = Ds (EH (aF f) e.Ring) (aA a) e := by
 obtain ⟨hC, hnil, hrn⟩ := h.ring hr.1 hr.2
 have hn := hC.hn
 have hfr := h.wf.rn
 have e1 : (aA a).Reader = a.Reader := rfl
 refine B5 ?_
 simp only [tt_fx, Nat.zero_add]
 have nd : ((true && true) && (((Nat.beq f.rings.n f.rings.n) && (Nat.blt e.Ring.toNat f.rings.n)) && (!(f.rings.get e.Ring.toNat).nil))) = true := by simp [hnil]; omega
 have nd2 : ((true && true) && (Nat.beq f.rings.n f.rings.n)) = true := by simp
 rw [hrn]
 unfold Ds
 rw [e1]
 refine wN (by rw [ibI]; omega) (wN (by simp [hnil]) ?_)
 have bd : ∀ {x y : Int}, Ad x y = decide (x = y) := fun {x y} => CK (by rw [decide_eq_true_eq]; exact ieI)
 refine A0 (g := Prod.fst) ieI (fun _ => wC (Ff hC) fun (y : Bool) hy => ?_) fun n1 => A0 (g := Prod.fst) ieI (fun _ => wC (Li hC ht) fun (y : Bool) hy => DE nd nd2 hy) fun n2 =>
  A0 (g := Prod.fst) ieI (fun q3 => ?_) fun n3 => A0 (g := Prod.fst) ieI (fun q4 => ?_) fun n4 => wC (Hv _) fun (y : Int) hy => DE nd nd2 ?_
 · subst hy
   refine AM bnI (fun q => wC (Hv _) fun (y : Int) hy => DE nd nd2 ?_) fun q => DE nd nd2 ?_
   · subst hy
     rw [show E5 (aR (f.rings.get e.Ring.toNat).x) = false by simpa using q]
     exact bd
   · rw [show E5 (aR (f.rings.get e.Ring.toNat).x) = true from Classical.byContradiction q]; rfl
 · obtain ⟨j0, j1⟩ := hrd (.inl q3)
   refine wC (D7 a.Reader j0 (by omega)) fun (y : Bool) hy => ?_
   subst hy
   refine AM bnI (fun q => wC (Lh a.Reader _ j0 (by omega)) fun (y : Int) hy => DE nd nd2 ?_) fun q => DE nd nd2 ?_
   · subst hy
     rw [show FO (aR (f.rings.get e.Ring.toNat).x) a.Reader = false by simpa using q, ML j0 (by omega)]
     exact bd
   · rw [show FO (aR (f.rings.get e.Ring.toNat).x) a.Reader = true from Classical.byContradiction q]; rfl
 · obtain ⟨j0, j1⟩ := hrd (.inr q4)
   exact wC (Ms hC j0 (by omega) ht) fun (y : Bool) hy => DE nd nd2 hy
 · subst hy
   exact bd
theorem Jt (h : FC p B k f) (a : TAk) (hr : 0 ≤ a.Ring ∧ a.Ring < p.AK.n) (hrd : a.Kind ≠ 1 → 0 ≤ a.Reader ∧ a.Reader < (p.AK.get a.Ring.toNat).AX) :
 D_fy.wp (a, f) fun y => y = H4 (EH (aF f) a.Ring) (aA a) := by
 obtain ⟨hC, hnil, hrn⟩ := h.ring hr.1 hr.2
 have hn := hC.hn
 have hfr := h.wf.rn
 have e1 : (aA a).Reader = a.Reader := rfl
 have e2 : (aA a).Kind = a.Kind := rfl
 refine B5 ?_
 simp only [tt_fy, Nat.zero_add]
 have nd : ((true && true) && (((Nat.beq f.rings.n f.rings.n) && (Nat.blt a.Ring.toNat f.rings.n)) && (!(f.rings.get a.Ring.toNat).nil))) = true := by simp [hnil]; omega
 have nd2 : ((true && true) && (Nat.beq f.rings.n f.rings.n)) = true := by simp
 rw [hrn]
 unfold H4
 rw [e1, e2]
 refine wN (by rw [ibI]; omega) (wN (by simp [hnil]) ?_)
 refine A0 (g := Prod.fst) ieI (fun _ => wC (Cw _) fun (y : Bool) hy => ?_) fun q => ?_
 · subst hy
   refine BX (fun q => DE nd nd2 (by rw [q]; rfl)) fun q => wC (Ff hC) fun (y : Bool) hy => DE nd nd2 ?_
   subst hy
   rw [show (aR (f.rings.get a.Ring.toNat).x).B4 = false by simpa using q]; rfl
 · obtain ⟨j0, j1⟩ := hrd q
   exact wC (D7 a.Reader j0 (by omega)) fun (y : Bool) hy => DE nd nd2 hy
theorem w_f24 (hk : 1 ≤ e.Kind) : D_f24.wp e fun y => y = BB e.Kind := by
 refine of_wp ?_
 simp only [tt_f24]
 exact AM leI (fun q => (A9.2 (by omega)).symm) fun q => CK (by rw [A9]; exact ieI.trans (by omega))
theorem HP (h : FC p B k f) (he : SQ e) : D_fc.wp (e, f) fun y => y = CN (aP p) (aF f) e := by
 have hfr := h.wf.rn
 refine B5 ?_
 simp only [tt_fc, Nat.zero_add]
 refine wC (Fg h he) fun (y : Int) hy => ?_
 subst hy
 unfold CN
 refine AM (p := FY (aP p) (aF f) e ≠ 0) (by rw [bnI, ieI]) (fun q => by rw [decide_eq_false q]; rfl) fun q => ?_
 have q := Classical.byContradiction q
 rw [decide_eq_true q, Bool.true_and]
 have F := fitting q
 have hth := Ge h.inv F
 refine wC (Gi h hth.1 hth.2) fun (a : TAk) ha => ?_
 rw [← ha]
 have hf := Qf F.re F.ft
 have hre := Bw F.re
 have hrg := fun z => Ng h.inv F z
 rw [← ha] at hf hrg
 have n0 := h.inv.n0
 change 0 ≤ f.now at n0
 have hnow : (aF f).Mj = f.now := rfl
 have hend : (aF f).FE = f.ended := rfl
 -- no, D8, time
 have no : 5 ≤ e.Kind ∧ e.Kind ≤ 7 → D_fy.wp (a, f) fun y => y = H4 (EH (aF f) e.Ring) (aA a) := fun z => by
  obtain ⟨r1, r2, _⟩ := hrg (CT.2 (by omega))
  have hr : a.Ring = e.Ring := hf.rg (CT.2 (by omega))
  have h5 := hf.f5 z
  rw [← hr]
  rw [← hr] at r1 r2
  exact Jt h a r1 fun w => r2 (.inl (h5.resolve_left w))
 have nd : 5 ≤ e.Kind ∧ e.Kind ≤ 7 ∨ e.Kind = 1 → (BA e.Ring f.rings.n = true ∧ (((Nat.beq f.rings.n f.rings.n) && true) && (!(f.rings.get e.Ring.toNat).nil)) = true ∧ ((true && true) && (((Nat.beq f.rings.n f.rings.n) && (Nat.blt e.Ring.toNat f.rings.n)) && (!(f.rings.get e.Ring.toNat).nil))) = true ∧ EH (aF f) e.Ring = aR (f.rings.get e.Ring.toNat).x) := fun z => by
  obtain ⟨r1, _, _⟩ := hrg (CT.2 (by omega))
  obtain ⟨_, hnil, hrn⟩ := h.ring r1.1 r1.2
  exact ⟨by rw [ibI]; omega, by simp [hnil], by simp [hnil]; omega, hrn⟩
 have nd2 : ((true && true) && (Nat.beq f.rings.n f.rings.n)) = true := by simp
 unfold QN
 simp only
 rw [hnow, hend]
 refine AM ieI (fun k5 => ?_) fun n5 => AM ieI (fun k7 => ?_) fun n7 => AM ieI (fun k6 => ?_) fun n6 => ?_
 · rw [if_pos (.inl k5)]
   obtain ⟨d1, d2, d3, d4⟩ := nd (.inl (by omega))
   refine wC (no (by omega)) fun (y : Bool) hy => ?_
   subst hy
   refine BX (fun z => wN d1 (wN d2 (wC (Cw _) fun (y : Bool) hy => DE d3 nd2 ?_))) fun z => ?_
   · rw [z, d4, hy]; rfl
   · rw [show H4 (EH (aF f) e.Ring) (aA a) = false by simpa using z]; rfl
 · rw [if_pos (.inr k7)]
   obtain ⟨d1, d2, d3, d4⟩ := nd (.inl (by omega))
   refine wC (no (by omega)) fun (y : Bool) hy => ?_
   subst hy
   refine BX (fun z => wN d1 (wN d2 (wC (Cw _) fun (y : Bool) hy => DE d3 nd2 ?_))) fun z => ?_
   · rw [z, d4, hy]; rfl
   · rw [show H4 (EH (aF f) e.Ring) (aA a) = false by simpa using z]; rfl
 · rw [if_neg (by omega), if_pos k6]
   obtain ⟨d1, d2, d3, d4⟩ := nd (.inl (by omega))
   refine wC (no (by omega)) fun (y : Bool) hy => ?_
   subst hy
   refine BX (fun z => wN d1 (wN d2 (wC (Cw _) fun (y : Bool) hy => DE d3 nd2 ?_))) fun z => ?_
   · rw [z, d4, hy]; rfl
   · rw [show H4 (EH (aF f) e.Ring) (aA a) = false by simpa using z]; rfl
 · rw [if_neg (by omega), if_neg n6]
   refine A0 (g := Prod.fst) ieI (fun _ => ?_) fun n8 => A0 (g := Prod.fst) ieI (fun _ => rfl) fun n10 => ?_
   · have := he.vl
     refine AM leI (fun z => ?_) fun z => (decide_eq_false fun w => z w.1).symm
     rw [A5 (by have := this.1; omega) (by have := this.2; omega)]
     exact CK (by rw [decide_eq_true_eq]; exact ilI.trans ⟨fun w => ⟨z, w⟩, fun w => w.2⟩)
   · have tu : BB e.Kind = true → D_fx.wp (e, (a, f)) fun y => y = Ds (EH (aF f) e.Ring) (aA a) e := fun z => by
      obtain ⟨r1, _, r2⟩ := hrg (Hw z)
      exact Js h a r1 r2 he.tk.1
     refine A0 (g := Prod.fst) ieI (fun k1 => ?_) fun n1 => of_wp ?_
     · obtain ⟨d1, d2, d3, d4⟩ := nd (.inr k1)
       refine wC (tu (A9.2 (by omega))) fun (y : Bool) hy => ?_
       subst hy
       refine BX (fun z => wN d1 (wN d2 (wC (Cw _) fun (y : Bool) hy => DE d3 nd2 ?_))) fun z => ?_
       · rw [z, d4, hy]; rfl
       · rw [show Ds (EH (aF f) e.Ring) (aA a) e = false by simpa using z]; rfl
     · simp only [tt_fc_16]
       refine wC (w_f24 hre.1.1) fun (y : Bool) hy => ?_
       subst hy
       refine AM bnI (fun z => ?_) fun z => ?_
       · rw [show BB e.Kind = false by simpa using z]; rfl
       · have z := Classical.byContradiction z
         rw [z]
         exact wC (tu z) fun y hy => hy
end
theorem Ps {α : Type} {T T' : Sl α} (h2 : T.n = T'.n) (h3 : ∀ i, T.get i = T'.get i) : T.L = T'.L := Sl.R8 h2 fun i _ => h3 i
section
variable {c : TRg} {b : Int} {r : TRr}
theorem Lc (h : RC c b r) {t v : Int} (h0 : 0 ≤ t) (h1 : t < 4611686018427387904) (hst : (A2 (aR r) t).AQ = 2 * t) :
 D_f29.wp (t, (v, r.s.x)) fun y => y.2.l.L = r.s.x.l.L.set (IP (aR r) t) ⟨2 * t + 1, v, 2 ^ r.AA.AB.n - 1⟩ ∧ y.2.AP = r.s.x.AP ∧ Cv y.2.l ∧ y.2.l.n = r.s.x.l.n := by
 have hn := h.hn
 rw [Ez h] at hst
 refine of_wp ?_
 simp only [tt_f29]
 refine AM leI (fun q => by omega) fun _ => wC (IY h h0 _ _) fun (y : Nat × Nat) hy => ?_
 subst hy
 refine wN (by simp) (wC (w_f25 t h0 (by omega)) fun (y : Int) hy => ?_)
 subst hy
 refine AM (p := (r.s.x.l.get (IP (aR r) t)).AQ < 2 * t) ilI (fun q => by omega) fun _ => wN (by simp) (wC (w_f25 t h0 (by omega)) fun (y : Int) hy => ?_)
 subst hy
 refine AM (p := 2 * t < (r.s.x.l.get (IP (aR r) t)).AQ) ilI (fun q => by omega) fun _ => wC (w_f2h h0 h1) fun (y : Int) hy => ?_
 subst hy
 have hrd := h.wf.rd
 have hp8 := Kv (j := r.AA.AB.n) hn.2.1
 have hpp := Fo r.AA.AB.n
 refine wN (by rw [leI, hrd]; omega) (wN (by simp) (wN (by simp) ⟨?_, rfl, h.wf.lz, rfl⟩))
 rw [← I0]
 refine Ps rfl fun i => ?_
 have e : IntKind.i64.wrap (shl IntKind.i64 1 r.s.x.AP - 1) = 2 ^ r.AA.AB.n - 1 := by
  rw [hrd, Hy (by omega) (by omega), show c.AX.toNat = r.AA.AB.n by omega, wrap64 (by omega) (by omega)]
 show (⟨_, _, cond _ (IntKind.i64.wrap (shl IntKind.i64 1 r.s.x.AP - 1)) _⟩ : TSo) = cond (Nat.beq i _) _ _
 rw [e]
 cases Nat.beq i (IP (aR r) t) <;> rfl
theorem Ld (h : RC c b r) {j t : Int} (hj0 : 0 ≤ j) (hj : j < r.AA.AB.n) (h0 : 0 ≤ t) (h1 : t < 2305843009213693952) (hg : (A2 (aR r) t).AQ = 2 * t + 1 ∧ EE (A2 (aR r) t).Left j = true) :
 D_f2a.wp (j, (t, r.s.x)) fun y => y.1 = (A2 (aR r) t).Value ∧ y.2.2.l.L = r.s.x.l.L.set (IP (aR r) t) (Oy (A2 (aR r) t) j t (IV (aR r))) ∧ y.2.2.AP = r.s.x.AP ∧ Cv y.2.2.l ∧ y.2.2.l.n = r.s.x.l.n := by
 have hn := h.hn
 have hl := h.ln
 have hs := h.slot t
 refine of_wp ?_
 simp only [tt_f2a]
 refine wC (Hu h hj0 hj h0 (by omega)) fun (y : Int) hy => ?_
 refine AM (p := y ≠ 0) (by rw [bnI, ieI]) (fun q => absurd (hy.2 hg) q) fun _ => wC (IY h h0 _ _) fun (y : Nat × Nat) hy => ?_
 subst hy
 rw [Ez h] at hg ⊢
 rw [LF]
 obtain ⟨g1, g2⟩ := hg
 simp only [Nat.beq_refl, cond_true]
 generalize hx : r.s.x.l.get (IP (aR r) t) = x at hs g1 g2
 have hheld := hs.held (by omega)
 have h28 := Kv (j := r.AA.AB.n) hn.2.1
 obtain ⟨jn, rfl⟩ : ∃ jn : Nat, j = jn := ⟨j.toNat, by omega⟩
 obtain ⟨hcl, hcl0⟩ := MG (j := jn) (x := x.Left) (by omega) (by omega) (by omega) g2
 rw [hcl, A5 (z := (r.s.x.l.n : Int)) (by omega) (by omega), A5 (z := t + (r.s.x.l.n : Int)) (by omega) (by omega)]
 have n1 : (true && (Nat.beq r.s.x.l.n r.s.x.l.n)) = true := by simp
 refine wN (by simp) (wN (by simp) (wN (by rw [leI]; exact hj0) (wN (by simp) (wN (by simp) (AM ieI (fun e => ?_) fun e => ?_)))))
 · refine wC (w_f25 (t + (r.s.x.l.n : Int)) (by omega) (by omega)) fun (y : Int) hy => wN (by simp) (wN (by simp) ⟨rfl, ?_, rfl, h.wf.lz, rfl⟩)
   subst hy
   rw [← I0]
   refine Ps rfl fun i => ?_
   unfold Oy
   rw [Int.toNat_natCast, if_pos e]
   show (⟨_, _, _⟩ : TSo) = cond (Nat.beq i _) _ _
   cases Nat.beq i (IP (aR r) t) <;> rfl
 · refine wN (by simp) ⟨rfl, ?_, rfl, h.wf.lz, rfl⟩
   rw [← I0]
   refine Ps rfl fun i => ?_
   unfold Oy
   rw [Int.toNat_natCast, if_neg e]
   show (⟨_, _, _⟩ : TSo) = cond (Nat.beq i _) _ _
   cases Nat.beq i (IP (aR r) t) <;> rfl
theorem Ip (h : RC c b r) {t v : Int} (h0 : 0 ≤ t) (hf : JM (aR r) t = true) : D_f21.wp (t, (v, r)) fun y => PX c y.2 ∧ aR y.2 = Ox (aR r) t v := by
 have ht := h.t
 simp only [JM, decide_eq_true_eq] at hf
 have hlt : t < r.AA.tail := hf.1
 refine of_wp ?_
 simp only [tt_f21]
 refine AM leI (fun q => by omega) fun _ => wN (by simp [h.wf.sn]) (wC (Lc h h0 (by omega) hf.2) fun (y : Int × TSs) hy => ⟨⟨rfl, hy.2.1.trans h.wf.rd, h.wf.ms, h.wf.hz, hy.2.2.1, h.wf.hn, ?_⟩, ?_⟩)
 · show (y.2.l.n : Int) = _; rw [hy.2.2.2]; exact h.wf.ln
 · show (⟨_, _, _, y.2.l.L⟩ : MR) = _
   rw [hy.1]
   unfold Ox
   simp [aR]
theorem Io (h : RC c b r) (hb : b ≤ 2305843009213693952) {j t : Int} (hj0 : 0 ≤ j) (hj : j < r.AA.AB.n) (h0 : 0 ≤ t) (hh : NF (aR r) j t = true) :
 D_f22.wp (j, (t, r)) fun y => y.1 = (A2 (aR r) t).Value ∧ PX c y.2.2 ∧ aR y.2.2 = QM (aR r) j t := by
 have htb := h.inv.tb
 change r.AA.tail < b at htb
 have hd := h.hd (k := j.toNat) (by omega)
 simp only [NF, decide_eq_true_eq, ML hj0 hj] at hh
 refine of_wp ?_
 simp only [tt_f22]
 refine wC (Dg j r.AA) fun (y : Bool) hy => ?_
 refine AM bnI (fun q => absurd (hy.2 ⟨hj0, hj⟩) q) fun _ => wN (by rw [ibI]; exact ⟨hj0, hj⟩) (wN (by simp) ?_)
 rw [Nat.zero_add]
 refine AM leI (fun q => by omega) fun _ => wN (by simp) (wN (by simp [h.wf.sn]) (wC (Ld h hj0 hj h0 (by omega) hh.2) fun (y : Int × Int × TSs) hy => ⟨hy.1, ⟨rfl, hy.2.2.1.trans h.wf.rd, h.wf.ms, h.wf.hz, hy.2.2.2.1, h.wf.hn, ?_⟩, ?_⟩))
 · show (y.2.2.l.n : Int) = _; rw [hy.2.2.2.2]; exact h.wf.ln
 · show (⟨_, _, _, y.2.2.l.L⟩ : MR) = _
   rw [hy.2.1]
   rfl
theorem Lg (h : RC c b r) {j : Int} (hj0 : 0 ≤ j) (hj : j < r.AA.AB.n) (he : FO (aR r) j = false) : D_f11.wp (j, r) fun y => PX c y.2.2 ∧ aR y.2.2 = E4 (aR r) j := by
 have hn := h.hn
 have ht := h.t
 have hd := h.hd (k := j.toNat) (by omega)
 refine of_wp ?_
 simp only [tt_f11]
 refine wC (Dg j r.AA) fun (y : Bool) hy => ?_
 refine AM bnI (fun q => absurd (hy.2 ⟨hj0, hj⟩) q) fun _ => wC (D7 j hj0 hj) fun (y : Bool) hy => ?_
 subst hy
 rw [he]
 refine BX (fun q => by cases q) fun _ => wC (D7 j hj0 hj) fun (y : Bool) hy => ?_
 subst hy
 rw [he]
 refine BX (fun q => by cases q) fun _ => of_wp ?_
 simp only [tt_f11_9, Nat.zero_add]
 have i1 : BA j r.AA.AB.n = true := by rw [ibI]; exact ⟨hj0, hj⟩
 have n1 : ((Nat.beq r.AA.AB.n r.AA.AB.n) && true) = true := by simp
 have n2 : ((true && true) && (Nat.beq r.AA.AB.n r.AA.AB.n)) = true := by simp
 refine wN i1 (wN n1 (wN i1 (wN n1 (wN n2 (wN i1 (wN n1 (wN n2 ⟨⟨h.wf.sn, h.wf.rd, h.wf.ms, h.wf.hz, h.wf.lz, h.wf.hn, h.wf.ln⟩, ?_⟩)))))))
 unfold E4
 rw [ML hj0 hj]
 show (⟨_, Sl.L _, _, _⟩ : MR) = ⟨_, r.AA.AB.L.set _ _, _, _⟩
 rw [← I0]
 congr 1
 refine Ps rfl fun i => ?_
 show cond (Nat.beq i j.toNat) (IntKind.u64.wrap (r.AA.AB.get j.toNat + 1)) _ = cond _ _ _
 rw [A5 (by omega) (by omega)]
theorem Ke (r : TRr) : D_f2b.wp r fun y => y = (0, { r with closed := true }) := of_wp rfl
theorem Kf (h : RC c b r) : D_f28.wp r fun y => (r.closed = true ∧ y = (0, (10, r))) ∨ (r.closed = false ∧ E5 (aR r) = true ∧ y = (0, (8, r))) ∨
 (r.closed = false ∧ E5 (aR r) = false ∧ y.2.1 = 0 ∧ y.2.2 = { r with AA := ⟨r.AA.tail + 1, r.AA.AB⟩ }) := by
 have ht := h.t
 refine of_wp ?_
 simp only [tt_f28]
 refine BX (fun q => .inl ⟨q, rfl⟩) fun q => wC (Ff h) fun (y : Bool) hy => ?_
 have q : r.closed = false := by simpa using q
 subst hy
 refine BX (fun q2 => .inr (.inl ⟨q, q2, rfl⟩)) fun q2 => .inr (.inr ⟨q, by simpa using q2, rfl, ?_⟩)
 rw [A5 (z := r.AA.tail + 1) (by omega) (by omega)]
theorem RT {s : TRs} (hc : As c = true) (h : C8 c b (Qx s)) (hb : b ≤ 4611686018427387904) (hz : Cv s.An) (sz : Cv s.Aw) : S1 s := by
 have hf := EM hc
 have c1 := h.cap
 have c2 := h.rd
 simp only [Qx, Sl.C2] at c1 c2
 have t0 := h.t0
 have tb := h.tb
 change 0 ≤ s.A4 at t0
 change s.A4 < b at tb
 have m64 : (64 : Nat) ≤ maxLen := by decide
 refine ⟨t0, by omega, by omega, fun j hj => ?_, hz, ⟨by omega, fun i hi => ?_, sz⟩⟩
 · have := h.h0 _ (Sl.DA.2 ⟨j, hj, rfl⟩)
   change 0 ≤ s.An.get j ∧ s.An.get j ≤ s.A4 ∧ _ at this
   omega
 · have hs := h.sl i (s.Aw.get i) (Sl.Eh _ hi)
   have h8 := Kv (j := (Qx s).An.length) (by simp [Qx]; omega)
   have h0 := hs.s0
   have h1 := hs.s1
   have hl : 0 ≤ (s.Aw.get i).Left ∧ (s.Aw.get i).Left < 256 := by
    rcases (by omega : (s.Aw.get i).AQ % 2 = 0 ∨ (s.Aw.get i).AQ % 2 = 1) with e | e
    · have := hs.free e; omega
    · have := hs.held e; omega
   exact ⟨h0, by omega, by omega, by omega⟩
theorem P1 {s : TRs} (hc : As c = true) (h : C8 c b (Qx s)) (hb : b ≤ 4611686018427387904) : P2 c s := by
 have hf := EM hc
 have c1 := h.cap
 have c2 := h.rd
 simp only [Qx, Sl.C2] at c1 c2
 have tb := h.tb
 change s.A4 < b at tb
 have hnr : (Qx s).An.length = c.AX.toNat := by simp [Qx]; omega
 refine ⟨⟨c1, fun i hi => ?_⟩, c2, by omega, fun j hj => ?_, fun i hi => ?_⟩
 · have hs := h.sl i (s.Aw.get i) (Sl.Eh _ hi)
   exact ⟨hs.s1, hs.Sv, hs.free, fun e => by have := hs.held e; rw [hnr] at this; exact this⟩
 · have := h.h0 _ (Sl.DA.2 ⟨j, hj, rfl⟩)
   exact this.2
 · have hs := h.sl i (s.Aw.get i) (Sl.Eh _ hi)
   refine ⟨hs.N1, fun j hj => ⟨fun e1 e2 => hs.Rk e1 j _ (Sl.Eh _ hj) e2, fun e1 e2 => hs.Qg e1 e2 _ (Sl.DA.2 ⟨j, hj, rfl⟩)⟩⟩
end
structure RU (p : TPg) (rs rs' : Sl (Bx TRr)) (i : Nat) (m : MR) : Prop where
 n : rs'.n = rs.n
 ot : ∀ j, j ≠ i → rs'.get j = rs.get j
 nl : (rs'.get i).nil = false
 wf : PX (p.AK.get i) (rs'.get i).x
 eq : aR (rs'.get i).x = m
theorem KG {p : TPg} {rs rs' : Sl (Bx TRr)} {i : Nat} {m : MR} (z : Bx TRr) (h1 : rs'.n = rs.n) (h2 : ∀ j, rs'.get j = cond (Nat.beq j i) z (rs.get j)) (h3 : z.nil = false) (h4 : PX (p.AK.get i) z.x) (h5 : aR z.x = m) : RU p rs rs' i m := by
 have hi : rs'.get i = z := by rw [h2, Nat.beq_refl]; rfl
 exact ⟨h1, fun j hj => by rw [h2, Hs hj]; rfl, by rw [hi]; exact h3, by rw [hi]; exact h4, by rw [hi]; exact h5⟩
theorem RU.L {p : TPg} {rs rs' : Sl (Bx TRr)} {i : Nat} {m : MR} (h : RU p rs rs' i m) : rs'.L.map (fun r => aR r.x) = (rs.L.map fun r => aR r.x).set i m := by
 apply List.ext_getElem
 · simp [h.n]
 · intro j h1 h2
   have hj : j < rs.n := by simpa [h.n] using h1
   simp only [List.getElem_map, Sl.F4]
   by_cases e : j = i
   · subst e; rw [List.getElem_set_self, h.eq]
   · rw [List.getElem_set_ne (fun q => e q.symm)]
     simp only [List.getElem_map, Sl.F4, h.ot j e]
section
variable {p : TPg} {B : Int} {k : Nat} {f : TFa} {e : TEv}
theorem Iq (h : FC p B k f) {i : Int} (h0 : 0 ≤ i) (h1 : i < p.AK.n) (hF : E5 (EH (aF f) i) = false) :
 D_f1x.wp (i, f) fun y => ∃ rs, y = ⟨f.p, f.threads, rs, f.now, f.reads, f.ended⟩ ∧ RU p f.rings rs i.toNat { EH (aF f) i with A4 := (EH (aF f) i).A4 + 1 } := by
 obtain ⟨hC, hnil, hrn⟩ := h.ring h0 h1
 have hfr := h.wf.rn
 have hi : i.toNat < p.AK.n := by omega
 rw [hrn] at hF ⊢
 have nd : ((true && true) && ((Nat.beq f.rings.n f.rings.n) && (Nat.blt i.toNat f.rings.n))) = true := by simp; omega
 have nd2 : ((true && true) && (Nat.beq f.rings.n f.rings.n)) = true := by simp
 have ib : BA i f.rings.n = true := by rw [ibI]; omega
 refine of_wp ?_
 simp only [tt_f1x, Nat.zero_add]
 refine wN ib (wN (by simp [hnil]) (wC (Kf hC) fun (y : Int × Int × TRr) hy => wN nd (DD (wN nd2 ?_))))
 rcases hy with ⟨hcl, rfl⟩ | ⟨_, hfl, _⟩ | ⟨hcl, _, hy0, hyr⟩
 · refine AM (p := (10 : Int) ≠ 10) (by rw [bnI, ieI]) (fun q => absurd rfl q) fun _ => ?_
   simp only [Nat.beq_refl, cond_true]
   have hc := hC.rg
   refine wN ib (wN (by simp) (wC (Kd (p.AK.get i.toNat) _ hc hC.wf) fun (s : TRs) hs => wN (by simp; omega) (DD (wN (by simp) ?_))))
   obtain ⟨e1, e2, e3⟩ := hs
   have hcp := h.wf.cp
   have hI := hC.inv.R6 hF
   have ht := hC.t
   have hT : s.A4 = (f.rings.get i.toNat).x.AA.tail := congrArg MR.A4 e1
   have hb := h.hB
   rw [A5 (z := s.A4 + 1) (by rw [hT]; omega) (by rw [hT]; omega), hcp.r.g _ hi]
   have es : Qx ⟨s.A4 + 1, s.An, s.B4, s.Aw⟩ = { aR (f.rings.get i.toNat).x with A4 := (aR (f.rings.get i.toNat).x).A4 + 1 } := by
    rw [← e1]; rfl
   rw [← es] at hI
   refine wN (by rw [ibI, hcp.r.n]; omega) (wC (w_fb (p.AK.get i.toNat) ⟨s.A4 + 1, s.An, s.B4, s.Aw⟩ hc (RT hc hI (by omega) e2 e3)) fun (z : Bx TRr × Int) hz => ?_)
   rcases hz with ⟨_, z2, zn, zw, za⟩ | ⟨hno, _⟩
   rotate_left
   · exact absurd (P1 hc hI (by omega)) hno
   refine AM ieI (fun _ => wN ib (wN (by simp) (wN (by simp) ⟨_, rfl, KG z.1 rfl (fun j => ?_) zn zw (za.trans es)⟩))) fun q => absurd z2 q
   show (⟨_, _⟩ : Bx TRr) = cond (Nat.beq j _) _ _
   cases Nat.beq j i.toNat <;> rfl
 · rw [hF] at hfl; cases hfl
 · refine AM (p := y.2.1 ≠ 10) (by rw [bnI, ieI]) (fun _ => ⟨_, rfl, KG ⟨false, y.2.2⟩ rfl (fun j => ?_) rfl ?_ ?_⟩) fun q => absurd (by rw [hy0]; decide) q
   · show (⟨_, _⟩ : Bx TRr) = cond (Nat.beq j _) _ _
     cases Nat.beq j i.toNat <;> rfl
   · show PX _ y.2.2
     rw [hyr]
     exact ⟨hC.wf.sn, hC.wf.rd, hC.wf.ms, hC.wf.hz, hC.wf.lz, hC.wf.hn, hC.wf.ln⟩
   · show aR y.2.2 = _
     rw [hyr]; rfl
theorem O4 (h : FC p B k f) (he : SQ e) (F : CZ (aP p) (aF f) e) (v : Int) (hv : Ck v) (hve : v = if e.Kind = 4 then (A2 (EH (aF f) e.Ring) e.AJ).Value else 0) (rs : Sl (Bx TRr)) (now rd : Int) (en : Bool) :
 D_fd_20.wp (⟨e, v, ⟨f.p, f.threads, rs, now, rd, en⟩⟩ : X_fd_20) fun y => ∃ ts, y = ⟨f.p, ts, rs, now, rd, en⟩ ∧ ts.n = f.threads.n ∧ ts.L.map aT = (Ai (aP p) (aF f) e).AD ∧ ∀ t, t < ts.n → HL (k + 1) (ts.get t) := by
 obtain ⟨h0, h1⟩ := Ge h.inv F
 obtain ⟨c1, c2, c3, c4⟩ := h.code h0 h1
 have htn := h.wf.tn
 have hk := h.hk
 have hT := h.Lk h0 h1
 rw [← c3] at hT
 have hcr := Hq h.inv h0 h1
 rw [← Ii h0 h1, ← c3] at hcr
 refine of_wp ?_
 simp only [tt_fd_20, Nat.zero_add]
 have ib : BA e.Thread f.threads.n = true := by rw [ibI]; omega
 refine wN (by rw [ibI]; omega) (wN ib (wN (by simp) (wC (w_f1u _ _ _ e v k (by omega) c1 c2 hcr hT (h.wf.tw _ (by omega)) hv he.vl he.tk.1) fun (y : TTh × Int) hy => wN ib (wN (by simp) (wN (by simp) ?_)))))
 have hd : O0 (f.p.AD.get e.Thread.toNat).L (aT (f.threads.get e.Thread.toNat)) e = 0 := by
  unfold O0
  have hft := F.ft
  have ha0 := F.a0
  unfold CC at hft ha0
  rw [GW h0 (by omega), ← c3] at hft ha0
  rw [if_neg (by rw [F.re]; simp), if_neg (by rw [hft]; simp [ha0])]
 obtain ⟨hy1, hy2⟩ := hy.2 hd
 have hts : ∀ {T : Sl TTh}, T.n = f.threads.n → (∀ j, T.get j = cond (Nat.beq j e.Thread.toNat) y.1 (f.threads.get j)) → T.L.map aT = (Ai (aP p) (aF f) e).AD ∧ ∀ t, t < T.n → HL (k + 1) (T.get t) := fun {T} e1 e2 => by
  refine ⟨?_, fun t ht => ?_⟩
  · have : T.L = f.threads.L.set e.Thread.toNat y.1 := by rw [← I0]; exact Ps e1 e2
    rw [this, map_set, hy1]
    unfold Ai
    simp only
    rw [GW h0 (by omega), ← c3, hve]
    rfl
  · rw [e2]
    by_cases q : t = e.Thread.toNat
    · subst q; rw [Nat.beq_refl]; exact hy2
    · rw [Hs q]; exact (h.wf.tw t (by omega)).grow (by omega)
 refine ⟨_, rfl, rfl, hts rfl fun j => ?_⟩
 show (⟨_, _, _, _, _, _, _⟩ : TTh) = cond (Nat.beq j _) _ _
 cases Nat.beq j e.Thread.toNat <;> rfl
theorem FC.TA (h : FC p B k f) {t : Int} (h0 : 0 ≤ t) (h1 : t < p.AD.n) : Ck (CC (aP p) (aF f) t).Value := by
 have htn := h.wf.tn
 have := h.Lk h0 h1
 unfold CC
 rw [GW h0 (by omega)]
 rw [Ii h0 h1] at this ⊢
 exact (QI (Hq h.inv h0 h1) (h.hp.k (by omega)) this (h.wf.tw _ (by omega)).rg).2
theorem Ju (h : FC p B k f) (he : SQ e) (F : CZ (aP p) (aF f) e) (ht : BB e.Kind = true → Ds (EH (aF f) e.Ring) (CC (aP p) (aF f) e.Thread) e = true) (hB : B + 1 ≤ 2305843009213693952) (hk : k + 1 ≤ 1000000000) :
 D_fd.wp (e, f) fun y => aF y = Ai (aP p) (aF f) e ∧ FC p (B + 1) (k + 1) y := by
 obtain ⟨t0, t1⟩ := Ge h.inv F
 have hfr := h.wf.rn
 have htn := h.wf.tn
 have hre := Bw F.re
 have hI := NN h.inv h.hB he.tk.1 F ht
 have hU := PW h.uv (h.TA t0 t1)
 refine of_wp ?_
 simp only [tt_fd, Nat.zero_add]
 refine wC (Gi h t0 t1) fun (a : TAk) ha => ?_
 -- the end of all ways
 have fin : ∀ (v : Int) (rs : Sl (Bx TRr)) (now rd : Int) (en : Bool), Ck v → v = (if e.Kind = 4 then (A2 (EH (aF f) e.Ring) e.AJ).Value else 0) → rs.n = p.AK.n → (∀ i, i < rs.n → (rs.get i).nil = false ∧ PX (p.AK.get i) (rs.get i).x) →
  rs.L.map (fun r => aR r.x) = (Ai (aP p) (aF f) e).AK → now = (Ai (aP p) (aF f) e).Mj → rd = (Ai (aP p) (aF f) e).Reads → en = (Ai (aP p) (aF f) e).FE →
  D_fd_20.wp (⟨e, v, ⟨f.p, f.threads, rs, now, rd, en⟩⟩ : X_fd_20) fun y => aF y = Ai (aP p) (aF f) e ∧ FC p (B + 1) (k + 1) y := fun v rs now rd en hv hve r1 r2 r3 e1 e2 e3 => by
  refine (O4 h he F v hv hve rs now rd en).mono fun y hy => ?_
  obtain ⟨ts, rfl, n1, n2, n3⟩ := hy
  have ea : aF ⟨f.p, ts, rs, now, rd, en⟩ = Ai (aP p) (aF f) e := by
   show (⟨_, _, _, _, _⟩ : MS) = _
   rw [n2, r3, e1, e2, e3]
  exact ⟨ea, h.hp, by rw [ea]; exact hI, ⟨h.wf.cp, by show ts.n = _; omega, n3, r1, r2⟩, by rw [ea]; exact hU, hB, hk⟩
 have vz : e.Kind ≠ 4 → (0 : Int) = (if e.Kind = 4 then (A2 (EH (aF f) e.Ring) e.AJ).Value else 0) := fun q => by rw [if_neg q]
 have nw : e.Kind ≠ 8 → f.now = (Ai (aP p) (aF f) e).Mj := fun q => by unfold Ai; simp only; rw [if_neg q]; rfl
 have rd : e.Kind ≠ 10 → f.reads = (Ai (aP p) (aF f) e).Reads := fun q => by unfold Ai; simp only; rw [if_neg q]; rfl
 have en : e.Kind ≠ 11 → f.ended = (Ai (aP p) (aF f) e).FE := fun q => by unfold Ai; simp only; rw [if_neg q]; rfl
 have rgs : BB e.Kind = false → f.rings.L.map (fun r => aR r.x) = (Ai (aP p) (aF f) e).AK := fun q => by unfold Ai; simp only [q, Bool.false_eq_true, if_false]; rfl
 -- with a ring
 have ring : BB e.Kind = true → ∀ (v : Int) (rs : Sl (Bx TRr)), Ck v → v = (if e.Kind = 4 then (A2 (EH (aF f) e.Ring) e.AJ).Value else 0) → RU p f.rings rs e.Ring.toNat (B9 (EH (aF f) e.Ring) (CC (aP p) (aF f) e.Thread) e) →
  D_fd_20.wp (⟨e, v, ⟨f.p, f.threads, rs, f.now, f.reads, f.ended⟩⟩ : X_fd_20) fun y => aF y = Ai (aP p) (aF f) e ∧ FC p (B + 1) (k + 1) y := fun q v rs hv hve hu => by
  have h1 := A9.1 q
  refine fin v rs _ _ _ hv hve (by rw [hu.n]; exact hfr) (fun i hi => ?_) ?_ (nw (by omega)) (rd (by omega)) (en (by omega))
  · by_cases z : i = e.Ring.toNat
    · subst z; exact ⟨hu.nl, hu.wf⟩
    · rw [hu.ot i z]; exact h.wf.rw i (by rw [← hu.n]; exact hi)
  · rw [hu.L]
    unfold Ai
    simp only [q, if_true]
    rfl
 have tk := fun z => A9 (k := e.Kind).2 z
 have info := fun (q : BB e.Kind = true) => by
  obtain ⟨r1, _, r2⟩ := Ng h.inv F (Hw q)
  obtain ⟨hC, hnil, hrn⟩ := h.ring r1.1 r1.2
  exact (⟨r1, by rw [ha]; exact r2, hC, hnil, hrn, by rw [ibI]; omega, by simp [hnil], by simp; omega⟩ : (0 ≤ e.Ring ∧ e.Ring < p.AK.n) ∧ (e.Kind = 3 ∨ e.Kind = 4 → 0 ≤ (aA a).Reader ∧ (aA a).Reader < (p.AK.get e.Ring.toNat).AX) ∧ RC (p.AK.get e.Ring.toNat) B (f.rings.get e.Ring.toNat).x ∧ (f.rings.get e.Ring.toNat).nil = false ∧ EH (aF f) e.Ring = aR (f.rings.get e.Ring.toNat).x ∧ BA e.Ring f.rings.n = true ∧
   (((Nat.beq f.rings.n f.rings.n) && true) && (!(f.rings.get e.Ring.toNat).nil)) = true ∧ ((true && true) && ((Nat.beq f.rings.n f.rings.n) && (Nat.blt e.Ring.toNat f.rings.n))) = true)
 have nd2 : ((true && true) && (Nat.beq f.rings.n f.rings.n)) = true := by simp
 rw [← ha] at ht
 refine AM ieI (fun k1 => ?_) fun n1 => AM ieI (fun k2 => ?_) fun n2 => AM ieI (fun k3 => ?_) fun n3 => AM ieI (fun k4 => ?_) fun n4 => AM ieI (fun k13 => ?_) fun n13 => ?_
 · have q := tk (by omega)
   obtain ⟨r1, _⟩ := info q
   have hT := ht q
   unfold Ds at hT
   rw [if_pos k1] at hT
   simp only [Bool.and_eq_true, Bool.not_eq_true', decide_eq_true_eq] at hT
   refine wC (Iq h r1.1 r1.2 hT.1) fun (y : TFa) hy => ?_
   obtain ⟨rs, rfl, hu⟩ := hy
   refine ring q 0 rs Co (vz (by omega)) ?_
   unfold B9
   rw [if_pos k1]; exact hu
 · have q := tk (by omega)
   obtain ⟨r1, r2, hC, hnil, hrn, d1, d2, d3⟩ := info q
   have hT := ht q
   unfold Ds at hT
   rw [if_neg n1, if_pos k2, hrn] at hT
   refine wN d1 (wN d2 (wC (Ip hC he.tk.1 hT) fun (y : Int × TRr) hy => wN d3 (DD (wN nd2 (ring q 0 _ Co (vz (by omega)) (KG ⟨false, y.2⟩ rfl (fun j => ?_) rfl hy.1 ?_))))))
   · show (⟨_, _⟩ : Bx TRr) = cond (Nat.beq j _) _ _
     cases Nat.beq j e.Ring.toNat <;> rfl
   · unfold B9
     rw [if_neg n1, if_pos k2, hrn, ← ha]; exact hy.2
 · have q := tk (by omega)
   obtain ⟨r1, r2, hC, hnil, hrn, d1, d2, d3⟩ := info q
   have hT := ht q
   unfold Ds at hT
   rw [if_neg n1, if_neg n2, if_pos k3, hrn] at hT
   simp only [Bool.and_eq_true, Bool.not_eq_true', decide_eq_true_eq] at hT
   obtain ⟨j0, j1⟩ := r2 (.inl k3)
   have hn := hC.hn
   refine wN d1 (wN d2 (wC (Lg hC (j := a.Reader) j0 (by show (aA a).Reader < _; omega) hT.1) fun (y : Int × Int × TRr) hy => wN d3 (DD (wN nd2 (ring q 0 _ Co (vz (by omega)) (KG ⟨false, y.2.2⟩ rfl (fun j => ?_) rfl hy.1 ?_))))))
   · show (⟨_, _⟩ : Bx TRr) = cond (Nat.beq j _) _ _
     cases Nat.beq j e.Ring.toNat <;> rfl
   · unfold B9
     rw [if_neg n1, if_neg n2, if_pos k3, hrn, ← ha]; exact hy.2
 · have q := tk (by omega)
   obtain ⟨r1, r2, hC, hnil, hrn, d1, d2, d3⟩ := info q
   have hT := ht q
   unfold Ds at hT
   rw [if_neg n1, if_neg n2, if_neg n3, if_pos k4, hrn] at hT
   obtain ⟨j0, j1⟩ := r2 (.inr k4)
   have hn := hC.hn
   refine wN d1 (wN d2 (wC (Io hC h.hB (j := a.Reader) j0 (by show (aA a).Reader < _; omega) he.tk.1 hT) fun (y : Int × Int × TRr) hy => wN d3 (DD (wN nd2 (ring q _ _ ?_ ?_ (KG ⟨false, y.2.2⟩ rfl (fun j => ?_) rfl hy.2.1 ?_))))))
   · rw [hy.1, ← hrn]; exact Iy (Nn h.uv _) _
   · rw [hy.1, ← hrn, if_pos k4]
   · show (⟨_, _⟩ : Bx TRr) = cond (Nat.beq j _) _ _
     cases Nat.beq j e.Ring.toNat <;> rfl
   · unfold B9
     rw [if_neg n1, if_neg n2, if_neg n3, if_pos k4, hrn, ← ha]; exact hy.2.2
 · have q := tk (by omega)
   obtain ⟨r1, r2, hC, hnil, hrn, d1, d2, d3⟩ := info q
   refine wN d1 (wN d2 (wC (Ke _) fun (y : Int × TRr) hy => wN d3 (DD (wN nd2 (ring q 0 _ Co (vz (by omega)) (KG ⟨false, y.2⟩ rfl (fun j => ?_) rfl ?_ ?_))))))
   · show (⟨_, _⟩ : Bx TRr) = cond (Nat.beq j _) _ _
     cases Nat.beq j e.Ring.toNat <;> rfl
   · subst hy; exact ⟨hC.wf.sn, hC.wf.rd, hC.wf.ms, hC.wf.hz, hC.wf.lz, hC.wf.hn, hC.wf.ln⟩
   · subst hy
     unfold B9
     rw [if_neg n1, if_neg n2, if_neg n3, if_neg n4, if_pos k13, hrn]; rfl
 · have q : BB e.Kind = false := Bool.eq_false_iff.2 fun z => by rw [A9] at z; omega
   refine AM ieI (fun k8 => ?_) fun n8 => AM ieI (fun k10 => ?_) fun n10 => AM ieI (fun k11 => ?_) fun n11 => ?_
   · refine fin 0 f.rings _ _ _ Co (vz n4) hfr h.wf.rw (rgs q) ?_ (rd (by omega)) (en (by omega))
     unfold Ai; simp only; rw [if_pos k8, Rh]; rfl
   · refine fin 0 f.rings _ _ _ Co (vz n4) hfr h.wf.rw (rgs q) (nw n8) ?_ (en (by omega))
     unfold Ai; simp only; rw [if_pos k10]; rfl
   · refine fin 0 f.rings _ _ _ Co (vz n4) hfr h.wf.rw (rgs q) (nw n8) (rd n10) ?_
     unfold Ai; simp only; rw [if_pos k11]
   · exact fin 0 f.rings _ _ _ Co (vz n4) hfr h.wf.rw (rgs q) (nw n8) (rd n10) (en n11)
theorem FC.grow (h : FC p B k f) (hB : B + 1 ≤ 2305843009213693952) (hk : k + 1 ≤ 1000000000) : FC p (B + 1) (k + 1) f :=
 ⟨h.hp, h.inv.mono (by omega), ⟨h.wf.cp, h.wf.tn, fun t ht => (h.wf.tw t ht).grow (by omega), h.wf.rn, h.wf.rw⟩, h.uv, hB, hk⟩
theorem Lj (h : FC p B k f) (he : SQ e) (hB : B + 1 ≤ 2305843009213693952) (hk : k + 1 ≤ 1000000000) : D_f1l.wp (e, f) fun y => y.1 = (Rb (aP p) (aF f) e).1 ∧ aF y.2 = (Rb (aP p) (aF f) e).2 ∧ FC p (B + 1) (k + 1) y.2 := by
 refine of_wp ?_
 simp only [tt_f1l]
 refine wC (Fg h he) fun (y : Int) hy => ?_
 subst hy
 unfold Rb
 refine AM (p := FY (aP p) (aF f) e ≠ 0) (by rw [bnI, ieI]) (fun q => ?_) fun q => wC (HP h he) fun (y : Bool) hy => ?_
 · rw [if_pos q]; exact ⟨rfl, rfl, h.grow hB hk⟩
 · subst hy
   rw [if_neg q]
   refine AM bnI (fun q2 => ?_) fun q2 => ?_
   · rw [if_pos (by simpa using q2)]; exact ⟨rfl, rfl, h.grow hB hk⟩
   · have hA := Classical.byContradiction q2
     rw [if_neg (by rw [hA]; simp)]
     obtain ⟨F, _, hm⟩ := F0 hA
     exact wC (Ju h he F (fun z => QK (p := aP p) hm F.re z) hB hk) fun (y : TFa) hy => ⟨rfl, hy⟩
end
section
variable {p : TPg} {B : Int} {k : Nat} {f : TFa}
theorem Jw (t : Int) (f : TFa) (h0 : 0 ≤ t) (h1 : t < f.threads.n) : D_f12.wp (t, f) fun y => y = Ad (f.threads.get t.toNat).Status 0 := by
 refine B5 ?_
 simp only [tt_f12, Nat.zero_add]
 refine wC (FG t f) fun (y : Bool) hy => ?_
 exact BX (fun _ => wN (by rw [ibI]; exact ⟨h0, h1⟩) (wN (by simp) (wN (by simp) rfl))) fun q => absurd (hy.2 ⟨h0, h1⟩) q
theorem Jv (h : FC p B k f) {t : Int} (h0 : 0 ≤ t) (h1 : t < f.threads.n) : D_f13.wp (t, f) fun y => y.L = (f.threads.get t.toNat).Seen.L ∧ y.n ≤ k := by
 have hk := h.hk
 have hw := h.wf.tw t.toNat (by omega)
 have hsb := hw.sb
 refine B5 ?_
 simp only [tt_f13, Nat.zero_add]
 refine wC (FG t f) fun (y : Bool) hy => ?_
 refine AM bnI (fun q => absurd (hy.2 ⟨h0, h1⟩) q) fun _ => wN (by rw [ibI]; exact ⟨h0, h1⟩) (wN (by simp) (wC (Ir _ hw.sz (by omega)) fun (y : Sl Int) hy => wN (by simp) ⟨hy.1.L, by rw [hy.1.n]; exact hsb⟩))
end
theorem Rd (p : TPg) (hp : Jq p) : D_f1c.wp (p, 100) fun y => y = true → p.AK.n ≤ 10 ∧ p.AD.n ≤ 10 ∧ ∀ t, t < p.AD.n → (p.AD.get t).n ≤ 100 := by
 refine of_wp ?_
 simp only [tt_f1c]
 refine AM ilI (fun _ => fun h => by cases h) fun h1 => AM ilI (fun _ => fun h => by cases h) fun h2 => of_wp ?_
 simp only [tt_f1c_3]
 refine Ee (tt := tt_f1c_5) (fun x : X_f1c_5 => x.Fq = 100 ∧ x.Dj = p ∧ ∃ k : Nat, x.Ri = k ∧ k ≤ p.AD.n ∧ ∀ t, t < k → (p.AD.get t).n ≤ 100) (fun x => (p.AD.n - x.Ri).toNat) (fun _ y => y = true → p.AK.n ≤ 10 ∧ p.AD.n ≤ 10 ∧ ∀ t, t < p.AD.n → (p.AD.get t).n ≤ 100) (fun D x hI hD => ?_) ⟨rfl, rfl, 0, rfl, Nat.zero_le _, fun t ht => by omega⟩
 obtain ⟨m, p', n, i⟩ := x
 obtain ⟨e0, e1, k, e2, hk, hg⟩ := hI
 simp only at e0 e1 e2 hg hD
 subst e0 e1 e2
 simp only [tt_f1c_5]
 refine AM ilI (fun h => ?_) fun h => fun _ => ⟨by omega, by omega, fun t ht => hg t (by omega)⟩
 have hkm : k < p'.AD.n := by omega
 refine wN (A6 hkm) ?_
 rw [Int.toNat_natCast]
 refine AM ilI (fun _ => fun h => by cases h) fun h3 => wN (A6 hkm) ?_
 rw [Ct hkm hp.tn]
 refine hD _ ⟨rfl, rfl, k + 1, rfl, hkm, fun t ht => ?_⟩ (by simp only; omega)
 by_cases e : t = k
 · subst e; omega
 · exact hg t (by omega)
theorem law_f2y (p : TPg) (hp : Jq p) : D_f2y.wp p fun y => y = true ↔ FD (aP p) := by
 refine of_wp ?_
 simp only [tt_f2y]
 exact wC (w_f2x p hp) fun (y : Bool) hy => hy
theorem Rc (p : TPg) (hp : Jq p) : D_f35.wp p fun y => y = true → FD (aP p) := by
 refine of_wp ?_
 simp only [tt_f35]
 refine wC (Rd p hp) fun (y : Bool) _ => BX (fun _ => wC (law_f2y p hp) fun (z : Bool) hz => hz.1) fun _ => fun h => by cases h
structure okL (l : Sl TEv) : Prop where
 n : l.n ≤ maxLen
 e : ∀ i, i < l.n → SQ (l.get i)
theorem So {p q : TPg} (hp : Jq p) (hc : IG q p) (hP : FD (aP p)) {f : TFa} (hF : FWf q 0 f) (ha : aF f = GN (aP q)) : FC p 1 0 f ∧ aF f = GN (aP p) := by
 have hqp := hc.same
 rw [hqp] at ha
 have h1 := hF.cp
 have cp : IG f.p p := ⟨⟨h1.r.n.trans hc.r.n, fun i hi => (h1.r.g i (by rw [hc.r.n]; exact hi)).trans (hc.r.g i hi)⟩, h1.rz, h1.n.trans hc.n, fun t ht => by
  have a := h1.t t (by rw [hc.n]; exact ht)
  have b := (hc.t t ht).1
  exact ⟨⟨a.1.n.trans b.n, fun i hi => (a.1.g i (by rw [b.n]; exact hi)).trans (b.g i hi)⟩, a.2⟩⟩
 refine ⟨⟨hp, by rw [ha]; exact Rf hP, ⟨cp, hF.tn.trans hc.n, hF.tw, hF.rn.trans hc.r.n, fun i hi => ?_⟩, by rw [ha]; exact Sk, by decide, by decide⟩, ha⟩
 have := hF.rw i hi
 have hi' : i < p.AK.n := by have := hF.rn; have := hc.r.n; omega
 rw [hc.r.g i hi'] at this
 exact this
theorem PJ {p : TPg} (hp : Jq p) : IG p p := ⟨CY.refl _, hp.rz, rfl, fun t ht => ⟨CY.refl _, hp.lz t ht⟩⟩
theorem Kh : D_f2s.ev 1000 PUnit.unit = some true := by kernel_rfl
theorem O2 : D_f2s.wp PUnit.unit fun y => y = true := ⟨true, D_f2s.Gf 1000 _ _ Kh, rfl⟩
theorem QO (a b : Sl Int) (h : a.L = b.L) (hn : a.n ≤ maxLen) : D_f1w.wp (a, b) fun y => y = true := by
 obtain ⟨h1, h2⟩ := Sl.TD h
 refine of_wp ?_
 simp only [tt_f1w]
 refine AM (p := (a.n : Int) ≠ b.n) (by rw [bnI, ieI]) (fun z => by omega) fun _ => ?_
 refine DN (tt := tt_f1w_4) (fun k => (⟨a, b, (k : Int)⟩ : X_f1w_4)) a.n (fun _ => True) (fun y => y = true) (fun D _ => ?_) (fun D k hk _ hD => ?_) (Nat.zero_le _) trivial
 · simp only [tt_f1w_4]
   exact AM ilI (fun z => by omega) fun _ => rfl
 · simp only [tt_f1w_4]
   refine AM ilI (fun _ => wN (A6 hk) (wN (A6 (by omega)) ?_)) fun z => by omega
   rw [Int.toNat_natCast, h2 k hk, Ct hk hn]
   refine BX (fun z => ?_) fun _ => hD trivial
   simp [Ad] at z
theorem TB {t : Nat} (h : t < 8) : Vm.bits .and .i64 (t : Int) 7 = t := by
 have : t = 0 ∨ t = 1 ∨ t = 2 ∨ t = 3 ∨ t = 4 ∨ t = 5 ∨ t = 6 ∨ t = 7 := by omega
 rcases this with rfl | rfl | rfl | rfl | rfl | rfl | rfl | rfl <;> rfl
theorem SY (s : Sl Int) (v : Int) (b : Bool) : (Sl.mk b (s.n + 1) (fun i => cond (Nat.blt i s.n) (s.get i) v)).L = s.L ++ [v] := by
 unfold Sl.L
 simp only [List.range_succ, List.map_append, List.map_cons, List.map_nil]
 congr 1
 · refine List.map_congr_left fun i hi => ?_
   rw [EK (List.mem_range.1 hi), cond_true]
 · rw [EW (Nat.lt_irrefl _), cond_false]
theorem Nk (K : Nat) (v : Int) (m : Nat → Sl Int) (u : Nat) : (I1 K v m u).L = if u = K then (m K).L ++ [v] else (m u).L := by
 unfold I1
 by_cases h : u = K
 · subst h
   simp only [show Nat.beq u u = true by simp, cond_true, if_true]
   exact SY _ _ _
 · have : Nat.beq u K = false := by cases q : Nat.beq u K; rfl; exact absurd (Nat.eq_of_beq_eq_true q) h
   simp only [this, cond_false, if_neg h]
theorem RB (K : Nat) (v : Int) (m : Nat → Sl Int) (u : Nat) : (I1 K v m u).n = if u = K then (m K).n + 1 else (m u).n := by
 have := congrArg List.length (Nk K v m u)
 rw [Sl.C2] at this
 rw [this]
 split <;> simp
structure Sn (m : MS) (k : Nat) (sn : Nat → Sl Int) (ov : Nat → Bool) : Prop where
 s : ∀ t : Nat, t < 8 → (sn t).L = (GL m t).Seen
 n : ∀ t : Nat, t < 8 → (sn t).n ≤ k
 o : ∀ t : Nat, t < 8 → (ov t = true ↔ (GL m t).Status ≠ 0)
theorem Sn.up {m : MS} {k : Nat} {sn : Nat → Sl Int} {ov : Nat → Bool} (h : Sn m k sn ov) : Sn m (k + 1) sn ov := ⟨h.s, fun t ht => Nat.le_succ_of_le (h.n t ht), h.o⟩
theorem JO (p : TPg) (l : Sl TEv) (hp : Jq p) (hl : okL l) : D_f3.wp (p, l) fun y => y = true := by
 refine of_wp ?_
 simp only [tt_f3]
 have aw : ∀ {k : Bool → TT Tryz.prog R_f3} {Q}, (k true).wp Q → (TT.call con_f2s PUnit.unit k).wp Q := fun h => wC O2 fun (y : Bool) hy => by subst hy; exact h
 refine aw (BX (fun h => by simp at h) fun _ => ?_)
 refine wC (Rc p hp) fun (y : Bool) hy => AM bnI (fun _ => aw rfl) fun hf => AM ilI (fun _ => aw rfl) fun hl80 => of_wp ?_
 have hP := hy (Classical.byContradiction hf)
 simp only [tt_f3_3]
 refine wC (w_f10 p hp 0) fun (y : Bx TFa × Int) hy => ?_
 rcases hy with ⟨_, y2, yn, yF, ya⟩ | ⟨hno, _⟩
 rotate_left
 · exact absurd hP hno
 obtain ⟨hFC, ya⟩ := So hp (PJ hp) hP yF ya
 refine wN (by simp [yn]) ?_
 have sn0 : Sn (aF y.1.x) 0 (fun _ => ⟨true, 0, fun _ => 0⟩) (fun _ => false) := by
  rw [ya]
  have hz : ∀ t : Nat, GL (GN (aP p)) t = zT := fun t => by
   unfold GL GN
   simp only [List.getD_eq_getElem?_getD, List.getElem?_map]
   cases (aP p).AD[(t : Int).toNat]? <;> rfl
  exact ⟨fun t _ => by rw [hz]; rfl, fun _ _ => Nat.le_refl 0, fun t _ => by rw [hz]; simp [zT]⟩
 refine Ee (tt := tt_f3_9) (fun x : X_f3_9 => x.Dj = p ∧ x.BU = l ∧ x.IM = l.n ∧ ∃ k : Nat, x.BP = k ∧ k ≤ l.n ∧ FC p (1 + k) k x.Ic ∧ Sn (aF x.Ic) k x.Ep x.H3) (fun x => (l.n - x.BP).toNat) (fun _ y => y = true) (fun D x hI hD => ?_)
  ⟨rfl, rfl, rfl, 0, rfl, Nat.zero_le _, hFC, sn0⟩
 obtain ⟨p', l', q34, q35, sn, ov, f⟩ := x
 obtain ⟨e0, e1, e2, k, e3, hk, hF, hS⟩ := hI
 simp only at e0 e1 e2 e3 hF hS hD
 subst e0 e1 e2 e3
 have c1 : (1 : Int) + ((k + 1 : Nat) : Int) = 1 + k + 1 := by omega
 simp only [tt_f3_9]
 refine AM ilI (fun h => ?_) fun h => of_wp ?_
 · have hkm : k < l'.n := by omega
   have hE := hl.e k hkm
   refine wN (A6 hkm) ?_
   simp only [Int.toNat_natCast]
   generalize l'.get k = e at hE
   refine wC (Lj hF hE (by omega) (by omega)) fun (y : Int × TFa) hy => ?_
   obtain ⟨y1, y2, y3⟩ := hy
   have h21 : ∀ sn' ov', Sn (aF y.2) (k + 1) sn' ov' → (D_f3_21 D).wp (⟨p', l', l'.n, k, sn', ov', y.2⟩ : X_f3_21) fun y => y = true := fun sn' ov' hS' => by
    refine of_wp ?_
    simp only [tt_f3_21, Ct hkm hl.n]
    exact hD _ ⟨rfl, rfl, rfl, k + 1, rfl, hkm, by rw [c1]; exact y3, hS'⟩ (by simp only; omega)
   refine AM (p := y.1 ≠ 0) (by rw [bnI, ieI]) (fun q => h21 _ _ ?_) fun q => ?_
   · have hna : CN (aP p') (aF f) e = false := by
      cases w : CN (aP p') (aF f) e
      · rfl
      · exact absurd (y1.trans (N6.2 w)) q
     rw [y2, (I6 hna).2]
     exact hS.up
   have hA : CN (aP p') (aF f) e = true := N6.1 (y1.symm.trans (Classical.byContradiction q))
   rw [Jm hA] at y2
   change aF y.2 = Ai (aP p') (aF f) e at y2
   obtain ⟨F, _, _⟩ := F0 hA
   have hre := Bw F.re
   obtain ⟨t, ht⟩ : ∃ t : Nat, e.Thread = t := ⟨e.Thread.toNat, by omega⟩
   have ht8 : t < 8 := by omega
   have hrun := Qe hF.inv F
   have bs := fun u : Nat => Mb hF.inv F (t := u) (Int.natCast_nonneg u)
   have bst := fun u : Nat => KB hF.inv F (t := u) (Int.natCast_nonneg u)
   simp only [ht, Int.natCast_inj] at bs bst hrun
   simp only [ht, TB ht8, Int.toNat_natCast]
   refine wN (A6 ht8) (BX (fun q => absurd hrun ((hS.o t ht8).1 q)) fun hov => ?_)
   have keepS : e.Kind ≠ 12 → ∀ u : Nat, u < 8 → (sn u).L = (GL (Ai (aP p') (aF f) e) u).Seen := fun q u hu => by
    rw [bs, if_neg fun w => q w.2]; exact hS.s u hu
   have setO : e.Kind = 14 ∨ e.Kind = 15 → Sn (aF y.2) (k + 1) sn fun i3 => cond (Nat.beq i3 t) true (ov i3) := fun q => by
    rw [y2]
    refine ⟨keepS (by omega), hS.up.n, fun u hu => ?_⟩
    rw [bst]
    by_cases w : u = t
    · subst w
      simp only [show Nat.beq u u = true by simp, cond_true, if_true, true_iff]
      rcases q with q | q <;> simp [q]
    · have : Nat.beq u t = false := by cases q : Nat.beq u t; rfl; exact absurd (Nat.eq_of_beq_eq_true q) w
      simp only [this, cond_false, if_neg w]
      exact hS.o u hu
   have keepO : e.Kind ≠ 14 → e.Kind ≠ 15 → ∀ u : Nat, u < 8 → (ov u = true ↔ (GL (Ai (aP p') (aF f) e) u).Status ≠ 0) := fun q1 q2 u hu => by
    rw [bst, if_neg q1, if_neg q2]
    by_cases w : u = t
    · subst w
      rw [if_pos rfl]
      exact ⟨fun z => absurd z hov, fun z => absurd rfl z⟩
    · rw [if_neg w]; exact hS.o u hu
   refine AM ieI (fun k12 => ?_) fun k12 => ?_
   · have hn := hS.n t ht8
     refine wN (A6 ht8) (wN (by simp only [room, Bool.true_and, decide_eq_true_eq]; omega) (wN (A6 ht8) (h21 (I1 t e.Value sn) ov ?_)))
     rw [y2]
     refine ⟨fun u hu => ?_, fun u hu => ?_, keepO (by omega) (by omega)⟩
     · rw [bs, Nk]
       by_cases w : u = t
       · subst w
         rw [if_pos rfl, if_pos ⟨rfl, k12⟩, hS.s u hu]
       · rw [if_neg w, if_neg fun z => w z.1]; exact hS.s u hu
     · rw [RB]
       have := hS.n u hu
       split <;> omega
   · refine AM ieI (fun k14 => wN (A6 ht8) (h21 _ _ (setO (.inl k14)))) fun k14 => AM ieI (fun k15 => wN (A6 ht8) (h21 _ _ (setO (.inr k15)))) fun k15 => h21 _ _ ?_
     rw [y2]
     exact ⟨keepS k12, hS.up.n, keepO k14 k15⟩
 · simp only [tt_f3_22]
   have hn8 : p'.AD.n ≤ 8 := by have := hP.t8; simpa [aP] using this
   have htn : f.threads.n = p'.AD.n := hF.wf.tn
   refine Ee (tt := tt_f3_23) (fun x : X_f3_23 => x.M7 = p'.AD.n ∧ (∃ i : Nat, x.Gs = i ∧ i ≤ p'.AD.n) ∧ x.Ep = sn ∧ x.H3 = ov ∧ x.Ic = f) (fun x => (p'.AD.n - x.Gs).toNat) (fun _ y => y = true) (fun D x hI hD => ?_)
    ⟨rfl, ⟨0, rfl, Nat.zero_le _⟩, rfl, rfl, rfl⟩
   obtain ⟨q70, q71, sn', ov', f'⟩ := x
   obtain ⟨a1, ⟨i, a2, hi⟩, a3, a4, a5⟩ := hI
   simp only at a1 a2 a3 a4 a5 hD
   subst a1 a2 a3 a4 a5
   simp only [tt_f3_23]
   refine AM ilI (fun h => ?_) fun _ => rfl
   have hin : i < p'.AD.n := by omega
   have hi8 : i < 8 := by omega
   have hif : (i : Int) < f'.threads.n := by omega
   have hth := GW (f := f') (t := i) (Int.natCast_nonneg i) hif
   rw [Int.toNat_natCast] at hth
   simp only [TB hi8, Int.toNat_natCast]
   refine wC (Jv hF (Int.natCast_nonneg i) hif) fun (y : Sl Int) hy => wN (A6 hi8) ?_
   rw [Int.toNat_natCast] at hy
   refine wC (QO y (sn' i) (hy.1.trans (by rw [hS.s i hi8, hth]; rfl)) (by unfold maxLen; have := hF.hk; omega)) fun (z : Bool) hz => ?_
   subst hz
   refine BX (fun q => by simp at q) fun _ => wC (Jw i f' (Int.natCast_nonneg i) hif) fun (w : Bool) hw => wN (A6 hi8) (BX (fun q => ?_) fun _ => of_wp ?_)
   · exfalso
     rw [Int.toNat_natCast] at hw
     have ho := hS.o i hi8
     rw [hth] at ho
     change ov' i = true ↔ (f'.threads.get i).Status ≠ 0 at ho
     have q : w = ov' i := by simpa using q
     rw [hw] at q
     by_cases z : (f'.threads.get i).Status = 0
     · have : ov' i = true := by rw [← q, ieI]; exact z
       exact ho.1 this z
     · have h1 := ho.2 z
       rw [← q, ieI] at h1
       exact z h1
   · simp only [tt_f3_27, Ct hin hp.tn]
     exact hD _ ⟨rfl, ⟨i + 1, rfl, hin⟩, rfl, rfl, rfl⟩ (by simp only; omega)
def ok_TRg (x : TRg) : Prop := (fun n => (Lit.int .i64 n).wf = true) x.Kind ∧ (fun n => (Lit.int .i64 n).wf = true) x.Dn ∧ (fun n => (Lit.int .i64 n).wf = true) x.AX ∧ True
def fl_TRg_0 : Field := (Es Tryz.prog 69).toList.getD 0 default
def fl_TRg_1 : Field := (Es Tryz.prog 69).toList.getD 1 default
def fl_TRg_2 : Field := (Es Tryz.prog 69).toList.getD 2 default
theorem op_TRg : DW Tryz.prog 69 e_TRg ok_TRg :=
 DW.map (EA (fs := Es Tryz.prog 69) (l := fl_TRg_0 :: fl_TRg_1 :: fl_TRg_2 :: []) (by kernel_rfl) (by kernel_rfl) (by kernel_rfl)
  (BE (u := 3) (s := 1) (by kernel_rfl) (by kernel_rfl) (by kernel_rfl) (Bf (k := .i64) (by kernel_rfl)) (BE (u := 3) (s := 1) (by kernel_rfl) (by kernel_rfl) (by kernel_rfl) (Bf (k := .i64) (by kernel_rfl)) (BE (u := 3) (s := 1) (by kernel_rfl) (by kernel_rfl) (by kernel_rfl) (Bf (k := .i64) (by kernel_rfl)) F8)))) (fun x => ⟨x.1, x.2.1, x.2.2.1⟩) (fun _ => rfl) (fun _ h => h)
def ok_TIn (x : TIn) : Prop := (fun n => (Lit.int .i64 n).wf = true) x.Op ∧ (fun n => (Lit.int .i64 n).wf = true) x.A ∧ (fun n => (Lit.int .i64 n).wf = true) x.B ∧ (fun n => (Lit.int .i64 n).wf = true) x.C ∧ (fun n => (Lit.int .i64 n).wf = true) x.D ∧ (fun n => (Lit.int .u64 n).wf = true) x.K ∧ True
def fl_TIn_0 : Field := (Es Tryz.prog 76).toList.getD 0 default
def fl_TIn_1 : Field := (Es Tryz.prog 76).toList.getD 1 default
def fl_TIn_2 : Field := (Es Tryz.prog 76).toList.getD 2 default
def fl_TIn_3 : Field := (Es Tryz.prog 76).toList.getD 3 default
def fl_TIn_4 : Field := (Es Tryz.prog 76).toList.getD 4 default
def fl_TIn_5 : Field := (Es Tryz.prog 76).toList.getD 5 default
theorem op_TIn : DW Tryz.prog 76 e_TIn ok_TIn :=
 DW.map (EA (fs := Es Tryz.prog 76) (l := fl_TIn_0 :: fl_TIn_1 :: fl_TIn_2 :: fl_TIn_3 :: fl_TIn_4 :: fl_TIn_5 :: []) (by kernel_rfl) (by kernel_rfl) (by kernel_rfl)
  (BE (u := 3) (s := 1) (by kernel_rfl) (by kernel_rfl) (by kernel_rfl) (Bf (k := .i64) (by kernel_rfl)) (BE (u := 3) (s := 1) (by kernel_rfl) (by kernel_rfl) (by kernel_rfl) (Bf (k := .i64) (by kernel_rfl)) (BE (u := 3) (s := 1) (by kernel_rfl) (by kernel_rfl) (by kernel_rfl) (Bf (k := .i64) (by kernel_rfl)) (BE (u := 3) (s := 1) (by kernel_rfl) (by kernel_rfl) (by kernel_rfl) (Bf (k := .i64) (by kernel_rfl)) (BE (u := 3) (s := 1) (by kernel_rfl) (by kernel_rfl) (by kernel_rfl) (Bf (k := .i64) (by kernel_rfl)) (BE (u := 36) (s := 1) (by kernel_rfl) (by kernel_rfl) (by kernel_rfl) (Bf (k := .u64) (by kernel_rfl)) F8))))))) (fun x => ⟨x.1, x.2.1, x.2.2.1, x.2.2.2.1, x.2.2.2.2.1, x.2.2.2.2.2.1⟩) (fun _ => rfl) (fun _ h => h)
def ok_TPg (x : TPg) : Prop := (On ok_TRg) x.AK ∧ (On (On ok_TIn)) x.AD ∧ True
def fl_TPg_0 : Field := (Es Tryz.prog 25).toList.getD 0 default
def fl_TPg_1 : Field := (Es Tryz.prog 25).toList.getD 1 default
theorem op_TPg : DW Tryz.prog 25 e_TPg ok_TPg :=
 DW.map (EA (fs := Es Tryz.prog 25) (l := fl_TPg_0 :: fl_TPg_1 :: []) (by kernel_rfl) (by kernel_rfl) (by kernel_rfl)
  (BE (u := 22) (s := 1) (by kernel_rfl) (by kernel_rfl) (by kernel_rfl) (Ed (e := 69) (s := 3) (d_TRg .undef) (by kernel_rfl) (by kernel_rfl) (by decide) (op_TRg)) (BE (u := 23) (s := 1) (by kernel_rfl) (by kernel_rfl) (by kernel_rfl) (Ed (e := 77) (s := 1) (dsl_TIn .undef) (by kernel_rfl) (by kernel_rfl) (by decide) (Ed (e := 76) (s := 6) (d_TIn .undef) (by kernel_rfl) (by kernel_rfl) (by decide) (op_TIn))) F8))) (fun x => ⟨x.1, x.2.1⟩) (fun _ => rfl) (fun _ h => h)
def ok_TEv (x : TEv) : Prop := (fun n => (Lit.int .i64 n).wf = true) x.Thread ∧ (fun n => (Lit.int .i64 n).wf = true) x.Kind ∧ (fun n => (Lit.int .i64 n).wf = true) x.Ring ∧ (fun n => (Lit.int .u64 n).wf = true) x.AJ ∧ (fun n => (Lit.int .u64 n).wf = true) x.Value ∧ True
def fl_TEv_0 : Field := (Es Tryz.prog 38).toList.getD 0 default
def fl_TEv_1 : Field := (Es Tryz.prog 38).toList.getD 1 default
def fl_TEv_2 : Field := (Es Tryz.prog 38).toList.getD 2 default
def fl_TEv_3 : Field := (Es Tryz.prog 38).toList.getD 3 default
def fl_TEv_4 : Field := (Es Tryz.prog 38).toList.getD 4 default
theorem op_TEv : DW Tryz.prog 38 e_TEv ok_TEv :=
 DW.map (EA (fs := Es Tryz.prog 38) (l := fl_TEv_0 :: fl_TEv_1 :: fl_TEv_2 :: fl_TEv_3 :: fl_TEv_4 :: []) (by kernel_rfl) (by kernel_rfl) (by kernel_rfl)
  (BE (u := 3) (s := 1) (by kernel_rfl) (by kernel_rfl) (by kernel_rfl) (Bf (k := .i64) (by kernel_rfl)) (BE (u := 3) (s := 1) (by kernel_rfl) (by kernel_rfl) (by kernel_rfl) (Bf (k := .i64) (by kernel_rfl)) (BE (u := 3) (s := 1) (by kernel_rfl) (by kernel_rfl) (by kernel_rfl) (Bf (k := .i64) (by kernel_rfl)) (BE (u := 36) (s := 1) (by kernel_rfl) (by kernel_rfl) (by kernel_rfl) (Bf (k := .u64) (by kernel_rfl)) (BE (u := 36) (s := 1) (by kernel_rfl) (by kernel_rfl) (by kernel_rfl) (Bf (k := .u64) (by kernel_rfl)) F8)))))) (fun x => ⟨x.1, x.2.1, x.2.2.1, x.2.2.2.1, x.2.2.2.2.1⟩) (fun _ => rfl) (fun _ h => h)
theorem J6 : OE Tryz.prog 25 e_TPg ok_TPg :=
 K5 (fs := Es Tryz.prog 25) (by kernel_rfl) op_TPg (fun _ => rfl) (fun _ => rfl)
theorem SN {p : TPg} (h : ok_TPg p) : Jq p := by
 obtain ⟨⟨rz, rn, rr⟩, ⟨_, tn, tt⟩, _⟩ := h
 refine ⟨rn, tn, fun t ht => (tt t ht).2.1, fun t ht k hk => ?_, rz, fun t ht => (tt t ht).1⟩
 obtain ⟨_, a, b, c, d, k, _⟩ := (tt t ht).2.2 k hk
 have a := wf_i64 a; have b := wf_i64 b; have c := wf_i64 c; have d := wf_i64 d
 exact ⟨wf_u64 k, by omega, by omega, by omega, by omega⟩
theorem K6 : OE Tryz.prog 26 esl_TEv (On ok_TEv) :=
 NO (MZ (e := 38) (by kernel_rfl)) (Ed (e := 38) (s := 5) (d_TEv .undef) (by kernel_rfl) (by kernel_rfl) (by decide) op_TEv) (fun _ => rfl) (fun _ => rfl)
theorem SP {e : TEv} (h : ok_TEv e) : SQ e := by
 obtain ⟨_, _, _, t, v, _⟩ := h
 exact ⟨wf_u64 t, wf_u64 v⟩
theorem SO {l : Sl TEv} (h : On ok_TEv l) : okL l := ⟨h.2.1, fun i hi => SP (h.2.2 i hi)⟩

open Go.ChangeShapes Go.WideShapes Go.ChangeAt Go.RowKit
theorem Tryz.own : ownKnob Tryz.prog.godebug = none := by kernel_rfl
theorem Tryz.laidOut : laidOutB Tryz.prog = true := by kernel_rfl
theorem Tryz.Sw : mapsRowed Tryz.prog = true := by kernel_rfl
theorem Tryz.full : ∀ t e, t < Tryz.prog.types.size → Tryz.prog.underlying t = some (.slice e) → 0 < Tryz.prog.cellsOf e := slices_full_of Tryz.prog (by kernel_rfl)
def LY : Value := .agg #[.slice none 0 0, .slice none 0 0]
open Go.ChangeShapes Go.WideShapes Go.ChangeAt Go.RowKit
theorem G8 (os : Os) (started : os.Started) (H : Type) (enc : TypeId × Value → H) :
 ReturnsInHanded {} Tryz.checked os 3 .any (Rows.fabricSeenSpec.pre6 enc Tryz.prog Tryz.f3 Rows.fabricSeenRow.domain false) (Rows.fabricSeenSpec.post enc Tryz.prog Tryz.f3 false true false false) := by
 refine lifted (tb := 4) (C := Tryz.checked) Tryz.own started (by kernel_rfl) Tryz.func3
  (ChangeSpec.witness6 (enc := enc) (C := Tryz.checked) false ⟨#[], #[LY, .slice none 0 0], []⟩ 8 (by kernel_rfl) (by kernel_rfl) (by kernel_rfl) (by kernel_rfl)) Tryz.laidOut Tryz.Sw Tryz.full
  (by kernel_rfl) rfl rfl (by kernel_rfl) ?_ ?_
 · intro ds hl
   match ds, hl with
   | [_, _], _ => rfl
 · intro W base args ds ps hval hA
   rw [Tryz.params3] at hA hval
   obtain ⟨v0, v1, d0, d1, p0, p1, rfl, rfl, rfl, h0, h1⟩ := trodAll_two hA
   obtain ⟨a, ha, ra⟩ := J6 H enc W base v0 d0 p0 (hval 0 25 v0 rfl rfl) h0
   obtain ⟨b, hb, rb⟩ := K6 H enc W base v1 d1 p1 (hval 1 26 v1 rfl rfl) h1
   obtain ⟨y, hy, rfl⟩ := JO a b (SN ha) (SO hb)
   refine NY (con_f3.ok (a, b) true hy) (fun j x v hx hv => ?_) rfl
   match j, hx, hv with
   | 0, hx, hv => change some (e_TPg a) = some x at hx; cases hx; simp at hv; subst hv; exact ra
   | 1, hx, hv => change some (esl_TEv b) = some x at hx; cases hx; simp at hv; subst hv; exact rb
theorem fabricSeen_holds : Rows.FabricSeenSaid :=
 OpenClaim.holds_of_wide 3 Tryz.f3 rfl rfl rfl rfl rfl rfl rfl ⟨rfl, rfl, rfl, rfl, rfl⟩ rfl rfl rfl rfl rfl (by kernel_rfl) Tryz.func3 (by kernel_rfl)
  (of_decide_eq_true (by kernel_rfl)) (by unfold Func.isWrapper; first | (rw [if_pos (by decide +kernel)]; kernel_rfl) | (rw [if_neg (by decide +kernel)]; exact ⟨rfl, rfl⟩))
  (fun os started H enc _ => G8 os started H enc)
end Go.Proofs.YtlhifcnjnmeknaaGreat
end
