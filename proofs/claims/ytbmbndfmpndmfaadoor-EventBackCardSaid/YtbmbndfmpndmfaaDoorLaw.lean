/- For all events: what is printed is read as it was; what was handed in reads as it did. No conditions beyond the card's own. -/
import Derived.Test.YtbmbndfmpndmfaaDoorGB
import Derived.Lib.ParseIntBCases
import Derived.Test.YtbmbndfmpndmfaaDoorRows
import Derived.Test.YtbmbndfmpndmfaaDoorCards
import Derived.Test.YtbmbndfmpndmfaaDoorTie
import Derived.Deep.DeepHandedRow
import Derived.Deep.DeepWitnessRowRef
import Derived.Stop.LaidErr
import Derived.Lib.LaidTab
import Derived.MakeChecks
import Derived.Shelf.Vars
import Derived.Lay
namespace Go.Proofs.YtbmbndfmpndmfaaDoor
open Go Go.Vm Go.Proofs
set_option maxRecDepth 100000
theorem all_wp {P : Program} {X R : Type} {tt : Dyn X R → X → TT P R} (st : Nat → X) (N : Nat) (p : Nat → Prop) (Q : R → Prop) (hend : ∀ D, (∀ j, j < N → p j) → (tt D (st N)).wp Q)
    (hstep : ∀ (D : Dyn X R) k, k < N → (∀ j, j < k → p j) → (p k → D.wp (st (k + 1)) Q) → (tt D (st k)).wp Q) : (Dyn.loop tt).wp (st 0) Q :=
  count_wp st N (fun k => ∀ j, j < k → p j) Q hend
    (fun D k hk hJ hD => hstep D k hk hJ fun h => hD fun j hj => by
      by_cases e : j = k
      · subst e; exact h
      · exact hJ j (by omega)) (Nat.zero_le _) fun j hj => by omega
theorem ff_iff {q : Prop} (h : ¬ q) : (false = true ↔ q) := ⟨fun e => absurd e (by decide), fun k => absurd k h⟩
theorem tt_iff {q : Prop} (h : q) : (true = true ↔ q) := ⟨fun _ => h, fun _ => rfl⟩
theorem dec_iff {b : Bool} {p q : Prop} (hb : b = true ↔ p) (h : p ↔ q) : (b = true ↔ q) := hb.trans h
theorem bool_of {a b : Bool} (h : a = true ↔ b = true) : a = b := Bool.eq_iff_iff.2 h
theorem L_push {α : Type} (w : Sl α) (b : Bool) (y : α) : (Sl.mk b (w.n + 1) fun i => cond (Nat.blt i w.n) (w.get i) y).L = w.L ++ [y] := by
  show (List.range (w.n + 1)).map (fun i => cond (Nat.blt i w.n) (w.get i) y) = _
  rw [List.range_succ, List.map_append]
  unfold Sl.L
  congr 1
  · refine List.map_congr_left fun i hi => ?_
    have : Nat.blt i w.n = true := by simpa using List.mem_range.1 hi
    rw [this]; rfl
  · have : Nat.blt w.n w.n = false := by
      cases h : Nat.blt w.n w.n
      · rfl
      · rw [Nat.blt_eq] at h; omega
    rw [List.map_singleton, this]
    rfl
theorem nd1 {R : Type} {t : TT Tryd.prog R} {Q : R → Prop} {p : Prop} [Decidable p] (h : p) (k : t.wp Q) : (TT.need (decide p) t).wp Q := ⟨decide_eq_true h, k⟩

/-! ### Kinds -/
theorem w_event_tickets (k : Int) : D_event_tickets.wp k fun y => y = kTicket k := by
  refine Dyn.wp.mono (Q := fun y : Bool => y = true ↔ (1 ≤ k ∧ k ≤ 4 ∨ k = 13)) (of_wp ?_) fun y hy => bool_of (hy.trans kTicket_iff.symm)
  simp only [tt_event_tickets, TT.wp, ile_iff, ieq_iff, true_iff]
  omega
theorem w_event_Rings (k : Int) : D_event_Rings.wp k fun y => y = kRing k := by
  refine Dyn.wp.mono (Q := fun y : Bool => y = true ↔ (1 ≤ k ∧ k ≤ 7 ∨ k = 13)) (of_wp ?_) fun y hy => bool_of (hy.trans kRing_iff.symm)
  simp only [tt_event_Rings]
  refine wp_call (w_event_tickets k) fun (y : Bool) hy => ?_
  subst hy
  simp only [TT.wp, ile_iff, kTicket_iff, true_iff, Bool.false_eq_true, false_iff]
  omega
theorem w_event_values (k : Int) : D_event_values.wp k fun y => y = kValue k := by
  refine Dyn.wp.mono (Q := fun y : Bool => y = true ↔ (8 ≤ k ∧ k ≤ 10 ∨ k = 12)) (of_wp ?_) fun y hy => bool_of (hy.trans (by simp only [kValue, decide_eq_true_eq]))
  simp only [tt_event_values, TT.wp, ile_iff, ieq_iff, true_iff]
  omega
theorem w_event_names : D_event_names.wp PUnit.unit fun y => y.n = 15 ∧ ∀ i, i < 15 → y.get i = mkB (nmN i) := by
  refine of_wp ?_
  simp only [tt_event_names]
  refine ⟨rfl, fun i hi => ?_⟩
  rcases (by omega : i = 0 ∨ i = 1 ∨ i = 2 ∨ i = 3 ∨ i = 4 ∨ i = 5 ∨ i = 6 ∨ i = 7 ∨ i = 8 ∨ i = 9 ∨ i = 10 ∨ i = 11 ∨ i = 12 ∨ i = 13 ∨ i = 14) with e | e | e | e | e | e | e | e | e | e | e | e | e | e | e <;> subst e <;> rfl
theorem w_event_Name (k : Int) : D_event_Name.wp k fun y => y = mkB (nmK k) := by
  refine of_wp ?_
  simp only [tt_event_Name]
  have no : ¬ (1 ≤ k ∧ k ≤ 15) → (ByteArray.mk #[] : ByteArray) = mkB (nmK k) := fun h => by rw [nmK_empty.2 h]; rfl
  refine wp_if ilt_iff (fun h => no (by omega)) fun h1 => wp_if ilt_iff (fun h => no (by omega)) fun h2 => of_wp ?_
  simp only [tt_event_Name_3]
  refine wp_call w_event_names fun (y : Sl ByteArray) hy => ?_
  have hw : IntKind.i64.wrap (k - 1) = k - 1 := wrap64 (by omega) (by omega)
  rw [hw]
  refine wp_need (by rw [inb_iff2, hy.1]; omega) ?_
  show y.get (k - 1).toNat = _
  rw [hy.2 _ (by omega), nmK, if_pos (by omega)]
theorem w_r15_Name (k : Int) : D_r15_Name.wp k fun y => y = mkB (nmK k) := by
  refine of_wp ?_
  simp only [tt_r15_Name]
  have no : ¬ (1 ≤ k ∧ k ≤ 15) → (ByteArray.mk #[] : ByteArray) = mkB (nmK k) := fun h => by rw [nmK_empty.2 h]; rfl
  refine wp_if ilt_iff (fun h => no (by omega)) fun h1 => wp_if ilt_iff (fun h => no (by omega)) fun h2 => of_wp ?_
  simp only [tt_r15_Name_4]
  have hw : IntKind.i64.wrap (k - 1) = k - 1 := wrap64 (by omega) (by omega)
  rw [hw]
  refine wp_need (by rw [inb_iff2]; show 0 ≤ k - 1 ∧ k - 1 < ((15 : Nat) : Int); omega) ?_
  rw [nmK, if_pos (by omega)]
  have hi : (k - 1).toNat < 15 := by omega
  generalize (k - 1).toNat = i at hi
  rcases (by omega : i = 0 ∨ i = 1 ∨ i = 2 ∨ i = 3 ∨ i = 4 ∨ i = 5 ∨ i = 6 ∨ i = 7 ∨ i = 8 ∨ i = 9 ∨ i = 10 ∨ i = 11 ∨ i = 12 ∨ i = 13 ∨ i = 14) with e | e | e | e | e | e | e | e | e | e | e | e | e | e | e <;> subst e <;> rfl
def bareE (e : TApi_Event) : TApi_Event := ⟨e.Thread, e.Kind, if kRing e.Kind = true then e.Ring else 0, if kTicket e.Kind = true then e.Ticket else 0, if kValue e.Kind = true then e.Value else 0⟩
theorem w_event_bare (e : TApi_Event) : D_event_bare.wp e fun y => y = bareE e := by
  refine of_wp ?_
  simp only [tt_event_bare]
  refine wp_call (w_event_Rings e.Kind) fun (y : Bool) hy => ?_
  subst hy
  have h5 : ∀ r t z, D_event_bare_5.wp (⟨⟨e.Thread, e.Kind, r, t, e.Value⟩, z⟩ : X_event_bare_5) fun y => y = ⟨e.Thread, e.Kind, r, t, if kValue e.Kind = true then e.Value else 0⟩ := fun r t z => by
    refine of_wp ?_
    simp only [tt_event_bare_5]
    refine wp_call (w_event_values e.Kind) fun (y : Bool) hy => ?_
    subst hy
    exact wp_if bnot_iff (fun h => by rw [if_neg h]; rfl) fun h => by rw [if_pos (Classical.byContradiction h)]; rfl
  have h3 : ∀ r z, D_event_bare_3.wp (⟨⟨e.Thread, e.Kind, r, e.Ticket, e.Value⟩, z⟩ : X_event_bare_3) fun y => y = ⟨e.Thread, e.Kind, r, if kTicket e.Kind = true then e.Ticket else 0, if kValue e.Kind = true then e.Value else 0⟩ := fun r z => by
    refine of_wp ?_
    simp only [tt_event_bare_3]
    refine wp_call (w_event_tickets e.Kind) fun (y : Bool) hy => ?_
    subst hy
    exact wp_if bnot_iff (fun h => by rw [if_neg h]; exact h5 _ _ _) fun h => by rw [if_pos (Classical.byContradiction h)]; exact h5 _ _ _
  unfold bareE
  exact wp_if bnot_iff (fun h => by rw [if_neg h]; exact h3 _ _) fun h => by rw [if_pos (Classical.byContradiction h)]; exact h3 _ _
theorem bare_iff {e : TApi_Event} : ((ieq e.Thread (bareE e).Thread) && ((ieq e.Kind (bareE e).Kind) && ((ieq e.Ring (bareE e).Ring) && ((ieq e.Ticket (bareE e).Ticket) && ((ieq e.Value (bareE e).Value) && true))))) = true ↔
    (kRing e.Kind = true ∨ e.Ring = 0) ∧ (kTicket e.Kind = true ∨ e.Ticket = 0) ∧ (kValue e.Kind = true ∨ e.Value = 0) := by
  simp only [bareE, Bool.and_eq_true, ieq_iff, true_and, and_true]
  cases kRing e.Kind <;> cases kTicket e.Kind <;> cases kValue e.Kind <;> simp
theorem seq_nm {k : Int} : seq (mkB (nmK k)) (ByteArray.mk #[]) = true ↔ ¬ (1 ≤ k ∧ k ≤ 15) := by
  rw [seq_iff, ← nmK_empty]
  exact ⟨fun h => mkB_inj (b := []) h, fun h => by rw [h]; rfl⟩
theorem w_event_Right (e : TApi_Event) : D_event_Right.wp e fun y => y = mRightE e := by
  refine Dyn.wp.mono (Q := fun y : Bool => y = true ↔ mRightE e = true) (of_wp ?_) fun y hy => bool_of hy
  simp only [tt_event_Right]
  refine wp_call (w_event_Name e.Kind) fun (y : ByteArray) hy => ?_
  subst hy
  refine wp_if (p := 1 ≤ e.Kind ∧ e.Kind ≤ 15) (by rw [bnot_iff, seq_nm]; exact Decidable.not_not) (fun h1 => ?_) fun h1 => ff_iff fun k => h1 (mRightE_iff.1 k).1
  refine wp_call (w_event_bare e) fun (y : TApi_Event) hy => ?_
  subst hy
  refine wp_if bare_iff (fun h2 => wp_if ile_iff (fun h3 => wp_if ilt_iff (fun h4 => wp_if ile_iff (fun h5 => wp_if ilt_iff (fun h6 => dec_iff ilt_iff ?_) fun h => ?_) fun h => ?_) fun h => ?_) fun h => ?_) fun h => ?_
  · rw [mRightE_iff]; exact ⟨fun h => ⟨h1, by omega, by omega, h, h2⟩, fun h => h.2.2.2.1⟩
  all_goals refine ff_iff fun k => ?_
  all_goals have k := mRightE_iff.1 k
  · omega
  · omega
  · omega
  · omega
  · exact h k.2.2.2.2
def namB (k : Int) : ByteArray := if kTicket k = true then ⟨#[82, 84]⟩ else if kRing k = true then ⟨#[82]⟩ else if kValue k = true then ⟨#[86]⟩ else ⟨#[]⟩
theorem ticket_ring {k : Int} (h : kTicket k = true) : kRing k = true := by rw [kTicket_iff] at h; rw [kRing_iff]; omega
theorem w_r15_Names (k : Int) : D_r15_Names.wp k fun y => y = namB k := by
  refine of_wp ?_
  simp only [tt_r15_Names]
  have rt : (1 ≤ k ∧ k ≤ 4 ∨ k = 13) → (TT.ret (ByteArray.mk #[82, 84]) : TT Tryd.prog R_r15_Names).wp fun y => y = namB k := fun h => by unfold namB; rw [if_pos (kTicket_iff.2 h)]; rfl
  have r : (5 ≤ k ∧ k ≤ 7) → (TT.ret (ByteArray.mk #[82]) : TT Tryd.prog R_r15_Names).wp fun y => y = namB k := fun h => by
    unfold namB; rw [if_neg (by rw [kTicket_iff]; omega), if_pos (kRing_iff.2 (by omega))]; rfl
  have v : (8 ≤ k ∧ k ≤ 10 ∨ k = 12) → (TT.ret (ByteArray.mk #[86]) : TT Tryd.prog R_r15_Names).wp fun y => y = namB k := fun h => by
    unfold namB; rw [if_neg (by rw [kTicket_iff]; omega), if_neg (by rw [kRing_iff]; omega), if_pos (kValue_iff.2 h)]; rfl
  refine wp_if ieq_iff (fun h => rt (by omega)) fun n1 => wp_if ieq_iff (fun h => rt (by omega)) fun n2 => wp_if ieq_iff (fun h => rt (by omega)) fun n3 => wp_if ieq_iff (fun h => rt (by omega)) fun n4 => wp_if ieq_iff (fun h => rt (by omega)) fun n13 =>
    wp_if ieq_iff (fun h => r (by omega)) fun n5 => wp_if ieq_iff (fun h => r (by omega)) fun n6 => wp_if ieq_iff (fun h => r (by omega)) fun n7 => wp_if ieq_iff (fun h => v (by omega)) fun n8 => wp_if ieq_iff (fun h => v (by omega)) fun n9 => wp_if ieq_iff (fun h => v (by omega)) fun n10 => wp_if ieq_iff (fun h => v (by omega)) fun n12 => ?_
  unfold namB
  rw [if_neg (by rw [kTicket_iff]; omega), if_neg (by rw [kRing_iff]; omega), if_neg (by rw [kValue_iff]; omega)]; rfl
theorem has_ev {s : ByteArray} {c : Int} {v : Bool} (h : D_r15_has.ev 50 (s, c) = some v) : D_r15_has.wp (s, c) fun y => y = v := ⟨v, D_r15_has.evOK 50 _ _ h, rfl⟩
theorem w_hasR (k : Int) : D_r15_has.wp (namB k, 82) fun y => y = kRing k := by
  unfold namB
  split
  · rename_i h; rw [ticket_ring h]; exact has_ev (by kernel_rfl)
  split
  · rename_i h; rw [h]; exact has_ev (by kernel_rfl)
  · rename_i h; rw [show kRing k = false by simpa using h]
    split
    · exact has_ev (by kernel_rfl)
    · exact has_ev (by kernel_rfl)
theorem w_hasT (k : Int) : D_r15_has.wp (namB k, 84) fun y => y = kTicket k := by
  unfold namB
  split
  · rename_i h; rw [h]; exact has_ev (by kernel_rfl)
  · rename_i h; rw [show kTicket k = false by simpa using h]
    split
    · exact has_ev (by kernel_rfl)
    · split
      · exact has_ev (by kernel_rfl)
      · exact has_ev (by kernel_rfl)
theorem w_hasV (k : Int) : D_r15_has.wp (namB k, 86) fun y => y = kValue k := by
  unfold namB
  split
  · rename_i h
    rw [show kValue k = false from Bool.eq_false_iff.2 fun q => by rw [kValue_iff] at q; rw [kTicket_iff] at h; omega]
    exact has_ev (by kernel_rfl)
  · split
    · rename_i h
      rw [show kValue k = false from Bool.eq_false_iff.2 fun q => by rw [kValue_iff] at q; rw [kRing_iff] at h; omega]
      exact has_ev (by kernel_rfl)
    · split
      · rename_i h; rw [h]; exact has_ev (by kernel_rfl)
      · rename_i h; rw [show kValue k = false by simpa using h]; exact has_ev (by kernel_rfl)
theorem w_r15_Right (e : TApi_Event) : D_r15_Right.wp e fun y => y = mRightE e := by
  refine Dyn.wp.mono (Q := fun y : Bool => y = true ↔ mRightE e = true) (of_wp ?_) fun y hy => bool_of hy
  simp only [tt_r15_Right]
  refine wp_call (w_r15_Names e.Kind) fun (f : ByteArray) hf => wp_call (w_r15_Name e.Kind) fun (y : ByteArray) hy => ?_
  subst hf
  subst hy
  refine wp_if (p := ¬ (1 ≤ e.Kind ∧ e.Kind ≤ 15)) seq_nm (fun h1 => ff_iff fun k => h1 (mRightE_iff.1 k).1) fun h1 => wp_if ilt_iff (fun h => ff_iff fun k => ?_) fun h2 => wp_if ilt_iff (fun h => ff_iff fun k => ?_) fun h3 =>
    wp_if ilt_iff (fun h => ff_iff fun k => ?_) fun h4 => wp_if ilt_iff (fun h => ff_iff fun k => ?_) fun h5 => wp_if ile_iff (fun h => ff_iff fun k => ?_) fun h6 => of_wp ?_
  · have := (mRightE_iff.1 k).2.1; omega
  · have := (mRightE_iff.1 k).2.1; omega
  · have := (mRightE_iff.1 k).2.2.1; omega
  · have := (mRightE_iff.1 k).2.2.1; omega
  · have := (mRightE_iff.1 k).2.2.2.1; omega
  · simp only [tt_r15_Right_4]
    have iff : mRightE e = true ↔ (kRing e.Kind = true ∨ e.Ring = 0) ∧ (kTicket e.Kind = true ∨ e.Ticket = 0) ∧ (kValue e.Kind = true ∨ e.Value = 0) := by
      rw [mRightE_iff]
      exact ⟨fun h => h.2.2.2.2, fun h => ⟨Classical.byContradiction h1, by omega, by omega, by omega, h⟩⟩
    rw [iff]
    have hV : (kRing e.Kind = true ∨ e.Ring = 0) → (kTicket e.Kind = true ∨ e.Ticket = 0) → (TT.call con_r15_has (namB e.Kind, 86) fun (y3 : R_r15_has) => TT.ite y3 (.ret true) (.ret (ieq e.Value 0)) : TT Tryd.prog R_r15_Right).wp
        fun y => y = true ↔ (kRing e.Kind = true ∨ e.Ring = 0) ∧ (kTicket e.Kind = true ∨ e.Ticket = 0) ∧ (kValue e.Kind = true ∨ e.Value = 0) := fun a b => by
      refine wp_call (w_hasV e.Kind) fun (y : Bool) hy => ?_
      subst hy
      exact wp_ite (fun h => tt_iff ⟨a, b, .inl h⟩) fun h => dec_iff ieq_iff ⟨fun q => ⟨a, b, .inr q⟩, fun q => q.2.2.resolve_left h⟩
    have hT : (kRing e.Kind = true ∨ e.Ring = 0) → (TT.call con_r15_has (namB e.Kind, 84) fun (y2 : R_r15_has) => TT.ite y2 (TT.call con_r15_has (namB e.Kind, 86) fun (y3 : R_r15_has) => TT.ite y3 (.ret true) (.ret (ieq e.Value 0)))
        (TT.ite (ieq e.Ticket 0) (TT.call con_r15_has (namB e.Kind, 86) fun (y3 : R_r15_has) => TT.ite y3 (.ret true) (.ret (ieq e.Value 0))) (.ret false)) : TT Tryd.prog R_r15_Right).wp
        fun y => y = true ↔ (kRing e.Kind = true ∨ e.Ring = 0) ∧ (kTicket e.Kind = true ∨ e.Ticket = 0) ∧ (kValue e.Kind = true ∨ e.Value = 0) := fun a => by
      refine wp_call (w_hasT e.Kind) fun (y : Bool) hy => ?_
      subst hy
      exact wp_ite (fun h => hV a (.inl h)) fun h => wp_if ieq_iff (fun q => hV a (.inr q)) fun q => ff_iff fun z => z.2.1.elim h q
    refine wp_call (w_hasR e.Kind) fun (y : Bool) hy => ?_
    subst hy
    exact wp_ite (fun h => hT (.inl h)) fun h => wp_if ieq_iff (fun q => hT (.inr q)) fun q => ff_iff fun z => z.1.elim h q

/-! ### Numbers -/
theorem w_Itoa {n : Int} (h0 : 0 ≤ n) (h1 : n ≤ 9223372036854775807) : ∃ y, con_strconv_Itoa.rel n y ∧ y = mkB (Lib.decDigits n.toNat) := by
  refine ⟨digB n.toNat, ?_, digB_eq _ (by omega)⟩
  show itoaS n = some _
  unfold itoaS
  rw [show (ile 0 n && ile n 9223372036854775807) = true by simp only [Bool.and_eq_true, ile_iff]; exact ⟨h0, h1⟩]
  rfl
theorem w_FU {n : Int} (h0 : 0 ≤ n) (h1 : n < 18446744073709551616) : ∃ y, con_strconv_FormatUint.rel (n, 10) y ∧ y = mkB (Lib.decDigits n.toNat) := by
  refine ⟨digB n.toNat, ?_, digB_eq _ (by omega)⟩
  show fuS (n, 10) = some _
  unfold fuS
  rw [show (ile 0 (n, (10 : Int)).1 && (ile (n, (10 : Int)).1 18446744073709551615 && ieq (n, (10 : Int)).2 10)) = true by simp only [Bool.and_eq_true, ile_iff, ieq_iff]; exact ⟨h0, by omega, trivial⟩]
  rfl
theorem dig_byte {d : Int} (h0 : 0 ≤ d) (h1 : d < 10) : bytesOf 1 (fun _ => IntKind.u8.wrap (IntKind.u64.wrap (48 + d))) = mkB [UInt8.ofNat (48 + d.toNat)] := by
  rw [wrapu64 (by omega) (by omega), wrapu8]
  obtain ⟨m, rfl⟩ := Int.eq_ofNat_of_zero_le h0
  rw [show ((48 : Int) + (m : Int)) % 256 = ((48 + m : Nat) : Int) by omega]
  rfl
theorem w_r10_Number {n : Int} (h0 : 0 ≤ n) (h1 : n < 18446744073709551616) : D_r10_Number.wp n fun y => y = mkB (Lib.decDigits n.toNat) := by
  refine of_wp ?_
  simp only [tt_r10_Number]
  have len : ∀ {a b : List UInt8}, a.length + b.length ≤ 40 → (mkB a).size + (mkB b).size ≤ (9223372036854775807 : Nat) := fun {a b} h => by rw [mkB_size, mkB_size]; omega
  refine loop_wp (x := (⟨n, ⟨#[]⟩⟩ : X_r10_Number_2)) (fun x => 0 ≤ x.n_0 ∧ x.n_0 ≤ n ∧ ∃ o : List UInt8, x.out_3 = mkB o ∧ Lib.decDigits n.toNat = Lib.decDigits x.n_0.toNat ++ o) (fun x => x.n_0.toNat) (fun _ y => y = mkB (Lib.decDigits n.toNat)) (fun D x hx hD => ?_) ⟨h0, Int.le_refl _, [], rfl, by simp⟩
  obtain ⟨a, out⟩ := x
  obtain ⟨ha0, ha1, o, ho, he⟩ := hx
  simp only at ha0 ha1 ho he
  subst ho
  have hl := digN_len n.toNat (by omega)
  rw [he, List.length_append] at hl
  simp only [tt_r10_Number_2]
  refine wp_if ilt_iff (fun h => ?_) fun h => ?_
  · have hm : Int.tmod a 10 = a % 10 := Int.tmod_eq_emod_of_nonneg ha0
    have hq : Int.tdiv a 10 = a / 10 := Int.tdiv_eq_ediv_of_nonneg ha0
    have hw : IntKind.u64.wrap (a / 10) = a / 10 := wrapu64 (by omega) (by omega)
    rw [hm, hq, hw, dig_byte (by omega) (by omega), mkB_app]
    have hr : ¬ a.toNat < 10 := by omega
    refine wp_side.2 ?_
    refine nd1 (len ?_) ?_
    · rw [List.length_singleton]; omega
    refine hD ⟨a / 10, mkB ([UInt8.ofNat (48 + (a % 10).toNat)] ++ o)⟩ ⟨by show 0 ≤ a / 10; omega, by show a / 10 ≤ n; omega, _, rfl, ?_⟩ (by show (a / 10).toNat < a.toNat; omega)
    show Lib.decDigits n.toNat = Lib.decDigits (a / 10).toNat ++ _
    rw [he, dig_rec hr, show (a / 10).toNat = a.toNat / 10 by omega, show (a % 10).toNat = a.toNat % 10 by omega, List.append_assoc]
  · refine of_wp ?_
    simp only [tt_r10_Number_5]
    rw [dig_byte (by omega) (by omega), mkB_app]
    refine wp_side.2 ?_
    refine nd1 (len ?_) ?_
    · rw [List.length_singleton]; omega
    rw [he, dig_one (by omega)]
    rfl
/-! ### Lines -/
theorem map_mkB (W : List (List UInt8)) : (W.map mkB).map (·.data.toList) = W := by
  rw [List.map_map]
  conv => rhs; rw [← List.map_id W]
  exact List.map_congr_left fun x _ => mkB_data x
theorem w_Join {l : Sl ByteArray} {W : List (List UInt8)} (hL : l.L = W.map mkB) (hn : l.n ≤ 10) (hb : (Lib.join W [32]).length ≤ 1000) : ∃ y, con_strings_Join.rel (l, ByteArray.mk #[32]) y ∧ y = mkB (Lib.join W [32]) := by
  have e : l.L.map (·.data.toList) = W := by rw [hL, map_mkB]
  refine ⟨joinB l.L (ByteArray.mk #[32]), ⟨?_, rfl⟩, ?_⟩
  · show joinOk (l, ByteArray.mk #[32]) = true
    unfold joinOk
    simp only [e, Bool.and_eq_true, Nat.ble_eq]
    exact ⟨by omega, Nat.le_trans hb (by decide)⟩
  · unfold joinB; rw [e]; rfl
theorem room_ok {n b : Nat} (h : n * b ≤ 140737488351232) : (true && room n b) = true := by simp [room]; omega
theorem w_event_line {e : TApi_Event} (hr : mRightE e = true) (w : WfE e) : D_event_line.wp e fun y => y = lnB e := by
  have hk := mRightE_iff.1 hr
  have hlen := lnL_len hr w
  have h6 : ∀ (l : Sl ByteArray) (W : List (List UInt8)), l.n ≤ 4 → l.L = W.map mkB → W ++ (if kValue e.Kind = true then [Lib.decDigits e.Value.toNat] else []) = wdsE e → D_event_line_6.wp ⟨e, l⟩ fun y => y = lnB e := by
    intro l W hn hL hW
    refine of_wp ?_
    simp only [tt_event_line_6]
    refine wp_call (w_event_values e.Kind) fun (y : Bool) hy => ?_
    subst hy
    refine wp_ite (fun h => ?_) fun h => ?_
    · rw [if_pos h] at hW
      refine wp_call (w_FU w.2.2.2.2.1 w.2.2.2.2.2) fun (y : ByteArray) hy => ?_
      subst hy
      refine wp_need (room_ok (by omega)) ?_
      refine wp_call (w_Join (W := wdsE e) (by rw [L_push, hL, ← hW, List.map_append]; rfl) (by show l.n + 1 ≤ 10; omega) (by unfold lnL at hlen; omega)) fun (y : ByteArray) hy => hy
    · rw [if_neg h, List.append_nil] at hW
      exact wp_call (w_Join (W := wdsE e) (by rw [hL, hW]) (by show l.n ≤ 10; omega) (by unfold lnL at hlen; omega)) fun (y : ByteArray) hy => hy
  have h4 : ∀ (l : Sl ByteArray) (W : List (List UInt8)), l.n ≤ 3 → l.L = W.map mkB → W ++ ((if kTicket e.Kind = true then [Lib.decDigits e.Ticket.toNat] else []) ++ if kValue e.Kind = true then [Lib.decDigits e.Value.toNat] else []) = wdsE e →
      D_event_line_4.wp ⟨e, l⟩ fun y => y = lnB e := by
    intro l W hn hL hW
    refine of_wp ?_
    simp only [tt_event_line_4]
    refine wp_call (w_event_tickets e.Kind) fun (y : Bool) hy => ?_
    subst hy
    refine wp_ite (fun h => ?_) fun h => ?_
    · rw [if_pos h, ← List.append_assoc] at hW
      refine wp_call (w_FU w.2.2.2.1.1 w.2.2.2.1.2) fun (y : ByteArray) hy => ?_
      subst hy
      refine wp_need (room_ok (by omega)) (h6 _ _ (by show l.n + 1 ≤ 4; omega) ?_ hW)
      rw [L_push, hL, List.map_append]; rfl
    · rw [if_neg h, List.nil_append] at hW
      exact h6 _ _ (by omega) hL hW
  refine of_wp ?_
  simp only [tt_event_line]
  refine wp_call (w_Itoa (n := e.Thread) (by omega) (by omega)) fun (y : ByteArray) hy => ?_
  subst hy
  refine wp_call (w_event_Name e.Kind) fun (y : ByteArray) hy => ?_
  subst hy
  refine wp_call (w_event_Rings e.Kind) fun (y : Bool) hy => ?_
  subst hy
  refine wp_ite (fun h => ?_) fun h => ?_
  · refine wp_call (w_Itoa (n := e.Ring) (by omega) (by omega)) fun (y : ByteArray) hy => ?_
    subst hy
    exact h4 _ [Lib.decDigits e.Thread.toNat, nmK e.Kind, Lib.decDigits e.Ring.toNat] (by show 3 ≤ 3; omega) rfl (by unfold wdsE; rw [if_pos h]; rfl)
  · exact h4 _ [Lib.decDigits e.Thread.toNat, nmK e.Kind] (by show 2 ≤ 3; omega) rfl (by unfold wdsE; rw [if_neg h]; rfl)
theorem w_event_Line {e : TApi_Event} (w : WfE e) : D_event_Line.wp e fun y => (mRightE e = true → y = (lnB e, 0)) ∧ (mRightE e = false → y = (ByteArray.mk #[], 3)) := by
  refine of_wp ?_
  simp only [tt_event_Line]
  refine wp_call (w_event_Right e) fun (y : Bool) hy => ?_
  subst hy
  refine wp_if bnot_iff (fun h => ⟨fun k => absurd k h, fun _ => rfl⟩) fun h => ?_
  have h := Classical.byContradiction h
  refine wp_call (w_event_line h w) fun (y : ByteArray) hy => ?_
  subst hy
  exact ⟨fun _ => rfl, fun k => by rw [h] at k; cases k⟩

theorem lnL_cat (e : TApi_Event) : lnL e = Lib.decDigits e.Thread.toNat ++ 32 :: (nmK e.Kind ++ ((if kRing e.Kind = true then 32 :: Lib.decDigits e.Ring.toNat else []) ++
    ((if kTicket e.Kind = true then 32 :: Lib.decDigits e.Ticket.toNat else []) ++ if kValue e.Kind = true then 32 :: Lib.decDigits e.Value.toNat else []))) := by
  unfold lnL wdsE
  cases kRing e.Kind <;> cases kTicket e.Kind <;> cases kValue e.Kind <;> simp only [Bool.false_eq_true, if_false, if_true, List.nil_append, List.cons_append, join_two, Lib.join_one, List.append_nil]
theorem sz_ok {a b : List UInt8} (h : a.length + b.length ≤ 200) : (mkB a).size + (mkB b).size ≤ (9223372036854775807 : Nat) := by rw [mkB_size, mkB_size]; omega
theorem w_r15_Line {e : TApi_Event} (hr : mRightE e = true) (w : WfE e) : D_r15_Line.wp e fun y => y = lnB e := by
  have hk := mRightE_iff.1 hr
  have hlen := lnL_len hr w
  have hc := lnL_cat e
  have d1 := digN_len e.Thread.toNat (by omega)
  have d2 := digN_len e.Ring.toNat (by omega)
  have d3 := digN_len e.Ticket.toNat (by have := w.2.2.2.1; omega)
  have d4 := digN_len e.Value.toNat (by have := w.2.2.2.2; omega)
  have sp : (ByteArray.mk #[32]) = mkB [32] := rfl
  have h7 : ∀ S : List UInt8, S ++ (if kValue e.Kind = true then 32 :: Lib.decDigits e.Value.toNat else []) = lnL e → D_r15_Line_7.wp ⟨e, mkB S, namB e.Kind⟩ fun y => y = lnB e := by
    intro S hS
    have hl : S.length ≤ 100 := by rw [← hS, List.length_append] at hlen; omega
    refine of_wp ?_
    simp only [tt_r15_Line_7]
    refine wp_call (w_hasV e.Kind) fun (y : Bool) hy => ?_
    subst hy
    refine wp_ite (fun h => ?_) fun h => ?_
    · rw [if_pos h] at hS
      refine wp_call (w_r10_Number w.2.2.2.2.1 w.2.2.2.2.2) fun (y : ByteArray) hy => ?_
      subst hy
      rw [sp, mkB_app, mkB_app]
      refine nd1 (sz_ok (by simp; omega)) (nd1 (sz_ok (by simp; omega)) ?_)
      show mkB (S ++ ([32] ++ Lib.decDigits e.Value.toNat)) = lnB e
      rw [List.singleton_append, hS]; rfl
    · rw [if_neg h, List.append_nil] at hS
      show mkB S = lnB e
      rw [hS]; rfl
  have h5 : ∀ S : List UInt8, S ++ ((if kTicket e.Kind = true then 32 :: Lib.decDigits e.Ticket.toNat else []) ++ if kValue e.Kind = true then 32 :: Lib.decDigits e.Value.toNat else []) = lnL e → D_r15_Line_5.wp ⟨e, mkB S, namB e.Kind⟩ fun y => y = lnB e := by
    intro S hS
    have hl : S.length ≤ 100 := by rw [← hS, List.length_append] at hlen; omega
    refine of_wp ?_
    simp only [tt_r15_Line_5]
    refine wp_call (w_hasT e.Kind) fun (y : Bool) hy => ?_
    subst hy
    refine wp_ite (fun h => ?_) fun h => ?_
    · rw [if_pos h, ← List.append_assoc] at hS
      refine wp_call (w_r10_Number w.2.2.2.1.1 w.2.2.2.1.2) fun (y : ByteArray) hy => ?_
      subst hy
      rw [sp, mkB_app, mkB_app]
      exact nd1 (sz_ok (by simp; omega)) (nd1 (sz_ok (by simp; omega)) (h7 _ hS))
    · rw [if_neg h, List.nil_append] at hS
      exact h7 _ hS
  have u1 : IntKind.u64.wrap e.Thread = e.Thread := wrapu64 (by omega) (by omega)
  have u2 : IntKind.u64.wrap e.Ring = e.Ring := wrapu64 (by omega) (by omega)
  have nl : (nmK e.Kind).length ≤ 7 := by
    rw [nmK, if_pos hk.1]
    exact (nmN_facts _ (by omega)).2.2.2.1
  refine of_wp ?_
  simp only [tt_r15_Line]
  rw [u1, u2]
  refine wp_call (w_r10_Number (by omega) (by omega)) fun (y : ByteArray) hy => ?_
  subst hy
  rw [sp, mkB_app]
  refine nd1 (sz_ok (by simp; omega)) (wp_call (w_r15_Name e.Kind) fun (y : ByteArray) hy => ?_)
  subst hy
  rw [mkB_app]
  refine nd1 (sz_ok (by simp; omega)) (wp_call (w_r15_Names e.Kind) fun (y : ByteArray) hy => ?_)
  subst hy
  refine wp_call (w_hasR e.Kind) fun (y : Bool) hy => ?_
  subst hy
  refine wp_ite (fun h => ?_) fun h => ?_
  · rw [if_pos h] at hc
    refine wp_call (w_r10_Number (by omega) (by omega)) fun (y : ByteArray) hy => ?_
    subst hy
    rw [mkB_app, mkB_app]
    refine nd1 (sz_ok (by simp; omega)) (nd1 (sz_ok (by simp; omega)) (h5 _ ?_))
    rw [hc]; simp
  · rw [if_neg h] at hc
    refine h5 _ ?_
    rw [hc]; simp

/-! ### Names -/
theorem w_slices_Index (s : Sl ByteArray) (v : ByteArray) (hn : s.n ≤ 1000) : D_slices_Index_string.wp (s, v) fun y => (y = -1 ∧ ∀ j, j < s.n → v ≠ s.get j) ∨ ∃ k : Nat, k < s.n ∧ y = (k : Int) ∧ v = s.get k := by
  refine of_wp ?_
  simp only [tt_slices_Index_string]
  refine all_wp (fun k => (⟨s, v, s.n, (k : Nat)⟩ : X_slices_Index_string_2)) s.n (fun k => v ≠ s.get k) _ (fun D hJ => ?_) (fun D k hk _ hD => ?_)
  · simp only [tt_slices_Index_string_2, ilt_nat, Nat.lt_irrefl, decide_false, wp_false]
    exact .inl ⟨rfl, hJ⟩
  · simp only [tt_slices_Index_string_2, ilt_nat, hk, decide_true, wp_true, inb_nat hk, wp_need_true, Int.toNat_natCast, next64 hk (show s.n ≤ maxLen by simp only [maxLen]; omega)]
    exact wp_if seq_iff (fun h => .inr ⟨k, hk, rfl, h⟩) fun h => hD h
theorem w_event_Find (v : ByteArray) : D_event_Find.wp v fun y => (y = (0, false) ∧ ∀ k, 1 ≤ k ∧ k ≤ 15 → v ≠ mkB (nmK k)) ∨ ∃ k, (1 ≤ k ∧ k ≤ 15) ∧ y = (k, true) ∧ v = mkB (nmK k) := by
  refine of_wp ?_
  simp only [tt_event_Find]
  refine wp_call w_event_names fun (y : Sl ByteArray) hy => wp_call (w_slices_Index y v (by omega)) fun (z : Int) hz => ?_
  rcases hz with ⟨rfl, h⟩ | ⟨k, hk, rfl, h⟩
  · refine wp_if ilt_iff (fun _ => .inl ⟨rfl, fun k hk e => h (k - 1).toNat (by omega) ?_⟩) fun q => absurd (by decide) q
    rw [hy.2 _ (by omega), e, nmK, if_pos hk]
  · refine wp_if ilt_iff (fun q => by omega) fun _ => .inr ⟨(k : Int) + 1, by omega, ?_, ?_⟩
    · show (IntKind.i64.wrap ((k : Int) + 1), true) = _
      rw [wrap64 (by omega) (by omega)]
    · rw [h, hy.2 _ (by omega), nmK, if_pos (by omega), show ((k : Int) + 1 - 1).toNat = k by omega]
/-! ### Checking -/
def mChkN (f : Nat → TApi_Event) : Nat → Nat → Int × Int
  | 0, _ => (0, 0)
  | d + 1, k => if mRightE (f k) = true then mChkN f d (k + 1) else ((k : Int), 3)
def mChk (l : Sl TApi_Event) : Int × Int := if 65536 < l.n then (0, 4) else mChkN l.get l.n 0
theorem mChkN_step {f : Nat → TApi_Event} {n k : Nat} (h : k < n) : mChkN f (n - k) k = if mRightE (f k) = true then mChkN f (n - (k + 1)) (k + 1) else ((k : Int), 3) := by
  rw [show n - k = (n - (k + 1)) + 1 by omega]; rfl
theorem mChkN_cases (f : Nat → TApi_Event) : ∀ d k, ((∀ j, k ≤ j → j < k + d → mRightE (f j) = true) ∧ mChkN f d k = (0, 0)) ∨ (mChkN f d k).2 = 3
  | 0, k => .inl ⟨fun j _ _ => by omega, rfl⟩
  | d + 1, k => by
    rw [mChkN]
    by_cases h : mRightE (f k) = true
    · rw [if_pos h]
      rcases mChkN_cases f d (k + 1) with ⟨h1, h2⟩ | h1
      · refine .inl ⟨fun j h3 h4 => ?_, h2⟩
        by_cases e : j = k
        · rw [e]; exact h
        · exact h1 j (by omega) (by omega)
      · exact .inr h1
    · rw [if_neg h]; exact .inr rfl
theorem mChk_ok {l : Sl TApi_Event} (h : (mChk l).2 = 0) : (∀ i, i < l.n → mRightE (l.get i) = true) ∧ l.n ≤ 65536 ∧ mChk l = (0, 0) := by
  unfold mChk at h ⊢
  by_cases q : 65536 < l.n
  · rw [if_pos q] at h; cases h
  · rw [if_neg q] at h ⊢
    rcases mChkN_cases l.get l.n 0 with ⟨h1, h2⟩ | h1
    · exact ⟨fun i hi => h1 i (Nat.zero_le _) (by omega), by omega, h2⟩
    · rw [h1] at h; cases h
theorem mChkN_all {f : Nat → TApi_Event} : ∀ d k, (∀ j, k ≤ j → j < k + d → mRightE (f j) = true) → mChkN f d k = (0, 0)
  | 0, _, _ => rfl
  | d + 1, k, h => by
    rw [mChkN, if_pos (h k (Nat.le_refl _) (by omega))]
    exact mChkN_all d (k + 1) fun j h1 h2 => h j (by omega) (by omega)
theorem mChk_all {l : Sl TApi_Event} (h : ∀ i, i < l.n → mRightE (l.get i) = true) (hn : l.n ≤ 65536) : mChk l = (0, 0) := by
  unfold mChk
  rw [if_neg (by omega)]
  exact mChkN_all _ _ fun j _ hj => h j (by omega)
theorem w_event_Check (l : Sl TApi_Event) : D_event_Check.wp l fun y => y = mChk l := by
  refine of_wp ?_
  simp only [tt_event_Check]
  refine wp_if ilt_iff (fun h => ?_) fun h => ?_
  · show (0, 4) = mChk l
    unfold mChk; rw [if_pos (by omega)]
  · have e : mChk l = mChkN l.get l.n 0 := by unfold mChk; rw [if_neg (by omega)]
    rw [e]
    refine count_wp (fun k => (⟨l, l.n, (k : Nat)⟩ : X_event_Check_4)) l.n (fun k => mChkN l.get (l.n - k) k = mChkN l.get l.n 0) _ (fun D hJ => ?_) (fun D k hk hJ hD => ?_) (Nat.zero_le _) (by rfl)
    · simp only [tt_event_Check_4, ilt_nat, Nat.lt_irrefl, decide_false, wp_false]
      rw [Nat.sub_self] at hJ
      exact hJ
    · rw [mChkN_step hk] at hJ
      simp only [tt_event_Check_4, ilt_nat, hk, decide_true, wp_true, inb_nat hk, wp_need_true, Int.toNat_natCast, next64 hk (show l.n ≤ maxLen by simp only [maxLen]; omega)]
      refine wp_call (w_event_Right _) fun (y : Bool) hy => ?_
      subst hy
      refine wp_if bnot_iff (fun h => ?_) fun h => ?_
      · rw [if_neg h] at hJ; exact hJ
      · rw [if_pos (Classical.byContradiction h)] at hJ; exact hD hJ
theorem w_r15_Check (l : Sl TApi_Event) : D_r15_Check.wp l fun y => y = mChk l := by
  refine of_wp ?_
  simp only [tt_r15_Check]
  refine wp_if ilt_iff (fun h => ?_) fun h => ?_
  · show (0, 4) = mChk l
    unfold mChk; rw [if_pos (by omega)]
  · have e : mChk l = mChkN l.get l.n 0 := by unfold mChk; rw [if_neg (by omega)]
    rw [e]
    refine count_wp (fun k => (⟨l, (k : Nat)⟩ : X_r15_Check_4)) l.n (fun k => mChkN l.get (l.n - k) k = mChkN l.get l.n 0) _ (fun D hJ => ?_) (fun D k hk hJ hD => ?_) (Nat.zero_le _) (by rfl)
    · simp only [tt_r15_Check_4, ilt_nat, Nat.lt_irrefl, decide_false, wp_false]
      rw [Nat.sub_self] at hJ
      exact hJ
    · rw [mChkN_step hk] at hJ
      simp only [tt_r15_Check_4, ilt_nat, hk, decide_true, wp_true, inb_nat hk, wp_need_true, Int.toNat_natCast, next64 hk (show l.n ≤ maxLen by simp only [maxLen]; omega)]
      refine wp_call (w_r15_Right _) fun (y : Bool) hy => ?_
      subst hy
      refine wp_if bnot_iff (fun h => ?_) fun h => ?_
      · rw [if_neg h] at hJ; exact hJ
      · rw [if_pos (Classical.byContradiction h)] at hJ; exact hD hJ

/-! ### Printing -/
theorem txL_app (a b : List TApi_Event) : txL (a ++ b) = txL a ++ txL b := by simp [txL]
theorem catL_lines (l : List TApi_Event) : catL (l.map lnB) = mkB (txL l) := by
  induction l with
  | nil => rfl
  | cons e l ih =>
    rw [List.map_cons, catL, ih, txL_cons]
    show mkB (lnL e) ++ mkB [10] ++ mkB (txL l) = _
    rw [mkB_app, mkB_app]
    simp
theorem txL_len (l : List TApi_Event) (h : ∀ e ∈ l, mRightE e = true ∧ WfE e) : (txL l).length ≤ 101 * l.length := by
  induction l with
  | nil => simp [txL]
  | cons e l ih =>
    rw [txL_cons, List.length_append, List.length_cons, List.length_cons]
    have h1 := ih fun x hx => h x (by simp [hx])
    have h2 := lnL_len (h e (by simp)).1 (h e (by simp)).2
    omega
theorem mem_right {l : Sl TApi_Event} (h : ∀ i, i < l.n → mRightE (l.get i) = true) (w : ∀ i, i < l.n → WfE (l.get i)) : ∀ e ∈ l.L, mRightE e = true ∧ WfE e := fun e he => by
  obtain ⟨i, hi, rfl⟩ := Sl.mem_L.1 he
  exact ⟨h i hi, w i hi⟩
theorem w_event_Print {l : Sl TApi_Event} (w : ∀ i, i < l.n → WfE (l.get i)) : ∃ y, con_event_Print.rel l y ∧ ((mChk l).2 = 0 → y = (mkB (txL l.L), 0)) ∧ ((mChk l).2 ≠ 0 → y = (ByteArray.empty, (mChk l).2)) := by
  obtain ⟨c, hc, rfl⟩ := w_event_Check l
  by_cases h : (mChk l).2 = 0
  · obtain ⟨h1, h2, _⟩ := mChk_ok h
    refine ⟨(catL (l.L.map lnB), 0), ⟨_, hc, .inr ⟨h, l.L.map lnB, ⟨by simp, fun i hi => ?_, ?_⟩, rfl⟩⟩, fun _ => by rw [catL_lines], fun q => absurd h q⟩
    · obtain ⟨y, hy, rfl⟩ := w_event_line (h1 i hi) (w i hi)
      have : (l.L.map lnB).getD i ByteArray.empty = lnB (l.get i) := by simp [List.getD, List.getElem?_map, Sl.L_get l hi]
      rw [this]; exact hy
    · rw [catL_lines, mkB_size]
      have := txL_len l.L (mem_right h1 w)
      rw [Sl.L_length] at this
      omega
  · exact ⟨(ByteArray.empty, (mChk l).2), ⟨_, hc, .inl ⟨h, rfl⟩⟩, fun q => absurd q h, fun _ => rfl⟩
theorem L_take (l : Sl TApi_Event) {k : Nat} (h : k < l.n) : l.L.take (k + 1) = l.L.take k ++ [l.get k] := by
  rw [List.take_add_one, Sl.L_get l h]; rfl
theorem w_r15_Print {l : Sl TApi_Event} (h : ∀ i, i < l.n → mRightE (l.get i) = true) (w : ∀ i, i < l.n → WfE (l.get i)) (hn : l.n ≤ 65536) : D_r15_Print.wp l fun y => y = mkB (txL l.L) := by
  refine of_wp ?_
  simp only [tt_r15_Print]
  refine count_wp (fun k => (⟨l, mkB (txL (l.L.take k)), (k : Nat)⟩ : X_r15_Print_3)) l.n (fun _ => True) _ (fun D _ => ?_) (fun D k hk _ hD => ?_) (Nat.zero_le _) trivial
  · simp only [tt_r15_Print_3, ilt_nat, Nat.lt_irrefl, decide_false, wp_false]
    show mkB (txL (l.L.take l.n)) = _
    rw [List.take_of_length_le (by simp)]
  · simp only [tt_r15_Print_3, ilt_nat, hk, decide_true, wp_true, inb_nat hk, wp_need_true, Int.toNat_natCast, next64 hk (show l.n ≤ maxLen by simp only [maxLen]; omega)]
    refine wp_call (w_r15_Line (h k hk) (w k hk)) fun (y : ByteArray) hy => ?_
    subst hy
    have hl := lnL_len (h k hk) (w k hk)
    have ht := txL_len (l.L.take k) fun e he => mem_right h w e (List.mem_of_mem_take he)
    rw [List.length_take, Sl.L_length, Nat.min_eq_left (by omega)] at ht
    have e1 : lnB (l.get k) ++ ByteArray.mk #[10] = mkB (lnL (l.get k) ++ [10]) := mkB_app _ [10]
    rw [e1, mkB_app]
    refine nd1 ?_ (nd1 ?_ ?_)
    · show (mkB (lnL (l.get k))).size + (mkB [10]).size ≤ _
      rw [mkB_size, mkB_size, List.length_singleton]; omega
    · rw [mkB_size, mkB_size, List.length_append, List.length_singleton]; omega
    · have := hD trivial
      rw [L_take l hk, txL_app] at this
      have e2 : txL [l.get k] = lnL (l.get k) ++ [10] := by simp [txL]
      rw [e2] at this
      exact this

/-! ### Lists that are the same -/
theorem ev_eq {a b : TApi_Event} : ((ieq a.Thread b.Thread) && ((ieq a.Kind b.Kind) && ((ieq a.Ring b.Ring) && ((ieq a.Ticket b.Ticket) && ((ieq a.Value b.Value) && true))))) = true ↔ a = b := by
  simp only [Bool.and_eq_true, ieq_iff, and_true]
  obtain ⟨a1, a2, a3, a4, a5⟩ := a
  obtain ⟨b1, b2, b3, b4, b5⟩ := b
  simp only [TApi_Event.mk.injEq]
theorem same_iff {l m : Sl TApi_Event} (h : l.n = m.n) : (∀ j, j < l.n → l.get j = m.get j) ↔ l.L = m.L := ⟨fun k => Sl.L_ext h k, fun k => (Sl.L_inj k).2⟩
theorem w_Equal (l m : Sl TApi_Event) (hl : l.n ≤ maxLen) : D_slices_Equal_api_Event.wp (l, m) fun y => y = true ↔ l.L = m.L := by
  refine of_wp ?_
  simp only [tt_slices_Equal_api_Event]
  refine wp_if (p := ¬ l.n = m.n) (by rw [bnot_iff, ieq_iff]; exact not_congr Int.natCast_inj) (fun h => ff_iff fun k => h (Sl.L_inj k).1) fun h => ?_
  have h := Classical.byContradiction h
  refine all_wp (fun k => (⟨l, m, l.n, (k : Nat)⟩ : X_slices_Equal_api_Event_4)) l.n (fun k => l.get k = m.get k) _ (fun D hJ => ?_) (fun D k hk _ hD => ?_)
  · simp only [tt_slices_Equal_api_Event_4, ilt_nat, Nat.lt_irrefl, decide_false, wp_false]
    exact tt_iff ((same_iff h).1 hJ)
  · simp only [tt_slices_Equal_api_Event_4, ilt_nat, hk, decide_true, wp_true, inb_nat hk, inb_nat (h ▸ hk : k < m.n), wp_need_true, Int.toNat_natCast, next64 hk hl]
    exact wp_if (p := ¬ l.get k = m.get k) (by rw [bnot_iff, ev_eq]) (fun q => ff_iff fun z => q ((same_iff h).2 z k hk)) fun q => hD (Classical.byContradiction q)
theorem w_event_Same (l m : Sl TApi_Event) (hl : l.n ≤ maxLen) : D_event_Same.wp (l, m) fun y => y = true ↔ l.L = m.L := by
  refine of_wp ?_
  simp only [tt_event_Same]
  exact wp_call (w_Equal l m hl) fun (y : Bool) hy => hy
theorem w_r15_Same (l m : Sl TApi_Event) (hl : l.n ≤ maxLen) : D_r15_Same.wp (l, m) fun y => y = true ↔ l.L = m.L := by
  refine of_wp ?_
  simp only [tt_r15_Same]
  refine wp_if (p := ¬ l.n = m.n) (by rw [bnot_iff, ieq_iff]; exact not_congr Int.natCast_inj) (fun h => ff_iff fun k => h (Sl.L_inj k).1) fun h => ?_
  have h := Classical.byContradiction h
  refine all_wp (fun k => (⟨l, m, (k : Nat)⟩ : X_r15_Same_4)) l.n (fun k => l.get k = m.get k) _ (fun D hJ => ?_) (fun D k hk _ hD => ?_)
  · simp only [tt_r15_Same_4, ilt_nat, Nat.lt_irrefl, decide_false, wp_false]
    exact tt_iff ((same_iff h).1 hJ)
  · simp only [tt_r15_Same_4, ilt_nat, hk, decide_true, wp_true, inb_nat hk, inb_nat (h ▸ hk : k < m.n), wp_need_true, Int.toNat_natCast, next64 hk hl]
    exact wp_if (p := ¬ l.get k = m.get k) (by rw [bnot_iff, ev_eq]) (fun q => ff_iff fun z => q ((same_iff h).2 z k hk)) fun q => hD (Classical.byContradiction q)
theorem ev_push {c : Bool} {a b : TApi_Event} : TApi_Event.mk (cond c a.Thread b.Thread) (cond c a.Kind b.Kind) (cond c a.Ring b.Ring) (cond c a.Ticket b.Ticket) (cond c a.Value b.Value) = cond c a b := by cases c <;> rfl
theorem awake_ev : D_w15_awake.ev 1000 PUnit.unit = some true := by kernel_rfl
theorem w_awake : D_w15_awake.wp PUnit.unit fun y => y = true := ⟨true, D_w15_awake.evOK _ _ _ awake_ev, rfl⟩
/-! ### EventTells -/
theorem kRing_nam {k : Int} : kRing k = true → namB k ≠ ⟨#[]⟩ ∧ bt (namB k) 0 = 82 := fun h => by
  unfold namB
  by_cases t : kTicket k = true
  · rw [if_pos t]; exact ⟨(fun q => by cases q), rfl⟩
  · rw [if_neg t, if_pos h]; exact ⟨(fun q => by cases q), rfl⟩
theorem nam_ring {k : Int} (h : namB k ≠ ⟨#[]⟩) : 0 < (namB k).size ∧ (kRing k == ieq (bt (namB k) 0) 82) = true := by
  unfold namB at h ⊢
  by_cases t : kTicket k = true
  · rw [if_pos t, ticket_ring t]; exact ⟨by decide, rfl⟩
  · by_cases r : kRing k = true
    · rw [if_neg t, if_pos r, r]; exact ⟨by decide, rfl⟩
    · by_cases v : kValue k = true
      · rw [if_neg t, if_neg r, if_pos v, show kRing k = false by simpa using r]; exact ⟨by decide, rfl⟩
      · rw [if_neg t, if_neg r, if_neg v] at h; exact absurd rfl h
theorem w_Tells_7 (v : ByteArray) (e : TApi_Event) : D_w15_EventTells_7.wp ⟨v, e⟩ fun y => y = true := by
  refine of_wp ?_
  simp only [tt_w15_EventTells_7]
  refine wp_call (w_r15_Name e.Kind) fun (y1 : ByteArray) h1 => ?_
  subst h1
  refine wp_call (w_event_Find v) fun (y2 : Int × Bool) h2 => wp_call (w_event_Find (mkB (nmK e.Kind))) fun (y3 : Int × Bool) h3 => wp_call (w_r15_Names e.Kind) fun (y4 : ByteArray) h4 => wp_call (w_event_Name e.Kind) fun (y5 : ByteArray) h5 => ?_
  subst h4
  subst h5
  have tail : (TT.ite (seq (mkB (nmK e.Kind)) (ByteArray.mk #[])) (.ret true) (.ite y3.snd (.ret (ieq y3.fst e.Kind)) (.ret false)) : TT Tryd.prog R_w15_EventTells).wp fun y => y = true := by
    refine wp_if seq_nm (fun _ => rfl) fun h => ?_
    have h := Classical.byContradiction h
    rcases h3 with ⟨rfl, k⟩ | ⟨k, hk, rfl, q⟩
    · exact absurd rfl (k _ h)
    · exact wp_ite (fun _ => ieq_iff.2 (nmK_inj hk (mkB_inj q).symm)) fun z => absurd rfl z
  have name : (TT.ite (!(seq v (ByteArray.mk #[])))
     (TT.call con_r15_Name y2.fst fun (y7 : R_r15_Name) =>
     TT.ite (y2.snd == (seq y7 v))
      (.ite y2.snd (.ite (seq (mkB (nmK e.Kind)) (ByteArray.mk #[])) (.ret true) (.ite y3.snd (.ret (ieq y3.fst e.Kind)) (.ret false)))
       (.ite (ieq y2.fst 0) (.ite (seq (mkB (nmK e.Kind)) (ByteArray.mk #[])) (.ret true) (.ite y3.snd (.ret (ieq y3.fst e.Kind)) (.ret false))) (.ret false)))
      (.ret false))
     (.ite (y2.snd == false)
      (.ite y2.snd (.ite (seq (mkB (nmK e.Kind)) (ByteArray.mk #[])) (.ret true) (.ite y3.snd (.ret (ieq y3.fst e.Kind)) (.ret false)))
       (.ite (ieq y2.fst 0) (.ite (seq (mkB (nmK e.Kind)) (ByteArray.mk #[])) (.ret true) (.ite y3.snd (.ret (ieq y3.fst e.Kind)) (.ret false))) (.ret false)))
      (.ret false)) : TT Tryd.prog R_w15_EventTells).wp fun y => y = true := by
    refine wp_if (p := v ≠ ByteArray.mk #[]) (by rw [bnot_iff, seq_iff]) (fun hv => ?_) fun hv => ?_
    · refine wp_call (w_r15_Name y2.fst) fun (y7 : ByteArray) h7 => ?_
      subst h7
      rcases h2 with ⟨rfl, k⟩ | ⟨k, hk, rfl, q⟩
      · have hs : seq (mkB (nmK 0)) v = false := by
          cases h : seq (mkB (nmK 0)) v
          · rfl
          · exact absurd (seq_iff.1 h).symm hv
        refine wp_ite (fun _ => wp_ite (fun z => by cases z) fun _ => wp_ite (fun _ => tail) fun z => absurd rfl z) fun z => absurd ?_ z
        show (false == seq (mkB (nmK 0)) v) = true
        rw [hs]; rfl
      · have hs : seq (mkB (nmK k)) v = true := seq_iff.2 q.symm
        refine wp_ite (fun _ => wp_ite (fun _ => tail) fun z => absurd rfl z) fun z => absurd ?_ z
        show (true == seq (mkB (nmK k)) v) = true
        rw [hs]; rfl
    · have hv := Classical.byContradiction hv
      rcases h2 with ⟨rfl, k⟩ | ⟨k, hk, rfl, q⟩
      · exact wp_ite (fun _ => wp_ite (fun z => by cases z) fun _ => wp_ite (fun _ => tail) fun z => absurd rfl z) fun z => absurd rfl z
      · exact absurd (nmK_empty.1 (mkB_inj (b := []) (q.symm.trans hv))) (fun z => z hk)
  refine wp_ite (fun _ => ?_) fun z => absurd (seq_iff.2 rfl) z
  refine wp_call (w_event_Rings e.Kind) fun (y : Bool) hy => ?_
  subst hy
  refine wp_if (p := namB e.Kind ≠ ByteArray.mk #[]) (by rw [bnot_iff, seq_iff]) (fun h => ?_) fun h => ?_
  · obtain ⟨k1, k2⟩ := nam_ring h
    exact wp_need (by rw [inb_iff2]; omega) (wp_ite (fun _ => name) fun z => absurd k2 z)
  · have hr : kRing e.Kind = false := by
      cases q : kRing e.Kind
      · rfl
      · exact absurd (kRing_nam q).1 h
    refine wp_ite (fun _ => name) fun z => absurd ?_ z
    rw [hr]; rfl
theorem law_EventTells (e : TApi_Event) (v : ByteArray) (w : WfE e) : D_w15_EventTells.wp (e, v) fun y => y = true := by
  refine of_wp ?_
  simp only [tt_w15_EventTells]
  refine wp_call w_awake fun (y : Bool) hy => ?_
  subst hy
  refine wp_ite (fun h => by cases h) fun _ => wp_ite (fun _ => wp_call w_awake fun (y : Bool) hy => hy) fun _ => of_wp ?_
  simp only [tt_w15_EventTells_3]
  refine wp_call (w_event_Line w) fun (y1 : ByteArray × Int) h1 => wp_call (w_r15_Right e) fun (y2 : Bool) h2 => wp_call (w_event_Right e) fun (y3 : Bool) h3 => ?_
  subst h2
  subst h3
  cases hr : mRightE e with
  | true =>
    rw [h1.1 hr]
    refine wp_ite (fun h => by cases h) fun _ => wp_ite (fun h => by cases h) fun _ => wp_ite (fun _ => ?_) fun h => absurd rfl h
    refine wp_call (w_r15_Line hr w) fun (y4 : ByteArray) h4 => ?_
    subst h4
    exact wp_ite (fun h => absurd (seq_iff.2 rfl) (bnot_iff.1 h)) fun _ => wp_ite (fun h => by cases h) fun _ => w_Tells_7 _ _
  | false =>
    rw [h1.2 hr]
    exact wp_ite (fun h => by cases h) fun _ => wp_ite (fun h => by cases h) fun _ => wp_ite (fun h => by cases h) fun _ =>
      wp_ite (fun _ => wp_ite (fun h => absurd (seq_iff.2 rfl) (bnot_iff.1 h)) fun _ => wp_ite (fun h => by cases h) fun _ => w_Tells_7 _ _) fun h => absurd rfl h

/-! ### EventPrints -/
theorem mChk_congr {l m : Sl TApi_Event} (h : l.L = m.L) : mChk l = mChk m := by
  obtain ⟨hn, hg⟩ := Sl.L_inj h
  unfold mChk
  rw [← hn]
  split
  · rfl
  · have : ∀ d k, k + d ≤ l.n → mChkN l.get d k = mChkN m.get d k := by
      intro d
      induction d with
      | zero => intro k _; rfl
      | succ d ih => intro k hk; rw [mChkN, mChkN, hg k (by omega), ih (k + 1) (by omega)]
    exact this _ _ (by omega)
theorem copy_L (l : Sl TApi_Event) (b : Bool) : (Sl.mk b ((0 : Nat) + l.n) fun i1 => TApi_Event.mk (cond (Nat.blt i1 0) (0 : Int) (l.get (i1 - 0)).Thread) (cond (Nat.blt i1 0) (0 : Int) (l.get (i1 - 0)).Kind) (cond (Nat.blt i1 0) (0 : Int) (l.get (i1 - 0)).Ring)
    (cond (Nat.blt i1 0) (0 : Int) (l.get (i1 - 0)).Ticket) (cond (Nat.blt i1 0) (0 : Int) (l.get (i1 - 0)).Value)).L = l.L := Sl.L_ext (Nat.zero_add _) fun _ _ => rfl
theorem wf_of_L {l m : Sl TApi_Event} (h : l.L = m.L) (w : ∀ i, i < m.n → WfE (m.get i)) : ∀ i, i < l.n → WfE (l.get i) := fun i hi => by
  obtain ⟨hn, hg⟩ := Sl.L_inj h
  rw [hg i hi]; exact w i (by omega)
theorem law_EventPrints (l : Sl TApi_Event) (w : ∀ i, i < l.n → WfE (l.get i)) : D_w15_EventPrints.wp l fun y => y = true := by
  refine of_wp ?_
  simp only [tt_w15_EventPrints]
  refine wp_call w_awake fun (y : Bool) hy => ?_
  subst hy
  refine wp_ite (fun h => by cases h) fun _ => wp_if ilt_iff (fun _ => wp_call w_awake fun (y : Bool) hy => hy) fun hn => of_wp ?_
  simp only [tt_w15_EventPrints_3]
  have hc := copy_L l (cond (Nat.beq l.n 0) false false)
  generalize (Sl.mk (cond (Nat.beq l.n 0) false false) ((0 : Nat) + l.n) fun i1 => TApi_Event.mk (cond (Nat.blt i1 0) (0 : Int) (l.get (i1 - 0)).Thread) (cond (Nat.blt i1 0) (0 : Int) (l.get (i1 - 0)).Kind) (cond (Nat.blt i1 0) (0 : Int) (l.get (i1 - 0)).Ring)
    (cond (Nat.blt i1 0) (0 : Int) (l.get (i1 - 0)).Ticket) (cond (Nat.blt i1 0) (0 : Int) (l.get (i1 - 0)).Value)) = m at hc
  have hm := mChk_congr hc
  refine wp_need (room_ok (by omega)) (wp_call (w_event_Print (wf_of_L hc w)) fun (y1 : ByteArray × Int) h1 => wp_need (room_ok (by omega)) (wp_call (w_event_Check m) fun (y2 : Int × Int) h2 => wp_call (w_r15_Check l) fun (y3 : Int × Int) h3 => ?_))
  subst h2
  subst h3
  rw [hm] at h1 ⊢
  refine wp_ite (fun h => absurd (ieq_iff.2 rfl) (bnot_iff.1 h)) fun _ => wp_ite (fun h => absurd (ieq_iff.2 rfl) (bnot_iff.1 h)) fun _ => ?_
  by_cases hk : (mChk l).2 = 0
  · obtain ⟨k1, k2, k3⟩ := mChk_ok hk
    rw [h1.1 hk, hk]
    refine wp_ite (fun h => by cases h) fun _ => of_wp ?_
    simp only [tt_w15_EventPrints_8]
    refine wp_ite (fun h => by cases h) fun _ => wp_call (w_r15_Print k1 w k2) fun (y : ByteArray) hy => ?_
    rw [hy, hc]
    exact seq_iff.2 rfl
  · rw [h1.2 hk]
    refine wp_ite (fun h => absurd (ieq_iff.2 rfl) (bnot_iff.1 h)) fun _ => of_wp ?_
    simp only [tt_w15_EventPrints_8]
    exact wp_if (p := ¬ (mChk l).2 = 0) (by rw [bnot_iff, ieq_iff]) (fun _ => seq_iff.2 rfl) fun z => absurd hk z

/-! ### EventOne -/
theorem push_L (l : Sl TApi_Event) (b : Bool) (e : TApi_Event) : (Sl.mk b (((0 : Nat) + l.n) + 1) fun i1 => TApi_Event.mk (cond (Nat.blt i1 ((0 : Nat) + l.n)) (cond (Nat.blt i1 0) (0 : Int) (l.get (i1 - 0)).Thread) e.Thread)
    (cond (Nat.blt i1 ((0 : Nat) + l.n)) (cond (Nat.blt i1 0) (0 : Int) (l.get (i1 - 0)).Kind) e.Kind) (cond (Nat.blt i1 ((0 : Nat) + l.n)) (cond (Nat.blt i1 0) (0 : Int) (l.get (i1 - 0)).Ring) e.Ring)
    (cond (Nat.blt i1 ((0 : Nat) + l.n)) (cond (Nat.blt i1 0) (0 : Int) (l.get (i1 - 0)).Ticket) e.Ticket) (cond (Nat.blt i1 ((0 : Nat) + l.n)) (cond (Nat.blt i1 0) (0 : Int) (l.get (i1 - 0)).Value) e.Value)).L = l.L ++ [e] := by
  rw [← L_push l b e]
  refine Sl.L_ext (by rw [Nat.zero_add]) fun i _ => ?_
  rw [Nat.zero_add]
  exact ev_push (c := Nat.blt i l.n) (a := l.get i) (b := e)
theorem beq_iff' {a b : Bool} : (a == b) = true ↔ (a = true ↔ b = true) := by cases a <;> cases b <;> simp
theorem law_EventOne (a b : TApi_Event) (l : Sl TApi_Event) (wa : WfE a) (wb : WfE b) : D_w15_EventOne.wp (a, b, l) fun y => y = true := by
  refine of_wp ?_
  simp only [tt_w15_EventOne]
  refine wp_call w_awake fun (y : Bool) hy => ?_
  subst hy
  refine wp_ite (fun h => by cases h) fun _ => wp_if ilt_iff (fun _ => wp_call w_awake fun (y : Bool) hy => hy) fun hn => of_wp ?_
  simp only [tt_w15_EventOne_3]
  have hx := push_L l (cond (Nat.beq 1 0) (cond (Nat.beq l.n 0) false false) false) a
  have hy := push_L l (cond (Nat.beq 1 0) (cond (Nat.beq l.n 0) false false) false) b
  generalize (Sl.mk (cond (Nat.beq 1 0) (cond (Nat.beq l.n 0) false false) false) (((0 : Nat) + l.n) + 1) fun i1 => TApi_Event.mk (cond (Nat.blt i1 ((0 : Nat) + l.n)) (cond (Nat.blt i1 0) (0 : Int) (l.get (i1 - 0)).Thread) a.Thread)
    (cond (Nat.blt i1 ((0 : Nat) + l.n)) (cond (Nat.blt i1 0) (0 : Int) (l.get (i1 - 0)).Kind) a.Kind) (cond (Nat.blt i1 ((0 : Nat) + l.n)) (cond (Nat.blt i1 0) (0 : Int) (l.get (i1 - 0)).Ring) a.Ring)
    (cond (Nat.blt i1 ((0 : Nat) + l.n)) (cond (Nat.blt i1 0) (0 : Int) (l.get (i1 - 0)).Ticket) a.Ticket) (cond (Nat.blt i1 ((0 : Nat) + l.n)) (cond (Nat.blt i1 0) (0 : Int) (l.get (i1 - 0)).Value) a.Value)) = x at hx
  generalize (Sl.mk (cond (Nat.beq 1 0) (cond (Nat.beq l.n 0) false false) false) (((0 : Nat) + l.n) + 1) fun i1 => TApi_Event.mk (cond (Nat.blt i1 ((0 : Nat) + l.n)) (cond (Nat.blt i1 0) (0 : Int) (l.get (i1 - 0)).Thread) b.Thread)
    (cond (Nat.blt i1 ((0 : Nat) + l.n)) (cond (Nat.blt i1 0) (0 : Int) (l.get (i1 - 0)).Kind) b.Kind) (cond (Nat.blt i1 ((0 : Nat) + l.n)) (cond (Nat.blt i1 0) (0 : Int) (l.get (i1 - 0)).Ring) b.Ring)
    (cond (Nat.blt i1 ((0 : Nat) + l.n)) (cond (Nat.blt i1 0) (0 : Int) (l.get (i1 - 0)).Ticket) b.Ticket) (cond (Nat.blt i1 ((0 : Nat) + l.n)) (cond (Nat.blt i1 0) (0 : Int) (l.get (i1 - 0)).Value) b.Value)) = z at hy
  have r1 : (true && room ((0 : Nat) + l.n) 40) = true := room_ok (by omega)
  have r2 : (true && room (((0 : Nat) + l.n) + 1) 40) = true := room_ok (by omega)
  have xn : x.n = l.n + 1 := by have := congrArg List.length hx; simpa using this
  have m1 : x.n ≤ maxLen := by simp only [maxLen]; omega
  refine wp_need r1 (wp_need r2 (wp_need r1 (wp_need r2 (wp_call (w_event_Same x z m1) fun (y1 : Bool) h1 => ?_))))
  refine wp_if (p := ¬ (y1 = true ↔ a = b)) (by rw [bnot_iff, beq_iff', ev_eq]) (fun h => absurd (h1.trans ?_) h) fun _ => wp_call (w_event_Same x l m1) fun (y2 : Bool) h2 => ?_
  · rw [hx, hy]
    exact ⟨fun q => by simpa using q, fun q => by rw [q]⟩
  refine wp_ite (fun h => absurd (congrArg List.length (h2.1 h)) (by simp; omega)) fun _ => wp_call (w_event_Same l l (by simp only [maxLen]; omega)) fun (y3 : Bool) h3 => ?_
  refine wp_ite (fun h => absurd (h3.2 rfl) (bnot_iff.1 h)) fun _ => of_wp ?_
  simp only [tt_w15_EventOne_6]
  refine wp_call (w_event_Line wa) fun (y4 : ByteArray × Int) h4 => wp_call (w_event_Line wb) fun (y5 : ByteArray × Int) h5 => ?_
  cases ra : mRightE a with
  | false => rw [h4.2 ra]; exact wp_ite (fun _ => rfl) fun h => absurd rfl h
  | true =>
    rw [h4.1 ra]
    cases rb : mRightE b with
    | false => rw [h5.2 rb]; exact wp_ite (fun h => by cases h) fun _ => wp_ite (fun _ => rfl) fun h => absurd rfl h
    | true =>
      rw [h5.1 rb]
      refine wp_ite (fun h => by cases h) fun _ => wp_ite (fun h => by cases h) fun _ => beq_iff'.2 ?_
      rw [seq_iff, ev_eq]
      exact ⟨fun h => ln_inj ra rb wa wb h, fun h => by rw [h]⟩
/-! ### A thread's places -/
def ofN (l : Sl TApi_Event) (t : Int) (n : Nat) : List Nat := (List.range n).filter fun i => decide ((l.get i).Thread = t)
def ofL (l : Sl TApi_Event) (t : Int) (n : Nat) : List Int := (ofN l t n).map fun i : Nat => (i : Int)
theorem ofN_len (l : Sl TApi_Event) (t : Int) (n : Nat) : (ofN l t n).length ≤ n := by
  have := List.length_filter_le (fun i => decide ((l.get i).Thread = t)) (List.range n)
  rw [List.length_range] at this
  exact this
theorem ofL_succ (l : Sl TApi_Event) (t : Int) (n : Nat) : ofL l t (n + 1) = ofL l t n ++ (if (l.get n).Thread = t then [(n : Int)] else []) := by
  unfold ofL ofN
  rw [List.range_succ, List.filter_append, List.map_append]
  congr 1
  by_cases h : (l.get n).Thread = t
  · rw [if_pos h, List.filter_cons_of_pos (by simpa using h)]; rfl
  · rw [if_neg h, List.filter_cons_of_neg (by simpa using h)]; rfl
theorem w_event_Of (l : Sl TApi_Event) (t : Int) (hn : l.n ≤ 1000) : D_event_Of.wp (l, t) fun y => y.L = ofL l t l.n := by
  refine of_wp ?_
  simp only [tt_event_Of]
  refine loop_wp (x := (⟨t, Sl.mk true 0 (fun _ => (0 : Int)), l, (l.n : Nat), 0⟩ : X_event_Of_2)) (fun x => x.t_1 = t ∧ x.q_7 = l ∧ x.q_8 = (l.n : Int) ∧ ∃ k : Nat, k ≤ l.n ∧ x.q_9 = (k : Int) ∧ x.out_4.L = ofL l t k)
    (fun x => l.n - x.q_9.toNat) (fun _ (y : Sl Int) => y.L = ofL l t l.n) (fun D x hx hD => ?_) ⟨rfl, rfl, rfl, 0, Nat.zero_le _, rfl, rfl⟩
  obtain ⟨t', out, l', n', q⟩ := x
  obtain ⟨h1, h2, h3, k, hk, h4, ho⟩ := hx
  simp only at h1 h2 h3 h4 ho
  subst h1
  subst h2
  subst h3
  subst h4
  simp only [tt_event_Of_2, ilt_nat]
  have hl : out.n ≤ k := by
    have := congrArg List.length ho
    rw [Sl.L_length, ofL, List.length_map] at this
    have h5 := ofN_len l' t' k
    omega
  by_cases h : k < l'.n
  · simp only [h, decide_true, wp_true, inb_nat h, wp_need_true, Int.toNat_natCast]
    have next : ∀ o : Sl Int, o.L = ofL l' t' (k + 1) → (D_event_Of_6 D).wp (⟨t', o, l', (l'.n : Nat), (k : Nat)⟩ : X_event_Of_6) fun y => y.L = ofL l' t' l'.n := fun o hL => by
      refine of_wp ?_
      simp only [tt_event_Of_6, next64 h (show l'.n ≤ maxLen by simp only [maxLen]; omega)]
      exact hD _ ⟨rfl, rfl, rfl, k + 1, h, rfl, hL⟩ (by show l'.n - ((k + 1 : Nat) : Int).toNat < l'.n - ((k : Nat) : Int).toNat; omega)
    refine wp_if ieq_iff (fun q => wp_need (room_ok (by omega)) (next _ ?_)) fun q => next _ ?_
    · rw [L_push, ho, ofL_succ, if_pos q]
    · rw [ho, ofL_succ, if_neg q, List.append_nil]
  · obtain rfl : k = l'.n := by omega
    simp only [h, decide_false, wp_false]
    exact ho

/-! ### EventParts -/
def sumC (l : Sl TApi_Event) (k n : Nat) : Nat := ((List.range n).filter fun i => decide (0 ≤ (l.get i).Thread ∧ (l.get i).Thread < (k : Int))).length
theorem flt_sum (f : Nat → Int) (k : Nat) (L : List Nat) : (L.filter fun i => decide (0 ≤ f i ∧ f i < ((k + 1 : Nat) : Int))).length =
    (L.filter fun i => decide (0 ≤ f i ∧ f i < (k : Int))).length + (L.filter fun i => decide (f i = (k : Int))).length := by
  induction L with
  | nil => rfl
  | cons a L ih =>
    simp only [List.filter_cons, decide_eq_true_eq]
    by_cases h1 : 0 ≤ f a ∧ f a < (k : Int)
    · rw [if_pos h1, if_pos (by omega), if_neg (by omega), List.length_cons, List.length_cons, ih]; omega
    · by_cases h2 : f a = (k : Int)
      · rw [if_neg h1, if_pos h2, if_pos (by omega), List.length_cons, List.length_cons, ih]; omega
      · rw [if_neg h1, if_neg h2, if_neg (by omega), ih]
theorem sumC_succ (l : Sl TApi_Event) (k n : Nat) : sumC l (k + 1) n = sumC l k n + (ofN l k n).length := flt_sum (fun i => (l.get i).Thread) k _
theorem sumC_le (l : Sl TApi_Event) (k n : Nat) : sumC l k n ≤ n := by
  have := List.length_filter_le (fun i => decide (0 ≤ (l.get i).Thread ∧ (l.get i).Thread < (k : Int))) (List.range n)
  rw [List.length_range] at this
  exact this
theorem sumC_zero (l : Sl TApi_Event) (n : Nat) : sumC l 0 n = 0 := by
  unfold sumC
  rw [List.length_eq_zero_iff, List.filter_eq_nil_iff]
  intro i _
  simp
theorem sumC_row (l : Sl TApi_Event) (k n : Nat) : sumC l k (n + 1) = sumC l k n + if 0 ≤ (l.get n).Thread ∧ (l.get n).Thread < (k : Int) then 1 else 0 := by
  unfold sumC
  rw [List.range_succ, List.filter_append, List.length_append]
  congr 1
  by_cases h : 0 ≤ (l.get n).Thread ∧ (l.get n).Thread < (k : Int)
  · rw [if_pos h, List.filter_cons_of_pos (by simpa using h)]; rfl
  · rw [if_neg h, List.filter_cons_of_neg (by simpa using h)]; rfl
theorem law_EventParts (l : Sl TApi_Event) (_ : ∀ i, i < l.n → WfE (l.get i)) : D_w15_EventParts.wp l fun y => y = true := by
  refine of_wp ?_
  simp only [tt_w15_EventParts]
  refine wp_call w_awake fun (y : Bool) hy => ?_
  subst hy
  refine wp_ite (fun h => by cases h) fun _ => wp_if ilt_iff (fun _ => wp_call w_awake fun (y : Bool) hy => hy) fun hn => of_wp ?_
  have hn : l.n ≤ 200 := by omega
  simp only [tt_w15_EventParts_3]
  have e0 : (⟨l, 0, 0⟩ : X_w15_EventParts_5) = ⟨l, (sumC l 0 l.n : Nat), ((0 : Nat) : Int)⟩ := by rw [sumC_zero]; rfl
  rw [e0]
  refine count_wp (fun k => (⟨l, (sumC l k l.n : Nat), (k : Nat)⟩ : X_w15_EventParts_5)) 8 (fun _ => True) _ (fun D _ => ?_) (fun D k hk _ hD => ?_) (Nat.zero_le _) trivial
  · simp only [tt_w15_EventParts_5]
    refine wp_if ilt_iff (fun h => absurd h (by decide)) fun _ => of_wp ?_
    simp only [tt_w15_EventParts_16]
    refine count_wp (fun k => (⟨(sumC l 8 l.n : Nat), (sumC l 8 k : Nat), l, (l.n : Nat), (k : Nat)⟩ : X_w15_EventParts_18)) l.n (fun _ => True) _ (fun D _ => ?_) (fun D k hk _ hD => ?_) (Nat.zero_le _) trivial
    · simp only [tt_w15_EventParts_18, ilt_nat, Nat.lt_irrefl, decide_false, wp_false]
      exact ieq_iff.2 rfl
    · have h22 : ∀ m : Int, m = (sumC l 8 (k + 1) : Nat) → (D_w15_EventParts_22 D).wp (⟨(sumC l 8 l.n : Nat), m, l, (l.n : Nat), (k : Nat)⟩ : X_w15_EventParts_22) fun y => y = true := fun m hm => by
        subst hm
        refine of_wp ?_
        simp only [tt_w15_EventParts_22, next64 hk (show l.n ≤ maxLen by simp only [maxLen]; omega)]
        exact hD trivial
      have hr := sumC_row l 8 k
      have hle := sumC_le l 8 k
      simp only [tt_w15_EventParts_18, ilt_nat, hk, decide_true, wp_true, inb_nat hk, wp_need_true, Int.toNat_natCast]
      refine wp_if ile_iff (fun h1 => wp_if ilt_iff (fun h2 => h22 _ ?_) fun h2 => h22 _ ?_) fun h1 => h22 _ ?_
      · rw [if_pos ⟨h1, h2⟩] at hr
        rw [hr, wrap64 (by omega) (by omega)]; rfl
      · rw [if_neg (fun q => h2 q.2)] at hr; rw [hr, Nat.add_zero]
      · rw [if_neg (fun q => h1 q.1)] at hr; rw [hr, Nat.add_zero]
  · simp only [tt_w15_EventParts_5]
    refine wp_if ilt_iff (fun _ => ?_) fun h => absurd (show ((k : Int) < 8) by omega) h
    refine wp_call (w_event_Of l k (by omega)) fun (y : Sl Int) hy => ?_
    have yn : y.n = (ofN l k l.n).length := by have := congrArg List.length hy; simpa [ofL] using this
    have yg : ∀ j (hj : j < y.n), y.get j = (((ofN l k l.n)[j]'(by omega) : Nat) : Int) := fun j hj => by
      have := congrArg (fun x => x[j]?) hy
      simp only [Sl.L_get y hj, ofL, List.getElem?_map, List.getElem?_eq_getElem (show j < (ofN l k l.n).length by omega), Option.map_some, Option.some.injEq] at this
      exact this
    have mem : ∀ j (hj : j < y.n), (ofN l k l.n)[j]'(by omega) < l.n ∧ (l.get ((ofN l k l.n)[j]'(by omega))).Thread = k := fun j hj => by
      have := List.getElem_mem (l := ofN l k l.n) (n := j) (by omega)
      have := List.mem_filter.1 (show (ofN l k l.n)[j]'(by omega) ∈ (List.range l.n).filter _ from this)
      exact ⟨List.mem_range.1 this.1, by simpa using this.2⟩
    have rise : ∀ i j (hi : i < y.n) (hj : j < y.n), i < j → (ofN l k l.n)[i]'(by omega) < (ofN l k l.n)[j]'(by omega) := fun i j hi hj hij => by
      have hp : List.Pairwise (· < ·) (ofN l k l.n) := (List.pairwise_lt_range (n := l.n)).filter _
      exact List.pairwise_iff_getElem.1 hp i j (by omega) (by omega) hij
    have hs := sumC_succ l k l.n
    have hl1 := sumC_le l k l.n
    have hl2 := sumC_le l (k + 1) l.n
    have yle : y.n ≤ 200 := by have := ofN_len l k l.n; omega
    refine count_wp (fun j => (⟨l, (sumC l k l.n : Nat), (k : Nat), y, (k : Nat), y, (y.n : Nat), (j : Nat)⟩ : X_w15_EventParts_9)) y.n (fun _ => True) _ (fun D9 _ => ?_) (fun D9 j hj _ hD9 => ?_) (Nat.zero_le _) trivial
    · simp only [tt_w15_EventParts_9, ilt_nat, Nat.lt_irrefl, decide_false, wp_false]
      refine of_wp ?_
      simp only [tt_w15_EventParts_14]
      refine of_wp ?_
      simp only [tt_w15_EventParts_15]
      have e1 : IntKind.i64.wrap ((sumC l k l.n : Nat) + (y.n : Nat)) = (sumC l (k + 1) l.n : Nat) := by rw [hs, yn, wrap64 (by omega) (by omega)]; rfl
      have e2 : IntKind.i64.wrap ((k : Int) + 1) = ((k + 1 : Nat) : Int) := by rw [wrap64 (by omega) (by omega)]; rfl
      rw [e1, e2]
      exact hD trivial
    · have h13 : (D_w15_EventParts_13 D D9).wp (⟨l, (sumC l k l.n : Nat), (k : Nat), y, (k : Nat), y, (y.n : Nat), (j : Nat)⟩ : X_w15_EventParts_13) fun y => y = true := by
        refine of_wp ?_
        simp only [tt_w15_EventParts_13, next64 hj (show y.n ≤ maxLen by simp only [maxLen]; omega)]
        exact hD9 trivial
      obtain ⟨m1, m2⟩ := mem j hj
      simp only [tt_w15_EventParts_9, ilt_nat, hj, decide_true, wp_true, inb_nat hj, wp_need_true, Int.toNat_natCast, yg j hj, inb_nat m1]
      refine wp_if ilt_iff (fun h => by omega) fun _ => ?_
      refine wp_if ile_iff (fun h => by omega) fun _ => ?_
      refine wp_need rfl ?_
      refine wp_if (p := ¬ (l.get ((ofN l k l.n)[j]'(by omega))).Thread = k) (by rw [bnot_iff, ieq_iff]) (fun h => absurd m2 h) fun _ => ?_
      refine wp_if ilt_iff (fun h => ?_) fun _ => ?_
      rotate_left
      · exact h13
      have hw : IntKind.i64.wrap ((j : Int) - 1) = ((j - 1 : Nat) : Int) := by rw [wrap64 (by omega) (by omega)]; omega
      rw [hw]
      refine wp_need (inb_nat (by omega)) ?_
      rw [Int.toNat_natCast, yg (j - 1) (by omega)]
      have := rise (j - 1) j (by omega) hj (by omega)
      exact wp_if ile_iff (fun q => by omega) fun _ => h13
/-! ### A line's words -/
theorem spl_mem {c : UInt8} : ∀ {s : List UInt8} {w : List UInt8}, w ∈ spl c s → w.length ≤ s.length
  | [], w, h => by rw [spl, List.mem_singleton] at h; subst h; exact Nat.le_refl _
  | b :: r, w, h => by
    have hne := spl_ne c r
    rw [spl] at h
    cases hr : spl c r with
    | nil => exact absurd hr hne
    | cons x y =>
      rw [hr] at h
      split at h
      · rcases List.mem_cons.1 h with rfl | h
        · exact Nat.zero_le _
        · exact Nat.le_succ_of_le (spl_mem (hr ▸ h))
      · rcases List.mem_cons.1 h with rfl | h
        · have := spl_mem (c := c) (s := r) (w := x) (by rw [hr]; simp)
          simp only [List.headD_cons, List.length_cons]; omega
        · exact Nat.le_succ_of_le (spl_mem (hr ▸ (List.mem_cons_of_mem _ h)))
/-- A slice of words that are not long. -/
def SzW (l : Sl ByteArray) : Prop := l.n ≤ 50000 ∧ ∀ i, i < l.n → (l.get i).size ≤ 50000
theorem szW_of {l : Sl ByteArray} {W : List (List UInt8)} (hL : l.L = W.map mkB) (hn : W.length ≤ 50000) (h : ∀ w ∈ W, w.length ≤ 50000) : SzW l := by
  have e : l.n = W.length := by have := congrArg List.length hL; simpa using this
  refine ⟨by omega, fun i hi => ?_⟩
  have hm : l.get i ∈ l.L := Sl.mem_L.2 ⟨i, hi, rfl⟩
  rw [hL] at hm
  obtain ⟨w, hw, e⟩ := List.mem_map.1 hm
  rw [← e, mkB_size]
  exact h w hw
theorem L_tail (l : Sl ByteArray) (b : Bool) : (Sl.mk b (l.n - Int.toNat 1) fun i1 => l.get (Int.toNat 1 + i1)).L = l.L.tail := by
  apply List.ext_getElem?
  intro i
  rw [List.getElem?_tail, Sl.L_get?, Sl.L_get?]
  show (if i < l.n - 1 then some (l.get (1 + i)) else none) = _
  by_cases h : i < l.n - 1
  · rw [if_pos h, if_pos (by omega), Nat.add_comm]
  · rw [if_neg h, if_neg (by omega)]
theorem w_PU {s : ByteArray} (hs : s.size ≤ 50000) : ∃ y, con_strconv_ParseUint.rel (s, 10, 64) y ∧ (0 ≤ y.1 ∧ y.1 < 18446744073709551616) ∧ ∀ n, n < 18446744073709551616 → s = mkB (Lib.decDigits n) → y = ((n : Int), false) := by
  have hp : (2 : Nat) ^ 64 - 1 = 18446744073709551615 := by decide
  have hc : (Nat.blt s.size 281474976710656 && (ieq 10 10 && ieq 64 64)) = true := by
    simp only [Bool.and_eq_true, ieq_iff, and_true, Nat.blt_eq]; omega
  have key : ∀ v : Int × Bool, puS (s, 10, 64) = some v → con_strconv_ParseUint.rel (s, 10, 64) v := fun v h => h
  cases h : Lib.parseUintB 64 s.data.toList with
  | ok u =>
    refine ⟨((u : Int), false), key _ ?_, ?_, fun n hn e => ?_⟩
    · unfold puS; rw [hc]; simp only [h]; rfl
    · have := Lib.parseUintB_le h
      rw [hp] at this
      exact ⟨Int.natCast_nonneg u, by show (u : Int) < _; omega⟩
    · rw [e, mkB_data, parse_dig hn] at h
      cases h; rfl
  | «syntax» =>
    refine ⟨(0, true), key _ ?_, ⟨Int.le_refl _, by decide⟩, fun n hn e => ?_⟩
    · unfold puS; rw [hc]; simp only [h]; rfl
    · rw [e, mkB_data, parse_dig hn] at h; cases h
  | range =>
    refine ⟨(18446744073709551615, true), key _ ?_, ⟨by decide, by decide⟩, fun n hn e => ?_⟩
    · unfold puS; rw [hc]; simp only [h]; rfl
    · rw [e, mkB_data, parse_dig hn] at h; cases h
/-- What taking a number off the words comes to. -/
def NextP (w : TEvent_words) (y : Int × TEvent_words) : Prop := (0 ≤ y.1 ∧ y.1 < 18446744073709551616) ∧ SzW y.2.l ∧
  ∀ n rest, n < 18446744073709551616 → w.l.L = mkB (Lib.decDigits n) :: rest → w.ok = true → y.1 = (n : Int) ∧ y.2.l.L = rest ∧ y.2.ok = true
theorem w_next {w : TEvent_words} (hw : SzW w.l) : D_event_words_next.wp w fun y => NextP w y := by
  refine of_wp ?_
  simp only [tt_event_words_next]
  refine wp_if ieq_iff (fun h => ⟨⟨Int.le_refl _, by show (0 : Int) < 18446744073709551616; decide⟩, hw, fun n rest _ hL _ => ?_⟩) fun h => ?_
  · have := congrArg List.length hL
    rw [Sl.L_length, List.length_cons] at this
    omega
  · have h0 : 0 < w.l.n := by omega
    have sz : SzW (Sl.mk w.l.nil (w.l.n - Int.toNat 1) fun i1 => w.l.get (Int.toNat 1 + i1)) := ⟨by show w.l.n - 1 ≤ 50000; have := hw.1; omega, fun i hi => hw.2 (1 + i) (by have : i < w.l.n - 1 := hi; omega)⟩
    have h6 : ∀ (v : Int) (b : Bool), (0 ≤ v ∧ v < 18446744073709551616) → (∀ n rest, n < 18446744073709551616 → w.l.L = mkB (Lib.decDigits n) :: rest → w.ok = true → v = (n : Int) ∧ b = true) →
        D_event_words_next_6.wp (⟨v, ⟨w.l, b⟩⟩ : X_event_words_next_6) fun y => NextP w y := fun v b hv hb => by
      refine of_wp ?_
      simp only [tt_event_words_next_6]
      refine wp_need (by rw [upto_iff]; omega) ⟨hv, sz, fun n rest hn hL hok => ?_⟩
      obtain ⟨e1, e2⟩ := hb n rest hn hL hok
      exact ⟨e1, by rw [L_tail, hL]; rfl, e2⟩
    refine wp_need (by rw [inb_iff2]; omega) (wp_call (w_PU (hw.2 0 h0)) fun (y : Int × Bool) hy => ?_)
    have hd : ∀ n rest, n < 18446744073709551616 → w.l.L = mkB (Lib.decDigits n) :: rest → y = ((n : Int), false) := fun n rest hn hL => by
      refine hy.2 n hn ?_
      have := Sl.L_get w.l h0
      rw [hL] at this
      exact (Option.some.inj this).symm
    refine wp_ite (fun h1 => ?_) fun h1 => ?_
    · refine wp_ite (fun h2 => h6 _ _ hy.1 fun n rest hn hL _ => ?_) fun h2 => h6 _ _ hy.1 fun n rest hn hL _ => ?_
      · rw [hd n rest hn hL] at h1; cases h1
      · rw [hd n rest hn hL] at h1; cases h1
    · refine wp_ite (fun h2 => h6 _ _ hy.1 fun n rest hn hL _ => ?_) fun h2 => h6 _ _ hy.1 fun n rest hn hL q => absurd q h2
      rw [hd n rest hn hL]; exact ⟨rfl, rfl⟩
theorem w_small {w : TEvent_words} (hw : SzW w.l) : D_event_words_small.wp w fun y => (0 ≤ y.1 ∧ y.1 ≤ 1024) ∧ SzW y.2.l ∧ ∀ n rest, n ≤ 1024 → w.l.L = mkB (Lib.decDigits n) :: rest → w.ok = true → y.1 = (n : Int) ∧ y.2.l.L = rest ∧ y.2.ok = true := by
  refine of_wp ?_
  simp only [tt_event_words_small]
  refine wp_call (w_next hw) fun (y : Int × TEvent_words) hy => ?_
  obtain ⟨h1, h2, h3⟩ := hy
  have hm : 0 ≤ imin y.1 1024 ∧ imin y.1 1024 ≤ 1024 ∧ (y.1 ≤ 1024 → imin y.1 1024 = y.1) := by
    unfold imin
    cases q : ilt 1024 y.1
    · rw [ilt_false] at q; exact ⟨h1.1, q, fun _ => rfl⟩
    · rw [ilt_iff] at q; exact ⟨by show (0 : Int) ≤ 1024; decide, Int.le_refl _, fun k => by omega⟩
  have e : IntKind.i64.wrap (imin y.1 1024) = imin y.1 1024 := wrap64 (by omega) (by omega)
  rw [e]
  refine ⟨⟨hm.1, hm.2.1⟩, h2, fun n rest hn hL hok => ?_⟩
  obtain ⟨k1, k2, k3⟩ := h3 n rest (by omega) hL hok
  exact ⟨by show imin y.1 1024 = _; rw [hm.2.2 (by omega), k1], k2, k3⟩

/-! ### The program reads a line -/
def LineP (s : ByteArray) (y : TApi_Event × Bool) : Prop := (y.2 = true → IsLn s.data.toList y.1) ∧ ∀ e0, IsLn s.data.toList e0 → y = (e0, true)
theorem line_no {s : ByteArray} {e : TApi_Event} (h : ∀ e0, ¬ IsLn s.data.toList e0) : LineP s (e, false) := ⟨(fun q => by cases q), fun e0 k => absurd k (h e0)⟩
theorem data_mkB {s : ByteArray} {l : List UInt8} : mkB l = s ↔ l = s.data.toList := ⟨fun h => by rw [← h, mkB_data], fun h => by rw [h, mkB_list]⟩
theorem w_read13 {s : ByteArray} {ok : Bool} {e : TApi_Event} {w : TEvent_words} (we : WfE e) (h : ∀ e0, IsLn s.data.toList e0 → ok = true ∧ w.ok = true ∧ w.l.n = 0 ∧ e = e0) :
    D_event_readLine_13.wp (⟨s, ok, e, w⟩ : X_event_readLine_13) fun y => LineP s y := by
  refine of_wp ?_
  simp only [tt_event_readLine_13]
  refine wp_ite (fun h1 => wp_ite (fun h2 => wp_if ieq_iff (fun h3 => wp_call (w_event_Right e) fun (y : Bool) hy => ?_) fun h3 => ?_) fun h2 => ?_) fun h1 => ?_
  · subst hy
    refine wp_ite (fun h4 => wp_call (w_event_line h4 we) fun (y : ByteArray) hy => ?_) fun h4 => ?_
    · subst hy
      refine ⟨fun q => ⟨h4, we, data_mkB.1 (seq_iff.1 q)⟩, fun e0 k => ?_⟩
      obtain ⟨_, _, _, rfl⟩ := h e0 k
      rw [show seq (lnB e) s = true from seq_iff.2 (data_mkB.2 k.2.2)]
    · exact line_no fun e0 k => by obtain ⟨_, _, _, rfl⟩ := h e0 k; exact h4 k.1
  · exact line_no fun e0 k => h3 (by have := (h e0 k).2.2.1; omega)
  · exact line_no fun e0 k => h2 (h e0 k).2.1
  · exact line_no fun e0 k => h1 (h e0 k).1
def valW (e : TApi_Event) : List (List UInt8) := if kValue e.Kind = true then [Lib.decDigits e.Value.toNat] else []
def tktW (e : TApi_Event) : List (List UInt8) := if kTicket e.Kind = true then [Lib.decDigits e.Ticket.toNat] else []
def rngW (e : TApi_Event) : List (List UInt8) := if kRing e.Kind = true then [Lib.decDigits e.Ring.toNat] else []
theorem wds_eq (e : TApi_Event) : wdsE e = Lib.decDigits e.Thread.toNat :: nmK e.Kind :: (rngW e ++ (tktW e ++ valW e)) := rfl
theorem L_nil {l : Sl ByteArray} (h : l.L = []) : l.n = 0 := by have := congrArg List.length h; simpa using this
theorem w_read11 {s : ByteArray} {ok : Bool} {e : TApi_Event} {w : TEvent_words} (we : WfE e) (hw : SzW w.l) (h : ∀ e0, IsLn s.data.toList e0 → ok = true ∧ w.ok = true ∧ w.l.L = (valW e0).map mkB ∧ e = ⟨e0.Thread, e0.Kind, e0.Ring, e0.Ticket, 0⟩) :
    D_event_readLine_11.wp (⟨s, ok, e, w⟩ : X_event_readLine_11) fun y => LineP s y := by
  refine of_wp ?_
  simp only [tt_event_readLine_11]
  refine wp_call (w_event_values e.Kind) fun (y : Bool) hy => ?_
  subst hy
  refine wp_ite (fun q => ?_) fun q => ?_
  · refine wp_call (w_next hw) fun (y : Int × TEvent_words) hy => ?_
    obtain ⟨k1, k2, k3⟩ := hy
    refine w_read13 ⟨we.1, we.2.1, we.2.2.1, we.2.2.2.1, k1⟩ fun e0 k => ?_
    obtain ⟨a1, a2, a3, a4⟩ := h e0 k
    have hk : kValue e0.Kind = true := by rw [a4] at q; exact q
    obtain ⟨_, _, _, _, v⟩ := k.2.1
    rw [valW, if_pos hk] at a3
    obtain ⟨b1, b2, b3⟩ := k3 e0.Value.toNat [] (by omega) a3 a2
    refine ⟨a1, b3, L_nil b2, ?_⟩
    rw [a4, b1, Int.toNat_of_nonneg v.1]
  · refine w_read13 we fun e0 k => ?_
    obtain ⟨a1, a2, a3, a4⟩ := h e0 k
    have hk : ¬ kValue e0.Kind = true := by rw [a4] at q; exact q
    rw [valW, if_neg hk] at a3
    have h0 := ((mRightE_iff.1 k.1).2.2.2.2.2.2).resolve_left hk
    refine ⟨a1, a2, L_nil a3, ?_⟩
    rw [a4, ← h0]
theorem w_read9 {s : ByteArray} {ok : Bool} {e : TApi_Event} {w : TEvent_words} (we : WfE e) (hw : SzW w.l) (h : ∀ e0, IsLn s.data.toList e0 → ok = true ∧ w.ok = true ∧ w.l.L = (tktW e0 ++ valW e0).map mkB ∧ e = ⟨e0.Thread, e0.Kind, e0.Ring, 0, 0⟩) :
    D_event_readLine_9.wp (⟨s, ok, e, w⟩ : X_event_readLine_9) fun y => LineP s y := by
  refine of_wp ?_
  simp only [tt_event_readLine_9]
  refine wp_call (w_event_tickets e.Kind) fun (y : Bool) hy => ?_
  subst hy
  refine wp_ite (fun q => ?_) fun q => ?_
  · refine wp_call (w_next hw) fun (y : Int × TEvent_words) hy => ?_
    obtain ⟨k1, k2, k3⟩ := hy
    refine w_read11 ⟨we.1, we.2.1, we.2.2.1, k1, we.2.2.2.2⟩ k2 fun e0 k => ?_
    obtain ⟨a1, a2, a3, a4⟩ := h e0 k
    have hk : kTicket e0.Kind = true := by rw [a4] at q; exact q
    obtain ⟨_, _, _, v, _⟩ := k.2.1
    rw [tktW, if_pos hk] at a3
    obtain ⟨b1, b2, b3⟩ := k3 e0.Ticket.toNat ((valW e0).map mkB) (by omega) a3 a2
    refine ⟨a1, b3, b2, ?_⟩
    rw [a4, b1, Int.toNat_of_nonneg v.1]
  · refine w_read11 we hw fun e0 k => ?_
    obtain ⟨a1, a2, a3, a4⟩ := h e0 k
    have hk : ¬ kTicket e0.Kind = true := by rw [a4] at q; exact q
    rw [tktW, if_neg hk, List.nil_append] at a3
    have h0 := ((mRightE_iff.1 k.1).2.2.2.2.2.1).resolve_left hk
    refine ⟨a1, a2, a3, ?_⟩
    rw [a4, ← h0]
theorem w_Split {s : ByteArray} (hs : s.size ≤ 30000) : ∃ y, con_strings_Split.rel (s, ByteArray.mk #[32]) y ∧ y.L = (spl 32 s.data.toList).map mkB := by
  refine ⟨slL (splL (s, mkB [32])), ?_, ?_⟩
  · show splS (s, mkB [32]) = some _
    unfold splS
    rw [show (Nat.blt s.size 4294967281 && Nat.ble 1 (mkB [32]).size) = true by
      simp only [Bool.and_eq_true, Nat.blt_eq, Nat.ble_eq]
      exact ⟨by omega, by decide⟩]
    rfl
  · rw [← splL_eq]
    apply List.ext_getElem?
    intro i
    rw [Sl.L_get?]
    show (if i < (splL (s, mkB [32])).length then some ((splL (s, mkB [32])).getD i ByteArray.empty) else none) = _
    by_cases h : i < (splL (s, mkB [32])).length
    · rw [if_pos h]; simp [List.getD, List.getElem?_eq_getElem h]
    · rw [if_neg h, List.getElem?_eq_none (by omega)]
theorem spl_sz {s : ByteArray} (hs : s.size ≤ 30000) : (spl 32 s.data.toList).length ≤ 30001 ∧ ∀ w ∈ spl 32 s.data.toList, w.length ≤ 30000 := by
  have hl := data_len s
  refine ⟨?_, fun w hw => ?_⟩
  · rw [spl_len]
    have := List.count_le_length (a := (32 : UInt8)) (l := s.data.toList)
    omega
  · have := spl_mem hw; omega
theorem isLn_spl {s : ByteArray} {e : TApi_Event} (h : IsLn s.data.toList e) : spl 32 s.data.toList = wdsE e := by rw [← h.2.2, spl_ln (mRightE_iff.1 h.1).1]
theorem L_words (y : Sl ByteArray) (b : Bool) (h : 2 ≤ y.n) : (Sl.mk b ((1 : Nat) + (y.n - Int.toNat 2)) fun i3 => cond (Nat.blt i3 1) (y.get (Int.toNat 0)) (y.get (Int.toNat 2 + (i3 - 1)))).L = y.get 0 :: y.L.drop 2 := by
  apply List.ext_getElem?
  intro i
  rw [Sl.L_get?]
  show (if i < 1 + (y.n - 2) then some (cond (Nat.blt i 1) (y.get 0) (y.get (2 + (i - 1)))) else none) = _
  cases i with
  | zero => rw [if_pos (by omega)]; rfl
  | succ i =>
    rw [List.getElem?_cons_succ, List.getElem?_drop, Sl.L_get?]
    by_cases q : i + 1 < 1 + (y.n - 2)
    · rw [if_pos q, if_pos (by omega), show Nat.blt (i + 1) 1 = false by simp [Nat.blt, Nat.ble]]
      rfl
    · rw [if_neg q, if_neg (by omega)]
theorem w_readLine {s : ByteArray} (hs : s.size ≤ 30000) : D_event_readLine.wp s fun y => LineP s y := by
  obtain ⟨sz1, sz2⟩ := spl_sz hs
  refine of_wp ?_
  simp only [tt_event_readLine]
  refine wp_call (w_Split hs) fun (y : Sl ByteArray) hy => ?_
  have hsz : SzW y := szW_of hy (by omega) fun w hw => by have := sz2 w hw; omega
  have yn : y.n = (spl 32 s.data.toList).length := by have := congrArg List.length hy; simpa using this
  have two : ∀ e0, IsLn s.data.toList e0 → y.L = (wdsE e0).map mkB := fun e0 k => by rw [hy, isLn_spl k]
  refine wp_if ilt_iff (fun h => line_no fun e0 k => ?_) fun h => ?_
  · rw [isLn_spl k, wds_eq] at yn; simp at yn; omega
  have h2 : 2 ≤ y.n := by omega
  have hyn := hsz.1
  refine wp_need (by rw [inb_iff2]; omega) (wp_need (by rw [upto_iff]; omega) (wp_need (room_ok (by show (1 + (y.n - 2)) * 16 ≤ _; omega)) (wp_need (by rw [inb_iff2]; omega) (wp_call (w_event_Find _) fun (f : Int × Bool) hf => ?_))))
  have hf0 : 0 ≤ f.1 ∧ f.1 ≤ 15 := by
    rcases hf with ⟨rfl, _⟩ | ⟨k, hk, rfl, _⟩
    · exact ⟨Int.le_refl _, by decide⟩
    · exact ⟨by show 0 ≤ k; omega, by show k ≤ 15; omega⟩
  have hfe : ∀ e0, IsLn s.data.toList e0 → f = (e0.Kind, true) := fun e0 k => by
    have h1 : y.get 1 = mkB (nmK e0.Kind) := by
      have := Sl.L_get y (show 1 < y.n by omega)
      rw [two e0 k, wds_eq] at this
      exact (Option.some.inj this).symm
    have hk := (mRightE_iff.1 k.1).1
    rcases hf with ⟨_, q⟩ | ⟨j, hj, rfl, q⟩
    · exact absurd h1 (q _ hk)
    · have := nmK_inj hj (mkB_inj (q.symm.trans h1))
      rw [this]
  have hL := L_words y (cond (Nat.beq (y.n - Int.toNat 2) 0) false false) h2
  have hwz : SzW (Sl.mk (cond (Nat.beq (y.n - Int.toNat 2) 0) false false) ((1 : Nat) + (y.n - Int.toNat 2)) fun i3 => cond (Nat.blt i3 1) (y.get (Int.toNat 0)) (y.get (Int.toNat 2 + (i3 - 1)))) := by
    refine ⟨by show 1 + (y.n - 2) ≤ 50000; omega, fun i hi => ?_⟩
    have hi : i < 1 + (y.n - 2) := hi
    cases i with
    | zero => exact hsz.2 0 (by omega)
    | succ i => exact hsz.2 (2 + (i + 1 - 1)) (by omega)
  have hL0 : ∀ e0, IsLn s.data.toList e0 → y.get 0 :: y.L.drop 2 = mkB (Lib.decDigits e0.Thread.toNat) :: (rngW e0 ++ (tktW e0 ++ valW e0)).map mkB := fun e0 k => by
    have := Sl.L_get y (show 0 < y.n by omega)
    rw [two e0 k, wds_eq] at this
    rw [two e0 k, wds_eq]
    rw [← Option.some.inj this]
    rfl
  refine wp_call (w_small hwz) fun (a : Int × TEvent_words) ha => ?_
  obtain ⟨a1, a2, a3⟩ := ha
  have a4 : ∀ e0, IsLn s.data.toList e0 → a.1 = e0.Thread ∧ a.2.l.L = (rngW e0 ++ (tktW e0 ++ valW e0)).map mkB ∧ a.2.ok = true := fun e0 k => by
    have ht := (mRightE_iff.1 k.1).2.1
    obtain ⟨b1, b2, b3⟩ := a3 e0.Thread.toNat _ (by omega) (hL.trans (hL0 e0 k)) rfl
    exact ⟨by rw [b1]; exact Int.toNat_of_nonneg ht.1, b2, b3⟩
  refine wp_call (w_event_Rings f.1) fun (r : Bool) hr => ?_
  subst hr
  have wz : ∀ z, (0 ≤ z ∧ z ≤ 1024) → WfE ⟨a.1, f.1, z, 0, 0⟩ := fun z hz => ⟨⟨by show _ ≤ a.1; omega, by show a.1 ≤ _; omega⟩, ⟨by show _ ≤ f.1; omega, by show f.1 ≤ _; omega⟩, ⟨by show _ ≤ z; omega, by show z ≤ _; omega⟩, ⟨Int.le_refl _, by show (0 : Int) < 18446744073709551616; decide⟩, Int.le_refl _, by show (0 : Int) < 18446744073709551616; decide⟩
  refine wp_ite (fun q => ?_) fun q => ?_
  · refine wp_call (w_small a2) fun (b : Int × TEvent_words) hb => ?_
    obtain ⟨b1, b2, b3⟩ := hb
    refine w_read9 (wz _ b1) b2 fun e0 k => ?_
    obtain ⟨c1, c2, c3⟩ := a4 e0 k
    have hk := hfe e0 k
    rw [hk] at q ⊢
    have hrg := (mRightE_iff.1 k.1).2.2.1
    rw [rngW, if_pos q] at c2
    obtain ⟨d1, d2, d3⟩ := b3 e0.Ring.toNat _ (by omega) c2 c3
    refine ⟨rfl, d3, d2, ?_⟩
    rw [c1, d1, Int.toNat_of_nonneg hrg.1]
  · refine w_read9 (wz 0 ⟨Int.le_refl _, by decide⟩) a2 fun e0 k => ?_
    obtain ⟨c1, c2, c3⟩ := a4 e0 k
    have hk := hfe e0 k
    rw [hk] at q ⊢
    rw [rngW, if_neg q, List.nil_append] at c2
    have h0 := ((mRightE_iff.1 k.1).2.2.2.2.1).resolve_left q
    refine ⟨rfl, c3, c2, ?_⟩
    rw [c1, ← h0]
/-! ### The program reads a text -/
def ReadP (R : List TApi_Event ⊕ Nat) (y : Sl TApi_Event × Int × Int) : Prop := match R with
  | .inl L => y.1.L = L ∧ y.2 = (0, 0)
  | .inr n => y.1.n = 0 ∧ y.2 = ((n : Int), 3)
theorem line_rd {s : ByteArray} {y : TApi_Event × Bool} (h : LineP s y) : (y.2 = true → rdE s.data.toList = some y.1) ∧ (y.2 ≠ true → rdE s.data.toList = none) := by
  refine ⟨fun q => rdE_some.2 (h.1 q), fun q => rdE_none.2 fun e k => q ?_⟩
  rw [h.2 e k]
theorem w_Cut {s : ByteArray} (hs : s.size ≤ 30000) : con_strings_Cut.rel (s, ByteArray.mk #[10]) (cutB (s, mkB [10])) := by
  show cutS (s, mkB [10]) = some _
  unfold cutS
  rw [show Nat.blt s.size 4294967281 = true by simp only [Nat.blt_eq]; omega]
  rfl
theorem L_pushE (l : Sl TApi_Event) (b : Bool) (e : TApi_Event) : (Sl.mk b (l.n + 1) fun i2 => TApi_Event.mk (cond (Nat.blt i2 l.n) (l.get i2).Thread e.Thread) (cond (Nat.blt i2 l.n) (l.get i2).Kind e.Kind) (cond (Nat.blt i2 l.n) (l.get i2).Ring e.Ring)
    (cond (Nat.blt i2 l.n) (l.get i2).Ticket e.Ticket) (cond (Nat.blt i2 l.n) (l.get i2).Value e.Value)).L = l.L ++ [e] := by
  rw [← L_push l b e]
  exact Sl.L_ext rfl fun i _ => ev_push (c := Nat.blt i l.n) (a := l.get i) (b := e)
theorem w_event_Read {s : ByteArray} (hs : s.size ≤ 30000) : D_event_Read.wp s fun y => ReadP (rdA [] (spl 10 s.data.toList)) y := by
  refine of_wp ?_
  simp only [tt_event_Read]
  generalize hR : rdA [] (spl 10 s.data.toList) = R
  refine loop_wp (x := (⟨s, Sl.mk true 0 fun _ => TApi_Event.mk 0 0 0 0 0⟩ : X_event_Read_1)) (fun x => x.s_0.size ≤ 30000 ∧ x.l_2.n ≤ 65536 ∧ rdA x.l_2.L (spl 10 x.s_0.data.toList) = R) (fun x => x.s_0.size) (fun _ (y : Sl TApi_Event × Int × Int) => ReadP R y) (fun D x hx hD => ?_)
    ⟨hs, Nat.zero_le _, hR⟩
  obtain ⟨s, l⟩ := x
  obtain ⟨hs, hn, hR⟩ := hx
  simp only at hs hn hR
  have hw : IntKind.i64.wrap ((l.n : Int) + 1) = ((l.n + 1 : Nat) : Int) := by rw [wrap64 (by omega) (by omega)]; rfl
  have stop : R = .inr (l.L.length + 1) → (TT.ret ((Sl.mk true 0 fun _ => TApi_Event.mk 0 0 0 0 0), (IntKind.i64.wrap ((l.n : Int) + 1), 3)) : TT Tryd.prog R_event_Read).wp fun y => ReadP R y := fun h => by
    rw [h, Sl.L_length, hw]
    exact ⟨rfl, rfl⟩
  simp only [tt_event_Read_1]
  refine wp_if (p := s ≠ ByteArray.mk #[]) (by rw [bnot_iff, seq_iff]) (fun hne => ⟨_, w_Cut hs, ?_⟩) fun he => ?_
  · by_cases hm : (10 : UInt8) ∈ s.data.toList
    · obtain ⟨a, r, e, ha⟩ := at_first hm
      rw [cutB_mem e ha]
      have hl := data_len s
      rw [e, List.length_append, List.length_cons] at hl
      rw [e, rdA_line ha] at hR
      refine wp_call (w_readLine (s := mkB a) (by rw [mkB_size]; omega)) fun (y : TApi_Event × Bool) hy => ?_
      obtain ⟨k1, k2⟩ := line_rd hy
      rw [mkB_data] at k1 k2
      refine wp_ite (fun h => by cases h) fun _ => wp_if bnot_iff (fun h => stop ?_) fun h => ?_
      · rw [← hR, k2 h]
      · rw [k1 (Classical.byContradiction h)] at hR
        simp only at hR
        refine wp_if ile_iff (fun h2 => stop ?_) fun h2 => ?_
        · rw [← hR, if_pos (by rw [Sl.L_length]; omega)]
        · rw [if_neg (by rw [Sl.L_length]; omega)] at hR
          refine of_wp ?_
          simp only [tt_event_Read_6]
          refine wp_need (room_ok (by omega)) (hD _ ⟨by rw [mkB_size]; omega, by show l.n + 1 ≤ 65536; omega, ?_⟩ (by show (mkB r).size < s.size; rw [mkB_size]; omega))
          rw [L_pushE, mkB_data]
          exact hR
    · rw [cutB_miss hm]
      refine wp_call (w_readLine hs) fun (y : TApi_Event × Bool) hy => wp_ite (fun _ => stop ?_) fun h => absurd rfl h
      rw [← hR, rdA_last hm, if_neg]
      intro q
      exact hne (data_mkB (l := []).2 q.symm).symm
  · have he := Classical.byContradiction he
    rw [he] at hR
    rw [← hR]
    show ReadP (rdA l.L [[]]) _
    rw [rdA, if_pos rfl]
    exact ⟨rfl, rfl⟩

/-! ### The document's numbers -/
def numW (s : ByteArray) : Nat → Int
  | 0 => 0
  | k + 1 => IntKind.u64.wrap (IntKind.u64.wrap (10 * numW s k) + IntKind.u64.wrap (IntKind.u8.wrap (bt s k - 48)))
theorem numW_rng (s : ByteArray) : ∀ k, 0 ≤ numW s k ∧ numW s k < 18446744073709551616
  | 0 => ⟨Int.le_refl _, by show (0 : Int) < _; decide⟩
  | k + 1 => wf_wrap64 _
theorem w_r15_number {s : ByteArray} (hs : s.size ≤ 50000) : D_r15_number.wp s fun y => y = numW s s.size := by
  refine of_wp ?_
  simp only [tt_r15_number]
  refine count_wp (fun k => (⟨s, numW s k, (k : Nat)⟩ : X_r15_number_3)) s.size (fun _ => True) _ (fun D _ => ?_) (fun D k hk _ hD => ?_) (Nat.zero_le _) trivial
  · simp only [tt_r15_number_3, ilt_nat, Nat.lt_irrefl, decide_false, wp_false]; rfl
  · simp only [tt_r15_number_3, ilt_nat, hk, decide_true, wp_true, inb_nat hk, wp_need_true, Int.toNat_natCast, next64 hk (show s.size ≤ maxLen by simp only [maxLen]; omega)]
    exact hD trivial
theorem bt_mkB {l : List UInt8} {k : Nat} (h : k < l.length) : bt (mkB l) k = ((l[k].toNat : Nat) : Int) := by
  have h' : k < (mkB l).size := by rw [mkB_size]; exact h
  unfold bt
  rw [dif_pos h']
  rfl
theorem bt_data {s : ByteArray} {k : Nat} (h : k < s.data.toList.length) : bt s k = ((s.data.toList[k].toNat : Nat) : Int) := by
  have := bt_mkB h
  rwa [mkB_list] at this
theorem numW_val {l : List UInt8} (hd : ∀ c ∈ l, 48 ≤ c.toNat ∧ c.toNat ≤ 57) (hv : valF 0 l < 18446744073709551616) : ∀ k, k ≤ l.length → numW (mkB l) k = ((valF 0 (l.take k) : Nat) : Int)
  | 0, _ => by rw [List.take_zero, valF_nil]; rfl
  | k + 1, h => by
    have hk : k < l.length := h
    have ih := numW_val hd hv k (by omega)
    have ht : l.take (k + 1) = l.take k ++ [l[k]] := by rw [List.take_add_one, List.getElem?_eq_getElem hk]; rfl
    have hle : valF 0 (l.take (k + 1)) ≤ valF 0 l := by
      conv => rhs; rw [← List.take_append_drop (k + 1) l, valF_app]
      exact valF_ge _ _
    have hs : valF 0 (l.take (k + 1)) = valF 0 (l.take k) * 10 + (l[k].toNat - 48) := by rw [ht, valF_app, valF_cons, valF_nil]
    have hc := hd l[k] (List.getElem_mem hk)
    rw [numW, ih, bt_mkB hk, hs, wrapu8, show (((l[k].toNat : Nat) : Int) - 48) % 256 = ((l[k].toNat - 48 : Nat) : Int) by omega]
    rw [wrapu64 (z := 10 * _) (by omega) (by omega), wrapu64 (z := ((l[k].toNat - 48 : Nat) : Int)) (by omega) (by omega), wrapu64 (by omega) (by omega)]
    omega
theorem numW_dig {n : Nat} (h : n < 18446744073709551616) : numW (mkB (Lib.decDigits n)) (mkB (Lib.decDigits n)).size = (n : Int) := by
  rw [mkB_size, numW_val (dig_all n) (by rw [valF_dig]; exact h) _ (Nat.le_refl _), List.take_length, valF_dig]

/-! ### The document reads a line -/
theorem ext_mkB {s : ByteArray} {i at_ : Nat} {a t : List UInt8} (h : s.data.toList.drop at_ = a ++ t) (hi : at_ + a.length = i) : s.extract at_ i = mkB a := by
  have e : (s.extract at_ i).data.toList = a := by rw [Lib.extract_data, h, show i - at_ = a.length by omega, List.take_left]
  rw [← mkB_list (s.extract at_ i), e]
theorem u8_of {c : UInt8} {n : Nat} (hn : n < 256) : ((c.toNat : Nat) : Int) = (n : Int) ↔ c = UInt8.ofNat n := by
  rw [Int.natCast_inj]
  constructor
  · intro h; apply UInt8.toNat_inj.1; rw [h, UInt8.toNat_ofNat']; omega
  · intro h; rw [h, UInt8.toNat_ofNat']; omega
theorem w_RL31 {s : ByteArray} {z m : TApi_Event} (wm : WfE m) (h : ∀ e0, IsLn s.data.toList e0 → m = e0) : D_r15_ReadLine_31.wp (⟨s, z, m⟩ : X_r15_ReadLine_31) fun y => LineP s y := by
  refine of_wp ?_
  simp only [tt_r15_ReadLine_31]
  refine wp_call (w_r15_Right m) fun (y : Bool) hy => ?_
  subst hy
  refine wp_if bnot_iff (fun q => line_no fun e0 k => ?_) fun q => ?_
  · have := h e0 k
    subst this
    exact q k.1
  · have q := Classical.byContradiction q
    refine wp_call (w_r15_Line q wm) fun (y : ByteArray) hy => ?_
    subst hy
    refine wp_if (p := ¬ lnB m = s) (by rw [bnot_iff, seq_iff]) (fun r => line_no fun e0 k => ?_) fun r => ?_
    · have := h e0 k
      subst this
      exact r (data_mkB.2 k.2.2)
    · have r := Classical.byContradiction r
      exact ⟨fun _ => ⟨q, wm, data_mkB.1 r⟩, fun e0 k => by rw [h e0 k]⟩
theorem ring_value {k : Int} (h : kRing k = true) : ¬ kValue k = true := by rw [kRing_iff] at h; rw [kValue_iff]; omega
theorem letters {k : Int} {i : Nat} (h : i < (namB k).size) : (bt (namB k) i = 82 ∧ i = 0 ∧ kRing k = true) ∨ (bt (namB k) i = 84 ∧ i = 1 ∧ kTicket k = true) ∨ (bt (namB k) i = 86 ∧ i = 0 ∧ kValue k = true ∧ ¬ kRing k = true) := by
  unfold namB at h ⊢
  by_cases t : kTicket k = true
  · rw [if_pos t] at h ⊢
    have h : i < 2 := h
    rcases (by omega : i = 0 ∨ i = 1) with e | e <;> subst e
    · exact .inl ⟨rfl, rfl, ticket_ring t⟩
    · exact .inr (.inl ⟨rfl, rfl, t⟩)
  · by_cases r : kRing k = true
    · rw [if_neg t, if_pos r] at h ⊢
      have h : i < 1 := h
      obtain rfl : i = 0 := by omega
      exact .inl ⟨rfl, rfl, r⟩
    · by_cases v : kValue k = true
      · rw [if_neg t, if_neg r, if_pos v] at h ⊢
        have h : i < 1 := h
        obtain rfl : i = 0 := by omega
        exact .inr (.inr ⟨rfl, rfl, v, r⟩)
      · rw [if_neg t, if_neg r, if_neg v] at h
        exact absurd h (Nat.not_lt_zero _)
def restW (e : TApi_Event) : List (List UInt8) := rngW e ++ (tktW e ++ valW e)
theorem rest_len (e : TApi_Event) : (restW e).length = (namB e.Kind).size := by
  unfold restW rngW tktW valW namB
  by_cases t : kTicket e.Kind = true
  · rw [if_pos t, if_pos t, if_pos (ticket_ring t), if_neg (ring_value (ticket_ring t))]; rfl
  · by_cases r : kRing e.Kind = true
    · rw [if_neg t, if_neg t, if_pos r, if_pos r, if_neg (ring_value r)]; rfl
    · by_cases v : kValue e.Kind = true
      · rw [if_neg t, if_neg t, if_neg r, if_neg r, if_pos v, if_pos v]; rfl
      · rw [if_neg t, if_neg t, if_neg r, if_neg r, if_neg v, if_neg v]; rfl
theorem nam_le (k : Int) : (namB k).size ≤ 2 := by
  unfold namB
  split
  · exact Nat.le_refl _
  · split
    · exact Nat.le_succ _
    · split
      · exact Nat.le_succ _
      · exact Nat.zero_le _
/-- What is read of an event behind so many letters. -/
def aft (e : TApi_Event) (i : Nat) : TApi_Event := ⟨e.Thread, e.Kind, if kRing e.Kind = true ∧ 1 ≤ i then e.Ring else 0, if kTicket e.Kind = true ∧ 2 ≤ i then e.Ticket else 0, if kValue e.Kind = true ∧ 1 ≤ i then e.Value else 0⟩
theorem aft_end {e : TApi_Event} (h : mRightE e = true) : aft e (namB e.Kind).size = e := by
  have hr := (mRightE_iff.1 h).2.2.2.2
  obtain ⟨T, K, R, N, V⟩ := e
  simp only at hr
  unfold aft namB
  simp only [TApi_Event.mk.injEq, true_and]
  by_cases t : kTicket K = true
  · have r := ticket_ring t
    have v := ring_value r
    rw [if_pos t, if_pos ⟨r, show 1 ≤ 2 by omega⟩, if_pos ⟨t, show 2 ≤ 2 by omega⟩, if_neg (fun q => v q.1)]
    exact ⟨rfl, rfl, (hr.2.2.resolve_left v).symm⟩
  · by_cases r : kRing K = true
    · have v := ring_value r
      rw [if_neg t, if_pos r, if_pos ⟨r, show 1 ≤ 1 by omega⟩, if_neg (fun q => t q.1), if_neg (fun q => v q.1)]
      exact ⟨rfl, (hr.2.1.resolve_left t).symm, (hr.2.2.resolve_left v).symm⟩
    · by_cases v : kValue K = true
      · rw [if_neg t, if_neg r, if_pos v, if_neg (fun q => r q.1), if_neg (fun q => t q.1), if_pos ⟨v, show 1 ≤ 1 by omega⟩]
        exact ⟨(hr.1.resolve_left r).symm, (hr.2.1.resolve_left t).symm, rfl⟩
      · rw [if_neg (fun q => r q.1), if_neg (fun q => t q.1), if_neg (fun q => v q.1)]
        exact ⟨(hr.1.resolve_left r).symm, (hr.2.1.resolve_left t).symm, (hr.2.2.resolve_left v).symm⟩
theorem imin100 {v : Int} (h : 0 ≤ v) : 0 ≤ IntKind.i64.wrap (imin v 100) ∧ IntKind.i64.wrap (imin v 100) ≤ 100 ∧ (v ≤ 100 → IntKind.i64.wrap (imin v 100) = v) := by
  have hm : 0 ≤ imin v 100 ∧ imin v 100 ≤ 100 ∧ (v ≤ 100 → imin v 100 = v) := by
    unfold imin
    cases q : ilt 100 v
    · rw [ilt_false] at q; exact ⟨h, q, fun _ => rfl⟩
    · rw [ilt_iff] at q; exact ⟨by show (0 : Int) ≤ 100; decide, Int.le_refl _, fun k => by omega⟩
  rw [wrap64 (by omega) (by omega)]
  exact hm
theorem w_RL21 {s : ByteArray} {w : Sl ByteArray} {z m : TApi_Event} (hw : SzW w) (hn : w.n = 2 + (namB m.Kind).size) (wm : WfE m)
    (hL : ∀ e0, IsLn s.data.toList e0 → w.L = (wdsE e0).map mkB ∧ m = aft e0 0) : D_r15_ReadLine_21.wp (⟨s, w, namB m.Kind, 0, z, m⟩ : X_r15_ReadLine_21) fun y => LineP s y := by
  have hsz := nam_le m.Kind
  refine loop_wp (x := (⟨s, w, namB m.Kind, 0, z, m⟩ : X_r15_ReadLine_21)) (fun x => x.s_0 = s ∧ x.w_4 = w ∧ x.f_9 = namB m.Kind ∧ x.m_2 = z ∧ ∃ i : Nat, i ≤ (namB m.Kind).size ∧ x.i_10 = (i : Int) ∧ WfE x.m_7 ∧ ∀ e0, IsLn s.data.toList e0 → x.m_7 = aft e0 i)
    (fun x => (namB m.Kind).size - x.i_10.toNat) (fun _ (y : TApi_Event × Bool) => LineP s y) (fun D x hx hD => ?_) ⟨rfl, rfl, rfl, rfl, 0, Nat.zero_le _, rfl, wm, fun e0 k => (hL e0 k).2⟩
  obtain ⟨s', w', f', i', z', n⟩ := x
  obtain ⟨h1, h2, h3, h4, i, hi, h5, wn, hE⟩ := hx
  simp only at h1 h2 h3 h4 h5 wn hE
  subst h1
  subst h2
  subst h3
  subst h4
  subst h5
  simp only [tt_r15_ReadLine_21, ilt_nat]
  by_cases hlt : i < (namB m.Kind).size
  · have hw2 : IntKind.i64.wrap ((2 : Int) + (i : Int)) = ((2 + i : Nat) : Int) := by rw [wrap64 (by omega) (by omega)]; rfl
    have hne : IntKind.i64.wrap ((i : Int) + 1) = ((i + 1 : Nat) : Int) := by rw [wrap64 (by omega) (by omega)]; rfl
    simp only [hlt, decide_true, wp_true, hw2, Int.toNat_natCast]
    refine wp_need (inb_nat (by omega)) (wp_call (w_r15_number (hw.2 (2 + i) (by omega))) fun (v : Int) hv => wp_need (inb_nat hlt) ?_)
    subst hv
    have hrng := numW_rng (w'.get (2 + i)) (w'.get (2 + i)).size
    have word : ∀ e0, IsLn s'.data.toList e0 → ∀ n, n < 18446744073709551616 → (restW e0)[i]? = some (Lib.decDigits n) → numW (w'.get (2 + i)) (w'.get (2 + i)).size = (n : Int) := fun e0 k n hn' hd => by
      have := Sl.L_get w' (show 2 + i < w'.n by omega)
      rw [(hL e0 k).1, wds_eq, Nat.add_comm 2 i] at this
      simp only [List.map_cons, List.getElem?_cons_succ, List.getElem?_map] at this
      rw [show rngW e0 ++ (tktW e0 ++ valW e0) = restW e0 from rfl, hd] at this
      rw [Nat.add_comm 2 i, ← Option.some.inj this]
      exact numW_dig hn'
    have h22 : ∀ n' : TApi_Event, WfE n' → (∀ e0, IsLn s'.data.toList e0 → n' = aft e0 (i + 1)) → (D_r15_ReadLine_22 D).wp (⟨s', w', namB m.Kind, (i : Nat), z', n'⟩ : X_r15_ReadLine_22) fun y => LineP s' y := fun n' wn' hE' => by
      refine of_wp ?_
      simp only [tt_r15_ReadLine_22, hne]
      exact hD _ ⟨rfl, rfl, rfl, rfl, i + 1, hlt, rfl, wn', hE'⟩ (by show (namB m.Kind).size - ((i + 1 : Nat) : Int).toNat < (namB m.Kind).size - ((i : Nat) : Int).toNat; omega)
    have hK : ∀ e0, IsLn s'.data.toList e0 → m.Kind = e0.Kind := fun e0 k => by rw [(hL e0 k).2]; rfl
    rcases letters hlt with ⟨l1, l2, l3⟩ | ⟨l1, l2, l3⟩ | ⟨l1, l2, l3, l4⟩
    · rw [l1]
      refine wp_ite (fun _ => ?_) fun h => absurd rfl h
      have hm := imin100 hrng.1
      refine h22 _ ⟨wn.1, wn.2.1, ⟨by show _ ≤ IntKind.i64.wrap _; omega, by show IntKind.i64.wrap _ ≤ _; omega⟩, wn.2.2.2⟩ fun e0 k => ?_
      rw [hK e0 k] at l3
      have hr := (mRightE_iff.1 k.1).2.2.1
      have hv := word e0 k e0.Ring.toNat (by omega) (by unfold restW rngW; rw [if_pos l3, l2]; rfl)
      rw [Int.toNat_of_nonneg hr.1] at hv
      rw [hv] at hm ⊢
      rw [hE e0 k, hm.2.2 (by omega), l2]
      unfold aft
      simp only [TApi_Event.mk.injEq, true_and]
      rw [if_pos ⟨l3, show 1 ≤ 0 + 1 by omega⟩, if_neg (fun q => absurd q.2 (by omega)), if_neg (fun q => absurd q.2 (by omega)), if_neg (fun q => absurd q.2 (by omega)), if_neg (fun q => ring_value l3 q.1)]
      exact ⟨rfl, rfl, rfl⟩
    · rw [l1]
      refine wp_ite (fun h => by cases h) fun _ => wp_ite (fun _ => ?_) fun h => absurd rfl h
      refine h22 _ ⟨wn.1, wn.2.1, wn.2.2.1, hrng, wn.2.2.2.2⟩ fun e0 k => ?_
      rw [hK e0 k] at l3
      have hr := k.2.1.2.2.2.1
      have l4 := ticket_ring l3
      have hv := word e0 k e0.Ticket.toNat (by omega) (by unfold restW rngW tktW; rw [if_pos l3, if_pos l4, l2]; rfl)
      rw [Int.toNat_of_nonneg hr.1] at hv
      rw [hv, hE e0 k, l2]
      unfold aft
      simp only [TApi_Event.mk.injEq, true_and]
      rw [if_pos ⟨l4, show 1 ≤ 1 by omega⟩, if_pos ⟨l4, show 1 ≤ 1 + 1 by omega⟩, if_pos ⟨l3, show 2 ≤ 1 + 1 by omega⟩, if_neg (fun q => ring_value l4 q.1), if_neg (fun q => ring_value l4 q.1)]
      exact ⟨rfl, rfl, rfl⟩
    · rw [l1]
      refine wp_ite (fun h => by cases h) fun _ => wp_ite (fun h => by cases h) fun _ => wp_ite (fun _ => ?_) fun h => absurd rfl h
      refine h22 _ ⟨wn.1, wn.2.1, wn.2.2.1, wn.2.2.2.1, hrng⟩ fun e0 k => ?_
      rw [hK e0 k] at l3 l4
      have hr := k.2.1.2.2.2.2
      have l5 : ¬ kTicket e0.Kind = true := fun q => l4 (ticket_ring q)
      have hv := word e0 k e0.Value.toNat (by omega) (by unfold restW rngW tktW valW; rw [if_neg l4, if_neg l5, if_pos l3, l2]; rfl)
      rw [Int.toNat_of_nonneg hr.1] at hv
      rw [hv, hE e0 k, l2]
      unfold aft
      simp only [TApi_Event.mk.injEq, true_and]
      rw [if_neg (fun q => l4 q.1), if_neg (fun q => l4 q.1), if_neg (fun q => l5 q.1), if_neg (fun q => l5 q.1), if_pos ⟨l3, show 1 ≤ 0 + 1 by omega⟩]
      exact ⟨rfl, rfl, rfl⟩
  · simp only [hlt, decide_false, wp_false]
    refine w_RL31 wn fun e0 k => ?_
    obtain rfl : i = (namB m.Kind).size := by omega
    rw [hE e0 k, show m.Kind = e0.Kind by rw [(hL e0 k).2]; rfl, aft_end k.1]
theorem w_RL17 {s : ByteArray} {w : Sl ByteArray} {z m : TApi_Event} (hw : SzW w) (wm : WfE m) (hL : ∀ e0, IsLn s.data.toList e0 → w.L = (wdsE e0).map mkB ∧ m = aft e0 0) :
    D_r15_ReadLine_17.wp (⟨s, w, z, m⟩ : X_r15_ReadLine_17) fun y => LineP s y := by
  refine of_wp ?_
  simp only [tt_r15_ReadLine_17]
  refine wp_call (w_r15_Names m.Kind) fun (f : ByteArray) hf => ?_
  subst hf
  have hsz := nam_le m.Kind
  have hw2 : IntKind.i64.wrap ((2 : Int) + ((namB m.Kind).size : Int)) = ((2 + (namB m.Kind).size : Nat) : Int) := by rw [wrap64 (by omega) (by omega)]; rfl
  rw [hw2]
  refine wp_if (p := ¬ w.n = 2 + (namB m.Kind).size) (by rw [bnot_iff, ieq_iff]; exact not_congr Int.natCast_inj) (fun h => line_no fun e0 k => h ?_) fun h => w_RL21 hw (Classical.byContradiction h) wm hL
  have h1 := congrArg List.length (hL e0 k).1
  rw [Sl.L_length, List.length_map, wds_eq, List.length_cons, List.length_cons, show (rngW e0 ++ (tktW e0 ++ valW e0)).length = (restW e0).length from rfl, rest_len] at h1
  rw [(hL e0 k).2]
  show w.n = 2 + (namB e0.Kind).size
  omega
theorem w_RL13 {s : ByteArray} {w : Sl ByteArray} {z : TApi_Event} {T : Int} (hw : SzW w) (h2 : 2 ≤ w.n) (hT : 0 ≤ T ∧ T ≤ 100) (hL : ∀ e0, IsLn s.data.toList e0 → w.L = (wdsE e0).map mkB ∧ T = e0.Thread) :
    D_r15_ReadLine_13.wp (⟨s, w, 1, z, ⟨T, 0, 0, 0, 0⟩⟩ : X_r15_ReadLine_13) fun y => LineP s y := by
  have big : (0 : Int) < 18446744073709551616 := by decide
  refine loop_wp (x := (⟨s, w, 1, z, ⟨T, 0, 0, 0, 0⟩⟩ : X_r15_ReadLine_13)) (fun x => x.s_0 = s ∧ x.w_4 = w ∧ x.m_2 = z ∧ ∃ (k : Nat) (K : Int), (1 ≤ k ∧ k ≤ 16) ∧ x.k_8 = (k : Int) ∧ x.m_7 = ⟨T, K, 0, 0, 0⟩ ∧ (0 ≤ K ∧ K ≤ 15) ∧ ∀ e0, IsLn s.data.toList e0 → K = if e0.Kind < (k : Int) then e0.Kind else 0)
    (fun x => 17 - x.k_8.toNat) (fun _ (y : TApi_Event × Bool) => LineP s y) (fun D x hx hD => ?_) ⟨rfl, rfl, rfl, 1, 0, by omega, rfl, rfl, by omega, fun e0 k => ?_⟩
  · obtain ⟨s', w', k', z', n⟩ := x
    obtain ⟨h1, h3, h4, k, K, hk, h5, h6, hK, hE⟩ := hx
    simp only at h1 h3 h4 h5 h6
    subst h1
    subst h3
    subst h4
    subst h5
    subst h6
    have one : ∀ e0, IsLn s'.data.toList e0 → w'.get 1 = mkB (nmK e0.Kind) := fun e0 q => by
      have := Sl.L_get w' (show 1 < w'.n by omega)
      rw [(hL e0 q).1, wds_eq] at this
      exact (Option.some.inj this).symm
    simp only [tt_r15_ReadLine_13]
    refine wp_if ile_iff (fun hle => ?_) fun hle => ?_
    · have hne : IntKind.i64.wrap ((k : Int) + 1) = ((k + 1 : Nat) : Int) := by rw [wrap64 (by omega) (by omega)]; rfl
      have h14 : ∀ K' : Int, (0 ≤ K' ∧ K' ≤ 15) → (∀ e0, IsLn s'.data.toList e0 → K' = if e0.Kind < ((k + 1 : Nat) : Int) then e0.Kind else 0) → (D_r15_ReadLine_14 D).wp (⟨s', w', (k : Nat), z', ⟨T, K', 0, 0, 0⟩⟩ : X_r15_ReadLine_14) fun y => LineP s' y := fun K' hK' hE' => by
        refine of_wp ?_
        simp only [tt_r15_ReadLine_14, hne]
        exact hD _ ⟨rfl, rfl, rfl, k + 1, K', by omega, rfl, rfl, hK', hE'⟩ (by show 17 - ((k + 1 : Nat) : Int).toNat < 17 - ((k : Nat) : Int).toNat; omega)
      refine wp_call (w_r15_Name (k : Int)) fun (y : ByteArray) hy => wp_need (by rw [inb_iff2]; omega) ?_
      subst hy
      refine wp_if seq_iff (fun q => h14 _ (by omega) fun e0 r => ?_) fun q => h14 _ hK fun e0 r => ?_
      · have e1 : (k : Int) = e0.Kind := nmK_inj (by omega) (mkB_inj (q.trans (one e0 r)))
        rw [if_pos (by omega), e1]
      · have e1 : (k : Int) ≠ e0.Kind := fun e => q (by show mkB (nmK (k : Int)) = w'.get 1; rw [one e0 r, e])
        rw [hE e0 r]
        by_cases h : e0.Kind < (k : Int)
        · rw [if_pos h, if_pos (by omega)]
        · rw [if_neg h, if_neg (by omega)]
    · refine w_RL17 hw ⟨⟨by show _ ≤ T; omega, by show T ≤ _; omega⟩, ⟨by show _ ≤ K; omega, by show K ≤ _; omega⟩, ⟨by show _ ≤ (0 : Int); decide, by show (0 : Int) ≤ _; decide⟩, ⟨Int.le_refl _, big⟩, Int.le_refl _, big⟩ fun e0 r => ⟨(hL e0 r).1, ?_⟩
      have hk' := (mRightE_iff.1 r.1).1
      have hEK := hE e0 r
      rw [if_pos (by omega)] at hEK
      unfold aft
      simp only [TApi_Event.mk.injEq]
      rw [if_neg (fun q => absurd q.2 (by omega)), if_neg (fun q => absurd q.2 (by omega)), if_neg (fun q => absurd q.2 (by omega))]
      exact ⟨(hL e0 r).2, hEK, rfl, rfl, rfl⟩
  · have hk' := (mRightE_iff.1 k.1).1
    rw [if_neg (by omega)]
theorem w_RL9 {s : ByteArray} {w : Sl ByteArray} {z : TApi_Event} (hw : SzW w) (hW : w.L = (spl 32 s.data.toList).map mkB) : D_r15_ReadLine_9.wp (⟨s, w, z⟩ : X_r15_ReadLine_9) fun y => LineP s y := by
  have hL : ∀ e0, IsLn s.data.toList e0 → w.L = (wdsE e0).map mkB := fun e0 k => by rw [hW, isLn_spl k]
  have hn : ∀ e0, IsLn s.data.toList e0 → w.n = 2 + (namB e0.Kind).size := fun e0 k => by
    have h1 := congrArg List.length (hL e0 k)
    rw [Sl.L_length, List.length_map, wds_eq, List.length_cons, List.length_cons, show (rngW e0 ++ (tktW e0 ++ valW e0)).length = (restW e0).length from rfl, rest_len] at h1
    omega
  refine of_wp ?_
  simp only [tt_r15_ReadLine_9]
  refine wp_if ilt_iff (fun h => line_no fun e0 k => ?_) fun h2 => wp_if ilt_iff (fun h => line_no fun e0 k => ?_) fun h4 => of_wp ?_
  · have := hn e0 k; omega
  · have := hn e0 k; have := nam_le e0.Kind; omega
  · simp only [tt_r15_ReadLine_11]
    refine wp_need (by rw [inb_iff2]; omega) (wp_call (w_r15_number (hw.2 0 (by omega))) fun (v : Int) hv => ?_)
    subst hv
    have hm := imin100 (numW_rng (w.get 0) (w.get 0).size).1
    refine w_RL13 hw (by omega) ⟨hm.1, hm.2.1⟩ fun e0 k => ⟨hL e0 k, ?_⟩
    have h0 : w.get 0 = mkB (Lib.decDigits e0.Thread.toNat) := by
      have := Sl.L_get w (show 0 < w.n by omega)
      rw [hL e0 k, wds_eq] at this
      exact (Option.some.inj this).symm
    have ht := (mRightE_iff.1 k.1).2.1
    have hv := numW_dig (n := e0.Thread.toNat) (by omega)
    rw [← h0, Int.toNat_of_nonneg ht.1] at hv
    rw [hv] at hm
    show IntKind.i64.wrap (imin (numW (w.get 0) (w.get 0).size) 100) = e0.Thread
    rw [hv]
    exact hm.2.2 (by omega)
theorem w_r15_ReadLine {s : ByteArray} (hs : s.size ≤ 30000) : D_r15_ReadLine.wp s fun y => LineP s y := by
  have hN := data_len s
  obtain ⟨sz1, sz2⟩ := spl_sz hs
  refine of_wp ?_
  simp only [tt_r15_ReadLine]
  refine loop_wp (x := (⟨s, Sl.mk true 0 fun _ => ByteArray.mk #[], 0, 0, ⟨0, 0, 0, 0, 0⟩⟩ : X_r15_ReadLine_4))
    (fun x => x.s_0 = s ∧ x.m_2 = ⟨0, 0, 0, 0, 0⟩ ∧ ∃ i : Nat, x.i_6 = (i : Int) ∧ x.w_4.n ≤ i ∧ ((i ≤ s.size ∧ ∃ (a : Nat) (p : List UInt8), x.at_5 = (a : Int) ∧ s.data.toList.drop a = p ++ s.data.toList.drop i ∧ a + p.length = i ∧ (32 : UInt8) ∉ p ∧ x.w_4.L ++ (spl 32 (s.data.toList.drop a)).map mkB = (spl 32 s.data.toList).map mkB) ∨
      (i = s.size + 1 ∧ x.w_4.L = (spl 32 s.data.toList).map mkB)))
    (fun x => s.size + 2 - x.i_6.toNat) (fun _ (y : TApi_Event × Bool) => LineP s y) (fun D x hx hD => ?_) ⟨rfl, rfl, 0, rfl, Nat.le_refl _, .inl ⟨Nat.zero_le _, 0, [], rfl, rfl, rfl, by simp, rfl⟩⟩
  obtain ⟨s', w, at_, i', z⟩ := x
  obtain ⟨h1, h2, i, h3, hwn, hx⟩ := hx
  simp only at h1 h2 h3 hwn hx
  subst h1
  subst h2
  subst h3
  have hne : i ≤ s'.size + 1 → IntKind.i64.wrap ((i : Int) + 1) = ((i + 1 : Nat) : Int) := fun h => by rw [wrap64 (by omega) (by omega)]; rfl
  simp only [tt_r15_ReadLine_4]
  rcases hx with ⟨hi, a, p, h4, hd, hap, hp, hL⟩ | ⟨hi, hL⟩
  · subst h4
    have push : ∀ (b : Bool), (Sl.mk b (w.n + 1) fun i2 => cond (Nat.blt i2 w.n) (w.get i2) (ByteArray.extract s' (Int.toNat (a : Int)) (Int.toNat (i : Int)))).L = w.L ++ [mkB p] := fun b => by
      rw [L_push, Int.toNat_natCast, Int.toNat_natCast, ext_mkB hd hap]
    have up : (upto (i : Int) s'.size && upto (a : Int) (Int.toNat (i : Int))) = true := by
      rw [Bool.and_eq_true, upto_iff, upto_iff, Int.toNat_natCast]; omega
    have ro : (true && room (w.n + 1) 16) = true := room_ok (by omega)
    refine wp_if ile_iff (fun _ => wp_if ieq_iff (fun he => ?_) fun he => ?_) fun h => absurd (by omega) h
    · obtain rfl : i = s'.size := by omega
      refine wp_need up (wp_need ro (of_wp ?_))
      simp only [tt_r15_ReadLine_5, hne (by omega)]
      refine hD _ ⟨rfl, rfl, s'.size + 1, rfl, by show w.n + 1 ≤ s'.size + 1; omega, .inr ⟨rfl, ?_⟩⟩ (by show s'.size + 2 - ((s'.size + 1 : Nat) : Int).toNat < s'.size + 2 - ((s'.size : Nat) : Int).toNat; omega)
      rw [push, ← hL, hd, List.drop_of_length_le (by omega), List.append_nil, spl_none hp]
      rfl
    · have hlt : i < s'.data.toList.length := by omega
      have hdi : s'.data.toList.drop i = s'.data.toList[i] :: s'.data.toList.drop (i + 1) := List.drop_eq_getElem_cons hlt
      refine wp_need (by rw [inb_iff2]; omega) ?_
      rw [Int.toNat_natCast, bt_data hlt]
      refine wp_if (p := s'.data.toList[i] = 32) (ieq_iff.trans (u8_of (n := 32) (by omega))) (fun hc => ?_) fun hc => ?_
      · refine wp_need up (wp_need ro (of_wp ?_))
        simp only [tt_r15_ReadLine_5, hne (by omega)]
        have hpush := push (cond (Nat.beq 1 0) w.nil false)
        refine hD _ ⟨rfl, rfl, i + 1, rfl, by show w.n + 1 ≤ i + 1; omega, .inl ⟨by omega, i + 1, [], rfl, rfl, rfl, by simp, ?_⟩⟩ (by show s'.size + 2 - ((i + 1 : Nat) : Int).toNat < s'.size + 2 - ((i : Nat) : Int).toNat; omega)
        show (Sl.mk (cond (Nat.beq 1 0) w.nil false) (w.n + 1) fun i2 => cond (Nat.blt i2 w.n) (w.get i2) (ByteArray.extract s' (Int.toNat (a : Int)) (Int.toNat (i : Int)))).L ++ _ = _
        rw [hpush, ← hL, hd, hdi, hc, spl_app hp, List.map_cons, List.append_assoc]
        rfl
      · refine of_wp ?_
        simp only [tt_r15_ReadLine_5, hne (by omega)]
        refine hD _ ⟨rfl, rfl, i + 1, rfl, by show w.n ≤ i + 1; omega, .inl ⟨by omega, a, p ++ [s'.data.toList[i]], rfl, ?_, ?_, ?_, hL⟩⟩ (by show s'.size + 2 - ((i + 1 : Nat) : Int).toNat < s'.size + 2 - ((i : Nat) : Int).toNat; omega)
        · rw [hd, hdi, List.append_assoc]; rfl
        · rw [List.length_append, List.length_singleton]; omega
        · rw [List.mem_append, List.mem_singleton]
          rintro (q | q)
          · exact hp q
          · exact hc q.symm
  · refine wp_if ile_iff (fun h => by omega) fun _ => w_RL9 (szW_of hL (by omega) fun x hx => by have := sz2 x hx; omega) hL

/-! ### The document reads a text -/
def RefP (R : List TApi_Event ⊕ Nat) (y : Sl TApi_Event × Int) : Prop := match R with
  | .inl L => y.1.L = L ∧ y.2 = 0
  | .inr n => y.2 = (n : Int)
theorem w_r15_Read {s : ByteArray} (hs : s.size ≤ 30000) : D_r15_Read.wp s fun y => RefP (rdA [] (spl 10 s.data.toList)) y := by
  have hN := data_len s
  refine of_wp ?_
  simp only [tt_r15_Read]
  generalize hR : rdA [] (spl 10 s.data.toList) = R
  refine loop_wp (x := (⟨s, Sl.mk true 0 fun _ => TApi_Event.mk 0 0 0 0 0, 0, 0⟩ : X_r15_Read_4))
    (fun x => x.s_0 = s ∧ x.l_4.n ≤ 65536 ∧ ∃ (i a : Nat) (p : List UInt8), x.i_6 = (i : Int) ∧ x.at_5 = (a : Int) ∧ i ≤ s.size ∧ s.data.toList.drop a = p ++ s.data.toList.drop i ∧ a + p.length = i ∧ (10 : UInt8) ∉ p ∧ rdA x.l_4.L (spl 10 (s.data.toList.drop a)) = R)
    (fun x => s.size - x.i_6.toNat) (fun _ (y : Sl TApi_Event × Int) => RefP R y) (fun D x hx hD => ?_) ⟨rfl, Nat.zero_le _, 0, 0, [], rfl, rfl, Nat.zero_le _, rfl, rfl, by simp, hR⟩
  obtain ⟨s', l, at_, i'⟩ := x
  obtain ⟨h1, hn, i, a, p, h2, h3, hi, hd, hap, hp, hR⟩ := hx
  simp only at h1 h2 h3 hn hR
  subst h1
  subst h2
  subst h3
  have hw : IntKind.i64.wrap ((l.n : Int) + 1) = ((l.n + 1 : Nat) : Int) := by rw [wrap64 (by omega) (by omega)]; rfl
  have hne : IntKind.i64.wrap ((i : Int) + 1) = ((i + 1 : Nat) : Int) := by rw [wrap64 (by omega) (by omega)]; rfl
  have stop : R = .inr (l.L.length + 1) → (TT.ret ((Sl.mk true 0 fun _ => TApi_Event.mk 0 0 0 0 0), IntKind.i64.wrap ((l.n : Int) + 1)) : TT Tryd.prog R_r15_Read).wp fun y => RefP R y := fun h => by
    rw [h, Sl.L_length, hw]
    rfl
  have h5 : ∀ (l' : Sl TApi_Event) (a' : Nat) (p' : List UInt8), l'.n ≤ 65536 → i + 1 ≤ s'.size → s'.data.toList.drop a' = p' ++ s'.data.toList.drop (i + 1) → a' + p'.length = i + 1 → (10 : UInt8) ∉ p' → rdA l'.L (spl 10 (s'.data.toList.drop a')) = R →
      (D_r15_Read_5 D).wp (⟨s', l', (a' : Nat), (i : Nat)⟩ : X_r15_Read_5) fun y => RefP R y := fun l' a' p' g1 g2 g3 g4 g5 g6 => by
    refine of_wp ?_
    simp only [tt_r15_Read_5, hne]
    exact hD _ ⟨rfl, g1, i + 1, a', p', rfl, rfl, g2, g3, g4, g5, g6⟩ (by show s'.size - ((i + 1 : Nat) : Int).toNat < s'.size - ((i : Nat) : Int).toNat; omega)
  simp only [tt_r15_Read_4]
  refine wp_if ilt_iff (fun hlt => ?_) fun hlt => ?_
  · have hlt' : i < s'.data.toList.length := by omega
    have hdi : s'.data.toList.drop i = s'.data.toList[i] :: s'.data.toList.drop (i + 1) := List.drop_eq_getElem_cons hlt'
    refine wp_need (by rw [inb_iff2]; omega) ?_
    rw [Int.toNat_natCast, bt_data hlt']
    refine wp_if (p := ¬ s'.data.toList[i] = 10) (by rw [bnot_iff]; exact not_congr (ieq_iff.trans (u8_of (n := 10) (by omega)))) (fun hc => ?_) fun hc => ?_
    · refine h5 l a (p ++ [s'.data.toList[i]]) hn (by omega) ?_ ?_ ?_ hR
      · rw [hd, hdi, List.append_assoc]; rfl
      · rw [List.length_append, List.length_singleton]; omega
      · rw [List.mem_append, List.mem_singleton]
        rintro (q | q)
        · exact hp q
        · exact hc q.symm
    · have hc := Classical.byContradiction hc
      refine wp_need (by rw [Bool.and_eq_true, upto_iff, upto_iff]; omega) ?_
      have hx : ByteArray.extract s' (Int.toNat (a : Int)) i = mkB p := by rw [Int.toNat_natCast]; exact ext_mkB hd hap
      rw [hx]
      rw [hd, hdi, hc, rdA_line hp] at hR
      refine wp_call (w_r15_ReadLine (s := mkB p) (by rw [mkB_size]; omega)) fun (y : TApi_Event × Bool) hy => ?_
      obtain ⟨k1, k2⟩ := line_rd hy
      rw [mkB_data] at k1 k2
      refine wp_if bnot_iff (fun h => stop ?_) fun h => ?_
      · rw [← hR, k2 h]
      · rw [k1 (Classical.byContradiction h)] at hR
        simp only at hR
        refine wp_if ile_iff (fun h2 => stop ?_) fun h2 => ?_
        · rw [← hR, if_pos (by rw [Sl.L_length]; omega)]
        · rw [if_neg (by rw [Sl.L_length]; omega)] at hR
          refine of_wp ?_
          simp only [tt_r15_Read_10, hne]
          refine wp_need (room_ok (by omega)) (h5 _ (i + 1) [] (by show l.n + 1 ≤ 65536; omega) (by omega) rfl rfl (by simp) ?_)
          rw [L_pushE]
          exact hR
  · obtain rfl : i = s'.size := by omega
    rw [List.drop_of_length_le (i := s'.size) (by omega), List.append_nil] at hd
    rw [hd, rdA_last hp] at hR
    refine of_wp ?_
    simp only [tt_r15_Read_12]
    refine wp_if ilt_iff (fun h => stop ?_) fun h => ?_
    · rw [← hR, if_neg]
      intro q
      rw [q] at hap
      simp at hap
      omega
    · have : p = [] := List.eq_nil_of_length_eq_zero (by omega)
      rw [← hR, if_pos this]
      exact ⟨rfl, rfl⟩

/-! ### The statements -/
theorem law_EventReads (s : ByteArray) : D_w15_EventReads.wp s fun y => y = true := by
  refine of_wp ?_
  simp only [tt_w15_EventReads]
  refine wp_call w_awake fun (y : Bool) hy => ?_
  subst hy
  refine wp_ite (fun h => by cases h) fun _ => wp_if ilt_iff (fun _ => wp_call w_awake fun (y : Bool) hy => hy) fun hn => of_wp ?_
  simp only [tt_w15_EventReads_3]
  refine wp_call (w_event_Read (by omega)) fun (y1 : Sl TApi_Event × Int × Int) h1 => wp_call (w_r15_Read (by omega)) fun (y2 : Sl TApi_Event × Int) h2 => ?_
  cases hR : rdA [] (spl 10 s.data.toList) with
  | inr n =>
    rw [hR] at h1 h2
    obtain ⟨g1, g2⟩ : y1.1.n = 0 ∧ y1.2 = ((n : Int), 3) := h1
    have h2 : y2.2 = (n : Int) := h2
    have hn0 : n ≠ 0 := by
      have key : ∀ (P : List (List UInt8)) (acc : List TApi_Event), rdA acc P = .inr n → n ≠ 0 := by
        intro P
        induction P with
        | nil => intro acc h; rw [rdA] at h; cases h
        | cons p P ih =>
          intro acc h
          cases P with
          | nil =>
            rw [rdA] at h
            split at h
            · cases h
            · cases h; omega
          | cons q r =>
            rw [rdA] at h
            split at h
            · split at h
              · cases h; omega
              · exact ih _ h
            · cases h; omega
      exact key _ _ hR
    rw [g2, h2]
    refine wp_if (p := (n : Int) ≠ 0) (by rw [bnot_iff, ieq_iff]) (fun _ => ?_) fun h => absurd (by omega) h
    exact wp_ite (fun _ => wp_if ieq_iff (fun _ => ieq_iff.2 (by rw [g1]; rfl)) fun h => absurd rfl h) fun h => absurd rfl h
  | inl L =>
    rw [hR] at h1 h2
    obtain ⟨g1, g2⟩ : y1.1.L = L ∧ y1.2 = (0, 0) := h1
    obtain ⟨g3, g4⟩ : y2.1.L = L ∧ y2.2 = 0 := h2
    obtain ⟨t1, t2, t3⟩ := rdA_text hR
    have hlen : y1.1.n = L.length := by rw [← g1, Sl.L_length]
    have hall : ∀ i, i < y1.1.n → mRightE (y1.1.get i) = true ∧ WfE (y1.1.get i) := fun i hi => t1 _ (by rw [← g1]; exact Sl.mem_L.2 ⟨i, hi, rfl⟩)
    have hc := mChk_all (l := y1.1) (fun i hi => (hall i hi).1) (by omega)
    rw [g4, g2]
    refine wp_ite (fun h => by cases h) fun _ => wp_call (w_event_Print (l := y1.1) fun i hi => (hall i hi).2) fun (y3 : ByteArray × Int) h3 => ?_
    have h3 := h3.1 (by rw [hc])
    rw [h3]
    refine wp_ite (fun _ => wp_ite (fun _ => wp_call (w_r15_Same y1.1 y2.1 (by simp only [maxLen]; omega)) fun (y4 : Bool) h4 => ?_) fun h => absurd rfl h) fun h => absurd rfl h
    refine wp_ite (fun _ => wp_ite (fun _ => rfl) fun h => absurd (seq_iff.2 ?_) h) fun h => absurd (h4.2 (g1.trans g3.symm)) h
    rw [g1, t2, mkB_list]
theorem law_EventBack (l : Sl TApi_Event) (w : ∀ i, i < l.n → WfE (l.get i)) : D_w15_EventBack.wp l fun y => y = true := by
  refine of_wp ?_
  simp only [tt_w15_EventBack]
  refine wp_call w_awake fun (y : Bool) hy => ?_
  subst hy
  refine wp_ite (fun h => by cases h) fun _ => wp_if ilt_iff (fun _ => wp_call w_awake fun (y : Bool) hy => hy) fun hn => of_wp ?_
  simp only [tt_w15_EventBack_3]
  refine wp_call (w_r15_Check l) fun (y1 : Int × Int) h1 => ?_
  subst h1
  refine wp_if (p := ¬ (mChk l).2 = 0) (by rw [bnot_iff, ieq_iff]) (fun _ => rfl) fun hk => ?_
  have hk := Classical.byContradiction hk
  obtain ⟨k1, k2, k3⟩ := mChk_ok hk
  have hall := mem_right k1 w
  have hlen := txL_len l.L hall
  rw [Sl.L_length] at hlen
  refine wp_call (w_event_Print w) fun (y2 : ByteArray × Int) h2 => ?_
  rw [h2.1 hk]
  refine wp_call (w_event_Read (s := mkB (txL l.L)) (by rw [mkB_size]; omega)) fun (y3 : Sl TApi_Event × Int × Int) h3 => ?_
  rw [mkB_data, rdA_back l.L [] hall (by simp; omega)] at h3
  obtain ⟨g1, g2⟩ : y3.1.L = [] ++ l.L ∧ y3.2 = (0, 0) := h3
  rw [g2]
  refine wp_ite (fun _ => wp_ite (fun _ => wp_ite (fun _ => wp_call (w_r15_Same l y3.1 (by simp only [maxLen]; omega)) fun (y4 : Bool) h4 => ?_) fun h => absurd rfl h) fun h => absurd rfl h) fun h => absurd rfl h
  exact h4.2 (by rw [g1, List.nil_append])
def ok_TApi_Event (x : TApi_Event) : Prop := (fun n => (Lit.int .i64 n).wf = true) x.Thread ∧ (fun n => (Lit.int .i64 n).wf = true) x.Kind ∧ (fun n => (Lit.int .i64 n).wf = true) x.Ring ∧ (fun n => (Lit.int .u64 n).wf = true) x.Ticket ∧ (fun n => (Lit.int .u64 n).wf = true) x.Value ∧ True
noncomputable def fl_TApi_Event_0 : Field := (flds Tryd.prog 24).toList.getD 0 default
noncomputable def fl_TApi_Event_1 : Field := (flds Tryd.prog 24).toList.getD 1 default
noncomputable def fl_TApi_Event_2 : Field := (flds Tryd.prog 24).toList.getD 2 default
noncomputable def fl_TApi_Event_3 : Field := (flds Tryd.prog 24).toList.getD 3 default
noncomputable def fl_TApi_Event_4 : Field := (flds Tryd.prog 24).toList.getD 4 default
theorem op_TApi_Event : Opens Tryd.prog 24 e_TApi_Event ok_TApi_Event :=
  Opens.map (opens_struct (fs := flds Tryd.prog 24) (l := fl_TApi_Event_0 :: fl_TApi_Event_1 :: fl_TApi_Event_2 :: fl_TApi_Event_3 :: fl_TApi_Event_4 :: []) (by kernel_rfl) (by kernel_rfl) (by kernel_rfl)
    (opens_cons (u := 3) (s := 1) (by kernel_rfl) (by kernel_rfl) (by kernel_rfl) (opens_int (k := .i64) (by kernel_rfl)) (opens_cons (u := 3) (s := 1) (by kernel_rfl) (by kernel_rfl) (by kernel_rfl) (opens_int (k := .i64) (by kernel_rfl)) (opens_cons (u := 3) (s := 1) (by kernel_rfl) (by kernel_rfl) (by kernel_rfl) (opens_int (k := .i64) (by kernel_rfl)) (opens_cons (u := 22) (s := 1) (by kernel_rfl) (by kernel_rfl) (by kernel_rfl) (opens_int (k := .u64) (by kernel_rfl)) (opens_cons (u := 22) (s := 1) (by kernel_rfl) (by kernel_rfl) (by kernel_rfl) (opens_int (k := .u64) (by kernel_rfl)) opens_nil)))))) (fun x => ⟨x.1, x.2.1, x.2.2.1, x.2.2.2.1, x.2.2.2.2.1⟩) (fun _ => rfl) (fun _ h => h)

theorem given_Event : Given Tryd.prog 24 e_TApi_Event ok_TApi_Event := given_struct (fs := flds Tryd.prog 24) (by kernel_rfl) op_TApi_Event (fun _ => rfl) (fun _ => rfl)
theorem given_Events : Given Tryd.prog 36 esl_TApi_Event (okSl ok_TApi_Event) :=
  given_leaf (cells_slice (e := 24) (by kernel_rfl)) (opens_slice (e := 24) (s := 5) (d_TApi_Event .undef) (by kernel_rfl) (by kernel_rfl) (by decide) op_TApi_Event) (fun _ => rfl) (fun _ => rfl)
theorem given_Str : Given Tryd.prog 9 V.str (fun s => s.size ≤ maxLen) := given_leaf (cells_str (by kernel_rfl)) (opens_str (by kernel_rfl)) (fun _ => rfl) (fun _ => rfl)
theorem wfE_of {e : TApi_Event} (h : ok_TApi_Event e) : WfE e := by
  obtain ⟨a, b, c, t, v, _⟩ := h
  exact ⟨wf_i64 a, wf_i64 b, wf_i64 c, wf_u64 t, wf_u64 v⟩
theorem wfL_of {l : Sl TApi_Event} (h : okSl ok_TApi_Event l) : ∀ i, i < l.n → WfE (l.get i) := fun i hi => wfE_of (h.2.2 i hi)


open Go.ChangeShapes Go.WideShapes Go.ChangeAt Go.RowKit

theorem Tryd.own : ownKnob Tryd.prog.godebug = none := by kernel_rfl
theorem Tryd.laidOut : laidOutB Tryd.prog = true := by kernel_rfl
theorem Tryd.rowed : mapsRowed Tryd.prog = true := by kernel_rfl
theorem Tryd.full : ∀ t e, t < Tryd.prog.types.size → Tryd.prog.underlying t = some (.slice e) → 0 < Tryd.prog.cellsOf e := slices_full_of Tryd.prog (by kernel_rfl)
def zeroEvent : Value := .agg #[.int .i64 0, .int .i64 0, .int .i64 0, .int .u64 0, .int .u64 0]

/-! ### What the library's variables hold -/
theorem var_heap {W : World} {n : String} {g : Nat} {c : Array Value} (hg : Tryd.prog.globalNamed n = some g) (h : W.var? Tryd.prog n = some c) : ∃ t fr, W.heap[g]? = some (.cells c t fr) := by
  unfold World.var? at h
  rw [hg] at h
  simp only [Option.bind_some] at h
  split at h
  · cases h; rename_i hh; exact ⟨_, _, hh⟩
  · cases h
theorem star : "*" ++ "errors.errorString" = "*errors.errorString" := by decide
theorem row127 (u : TypeId) (h : Tryd.prog.typeName? 3 u = some "*errors.errorString") : u = 127 :=
  typeName_ptr_named (nm := "errors.errorString") (by rw [star]; kernel_rfl) (by kernel_rfl) (by decide) u (by rw [star]; exact h)
theorem mem_known1 {P : Program} {n : String} {ok : Array Value → Prop} {x : Known} (h : x ∈ known1 P n ok) : ∃ g, P.globalNamed n = some g ∧ x = ⟨g, ok⟩ := by
  unfold known1 at h
  split at h
  · rename_i g hg; exact ⟨g, hg, List.mem_singleton.1 h⟩
  · cases h
theorem holds_of {W : World} (hL : laidMetH Tryd.prog Rows.eventTellsRow.laid W) (hsh : W.ShapedOpen Tryd.prog) : Holds Tryd.prog W := by
  rw [MakeChecks.laidMetH_plain _ _ _ (by kernel_rfl)] at hL
  have h3 := hL.tail.tail
  have h5 := h3.tail.tail
  have h6 := h5.tail
  intro x hx
  simp only [knownOf, List.mem_append] at hx
  rcases hx with hx | hx | hx | hx
  · obtain ⟨g, hg, rfl⟩ := mem_known1 hx
    have ht : Lib.TabIs Tryd.prog W "internal/strconv.uint64pow10" .u64 pow10L := Lib.tabIs_of_head (g := 1) (t := 101) (e := 22) (n := 20) (by kernel_rfl) (by kernel_rfl) (by kernel_rfl) (by kernel_rfl) (by kernel_rfl) (by kernel_rfl) h3
    obtain ⟨t, fr, hh⟩ := var_heap hg ht
    exact ⟨_, t, fr, hh, rfl⟩
  · obtain ⟨g, hg, rfl⟩ := mem_known1 hx
    obtain rfl : 0 = g := Option.some.inj ((show Tryd.prog.globalNamed "internal/bytealg.MaxLen" = some 0 by kernel_rfl).symm.trans hg)
    have h0 : ((begin Tryd.prog (fun _ _ => 0) default).world.heap[0]?).bind Obj.row? = some (#[.int .i64 0], 3) := by kernel_rfl
    obtain ⟨m, hm⟩ := cell_of_shapedOpen_int (zero := #[.int .i64 0]) (k := .i64) hsh (of_decide_eq_true (by kernel_rfl)) h0 rfl (by kernel_rfl) (by kernel_rfl) (by kernel_rfl)
    obtain ⟨cs, hh, hs, _⟩ := hsh.1 0 _ _ (of_decide_eq_true (by kernel_rfl)) h0
    refine ⟨cs, _, _, hh, m, ?_⟩
    have h1 : cs.size = 1 := hs
    have hm : cs[0]? = some (.int .i64 m) := by
      have := hm
      simp only [World.cell?, hh, Option.isSome_none, Bool.false_eq_true, if_false] at this
      exact this
    obtain ⟨l⟩ := cs
    match l, h1, hm with
    | [v], _, hm => simp at hm; rw [hm]
  · obtain ⟨g, hg, rfl⟩ := mem_known1 hx
    obtain ⟨a, s, hv, _⟩ := laid_sentinel h6 (g := 2) (ti := 64) (tp := 127) (te := 129) (ts := 9) (by kernel_rfl) (by kernel_rfl) Tryd.underlying64 row127 Tryd.underlying127 Tryd.underlying129 rfl rfl (by kernel_rfl) (by kernel_rfl) (by kernel_rfl)
    obtain ⟨t, fr, hh⟩ := var_heap hg hv
    exact ⟨_, t, fr, hh, _, rfl, .inr ⟨_, _, rfl⟩⟩
  · obtain ⟨g, hg, rfl⟩ := mem_known1 hx
    obtain ⟨a, s, hv, _⟩ := laid_sentinel h5 (g := 3) (ti := 64) (tp := 127) (te := 129) (ts := 9) (by kernel_rfl) (by kernel_rfl) Tryd.underlying64 row127 Tryd.underlying127 Tryd.underlying129 rfl rfl (by kernel_rfl) (by kernel_rfl) (by kernel_rfl)
    obtain ⟨t, fr, hh⟩ := var_heap hg hv
    exact ⟨_, t, fr, hh, _, rfl, .inr ⟨_, _, rfl⟩⟩
theorem laid_of {W : World} (hL : laidMetH Tryd.prog Rows.eventTellsRow.laid W) (hsh : W.ShapedOpen Tryd.prog) : Laid Tryd.prog (ctx W) := fun x hx => by
  obtain ⟨c, t, fr, h1, h2⟩ := holds_of hL hsh x hx
  refine ⟨c, t, fr, h1, h2, fun j k => ?_⟩
  have hlt : x.g < W.heap.size := (Array.getElem?_eq_some_iff.1 h1).1
  rcases k with k | k
  · exact Nat.not_le_of_lt hlt k
  · exact k

/-- A statement whose answer is one truth, over variables that are laid. -/
theorem lifted_row {s : ChangeSpec} {row : OpenClaim} {os : Os} {f : FuncId} {fn : Func} {F : Stop.Interp} {H : Type} {enc : TypeId × Value → H} (started : os.Started) (noInit : Tryd.prog.inits.idxOf? f = none) (hfn : Tryd.prog.funcs[f]? = some fn)
    (hlaid : row.laid = Rows.eventTellsRow.laid)
    (hwit : ∃ (w : World) (tape : Tape) (i : Input), w.os = os ∧ (w.forCall tape i).Shaped Tryd.prog ∧ i.vars = [] ∧ Input.okWide Tryd.prog (w.forCall tape i) .any w.heap.size f i ∧
      (OpenSpec.ofChange s).preRow enc Tryd.prog fn row.domain false row.laid (w.forCall tape i).memory i.args ∧ ({} : Assume).holds Tryd.prog (lone (Frame.enter Tryd.prog f i.args .normal) [] (w.forCall tape i)))
    (hp : (fn.params.toList.all fun t => decide (t < Tryd.prog.types.size)) = true) (hvars : s.vars = []) (hr : fn.resultTypes = #[4])
    (hs : ∀ ds : List (DataW H), ds.length = fn.params.toList.length → s.fn H (ds ++ []) = { results := [.lit (.bool true)], args := ds })
    (contract : ∀ (W : World) (base : Nat) (args : Array Value) (ds : List (DataW H)) (ps : List MemPlace), Laid Tryd.prog (ctx W) →
      (∀ (j : Nat) t v, fn.params[j]? = some t → args[j]? = some v → Value.okWide Tryd.prog W .any base t v) →
      DataW.TrodAll enc Tryd.prog W 0 (fun _ => true) true fn.params.toList args.toList ds ps →
      Calls Tryd.prog f args W fun e w' => e = .returned (.bool true) ∧ Below W.heap.size W w') :
    ReturnsInHanded {} Tryd.checked os f .any ((OpenSpec.ofChange s).preRow enc Tryd.prog fn row.domain false row.laid) (((OpenSpec.ofChange s).at F).post enc Tryd.prog fn false true false false) := by
  refine returnsInHanded_of_row (C := Tryd.checked) (s := OpenSpec.ofChange s) Tryd.own started noInit hfn hwit ?_
  intro W base args ds gs before hval hW _ _ _ hL hsh _
  have hW' : DataW.Whole enc Tryd.prog fn.params.toList s.vars false W args.toList ds gs before := hW
  have hW := hW'
  obtain ⟨p, q, hA, hV, rfl, _, _⟩ := hW
  rw [hvars] at hV
  obtain ⟨rfl, rfl⟩ := trodVars_none hV
  simp only [List.append_nil] at hW'
  rw [hlaid] at hL
  refine (contract W base args ds p (laid_of hL hsh) hval hA).mono fun e W' ⟨he, hB⟩ => ⟨_, he, ?_⟩
  exact post_true (s := s) Tryd.laidOut Tryd.rowed Tryd.full (fun t ht => of_decide_eq_true (List.all_eq_true.1 hp t ht)) hvars hr (by kernel_rfl) (hs ds (Go.trodAll_length hA).2) hW' hA hB
theorem laid_met (os : Os) (args : Array Value) : laidMet Tryd.prog Rows.eventTellsRow.laid ((World.laidAll Tryd.prog os Rows.eventTellsRow.laid).forCall (fun _ _ => 0) ⟨#[], args, []⟩).memory :=
  laidMet_laidAll args (by kernel_rfl) (by kernel_rfl)
open Go.ChangeShapes Go.WideShapes Go.ChangeAt Go.RowKit

theorem eventBack_lifted (os : Os) (started : os.Started) (H : Type) (enc : TypeId × Value → H) (F : Stop.Interp) :
    ReturnsInHanded {} Tryd.checked os 6 .any ((OpenSpec.ofChange Rows.eventBackSpec).preRow enc Tryd.prog Tryd.f6 Rows.eventBackRow.domain false Rows.eventBackRow.laid) (((OpenSpec.ofChange Rows.eventBackSpec).at F).post enc Tryd.prog Tryd.f6 false true false false) := by
  obtain ⟨x, hx⟩ := Option.isSome_iff_exists.1 (show (DataW.whole enc Tryd.prog ((World.laidAll Tryd.prog os Rows.eventTellsRow.laid).forCall (fun _ _ => 0) ⟨#[], #[.slice none 0 0], []⟩).memory Tryd.f6.params.toList Rows.eventBackSpec.vars false (#[.slice none 0 0] : Array Value).toList 8).isSome = true by kernel_rfl)
  refine lifted_row (s := Rows.eventBackSpec) (row := Rows.eventBackRow) started (by kernel_rfl) Tryd.func6 rfl
    (witness_row_atRef (enc := enc) (C := Tryd.checked) false (World.laidAll Tryd.prog os Rows.eventTellsRow.laid) #[.slice none 0 0] (World.laidAll_os _ _ _) (by kernel_rfl) (by kernel_rfl) (by kernel_rfl)
      (OpenSpec.preRow_of_cond 8 hx (by kernel_rfl) (fun k hk => by cases hk) (by kernel_rfl) (laid_met os _)))
    (by kernel_rfl) rfl rfl ?_ ?_
  · intro ds hl
    match ds, hl with
    | [_], _ => rfl
  · intro W base args ds ps hG hval hA
    rw [Tryd.params6] at hA hval
    obtain ⟨v0, d0, rfl, rfl, h0⟩ := trodAll_one hA
    obtain ⟨a, ha, ra⟩ := given_Events H enc W base v0 d0 _ (hval 0 36 v0 rfl rfl) h0
    obtain ⟨y, hy, rfl⟩ := law_EventBack a (wfL_of ha)
    refine calls_bool (con_w15_EventBack.ok a true hy) hG (fun j x v hx hv => ?_) rfl
    match j, hx, hv with
    | 0, hx, hv => change some (esl_TApi_Event a) = some x at hx; cases hx; simp at hv; subst hv; exact ra

theorem eventBack_said : Rows.EventBackSaid :=
  OpenClaim.holds_of_cond 6 Tryd.f6 rfl rfl rfl rfl rfl rfl rfl ⟨rfl, rfl, rfl, rfl, rfl⟩ rfl rfl rfl rfl rfl (by kernel_rfl) Tryd.func6 (by kernel_rfl)
    (of_decide_eq_true (by kernel_rfl)) (by unfold Func.isWrapper; first | (rw [if_pos (by decide +kernel)]; kernel_rfl) | (rw [if_neg (by decide +kernel)]; exact ⟨rfl, rfl⟩))
    (fun os started H enc _ F => by rw [OpenClaim.pre_eq_preRow]; exact eventBack_lifted os started H enc F)

theorem eventBack_plain (f : FuncId) (fn : Func) (hf : Tryd.pinned.checked.prog.funcNamed "rondeau/rondeaulaw15.EventBack" = some f) (hfn : Tryd.pinned.checked.prog.funcs[f]? = some fn) :
    true = Tryd.pinned.checked.prog.looks [] ∧ ∀ (j : Nat) t, fn.params[j]? = some t → Tryd.pinned.checked.prog.wantsStandIn t = false := by
  obtain rfl : f = 6 := Option.some.inj ((show Tryd.prog.funcNamed "rondeau/rondeaulaw15.EventBack" = some 6 by kernel_rfl).symm.trans hf) |>.symm
  obtain rfl : fn = Tryd.f6 := (Option.some.inj (Tryd.func6.symm.trans hfn)).symm
  refine ⟨by kernel_rfl, fun j t ht => ?_⟩
  have hall : (Tryd.f6.params.toList.all fun t => !Tryd.prog.wantsStandIn t) = true := by kernel_rfl
  have := List.all_eq_true.1 hall t (Array.mem_toList_iff.2 (Array.mem_of_getElem? ht))
  exact (show Tryd.prog.wantsStandIn t = false by simpa using this)

theorem eventBack_holds : Rows.EventBackCardSaid :=
  Claim7.holds_tied_plain_at .later [] _ _ _ _ eventBack_said (fun _ h => by cases h) (by kernel_rfl) (fun _ h => by cases h) eventBack_row_tie rfl ⟨rfl, rfl⟩ (by kernel_rfl) rfl eventBack_plain (by kernel_rfl)
end Go.Proofs.YtbmbndfmpndmfaaDoor
