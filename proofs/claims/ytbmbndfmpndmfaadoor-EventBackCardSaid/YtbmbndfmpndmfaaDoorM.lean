/- Of what a fabric is, plainly: no statement is proved here. -/
import Derived.Test.YtbmbndfmpndmfaaDoorVmC
import Derived.Lib.SplitLaws
import Derived.Lib.Join
namespace Go.Proofs.YtbmbndfmpndmfaaDoor
open Go Go.Vm
section
structure TApi_Instr where
  Op : Int
  A : Int
  B : Int
  C : Int
  D : Int
  K : Int
structure TApi_Ring where
  Kind : Int
  Cap : Int
  Readers : Int
structure TApi_Event where
  Thread : Int
  Kind : Int
  Ring : Int
  Ticket : Int
  Value : Int
structure TApi_Slot where
  Stamp : Int
  Value : Int
  Left : Int
end
section
def mkB (l : List UInt8) : ByteArray := ⟨l.toArray⟩
theorem mkB_data (l : List UInt8) : (mkB l).data.toList = l := by simp [mkB]
theorem mkB_list (s : ByteArray) : mkB s.data.toList = s := by obtain ⟨⟨l⟩⟩ := s; rfl
theorem mkB_inj {a b : List UInt8} (h : mkB a = mkB b) : a = b := by
  have := congrArg (fun x : ByteArray => x.data.toList) h
  simpa only [mkB_data] using this
theorem mkB_app (a b : List UInt8) : mkB a ++ mkB b = mkB (a ++ b) := by
  apply ByteArray.ext
  rw [ByteArray.data_append]
  simp [mkB]
theorem mkB_size (l : List UInt8) : (mkB l).size = l.length := by simp [mkB, ByteArray.size]
theorem app_data (a b : ByteArray) : (a ++ b).data.toList = a.data.toList ++ b.data.toList := by rw [ByteArray.data_append]; simp
theorem data_len (s : ByteArray) : s.data.toList.length = s.size := Array.length_toList
theorem dig_rec {n : Nat} (h : ¬ n < 10) : Lib.decDigits n = Lib.decDigits (n / 10) ++ [UInt8.ofNat (48 + n % 10)] := by rw [Lib.decDigits, dif_neg h]
theorem dig_one {n : Nat} (h : n < 10) : Lib.decDigits n = [UInt8.ofNat (48 + n)] := by rw [Lib.decDigits, dif_pos h]
theorem dig_nat {d : Nat} (h : d < 10) : (UInt8.ofNat (48 + d)).toNat = 48 + d := by rw [UInt8.toNat_ofNat']; exact Nat.mod_eq_of_lt (Nat.lt_of_lt_of_le (Nat.add_lt_add_left h 48) (by decide))
theorem dig_all (n : Nat) : ∀ c ∈ Lib.decDigits n, 48 ≤ c.toNat ∧ c.toNat ≤ 57 := by
  induction n using Nat.strongRecOn with
  | ind n ih =>
    intro c hc
    by_cases h : n < 10
    · rw [dig_one h, List.mem_singleton] at hc
      subst hc
      rw [dig_nat h]; omega
    · rw [dig_rec h, List.mem_append, List.mem_singleton] at hc
      rcases hc with hc | hc
      · exact ih _ (by omega) c hc
      · subst hc; rw [dig_nat (by omega)]; omega
theorem dig_ne (n : Nat) : Lib.decDigits n ≠ [] := by
  by_cases h : n < 10
  · rw [dig_one h]; simp
  · rw [dig_rec h]; simp
def valF (acc : Nat) (l : List UInt8) : Nat := l.foldl (fun a c => a * 10 + (c.toNat - 48)) acc
theorem valF_cons (acc : Nat) (c : UInt8) (l : List UInt8) : valF acc (c :: l) = valF (acc * 10 + (c.toNat - 48)) l := by unfold valF; rw [List.foldl_cons]
theorem valF_nil (acc : Nat) : valF acc [] = acc := by unfold valF; rw [List.foldl_nil]
theorem valF_app (acc : Nat) (l r : List UInt8) : valF acc (l ++ r) = valF (valF acc l) r := by simp [valF]
theorem valF_ge (l : List UInt8) : ∀ acc : Nat, acc ≤ valF acc l := by
  induction l with
  | nil => exact fun acc => by rw [valF_nil]; exact Nat.le_refl acc
  | cons c l ih =>
    intro acc
    have := ih (acc * 10 + (c.toNat - 48))
    rw [valF_cons]
    omega
theorem valF_dig (n : Nat) : valF 0 (Lib.decDigits n) = n := by
  induction n using Nat.strongRecOn with
  | ind n ih =>
    by_cases h : n < 10
    · rw [dig_one h, valF_cons, dig_nat h, valF_nil]; omega
    · rw [dig_rec h, valF_app, ih _ (by omega), valF_cons, dig_nat (by omega), valF_nil]; omega
theorem dig_inj {a b : Nat} (h : Lib.decDigits a = Lib.decDigits b) : a = b := by rw [← valF_dig a, h, valF_dig]
theorem parse_ok {M : Nat} (hM : M ≤ 18446744073709551615) : ∀ (l : List UInt8) (acc : Nat), (∀ c ∈ l, 48 ≤ c.toNat ∧ c.toNat ≤ 57) → valF acc l ≤ M → Lib.parseUintM M acc l = .ok (valF acc l)
  | [], acc, _, _ => by rw [valF_nil]; rfl
  | c :: l, acc, h, hv => by
    have h0 := h c (by simp)
    rw [valF_cons] at hv ⊢
    have h1 : acc * 10 + (c.toNat - 48) ≤ M := Nat.le_trans (valF_ge l _) hv
    rw [Lib.parseUintM, if_pos h0, if_neg (by omega), if_neg (by omega), parse_ok hM l _ (fun c hc => h c (by simp [hc])) hv]
theorem parse_dig {n : Nat} (h : n < 18446744073709551616) : Lib.parseUintB 64 (Lib.decDigits n) = .ok n := by
  have hp : (2 : Nat) ^ 64 - 1 = 18446744073709551615 := by decide
  rw [Lib.parseUintB, if_neg (dig_ne n), hp, parse_ok (Nat.le_refl _) _ _ (dig_all n) (by rw [valF_dig]; omega), valF_dig]
def spl (c : UInt8) : List UInt8 → List (List UInt8)
  | [] => [[]]
  | b :: r => if b = c then [] :: spl c r else (b :: (spl c r).headD []) :: (spl c r).tail
theorem spl_ne (c : UInt8) (s : List UInt8) : spl c s ≠ [] := by
  cases s with
  | nil => simp [spl]
  | cons b r => rw [spl]; split <;> simp
theorem spl_none {c : UInt8} : ∀ {s : List UInt8}, c ∉ s → spl c s = [s]
  | [], _ => rfl
  | b :: r, h => by
    rw [spl, if_neg (fun e => h (by simp [e])), spl_none (fun q => h (by simp [q]))]; rfl
theorem spl_app {c : UInt8} : ∀ {a r : List UInt8}, c ∉ a → spl c (a ++ c :: r) = a :: spl c r
  | [], _, _ => by simp [spl]
  | b :: a, r, h => by
    rw [List.cons_append, spl, if_neg (fun e => h (by simp [e])), spl_app (fun q => h (by simp [q]))]; rfl
theorem join_two (x y : List UInt8) (r : List (List UInt8)) (c : UInt8) : Lib.join (x :: y :: r) [c] = x ++ c :: Lib.join (y :: r) [c] := by simp [Lib.join, List.intercalate]
theorem spl_join {c : UInt8} : ∀ {ws : List (List UInt8)}, ws ≠ [] → (∀ w ∈ ws, c ∉ w) → spl c (Lib.join ws [c]) = ws
  | [], h, _ => absurd rfl h
  | [x], _, h => by rw [Lib.join_one, spl_none (h x (by simp))]
  | x :: y :: r, _, h => by rw [join_two, spl_app (h x (by simp)), spl_join (by simp) fun w hw => h w (by simp [hw])]
theorem idx_miss {c : UInt8} : ∀ {s : List UInt8}, c ∉ s → Lib.index s [c] = -1
  | [], _ => rfl
  | b :: r, h => by
    rw [Lib.index, idx_miss (fun q => h (by simp [q])), if_neg]
    · rfl
    · simp only [List.isPrefixOf, Bool.and_true, beq_iff_eq]; exact fun e => h (by simp [e])
theorem idx_hit {c : UInt8} : ∀ {a r : List UInt8}, c ∉ a → Lib.index (a ++ c :: r) [c] = (a.length : Int)
  | [], _, _ => by simp [Lib.index, List.isPrefixOf]
  | b :: a, r, h => by
    rw [List.cons_append, Lib.index, idx_hit (fun q => h (by simp [q])), if_neg, if_neg]
    · simp
    · simp only [beq_iff_eq]; omega
    · simp only [List.isPrefixOf, Bool.and_true, beq_iff_eq]; exact fun e => h (by simp [e])
theorem at_first {c : UInt8} {s : List UInt8} (h : c ∈ s) : ∃ a r, s = a ++ c :: r ∧ c ∉ a := by
  obtain ⟨a, r, e, k⟩ := List.eq_append_cons_of_mem h
  exact ⟨a, r, e, k⟩
theorem splitK_spl (c : UInt8) : ∀ (k : Nat) (s : List UInt8), s.count c = k → Lib.splitK [c] 0 k s = spl c s
  | 0, s, h => by rw [spl_none (List.count_eq_zero.1 h)]; rfl
  | k + 1, s, h => by
    obtain ⟨a, r, rfl, ha⟩ := at_first (c := c) (s := s) (List.count_pos_iff.1 (by omega))
    have hr : r.count c = k := by simpa [List.count_append, List.count_eq_zero.2 ha] using h
    rw [Lib.splitK, idx_hit ha, if_neg (by simp only [beq_iff_eq]; omega), spl_app ha, ← splitK_spl c k r hr]
    simp
theorem spl_len (c : UInt8) (s : List UInt8) : (spl c s).length = s.count c + 1 := by
  induction s with
  | nil => rfl
  | cons b r ih =>
    rw [spl]
    by_cases h : b = c
    · subst h; simp [ih]
    · rw [if_neg h, List.count_cons_of_ne h]
      simp [ih]
theorem splL_spl (s : ByteArray) (c : UInt8) : (splL (s, mkB [c])).map (·.data.toList) = spl c s.data.toList := by
  unfold splL
  rw [Lib.splitB_data, mkB_data, ← splitK_spl c _ _ rfl]
  show Lib.splitK [c] 0 (Lib.count s.data.toList (mkB [c]).data.toList) _ = _
  rw [mkB_data, Lib.count_one]
theorem splL_eq (s : ByteArray) (c : UInt8) : splL (s, mkB [c]) = (spl c s.data.toList).map mkB := by
  rw [← splL_spl, List.map_map]
  conv => lhs; rw [← List.map_id (splL (s, mkB [c]))]
  exact List.map_congr_left fun x _ => (mkB_list x).symm
theorem cutB_mem {s : ByteArray} {c : UInt8} {a r : List UInt8} (h : s.data.toList = a ++ c :: r) (ha : c ∉ a) : cutB (s, mkB [c]) = (mkB a, mkB r, true) := by
  simp only [cutB, Lib.cut, h, mkB_data, idx_hit ha]
  rw [if_pos (by omega)]
  simp [mkB]
theorem cutB_miss {s : ByteArray} {c : UInt8} (h : c ∉ s.data.toList) : cutB (s, mkB [c]) = (s, mkB [], false) := by
  simp only [cutB, Lib.cut, mkB_data, idx_miss h]
  rw [if_neg (by omega)]
  exact congrArg (fun x => (x, mkB [], false)) (mkB_list s)
def kTicket (k : Int) : Bool := decide (1 ≤ k ∧ k ≤ 4 ∨ k = 13)
def kRing (k : Int) : Bool := decide (1 ≤ k ∧ k ≤ 7 ∨ k = 13)
def kValue (k : Int) : Bool := decide (8 ≤ k ∧ k ≤ 10 ∨ k = 12)
theorem kTicket_iff {k : Int} : kTicket k = true ↔ (1 ≤ k ∧ k ≤ 4 ∨ k = 13) := by simp only [kTicket, decide_eq_true_eq]
theorem kRing_iff {k : Int} : kRing k = true ↔ (1 ≤ k ∧ k ≤ 7 ∨ k = 13) := by simp only [kRing, decide_eq_true_eq]
theorem kValue_iff {k : Int} : kValue k = true ↔ (8 ≤ k ∧ k ≤ 10 ∨ k = 12) := by simp only [kValue, decide_eq_true_eq]
def mRightE (e : TApi_Event) : Bool :=
  decide ((1 ≤ e.Kind ∧ e.Kind ≤ 15) ∧ (0 ≤ e.Thread ∧ e.Thread ≤ 7) ∧ (0 ≤ e.Ring ∧ e.Ring ≤ 7) ∧ e.Ticket < 4611686018427387904 ∧
    (kRing e.Kind = true ∨ e.Ring = 0) ∧ (kTicket e.Kind = true ∨ e.Ticket = 0) ∧ (kValue e.Kind = true ∨ e.Value = 0))
theorem mRightE_iff {e : TApi_Event} : mRightE e = true ↔ (1 ≤ e.Kind ∧ e.Kind ≤ 15) ∧ (0 ≤ e.Thread ∧ e.Thread ≤ 7) ∧ (0 ≤ e.Ring ∧ e.Ring ≤ 7) ∧ e.Ticket < 4611686018427387904 ∧
    (kRing e.Kind = true ∨ e.Ring = 0) ∧ (kTicket e.Kind = true ∨ e.Ticket = 0) ∧ (kValue e.Kind = true ∨ e.Value = 0) := by
  simp only [mRightE, decide_eq_true_eq]
def nmN : Nat → List UInt8
  | 0 => [99, 108, 97, 105, 109]
  | 1 => [112, 117, 98, 108, 105, 115, 104]
  | 2 => [116, 97, 107, 101]
  | 3 => [114, 101, 108, 101, 97, 115, 101]
  | 4 => [110, 111]
  | 5 => [115, 104, 117, 116]
  | 6 => [116, 105, 109, 101]
  | 7 => [99, 108, 111, 99, 107]
  | 8 => [100, 114, 97, 119]
  | 9 => [114, 101, 97, 100]
  | 10 => [101, 110, 100]
  | 11 => [115, 101, 101]
  | 12 => [99, 108, 111, 115, 101]
  | 13 => [104, 97, 108, 116]
  | 14 => [115, 112, 105, 110]
  | _ => []
def nmK (k : Int) : List UInt8 := if 1 ≤ k ∧ k ≤ 15 then nmN (k - 1).toNat else []
theorem nmN_facts : ∀ i, i < 15 → nmN i ≠ [] ∧ 32 ∉ nmN i ∧ 10 ∉ nmN i ∧ (nmN i).length ≤ 7 ∧ ∀ j, j < 15 → nmN i = nmN j → i = j := by decide
theorem nmK_empty {k : Int} : nmK k = [] ↔ ¬ (1 ≤ k ∧ k ≤ 15) := by
  unfold nmK
  by_cases h : 1 ≤ k ∧ k ≤ 15
  · rw [if_pos h]; exact ⟨fun e => absurd e (nmN_facts _ (by omega)).1, fun q => absurd h q⟩
  · rw [if_neg h]; exact ⟨fun _ => h, fun _ => rfl⟩
theorem nmK_inj {k j : Int} (h : 1 ≤ k ∧ k ≤ 15) (e : nmK k = nmK j) : k = j := by
  have hj : 1 ≤ j ∧ j ≤ 15 := by
    refine Classical.byContradiction fun q => ?_
    rw [nmK_empty.2 q] at e
    exact nmK_empty.1 e h
  have := (nmN_facts (k - 1).toNat (by omega)).2.2.2.2 (j - 1).toNat (by omega) (by simpa only [nmK, if_pos h, if_pos hj] using e)
  omega
def wdsE (e : TApi_Event) : List (List UInt8) :=
  Lib.decDigits e.Thread.toNat :: nmK e.Kind :: ((if kRing e.Kind = true then [Lib.decDigits e.Ring.toNat] else []) ++
    ((if kTicket e.Kind = true then [Lib.decDigits e.Ticket.toNat] else []) ++ if kValue e.Kind = true then [Lib.decDigits e.Value.toNat] else []))
def lnL (e : TApi_Event) : List UInt8 := Lib.join (wdsE e) [32]
def lnB (e : TApi_Event) : ByteArray := mkB (lnL e)
def WfE (e : TApi_Event) : Prop := (-9223372036854775808 ≤ e.Thread ∧ e.Thread ≤ 9223372036854775807) ∧ (-9223372036854775808 ≤ e.Kind ∧ e.Kind ≤ 9223372036854775807) ∧
  (-9223372036854775808 ≤ e.Ring ∧ e.Ring ≤ 9223372036854775807) ∧ (0 ≤ e.Ticket ∧ e.Ticket < 18446744073709551616) ∧ (0 ≤ e.Value ∧ e.Value < 18446744073709551616)
theorem dig_no {n : Nat} {c : UInt8} (h : c.toNat < 48) : c ∉ Lib.decDigits n := fun q => by have := dig_all n c q; omega
theorem wds_no {e : TApi_Event} (hk : 1 ≤ e.Kind ∧ e.Kind ≤ 15) : ∀ w ∈ wdsE e, (32 : UInt8) ∉ w ∧ (10 : UInt8) ∉ w := by
  have hd : ∀ n : Nat, (32 : UInt8) ∉ Lib.decDigits n ∧ (10 : UInt8) ∉ Lib.decDigits n := fun n => ⟨dig_no (by decide), dig_no (by decide)⟩
  intro w hw
  simp only [wdsE, List.mem_cons, List.mem_append] at hw
  rcases hw with rfl | rfl | hw | hw | hw
  · exact hd _
  · have := nmN_facts (e.Kind - 1).toNat (by omega)
    rw [nmK, if_pos hk]
    exact ⟨this.2.1, this.2.2.1⟩
  all_goals
    split at hw
    · rw [List.mem_singleton] at hw; subst hw; exact hd _
    · exact absurd hw (by simp)
theorem wds_inj {a b : TApi_Event} (ha : mRightE a = true) (hb : mRightE b = true) (wa : WfE a) (wb : WfE b) (h : wdsE a = wdsE b) : a = b := by
  have ha := mRightE_iff.1 ha
  have hb := mRightE_iff.1 hb
  obtain ⟨at_, ak, ar, ai, av⟩ := a
  obtain ⟨bt_, bk, br, bi, bv⟩ := b
  simp only [WfE] at wa wb
  simp only [wdsE, List.cons.injEq] at h
  obtain ⟨h1, h2, h3⟩ := h
  have h1 := dig_inj h1
  obtain rfl : ak = bk := nmK_inj ha.1 h2
  simp only at ha hb
  have e1 : at_ = bt_ := by omega
  have e2 : ar = br ∧ ai = bi ∧ av = bv := by
    cases q1 : kRing ak <;> cases q2 : kTicket ak <;> cases q3 : kValue ak <;> simp only [q1, q2, q3, Bool.false_eq_true, if_false, if_true, List.nil_append, List.cons_append, List.cons.injEq, and_true, false_or, true_or, true_and] at h3 ha hb
    all_goals first
      | (have k1 := dig_inj h3.1; have k2 := dig_inj h3.2.1; have k3 := dig_inj h3.2.2; omega)
      | (have k1 := dig_inj h3.1; have k2 := dig_inj h3.2; omega)
      | (have k1 := dig_inj h3; omega)
      | omega
  obtain ⟨rfl, rfl, rfl⟩ := e2
  rw [e1]
theorem spl_ln {e : TApi_Event} (hk : 1 ≤ e.Kind ∧ e.Kind ≤ 15) : spl 32 (lnL e) = wdsE e := spl_join (by simp [wdsE]) fun w hw => (wds_no hk w hw).1
theorem ln_inj {a b : TApi_Event} (ha : mRightE a = true) (hb : mRightE b = true) (wa : WfE a) (wb : WfE b) (h : lnB a = lnB b) : a = b := by
  refine wds_inj ha hb wa wb ?_
  rw [← spl_ln (mRightE_iff.1 ha).1, ← spl_ln (mRightE_iff.1 hb).1, mkB_inj h]
theorem join_mem {c : UInt8} {ws : List (List UInt8)} {x : UInt8} (h : x ∈ Lib.join ws [c]) : x = c ∨ ∃ w ∈ ws, x ∈ w := by
  match ws, h with
  | [], h => simp [Lib.join] at h
  | [w], h => rw [Lib.join_one] at h; exact .inr ⟨w, by simp, h⟩
  | w :: v :: r, h =>
    rw [join_two, List.mem_append, List.mem_cons] at h
    rcases h with h | h | h
    · exact .inr ⟨w, by simp, h⟩
    · exact .inl h
    · rcases join_mem h with h | ⟨u, h1, h2⟩
      · exact .inl h
      · exact .inr ⟨u, List.mem_cons_of_mem _ h1, h2⟩
theorem ln_no {e : TApi_Event} (hk : 1 ≤ e.Kind ∧ e.Kind ≤ 15) : (10 : UInt8) ∉ lnL e := fun h => by
  rcases join_mem h with h | ⟨w, h1, h2⟩
  · exact absurd h (by decide)
  · exact (wds_no hk w h1).2 h2
end
section
theorem join_spl (c : UInt8) (s : List UInt8) : Lib.join (spl c s) [c] = s := by
  generalize hk : s.count c = k
  induction k generalizing s with
  | zero => rw [spl_none (List.count_eq_zero.1 hk), Lib.join_one]
  | succ k ih =>
    obtain ⟨a, r, rfl, ha⟩ := at_first (c := c) (s := s) (List.count_pos_iff.1 (by omega))
    have hr : r.count c = k := by simpa [List.count_append, List.count_eq_zero.2 ha] using hk
    rw [spl_app ha]
    cases hs : spl c r with
    | nil => exact absurd hs (spl_ne c r)
    | cons x y => rw [join_two, ← hs, ih r hr]
def IsLn (s : List UInt8) (e : TApi_Event) : Prop := mRightE e = true ∧ WfE e ∧ lnL e = s
theorem IsLn.uniq {s : List UInt8} {a b : TApi_Event} (h : IsLn s a) (k : IsLn s b) : a = b := ln_inj h.1 k.1 h.2.1 k.2.1 (congrArg mkB (h.2.2.trans k.2.2.symm))
noncomputable def rdE (s : List UInt8) : Option TApi_Event := @dite _ (∃ e, IsLn s e) (Classical.propDecidable _) (fun h => some h.choose) fun _ => none
theorem rdE_some {s : List UInt8} {e : TApi_Event} : rdE s = some e ↔ IsLn s e := by
  unfold rdE
  by_cases h : ∃ e, IsLn s e
  · rw [dif_pos h]
    exact ⟨fun q => by cases q; exact h.choose_spec, fun q => congrArg some (h.choose_spec.uniq q)⟩
  · rw [dif_neg h]
    exact ⟨(fun q => by cases q), fun q => absurd ⟨e, q⟩ h⟩
theorem rdE_none {s : List UInt8} : rdE s = none ↔ ∀ e, ¬ IsLn s e := by
  cases h : rdE s with
  | none => exact ⟨(fun _ e he => by rw [rdE_some.2 he] at h; cases h), fun _ => rfl⟩
  | some e => exact ⟨(fun q => by cases q), fun q => absurd (rdE_some.1 h) (q e)⟩
noncomputable def rdA (acc : List TApi_Event) : List (List UInt8) → List TApi_Event ⊕ Nat
  | [] => .inl acc
  | [p] => if p = [] then .inl acc else .inr (acc.length + 1)
  | p :: q :: r => match rdE p with
    | some e => if 65536 ≤ acc.length then .inr (acc.length + 1) else rdA (acc ++ [e]) (q :: r)
    | none => .inr (acc.length + 1)
def txL (l : List TApi_Event) : List UInt8 := (l.map fun e => lnL e ++ [10]).flatten
theorem txL_cons (e : TApi_Event) (l : List TApi_Event) : txL (e :: l) = lnL e ++ 10 :: txL l := by simp [txL]
theorem rdA_ok : ∀ (P : List (List UInt8)) (acc l : List TApi_Event), P ≠ [] → rdA acc P = .inl l →
    ∃ m, l = acc ++ m ∧ (∀ e ∈ m, mRightE e = true ∧ WfE e) ∧ Lib.join P [10] = txL m ∧ (acc.length ≤ 65536 → l.length ≤ 65536)
  | [], _, _, h, _ => absurd rfl h
  | [p], acc, l, _, h => by
    rw [rdA] at h
    by_cases q : p = []
    · subst q
      rw [if_pos rfl] at h
      cases h
      exact ⟨[], by simp, by simp, by simp [Lib.join_one, txL], fun h => h⟩
    · rw [if_neg q] at h
      cases h
  | p :: q :: r, acc, l, _, h => by
    rw [rdA] at h
    cases he : rdE p with
    | none => rw [he] at h; cases h
    | some e =>
      rw [he] at h
      by_cases hc : 65536 ≤ acc.length
      · simp only [if_pos hc] at h; cases h
      · simp only [if_neg hc] at h
        obtain ⟨m, h1, h2, h3, h4⟩ := rdA_ok (q :: r) (acc ++ [e]) l (by simp) h
        have hl := rdE_some.1 he
        refine ⟨e :: m, by rw [h1]; simp, fun x hx => ?_, ?_, fun _ => h4 (by simp; omega)⟩
        · rcases List.mem_cons.1 hx with rfl | hx
          · exact ⟨hl.1, hl.2.1⟩
          · exact h2 x hx
        · rw [join_two, h3, txL_cons, hl.2.2]
theorem rdA_back : ∀ (m acc : List TApi_Event), (∀ e ∈ m, mRightE e = true ∧ WfE e) → acc.length + m.length ≤ 65536 → rdA acc (spl 10 (txL m)) = .inl (acc ++ m)
  | [], acc, _, _ => by
    show rdA acc [[]] = _
    rw [rdA, if_pos rfl, List.append_nil]
  | e :: m, acc, h, hn => by
    have he := h e (by simp)
    rw [txL_cons, spl_app (ln_no (mRightE_iff.1 he.1).1)]
    have ih := rdA_back m (acc ++ [e]) (fun x hx => h x (by simp [hx])) (by simp at hn ⊢; omega)
    cases hs : spl 10 (txL m) with
    | nil => exact absurd hs (spl_ne _ _)
    | cons q r =>
      rw [hs] at ih
      have hr : rdE (lnL e) = some e := rdE_some.2 ⟨he.1, he.2, rfl⟩
      rw [rdA, hr]
      simp only
      rw [if_neg (by simp at hn; omega), ih]
      simp
theorem rdA_text {s : List UInt8} {l : List TApi_Event} (h : rdA [] (spl 10 s) = .inl l) : (∀ e ∈ l, mRightE e = true ∧ WfE e) ∧ txL l = s ∧ l.length ≤ 65536 := by
  obtain ⟨m, h1, h2, h3, h4⟩ := rdA_ok _ _ _ (spl_ne 10 s) h
  rw [List.nil_append] at h1
  subst h1
  exact ⟨h2, by rw [← h3, join_spl], h4 (by simp)⟩
theorem rdA_line {acc : List TApi_Event} {a r : List UInt8} (ha : (10 : UInt8) ∉ a) : rdA acc (spl 10 (a ++ 10 :: r)) = match rdE a with
    | some e => if 65536 ≤ acc.length then .inr (acc.length + 1) else rdA (acc ++ [e]) (spl 10 r)
    | none => .inr (acc.length + 1) := by
  rw [spl_app ha]
  cases hs : spl 10 r with
  | nil => exact absurd hs (spl_ne _ _)
  | cons q t => rw [rdA]
theorem rdA_last {acc : List TApi_Event} {a : List UInt8} (ha : (10 : UInt8) ∉ a) : rdA acc (spl 10 a) = if a = [] then .inl acc else .inr (acc.length + 1) := by
  rw [spl_none ha, rdA]
theorem digN_len (n : Nat) (h : n < 18446744073709551616) : (Lib.decDigits n).length ≤ 20 := by
  rw [Lib.decDigits_length]
  have : ∀ (k n : Nat), n < 10 ^ (k + 1) → Lib.nDigits n ≤ k + 1 := by
    intro k
    induction k with
    | zero => intro n hn; rw [Lib.nDigits_small (by simpa using hn)]; omega
    | succ k ih =>
      intro n hn
      by_cases q : n < 10
      · rw [Lib.nDigits_small q]; omega
      · rw [Lib.nDigits_big q]
        have := ih (n / 10) (by rw [Nat.pow_succ] at hn; omega)
        omega
  exact this 19 n (by omega)
theorem lnL_len {e : TApi_Event} (h : mRightE e = true) (w : WfE e) : (lnL e).length ≤ 100 := by
  have hr := mRightE_iff.1 h
  obtain ⟨w1, w2, w3, w4, w5⟩ := w
  have hn : (nmK e.Kind).length ≤ 7 := by
    rw [nmK, if_pos hr.1]
    exact (nmN_facts _ (by omega)).2.2.2.1
  have d1 := digN_len e.Thread.toNat (by omega)
  have d2 := digN_len e.Ring.toNat (by omega)
  have d3 := digN_len e.Ticket.toNat (by omega)
  have d4 := digN_len e.Value.toNat (by omega)
  unfold lnL wdsE
  cases kRing e.Kind <;> cases kTicket e.Kind <;> cases kValue e.Kind <;> simp only [Bool.false_eq_true, if_false, if_true, List.nil_append, List.cons_append, join_two, Lib.join_one, List.length_append, List.length_cons] <;> omega
end
end Go.Proofs.YtbmbndfmpndmfaaDoor
