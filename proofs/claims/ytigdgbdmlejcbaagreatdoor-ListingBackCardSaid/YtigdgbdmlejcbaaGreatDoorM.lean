/- Of what a fabric is, plainly: no statement is proved here. -/
import Derived.Test.YtigdgbdmlejcbaaGreatDoorVmC
import Derived.Lib.SplitLaws
import Derived.Lib.Join
namespace Go.Proofs.YtigdgbdmlejcbaaGreatDoor
open Go Go.Vm
set_option maxRecDepth 100000
section
structure TApi_Instr where
  Op : Int
  A : Int
  B : Int
  C : Int
  D : Int
  K : Int
structure TApi_Ring where
  Kind : Int
  Cap : Int
  Readers : Int
structure TApi_Event where
  Thread : Int
  Kind : Int
  Ring : Int
  Ticket : Int
  Value : Int
structure TApi_Slot where
  Stamp : Int
  Value : Int
  Left : Int
end
section
def mkB (l : List UInt8) : ByteArray := ⟨l.toArray⟩
theorem mkB_data (l : List UInt8) : (mkB l).data.toList = l := by simp [mkB]
theorem mkB_list (s : ByteArray) : mkB s.data.toList = s := by obtain ⟨⟨l⟩⟩ := s; rfl
theorem mkB_inj {a b : List UInt8} (h : mkB a = mkB b) : a = b := by
  have := congrArg (fun x : ByteArray => x.data.toList) h
  simpa only [mkB_data] using this
theorem mkB_app (a b : List UInt8) : mkB a ++ mkB b = mkB (a ++ b) := by
  apply ByteArray.ext
  rw [ByteArray.data_append]
  simp [mkB]
theorem mkB_size (l : List UInt8) : (mkB l).size = l.length := by simp [mkB, ByteArray.size]
theorem app_data (a b : ByteArray) : (a ++ b).data.toList = a.data.toList ++ b.data.toList := by rw [ByteArray.data_append]; simp
theorem data_len (s : ByteArray) : s.data.toList.length = s.size := Array.length_toList
theorem dig_rec {n : Nat} (h : ¬ n < 10) : Lib.decDigits n = Lib.decDigits (n / 10) ++ [UInt8.ofNat (48 + n % 10)] := by rw [Lib.decDigits, dif_neg h]
theorem dig_one {n : Nat} (h : n < 10) : Lib.decDigits n = [UInt8.ofNat (48 + n)] := by rw [Lib.decDigits, dif_pos h]
theorem dig_nat {d : Nat} (h : d < 10) : (UInt8.ofNat (48 + d)).toNat = 48 + d := by rw [UInt8.toNat_ofNat']; exact Nat.mod_eq_of_lt (Nat.lt_of_lt_of_le (Nat.add_lt_add_left h 48) (by decide))
theorem dig_all (n : Nat) : ∀ c ∈ Lib.decDigits n, 48 ≤ c.toNat ∧ c.toNat ≤ 57 := by
  induction n using Nat.strongRecOn with
  | ind n ih =>
    intro c hc
    by_cases h : n < 10
    · rw [dig_one h, List.mem_singleton] at hc
      subst hc
      rw [dig_nat h]; omega
    · rw [dig_rec h, List.mem_append, List.mem_singleton] at hc
      rcases hc with hc | hc
      · exact ih _ (by omega) c hc
      · subst hc; rw [dig_nat (by omega)]; omega
theorem dig_ne (n : Nat) : Lib.decDigits n ≠ [] := by
  by_cases h : n < 10
  · rw [dig_one h]; simp
  · rw [dig_rec h]; simp
def valF (acc : Nat) (l : List UInt8) : Nat := l.foldl (fun a c => a * 10 + (c.toNat - 48)) acc
theorem valF_cons (acc : Nat) (c : UInt8) (l : List UInt8) : valF acc (c :: l) = valF (acc * 10 + (c.toNat - 48)) l := by unfold valF; rw [List.foldl_cons]
theorem valF_nil (acc : Nat) : valF acc [] = acc := by unfold valF; rw [List.foldl_nil]
theorem valF_app (acc : Nat) (l r : List UInt8) : valF acc (l ++ r) = valF (valF acc l) r := by simp [valF]
theorem valF_ge (l : List UInt8) : ∀ acc : Nat, acc ≤ valF acc l := by
  induction l with
  | nil => exact fun acc => by rw [valF_nil]; exact Nat.le_refl acc
  | cons c l ih =>
    intro acc
    have := ih (acc * 10 + (c.toNat - 48))
    rw [valF_cons]
    omega
theorem valF_dig (n : Nat) : valF 0 (Lib.decDigits n) = n := by
  induction n using Nat.strongRecOn with
  | ind n ih =>
    by_cases h : n < 10
    · rw [dig_one h, valF_cons, dig_nat h, valF_nil]; omega
    · rw [dig_rec h, valF_app, ih _ (by omega), valF_cons, dig_nat (by omega), valF_nil]; omega
theorem dig_inj {a b : Nat} (h : Lib.decDigits a = Lib.decDigits b) : a = b := by rw [← valF_dig a, h, valF_dig]
theorem parse_ok {M : Nat} (hM : M ≤ 18446744073709551615) : ∀ (l : List UInt8) (acc : Nat), (∀ c ∈ l, 48 ≤ c.toNat ∧ c.toNat ≤ 57) → valF acc l ≤ M → Lib.parseUintM M acc l = .ok (valF acc l)
  | [], acc, _, _ => by rw [valF_nil]; rfl
  | c :: l, acc, h, hv => by
    have h0 := h c (by simp)
    rw [valF_cons] at hv ⊢
    have h1 : acc * 10 + (c.toNat - 48) ≤ M := Nat.le_trans (valF_ge l _) hv
    rw [Lib.parseUintM, if_pos h0, if_neg (by omega), if_neg (by omega), parse_ok hM l _ (fun c hc => h c (by simp [hc])) hv]
theorem parse_dig {n : Nat} (h : n < 18446744073709551616) : Lib.parseUintB 64 (Lib.decDigits n) = .ok n := by
  have hp : (2 : Nat) ^ 64 - 1 = 18446744073709551615 := by decide
  rw [Lib.parseUintB, if_neg (dig_ne n), hp, parse_ok (Nat.le_refl _) _ _ (dig_all n) (by rw [valF_dig]; omega), valF_dig]
def spl (c : UInt8) : List UInt8 → List (List UInt8)
  | [] => [[]]
  | b :: r => if b = c then [] :: spl c r else (b :: (spl c r).headD []) :: (spl c r).tail
theorem spl_ne (c : UInt8) (s : List UInt8) : spl c s ≠ [] := by
  cases s with
  | nil => simp [spl]
  | cons b r => rw [spl]; split <;> simp
theorem spl_none {c : UInt8} : ∀ {s : List UInt8}, c ∉ s → spl c s = [s]
  | [], _ => rfl
  | b :: r, h => by
    rw [spl, if_neg (fun e => h (by simp [e])), spl_none (fun q => h (by simp [q]))]; rfl
theorem spl_app {c : UInt8} : ∀ {a r : List UInt8}, c ∉ a → spl c (a ++ c :: r) = a :: spl c r
  | [], _, _ => by simp [spl]
  | b :: a, r, h => by
    rw [List.cons_append, spl, if_neg (fun e => h (by simp [e])), spl_app (fun q => h (by simp [q]))]; rfl
theorem join_two (x y : List UInt8) (r : List (List UInt8)) (c : UInt8) : Lib.join (x :: y :: r) [c] = x ++ c :: Lib.join (y :: r) [c] := by simp [Lib.join, List.intercalate]
theorem spl_join {c : UInt8} : ∀ {ws : List (List UInt8)}, ws ≠ [] → (∀ w ∈ ws, c ∉ w) → spl c (Lib.join ws [c]) = ws
  | [], h, _ => absurd rfl h
  | [x], _, h => by rw [Lib.join_one, spl_none (h x (by simp))]
  | x :: y :: r, _, h => by rw [join_two, spl_app (h x (by simp)), spl_join (by simp) fun w hw => h w (by simp [hw])]
theorem idx_miss {c : UInt8} : ∀ {s : List UInt8}, c ∉ s → Lib.index s [c] = -1
  | [], _ => rfl
  | b :: r, h => by
    rw [Lib.index, idx_miss (fun q => h (by simp [q])), if_neg]
    · rfl
    · simp only [List.isPrefixOf, Bool.and_true, beq_iff_eq]; exact fun e => h (by simp [e])
theorem idx_hit {c : UInt8} : ∀ {a r : List UInt8}, c ∉ a → Lib.index (a ++ c :: r) [c] = (a.length : Int)
  | [], _, _ => by simp [Lib.index, List.isPrefixOf]
  | b :: a, r, h => by
    rw [List.cons_append, Lib.index, idx_hit (fun q => h (by simp [q])), if_neg, if_neg]
    · simp
    · simp only [beq_iff_eq]; omega
    · simp only [List.isPrefixOf, Bool.and_true, beq_iff_eq]; exact fun e => h (by simp [e])
theorem at_first {c : UInt8} {s : List UInt8} (h : c ∈ s) : ∃ a r, s = a ++ c :: r ∧ c ∉ a := by
  obtain ⟨a, r, e, k⟩ := List.eq_append_cons_of_mem h
  exact ⟨a, r, e, k⟩
theorem splitK_spl (c : UInt8) : ∀ (k : Nat) (s : List UInt8), s.count c = k → Lib.splitK [c] 0 k s = spl c s
  | 0, s, h => by rw [spl_none (List.count_eq_zero.1 h)]; rfl
  | k + 1, s, h => by
    obtain ⟨a, r, rfl, ha⟩ := at_first (c := c) (s := s) (List.count_pos_iff.1 (by omega))
    have hr : r.count c = k := by simpa [List.count_append, List.count_eq_zero.2 ha] using h
    rw [Lib.splitK, idx_hit ha, if_neg (by simp only [beq_iff_eq]; omega), spl_app ha, ← splitK_spl c k r hr]
    simp
theorem spl_len (c : UInt8) (s : List UInt8) : (spl c s).length = s.count c + 1 := by
  induction s with
  | nil => rfl
  | cons b r ih =>
    rw [spl]
    by_cases h : b = c
    · subst h; simp [ih]
    · rw [if_neg h, List.count_cons_of_ne h]
      simp [ih]
theorem splL_spl (s : ByteArray) (c : UInt8) : (splL (s, mkB [c])).map (·.data.toList) = spl c s.data.toList := by
  unfold splL
  rw [Lib.splitB_data, mkB_data, ← splitK_spl c _ _ rfl]
  show Lib.splitK [c] 0 (Lib.count s.data.toList (mkB [c]).data.toList) _ = _
  rw [mkB_data, Lib.count_one]
theorem splL_eq (s : ByteArray) (c : UInt8) : splL (s, mkB [c]) = (spl c s.data.toList).map mkB := by
  rw [← splL_spl, List.map_map]
  conv => lhs; rw [← List.map_id (splL (s, mkB [c]))]
  exact List.map_congr_left fun x _ => (mkB_list x).symm
theorem cutB_mem {s : ByteArray} {c : UInt8} {a r : List UInt8} (h : s.data.toList = a ++ c :: r) (ha : c ∉ a) : cutB (s, mkB [c]) = (mkB a, mkB r, true) := by
  simp only [cutB, Lib.cut, h, mkB_data, idx_hit ha]
  rw [if_pos (by omega)]
  simp [mkB]
theorem cutB_miss {s : ByteArray} {c : UInt8} (h : c ∉ s.data.toList) : cutB (s, mkB [c]) = (s, mkB [], false) := by
  simp only [cutB, Lib.cut, mkB_data, idx_miss h]
  rw [if_neg (by omega)]
  exact congrArg (fun x => (x, mkB [], false)) (mkB_list s)
theorem dig_no {n : Nat} {c : UInt8} (h : c.toNat < 48) : c ∉ Lib.decDigits n := fun q => by have := dig_all n c q; omega
theorem join_mem {c : UInt8} {ws : List (List UInt8)} {x : UInt8} (h : x ∈ Lib.join ws [c]) : x = c ∨ ∃ w ∈ ws, x ∈ w := by
  match ws, h with
  | [], h => simp [Lib.join] at h
  | [w], h => rw [Lib.join_one] at h; exact .inr ⟨w, by simp, h⟩
  | w :: v :: r, h =>
    rw [join_two, List.mem_append, List.mem_cons] at h
    rcases h with h | h | h
    · exact .inr ⟨w, by simp, h⟩
    · exact .inl h
    · rcases join_mem h with h | ⟨u, h1, h2⟩
      · exact .inl h
      · exact .inr ⟨u, List.mem_cons_of_mem _ h1, h2⟩
theorem join_spl (c : UInt8) (s : List UInt8) : Lib.join (spl c s) [c] = s := by
  generalize hk : s.count c = k
  induction k generalizing s with
  | zero => rw [spl_none (List.count_eq_zero.1 hk), Lib.join_one]
  | succ k ih =>
    obtain ⟨a, r, rfl, ha⟩ := at_first (c := c) (s := s) (List.count_pos_iff.1 (by omega))
    have hr : r.count c = k := by simpa [List.count_append, List.count_eq_zero.2 ha] using hk
    rw [spl_app ha]
    cases hs : spl c r with
    | nil => exact absurd hs (spl_ne c r)
    | cons x y => rw [join_two, ← hs, ih r hr]
theorem digN_len (n : Nat) (h : n < 18446744073709551616) : (Lib.decDigits n).length ≤ 20 := by
  rw [Lib.decDigits_length]
  have : ∀ (k n : Nat), n < 10 ^ (k + 1) → Lib.nDigits n ≤ k + 1 := by
    intro k
    induction k with
    | zero => intro n hn; rw [Lib.nDigits_small (by simpa using hn)]; omega
    | succ k ih =>
      intro n hn
      by_cases q : n < 10
      · rw [Lib.nDigits_small q]; omega
      · rw [Lib.nDigits_big q]
        have := ih (n / 10) (by rw [Nat.pow_succ] at hn; omega)
        omega
  exact this 19 n (by omega)
end
section
def rightI (i : TApi_Instr) : Bool :=
  let r := fun (x : Int) (m : Int) => decide (0 ≤ x ∧ x ≤ m)
  if i.Op = 1 then r i.A 7 && r i.B 0 && r i.C 0 && r i.D 0
  else if i.Op = 2 ∨ i.Op = 23 then r i.A 7 && r i.B 7 && r i.C 0 && r i.D 0 && r i.K 0
  else if 3 ≤ i.Op ∧ i.Op ≤ 14 then r i.A 7 && r i.B 7 && r i.C 7 && r i.D 0 && r i.K 0
  else if i.Op = 15 then r i.A 0 && r i.B 0 && r i.C 0 && r i.D 0 && r i.K 256
  else if i.Op = 16 ∨ i.Op = 17 then r i.A 7 && r i.B 0 && r i.C 0 && r i.D 0 && r i.K 256
  else if i.Op = 18 then r i.A 7 && r i.B 7 && r i.C 7 && r i.D 2 && r i.K 0
  else if i.Op = 19 then r i.A 7 && r i.B 7 && r i.C 7 && r i.D 2 && r i.K 7
  else if i.Op = 20 then r i.A 0 && r i.B 0 && r i.C 7 && r i.D 0 && r i.K 0
  else if i.Op = 21 ∨ i.Op = 22 ∨ i.Op = 24 then r i.A 7 && r i.B 0 && r i.C 0 && r i.D 0 && r i.K 0
  else if i.Op = 25 then r i.A 0 && r i.B 0 && r i.C 0 && r i.D 0 && r i.K 0
  else false
theorem rightI_facts {i : TApi_Instr} (h : rightI i = true) :
    (1 ≤ i.Op ∧ i.Op ≤ 25) ∧ (0 ≤ i.A ∧ i.A ≤ 7) ∧ (0 ≤ i.B ∧ i.B ≤ 7) ∧ (0 ≤ i.C ∧ i.C ≤ 7) ∧ (0 ≤ i.D ∧ i.D ≤ 2) ∧ (i.Op ≠ 1 → 0 ≤ i.K ∧ i.K ≤ 256) ∧ (i.Op = 19 → i.K ≤ 7) := by
  unfold rightI at h
  simp only at h
  repeat' split at h
  all_goals first | (exact absurd h (by decide)) | (simp only [Bool.and_eq_true, decide_eq_true_eq] at h; omega)
def WfI (i : TApi_Instr) : Prop := (-9223372036854775808 ≤ i.Op ∧ i.Op ≤ 9223372036854775807) ∧ (-9223372036854775808 ≤ i.A ∧ i.A ≤ 9223372036854775807) ∧ (-9223372036854775808 ≤ i.B ∧ i.B ≤ 9223372036854775807) ∧
  (-9223372036854775808 ≤ i.C ∧ i.C ≤ 9223372036854775807) ∧ (-9223372036854775808 ≤ i.D ∧ i.D ≤ 9223372036854775807) ∧ (0 ≤ i.K ∧ i.K < 18446744073709551616)
def opN : Nat → List UInt8
  | 0 => [115, 101, 116]
  | 1 => [109, 111, 118]
  | 2 => [97, 100, 100]
  | 3 => [115, 117, 98]
  | 4 => [109, 117, 108]
  | 5 => [100, 105, 118]
  | 6 => [109, 111, 100]
  | 7 => [97, 110, 100]
  | 8 => [111, 114]
  | 9 => [120, 111, 114]
  | 10 => [115, 104, 108]
  | 11 => [115, 104, 114]
  | 12 => [108, 116]
  | 13 => [101, 113]
  | 14 => [106, 109, 112]
  | 15 => [106, 122]
  | 16 => [106, 110, 122]
  | 17 => [115, 101, 110, 100]
  | 18 => [114, 101, 99, 118]
  | 19 => [99, 108, 111, 115, 101]
  | 20 => [99, 108, 111, 99, 107]
  | 21 => [100, 114, 97, 119]
  | 22 => [114, 101, 97, 100]
  | 23 => [115, 101, 101]
  | _ => [104, 97, 108, 116]
def opK (k : Int) : List UInt8 := if 1 ≤ k ∧ k ≤ 25 then opN (k - 1).toNat else []
theorem opN_facts : ∀ i, i < 25 → opN i ≠ [] ∧ 32 ∉ opN i ∧ 10 ∉ opN i ∧ (opN i).length ≤ 5 ∧ opN i ≠ [116, 104, 114, 101, 97, 100] := by decide
theorem opN_inj : ∀ i, i < 25 → ∀ j, j < 25 → opN i = opN j → i = j := by decide
theorem opK_empty {k : Int} : opK k = [] ↔ ¬ (1 ≤ k ∧ k ≤ 25) := by
  unfold opK
  split
  · rename_i h
    exact ⟨fun q => absurd q (opN_facts (k - 1).toNat (by omega)).1, fun q => absurd h q⟩
  · rename_i h
    exact ⟨fun _ => h, fun _ => rfl⟩
theorem opK_inj {k j : Int} (h : 1 ≤ k ∧ k ≤ 25) (e : opK k = opK j) : k = j := by
  have hj : 1 ≤ j ∧ j ≤ 25 := Classical.byContradiction fun q => by
    rw [opK_empty.2 q] at e
    exact opK_empty.1 e h
  rw [opK, opK, if_pos h, if_pos hj] at e
  have := opN_inj _ (by omega) _ (by omega) e
  omega
def frm (op : Int) : List Nat :=
  if op = 1 ∨ op = 16 ∨ op = 17 then [0, 5] else if op = 2 ∨ op = 23 then [0, 1] else if op = 15 then [5] else if op = 18 then [0, 1, 3, 4] else if op = 19 then [0, 1, 3, 4, 5]
  else if op = 20 then [3] else if op = 21 ∨ op = 22 ∨ op = 24 then [0] else if op = 25 then [] else [0, 1, 2]
def wtN : Nat → List UInt8
  | 0 => [116, 114, 121]
  | 1 => [119, 97, 105, 116]
  | _ => [116, 105, 109, 101, 100]
def fldW (i : TApi_Instr) : Nat → List UInt8
  | 0 => 114 :: Lib.decDigits i.A.toNat
  | 1 => 114 :: Lib.decDigits i.B.toNat
  | 2 => 114 :: Lib.decDigits i.C.toNat
  | 3 => Lib.decDigits i.C.toNat
  | 4 => wtN i.D.toNat
  | _ => Lib.decDigits i.K.toNat
def wdsI (i : TApi_Instr) : List (List UInt8) := opK i.Op :: (frm i.Op).map (fldW i)
def lnL (i : TApi_Instr) : List UInt8 := Lib.join (wdsI i) [32]
def lnB (i : TApi_Instr) : ByteArray := mkB (lnL i)
inductive Cls (i : TApi_Instr) : Prop
  | ak (h : i.Op = 1 ∨ i.Op = 16 ∨ i.Op = 17) (f : frm i.Op = [0, 5]) (a : 0 ≤ i.A ∧ i.A ≤ 7) (b : i.B = 0) (c : i.C = 0) (d : i.D = 0)
  | ab (h : i.Op = 2 ∨ i.Op = 23) (f : frm i.Op = [0, 1]) (a : 0 ≤ i.A ∧ i.A ≤ 7) (b : 0 ≤ i.B ∧ i.B ≤ 7) (c : i.C = 0) (d : i.D = 0) (k : i.K = 0)
  | k (h : i.Op = 15) (f : frm i.Op = [5]) (a : i.A = 0) (b : i.B = 0) (c : i.C = 0) (d : i.D = 0)
  | send (h : i.Op = 18) (f : frm i.Op = [0, 1, 3, 4]) (a : 0 ≤ i.A ∧ i.A ≤ 7) (b : 0 ≤ i.B ∧ i.B ≤ 7) (c : 0 ≤ i.C ∧ i.C ≤ 7) (d : 0 ≤ i.D ∧ i.D ≤ 2) (k : i.K = 0)
  | recv (h : i.Op = 19) (f : frm i.Op = [0, 1, 3, 4, 5]) (a : 0 ≤ i.A ∧ i.A ≤ 7) (b : 0 ≤ i.B ∧ i.B ≤ 7) (c : 0 ≤ i.C ∧ i.C ≤ 7) (d : 0 ≤ i.D ∧ i.D ≤ 2)
  | c (h : i.Op = 20) (f : frm i.Op = [3]) (a : i.A = 0) (b : i.B = 0) (c : 0 ≤ i.C ∧ i.C ≤ 7) (d : i.D = 0) (k : i.K = 0)
  | a (h : i.Op = 21 ∨ i.Op = 22 ∨ i.Op = 24) (f : frm i.Op = [0]) (a : 0 ≤ i.A ∧ i.A ≤ 7) (b : i.B = 0) (c : i.C = 0) (d : i.D = 0) (k : i.K = 0)
  | halt (h : i.Op = 25) (f : frm i.Op = []) (a : i.A = 0) (b : i.B = 0) (c : i.C = 0) (d : i.D = 0) (k : i.K = 0)
  | abc (h : 3 ≤ i.Op ∧ i.Op ≤ 14) (f : frm i.Op = [0, 1, 2]) (a : 0 ≤ i.A ∧ i.A ≤ 7) (b : 0 ≤ i.B ∧ i.B ≤ 7) (c : 0 ≤ i.C ∧ i.C ≤ 7) (d : i.D = 0) (k : i.K = 0)
theorem frm_ak {op : Int} (h : op = 1 ∨ op = 16 ∨ op = 17) : frm op = [0, 5] := if_pos h
theorem frm_ab {op : Int} (h : op = 2 ∨ op = 23) : frm op = [0, 1] := by rw [frm, if_neg (by omega), if_pos h]
theorem frm_k {op : Int} (h : op = 15) : frm op = [5] := by rw [frm, if_neg (by omega), if_neg (by omega), if_pos h]
theorem frm_send {op : Int} (h : op = 18) : frm op = [0, 1, 3, 4] := by rw [frm, if_neg (by omega), if_neg (by omega), if_neg (by omega), if_pos h]
theorem frm_recv {op : Int} (h : op = 19) : frm op = [0, 1, 3, 4, 5] := by rw [frm, if_neg (by omega), if_neg (by omega), if_neg (by omega), if_neg (by omega), if_pos h]
theorem frm_c {op : Int} (h : op = 20) : frm op = [3] := by rw [frm, if_neg (by omega), if_neg (by omega), if_neg (by omega), if_neg (by omega), if_neg (by omega), if_pos h]
theorem frm_a {op : Int} (h : op = 21 ∨ op = 22 ∨ op = 24) : frm op = [0] := by rw [frm, if_neg (by omega), if_neg (by omega), if_neg (by omega), if_neg (by omega), if_neg (by omega), if_neg (by omega), if_pos h]
theorem frm_halt {op : Int} (h : op = 25) : frm op = [] := by rw [frm, if_neg (by omega), if_neg (by omega), if_neg (by omega), if_neg (by omega), if_neg (by omega), if_neg (by omega), if_neg (by omega), if_pos h]
theorem frm_abc {op : Int} (h : 3 ≤ op ∧ op ≤ 14) : frm op = [0, 1, 2] := by rw [frm, if_neg (by omega), if_neg (by omega), if_neg (by omega), if_neg (by omega), if_neg (by omega), if_neg (by omega), if_neg (by omega), if_neg (by omega)]
theorem right_cls {i : TApi_Instr} (h : rightI i = true) : Cls i := by
  unfold rightI at h
  simp only at h
  split at h
  · rename_i q; simp only [Bool.and_eq_true, decide_eq_true_eq] at h; exact .ak (by omega) (frm_ak (by omega)) (by omega) (by omega) (by omega) (by omega)
  split at h
  · rename_i q; simp only [Bool.and_eq_true, decide_eq_true_eq] at h; exact .ab q (frm_ab q) (by omega) (by omega) (by omega) (by omega) (by omega)
  split at h
  · rename_i q; simp only [Bool.and_eq_true, decide_eq_true_eq] at h; exact .abc q (frm_abc q) (by omega) (by omega) (by omega) (by omega) (by omega)
  split at h
  · rename_i q; simp only [Bool.and_eq_true, decide_eq_true_eq] at h; exact .k q (frm_k q) (by omega) (by omega) (by omega) (by omega)
  split at h
  · rename_i q; simp only [Bool.and_eq_true, decide_eq_true_eq] at h; exact .ak (.inr q) (frm_ak (.inr q)) (by omega) (by omega) (by omega) (by omega)
  split at h
  · rename_i q; simp only [Bool.and_eq_true, decide_eq_true_eq] at h; exact .send q (frm_send q) (by omega) (by omega) (by omega) (by omega) (by omega)
  split at h
  · rename_i q; simp only [Bool.and_eq_true, decide_eq_true_eq] at h; exact .recv q (frm_recv q) (by omega) (by omega) (by omega) (by omega)
  split at h
  · rename_i q; simp only [Bool.and_eq_true, decide_eq_true_eq] at h; exact .c q (frm_c q) (by omega) (by omega) (by omega) (by omega) (by omega)
  split at h
  · rename_i q; simp only [Bool.and_eq_true, decide_eq_true_eq] at h; exact .a q (frm_a q) (by omega) (by omega) (by omega) (by omega) (by omega)
  split at h
  · rename_i q; simp only [Bool.and_eq_true, decide_eq_true_eq] at h; exact .halt q (frm_halt q) (by omega) (by omega) (by omega) (by omega) (by omega)
  · cases h
theorem wtN_facts : ∀ n, n < 3 → 32 ∉ wtN n ∧ 10 ∉ wtN n ∧ (wtN n).length ≤ 5 := by decide
theorem wtN_inj : ∀ i, i < 3 → ∀ j, j < 3 → wtN i = wtN j → i = j := by decide
theorem dig_free (n : Nat) : (32 : UInt8) ∉ Lib.decDigits n ∧ (10 : UInt8) ∉ Lib.decDigits n := ⟨dig_no (by decide), dig_no (by decide)⟩
theorem reg_free (n : Nat) : (32 : UInt8) ∉ (114 :: Lib.decDigits n) ∧ (10 : UInt8) ∉ (114 :: Lib.decDigits n) :=
  ⟨fun h => (List.mem_cons.1 h).elim (by decide) (dig_free n).1, fun h => (List.mem_cons.1 h).elim (by decide) (dig_free n).2⟩
theorem fld_free {i : TApi_Instr} (hd : 0 ≤ i.D ∧ i.D ≤ 2) : ∀ l, (32 : UInt8) ∉ fldW i l ∧ (10 : UInt8) ∉ fldW i l
  | 0 => reg_free _
  | 1 => reg_free _
  | 2 => reg_free _
  | 3 => dig_free _
  | 4 => ⟨(wtN_facts _ (by omega)).1, (wtN_facts _ (by omega)).2.1⟩
  | _ + 5 => dig_free _
theorem wds_no {i : TApi_Instr} (h : rightI i = true) : ∀ w ∈ wdsI i, (32 : UInt8) ∉ w ∧ (10 : UInt8) ∉ w := by
  have hf := rightI_facts h
  intro w hw
  rcases List.mem_cons.1 hw with rfl | hw
  · rw [opK, if_pos hf.1]
    have := opN_facts (i.Op - 1).toNat (by omega)
    exact ⟨this.2.1, this.2.2.1⟩
  · obtain ⟨l, _, rfl⟩ := List.mem_map.1 hw
    exact fld_free hf.2.2.2.2.1 l
theorem ext_I {a b : TApi_Instr} (h0 : a.Op = b.Op) (h1 : a.A = b.A) (h2 : a.B = b.B) (h3 : a.C = b.C) (h4 : a.D = b.D) (h5 : a.K = b.K) : a = b := by
  obtain ⟨a0, a1, a2, a3, a4, a5⟩ := a
  obtain ⟨b0, b1, b2, b3, b4, b5⟩ := b
  simp only at h0 h1 h2 h3 h4 h5
  rw [h0, h1, h2, h3, h4, h5]
theorem wds_inj {a b : TApi_Instr} (ha : rightI a = true) (hb : rightI b = true) (wa : WfI a) (wb : WfI b) (hw : wdsI a = wdsI b) : a = b := by
  have fa := rightI_facts ha
  have fb := rightI_facts hb
  have ca := right_cls ha
  have cb := right_cls hb
  simp only [wdsI, List.cons.injEq] at hw
  obtain ⟨hop, hw⟩ := hw
  have hop := opK_inj fa.1 hop
  have wa := wa.2.2.2.2.2
  have wb := wb.2.2.2.2.2
  have kd : ∀ {x y : Int}, 0 ≤ x → 0 ≤ y → Lib.decDigits x.toNat = Lib.decDigits y.toNat → x = y := fun h0 h1 e => by have := dig_inj e; omega
  have kw : ∀ {x y : Int}, 0 ≤ x ∧ x ≤ 2 → 0 ≤ y ∧ y ≤ 2 → wtN x.toNat = wtN y.toNat → x = y := fun h0 h1 e => by have := wtN_inj _ (by omega) _ (by omega) e; omega
  have kr : ∀ {x y : Int}, 0 ≤ x → 0 ≤ y → 114 :: Lib.decDigits x.toNat = 114 :: Lib.decDigits y.toNat → x = y := fun h0 h1 e => kd h0 h1 (List.cons.inj e).2
  cases ca with
  | ak h1 f1 a1 b1 c1 d1 =>
    cases cb with
    | ak h2 f2 a2 b2 c2 d2 =>
      simp only [f1, f2, List.map_cons, List.map_nil, List.cons.injEq, fldW, and_true, true_and] at hw
      obtain ⟨e0, e5⟩ := hw
      have za := kd (x := a.A) (y := b.A) (by omega) (by omega) e0
      have zk := kd (x := a.K) (y := b.K) (by omega) (by omega) e5
      exact ext_I hop (by omega) (by omega) (by omega) (by omega) (by omega)
    | _ => exfalso; omega
  | ab h1 f1 a1 b1 c1 d1 k1 =>
    cases cb with
    | ab h2 f2 a2 b2 c2 d2 k2 =>
      simp only [f1, f2, List.map_cons, List.map_nil, List.cons.injEq, fldW, and_true, true_and] at hw
      obtain ⟨e0, e1⟩ := hw
      have za := kd (x := a.A) (y := b.A) (by omega) (by omega) e0
      have zb := kd (x := a.B) (y := b.B) (by omega) (by omega) e1
      exact ext_I hop (by omega) (by omega) (by omega) (by omega) (by omega)
    | _ => exfalso; omega
  | k h1 f1 a1 b1 c1 d1 =>
    cases cb with
    | k h2 f2 a2 b2 c2 d2 =>
      simp only [f1, f2, List.map_cons, List.map_nil, List.cons.injEq, fldW, and_true, true_and] at hw
      have e5 := hw
      have zk := kd (x := a.K) (y := b.K) (by omega) (by omega) e5
      exact ext_I hop (by omega) (by omega) (by omega) (by omega) (by omega)
    | _ => exfalso; omega
  | send h1 f1 a1 b1 c1 d1 k1 =>
    cases cb with
    | send h2 f2 a2 b2 c2 d2 k2 =>
      simp only [f1, f2, List.map_cons, List.map_nil, List.cons.injEq, fldW, and_true, true_and] at hw
      obtain ⟨e0, e1, e3, e4⟩ := hw
      have za := kd (x := a.A) (y := b.A) (by omega) (by omega) e0
      have zb := kd (x := a.B) (y := b.B) (by omega) (by omega) e1
      have zc := kd (x := a.C) (y := b.C) (by omega) (by omega) e3
      have zd := kw (x := a.D) (y := b.D) (by omega) (by omega) e4
      exact ext_I hop (by omega) (by omega) (by omega) (by omega) (by omega)
    | _ => exfalso; omega
  | recv h1 f1 a1 b1 c1 d1 =>
    cases cb with
    | recv h2 f2 a2 b2 c2 d2 =>
      simp only [f1, f2, List.map_cons, List.map_nil, List.cons.injEq, fldW, and_true, true_and] at hw
      obtain ⟨e0, e1, e3, e4, e5⟩ := hw
      have za := kd (x := a.A) (y := b.A) (by omega) (by omega) e0
      have zb := kd (x := a.B) (y := b.B) (by omega) (by omega) e1
      have zc := kd (x := a.C) (y := b.C) (by omega) (by omega) e3
      have zd := kw (x := a.D) (y := b.D) (by omega) (by omega) e4
      have zk := kd (x := a.K) (y := b.K) (by omega) (by omega) e5
      exact ext_I hop (by omega) (by omega) (by omega) (by omega) (by omega)
    | _ => exfalso; omega
  | c h1 f1 a1 b1 c1 d1 k1 =>
    cases cb with
    | c h2 f2 a2 b2 c2 d2 k2 =>
      simp only [f1, f2, List.map_cons, List.map_nil, List.cons.injEq, fldW, and_true, true_and] at hw
      have e3 := hw
      have zc := kd (x := a.C) (y := b.C) (by omega) (by omega) e3
      exact ext_I hop (by omega) (by omega) (by omega) (by omega) (by omega)
    | _ => exfalso; omega
  | a h1 f1 a1 b1 c1 d1 k1 =>
    cases cb with
    | a h2 f2 a2 b2 c2 d2 k2 =>
      simp only [f1, f2, List.map_cons, List.map_nil, List.cons.injEq, fldW, and_true, true_and] at hw
      have e0 := hw
      have za := kd (x := a.A) (y := b.A) (by omega) (by omega) e0
      exact ext_I hop (by omega) (by omega) (by omega) (by omega) (by omega)
    | _ => exfalso; omega
  | halt h1 f1 a1 b1 c1 d1 k1 =>
    cases cb with
    | halt h2 f2 a2 b2 c2 d2 k2 =>
      exact ext_I hop (by omega) (by omega) (by omega) (by omega) (by omega)
    | _ => exfalso; omega
  | abc h1 f1 a1 b1 c1 d1 k1 =>
    cases cb with
    | abc h2 f2 a2 b2 c2 d2 k2 =>
      simp only [f1, f2, List.map_cons, List.map_nil, List.cons.injEq, fldW, and_true, true_and] at hw
      obtain ⟨e0, e1, e2⟩ := hw
      have za := kd (x := a.A) (y := b.A) (by omega) (by omega) e0
      have zb := kd (x := a.B) (y := b.B) (by omega) (by omega) e1
      have zc := kd (x := a.C) (y := b.C) (by omega) (by omega) e2
      exact ext_I hop (by omega) (by omega) (by omega) (by omega) (by omega)
    | _ => exfalso; omega
theorem spl_ln {i : TApi_Instr} (h : rightI i = true) : spl 32 (lnL i) = wdsI i := spl_join (by simp [wdsI]) fun w hw => (wds_no h w hw).1
theorem ln_inj {a b : TApi_Instr} (ha : rightI a = true) (hb : rightI b = true) (wa : WfI a) (wb : WfI b) (h : lnL a = lnL b) : a = b := by
  refine wds_inj ha hb wa wb ?_
  rw [← spl_ln ha, ← spl_ln hb, h]
theorem ln_no {i : TApi_Instr} (h : rightI i = true) : (10 : UInt8) ∉ lnL i := fun q => by
  rcases join_mem q with q | ⟨w, h1, h2⟩
  · exact absurd q (by decide)
  · exact (wds_no h w h1).2 h2
theorem join_len (m : Nat) : ∀ {ws : List (List UInt8)}, (∀ w ∈ ws, w.length ≤ m) → (Lib.join ws [32]).length ≤ ws.length * (m + 1)
  | [], _ => by simp [Lib.join]
  | [w], h => by rw [Lib.join_one]; have := h w (by simp); simp; omega
  | w :: v :: r, h => by
    have h1 := h w (by simp)
    have h2 := join_len m (ws := v :: r) fun x hx => h x (List.mem_cons_of_mem _ hx)
    rw [join_two]
    simp only [List.length_append, List.length_cons] at h2 ⊢
    have : (r.length + 1 + 1) * (m + 1) = (r.length + 1) * (m + 1) + (m + 1) := Nat.succ_mul _ _
    omega
theorem frm_len (op : Int) : (frm op).length ≤ 5 := by
  unfold frm
  repeat' split
  all_goals decide
theorem lnL_len {i : TApi_Instr} (h : rightI i = true) (w : WfI i) : (lnL i).length ≤ 150 := by
  have hf := rightI_facts h
  have d : ∀ x : Int, 0 ≤ x → x < 18446744073709551616 → (Lib.decDigits x.toNat).length ≤ 20 := fun x h0 h1 => digN_len _ (by omega)
  have key : ∀ u ∈ wdsI i, u.length ≤ 21 := by
    intro u hu
    rcases List.mem_cons.1 hu with rfl | hu
    · rw [opK, if_pos hf.1]
      have := (opN_facts (i.Op - 1).toNat (by omega)).2.2.2.1
      omega
    · obtain ⟨l, _, rfl⟩ := List.mem_map.1 hu
      match l with
      | 0 => have := d i.A (by omega) (by omega); simp only [fldW, List.length_cons]; omega
      | 1 => have := d i.B (by omega) (by omega); simp only [fldW, List.length_cons]; omega
      | 2 => have := d i.C (by omega) (by omega); simp only [fldW, List.length_cons]; omega
      | 3 => have := d i.C (by omega) (by omega); simp only [fldW]; omega
      | 4 => have := (wtN_facts i.D.toNat (by omega)).2.2; simp only [fldW]; omega
      | _ + 5 => have := d i.K w.2.2.2.2.2.1 w.2.2.2.2.2.2; simp only [fldW]; omega
  have h1 := join_len 21 key
  have h2 : (wdsI i).length ≤ 6 := by
    have := frm_len i.Op
    simp only [wdsI, List.length_cons, List.length_map]; omega
  have : (wdsI i).length * 22 ≤ 6 * 22 := Nat.mul_le_mul_right _ h2
  show (Lib.join (wdsI i) [32]).length ≤ 150
  omega
def IsLn (s : List UInt8) (i : TApi_Instr) : Prop := rightI i = true ∧ WfI i ∧ lnL i = s
theorem IsLn.uniq {s : List UInt8} {a b : TApi_Instr} (h : IsLn s a) (k : IsLn s b) : a = b := ln_inj h.1 k.1 h.2.1 k.2.1 (h.2.2.trans k.2.2.symm)
noncomputable def rdI (s : List UInt8) : Option TApi_Instr := @dite _ (∃ e, IsLn s e) (Classical.propDecidable _) (fun h => some h.choose) fun _ => none
theorem rdI_some {s : List UInt8} {e : TApi_Instr} : rdI s = some e ↔ IsLn s e := by
  unfold rdI
  split
  · rename_i h
    exact ⟨fun q => (by cases q; exact h.choose_spec), fun q => by rw [h.choose_spec.uniq q]⟩
  · rename_i h
    exact ⟨fun q => (by cases q), fun q => absurd ⟨e, q⟩ h⟩
theorem rdI_none {s : List UInt8} : rdI s = none ↔ ∀ e, ¬ IsLn s e := by
  refine ⟨fun h e q => ?_, fun h => ?_⟩
  · rw [rdI_some.2 q] at h; cases h
  · cases q : rdI s with
    | none => rfl
    | some e => exact absurd (rdI_some.1 q) (h e)
def quL : List UInt8 := [113, 117, 101, 117, 101]
def caL : List UInt8 := [99, 97, 115, 116]
def hwds (r : TApi_Ring) : List (List UInt8) :=
  if (0 ≤ r.Cap ∧ r.Cap ≤ 255) ∧ 0 ≤ r.Readers ∧ r.Readers ≤ 255 then (if r.Kind = 1 ∧ r.Readers = 1 then [quL, Lib.decDigits r.Cap.toNat] else if r.Kind = 2 then [caL, Lib.decDigits r.Cap.toNat, Lib.decDigits r.Readers.toNat] else []) else []
def hdL (r : TApi_Ring) : List UInt8 := Lib.join (hwds r) [32]
def hdB (r : TApi_Ring) : ByteArray := mkB (hdL r)
inductive ClsR (r : TApi_Ring) : Prop
  | qu (h : r.Kind = 1) (c : 0 ≤ r.Cap ∧ r.Cap ≤ 255) (d : r.Readers = 1) (w : hwds r = [quL, Lib.decDigits r.Cap.toNat])
  | ca (h : r.Kind = 2) (c : 0 ≤ r.Cap ∧ r.Cap ≤ 255) (d : 0 ≤ r.Readers ∧ r.Readers ≤ 255) (w : hwds r = [caL, Lib.decDigits r.Cap.toNat, Lib.decDigits r.Readers.toNat])
  | no (h : ¬ (((0 ≤ r.Cap ∧ r.Cap ≤ 255) ∧ 0 ≤ r.Readers ∧ r.Readers ≤ 255) ∧ (r.Kind = 1 ∧ r.Readers = 1 ∨ r.Kind = 2))) (w : hwds r = [])
theorem ring_cls (r : TApi_Ring) : ClsR r := by
  by_cases h : (0 ≤ r.Cap ∧ r.Cap ≤ 255) ∧ 0 ≤ r.Readers ∧ r.Readers ≤ 255
  · by_cases q : r.Kind = 1 ∧ r.Readers = 1
    · exact .qu q.1 h.1 q.2 (by rw [hwds, if_pos h, if_pos q])
    · by_cases c : r.Kind = 2
      · exact .ca c h.1 h.2 (by rw [hwds, if_pos h, if_neg q, if_pos c])
      · exact .no (by omega) (by rw [hwds, if_pos h, if_neg q, if_neg c])
  · exact .no (by omega) (by rw [hwds, if_neg h])
theorem hwds_no (r : TApi_Ring) : ∀ w ∈ hwds r, (32 : UInt8) ∉ w ∧ (10 : UInt8) ∉ w := by
  have q1 : (32 : UInt8) ∉ quL ∧ (10 : UInt8) ∉ quL := by decide
  have q2 : (32 : UInt8) ∉ caL ∧ (10 : UInt8) ∉ caL := by decide
  intro w hw
  cases ring_cls r with
  | qu h c d e =>
    rw [e] at hw
    simp only [List.mem_cons, List.not_mem_nil, or_false] at hw
    rcases hw with rfl | rfl
    · exact q1
    · exact dig_free _
  | ca h c d e =>
    rw [e] at hw
    simp only [List.mem_cons, List.not_mem_nil, or_false] at hw
    rcases hw with rfl | rfl | rfl
    · exact q2
    · exact dig_free _
    · exact dig_free _
  | no h e => rw [e] at hw; cases hw
theorem hd_no (r : TApi_Ring) : (10 : UInt8) ∉ hdL r := fun q => by
  rcases join_mem q with q | ⟨w, h1, h2⟩
  · exact absurd q (by decide)
  · exact (hwds_no r w h1).2 h2
theorem spl_hd {r : TApi_Ring} (h : hwds r ≠ []) : spl 32 (hdL r) = hwds r := spl_join h fun w hw => (hwds_no r w hw).1
theorem hd_len (r : TApi_Ring) : (hdL r).length ≤ 100 := by
  have key : ∀ u ∈ hwds r, u.length ≤ 21 := by
    intro u hu
    cases ring_cls r with
    | qu h c d e =>
      rw [e] at hu
      simp only [List.mem_cons, List.not_mem_nil, or_false] at hu
      have := digN_len r.Cap.toNat (by omega)
      rcases hu with rfl | rfl
      · decide
      · omega
    | ca h c d e =>
      rw [e] at hu
      simp only [List.mem_cons, List.not_mem_nil, or_false] at hu
      have := digN_len r.Cap.toNat (by omega)
      have := digN_len r.Readers.toNat (by omega)
      rcases hu with rfl | rfl | rfl
      · decide
      · omega
      · omega
    | no h e => rw [e] at hu; cases hu
  have h1 := join_len 21 key
  have h2 : (hwds r).length ≤ 3 := by
    cases ring_cls r with
    | qu h c d e => rw [e]; exact (by omega : 2 ≤ 3)
    | ca h c d e => rw [e]; exact Nat.le_refl 3
    | no h e => rw [e]; decide
  have : (hwds r).length * 22 ≤ 3 * 22 := Nat.mul_le_mul_right _ h2
  show (Lib.join (hwds r) [32]).length ≤ 100
  omega
theorem ext_R {a b : TApi_Ring} (h0 : a.Kind = b.Kind) (h1 : a.Cap = b.Cap) (h2 : a.Readers = b.Readers) : a = b := by
  obtain ⟨a0, a1, a2⟩ := a
  obtain ⟨b0, b1, b2⟩ := b
  simp only at h0 h1 h2
  rw [h0, h1, h2]
def IsHd (s : List UInt8) (r : TApi_Ring) : Prop := hwds r ≠ [] ∧ hdL r = s
theorem IsHd.wds {s : List UInt8} {r : TApi_Ring} (h : IsHd s r) : spl 32 s = hwds r := by rw [← h.2, spl_hd h.1]
theorem IsHd.uniq {s : List UInt8} {a b : TApi_Ring} (h : IsHd s a) (k : IsHd s b) : a = b := by
  have e : hwds a = hwds b := h.wds.symm.trans k.wds
  have kd : ∀ {x y : Int}, 0 ≤ x → 0 ≤ y → Lib.decDigits x.toNat = Lib.decDigits y.toNat → x = y := fun h0 h1 e => by have := dig_inj e; omega
  cases ring_cls a with
  | qu h1 c1 d1 w1 =>
    cases ring_cls b with
    | qu h2 c2 d2 w2 =>
      rw [w1, w2] at e
      simp only [List.cons.injEq, and_true, true_and] at e
      exact ext_R (by omega) (kd (by omega) (by omega) e) (by omega)
    | ca h2 c2 d2 w2 => rw [w1, w2] at e; cases e
    | no h2 w2 => exact absurd w2 k.1
  | ca h1 c1 d1 w1 =>
    cases ring_cls b with
    | ca h2 c2 d2 w2 =>
      rw [w1, w2] at e
      simp only [List.cons.injEq, and_true, true_and] at e
      exact ext_R (by omega) (kd (by omega) (by omega) e.1) (kd (by omega) (by omega) e.2)
    | qu h2 c2 d2 w2 => rw [w1, w2] at e; cases e
    | no h2 w2 => exact absurd w2 k.1
  | no h1 w1 => exact absurd w1 h.1
noncomputable def rdR (s : List UInt8) : Option TApi_Ring := @dite _ (∃ e, IsHd s e) (Classical.propDecidable _) (fun h => some h.choose) fun _ => none
theorem rdR_some {s : List UInt8} {e : TApi_Ring} : rdR s = some e ↔ IsHd s e := by
  unfold rdR
  split
  · rename_i h
    exact ⟨fun q => (by cases q; exact h.choose_spec), fun q => by rw [h.choose_spec.uniq q]⟩
  · rename_i h
    exact ⟨fun q => (by cases q), fun q => absurd ⟨e, q⟩ h⟩
theorem rdR_none {s : List UInt8} : rdR s = none ↔ ∀ e, ¬ IsHd s e := by
  refine ⟨fun h e q => ?_, fun h => ?_⟩
  · rw [rdR_some.2 q] at h; cases h
  · cases q : rdR s with
    | none => rfl
    | some e => exact absurd (rdR_some.1 q) (h e)
theorem hd_empty {r : TApi_Ring} : hdL r = [] ↔ hwds r = [] := by
  refine ⟨fun h => Classical.byContradiction fun q => ?_, fun h => by rw [hdL, h]; rfl⟩
  have e := spl_hd q
  rw [h] at e
  cases ring_cls r with
  | qu h1 c1 d1 w1 => rw [w1] at e; cases e
  | ca h1 c1 d1 w1 => rw [w1] at e; cases e
  | no h1 w1 => exact q w1
end
section
structure MPg where
  rs : List TApi_Ring
  ts : List (List TApi_Instr)
def thrL : List UInt8 := [116, 104, 114, 101, 97, 100]
noncomputable def tk2 (p : MPg) (l : List UInt8) : Option MPg :=
  if l = thrL ∧ p.ts.length < 8 then some ⟨p.rs, p.ts ++ [[]]⟩
  else match rdI l with
    | some i => if p.ts ≠ [] ∧ (p.ts.getLastD []).length < 256 then some ⟨p.rs, p.ts.dropLast ++ [p.ts.getLastD [] ++ [i]]⟩ else none
    | none => none
noncomputable def tk (p : MPg) (l : List UInt8) : Option MPg :=
  match rdR l with
  | some r => if p.ts = [] ∧ p.rs.length < 8 then some ⟨p.rs ++ [r], p.ts⟩ else tk2 p l
  | none => tk2 p l
noncomputable def tks (p : MPg) : List (List UInt8) → Option MPg
  | [] => some p
  | l :: r => match tk p l with
    | some q => tks q r
    | none => none
noncomputable def rdP (p : MPg) (k : Nat) : List (List UInt8) → MPg ⊕ Nat
  | [] => .inl p
  | [l] => if l = [] then .inl p else .inr k
  | l :: m :: r => match tk p l with
    | some q => rdP q (k + 1) (m :: r)
    | none => .inr k
structure ListOk (p : MPg) : Prop where
  rn : p.rs.length ≤ 8
  tn : p.ts.length ≤ 8
  r : ∀ r ∈ p.rs, hwds r ≠ []
  t : ∀ l ∈ p.ts, l.length ≤ 256 ∧ ∀ i ∈ l, rightI i = true ∧ WfI i
def lnsT (L : List (List UInt8)) : List UInt8 := (L.map fun l => l ++ [10]).flatten
def lnsTs (T : List (List TApi_Instr)) : List (List UInt8) := (T.map fun l => thrL :: l.map lnL).flatten
def lns (p : MPg) : List (List UInt8) := p.rs.map hdL ++ lnsTs p.ts
def txP (p : MPg) : List UInt8 := lnsT (lns p)
theorem lnsT_app (a b : List (List UInt8)) : lnsT (a ++ b) = lnsT a ++ lnsT b := by simp [lnsT]
theorem lnsT_cons (a : List UInt8) (b : List (List UInt8)) : lnsT (a :: b) = a ++ 10 :: lnsT b := by simp [lnsT]
theorem lnsTs_app (a b : List (List TApi_Instr)) : lnsTs (a ++ b) = lnsTs a ++ lnsTs b := by simp [lnsTs]
theorem lnsTs_one (l : List TApi_Instr) : lnsTs [l] = thrL :: l.map lnL := by simp [lnsTs]
theorem snoc_of {α : Type} {l : List α} (h : l ≠ []) (a : α) : l = l.dropLast ++ [l.getLastD a] := by
  obtain ⟨m, x, rfl⟩ : ∃ m x, l = m ++ [x] := ⟨l.dropLast, l.getLast h, (List.dropLast_concat_getLast h).symm⟩
  simp
theorem tk2_text {p q : MPg} {l : List UInt8} (h : tk2 p l = some q) (hp : ListOk p) : ListOk q ∧ lns q = lns p ++ [l] := by
  unfold tk2 at h
  split at h
  · rename_i c
    cases h
    refine ⟨⟨hp.rn, by simp; omega, hp.r, fun m hm => ?_⟩, ?_⟩
    · rcases List.mem_append.1 hm with hm | hm
      · exact hp.t m hm
      · rw [List.mem_singleton] at hm; subst hm
        exact ⟨Nat.zero_le _, fun i hi => by cases hi⟩
    · show p.rs.map hdL ++ lnsTs (p.ts ++ [[]]) = _
      rw [lnsTs_app, lnsTs_one, c.1, lns, List.append_assoc]; rfl
  · split at h
    · rename_i i hi
      have hi := rdI_some.1 hi
      split at h
      · rename_i c
        cases h
        have hs := snoc_of c.1 []
        have hl : p.ts.getLastD [] ∈ p.ts := by rw [hs]; simp
        refine ⟨⟨hp.rn, ?_, hp.r, fun m hm => ?_⟩, ?_⟩
        · have := congrArg List.length hs
          simp only [List.length_append, List.length_singleton] at this ⊢
          have := hp.tn
          omega
        · rcases List.mem_append.1 hm with hm | hm
          · exact hp.t m (List.dropLast_subset _ hm)
          · rw [List.mem_singleton] at hm; subst hm
            refine ⟨by rw [List.length_append, List.length_singleton]; omega, fun j hj => ?_⟩
            rcases List.mem_append.1 hj with hj | hj
            · exact (hp.t _ hl).2 j hj
            · rw [List.mem_singleton] at hj; subst hj
              exact ⟨hi.1, hi.2.1⟩
        · show p.rs.map hdL ++ lnsTs (p.ts.dropLast ++ [p.ts.getLastD [] ++ [i]]) = p.rs.map hdL ++ lnsTs p.ts ++ [l]
          conv => rhs; rw [hs]
          rw [lnsTs_app, lnsTs_app, lnsTs_one, lnsTs_one, List.map_append, List.map_singleton, hi.2.2]
          simp
      · cases h
    · cases h
theorem tk_text {p q : MPg} {l : List UInt8} (h : tk p l = some q) (hp : ListOk p) : ListOk q ∧ lns q = lns p ++ [l] := by
  unfold tk at h
  split at h
  · rename_i r hr
    have hr := rdR_some.1 hr
    split at h
    · rename_i c
      cases h
      refine ⟨⟨by simp; omega, hp.tn, fun x hx => ?_, hp.t⟩, ?_⟩
      · rcases List.mem_append.1 hx with hx | hx
        · exact hp.r x hx
        · rw [List.mem_singleton] at hx; subst hx; exact hr.1
      · show (p.rs ++ [r]).map hdL ++ lnsTs p.ts = p.rs.map hdL ++ lnsTs p.ts ++ [l]
        rw [c.1, List.map_append, List.map_singleton, hr.2]
        simp [lnsTs]
    · exact tk2_text h hp
  · exact tk2_text h hp
theorem rdP_text : ∀ (P : List (List UInt8)) {p q : MPg} {k : Nat}, P ≠ [] → rdP p k P = .inl q → ListOk p → ListOk q ∧ txP p ++ Lib.join P [10] = txP q
  | [], _, _, _, h, _, _ => absurd rfl h
  | [l], p, q, k, _, h, hp => by
    rw [rdP] at h
    split at h
    · rename_i e
      cases h
      subst e
      exact ⟨hp, by rw [Lib.join_one, List.append_nil]⟩
    · cases h
  | l :: m :: r, p, q, k, _, h, hp => by
    rw [rdP] at h
    split at h
    · rename_i z hz
      obtain ⟨h1, h2⟩ := tk_text hz hp
      obtain ⟨h3, h4⟩ := rdP_text (m :: r) (by simp) h h1
      refine ⟨h3, ?_⟩
      rw [← h4, join_two, txP, txP, h2, lnsT_app, lnsT_cons]
      simp [lnsT]
    · cases h
theorem rdP_line {p : MPg} {k : Nat} {a r : List UInt8} (ha : (10 : UInt8) ∉ a) : rdP p k (spl 10 (a ++ 10 :: r)) = match tk p a with
    | some q => rdP q (k + 1) (spl 10 r)
    | none => .inr k := by
  rw [spl_app ha]
  cases hs : spl 10 r with
  | nil => exact absurd hs (spl_ne 10 r)
  | cons x y => rw [rdP]
theorem rdP_last {p : MPg} {k : Nat} {a : List UInt8} (ha : (10 : UInt8) ∉ a) : rdP p k (spl 10 a) = if a = [] then .inl p else .inr k := by
  rw [spl_none ha, rdP]
theorem rdP_app : ∀ (L : List (List UInt8)) {p q : MPg} {k : Nat} {r : List UInt8}, (∀ l ∈ L, (10 : UInt8) ∉ l) → tks p L = some q → rdP p k (spl 10 (lnsT L ++ r)) = rdP q (k + L.length) (spl 10 r)
  | [], p, q, k, r, _, h => by cases h; simp [lnsT]
  | l :: L, p, q, k, r, hl, h => by
    rw [tks] at h
    cases ht : tk p l with
    | none => rw [ht] at h; cases h
    | some z =>
      rw [ht] at h
      rw [lnsT_cons, List.append_assoc, List.cons_append, rdP_line (hl l (by simp)), ht]
      show rdP z (k + 1) (spl 10 (lnsT L ++ r)) = _
      rw [rdP_app L (fun x hx => hl x (by simp [hx])) h]
      congr 1
      simp; omega
theorem tks_app : ∀ {p q : MPg} (L M : List (List UInt8)), tks p L = some q → tks p (L ++ M) = tks q M
  | p, q, [], M, h => by cases h; rfl
  | p, q, l :: L, M, h => by
    rw [tks] at h
    rw [List.cons_append, tks]
    cases ht : tk p l with
    | none => rw [ht] at h; cases h
    | some z => rw [ht] at h; exact tks_app L M h
theorem spl_thr : spl 32 thrL = [thrL] := spl_none (by decide)
theorem rdR_thr : rdR thrL = none := rdR_none.2 fun r h => by
  have e := h.wds
  rw [spl_thr] at e
  cases ring_cls r with
  | qu h1 c1 d1 w1 => rw [w1] at e; cases e
  | ca h1 c1 d1 w1 => rw [w1] at e; cases e
  | no h1 w1 => rw [w1] at e; cases e
theorem ln_thr {i : TApi_Instr} (h : rightI i = true) : lnL i ≠ thrL := fun e => by
  have q := spl_ln h
  rw [e, spl_thr, wdsI] at q
  have q := (List.cons.inj q).1
  have hf := rightI_facts h
  rw [opK, if_pos hf.1] at q
  exact (opN_facts (i.Op - 1).toNat (by omega)).2.2.2.2 q.symm
theorem tks_rings : ∀ (R D : List TApi_Ring), (∀ r ∈ R, hwds r ≠ []) → D.length + R.length ≤ 8 → tks ⟨D, []⟩ (R.map hdL) = some ⟨D ++ R, []⟩
  | [], D, _, _ => by simp [tks]
  | r :: R, D, h, hn => by
    rw [List.length_cons] at hn
    have e : tk ⟨D, []⟩ (hdL r) = some ⟨D ++ [r], []⟩ := by
      unfold tk
      rw [rdR_some.2 (⟨h r (by simp), rfl⟩ : IsHd (hdL r) r)]
      exact if_pos ⟨rfl, by show D.length < 8; omega⟩
    rw [List.map_cons, tks, e]
    show tks ⟨D ++ [r], []⟩ (R.map hdL) = _
    rw [tks_rings R (D ++ [r]) (fun x hx => h x (by simp [hx])) (by simp; omega)]
    simp
theorem tks_instrs {R : List TApi_Ring} {T : List (List TApi_Instr)} : ∀ (I m : List TApi_Instr), (∀ i ∈ I, rightI i = true ∧ WfI i) → m.length + I.length ≤ 256 → tks ⟨R, T ++ [m]⟩ (I.map lnL) = some ⟨R, T ++ [m ++ I]⟩
  | [], m, _, _ => by simp [tks]
  | i :: I, m, h, hn => by
    rw [List.length_cons] at hn
    have hi := h i (by simp)
    have ne : T ++ [m] ≠ [] := by simp
    have e2 : tk2 ⟨R, T ++ [m]⟩ (lnL i) = some ⟨R, T ++ [m ++ [i]]⟩ := by
      unfold tk2
      rw [if_neg (fun c => ln_thr hi.1 c.1), rdI_some.2 (⟨hi.1, hi.2, rfl⟩ : IsLn (lnL i) i)]
      have g : (T ++ [m]).getLastD [] = m := by simp
      show (if T ++ [m] ≠ [] ∧ ((T ++ [m]).getLastD []).length < 256 then some (⟨R, (T ++ [m]).dropLast ++ [(T ++ [m]).getLastD [] ++ [i]]⟩ : MPg) else none) = _
      rw [g, if_pos ⟨ne, by omega⟩]
      simp
    have e : tk ⟨R, T ++ [m]⟩ (lnL i) = some ⟨R, T ++ [m ++ [i]]⟩ := by
      unfold tk
      split
      · rw [if_neg (fun c => ne c.1)]; exact e2
      · exact e2
    rw [List.map_cons, tks, e]
    show tks ⟨R, T ++ [m ++ [i]]⟩ (I.map lnL) = _
    rw [tks_instrs I (m ++ [i]) (fun x hx => h x (by simp [hx])) (by simp; omega)]
    simp
theorem tks_threads {R : List TApi_Ring} : ∀ (S T : List (List TApi_Instr)), (∀ l ∈ S, l.length ≤ 256 ∧ ∀ i ∈ l, rightI i = true ∧ WfI i) → T.length + S.length ≤ 8 → tks ⟨R, T⟩ (lnsTs S) = some ⟨R, T ++ S⟩
  | [], T, _, _ => by simp [tks, lnsTs]
  | l :: S, T, h, hn => by
    rw [List.length_cons] at hn
    have e : tk ⟨R, T⟩ thrL = some ⟨R, T ++ [[]]⟩ := by
      unfold tk
      rw [rdR_thr]
      exact if_pos ⟨rfl, by show T.length < 8; omega⟩
    have hl := h l (by simp)
    have e2 : tks ⟨R, T⟩ (thrL :: l.map lnL) = some ⟨R, T ++ [l]⟩ := by
      rw [tks, e]
      exact tks_instrs l [] hl.2 (by simpa using hl.1)
    rw [show lnsTs (l :: S) = (thrL :: l.map lnL) ++ lnsTs S from by simp [lnsTs], tks_app _ _ e2, tks_threads S (T ++ [l]) (fun x hx => h x (by simp [hx])) (by simp; omega)]
    simp
theorem tks_lns {q : MPg} (h : ListOk q) : tks ⟨[], []⟩ (lns q) = some q := by
  rw [lns, tks_app _ _ (tks_rings q.rs [] h.r (by simpa using h.rn))]
  exact tks_threads q.ts [] h.t (by simpa using h.tn)
theorem lns_no {q : MPg} (h : ListOk q) : ∀ l ∈ lns q, (10 : UInt8) ∉ l := by
  intro l hl
  rcases List.mem_append.1 hl with hl | hl
  · obtain ⟨r, _, rfl⟩ := List.mem_map.1 hl
    exact hd_no r
  · obtain ⟨x, hx, hl⟩ := List.mem_flatten.1 hl
    obtain ⟨t, ht, rfl⟩ := List.mem_map.1 hx
    rcases List.mem_cons.1 hl with rfl | hl
    · decide
    · obtain ⟨i, hi, rfl⟩ := List.mem_map.1 hl
      exact ln_no ((h.t t ht).2 i hi).1
theorem rdP_pre {q : MPg} (h : ListOk q) (r : List UInt8) : rdP ⟨[], []⟩ 1 (spl 10 (txP q ++ r)) = rdP q (1 + (lns q).length) (spl 10 r) := rdP_app _ (lns_no h) (tks_lns h)
theorem rdP_back {q : MPg} (h : ListOk q) : rdP ⟨[], []⟩ 1 (spl 10 (txP q)) = .inl q := by
  have := rdP_pre h []
  rw [List.append_nil, rdP_last (a := []) (by simp)] at this
  exact this
theorem empty_ok : ListOk ⟨[], []⟩ := ⟨by decide, by decide, fun r h => (by cases h), fun l h => (by cases h)⟩
theorem rdP_whole {s : List UInt8} {q : MPg} (h : rdP ⟨[], []⟩ 1 (spl 10 s) = .inl q) : ListOk q ∧ txP q = s := by
  obtain ⟨h1, h2⟩ := rdP_text (spl 10 s) (spl_ne 10 s) h empty_ok
  refine ⟨h1, ?_⟩
  rw [← h2, join_spl]; rfl
theorem tx_inj {p q : MPg} (hp : ListOk p) (hq : ListOk q) (h : txP p = txP q) : p = q := by
  have a := rdP_back hp
  rw [h, rdP_back hq] at a
  exact (Sum.inl.inj a).symm
theorem lnsT_count : ∀ {L : List (List UInt8)}, (∀ l ∈ L, (10 : UInt8) ∉ l) → (lnsT L).count 10 = L.length
  | [], _ => rfl
  | l :: L, h => by
    rw [lnsT_cons, List.count_append, List.count_eq_zero.2 (h l (by simp)), List.count_cons_self, lnsT_count fun x hx => h x (by simp [hx])]
    simp
theorem lnsT_len (m : Nat) : ∀ {L : List (List UInt8)}, (∀ l ∈ L, l.length ≤ m) → (lnsT L).length ≤ L.length * (m + 1)
  | [], _ => by simp [lnsT]
  | l :: L, h => by
    have h1 := h l (by simp)
    have h2 := lnsT_len m (L := L) fun x hx => h x (by simp [hx])
    rw [lnsT_cons]
    simp only [List.length_append, List.length_cons]
    have : (L.length + 1) * (m + 1) = L.length * (m + 1) + (m + 1) := Nat.succ_mul _ _
    omega
theorem lns_len {q : MPg} (h : ListOk q) : ∀ l ∈ lns q, l.length ≤ 150 := by
  intro l hl
  rcases List.mem_append.1 hl with hl | hl
  · obtain ⟨r, _, rfl⟩ := List.mem_map.1 hl
    have := hd_len r; omega
  · obtain ⟨x, hx, hl⟩ := List.mem_flatten.1 hl
    obtain ⟨t, ht, rfl⟩ := List.mem_map.1 hx
    rcases List.mem_cons.1 hl with rfl | hl
    · decide
    · obtain ⟨i, hi, rfl⟩ := List.mem_map.1 hl
      have := (h.t t ht).2 i hi
      exact lnL_len this.1 this.2
theorem lnsTs_n : ∀ (T : List (List TApi_Instr)) (m : Nat), (∀ l ∈ T, l.length ≤ m) → (lnsTs T).length ≤ T.length * (m + 1)
  | [], _, _ => by simp [lnsTs]
  | l :: T, m, h => by
    have h1 := h l (by simp)
    have h2 := lnsTs_n T m fun x hx => h x (by simp [hx])
    rw [show lnsTs (l :: T) = (thrL :: l.map lnL) ++ lnsTs T from by simp [lnsTs]]
    simp only [List.length_append, List.length_cons, List.length_map]
    have : (T.length + 1) * (m + 1) = T.length * (m + 1) + (m + 1) := Nat.succ_mul _ _
    omega
theorem lns_n {q : MPg} (h : ListOk q) : (lns q).length ≤ 2064 := by
  have h1 := lnsTs_n q.ts 256 fun l hl => (h.t l hl).1
  have h2 : q.ts.length * 257 ≤ 8 * 257 := Nat.mul_le_mul_right _ h.tn
  have h3 := h.rn
  rw [lns, List.length_append, List.length_map]
  omega
theorem tx_len {q : MPg} (h : ListOk q) : (txP q).length ≤ 400000 := by
  have h1 := lnsT_len 150 (lns_len h)
  have h2 : (lns q).length * 151 ≤ 2064 * 151 := Nat.mul_le_mul_right _ (lns_n h)
  show (lnsT (lns q)).length ≤ _
  omega
end
end Go.Proofs.YtigdgbdmlejcbaaGreatDoor
