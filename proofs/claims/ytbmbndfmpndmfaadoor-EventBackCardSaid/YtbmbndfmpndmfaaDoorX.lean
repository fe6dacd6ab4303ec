/- What functions of the library come to, by the contracts of the shelf: no statement is proved here. -/
import Derived.Test.YtbmbndfmpndmfaaDoorM
import Derived.Test.YtbmbndfmpndmfaaDoorChecked
import Derived.Shelf.Strconv.Itoa3
import Derived.Shelf.Strings.Cut
import Derived.Shelf.Strings.Split
import Derived.Shelf.Strings.OnBuilder
import Derived.Shelf.Pu.ParseUintPublic10
import Derived.KernelRfl
namespace Go.Proofs.YtbmbndfmpndmfaaDoor
set_option linter.unusedVariables false
open Go Go.Shelf Go.RowKit Go.Sort Go.Lib
open Go.Vm (Gives)
def renN : Go.Shelf.Ren := ⟨fun | 129 => 74 | 138 => 69 | 143 => 70 | 145 => 37 | 146 => 47 | 156 => 44 | 165 => 53 | 166 => 35 | 169 => 36 | 171 => 41 | 195 => 81 | 197 => 82 | 217 => 64 | 218 => 83 | 219 => 55 | 220 => 46 | 221 => 56 | 224 => 66 | 225 => 65 | 240 => 45 | 241 => 63 | 243 => 51 | 246 => 58 | 260 => 92 | 266 => 79 | 267 => 67 | 268 => 68 | 276 => 54 | 277 => 78 | 283 => 59 | 284 => 60 | 285 => 61 | 286 => 62 | 314 => 80 | 317 => 73 | 318 => 75 | 319 => 76 | 320 => 77 | 337 => 90 | 338 => 91 | n => n, fun | 0 => 0 | 2 => 2 | 3 => 3 | 4 => 4 | 5 => 5 | 9 => 9 | 20 => 20 | 21 => 21 | 31 => 56 | 37 => 60 | 46 => 97 | 51 => 102 | 53 => 22 | 59 => 68 | 70 => 59 | 72 => 62 | 75 => 64 | 76 => 65 | 80 => 67 | 105 => 109 | 119 => 123 | 127 => 74 | 138 => 125 | 139 => 126 | 146 => 106 | 164 => 83 | 171 => 90 | 173 => 93 | 212 => 101 | 213 => 103 | 232 => 121 | 233 => 122 | n => n, fun | 1 => 0 | 3 => 6 | 4 => 7 | 17 => 1 | 18 => 4 | 19 => 5 | n => n⟩
def renP : Go.Shelf.Ren := ⟨fun | 14 => 57 | 16 => 71 | 17 => 72 | 19 => 84 | 20 => 85 | 21 => 86 | 22 => 87 | 23 => 88 | 24 => 89 | 25 => 93 | 26 => 94 | 27 => 41 | 28 => 51 | 29 => 58 | 30 => 59 | 31 => 60 | 32 => 61 | 33 => 62 | 34 => 73 | 35 => 74 | 36 => 75 | 37 => 76 | 38 => 77 | 39 => 90 | 40 => 91 | n => n, fun | 0 => 0 | 2 => 2 | 3 => 3 | 4 => 4 | 5 => 5 | 9 => 9 | 20 => 20 | 21 => 21 | 22 => 22 | 24 => 64 | 25 => 87 | 34 => 111 | 36 => 97 | 37 => 60 | 39 => 113 | 44 => 119 | 47 => 74 | 48 => 127 | 50 => 129 | 52 => 90 | 55 => 93 | 59 => 101 | 60 => 102 | 61 => 103 | 65 => 121 | 66 => 122 | 67 => 67 | n => n, fun | 0 => 2 | 1 => 3 | 2 => 1 | 3 => 4 | 4 => 5 | n => n⟩
theorem lays145 : Lays.n145 Tryd.prog renN := by
  constructor <;> first | (intros; kernel_rfl) | (constructor <;> (intros; kernel_rfl))
theorem lays146 : Lays.n146 Tryd.prog renN := by
  constructor <;> first | (intros; kernel_rfl) | (constructor <;> (intros; kernel_rfl))
theorem lays156 : Lays.n156 Tryd.prog renN := by
  constructor <;> first | (intros; kernel_rfl) | (constructor <;> (intros; kernel_rfl))
theorem bldr156 : Builder.Extra Tryd.prog renN := by
  constructor <;> first | (intros; kernel_rfl) | decide | (constructor <;> (intros; kernel_rfl))
theorem laysPu14 : LaysPu.n14 Tryd.prog renP := by
  constructor <;> first | (intros; kernel_rfl) | (constructor <;> (intros; kernel_rfl))
theorem hi9 : (Tryd.prog.info? (renN.t 9)).map (fun i => (i.zero, i.size, i.bytes)) = some (some (.string ByteArray.empty), 1, 16) := by kernel_rfl
theorem lays283 : Lays.n283 Tryd.prog renN := by
  constructor <;> first | (intros; kernel_rfl) | (constructor <;> (intros; kernel_rfl))
theorem lays284 : LaysM.n284 Tryd.prog renN := by
  constructor <;> first | (intros; kernel_rfl) | (constructor <;> (intros; kernel_rfl))
theorem lays285 : Lays.n285 Tryd.prog renN := by
  constructor <;> first | (intros; kernel_rfl) | (constructor <;> (intros; kernel_rfl))
theorem lays171 : LaysM.n171 Tryd.prog renN := by
  constructor <;> first | (intros; kernel_rfl) | (constructor <;> (intros; kernel_rfl))

theorem holds_zero0 (w : World) (T : TypeId) (nd : Nat) (hs : nd ≤ 24) : Holds (fun (b : UInt8) => Value.int .u8 (b.toNat : Int)) (w.alloc (.cells zeros24 T)) w.heap.size 0 (Array.replicate nd (0 : UInt8)) := fun j hj => by
  have hj' : j < nd := by simpa using hj
  refine ⟨?_, World.frozen?_alloc_new _ _ _ _⟩
  rw [World.cell?_alloc_new, zeros24_at _ (by omega), getElem!_pos _ j hj]
  simp
theorem fin_pos0 (w : World) (o : Obj) (dk : Array UInt8) (k : Nat) : ∃ os, (putRow (fun (b : UInt8) => Value.int .u8 (b.toNat : Int)) (w.alloc o) w.heap.size 0 dk).drewN k = grow (w.drewN k) os := by
  rw [alloc_eq_grow]
  obtain ⟨os', _, e⟩ := putRow_grow_new (fun (b : UInt8) => Value.int .u8 (b.toNat : Int)) w #[o] w.heap.size 0 dk (Nat.le_refl _)
  exact ⟨os', by rw [e]; rfl⟩

set_option maxHeartbeats 6400000 in
set_option maxRecDepth 100000 in
/-- internal/strconv.FormatUint at base 10: the number's decimal numeral, for every uint64. -/
theorem internal_FormatUint (u : Nat) (hu64 : u < 18446744073709551616) (w : World) (htab : Lib.TabIs Tryd.prog w "internal/strconv.uint64pow10" .u64 Lib.pow10Tab) :
    Calls Tryd.prog 52 #[.int .u64 u, .int .i64 10] w fun e w' => e = .returned (.string ⟨(Lib.decDigits u).toArray⟩) ∧ ∃ k os, w' = grow (w.drewN k) os := by
  by_cases hs : u < 100
  · have hwr : IntKind.i64.wrap (u : Int) = (u : Int) := by rw [IntKind.wrap_i64]; omega
    go_enter Tryd.func52, Tryd.ntmps52
    go_wp2_with (go_at_call 59; refine (Any.internal_strconv_small lays283 u hs _).mono ?_; rintro e w' ⟨rfl, rfl⟩)
    go_ret
    exact ⟨rfl, 0, #[], by simp [World.drewN_zero]⟩
  · have hu1 : 1 ≤ u := by omega
    have hnd20 : Lib.nDigits u ≤ 20 := by have := Lib.numDigits_eq u hu1 hu64; split at this <;> omega
    have hal : Tryd.prog.arrayLen 90 = 24 := by kernel_rfl
    have hsl1 : ∀ W, (Instr.sliceAt 90 (.pointer (some ⟨w.heap.size, 0, none⟩)) none (some (.int .i64 (Lib.nDigits u : Int))) none).run Tryd.prog W = .ok (.slice (some ⟨w.heap.size, 0, none⟩) (Lib.nDigits u) 24) W := fun W => by
      rw [run_sliceAt_array_h W 90 ⟨w.heap.size, 0, none⟩ (by kernel_rfl) .i64 (Lib.nDigits u : Int) (by omega) (by rw [hal]; omega)]
      go_simp
    have hH0 := holds_zero0 w 90 (Lib.nDigits u) (by omega)
    have hfmt := Any.internal_strconv_formatBase10 lays285 w.heap.size 0 24 u (Array.replicate (Lib.nDigits u) 0) (w.alloc (.cells Lib.zeros24 90)) hH0 (by rw [Array.size_replicate]; exact Lib.lt_pow_nDigits u) hu64 (by rw [Array.size_replicate]; omega)
    rw [Array.size_replicate] at hfmt
    have HH0 := Lib.hid hH0
    clear hH0 hal
    go_enter Tryd.func52, Tryd.ntmps52
    go_wp2_with (first
      | (go_at_call 60; refine (Any.internal_strconv_numDigits lays284 u hu1 hu64 _ (Lib.tabIs_alloc htab _)).mono ?_; rintro e w' ⟨rfl, rfl⟩))
    go_at_call 61
    refine hfmt.mono ?_
    rintro e w' ⟨rfl, k, v', dk, rfl, hF⟩
    have hcv : (convert 60 9 (.slice (some ⟨w.heap.size, 0, none⟩) (Lib.nDigits u) 24)).run Tryd.prog ((putRow (fun (b : UInt8) => Value.int .u8 (b.toNat : Int)) (w.alloc (.cells Lib.zeros24 90)) w.heap.size 0 dk).drewN k) = .ok (.string ⟨(Lib.decDigits u).toArray⟩) ((putRow (fun (b : UInt8) => Value.int .u8 (b.toNat : Int)) (w.alloc (.cells Lib.zeros24 90)) w.heap.size 0 dk).drewN k) := by
      have h := run_convert_bytes_back (P := Tryd.prog) ((putRow (fun (b : UInt8) => Value.int .u8 (b.toNat : Int)) (w.alloc (.cells Lib.zeros24 90)) w.heap.size 0 dk).drewN k) 60 9 5 ⟨w.heap.size, 0, none⟩ 24 (Lib.decDigits u) (by kernel_rfl) (by kernel_rfl) (by kernel_rfl) (fun j hj => by
        rw [Lib.row_is_numeral hF j hj, Lib.add_plain, World.cell?_drewN]
        exact cell?_putRow (fun (b : UInt8) => Value.int .u8 (b.toNat : Int)) _ w.heap.size 0 _ dk HH0.out (by rw [hF.size, Array.size_replicate]) j (by rw [hF.size]; rw [Lib.decDigits_length] at hj; exact hj))
      rw [Lib.decDigits_length] at h
      exact h
    go_wp2
    go_ret
    obtain ⟨os, eo⟩ := fin_pos0 w (.cells Lib.zeros24 90) dk k
    exact ⟨rfl, k, os, eo⟩

set_option maxRecDepth 100000 in
/-- strconv.FormatUint at base 10. -/
theorem strconv_FormatUint (u : Nat) (hu64 : u < 18446744073709551616) (w : World) (htab : Lib.TabIs Tryd.prog w "internal/strconv.uint64pow10" .u64 Lib.pow10Tab) :
    Calls Tryd.prog 42 #[.int .u64 u, .int .i64 10] w fun e w' => e = .returned (.string ⟨(Lib.decDigits u).toArray⟩) ∧ ∃ k os, w' = grow (w.drewN k) os := by
  go_enter Tryd.func42, Tryd.ntmps42
  go_wp2_with (go_at_call 52; refine (internal_FormatUint u hu64 _ htab).mono ?_; rintro e w' ⟨rfl, k, os, rfl⟩)
  go_ret
  exact ⟨rfl, k, os, rfl⟩
theorem strconv_Itoa (n : Int) (h0 : -9223372036854775808 ≤ n) (h1 : n ≤ 9223372036854775807) (w : World) (htab : Lib.TabIs Tryd.prog w "internal/strconv.uint64pow10" .u64 Lib.pow10Tab) :
    Calls Tryd.prog 41 #[.int .i64 n] w fun e w' => e = .returned (.string ⟨(Lib.itoa n).toArray⟩) ∧ ∃ k os, w' = grow (w.drewN k) os := Any.strconv_Itoa lays171 n h0 h1 w htab

theorem tab_of {P : Program} {w : World} (h : Vm.Holds P w) {g : Nat} (hg : P.globalNamed "internal/strconv.uint64pow10" = some g) : Lib.TabIs P w "internal/strconv.uint64pow10" .u64 Lib.pow10Tab := by
  obtain ⟨c, t, fr, h1, h2⟩ := h ⟨g, fun c => c = (Vm.pow10L.map (Value.int .u64)).toArray⟩ (by simp [Vm.knownOf, Vm.known1, hg])
  obtain rfl : c = _ := h2
  unfold Lib.TabIs World.var?
  rw [hg]
  simp only [Option.bind_some, h1]
  rfl
theorem max_of {P : Program} {w : World} (h : Vm.Holds P w) {g : Nat} (hg : P.globalNamed "internal/bytealg.MaxLen" = some g) : ∃ m, w.cell? ⟨g, 0, none⟩ = some (.int .i64 m) := by
  obtain ⟨c, t, fr, h1, h2⟩ := h ⟨g, fun c => ∃ m, c = #[.int .i64 m]⟩ (by simp [Vm.knownOf, Vm.known1, hg])
  obtain ⟨m, rfl⟩ : ∃ m, c = #[.int .i64 m] := h2
  exact ⟨m, by simp [World.cell?, h1]⟩
theorem err_of {P : Program} {w : World} (h : Vm.Holds P w) {g : Nat} (hg : P.globalNamed "strconv.ErrSyntax" = some g ∨ P.globalNamed "strconv.ErrRange" = some g) : ∃ v, w.cell? ⟨g, 0, none⟩ = some v ∧ (v = .nilIface ∨ ∃ t x, v = .iface t x) := by
  obtain ⟨c, t, fr, h1, h2⟩ := h ⟨g, fun c => ∃ v, c = #[v] ∧ (v = .nilIface ∨ ∃ t x, v = .iface t x)⟩ (by rcases hg with hg | hg <;> simp [Vm.knownOf, Vm.known1, hg])
  obtain ⟨v, rfl, hv⟩ : ∃ v, c = #[v] ∧ (v = .nilIface ∨ ∃ t x, v = .iface t x) := h2
  exact ⟨v, by simp [World.cell?, h1], hv⟩

theorem below_grw (w : World) (k : Nat) (os : Array Obj) : Below w.heap.size w (grow (w.drewN k) os) :=
  ⟨rfl, rfl, rfl, by show w.heap.size ≤ (w.heap ++ os).size; rw [Array.size_append]; omega, fun j hj => by
    show (w.heap ++ os)[j]? = _
    rw [Array.getElem?_append_left hj]⟩
theorem g_Itoa (n : Int) (w : World) (h0 : 0 ≤ n) (h1 : n ≤ 9223372036854775807) (hH : Vm.Holds Tryd.prog w) : Gives Tryd.prog 41 #[.int .i64 n] w (.string ⟨(Lib.itoa n).toArray⟩) := by
  refine (strconv_Itoa n (by omega) h1 w (tab_of hH (g := 1) (by kernel_rfl))).mono ?_
  rintro e w' ⟨rfl, k, os, rfl⟩
  exact ⟨rfl, below_grw _ _ _⟩
theorem g_FU (n : Nat) (w : World) (h : n < 18446744073709551616) (hH : Vm.Holds Tryd.prog w) : Gives Tryd.prog 42 #[.int .u64 n, .int .i64 10] w (.string ⟨(Lib.decDigits n).toArray⟩) := by
  refine (strconv_FormatUint n h w (tab_of hH (g := 1) (by kernel_rfl))).mono ?_
  rintro e w' ⟨rfl, k, os, rfl⟩
  exact ⟨rfl, below_grw _ _ _⟩
theorem below_drewN (w : World) (n : Nat) : Below w.heap.size w (w.drewN n) := ⟨rfl, rfl, rfl, Nat.le_refl _, fun _ _ => rfl⟩
theorem g_Cut (s t : ByteArray) (w : World) (hs : s.size < 4294967281) (hH : Vm.Holds Tryd.prog w) : Gives Tryd.prog 37 #[.string s, .string t] w (.tuple #[.string (Vm.cutB (s, t)).1, .string (Vm.cutB (s, t)).2.1, .bool (Vm.cutB (s, t)).2.2]) := by
  obtain ⟨m, hm⟩ := max_of hH (g := 0) (by kernel_rfl)
  refine (Any.strings_Cut lays145 s t m w hs hm).mono ?_
  rintro e w' ⟨rfl, n, rfl⟩
  exact ⟨rfl, below_drewN _ _⟩
theorem g_Split (s sep : ByteArray) (w : World) (hs : s.size < 4294967281) (h1 : 1 ≤ sep.size) (hH : Vm.Holds Tryd.prog w) : Calls Tryd.prog 47 #[.string s, .string sep] w fun e w' =>
    e = .returned (.slice (some ⟨w.heap.size, 0, none⟩) (Lib.countB s sep + 1) (Lib.countB s sep + 1)) ∧ w' = w.alloc (.cells ((Vm.splL (s, sep)).map Value.string).toArray 9) := by
  obtain ⟨m, hm⟩ := max_of hH (g := 0) (by kernel_rfl)
  exact Any.strings_Split lays146 hi9 s sep m w hs hm h1
theorem bytesWorld_below (w : World) (e : TypeId) (s : ByteArray) : Below w.heap.size w (Lib.bytesWorld w e s) :=
  ⟨rfl, rfl, rfl, by rw [Lib.bytesWorld_size]; omega, fun k hk => Lib.bytesWorld_at_old w e s k hk⟩
theorem g_PU (s : ByteArray) (w : World) (n : Int) (b : Bool) (hs : s.size < 281474976710656) (hH : Vm.Holds Tryd.prog w) (h : Vm.puS (s, 10, 64) = some (n, b)) :
    Calls Tryd.prog 57 #[.string s, .int .i64 10, .int .i64 64] w fun e w' =>
      ∃ v, e = .returned (.tuple #[.int .u64 n, v]) ∧ Below w.heap.size w w' ∧ cond b (∃ g, v = .iface 113 (.pointer (some g))) (v = .nilIface) := by
  have h' := Option.some.inj (Vm.cond_some h).2
  cases hp : Lib.parseUintB 64 s.data.toList with
  | ok u =>
    rw [hp] at h'
    obtain ⟨rfl, rfl⟩ := Prod.mk.inj h'
    refine (Any.strconv_ParseUint_10_at64_ok laysPu14 s (by omega) u hp w).mono ?_
    rintro e w' ⟨rfl, hw⟩
    refine ⟨_, rfl, ?_, rfl⟩
    rcases hw with rfl | rfl
    · exact Below.refl _ _
    · exact bytesWorld_below _ _ _
  | «syntax» =>
    rw [hp] at h'
    obtain ⟨rfl, rfl⟩ := Prod.mk.inj h'
    obtain ⟨ev, h1, h2⟩ := err_of hH (g := 2) (.inl (by kernel_rfl))
    refine (Any.strconv_ParseUint_10_at64_syntax laysPu14 s (by omega) hp ev w h1 h2).mono ?_
    rintro e w' ⟨N, rfl, _, _, hB⟩
    exact ⟨_, rfl, hB, _, rfl⟩
  | range =>
    rw [hp] at h'
    obtain ⟨rfl, rfl⟩ := Prod.mk.inj h'
    obtain ⟨ev, h1, h2⟩ := err_of hH (g := 3) (.inr (by kernel_rfl))
    refine (Any.strconv_ParseUint_10_at64_range laysPu14 s (by omega) hp ev w h1 h2).mono ?_
    rintro e w' ⟨N, rfl, _, _, hB⟩
    exact ⟨_, rfl, hB, _, rfl⟩
theorem builder_below {T e : TypeId} {B b : Nat} {bs : List Value} {w w' : World} (h : Lib.IsBuilder T e B b bs w) (hB : Below w.heap.size w w') : Lib.IsBuilder T e B b bs w' := by
  have key : ∀ p, Lib.BuilderAt T e B b p bs w → Lib.BuilderAt T e B b p bs w' := by
    intro p ⟨h1, v, h2, h3, h4⟩
    refine ⟨h1, v, (hB.block b (Array.getElem?_eq_some_iff.1 h2).1).trans h2, ⟨h3.1, ?_⟩, h4⟩
    rcases h3.2 with hn | ⟨g, cap, cur, rfl, hb, hgg, rest⟩
    · exact .inl hn
    · exact .inr ⟨g, cap, cur, rfl, hb, (hB.block g (Array.getElem?_eq_some_iff.1 hgg).1).trans hgg, rest⟩
  exact h.imp (key _) (key _)
theorem holds_below {P : Program} {w w' : World} (h : Vm.Holds P w) (hB : Below w.heap.size w w') : Vm.Holds P w' := fun x hx => by
  obtain ⟨c, t, fr, h1, h2⟩ := h x hx
  exact ⟨c, t, fr, (hB.block x.g (Array.getElem?_eq_some_iff.1 h1).1).trans h1, h2⟩
theorem holds_below' {P : Program} {B : Nat} {w0 w w' : World} (h : Vm.Holds P w0) (hb : w0.heap.size = B) (hB : Below B w0 w) : Vm.Holds P w := by subst hb; exact holds_below h hB

/-- Texts, one behind the other, each with its line's end. -/
def nlB : ByteArray := ⟨#[10]⟩
def catL : List ByteArray → ByteArray
  | [] => ByteArray.empty
  | a :: l => a ++ nlB ++ catL l
theorem catL_append : ∀ (l m : List ByteArray), catL (l ++ m) = catL l ++ catL m
  | [], m => by simp [catL]
  | a :: l, m => by simp [catL, catL_append l m, ByteArray.append_assoc]
theorem catL_one (a : ByteArray) : catL [a] = a ++ nlB := by simp [catL]

def evV (x : Int × Int × Int × Int × Int) : Value := .agg #[.int .i64 x.1, .int .i64 x.2.1, .int .i64 x.2.2.1, .int .u64 x.2.2.2.1, .int .u64 x.2.2.2.2]
def EvAt (w : World) (g o : Nat) (x : Int × Int × Int × Int × Int) : Prop :=
  w.cell? ⟨g, o, none⟩ = some (.int .i64 x.1) ∧ w.cell? ⟨g, o + 1, none⟩ = some (.int .i64 x.2.1) ∧ w.cell? ⟨g, o + 2, none⟩ = some (.int .i64 x.2.2.1) ∧ w.cell? ⟨g, o + 3, none⟩ = some (.int .u64 x.2.2.2.1) ∧ w.cell? ⟨g, o + 4, none⟩ = some (.int .u64 x.2.2.2.2)

set_option maxHeartbeats 4000000 in
set_option maxRecDepth 100000 in
theorem print_calls (A : Option Addr) (n c : Nat) (xs : Nat → Int × Int × Int × Int × Int) (L : List ByteArray) (k e : Int) (w : World) (hH : Vm.Holds Tryd.prog w) (hn : n ≤ 9223372036854775807)
    (hA : 0 < n → ∃ g o, A = some ⟨g, o, none⟩ ∧ g < w.heap.size ∧ ∀ i, i < n → EvAt w g (o + i * 5) (xs i))
    (hcheck : Gives Tryd.prog 20 #[.slice A n c] w (.tuple #[.int .i64 k, .int .i64 e]))
    (hL : e = 0 → L.length = n ∧ (catL L).size ≤ 140737488355328 ∧ ∀ i, i < n → ∀ w', Vm.Holds Tryd.prog w' → Gives Tryd.prog 28 #[evV (xs i)] w' (.string (L.getD i ByteArray.empty))) :
    Gives Tryd.prog 19 #[.slice A n c] w (.tuple #[.string (cond (e == 0) (catL L) ByteArray.empty), .int .i64 e]) := by
  by_cases he : e = 0
  · subst he
    obtain ⟨hl, hsz, hline⟩ := hL rfl
    have HL := Any.hidU hline
    have HA := Any.hidU hA
    have HH := Any.hidU hH
    have Hl := Any.hidU hl
    have Hsz := Any.hidU hsz
    clear hline hA hL hH hl hsz
    go_enter Tryd.func19, Tryd.ntmps19
    go_wp2_with (go_at_call 20; refine hcheck.mono ?_; rintro e' w1 ⟨rfl, hb1⟩)
    go_loopw [19] (fun i wr => ∃ k : Nat, k ≤ n ∧ i = .int .i64 k ∧ Hid (Lib.IsBuilder 62 5 w1.heap.size w1.heap.size (Lib.byteCells (catL (L.take k)).data.toList) wr) ∧ Hid (Below w1.heap.size w1 wr)) (fun i _ => n - (RowKit.intOf i).toNat)
    case atStart => exact ⟨0, Nat.zero_le _, rfl, Any.hidU (Lib.fresh_isBuilder _ _ _), Any.hidU ((Below.refl _ _).alloc (Nat.le_refl _) _)⟩
    case round =>
      obtain ⟨k, hk, rfl, HB, HW⟩ := hrel
      by_cases hlt : k < n
      · obtain ⟨g, o, rfl, hg, hat⟩ := HA.out (by omega)
        have hw : ∀ p, w1.cell? ⟨g, p, none⟩ = w.cell? ⟨g, p, none⟩ := fun p => hb1.cell hg
        have hw2 : ∀ p, wr.cell? ⟨g, p, none⟩ = w1.cell? ⟨g, p, none⟩ := fun p => HW.out.cell (Nat.lt_of_lt_of_le hg hb1.size)
        obtain ⟨c0, c1, c2, c3, c4⟩ := hat k hlt
        rw [← hw, ← hw2] at c0 c1 c2 c3 c4
        clear hw hw2 hat
        have hLk : (L.getD k ByteArray.empty) = L[k]'(by rw [Hl.out]; exact hlt) := by simp [List.getD, List.getElem?_eq_getElem (show k < L.length by rw [Hl.out]; exact hlt)]
        have hcat : catL (L.take (k + 1)) = catL (L.take k) ++ (L.getD k ByteArray.empty ++ nlB) := by
          rw [List.take_succ_eq_append_getElem (by rw [Hl.out]; exact hlt), catL_append, catL_one, hLk]
        have hsum : (catL (L.take k)).size + (L.getD k ByteArray.empty ++ nlB).size ≤ 140737488355328 := by
          have h1 : catL L = catL (L.take (k + 1)) ++ catL (L.drop (k + 1)) := by rw [← catL_append, List.take_append_drop]
          have h2 := Hsz.out
          rw [h1, hcat] at h2
          simp only [ByteArray.size_append] at h2 ⊢
          omega
        have Hc := Any.hidU hcat
        have Hs := Any.hidU hsum
        clear hLk hcat hsum
        have hHr : ∀ w', Below w1.heap.size w1 w' → Vm.Holds Tryd.prog w' := fun w' h => holds_below (holds_below HH.out hb1) h
        have HHr := Any.hidU hHr
        clear hHr
        have hBw : w1.heap.size ≤ wr.heap.size := HW.out.size
        have HA' := HA
        clear HA
        go_wp2_with fail
        refine (HL.out k hlt _ (HHr.out _ (HW.out.alloc hBw _))).mono ?_
        rintro e' w2 ⟨rfl, hb2⟩
        have hB2 : Below w1.heap.size w1 w2 := (HW.out.alloc hBw _).trans (hb2.mono (Nat.le_trans hBw (by simp)))
        have hI2 := builder_below HB.out (((Below.refl wr.heap.size wr).alloc (Nat.le_refl _) _).trans (hb2.mono (by simp)))
        have HB2 := Any.hidU hB2
        have HI2 := Any.hidU hI2
        clear hb2 hB2 hI2 HB HW
        have hsm : ¬ 9223372036854775807 < (L[k]?.getD ByteArray.empty).size + 1 := by
          have h1 := Hs.out
          simp only [ByteArray.size_append, List.getD] at h1
          omega
        go_wp2_with fail
        clear hsm
        have hlen : (Lib.byteCells (catL (L.take k)).data.toList).length + (L.getD k ByteArray.empty ++ nlB).size ≤ 140737488355328 := by
          rw [Lib.byteCells_length, ← Lib.size_eq]; exact Hs.out
        have hwr : Calls Tryd.prog 35 #[.pointer (some ⟨w1.heap.size, 0, none⟩), .string (L.getD k ByteArray.empty ++ ⟨#[10]⟩)] w2 _ :=
          Any.Builder_WriteString { lays156 with } bldr156 w1.heap.size w1.heap.size _ (L.getD k ByteArray.empty ++ nlB) w2 HI2.out hlen HB2.out.size
        refine hwr.mono ?_
        rintro e' w3 ⟨rfl, h3, hb3⟩
        have hc : Lib.byteCells (catL (L.take k)).data.toList ++ Lib.strCells (L.getD k ByteArray.empty ++ nlB) = Lib.byteCells (catL (L.take (k + 1))).data.toList := by
          rw [Hc.out, Lib.strCells_eq, ← Lib.byteCells_append]
          simp [ByteArray.data_append]
        rw [hc] at h3
        have H3 := Any.hidU (Or.inr h3 : Lib.IsBuilder 62 5 w1.heap.size w1.heap.size _ w3)
        have Hb3 := Any.hidU (HB2.out.trans hb3)
        clear h3 hb3 hc
        go_wp2
        exact ⟨⟨k + 1, hlt, by go_num, H3, Hb3⟩, by simp [RowKit.intOf]; omega⟩
      · obtain rfl : k = n := by omega
        have hall : L.take k = L := List.take_of_length_le (by rw [Hl.out]; omega)
        rw [hall] at HB
        go_wp2_with fail
        have hst : Calls Tryd.prog 36 #[.pointer (some ⟨w1.heap.size, 0, none⟩)] wr _ := Any.Builder_String_any { lays156 with } bldr156 w1.heap.size w1.heap.size _ wr HB.out HW.out.size
        refine hst.mono ?_
        rintro e' w3 ⟨rfl, hb3⟩
        have Hb3 := Any.hidU (hb1.trans ((HW.out.trans hb3).mono hb1.size))
        clear hb3
        go_wp2
        go_ret2
        exact ⟨rfl, Hb3.out⟩
  · have hne : (e != 0) = true := by simp [he]
    have hne2 : (e == 0) = false := by simp [he]
    rw [hne2]
    go_enter Tryd.func19, Tryd.ntmps19
    go_wp2_with (go_at_call 20; refine hcheck.mono ?_; rintro e' w1 ⟨rfl, hb1⟩)
    go_ret2
    exact ⟨rfl, hb1⟩
end Go.Proofs.YtbmbndfmpndmfaaDoor
