/- What functions of the library come to, by the contracts of the shelf: no statement is proved here. -/
import Derived.Test.YtigdgbdmlejcbaaGreatDoorM
import Derived.Test.YtigdgbdmlejcbaaGreatDoorChecked
import Derived.Shelf.Strconv.Itoa3
import Derived.Shelf.Strings.Cut
import Derived.Shelf.Strings.Split
import Derived.Shelf.Strings.OnBuilder
import Derived.Shelf.Pu.ParseUintPublic10
import Derived.KernelRfl
namespace Go.Proofs.YtigdgbdmlejcbaaGreatDoor
set_option linter.unusedVariables false
open Go Go.Shelf Go.RowKit Go.Sort Go.Lib
open Go.Vm (Gives)
open Go Go.Shelf Go.RowKit Go.Sort Go.Lib
open Go.Vm (Gives)
def renN : Go.Shelf.Ren := ⟨fun | 129 => 114 | 138 => 111 | 143 => 112 | 145 => 36 | 146 => 72 | 156 => 49 | 165 => 70 | 166 => 24 | 169 => 26 | 171 => 45 | 195 => 121 | 197 => 122 | 217 => 95 | 218 => 123 | 219 => 71 | 220 => 51 | 221 => 99 | 224 => 97 | 225 => 96 | 240 => 46 | 241 => 94 | 243 => 59 | 246 => 76 | 260 => 133 | 266 => 108 | 267 => 98 | 268 => 110 | 276 => 60 | 277 => 107 | 283 => 100 | 284 => 101 | 285 => 102 | 286 => 103 | 314 => 109 | 317 => 113 | 318 => 115 | 319 => 116 | 320 => 117 | 337 => 124 | 338 => 125 | n => n, fun | 0 => 0 | 2 => 2 | 3 => 3 | 4 => 4 | 5 => 5 | 9 => 9 | 20 => 20 | 21 => 21 | 31 => 78 | 37 => 53 | 46 => 95 | 51 => 124 | 53 => 26 | 59 => 66 | 70 => 52 | 72 => 55 | 75 => 58 | 76 => 59 | 80 => 61 | 105 => 133 | 119 => 148 | 127 => 85 | 138 => 150 | 139 => 151 | 146 => 125 | 164 => 96 | 171 => 115 | 173 => 118 | 212 => 129 | 213 => 130 | 232 => 142 | 233 => 143 | n => n, fun | 1 => 0 | 3 => 6 | 4 => 7 | 17 => 1 | 18 => 2 | 19 => 3 | n => n⟩
def renP : Go.Shelf.Ren := ⟨fun | 14 => 106 | 16 => 119 | 17 => 120 | 19 => 127 | 20 => 128 | 21 => 129 | 22 => 130 | 23 => 131 | 24 => 132 | 25 => 134 | 26 => 135 | 27 => 45 | 28 => 59 | 29 => 76 | 30 => 100 | 31 => 101 | 32 => 102 | 33 => 103 | 34 => 113 | 35 => 114 | 36 => 115 | 37 => 116 | 38 => 117 | 39 => 124 | 40 => 125 | n => n, fun | 0 => 0 | 2 => 2 | 3 => 3 | 4 => 4 | 5 => 5 | 9 => 9 | 20 => 20 | 21 => 21 | 22 => 26 | 24 => 58 | 25 => 121 | 34 => 137 | 36 => 95 | 37 => 53 | 39 => 139 | 44 => 146 | 47 => 85 | 48 => 152 | 50 => 154 | 52 => 115 | 55 => 118 | 59 => 129 | 60 => 124 | 61 => 130 | 65 => 142 | 66 => 143 | 67 => 61 | n => n, fun | 0 => 4 | 1 => 5 | 2 => 1 | 3 => 2 | 4 => 3 | n => n⟩
theorem lays145 : Lays.n145 Tryz.prog renN := by
  constructor <;> first | (intros; kernel_rfl) | (constructor <;> (intros; kernel_rfl))
theorem lays146 : Lays.n146 Tryz.prog renN := by
  constructor <;> first | (intros; kernel_rfl) | (constructor <;> (intros; kernel_rfl))
theorem lays156 : Lays.n156 Tryz.prog renN := by
  constructor <;> first | (intros; kernel_rfl) | (constructor <;> (intros; kernel_rfl))
theorem bldr156 : Builder.Extra Tryz.prog renN := by
  constructor <;> first | (intros; kernel_rfl) | decide | (constructor <;> (intros; kernel_rfl))
theorem laysPu14 : LaysPu.n14 Tryz.prog renP := by
  constructor <;> first | (intros; kernel_rfl) | (constructor <;> (intros; kernel_rfl))
theorem hi9 : (Tryz.prog.info? (renN.t 9)).map (fun i => (i.zero, i.size, i.bytes)) = some (some (.string ByteArray.empty), 1, 16) := by kernel_rfl
theorem lays283 : Lays.n283 Tryz.prog renN := by
  constructor <;> first | (intros; kernel_rfl) | (constructor <;> (intros; kernel_rfl))
theorem lays284 : LaysM.n284 Tryz.prog renN := by
  constructor <;> first | (intros; kernel_rfl) | (constructor <;> (intros; kernel_rfl))
theorem lays285 : Lays.n285 Tryz.prog renN := by
  constructor <;> first | (intros; kernel_rfl) | (constructor <;> (intros; kernel_rfl))
theorem lays171 : LaysM.n171 Tryz.prog renN := by
  constructor <;> first | (intros; kernel_rfl) | (constructor <;> (intros; kernel_rfl))

theorem holds_zero0 (w : World) (T : TypeId) (nd : Nat) (hs : nd ≤ 24) : Holds (fun (b : UInt8) => Value.int .u8 (b.toNat : Int)) (w.alloc (.cells zeros24 T)) w.heap.size 0 (Array.replicate nd (0 : UInt8)) := fun j hj => by
  have hj' : j < nd := by simpa using hj
  refine ⟨?_, World.frozen?_alloc_new _ _ _ _⟩
  rw [World.cell?_alloc_new, zeros24_at _ (by omega), getElem!_pos _ j hj]
  simp
theorem fin_pos0 (w : World) (o : Obj) (dk : Array UInt8) (k : Nat) : ∃ os, (putRow (fun (b : UInt8) => Value.int .u8 (b.toNat : Int)) (w.alloc o) w.heap.size 0 dk).drewN k = grow (w.drewN k) os := by
  rw [alloc_eq_grow]
  obtain ⟨os', _, e⟩ := putRow_grow_new (fun (b : UInt8) => Value.int .u8 (b.toNat : Int)) w #[o] w.heap.size 0 dk (Nat.le_refl _)
  exact ⟨os', by rw [e]; rfl⟩

set_option maxHeartbeats 6400000 in
set_option maxRecDepth 100000 in
/-- internal/strconv.FormatUint at base 10: the number's decimal numeral, for every uint64. -/
theorem internal_FormatUint (u : Nat) (hu64 : u < 18446744073709551616) (w : World) (htab : Lib.TabIs Tryz.prog w "internal/strconv.uint64pow10" .u64 Lib.pow10Tab) :
    Calls Tryz.prog 105 #[.int .u64 u, .int .i64 10] w fun e w' => e = .returned (.string ⟨(Lib.decDigits u).toArray⟩) ∧ ∃ k os, w' = grow (w.drewN k) os := by
  by_cases hs : u < 100
  · have hwr : IntKind.i64.wrap (u : Int) = (u : Int) := by rw [IntKind.wrap_i64]; omega
    go_enter Tryz.func105, Tryz.ntmps105
    go_wp2_with (go_at_call 100; refine (Any.internal_strconv_small lays283 u hs _).mono ?_; rintro e w' ⟨rfl, rfl⟩)
    go_ret
    exact ⟨rfl, 0, #[], by simp [World.drewN_zero]⟩
  · have hu1 : 1 ≤ u := by omega
    have hnd20 : Lib.nDigits u ≤ 20 := by have := Lib.numDigits_eq u hu1 hu64; split at this <;> omega
    have hal : Tryz.prog.arrayLen 115 = 24 := by kernel_rfl
    have hsl1 : ∀ W, (Instr.sliceAt 115 (.pointer (some ⟨w.heap.size, 0, none⟩)) none (some (.int .i64 (Lib.nDigits u : Int))) none).run Tryz.prog W = .ok (.slice (some ⟨w.heap.size, 0, none⟩) (Lib.nDigits u) 24) W := fun W => by
      rw [run_sliceAt_array_h W 115 ⟨w.heap.size, 0, none⟩ (by kernel_rfl) .i64 (Lib.nDigits u : Int) (by omega) (by rw [hal]; omega)]
      go_simp
    have hH0 := holds_zero0 w 115 (Lib.nDigits u) (by omega)
    have hfmt := Any.internal_strconv_formatBase10 lays285 w.heap.size 0 24 u (Array.replicate (Lib.nDigits u) 0) (w.alloc (.cells Lib.zeros24 115)) hH0 (by rw [Array.size_replicate]; exact Lib.lt_pow_nDigits u) hu64 (by rw [Array.size_replicate]; omega)
    rw [Array.size_replicate] at hfmt
    have HH0 := Lib.hid hH0
    clear hH0 hal
    go_enter Tryz.func105, Tryz.ntmps105
    go_wp2_with (first
      | (go_at_call 101; refine (Any.internal_strconv_numDigits lays284 u hu1 hu64 _ (Lib.tabIs_alloc htab _)).mono ?_; rintro e w' ⟨rfl, rfl⟩))
    go_at_call 102
    refine hfmt.mono ?_
    rintro e w' ⟨rfl, k, v', dk, rfl, hF⟩
    have hcv : (convert 53 9 (.slice (some ⟨w.heap.size, 0, none⟩) (Lib.nDigits u) 24)).run Tryz.prog ((putRow (fun (b : UInt8) => Value.int .u8 (b.toNat : Int)) (w.alloc (.cells Lib.zeros24 115)) w.heap.size 0 dk).drewN k) = .ok (.string ⟨(Lib.decDigits u).toArray⟩) ((putRow (fun (b : UInt8) => Value.int .u8 (b.toNat : Int)) (w.alloc (.cells Lib.zeros24 115)) w.heap.size 0 dk).drewN k) := by
      have h := run_convert_bytes_back (P := Tryz.prog) ((putRow (fun (b : UInt8) => Value.int .u8 (b.toNat : Int)) (w.alloc (.cells Lib.zeros24 115)) w.heap.size 0 dk).drewN k) 53 9 5 ⟨w.heap.size, 0, none⟩ 24 (Lib.decDigits u) (by kernel_rfl) (by kernel_rfl) (by kernel_rfl) (fun j hj => by
        rw [Lib.row_is_numeral hF j hj, Lib.add_plain, World.cell?_drewN]
        exact cell?_putRow (fun (b : UInt8) => Value.int .u8 (b.toNat : Int)) _ w.heap.size 0 _ dk HH0.out (by rw [hF.size, Array.size_replicate]) j (by rw [hF.size]; rw [Lib.decDigits_length] at hj; exact hj))
      rw [Lib.decDigits_length] at h
      exact h
    go_wp2
    go_ret
    obtain ⟨os, eo⟩ := fin_pos0 w (.cells Lib.zeros24 115) dk k
    exact ⟨rfl, k, os, eo⟩

set_option maxRecDepth 100000 in
/-- strconv.FormatUint at base 10. -/
theorem strconv_FormatUint (u : Nat) (hu64 : u < 18446744073709551616) (w : World) (htab : Lib.TabIs Tryz.prog w "internal/strconv.uint64pow10" .u64 Lib.pow10Tab) :
    Calls Tryz.prog 81 #[.int .u64 u, .int .i64 10] w fun e w' => e = .returned (.string ⟨(Lib.decDigits u).toArray⟩) ∧ ∃ k os, w' = grow (w.drewN k) os := by
  go_enter Tryz.func81, Tryz.ntmps81
  go_wp2_with (go_at_call 105; refine (internal_FormatUint u hu64 _ htab).mono ?_; rintro e w' ⟨rfl, k, os, rfl⟩)
  go_ret
  exact ⟨rfl, k, os, rfl⟩
theorem strconv_Itoa (n : Int) (h0 : -9223372036854775808 ≤ n) (h1 : n ≤ 9223372036854775807) (w : World) (htab : Lib.TabIs Tryz.prog w "internal/strconv.uint64pow10" .u64 Lib.pow10Tab) :
    Calls Tryz.prog 45 #[.int .i64 n] w fun e w' => e = .returned (.string ⟨(Lib.itoa n).toArray⟩) ∧ ∃ k os, w' = grow (w.drewN k) os := Any.strconv_Itoa lays171 n h0 h1 w htab

theorem tab_of {P : Program} {w : World} (h : Vm.Holds P w) {g : Nat} (hg : P.globalNamed "internal/strconv.uint64pow10" = some g) : Lib.TabIs P w "internal/strconv.uint64pow10" .u64 Lib.pow10Tab := by
  obtain ⟨c, t, fr, h1, h2⟩ := h ⟨g, fun c => c = (Vm.pow10L.map (Value.int .u64)).toArray⟩ (by simp [Vm.knownOf, Vm.known1, hg])
  obtain rfl : c = _ := h2
  unfold Lib.TabIs World.var?
  rw [hg]
  simp only [Option.bind_some, h1]
  rfl
theorem max_of {P : Program} {w : World} (h : Vm.Holds P w) {g : Nat} (hg : P.globalNamed "internal/bytealg.MaxLen" = some g) : ∃ m, w.cell? ⟨g, 0, none⟩ = some (.int .i64 m) := by
  obtain ⟨c, t, fr, h1, h2⟩ := h ⟨g, fun c => ∃ m, c = #[.int .i64 m]⟩ (by simp [Vm.knownOf, Vm.known1, hg])
  obtain ⟨m, rfl⟩ : ∃ m, c = #[.int .i64 m] := h2
  exact ⟨m, by simp [World.cell?, h1]⟩
theorem err_of {P : Program} {w : World} (h : Vm.Holds P w) {g : Nat} (hg : P.globalNamed "strconv.ErrSyntax" = some g ∨ P.globalNamed "strconv.ErrRange" = some g) : ∃ v, w.cell? ⟨g, 0, none⟩ = some v ∧ (v = .nilIface ∨ ∃ t x, v = .iface t x) := by
  obtain ⟨c, t, fr, h1, h2⟩ := h ⟨g, fun c => ∃ v, c = #[v] ∧ (v = .nilIface ∨ ∃ t x, v = .iface t x)⟩ (by rcases hg with hg | hg <;> simp [Vm.knownOf, Vm.known1, hg])
  obtain ⟨v, rfl, hv⟩ : ∃ v, c = #[v] ∧ (v = .nilIface ∨ ∃ t x, v = .iface t x) := h2
  exact ⟨v, by simp [World.cell?, h1], hv⟩

theorem below_grw (w : World) (k : Nat) (os : Array Obj) : Below w.heap.size w (grow (w.drewN k) os) :=
  ⟨rfl, rfl, rfl, by show w.heap.size ≤ (w.heap ++ os).size; rw [Array.size_append]; omega, fun j hj => by
    show (w.heap ++ os)[j]? = _
    rw [Array.getElem?_append_left hj]⟩
theorem g_Itoa (n : Int) (w : World) (h0 : 0 ≤ n) (h1 : n ≤ 9223372036854775807) (hH : Vm.Holds Tryz.prog w) : Gives Tryz.prog 45 #[.int .i64 n] w (.string ⟨(Lib.itoa n).toArray⟩) := by
  refine (strconv_Itoa n (by omega) h1 w (tab_of hH (g := 1) (by kernel_rfl))).mono ?_
  rintro e w' ⟨rfl, k, os, rfl⟩
  exact ⟨rfl, below_grw _ _ _⟩
theorem g_FU (n : Nat) (w : World) (h : n < 18446744073709551616) (hH : Vm.Holds Tryz.prog w) : Gives Tryz.prog 81 #[.int .u64 n, .int .i64 10] w (.string ⟨(Lib.decDigits n).toArray⟩) := by
  refine (strconv_FormatUint n h w (tab_of hH (g := 1) (by kernel_rfl))).mono ?_
  rintro e w' ⟨rfl, k, os, rfl⟩
  exact ⟨rfl, below_grw _ _ _⟩
theorem below_drewN (w : World) (n : Nat) : Below w.heap.size w (w.drewN n) := ⟨rfl, rfl, rfl, Nat.le_refl _, fun _ _ => rfl⟩
theorem g_Cut (s t : ByteArray) (w : World) (hs : s.size < 4294967281) (hH : Vm.Holds Tryz.prog w) : Gives Tryz.prog 36 #[.string s, .string t] w (.tuple #[.string (Vm.cutB (s, t)).1, .string (Vm.cutB (s, t)).2.1, .bool (Vm.cutB (s, t)).2.2]) := by
  obtain ⟨m, hm⟩ := max_of hH (g := 0) (by kernel_rfl)
  refine (Any.strings_Cut lays145 s t m w hs hm).mono ?_
  rintro e w' ⟨rfl, n, rfl⟩
  exact ⟨rfl, below_drewN _ _⟩
theorem g_Split (s sep : ByteArray) (w : World) (hs : s.size < 4294967281) (h1 : 1 ≤ sep.size) (hH : Vm.Holds Tryz.prog w) : Calls Tryz.prog 72 #[.string s, .string sep] w fun e w' =>
    e = .returned (.slice (some ⟨w.heap.size, 0, none⟩) (Lib.countB s sep + 1) (Lib.countB s sep + 1)) ∧ w' = w.alloc (.cells ((Vm.splL (s, sep)).map Value.string).toArray 9) := by
  obtain ⟨m, hm⟩ := max_of hH (g := 0) (by kernel_rfl)
  exact Any.strings_Split lays146 hi9 s sep m w hs hm h1
theorem bytesWorld_below (w : World) (e : TypeId) (s : ByteArray) : Below w.heap.size w (Lib.bytesWorld w e s) :=
  ⟨rfl, rfl, rfl, by rw [Lib.bytesWorld_size]; omega, fun k hk => Lib.bytesWorld_at_old w e s k hk⟩
theorem g_PU (s : ByteArray) (w : World) (n : Int) (b : Bool) (hs : s.size < 281474976710656) (hH : Vm.Holds Tryz.prog w) (h : Vm.puS (s, 10, 64) = some (n, b)) :
    Calls Tryz.prog 106 #[.string s, .int .i64 10, .int .i64 64] w fun e w' =>
      ∃ v, e = .returned (.tuple #[.int .u64 n, v]) ∧ Below w.heap.size w w' ∧ cond b (∃ g, v = .iface 139 (.pointer (some g))) (v = .nilIface) := by
  have h' := Option.some.inj (Vm.cond_some h).2
  cases hp : Lib.parseUintB 64 s.data.toList with
  | ok u =>
    rw [hp] at h'
    obtain ⟨rfl, rfl⟩ := Prod.mk.inj h'
    refine (Any.strconv_ParseUint_10_at64_ok laysPu14 s (by omega) u hp w).mono ?_
    rintro e w' ⟨rfl, hw⟩
    refine ⟨_, rfl, ?_, rfl⟩
    rcases hw with rfl | rfl
    · exact Below.refl _ _
    · exact bytesWorld_below _ _ _
  | «syntax» =>
    rw [hp] at h'
    obtain ⟨rfl, rfl⟩ := Prod.mk.inj h'
    obtain ⟨ev, h1, h2⟩ := err_of hH (g := 4) (.inl (by kernel_rfl))
    refine (Any.strconv_ParseUint_10_at64_syntax laysPu14 s (by omega) hp ev w h1 h2).mono ?_
    rintro e w' ⟨N, rfl, _, _, hB⟩
    exact ⟨_, rfl, hB, _, rfl⟩
  | range =>
    rw [hp] at h'
    obtain ⟨rfl, rfl⟩ := Prod.mk.inj h'
    obtain ⟨ev, h1, h2⟩ := err_of hH (g := 5) (.inr (by kernel_rfl))
    refine (Any.strconv_ParseUint_10_at64_range laysPu14 s (by omega) hp ev w h1 h2).mono ?_
    rintro e w' ⟨N, rfl, _, _, hB⟩
    exact ⟨_, rfl, hB, _, rfl⟩
theorem builder_below {T e : TypeId} {B b : Nat} {bs : List Value} {w w' : World} (h : Lib.IsBuilder T e B b bs w) (hB : Below w.heap.size w w') : Lib.IsBuilder T e B b bs w' := by
  have key : ∀ p, Lib.BuilderAt T e B b p bs w → Lib.BuilderAt T e B b p bs w' := by
    intro p ⟨h1, v, h2, h3, h4⟩
    refine ⟨h1, v, (hB.block b (Array.getElem?_eq_some_iff.1 h2).1).trans h2, ⟨h3.1, ?_⟩, h4⟩
    rcases h3.2 with hn | ⟨g, cap, cur, rfl, hb, hgg, rest⟩
    · exact .inl hn
    · exact .inr ⟨g, cap, cur, rfl, hb, (hB.block g (Array.getElem?_eq_some_iff.1 hgg).1).trans hgg, rest⟩
  exact h.imp (key _) (key _)
theorem holds_below {P : Program} {w w' : World} (h : Vm.Holds P w) (hB : Below w.heap.size w w') : Vm.Holds P w' := fun x hx => by
  obtain ⟨c, t, fr, h1, h2⟩ := h x hx
  exact ⟨c, t, fr, (hB.block x.g (Array.getElem?_eq_some_iff.1 h1).1).trans h1, h2⟩
theorem holds_below' {P : Program} {B : Nat} {w0 w w' : World} (h : Vm.Holds P w0) (hb : w0.heap.size = B) (hB : Below B w0 w) : Vm.Holds P w := by subst hb; exact holds_below h hB

/-- Texts, one behind the other, each with its line's end. -/
def nlB : ByteArray := ⟨#[10]⟩
def catL : List ByteArray → ByteArray
  | [] => ByteArray.empty
  | a :: l => a ++ nlB ++ catL l
theorem catL_append : ∀ (l m : List ByteArray), catL (l ++ m) = catL l ++ catL m
  | [], m => by simp [catL]
  | a :: l, m => by simp [catL, catL_append l m, ByteArray.append_assoc]
theorem catL_one (a : ByteArray) : catL [a] = a ++ nlB := by simp [catL]


/-- A thread's line. -/
def thB : ByteArray := ⟨#[116, 104, 114, 101, 97, 100, 10]⟩
def catT : List (List ByteArray) → ByteArray
  | [] => ByteArray.empty
  | l :: r => thB ++ catL l ++ catT r
theorem catT_append : ∀ (l m : List (List ByteArray)), catT (l ++ m) = catT l ++ catT m
  | [], m => by simp [catT]
  | a :: l, m => by simp [catT, catT_append l m, ByteArray.append_assoc]
theorem catT_one (a : List ByteArray) : catT [a] = thB ++ catL a := by simp [catT]
def rgV (x : Int × Int × Int) : Value := .agg #[.int .i64 x.1, .int .i64 x.2.1, .int .i64 x.2.2]
def RgAt (w : World) (g o : Nat) (x : Int × Int × Int) : Prop := w.cell? ⟨g, o, none⟩ = some (.int .i64 x.1) ∧ w.cell? ⟨g, o + 1, none⟩ = some (.int .i64 x.2.1) ∧ w.cell? ⟨g, o + 2, none⟩ = some (.int .i64 x.2.2)
def inV (x : Int × Int × Int × Int × Int × Int) : Value := .agg #[.int .i64 x.1, .int .i64 x.2.1, .int .i64 x.2.2.1, .int .i64 x.2.2.2.1, .int .i64 x.2.2.2.2.1, .int .u64 x.2.2.2.2.2]
def InAt (w : World) (g o : Nat) (x : Int × Int × Int × Int × Int × Int) : Prop :=
  w.cell? ⟨g, o, none⟩ = some (.int .i64 x.1) ∧ w.cell? ⟨g, o + 1, none⟩ = some (.int .i64 x.2.1) ∧ w.cell? ⟨g, o + 2, none⟩ = some (.int .i64 x.2.2.1) ∧ w.cell? ⟨g, o + 3, none⟩ = some (.int .i64 x.2.2.2.1) ∧ w.cell? ⟨g, o + 4, none⟩ = some (.int .i64 x.2.2.2.2.1) ∧ w.cell? ⟨g, o + 5, none⟩ = some (.int .u64 x.2.2.2.2.2)

set_option maxHeartbeats 8000000 in
set_option maxRecDepth 100000 in
theorem lprint_calls (RA TA : Option Addr) (rn rc tn tc : Nat) (rs : Nat → Int × Int × Int) (A : Nat → Option Addr) (n c : Nat → Nat) (is : Nat → Nat → Int × Int × Int × Int × Int × Int) (s0 : ByteArray) (w : World) (hH : Vm.Holds Tryz.prog w) (hrn : rn ≤ 9223372036854775807) (htn : tn ≤ 9223372036854775807)
    (hR : 0 < rn → ∃ g o, RA = some ⟨g, o, none⟩ ∧ g < w.heap.size ∧ ∀ i, i < rn → RgAt w g (o + i * 3) (rs i))
    (hT : 0 < tn → ∃ g o, TA = some ⟨g, o, none⟩ ∧ g < w.heap.size ∧ ∀ t, t < tn → w.cell? ⟨g, o + t, none⟩ = some (.slice (A t) (n t) (c t)))
    (hI : ∀ t, t < tn → n t ≤ 9223372036854775807 ∧ (0 < n t → ∃ g o, A t = some ⟨g, o, none⟩ ∧ g < w.heap.size ∧ ∀ i, i < n t → InAt w g (o + i * 6) (is t i)))
    (hcheck : ∀ w', Below w.heap.size w w' → Gives Tryz.prog 22 #[.agg #[.slice RA rn rc, .slice TA tn tc]] w' (.tuple #[.string s0, .int .i64 0]))
    (H : List ByteArray) (hHl : H.length = rn) (hHs : (catL H).size ≤ 140737488355328) (hne : ByteArray.empty ∉ H)
    (hH1 : ∀ i, i < rn → ∀ w', Vm.Holds Tryz.prog w' → Gives Tryz.prog 23 #[rgV (rs i)] w' (.string (H.getD i ByteArray.empty)))
    (T : List (List ByteArray)) (hTl : T.length = tn) (hTs : (catL H ++ catT T).size ≤ 140737488355328) (hTn : ∀ t, t < tn → (T.getD t []).length = n t)
    (hT1 : ∀ t i, t < tn → i < n t → ∀ w', Vm.Holds Tryz.prog w' → Gives Tryz.prog 25 #[inV (is t i)] w' (.string ((T.getD t []).getD i ByteArray.empty))) :
    Gives Tryz.prog 11 #[.agg #[.slice RA rn rc, .slice TA tn tc]] w (.tuple #[.string (catL H ++ catT T), .int .i64 0]) := by
  have HR := Any.hidU hR
  have HT := Any.hidU hT
  have HI := Any.hidU hI
  have HC := Any.hidU hcheck
  have HHl := Any.hidU hHl
  have HHs := Any.hidU hHs
  have HNE := Any.hidU hne
  have HH1 := Any.hidU hH1
  have HTl := Any.hidU hTl
  have HTs := Any.hidU hTs
  have HTn := Any.hidU hTn
  have HT1 := Any.hidU hT1
  have HH := Any.hidU hH
  clear hR hT hI hcheck hHl hHs hne hH1 hTl hTs hTn hT1 hH
  go_enter Tryz.func11, Tryz.ntmps11
  go_wp2_with (go_at_call 22; refine (HC.out _ ((Below.refl _ _).alloc (Nat.le_refl _) _)).mono ?_; rintro e' w1 ⟨rfl, hb1⟩
    <;> (have ca0 : w1.cell? ⟨w.heap.size, 0, none⟩ = some (.slice RA rn rc) := (hb1.cell (by simp)).trans (by rw [World.cell?_alloc_new]; rfl)
         have ca1 : w1.cell? ⟨w.heap.size, 1, none⟩ = some (.slice TA tn tc) := (hb1.cell (by simp)).trans (by rw [World.cell?_alloc_new]; rfl)
         have hsz1 : w.heap.size < w1.heap.size := Nat.lt_of_lt_of_le (by simp) hb1.size
         have cb0 : (w1.alloc (Obj.cells #[Value.pointer none, Value.slice none 0 0] 55)).cell? ⟨w.heap.size, 0, none⟩ = some (.slice RA rn rc) := (((Below.refl w1.heap.size w1).alloc (Nat.le_refl _) _).cell hsz1).trans ca0))
  have HB1 := Any.hidU (((Below.refl _ _).alloc (Nat.le_refl _) _).trans (hb1.mono (by simp)) : Below w.heap.size w w1)
  go_loopw [24] (fun i wr => ∃ k : Nat, k ≤ rn ∧ i = .int .i64 k ∧ Hid (Lib.IsBuilder 55 5 w1.heap.size w1.heap.size (Lib.byteCells (catL (H.take k)).data.toList) wr) ∧ Hid (Below w1.heap.size w1 wr)) (fun i _ => rn - (RowKit.intOf i).toNat)
  case atStart => exact ⟨0, Nat.zero_le _, rfl, Any.hidU (Lib.fresh_isBuilder _ _ _), Any.hidU ((Below.refl _ _).alloc (Nat.le_refl _) _)⟩
  case round =>
    obtain ⟨k, hk, rfl, HB, HW⟩ := hrel
    by_cases hlt : k < rn
    · obtain ⟨g, o, rfl, hg, hat⟩ := HR.out (by omega)
      have hw : ∀ p, w1.cell? ⟨g, p, none⟩ = w.cell? ⟨g, p, none⟩ := fun p => HB1.out.cell hg
      have hw2 : ∀ p, wr.cell? ⟨g, p, none⟩ = w1.cell? ⟨g, p, none⟩ := fun p => HW.out.cell (Nat.lt_of_lt_of_le hg HB1.out.size)
      obtain ⟨c0, c1, c2⟩ := hat k hlt
      rw [← hw, ← hw2] at c0 c1 c2
      clear hw hw2 hat
      have hLk : (H.getD k ByteArray.empty) = H[k]'(by rw [HHl.out]; exact hlt) := by simp [List.getD, List.getElem?_eq_getElem (show k < H.length by rw [HHl.out]; exact hlt)]
      have hcat : catL (H.take (k + 1)) = catL (H.take k) ++ (H.getD k ByteArray.empty ++ nlB) := by
        rw [List.take_succ_eq_append_getElem (by rw [HHl.out]; exact hlt), catL_append, catL_one, hLk]
      have hsum : (catL (H.take k)).size + (H.getD k ByteArray.empty ++ nlB).size ≤ 140737488355328 := by
        have h1 : catL H = catL (H.take (k + 1)) ++ catL (H.drop (k + 1)) := by rw [← catL_append, List.take_append_drop]
        have h2 := HHs.out
        rw [h1, hcat] at h2
        simp only [ByteArray.size_append] at h2 ⊢
        omega
      have hnek : ¬ H.getD k ByteArray.empty = ⟨#[]⟩ := fun h => HNE.out (by rw [hLk] at h; rw [show (ByteArray.empty : ByteArray) = H[k]'(by rw [HHl.out]; exact hlt) from h.symm]; exact List.getElem_mem _)
      have Hc := Any.hidU hcat
      have Hs := Any.hidU hsum
      have Hnek := Any.hidU hnek
      clear hLk hcat hsum hnek
      have hHr : ∀ w', Below w1.heap.size w1 w' → Vm.Holds Tryz.prog w' := fun w' h => holds_below (holds_below HH.out HB1.out) h
      have HHr := Any.hidU hHr
      clear hHr
      have hBw : w1.heap.size ≤ wr.heap.size := HW.out.size
      go_wp2_with fail
      refine (HH1.out k hlt _ (HHr.out _ (HW.out.alloc hBw _))).mono ?_
      rintro e' w2 ⟨rfl, hb2⟩
      have hB2 : Below w1.heap.size w1 w2 := (HW.out.alloc hBw _).trans (hb2.mono (Nat.le_trans hBw (by simp)))
      have hI2 := builder_below HB.out (((Below.refl wr.heap.size wr).alloc (Nat.le_refl _) _).trans (hb2.mono (by simp)))
      have HB2 := Any.hidU hB2
      have HI2 := Any.hidU hI2
      clear hb2 hB2 hI2 HB HW
      have hsm : ¬ 9223372036854775807 < (H[k]?.getD ByteArray.empty).size + 1 := by
        have h1 := Hs.out
        simp only [ByteArray.size_append, List.getD] at h1
        omega
      have hq : (H[k]?.getD ByteArray.empty).toList.isEmpty = false := by
        cases h : (H[k]?.getD ByteArray.empty).toList.isEmpty
        · rfl
        · have h1 := Hnek.out
          simp only [List.getD] at h1
          rw [List.isEmpty_iff, Lib.toList_data] at h
          exact absurd (ByteArray.ext (Array.toList_inj.1 h)) h1
      go_wp2_with fail
      clear hsm hq
      have hlen : (Lib.byteCells (catL (H.take k)).data.toList).length + (H.getD k ByteArray.empty ++ nlB).size ≤ 140737488355328 := by
        rw [Lib.byteCells_length, ← Lib.size_eq]; exact Hs.out
      have hwr : Calls Tryz.prog 24 #[.pointer (some ⟨w1.heap.size, 0, none⟩), .string (H.getD k ByteArray.empty ++ ⟨#[10]⟩)] w2 _ :=
        Any.Builder_WriteString { lays156 with } bldr156 w1.heap.size w1.heap.size _ (H.getD k ByteArray.empty ++ nlB) w2 HI2.out hlen HB2.out.size
      refine hwr.mono ?_
      rintro e' w3 ⟨rfl, h3, hb3⟩
      have hc : Lib.byteCells (catL (H.take k)).data.toList ++ Lib.strCells (H.getD k ByteArray.empty ++ nlB) = Lib.byteCells (catL (H.take (k + 1))).data.toList := by
        rw [Hc.out, Lib.strCells_eq, ← Lib.byteCells_append]
        simp [ByteArray.data_append]
      rw [hc] at h3
      have H3 := Any.hidU (Or.inr h3 : Lib.IsBuilder 55 5 w1.heap.size w1.heap.size _ w3)
      have Hb3 := Any.hidU (HB2.out.trans hb3)
      clear h3 hb3 hc
      go_wp2
      exact ⟨⟨k + 1, hlt, by go_num, H3, Hb3⟩, by simp [RowKit.intOf]; omega⟩
    · obtain rfl : k = rn := by omega
      have hall : H.take k = H := List.take_of_length_le (by rw [HHl.out]; omega)
      rw [hall] at HB
      clear hall
      have cr1 : wr.cell? ⟨w.heap.size, 1, none⟩ = some (.slice TA tn tc) := (HW.out.cell hsz1).trans ca1
      go_wp2_with fail
      go_loopw [39] (fun i w2 => ∃ t : Nat, t ≤ tn ∧ i = .int .i64 t ∧ Hid (Lib.IsBuilder 55 5 w1.heap.size w1.heap.size (Lib.byteCells (catL H ++ catT (T.take t)).data.toList) w2) ∧ Hid (Below w1.heap.size w1 w2)) (fun i _ => tn - (RowKit.intOf i).toNat)
      case atStart => exact ⟨0, Nat.zero_le _, rfl, Any.hidU (by have := HB.out; simpa [catT] using this), HW⟩
      case round =>
        clear HB HW cr1
        obtain ⟨t, ht, rfl, HB, HW⟩ := hrel
        by_cases hlt : t < tn
        · obtain ⟨g, o, rfl, hg, hat⟩ := HT.out (by omega)
          have hc0 := hat t hlt
          have hc1 : wr.cell? ⟨g, o + t, none⟩ = some (.slice (A t) (n t) (c t)) := ((HW.out.cell (Nat.lt_of_lt_of_le hg HB1.out.size)).trans (HB1.out.cell hg)).trans hc0
          clear hc0 hat
          obtain ⟨hnt, hIt⟩ := HI.out t hlt
          obtain ⟨At, hAt⟩ : ∃ At, A t = At := ⟨_, rfl⟩
          rw [hAt] at hc1 hIt
          clear hAt
          have HIt := Any.hidU hIt
          clear hIt
          have hTt : T.getD t [] = T[t]'(by rw [HTl.out]; exact hlt) := by simp [List.getD, List.getElem?_eq_getElem (show t < T.length by rw [HTl.out]; exact hlt)]
          have hcat : catT (T.take (t + 1)) = catT (T.take t) ++ (thB ++ catL (T.getD t [])) := by
            rw [List.take_succ_eq_append_getElem (by rw [HTl.out]; exact hlt), catT_append, catT_one, hTt]
          have hsum : (catL H ++ catT (T.take t)).size + (thB ++ catL (T.getD t [])).size ≤ 140737488355328 := by
            have h1 : catT T = catT (T.take (t + 1)) ++ catT (T.drop (t + 1)) := by rw [← catT_append, List.take_append_drop]
            have h2 := HTs.out
            rw [h1, hcat] at h2
            simp only [ByteArray.size_append] at h2 ⊢
            omega
          have Hc := Any.hidU hcat
          have Hs := Any.hidU hsum
          clear hTt hcat hsum
          go_wp2_with fail
          have hlen : (Lib.byteCells (catL H ++ catT (T.take t)).data.toList).length + thB.size ≤ 140737488355328 := by
            rw [Lib.byteCells_length, ← Lib.size_eq]
            have := Hs.out
            simp only [ByteArray.size_append] at this ⊢
            omega
          have hwr : Calls Tryz.prog 24 #[.pointer (some ⟨w1.heap.size, 0, none⟩), .string ⟨#[116, 104, 114, 101, 97, 100, 10]⟩] wr _ :=
            Any.Builder_WriteString { lays156 with } bldr156 w1.heap.size w1.heap.size _ thB wr HB.out hlen HW.out.size
          refine hwr.mono ?_
          rintro e' w3 ⟨rfl, h3, hb3⟩
          have hc : Lib.byteCells (catL H ++ catT (T.take t)).data.toList ++ Lib.strCells thB = Lib.byteCells (catL H ++ catT (T.take t) ++ (thB ++ catL ((T.getD t []).take 0))).data.toList := by
            rw [Lib.strCells_eq, ← Lib.byteCells_append]
            simp [ByteArray.data_append, catL]
          rw [hc] at h3
          have H3 := Any.hidU (Or.inr h3 : Lib.IsBuilder 55 5 w1.heap.size w1.heap.size _ w3)
          have Hb3 := Any.hidU (HW.out.trans hb3)
          clear h3 hb3 hc hlen HB HW hc1
          go_wp2_with fail
          go_loopw [46] (fun i w4 => ∃ k : Nat, k ≤ n t ∧ i = .int .i64 k ∧ Hid (Lib.IsBuilder 55 5 w1.heap.size w1.heap.size (Lib.byteCells (catL H ++ catT (T.take t) ++ (thB ++ catL ((T.getD t []).take k))).data.toList) w4) ∧ Hid (Below w1.heap.size w1 w4)) (fun i _ => n t - (RowKit.intOf i).toNat)
          case atStart => exact ⟨0, Nat.zero_le _, rfl, H3, Hb3⟩
          case round =>
            clear H3 Hb3
            obtain ⟨k, hk, rfl, HB, HW⟩ := hrel
            by_cases hlk : k < n t
            · obtain ⟨g2, o2, rfl, hg2, hat⟩ := HIt.out (by omega)
              have hw : ∀ p, w1.cell? ⟨g2, p, none⟩ = w.cell? ⟨g2, p, none⟩ := fun p => HB1.out.cell hg2
              have hw2 : ∀ p, wr.cell? ⟨g2, p, none⟩ = w1.cell? ⟨g2, p, none⟩ := fun p => HW.out.cell (Nat.lt_of_lt_of_le hg2 HB1.out.size)
              obtain ⟨c0, c1, c2, c3, c4, c5⟩ := hat k hlk
              rw [← hw, ← hw2] at c0 c1 c2 c3 c4 c5
              clear hw hw2 hat
              have hTl : (T.getD t []).length = n t := HTn.out t hlt
              have hLk : ((T.getD t []).getD k ByteArray.empty) = (T.getD t [])[k]'(by rw [hTl]; exact hlk) := by simp only [List.getD]; rw [List.getElem?_eq_getElem (show k < (T[t]?.getD []).length by simpa only [List.getD, hTl] using (show k < (T.getD t []).length by rw [hTl]; exact hlk))]; rfl
              have hcat : catL ((T.getD t []).take (k + 1)) = catL ((T.getD t []).take k) ++ ((T.getD t []).getD k ByteArray.empty ++ nlB) := by
                rw [List.take_succ_eq_append_getElem (by rw [hTl]; exact hlk), catL_append, catL_one, hLk]
              have hsum : (catL H ++ catT (T.take t) ++ (thB ++ catL ((T.getD t []).take k))).size + ((T.getD t []).getD k ByteArray.empty ++ nlB).size ≤ 140737488355328 := by
                have h1 : catL (T.getD t []) = catL ((T.getD t []).take (k + 1)) ++ catL ((T.getD t []).drop (k + 1)) := by rw [← catL_append, List.take_append_drop]
                have h2 := Hs.out
                rw [h1, hcat] at h2
                simp only [ByteArray.size_append] at h2 ⊢
                omega
              have Hc2 := Any.hidU hcat
              have Hs2 := Any.hidU hsum
              clear hLk hcat hsum hTl
              have hHr : ∀ w', Below w1.heap.size w1 w' → Vm.Holds Tryz.prog w' := fun w' h => holds_below (holds_below HH.out HB1.out) h
              have HHr := Any.hidU hHr
              clear hHr
              have hBw : w1.heap.size ≤ wr.heap.size := HW.out.size
              go_wp2_with fail
              refine (HT1.out t k hlt hlk _ (HHr.out _ (HW.out.alloc hBw _))).mono ?_
              rintro e' w5 ⟨rfl, hb2⟩
              have hB2 : Below w1.heap.size w1 w5 := (HW.out.alloc hBw _).trans (hb2.mono (Nat.le_trans hBw (by simp)))
              have hI2 := builder_below HB.out (((Below.refl wr.heap.size wr).alloc (Nat.le_refl _) _).trans (hb2.mono (by simp)))
              have HB2 := Any.hidU hB2
              have HI2 := Any.hidU hI2
              clear hb2 hB2 hI2 HB HW
              have hsm : ¬ 9223372036854775807 < ((T[t]?.getD [])[k]?.getD ByteArray.empty).size + 1 := by
                have h1 := Hs2.out
                simp only [ByteArray.size_append, List.getD] at h1
                omega
              go_wp2_with fail
              clear hsm
              have hlen : (Lib.byteCells (catL H ++ catT (T.take t) ++ (thB ++ catL ((T.getD t []).take k))).data.toList).length + ((T.getD t []).getD k ByteArray.empty ++ nlB).size ≤ 140737488355328 := by
                rw [Lib.byteCells_length, ← Lib.size_eq]; exact Hs2.out
              have hwr : Calls Tryz.prog 24 #[.pointer (some ⟨w1.heap.size, 0, none⟩), .string ((T.getD t []).getD k ByteArray.empty ++ ⟨#[10]⟩)] w5 _ :=
                Any.Builder_WriteString { lays156 with } bldr156 w1.heap.size w1.heap.size _ ((T.getD t []).getD k ByteArray.empty ++ nlB) w5 HI2.out hlen HB2.out.size
              refine hwr.mono ?_
              rintro e' w6 ⟨rfl, h3, hb3⟩
              have hc : Lib.byteCells (catL H ++ catT (T.take t) ++ (thB ++ catL ((T.getD t []).take k))).data.toList ++ Lib.strCells ((T.getD t []).getD k ByteArray.empty ++ nlB) = Lib.byteCells (catL H ++ catT (T.take t) ++ (thB ++ catL ((T.getD t []).take (k + 1)))).data.toList := by
                rw [Hc2.out, Lib.strCells_eq, ← Lib.byteCells_append]
                simp [ByteArray.data_append]
              rw [hc] at h3
              have H3 := Any.hidU (Or.inr h3 : Lib.IsBuilder 55 5 w1.heap.size w1.heap.size _ w6)
              have Hb3 := Any.hidU (HB2.out.trans hb3)
              clear h3 hb3 hc
              go_wp2
              exact ⟨⟨k + 1, hlk, by go_num, H3, Hb3⟩, by simp [RowKit.intOf]; omega⟩
            · obtain rfl : k = n t := by omega
              have hall : (T.getD t []).take (n t) = T.getD t [] := List.take_of_length_le (by rw [HTn.out t hlt]; exact Nat.le_refl _)
              have hend : catL H ++ catT (T.take t) ++ (thB ++ catL ((T.getD t []).take (n t))) = catL H ++ catT (T.take (t + 1)) := by rw [hall, Hc.out, ByteArray.append_assoc]
              rw [hend] at HB
              clear hall hend
              go_wp2
              exact ⟨⟨t + 1, hlt, by go_num, HB, HW⟩, by simp [RowKit.intOf]; omega⟩
        · obtain rfl : t = tn := by omega
          have hall : T.take t = T := List.take_of_length_le (by rw [HTl.out]; exact Nat.le_refl _)
          rw [hall] at HB
          go_wp2_with fail
          have hst : Calls Tryz.prog 26 #[.pointer (some ⟨w1.heap.size, 0, none⟩)] wr _ := Any.Builder_String_any { lays156 with } bldr156 w1.heap.size w1.heap.size _ wr HB.out HW.out.size
          refine hst.mono ?_
          rintro e' w7 ⟨rfl, hb3⟩
          have Hb3 := Any.hidU (HB1.out.trans ((HW.out.trans hb3).mono HB1.out.size))
          clear hb3
          go_wp2
          go_ret2
          exact ⟨rfl, Hb3.out⟩

set_option maxRecDepth 100000 in
theorem lprint_err (RA TA : Option Addr) (rn rc tn tc : Nat) (s0 : ByteArray) (e : Int) (w : World) (he : e ≠ 0)
    (hcheck : ∀ w', Below w.heap.size w w' → Gives Tryz.prog 22 #[.agg #[.slice RA rn rc, .slice TA tn tc]] w' (.tuple #[.string s0, .int .i64 e])) :
    Gives Tryz.prog 11 #[.agg #[.slice RA rn rc, .slice TA tn tc]] w (.tuple #[.string ⟨#[]⟩, .int .i64 1]) := by
  have HC := Any.hidU hcheck
  clear hcheck
  have hne : (e != 0) = true := by simp [he]
  go_enter Tryz.func11, Tryz.ntmps11
  go_wp2_with (go_at_call 22; refine (HC.out _ ((Below.refl _ _).alloc (Nat.le_refl _) _)).mono ?_; rintro e' w1 ⟨rfl, hb1⟩)
  go_ret2
  exact ⟨rfl, ((Below.refl _ _).alloc (Nat.le_refl _) _).trans (hb1.mono (by simp))⟩
set_option maxHeartbeats 8000000 in
set_option maxRecDepth 100000 in
theorem lprint_bad (RA TA : Option Addr) (rn rc tn tc : Nat) (rs : Nat → Int × Int × Int) (A : Nat → Option Addr) (n c : Nat → Nat) (is : Nat → Nat → Int × Int × Int × Int × Int × Int) (s0 : ByteArray) (w : World) (hH : Vm.Holds Tryz.prog w) (hrn : rn ≤ 9223372036854775807) (htn : tn ≤ 9223372036854775807)
    (hR : 0 < rn → ∃ g o, RA = some ⟨g, o, none⟩ ∧ g < w.heap.size ∧ ∀ i, i < rn → RgAt w g (o + i * 3) (rs i))
    (hT : 0 < tn → ∃ g o, TA = some ⟨g, o, none⟩ ∧ g < w.heap.size ∧ ∀ t, t < tn → w.cell? ⟨g, o + t, none⟩ = some (.slice (A t) (n t) (c t)))
    (hI : ∀ t, t < tn → n t ≤ 9223372036854775807 ∧ (0 < n t → ∃ g o, A t = some ⟨g, o, none⟩ ∧ g < w.heap.size ∧ ∀ i, i < n t → InAt w g (o + i * 6) (is t i)))
    (hcheck : ∀ w', Below w.heap.size w w' → Gives Tryz.prog 22 #[.agg #[.slice RA rn rc, .slice TA tn tc]] w' (.tuple #[.string s0, .int .i64 0]))
    (H : List ByteArray) (hHl : H.length = rn) (hHs : (catL H).size ≤ 140737488355328) (k0 : Nat) (hk0 : k0 < rn) (hne : ∀ i, i < k0 → H.getD i ByteArray.empty ≠ ByteArray.empty) (he0 : H.getD k0 ByteArray.empty = ByteArray.empty)
    (hH1 : ∀ i, i < rn → ∀ w', Vm.Holds Tryz.prog w' → Gives Tryz.prog 23 #[rgV (rs i)] w' (.string (H.getD i ByteArray.empty))) :
    Gives Tryz.prog 11 #[.agg #[.slice RA rn rc, .slice TA tn tc]] w (.tuple #[.string ⟨#[]⟩, .int .i64 1]) := by
  have HR := Any.hidU hR
  have HT := Any.hidU hT
  have HI := Any.hidU hI
  have HC := Any.hidU hcheck
  have HHl := Any.hidU hHl
  have HHs := Any.hidU hHs
  have HNE := Any.hidU hne
  have HH1 := Any.hidU hH1
  have HH := Any.hidU hH
  have HE0 := Any.hidU he0
  clear hR hT hI hcheck hHl hHs hne he0 hH1 hH
  go_enter Tryz.func11, Tryz.ntmps11
  go_wp2_with (go_at_call 22; refine (HC.out _ ((Below.refl _ _).alloc (Nat.le_refl _) _)).mono ?_; rintro e' w1 ⟨rfl, hb1⟩
    <;> (have ca0 : w1.cell? ⟨w.heap.size, 0, none⟩ = some (.slice RA rn rc) := (hb1.cell (by simp)).trans (by rw [World.cell?_alloc_new]; rfl)
         have ca1 : w1.cell? ⟨w.heap.size, 1, none⟩ = some (.slice TA tn tc) := (hb1.cell (by simp)).trans (by rw [World.cell?_alloc_new]; rfl)
         have hsz1 : w.heap.size < w1.heap.size := Nat.lt_of_lt_of_le (by simp) hb1.size
         have cb0 : (w1.alloc (Obj.cells #[Value.pointer none, Value.slice none 0 0] 55)).cell? ⟨w.heap.size, 0, none⟩ = some (.slice RA rn rc) := (((Below.refl w1.heap.size w1).alloc (Nat.le_refl _) _).cell hsz1).trans ca0))
  have HB1 := Any.hidU (((Below.refl _ _).alloc (Nat.le_refl _) _).trans (hb1.mono (by simp)) : Below w.heap.size w w1)
  go_loopw [24] (fun i wr => ∃ k : Nat, k ≤ k0 ∧ i = .int .i64 k ∧ Hid (Lib.IsBuilder 55 5 w1.heap.size w1.heap.size (Lib.byteCells (catL (H.take k)).data.toList) wr) ∧ Hid (Below w1.heap.size w1 wr)) (fun i _ => rn - (RowKit.intOf i).toNat)
  case atStart => exact ⟨0, Nat.zero_le _, rfl, Any.hidU (Lib.fresh_isBuilder _ _ _), Any.hidU ((Below.refl _ _).alloc (Nat.le_refl _) _)⟩
  case round =>
    obtain ⟨k, hk, rfl, HB, HW⟩ := hrel
    have hlt : k < rn := Nat.lt_of_le_of_lt hk hk0
    by_cases hlk : k < k0
    · obtain ⟨g, o, rfl, hg, hat⟩ := HR.out (by omega)
      have hw : ∀ p, w1.cell? ⟨g, p, none⟩ = w.cell? ⟨g, p, none⟩ := fun p => HB1.out.cell hg
      have hw2 : ∀ p, wr.cell? ⟨g, p, none⟩ = w1.cell? ⟨g, p, none⟩ := fun p => HW.out.cell (Nat.lt_of_lt_of_le hg HB1.out.size)
      obtain ⟨c0, c1, c2⟩ := hat k hlt
      rw [← hw, ← hw2] at c0 c1 c2
      clear hw hw2 hat
      have hLk : (H.getD k ByteArray.empty) = H[k]'(by rw [HHl.out]; exact hlt) := by simp [List.getD, List.getElem?_eq_getElem (show k < H.length by rw [HHl.out]; exact hlt)]
      have hcat : catL (H.take (k + 1)) = catL (H.take k) ++ (H.getD k ByteArray.empty ++ nlB) := by
        rw [List.take_succ_eq_append_getElem (by rw [HHl.out]; exact hlt), catL_append, catL_one, hLk]
      have hsum : (catL (H.take k)).size + (H.getD k ByteArray.empty ++ nlB).size ≤ 140737488355328 := by
        have h1 : catL H = catL (H.take (k + 1)) ++ catL (H.drop (k + 1)) := by rw [← catL_append, List.take_append_drop]
        have h2 := HHs.out
        rw [h1, hcat] at h2
        simp only [ByteArray.size_append] at h2 ⊢
        omega
      have hnek : ¬ H.getD k ByteArray.empty = ⟨#[]⟩ := HNE.out k hlk
      have Hc := Any.hidU hcat
      have Hs := Any.hidU hsum
      have Hnek := Any.hidU hnek
      clear hLk hcat hsum hnek
      have hHr : ∀ w', Below w1.heap.size w1 w' → Vm.Holds Tryz.prog w' := fun w' h => holds_below (holds_below HH.out HB1.out) h
      have HHr := Any.hidU hHr
      clear hHr
      have hBw : w1.heap.size ≤ wr.heap.size := HW.out.size
      go_wp2_with fail
      refine (HH1.out k hlt _ (HHr.out _ (HW.out.alloc hBw _))).mono ?_
      rintro e' w2 ⟨rfl, hb2⟩
      have hB2 : Below w1.heap.size w1 w2 := (HW.out.alloc hBw _).trans (hb2.mono (Nat.le_trans hBw (by simp)))
      have hI2 := builder_below HB.out (((Below.refl wr.heap.size wr).alloc (Nat.le_refl _) _).trans (hb2.mono (by simp)))
      have HB2 := Any.hidU hB2
      have HI2 := Any.hidU hI2
      clear hb2 hB2 hI2 HB HW
      have hsm : ¬ 9223372036854775807 < (H[k]?.getD ByteArray.empty).size + 1 := by
        have h1 := Hs.out
        simp only [ByteArray.size_append, List.getD] at h1
        omega
      have hq : (H[k]?.getD ByteArray.empty).toList.isEmpty = false := by
        cases h : (H[k]?.getD ByteArray.empty).toList.isEmpty
        · rfl
        · have h1 := Hnek.out
          simp only [List.getD] at h1
          rw [List.isEmpty_iff, Lib.toList_data] at h
          exact absurd (ByteArray.ext (Array.toList_inj.1 h)) h1
      go_wp2_with fail
      clear hsm hq
      have hlen : (Lib.byteCells (catL (H.take k)).data.toList).length + (H.getD k ByteArray.empty ++ nlB).size ≤ 140737488355328 := by
        rw [Lib.byteCells_length, ← Lib.size_eq]; exact Hs.out
      have hwr : Calls Tryz.prog 24 #[.pointer (some ⟨w1.heap.size, 0, none⟩), .string (H.getD k ByteArray.empty ++ ⟨#[10]⟩)] w2 _ :=
        Any.Builder_WriteString { lays156 with } bldr156 w1.heap.size w1.heap.size _ (H.getD k ByteArray.empty ++ nlB) w2 HI2.out hlen HB2.out.size
      refine hwr.mono ?_
      rintro e' w3 ⟨rfl, h3, hb3⟩
      have hc : Lib.byteCells (catL (H.take k)).data.toList ++ Lib.strCells (H.getD k ByteArray.empty ++ nlB) = Lib.byteCells (catL (H.take (k + 1))).data.toList := by
        rw [Hc.out, Lib.strCells_eq, ← Lib.byteCells_append]
        simp [ByteArray.data_append]
      rw [hc] at h3
      have H3 := Any.hidU (Or.inr h3 : Lib.IsBuilder 55 5 w1.heap.size w1.heap.size _ w3)
      have Hb3 := Any.hidU (HB2.out.trans hb3)
      clear h3 hb3 hc
      go_wp2
      exact ⟨⟨k + 1, hlk, by go_num, H3, Hb3⟩, by simp [RowKit.intOf]; omega⟩
    · obtain rfl : k = k0 := by omega
      obtain ⟨g, o, rfl, hg, hat⟩ := HR.out (by omega)
      have hw : ∀ p, w1.cell? ⟨g, p, none⟩ = w.cell? ⟨g, p, none⟩ := fun p => HB1.out.cell hg
      have hw2 : ∀ p, wr.cell? ⟨g, p, none⟩ = w1.cell? ⟨g, p, none⟩ := fun p => HW.out.cell (Nat.lt_of_lt_of_le hg HB1.out.size)
      obtain ⟨c0, c1, c2⟩ := hat k hlt
      rw [← hw, ← hw2] at c0 c1 c2
      clear hw hw2 hat
      have hHr : ∀ w', Below w1.heap.size w1 w' → Vm.Holds Tryz.prog w' := fun w' h => holds_below (holds_below HH.out HB1.out) h
      have HHr := Any.hidU hHr
      clear hHr
      have hBw : w1.heap.size ≤ wr.heap.size := HW.out.size
      have hres := HH1.out k hlt _ (HHr.out _ (HW.out.alloc hBw (Obj.cells #[Value.int IntKind.i64 (rs k).fst, Value.int IntKind.i64 (rs k).snd.fst, Value.int IntKind.i64 (rs k).snd.snd] 51)))
      rw [HE0.out] at hres
      have Hres := Any.hidU hres
      clear hres
      go_wp2_with fail
      refine Hres.out.mono ?_
      rintro e' w2 ⟨rfl, hb2⟩
      have Hb2 := Any.hidU ((HB1.out.trans ((HW.out.alloc hBw (Obj.cells #[Value.int IntKind.i64 (rs k).fst, Value.int IntKind.i64 (rs k).snd.fst, Value.int IntKind.i64 (rs k).snd.snd] 51)).mono HB1.out.size)).trans (hb2.mono (Nat.le_trans HB1.out.size (Nat.le_trans hBw (by simp)))))
      clear hb2
      have hq : (ByteArray.empty).toList.isEmpty = true := by rw [Lib.toList_data]; rfl
      go_wp2
      go_ret2
      exact ⟨rfl, Hb2.out⟩
end Go.Proofs.YtigdgbdmlejcbaaGreatDoor
