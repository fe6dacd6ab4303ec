/- For every program, tape and two scripts: run one behind the other they do what they do as one; what was handed in reads as it did. No conditions. -/
import Derived.Test.YtiamaibincaihaaGreatLawA
import Derived.Test.YtiamaibincaihaaGreatRows
noncomputable section
namespace Go.Proofs.YtiamaibincaihaaGreat
open Go Go.Vm Go.Proofs
set_option maxRecDepth 10000
open Go Go.Vm
set_option maxRecDepth 100000
def ok_TRg (x : TRg) : Prop := (fun n => (Lit.int .i64 n).wf = true) x.Kind ∧ (fun n => (Lit.int .i64 n).wf = true) x.Ee ∧ (fun n => (Lit.int .i64 n).wf = true) x.Aa ∧ True
def fl_TRg_0 : Field := (F4 Tryz.prog 87).toList.getD 0 default
def fl_TRg_1 : Field := (F4 Tryz.prog 87).toList.getD 1 default
def fl_TRg_2 : Field := (F4 Tryz.prog 87).toList.getD 2 default
theorem op_TRg : DT Tryz.prog 87 e_TRg ok_TRg :=
 DT.map (Ez (fs := F4 Tryz.prog 87) (l := fl_TRg_0 :: fl_TRg_1 :: fl_TRg_2 :: []) (by kernel_rfl) (by kernel_rfl) (by kernel_rfl)
  (Bf (u := 3) (s := 1) (by kernel_rfl) (by kernel_rfl) (by kernel_rfl) (CF (k := .i64) (by kernel_rfl)) (Bf (u := 3) (s := 1) (by kernel_rfl) (by kernel_rfl) (by kernel_rfl) (CF (k := .i64) (by kernel_rfl)) (Bf (u := 3) (s := 1) (by kernel_rfl) (by kernel_rfl) (by kernel_rfl) (CF (k := .i64) (by kernel_rfl)) HB)))) (fun x => ⟨x.1, x.2.1, x.2.2.1⟩) (fun _ => rfl) (fun _ h => h)
def ok_TIn (x : TIn) : Prop := (fun n => (Lit.int .i64 n).wf = true) x.Op ∧ (fun n => (Lit.int .i64 n).wf = true) x.A ∧ (fun n => (Lit.int .i64 n).wf = true) x.B ∧ (fun n => (Lit.int .i64 n).wf = true) x.C ∧ (fun n => (Lit.int .i64 n).wf = true) x.D ∧ (fun n => (Lit.int .u64 n).wf = true) x.K ∧ True
def fl_TIn_0 : Field := (F4 Tryz.prog 124).toList.getD 0 default
def fl_TIn_1 : Field := (F4 Tryz.prog 124).toList.getD 1 default
def fl_TIn_2 : Field := (F4 Tryz.prog 124).toList.getD 2 default
def fl_TIn_3 : Field := (F4 Tryz.prog 124).toList.getD 3 default
def fl_TIn_4 : Field := (F4 Tryz.prog 124).toList.getD 4 default
def fl_TIn_5 : Field := (F4 Tryz.prog 124).toList.getD 5 default
theorem op_TIn : DT Tryz.prog 124 e_TIn ok_TIn :=
 DT.map (Ez (fs := F4 Tryz.prog 124) (l := fl_TIn_0 :: fl_TIn_1 :: fl_TIn_2 :: fl_TIn_3 :: fl_TIn_4 :: fl_TIn_5 :: []) (by kernel_rfl) (by kernel_rfl) (by kernel_rfl)
  (Bf (u := 3) (s := 1) (by kernel_rfl) (by kernel_rfl) (by kernel_rfl) (CF (k := .i64) (by kernel_rfl)) (Bf (u := 3) (s := 1) (by kernel_rfl) (by kernel_rfl) (by kernel_rfl) (CF (k := .i64) (by kernel_rfl)) (Bf (u := 3) (s := 1) (by kernel_rfl) (by kernel_rfl) (by kernel_rfl) (CF (k := .i64) (by kernel_rfl)) (Bf (u := 3) (s := 1) (by kernel_rfl) (by kernel_rfl) (by kernel_rfl) (CF (k := .i64) (by kernel_rfl)) (Bf (u := 3) (s := 1) (by kernel_rfl) (by kernel_rfl) (by kernel_rfl) (CF (k := .i64) (by kernel_rfl)) (Bf (u := 36) (s := 1) (by kernel_rfl) (by kernel_rfl) (by kernel_rfl) (CF (k := .u64) (by kernel_rfl)) HB))))))) (fun x => ⟨x.1, x.2.1, x.2.2.1, x.2.2.2.1, x.2.2.2.2.1, x.2.2.2.2.2.1⟩) (fun _ => rfl) (fun _ h => h)
def ok_TPg (x : TPg) : Prop := (Md ok_TRg) x.AF ∧ (Md (Md ok_TIn)) x.AB ∧ True
def fl_TPg_0 : Field := (F4 Tryz.prog 25).toList.getD 0 default
def fl_TPg_1 : Field := (F4 Tryz.prog 25).toList.getD 1 default
theorem op_TPg : DT Tryz.prog 25 e_TPg ok_TPg :=
 DT.map (Ez (fs := F4 Tryz.prog 25) (l := fl_TPg_0 :: fl_TPg_1 :: []) (by kernel_rfl) (by kernel_rfl) (by kernel_rfl)
  (Bf (u := 22) (s := 1) (by kernel_rfl) (by kernel_rfl) (by kernel_rfl) (Ej (e := 87) (s := 3) (d_TRg .undef) (by kernel_rfl) (by kernel_rfl) (by decide) (op_TRg)) (Bf (u := 23) (s := 1) (by kernel_rfl) (by kernel_rfl) (by kernel_rfl) (Ej (e := 116) (s := 1) (dsl_TIn .undef) (by kernel_rfl) (by kernel_rfl) (by decide) (Ej (e := 124) (s := 6) (d_TIn .undef) (by kernel_rfl) (by kernel_rfl) (by decide) (op_TIn))) HB))) (fun x => ⟨x.1, x.2.1⟩) (fun _ => rfl) (fun _ h => h)
def DZ (x : AU) : Prop := (fun n => (Lit.int .i64 n).wf = true) x.Bz ∧ (fun n => (Lit.int .u64 n).wf = true) x.Df ∧ (fun n => (Lit.int .u64 n).wf = true) x.GY ∧ (fun _ => True) x.G6 ∧ True
def Jf : Field := (F4 Tryz.prog 41).toList.getD 0 default
def Je : Field := (F4 Tryz.prog 41).toList.getD 1 default
def Jd : Field := (F4 Tryz.prog 41).toList.getD 2 default
def Jc : Field := (F4 Tryz.prog 41).toList.getD 3 default
theorem LP : DT Tryz.prog 41 Bn DZ :=
 DT.map (Ez (fs := F4 Tryz.prog 41) (l := Jf :: Je :: Jd :: Jc :: []) (by kernel_rfl) (by kernel_rfl) (by kernel_rfl)
  (Bf (u := 3) (s := 1) (by kernel_rfl) (by kernel_rfl) (by kernel_rfl) (CF (k := .i64) (by kernel_rfl)) (Bf (u := 36) (s := 1) (by kernel_rfl) (by kernel_rfl) (by kernel_rfl) (CF (k := .u64) (by kernel_rfl)) (Bf (u := 36) (s := 1) (by kernel_rfl) (by kernel_rfl) (by kernel_rfl) (CF (k := .u64) (by kernel_rfl)) (Bf (u := 4) (s := 1) (by kernel_rfl) (by kernel_rfl) (by kernel_rfl) (O5 (by kernel_rfl)) HB))))) (fun x => ⟨x.1, x.2.1, x.2.2.1, x.2.2.2.1⟩) (fun _ => rfl) (fun _ h => h)
theorem LR : OV Tryz.prog 25 e_TPg ok_TPg :=
 Mm (fs := F4 Tryz.prog 25) (by kernel_rfl) op_TPg (fun _ => rfl) (fun _ => rfl)
theorem Ua {p : TPg} (h : ok_TPg p) : IU p := by
 obtain ⟨⟨rz, rn, rr⟩, ⟨_, tn, tt⟩, _⟩ := h
 refine ⟨rn, tn, fun t ht => (tt t ht).2.1, fun t ht k hk => ?_, rz, fun t ht => (tt t ht).1⟩
 obtain ⟨_, a, b, c, d, k, _⟩ := (tt t ht).2.2 k hk
 have a := wf_i64 a; have b := wf_i64 b; have c := wf_i64 c; have d := wf_i64 d
 exact ⟨wf_u64 k, by omega, by omega, by omega, by omega⟩
theorem Te {x : AU} (h : DZ x) : Qo x := by
 obtain ⟨_, c, d, _⟩ := h
 exact ⟨wf_u64 c, wf_u64 d⟩
theorem Pv {l : Sl AU} (h : Md DZ l) : Tc l := ⟨h.2.1, fun i hi => Te (h.2.2 i hi)⟩
theorem PK : OV Tryz.prog 26 BL (Md fun n => (Lit.int .u64 n).wf = true) :=
 PJ (OI (e := 36) (by kernel_rfl)) (Ej (e := 36) (s := 1) (dI .undef) (by kernel_rfl) (by kernel_rfl) (by decide) (CF (k := .u64) (by kernel_rfl))) (fun _ => rfl) (fun _ => rfl)
theorem UX {l : Sl Int} (h : Md (fun n => (Lit.int .u64 n).wf = true) l) : TC l := ⟨h.2.1, fun i hi => wf_u64 (h.2.2 i hi)⟩

open Go.ChangeShapes Go.WideShapes Go.ChangeAt Go.RowKit
theorem Tryz.own : ownKnob Tryz.prog.godebug = none := by kernel_rfl
theorem Tryz.laidOut : laidOutB Tryz.prog = true := by kernel_rfl
theorem Tryz.U6 : mapsRowed Tryz.prog = true := by kernel_rfl
theorem Tryz.full : ∀ t e, t < Tryz.prog.types.size → Tryz.prog.underlying t = some (.slice e) → 0 < Tryz.prog.cellsOf e := slices_full_of Tryz.prog (by kernel_rfl)
def NF : Value := .agg #[.slice none 0 0, .slice none 0 0]
open Go.ChangeShapes Go.WideShapes Go.ChangeAt Go.RowKit
def TF : Value := .agg #[.slice none 0 0, .slice none 0 0]
theorem RE : OV Tryz.prog 73 (Hf 1 2 A5) (fun g => ∀ i, i < 2 → Md DZ (g i)) := by
 have h : DT Tryz.prog 73 (Hf 1 2 A5) (fun g => ∀ i, i < 2 → Md DZ (g i)) :=
  Qj (e := 27) (n := 2) (s := 1) (Bc .undef) (by kernel_rfl) (by kernel_rfl) (by kernel_rfl) (Ej (e := 41) (s := 4) (Bw .undef) (by kernel_rfl) (by kernel_rfl) (by decide) LP)
 intro H enc W base v d ps hv hd
 have hu : Tryz.prog.underlying 73 = some (.array 2 27) := by kernel_rfl
 simp only [Value.okWide, hu] at hv
 obtain ⟨cs, rfl, _⟩ := hv
 obtain ⟨fuel, hd⟩ := hd
 obtain ⟨a, k1, k2⟩ := h H enc W true _ _ _ hd
 exact ⟨a, k1, BD.val ⟨fun _ => ⟨cs.toList, rfl, k2⟩, fun hf => by cases hf⟩ rfl⟩
theorem QU {H : Type} {enc : TypeId × Value → H} {W : World} {base : Nat} {v : Value} {d : DataW H} {ps : List MemPlace} (hok : Value.okWide Tryz.prog W .any base 73 v) (hd : DataW.Trod enc Tryz.prog W 0 (fun _ => true) true 73 v d ps)
 {g : Nat → Sl AU} (hb : Am (old W) W Au (Hf 1 2 A5 g) v none_) (hz : Sz.QJ Tryz.prog 73 d) : (g 0).n * Tryz.prog.bytesOf 41 ≤ reachBytes ∧ (g 1).n * Tryz.prog.bytesOf 41 ≤ reachBytes := by
 have hu : Tryz.prog.underlying 73 = some (.array 2 27) := by kernel_rfl
 have hu2 : Tryz.prog.underlying 27 = some (.slice 41) := by kernel_rfl
 simp only [Value.okWide, hu] at hok
 obtain ⟨cs, rfl, _⟩ := hok
 obtain ⟨fuel, hd⟩ := hd
 have h1 : BD (old W) W Au (Hf 1 2 A5 g) (.agg cs) none_ := hb
 obtain ⟨cs', e, hr⟩ := h1.1 rfl
 have e : cs'.toArray = cs := by injection e with e; exact e.symm
 subst e
 obtain ⟨xs, m, _, hx, _, hlen, hel⟩ := DataW.trod_array hu hd
 have hs : Tryz.prog.cellsOf 27 = 1 := by kernel_rfl
 rw [hs] at hel
 simp only [Hf, AH] at hr
 obtain ⟨f, fs, h1, _, e⟩ := hr
 obtain ⟨l0, r0, _⟩ := h1 0 (by decide)
 obtain ⟨l1, r1, _⟩ := h1 1 (by decide)
 have e : cs' = f 0 ++ f 1 := by rw [e]; simp [List.range_succ]
 subst e
 obtain ⟨x0, x1, rfl⟩ : ∃ x0 x1, xs = [x0, x1] := by
  match xs, hlen with
  | [a, b], _ => exact ⟨a, b, rfl⟩
 have t0 := hel 0 (by decide)
 have t1 := hel 1 (by decide)
 rw [show (Value.agg (f 0 ++ f 1).toArray).cells.toList = f 0 ++ f 1 from rfl] at t0 t1
 rw [show ((f 0 ++ f 1).drop (0 * 1)).take 1 = f 0 by simp [l0]] at t0
 rw [show ((f 0 ++ f 1).drop (1 * 1)).take 1 = f 1 by rw [List.drop_left' (by omega)]; exact List.take_of_length_le (by omega)] at t1
 have ed : d = _ := congrArg Prod.fst hx
 subst ed
 have hw : ∀ n, n ∈ x0.1.weights Tryz.prog 27 ∨ n ∈ x1.1.weights Tryz.prog 27 → n ≤ reachBytes := fun n hn => hz n (by
  simp only [DataW.weights, hu, List.map_cons, List.map_nil, DataW.weightsAll, List.mem_append]
  rcases hn with h | h
  · exact .inl h
  · exact .inr (.inl h))
 exact ⟨Sz.JA hu2 t0 r0 fun n hn => hw n (.inl hn), Sz.JA hu2 t1 r1 fun n hn => hw n (.inr hn)⟩
open Go.ChangeShapes Go.WideShapes Go.ChangeAt Go.RowKit
theorem Hj (os : Os) (started : os.Started) (H : Type) (enc : TypeId × Value → H) :
 ReturnsInHanded {} Tryz.checked os 8 .any (Rows.worldPartsSpec.pre6 enc Tryz.prog Tryz.f8 Rows.worldPartsRow.domain false) (Rows.worldPartsSpec.post enc Tryz.prog Tryz.f8 false true false false) := by
 refine Sz.Mi (tb := 4) (C := Tryz.checked) Tryz.own started (by kernel_rfl) Tryz.func8
  (ChangeSpec.witness6 (enc := enc) (C := Tryz.checked) false ⟨#[], #[NF, .slice none 0 0, TF], []⟩ 8 (by kernel_rfl) (by kernel_rfl) (by kernel_rfl) (by kernel_rfl)) Tryz.laidOut Tryz.U6 Tryz.full
  (by kernel_rfl) rfl rfl (by kernel_rfl) ?_ ?_
 · intro ds hl
   match ds, hl with
   | [_, _, _], _ => rfl
 · intro W base args ds ps hval hA hz
   rw [Tryz.params8] at hA hval hz
   obtain ⟨v0, v1, v2, d0, d1, d2, p0, p1, p2, rfl, rfl, rfl, h0, h1, h2⟩ := trodAll_three hA
   obtain ⟨a, ha, ra⟩ := LR H enc W base v0 d0 p0 (hval 0 25 v0 rfl rfl) h0
   obtain ⟨b, hb, rb⟩ := PK H enc W base v1 d1 p1 (hval 1 26 v1 rfl rfl) h1
   obtain ⟨c, hc, rc⟩ := RE H enc W base v2 d2 p2 (hval 2 73 v2 rfl rfl) h2
   have hb32 : Tryz.prog.bytesOf 41 = 32 := by kernel_rfl
   have hr := reachBytes_lt
   have s2 := QU (hval 2 73 v2 rfl rfl) h2 rc (hz 2 73 d2 rfl rfl)
   rw [hb32] at s2
   obtain ⟨y, hy, rfl⟩ := Kh a b c (Ua ha) (UX hb) (Pv (hc 0 (by decide))) (Pv (hc 1 (by decide))) (by omega)
   refine PW (con_f6.ok (a, (b, c)) true hy) (fun j x v hx hv => ?_) rfl
   match j, hx, hv with
   | 0, hx, hv => change some (e_TPg a) = some x at hx; cases hx; simp at hv; subst hv; exact ra
   | 1, hx, hv => change some (BL b) = some x at hx; cases hx; simp at hv; subst hv; exact rb
   | 2, hx, hv => change some ((Hf 1 2 A5) c) = some x at hx; cases hx; simp at hv; subst hv; exact rc
theorem worldParts_holds : Rows.WorldPartsSaid :=
 OpenClaim.holds_of_wide 8 Tryz.f8 rfl rfl rfl rfl rfl rfl rfl ⟨rfl, rfl, rfl, rfl, rfl⟩ rfl rfl rfl rfl rfl (by kernel_rfl) Tryz.func8 (by kernel_rfl)
  (of_decide_eq_true (by kernel_rfl)) (by unfold Func.isWrapper; first | (rw [if_pos (by decide +kernel)]; kernel_rfl) | (rw [if_neg (by decide +kernel)]; exact ⟨rfl, rfl⟩))
  (fun os started H enc _ => Hj os started H enc)
end Go.Proofs.YtiamaibincaihaaGreat
end
