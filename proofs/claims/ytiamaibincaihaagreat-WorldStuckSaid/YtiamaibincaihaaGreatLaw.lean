/- For every program and two scripts: where no thread does anything, nothing ever changes; what was handed in reads as it did. No conditions. -/
import Derived.Test.YtiamaibincaihaaGreatLawA
namespace Go.Proofs.YtiamaibincaihaaGreat
open Go Go.Vm Go.Proofs
set_option maxRecDepth 10000
open Go Go.Vm
set_option maxRecDepth 100000
open Go.ChangeShapes Go.WideShapes Go.ChangeAt Go.RowKit
theorem VN (os : Os) (started : os.Started) (H : Type) (enc : TypeId × Value → H) :
 ReturnsInHanded {} Tryz.checked os 9 .any (Rows.worldStuckSpec.pre6 enc Tryz.prog Tryz.f9 Rows.worldStuckRow.domain false) (Rows.worldStuckSpec.post enc Tryz.prog Tryz.f9 false true false false) := by
 refine Sz.Mi (tb := 4) (C := Tryz.checked) Tryz.own started (by kernel_rfl) Tryz.func9
  (ChangeSpec.witness6 (enc := enc) (C := Tryz.checked) false ⟨#[], #[NF, .slice none 0 0, .slice none 0 0], []⟩ 8 (by kernel_rfl) (by kernel_rfl) (by kernel_rfl) (by kernel_rfl)) Tryz.laidOut Tryz.U6 Tryz.full
  (by kernel_rfl) rfl rfl (by kernel_rfl) ?_ ?_
 · intro ds hl
   match ds, hl with
   | [_, _, _], _ => rfl
 · intro W base args ds ps hval hA hz
   rw [Tryz.params9] at hA hval hz
   obtain ⟨v0, v1, v2, d0, d1, d2, p0, p1, p2, rfl, rfl, rfl, h0, h1, h2⟩ := trodAll_three hA
   obtain ⟨a, ha, ra⟩ := LR H enc W base v0 d0 p0 (hval 0 25 v0 rfl rfl) h0
   obtain ⟨b, hb, rb⟩ := VP H enc W base v1 d1 p1 (hval 1 27 v1 rfl rfl) h1
   obtain ⟨c, hc, rc⟩ := VP H enc W base v2 d2 p2 (hval 2 27 v2 rfl rfl) h2
   have hb32 : Tryz.prog.bytesOf 41 = 32 := by kernel_rfl
   have hr := reachBytes_lt
   have s1 := Sz.VO (P := Tryz.prog) (e := 41) (by kernel_rfl) (hval 1 27 v1 rfl rfl) h1 rb (hz 1 27 d1 rfl rfl)
   have s2 := Sz.VO (P := Tryz.prog) (e := 41) (by kernel_rfl) (hval 2 27 v2 rfl rfl) h2 rc (hz 2 27 d2 rfl rfl)
   rw [hb32] at s1 s2
   obtain ⟨y, hy, rfl⟩ := VQ a b c (Ua ha) (Pv hb) (Pv hc) (by omega)
   refine PW (con_f3i.ok (a, (b, c)) true hy) (fun j x v hx hv => ?_) rfl
   match j, hx, hv with
   | 0, hx, hv => change some (e_TPg a) = some x at hx; cases hx; simp at hv; subst hv; exact ra
   | 1, hx, hv => change some (A5 b) = some x at hx; cases hx; simp at hv; subst hv; exact rb
   | 2, hx, hv => change some (A5 c) = some x at hx; cases hx; simp at hv; subst hv; exact rc
theorem worldStuck_holds : Rows.WorldStuckSaid :=
 OpenClaim.holds_of_wide 9 Tryz.f9 rfl rfl rfl rfl rfl rfl rfl ⟨rfl, rfl, rfl, rfl, rfl⟩ rfl rfl rfl rfl rfl (by kernel_rfl) Tryz.func9 (by kernel_rfl)
  (of_decide_eq_true (by kernel_rfl)) (by unfold Func.isWrapper; first | (rw [if_pos (by decide +kernel)]; kernel_rfl) | (rw [if_neg (by decide +kernel)]; exact ⟨rfl, rfl⟩))
  (fun os started H enc _ => VN os started H enc)
end Go.Proofs.YtiamaibincaihaaGreat
