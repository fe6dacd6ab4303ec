/- For every program, all events and every event more: it is allowed behind them only if its thread can do its kind, and a thread that does not run can do none; what was handed in reads as it did. No conditions beyond the card's own. -/
import Derived.Test.YtlhifcnjnmeknaaGreatDoorLawA
import Derived.Test.YtlhifcnjnmeknaaGreatDoorRows
import Derived.Test.YtlhifcnjnmeknaaGreatDoorCards
import Derived.Test.YtlhifcnjnmeknaaGreatDoorTie
import Derived.Deep.DeepHandedRow
noncomputable section
namespace Go.Proofs.YtlhifcnjnmeknaaGreatDoor
open Go Go.Vm Go.Proofs
set_option maxRecDepth 10000
set_option maxRecDepth 100000
theorem w_f2m (c r : Int) (hc : 1 ≤ c ∧ c ≤ 64) : D_f2m.wp (c, r) fun y => y.L.L = (List.range c.toNat).map HI ∧ y.AU = r := by
 refine of_wp ?_
 simp only [tt_f2m]
 obtain ⟨n, rfl⟩ : ∃ n : Nat, c = n := ⟨c.toNat, by omega⟩
 rw [Int.toNat_natCast]
 refine CU (tt := tt_f2m_3) (fun x : X_f2m_3 => x.EX = n ∧ ∃ k : Nat, x.Oa = k ∧ k ≤ n ∧ x.BA.L.n = k ∧ x.BA.AU = r ∧ ∀ i, i < k → x.BA.L.get i = HI i) (fun x => (n - x.Oa).toNat)
  (fun _ y => y.L.L = (List.range n).map HI ∧ y.AU = r) (fun D x hI hD => ?_) ⟨rfl, 0, rfl, Nat.zero_le _, rfl, rfl, fun i hi => by omega⟩
 obtain ⟨pl, i, m4, ⟨L, rd⟩⟩ := x
 obtain ⟨e0, k, e1, hk, hn, e2, hg⟩ := hI
 simp only at e0 e1 hn e2 hg hD
 subst e0 e1 e2 hn
 simp only [tt_f2m_3]
 refine AE ilI (fun h => wN (by simp [room]; omega) ?_) fun h => ⟨?_, rfl⟩
 · have e3 : IntKind.i64.wrap ((L.n : Int) + 1) = ((L.n + 1 : Nat) : Int) := by rw [wrap64] <;> omega
   rw [e3, Aj (z := (L.n : Int)) (by omega) (by omega), Aj (z := 2 * (L.n : Int)) (by omega) (by omega)]
   refine RY (T' := snoc L (HI L.n)) (fun T => D.wp (⟨(n : Int), ((L.n + 1 : Nat) : Int), m4, ⟨T, rd⟩⟩ : X_f2m_3) _) rfl rfl (fun i => ?_) (hD _ ⟨rfl, L.n + 1, rfl, by omega, rfl, rfl, fun i hi => ?_⟩ (by simp only; omega))
   · show (⟨_, _, _⟩ : TSo) = cond (Nat.blt i L.n) _ _
     cases Nat.blt i L.n <;> rfl
   · by_cases q : i = L.n
     · subst q; exact Hn
     · rw [show (snoc L (HI L.n)).get i = L.get i from Hm (by omega)]; exact hg i (by omega)
 · have : L.n = n := by omega
   subst this
   apply List.ext_getElem
   · simp
   · intro i h1 h2
     rw [Sl.GP]
     simp only [List.getElem_map, List.getElem_range]
     exact hg i (by simpa using h1)
theorem w_f4c (c : TRg) (hc : A1 c = true) : D_f4c.wp c fun y => R3 c 1 y ∧ Cw y = GS c := by
 have hf := CY hc
 refine of_wp ?_
 simp only [tt_f4c]
 refine wN (by simp [upto, room, Bd]; omega) (wC (w_f2m c.Cn c.AU (by omega)) fun (y : TR2) hy => ?_)
 have e : ∀ {z : TR3}, Cw z = GS c → z.Cn = c.Cn → z.S.AU = c.AU → R3 c 1 z ∧ Cw z = GS c := fun a k1 k2 => ⟨⟨hc, k1, k2, by rw [a]; exact C7.new hc (by decide), by decide⟩, a⟩
 refine e ?_ (Aj (by omega) (by omega)) hy.2
 show (⟨0, _, false, y.L.L⟩ : MR) = _
 rw [hy.1, JL]
 rfl
theorem w_f2n (p : TPg) (hp : Gm p) (hP : DP (aP p)) : D_f2n.wp p fun y => aS y = Eo (aP p) ∧ SV p 1 0 y := by
 obtain ⟨_, h8, hr8, _, hl⟩ := Bc hP
 refine of_wp ?_
 simp only [tt_f2n]
 refine wN (by simp [upto, room, Bd]; omega) ?_
 rw [Int.toNat_natCast]
 refine CU (tt := tt_f2n_3) (fun x : X_f2n_3 => x.DQ = p ∧ ∃ k : Nat, x.Ek = k ∧ k ≤ p.AJ.n ∧ x.BG.AB = ⟨false, p.AB.n, fun _ => ⟨0, 0, 0, 0, 0, fun _ => 0, ⟨true, 0, fun _ => 0⟩⟩⟩ ∧ x.BG.FD = 0 ∧ x.BG.Reads = 0 ∧ x.BG.CF = false ∧ x.BG.AJ.n = k ∧ ∀ i, i < k → K7 (x.BG.AJ.get i) = GS (p.AJ.get i))
  (fun x => (p.AJ.n - x.Ek).toNat) (fun _ y => aS y = Eo (aP p) ∧ SV p 1 0 y) (fun D x hI hD => ?_) ⟨rfl, 0, rfl, Nat.zero_le _, rfl, rfl, rfl, rfl, rfl, fun i hi => by omega⟩
 obtain ⟨p', i, m2, ⟨mt, mr, mn, md, me⟩⟩ := x
 obtain ⟨e0, k, e1, hk, e2, e3, e4, e5, hn, hg⟩ := hI
 simp only at e0 e1 e2 e3 e4 e5 hn hg hD
 subst e0 e1 e2 e3 e4 e5 hn
 simp only [tt_f2n_3]
 refine AE ilI (fun h => ?_) fun h => ?_
 · have hkm : mr.n < p'.AJ.n := by omega
   refine wN (BL hkm) ?_
   rw [Int.toNat_natCast]
   refine wC (w_f4c _ (rg_of hP hkm)) fun (y : TR3) hy => wC (w_f3l hy.1) fun (z : TRs) hz => wN (by simp [room]; omega) ?_
   rw [CG hkm hp.rn]
   refine RY (T' := snoc mr z) (fun T => D.wp (⟨p', ((mr.n + 1 : Nat) : Int), m2, ⟨_, T, 0, 0, false⟩⟩ : X_f2n_3) _) rfl rfl (fun i => ?_) (hD _ ⟨rfl, mr.n + 1, rfl, hkm, rfl, rfl, rfl, rfl, rfl, fun i hi => ?_⟩ (by simp only; omega))
   · show (⟨_, ⟨_, _, _⟩, _, ⟨_, _, _⟩⟩ : TRs) = cond (Nat.blt i mr.n) _ _
     cases Nat.blt i mr.n <;> rfl
   · by_cases q : i = mr.n
     · subst q; rw [show (snoc mr z).get mr.n = z from Hn, hz.1, hy.2]
     · rw [show (snoc mr z).get i = mr.get i from Hm (by omega)]; exact hg i (by omega)
 · have hrn : mr.n = p'.AJ.n := by omega
   have ea : ∀ {s : TSt}, s = ⟨⟨false, p'.AB.n, fun _ => ⟨0, 0, 0, 0, 0, fun _ => 0, ⟨true, 0, fun _ => 0⟩⟩⟩, mr, 0, 0, false⟩ → aS s = Eo (aP p') := fun {s} hs => by
    subst hs
    unfold aS Eo
    simp only [MS.mk.injEq, and_true]
    refine ⟨?_, Fw hrn fun i hi => hg i (hrn ▸ hi)⟩
    simp only [aP, List.map_map]
    exact Fw rfl fun i _ => rfl
   have ea' := ea rfl
   exact ⟨ea', ⟨⟨hp, by rw [ea']; exact Pr hP, fun t _ => OQ 0, by decide, by decide⟩, by rw [ea']; exact Su⟩⟩
section
variable {p : TPg} {B : Int} {k : Nat} {f : TFa}
theorem LG (t : Int) (f : TFa) (h0 : 0 ≤ t) (h1 : t < f.threads.n) : D_f1j.wp (t, f) fun y => y = AX (f.threads.get t.toNat).Status 0 := by
 refine B3 ?_
 simp only [tt_f1j, Nat.zero_add]
 refine wC (F3 t f) fun (y : Bool) hy => ?_
 exact BM (fun _ => wN (by rw [ibI]; exact ⟨h0, h1⟩) (wN (by simp) (wN (by simp) rfl))) fun q => absurd (hy.2 ⟨h0, h1⟩) q
theorem Hg (f : TFa) : D_f1f.wp f fun y => y = f.now := B3 rfl
theorem LH (h : FC p B k f) (i : Int) : D_fi.wp (i, f) fun y => (0 ≤ i ∧ i < p.AJ.n → y.nil = false ∧ P7 (p.AJ.get i.toNat) y.x ∧ aR y.x = CP (aF f) i) ∧ (¬ (0 ≤ i ∧ i < p.AJ.n) → y.nil = true) := by
 have hfr := h.wf.rn
 refine B3 ?_
 simp only [tt_fi]
 refine AE ilI (fun q => ⟨fun z => by omega, fun _ => rfl⟩) fun q1 => AE leI (fun q => wN (by simp) ⟨fun z => by omega, fun _ => rfl⟩) fun q2 => wN (by simp) (of_wp ?_)
 have h0 : 0 ≤ i := by omega
 have h1 : i < p.AJ.n := by omega
 obtain ⟨hC, hnil, hrn⟩ := h.ring h0 h1
 have hi : i.toNat < p.AJ.n := by omega
 have hcp := h.wf.cp
 have hb := h.hB
 simp only [tt_fi_3, Nat.zero_add]
 refine wN (by rw [ibI, hcp.r.n]; omega) (wN (by rw [ibI]; omega) (wN (by simp [hnil]) (wC (Hf (p.AJ.get i.toNat) _ hC.rg hC.wf) fun (s : TRs) hs => ?_)))
 obtain ⟨e1, e2, e3⟩ := hs
 rw [hcp.r.g _ hi]
 have hI := hC.inv
 rw [← e1] at hI
 refine wC (w_fc (p.AJ.get i.toNat) s hC.rg (Pn hC.rg hI (by omega) e2 e3)) fun (z : Bx TRr × Int) hz => wN (by simp [hnil]; omega) (Co (wN (by simp) ?_))
 rcases hz with ⟨_, _, zn, zw, za⟩ | ⟨hno, _⟩
 · exact ⟨fun _ => ⟨zn, zw, by rw [za, e1, hrn]⟩, fun z => absurd ⟨h0, h1⟩ z⟩
 · exact absurd (Na hC.rg hI (by omega)) hno
end
theorem Td (p : TPg) (hp : Gm p) : D_f1t.wp (p, 100) fun y => y = true → p.AJ.n ≤ 10 ∧ p.AB.n ≤ 10 ∧ ∀ t, t < p.AB.n → (p.AB.get t).n ≤ 100 := by
 refine of_wp ?_
 simp only [tt_f1t]
 refine AE ilI (fun _ => fun h => by cases h) fun h1 => AE ilI (fun _ => fun h => by cases h) fun h2 => of_wp ?_
 simp only [tt_f1t_3]
 refine CU (tt := tt_f1t_5) (fun x : X_f1t_5 => x.Gn = 100 ∧ x.KS = p ∧ ∃ k : Nat, x.Oa = k ∧ k ≤ p.AB.n ∧ ∀ t, t < k → (p.AB.get t).n ≤ 100) (fun x => (p.AB.n - x.Oa).toNat) (fun _ y => y = true → p.AJ.n ≤ 10 ∧ p.AB.n ≤ 10 ∧ ∀ t, t < p.AB.n → (p.AB.get t).n ≤ 100) (fun D x hI hD => ?_) ⟨rfl, rfl, 0, rfl, Nat.zero_le _, fun t ht => by omega⟩
 obtain ⟨m, p', n, i⟩ := x
 obtain ⟨e0, e1, k, e2, hk, hg⟩ := hI
 simp only at e0 e1 e2 hg hD
 subst e0 e1 e2
 simp only [tt_f1t_5]
 refine AE ilI (fun h => ?_) fun h => fun _ => ⟨by omega, by omega, fun t ht => hg t (by omega)⟩
 have hkm : k < p'.AB.n := by omega
 refine wN (BL hkm) ?_
 rw [Int.toNat_natCast]
 refine AE ilI (fun _ => fun h => by cases h) fun h3 => wN (BL hkm) ?_
 rw [CG hkm hp.tn]
 refine hD _ ⟨rfl, rfl, k + 1, rfl, hkm, fun t ht => ?_⟩ (by simp only; omega)
 by_cases e : t = k
 · subst e; omega
 · exact hg t (by omega)
theorem law_f42 (p : TPg) (hp : Gm p) : D_f42.wp p fun y => y = true ↔ DP (aP p) := by
 refine of_wp ?_
 simp only [tt_f42]
 exact wC (w_f41 p hp) fun (y : Bool) hy => hy
structure UU (l : Sl TEv) : Prop where
 n : l.n ≤ maxLen
 e : ∀ i, i < l.n → O3 (l.get i)
theorem S0 {p q : TPg} (hp : Gm p) (hc : Fz q p) (hP : DP (aP p)) {f : TFa} (hF : FWf q 0 f) (ha : aF f = Eo (aP q)) : FC p 1 0 f ∧ aF f = Eo (aP p) := by
 have hqp := hc.same
 rw [hqp] at ha
 have h1 := hF.cp
 have cp : Fz f.p p := ⟨⟨h1.r.n.trans hc.r.n, fun i hi => (h1.r.g i (by rw [hc.r.n]; exact hi)).trans (hc.r.g i hi)⟩, h1.rz, h1.n.trans hc.n, fun t ht => by
  have a := h1.t t (by rw [hc.n]; exact ht)
  have b := (hc.t t ht).1
  exact ⟨⟨a.1.n.trans b.n, fun i hi => (a.1.g i (by rw [b.n]; exact hi)).trans (b.g i hi)⟩, a.2⟩⟩
 refine ⟨⟨hp, by rw [ha]; exact Pr hP, ⟨cp, hF.tn.trans hc.n, hF.tw, hF.rn.trans hc.r.n, fun i hi => ?_⟩, by rw [ha]; exact Su, by decide, by decide⟩, ha⟩
 have := hF.rw i hi
 have hi' : i < p.AJ.n := by have := hF.rn; have := hc.r.n; omega
 rw [hc.r.g i hi'] at this
 exact this
theorem L0 {p : TPg} (hp : Gm p) : Fz p p := ⟨C6.refl _, hp.rz, rfl, fun t ht => ⟨C6.refl _, hp.lz t ht⟩⟩
theorem UC {p q : TPg} (hp : Gm p) (hq : Fz q p) {l : Sl TEv} (hl : UU l) (hn : l.n ≤ 65536) :
 D_fu.wp (q, l) fun y => (DP (aP p) ∧ y.2.2 = 0 ∧ y.1.nil = false ∧ ∃ n : Nat, y.2.1 = n ∧ n ≤ l.n ∧ FC p (1 + ((n + 1 : Nat) : Int)) (n + 1) y.1.x ∧ D1 (aP p) l.L n (aF y.1.x)) ∨ (¬ DP (aP p) ∧ y.1.nil = true ∧ y.2 = (0, 1)) := by
 refine of_wp ?_
 simp only [tt_fu]
 refine wC (w_f1h q (hq.Gm hp) 0) fun (y : Bx TFa × Int) hy => ?_
 rw [hq.same] at hy
 rcases hy with ⟨hP, y2, yn, yF, ya⟩ | ⟨hno, y2, yn⟩
 rotate_left
 · exact AE (p := y.2 ≠ 0) (by rw [bnI, ieI]) (fun _ => .inr ⟨hno, rfl, rfl⟩) fun e => absurd (by rw [y2]; decide) e
 rw [← hq.same] at ya
 obtain ⟨hFC, ya⟩ := S0 hp hq hP yF ya
 refine AE (p := y.2 ≠ 0) (by rw [bnI, ieI]) (fun e => absurd y2 e) fun _ => AE ilI (fun e => by omega) fun _ => wN (by simp [yn]) ?_
 refine CU (tt := tt_fu_7) (fun x : X_fu_7 => x.DS = l ∧ x.Im = l ∧ x.TI = l.n ∧ ∃ k : Nat, x.F8 = k ∧ k ≤ l.n ∧ FC p (1 + k) k x.DR ∧ HG (aP p) (l.L.take k) (Eo (aP p)) = some (aF x.DR)) (fun x => (l.n - x.F8).toNat)
  (fun _ y => (DP (aP p) ∧ y.2.2 = 0 ∧ y.1.nil = false ∧ ∃ n : Nat, y.2.1 = n ∧ n ≤ l.n ∧ FC p (1 + ((n + 1 : Nat) : Int)) (n + 1) y.1.x ∧ D1 (aP p) l.L n (aF y.1.x)) ∨ (¬ DP (aP p) ∧ y.1.nil = true ∧ y.2 = (0, 1))) (fun D x hI hD => ?_)
  ⟨rfl, rfl, rfl, 0, rfl, Nat.zero_le _, hFC, by rw [ya]; rfl⟩
 obtain ⟨l0, l', q24, q25, f⟩ := x
 obtain ⟨e0, e1, e2, k, e3, hk, hF, hA⟩ := hI
 simp only at e0 e1 e2 e3 hF hA hD
 subst e0 e1 e2 e3
 simp only [tt_fu_7]
 refine AE ilI (fun h => ?_) fun h => of_wp ?_
 · have hkm : k < l'.n := by omega
   have hE := hl.e k hkm
   have hL : l'.L[k]? = some (l'.get k) := Sl.DH l' hkm
   refine wN (BL hkm) ?_
   simp only [Int.toNat_natCast]
   refine wC (JI hF hE (by omega) (by omega)) fun (y : Int × TFa) hy => ?_
   obtain ⟨y1, y2, y3⟩ := hy
   have y3' : FC p (1 + ((k + 1 : Nat) : Int)) (k + 1) y.2 := by rw [show (1 : Int) + ((k + 1 : Nat) : Int) = 1 + k + 1 by omega]; exact y3
   refine AE (p := y.1 ≠ 0) (by rw [bnI, ieI]) (fun q => .inl ⟨hP, rfl, rfl, k, rfl, hk, y3', ?_⟩) fun q => ?_
   · have hna : Ax (aP p) (aF f) (l'.get k) = false := by
      cases w : Ax (aP p) (aF f) (l'.get k)
      · rfl
      · exact absurd (y1.trans (Jz.2 w)) q
     change D1 (aP p) l'.L k (aF y.2)
     rw [y2, (KM hna).2]
     exact ⟨by rw [Sl.A8]; exact hk, hA, fun e he => by rw [hL] at he; cases he; exact hna⟩
   · have hAl : Ax (aP p) (aF f) (l'.get k) = true := Jz.1 (y1.symm.trans (Classical.byContradiction q))
     rw [GO hAl] at y2
     refine hD _ ⟨rfl, rfl, rfl, k + 1, by rw [CG hkm hl.n], hkm, y3', ?_⟩ (by simp only [CG hkm hl.n]; omega)
     change _ = some (aF y.2)
     rw [y2]
     exact JF hA hL hAl
 · obtain rfl : k = l'.n := by omega
   simp only [tt_fu_12]
   refine .inl ⟨hP, rfl, rfl, l'.n, rfl, hk, hF.grow (by omega) (by omega), by rw [Sl.A8]; exact hk, hA, fun e he => ?_⟩
   rw [Sl.DH?, if_neg (by omega)] at he
   cases he
theorem MF : D_f3f.ev 1000 PUnit.unit = some true := by kernel_rfl
theorem Qo : D_f3f.wp PUnit.unit fun y => y = true := ⟨true, D_f3f.GZ 1000 _ _ MF, rfl⟩
theorem w_f1p {p : TPg} (hp : Gm p) (hP : DP (aP p)) {l : Sl TEv} (hl : UU l) (hn : l.n ≤ 65536) :
 D_f1p.wp (p, l) fun y => ∃ n : Nat, y.2 = n ∧ n ≤ l.n ∧ SV p (1 + n) n y.1 ∧ D1 (aP p) l.L n (aS y.1) := by
 refine of_wp ?_
 simp only [tt_f1p]
 refine wC (w_f2n p hp hP) fun (s : TSt) hs => ?_
 refine CU (tt := tt_f1p_3) (fun x : X_f1p_3 => x.DS = l ∧ x.KS = p ∧ ∃ k : Nat, x.T6 = k ∧ k ≤ l.n ∧ SV p (1 + k) k x.HX ∧ HG (aP p) (l.L.take k) (Eo (aP p)) = some (aS x.HX)) (fun x => (l.n - x.T6).toNat)
  (fun _ y => ∃ n : Nat, y.2 = n ∧ n ≤ l.n ∧ SV p (1 + n) n y.1 ∧ D1 (aP p) l.L n (aS y.1)) (fun D x hI hD => ?_)
  ⟨rfl, rfl, 0, rfl, Nat.zero_le _, hs.2, by change _ = some (aS s); rw [hs.1]; rfl⟩
 obtain ⟨l0, p0, i7, m4, s'⟩ := x
 obtain ⟨e0, e1, k, e3, hk, hS, hA⟩ := hI
 simp only at e0 e1 e3 hS hA hD
 subst e0 e1 e3
 simp only [tt_f1p_3]
 refine AE ilI (fun h => ?_) fun h => of_wp ?_
 · have hkm : k < l0.n := by omega
   have hE := hl.e k hkm
   have hL : l0.L[k]? = some (l0.get k) := Sl.DH l0 hkm
   refine wN (BL hkm) ?_
   simp only [Int.toNat_natCast]
   refine wC (w_f4j hS hE (by omega) (by omega)) fun (y : Int × TSt) hy => ?_
   obtain ⟨y1, y2, y3⟩ := hy
   refine AE (p := y.1 ≠ 0) (by rw [bnI, ieI]) (fun q => ⟨k, rfl, hk, hS, by rw [Sl.A8]; exact hk, hA, fun e he => ?_⟩) fun q => ?_
   · rw [hL] at he
     cases he
     cases w : Ax (aP p0) (aS s') (l0.get k)
     · rfl
     · exact absurd (y1.trans (Jz.2 w)) q
   · have hAl : Ax (aP p0) (aS s') (l0.get k) = true := Jz.1 (y1.symm.trans (Classical.byContradiction q))
     rw [GO hAl] at y2
     refine hD _ ⟨rfl, rfl, k + 1, by rw [CG hkm hl.n], hkm, by rw [show (1 : Int) + ((k + 1 : Nat) : Int) = 1 + k + 1 by omega]; exact y3, ?_⟩ (by simp only [CG hkm hl.n]; omega)
     change _ = some (aS y.2)
     rw [y2]
     exact JF hA hL hAl
 · obtain rfl : k = l0.n := by omega
   simp only [tt_f1p_9]
   refine ⟨l0.n, rfl, hk, hS, by rw [Sl.A8]; exact hk, hA, fun e he => ?_⟩
   rw [Sl.DH?, if_neg (by omega)] at he
   cases he
theorem w_f43 {p : TPg} (hp : Gm p) (hP : DP (aP p)) {l : Sl TEv} (hl : UU l) (hn : l.n ≤ 65536) :
 D_f43.wp (p, l) fun y => ∃ n : Nat, y = n ∧ ∃ m, D1 (aP p) l.L n m := by
 refine of_wp ?_
 simp only [tt_f43]
 exact wC (w_f1p hp hP hl hn) fun (y : TSt × Int) hy => by
  obtain ⟨n, a, _, _, b⟩ := hy
  exact ⟨n, a, _, b⟩
section
variable {P : MP} {b : Int} {m m0 : MS}
theorem Tx : ∀ {l : List TEv} {m0 : MS}, HG P l m0 = some m → m.FD ≤ m0.FD + 1048576 * l.length := by
 intro l
 induction l with
 | nil => intro m0 h; cases h; simp
 | cons e l ih =>
   intro m0 h
   change (if _ then _ else _) = _ at h
   split at h
   · rename_i ha
     have h1 := ih h
     have h2 := PT ha
     simp only [List.length_cons]
     omega
   · cases h
theorem D1.now {l : List TEv} {n : Nat} (h : D1 P l n m) : m.FD ≤ 1048576 * n := by
 have h1 := Tx h.all
 have h2 := h.le
 rw [List.length_take, Nat.min_eq_left h2] at h1
 have h3 : (Eo P).FD = 0 := rfl
 omega
theorem RB (l : List TIn) (t : MT) : ((Ba l t).2.Kind = 1 ∨ (Ba l t).2.Kind = 2 ∨ (Ba l t).2.Kind = 3 ∨ (Ba l t).2.Kind = 10 ∨ (Ba l t).2.Kind = 11) ∨ (Ba l t).2.Ring = 0 := by
 unfold Ba
 split
 · exact .inr rfl
 split
 · simp
 split
 · simp
 unfold EZ
 simp only
 repeat' split
 all_goals simp [zA]
theorem OM (l : List TIn) (t : MT) (h : Es l t) : 0 ≤ (Ba l t).2.AG ∧ (Ba l t).2.AG < 4611686018427387904 := by
 unfold Ba
 split
 · simp [zA]
 split
 · rename_i q; have := h.p1 (by omega); exact ⟨this.2.2.2.2.1, this.2.2.2.2.2⟩
 split
 · rename_i q; have := h.p1 (by omega); exact ⟨this.2.2.2.2.1, this.2.2.2.2.2⟩
 unfold EZ
 simp only
 repeat' split
 all_goals simp [zA]
theorem RA (h : Dj P b m) {t : Int} (k : t.toNat < m.AB.length) : 0 ≤ (A2 P m t).Ring := by
 rcases RB (Bi P t) (KA m t) with q | q
 · exact (IL h k rfl q).1
 · exact Int.le_of_eq q.symm
theorem MN {i : Int} (h : m.AJ.length ≤ i.toNat) : CP m i = zR := by
 unfold CP
 rw [List.getD_eq_getElem?_getD, List.getElem?_eq_none h]
 rfl
theorem Re (h : Dj P b m) (hb : b ≤ 2305843009213693952) (i : Int) : CD (CP m i).Aq := by
 by_cases k : i.toNat < P.AJ.length
 · have := (h.KG k).1
   exact ⟨this.t0, by have := this.tb; omega⟩
 · rw [MN (by rw [h.nr]; omega)]
   exact ⟨Int.le_refl _, by decide⟩
theorem UJ (h : Dj P b m) (hb : b ≤ 2305843009213693952) (i j : Int) : CD (hd (CP m i) j) := by
 by_cases k : i.toNat < P.AJ.length
 · have hr := (h.KG k).1
   unfold hd
   by_cases q : j.toNat < (CP m i).AY.length
   · have := hr.h0 _ (List.mem_of_getElem? (Dw (d := 0) q))
     have := hr.tb
     exact ⟨by omega, by omega⟩
   · rw [List.getD_eq_getElem?_getD, List.getElem?_eq_none (by omega)]
     exact ⟨Int.le_refl _, by decide⟩
 · rw [MN (by rw [h.nr]; omega)]
   simp [hd, zR, CD]
end
section
variable {p : TPg} {B : Int} {k : Nat} {f : TFa} {t kd : Int}
theorem G4 {P : MP} {m : MS} {rg T V : Int} (h1 : rg = if Bn kd = true then (A2 P m t).Ring else 0)
 (h2 : T = if kd = 2 ∨ kd = 4 then (A2 P m t).AG else if kd = 1 ∨ kd = 13 then (CP m (A2 P m t).Ring).Aq else if kd = 3 ∧ (A2 P m t).Kind = 2 then hd (CP m (A2 P m t).Ring) (A2 P m t).Reader else 0)
 (h3 : V = if kd = 8 then m.FD else if kd = 12 then (A2 P m t).Value else 0) : (⟨t, kd, rg, T, V⟩ : TEv) = DM P m t kd := by
 subst h1 h2 h3; rfl
theorem LR (h : FC p B k f) (h0 : 0 ≤ t) (h1 : t < p.AB.n) : D_f14.wp (t, (kd, f)) fun y => y = DM (aP p) (aF f) t kd := by
 have htl : t.toNat < (aF f).AB.length := by have := h.wf.tn; simp only [aF, List.length_map, Sl.A8]; omega
 refine B3 ?_
 simp only [tt_f14]
 refine wC (MD h t) fun (a : TAk × Int) ha => wC (w_f2v kd) fun (r : Bool) hr => ?_
 obtain ⟨_, ha⟩ := ha ⟨h0, h1⟩
 have e1 : a.1.Kind = (A2 (aP p) (aF f) t).Kind := congrArg MA.Kind ha
 have e2 : a.1.Ring = (A2 (aP p) (aF f) t).Ring := congrArg MA.Ring ha
 have e3 : a.1.Reader = (A2 (aP p) (aF f) t).Reader := congrArg MA.Reader ha
 have e4 : a.1.AG = (A2 (aP p) (aF f) t).AG := congrArg MA.AG ha
 have e5 : a.1.Value = (A2 (aP p) (aF f) t).Value := congrArg MA.Value ha
 have hrl : (aP p).AJ.length = p.AJ.n := by simp [aP]
 have hr0 := RA h.inv htl
 have key : ∀ rg : Int, rg = (if Bn kd = true then (A2 (aP p) (aF f) t).Ring else 0) → D_f14_5.wp (⟨kd, f, ⟨0, 0, 0, 0, 0⟩, a.1, ⟨t, kd, rg, 0, 0⟩⟩ : X_f14_5) fun y => y.1 = DM (aP p) (aF f) t kd := fun rg hrg => by
  refine of_wp ?_
  simp only [tt_f14_5]
  refine wC (LH h a.1.Ring) fun (r : Bx TRr) hr => ?_
  rw [e2] at hr
  have hv : r.nil = true ∨ (r.nil = false ∧ (A2 (aP p) (aF f) t).Ring < p.AJ.n) := by
   by_cases q : (A2 (aP p) (aF f) t).Ring < p.AJ.n
   · exact .inr ⟨(hr.1 ⟨hr0, q⟩).1, q⟩
   · exact .inl (hr.2 (by omega))
  have hT : (r.nil = true → (CP (aF f) (A2 (aP p) (aF f) t).Ring).Aq = 0) ∧ (r.nil = false → (CP (aF f) (A2 (aP p) (aF f) t).Ring).Aq = r.x.AA.tail) := by
   rcases hv with q | ⟨q, hq⟩
   · refine ⟨fun _ => ?_, fun z => by rw [q] at z; cases z⟩
     have hno : ¬ (A2 (aP p) (aF f) t).Ring < p.AJ.n := fun z => by have := (hr.1 ⟨hr0, z⟩).1; rw [q] at this; cases this
     rw [MN (by rw [h.inv.nr, hrl]; omega)]; rfl
   · refine ⟨fun z => (by rw [q] at z; cases z), fun _ => ?_⟩
     rw [← (hr.1 ⟨hr0, hq⟩).2.2]; rfl
  have fin8 : ¬ (kd = 2 ∨ kd = 4) → ¬ (kd = 1 ∨ kd = 13) → ¬ (kd = 3 ∧ (A2 (aP p) (aF f) t).Kind = 2) → kd = 8 → (⟨t, kd, rg, 0, f.now⟩ : TEv) = DM (aP p) (aF f) t kd := fun a1 a2 a3 a4 => G4 hrg (by rw [if_neg a1, if_neg a2, if_neg a3]) (by rw [if_pos a4]; rfl)
  have fin12 : ¬ (kd = 2 ∨ kd = 4) → ¬ (kd = 1 ∨ kd = 13) → ¬ (kd = 3 ∧ (A2 (aP p) (aF f) t).Kind = 2) → kd ≠ 8 → kd = 12 → (⟨t, kd, rg, 0, a.1.Value⟩ : TEv) = DM (aP p) (aF f) t kd := fun a1 a2 a3 a4 a5 => G4 hrg (by rw [if_neg a1, if_neg a2, if_neg a3]) (by rw [if_neg a4, if_pos a5, e5])
  have fin0 : ¬ (kd = 2 ∨ kd = 4) → ¬ (kd = 1 ∨ kd = 13) → ¬ (kd = 3 ∧ (A2 (aP p) (aF f) t).Kind = 2) → kd ≠ 8 → kd ≠ 12 → (⟨t, kd, rg, 0, 0⟩ : TEv) = DM (aP p) (aF f) t kd := fun a1 a2 a3 a4 a5 => G4 hrg (by rw [if_neg a1, if_neg a2, if_neg a3]) (by rw [if_neg a4, if_neg a5])
  have finA : kd = 2 ∨ kd = 4 → (⟨t, kd, rg, a.1.AG, 0⟩ : TEv) = DM (aP p) (aF f) t kd := fun a1 => G4 hrg (by rw [if_pos a1, e4]) (by rw [if_neg (by omega), if_neg (by omega)])
  have N5 : ∀ T, T = (CP (aF f) (A2 (aP p) (aF f) t).Ring).Aq → kd = 1 ∨ kd = 13 → (⟨t, kd, rg, T, 0⟩ : TEv) = DM (aP p) (aF f) t kd := fun T hT a1 => G4 hrg (by rw [if_neg (by omega), if_pos a1, hT]) (by rw [if_neg (by omega), if_neg (by omega)])
  refine BM (fun hn => ?_) fun hn => ?_
  · refine AE ieI (fun q => finA (.inl q)) fun q2 => AE ieI (fun q => finA (.inr q)) fun q4 => AE ieI (fun q => ?_) fun q1 => AE ieI (fun q => ?_) fun q13 => ?_
    · exact wC (Q' := fun (y : Int) => y = 0) (of_wp rfl) fun (y : Int) hy => by subst hy; exact N5 _ (hT.1 hn).symm (.inl q)
    · exact wC (Q' := fun (y : Int) => y = 0) (of_wp rfl) fun (y : Int) hy => by subst hy; exact N5 _ (hT.1 hn).symm (.inr q)
    · refine AE ieI (fun q3 => ?_) fun q3 => ?_
      · refine AE ieI (fun qk => ?_) fun qk => ?_
        · exfalso
          have h2 := IL h.inv htl rfl (.inr (.inl (e1 ▸ qk)))
          rw [hrl] at h2
          have := (hr.1 ⟨hr0, by omega⟩).1
          rw [hn] at this; cases this
        · have n3 : ¬ (kd = 3 ∧ (A2 (aP p) (aF f) t).Kind = 2) := fun z => qk (e1 ▸ z.2)
          exact AE ieI (fun q8 => by omega) fun q8 => AE ieI (fun q12 => by omega) fun q12 => fin0 (by omega) (by omega) n3 q8 q12
      · exact AE ieI (fun q8 => wC (Hg f) fun y hy => by subst hy; exact fin8 (by omega) (by omega) (fun z => q3 z.1) q8) fun q8 => AE ieI (fun q12 => fin12 (by omega) (by omega) (fun z => q3 z.1) q8 q12) fun q12 => fin0 (by omega) (by omega) (fun z => q3 z.1) q8 q12
  · have hn : r.nil = false := by simpa using hn
    refine wN (by simp [hn]) ?_
    refine AE ieI (fun q => finA (.inl q)) fun q2 => AE ieI (fun q => finA (.inr q)) fun q4 => AE ieI (fun q => ?_) fun q1 => AE ieI (fun q => ?_) fun q13 => ?_
    · exact wC (FH r.x) fun y hy => by subst hy; exact N5 _ (hT.2 hn).symm (.inl q)
    · exact wC (FH r.x) fun y hy => by subst hy; exact N5 _ (hT.2 hn).symm (.inr q)
    · refine AE ieI (fun q3 => ?_) fun q3 => ?_
      · refine AE ieI (fun qk => ?_) fun qk => ?_
        · have h2 := IL h.inv htl rfl (.inr (.inl (e1 ▸ qk)))
          rw [hrl] at h2
          have hx := hr.1 ⟨hr0, by omega⟩
          have hrd := h2.2.2 (.inl (e1 ▸ qk))
          have hcf : (II (aP p) (A2 (aP p) (aF f) t).Ring) = p.AJ.get (A2 (aP p) (aF f) t).Ring.toNat := by
           unfold II
           rw [List.getD_eq_getElem?_getD]
           show ((p.AJ.L)[_]?).getD _ = _
           rw [Sl.DH _ (by omega)]; rfl
          rw [hcf] at hrd
          have hhn := hx.2.1.hn
          refine wC (JH a.1.Reader r.x (by rw [e3]; exact hrd.1) (by rw [e3]; omega)) fun (y : Int) hy => ?_
          subst hy
          refine G4 hrg ?_ (by rw [if_neg (by omega), if_neg (by omega)])
          rw [if_neg (by omega), if_neg (by omega), if_pos ⟨q3, e1 ▸ qk⟩, ← hx.2.2, ← e3]
          exact (Ls (by rw [e3]; exact hrd.1) (by rw [e3]; omega)).symm
        · have n3 : ¬ (kd = 3 ∧ (A2 (aP p) (aF f) t).Kind = 2) := fun z => qk (e1 ▸ z.2)
          exact AE ieI (fun q8 => by omega) fun q8 => AE ieI (fun q12 => by omega) fun q12 => fin0 (by omega) (by omega) n3 q8 q12
      · exact AE ieI (fun q8 => wC (Hg f) fun y hy => by subst hy; exact fin8 (by omega) (by omega) (fun z => q3 z.1) q8) fun q8 => AE ieI (fun q12 => fin12 (by omega) (by omega) (fun z => q3 z.1) q8 q12) fun q12 => fin0 (by omega) (by omega) (fun z => q3 z.1) q8 q12
 subst hr
 refine BM (fun q => key _ ?_) fun q => key _ ?_
 · rw [if_pos q]; exact e2
 · rw [if_neg q]
end
def HN (P : MP) (m : MS) (t : Int) (j : Nat) : List Int := ((List.range j).map fun i : Nat => (i : Int) + 1).filter fun k => Ax P m (DM P m t k)
def Sc (P : MP) (m : MS) (t : Int) : List Int := HN P m t 15
theorem Kw (P : MP) (m : MS) (t : Int) (j : Nat) : HN P m t (j + 1) = if Ax P m (DM P m t ((j : Int) + 1)) = true then HN P m t j ++ [(j : Int) + 1] else HN P m t j := by
 unfold HN
 rw [List.range_succ, List.map_append, List.filter_append]
 simp only [List.map_cons, List.map_nil]
 by_cases h : Ax P m (DM P m t ((j : Int) + 1)) = true
 · rw [if_pos h]; simp [h]
 · rw [if_neg h]; simp [h]
theorem Q5 (P : MP) (m : MS) (t : Int) (j : Nat) : (HN P m t j).length ≤ j := by
 unfold HN
 exact Nat.le_trans (List.length_filter_le _ _) (by simp)
theorem R7 {P : MP} {m : MS} {t k : Int} : k ∈ Sc P m t ↔ (1 ≤ k ∧ k ≤ 15) ∧ Ax P m (DM P m t k) = true := by
 unfold Sc HN
 simp only [List.mem_filter, List.mem_map, List.mem_range]
 refine and_congr_left fun _ => ⟨?_, fun ⟨h1, h2⟩ => ⟨(k - 1).toNat, by omega, by omega⟩⟩
 rintro ⟨i, hi, rfl⟩
 omega
theorem Uc (s : Sl Int) (v : Int) (b : Bool) : (Sl.mk b (s.n + 1) (fun i => cond (Nat.blt i s.n) (s.get i) v)).L = s.L ++ [v] := by
 unfold Sl.L
 simp only [List.range_succ, List.map_append, List.map_cons, List.map_nil]
 congr 1
 · refine List.map_congr_left fun i hi => ?_
   rw [Ew (List.mem_range.1 hi), cond_true]
 · rw [E8 (Nat.lt_irrefl _), cond_false]
section
variable {p : TPg} {B : Int} {k : Nat} {f : TFa} {t kd : Int}
theorem Rz (h : FC p B k f) (h0 : 0 ≤ t) (h1 : t < p.AB.n) (hn : f.now < 9223372036854775808) : O3 (DM (aP p) (aF f) t kd) := by
 have htl : t.toNat < (aF f).AB.length := by have := h.wf.tn; simp only [aF, List.length_map, Sl.A8]; omega
 have hB := h.hB
 have hti := (h.inv.asked htl).2.1
 have htn := h.wf.tn
 refine ⟨?_, ?_⟩
 · show CD (if _ then _ else if _ then _ else if _ then _ else _)
   split
   · have := OM (Bi (aP p) t) (KA (aF f) t) (h.inv.Hk htl)
     exact ⟨this.1, Int.lt_trans this.2 (by decide)⟩
   split
   · exact Re h.inv hB _
   split
   · exact UJ h.inv hB _ _
   · exact ⟨Int.le_refl _, by decide⟩
 · show CD (if _ then _ else if _ then _ else _)
   split
   · have h2 := h.inv.n0
     exact ⟨h2, Int.lt_trans hn (by decide)⟩
   split
   · unfold A2
     rw [D0 h0 h1, F5 h0 (by omega)]
     have hT := h.inv.Hk htl
     rw [D0 h0 h1, F5 h0 (by omega)] at hT
     exact (Kc (Ft h.inv h0 h1) (h.hp.k (by omega)) hT (h.wf.tw _ (by omega)).rg).2
   · exact ⟨Int.le_refl _, by decide⟩
theorem Mc (h : FC p B k f) (h0 : 0 ≤ t) (h1 : t < p.AB.n) (hn : f.now < 9223372036854775808) : D_ff.wp (t, f) fun y => y.L = Sc (aP p) (aF f) t ∧ y.n ≤ 15 := by
 refine B3 ?_
 simp only [tt_ff]
 refine CU (tt := tt_ff_3) (fun x : X_ff_3 => x.T3 = t ∧ x.Ah = f ∧ ∃ j : Nat, x.E3 = (j : Int) + 1 ∧ j ≤ 15 ∧ x.RI.L = HN (aP p) (aF f) t j) (fun x => (16 - x.E3).toNat)
  (fun _ y => y.1.L = Sc (aP p) (aF f) t ∧ y.1.n ≤ 15) (fun D x hI hD => ?_) ⟨rfl, rfl, 0, rfl, Nat.zero_le _, rfl⟩
 obtain ⟨t', l, kd, f'⟩ := x
 obtain ⟨e0, e1, j, e2, hj, hL⟩ := hI
 simp only at e0 e1 e2 hL hD
 subst e0 e1 e2
 have hln : l.n = (HN (aP p) (aF f') t' j).length := by rw [← hL, Sl.A8]
 have hle := Q5 (aP p) (aF f') t' j
 simp only [tt_ff_3]
 refine AE leI (fun q => ?_) fun q => ?_
 · refine wC (LR h h0 h1) fun (y : TEv) hy => ?_
   subst hy
   refine wC (ED h (Rz h h0 h1 hn)) fun (z : Bool) hz => ?_
   subst hz
   have nx : IntKind.i64.wrap ((j : Int) + 1 + 1) = ((j + 1 : Nat) : Int) + 1 := by
    rw [show ((j + 1 : Nat) : Int) + 1 = (j : Int) + 1 + 1 by omega]
    exact wrap64 (by omega) (by omega)
   refine BM (fun ha => wN (by simp only [room, Bool.true_and, decide_eq_true_eq]; omega) (of_wp ?_)) fun ha => of_wp ?_
   · simp only [tt_ff_4, nx]
     refine hD _ ⟨rfl, rfl, j + 1, rfl, by omega, ?_⟩ (by simp only; omega)
     rw [Kw, if_pos ha]
     exact (Uc _ _ _).trans (by rw [hL])
   · simp only [tt_ff_4, nx]
     refine hD _ ⟨rfl, rfl, j + 1, rfl, by omega, ?_⟩ (by simp only; omega)
     rw [Kw, if_neg ha]
     exact hL
 · obtain rfl : j = 15 := by omega
   exact ⟨hL, by show l.n ≤ 15; omega⟩
end


section
variable {p q : TPg} {l : Sl TEv}
theorem SD (hp : Gm p) (hq : Fz q p) (hl : UU l) (hn : l.n ≤ 65536) :
 D_f3j.wp (q, l) fun y => (DP (aP p) ∧ ∃ n : Nat, n ≤ l.n ∧ D1 (aP p) l.L n (aF y.1.x) ∧ FC p (1 + ((n + 1 : Nat) : Int)) (n + 1) y.1.x ∧ y.1.nil = false ∧ y.2 = if n < l.n then 11 else 0) ∨ (¬ DP (aP p) ∧ y.2 = 1) := by
 refine of_wp ?_
 simp only [tt_f3j]
 refine wC (UC hp hq hl hn) fun (y : Bx TFa × (Int × Int)) hy => ?_
 rcases hy with ⟨hP, a, b, n, c, d, e, f⟩ | ⟨h, _, g⟩
 · refine AE ieI (fun _ => AE ilI (fun z => ?_) fun z => ?_) fun z => absurd a z
   · exact .inl ⟨hP, n, d, f, e, b, by rw [if_pos (by omega)]⟩
   · exact .inl ⟨hP, n, d, f, e, b, by rw [if_neg (by omega)]; exact a⟩
 · refine AE ieI (fun z => ?_) fun z => .inr ⟨h, by rw [show y.2 = (0, 1) from g]⟩
   rw [g] at z
   exact absurd z (by decide)
theorem U0 {f : TFa} {n : Nat} (h : D1 (aP p) l.L n (aF f)) (hn : n ≤ 65536) : f.now < 9223372036854775808 := by
 have := h.now
 have e : (aF f).FD = f.now := rfl
 omega
theorem Md (hp : Gm p) (hq : Fz q p) (hl : UU l) (hn : l.n ≤ 65536) (t : Int) :
 D_f2e.wp (q, (l, t)) fun y => (DP (aP p) ∧ ∃ (n : Nat) (m : MS), n ≤ l.n ∧ D1 (aP p) l.L n m ∧ (n < l.n → y.1.n = 0 ∧ y.2 = 11) ∧ (n = l.n → ¬ (0 ≤ t ∧ t < p.AB.n) → y.1.n = 0 ∧ y.2 = 5) ∧
  (n = l.n → 0 ≤ t ∧ t < p.AB.n → y.1.L = Sc (aP p) m t ∧ y.1.n ≤ 15 ∧ y.2 = 0)) ∨ (¬ DP (aP p) ∧ y.1.n = 0 ∧ y.2 = 1) := by
 refine of_wp ?_
 simp only [tt_f2e]
 refine wC (SD hp hq hl hn) fun (y : Bx TFa × Int) hy => ?_
 rcases hy with ⟨hP, n, d, f, e, b, g⟩ | ⟨h, g⟩
 · by_cases z : n < l.n
   · rw [if_pos z] at g
     refine AE (p := y.2 ≠ 0) (by rw [bnI, ieI]) (fun _ => .inl ⟨hP, n, _, d, f, fun _ => ⟨rfl, g⟩, fun w => by omega, fun w => by omega⟩) fun w => absurd (by rw [g]; decide) w
   · rw [if_neg z] at g
     refine AE (p := y.2 ≠ 0) (by rw [bnI, ieI]) (fun w => absurd g w) fun _ => AE ilI (fun w => ?_) fun w1 => AE leI (fun w => ?_) fun w2 => wN (by simp [b]) (of_wp ?_)
     · exact .inl ⟨hP, n, _, d, f, fun w => absurd w z, fun _ _ => ⟨rfl, rfl⟩, fun _ w => by omega⟩
     · have hqn := hq.n
       exact .inl ⟨hP, n, _, d, f, fun w => absurd w z, fun _ _ => ⟨rfl, rfl⟩, fun _ w => by omega⟩
     · have hqn := hq.n
       simp only [tt_f2e_6]
       refine wC (Mc e (by omega) (by omega) (U0 f (by omega))) fun (u : Sl Int) hu => ?_
       exact .inl ⟨hP, n, _, d, f, fun w => absurd w z, fun _ w => absurd ⟨by omega, by omega⟩ w, fun _ _ => ⟨hu.1, hu.2, rfl⟩⟩
 · exact AE (p := y.2 ≠ 0) (by rw [bnI, ieI]) (fun _ => .inr ⟨h, rfl, g⟩) fun w => absurd (by rw [g]; decide) w
end
theorem Ua (p : TPg) (hp : Gm p) : D_f4g.wp p fun y => y = true → DP (aP p) := by
 refine of_wp ?_
 simp only [tt_f4g]
 refine wC (Td p hp) fun (y : Bool) _ => BM (fun _ => wC (law_f42 p hp) fun (z : Bool) hz => hz.1) fun _ => fun h => by cases h
section
variable {m : MS}
theorem D1.full {P : MP} {L : List TEv} {n : Nat} (h : D1 P L n m) (hn : n = L.length) : HG P L (Eo P) = some m := by
 have := h.all
 rwa [hn, List.take_length] at this
theorem Sr {P : MP} {L : List TEv} {m0 m1 : MS} {k : Nat} {e : TEv} (hall : HG P L m0 = some m) (h : HG P (L.take k) m0 = some m1) (he : L[k]? = some e) : Ax P m1 e = true := by
 cases q : Ax P m1 e
 · have hk : k < L.length := (List.getElem?_eq_some_iff.1 he).1
   have := L5 h he q (n := L.length) hk
   rw [List.take_length, hall] at this
   cases this
 · rfl
theorem M7 {P : MP} {b : Int} {e : TEv} (h : Dj P b m) (ha : Ax P m e = true) : (KA m e.Thread).Status = 0 := SS h (Ci ha).1
end
theorem Jk (p : TPg) (l : Sl TEv) (e : TEv) (hp : Gm p) (hl : UU l) (he : O3 e) : D_f0.wp (p, (l, e)) fun y => y = true := by
 refine of_wp ?_
 simp only [tt_f0]
 have aw : ∀ {k : Bool → TT Tryz.prog R_f0} {Q}, (k true).wp Q → (TT.call con_f3f PUnit.unit k).wp Q := fun h => wC Qo fun (y : Bool) hy => by subst hy; exact h
 refine aw (BM (fun h => by simp at h) fun _ => ?_)
 refine wC (Ua p hp) fun (y : Bool) hy => AE bnI (fun _ => aw rfl) fun hf => AE ilI (fun _ => aw rfl) fun hl60 => ?_
 have hP := hy (Classical.byContradiction hf)
 have hn : l.n ≤ 65536 := by omega
 refine wC (w_f43 hp hP hl hn) fun (w : Int) hw => AE ilI (fun _ => aw rfl) fun hfull => of_wp ?_
 obtain ⟨n, rfl, m, hs⟩ := hw
 have hnl : n = l.n := by have := hs.le; rw [Sl.A8] at this; omega
 have hall := hs.full (by rw [Sl.A8]; exact hnl)
 simp only [tt_f0_3]
 refine wC (w_f1h p hp 0) fun (y : Bx TFa × Int) hy => ?_
 rcases hy with ⟨_, y2, yn, yF, ya⟩ | ⟨hno, _⟩
 rotate_left
 · exact absurd hP hno
 obtain ⟨hFC, ya⟩ := S0 hp (L0 hp) hP yF ya
 refine wN (by simp [yn]) ?_
 refine CU (tt := tt_f0_7) (fun x : X_f0_7 => ∃ (k : Nat) (f : TFa), x = ⟨l, p, e, l, (l.n : Int), (k : Int), f⟩ ∧ k ≤ l.n ∧ FC p (1 + k) k f ∧ HG (aP p) (l.L.take k) (Eo (aP p)) = some (aF f)) (fun x => (x.TF - x.QS).toNat)
  (fun _ y => y = true) (fun D x hI hD => ?_) ⟨0, _, rfl, Nat.zero_le _, hFC, by rw [ya]; rfl⟩
 obtain ⟨k, f, rfl, hk, hF, hA⟩ := hI
 simp only [tt_f0_7]
 refine AE ilI (fun h => ?_) fun h => of_wp ?_
 · have hkm : k < l.n := by omega
   have hL : l.L[k]? = some (l.get k) := Sl.DH l hkm
   refine wN (BL hkm) ?_
   simp only [Int.toNat_natCast]
   refine wC (JI hF (hl.e k hkm) (by omega) (by omega)) fun (y : Int × TFa) hy => ?_
   obtain ⟨y1, y2, y3⟩ := hy
   have hal := Sr hall hA hL
   rw [GO hal] at y2
   refine hD _ ⟨k + 1, _, by rw [CG hkm hl.n], hkm, by rw [show (1 : Int) + ((k + 1 : Nat) : Int) = 1 + k + 1 by omega]; exact y3, ?_⟩ (by simp only [CG hkm hl.n]; omega)
   change _ = some (aF y.2)
   rw [y2]
   exact JF hA hL hal
 obtain rfl : k = l.n := by omega
 have hm : m = aF f := by
  rw [← Sl.A8 l, List.take_length, hall] at hA
  exact Option.some.inj hA
 have htn : f.threads.n = p.AB.n := hF.wf.tn
 have hsm : p.AB.n ≤ 8 := by have := hP.t8; simpa [aP] using this
 simp only [tt_f0_11]
 refine CU (tt := tt_f0_12) (fun x : X_f0_12 => ∃ t : Nat, x = ⟨l, p, e, (p.AB.n : Int), (t : Int), f⟩ ∧ t ≤ p.AB.n) (fun x => (x.Du - x.DU).toNat) (fun _ y => y = true) (fun D2 x hI2 hD2 => ?_) ⟨0, rfl, Nat.zero_le _⟩
 obtain ⟨t, rfl, ht⟩ := hI2
 simp only [tt_f0_12]
 refine AE ilI (fun h2 => ?_) fun _ => rfl
 have htp : t < p.AB.n := by omega
 have htp' : (t : Int) < p.AB.n := by omega
 have nxt : (D_f0_25 D2).wp (⟨l, p, e, (p.AB.n : Int), (t : Int), f⟩ : X_f0_25) fun y => y = true := by
  refine of_wp ?_
  simp only [tt_f0_25, CG htp (show p.AB.n ≤ maxLen by unfold maxLen; omega)]
  exact hD2 _ ⟨t + 1, rfl, htp⟩ (by simp only; omega)
 refine wC (Md hp (L0 hp) hl hn (t : Int)) fun (c : Sl Int × Int) hc => ?_
 rcases hc with ⟨_, n', m', hn', hs', _, _, h0⟩ | ⟨h, _⟩
 rotate_left
 · exact absurd hP h
 obtain ⟨e1, e2⟩ := D1.uniq hs hs'
 subst e2
 obtain ⟨cL, c15, c0⟩ := h0 (by omega) ⟨Int.natCast_nonneg t, htp'⟩
 refine AE (p := c.2 ≠ 0) (by rw [bnI, ieI]) (fun w => absurd c0 w) fun _ => wC (LG (t : Int) f (Int.natCast_nonneg t) (by omega)) fun (rn : Bool) hrn => ?_
 rw [Int.toNat_natCast] at hrn
 have hmem : ∀ z, z ∈ c.1.L ↔ (1 ≤ z ∧ z ≤ 15) ∧ Ax (aP p) (aF f) (DM (aP p) (aF f) (t : Int) z) = true := fun z => by rw [cL, hm]; exact R7
 have h23 : ∀ has : Bool, (has = true ↔ e.Kind ∈ c.1.L) → (D_f0_23 D2).wp (⟨l, p, e, (t : Int), has, (p.AB.n : Int), (t : Int), f⟩ : X_f0_23) fun y => y = true := fun has hh => by
  refine of_wp ?_
  simp only [tt_f0_23]
  refine AE ieI (fun et => wC (ED hF he) fun (v : Bool) hv => ?_) fun _ => nxt
  subst hv
  refine BM (fun ha => AE bnI (fun w => absurd (hh.2 ((hmem _).2 ⟨?_, ?_⟩)) w) fun _ => nxt) fun _ => nxt
  · exact (BX (Ci ha).1.re).1
  · have := TZ hF.inv ha
    rw [et] at this; exact this
 have h17 : (D_f0_17 D2).wp (⟨l, p, e, (t : Int), c.1, (p.AB.n : Int), (t : Int), f⟩ : X_f0_17) fun y => y = true := by
  refine of_wp ?_
  simp only [tt_f0_17]
  refine CU (tt := tt_f0_19 D2) (fun x : X_f0_19 => ∃ (i : Nat) (has : Bool), x = ⟨l, p, e, (t : Int), has, (p.AB.n : Int), (t : Int), c.1, (c.1.n : Int), (i : Int), f⟩ ∧ i ≤ c.1.n ∧ (has = true ↔ ∃ j, j < i ∧ c.1.get j = e.Kind))
   (fun x => (x.Nc - x.LO).toNat) (fun _ y => y = true) (fun D3 x hI3 hD3 => ?_) ⟨0, false, rfl, Nat.zero_le _, ⟨fun h => (by cases h), fun ⟨_, h, _⟩ => absurd h (Nat.not_lt_zero _)⟩⟩
  obtain ⟨i, has, rfl, hi, hh⟩ := hI3
  simp only [tt_f0_19]
  refine AE ilI (fun h3 => ?_) fun h3 => ?_
  · have hic : i < c.1.n := by omega
    have n22 : ∀ has' : Bool, (has' = true ↔ ∃ j, j < i + 1 ∧ c.1.get j = e.Kind) → (D_f0_22 D2 D3).wp (⟨l, p, e, (t : Int), has', (p.AB.n : Int), (t : Int), c.1, (c.1.n : Int), (i : Int), f⟩ : X_f0_22) fun y => y = true := fun has' hh' => by
     refine of_wp ?_
     simp only [tt_f0_22, CG hic (show c.1.n ≤ maxLen by unfold maxLen; omega)]
     exact hD3 _ ⟨i + 1, has', rfl, hic, hh'⟩ (by simp only; omega)
    refine wN (BL hic) (BM (fun a => n22 true ?_) fun a => n22 _ ?_)
    · obtain ⟨j, h4, h5⟩ := hh.1 a
      exact ⟨fun _ => ⟨j, by omega, h5⟩, fun _ => rfl⟩
    · rw [ieI, Int.toNat_natCast]
      constructor
      · intro q; exact ⟨i, by omega, q⟩
      · rintro ⟨j, h4, h5⟩
        by_cases q : j = i
        · subst q; exact h5
        · exact absurd (hh.2 ⟨j, by omega, h5⟩) a
  · obtain rfl : i = c.1.n := by omega
    exact h23 has (hh.trans Sl.CZ.symm)
 refine AE (p := rn ≠ true) bnI (fun hr => AE ilI (fun h4 => ?_) fun _ => h17) fun _ => h17
 exfalso
 have h5 : c.1.get 0 ∈ c.1.L := Sl.CZ.2 ⟨0, by omega, rfl⟩
 have h6 := M7 hF.inv ((hmem _).1 h5).2
 change (KA (aF f) (t : Int)).Status = 0 at h6
 rw [F5 (Int.natCast_nonneg t) (by omega), Int.toNat_natCast] at h6
 exact hr (by rw [hrn, ieI]; exact h6)
def ok_TRg (x : TRg) : Prop := (fun n => (Lit.int .i64 n).wf = true) x.Kind ∧ (fun n => (Lit.int .i64 n).wf = true) x.Cn ∧ (fun n => (Lit.int .i64 n).wf = true) x.AU ∧ True
def fl_TRg_0 : Field := (FG Tryz.prog 101).toList.getD 0 default
def fl_TRg_1 : Field := (FG Tryz.prog 101).toList.getD 1 default
def fl_TRg_2 : Field := (FG Tryz.prog 101).toList.getD 2 default
theorem op_TRg : EC Tryz.prog 101 e_TRg ok_TRg :=
 EC.map (En (fs := FG Tryz.prog 101) (l := fl_TRg_0 :: fl_TRg_1 :: fl_TRg_2 :: []) (by kernel_rfl) (by kernel_rfl) (by kernel_rfl)
  (BT (u := 3) (s := 1) (by kernel_rfl) (by kernel_rfl) (by kernel_rfl) (Bw (k := .i64) (by kernel_rfl)) (BT (u := 3) (s := 1) (by kernel_rfl) (by kernel_rfl) (by kernel_rfl) (Bw (k := .i64) (by kernel_rfl)) (BT (u := 3) (s := 1) (by kernel_rfl) (by kernel_rfl) (by kernel_rfl) (Bw (k := .i64) (by kernel_rfl)) G1)))) (fun x => ⟨x.1, x.2.1, x.2.2.1⟩) (fun _ => rfl) (fun _ h => h)
def ok_TIn (x : TIn) : Prop := (fun n => (Lit.int .i64 n).wf = true) x.Op ∧ (fun n => (Lit.int .i64 n).wf = true) x.A ∧ (fun n => (Lit.int .i64 n).wf = true) x.B ∧ (fun n => (Lit.int .i64 n).wf = true) x.C ∧ (fun n => (Lit.int .i64 n).wf = true) x.D ∧ (fun n => (Lit.int .u64 n).wf = true) x.K ∧ True
def fl_TIn_0 : Field := (FG Tryz.prog 119).toList.getD 0 default
def fl_TIn_1 : Field := (FG Tryz.prog 119).toList.getD 1 default
def fl_TIn_2 : Field := (FG Tryz.prog 119).toList.getD 2 default
def fl_TIn_3 : Field := (FG Tryz.prog 119).toList.getD 3 default
def fl_TIn_4 : Field := (FG Tryz.prog 119).toList.getD 4 default
def fl_TIn_5 : Field := (FG Tryz.prog 119).toList.getD 5 default
theorem op_TIn : EC Tryz.prog 119 e_TIn ok_TIn :=
 EC.map (En (fs := FG Tryz.prog 119) (l := fl_TIn_0 :: fl_TIn_1 :: fl_TIn_2 :: fl_TIn_3 :: fl_TIn_4 :: fl_TIn_5 :: []) (by kernel_rfl) (by kernel_rfl) (by kernel_rfl)
  (BT (u := 3) (s := 1) (by kernel_rfl) (by kernel_rfl) (by kernel_rfl) (Bw (k := .i64) (by kernel_rfl)) (BT (u := 3) (s := 1) (by kernel_rfl) (by kernel_rfl) (by kernel_rfl) (Bw (k := .i64) (by kernel_rfl)) (BT (u := 3) (s := 1) (by kernel_rfl) (by kernel_rfl) (by kernel_rfl) (Bw (k := .i64) (by kernel_rfl)) (BT (u := 3) (s := 1) (by kernel_rfl) (by kernel_rfl) (by kernel_rfl) (Bw (k := .i64) (by kernel_rfl)) (BT (u := 3) (s := 1) (by kernel_rfl) (by kernel_rfl) (by kernel_rfl) (Bw (k := .i64) (by kernel_rfl)) (BT (u := 41) (s := 1) (by kernel_rfl) (by kernel_rfl) (by kernel_rfl) (Bw (k := .u64) (by kernel_rfl)) G1))))))) (fun x => ⟨x.1, x.2.1, x.2.2.1, x.2.2.2.1, x.2.2.2.2.1, x.2.2.2.2.2.1⟩) (fun _ => rfl) (fun _ h => h)
def ok_TPg (x : TPg) : Prop := (Qb ok_TRg) x.AJ ∧ (Qb (Qb ok_TIn)) x.AB ∧ True
def fl_TPg_0 : Field := (FG Tryz.prog 25).toList.getD 0 default
def fl_TPg_1 : Field := (FG Tryz.prog 25).toList.getD 1 default
theorem op_TPg : EC Tryz.prog 25 e_TPg ok_TPg :=
 EC.map (En (fs := FG Tryz.prog 25) (l := fl_TPg_0 :: fl_TPg_1 :: []) (by kernel_rfl) (by kernel_rfl) (by kernel_rfl)
  (BT (u := 22) (s := 1) (by kernel_rfl) (by kernel_rfl) (by kernel_rfl) (FL (e := 101) (s := 3) (d_TRg .undef) (by kernel_rfl) (by kernel_rfl) (by decide) (op_TRg)) (BT (u := 23) (s := 1) (by kernel_rfl) (by kernel_rfl) (by kernel_rfl) (FL (e := 79) (s := 1) (dsl_TIn .undef) (by kernel_rfl) (by kernel_rfl) (by decide) (FL (e := 119) (s := 6) (d_TIn .undef) (by kernel_rfl) (by kernel_rfl) (by decide) (op_TIn))) G1))) (fun x => ⟨x.1, x.2.1⟩) (fun _ => rfl) (fun _ h => h)
def ok_TEv (x : TEv) : Prop := (fun n => (Lit.int .i64 n).wf = true) x.Thread ∧ (fun n => (Lit.int .i64 n).wf = true) x.Kind ∧ (fun n => (Lit.int .i64 n).wf = true) x.Ring ∧ (fun n => (Lit.int .u64 n).wf = true) x.AG ∧ (fun n => (Lit.int .u64 n).wf = true) x.Value ∧ True
def fl_TEv_0 : Field := (FG Tryz.prog 56).toList.getD 0 default
def fl_TEv_1 : Field := (FG Tryz.prog 56).toList.getD 1 default
def fl_TEv_2 : Field := (FG Tryz.prog 56).toList.getD 2 default
def fl_TEv_3 : Field := (FG Tryz.prog 56).toList.getD 3 default
def fl_TEv_4 : Field := (FG Tryz.prog 56).toList.getD 4 default
theorem op_TEv : EC Tryz.prog 56 e_TEv ok_TEv :=
 EC.map (En (fs := FG Tryz.prog 56) (l := fl_TEv_0 :: fl_TEv_1 :: fl_TEv_2 :: fl_TEv_3 :: fl_TEv_4 :: []) (by kernel_rfl) (by kernel_rfl) (by kernel_rfl)
  (BT (u := 3) (s := 1) (by kernel_rfl) (by kernel_rfl) (by kernel_rfl) (Bw (k := .i64) (by kernel_rfl)) (BT (u := 3) (s := 1) (by kernel_rfl) (by kernel_rfl) (by kernel_rfl) (Bw (k := .i64) (by kernel_rfl)) (BT (u := 3) (s := 1) (by kernel_rfl) (by kernel_rfl) (by kernel_rfl) (Bw (k := .i64) (by kernel_rfl)) (BT (u := 41) (s := 1) (by kernel_rfl) (by kernel_rfl) (by kernel_rfl) (Bw (k := .u64) (by kernel_rfl)) (BT (u := 41) (s := 1) (by kernel_rfl) (by kernel_rfl) (by kernel_rfl) (Bw (k := .u64) (by kernel_rfl)) G1)))))) (fun x => ⟨x.1, x.2.1, x.2.2.1, x.2.2.2.1, x.2.2.2.2.1⟩) (fun _ => rfl) (fun _ h => h)
theorem LV : OS Tryz.prog 25 e_TPg ok_TPg :=
 H9 (fs := FG Tryz.prog 25) (by kernel_rfl) op_TPg (fun _ => rfl) (fun _ => rfl)
theorem US {p : TPg} (h : ok_TPg p) : Gm p := by
 obtain ⟨⟨rz, rn, rr⟩, ⟨_, tn, tt⟩, _⟩ := h
 refine ⟨rn, tn, fun t ht => (tt t ht).2.1, fun t ht k hk => ?_, rz, fun t ht => (tt t ht).1⟩
 obtain ⟨_, a, b, c, d, k, _⟩ := (tt t ht).2.2 k hk
 have a := wf_i64 a; have b := wf_i64 b; have c := wf_i64 c; have d := wf_i64 d
 exact ⟨wf_u64 k, by omega, by omega, by omega, by omega⟩
theorem Mj : OS Tryz.prog 26 esl_TEv (Qb ok_TEv) :=
 PE (OH (e := 56) (by kernel_rfl)) (FL (e := 56) (s := 5) (d_TEv .undef) (by kernel_rfl) (by kernel_rfl) (by decide) op_TEv) (fun _ => rfl) (fun _ => rfl)
theorem Ry {e : TEv} (h : ok_TEv e) : O3 e := by
 obtain ⟨_, _, _, t, v, _⟩ := h
 exact ⟨wf_u64 t, wf_u64 v⟩
theorem UT {l : Sl TEv} (h : Qb ok_TEv l) : UU l := ⟨h.2.1, fun i hi => Ry (h.2.2 i hi)⟩

open Go.ChangeShapes Go.WideShapes Go.ChangeAt Go.RowKit
theorem Tryz.own : ownKnob Tryz.prog.godebug = none := by kernel_rfl
theorem Tryz.laidOut : laidOutB Tryz.prog = true := by kernel_rfl
theorem Tryz.Uu : mapsRowed Tryz.prog = true := by kernel_rfl
theorem Tryz.full : ∀ t e, t < Tryz.prog.types.size → Tryz.prog.underlying t = some (.slice e) → 0 < Tryz.prog.cellsOf e := slices_full_of Tryz.prog (by kernel_rfl)
def Gc : Value := .agg #[.slice none 0 0, .slice none 0 0]
open Go.ChangeShapes Go.WideShapes Go.ChangeAt Go.RowKit
theorem N3 : OS Tryz.prog 56 e_TEv ok_TEv := H9 (fs := FG Tryz.prog 56) (by kernel_rfl) op_TEv (fun _ => rfl) (fun _ => rfl)
def IV : Value := .agg #[.int .i64 0, .int .i64 0, .int .i64 0, .int .u64 0, .int .u64 0]
def Sq (k : IntKind) (l : List Int) : Array Value := (l.map fun z => Value.int k z).toArray
def UQ (g : Nat) (c : Array Value) (h : Array Obj) : Array Obj := h.modify g fun
 | .cells _ t frozen => .cells c t frozen
 | o => o
def I3 (os : Os) : World :=
 { World.holding Tryz.prog os ⟨#[], #[], []⟩ with heap := (UQ 0 (Sq .u64 [1, 10, 100, 1000, 10000, 100000, 1000000, 10000000, 100000000, 1000000000, 10000000000, 100000000000, 1000000000000, 10000000000000, 100000000000000, 1000000000000000, 10000000000000000, 100000000000000000, 1000000000000000000, 10000000000000000000])
  (UQ 2 (Sq .u8 [0, 1, 28, 2, 29, 14, 24, 3, 30, 22, 20, 15, 25, 17, 4, 8, 31, 27, 13, 23, 21, 19, 16, 7, 26, 12, 18, 6, 11, 5, 10, 9])
  (UQ 3 (Sq .u8 [0, 1, 56, 2, 57, 49, 28, 3, 61, 58, 42, 50, 38, 29, 17, 4, 62, 47, 59, 36, 45, 43, 51, 22, 53, 39, 33, 30, 24, 18, 12, 5, 63, 55, 48, 27, 60, 41, 37, 16, 46, 35, 44, 21, 52, 32, 23, 11, 54, 26, 40, 15, 34, 20, 31, 10, 25, 14, 19, 9, 13, 8, 7, 6])
  (World.holding Tryz.prog os ⟨#[], #[], []⟩).heap))) }
theorem O7 {s : ChangeSpec} {row : OpenClaim} {os : Os} {f : FuncId} {fn : Func} {F : Stop.Interp} {H : Type} {enc : TypeId × Value → H} (started : os.Started) (noInit : Tryz.prog.inits.idxOf? f = none) (hfn : Tryz.prog.funcs[f]? = some fn)
 (hwit : ∃ (w : World) (tape : Tape) (i : Input), w.os = os ∧ (w.forCall tape i).Shaped Tryz.prog ∧ i.vars = [] ∧ Input.okWide Tryz.prog (w.forCall tape i) .any w.heap.size f i ∧
   (OpenSpec.ofChange s).preRow enc Tryz.prog fn row.domain false row.laid (w.forCall tape i).memory i.args ∧ ({} : Assume).holds Tryz.prog (lone (Frame.enter Tryz.prog f i.args .normal) [] (w.forCall tape i)))
 (hp : (fn.params.toList.all fun t => decide (t < Tryz.prog.types.size)) = true) (hvars : s.vars = []) (hr : fn.resultTypes = #[4])
 (hs : ∀ ds : List (DataW H), ds.length = fn.params.toList.length → s.fn H (ds ++ []) = { results := [.lit (.bool true)], args := ds })
 (IF : ∀ (W : World) (base : Nat) (args : Array Value) (ds : List (DataW H)) (ps : List MemPlace),
   (∀ (j : Nat) t v, fn.params[j]? = some t → args[j]? = some v → Value.okWide Tryz.prog W .any base t v) →
   DataW.TrodAll enc Tryz.prog W 0 (fun _ => true) true fn.params.toList args.toList ds ps →
   Calls Tryz.prog f args W fun e w' => e = .returned (.bool true) ∧ Below W.heap.size W w') :
 ReturnsInHanded {} Tryz.checked os f .any ((OpenSpec.ofChange s).preRow enc Tryz.prog fn row.domain false row.laid) (((OpenSpec.ofChange s).at F).post enc Tryz.prog fn false true false false) := by
 refine returnsInHanded_of_row (C := Tryz.checked) (s := OpenSpec.ofChange s) Tryz.own started noInit hfn hwit ?_
 intro W base args ds gs before hval hW _ _ _ hL _ _
 have hW' : DataW.Whole enc Tryz.prog fn.params.toList s.vars false W args.toList ds gs before := hW
 have hW := hW'
 obtain ⟨p, q, hA, hV, rfl, _, _⟩ := hW
 rw [hvars] at hV
 obtain ⟨rfl, rfl⟩ := trodVars_none hV
 simp only [List.append_nil] at hW'
 refine (IF W base args ds p hval hA).mono fun e W' ⟨he, hB⟩ => ⟨_, he, ?_⟩
 exact QV (s := s) Tryz.laidOut Tryz.Uu Tryz.full (fun t ht => of_decide_eq_true (List.all_eq_true.1 hp t ht)) hvars hr (by kernel_rfl) (hs ds (Go.trodAll_length hA).2) hW' hA hB
open Go.ChangeShapes Go.WideShapes Go.ChangeAt Go.RowKit
theorem SG (os : Os) (args : Array Value) : laidMet Tryz.prog Rows.judgeAllowsRow.laid ((I3 os).forCall (fun _ _ => 0) ⟨#[], args, []⟩).memory :=
 laidMet_of_run' 8 (by kernel_rfl) (by kernel_rfl)
theorem HZ (os : Os) (started : os.Started) (H : Type) (enc : TypeId × Value → H) (F : Stop.Interp) :
 ReturnsInHanded {} Tryz.checked os 7 .any ((OpenSpec.ofChange Rows.judgeAllowsSpec).preRow enc Tryz.prog Tryz.f7 Rows.judgeAllowsRow.domain false Rows.judgeAllowsRow.laid) (((OpenSpec.ofChange Rows.judgeAllowsSpec).at F).post enc Tryz.prog Tryz.f7 false true false false) := by
 obtain ⟨x, hx⟩ := Option.isSome_iff_exists.1 (show (DataW.whole enc Tryz.prog ((I3 os).forCall (fun _ _ => 0) ⟨#[], #[Gc, .slice none 0 0, IV], []⟩).memory Tryz.f7.params.toList Rows.judgeAllowsSpec.vars false (#[Gc, .slice none 0 0, IV] : Array Value).toList 8).isSome = true by kernel_rfl)
 refine O7 (s := Rows.judgeAllowsSpec) (row := Rows.judgeAllowsRow) started (by kernel_rfl) Tryz.func7
  (witness_row_at (enc := enc) (C := Tryz.checked) false (I3 os) #[Gc, .slice none 0 0, IV] rfl (by kernel_rfl) (by kernel_rfl) (by kernel_rfl)
    (OpenSpec.preRow_of_cond 8 hx (by kernel_rfl) (fun k hk => by cases hk) (by kernel_rfl) (SG os _)))
  (by kernel_rfl) rfl rfl ?_ ?_
 · intro ds hl
   match ds, hl with
   | [_, _, _], _ => rfl
 · intro W base args ds ps hval hA
   rw [Tryz.params7] at hA hval
   obtain ⟨v0, v1, v2, d0, d1, d2, p0, p1, p2, rfl, rfl, rfl, h0, h1, h2⟩ := trodAll_three hA
   obtain ⟨a, ha, ra⟩ := LV H enc W base v0 d0 p0 (hval 0 25 v0 rfl rfl) h0
   obtain ⟨b, hb, rb⟩ := Mj H enc W base v1 d1 p1 (hval 1 26 v1 rfl rfl) h1
   obtain ⟨c, hc, rc⟩ := N3 H enc W base v2 d2 p2 (hval 2 56 v2 rfl rfl) h2
   obtain ⟨y, hy, rfl⟩ := Jk a b c (US ha) (UT hb) (Ry hc)
   refine PR (con_f0.ok (a, (b, c)) true hy) (fun j x v hx hv => ?_) rfl
   match j, hx, hv with
   | 0, hx, hv => change some (e_TPg a) = some x at hx; cases hx; simp at hv; subst hv; exact ra
   | 1, hx, hv => change some (esl_TEv b) = some x at hx; cases hx; simp at hv; subst hv; exact rb
   | 2, hx, hv => change some (e_TEv c) = some x at hx; cases hx; simp at hv; subst hv; exact rc
theorem I4 : Rows.JudgeAllowsSaid :=
 OpenClaim.holds_of_cond 7 Tryz.f7 rfl rfl rfl rfl rfl rfl rfl ⟨rfl, rfl, rfl, rfl, rfl⟩ rfl rfl rfl rfl rfl (by kernel_rfl) Tryz.func7 (by kernel_rfl)
  (of_decide_eq_true (by kernel_rfl)) (by unfold Func.isWrapper; first | (rw [if_pos (by decide +kernel)]; kernel_rfl) | (rw [if_neg (by decide +kernel)]; exact ⟨rfl, rfl⟩))
  (fun os started H enc _ F => by rw [OpenClaim.pre_eq_preRow]; exact HZ os started H enc F)
theorem H6 (f : FuncId) (fn : Func) (hf : Tryz.pinned.checked.prog.funcNamed "rondeau/rondeaulaw24.JudgeAllows" = some f) (hfn : Tryz.pinned.checked.prog.funcs[f]? = some fn) :
 false = Tryz.pinned.checked.prog.looks [] ∧ ∀ (j : Nat) t, fn.params[j]? = some t → Tryz.pinned.checked.prog.wantsStandIn t = false := by
 obtain rfl : f = 7 := Option.some.inj ((show Tryz.prog.funcNamed "rondeau/rondeaulaw24.JudgeAllows" = some 7 by kernel_rfl).symm.trans hf) |>.symm
 obtain rfl : fn = Tryz.f7 := (Option.some.inj (Tryz.func7.symm.trans hfn)).symm
 refine ⟨by kernel_rfl, fun j t ht => ?_⟩
 have hall : (Tryz.f7.params.toList.all fun t => !Tryz.prog.wantsStandIn t) = true := by kernel_rfl
 have := List.all_eq_true.1 hall t (Array.mem_toList_iff.2 (Array.mem_of_getElem? ht))
 exact (show Tryz.prog.wantsStandIn t = false by simpa using this)
theorem judgeAllows_holds : Rows.JudgeAllowsCardSaid :=
 Claim7.holds_tied_plain_at .later [] _ _ _ _ I4 (fun _ h => by cases h) (by kernel_rfl) (fun _ h => by cases h) judgeAllows_row_tie rfl ⟨rfl, rfl⟩ (by kernel_rfl) rfl H6 (by kernel_rfl)
end Go.Proofs.YtlhifcnjnmeknaaGreatDoor
end
