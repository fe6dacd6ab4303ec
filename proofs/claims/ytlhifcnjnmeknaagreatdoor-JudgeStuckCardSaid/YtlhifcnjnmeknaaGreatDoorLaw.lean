/- For every program and all events: whether all is stuck behind them is what the document says, or it is refused; what was handed in reads as it did. No conditions beyond the card's own. -/
import Derived.Test.YtlhifcnjnmeknaaGreatDoorLawA
import Derived.Test.YtlhifcnjnmeknaaGreatDoorRows
import Derived.Test.YtlhifcnjnmeknaaGreatDoorCards
import Derived.Test.YtlhifcnjnmeknaaGreatDoorTie
import Derived.Deep.DeepHandedRow
noncomputable section
namespace Go.Proofs.YtlhifcnjnmeknaaGreatDoor
open Go Go.Vm Go.Proofs
set_option maxRecDepth 10000
set_option maxRecDepth 100000
theorem w_f2k (c r : Int) (hc : 1 ≤ c ∧ c ≤ 64) : D_f2k.wp (c, r) fun y => y.L.L = (List.range c.toNat).map G3 ∧ y.AQ = r := by
 refine of_wp ?_
 simp only [tt_f2k]
 obtain ⟨n, rfl⟩ : ∃ n : Nat, c = n := ⟨c.toNat, by omega⟩
 rw [Int.toNat_natCast]
 refine C8 (tt := tt_f2k_3) (fun x : X_f2k_3 => x.EF = n ∧ ∃ k : Nat, x.N0 = k ∧ k ≤ n ∧ x.A7.L.n = k ∧ x.A7.AQ = r ∧ ∀ i, i < k → x.A7.L.get i = G3 i) (fun x => (n - x.N0).toNat)
  (fun _ y => y.L.L = (List.range n).map G3 ∧ y.AQ = r) (fun D x hI hD => ?_) ⟨rfl, 0, rfl, Nat.zero_le _, rfl, rfl, fun i hi => by omega⟩
 obtain ⟨pl, i, m4, ⟨L, rd⟩⟩ := x
 obtain ⟨e0, k, e1, hk, hn, e2, hg⟩ := hI
 simp only at e0 e1 hn e2 hg hD
 subst e0 e1 e2 hn
 simp only [tt_f2k_3]
 refine AE ilI (fun h => wN (by simp [room]; omega) ?_) fun h => ⟨?_, rfl⟩
 · have e3 : IntKind.i64.wrap ((L.n : Int) + 1) = ((L.n + 1 : Nat) : Int) := by rw [wrap64] <;> omega
   rw [e3, Aj (z := (L.n : Int)) (by omega) (by omega), Aj (z := 2 * (L.n : Int)) (by omega) (by omega)]
   refine OM (T' := snoc L (G3 L.n)) (fun T => D.wp (⟨(n : Int), ((L.n + 1 : Nat) : Int), m4, ⟨T, rd⟩⟩ : X_f2k_3) _) rfl rfl (fun i => ?_) (hD _ ⟨rfl, L.n + 1, rfl, by omega, rfl, rfl, fun i hi => ?_⟩ (by simp only; omega))
   · show (⟨_, _, _⟩ : TSo) = cond (Nat.blt i L.n) _ _
     cases Nat.blt i L.n <;> rfl
   · by_cases q : i = L.n
     · subst q; exact Gi
     · rw [show (snoc L (G3 L.n)).get i = L.get i from Gh (by omega)]; exact hg i (by omega)
 · have : L.n = n := by omega
   subst this
   apply List.ext_getElem
   · simp
   · intro i h1 h2
     rw [Sl.F6]
     simp only [List.getElem_map, List.getElem_range]
     exact hg i (by simpa using h1)
theorem w_f4c (c : TRg) (hc : Ay c = true) : D_f4c.wp c fun y => R3 c 1 y ∧ Cp y = F9 c := by
 have hf := CQ hc
 refine of_wp ?_
 simp only [tt_f4c]
 refine wN (by simp [upto, room, BW]; omega) (wC (w_f2k c.Cf c.AQ (by omega)) fun (y : TR2) hy => ?_)
 have e : ∀ {z : TR3}, Cp z = F9 c → z.Cf = c.Cf → z.S.AQ = c.AQ → R3 c 1 z ∧ Cp z = F9 c := fun a k1 k2 => ⟨⟨hc, k1, k2, by rw [a]; exact Cz.new hc (by decide), by decide⟩, a⟩
 refine e ?_ (Aj (by omega) (by omega)) hy.2
 show (⟨0, _, false, y.L.L⟩ : MR) = _
 rw [hy.1, Iy]
 rfl
theorem w_f2l (p : TPg) (hp : G6 p) (hP : De (aP p)) : D_f2l.wp p fun y => aS y = FF (aP p) ∧ SV p 1 0 y := by
 obtain ⟨_, h8, hr8, _, hl⟩ := BV hP
 refine of_wp ?_
 simp only [tt_f2l]
 refine wN (by simp [upto, room, BW]; omega) ?_
 rw [Int.toNat_natCast]
 refine C8 (tt := tt_f2l_3) (fun x : X_f2l_3 => x.CV = p ∧ ∃ k : Nat, x.DH = k ∧ k ≤ p.AJ.n ∧ x.A0.AB = ⟨false, p.AB.n, fun _ => ⟨0, 0, 0, 0, 0, fun _ => 0, ⟨true, 0, fun _ => 0⟩⟩⟩ ∧ x.A0.Gz = 0 ∧ x.A0.Reads = 0 ∧ x.A0.CB = false ∧ x.A0.AJ.n = k ∧ ∀ i, i < k → Kk (x.A0.AJ.get i) = F9 (p.AJ.get i))
  (fun x => (p.AJ.n - x.DH).toNat) (fun _ y => aS y = FF (aP p) ∧ SV p 1 0 y) (fun D x hI hD => ?_) ⟨rfl, 0, rfl, Nat.zero_le _, rfl, rfl, rfl, rfl, rfl, fun i hi => by omega⟩
 obtain ⟨p', i, m2, ⟨mt, mr, mn, md, me⟩⟩ := x
 obtain ⟨e0, k, e1, hk, e2, e3, e4, e5, hn, hg⟩ := hI
 simp only at e0 e1 e2 e3 e4 e5 hn hg hD
 subst e0 e1 e2 e3 e4 e5 hn
 simp only [tt_f2l_3]
 refine AE ilI (fun h => ?_) fun h => ?_
 · have hkm : mr.n < p'.AJ.n := by omega
   refine wN (BI hkm) ?_
   rw [Int.toNat_natCast]
   refine wC (w_f4c _ (rg_of hP hkm)) fun (y : TR3) hy => wC (w_f3k hy.1) fun (z : TRs) hz => wN (by simp [room]; omega) ?_
   rw [Cn hkm hp.rn]
   refine OM (T' := snoc mr z) (fun T => D.wp (⟨p', ((mr.n + 1 : Nat) : Int), m2, ⟨_, T, 0, 0, false⟩⟩ : X_f2l_3) _) rfl rfl (fun i => ?_) (hD _ ⟨rfl, mr.n + 1, rfl, hkm, rfl, rfl, rfl, rfl, rfl, fun i hi => ?_⟩ (by simp only; omega))
   · show (⟨_, ⟨_, _, _⟩, _, ⟨_, _, _⟩⟩ : TRs) = cond (Nat.blt i mr.n) _ _
     cases Nat.blt i mr.n <;> rfl
   · by_cases q : i = mr.n
     · subst q; rw [show (snoc mr z).get mr.n = z from Gi, hz.1, hy.2]
     · rw [show (snoc mr z).get i = mr.get i from Gh (by omega)]; exact hg i (by omega)
 · have hrn : mr.n = p'.AJ.n := by omega
   have ea : ∀ {s : TSt}, s = ⟨⟨false, p'.AB.n, fun _ => ⟨0, 0, 0, 0, 0, fun _ => 0, ⟨true, 0, fun _ => 0⟩⟩⟩, mr, 0, 0, false⟩ → aS s = FF (aP p') := fun {s} hs => by
    subst hs
    unfold aS FF
    simp only [MS.mk.injEq, and_true]
    refine ⟨?_, Ff hrn fun i hi => hg i (hrn ▸ hi)⟩
    simp only [aP, List.map_map]
    exact Ff rfl fun i _ => rfl
   have ea' := ea rfl
   exact ⟨ea', ⟨⟨hp, by rw [ea']; exact PD hP, fun t _ => Nr 0, by decide, by decide⟩, by rw [ea']; exact R8⟩⟩
section
variable {p : TPg} {B : Int} {k : Nat} {f : TFa}
theorem Um (f : TFa) : D_f1e.wp f fun y => y = f.now := CW rfl
theorem Vf (f : TFa) (hn : f.threads.n ≤ maxLen) : D_f1l.wp f fun y => y = true ↔ ∀ t, t < f.threads.n → (f.threads.get t).Status ≠ 0 := by
 have hI : D_f0.wp (⟨f.threads.n, f.threads.get⟩ : Ar TTh) fun y => 0 ≤ y ↔ ¬ ∀ t, t < f.threads.n → (f.threads.get t).Status ≠ 0 := by
  refine CW ?_
  simp only [tt_f0]
  refine Ki (fun k => (⟨f.threads.n, (k : Nat), ⟨f.threads.n, f.threads.get⟩⟩ : X_f0_2)) f.threads.n (fun t => (f.threads.get t).Status ≠ 0) _ (fun D hJ => ?_) (fun D k hk hD => ?_)
  · simp only [tt_f0_2, BQ, Nat.lt_irrefl, decide_false, CO]
    exact ⟨fun h => absurd h (by show ¬ (0 : Int) ≤ -1; decide), fun h => absurd hJ h⟩
  · simp only [tt_f0_2, BQ, hk, decide_true, C4, Int.toNat_natCast, Nat.zero_add, Cn hk hn]
    have h1 : D_f2e.wp (f.threads.get k) fun y => y = true ↔ (f.threads.get k).Status = 0 := by
     refine of_wp ?_
     simp only [tt_f2e]
     exact ieI
    refine wN (BI hk) (wN (by simp) (wC h1 fun (y : Bool) hy => ?_))
    exact AE hy (fun h => ⟨fun _ k2 => k2 k hk h, fun _ => Int.natCast_nonneg k⟩) fun h => hD h
 have hC : D_f7.wp (⟨f.threads.n, f.threads.get⟩ : Ar TTh) fun y => y = true ↔ ¬ ∀ t, t < f.threads.n → (f.threads.get t).Status ≠ 0 := by
  refine CW ?_
  simp only [tt_f7]
  exact wC hI fun (y : Int) hy => leI.trans hy
 refine CW ?_
 simp only [tt_f1l]
 refine wC hC fun (y : Bool) hy => wN (by simp) (bnI.trans ?_)
 rw [hy]
 exact Decidable.not_not
theorem Ut (h : FC p B k f) (i : Int) : D_fh.wp (i, f) fun y => (0 ≤ i ∧ i < p.AJ.n → y.nil = false ∧ Qf (p.AJ.get i.toNat) y.x ∧ aR y.x = DP (aF f) i) ∧ (¬ (0 ≤ i ∧ i < p.AJ.n) → y.nil = true) := by
 have hfr := h.wf.rn
 refine CW ?_
 simp only [tt_fh]
 refine AE ilI (fun q => ⟨fun z => by omega, fun _ => rfl⟩) fun q1 => AE leI (fun q => wN (by simp) ⟨fun z => by omega, fun _ => rfl⟩) fun q2 => wN (by simp) (of_wp ?_)
 have h0 : 0 ≤ i := by omega
 have h1 : i < p.AJ.n := by omega
 obtain ⟨hC, hnil, hrn⟩ := h.ring h0 h1
 have hi : i.toNat < p.AJ.n := by omega
 have hcp := h.wf.cp
 have hb := h.hB
 simp only [tt_fh_3, Nat.zero_add]
 refine wN (by rw [ibI, hcp.r.n]; omega) (wN (by rw [ibI]; omega) (wN (by simp [hnil]) (wC (Lg (p.AJ.get i.toNat) _ hC.rg hC.wf) fun (s : TRs) hs => ?_)))
 obtain ⟨e1, e2, e3⟩ := hs
 rw [hcp.r.g _ hi]
 have hI := hC.inv
 rw [← e1] at hI
 refine wC (w_fb (p.AJ.get i.toNat) s hC.rg (Si hC.rg hI (by omega) e2 e3)) fun (z : Bx TRr × Int) hz => wN (by simp [hnil]; omega) (Cr (wN (by simp) ?_))
 rcases hz with ⟨_, _, zn, zw, za⟩ | ⟨hno, _⟩
 · exact ⟨fun _ => ⟨zn, zw, by rw [za, e1, hrn]⟩, fun z => absurd ⟨h0, h1⟩ z⟩
 · exact absurd (Q2 hC.rg hI (by omega)) hno
end
theorem Su (p : TPg) (hp : G6 p) : D_f1r.wp (p, 100) fun y => y = true → p.AJ.n ≤ 10 ∧ p.AB.n ≤ 10 ∧ ∀ t, t < p.AB.n → (p.AB.get t).n ≤ 100 := by
 refine of_wp ?_
 simp only [tt_f1r]
 refine AE ilI (fun _ => fun h => by cases h) fun h1 => AE ilI (fun _ => fun h => by cases h) fun h2 => of_wp ?_
 simp only [tt_f1r_3]
 refine C8 (tt := tt_f1r_5) (fun x : X_f1r_5 => x.GU = 100 ∧ x.H4 = p ∧ ∃ k : Nat, x.N0 = k ∧ k ≤ p.AB.n ∧ ∀ t, t < k → (p.AB.get t).n ≤ 100) (fun x => (p.AB.n - x.N0).toNat) (fun _ y => y = true → p.AJ.n ≤ 10 ∧ p.AB.n ≤ 10 ∧ ∀ t, t < p.AB.n → (p.AB.get t).n ≤ 100) (fun D x hI hD => ?_) ⟨rfl, rfl, 0, rfl, Nat.zero_le _, fun t ht => by omega⟩
 obtain ⟨m, p', n, i⟩ := x
 obtain ⟨e0, e1, k, e2, hk, hg⟩ := hI
 simp only at e0 e1 e2 hg hD
 subst e0 e1 e2
 simp only [tt_f1r_5]
 refine AE ilI (fun h => ?_) fun h => fun _ => ⟨by omega, by omega, fun t ht => hg t (by omega)⟩
 have hkm : k < p'.AB.n := by omega
 refine wN (BI hkm) ?_
 rw [Int.toNat_natCast]
 refine AE ilI (fun _ => fun h => by cases h) fun h3 => wN (BI hkm) ?_
 rw [Cn hkm hp.tn]
 refine hD _ ⟨rfl, rfl, k + 1, rfl, hkm, fun t ht => ?_⟩ (by simp only; omega)
 by_cases e : t = k
 · subst e; omega
 · exact hg t (by omega)
theorem law_f42 (p : TPg) (hp : G6 p) : D_f42.wp p fun y => y = true ↔ De (aP p) := by
 refine of_wp ?_
 simp only [tt_f42]
 exact wC (w_f41 p hp) fun (y : Bool) hy => hy
theorem RX (p : TPg) (h : p.AJ.n ≤ 10 ∧ p.AB.n ≤ 10 ∧ ∀ t, t < p.AB.n → (p.AB.get t).n ≤ 100) : D_f2b.wp p fun y => Fh y p := by
 obtain ⟨h1, h2, h3⟩ := h
 refine of_wp ?_
 simp only [tt_f2b, Nat.zero_add, Ka, cond_false, Nat.sub_zero]
 refine wN (by simp [room]; omega) ?_
 refine C8 (tt := tt_f2b_3) (fun x : X_f2b_3 => x.CV = p ∧ ∃ k : Nat, x.DH = k ∧ k ≤ p.AB.n ∧ DO x.A0.AJ p.AJ ∧ CN x.A0.AJ ∧ x.A0.AB.n = k ∧ ∀ t, t < k → DO (x.A0.AB.get t) (p.AB.get t) ∧ CN (x.A0.AB.get t)) (fun x => (p.AB.n - x.DH).toNat)
  (fun _ y => Fh y p) (fun D x hI hD => ?_) ⟨rfl, 0, rfl, Nat.zero_le _, ⟨rfl, fun i _ => rfl⟩, fun e => by simp only [Bool.cond_self, Bool.false_eq_true] at e, rfl, fun t ht => by omega⟩
 obtain ⟨p', i, m2, ⟨mr, mt⟩⟩ := x
 obtain ⟨e0, k, e1, hk, hs, hz, hn, hg⟩ := hI
 simp only at e0 e1 hs hz hn hg hD
 subst e0 e1 hn
 simp only [tt_f2b_3, Nat.zero_add, Ka, cond_false, Nat.sub_zero]
 refine AE ilI (fun h => ?_) fun h => ⟨hs, hz, by show mt.n = _; omega, fun t ht => hg t (by omega)⟩
 have hkm : mt.n < p'.AB.n := by omega
 have hln := h3 mt.n hkm
 rw [Int.toNat_natCast]
 refine wN (BI hkm) (wN (by simp [room]; omega) (wN (by simp [room]; omega) ?_))
 have e3 : IntKind.i64.wrap ((mt.n : Int) + 1) = ((mt.n + 1 : Nat) : Int) := by rw [wrap64] <;> omega
 rw [e3]
 refine OM (T' := snoc mt ⟨false, (p'.AB.get mt.n).n, (p'.AB.get mt.n).get⟩) (fun T => D.wp (⟨p', ((mt.n + 1 : Nat) : Int), m2, ⟨mr, T⟩⟩ : X_f2b_3) _) rfl rfl (fun i => ?_) (hD _ ⟨rfl, mt.n + 1, rfl, hkm, hs, hz, rfl, fun t ht => ?_⟩ (by simp only; omega))
 · show (⟨_, _, _⟩ : Sl TIn) = cond (Nat.blt i mt.n) _ _
   rw [Bool.cond_self]
   cases Nat.blt i mt.n <;> rfl
 · by_cases q : t = mt.n
   · subst q
     rw [show (snoc mt ⟨false, (p'.AB.get mt.n).n, (p'.AB.get mt.n).get⟩).get mt.n = _ from Gi]
     exact ⟨⟨rfl, fun _ _ => rfl⟩, fun e => by cases e⟩
   · rw [show (snoc mt ⟨false, (p'.AB.get mt.n).n, (p'.AB.get mt.n).get⟩).get t = mt.get t from Gh (by omega)]
     exact hg t (by omega)
structure TJ (l : Sl TEv) : Prop where
 n : l.n ≤ maxLen
 e : ∀ i, i < l.n → P2 (l.get i)
theorem T4 {p q : TPg} (hp : G6 p) (hc : Fh q p) (hP : De (aP p)) {f : TFa} (hF : FWf q 0 f) (ha : aF f = FF (aP q)) : FC p 1 0 f ∧ aF f = FF (aP p) := by
 have hqp := hc.same
 rw [hqp] at ha
 have h1 := hF.cp
 have cp : Fh f.p p := ⟨⟨h1.r.n.trans hc.r.n, fun i hi => (h1.r.g i (by rw [hc.r.n]; exact hi)).trans (hc.r.g i hi)⟩, h1.rz, h1.n.trans hc.n, fun t ht => by
  have a := h1.t t (by rw [hc.n]; exact ht)
  have b := (hc.t t ht).1
  exact ⟨⟨a.1.n.trans b.n, fun i hi => (a.1.g i (by rw [b.n]; exact hi)).trans (b.g i hi)⟩, a.2⟩⟩
 refine ⟨⟨hp, by rw [ha]; exact PD hP, ⟨cp, hF.tn.trans hc.n, hF.tw, hF.rn.trans hc.r.n, fun i hi => ?_⟩, by rw [ha]; exact R8, by decide, by decide⟩, ha⟩
 have := hF.rw i hi
 have hi' : i < p.AJ.n := by have := hF.rn; have := hc.r.n; omega
 rw [hc.r.g i hi'] at this
 exact this
theorem TR {p q : TPg} (hp : G6 p) (hq : Fh q p) {l : Sl TEv} (hl : TJ l) (hn : l.n ≤ 65536) :
 D_ft.wp (q, l) fun y => (De (aP p) ∧ y.2.2 = 0 ∧ y.1.nil = false ∧ ∃ n : Nat, y.2.1 = n ∧ n ≤ l.n ∧ FC p (1 + ((n + 1 : Nat) : Int)) (n + 1) y.1.x ∧ Fe (aP p) l.L n (aF y.1.x)) ∨ (¬ De (aP p) ∧ y.1.nil = true ∧ y.2 = (0, 1)) := by
 refine of_wp ?_
 simp only [tt_ft]
 refine wC (w_f1j q (hq.G6 hp) 0) fun (y : Bx TFa × Int) hy => ?_
 rw [hq.same] at hy
 rcases hy with ⟨hP, y2, yn, yF, ya⟩ | ⟨hno, y2, yn⟩
 rotate_left
 · exact AE (p := y.2 ≠ 0) (by rw [bnI, ieI]) (fun _ => .inr ⟨hno, rfl, rfl⟩) fun e => absurd (by rw [y2]; decide) e
 rw [← hq.same] at ya
 obtain ⟨hFC, ya⟩ := T4 hp hq hP yF ya
 refine AE (p := y.2 ≠ 0) (by rw [bnI, ieI]) (fun e => absurd y2 e) fun _ => AE ilI (fun e => by omega) fun _ => wN (by simp [yn]) ?_
 refine C8 (tt := tt_ft_7) (fun x : X_ft_7 => x.FV = l ∧ x.IK = l ∧ x.SX = l.n ∧ ∃ k : Nat, x.Fl = k ∧ k ≤ l.n ∧ FC p (1 + k) k x.Gn ∧ KI (aP p) (l.L.take k) (FF (aP p)) = some (aF x.Gn)) (fun x => (l.n - x.Fl).toNat)
  (fun _ y => (De (aP p) ∧ y.2.2 = 0 ∧ y.1.nil = false ∧ ∃ n : Nat, y.2.1 = n ∧ n ≤ l.n ∧ FC p (1 + ((n + 1 : Nat) : Int)) (n + 1) y.1.x ∧ Fe (aP p) l.L n (aF y.1.x)) ∨ (¬ De (aP p) ∧ y.1.nil = true ∧ y.2 = (0, 1))) (fun D x hI hD => ?_)
  ⟨rfl, rfl, rfl, 0, rfl, Nat.zero_le _, hFC, by rw [ya]; rfl⟩
 obtain ⟨l0, l', q24, q25, f⟩ := x
 obtain ⟨e0, e1, e2, k, e3, hk, hF, hA⟩ := hI
 simp only at e0 e1 e2 e3 hF hA hD
 subst e0 e1 e2 e3
 simp only [tt_ft_7]
 refine AE ilI (fun h => ?_) fun h => of_wp ?_
 · have hkm : k < l'.n := by omega
   have hE := hl.e k hkm
   have hL : l'.L[k]? = some (l'.get k) := Sl.Db l' hkm
   refine wN (BI hkm) ?_
   simp only [Int.toNat_natCast]
   refine wC (Ms hF hE (by omega) (by omega)) fun (y : Int × TFa) hy => ?_
   obtain ⟨y1, y2, y3⟩ := hy
   have y3' : FC p (1 + ((k + 1 : Nat) : Int)) (k + 1) y.2 := by rw [show (1 : Int) + ((k + 1 : Nat) : Int) = 1 + k + 1 by omega]; exact y3
   refine AE (p := y.1 ≠ 0) (by rw [bnI, ieI]) (fun q => .inl ⟨hP, rfl, rfl, k, rfl, hk, y3', ?_⟩) fun q => ?_
   · have hna : BU (aP p) (aF f) (l'.get k) = false := by
      cases w : BU (aP p) (aF f) (l'.get k)
      · rfl
      · exact absurd (y1.trans (Jd.2 w)) q
     change Fe (aP p) l'.L k (aF y.2)
     rw [y2, (Jx hna).2]
     exact ⟨by rw [Sl.BL]; exact hk, hA, fun e he => by rw [hL] at he; cases he; exact hna⟩
   · have hAl : BU (aP p) (aF f) (l'.get k) = true := Jd.1 (y1.symm.trans (Classical.byContradiction q))
     rw [HP hAl] at y2
     refine hD _ ⟨rfl, rfl, rfl, k + 1, by rw [Cn hkm hl.n], hkm, y3', ?_⟩ (by simp only [Cn hkm hl.n]; omega)
     change _ = some (aF y.2)
     rw [y2]
     exact La hA hL hAl
 · obtain rfl : k = l'.n := by omega
   simp only [tt_ft_12]
   refine .inl ⟨hP, rfl, rfl, l'.n, rfl, hk, hF.grow (by omega) (by omega), by rw [Sl.BL]; exact hk, hA, fun e he => ?_⟩
   rw [Sl.Db?, if_neg (by omega)] at he
   cases he
theorem Ll : D_f3p.ev 1000 PUnit.unit = some true := by kernel_rfl
theorem QE : D_f3p.wp PUnit.unit fun y => y = true := ⟨true, D_f3p.GG 1000 _ _ Ll, rfl⟩
theorem w_f1n {p : TPg} (hp : G6 p) (hP : De (aP p)) {l : Sl TEv} (hl : TJ l) (hn : l.n ≤ 65536) :
 D_f1n.wp (p, l) fun y => ∃ n : Nat, y.2 = n ∧ n ≤ l.n ∧ SV p (1 + n) n y.1 ∧ Fe (aP p) l.L n (aS y.1) := by
 refine of_wp ?_
 simp only [tt_f1n]
 refine wC (w_f2l p hp hP) fun (s : TSt) hs => ?_
 refine C8 (tt := tt_f1n_3) (fun x : X_f1n_3 => x.FV = l ∧ x.H4 = p ∧ ∃ k : Nat, x.TL = k ∧ k ≤ l.n ∧ SV p (1 + k) k x.HI ∧ KI (aP p) (l.L.take k) (FF (aP p)) = some (aS x.HI)) (fun x => (l.n - x.TL).toNat)
  (fun _ y => ∃ n : Nat, y.2 = n ∧ n ≤ l.n ∧ SV p (1 + n) n y.1 ∧ Fe (aP p) l.L n (aS y.1)) (fun D x hI hD => ?_)
  ⟨rfl, rfl, 0, rfl, Nat.zero_le _, hs.2, by change _ = some (aS s); rw [hs.1]; rfl⟩
 obtain ⟨l0, p0, i7, m4, s'⟩ := x
 obtain ⟨e0, e1, k, e3, hk, hS, hA⟩ := hI
 simp only at e0 e1 e3 hS hA hD
 subst e0 e1 e3
 simp only [tt_f1n_3]
 refine AE ilI (fun h => ?_) fun h => of_wp ?_
 · have hkm : k < l0.n := by omega
   have hE := hl.e k hkm
   have hL : l0.L[k]? = some (l0.get k) := Sl.Db l0 hkm
   refine wN (BI hkm) ?_
   simp only [Int.toNat_natCast]
   refine wC (w_f4i hS hE (by omega) (by omega)) fun (y : Int × TSt) hy => ?_
   obtain ⟨y1, y2, y3⟩ := hy
   refine AE (p := y.1 ≠ 0) (by rw [bnI, ieI]) (fun q => ⟨k, rfl, hk, hS, by rw [Sl.BL]; exact hk, hA, fun e he => ?_⟩) fun q => ?_
   · rw [hL] at he
     cases he
     cases w : BU (aP p0) (aS s') (l0.get k)
     · rfl
     · exact absurd (y1.trans (Jd.2 w)) q
   · have hAl : BU (aP p0) (aS s') (l0.get k) = true := Jd.1 (y1.symm.trans (Classical.byContradiction q))
     rw [HP hAl] at y2
     refine hD _ ⟨rfl, rfl, k + 1, by rw [Cn hkm hl.n], hkm, by rw [show (1 : Int) + ((k + 1 : Nat) : Int) = 1 + k + 1 by omega]; exact y3, ?_⟩ (by simp only [Cn hkm hl.n]; omega)
     change _ = some (aS y.2)
     rw [y2]
     exact La hA hL hAl
 · obtain rfl : k = l0.n := by omega
   simp only [tt_f1n_9]
   refine ⟨l0.n, rfl, hk, hS, by rw [Sl.BL]; exact hk, hA, fun e he => ?_⟩
   rw [Sl.Db?, if_neg (by omega)] at he
   cases he
theorem Tl {l : Sl TEv} (h : TJ l) {b : Bool} : TJ ⟨b, l.n, l.get⟩ := ⟨h.n, h.e⟩
section
variable {P : MP} {b : Int} {m m0 : MS}
theorem VQ : ∀ {l : List TEv} {m0 : MS}, KI P l m0 = some m → m.Gz ≤ m0.Gz + 1048576 * l.length := by
 intro l
 induction l with
 | nil => intro m0 h; cases h; simp
 | cons e l ih =>
   intro m0 h
   change (if _ then _ else _) = _ at h
   split at h
   · rename_i ha
     have h1 := ih h
     have h2 := U5 ha
     simp only [List.length_cons]
     omega
   · cases h
theorem Fe.now {l : List TEv} {n : Nat} (h : Fe P l n m) : m.Gz ≤ 1048576 * n := by
 have h1 := VQ h.all
 have h2 := h.le
 rw [List.length_take, Nat.min_eq_left h2] at h1
 have h3 : (FF P).Gz = 0 := rfl
 omega
theorem VC (l : List TIn) (t : MT) : ((B0 l t).2.Kind = 1 ∨ (B0 l t).2.Kind = 2 ∨ (B0 l t).2.Kind = 3 ∨ (B0 l t).2.Kind = 10 ∨ (B0 l t).2.Kind = 11) ∨ (B0 l t).2.Ring = 0 := by
 unfold B0
 split
 · exact .inr rfl
 split
 · simp
 split
 · simp
 unfold Ek
 simp only
 repeat' split
 all_goals simp [zA]
theorem Up (l : List TIn) (t : MT) (h : Et l t) : 0 ≤ (B0 l t).2.AG ∧ (B0 l t).2.AG < 4611686018427387904 := by
 unfold B0
 split
 · simp [zA]
 split
 · rename_i q; have := h.p1 (by omega); exact ⟨this.2.2.2.2.1, this.2.2.2.2.2⟩
 split
 · rename_i q; have := h.p1 (by omega); exact ⟨this.2.2.2.2.1, this.2.2.2.2.2⟩
 unfold Ek
 simp only
 repeat' split
 all_goals simp [zA]
theorem VB (h : Eu P b m) {t : Int} (k : t.toNat < m.AB.length) : 0 ≤ (Bv P m t).Ring := by
 rcases VC (Bo P t) (Mg m t) with q | q
 · exact (R4 h k rfl q).1
 · exact Int.le_of_eq q.symm
theorem Uz {i : Int} (h : m.AJ.length ≤ i.toNat) : DP m i = zR := by
 unfold DP
 rw [List.getD_eq_getElem?_getD, List.getElem?_eq_none h]
 rfl
theorem U3 (h : Eu P b m) (hb : b ≤ 2305843009213693952) (i : Int) : CK (DP m i).Au := by
 by_cases k : i.toNat < P.AJ.length
 · have := (h.OP k).1
   exact ⟨this.t0, by have := this.tb; omega⟩
 · rw [Uz (by rw [h.nr]; omega)]
   exact ⟨Int.le_refl _, by decide⟩
theorem VE (h : Eu P b m) (hb : b ≤ 2305843009213693952) (i j : Int) : CK (hd (DP m i) j) := by
 by_cases k : i.toNat < P.AJ.length
 · have hr := (h.OP k).1
   unfold hd
   by_cases q : j.toNat < (DP m i).AY.length
   · have := hr.h0 _ (List.mem_of_getElem? (EY (d := 0) q))
     have := hr.tb
     exact ⟨by omega, by omega⟩
   · rw [List.getD_eq_getElem?_getD, List.getElem?_eq_none (by omega)]
     exact ⟨Int.le_refl _, by decide⟩
 · rw [Uz (by rw [h.nr]; omega)]
   simp [hd, zR, CK]
end
section
variable {p : TPg} {B : Int} {k : Nat} {f : TFa} {t kd : Int}
theorem Ul {P : MP} {m : MS} {rg T V : Int} (h1 : rg = if B1 kd = true then (Bv P m t).Ring else 0)
 (h2 : T = if kd = 2 ∨ kd = 4 then (Bv P m t).AG else if kd = 1 ∨ kd = 13 then (DP m (Bv P m t).Ring).Au else if kd = 3 ∧ (Bv P m t).Kind = 2 then hd (DP m (Bv P m t).Ring) (Bv P m t).Reader else 0)
 (h3 : V = if kd = 8 then m.Gz else if kd = 12 then (Bv P m t).Value else 0) : (⟨t, kd, rg, T, V⟩ : TEv) = UY P m t kd := by
 subst h1 h2 h3; rfl
theorem Uu (h : FC p B k f) (h0 : 0 ≤ t) (h1 : t < p.AB.n) : D_f13.wp (t, (kd, f)) fun y => y = UY (aP p) (aF f) t kd := by
 have htl : t.toNat < (aF f).AB.length := by have := h.wf.tn; simp only [aF, List.length_map, Sl.BL]; omega
 refine CW ?_
 simp only [tt_f13]
 refine wC (Uy h t) fun (a : TAk × Int) ha => wC (w_f2x kd) fun (r : Bool) hr => ?_
 obtain ⟨_, ha⟩ := ha ⟨h0, h1⟩
 have e1 : a.1.Kind = (Bv (aP p) (aF f) t).Kind := congrArg MA.Kind ha
 have e2 : a.1.Ring = (Bv (aP p) (aF f) t).Ring := congrArg MA.Ring ha
 have e3 : a.1.Reader = (Bv (aP p) (aF f) t).Reader := congrArg MA.Reader ha
 have e4 : a.1.AG = (Bv (aP p) (aF f) t).AG := congrArg MA.AG ha
 have e5 : a.1.Value = (Bv (aP p) (aF f) t).Value := congrArg MA.Value ha
 have hrl : (aP p).AJ.length = p.AJ.n := by simp [aP]
 have hr0 := VB h.inv htl
 have key : ∀ rg : Int, rg = (if B1 kd = true then (Bv (aP p) (aF f) t).Ring else 0) → D_f13_5.wp (⟨kd, f, ⟨0, 0, 0, 0, 0⟩, a.1, ⟨t, kd, rg, 0, 0⟩⟩ : X_f13_5) fun y => y.1 = UY (aP p) (aF f) t kd := fun rg hrg => by
  refine of_wp ?_
  simp only [tt_f13_5]
  refine wC (Ut h a.1.Ring) fun (r : Bx TRr) hr => ?_
  rw [e2] at hr
  have hv : r.nil = true ∨ (r.nil = false ∧ (Bv (aP p) (aF f) t).Ring < p.AJ.n) := by
   by_cases q : (Bv (aP p) (aF f) t).Ring < p.AJ.n
   · exact .inr ⟨(hr.1 ⟨hr0, q⟩).1, q⟩
   · exact .inl (hr.2 (by omega))
  have hT : (r.nil = true → (DP (aF f) (Bv (aP p) (aF f) t).Ring).Au = 0) ∧ (r.nil = false → (DP (aF f) (Bv (aP p) (aF f) t).Ring).Au = r.x.AA.tail) := by
   rcases hv with q | ⟨q, hq⟩
   · refine ⟨fun _ => ?_, fun z => by rw [q] at z; cases z⟩
     have hno : ¬ (Bv (aP p) (aF f) t).Ring < p.AJ.n := fun z => by have := (hr.1 ⟨hr0, z⟩).1; rw [q] at this; cases this
     rw [Uz (by rw [h.inv.nr, hrl]; omega)]; rfl
   · refine ⟨fun z => (by rw [q] at z; cases z), fun _ => ?_⟩
     rw [← (hr.1 ⟨hr0, hq⟩).2.2]; rfl
  have fin8 : ¬ (kd = 2 ∨ kd = 4) → ¬ (kd = 1 ∨ kd = 13) → ¬ (kd = 3 ∧ (Bv (aP p) (aF f) t).Kind = 2) → kd = 8 → (⟨t, kd, rg, 0, f.now⟩ : TEv) = UY (aP p) (aF f) t kd := fun a1 a2 a3 a4 => Ul hrg (by rw [if_neg a1, if_neg a2, if_neg a3]) (by rw [if_pos a4]; rfl)
  have fin12 : ¬ (kd = 2 ∨ kd = 4) → ¬ (kd = 1 ∨ kd = 13) → ¬ (kd = 3 ∧ (Bv (aP p) (aF f) t).Kind = 2) → kd ≠ 8 → kd = 12 → (⟨t, kd, rg, 0, a.1.Value⟩ : TEv) = UY (aP p) (aF f) t kd := fun a1 a2 a3 a4 a5 => Ul hrg (by rw [if_neg a1, if_neg a2, if_neg a3]) (by rw [if_neg a4, if_pos a5, e5])
  have fin0 : ¬ (kd = 2 ∨ kd = 4) → ¬ (kd = 1 ∨ kd = 13) → ¬ (kd = 3 ∧ (Bv (aP p) (aF f) t).Kind = 2) → kd ≠ 8 → kd ≠ 12 → (⟨t, kd, rg, 0, 0⟩ : TEv) = UY (aP p) (aF f) t kd := fun a1 a2 a3 a4 a5 => Ul hrg (by rw [if_neg a1, if_neg a2, if_neg a3]) (by rw [if_neg a4, if_neg a5])
  have finA : kd = 2 ∨ kd = 4 → (⟨t, kd, rg, a.1.AG, 0⟩ : TEv) = UY (aP p) (aF f) t kd := fun a1 => Ul hrg (by rw [if_pos a1, e4]) (by rw [if_neg (by omega), if_neg (by omega)])
  have Tu : ∀ T, T = (DP (aF f) (Bv (aP p) (aF f) t).Ring).Au → kd = 1 ∨ kd = 13 → (⟨t, kd, rg, T, 0⟩ : TEv) = UY (aP p) (aF f) t kd := fun T hT a1 => Ul hrg (by rw [if_neg (by omega), if_pos a1, hT]) (by rw [if_neg (by omega), if_neg (by omega)])
  refine Bc (fun hn => ?_) fun hn => ?_
  · refine AE ieI (fun q => finA (.inl q)) fun q2 => AE ieI (fun q => finA (.inr q)) fun q4 => AE ieI (fun q => ?_) fun q1 => AE ieI (fun q => ?_) fun q13 => ?_
    · exact wC (Q' := fun (y : Int) => y = 0) (of_wp rfl) fun (y : Int) hy => by subst hy; exact Tu _ (hT.1 hn).symm (.inl q)
    · exact wC (Q' := fun (y : Int) => y = 0) (of_wp rfl) fun (y : Int) hy => by subst hy; exact Tu _ (hT.1 hn).symm (.inr q)
    · refine AE ieI (fun q3 => ?_) fun q3 => ?_
      · refine AE ieI (fun qk => ?_) fun qk => ?_
        · exfalso
          have h2 := R4 h.inv htl rfl (.inr (.inl (e1 ▸ qk)))
          rw [hrl] at h2
          have := (hr.1 ⟨hr0, by omega⟩).1
          rw [hn] at this; cases this
        · have n3 : ¬ (kd = 3 ∧ (Bv (aP p) (aF f) t).Kind = 2) := fun z => qk (e1 ▸ z.2)
          exact AE ieI (fun q8 => by omega) fun q8 => AE ieI (fun q12 => by omega) fun q12 => fin0 (by omega) (by omega) n3 q8 q12
      · exact AE ieI (fun q8 => wC (Um f) fun y hy => by subst hy; exact fin8 (by omega) (by omega) (fun z => q3 z.1) q8) fun q8 => AE ieI (fun q12 => fin12 (by omega) (by omega) (fun z => q3 z.1) q8 q12) fun q12 => fin0 (by omega) (by omega) (fun z => q3 z.1) q8 q12
  · have hn : r.nil = false := by simpa using hn
    refine wN (by simp [hn]) ?_
    refine AE ieI (fun q => finA (.inl q)) fun q2 => AE ieI (fun q => finA (.inr q)) fun q4 => AE ieI (fun q => ?_) fun q1 => AE ieI (fun q => ?_) fun q13 => ?_
    · exact wC (Iu r.x) fun y hy => by subst hy; exact Tu _ (hT.2 hn).symm (.inl q)
    · exact wC (Iu r.x) fun y hy => by subst hy; exact Tu _ (hT.2 hn).symm (.inr q)
    · refine AE ieI (fun q3 => ?_) fun q3 => ?_
      · refine AE ieI (fun qk => ?_) fun qk => ?_
        · have h2 := R4 h.inv htl rfl (.inr (.inl (e1 ▸ qk)))
          rw [hrl] at h2
          have hx := hr.1 ⟨hr0, by omega⟩
          have hrd := h2.2.2 (.inl (e1 ▸ qk))
          have hcf : (KZ (aP p) (Bv (aP p) (aF f) t).Ring) = p.AJ.get (Bv (aP p) (aF f) t).Ring.toNat := by
           unfold KZ
           rw [List.getD_eq_getElem?_getD]
           show ((p.AJ.L)[_]?).getD _ = _
           rw [Sl.Db _ (by omega)]; rfl
          rw [hcf] at hrd
          have hhn := hx.2.1.hn
          refine wC (Mq a.1.Reader r.x (by rw [e3]; exact hrd.1) (by rw [e3]; omega)) fun (y : Int) hy => ?_
          subst hy
          refine Ul hrg ?_ (by rw [if_neg (by omega), if_neg (by omega)])
          rw [if_neg (by omega), if_neg (by omega), if_pos ⟨q3, e1 ▸ qk⟩, ← hx.2.2, ← e3]
          exact (NU (by rw [e3]; exact hrd.1) (by rw [e3]; omega)).symm
        · have n3 : ¬ (kd = 3 ∧ (Bv (aP p) (aF f) t).Kind = 2) := fun z => qk (e1 ▸ z.2)
          exact AE ieI (fun q8 => by omega) fun q8 => AE ieI (fun q12 => by omega) fun q12 => fin0 (by omega) (by omega) n3 q8 q12
      · exact AE ieI (fun q8 => wC (Um f) fun y hy => by subst hy; exact fin8 (by omega) (by omega) (fun z => q3 z.1) q8) fun q8 => AE ieI (fun q12 => fin12 (by omega) (by omega) (fun z => q3 z.1) q8 q12) fun q12 => fin0 (by omega) (by omega) (fun z => q3 z.1) q8 q12
 subst hr
 refine Bc (fun q => key _ ?_) fun q => key _ ?_
 · rw [if_pos q]; exact e2
 · rw [if_neg q]
end
def Uk (P : MP) (m : MS) (t : Int) (j : Nat) : List Int := ((List.range j).map fun i : Nat => (i : Int) + 1).filter fun k => BU P m (UY P m t k)
def VK (P : MP) (m : MS) (t : Int) : List Int := Uk P m t 15
theorem Ui (P : MP) (m : MS) (t : Int) (j : Nat) : Uk P m t (j + 1) = if BU P m (UY P m t ((j : Int) + 1)) = true then Uk P m t j ++ [(j : Int) + 1] else Uk P m t j := by
 unfold Uk
 rw [List.range_succ, List.map_append, List.filter_append]
 simp only [List.map_cons, List.map_nil]
 by_cases h : BU P m (UY P m t ((j : Int) + 1)) = true
 · rw [if_pos h]; simp [h]
 · rw [if_neg h]; simp [h]
theorem Ux (P : MP) (m : MS) (t : Int) (j : Nat) : (Uk P m t j).length ≤ j := by
 unfold Uk
 exact Nat.le_trans (List.length_filter_le _ _) (by simp)
theorem Vi {P : MP} {m : MS} {t k : Int} : k ∈ VK P m t ↔ (1 ≤ k ∧ k ≤ 15) ∧ BU P m (UY P m t k) = true := by
 unfold VK Uk
 simp only [List.mem_filter, List.mem_map, List.mem_range]
 refine and_congr_left fun _ => ⟨?_, fun ⟨h1, h2⟩ => ⟨(k - 1).toNat, by omega, by omega⟩⟩
 rintro ⟨i, hi, rfl⟩
 omega
theorem VJ (s : Sl Int) (v : Int) (b : Bool) : (Sl.mk b (s.n + 1) (fun i => cond (Nat.blt i s.n) (s.get i) v)).L = s.L ++ [v] := by
 unfold Sl.L
 simp only [List.range_succ, List.map_append, List.map_cons, List.map_nil]
 congr 1
 · refine List.map_congr_left fun i hi => ?_
   rw [Fb (List.mem_range.1 hi), cond_true]
 · rw [F5 (Nat.lt_irrefl _), cond_false]
section
variable {p : TPg} {B : Int} {k : Nat} {f : TFa} {t kd : Int}
theorem VF (h : FC p B k f) (h0 : 0 ≤ t) (h1 : t < p.AB.n) (hn : f.now < 9223372036854775808) : P2 (UY (aP p) (aF f) t kd) := by
 have htl : t.toNat < (aF f).AB.length := by have := h.wf.tn; simp only [aF, List.length_map, Sl.BL]; omega
 have hB := h.hB
 have hti := (h.inv.asked htl).2.1
 have htn := h.wf.tn
 refine ⟨?_, ?_⟩
 · show CK (if _ then _ else if _ then _ else if _ then _ else _)
   split
   · have := Up (Bo (aP p) t) (Mg (aF f) t) (h.inv.JI htl)
     exact ⟨this.1, Int.lt_trans this.2 (by decide)⟩
   split
   · exact U3 h.inv hB _
   split
   · exact VE h.inv hB _ _
   · exact ⟨Int.le_refl _, by decide⟩
 · show CK (if _ then _ else if _ then _ else _)
   split
   · have h2 := h.inv.n0
     exact ⟨h2, Int.lt_trans hn (by decide)⟩
   split
   · unfold Bv
     rw [Ea h0 h1, IA h0 (by omega)]
     have hT := h.inv.JI htl
     rw [Ea h0 h1, IA h0 (by omega)] at hT
     exact (NJ (Gx h.inv h0 h1) (h.hp.k (by omega)) hT (h.wf.tw _ (by omega)).rg).2
   · exact ⟨Int.le_refl _, by decide⟩
end
theorem Uc {s : ByteArray} {c : Int} {v : Bool} (h : D_f4n.ev 50 (s, c) = some v) : D_f4n.wp (s, c) fun y => y = v := ⟨v, D_f4n.GG 50 _ _ h, rfl⟩
theorem VP (k : Int) : D_f4n.wp (GF k, 82) fun y => y = B1 k := by
 unfold GF
 split
 · rename_i h; rw [CF (e := ⟨0, k, 0, 0, 0⟩) h]; exact Uc (by kernel_rfl)
 split
 · rename_i h; rw [h]; exact Uc (by kernel_rfl)
 · rename_i h; rw [show B1 k = false by simpa using h]
   split
   · exact Uc (by kernel_rfl)
   · exact Uc (by kernel_rfl)
theorem VO (k : Int) : D_f4n.wp (GF k, 84) fun y => y = As k := by
 unfold GF
 split
 · rename_i h; rw [h]; exact Uc (by kernel_rfl)
 · rename_i h; rw [show As k = false by simpa using h]
   split
   · exact Uc (by kernel_rfl)
   · split
     · exact Uc (by kernel_rfl)
     · exact Uc (by kernel_rfl)
theorem VN (k : Int) : D_f4n.wp (GF k, 86) fun y => y = CR k := by
 unfold GF
 split
 · rename_i h
   rw [show CR k = false from Bool.eq_false_iff.2 fun q => by rw [Fw] at q; rw [Ap] at h; omega]
   exact Uc (by kernel_rfl)
 · split
   · rename_i h
     rw [show CR k = false from Bool.eq_false_iff.2 fun q => by rw [Fw] at q; rw [Bb] at h; omega]
     exact Uc (by kernel_rfl)
   · split
     · rename_i h; rw [h]; exact Uc (by kernel_rfl)
     · rename_i h; rw [show CR k = false by simpa using h]; exact Uc (by kernel_rfl)
section
variable {p : TPg} {B : Int} {k : Nat} {s : TSt} {t kd : Int}
theorem VD (h : SV p B k s) (T V : Sl Int) (R : Nat) (hR : R ≤ 8) (hT : ∀ i, i < T.n → CK (T.get i)) (hV : ∀ i, i < V.n → CK (V.get i)) (hTn : T.n ≤ 1000) (hVn : V.n ≤ 1000) (res : Bool)
 (hin : res = true → ∃ r i j : Nat, r < R ∧ i < T.n ∧ j < V.n ∧ BU (aP p) (aS s) ⟨t, kd, r, T.get i, V.get j⟩ = true) (hout : ∀ r c v : Int, BU (aP p) (aS s) ⟨t, kd, r, c, v⟩ = true → res = true) :
 D_f4k_18.wp (⟨t, kd, p, s, T, V, (R : Int), 0⟩ : X_f4k_18) fun y => y = res := by
 refine C8 (tt := tt_f4k_18) (fun x : X_f4k_18 => ∃ r : Nat, x = ⟨t, kd, p, s, T, V, (R : Int), r⟩ ∧ r ≤ R ∧ ∀ r' i j : Nat, r' < r → i < T.n → j < V.n → BU (aP p) (aS s) ⟨t, kd, r', T.get i, V.get j⟩ = false)
  (fun x => (x.UZ - x.Ub).toNat) (fun _ y => y = res) (fun D x hI hD => ?_) ⟨0, rfl, Nat.zero_le _, fun r' i j h => absurd h (Nat.not_lt_zero _)⟩
 obtain ⟨r, rfl, hr, hno⟩ := hI
 simp only [tt_f4k_18]
 refine AE ilI (fun q => ?_) fun q => ?_
 · have hrR : r < R := by omega
   refine C8 (tt := tt_f4k_21 D) (fun x : X_f4k_21 => ∃ i : Nat, x = ⟨t, kd, p, s, T, V, (R : Int), r, i⟩ ∧ i ≤ T.n ∧ ∀ i' j : Nat, i' < i → j < V.n → BU (aP p) (aS s) ⟨t, kd, r, T.get i', V.get j⟩ = false)
    (fun x => (x.UW.n - x.Uo).toNat) (fun _ y => y = res) (fun D1 x hI1 hD1 => ?_) ⟨0, rfl, Nat.zero_le _, fun i' j h => absurd h (Nat.not_lt_zero _)⟩
   obtain ⟨i, rfl, hi, hno1⟩ := hI1
   simp only [tt_f4k_21]
   refine AE ilI (fun q1 => ?_) fun q1 => of_wp ?_
   · have hiT : i < T.n := by omega
     refine C8 (tt := tt_f4k_24 D D1) (fun x : X_f4k_24 => ∃ j : Nat, x = ⟨t, kd, p, s, T, V, (R : Int), r, i, j⟩ ∧ j ≤ V.n ∧ ∀ j' : Nat, j' < j → BU (aP p) (aS s) ⟨t, kd, r, T.get i, V.get j'⟩ = false)
      (fun x => (x.UX.n - x.U8).toNat) (fun _ y => y = res) (fun D2 x hI2 hD2 => ?_) ⟨0, rfl, Nat.zero_le _, fun j h => absurd h (Nat.not_lt_zero _)⟩
     obtain ⟨j, rfl, hj, hno2⟩ := hI2
     simp only [tt_f4k_24]
     refine AE ilI (fun q2 => ?_) fun q2 => of_wp ?_
     · have hjV : j < V.n := by omega
       refine wN (BI hiT) (wN (BI hjV) ?_)
       simp only [Int.toNat_natCast]
       refine wC (w_f3f h.sc ⟨hT i hiT, hV j hjV⟩) fun (z : Bool) hz => ?_
       refine Bc (fun ha => ?_) fun ha => ?_
       · exact (hout _ _ _ (hz ▸ ha)).symm
       · refine hD2 _ ⟨j + 1, by rw [Cn hjV (by unfold maxLen; omega)], hjV, fun j' hj' => ?_⟩ (by simp only [Cn hjV (show V.n ≤ maxLen by unfold maxLen; omega)]; omega)
         by_cases e : j' = j
         · subst e; rw [← hz]; simpa using ha
         · exact hno2 j' (by omega)
     · simp only [tt_f4k_22, Cn hiT (show T.n ≤ maxLen by unfold maxLen; omega)]
       refine hD1 _ ⟨i + 1, rfl, hiT, fun i' j' hi' hj' => ?_⟩ (by simp only; omega)
       by_cases e : i' = i
       · subst e; exact hno2 j' (by omega)
       · exact hno1 i' j' (by omega) hj'
   · simp only [tt_f4k_19, Cn hrR (show R ≤ maxLen by unfold maxLen; omega)]
     refine hD _ ⟨r + 1, rfl, hrR, fun r' i' j' hr' hi' hj' => ?_⟩ (by simp only; omega)
     by_cases e : r' = r
     · subst e; exact hno1 i' j' (by omega) hj'
     · exact hno r' i' j' (by omega) hi' hj'
 · show false = res
   cases res with
   | false => rfl
   | true =>
     obtain ⟨r', i, j, h1, h2, h3, h4⟩ := hin rfl
     rw [hno r' i j (by omega) h2 h3] at h4
     cases h4
end
theorem VT (a : Sl Int) (v : Int) (c : Sl Int) (b : Bool) :
 (Sl.mk b ((a.n + 1) + c.n) (fun i2 => cond (Nat.blt i2 (a.n + 1)) (cond (Nat.blt i2 a.n) (a.get i2) v) (c.get (i2 - (a.n + 1))))).L = (a.L ++ [v]) ++ c.L := by
 unfold Sl.L
 simp only [List.range_add, List.map_append, List.map_map]
 congr 1
 · simp only [List.range_succ, List.map_append, List.map_cons, List.map_nil, List.range_zero, List.map_nil, List.nil_append, Nat.add_zero]
   congr 1
   · refine List.map_congr_left fun i hi => ?_
     have := List.mem_range.1 hi
     rw [Fb (show i < a.n + 1 by omega), Fb this, cond_true, cond_true]
   · have h1 : Nat.blt a.n (a.n + 1) = true := Fb (by omega)
     have h2 : Nat.blt a.n a.n = false := F5 (by omega)
     simp [h1, h2]
 · refine List.map_congr_left fun i hi => ?_
   simp only [Function.comp]
   rw [F5 (by omega), cond_false, Nat.add_sub_cancel_left]
section
variable {P : MP} {b : Int} {m : MS} {t kd : Int}
theorem Un (hr : Ba (UY P m t kd) = true) : 0 ≤ (UY P m t kd).Ring ∧ (UY P m t kd).Ring ≤ 7 ∧ (B1 kd = true ∨ (UY P m t kd).Ring = 0) ∧ (As kd = true ∨ (UY P m t kd).AG = 0) ∧ (CR kd = true ∨ (UY P m t kd).Value = 0) := by
 have := Bj hr
 exact ⟨this.2.2.1.1, this.2.2.1.2, this.2.2.2.2.1, this.2.2.2.2.2.1, this.2.2.2.2.2.2⟩
theorem VG (h : Eu P b m) (ha : BU P m (UY P m t kd) = true) (hk : As kd = true) :
 (UY P m t kd).AG = (Bv P m t).AG ∨ ∃ j : Nat, j < m.AJ.length ∧ ((UY P m t kd).AG = (DP m (j : Int)).Au ∨ (UY P m t kd).AG ∈ (DP m (j : Int)).AY) := by
 obtain ⟨f, _, _⟩ := Gc ha
 have hr := Hn h f (CF hk)
 have hf := Oi f.re f.ft
 have hrg : (UY P m t kd).Ring = (Bv P m t).Ring := by
  show (if B1 kd = true then _ else _) = _
  rw [if_pos (show B1 kd = true from CF (e := ⟨0, kd, 0, 0, 0⟩) hk)]
 rw [hrg] at hr
 have hj : (((Bv P m t).Ring.toNat : Nat) : Int) = (Bv P m t).Ring := by omega
 have hq := Ap.1 hk
 by_cases q : kd = 2 ∨ kd = 4
 · left; show (if _ then _ else _) = _; rw [if_pos q]
 right
 refine ⟨(Bv P m t).Ring.toNat, by rw [h.nr]; exact hr.2.1, ?_⟩
 rw [hj]
 by_cases q1 : kd = 1 ∨ kd = 13
 · left; show (if _ then _ else if _ then _ else _) = _; rw [if_neg q, if_pos q1]
 right
 have q3 : kd = 3 := by omega
 have hk2 : (Bv P m t).Kind = 2 := hf.f3 q3
 have hrd := hr.2.2 (.inl hk2)
 change 0 ≤ (Bv P m t).Reader ∧ (Bv P m t).Reader < _ at hrd
 have hR := (h.OP hr.2.1).1.rd
 show (if _ then _ else if _ then _ else if _ then _ else _) ∈ _
 rw [if_neg q, if_neg q1, if_pos ⟨q3, hk2⟩]
 exact List.mem_of_getElem? (EY (d := 0) (by omega))
end
structure Tks (m : MS) (a : MA) (i : Nat) (T : Sl Int) : Prop where
 n : T.n ≤ 2 + 9 * i
 u : ∀ z ∈ T.L, CK z
 a : a.AG ∈ T.L
 r : ∀ j : Nat, j < i → (DP m (j : Int)).Au ∈ T.L ∧ ∀ h ∈ (DP m (j : Int)).AY, h ∈ T.L
section
variable {p : TPg} {B : Int} {k : Nat} {s : TSt} {t kd : Int}
theorem VI (h : SV p B k s) (h0 : 0 ≤ t) (h1 : t < p.AB.n) (hn : s.Gz < 9223372036854775808) : D_f4k.wp (p, (s, (t, kd))) fun y => y = BU (aP p) (aS s) (UY (aP p) (aS s) t kd) := by
 have hrn := h.sc.rn
 have hB := h.sc.hB
 have hsm := h.sc.small
 have htl : t.toNat < (aS s).AB.length := by have := h.sc.tn; simp only [aS, List.length_map, Sl.BL]; omega
 have hrl : (aS s).AJ.length = s.AJ.n := by simp [aS]
 refine of_wp ?_
 simp only [tt_f4k]
 refine wC (w_f4a h.sc h0 h1) fun (a : TA6) ha => ?_
 have haT : a.AG = (Bv (aP p) (aS s) t).AG := congrArg MA.AG ha
 have haV : a.Value = (Bv (aP p) (aS s) t).Value := congrArg MA.Value ha
 have hTu := Up (Bo (aP p) t) (Mg (aS s) t) (h.sc.inv.JI htl)
 have hVu := S8 h h0 h1
 -- what is tried at the end
 have fin : ∀ (T V : Sl Int) (R : Nat), R = (if B1 kd = true then 8 else 1) → (∀ z ∈ T.L, CK z) → T.n ≤ 1000 → (∀ z ∈ V.L, CK z) → V.n ≤ 1000 →
  (BU (aP p) (aS s) (UY (aP p) (aS s) t kd) = true → (UY (aP p) (aS s) t kd).AG ∈ T.L ∧ (UY (aP p) (aS s) t kd).Value ∈ V.L) →
  D_f4k_17.wp (⟨t, kd, p, s, T, V, (R : Int)⟩ : X_f4k_17) fun y => y = BU (aP p) (aS s) (UY (aP p) (aS s) t kd) := fun T V R hR hT hTn hV hVn hm => by
  refine of_wp ?_
  simp only [tt_f4k_17]
  refine VD h T V R (by rw [hR]; split <;> decide) (fun i hi => hT _ (Sl.Ch.2 ⟨i, hi, rfl⟩)) (fun i hi => hV _ (Sl.Ch.2 ⟨i, hi, rfl⟩)) hTn hVn _ (fun hres => ?_) fun r c v hal => VM h.sc.inv hal
  obtain ⟨m1, m2⟩ := hm hres
  obtain ⟨i, hi, ei⟩ := Sl.Ch.1 m1
  obtain ⟨j, hj, ej⟩ := Sl.Ch.1 m2
  have hre := Un (Gc hres).1.re
  refine ⟨(UY (aP p) (aS s) t kd).Ring.toNat, i, j, ?_, hi, hj, ?_⟩
  · rw [hR]
    split
    · omega
    · rename_i q
      have := hre.2.2.1.resolve_left q
      omega
  · rw [ei, ej, show (((UY (aP p) (aS s) t kd).Ring.toNat : Nat) : Int) = (UY (aP p) (aS s) t kd).Ring by omega]
    exact hres
 refine C8 (tt := tt_f4k_4) (fun x : X_f4k_4 => ∃ (i : Nat) (T : Sl Int), x = ⟨t, kd, p, s, T, (i : Int), a⟩ ∧ i ≤ s.AJ.n ∧ Tks (aS s) (Bv (aP p) (aS s) t) i T) (fun x => (s.AJ.n - x.Us).toNat)
  (fun _ y => y = BU (aP p) (aS s) (UY (aP p) (aS s) t kd)) (fun D x hI hD => ?_) ⟨0, _, rfl, Nat.zero_le _, ?_⟩
 rotate_left
 · have eL : (Sl.mk false 2 (fun i2 => cond (Nat.beq i2 0) (0 : Int) a.AG)).L = [0, a.AG] := rfl
   refine ⟨Nat.le_refl _, fun z hz => ?_, ?_, fun j hj => absurd hj (Nat.not_lt_zero _)⟩
   · rw [eL] at hz
     simp only [List.mem_cons, List.not_mem_nil, or_false] at hz
     rcases hz with rfl | rfl
     · exact ⟨Int.le_refl _, by decide⟩
     · rw [haT]; exact ⟨hTu.1, Int.lt_trans hTu.2 (by decide)⟩
   · rw [eL, haT]; simp
 obtain ⟨i, T, rfl, hi, hT⟩ := hI
 simp only [tt_f4k_4]
 refine AE ilI (fun q => ?_) fun q => of_wp ?_
 · have hir : i < s.AJ.n := by omega
   have hir' : (i : Int) < s.AJ.n := by omega
   have hrg := Q0 (s := s) (Int.natCast_nonneg i) hir'
   rw [Int.toNat_natCast] at hrg
   have hri := h.sc.inv.OP (i := (i : Int)) (by rw [Int.toNat_natCast]; simp [aP]; omega)
   have hHn : (s.AJ.get i).AY.n ≤ 8 := by
    have h2 := hri.1.rd
    rw [hrg] at h2
    have h3 := hri.2
    simp only [Ay, decide_eq_true_eq] at h3
    have h4 : ((Kk (s.AJ.get i)).AY.length : Int) = (s.AJ.get i).AY.n := by simp [Kk]
    omega
   have hTn := hT.n
   refine wN (BI hir) (wN (by simp only [room, Bool.true_and, decide_eq_true_eq]; omega) (wN (BI hir) (wN (by simp only [Int.toNat_natCast, room, Bool.true_and, decide_eq_true_eq]; omega) ?_)))
   simp only [Int.toNat_natCast]
   refine hD _ ⟨i + 1, _, by rw [Cn hir (by unfold maxLen; omega)], hir, ?_⟩ (by simp only [Cn hir (show s.AJ.n ≤ maxLen by unfold maxLen; omega)]; omega)
   refine ⟨?_, fun z hz => ?_, ?_, fun j hj => ?_⟩
   · show T.n + 1 + (s.AJ.get i).AY.n ≤ _
     omega
   · rw [VT, List.mem_append, List.mem_append, List.mem_singleton] at hz
     rcases hz with (hz | rfl) | hz
     · exact hT.u z hz
     · have := U3 h.sc.inv hB (i : Int)
       rw [hrg] at this; exact this
     · obtain ⟨j, hj, rfl⟩ := Sl.Ch.1 hz
       have := VE h.sc.inv hB (i : Int) (j : Int)
       rw [hrg] at this
       have e : hd (Kk (s.AJ.get i)) (j : Int) = (s.AJ.get i).AY.get j := by
        unfold hd Kk
        rw [Int.toNat_natCast, List.getD_eq_getElem?_getD, Sl.Db _ hj]; rfl
       rw [e] at this; exact this
   · rw [VT, List.mem_append, List.mem_append]; exact .inl (.inl hT.a)
   · rw [VT]
     simp only [List.mem_append, List.mem_singleton]
     by_cases e : j = i
     · subst e
       rw [hrg]
       exact ⟨.inl (.inr rfl), fun x hx => .inr hx⟩
     · have := hT.r j (by omega)
       exact ⟨.inl (.inl this.1), fun x hx => .inl (.inl (this.2 x hx))⟩
 · obtain rfl : i = s.AJ.n := by omega
   have hTn := hT.n
   simp only [tt_f4k_8]
   refine wC (w_f3w kd) fun (nm : ByteArray) hnm => ?_
   subst hnm
   have eV : (Sl.mk false 3 (fun i3 => cond (Nat.beq i3 0) (0 : Int) (cond (Nat.beq i3 1) s.Gz a.Value))).L = [0, s.Gz, a.Value] := rfl
   have e0 : (Sl.mk false 1 (fun _ => (0 : Int))).L = [0] := rfl
   have hz0 : ∀ z ∈ (Sl.mk false 1 (fun _ => (0 : Int))).L, CK z := fun z hz => by
    rw [e0] at hz; simp only [List.mem_singleton] at hz; subst hz; exact ⟨Int.le_refl _, by decide⟩
   have hVv : ∀ z ∈ (Sl.mk false 3 (fun i3 => cond (Nat.beq i3 0) (0 : Int) (cond (Nat.beq i3 1) s.Gz a.Value))).L, CK z := fun z hz => by
    rw [eV] at hz
    simp only [List.mem_cons, List.not_mem_nil, or_false] at hz
    rcases hz with rfl | rfl | rfl
    · exact ⟨Int.le_refl _, by decide⟩
    · exact ⟨h.sc.inv.n0, Int.lt_trans hn (by decide)⟩
    · rw [haV]; exact hVu
   have memT : BU (aP p) (aS s) (UY (aP p) (aS s) t kd) = true → As kd = true → (UY (aP p) (aS s) t kd).AG ∈ T.L := fun ha hk => by
    rcases VG h.sc.inv ha hk with e | ⟨j, hj, e⟩
    · rw [e]; exact hT.a
    · rw [hrl] at hj
      have := hT.r j hj
      rcases e with e | e
      · rw [e]; exact this.1
      · exact this.2 _ e
   have memT0 : BU (aP p) (aS s) (UY (aP p) (aS s) t kd) = true → ¬ As kd = true → (UY (aP p) (aS s) t kd).AG ∈ (Sl.mk false 1 (fun _ => (0 : Int))).L := fun ha hk => by
    rw [(Un (Gc ha).1.re).2.2.2.1.resolve_left hk, e0]; simp
   have memV : (UY (aP p) (aS s) t kd).Value ∈ (Sl.mk false 3 (fun i3 => cond (Nat.beq i3 0) (0 : Int) (cond (Nat.beq i3 1) s.Gz a.Value))).L := by
    rw [eV, haV]
    show (if _ then _ else if _ then _ else _) ∈ _
    split
    · simp [aS]
    · split <;> simp
   have memV0 : BU (aP p) (aS s) (UY (aP p) (aS s) t kd) = true → ¬ CR kd = true → (UY (aP p) (aS s) t kd).Value ∈ (Sl.mk false 1 (fun _ => (0 : Int))).L := fun ha hk => by
    rw [(Un (Gc ha).1.re).2.2.2.2.resolve_left hk, e0]; simp
   have h13 : ∀ R : Nat, R = (if B1 kd = true then 8 else 1) → D_f4k_13.wp (⟨t, kd, p, s, T, Sl.mk false 3 (fun i3 => cond (Nat.beq i3 0) (0 : Int) (cond (Nat.beq i3 1) s.Gz a.Value)), (R : Int), GF kd⟩ : X_f4k_13)
    fun y => y = BU (aP p) (aS s) (UY (aP p) (aS s) t kd) := fun R hR => by
    have h15 : ∀ T' : Sl Int, (∀ z ∈ T'.L, CK z) → T'.n ≤ 1000 → (BU (aP p) (aS s) (UY (aP p) (aS s) t kd) = true → (UY (aP p) (aS s) t kd).AG ∈ T'.L) →
     D_f4k_15.wp (⟨t, kd, p, s, T', Sl.mk false 3 (fun i3 => cond (Nat.beq i3 0) (0 : Int) (cond (Nat.beq i3 1) s.Gz a.Value)), (R : Int), GF kd⟩ : X_f4k_15) fun y => y = BU (aP p) (aS s) (UY (aP p) (aS s) t kd) := fun T' hu hn' hm => by
     refine of_wp ?_
     simp only [tt_f4k_15]
     refine wC (VN kd) fun (z : Bool) hz => ?_
     subst hz
     refine AE bnI (fun q => ?_) fun q => ?_
     · exact fin T' _ R hR hu hn' hz0 (by decide) fun ha => ⟨hm ha, memV0 ha q⟩
     · exact fin T' _ R hR hu hn' hVv (show 3 ≤ 1000 by decide) fun ha => ⟨hm ha, memV⟩
    refine of_wp ?_
    simp only [tt_f4k_13]
    refine wC (VO kd) fun (z : Bool) hz => ?_
    subst hz
    refine AE bnI (fun q => ?_) fun q => ?_
    · exact h15 _ hz0 (by decide) fun ha => memT0 ha q
    · exact h15 T hT.u (by omega) fun ha => memT ha (Classical.byContradiction q)
   refine wC (VP kd) fun (z : Bool) hz => ?_
   subst hz
   refine AE bnI (fun q => ?_) fun q => ?_
   · exact h13 1 (by rw [if_neg q])
   · exact h13 8 (by rw [if_pos (Classical.byContradiction q)])
theorem U4 (h : SV p B k s) (h0 : 0 ≤ t) (h1 : t < p.AB.n) (hn : s.Gz < 9223372036854775808) : D_f4m.wp (p, (s, t)) fun y => y.L = VK (aP p) (aS s) t := by
 refine of_wp ?_
 simp only [tt_f4m]
 refine C8 (tt := tt_f4m_3) (fun x : X_f4m_3 => ∃ (j : Nat) (l : Sl Int), x = ⟨t, p, s, l, (j : Int) + 1⟩ ∧ j ≤ 15 ∧ l.L = Uk (aP p) (aS s) t j) (fun x => (16 - x.Uh).toNat)
  (fun _ y => y.L = VK (aP p) (aS s) t) (fun D x hI hD => ?_) ⟨0, _, rfl, Nat.zero_le _, rfl⟩
 obtain ⟨j, l, rfl, hj, hL⟩ := hI
 have hln : l.n = (Uk (aP p) (aS s) t j).length := by rw [← hL, Sl.BL]
 have hle := Ux (aP p) (aS s) t j
 simp only [tt_f4m_3]
 refine AE leI (fun q => ?_) fun q => ?_
 · refine wC (VI h h0 h1 hn) fun (z : Bool) hz => ?_
   subst hz
   have nx : IntKind.i64.wrap ((j : Int) + 1 + 1) = ((j + 1 : Nat) : Int) + 1 := by
    rw [show ((j + 1 : Nat) : Int) + 1 = (j : Int) + 1 + 1 by omega]
    exact wrap64 (by omega) (by omega)
   refine Bc (fun ha => wN (by simp only [room, Bool.true_and, decide_eq_true_eq]; omega) (of_wp ?_)) fun ha => of_wp ?_
   · simp only [tt_f4m_4, nx]
     refine hD _ ⟨j + 1, _, rfl, by omega, ?_⟩ (by simp only; omega)
     rw [Ui, if_pos ha]
     exact (VJ _ _ _).trans (by rw [hL])
   · simp only [tt_f4m_4, nx]
     refine hD _ ⟨j + 1, _, rfl, by omega, ?_⟩ (by simp only; omega)
     rw [Ui, if_neg ha]
     exact hL
 · obtain rfl : j = 15 := by omega
   exact hL
end
section
variable {p q : TPg} {l : Sl TEv}
theorem VH (hp : G6 p) (hq : Fh q p) (hl : TJ l) (hn : l.n ≤ 65536) :
 D_f3s.wp (q, l) fun y => (De (aP p) ∧ ∃ n : Nat, n ≤ l.n ∧ Fe (aP p) l.L n (aF y.1.x) ∧ FC p (1 + ((n + 1 : Nat) : Int)) (n + 1) y.1.x ∧ y.1.nil = false ∧ y.2 = if n < l.n then 11 else 0) ∨ (¬ De (aP p) ∧ y.2 = 1) := by
 refine of_wp ?_
 simp only [tt_f3s]
 refine wC (TR hp hq hl hn) fun (y : Bx TFa × (Int × Int)) hy => ?_
 rcases hy with ⟨hP, a, b, n, c, d, e, f⟩ | ⟨h, _, g⟩
 · refine AE ieI (fun _ => AE ilI (fun z => ?_) fun z => ?_) fun z => absurd a z
   · exact .inl ⟨hP, n, d, f, e, b, by rw [if_pos (by omega)]⟩
   · exact .inl ⟨hP, n, d, f, e, b, by rw [if_neg (by omega)]; exact a⟩
 · refine AE ieI (fun z => ?_) fun z => .inr ⟨h, by rw [show y.2 = (0, 1) from g]⟩
   rw [g] at z
   exact absurd z (by decide)
theorem VV {f : TFa} {n : Nat} (h : Fe (aP p) l.L n (aF f)) (hn : n ≤ 65536) : f.now < 9223372036854775808 := by
 have := h.now
 have e : (aF f).Gz = f.now := rfl
 omega
theorem VU {s : TSt} {n : Nat} (h : Fe (aP p) l.L n (aS s)) (hn : n ≤ 65536) : s.Gz < 9223372036854775808 := by
 have := h.now
 have e : (aS s).Gz = s.Gz := rfl
 omega
end
def VY (P : MP) (m : MS) : Prop := (∃ t : Nat, t < m.AB.length ∧ (Mg m (t : Int)).Status = 0) ∧ ∀ t : Nat, t < m.AB.length → VK P m (t : Int) = []
theorem Vh {P : MP} {m : MS} {t : Int} {j : Nat} (hj : j < 15) (h : BU P m (UY P m t ((j : Int) + 1)) = true) : VK P m t ≠ [] := fun e => by
 have : ((j : Int) + 1) ∈ VK P m t := Vi.2 ⟨by omega, h⟩
 rw [e] at this
 cases this
section
variable {p q : TPg} {l : Sl TEv} {s : TSt} {B : Int} {k : Nat}
theorem Vd (hp : G6 p) (hq : Fh q p) (hl : TJ l) (hn : l.n ≤ 65536) :
 D_fc.wp (q, l) fun y => (De (aP p) ∧ ∃ (n : Nat) (m : MS), n ≤ l.n ∧ Fe (aP p) l.L n m ∧ (n < l.n → y.1 = false ∧ y.2 = 11) ∧ (n = l.n → y.2 = 0 ∧ (y.1 = true ↔ VY (aP p) m))) ∨ (¬ De (aP p) ∧ y.1 = false ∧ y.2 = 1) := by
 refine of_wp ?_
 simp only [tt_fc]
 refine wC (VH hp hq hl hn) fun (y : Bx TFa × Int) hy => ?_
 rcases hy with ⟨hP, n, d, hs, hF, b, g⟩ | ⟨h, g⟩
 rotate_left
 · exact AE (p := y.2 ≠ 0) (by rw [bnI, ieI]) (fun _ => .inr ⟨h, rfl, g⟩) fun w => absurd (by rw [g]; decide) w
 by_cases z : n < l.n
 · rw [if_pos z] at g
   exact AE (p := y.2 ≠ 0) (by rw [bnI, ieI]) (fun _ => .inl ⟨hP, n, _, d, hs, fun _ => ⟨rfl, g⟩, fun w => by omega⟩) fun w => absurd (by rw [g]; decide) w
 rw [if_neg z] at g
 refine AE (p := y.2 ≠ 0) (by rw [bnI, ieI]) (fun w => absurd g w) fun _ => wN (by simp [b]) ?_
 obtain ⟨⟨nl, f⟩, e2⟩ := y
 simp only at hs hF b g ⊢
 have hnow := VV hs (by omega)
 have htn : f.threads.n = p.AB.n := hF.wf.tn
 have hqn := hq.n
 have hsm : p.AB.n ≤ 8 := by have := hP.t8; simpa [aP] using this
 have hml : (aF f).AB.length = p.AB.n := by simp [aF, htn]
 refine wC (Vf f (by unfold maxLen; omega)) fun (ov : Bool) hov => ?_
 have hst : (!ov) = true ↔ ∃ t : Nat, t < (aF f).AB.length ∧ (Mg (aF f) (t : Int)).Status = 0 := by
  rw [bnI, hov, hml]
  constructor
  · intro w
    refine Classical.byContradiction fun no => w fun t ht e => no ⟨t, by omega, ?_⟩
    rw [IA (Int.natCast_nonneg t) (by omega), Int.toNat_natCast]; exact e
  · rintro ⟨t, ht, e⟩ w
    rw [IA (Int.natCast_nonneg t) (by omega), Int.toNat_natCast] at e
    exact w t (by omega) e
 generalize (!ov) = st at hst
 refine C8 (tt := tt_fc_6) (fun x : X_fc_6 => ∃ t : Nat, x = ⟨st, (q.AB.n : Int), (t : Int), f⟩ ∧ t ≤ p.AB.n ∧ ∀ t' : Nat, t' < t → VK (aP p) (aF f) (t' : Int) = []) (fun x => (x.Fl - x.Jz).toNat)
  (fun _ y => (De (aP p) ∧ ∃ (n : Nat) (m : MS), n ≤ l.n ∧ Fe (aP p) l.L n m ∧ (n < l.n → y.1 = false ∧ y.2 = 11) ∧ (n = l.n → y.2 = 0 ∧ (y.1 = true ↔ VY (aP p) m))) ∨ (¬ De (aP p) ∧ y.1 = false ∧ y.2 = 1)) (fun D x hI hD => ?_)
  ⟨0, rfl, Nat.zero_le _, fun _ h => absurd h (Nat.not_lt_zero _)⟩
 obtain ⟨t, rfl, ht, hno⟩ := hI
 simp only [tt_fc_6]
 refine AE ilI (fun w => ?_) fun w => ?_
 · have htp : t < p.AB.n := by omega
   have htp' : (t : Int) < p.AB.n := by omega
   refine C8 (tt := tt_fc_9 D) (fun x : X_fc_9 => ∃ j : Nat, x = ⟨st, (t : Int), (j : Int) + 1, (q.AB.n : Int), (t : Int), f⟩ ∧ j ≤ 15 ∧ Uk (aP p) (aF f) (t : Int) j = []) (fun x => (16 - x.JZ).toNat)
    (fun _ y => (De (aP p) ∧ ∃ (n : Nat) (m : MS), n ≤ l.n ∧ Fe (aP p) l.L n m ∧ (n < l.n → y.1 = false ∧ y.2 = 11) ∧ (n = l.n → y.2 = 0 ∧ (y.1 = true ↔ VY (aP p) m))) ∨ (¬ De (aP p) ∧ y.1 = false ∧ y.2 = 1)) (fun D1 x hI1 hD1 => ?_)
    ⟨0, rfl, Nat.zero_le _, rfl⟩
   obtain ⟨j, rfl, hj, hc⟩ := hI1
   simp only [tt_fc_9]
   refine AE leI (fun q1 => ?_) fun q1 => of_wp ?_
   · refine wC (Uu hF (Int.natCast_nonneg t) htp') fun (u : TEv) hu => ?_
     subst hu
     refine wC (H7 hF (VF hF (Int.natCast_nonneg t) htp' hnow)) fun (v : Bool) hv => ?_
     subst hv
     have nx : IntKind.i64.wrap ((j : Int) + 1 + 1) = ((j + 1 : Nat) : Int) + 1 := by
      rw [show ((j + 1 : Nat) : Int) + 1 = (j : Int) + 1 + 1 by omega]
      exact wrap64 (by omega) (by omega)
     refine Bc (fun ha => ?_) fun ha => ?_
     · refine .inl ⟨hP, n, _, d, hs, fun w => absurd w z, fun _ => ⟨rfl, fun w => (by cases w), fun w => ?_⟩⟩
       exact absurd (w.2 t (by omega)) (Vh (by omega) ha)
     · refine hD1 _ ⟨j + 1, by rw [nx], by omega, ?_⟩ (by simp only [nx]; omega)
       rw [Ui, if_neg ha]; exact hc
   · obtain rfl : j = 15 := by omega
     simp only [tt_fc_13, Cn htp (show p.AB.n ≤ maxLen by unfold maxLen; omega)]
     refine hD _ ⟨t + 1, rfl, htp, fun t' ht' => ?_⟩ (by simp only; omega)
     by_cases e : t' = t
     · subst e; exact hc
     · exact hno t' (by omega)
 · refine .inl ⟨hP, n, _, d, hs, fun w => absurd w z, fun _ => ⟨rfl, ?_⟩⟩
   show st = true ↔ _
   rw [hst]
   exact ⟨fun a => ⟨a, fun t' ht' => hno t' (by omega)⟩, fun a => a.1⟩
theorem Vg (h : SV p B k s) (hn : s.Gz < 9223372036854775808) : D_f4o.wp (p, s) fun y => y = true ↔ VY (aP p) (aS s) := by
 have htn := h.sc.tn
 have hsm := h.sc.small
 have hml : (aS s).AB.length = s.AB.n := by simp [aS]
 refine of_wp ?_
 simp only [tt_f4o]
 refine C8 (tt := tt_f4o_3) (fun x : X_f4o_3 => ∃ (t : Nat) (r : Bool), x = ⟨p, s, r, (t : Int)⟩ ∧ t ≤ s.AB.n ∧ (∀ t' : Nat, t' < t → VK (aP p) (aS s) (t' : Int) = []) ∧ (r = true ↔ ∃ t' : Nat, t' < t ∧ (Mg (aS s) (t' : Int)).Status = 0))
  (fun x => (s.AB.n - x.Kl).toNat) (fun _ y => y = true ↔ VY (aP p) (aS s)) (fun D x hI hD => ?_) ⟨0, false, rfl, Nat.zero_le _, fun _ h => absurd h (Nat.not_lt_zero _), ⟨fun h => (by cases h), fun ⟨_, h, _⟩ => absurd h (Nat.not_lt_zero _)⟩⟩
 obtain ⟨t, r, rfl, ht, hno, hr⟩ := hI
 simp only [tt_f4o_3]
 refine AE ilI (fun w => ?_) fun w => ?_
 · have hts : t < s.AB.n := by omega
   refine wC (U4 h (Int.natCast_nonneg t) (by omega) hn) fun (u : Sl Int) hu => AE ilI (fun g => ?_) fun g => ?_
   · refine ⟨fun e => (by cases e), fun e => ?_⟩
     have h1 := e.2 t (by omega)
     rw [← hu] at h1
     have h2 := congrArg List.length h1
     rw [Sl.BL] at h2
     simp only [List.length_nil] at h2
     omega
   · have hc : VK (aP p) (aS s) (t : Int) = [] := by
      rw [← hu]
      exact List.eq_nil_of_length_eq_zero (by rw [Sl.BL]; omega)
     have hth := OA (s := s) (t := (t : Int)) (Int.natCast_nonneg t) (by omega)
     rw [Int.toNat_natCast] at hth
     have nxt : ∀ r' : Bool, (r' = true ↔ ∃ t' : Nat, t' < t + 1 ∧ (Mg (aS s) (t' : Int)).Status = 0) → (D_f4o_4 D).wp (⟨p, s, r', (t : Int)⟩ : X_f4o_4) fun y => y = true ↔ VY (aP p) (aS s) := fun r' hr' => by
      refine of_wp ?_
      simp only [tt_f4o_4, Cn hts (show s.AB.n ≤ maxLen by unfold maxLen; omega)]
      refine hD _ ⟨t + 1, r', rfl, hts, fun t' ht' => ?_, hr'⟩ (by simp only; omega)
      by_cases e : t' = t
      · subst e; exact hc
      · exact hno t' (by omega)
     refine Bc (fun a => nxt true ?_) fun a => wN (BI hts) (nxt _ ?_)
     · obtain ⟨t', h1, h2⟩ := hr.1 a
       exact ⟨fun _ => ⟨t', by omega, h2⟩, fun _ => rfl⟩
     · rw [ieI, Int.toNat_natCast]
       constructor
       · intro e; exact ⟨t, by omega, by rw [hth]; exact e⟩
       · rintro ⟨t', h1, h2⟩
         by_cases e : t' = t
         · subst e; rw [hth] at h2; exact h2
         · exact absurd (hr.2 ⟨t', by omega, h2⟩) a
 · obtain rfl : t = s.AB.n := by omega
   show r = true ↔ _
   rw [hr]
   unfold VY
   rw [hml]
   exact ⟨fun a => ⟨a, hno⟩, fun a => a.1⟩
end
theorem Ve (p : TPg) (l : Sl TEv) (hp : G6 p) (hl : TJ l) : D_f4p.wp (p, l) fun y => y = true := by
 refine of_wp ?_
 simp only [tt_f4p]
 have aw : ∀ {k : Bool → TT Tryz.prog R_f4p} {Q}, (k true).wp Q → (TT.call con_f3p PUnit.unit k).wp Q := fun h => wC QE fun (y : Bool) hy => by subst hy; exact h
 refine aw (Bc (fun h => by simp at h) fun _ => ?_)
 refine wC (Su p hp) fun (y : Bool) hy => AE bnI (fun _ => aw rfl) fun hf => AE ilI (fun _ => aw rfl) fun hl60 => of_wp ?_
 have hfew := hy (Classical.byContradiction hf)
 have hn : l.n ≤ 65536 := by omega
 simp only [tt_f4p_3, Nat.zero_add]
 refine wC (RX p hfew) fun (q : TPg) hq => wN (by simp only [room, Bool.true_and, decide_eq_true_eq]; omega) ?_
 refine wC (Vd hp hq (Tl hl (b := cond (Nat.beq l.n 0) false false)) hn) fun (y : Bool × Int) hy => wC (law_f42 p hp) fun (z : Bool) hz => AE bnI (fun hno => ?_) fun hyes => ?_
 · rcases hy with ⟨hP, _⟩ | ⟨_, a, b⟩
   · exact absurd (hz.2 hP) hno
   · exact Bc (fun _ => ieI.2 b) fun e => absurd (by rw [a]; rfl) e
 · have hP := hz.1 (Classical.byContradiction hyes)
   rcases hy with ⟨_, n, m, hnl, hs, h11, h0⟩ | ⟨h, _⟩
   rotate_left
   · exact absurd hP h
   refine wC (w_f1n hp hP hl hn) fun (w : TSt × Int) hw => ?_
   obtain ⟨n', e1, hn', hS, hs'⟩ := hw
   obtain ⟨rfl, rfl⟩ := Fe.uniq hs hs'
   refine AE ilI (fun g => ?_) fun g => ?_
   · obtain ⟨a, b⟩ := h11 (show n < l.n by omega)
     exact Bc (fun _ => ieI.2 b) fun e => absurd (by rw [a]; rfl) e
   · obtain ⟨a, b⟩ := h0 (show n = l.n by omega)
     refine wC (Vg hS (VU hs' (by omega))) fun (v : Bool) hv => Bc (fun _ => ieI.2 a) fun e => absurd ?_ e
     have : y.1 = v := by
      cases hy1 : y.1 <;> cases v <;> simp_all
     rw [this]; simp
def ok_TRg (x : TRg) : Prop := (fun n => (Lit.int .i64 n).wf = true) x.Kind ∧ (fun n => (Lit.int .i64 n).wf = true) x.Cf ∧ (fun n => (Lit.int .i64 n).wf = true) x.AQ ∧ True
def fl_TRg_0 : Field := (FH Tryz.prog 101).toList.getD 0 default
def fl_TRg_1 : Field := (FH Tryz.prog 101).toList.getD 1 default
def fl_TRg_2 : Field := (FH Tryz.prog 101).toList.getD 2 default
theorem op_TRg : Dv Tryz.prog 101 e_TRg ok_TRg :=
 Dv.map (EV (fs := FH Tryz.prog 101) (l := fl_TRg_0 :: fl_TRg_1 :: fl_TRg_2 :: []) (by kernel_rfl) (by kernel_rfl) (by kernel_rfl)
  (BP (u := 3) (s := 1) (by kernel_rfl) (by kernel_rfl) (by kernel_rfl) (Bt (k := .i64) (by kernel_rfl)) (BP (u := 3) (s := 1) (by kernel_rfl) (by kernel_rfl) (by kernel_rfl) (Bt (k := .i64) (by kernel_rfl)) (BP (u := 3) (s := 1) (by kernel_rfl) (by kernel_rfl) (by kernel_rfl) (Bt (k := .i64) (by kernel_rfl)) Gk)))) (fun x => ⟨x.1, x.2.1, x.2.2.1⟩) (fun _ => rfl) (fun _ h => h)
def ok_TIn (x : TIn) : Prop := (fun n => (Lit.int .i64 n).wf = true) x.Op ∧ (fun n => (Lit.int .i64 n).wf = true) x.A ∧ (fun n => (Lit.int .i64 n).wf = true) x.B ∧ (fun n => (Lit.int .i64 n).wf = true) x.C ∧ (fun n => (Lit.int .i64 n).wf = true) x.D ∧ (fun n => (Lit.int .u64 n).wf = true) x.K ∧ True
def fl_TIn_0 : Field := (FH Tryz.prog 119).toList.getD 0 default
def fl_TIn_1 : Field := (FH Tryz.prog 119).toList.getD 1 default
def fl_TIn_2 : Field := (FH Tryz.prog 119).toList.getD 2 default
def fl_TIn_3 : Field := (FH Tryz.prog 119).toList.getD 3 default
def fl_TIn_4 : Field := (FH Tryz.prog 119).toList.getD 4 default
def fl_TIn_5 : Field := (FH Tryz.prog 119).toList.getD 5 default
theorem op_TIn : Dv Tryz.prog 119 e_TIn ok_TIn :=
 Dv.map (EV (fs := FH Tryz.prog 119) (l := fl_TIn_0 :: fl_TIn_1 :: fl_TIn_2 :: fl_TIn_3 :: fl_TIn_4 :: fl_TIn_5 :: []) (by kernel_rfl) (by kernel_rfl) (by kernel_rfl)
  (BP (u := 3) (s := 1) (by kernel_rfl) (by kernel_rfl) (by kernel_rfl) (Bt (k := .i64) (by kernel_rfl)) (BP (u := 3) (s := 1) (by kernel_rfl) (by kernel_rfl) (by kernel_rfl) (Bt (k := .i64) (by kernel_rfl)) (BP (u := 3) (s := 1) (by kernel_rfl) (by kernel_rfl) (by kernel_rfl) (Bt (k := .i64) (by kernel_rfl)) (BP (u := 3) (s := 1) (by kernel_rfl) (by kernel_rfl) (by kernel_rfl) (Bt (k := .i64) (by kernel_rfl)) (BP (u := 3) (s := 1) (by kernel_rfl) (by kernel_rfl) (by kernel_rfl) (Bt (k := .i64) (by kernel_rfl)) (BP (u := 41) (s := 1) (by kernel_rfl) (by kernel_rfl) (by kernel_rfl) (Bt (k := .u64) (by kernel_rfl)) Gk))))))) (fun x => ⟨x.1, x.2.1, x.2.2.1, x.2.2.2.1, x.2.2.2.2.1, x.2.2.2.2.2.1⟩) (fun _ => rfl) (fun _ h => h)
def ok_TPg (x : TPg) : Prop := (P1 ok_TRg) x.AJ ∧ (P1 (P1 ok_TIn)) x.AB ∧ True
def fl_TPg_0 : Field := (FH Tryz.prog 25).toList.getD 0 default
def fl_TPg_1 : Field := (FH Tryz.prog 25).toList.getD 1 default
theorem op_TPg : Dv Tryz.prog 25 e_TPg ok_TPg :=
 Dv.map (EV (fs := FH Tryz.prog 25) (l := fl_TPg_0 :: fl_TPg_1 :: []) (by kernel_rfl) (by kernel_rfl) (by kernel_rfl)
  (BP (u := 22) (s := 1) (by kernel_rfl) (by kernel_rfl) (by kernel_rfl) (E2 (e := 101) (s := 3) (d_TRg .undef) (by kernel_rfl) (by kernel_rfl) (by decide) (op_TRg)) (BP (u := 23) (s := 1) (by kernel_rfl) (by kernel_rfl) (by kernel_rfl) (E2 (e := 79) (s := 1) (dsl_TIn .undef) (by kernel_rfl) (by kernel_rfl) (by decide) (E2 (e := 119) (s := 6) (d_TIn .undef) (by kernel_rfl) (by kernel_rfl) (by decide) (op_TIn))) Gk))) (fun x => ⟨x.1, x.2.1⟩) (fun _ => rfl) (fun _ h => h)
def ok_TEv (x : TEv) : Prop := (fun n => (Lit.int .i64 n).wf = true) x.Thread ∧ (fun n => (Lit.int .i64 n).wf = true) x.Kind ∧ (fun n => (Lit.int .i64 n).wf = true) x.Ring ∧ (fun n => (Lit.int .u64 n).wf = true) x.AG ∧ (fun n => (Lit.int .u64 n).wf = true) x.Value ∧ True
def fl_TEv_0 : Field := (FH Tryz.prog 56).toList.getD 0 default
def fl_TEv_1 : Field := (FH Tryz.prog 56).toList.getD 1 default
def fl_TEv_2 : Field := (FH Tryz.prog 56).toList.getD 2 default
def fl_TEv_3 : Field := (FH Tryz.prog 56).toList.getD 3 default
def fl_TEv_4 : Field := (FH Tryz.prog 56).toList.getD 4 default
theorem op_TEv : Dv Tryz.prog 56 e_TEv ok_TEv :=
 Dv.map (EV (fs := FH Tryz.prog 56) (l := fl_TEv_0 :: fl_TEv_1 :: fl_TEv_2 :: fl_TEv_3 :: fl_TEv_4 :: []) (by kernel_rfl) (by kernel_rfl) (by kernel_rfl)
  (BP (u := 3) (s := 1) (by kernel_rfl) (by kernel_rfl) (by kernel_rfl) (Bt (k := .i64) (by kernel_rfl)) (BP (u := 3) (s := 1) (by kernel_rfl) (by kernel_rfl) (by kernel_rfl) (Bt (k := .i64) (by kernel_rfl)) (BP (u := 3) (s := 1) (by kernel_rfl) (by kernel_rfl) (by kernel_rfl) (Bt (k := .i64) (by kernel_rfl)) (BP (u := 41) (s := 1) (by kernel_rfl) (by kernel_rfl) (by kernel_rfl) (Bt (k := .u64) (by kernel_rfl)) (BP (u := 41) (s := 1) (by kernel_rfl) (by kernel_rfl) (by kernel_rfl) (Bt (k := .u64) (by kernel_rfl)) Gk)))))) (fun x => ⟨x.1, x.2.1, x.2.2.1, x.2.2.2.1, x.2.2.2.2.1⟩) (fun _ => rfl) (fun _ h => h)
theorem K3 : PU Tryz.prog 25 e_TPg ok_TPg :=
 L9 (fs := FH Tryz.prog 25) (by kernel_rfl) op_TPg (fun _ => rfl) (fun _ => rfl)
theorem Tj {p : TPg} (h : ok_TPg p) : G6 p := by
 obtain ⟨⟨rz, rn, rr⟩, ⟨_, tn, tt⟩, _⟩ := h
 refine ⟨rn, tn, fun t ht => (tt t ht).2.1, fun t ht k hk => ?_, rz, fun t ht => (tt t ht).1⟩
 obtain ⟨_, a, b, c, d, k, _⟩ := (tt t ht).2.2 k hk
 have a := wf_i64 a; have b := wf_i64 b; have c := wf_i64 c; have d := wf_i64 d
 exact ⟨wf_u64 k, by omega, by omega, by omega, by omega⟩
theorem MB : PU Tryz.prog 26 esl_TEv (P1 ok_TEv) :=
 Od (Ni (e := 56) (by kernel_rfl)) (E2 (e := 56) (s := 5) (d_TEv .undef) (by kernel_rfl) (by kernel_rfl) (by decide) op_TEv) (fun _ => rfl) (fun _ => rfl)
theorem Tm {e : TEv} (h : ok_TEv e) : P2 e := by
 obtain ⟨_, _, _, t, v, _⟩ := h
 exact ⟨wf_u64 t, wf_u64 v⟩
theorem Tk {l : Sl TEv} (h : P1 ok_TEv l) : TJ l := ⟨h.2.1, fun i hi => Tm (h.2.2 i hi)⟩

open Go.ChangeShapes Go.WideShapes Go.ChangeAt Go.RowKit
theorem Tryz.own : ownKnob Tryz.prog.godebug = none := by kernel_rfl
theorem Tryz.laidOut : laidOutB Tryz.prog = true := by kernel_rfl
theorem Tryz.UC : mapsRowed Tryz.prog = true := by kernel_rfl
theorem Tryz.full : ∀ t e, t < Tryz.prog.types.size → Tryz.prog.underlying t = some (.slice e) → 0 < Tryz.prog.cellsOf e := slices_full_of Tryz.prog (by kernel_rfl)
def GJ : Value := .agg #[.slice none 0 0, .slice none 0 0]
open Go.ChangeShapes Go.WideShapes Go.ChangeAt Go.RowKit
def R6 (k : IntKind) (l : List Int) : Array Value := (l.map fun z => Value.int k z).toArray
def Th (g : Nat) (c : Array Value) (h : Array Obj) : Array Obj := h.modify g fun
 | .cells _ t frozen => .cells c t frozen
 | o => o
def Ig (os : Os) : World :=
 { World.holding Tryz.prog os ⟨#[], #[], []⟩ with heap := (Th 0 (R6 .u64 [1, 10, 100, 1000, 10000, 100000, 1000000, 10000000, 100000000, 1000000000, 10000000000, 100000000000, 1000000000000, 10000000000000, 100000000000000, 1000000000000000, 10000000000000000, 100000000000000000, 1000000000000000000, 10000000000000000000])
  (Th 2 (R6 .u8 [0, 1, 28, 2, 29, 14, 24, 3, 30, 22, 20, 15, 25, 17, 4, 8, 31, 27, 13, 23, 21, 19, 16, 7, 26, 12, 18, 6, 11, 5, 10, 9])
  (Th 3 (R6 .u8 [0, 1, 56, 2, 57, 49, 28, 3, 61, 58, 42, 50, 38, 29, 17, 4, 62, 47, 59, 36, 45, 43, 51, 22, 53, 39, 33, 30, 24, 18, 12, 5, 63, 55, 48, 27, 60, 41, 37, 16, 46, 35, 44, 21, 52, 32, 23, 11, 54, 26, 40, 15, 34, 20, 31, 10, 25, 14, 19, 9, 13, 8, 7, 6])
  (World.holding Tryz.prog os ⟨#[], #[], []⟩).heap))) }
theorem OW {s : ChangeSpec} {row : OpenClaim} {os : Os} {f : FuncId} {fn : Func} {F : Stop.Interp} {H : Type} {enc : TypeId × Value → H} (started : os.Started) (noInit : Tryz.prog.inits.idxOf? f = none) (hfn : Tryz.prog.funcs[f]? = some fn)
 (hwit : ∃ (w : World) (tape : Tape) (i : Input), w.os = os ∧ (w.forCall tape i).Shaped Tryz.prog ∧ i.vars = [] ∧ Input.okWide Tryz.prog (w.forCall tape i) .any w.heap.size f i ∧
   (OpenSpec.ofChange s).preRow enc Tryz.prog fn row.domain false row.laid (w.forCall tape i).memory i.args ∧ ({} : Assume).holds Tryz.prog (lone (Frame.enter Tryz.prog f i.args .normal) [] (w.forCall tape i)))
 (hp : (fn.params.toList.all fun t => decide (t < Tryz.prog.types.size)) = true) (hvars : s.vars = []) (hr : fn.resultTypes = #[4])
 (hs : ∀ ds : List (DataW H), ds.length = fn.params.toList.length → s.fn H (ds ++ []) = { results := [.lit (.bool true)], args := ds })
 (Ht : ∀ (W : World) (base : Nat) (args : Array Value) (ds : List (DataW H)) (ps : List MemPlace),
   (∀ (j : Nat) t v, fn.params[j]? = some t → args[j]? = some v → Value.okWide Tryz.prog W .any base t v) →
   DataW.TrodAll enc Tryz.prog W 0 (fun _ => true) true fn.params.toList args.toList ds ps →
   Calls Tryz.prog f args W fun e w' => e = .returned (.bool true) ∧ Below W.heap.size W w') :
 ReturnsInHanded {} Tryz.checked os f .any ((OpenSpec.ofChange s).preRow enc Tryz.prog fn row.domain false row.laid) (((OpenSpec.ofChange s).at F).post enc Tryz.prog fn false true false false) := by
 refine returnsInHanded_of_row (C := Tryz.checked) (s := OpenSpec.ofChange s) Tryz.own started noInit hfn hwit ?_
 intro W base args ds gs before hval hW _ _ _ hL _ _
 have hW' : DataW.Whole enc Tryz.prog fn.params.toList s.vars false W args.toList ds gs before := hW
 have hW := hW'
 obtain ⟨p, q, hA, hV, rfl, _, _⟩ := hW
 rw [hvars] at hV
 obtain ⟨rfl, rfl⟩ := trodVars_none hV
 simp only [List.append_nil] at hW'
 refine (Ht W base args ds p hval hA).mono fun e W' ⟨he, hB⟩ => ⟨_, he, ?_⟩
 exact Pv (s := s) Tryz.laidOut Tryz.UC Tryz.full (fun t ht => of_decide_eq_true (List.all_eq_true.1 hp t ht)) hvars hr (by kernel_rfl) (hs ds (Go.trodAll_length hA).2) hW' hA hB
open Go.ChangeShapes Go.WideShapes Go.ChangeAt Go.RowKit
theorem RY (os : Os) (args : Array Value) : laidMet Tryz.prog Rows.judgeStuckRow.laid ((Ig os).forCall (fun _ _ => 0) ⟨#[], args, []⟩).memory :=
 laidMet_of_run' 8 (by kernel_rfl) (by kernel_rfl)
theorem VZ (os : Os) (started : os.Started) (H : Type) (enc : TypeId × Value → H) (F : Stop.Interp) :
 ReturnsInHanded {} Tryz.checked os 5 .any ((OpenSpec.ofChange Rows.judgeStuckSpec).preRow enc Tryz.prog Tryz.f5 Rows.judgeStuckRow.domain false Rows.judgeStuckRow.laid) (((OpenSpec.ofChange Rows.judgeStuckSpec).at F).post enc Tryz.prog Tryz.f5 false true false false) := by
 obtain ⟨x, hx⟩ := Option.isSome_iff_exists.1 (show (DataW.whole enc Tryz.prog ((Ig os).forCall (fun _ _ => 0) ⟨#[], #[GJ, .slice none 0 0], []⟩).memory Tryz.f5.params.toList Rows.judgeStuckSpec.vars false (#[GJ, .slice none 0 0] : Array Value).toList 8).isSome = true by kernel_rfl)
 refine OW (s := Rows.judgeStuckSpec) (row := Rows.judgeStuckRow) started (by kernel_rfl) Tryz.func5
  (witness_row_at (enc := enc) (C := Tryz.checked) false (Ig os) #[GJ, .slice none 0 0] rfl (by kernel_rfl) (by kernel_rfl) (by kernel_rfl)
    (OpenSpec.preRow_of_cond 8 hx (by kernel_rfl) (fun k hk => by cases hk) (by kernel_rfl) (RY os _)))
  (by kernel_rfl) rfl rfl ?_ ?_
 · intro ds hl
   match ds, hl with
   | [_, _], _ => rfl
 · intro W base args ds ps hval hA
   rw [Tryz.params5] at hA hval
   obtain ⟨v0, v1, d0, d1, p0, p1, rfl, rfl, rfl, h0, h1⟩ := trodAll_two hA
   obtain ⟨a, ha, ra⟩ := K3 H enc W base v0 d0 p0 (hval 0 25 v0 rfl rfl) h0
   obtain ⟨b, hb, rb⟩ := MB H enc W base v1 d1 p1 (hval 1 26 v1 rfl rfl) h1
   obtain ⟨y, hy, rfl⟩ := Ve a b (Tj ha) (Tk hb)
   refine Ot (con_f4p.ok (a, b) true hy) (fun j x v hx hv => ?_) rfl
   match j, hx, hv with
   | 0, hx, hv => change some (e_TPg a) = some x at hx; cases hx; simp at hv; subst hv; exact ra
   | 1, hx, hv => change some (esl_TEv b) = some x at hx; cases hx; simp at hv; subst hv; exact rb
theorem Vc : Rows.JudgeStuckSaid :=
 OpenClaim.holds_of_cond 5 Tryz.f5 rfl rfl rfl rfl rfl rfl rfl ⟨rfl, rfl, rfl, rfl, rfl⟩ rfl rfl rfl rfl rfl (by kernel_rfl) Tryz.func5 (by kernel_rfl)
  (of_decide_eq_true (by kernel_rfl)) (by unfold Func.isWrapper; first | (rw [if_pos (by decide +kernel)]; kernel_rfl) | (rw [if_neg (by decide +kernel)]; exact ⟨rfl, rfl⟩))
  (fun os started H enc _ F => by rw [OpenClaim.pre_eq_preRow]; exact VZ os started H enc F)
theorem Vb (f : FuncId) (fn : Func) (hf : Tryz.pinned.checked.prog.funcNamed "rondeau/rondeaulaw24.JudgeStuck" = some f) (hfn : Tryz.pinned.checked.prog.funcs[f]? = some fn) :
 false = Tryz.pinned.checked.prog.looks [] ∧ ∀ (j : Nat) t, fn.params[j]? = some t → Tryz.pinned.checked.prog.wantsStandIn t = false := by
 obtain rfl : f = 5 := Option.some.inj ((show Tryz.prog.funcNamed "rondeau/rondeaulaw24.JudgeStuck" = some 5 by kernel_rfl).symm.trans hf) |>.symm
 obtain rfl : fn = Tryz.f5 := (Option.some.inj (Tryz.func5.symm.trans hfn)).symm
 refine ⟨by kernel_rfl, fun j t ht => ?_⟩
 have hall : (Tryz.f5.params.toList.all fun t => !Tryz.prog.wantsStandIn t) = true := by kernel_rfl
 have := List.all_eq_true.1 hall t (Array.mem_toList_iff.2 (Array.mem_of_getElem? ht))
 exact (show Tryz.prog.wantsStandIn t = false by simpa using this)
theorem judgeStuck_holds : Rows.JudgeStuckCardSaid :=
 Claim7.holds_tied_plain_at .later [] _ _ _ _ Vc (fun _ h => by cases h) (by kernel_rfl) (fun _ h => by cases h) judgeStuck_row_tie rfl ⟨rfl, rfl⟩ (by kernel_rfl) rfl Vb (by kernel_rfl)
end Go.Proofs.YtlhifcnjnmeknaaGreatDoor
end
