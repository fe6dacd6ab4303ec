/- For every program and all events: the first event that can not be done is the one that the document says, or the program is refused; what was handed in reads as it did. No conditions beyond the card's own. -/
import Derived.Test.YtlhifcnjnmeknaaGreatDoorLawA
import Derived.Test.YtlhifcnjnmeknaaGreatDoorRows
import Derived.Test.YtlhifcnjnmeknaaGreatDoorCards
import Derived.Test.YtlhifcnjnmeknaaGreatDoorTie
import Derived.Deep.DeepHandedRow
noncomputable section
namespace Go.Proofs.YtlhifcnjnmeknaaGreatDoor
open Go Go.Vm Go.Proofs
set_option maxRecDepth 10000
set_option maxRecDepth 100000
theorem w_f2k (c r : Int) (hc : 1 ≤ c ∧ c ≤ 64) : D_f2k.wp (c, r) fun y => y.L.L = (List.range c.toNat).map G3 ∧ y.AQ = r := by
 refine of_wp ?_
 simp only [tt_f2k]
 obtain ⟨n, rfl⟩ : ∃ n : Nat, c = n := ⟨c.toNat, by omega⟩
 rw [Int.toNat_natCast]
 refine C8 (tt := tt_f2k_3) (fun x : X_f2k_3 => x.EF = n ∧ ∃ k : Nat, x.N0 = k ∧ k ≤ n ∧ x.A7.L.n = k ∧ x.A7.AQ = r ∧ ∀ i, i < k → x.A7.L.get i = G3 i) (fun x => (n - x.N0).toNat)
  (fun _ y => y.L.L = (List.range n).map G3 ∧ y.AQ = r) (fun D x hI hD => ?_) ⟨rfl, 0, rfl, Nat.zero_le _, rfl, rfl, fun i hi => by omega⟩
 obtain ⟨pl, i, m4, ⟨L, rd⟩⟩ := x
 obtain ⟨e0, k, e1, hk, hn, e2, hg⟩ := hI
 simp only at e0 e1 hn e2 hg hD
 subst e0 e1 e2 hn
 simp only [tt_f2k_3]
 refine AE ilI (fun h => wN (by simp [room]; omega) ?_) fun h => ⟨?_, rfl⟩
 · have e3 : IntKind.i64.wrap ((L.n : Int) + 1) = ((L.n + 1 : Nat) : Int) := by rw [wrap64] <;> omega
   rw [e3, Aj (z := (L.n : Int)) (by omega) (by omega), Aj (z := 2 * (L.n : Int)) (by omega) (by omega)]
   refine OM (T' := snoc L (G3 L.n)) (fun T => D.wp (⟨(n : Int), ((L.n + 1 : Nat) : Int), m4, ⟨T, rd⟩⟩ : X_f2k_3) _) rfl rfl (fun i => ?_) (hD _ ⟨rfl, L.n + 1, rfl, by omega, rfl, rfl, fun i hi => ?_⟩ (by simp only; omega))
   · show (⟨_, _, _⟩ : TSo) = cond (Nat.blt i L.n) _ _
     cases Nat.blt i L.n <;> rfl
   · by_cases q : i = L.n
     · subst q; exact Gi
     · rw [show (snoc L (G3 L.n)).get i = L.get i from Gh (by omega)]; exact hg i (by omega)
 · have : L.n = n := by omega
   subst this
   apply List.ext_getElem
   · simp
   · intro i h1 h2
     rw [Sl.F6]
     simp only [List.getElem_map, List.getElem_range]
     exact hg i (by simpa using h1)
theorem w_f4c (c : TRg) (hc : Ay c = true) : D_f4c.wp c fun y => R3 c 1 y ∧ Cp y = F9 c := by
 have hf := CQ hc
 refine of_wp ?_
 simp only [tt_f4c]
 refine wN (by simp [upto, room, BW]; omega) (wC (w_f2k c.Cf c.AQ (by omega)) fun (y : TR2) hy => ?_)
 have e : ∀ {z : TR3}, Cp z = F9 c → z.Cf = c.Cf → z.S.AQ = c.AQ → R3 c 1 z ∧ Cp z = F9 c := fun a k1 k2 => ⟨⟨hc, k1, k2, by rw [a]; exact Cz.new hc (by decide), by decide⟩, a⟩
 refine e ?_ (Aj (by omega) (by omega)) hy.2
 show (⟨0, _, false, y.L.L⟩ : MR) = _
 rw [hy.1, Iy]
 rfl
theorem w_f2l (p : TPg) (hp : G6 p) (hP : De (aP p)) : D_f2l.wp p fun y => aS y = FF (aP p) ∧ SV p 1 0 y := by
 obtain ⟨_, h8, hr8, _, hl⟩ := BV hP
 refine of_wp ?_
 simp only [tt_f2l]
 refine wN (by simp [upto, room, BW]; omega) ?_
 rw [Int.toNat_natCast]
 refine C8 (tt := tt_f2l_3) (fun x : X_f2l_3 => x.CV = p ∧ ∃ k : Nat, x.DH = k ∧ k ≤ p.AJ.n ∧ x.A0.AB = ⟨false, p.AB.n, fun _ => ⟨0, 0, 0, 0, 0, fun _ => 0, ⟨true, 0, fun _ => 0⟩⟩⟩ ∧ x.A0.Gz = 0 ∧ x.A0.Reads = 0 ∧ x.A0.CB = false ∧ x.A0.AJ.n = k ∧ ∀ i, i < k → Kk (x.A0.AJ.get i) = F9 (p.AJ.get i))
  (fun x => (p.AJ.n - x.DH).toNat) (fun _ y => aS y = FF (aP p) ∧ SV p 1 0 y) (fun D x hI hD => ?_) ⟨rfl, 0, rfl, Nat.zero_le _, rfl, rfl, rfl, rfl, rfl, fun i hi => by omega⟩
 obtain ⟨p', i, m2, ⟨mt, mr, mn, md, me⟩⟩ := x
 obtain ⟨e0, k, e1, hk, e2, e3, e4, e5, hn, hg⟩ := hI
 simp only at e0 e1 e2 e3 e4 e5 hn hg hD
 subst e0 e1 e2 e3 e4 e5 hn
 simp only [tt_f2l_3]
 refine AE ilI (fun h => ?_) fun h => ?_
 · have hkm : mr.n < p'.AJ.n := by omega
   refine wN (BI hkm) ?_
   rw [Int.toNat_natCast]
   refine wC (w_f4c _ (rg_of hP hkm)) fun (y : TR3) hy => wC (w_f3k hy.1) fun (z : TRs) hz => wN (by simp [room]; omega) ?_
   rw [Cn hkm hp.rn]
   refine OM (T' := snoc mr z) (fun T => D.wp (⟨p', ((mr.n + 1 : Nat) : Int), m2, ⟨_, T, 0, 0, false⟩⟩ : X_f2l_3) _) rfl rfl (fun i => ?_) (hD _ ⟨rfl, mr.n + 1, rfl, hkm, rfl, rfl, rfl, rfl, rfl, fun i hi => ?_⟩ (by simp only; omega))
   · show (⟨_, ⟨_, _, _⟩, _, ⟨_, _, _⟩⟩ : TRs) = cond (Nat.blt i mr.n) _ _
     cases Nat.blt i mr.n <;> rfl
   · by_cases q : i = mr.n
     · subst q; rw [show (snoc mr z).get mr.n = z from Gi, hz.1, hy.2]
     · rw [show (snoc mr z).get i = mr.get i from Gh (by omega)]; exact hg i (by omega)
 · have hrn : mr.n = p'.AJ.n := by omega
   have ea : ∀ {s : TSt}, s = ⟨⟨false, p'.AB.n, fun _ => ⟨0, 0, 0, 0, 0, fun _ => 0, ⟨true, 0, fun _ => 0⟩⟩⟩, mr, 0, 0, false⟩ → aS s = FF (aP p') := fun {s} hs => by
    subst hs
    unfold aS FF
    simp only [MS.mk.injEq, and_true]
    refine ⟨?_, Ff hrn fun i hi => hg i (hrn ▸ hi)⟩
    simp only [aP, List.map_map]
    exact Ff rfl fun i _ => rfl
   have ea' := ea rfl
   exact ⟨ea', ⟨⟨hp, by rw [ea']; exact PD hP, fun t _ => Nr 0, by decide, by decide⟩, by rw [ea']; exact R8⟩⟩
theorem Su (p : TPg) (hp : G6 p) : D_f1r.wp (p, 100) fun y => y = true → p.AJ.n ≤ 10 ∧ p.AB.n ≤ 10 ∧ ∀ t, t < p.AB.n → (p.AB.get t).n ≤ 100 := by
 refine of_wp ?_
 simp only [tt_f1r]
 refine AE ilI (fun _ => fun h => by cases h) fun h1 => AE ilI (fun _ => fun h => by cases h) fun h2 => of_wp ?_
 simp only [tt_f1r_3]
 refine C8 (tt := tt_f1r_5) (fun x : X_f1r_5 => x.GU = 100 ∧ x.H4 = p ∧ ∃ k : Nat, x.N0 = k ∧ k ≤ p.AB.n ∧ ∀ t, t < k → (p.AB.get t).n ≤ 100) (fun x => (p.AB.n - x.N0).toNat) (fun _ y => y = true → p.AJ.n ≤ 10 ∧ p.AB.n ≤ 10 ∧ ∀ t, t < p.AB.n → (p.AB.get t).n ≤ 100) (fun D x hI hD => ?_) ⟨rfl, rfl, 0, rfl, Nat.zero_le _, fun t ht => by omega⟩
 obtain ⟨m, p', n, i⟩ := x
 obtain ⟨e0, e1, k, e2, hk, hg⟩ := hI
 simp only at e0 e1 e2 hg hD
 subst e0 e1 e2
 simp only [tt_f1r_5]
 refine AE ilI (fun h => ?_) fun h => fun _ => ⟨by omega, by omega, fun t ht => hg t (by omega)⟩
 have hkm : k < p'.AB.n := by omega
 refine wN (BI hkm) ?_
 rw [Int.toNat_natCast]
 refine AE ilI (fun _ => fun h => by cases h) fun h3 => wN (BI hkm) ?_
 rw [Cn hkm hp.tn]
 refine hD _ ⟨rfl, rfl, k + 1, rfl, hkm, fun t ht => ?_⟩ (by simp only; omega)
 by_cases e : t = k
 · subst e; omega
 · exact hg t (by omega)
theorem law_f42 (p : TPg) (hp : G6 p) : D_f42.wp p fun y => y = true ↔ De (aP p) := by
 refine of_wp ?_
 simp only [tt_f42]
 exact wC (w_f41 p hp) fun (y : Bool) hy => hy
theorem RX (p : TPg) (h : p.AJ.n ≤ 10 ∧ p.AB.n ≤ 10 ∧ ∀ t, t < p.AB.n → (p.AB.get t).n ≤ 100) : D_f2b.wp p fun y => Fh y p := by
 obtain ⟨h1, h2, h3⟩ := h
 refine of_wp ?_
 simp only [tt_f2b, Nat.zero_add, Ka, cond_false, Nat.sub_zero]
 refine wN (by simp [room]; omega) ?_
 refine C8 (tt := tt_f2b_3) (fun x : X_f2b_3 => x.CV = p ∧ ∃ k : Nat, x.DH = k ∧ k ≤ p.AB.n ∧ DO x.A0.AJ p.AJ ∧ CN x.A0.AJ ∧ x.A0.AB.n = k ∧ ∀ t, t < k → DO (x.A0.AB.get t) (p.AB.get t) ∧ CN (x.A0.AB.get t)) (fun x => (p.AB.n - x.DH).toNat)
  (fun _ y => Fh y p) (fun D x hI hD => ?_) ⟨rfl, 0, rfl, Nat.zero_le _, ⟨rfl, fun i _ => rfl⟩, fun e => by simp only [Bool.cond_self, Bool.false_eq_true] at e, rfl, fun t ht => by omega⟩
 obtain ⟨p', i, m2, ⟨mr, mt⟩⟩ := x
 obtain ⟨e0, k, e1, hk, hs, hz, hn, hg⟩ := hI
 simp only at e0 e1 hs hz hn hg hD
 subst e0 e1 hn
 simp only [tt_f2b_3, Nat.zero_add, Ka, cond_false, Nat.sub_zero]
 refine AE ilI (fun h => ?_) fun h => ⟨hs, hz, by show mt.n = _; omega, fun t ht => hg t (by omega)⟩
 have hkm : mt.n < p'.AB.n := by omega
 have hln := h3 mt.n hkm
 rw [Int.toNat_natCast]
 refine wN (BI hkm) (wN (by simp [room]; omega) (wN (by simp [room]; omega) ?_))
 have e3 : IntKind.i64.wrap ((mt.n : Int) + 1) = ((mt.n + 1 : Nat) : Int) := by rw [wrap64] <;> omega
 rw [e3]
 refine OM (T' := snoc mt ⟨false, (p'.AB.get mt.n).n, (p'.AB.get mt.n).get⟩) (fun T => D.wp (⟨p', ((mt.n + 1 : Nat) : Int), m2, ⟨mr, T⟩⟩ : X_f2b_3) _) rfl rfl (fun i => ?_) (hD _ ⟨rfl, mt.n + 1, rfl, hkm, hs, hz, rfl, fun t ht => ?_⟩ (by simp only; omega))
 · show (⟨_, _, _⟩ : Sl TIn) = cond (Nat.blt i mt.n) _ _
   rw [Bool.cond_self]
   cases Nat.blt i mt.n <;> rfl
 · by_cases q : t = mt.n
   · subst q
     rw [show (snoc mt ⟨false, (p'.AB.get mt.n).n, (p'.AB.get mt.n).get⟩).get mt.n = _ from Gi]
     exact ⟨⟨rfl, fun _ _ => rfl⟩, fun e => by cases e⟩
   · rw [show (snoc mt ⟨false, (p'.AB.get mt.n).n, (p'.AB.get mt.n).get⟩).get t = mt.get t from Gh (by omega)]
     exact hg t (by omega)
structure TJ (l : Sl TEv) : Prop where
 n : l.n ≤ maxLen
 e : ∀ i, i < l.n → P2 (l.get i)
theorem T4 {p q : TPg} (hp : G6 p) (hc : Fh q p) (hP : De (aP p)) {f : TFa} (hF : FWf q 0 f) (ha : aF f = FF (aP q)) : FC p 1 0 f ∧ aF f = FF (aP p) := by
 have hqp := hc.same
 rw [hqp] at ha
 have h1 := hF.cp
 have cp : Fh f.p p := ⟨⟨h1.r.n.trans hc.r.n, fun i hi => (h1.r.g i (by rw [hc.r.n]; exact hi)).trans (hc.r.g i hi)⟩, h1.rz, h1.n.trans hc.n, fun t ht => by
  have a := h1.t t (by rw [hc.n]; exact ht)
  have b := (hc.t t ht).1
  exact ⟨⟨a.1.n.trans b.n, fun i hi => (a.1.g i (by rw [b.n]; exact hi)).trans (b.g i hi)⟩, a.2⟩⟩
 refine ⟨⟨hp, by rw [ha]; exact PD hP, ⟨cp, hF.tn.trans hc.n, hF.tw, hF.rn.trans hc.r.n, fun i hi => ?_⟩, by rw [ha]; exact R8, by decide, by decide⟩, ha⟩
 have := hF.rw i hi
 have hi' : i < p.AJ.n := by have := hF.rn; have := hc.r.n; omega
 rw [hc.r.g i hi'] at this
 exact this
theorem TR {p q : TPg} (hp : G6 p) (hq : Fh q p) {l : Sl TEv} (hl : TJ l) (hn : l.n ≤ 65536) :
 D_ft.wp (q, l) fun y => (De (aP p) ∧ y.2.2 = 0 ∧ y.1.nil = false ∧ ∃ n : Nat, y.2.1 = n ∧ n ≤ l.n ∧ FC p (1 + ((n + 1 : Nat) : Int)) (n + 1) y.1.x ∧ Fe (aP p) l.L n (aF y.1.x)) ∨ (¬ De (aP p) ∧ y.1.nil = true ∧ y.2 = (0, 1)) := by
 refine of_wp ?_
 simp only [tt_ft]
 refine wC (w_f1j q (hq.G6 hp) 0) fun (y : Bx TFa × Int) hy => ?_
 rw [hq.same] at hy
 rcases hy with ⟨hP, y2, yn, yF, ya⟩ | ⟨hno, y2, yn⟩
 rotate_left
 · exact AE (p := y.2 ≠ 0) (by rw [bnI, ieI]) (fun _ => .inr ⟨hno, rfl, rfl⟩) fun e => absurd (by rw [y2]; decide) e
 rw [← hq.same] at ya
 obtain ⟨hFC, ya⟩ := T4 hp hq hP yF ya
 refine AE (p := y.2 ≠ 0) (by rw [bnI, ieI]) (fun e => absurd y2 e) fun _ => AE ilI (fun e => by omega) fun _ => wN (by simp [yn]) ?_
 refine C8 (tt := tt_ft_7) (fun x : X_ft_7 => x.FV = l ∧ x.IK = l ∧ x.SX = l.n ∧ ∃ k : Nat, x.Fl = k ∧ k ≤ l.n ∧ FC p (1 + k) k x.Gn ∧ KI (aP p) (l.L.take k) (FF (aP p)) = some (aF x.Gn)) (fun x => (l.n - x.Fl).toNat)
  (fun _ y => (De (aP p) ∧ y.2.2 = 0 ∧ y.1.nil = false ∧ ∃ n : Nat, y.2.1 = n ∧ n ≤ l.n ∧ FC p (1 + ((n + 1 : Nat) : Int)) (n + 1) y.1.x ∧ Fe (aP p) l.L n (aF y.1.x)) ∨ (¬ De (aP p) ∧ y.1.nil = true ∧ y.2 = (0, 1))) (fun D x hI hD => ?_)
  ⟨rfl, rfl, rfl, 0, rfl, Nat.zero_le _, hFC, by rw [ya]; rfl⟩
 obtain ⟨l0, l', q24, q25, f⟩ := x
 obtain ⟨e0, e1, e2, k, e3, hk, hF, hA⟩ := hI
 simp only at e0 e1 e2 e3 hF hA hD
 subst e0 e1 e2 e3
 simp only [tt_ft_7]
 refine AE ilI (fun h => ?_) fun h => of_wp ?_
 · have hkm : k < l'.n := by omega
   have hE := hl.e k hkm
   have hL : l'.L[k]? = some (l'.get k) := Sl.Db l' hkm
   refine wN (BI hkm) ?_
   simp only [Int.toNat_natCast]
   refine wC (Ms hF hE (by omega) (by omega)) fun (y : Int × TFa) hy => ?_
   obtain ⟨y1, y2, y3⟩ := hy
   have y3' : FC p (1 + ((k + 1 : Nat) : Int)) (k + 1) y.2 := by rw [show (1 : Int) + ((k + 1 : Nat) : Int) = 1 + k + 1 by omega]; exact y3
   refine AE (p := y.1 ≠ 0) (by rw [bnI, ieI]) (fun q => .inl ⟨hP, rfl, rfl, k, rfl, hk, y3', ?_⟩) fun q => ?_
   · have hna : BU (aP p) (aF f) (l'.get k) = false := by
      cases w : BU (aP p) (aF f) (l'.get k)
      · rfl
      · exact absurd (y1.trans (Jd.2 w)) q
     change Fe (aP p) l'.L k (aF y.2)
     rw [y2, (Jx hna).2]
     exact ⟨by rw [Sl.BL]; exact hk, hA, fun e he => by rw [hL] at he; cases he; exact hna⟩
   · have hAl : BU (aP p) (aF f) (l'.get k) = true := Jd.1 (y1.symm.trans (Classical.byContradiction q))
     rw [HP hAl] at y2
     refine hD _ ⟨rfl, rfl, rfl, k + 1, by rw [Cn hkm hl.n], hkm, y3', ?_⟩ (by simp only [Cn hkm hl.n]; omega)
     change _ = some (aF y.2)
     rw [y2]
     exact La hA hL hAl
 · obtain rfl : k = l'.n := by omega
   simp only [tt_ft_12]
   refine .inl ⟨hP, rfl, rfl, l'.n, rfl, hk, hF.grow (by omega) (by omega), by rw [Sl.BL]; exact hk, hA, fun e he => ?_⟩
   rw [Sl.Db?, if_neg (by omega)] at he
   cases he
theorem Ll : D_f3p.ev 1000 PUnit.unit = some true := by kernel_rfl
theorem QE : D_f3p.wp PUnit.unit fun y => y = true := ⟨true, D_f3p.GG 1000 _ _ Ll, rfl⟩
theorem w_f34 {p q : TPg} (hp : G6 p) (hq : Fh q p) {l : Sl TEv} (hl : TJ l) (hn : l.n ≤ 65536) :
 D_f34.wp (q, l) fun y => (De (aP p) ∧ y.2 = 0 ∧ ∃ n : Nat, y.1 = n ∧ ∃ m, Fe (aP p) l.L n m) ∨ (¬ De (aP p) ∧ y = (0, 1)) := by
 refine of_wp ?_
 simp only [tt_f34]
 refine wC (TR hp hq hl hn) fun (y : Bx TFa × (Int × Int)) hy => ?_
 rcases hy with ⟨hP, a, _, n, c, _, _, f⟩ | ⟨h, _, g⟩
 · exact .inl ⟨hP, a, n, c, _, f⟩
 · exact .inr ⟨h, g⟩
theorem w_f1n {p : TPg} (hp : G6 p) (hP : De (aP p)) {l : Sl TEv} (hl : TJ l) (hn : l.n ≤ 65536) :
 D_f1n.wp (p, l) fun y => ∃ n : Nat, y.2 = n ∧ n ≤ l.n ∧ SV p (1 + n) n y.1 ∧ Fe (aP p) l.L n (aS y.1) := by
 refine of_wp ?_
 simp only [tt_f1n]
 refine wC (w_f2l p hp hP) fun (s : TSt) hs => ?_
 refine C8 (tt := tt_f1n_3) (fun x : X_f1n_3 => x.FV = l ∧ x.H4 = p ∧ ∃ k : Nat, x.TL = k ∧ k ≤ l.n ∧ SV p (1 + k) k x.HI ∧ KI (aP p) (l.L.take k) (FF (aP p)) = some (aS x.HI)) (fun x => (l.n - x.TL).toNat)
  (fun _ y => ∃ n : Nat, y.2 = n ∧ n ≤ l.n ∧ SV p (1 + n) n y.1 ∧ Fe (aP p) l.L n (aS y.1)) (fun D x hI hD => ?_)
  ⟨rfl, rfl, 0, rfl, Nat.zero_le _, hs.2, by change _ = some (aS s); rw [hs.1]; rfl⟩
 obtain ⟨l0, p0, i7, m4, s'⟩ := x
 obtain ⟨e0, e1, k, e3, hk, hS, hA⟩ := hI
 simp only at e0 e1 e3 hS hA hD
 subst e0 e1 e3
 simp only [tt_f1n_3]
 refine AE ilI (fun h => ?_) fun h => of_wp ?_
 · have hkm : k < l0.n := by omega
   have hE := hl.e k hkm
   have hL : l0.L[k]? = some (l0.get k) := Sl.Db l0 hkm
   refine wN (BI hkm) ?_
   simp only [Int.toNat_natCast]
   refine wC (w_f4i hS hE (by omega) (by omega)) fun (y : Int × TSt) hy => ?_
   obtain ⟨y1, y2, y3⟩ := hy
   refine AE (p := y.1 ≠ 0) (by rw [bnI, ieI]) (fun q => ⟨k, rfl, hk, hS, by rw [Sl.BL]; exact hk, hA, fun e he => ?_⟩) fun q => ?_
   · rw [hL] at he
     cases he
     cases w : BU (aP p0) (aS s') (l0.get k)
     · rfl
     · exact absurd (y1.trans (Jd.2 w)) q
   · have hAl : BU (aP p0) (aS s') (l0.get k) = true := Jd.1 (y1.symm.trans (Classical.byContradiction q))
     rw [HP hAl] at y2
     refine hD _ ⟨rfl, rfl, k + 1, by rw [Cn hkm hl.n], hkm, by rw [show (1 : Int) + ((k + 1 : Nat) : Int) = 1 + k + 1 by omega]; exact y3, ?_⟩ (by simp only [Cn hkm hl.n]; omega)
     change _ = some (aS y.2)
     rw [y2]
     exact La hA hL hAl
 · obtain rfl : k = l0.n := by omega
   simp only [tt_f1n_9]
   refine ⟨l0.n, rfl, hk, hS, by rw [Sl.BL]; exact hk, hA, fun e he => ?_⟩
   rw [Sl.Db?, if_neg (by omega)] at he
   cases he
theorem w_f43 {p : TPg} (hp : G6 p) (hP : De (aP p)) {l : Sl TEv} (hl : TJ l) (hn : l.n ≤ 65536) :
 D_f43.wp (p, l) fun y => ∃ n : Nat, y = n ∧ ∃ m, Fe (aP p) l.L n m := by
 refine of_wp ?_
 simp only [tt_f43]
 exact wC (w_f1n hp hP hl hn) fun (y : TSt × Int) hy => by
  obtain ⟨n, a, _, _, b⟩ := hy
  exact ⟨n, a, _, b⟩
theorem Tl {l : Sl TEv} (h : TJ l) {b : Bool} : TJ ⟨b, l.n, l.get⟩ := ⟨h.n, h.e⟩
theorem KL (p : TPg) (l : Sl TEv) (hp : G6 p) (hl : TJ l) : D_f1g.wp (p, l) fun y => y = true := by
 refine of_wp ?_
 simp only [tt_f1g]
 have aw : ∀ {k : Bool → TT Tryz.prog R_f1g} {Q}, (k true).wp Q → (TT.call con_f3p PUnit.unit k).wp Q := fun h => wC QE fun (y : Bool) hy => by subst hy; exact h
 refine aw (Bc (fun h => by simp at h) fun _ => ?_)
 refine wC (Su p hp) fun (y : Bool) hy => AE bnI (fun _ => aw rfl) fun hf => AE ilI (fun _ => aw rfl) fun hl60 => of_wp ?_
 have hfew := hy (Classical.byContradiction hf)
 have hn : l.n ≤ 65536 := by omega
 simp only [tt_f1g_3, Nat.zero_add]
 refine wC (RX p hfew) fun (q : TPg) hq => wN (by simp only [room, Bool.true_and, decide_eq_true_eq]; omega) ?_
 refine wC (w_f34 hp hq (Tl hl (b := cond (Nat.beq l.n 0) false false)) hn) fun (y : Int × Int) hy => wC (law_f42 p hp) fun (z : Bool) hz => AE bnI (fun hno => ?_) fun hyes => ?_
 · rcases hy with ⟨hP, _⟩ | ⟨_, rfl⟩
   · exact absurd (hz.2 hP) hno
   · exact AE ieI (fun _ => rfl) fun e => absurd rfl e
 · have hP := hz.1 (Classical.byContradiction hyes)
   rcases hy with ⟨_, h0, n, hn1, m, hs⟩ | ⟨h, _⟩
   · refine wC (w_f43 hp hP hl hn) fun (w : Int) hw => ?_
     obtain ⟨n', rfl, m', hs'⟩ := hw
     refine AE ieI (fun _ => ?_) fun e => absurd (by rw [hn1, (Fe.uniq hs hs').1]) e
     exact ieI.2 h0
   · exact absurd hP h
def ok_TRg (x : TRg) : Prop := (fun n => (Lit.int .i64 n).wf = true) x.Kind ∧ (fun n => (Lit.int .i64 n).wf = true) x.Cf ∧ (fun n => (Lit.int .i64 n).wf = true) x.AQ ∧ True
def fl_TRg_0 : Field := (FH Tryz.prog 101).toList.getD 0 default
def fl_TRg_1 : Field := (FH Tryz.prog 101).toList.getD 1 default
def fl_TRg_2 : Field := (FH Tryz.prog 101).toList.getD 2 default
theorem op_TRg : Dv Tryz.prog 101 e_TRg ok_TRg :=
 Dv.map (EV (fs := FH Tryz.prog 101) (l := fl_TRg_0 :: fl_TRg_1 :: fl_TRg_2 :: []) (by kernel_rfl) (by kernel_rfl) (by kernel_rfl)
  (BP (u := 3) (s := 1) (by kernel_rfl) (by kernel_rfl) (by kernel_rfl) (Bt (k := .i64) (by kernel_rfl)) (BP (u := 3) (s := 1) (by kernel_rfl) (by kernel_rfl) (by kernel_rfl) (Bt (k := .i64) (by kernel_rfl)) (BP (u := 3) (s := 1) (by kernel_rfl) (by kernel_rfl) (by kernel_rfl) (Bt (k := .i64) (by kernel_rfl)) Gk)))) (fun x => ⟨x.1, x.2.1, x.2.2.1⟩) (fun _ => rfl) (fun _ h => h)
def ok_TIn (x : TIn) : Prop := (fun n => (Lit.int .i64 n).wf = true) x.Op ∧ (fun n => (Lit.int .i64 n).wf = true) x.A ∧ (fun n => (Lit.int .i64 n).wf = true) x.B ∧ (fun n => (Lit.int .i64 n).wf = true) x.C ∧ (fun n => (Lit.int .i64 n).wf = true) x.D ∧ (fun n => (Lit.int .u64 n).wf = true) x.K ∧ True
def fl_TIn_0 : Field := (FH Tryz.prog 119).toList.getD 0 default
def fl_TIn_1 : Field := (FH Tryz.prog 119).toList.getD 1 default
def fl_TIn_2 : Field := (FH Tryz.prog 119).toList.getD 2 default
def fl_TIn_3 : Field := (FH Tryz.prog 119).toList.getD 3 default
def fl_TIn_4 : Field := (FH Tryz.prog 119).toList.getD 4 default
def fl_TIn_5 : Field := (FH Tryz.prog 119).toList.getD 5 default
theorem op_TIn : Dv Tryz.prog 119 e_TIn ok_TIn :=
 Dv.map (EV (fs := FH Tryz.prog 119) (l := fl_TIn_0 :: fl_TIn_1 :: fl_TIn_2 :: fl_TIn_3 :: fl_TIn_4 :: fl_TIn_5 :: []) (by kernel_rfl) (by kernel_rfl) (by kernel_rfl)
  (BP (u := 3) (s := 1) (by kernel_rfl) (by kernel_rfl) (by kernel_rfl) (Bt (k := .i64) (by kernel_rfl)) (BP (u := 3) (s := 1) (by kernel_rfl) (by kernel_rfl) (by kernel_rfl) (Bt (k := .i64) (by kernel_rfl)) (BP (u := 3) (s := 1) (by kernel_rfl) (by kernel_rfl) (by kernel_rfl) (Bt (k := .i64) (by kernel_rfl)) (BP (u := 3) (s := 1) (by kernel_rfl) (by kernel_rfl) (by kernel_rfl) (Bt (k := .i64) (by kernel_rfl)) (BP (u := 3) (s := 1) (by kernel_rfl) (by kernel_rfl) (by kernel_rfl) (Bt (k := .i64) (by kernel_rfl)) (BP (u := 41) (s := 1) (by kernel_rfl) (by kernel_rfl) (by kernel_rfl) (Bt (k := .u64) (by kernel_rfl)) Gk))))))) (fun x => ⟨x.1, x.2.1, x.2.2.1, x.2.2.2.1, x.2.2.2.2.1, x.2.2.2.2.2.1⟩) (fun _ => rfl) (fun _ h => h)
def ok_TPg (x : TPg) : Prop := (P1 ok_TRg) x.AJ ∧ (P1 (P1 ok_TIn)) x.AB ∧ True
def fl_TPg_0 : Field := (FH Tryz.prog 25).toList.getD 0 default
def fl_TPg_1 : Field := (FH Tryz.prog 25).toList.getD 1 default
theorem op_TPg : Dv Tryz.prog 25 e_TPg ok_TPg :=
 Dv.map (EV (fs := FH Tryz.prog 25) (l := fl_TPg_0 :: fl_TPg_1 :: []) (by kernel_rfl) (by kernel_rfl) (by kernel_rfl)
  (BP (u := 22) (s := 1) (by kernel_rfl) (by kernel_rfl) (by kernel_rfl) (E2 (e := 101) (s := 3) (d_TRg .undef) (by kernel_rfl) (by kernel_rfl) (by decide) (op_TRg)) (BP (u := 23) (s := 1) (by kernel_rfl) (by kernel_rfl) (by kernel_rfl) (E2 (e := 79) (s := 1) (dsl_TIn .undef) (by kernel_rfl) (by kernel_rfl) (by decide) (E2 (e := 119) (s := 6) (d_TIn .undef) (by kernel_rfl) (by kernel_rfl) (by decide) (op_TIn))) Gk))) (fun x => ⟨x.1, x.2.1⟩) (fun _ => rfl) (fun _ h => h)
def ok_TEv (x : TEv) : Prop := (fun n => (Lit.int .i64 n).wf = true) x.Thread ∧ (fun n => (Lit.int .i64 n).wf = true) x.Kind ∧ (fun n => (Lit.int .i64 n).wf = true) x.Ring ∧ (fun n => (Lit.int .u64 n).wf = true) x.AG ∧ (fun n => (Lit.int .u64 n).wf = true) x.Value ∧ True
def fl_TEv_0 : Field := (FH Tryz.prog 56).toList.getD 0 default
def fl_TEv_1 : Field := (FH Tryz.prog 56).toList.getD 1 default
def fl_TEv_2 : Field := (FH Tryz.prog 56).toList.getD 2 default
def fl_TEv_3 : Field := (FH Tryz.prog 56).toList.getD 3 default
def fl_TEv_4 : Field := (FH Tryz.prog 56).toList.getD 4 default
theorem op_TEv : Dv Tryz.prog 56 e_TEv ok_TEv :=
 Dv.map (EV (fs := FH Tryz.prog 56) (l := fl_TEv_0 :: fl_TEv_1 :: fl_TEv_2 :: fl_TEv_3 :: fl_TEv_4 :: []) (by kernel_rfl) (by kernel_rfl) (by kernel_rfl)
  (BP (u := 3) (s := 1) (by kernel_rfl) (by kernel_rfl) (by kernel_rfl) (Bt (k := .i64) (by kernel_rfl)) (BP (u := 3) (s := 1) (by kernel_rfl) (by kernel_rfl) (by kernel_rfl) (Bt (k := .i64) (by kernel_rfl)) (BP (u := 3) (s := 1) (by kernel_rfl) (by kernel_rfl) (by kernel_rfl) (Bt (k := .i64) (by kernel_rfl)) (BP (u := 41) (s := 1) (by kernel_rfl) (by kernel_rfl) (by kernel_rfl) (Bt (k := .u64) (by kernel_rfl)) (BP (u := 41) (s := 1) (by kernel_rfl) (by kernel_rfl) (by kernel_rfl) (Bt (k := .u64) (by kernel_rfl)) Gk)))))) (fun x => ⟨x.1, x.2.1, x.2.2.1, x.2.2.2.1, x.2.2.2.2.1⟩) (fun _ => rfl) (fun _ h => h)
theorem K3 : PU Tryz.prog 25 e_TPg ok_TPg :=
 L9 (fs := FH Tryz.prog 25) (by kernel_rfl) op_TPg (fun _ => rfl) (fun _ => rfl)
theorem Tj {p : TPg} (h : ok_TPg p) : G6 p := by
 obtain ⟨⟨rz, rn, rr⟩, ⟨_, tn, tt⟩, _⟩ := h
 refine ⟨rn, tn, fun t ht => (tt t ht).2.1, fun t ht k hk => ?_, rz, fun t ht => (tt t ht).1⟩
 obtain ⟨_, a, b, c, d, k, _⟩ := (tt t ht).2.2 k hk
 have a := wf_i64 a; have b := wf_i64 b; have c := wf_i64 c; have d := wf_i64 d
 exact ⟨wf_u64 k, by omega, by omega, by omega, by omega⟩
theorem MB : PU Tryz.prog 26 esl_TEv (P1 ok_TEv) :=
 Od (Ni (e := 56) (by kernel_rfl)) (E2 (e := 56) (s := 5) (d_TEv .undef) (by kernel_rfl) (by kernel_rfl) (by decide) op_TEv) (fun _ => rfl) (fun _ => rfl)
theorem Tm {e : TEv} (h : ok_TEv e) : P2 e := by
 obtain ⟨_, _, _, t, v, _⟩ := h
 exact ⟨wf_u64 t, wf_u64 v⟩
theorem Tk {l : Sl TEv} (h : P1 ok_TEv l) : TJ l := ⟨h.2.1, fun i hi => Tm (h.2.2 i hi)⟩

open Go.ChangeShapes Go.WideShapes Go.ChangeAt Go.RowKit
theorem Tryz.own : ownKnob Tryz.prog.godebug = none := by kernel_rfl
theorem Tryz.laidOut : laidOutB Tryz.prog = true := by kernel_rfl
theorem Tryz.UC : mapsRowed Tryz.prog = true := by kernel_rfl
theorem Tryz.full : ∀ t e, t < Tryz.prog.types.size → Tryz.prog.underlying t = some (.slice e) → 0 < Tryz.prog.cellsOf e := slices_full_of Tryz.prog (by kernel_rfl)
def GJ : Value := .agg #[.slice none 0 0, .slice none 0 0]
open Go.ChangeShapes Go.WideShapes Go.ChangeAt Go.RowKit
def R6 (k : IntKind) (l : List Int) : Array Value := (l.map fun z => Value.int k z).toArray
def Th (g : Nat) (c : Array Value) (h : Array Obj) : Array Obj := h.modify g fun
 | .cells _ t frozen => .cells c t frozen
 | o => o
def Ig (os : Os) : World :=
 { World.holding Tryz.prog os ⟨#[], #[], []⟩ with heap := (Th 0 (R6 .u64 [1, 10, 100, 1000, 10000, 100000, 1000000, 10000000, 100000000, 1000000000, 10000000000, 100000000000, 1000000000000, 10000000000000, 100000000000000, 1000000000000000, 10000000000000000, 100000000000000000, 1000000000000000000, 10000000000000000000])
  (Th 2 (R6 .u8 [0, 1, 28, 2, 29, 14, 24, 3, 30, 22, 20, 15, 25, 17, 4, 8, 31, 27, 13, 23, 21, 19, 16, 7, 26, 12, 18, 6, 11, 5, 10, 9])
  (Th 3 (R6 .u8 [0, 1, 56, 2, 57, 49, 28, 3, 61, 58, 42, 50, 38, 29, 17, 4, 62, 47, 59, 36, 45, 43, 51, 22, 53, 39, 33, 30, 24, 18, 12, 5, 63, 55, 48, 27, 60, 41, 37, 16, 46, 35, 44, 21, 52, 32, 23, 11, 54, 26, 40, 15, 34, 20, 31, 10, 25, 14, 19, 9, 13, 8, 7, 6])
  (World.holding Tryz.prog os ⟨#[], #[], []⟩).heap))) }
theorem OW {s : ChangeSpec} {row : OpenClaim} {os : Os} {f : FuncId} {fn : Func} {F : Stop.Interp} {H : Type} {enc : TypeId × Value → H} (started : os.Started) (noInit : Tryz.prog.inits.idxOf? f = none) (hfn : Tryz.prog.funcs[f]? = some fn)
 (hwit : ∃ (w : World) (tape : Tape) (i : Input), w.os = os ∧ (w.forCall tape i).Shaped Tryz.prog ∧ i.vars = [] ∧ Input.okWide Tryz.prog (w.forCall tape i) .any w.heap.size f i ∧
   (OpenSpec.ofChange s).preRow enc Tryz.prog fn row.domain false row.laid (w.forCall tape i).memory i.args ∧ ({} : Assume).holds Tryz.prog (lone (Frame.enter Tryz.prog f i.args .normal) [] (w.forCall tape i)))
 (hp : (fn.params.toList.all fun t => decide (t < Tryz.prog.types.size)) = true) (hvars : s.vars = []) (hr : fn.resultTypes = #[4])
 (hs : ∀ ds : List (DataW H), ds.length = fn.params.toList.length → s.fn H (ds ++ []) = { results := [.lit (.bool true)], args := ds })
 (Ht : ∀ (W : World) (base : Nat) (args : Array Value) (ds : List (DataW H)) (ps : List MemPlace),
   (∀ (j : Nat) t v, fn.params[j]? = some t → args[j]? = some v → Value.okWide Tryz.prog W .any base t v) →
   DataW.TrodAll enc Tryz.prog W 0 (fun _ => true) true fn.params.toList args.toList ds ps →
   Calls Tryz.prog f args W fun e w' => e = .returned (.bool true) ∧ Below W.heap.size W w') :
 ReturnsInHanded {} Tryz.checked os f .any ((OpenSpec.ofChange s).preRow enc Tryz.prog fn row.domain false row.laid) (((OpenSpec.ofChange s).at F).post enc Tryz.prog fn false true false false) := by
 refine returnsInHanded_of_row (C := Tryz.checked) (s := OpenSpec.ofChange s) Tryz.own started noInit hfn hwit ?_
 intro W base args ds gs before hval hW _ _ _ hL _ _
 have hW' : DataW.Whole enc Tryz.prog fn.params.toList s.vars false W args.toList ds gs before := hW
 have hW := hW'
 obtain ⟨p, q, hA, hV, rfl, _, _⟩ := hW
 rw [hvars] at hV
 obtain ⟨rfl, rfl⟩ := trodVars_none hV
 simp only [List.append_nil] at hW'
 refine (Ht W base args ds p hval hA).mono fun e W' ⟨he, hB⟩ => ⟨_, he, ?_⟩
 exact Pv (s := s) Tryz.laidOut Tryz.UC Tryz.full (fun t ht => of_decide_eq_true (List.all_eq_true.1 hp t ht)) hvars hr (by kernel_rfl) (hs ds (Go.trodAll_length hA).2) hW' hA hB
open Go.ChangeShapes Go.WideShapes Go.ChangeAt Go.RowKit
theorem RY (os : Os) (args : Array Value) : laidMet Tryz.prog Rows.judgeFirstRow.laid ((Ig os).forCall (fun _ _ => 0) ⟨#[], args, []⟩).memory :=
 laidMet_of_run' 8 (by kernel_rfl) (by kernel_rfl)
theorem Hk (os : Os) (started : os.Started) (H : Type) (enc : TypeId × Value → H) (F : Stop.Interp) :
 ReturnsInHanded {} Tryz.checked os 3 .any ((OpenSpec.ofChange Rows.judgeFirstSpec).preRow enc Tryz.prog Tryz.f3 Rows.judgeFirstRow.domain false Rows.judgeFirstRow.laid) (((OpenSpec.ofChange Rows.judgeFirstSpec).at F).post enc Tryz.prog Tryz.f3 false true false false) := by
 obtain ⟨x, hx⟩ := Option.isSome_iff_exists.1 (show (DataW.whole enc Tryz.prog ((Ig os).forCall (fun _ _ => 0) ⟨#[], #[GJ, .slice none 0 0], []⟩).memory Tryz.f3.params.toList Rows.judgeFirstSpec.vars false #[GJ, .slice none 0 0].toList 8).isSome = true by kernel_rfl)
 refine OW (s := Rows.judgeFirstSpec) (row := Rows.judgeFirstRow) started (by kernel_rfl) Tryz.func3
  (witness_row_at (enc := enc) (C := Tryz.checked) false (Ig os) #[GJ, .slice none 0 0] rfl (by kernel_rfl) (by kernel_rfl) (by kernel_rfl)
    (OpenSpec.preRow_of_cond 8 hx (by kernel_rfl) (fun k hk => by cases hk) (by kernel_rfl) (RY os _)))
  (by kernel_rfl) rfl rfl ?_ ?_
 · intro ds hl
   match ds, hl with
   | [_, _], _ => rfl
 · intro W base args ds ps hval hA
   rw [Tryz.params3] at hA hval
   obtain ⟨v0, v1, d0, d1, p0, p1, rfl, rfl, rfl, h0, h1⟩ := trodAll_two hA
   obtain ⟨a, ha, ra⟩ := K3 H enc W base v0 d0 p0 (hval 0 25 v0 rfl rfl) h0
   obtain ⟨b, hb, rb⟩ := MB H enc W base v1 d1 p1 (hval 1 26 v1 rfl rfl) h1
   obtain ⟨y, hy, rfl⟩ := KL a b (Tj ha) (Tk hb)
   refine Ot (con_f1g.ok (a, b) true hy) (fun j x v hx hv => ?_) rfl
   match j, hx, hv with
   | 0, hx, hv => change some (e_TPg a) = some x at hx; cases hx; simp at hv; subst hv; exact ra
   | 1, hx, hv => change some (esl_TEv b) = some x at hx; cases hx; simp at hv; subst hv; exact rb
theorem JO : Rows.JudgeFirstSaid :=
 OpenClaim.holds_of_cond 3 Tryz.f3 rfl rfl rfl rfl rfl rfl rfl ⟨rfl, rfl, rfl, rfl, rfl⟩ rfl rfl rfl rfl rfl (by kernel_rfl) Tryz.func3 (by kernel_rfl)
  (of_decide_eq_true (by kernel_rfl)) (by unfold Func.isWrapper; first | (rw [if_pos (by decide +kernel)]; kernel_rfl) | (rw [if_neg (by decide +kernel)]; exact ⟨rfl, rfl⟩))
  (fun os started H enc _ F => by rw [OpenClaim.pre_eq_preRow]; exact Hk os started H enc F)
theorem Ih (f : FuncId) (fn : Func) (hf : Tryz.pinned.checked.prog.funcNamed "rondeau/rondeaulaw24.JudgeFirst" = some f) (hfn : Tryz.pinned.checked.prog.funcs[f]? = some fn) :
 false = Tryz.pinned.checked.prog.looks [] ∧ ∀ (j : Nat) t, fn.params[j]? = some t → Tryz.pinned.checked.prog.wantsStandIn t = false := by
 obtain rfl : f = 3 := Option.some.inj ((show Tryz.prog.funcNamed "rondeau/rondeaulaw24.JudgeFirst" = some 3 by kernel_rfl).symm.trans hf) |>.symm
 obtain rfl : fn = Tryz.f3 := (Option.some.inj (Tryz.func3.symm.trans hfn)).symm
 refine ⟨by kernel_rfl, fun j t ht => ?_⟩
 have hall : (Tryz.f3.params.toList.all fun t => !Tryz.prog.wantsStandIn t) = true := by kernel_rfl
 have := List.all_eq_true.1 hall t (Array.mem_toList_iff.2 (Array.mem_of_getElem? ht))
 exact (show Tryz.prog.wantsStandIn t = false by simpa using this)
theorem judgeFirst_holds : Rows.JudgeFirstCardSaid :=
 Claim7.holds_tied_plain_at .later [] _ _ _ _ JO (fun _ h => by cases h) (by kernel_rfl) (fun _ h => by cases h) judgeFirst_row_tie rfl ⟨rfl, rfl⟩ (by kernel_rfl) rfl Ih (by kernel_rfl)
end Go.Proofs.YtlhifcnjnmeknaaGreatDoor
end
