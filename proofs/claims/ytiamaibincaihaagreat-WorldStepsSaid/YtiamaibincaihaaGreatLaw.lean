/- For every program, every tape and every script: what each entry makes a fabric do, or that it does nothing, is what the document says, and what is offered is done; what was handed in reads as it did. No conditions. -/
import Derived.Test.YtiamaibincaihaaGreatLawA
import Derived.Test.YtiamaibincaihaaGreatRows
noncomputable section
namespace Go.Proofs.YtiamaibincaihaaGreat
open Go Go.Vm Go.Proofs
set_option maxRecDepth 10000
set_option maxRecDepth 100000
structure RU (p : TPg) (rs rs' : Sl (Bx TRr)) (i : Nat) (m : MR) : Prop where
 n : rs'.n = rs.n
 ot : ∀ j, j ≠ i → rs'.get j = rs.get j
 nl : (rs'.get i).nil = false
 wf : P6 (p.AF.get i) (rs'.get i).x
 eq : aR (rs'.get i).x = m
theorem MF {p : TPg} {rs rs' : Sl (Bx TRr)} {i : Nat} {m : MR} (z : Bx TRr) (h1 : rs'.n = rs.n) (h2 : ∀ j, rs'.get j = cond (Nat.beq j i) z (rs.get j)) (h3 : z.nil = false) (h4 : P6 (p.AF.get i) z.x) (h5 : aR z.x = m) : RU p rs rs' i m := by
 have hi : rs'.get i = z := by rw [h2, Nat.beq_refl]; rfl
 exact ⟨h1, fun j hj => by rw [h2, Jb hj]; rfl, by rw [hi]; exact h3, by rw [hi]; exact h4, by rw [hi]; exact h5⟩
theorem RU.L {p : TPg} {rs rs' : Sl (Bx TRr)} {i : Nat} {m : MR} (h : RU p rs rs' i m) : rs'.L.map (fun r => aR r.x) = (rs.L.map fun r => aR r.x).set i m := by
 apply List.ext_getElem
 · simp [h.n]
 · intro j h1 h2
   have hj : j < rs.n := by simpa [h.n] using h1
   simp only [List.getElem_map, Sl.Gw]
   by_cases e : j = i
   · subst e; rw [List.getElem_set_self, h.eq]
   · rw [List.getElem_set_ne (fun q => e q.symm)]
     simp only [List.getElem_map, Sl.Gw, h.ot j e]
section
variable {p : TPg} {B : Int} {k : Nat} {f : TFa} {e : TEv}
theorem Ka (h : FC p B k f) {i : Int} (h0 : 0 ≤ i) (h1 : i < p.AF.n) (hF : Ed (CO (aF f) i) = false) :
 D_f2c.wp (i, f) fun y => ∃ rs, y = ⟨f.p, f.threads, rs, f.now, f.reads, f.ended⟩ ∧ RU p f.rings rs i.toNat { CO (aF f) i with Ax := (CO (aF f) i).Ax + 1 } := by
 obtain ⟨hC, hnil, hrn⟩ := h.ring h0 h1
 have hfr := h.wf.rn
 have hi : i.toNat < p.AF.n := by omega
 rw [hrn] at hF ⊢
 have nd : ((true && true) && ((Nat.beq f.rings.n f.rings.n) && (Nat.blt i.toNat f.rings.n))) = true := by simp; omega
 have nd2 : ((true && true) && (Nat.beq f.rings.n f.rings.n)) = true := by simp
 have ib : A3 i f.rings.n = true := by rw [ibI]; omega
 refine of_wp ?_
 simp only [tt_f2c, Nat.zero_add]
 refine wN ib (wN (by simp [hnil]) (wC (Mr hC) fun (y : Int × Int × TRr) hy => wN nd (Cn (wN nd2 ?_))))
 rcases hy with ⟨hcl, rfl⟩ | ⟨_, hfl, _⟩ | ⟨hcl, _, hy0, hyr⟩
 · refine AE (p := (10 : Int) ≠ 10) (by rw [bnI, ieI]) (fun q => absurd rfl q) fun _ => ?_
   simp only [Nat.beq_refl, cond_true]
   have hc := hC.rg
   refine wN ib (wN (by simp) (wC (GZ (p.AF.get i.toNat) _ hc hC.wf) fun (s : TRs) hs => wN (by simp; omega) (Cn (wN (by simp) ?_))))
   obtain ⟨e1, e2, e3⟩ := hs
   have hcp := h.wf.cp
   have hI := hC.inv.UY hF
   have ht := hC.t
   have hT : s.Ax = (f.rings.get i.toNat).x.AA.tail := congrArg MR.Ax e1
   have hb := h.hB
   rw [Am (z := s.Ax + 1) (by rw [hT]; omega) (by rw [hT]; omega), hcp.r.g _ hi]
   have es : I3 ⟨s.Ax + 1, s.AV, s.Ao, s.Ai⟩ = { aR (f.rings.get i.toNat).x with Ax := (aR (f.rings.get i.toNat).x).Ax + 1 } := by
    rw [← e1]; rfl
   rw [← es] at hI
   refine wN (by rw [ibI, hcp.r.n]; omega) (wC (w_fc (p.AF.get i.toNat) ⟨s.Ax + 1, s.AV, s.Ao, s.Ai⟩ hc (QI hc hI (by omega) e2 e3)) fun (z : Bx TRr × Int) hz => ?_)
   rcases hz with ⟨_, z2, zn, zw, za⟩ | ⟨hno, _⟩
   rotate_left
   · exact absurd (OH hc hI (by omega)) hno
   refine AE ieI (fun _ => wN ib (wN (by simp) (wN (by simp) ⟨_, rfl, MF z.1 rfl (fun j => ?_) zn zw (za.trans es)⟩))) fun q => absurd z2 q
   show (⟨_, _⟩ : Bx TRr) = cond (Nat.beq j _) _ _
   cases Nat.beq j i.toNat <;> rfl
 · rw [hF] at hfl; cases hfl
 · refine AE (p := y.2.1 ≠ 10) (by rw [bnI, ieI]) (fun _ => ⟨_, rfl, MF ⟨false, y.2.2⟩ rfl (fun j => ?_) rfl ?_ ?_⟩) fun q => absurd (by rw [hy0]; decide) q
   · show (⟨_, _⟩ : Bx TRr) = cond (Nat.beq j _) _ _
     cases Nat.beq j i.toNat <;> rfl
   · show P6 _ y.2.2
     rw [hyr]
     exact ⟨hC.wf.sn, hC.wf.rd, hC.wf.ms, hC.wf.hz, hC.wf.lz, hC.wf.hn, hC.wf.ln⟩
   · show aR y.2.2 = _
     rw [hyr]; rfl
theorem RM (h : FC p B k f) (he : SR e) (F : Dg (aP p) (aF f) e) (v : Int) (hv : Bs v) (hve : v = if e.Kind = 4 then (A1 (CO (aF f) e.Ring) e.AG).Value else 0) (rs : Sl (Bx TRr)) (now rd : Int) (en : Bool) :
 D_fe_20.wp (⟨e, v, ⟨f.p, f.threads, rs, now, rd, en⟩⟩ : X_fe_20) fun y => ∃ ts, y = ⟨f.p, ts, rs, now, rd, en⟩ ∧ ts.n = f.threads.n ∧ ts.L.map aT = (As (aP p) (aF f) e).AB ∧ ∀ t, t < ts.n → EH (k + 1) (ts.get t) := by
 obtain ⟨h0, h1⟩ := Em h.inv F
 obtain ⟨c1, c2, c3, c4⟩ := h.code h0 h1
 have htn := h.wf.tn
 have hk := h.hk
 have hT := h.J2 h0 h1
 rw [← c3] at hT
 have hcr := Hh h.inv h0 h1
 rw [← FK h0 h1, ← c3] at hcr
 refine of_wp ?_
 simp only [tt_fe_20, Nat.zero_add]
 have ib : A3 e.Thread f.threads.n = true := by rw [ibI]; omega
 refine wN (by rw [ibI]; omega) (wN ib (wN (by simp) (wC (w_f28 _ _ _ e v k (by omega) c1 c2 hcr hT (h.wf.tw _ (by omega)) hv he.vl he.tk.1) fun (y : TTh × Int) hy => wN ib (wN (by simp) (wN (by simp) ?_)))))
 have hd : RH (f.p.AB.get e.Thread.toNat).L (aT (f.threads.get e.Thread.toNat)) e = 0 := by
  unfold RH
  have hft := F.ft
  have ha0 := F.a0
  unfold Aq at hft ha0
  rw [I8 h0 (by omega), ← c3] at hft ha0
  rw [if_neg (by rw [F.re]; simp), if_neg (by rw [hft]; simp [ha0])]
 obtain ⟨hy1, hy2⟩ := hy.2 hd
 have hts : ∀ {T : Sl TTh}, T.n = f.threads.n → (∀ j, T.get j = cond (Nat.beq j e.Thread.toNat) y.1 (f.threads.get j)) → T.L.map aT = (As (aP p) (aF f) e).AB ∧ ∀ t, t < T.n → EH (k + 1) (T.get t) := fun {T} e1 e2 => by
  refine ⟨?_, fun t ht => ?_⟩
  · have : T.L = f.threads.L.set e.Thread.toNat y.1 := by rw [← Gb]; exact R4 e1 e2
    rw [this, map_set, hy1]
    unfold As
    simp only
    rw [I8 h0 (by omega), ← c3, hve]
    rfl
  · rw [e2]
    by_cases q : t = e.Thread.toNat
    · subst q; rw [Nat.beq_refl]; exact hy2
    · rw [Jb q]; exact (h.wf.tw t (by omega)).grow (by omega)
 refine ⟨_, rfl, rfl, hts rfl fun j => ?_⟩
 show (⟨_, _, _, _, _, _, _⟩ : TTh) = cond (Nat.beq j _) _ _
 cases Nat.beq j e.Thread.toNat <;> rfl
theorem FC.TI (h : FC p B k f) {t : Int} (h0 : 0 ≤ t) (h1 : t < p.AB.n) : Bs (Aq (aP p) (aF f) t).Value := by
 have htn := h.wf.tn
 have := h.J2 h0 h1
 unfold Aq
 rw [I8 h0 (by omega)]
 rw [FK h0 h1] at this ⊢
 exact (OY (Hh h.inv h0 h1) (h.hp.k (by omega)) this (h.wf.tw _ (by omega)).rg).2
theorem Lp (h : FC p B k f) (he : SR e) (F : Dg (aP p) (aF f) e) (ht : Az e.Kind = true → DP (CO (aF f) e.Ring) (Aq (aP p) (aF f) e.Thread) e = true) (hB : B + 1 ≤ 2305843009213693952) (hk : k + 1 ≤ 1000000000) :
 D_fe.wp (e, f) fun y => aF y = As (aP p) (aF f) e ∧ FC p (B + 1) (k + 1) y := by
 obtain ⟨t0, t1⟩ := Em h.inv F
 have hfr := h.wf.rn
 have htn := h.wf.tn
 have hre := B6 F.re
 have hI := LG h.inv h.hB he.tk.1 F ht
 have hU := Ml h.uv (h.TI t0 t1)
 refine of_wp ?_
 simp only [tt_fe, Nat.zero_add]
 refine wC (Ga h t0 t1) fun (a : TAk) ha => ?_
 -- the end of all ways
 have fin : ∀ (v : Int) (rs : Sl (Bx TRr)) (now rd : Int) (en : Bool), Bs v → v = (if e.Kind = 4 then (A1 (CO (aF f) e.Ring) e.AG).Value else 0) → rs.n = p.AF.n → (∀ i, i < rs.n → (rs.get i).nil = false ∧ P6 (p.AF.get i) (rs.get i).x) →
  rs.L.map (fun r => aR r.x) = (As (aP p) (aF f) e).AF → now = (As (aP p) (aF f) e).FQ → rd = (As (aP p) (aF f) e).Reads → en = (As (aP p) (aF f) e).Ba →
  D_fe_20.wp (⟨e, v, ⟨f.p, f.threads, rs, now, rd, en⟩⟩ : X_fe_20) fun y => aF y = As (aP p) (aF f) e ∧ FC p (B + 1) (k + 1) y := fun v rs now rd en hv hve r1 r2 r3 e1 e2 e3 => by
  refine (RM h he F v hv hve rs now rd en).mono fun y hy => ?_
  obtain ⟨ts, rfl, n1, n2, n3⟩ := hy
  have ea : aF ⟨f.p, ts, rs, now, rd, en⟩ = As (aP p) (aF f) e := by
   show (⟨_, _, _, _, _⟩ : MS) = _
   rw [n2, r3, e1, e2, e3]
  exact ⟨ea, h.hp, by rw [ea]; exact hI, ⟨h.wf.cp, by show ts.n = _; omega, n3, r1, r2⟩, by rw [ea]; exact hU, hB, hk⟩
 have vz : e.Kind ≠ 4 → (0 : Int) = (if e.Kind = 4 then (A1 (CO (aF f) e.Ring) e.AG).Value else 0) := fun q => by rw [if_neg q]
 have nw : e.Kind ≠ 8 → f.now = (As (aP p) (aF f) e).FQ := fun q => by unfold As; simp only; rw [if_neg q]; rfl
 have rd : e.Kind ≠ 10 → f.reads = (As (aP p) (aF f) e).Reads := fun q => by unfold As; simp only; rw [if_neg q]; rfl
 have en : e.Kind ≠ 11 → f.ended = (As (aP p) (aF f) e).Ba := fun q => by unfold As; simp only; rw [if_neg q]; rfl
 have rgs : Az e.Kind = false → f.rings.L.map (fun r => aR r.x) = (As (aP p) (aF f) e).AF := fun q => by unfold As; simp only [q, Bool.false_eq_true, if_false]; rfl
 -- with a ring
 have ring : Az e.Kind = true → ∀ (v : Int) (rs : Sl (Bx TRr)), Bs v → v = (if e.Kind = 4 then (A1 (CO (aF f) e.Ring) e.AG).Value else 0) → RU p f.rings rs e.Ring.toNat (CB (CO (aF f) e.Ring) (Aq (aP p) (aF f) e.Thread) e) →
  D_fe_20.wp (⟨e, v, ⟨f.p, f.threads, rs, f.now, f.reads, f.ended⟩⟩ : X_fe_20) fun y => aF y = As (aP p) (aF f) e ∧ FC p (B + 1) (k + 1) y := fun q v rs hv hve hu => by
  have h1 := Av.1 q
  refine fin v rs _ _ _ hv hve (by rw [hu.n]; exact hfr) (fun i hi => ?_) ?_ (nw (by omega)) (rd (by omega)) (en (by omega))
  · by_cases z : i = e.Ring.toNat
    · subst z; exact ⟨hu.nl, hu.wf⟩
    · rw [hu.ot i z]; exact h.wf.rw i (by rw [← hu.n]; exact hi)
  · rw [hu.L]
    unfold As
    simp only [q, if_true]
    rfl
 have tk := fun z => Av (k := e.Kind).2 z
 have info := fun (q : Az e.Kind = true) => by
  obtain ⟨r1, _, r2⟩ := Fo h.inv F (Co q)
  obtain ⟨hC, hnil, hrn⟩ := h.ring r1.1 r1.2
  exact (⟨r1, by rw [ha]; exact r2, hC, hnil, hrn, by rw [ibI]; omega, by simp [hnil], by simp; omega⟩ : (0 ≤ e.Ring ∧ e.Ring < p.AF.n) ∧ (e.Kind = 3 ∨ e.Kind = 4 → 0 ≤ (aA a).Reader ∧ (aA a).Reader < (p.AF.get e.Ring.toNat).AR) ∧ RC (p.AF.get e.Ring.toNat) B (f.rings.get e.Ring.toNat).x ∧ (f.rings.get e.Ring.toNat).nil = false ∧ CO (aF f) e.Ring = aR (f.rings.get e.Ring.toNat).x ∧ A3 e.Ring f.rings.n = true ∧
   (((Nat.beq f.rings.n f.rings.n) && true) && (!(f.rings.get e.Ring.toNat).nil)) = true ∧ ((true && true) && ((Nat.beq f.rings.n f.rings.n) && (Nat.blt e.Ring.toNat f.rings.n))) = true)
 have nd2 : ((true && true) && (Nat.beq f.rings.n f.rings.n)) = true := by simp
 rw [← ha] at ht
 refine AE ieI (fun k1 => ?_) fun n1 => AE ieI (fun k2 => ?_) fun n2 => AE ieI (fun k3 => ?_) fun n3 => AE ieI (fun k4 => ?_) fun n4 => AE ieI (fun k13 => ?_) fun n13 => ?_
 · have q := tk (by omega)
   obtain ⟨r1, _⟩ := info q
   have hT := ht q
   unfold DP at hT
   rw [if_pos k1] at hT
   simp only [Bool.and_eq_true, Bool.not_eq_true', decide_eq_true_eq] at hT
   refine wC (Ka h r1.1 r1.2 hT.1) fun (y : TFa) hy => ?_
   obtain ⟨rs, rfl, hu⟩ := hy
   refine ring q 0 rs Cd (vz (by omega)) ?_
   unfold CB
   rw [if_pos k1]; exact hu
 · have q := tk (by omega)
   obtain ⟨r1, r2, hC, hnil, hrn, d1, d2, d3⟩ := info q
   have hT := ht q
   unfold DP at hT
   rw [if_neg n1, if_pos k2, hrn] at hT
   refine wN d1 (wN d2 (wC (KY hC he.tk.1 hT) fun (y : Int × TRr) hy => wN d3 (Cn (wN nd2 (ring q 0 _ Cd (vz (by omega)) (MF ⟨false, y.2⟩ rfl (fun j => ?_) rfl hy.1 ?_))))))
   · show (⟨_, _⟩ : Bx TRr) = cond (Nat.beq j _) _ _
     cases Nat.beq j e.Ring.toNat <;> rfl
   · unfold CB
     rw [if_neg n1, if_pos k2, hrn, ← ha]; exact hy.2
 · have q := tk (by omega)
   obtain ⟨r1, r2, hC, hnil, hrn, d1, d2, d3⟩ := info q
   have hT := ht q
   unfold DP at hT
   rw [if_neg n1, if_neg n2, if_pos k3, hrn] at hT
   simp only [Bool.and_eq_true, Bool.not_eq_true', decide_eq_true_eq] at hT
   obtain ⟨j0, j1⟩ := r2 (.inl k3)
   have hn := hC.hn
   refine wN d1 (wN d2 (wC (N1 hC (j := a.Reader) j0 (by show (aA a).Reader < _; omega) hT.1) fun (y : Int × Int × TRr) hy => wN d3 (Cn (wN nd2 (ring q 0 _ Cd (vz (by omega)) (MF ⟨false, y.2.2⟩ rfl (fun j => ?_) rfl hy.1 ?_))))))
   · show (⟨_, _⟩ : Bx TRr) = cond (Nat.beq j _) _ _
     cases Nat.beq j e.Ring.toNat <;> rfl
   · unfold CB
     rw [if_neg n1, if_neg n2, if_pos k3, hrn, ← ha]; exact hy.2
 · have q := tk (by omega)
   obtain ⟨r1, r2, hC, hnil, hrn, d1, d2, d3⟩ := info q
   have hT := ht q
   unfold DP at hT
   rw [if_neg n1, if_neg n2, if_neg n3, if_pos k4, hrn] at hT
   obtain ⟨j0, j1⟩ := r2 (.inr k4)
   have hn := hC.hn
   refine wN d1 (wN d2 (wC (KX hC h.hB (j := a.Reader) j0 (by show (aA a).Reader < _; omega) he.tk.1 hT) fun (y : Int × Int × TRr) hy => wN d3 (Cn (wN nd2 (ring q _ _ ?_ ?_ (MF ⟨false, y.2.2⟩ rfl (fun j => ?_) rfl hy.2.1 ?_))))))
   · rw [hy.1, ← hrn]; exact Hv (M6 h.uv _) _
   · rw [hy.1, ← hrn, if_pos k4]
   · show (⟨_, _⟩ : Bx TRr) = cond (Nat.beq j _) _ _
     cases Nat.beq j e.Ring.toNat <;> rfl
   · unfold CB
     rw [if_neg n1, if_neg n2, if_neg n3, if_pos k4, hrn, ← ha]; exact hy.2.2
 · have q := tk (by omega)
   obtain ⟨r1, r2, hC, hnil, hrn, d1, d2, d3⟩ := info q
   refine wN d1 (wN d2 (wC (Mq _) fun (y : Int × TRr) hy => wN d3 (Cn (wN nd2 (ring q 0 _ Cd (vz (by omega)) (MF ⟨false, y.2⟩ rfl (fun j => ?_) rfl ?_ ?_))))))
   · show (⟨_, _⟩ : Bx TRr) = cond (Nat.beq j _) _ _
     cases Nat.beq j e.Ring.toNat <;> rfl
   · subst hy; exact ⟨hC.wf.sn, hC.wf.rd, hC.wf.ms, hC.wf.hz, hC.wf.lz, hC.wf.hn, hC.wf.ln⟩
   · subst hy
     unfold CB
     rw [if_neg n1, if_neg n2, if_neg n3, if_neg n4, if_pos k13, hrn]; rfl
 · have q : Az e.Kind = false := Bool.eq_false_iff.2 fun z => by rw [Av] at z; omega
   refine AE ieI (fun k8 => ?_) fun n8 => AE ieI (fun k10 => ?_) fun n10 => AE ieI (fun k11 => ?_) fun n11 => ?_
   · refine fin 0 f.rings _ _ _ Cd (vz n4) hfr h.wf.rw (rgs q) ?_ (rd (by omega)) (en (by omega))
     unfold As; simp only; rw [if_pos k8, UA]; rfl
   · refine fin 0 f.rings _ _ _ Cd (vz n4) hfr h.wf.rw (rgs q) (nw n8) ?_ (en (by omega))
     unfold As; simp only; rw [if_pos k10]; rfl
   · refine fin 0 f.rings _ _ _ Cd (vz n4) hfr h.wf.rw (rgs q) (nw n8) (rd n10) ?_
     unfold As; simp only; rw [if_pos k11]
   · exact fin 0 f.rings _ _ _ Cd (vz n4) hfr h.wf.rw (rgs q) (nw n8) (rd n10) (en n11)
theorem FC.grow (h : FC p B k f) (hB : B + 1 ≤ 2305843009213693952) (hk : k + 1 ≤ 1000000000) : FC p (B + 1) (k + 1) f :=
 ⟨h.hp, h.inv.mono (by omega), ⟨h.wf.cp, h.wf.tn, fun t ht => (h.wf.tw t ht).grow (by omega), h.wf.rn, h.wf.rw⟩, h.uv, hB, hk⟩
theorem N3 (h : FC p B k f) (he : SR e) (hB : B + 1 ≤ 2305843009213693952) (hk : k + 1 ≤ 1000000000) : D_f2i.wp (e, f) fun y => y.1 = (T3 (aP p) (aF f) e).1 ∧ aF y.2 = (T3 (aP p) (aF f) e).2 ∧ FC p (B + 1) (k + 1) y.2 := by
 refine of_wp ?_
 simp only [tt_f2i]
 refine wC (G9 h he) fun (y : Int) hy => ?_
 subst hy
 unfold T3
 refine AE (p := EP (aP p) (aF f) e ≠ 0) (by rw [bnI, ieI]) (fun q => ?_) fun q => wC (GF h he) fun (y : Bool) hy => ?_
 · rw [if_pos q]; exact ⟨rfl, rfl, h.grow hB hk⟩
 · subst hy
   rw [if_neg q]
   refine AE bnI (fun q2 => ?_) fun q2 => ?_
   · rw [if_pos (by simpa using q2)]; exact ⟨rfl, rfl, h.grow hB hk⟩
   · have hA := Classical.byContradiction q2
     rw [if_neg (by rw [hA]; simp)]
     obtain ⟨F, _, hm⟩ := HO hA
     exact wC (Lp h he F (fun z => OZ (p := aP p) hm F.re z) hB hk) fun (y : TFa) hy => ⟨rfl, hy⟩
end
theorem w_f2k (c r : Int) (hc : 1 ≤ c ∧ c ≤ 64) : D_f2k.wp (c, r) fun y => y.L.L = (List.range c.toNat).map Ho ∧ y.AR = r := by
 refine of_wp ?_
 simp only [tt_f2k]
 obtain ⟨n, rfl⟩ : ∃ n : Nat, c = n := ⟨c.toNat, by omega⟩
 rw [Int.toNat_natCast]
 refine De (tt := tt_f2k_3) (fun x : X_f2k_3 => x.E0 = n ∧ ∃ k : Nat, x.KN = k ∧ k ≤ n ∧ x.BD.L.n = k ∧ x.BD.AR = r ∧ ∀ i, i < k → x.BD.L.get i = Ho i) (fun x => (n - x.KN).toNat)
  (fun _ y => y.L.L = (List.range n).map Ho ∧ y.AR = r) (fun D x hI hD => ?_) ⟨rfl, 0, rfl, Nat.zero_le _, rfl, rfl, fun i hi => by omega⟩
 obtain ⟨pl, i, m4, ⟨L, rd⟩⟩ := x
 obtain ⟨e0, k, e1, hk, hn, e2, hg⟩ := hI
 simp only at e0 e1 hn e2 hg hD
 subst e0 e1 e2 hn
 simp only [tt_f2k_3]
 refine AE ilI (fun h => wN (by simp [room]; omega) ?_) fun h => ⟨?_, rfl⟩
 · have e3 : IntKind.i64.wrap ((L.n : Int) + 1) = ((L.n + 1 : Nat) : Int) := by rw [wrap64] <;> omega
   rw [e3, Am (z := (L.n : Int)) (by omega) (by omega), Am (z := 2 * (L.n : Int)) (by omega) (by omega)]
   refine R2 (T' := snoc L (Ho L.n)) (fun T => D.wp (⟨(n : Int), ((L.n + 1 : Nat) : Int), m4, ⟨T, rd⟩⟩ : X_f2k_3) _) rfl rfl (fun i => ?_) (hD _ ⟨rfl, L.n + 1, rfl, by omega, rfl, rfl, fun i hi => ?_⟩ (by simp only; omega))
   · show (⟨_, _, _⟩ : TSo) = cond (Nat.blt i L.n) _ _
     cases Nat.blt i L.n <;> rfl
   · by_cases q : i = L.n
     · subst q; exact HU
     · rw [show (snoc L (Ho L.n)).get i = L.get i from HT (by omega)]; exact hg i (by omega)
 · have : L.n = n := by omega
   subst this
   apply List.ext_getElem
   · simp
   · intro i h1 h2
     rw [Sl.Gw]
     simp only [List.getElem_map, List.getElem_range]
     exact hg i (by simpa using h1)
theorem w_f49 (c : TRg) (hc : A8 c = true) : D_f49.wp c fun y => R3 c 1 y ∧ DC y = Gz c := by
 have hf := Cz hc
 refine of_wp ?_
 simp only [tt_f49]
 refine wN (by simp [upto, room, Bm]; omega) (wC (w_f2k c.DE c.AR (by omega)) fun (y : TR2) hy => ?_)
 have e : ∀ {z : TR3}, DC z = Gz c → z.DE = c.DE → z.S.AR = c.AR → R3 c 1 z ∧ DC z = Gz c := fun a k1 k2 => ⟨⟨hc, k1, k2, by rw [a]; exact Db.new hc (by decide), by decide⟩, a⟩
 refine e ?_ (Am (by omega) (by omega)) hy.2
 show (⟨0, _, false, y.L.L⟩ : MR) = _
 rw [hy.1, Jg]
 rfl
theorem w_f2l (p : TPg) (hp : Jk p) (hP : FL (aP p)) : D_f2l.wp p fun y => aS y = Gk (aP p) ∧ SV p 1 0 y := by
 obtain ⟨_, h8, hr8, _, hl⟩ := BX hP
 refine of_wp ?_
 simp only [tt_f2l]
 refine wN (by simp [upto, room, Bm]; omega) ?_
 rw [Int.toNat_natCast]
 refine De (tt := tt_f2l_3) (fun x : X_f2l_3 => x.Dr = p ∧ ∃ k : Nat, x.FG = k ∧ k ≤ p.AF.n ∧ x.BM.AB = ⟨false, p.AB.n, fun _ => ⟨0, 0, 0, 0, 0, fun _ => 0, ⟨true, 0, fun _ => 0⟩⟩⟩ ∧ x.BM.FQ = 0 ∧ x.BM.Reads = 0 ∧ x.BM.Ba = false ∧ x.BM.AF.n = k ∧ ∀ i, i < k → I3 (x.BM.AF.get i) = Gz (p.AF.get i))
  (fun x => (p.AF.n - x.FG).toNat) (fun _ y => aS y = Gk (aP p) ∧ SV p 1 0 y) (fun D x hI hD => ?_) ⟨rfl, 0, rfl, Nat.zero_le _, rfl, rfl, rfl, rfl, rfl, fun i hi => by omega⟩
 obtain ⟨p', i, m2, ⟨mt, mr, mn, md, me⟩⟩ := x
 obtain ⟨e0, k, e1, hk, e2, e3, e4, e5, hn, hg⟩ := hI
 simp only at e0 e1 e2 e3 e4 e5 hn hg hD
 subst e0 e1 e2 e3 e4 e5 hn
 simp only [tt_f2l_3]
 refine AE ilI (fun h => ?_) fun h => ?_
 · have hkm : mr.n < p'.AF.n := by omega
   refine wN (A6 hkm) ?_
   rw [Int.toNat_natCast]
   refine wC (w_f49 _ (rg_of hP hkm)) fun (y : TR3) hy => wC (w_f3n hy.1) fun (z : TRs) hz => wN (by simp [room]; omega) ?_
   rw [C0 hkm hp.rn]
   refine R2 (T' := snoc mr z) (fun T => D.wp (⟨p', ((mr.n + 1 : Nat) : Int), m2, ⟨_, T, 0, 0, false⟩⟩ : X_f2l_3) _) rfl rfl (fun i => ?_) (hD _ ⟨rfl, mr.n + 1, rfl, hkm, rfl, rfl, rfl, rfl, rfl, fun i hi => ?_⟩ (by simp only; omega))
   · show (⟨_, ⟨_, _, _⟩, _, ⟨_, _, _⟩⟩ : TRs) = cond (Nat.blt i mr.n) _ _
     cases Nat.blt i mr.n <;> rfl
   · by_cases q : i = mr.n
     · subst q; rw [show (snoc mr z).get mr.n = z from HU, hz.1, hy.2]
     · rw [show (snoc mr z).get i = mr.get i from HT (by omega)]; exact hg i (by omega)
 · have hrn : mr.n = p'.AF.n := by omega
   have ea : ∀ {s : TSt}, s = ⟨⟨false, p'.AB.n, fun _ => ⟨0, 0, 0, 0, 0, fun _ => 0, ⟨true, 0, fun _ => 0⟩⟩⟩, mr, 0, 0, false⟩ → aS s = Gk (aP p') := fun {s} hs => by
    subst hs
    unfold aS Gk
    simp only [MS.mk.injEq, and_true]
    refine ⟨?_, Ep hrn fun i hi => hg i (hrn ▸ hi)⟩
    simp only [aP, List.map_map]
    exact Ep rfl fun i _ => rfl
   have ea' := ea rfl
   exact ⟨ea', ⟨⟨hp, by rw [ea']; exact QN hP, fun t _ => O3 0, by decide, by decide⟩, by rw [ea']; exact TL⟩⟩
section
variable {p : TPg} {B : Int} {k : Nat} {f : TFa}
theorem Ms (f : TFa) : D_f1j.wp f fun y => y = f.now := B9 rfl
theorem Hp (h : FC p B k f) (i : Int) : D_fg.wp (i, f) fun y => (0 ≤ i ∧ i < p.AF.n → y.nil = false ∧ P6 (p.AF.get i.toNat) y.x ∧ aR y.x = CO (aF f) i) ∧ (¬ (0 ≤ i ∧ i < p.AF.n) → y.nil = true) := by
 have hfr := h.wf.rn
 refine B9 ?_
 simp only [tt_fg]
 refine AE ilI (fun q => ⟨fun z => by omega, fun _ => rfl⟩) fun q1 => AE leI (fun q => wN (by simp) ⟨fun z => by omega, fun _ => rfl⟩) fun q2 => wN (by simp) (of_wp ?_)
 have h0 : 0 ≤ i := by omega
 have h1 : i < p.AF.n := by omega
 obtain ⟨hC, hnil, hrn⟩ := h.ring h0 h1
 have hi : i.toNat < p.AF.n := by omega
 have hcp := h.wf.cp
 have hb := h.hB
 simp only [tt_fg_3, Nat.zero_add]
 refine wN (by rw [ibI, hcp.r.n]; omega) (wN (by rw [ibI]; omega) (wN (by simp [hnil]) (wC (GZ (p.AF.get i.toNat) _ hC.rg hC.wf) fun (s : TRs) hs => ?_)))
 obtain ⟨e1, e2, e3⟩ := hs
 rw [hcp.r.g _ hi]
 have hI := hC.inv
 rw [← e1] at hI
 refine wC (w_fc (p.AF.get i.toNat) s hC.rg (QI hC.rg hI (by omega) e2 e3)) fun (z : Bx TRr × Int) hz => wN (by simp [hnil]; omega) (Cn (wN (by simp) ?_))
 rcases hz with ⟨_, _, zn, zw, za⟩ | ⟨hno, _⟩
 · exact ⟨fun _ => ⟨zn, zw, by rw [za, e1, hrn]⟩, fun z => absurd ⟨h0, h1⟩ z⟩
 · exact absurd (OH hC.rg hI (by omega)) hno
theorem T6 (h : FC p B k f) : VY (aF f) where
 tn := by have := h.small; have := h.wf.tn; have : (8 : Nat) ≤ maxLen := by decide
          simp [aF]; omega
 rn := by have := h.small; have := h.wf.rn; have : (8 : Nat) ≤ maxLen := by decide
          simp [aF]; omega
 ts t ht := by
  have hk := h.hk
  have : (1000000000 : Nat) ≤ maxLen := by decide
  simp only [aF, List.mem_map] at ht
  obtain ⟨x, hx, rfl⟩ := ht
  obtain ⟨i, hi, rfl⟩ := Sl.Cg.1 hx
  have := (h.wf.tw i hi).sb
  simp only [aT, Sl.Bf]; omega
 rs r hr := by
  have : (64 : Nat) ≤ maxLen := by decide
  have hrn := h.wf.rn
  simp only [aF, List.mem_map] at hr
  obtain ⟨x, hx, rfl⟩ := hr
  obtain ⟨i, hi, rfl⟩ := Sl.Cg.1 hx
  obtain ⟨hC, _⟩ := h.ring (i := (i : Int)) (Int.natCast_nonneg i) (by omega)
  rw [Int.toNat_natCast] at hC
  have := hC.hn
  have := hC.ln
  simp only [aR, Sl.Bf]; omega
end
theorem T7 (p : TPg) (hp : Jk p) : D_f1q.wp (p, 100) fun y => y = true → p.AF.n ≤ 10 ∧ p.AB.n ≤ 10 ∧ ∀ t, t < p.AB.n → (p.AB.get t).n ≤ 100 := by
 refine of_wp ?_
 simp only [tt_f1q]
 refine AE ilI (fun _ => fun h => by cases h) fun h1 => AE ilI (fun _ => fun h => by cases h) fun h2 => of_wp ?_
 simp only [tt_f1q_3]
 refine De (tt := tt_f1q_5) (fun x : X_f1q_5 => x.HI = 100 ∧ x.SN = p ∧ ∃ k : Nat, x.KN = k ∧ k ≤ p.AB.n ∧ ∀ t, t < k → (p.AB.get t).n ≤ 100) (fun x => (p.AB.n - x.KN).toNat) (fun _ y => y = true → p.AF.n ≤ 10 ∧ p.AB.n ≤ 10 ∧ ∀ t, t < p.AB.n → (p.AB.get t).n ≤ 100) (fun D x hI hD => ?_) ⟨rfl, rfl, 0, rfl, Nat.zero_le _, fun t ht => by omega⟩
 obtain ⟨m, p', n, i⟩ := x
 obtain ⟨e0, e1, k, e2, hk, hg⟩ := hI
 simp only at e0 e1 e2 hg hD
 subst e0 e1 e2
 simp only [tt_f1q_5]
 refine AE ilI (fun h => ?_) fun h => fun _ => ⟨by omega, by omega, fun t ht => hg t (by omega)⟩
 have hkm : k < p'.AB.n := by omega
 refine wN (A6 hkm) ?_
 rw [Int.toNat_natCast]
 refine AE ilI (fun _ => fun h => by cases h) fun h3 => wN (A6 hkm) ?_
 rw [C0 hkm hp.tn]
 refine hD _ ⟨rfl, rfl, k + 1, rfl, hkm, fun t ht => ?_⟩ (by simp only; omega)
 by_cases e : t = k
 · subst e; omega
 · exact hg t (by omega)
theorem law_f42 (p : TPg) (hp : Jk p) : D_f42.wp p fun y => y = true ↔ FL (aP p) := by
 refine of_wp ?_
 simp only [tt_f42]
 exact wC (w_f41 p hp) fun (y : Bool) hy => hy
theorem U8 {p q : TPg} (hp : Jk p) (hc : Jz q p) (hP : FL (aP p)) {f : TFa} (hF : Vf q 0 f) (ha : aF f = Gk (aP q)) : FC p 1 0 f ∧ aF f = Gk (aP p) := by
 have hqp := hc.same
 rw [hqp] at ha
 have h1 := hF.cp
 have cp : Jz f.p p := ⟨⟨h1.r.n.trans hc.r.n, fun i hi => (h1.r.g i (by rw [hc.r.n]; exact hi)).trans (hc.r.g i hi)⟩, h1.rz, h1.n.trans hc.n, fun t ht => by
  have a := h1.t t (by rw [hc.n]; exact ht)
  have b := (hc.t t ht).1
  exact ⟨⟨a.1.n.trans b.n, fun i hi => (a.1.g i (by rw [b.n]; exact hi)).trans (b.g i hi)⟩, a.2⟩⟩
 refine ⟨⟨hp, by rw [ha]; exact QN hP, ⟨cp, hF.tn.trans hc.n, hF.tw, hF.rn.trans hc.r.n, fun i hi => ?_⟩, by rw [ha]; exact TL, by decide, by decide⟩, ha⟩
 have := hF.rw i hi
 have hi' : i < p.AF.n := by have := hF.rn; have := hc.r.n; omega
 rw [hc.r.g i hi'] at this
 exact this
theorem Rc {p : TPg} (hp : Jk p) : Jz p p := ⟨DI.refl _, hp.rz, rfl, fun t ht => ⟨DI.refl _, hp.lz t ht⟩⟩
section
variable {p : TPg} {B : Int} {k : Nat} {f : TFa} {s : TSt}
theorem MU (h : FC p B k f) (he : aF f = aS s) (y : TSt) (hy : aS y = aF f ∧ TM k y) : D_fj.wp (y, s) fun z => z = true :=
 w_fj y s (hy.1.trans he) (by rw [hy.1]; exact T6 h)
theorem KW (h : FC p B k f) : D_f1.wp f fun y => aS y = aF f ∧ TM k y := Kb p k f (by have := h.hk; omega) h.inv.pi h.wf
end
def Nt (x : AZ) : EN := ⟨x.B4, x.Dj, x.Gx, x.Hn⟩
def zE : TEv := ⟨0, 0, 0, 0, 0⟩
def SS : Option TEv → TEv × Bool
 | some e => (e, true)
 | none => (zE, false)
def An (o : Option TEv) (e : TEv) (b : Bool) : Prop := o = some e ∧ b = true ∨ o = none ∧ b = false
structure TW (t : Sl Int) : Prop where
 n : t.n ≤ maxLen
 u : ∀ i, i < t.n → Bs (t.get i)
structure Pb (x : AZ) : Prop where
 c : Bs x.Dj
 d : Bs x.Gx
theorem TW.mem {t : Sl Int} (h : TW t) : ∀ x ∈ t.L, Bs x := fun x hx => by
 obtain ⟨i, hi, rfl⟩ := Sl.Cg.1 hx
 exact h.u i hi
section
variable {p : TPg} {B : Int} {k : Nat} {f : TFa} {tape : Sl Int} {x : AZ}
theorem FC.VL (h : FC p B k f) {i : Int} (h0 : 0 ≤ i) (h1 : i < p.AF.n) {r : TRr} (hw : P6 (p.AF.get i.toNat) r) (he : aR r = CO (aF f) i) : RC (p.AF.get i.toNat) B r := by
 have hB := h.hB
 have hR := h.inv.Kj (i := i) (by simp [aP]; omega)
 rw [H9 h0 h1, ← he] at hR
 exact ⟨hR.2, hw, hR.1, by omega⟩
theorem Uu (h : FC p B k f) (t : Int) : D_f1o.wp (t, f) fun y => (0 ≤ t ∧ t < p.AB.n → y.2 = 0 ∧ aA y.1 = Aq (aP p) (aF f) t) ∧ (¬(0 ≤ t ∧ t < p.AB.n) → y.2 ≠ 0) := by
 have htn := h.wf.tn
 refine B9 ?_
 simp only [tt_f1o]
 refine wC (ID t f) fun (y : Bool) hy => ?_
 refine AE bnI (fun q => ⟨fun hh => absurd (hy.2 (by omega)) q, fun _ => by simp⟩) fun q => ?_
 have hy := hy.1 (Classical.byContradiction q)
 exact wC (Ga h hy.1 (by omega)) fun (z : TAk) hz => ⟨fun _ => ⟨rfl, hz⟩, fun hh => absurd ⟨hy.1, by omega⟩ hh⟩
theorem Se (a : TAk) (c fire : Bool) : D_f3t.wp (a, (c, fire)) fun y => y = if c = true then (6, true) else if a.Mode = 0 then (5, true) else if a.Mode = 2 ∧ fire = true then (7, true) else (0, false) := by
 refine of_wp ?_
 simp only [tt_f3t]
 refine Al (fun q => by rw [if_pos q]; rfl) fun q => ?_
 rw [if_neg q]
 refine AE ieI (fun q => by rw [if_pos q]; rfl) fun q => ?_
 rw [if_neg q]
 refine AE ieI (fun q1 => Al (fun q2 => by rw [if_pos ⟨q1, q2⟩]; rfl) fun q2 => by rw [if_neg fun z => q2 z.2]; rfl) fun q1 => ?_
 rw [if_neg fun z => q1 z.1]; rfl
theorem RL (_h : FC p B k f) {a : TAk} {pk ck dr : Int} {fire : Bool} {tp : List Int} {none : Bool} {r : TRr} {z : TEv} (ha : aA a = Aq (aP p) (aF f) pk) (hk : a.Kind = 1 ∨ a.Kind = 2)
 (hr : aR r = CO (aF f) a.Ring) (hj : 0 ≤ a.Reader ∧ a.Reader < r.AA.AD.n) (hn : none = Ca (CO (aF f) a.Ring) (aA a)) :
 D_fu_5.wp ⟨fire, a, none, f, ⟨pk, 0, 0, 0, 0⟩, z, r⟩ fun y => An (Bw (aP p) (aF f) tp pk ck dr fire) y.1 y.2.1 := by
 refine of_wp ?_
 rw [IB (by rw [← ha]; exact hk), ← ha]
 simp only [tt_fu_5]
 show TT.wp _ fun (y : RR_fu) => An (if Ca (CO (aF f) a.Ring) (aA a) = true then (if (CO (aF f) a.Ring).Ao = true then some ⟨pk, 6, a.Ring, 0, 0⟩ else if a.Mode = 0 then some ⟨pk, 5, a.Ring, 0, 0⟩ else if a.Mode = 2 ∧ fire = true then some ⟨pk, 7, a.Ring, 0, 0⟩ else Option.none)
  else if a.Kind = 1 then some ⟨pk, 1, a.Ring, (CO (aF f) a.Ring).Ax, 0⟩ else some ⟨pk, 3, a.Ring, hd (CO (aF f) a.Ring) a.Reader, 0⟩) y.1 y.2.1
 rw [← hn, ← hr]
 refine Al (fun q => ?_) fun q => ?_
 · rw [if_pos q]
   refine wC (Ct _) fun (y : Bool) hy => ?_
   subst hy
   refine wC (Se a r.closed fire) fun (w : Int × Bool) hw => ?_
   subst hw
   show An (if r.closed = true then _ else _) _ _
   by_cases q1 : r.closed = true
   · rw [if_pos q1, if_pos q1]; exact .inl ⟨rfl, rfl⟩
   rw [if_neg q1, if_neg q1]
   by_cases q2 : a.Mode = 0
   · rw [if_pos q2, if_pos q2]; exact .inl ⟨rfl, rfl⟩
   rw [if_neg q2, if_neg q2]
   by_cases q3 : a.Mode = 2 ∧ fire = true
   · rw [if_pos q3, if_pos q3]; exact .inl ⟨rfl, rfl⟩
   rw [if_neg q3, if_neg q3]; exact .inr ⟨rfl, rfl⟩
 · rw [if_neg q]
   refine wC (Jd a.Reader r hj.1 hj.2) fun (y : Int) hy => ?_
   subst hy
   refine AE ieI (fun q1 => wC (G8 r) fun (y : Int) hy => ?_) fun q1 => ?_
   · subst hy; rw [if_pos q1]; exact .inl ⟨rfl, rfl⟩
   · rw [if_neg q1]
     exact .inl ⟨by rw [MX hj.1 hj.2], rfl⟩
theorem Od (h : FC p B k f) {a : TAk} {pk ck dr : Int} {fire : Bool} {tp : List Int} (ha : aA a = Aq (aP p) (aF f) pk) (hk : a.Kind = 1 ∨ a.Kind = 2) (h0 : 0 ≤ pk) (h1 : pk < p.AB.n) :
 D_fu.wp (a, (⟨pk, 0, 0, 0, 0⟩, (fire, f))) fun y => An (Bw (aP p) (aF f) tp pk ck dr fire) y.1 y.2 := by
 have htn := h.wf.tn
 have ek : (Aq (aP p) (aF f) pk).Kind = a.Kind := by rw [← ha]; rfl
 have er : (Aq (aP p) (aF f) pk).Ring = a.Ring := by rw [← ha]; rfl
 have ed : (Aq (aP p) (aF f) pk).Reader = a.Reader := by rw [← ha]; rfl
 obtain ⟨r0, r1, r2⟩ := GW h.inv (t := pk) (by simp [aF]; omega) rfl (by omega)
 have hs := TH (p := aP p) (m := aF f) (t := pk)
 rw [er] at r0 r1 r2
 rw [ek, ed] at r2 hs
 have r1 : a.Ring < p.AF.n := by simp [aP] at r1; omega
 rw [H9 r0 r1] at r2
 refine B9 ?_
 simp only [tt_fu]
 refine wC (Hp h a.Ring) fun (y : Bx TRr) hy => ?_
 obtain ⟨yn, yw, ya⟩ := hy.1 ⟨r0, r1⟩
 have hC := h.VL r0 r1 yw ya
 have hn := hC.hn
 have hj : 0 ≤ a.Reader ∧ a.Reader < y.x.AA.AD.n := by
  rcases hk with q | q
  · have := hs q; omega
  · have := r2 (.inl q); omega
 have L5 := fun none hn => RL (p := p) (ck := ck) (dr := dr) (tp := tp) (fire := fire) (none := none) (z := ⟨0, 0, 0, 0, 0⟩) h ha hk ya hj hn
 refine wN (by simp [yn]) (wC (EJ a.Reader hj.1 hj.2) fun (em : Bool) he => ?_)
 refine AE ieI (fun q => wC (Ct _) fun (c : Bool) hc => Al (fun qc => ?_) fun qc => wC (Fm hC) fun (fu : Bool) hf => ?_) fun q => ?_
 · refine L5 true ?_
   unfold Ca; rw [if_pos (show (aA a).Kind = 1 from q), ← ya, ← hc, qc]; rfl
 · refine L5 fu ?_
   unfold Ca; rw [if_pos (show (aA a).Kind = 1 from q), ← ya, ← hc, show c = false by simpa using qc, hf]; rfl
 · refine L5 em ?_
   unfold Ca; rw [if_neg (show ¬ (aA a).Kind = 1 from q), ← ya, he]; rfl
theorem T4 (h : FC p B k f) (hr : 0 ≤ f.reads) (ht : TW tape) (pk : Int) : D_f1f.wp (tape, (⟨pk, 0, 0, 0, 0⟩, f)) fun y => y = if f.ended = true ∨ (tape.n : Int) ≤ f.reads then ⟨pk, 11, 0, 0, 0⟩ else ⟨pk, 10, 0, 0, tape.L.getD f.reads.toNat 0⟩ := by
 have hm := GN ht.n
 refine B9 ?_
 simp only [tt_f1f]
 refine wC (KW h) fun (y : TSt) hy => ?_
 have e1 : y.Ba = f.ended := congrArg MS.Ba hy.1
 have e2 : y.Reads = f.reads := congrArg MS.Reads hy.1
 have e3 : IntKind.u64.wrap ((tape.n : Nat) : Int) = tape.n := by
  simp only [IntKind.wrap, IntKind.signed, IntKind.bits, Bool.false_and, Bool.false_eq_true, if_false]; omega
 rw [e1, e2, e3]
 refine Al (fun q => by rw [if_pos (.inl q)]; rfl) fun q => AE leI (fun q2 => by rw [if_pos (.inr q2)]; rfl) fun q2 => of_wp ?_
 rw [if_neg (fun z => z.elim q q2)]
 simp only [tt_f1f_5, e2]
 refine wN (by rw [ibI]; omega) ?_
 rw [Gs tape hr (by omega)]
 rfl
end
theorem Ua {p : MP} {m : MS} {tp : List Int} {pk ck dr : Int} {fire : Bool} {e : TEv} {b : Bool} (h0 : 0 ≤ pk) (h1 : pk < m.AB.length) (hc : Bw p m tp pk ck dr fire = some e) (hb : b = Cb p m e) : An (Ci p m tp pk ck dr fire) e b := by
 unfold Ci
 rw [if_neg (by omega), hc]
 simp only
 subst hb
 cases q : Cb p m e
 · exact .inr ⟨by simp, rfl⟩
 · exact .inl ⟨by simp, rfl⟩
theorem KU {p : MP} {m : MS} {tp : List Int} {pk ck dr : Int} {fire : Bool} {e : TEv} (hc : Bw p m tp pk ck dr fire = none) : An (Ci p m tp pk ck dr fire) e false := by
 refine .inr ⟨?_, rfl⟩
 unfold Ci
 split
 · rfl
 rw [hc]
theorem Qn {o : Option TEv} {e : TEv} {b : Bool} (h : An o e b) : (if b = true then (e, true) else (zE, false)) = SS o := by
 rcases h with ⟨h1, h2⟩ | ⟨h1, h2⟩ <;> subst h1 h2 <;> rfl
section
variable {p : TPg} {B : Int} {k : Nat} {f : TFa} {tape : Sl Int} {x : AZ}
theorem Og (h : FC p B k f) (ht : TW tape) (hx : Pb x) (h0 : 0 ≤ x.B4) (h1 : x.B4 < p.AB.n) {z e : TEv} (hc : Bw (aP p) (aF f) tape.L x.B4 x.Dj x.Gx x.Hn = some e) :
 D_fh_26.wp ⟨f, z, e⟩ fun y => An (Ie (aP p) tape.L (aF f) (Nt x)) y.1 y.2.1 := by
 have htn := h.wf.tn
 refine of_wp ?_
 simp only [tt_fh_26]
 have hl : x.B4 < (aF f).AB.length := by simp [aF]; omega
 have hu := LU h.inv h.hB (h.TI h0 h1) hx.d ht.mem h0 hl hc
 exact wC (GF h ⟨hu.1, hu.2⟩) fun (y : Bool) hy => Ua h0 hl hc hy
theorem RI (h : FC p B k f) (hr : 0 ≤ f.reads) (ht : TW tape) (hx : Pb x) (h0 : 0 ≤ x.B4) (h1 : x.B4 < p.AB.n) {a : TAk} (ha : aA a = Aq (aP p) (aF f) x.B4) :
 D_fh.wp (tape, (a, (x, f))) fun y => An (Ie (aP p) tape.L (aF f) (Nt x)) y.1 y.2 := by
 have htn := h.wf.tn
 have hl : x.B4 < (aF f).AB.length := by simp [aF]; omega
 have ek : (Aq (aP p) (aF f) x.B4).Kind = a.Kind := by rw [← ha]; rfl
 have er : (Aq (aP p) (aF f) x.B4).Ring = a.Ring := by rw [← ha]; rfl
 have htop := Qd h.inv (t := x.B4) (by omega)
 rw [ek] at htop
 have L := fun e hc => Og (x := x) (z := ⟨0, 0, 0, 0, 0⟩) (e := e) h ht hx h0 h1 hc
 have hcl := hx.c
 have hto : ∀ e b, a.Kind = 1 ∨ a.Kind = 2 → An (Bw (aP p) (aF f) tape.L x.B4 x.Dj x.Gx x.Hn) e b → An (Ie (aP p) tape.L (aF f) (Nt x)) e b := fun e b q hh => by
  show An (Ci (aP p) (aF f) tape.L x.B4 x.Dj x.Gx x.Hn) _ _
  rw [N5 h.inv h.hB h0 hl (by rw [ek]; exact q)]; exact hh
 refine B9 ?_
 simp only [tt_fh]
 refine AE ieI (fun q => ?_) fun n0 => AE ieI (fun q => ?_) fun n1 => AE ieI (fun q => ?_) fun n2 => AE ieI (fun q => ?_) fun n10 => AE ieI (fun q => ?_) fun n11 => AE ieI (fun q => ?_) fun n3 =>
  AE ieI (fun q => ?_) fun n4 => AE ieI (fun q => ?_) fun n5 => AE ieI (fun q => ?_) fun n6 => AE ieI (fun q => ?_) fun n7 => AE ieI (fun q => ?_) fun n8 => AE ieI (fun q => ?_) fun n9 => by omega
 · show An (Ci (aP p) (aF f) tape.L x.B4 x.Dj x.Gx x.Hn) _ _
   exact KU (by unfold Bw; simp only; rw [if_pos (by rw [ek]; exact q)])
 · exact wC (Od (ck := x.Dj) (dr := x.Gx) (tp := tape.L) h ha (.inl q) h0 h1) fun (y : TEv × Bool) hy => hto _ _ (.inl q) hy
 · exact wC (Od (ck := x.Dj) (dr := x.Gx) (tp := tape.L) h ha (.inr q) h0 h1) fun (y : TEv × Bool) hy => hto _ _ (.inr q) hy
 · exact L _ (by simp [Bw, ← ha, aA, q])
 · exact L _ (by simp [Bw, ← ha, aA, q])
 · obtain ⟨r0, r1, _⟩ := GW h.inv (t := x.B4) (by omega) rfl (by omega)
   rw [er] at r0 r1
   have r1 : a.Ring < p.AF.n := by simp [aP] at r1; omega
   refine wC (Hp h a.Ring) fun (y : Bx TRr) hy => ?_
   obtain ⟨yn, yw, ya⟩ := hy.1 ⟨r0, r1⟩
   refine wC (Q' := fun z => z = y.x.AA.tail) (of_wp (wN (by simp [yn]) rfl)) fun (z : Int) hz => L _ ?_
   subst hz
   have : (CO (aF f) a.Ring).Ax = y.x.AA.tail := by rw [← ya]; rfl
   simp [Bw, ← ha, aA, q, this]
 · refine wC (Ms f) fun (y : Int) hy => L _ ?_
   subst hy
   have : Int.tmod x.Dj 1048576 = x.Dj % 1048576 := Int.tmod_eq_emod_of_nonneg hcl.1
   simp [Bw, ← ha, aA, q, this, show (aF f).FQ = f.now from rfl]
 · exact L _ (by simp [Bw, ← ha, aA, q])
 · refine wC (T4 h hr ht x.B4) fun (y : TEv) hy => L _ ?_
   subst hy
   simp only [Bw, ← ha, aA, q, show (aF f).Ba = f.ended from rfl, show (aF f).Reads = f.reads from rfl, Sl.Bf]
   simp only [Int.reduceEq, or_self, if_false, if_true]
   split <;> rfl
 · exact L _ (by simp [Bw, ← ha, aA, q])
 · exact L _ (by simp [Bw, ← ha, aA, q])
 · exact L _ (by simp [Bw, ← ha, aA, q])
theorem Oe (h : FC p B k f) (hr : 0 ≤ f.reads) (ht : TW tape) (hx : Pb x) : D_f2h.wp (tape, (x, f)) fun y => y = SS (Ie (aP p) tape.L (aF f) (Nt x)) := by
 have htn := h.wf.tn
 refine B9 ?_
 simp only [tt_f2h]
 refine wC (Uu h x.B4) fun (y : TAk × Int) hy => ?_
 by_cases hin : 0 ≤ x.B4 ∧ x.B4 < p.AB.n
 · obtain ⟨y2, ya⟩ := hy.1 hin
   refine AE (p := y.2 ≠ 0) (by rw [bnI, ieI]) (fun q => absurd y2 q) fun _ => wC (RI h hr ht hx hin.1 hin.2 ya) fun (w : TEv × Bool) hw => ?_
   rw [← Qn hw]
   refine AE bnI (fun q => by rw [if_neg q]; rfl) fun q => ?_
   rw [if_pos (Classical.byContradiction q)]
   rfl
 · refine AE (p := y.2 ≠ 0) (by rw [bnI, ieI]) (fun _ => ?_) fun q => absurd (hy.2 hin) q
   have : Ie (aP p) tape.L (aF f) (Nt x) = none := by
    show Ci _ _ _ _ _ _ _ = none
    unfold Ci
    rw [if_pos (by simp [aF, Nt]; omega)]
   rw [this]; rfl
def VJ (P : MP) (m : MS) (o : Option TEv) : MS := match o with | some e => As P m e | none => m
theorem Nh {P : MP} {m : MS} {e : TEv} (h : 0 ≤ m.Reads) : 0 ≤ (As P m e).Reads := by
 show 0 ≤ (if e.Kind = 10 then IntKind.u64.wrap (m.Reads + 1) else m.Reads)
 split
 · simp only [IntKind.wrap, IntKind.signed, IntKind.bits, Bool.false_and, Bool.false_eq_true, if_false]; omega
 · exact h
theorem T5 (h : FC p B k f) (hr : 0 ≤ f.reads) (ht : TW tape) (hx : Pb x) (hB : B + 1 ≤ 2305843009213693952) (hk : k + 1 ≤ 1000000000) :
 D_f3b.wp (tape, (x, f)) fun y => (y.1, y.2.1) = SS (Ie (aP p) tape.L (aF f) (Nt x)) ∧ aF y.2.2 = VJ (aP p) (aF f) (Ie (aP p) tape.L (aF f) (Nt x)) ∧ FC p (B + 1) (k + 1) y.2.2 ∧ 0 ≤ y.2.2.reads := by
 have htn := h.wf.tn
 refine of_wp ?_
 simp only [tt_f3b]
 refine wC (Oe h hr ht hx) fun (y : TEv × Bool) hy => ?_
 cases ho : Ie (aP p) tape.L (aF f) (Nt x) with
 | none =>
   rw [ho] at hy; subst hy
   exact Al (fun q => by cases q) fun _ => ⟨rfl, rfl, h.grow hB hk, hr⟩
 | some e =>
   rw [ho] at hy; subst hy
   have hal := F4 (p := aP p) (m := aF f) ho
   have hin : x.B4 < p.AB.n := by have := hal.2.2; simp [aF, Nt] at this; omega
   have h0 : 0 ≤ x.B4 := hal.2.1
   have hu := ML h.inv h.hB (h.TI h0 hin) hx.d ht.mem ho
   refine Al (fun _ => ?_) fun q => absurd rfl q
   refine wC (N3 h ⟨hu.1, hu.2⟩ hB hk) fun (w : Int × TFa) hw => ?_
   obtain ⟨_, w2, w3⟩ := hw
   have w2 : aF w.2 = (T3 (aP p) (aF f) e).2 := w2
   rw [Lc hal.1] at w2
   refine ⟨rfl, w2, w3, ?_⟩
   have : w.2.reads = (As (aP p) (aF f) e).Reads := congrArg MS.Reads w2
   show 0 ≤ w.2.reads
   rw [this]
   exact Nh hr
end
section
variable {p : TPg} {B : Int} {k : Nat} {s : TSt} {tp : List Int} {pk ck dr : Int} {fire : Bool}
theorem UT (h : SV p B k s) (h0 : 0 ≤ pk) (h1 : pk < p.AB.n) (hdr : Bs dr) (ht : ∀ x ∈ tp, Bs x) {z e : TEv} (hc : Bw (aP p) (aS s) tp pk ck dr fire = some e) :
 D_f7_46.wp ⟨p, s, z, e⟩ fun y => An (Ci (aP p) (aS s) tp pk ck dr fire) y.1 y.2 := by
 have htn := h.sc.tn
 refine of_wp ?_
 simp only [tt_f7_46]
 have hl : pk < (aS s).AB.length := by simp [aS]; omega
 have hu := LU h.sc.inv h.sc.hB (Ni h h0 h1) hdr ht h0 hl hc
 exact wC (w_f32 h.sc ⟨hu.1, hu.2⟩) fun (y : Bool) hy => Ua h0 hl hc hy
theorem VW (h : SV p B k s) (h0 : 0 ≤ pk) (h1 : pk < p.AB.n) (hdr : Bs dr) (ht : ∀ x ∈ tp, Bs x) {z : TEv} {a : TA6} {r : TR3} {none : Bool} (ha : CK a = Aq (aP p) (aS s) pk) (hk : a.Kind = 1 ∨ a.Kind = 2)
 (hr : DC r = CO (aS s) a.Ring) (hj : a.Kind = 2 → 0 ≤ a.Reader ∧ a.Reader < r.AV.n) (hn : none = Ca (CO (aS s) a.Ring) (CK a)) :
 D_f7_12.wp ⟨fire, p, s, none, z, a, ⟨pk, 0, a.Ring, 0, 0⟩, r⟩ fun y => An (Ci (aP p) (aS s) tp pk ck dr fire) y.1 y.2 := by
 have hc := IB (p := aP p) (m := aS s) (tape := tp) (pk := pk) (ck := ck) (dr := dr) (fire := fire) (by rw [← ha]; exact hk)
 rw [← ha] at hc
 have e1 : (CK a).Ring = a.Ring := rfl
 have e2 : (CK a).Kind = a.Kind := rfl
 have e3 : (CK a).Mode = a.Mode := rfl
 have e4 : (CK a).Reader = a.Reader := rfl
 rw [e1, e2, e3, e4, ← hn, ← hr] at hc
 have e5 : (DC r).Ao = r.Ao := rfl
 rw [e5] at hc
 have L := fun e hh => UT (z := z) (e := e) (ck := ck) (fire := fire) h h0 h1 hdr ht hh
 refine of_wp ?_
 simp only [tt_f7_12]
 refine Al (fun q => Al (fun qc => L _ ?_) fun qc => of_wp ?_) fun q => of_wp ?_
 · rw [hc, if_pos q, if_pos qc]
 · rw [if_pos q, if_neg qc] at hc
   simp only [tt_f7_14]
   refine Al (fun _ => AE ieI (fun qm => L _ ?_) fun qm => of_wp ?_) fun q' => absurd q q'
   · rw [hc, if_pos qm]
   · rw [if_neg qm] at hc
     simp only [tt_f7_16]
     refine Al (fun _ => AE ieI (fun q2 => Al (fun q3 => L _ ?_) fun q3 => Al (fun _ => KU ?_) fun q' => absurd q q') fun q2 => Al (fun _ => KU ?_) fun q' => absurd q q') fun q' => absurd q q'
     · rw [hc, if_pos ⟨q2, q3⟩]
     · rw [hc, if_neg fun w => q3 w.2]
     · rw [hc, if_neg fun w => q2 w.1]
 · rw [if_neg q] at hc
   simp only [tt_f7_14]
   refine Al (fun q' => absurd q' q) fun _ => of_wp ?_
   simp only [tt_f7_16]
   refine Al (fun q' => absurd q' q) fun _ => Al (fun q' => absurd q' q) fun _ => of_wp ?_
   simp only [tt_f7_20]
   refine AE ieI (fun q1 => L _ ?_) fun q1 => wN ?_ (L _ ?_)
   · rw [hc, if_pos q1]; rfl
   · rw [ibI]; exact hj (by omega)
   · rw [hc, if_neg q1]
     have := hj (by omega)
     show some _ = some _
     unfold hd
     rw [show (DC r).AV = r.AV.L from rfl, Gs r.AV this.1 this.2]
theorem VV (h : SV p B k s) (h0 : 0 ≤ pk) (h1 : pk < p.AB.n) (hdr : Bs dr) (ht : ∀ x ∈ tp, Bs x) {v : Int} {en : Bool} (he : en = true ↔ (tp.length : Int) ≤ s.Reads) (hck : Bs ck)
 (h4 : (Aq (aP p) (aS s) pk).Kind = 4 → v = ck) (h5 : (Aq (aP p) (aS s) pk).Kind = 5 → v = dr) (h6 : (Aq (aP p) (aS s) pk).Kind = 6 → ¬ en = true → v = tp.getD s.Reads.toNat 0) :
 D_f7.wp (p, (s, (pk, (v, (en, fire))))) fun y => An (Ci (aP p) (aS s) tp pk ck dr fire) y.1 y.2 := by
 have htn := h.sc.tn
 have hrn := h.sc.rn
 have hl : pk.toNat < (aS s).AB.length := by simp [aS]; omega
 refine of_wp ?_
 simp only [tt_f7]
 refine wC (w_f3x h.sc h0 h1) fun (a : TA6) ha => ?_
 have ek : (Aq (aP p) (aS s) pk).Kind = a.Kind := by rw [← ha]; rfl
 have er : (Aq (aP p) (aS s) pk).Ring = a.Ring := by rw [← ha]; rfl
 have ed : (Aq (aP p) (aS s) pk).Reader = a.Reader := by rw [← ha]; rfl
 have htop := Qd h.sc.inv (t := pk) hl
 have hz := TG (p := aP p) (m := aS s) (t := pk)
 rw [ek] at htop hz h4 h5 h6
 rw [er] at hz
 have hrg : a.Kind = 1 ∨ a.Kind = 2 ∨ a.Kind = 3 → 0 ≤ a.Ring ∧ a.Ring < p.AF.n ∧ (a.Kind = 2 → 0 ≤ a.Reader ∧ a.Reader < (p.AF.get a.Ring.toNat).AR) := fun q => by
  obtain ⟨r0, r1, r2⟩ := GW h.sc.inv (t := pk) hl rfl (by omega)
  rw [er] at r0 r1 r2
  rw [ek, ed] at r2
  have r1 : a.Ring < p.AF.n := by simp [aP] at r1; omega
  rw [H9 r0 r1] at r2
  exact ⟨r0, r1, fun q => r2 (.inl q)⟩
 have L := fun e hh => UT (z := ⟨0, 0, 0, 0, 0⟩) (e := e) (ck := ck) (fire := fire) h h0 h1 hdr ht hh
 have L8 : a.Kind = 1 ∨ a.Kind = 2 → D_f7_8.wp ⟨fire, p, s, ⟨0, 0, 0, 0, 0⟩, a, ⟨pk, 0, a.Ring, 0, 0⟩⟩ fun y => An (Ci (aP p) (aS s) tp pk ck dr fire) y.1 y.2 := fun q => by
  obtain ⟨r0, r1, r2⟩ := hrg (by omega)
  refine of_wp ?_
  simp only [tt_f7_8]
  refine wC (w_f3f h.sc r0 r1) fun (r : TR3) hr => ?_
  obtain ⟨hR, hr⟩ := hr
  have hhn := hR.hn
  have L12 := fun none hn => VW (none := none) (z := ⟨0, 0, 0, 0, 0⟩) (ck := ck) (fire := fire) h h0 h1 hdr ht ha q hr (fun q => by have := r2 q; omega) hn
  have e5 : (DC r).Ao = r.Ao := rfl
  refine AE ieI (fun q1 => Al (fun qc => L12 _ ?_) fun qc => wC (w_f3l hR) fun (y : Bool) hy => Al (fun qf => L12 _ ?_) fun qf => AE ieI (fun q2 => by omega) fun _ => L12 _ ?_) fun q1 => AE ieI (fun q2 => ?_) fun q2 => by omega
  · unfold Ca; rw [if_pos (show (CK a).Kind = 1 from q1), ← hr, e5, qc]; rfl
  · unfold Ca; rw [if_pos (show (CK a).Kind = 1 from q1), ← hr, e5, ← hy, qf, Bool.or_true]
  · unfold Ca; rw [if_pos (show (CK a).Kind = 1 from q1), ← hr, e5, ← hy, show r.Ao = false by simpa using qc, show y = false by simpa using qf]; rfl
  · have := r2 q2
    refine wC (w_f35 (r := r) a.Reader this.1 (by omega)) fun (y : Bool) hy => L12 _ ?_
    unfold Ca; rw [if_neg (show ¬ (CK a).Kind = 1 from q1), ← hr, hy]; rfl
 refine AE ieI (fun q => KU (by unfold Bw; simp only; rw [if_pos (by rw [ek]; exact q)])) fun n0 => AE ieI (fun q => L8 (.inl q)) fun n1 => AE ieI (fun q => L8 (.inr q)) fun n2 => AE ieI (fun q => ?_) fun n3 =>
  AE ieI (fun q => ?_) fun n4 => AE ieI (fun q => ?_) fun n5 => AE ieI (fun q => ?_) fun n6 => AE ieI (fun q => ?_) fun n7 => AE ieI (fun q => ?_) fun n8 => AE ieI (fun q => ?_) fun n9 =>
  AE ieI (fun q => ?_) fun n10 => AE ieI (fun q => ?_) fun n11 => by omega
 · obtain ⟨r0, r1, _⟩ := hrg (by omega)
   refine wN (by rw [ibI]; omega) (L _ ?_)
   have : (CO (aS s) a.Ring).Ax = (s.AF.get a.Ring.toNat).Ax := by
    unfold CO aS
    simp only [List.getD, List.getElem?_map]
    rw [Sl.EF _ (by omega)]; rfl
   simp [Bw, ← ha, CK, q, this]
 · have e : v = ck := h4 q
   have : Int.tmod ck 1048576 = ck % 1048576 := Int.tmod_eq_emod_of_nonneg hck.1
   exact L _ (by simp [Bw, ← ha, CK, q, e, this, show (aS s).FQ = s.FQ from rfl])
 · have e : v = dr := h5 q
   exact L _ (by simp [Bw, ← ha, CK, q, e, hz (by omega)])
 · refine Al (fun qe => L _ ?_) fun qe => Al (fun qd => L _ ?_) fun qd => L _ ?_
   · have := he.1 qe
     simp [Bw, ← ha, CK, q, show (aS s).Reads = s.Reads from rfl, this]
   · simp [Bw, ← ha, CK, q, show (aS s).Ba = s.Ba from rfl, qd]
   · have e := h6 q qe
     have : ¬ (tp.length : Int) ≤ s.Reads := fun w => qe (he.2 w)
     simp only [Bw, ← ha, CK, q, show (aS s).Ba = s.Ba from rfl, show (aS s).Reads = s.Reads from rfl, e, hz (by omega)]
     simp only [Int.reduceEq, or_self, if_false, if_true]
     rw [if_neg (fun w => w.elim qd this)]
 · exact L _ (by simp [Bw, ← ha, CK, q, hz (by omega)])
 · exact L _ (by simp [Bw, ← ha, CK, q, hz (by omega), IntKind.wrap, IntKind.signed, IntKind.bits])
 · exact L _ (by simp [Bw, ← ha, CK, q, hz (by omega), IntKind.wrap, IntKind.signed, IntKind.bits])
 · exact L _ (by simp [Bw, ← ha, CK, q, IntKind.wrap, IntKind.signed, IntKind.bits])
 · exact L _ (by simp [Bw, ← ha, CK, q, IntKind.wrap, IntKind.signed, IntKind.bits])
theorem Si {tape : Sl Int} {x : AZ} (h : SV p B k s) (hr : 0 ≤ s.Reads) (ht : TW tape) (hx : Pb x) : D_f1a.wp (p, (s, (tape, x))) fun y => y = SS (Ie (aP p) tape.L (aS s) (Nt x)) := by
 have htn := h.sc.tn
 have hm := GN ht.n
 have e3 : IntKind.u64.wrap ((tape.n : Nat) : Int) = tape.n := by
  simp only [IntKind.wrap, IntKind.signed, IntKind.bits, Bool.false_and, Bool.false_eq_true, if_false]; omega
 have hno : x.B4 < 0 ∨ (p.AB.n : Int) ≤ x.B4 → Ie (aP p) tape.L (aS s) (Nt x) = none := fun q => by
  show Ci _ _ _ _ _ _ _ = none
  unfold Ci
  rw [if_pos (by simp [aS, Nt]; omega)]
 refine of_wp ?_
 simp only [tt_f1a]
 refine AE ilI (fun q => by rw [hno (.inl q)]; rfl) fun q0 => AE leI (fun q => by rw [hno (.inr (by omega))]; rfl) fun q1 => of_wp ?_
 simp only [tt_f1a_3, e3]
 have h0 : 0 ≤ x.B4 := by omega
 have h1 : x.B4 < p.AB.n := by omega
 refine wC (w_f3x h.sc h0 h1) fun (a : TA6) ha => ?_
 have ek : (Aq (aP p) (aS s) x.B4).Kind = a.Kind := by rw [← ha]; rfl
 have L10 : ∀ v : Int, (a.Kind = 4 → v = x.Dj) → (a.Kind = 5 → v = x.Gx) → (a.Kind = 6 → ¬ Bm (tape.n : Int) s.Reads = true → v = tape.L.getD s.Reads.toNat 0) → D_f1a_10.wp ⟨p, s, x, v, Bm (tape.n : Int) s.Reads, ⟨0, 0, 0, 0, 0⟩⟩ fun y => y = SS (Ie (aP p) tape.L (aS s) (Nt x)) := fun v h4 h5 h6 => by
  refine of_wp ?_
  simp only [tt_f1a_10]
  refine wC (VV (tp := tape.L) (ck := x.Dj) (dr := x.Gx) (fire := x.Hn) h h0 h1 hx.d ht.mem (by rw [leI, Sl.Bf]) hx.c (by rw [ek]; exact h4) (by rw [ek]; exact h5) (by rw [ek]; exact h6)) fun (y : TEv × Bool) hy => ?_
  rw [show Ie (aP p) tape.L (aS s) (Nt x) = Ci (aP p) (aS s) tape.L x.B4 x.Dj x.Gx x.Hn from rfl, ← Qn hy]
  refine AE bnI (fun q => by rw [if_neg q]; rfl) fun q => ?_
  rw [if_pos (Classical.byContradiction q)]; rfl
 refine AE ieI (fun q => L10 _ (fun w => by omega) (fun _ => rfl) fun w => by omega) fun n5 => AE ieI (fun q => AE bnI (fun qe => wN ?_ (L10 _ (fun w => by omega) (fun w => by omega) fun _ _ => ?_)) fun qe => L10 _ (fun _ => rfl) (fun w => by omega) fun _ w => absurd w qe) fun n6 => L10 _ (fun _ => rfl) (fun w => absurd w n5) fun w => absurd w n6
 · rw [leI] at qe; rw [ibI]; omega
 · rw [leI] at qe
   exact (Gs tape hr (by omega) 0).symm
end
structure VP (l : Sl AZ) : Prop where
 n : l.n ≤ maxLen
 e : ∀ i, i < l.n → Pb (l.get i)
def scr (l : Sl AZ) : List EN := l.L.map Nt
@[simp] theorem scr_len (l : Sl AZ) : (scr l).length = l.n := by simp [scr]
theorem Mu : D_f3h.ev 1000 PUnit.unit = some true := by kernel_rfl
theorem Sf : D_f3h.wp PUnit.unit fun y => y = true := ⟨true, D_f3h.Hm 1000 _ _ Mu, rfl⟩
theorem Ut (p : TPg) (hp : Jk p) : D_f4c.wp p fun y => y = true → FL (aP p) := by
 refine of_wp ?_
 simp only [tt_f4c]
 refine wC (T7 p hp) fun (y : Bool) _ => Al (fun _ => wC (law_f42 p hp) fun (z : Bool) hz => hz.1) fun _ => fun h => by cases h
theorem QV {a b : TEv} (h : a = b) : (!((AW a.Thread b.Thread) && ((AW a.Kind b.Kind) && ((AW a.Ring b.Ring) && ((AW a.AG b.AG) && ((AW a.Value b.Value) && true)))))) = false := by
 subst h; simp [AW]
theorem LC (p : TPg) (tape : Sl Int) (script : Sl AZ) (hp : Jk p) (ht : TW tape) (hs : VP script) : D_f4.wp (p, (tape, script)) fun y => y = true := by
 refine of_wp ?_
 simp only [tt_f4]
 have aw : ∀ {k : Bool → TT Tryz.prog R_f4} {Q}, (k true).wp Q → (TT.call con_f3h PUnit.unit k).wp Q := fun h => wC Sf fun (y : Bool) hy => by subst hy; exact h
 refine aw (Al (fun h => by simp at h) fun _ => ?_)
 refine wC (Ut p hp) fun (y : Bool) hy => AE bnI (fun _ => aw rfl) fun hf => AE ilI (fun _ => aw rfl) fun hl1 => AE ilI (fun _ => aw rfl) fun hl2 => of_wp ?_
 have hP := hy (Classical.byContradiction hf)
 simp only [tt_f4_3]
 refine wC (w_f19 p hp 0) fun (y : Bx TFa × Int) hy => ?_
 rcases hy with ⟨_, y2, yn, yF, ya⟩ | ⟨hno, _⟩
 rotate_left
 · exact absurd hP hno
 obtain ⟨hFC, ya⟩ := U8 hp (Rc hp) hP yF ya
 have hr0 : 0 ≤ y.1.x.reads := by have : y.1.x.reads = (Gk (aP p)).Reads := congrArg MS.Reads ya; rw [this]; exact Int.le_refl _
 refine wN (by simp [yn]) (wC (w_f2l p hp hP) fun (s : TSt) hS => ?_)
 refine De (tt := tt_f4_8) (fun x : X_f4_8 => x.Bi = tape ∧ x.Fi = p ∧ x.IQ = script ∧ x.Kp = script.n ∧ ∃ k : Nat, x.Hk = k ∧ k ≤ script.n ∧ FC p (1 + k) k x.H4 ∧ 0 ≤ x.H4.reads ∧ SV p (1 + k) k x.MO ∧ aF x.H4 = aS x.MO)
  (fun x => (script.n - x.Hk).toNat) (fun _ y => y = true) (fun D x hI hD => ?_) ⟨rfl, rfl, rfl, rfl, 0, rfl, Nat.zero_le _, hFC, hr0, hS.2, ya.trans hS.1.symm⟩
 obtain ⟨t', p', s', q46, q47, m9, f⟩ := x
 obtain ⟨e0, e1, e2, e3, k, e4, hk, hF, hr, hV, he⟩ := hI
 simp only at e0 e1 e2 e3 e4 hF hr hV he hD
 subst e0 e1 e2 e3 e4
 simp only [tt_f4_8]
 have hrs : 0 ≤ m9.Reads := by have : f.reads = m9.Reads := congrArg MS.Reads he; omega
 refine AE ilI (fun h => ?_) fun h => of_wp ?_
 · have hkm : k < s'.n := by omega
   refine wN (A6 hkm) ?_
   rw [Int.toNat_natCast]
   have hx := hs.e k hkm
   refine wC (Oe hF hr ht hx) fun (a : TEv × Bool) ha => wC (KW hF) fun (w : TSt) hw => wC (MU hF he w hw) fun (u : Bool) hu => ?_
   subst hu
   refine Al (fun z => by simp at z) fun _ => wC (T5 hF hr ht hx (by omega) (by omega)) fun (b : TEv × Bool × TFa) hb => wC (Si hV hrs ht hx) fun (c : TEv × Bool) hc => ?_
   obtain ⟨b1, b2, b3, b4⟩ := hb
   rw [he] at ha b1 b2
   rw [show (1 : Int) + k + 1 = 1 + ((k + 1 : Nat) : Int) by omega] at b3
   have a1 : a.1 = c.1 := by rw [ha, hc]
   have a2 : a.2 = c.2 := by rw [ha, hc]
   have a3 : b.1 = c.1 := by rw [hc, ← b1]
   have a4 : b.2.1 = c.2 := by rw [hc, ← b1]
   refine Al (fun z => by rw [QV a1] at z; cases z) fun _ => Al (fun z => by rw [a2] at z; simp at z) fun _ => Al (fun z => by rw [QV a3] at z; cases z) fun _ => Al (fun z => by rw [a4] at z; simp at z) fun _ => of_wp ?_
   simp only [tt_f4_17]
   have hd : ∀ m : TSt, SV p' (1 + ((k + 1 : Nat) : Int)) (k + 1) m → aF b.2.2 = aS m → (D_f4_19 D).wp ⟨t', p', s', (s'.n : Int), (k : Int), m, b.2.2⟩ _ := fun m h1 h2 => of_wp (by
    simp only [tt_f4_19, C0 hkm hs.n]
    exact hD _ ⟨rfl, rfl, rfl, rfl, k + 1, rfl, hkm, b3, b4, h1, h2⟩ (by simp only; omega))
   cases ho : Ie (aP p') t'.L (aS m9) (Nt (s'.get k)) with
   | some e =>
     rw [ho] at hc b2
     subst hc
     have hal := F4 (p := aP p') (m := aS m9) ho
     have htn := hV.sc.tn
     have hin : (s'.get k).B4 < p'.AB.n := by have := hal.2.2; simp [aS, Nt] at this; omega
     have hu := ML hV.sc.inv hV.sc.hB (Ni hV hal.2.1 hin) hx.d ht.mem ho
     refine Al (fun _ => ?_) fun z => absurd rfl z
     refine wC (w_f4f hV (e := e) ⟨hu.1, hu.2⟩ (by omega) (by omega)) fun (v : Int × TSt) hv => ?_
     obtain ⟨_, v2, v3⟩ := hv
     rw [Lc hal.1] at v2
     rw [show (1 : Int) + k + 1 = 1 + ((k + 1 : Nat) : Int) by omega] at v3
     exact hd _ v3 (b2.trans v2.symm)
   | none =>
     rw [ho] at hc b2
     subst hc
     refine Al (fun z => by cases z) fun _ => hd _ ?_ b2
     rw [show (1 : Int) + ((k + 1 : Nat) : Int) = 1 + k + 1 by omega]; exact hV.grow (by omega) (by omega)
 · simp only [tt_f4_20]
   exact wC (KW hF) fun (w : TSt) hw => wC (MU hF he w hw) fun (u : Bool) hu => hu
def ok_TRg (x : TRg) : Prop := (fun n => (Lit.int .i64 n).wf = true) x.Kind ∧ (fun n => (Lit.int .i64 n).wf = true) x.DE ∧ (fun n => (Lit.int .i64 n).wf = true) x.AR ∧ True
def fl_TRg_0 : Field := (GQ Tryz.prog 87).toList.getD 0 default
def fl_TRg_1 : Field := (GQ Tryz.prog 87).toList.getD 1 default
def fl_TRg_2 : Field := (GQ Tryz.prog 87).toList.getD 2 default
theorem op_TRg : EW Tryz.prog 87 e_TRg ok_TRg :=
 EW.map (FI (fs := GQ Tryz.prog 87) (l := fl_TRg_0 :: fl_TRg_1 :: fl_TRg_2 :: []) (by kernel_rfl) (by kernel_rfl) (by kernel_rfl)
  (Bl (u := 3) (s := 1) (by kernel_rfl) (by kernel_rfl) (by kernel_rfl) (CX (k := .i64) (by kernel_rfl)) (Bl (u := 3) (s := 1) (by kernel_rfl) (by kernel_rfl) (by kernel_rfl) (CX (k := .i64) (by kernel_rfl)) (Bl (u := 3) (s := 1) (by kernel_rfl) (by kernel_rfl) (by kernel_rfl) (CX (k := .i64) (by kernel_rfl)) HW)))) (fun x => ⟨x.1, x.2.1, x.2.2.1⟩) (fun _ => rfl) (fun _ h => h)
def ok_TIn (x : TIn) : Prop := (fun n => (Lit.int .i64 n).wf = true) x.Op ∧ (fun n => (Lit.int .i64 n).wf = true) x.A ∧ (fun n => (Lit.int .i64 n).wf = true) x.B ∧ (fun n => (Lit.int .i64 n).wf = true) x.C ∧ (fun n => (Lit.int .i64 n).wf = true) x.D ∧ (fun n => (Lit.int .u64 n).wf = true) x.K ∧ True
def fl_TIn_0 : Field := (GQ Tryz.prog 124).toList.getD 0 default
def fl_TIn_1 : Field := (GQ Tryz.prog 124).toList.getD 1 default
def fl_TIn_2 : Field := (GQ Tryz.prog 124).toList.getD 2 default
def fl_TIn_3 : Field := (GQ Tryz.prog 124).toList.getD 3 default
def fl_TIn_4 : Field := (GQ Tryz.prog 124).toList.getD 4 default
def fl_TIn_5 : Field := (GQ Tryz.prog 124).toList.getD 5 default
theorem op_TIn : EW Tryz.prog 124 e_TIn ok_TIn :=
 EW.map (FI (fs := GQ Tryz.prog 124) (l := fl_TIn_0 :: fl_TIn_1 :: fl_TIn_2 :: fl_TIn_3 :: fl_TIn_4 :: fl_TIn_5 :: []) (by kernel_rfl) (by kernel_rfl) (by kernel_rfl)
  (Bl (u := 3) (s := 1) (by kernel_rfl) (by kernel_rfl) (by kernel_rfl) (CX (k := .i64) (by kernel_rfl)) (Bl (u := 3) (s := 1) (by kernel_rfl) (by kernel_rfl) (by kernel_rfl) (CX (k := .i64) (by kernel_rfl)) (Bl (u := 3) (s := 1) (by kernel_rfl) (by kernel_rfl) (by kernel_rfl) (CX (k := .i64) (by kernel_rfl)) (Bl (u := 3) (s := 1) (by kernel_rfl) (by kernel_rfl) (by kernel_rfl) (CX (k := .i64) (by kernel_rfl)) (Bl (u := 3) (s := 1) (by kernel_rfl) (by kernel_rfl) (by kernel_rfl) (CX (k := .i64) (by kernel_rfl)) (Bl (u := 36) (s := 1) (by kernel_rfl) (by kernel_rfl) (by kernel_rfl) (CX (k := .u64) (by kernel_rfl)) HW))))))) (fun x => ⟨x.1, x.2.1, x.2.2.1, x.2.2.2.1, x.2.2.2.2.1, x.2.2.2.2.2.1⟩) (fun _ => rfl) (fun _ h => h)
def ok_TPg (x : TPg) : Prop := (OT ok_TRg) x.AF ∧ (OT (OT ok_TIn)) x.AB ∧ True
def fl_TPg_0 : Field := (GQ Tryz.prog 25).toList.getD 0 default
def fl_TPg_1 : Field := (GQ Tryz.prog 25).toList.getD 1 default
theorem op_TPg : EW Tryz.prog 25 e_TPg ok_TPg :=
 EW.map (FI (fs := GQ Tryz.prog 25) (l := fl_TPg_0 :: fl_TPg_1 :: []) (by kernel_rfl) (by kernel_rfl) (by kernel_rfl)
  (Bl (u := 22) (s := 1) (by kernel_rfl) (by kernel_rfl) (by kernel_rfl) (E1 (e := 87) (s := 3) (d_TRg .undef) (by kernel_rfl) (by kernel_rfl) (by decide) (op_TRg)) (Bl (u := 23) (s := 1) (by kernel_rfl) (by kernel_rfl) (by kernel_rfl) (E1 (e := 116) (s := 1) (dsl_TIn .undef) (by kernel_rfl) (by kernel_rfl) (by decide) (E1 (e := 124) (s := 6) (d_TIn .undef) (by kernel_rfl) (by kernel_rfl) (by decide) (op_TIn))) HW))) (fun x => ⟨x.1, x.2.1⟩) (fun _ => rfl) (fun _ h => h)
def Ew (x : AZ) : Prop := (fun n => (Lit.int .i64 n).wf = true) x.B4 ∧ (fun n => (Lit.int .u64 n).wf = true) x.Dj ∧ (fun n => (Lit.int .u64 n).wf = true) x.Gx ∧ (fun _ => True) x.Hn ∧ True
def KC : Field := (GQ Tryz.prog 41).toList.getD 0 default
def KB : Field := (GQ Tryz.prog 41).toList.getD 1 default
def KA : Field := (GQ Tryz.prog 41).toList.getD 2 default
def J9 : Field := (GQ Tryz.prog 41).toList.getD 3 default
theorem Lz : EW Tryz.prog 41 BW Ew :=
 EW.map (FI (fs := GQ Tryz.prog 41) (l := KC :: KB :: KA :: J9 :: []) (by kernel_rfl) (by kernel_rfl) (by kernel_rfl)
  (Bl (u := 3) (s := 1) (by kernel_rfl) (by kernel_rfl) (by kernel_rfl) (CX (k := .i64) (by kernel_rfl)) (Bl (u := 36) (s := 1) (by kernel_rfl) (by kernel_rfl) (by kernel_rfl) (CX (k := .u64) (by kernel_rfl)) (Bl (u := 36) (s := 1) (by kernel_rfl) (by kernel_rfl) (by kernel_rfl) (CX (k := .u64) (by kernel_rfl)) (Bl (u := 4) (s := 1) (by kernel_rfl) (by kernel_rfl) (by kernel_rfl) (PZ (by kernel_rfl)) HW))))) (fun x => ⟨x.1, x.2.1, x.2.2.1, x.2.2.2.1⟩) (fun _ => rfl) (fun _ h => h)
theorem L2 : O5 Tryz.prog 25 e_TPg ok_TPg :=
 NN (fs := GQ Tryz.prog 25) (by kernel_rfl) op_TPg (fun _ => rfl) (fun _ => rfl)
theorem Uq {p : TPg} (h : ok_TPg p) : Jk p := by
 obtain ⟨⟨rz, rn, rr⟩, ⟨_, tn, tt⟩, _⟩ := h
 refine ⟨rn, tn, fun t ht => (tt t ht).2.1, fun t ht k hk => ?_, rz, fun t ht => (tt t ht).1⟩
 obtain ⟨_, a, b, c, d, k, _⟩ := (tt t ht).2.2 k hk
 have a := wf_i64 a; have b := wf_i64 b; have c := wf_i64 c; have d := wf_i64 d
 exact ⟨wf_u64 k, by omega, by omega, by omega, by omega⟩
theorem Tw {x : AZ} (h : Ew x) : Pb x := by
 obtain ⟨_, c, d, _⟩ := h
 exact ⟨wf_u64 c, wf_u64 d⟩
theorem NO : O5 Tryz.prog 27 BS (OT Ew) :=
 LI (Jt (e := 41) (by kernel_rfl)) (E1 (e := 41) (s := 4) (Bc .undef) (by kernel_rfl) (by kernel_rfl) (by decide) Lz) (fun _ => rfl) (fun _ => rfl)
theorem Tu {l : Sl AZ} (h : OT Ew l) : VP l := ⟨h.2.1, fun i hi => Tw (h.2.2 i hi)⟩
theorem Pp : O5 Tryz.prog 26 BB (OT fun n => (Lit.int .u64 n).wf = true) :=
 LI (Jt (e := 36) (by kernel_rfl)) (E1 (e := 36) (s := 1) (dI .undef) (by kernel_rfl) (by kernel_rfl) (by decide) (CX (k := .u64) (by kernel_rfl))) (fun _ => rfl) (fun _ => rfl)
theorem Up {l : Sl Int} (h : OT (fun n => (Lit.int .u64 n).wf = true) l) : TW l := ⟨h.2.1, fun i hi => wf_u64 (h.2.2 i hi)⟩

open Go.ChangeShapes Go.WideShapes Go.ChangeAt Go.RowKit
theorem Tryz.own : ownKnob Tryz.prog.godebug = none := by kernel_rfl
theorem Tryz.laidOut : laidOutB Tryz.prog = true := by kernel_rfl
theorem Tryz.VK : mapsRowed Tryz.prog = true := by kernel_rfl
theorem Tryz.full : ∀ t e, t < Tryz.prog.types.size → Tryz.prog.underlying t = some (.slice e) → 0 < Tryz.prog.cellsOf e := slices_full_of Tryz.prog (by kernel_rfl)
def Nu : Value := .agg #[.slice none 0 0, .slice none 0 0]
open Go.ChangeShapes Go.WideShapes Go.ChangeAt Go.RowKit
theorem worldSteps_lifted (os : Os) (started : os.Started) (H : Type) (enc : TypeId × Value → H) :
 ReturnsInHanded {} Tryz.checked os 3 .any (Rows.worldStepsSpec.pre6 enc Tryz.prog Tryz.f3 Rows.worldStepsRow.domain false) (Rows.worldStepsSpec.post enc Tryz.prog Tryz.f3 false true false false) := by
 refine lifted (tb := 4) (C := Tryz.checked) Tryz.own started (by kernel_rfl) Tryz.func3
  (ChangeSpec.witness6 (enc := enc) (C := Tryz.checked) false ⟨#[], #[Nu, .slice none 0 0, .slice none 0 0], []⟩ 8 (by kernel_rfl) (by kernel_rfl) (by kernel_rfl) (by kernel_rfl)) Tryz.laidOut Tryz.VK Tryz.full
  (by kernel_rfl) rfl rfl (by kernel_rfl) ?_ ?_
 · intro ds hl
   match ds, hl with
   | [_, _, _], _ => rfl
 · intro W base args ds ps hval hA
   rw [Tryz.params3] at hA hval
   obtain ⟨v0, v1, v2, d0, d1, d2, p0, p1, p2, rfl, rfl, rfl, h0, h1, h2⟩ := trodAll_three hA
   obtain ⟨a, ha, ra⟩ := L2 H enc W base v0 d0 p0 (hval 0 25 v0 rfl rfl) h0
   obtain ⟨b, hb, rb⟩ := Pp H enc W base v1 d1 p1 (hval 1 26 v1 rfl rfl) h1
   obtain ⟨c, hc, rc⟩ := NO H enc W base v2 d2 p2 (hval 2 27 v2 rfl rfl) h2
   obtain ⟨y, hy, rfl⟩ := LC a b c (Uq ha) (Up hb) (Tu hc)
   refine P1 (con_f4.ok (a, (b, c)) true hy) (fun j x v hx hv => ?_) rfl
   match j, hx, hv with
   | 0, hx, hv => change some (e_TPg a) = some x at hx; cases hx; simp at hv; subst hv; exact ra
   | 1, hx, hv => change some (BB b) = some x at hx; cases hx; simp at hv; subst hv; exact rb
   | 2, hx, hv => change some (BS c) = some x at hx; cases hx; simp at hv; subst hv; exact rc
theorem worldSteps_holds : Rows.WorldStepsSaid :=
 OpenClaim.holds_of_wide 3 Tryz.f3 rfl rfl rfl rfl rfl rfl rfl ⟨rfl, rfl, rfl, rfl, rfl⟩ rfl rfl rfl rfl rfl (by kernel_rfl) Tryz.func3 (by kernel_rfl)
  (of_decide_eq_true (by kernel_rfl)) (by unfold Func.isWrapper; first | (rw [if_pos (by decide +kernel)]; kernel_rfl) | (rw [if_neg (by decide +kernel)]; exact ⟨rfl, rfl⟩))
  (fun os started H enc _ => worldSteps_lifted os started H enc)
end Go.Proofs.YtiamaibincaihaaGreat
end
