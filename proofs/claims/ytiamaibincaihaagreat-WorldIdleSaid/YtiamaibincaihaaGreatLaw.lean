/- For every program, tape, script and entry more: an entry that picks no thread that runs does nothing; what was handed in reads as it did. No conditions. -/
import Derived.Test.YtiamaibincaihaaGreatLawA
import Derived.Test.YtiamaibincaihaaGreatRows
noncomputable section
namespace Go.Proofs.YtiamaibincaihaaGreat
open Go Go.Vm Go.Proofs
set_option maxRecDepth 10000
set_option maxRecDepth 100000
structure RU (p : TPg) (rs rs' : Sl (Bx TRr)) (i : Nat) (m : MR) : Prop where
 n : rs'.n = rs.n
 ot : ∀ j, j ≠ i → rs'.get j = rs.get j
 nl : (rs'.get i).nil = false
 wf : QS (p.AF.get i) (rs'.get i).x
 eq : aR (rs'.get i).x = m
theorem Me {p : TPg} {rs rs' : Sl (Bx TRr)} {i : Nat} {m : MR} (z : Bx TRr) (h1 : rs'.n = rs.n) (h2 : ∀ j, rs'.get j = cond (Nat.beq j i) z (rs.get j)) (h3 : z.nil = false) (h4 : QS (p.AF.get i) z.x) (h5 : aR z.x = m) : RU p rs rs' i m := by
 have hi : rs'.get i = z := by rw [h2, Nat.beq_refl]; rfl
 exact ⟨h1, fun j hj => by rw [h2, Jx hj]; rfl, by rw [hi]; exact h3, by rw [hi]; exact h4, by rw [hi]; exact h5⟩
theorem RU.L {p : TPg} {rs rs' : Sl (Bx TRr)} {i : Nat} {m : MR} (h : RU p rs rs' i m) : rs'.L.map (fun r => aR r.x) = (rs.L.map fun r => aR r.x).set i m := by
 apply List.ext_getElem
 · simp [h.n]
 · intro j h1 h2
   have hj : j < rs.n := by simpa [h.n] using h1
   simp only [List.getElem_map, Sl.HC]
   by_cases e : j = i
   · subst e; rw [List.getElem_set_self, h.eq]
   · rw [List.getElem_set_ne (fun q => e q.symm)]
     simp only [List.getElem_map, Sl.HC, h.ot j e]
section
variable {p : TPg} {B : Int} {k : Nat} {f : TFa} {e : TEv}
theorem Kw (h : FC p B k f) {i : Int} (h0 : 0 ≤ i) (h1 : i < p.AF.n) (hF : Ex (CS (aF f) i) = false) :
 D_f2f.wp (i, f) fun y => ∃ rs, y = ⟨f.p, f.threads, rs, f.now, f.reads, f.ended⟩ ∧ RU p f.rings rs i.toNat { CS (aF f) i with A0 := (CS (aF f) i).A0 + 1 } := by
 obtain ⟨hC, hnil, hrn⟩ := h.ring h0 h1
 have hfr := h.wf.rn
 have hi : i.toNat < p.AF.n := by omega
 rw [hrn] at hF ⊢
 have nd : ((true && true) && ((Nat.beq f.rings.n f.rings.n) && (Nat.blt i.toNat f.rings.n))) = true := by simp; omega
 have nd2 : ((true && true) && (Nat.beq f.rings.n f.rings.n)) = true := by simp
 have ib : A6 i f.rings.n = true := by rw [ibI]; omega
 refine of_wp ?_
 simp only [tt_f2f, Nat.zero_add]
 refine wN ib (wN (by simp [hnil]) (wC (NA hC) fun (y : Int × Int × TRr) hy => wN nd (Cy (wN nd2 ?_))))
 rcases hy with ⟨hcl, rfl⟩ | ⟨_, hfl, _⟩ | ⟨hcl, _, hy0, hyr⟩
 · refine AE (p := (10 : Int) ≠ 10) (by rw [bnI, ieI]) (fun q => absurd rfl q) fun _ => ?_
   simp only [Nat.beq_refl, cond_true]
   have hc := hC.rg
   refine wN ib (wN (by simp) (wC (Gn (p.AF.get i.toNat) _ hc hC.wf) fun (s : TRs) hs => wN (by simp; omega) (Cy (wN (by simp) ?_))))
   obtain ⟨e1, e2, e3⟩ := hs
   have hcp := h.wf.cp
   have hI := hC.inv.U2 hF
   have ht := hC.t
   have hT : s.A0 = (f.rings.get i.toNat).x.AA.tail := congrArg MR.A0 e1
   have hb := h.hB
   rw [Au (z := s.A0 + 1) (by rw [hT]; omega) (by rw [hT]; omega), hcp.r.g _ hi]
   have es : JM ⟨s.A0 + 1, s.AV, s.As, s.Al⟩ = { aR (f.rings.get i.toNat).x with A0 := (aR (f.rings.get i.toNat).x).A0 + 1 } := by
    rw [← e1]; rfl
   rw [← es] at hI
   refine wN (by rw [ibI, hcp.r.n]; omega) (wC (w_fb (p.AF.get i.toNat) ⟨s.A0 + 1, s.AV, s.As, s.Al⟩ hc (Qf hc hI (by omega) e2 e3)) fun (z : Bx TRr × Int) hz => ?_)
   rcases hz with ⟨_, z2, zn, zw, za⟩ | ⟨hno, _⟩
   rotate_left
   · exact absurd (Oa hc hI (by omega)) hno
   refine AE ieI (fun _ => wN ib (wN (by simp) (wN (by simp) ⟨_, rfl, Me z.1 rfl (fun j => ?_) zn zw (za.trans es)⟩))) fun q => absurd z2 q
   show (⟨_, _⟩ : Bx TRr) = cond (Nat.beq j _) _ _
   cases Nat.beq j i.toNat <;> rfl
 · rw [hF] at hfl; cases hfl
 · refine AE (p := y.2.1 ≠ 10) (by rw [bnI, ieI]) (fun _ => ⟨_, rfl, Me ⟨false, y.2.2⟩ rfl (fun j => ?_) rfl ?_ ?_⟩) fun q => absurd (by rw [hy0]; decide) q
   · show (⟨_, _⟩ : Bx TRr) = cond (Nat.beq j _) _ _
     cases Nat.beq j i.toNat <;> rfl
   · show QS _ y.2.2
     rw [hyr]
     exact ⟨hC.wf.sn, hC.wf.rd, hC.wf.ms, hC.wf.hz, hC.wf.lz, hC.wf.hn, hC.wf.ln⟩
   · show aR y.2.2 = _
     rw [hyr]; rfl
theorem Rq (h : FC p B k f) (he : Qg e) (F : Dh (aP p) (aF f) e) (v : Int) (hv : B0 v) (hve : v = if e.Kind = 4 then (A4 (CS (aF f) e.Ring) e.AG).Value else 0) (rs : Sl (Bx TRr)) (now rd : Int) (en : Bool) :
 D_fe_20.wp (⟨e, v, ⟨f.p, f.threads, rs, now, rd, en⟩⟩ : X_fe_20) fun y => ∃ ts, y = ⟨f.p, ts, rs, now, rd, en⟩ ∧ ts.n = f.threads.n ∧ ts.L.map aT = (Ai (aP p) (aF f) e).AB ∧ ∀ t, t < ts.n → Ee (k + 1) (ts.get t) := by
 obtain ⟨h0, h1⟩ := E5 h.inv F
 obtain ⟨c1, c2, c3, c4⟩ := h.code h0 h1
 have htn := h.wf.tn
 have hk := h.hk
 have hT := h.KO h0 h1
 rw [← c3] at hT
 have hcr := Hx h.inv h0 h1
 rw [← Fc h0 h1, ← c3] at hcr
 refine of_wp ?_
 simp only [tt_fe_20, Nat.zero_add]
 have ib : A6 e.Thread f.threads.n = true := by rw [ibI]; omega
 refine wN (by rw [ibI]; omega) (wN ib (wN (by simp) (wC (w_f2a _ _ _ e v k (by omega) c1 c2 hcr hT (h.wf.tw _ (by omega)) hv he.vl he.tk.1) fun (y : TTh × Int) hy => wN ib (wN (by simp) (wN (by simp) ?_)))))
 have hd : Rk (f.p.AB.get e.Thread.toNat).L (aT (f.threads.get e.Thread.toNat)) e = 0 := by
  unfold Rk
  have hft := F.ft
  have ha0 := F.a0
  unfold Ak at hft ha0
  rw [ID h0 (by omega), ← c3] at hft ha0
  rw [if_neg (by rw [F.re]; simp), if_neg (by rw [hft]; simp [ha0])]
 obtain ⟨hy1, hy2⟩ := hy.2 hd
 have hts : ∀ {T : Sl TTh}, T.n = f.threads.n → (∀ j, T.get j = cond (Nat.beq j e.Thread.toNat) y.1 (f.threads.get j)) → T.L.map aT = (Ai (aP p) (aF f) e).AB ∧ ∀ t, t < T.n → Ee (k + 1) (T.get t) := fun {T} e1 e2 => by
  refine ⟨?_, fun t ht => ?_⟩
  · have : T.L = f.threads.L.set e.Thread.toNat y.1 := by rw [← Gt]; exact RK e1 e2
    rw [this, map_set, hy1]
    unfold Ai
    simp only
    rw [ID h0 (by omega), ← c3, hve]
    rfl
  · rw [e2]
    by_cases q : t = e.Thread.toNat
    · subst q; rw [Nat.beq_refl]; exact hy2
    · rw [Jx q]; exact (h.wf.tw t (by omega)).grow (by omega)
 refine ⟨_, rfl, rfl, hts rfl fun j => ?_⟩
 show (⟨_, _, _, _, _, _, _⟩ : TTh) = cond (Nat.beq j _) _ _
 cases Nat.beq j e.Thread.toNat <;> rfl
theorem FC.Q1 (h : FC p B k f) {t : Int} (h0 : 0 ≤ t) (h1 : t < p.AB.n) : B0 (Ak (aP p) (aF f) t).Value := by
 have htn := h.wf.tn
 have := h.KO h0 h1
 unfold Ak
 rw [ID h0 (by omega)]
 rw [Fc h0 h1] at this ⊢
 exact (Ot (Hx h.inv h0 h1) (h.hp.k (by omega)) this (h.wf.tw _ (by omega)).rg).2
theorem ME (h : FC p B k f) (he : Qg e) (F : Dh (aP p) (aF f) e) (ht : A1 e.Kind = true → DU (CS (aF f) e.Ring) (Ak (aP p) (aF f) e.Thread) e = true) (hB : B + 1 ≤ 2305843009213693952) (hk : k + 1 ≤ 1000000000) :
 D_fe.wp (e, f) fun y => aF y = Ai (aP p) (aF f) e ∧ FC p (B + 1) (k + 1) y := by
 obtain ⟨t0, t1⟩ := E5 h.inv F
 have hfr := h.wf.rn
 have htn := h.wf.tn
 have hre := B7 F.re
 have hI := IP h.inv h.hB he.tk.1 F ht
 have hU := M4 h.uv (h.Q1 t0 t1)
 refine of_wp ?_
 simp only [tt_fe, Nat.zero_add]
 refine wC (Gq h t0 t1) fun (a : TAk) ha => ?_
 -- the end of all ways
 have fin : ∀ (v : Int) (rs : Sl (Bx TRr)) (now rd : Int) (en : Bool), B0 v → v = (if e.Kind = 4 then (A4 (CS (aF f) e.Ring) e.AG).Value else 0) → rs.n = p.AF.n → (∀ i, i < rs.n → (rs.get i).nil = false ∧ QS (p.AF.get i) (rs.get i).x) →
  rs.L.map (fun r => aR r.x) = (Ai (aP p) (aF f) e).AF → now = (Ai (aP p) (aF f) e).Ec → rd = (Ai (aP p) (aF f) e).Reads → en = (Ai (aP p) (aF f) e).BO →
  D_fe_20.wp (⟨e, v, ⟨f.p, f.threads, rs, now, rd, en⟩⟩ : X_fe_20) fun y => aF y = Ai (aP p) (aF f) e ∧ FC p (B + 1) (k + 1) y := fun v rs now rd en hv hve r1 r2 r3 e1 e2 e3 => by
  refine (Rq h he F v hv hve rs now rd en).mono fun y hy => ?_
  obtain ⟨ts, rfl, n1, n2, n3⟩ := hy
  have ea : aF ⟨f.p, ts, rs, now, rd, en⟩ = Ai (aP p) (aF f) e := by
   show (⟨_, _, _, _, _⟩ : MS) = _
   rw [n2, r3, e1, e2, e3]
  exact ⟨ea, h.hp, by rw [ea]; exact hI, ⟨h.wf.cp, by show ts.n = _; omega, n3, r1, r2⟩, by rw [ea]; exact hU, hB, hk⟩
 have vz : e.Kind ≠ 4 → (0 : Int) = (if e.Kind = 4 then (A4 (CS (aF f) e.Ring) e.AG).Value else 0) := fun q => by rw [if_neg q]
 have nw : e.Kind ≠ 8 → f.now = (Ai (aP p) (aF f) e).Ec := fun q => by unfold Ai; simp only; rw [if_neg q]; rfl
 have rd : e.Kind ≠ 10 → f.reads = (Ai (aP p) (aF f) e).Reads := fun q => by unfold Ai; simp only; rw [if_neg q]; rfl
 have en : e.Kind ≠ 11 → f.ended = (Ai (aP p) (aF f) e).BO := fun q => by unfold Ai; simp only; rw [if_neg q]; rfl
 have rgs : A1 e.Kind = false → f.rings.L.map (fun r => aR r.x) = (Ai (aP p) (aF f) e).AF := fun q => by unfold Ai; simp only [q, Bool.false_eq_true, if_false]; rfl
 -- with a ring
 have ring : A1 e.Kind = true → ∀ (v : Int) (rs : Sl (Bx TRr)), B0 v → v = (if e.Kind = 4 then (A4 (CS (aF f) e.Ring) e.AG).Value else 0) → RU p f.rings rs e.Ring.toNat (CK (CS (aF f) e.Ring) (Ak (aP p) (aF f) e.Thread) e) →
  D_fe_20.wp (⟨e, v, ⟨f.p, f.threads, rs, f.now, f.reads, f.ended⟩⟩ : X_fe_20) fun y => aF y = Ai (aP p) (aF f) e ∧ FC p (B + 1) (k + 1) y := fun q v rs hv hve hu => by
  have h1 := Aw.1 q
  refine fin v rs _ _ _ hv hve (by rw [hu.n]; exact hfr) (fun i hi => ?_) ?_ (nw (by omega)) (rd (by omega)) (en (by omega))
  · by_cases z : i = e.Ring.toNat
    · subst z; exact ⟨hu.nl, hu.wf⟩
    · rw [hu.ot i z]; exact h.wf.rw i (by rw [← hu.n]; exact hi)
  · rw [hu.L]
    unfold Ai
    simp only [q, if_true]
    rfl
 have tk := fun z => Aw (k := e.Kind).2 z
 have info := fun (q : A1 e.Kind = true) => by
  obtain ⟨r1, _, r2⟩ := F5 h.inv F (Cz q)
  obtain ⟨hC, hnil, hrn⟩ := h.ring r1.1 r1.2
  exact (⟨r1, by rw [ha]; exact r2, hC, hnil, hrn, by rw [ibI]; omega, by simp [hnil], by simp; omega⟩ : (0 ≤ e.Ring ∧ e.Ring < p.AF.n) ∧ (e.Kind = 3 ∨ e.Kind = 4 → 0 ≤ (aA a).Reader ∧ (aA a).Reader < (p.AF.get e.Ring.toNat).AR) ∧ RC (p.AF.get e.Ring.toNat) B (f.rings.get e.Ring.toNat).x ∧ (f.rings.get e.Ring.toNat).nil = false ∧ CS (aF f) e.Ring = aR (f.rings.get e.Ring.toNat).x ∧ A6 e.Ring f.rings.n = true ∧
   (((Nat.beq f.rings.n f.rings.n) && true) && (!(f.rings.get e.Ring.toNat).nil)) = true ∧ ((true && true) && ((Nat.beq f.rings.n f.rings.n) && (Nat.blt e.Ring.toNat f.rings.n))) = true)
 have nd2 : ((true && true) && (Nat.beq f.rings.n f.rings.n)) = true := by simp
 rw [← ha] at ht
 refine AE ieI (fun k1 => ?_) fun n1 => AE ieI (fun k2 => ?_) fun n2 => AE ieI (fun k3 => ?_) fun n3 => AE ieI (fun k4 => ?_) fun n4 => AE ieI (fun k13 => ?_) fun n13 => ?_
 · have q := tk (by omega)
   obtain ⟨r1, _⟩ := info q
   have hT := ht q
   unfold DU at hT
   rw [if_pos k1] at hT
   simp only [Bool.and_eq_true, Bool.not_eq_true', decide_eq_true_eq] at hT
   refine wC (Kw h r1.1 r1.2 hT.1) fun (y : TFa) hy => ?_
   obtain ⟨rs, rfl, hu⟩ := hy
   refine ring q 0 rs Cq (vz (by omega)) ?_
   unfold CK
   rw [if_pos k1]; exact hu
 · have q := tk (by omega)
   obtain ⟨r1, r2, hC, hnil, hrn, d1, d2, d3⟩ := info q
   have hT := ht q
   unfold DU at hT
   rw [if_neg n1, if_pos k2, hrn] at hT
   refine wN d1 (wN d2 (wC (Ku hC he.tk.1 hT) fun (y : Int × TRr) hy => wN d3 (Cy (wN nd2 (ring q 0 _ Cq (vz (by omega)) (Me ⟨false, y.2⟩ rfl (fun j => ?_) rfl hy.1 ?_))))))
   · show (⟨_, _⟩ : Bx TRr) = cond (Nat.beq j _) _ _
     cases Nat.beq j e.Ring.toNat <;> rfl
   · unfold CK
     rw [if_neg n1, if_pos k2, hrn, ← ha]; exact hy.2
 · have q := tk (by omega)
   obtain ⟨r1, r2, hC, hnil, hrn, d1, d2, d3⟩ := info q
   have hT := ht q
   unfold DU at hT
   rw [if_neg n1, if_neg n2, if_pos k3, hrn] at hT
   simp only [Bool.and_eq_true, Bool.not_eq_true', decide_eq_true_eq] at hT
   obtain ⟨j0, j1⟩ := r2 (.inl k3)
   have hn := hC.hn
   refine wN d1 (wN d2 (wC (OJ hC (j := a.Reader) j0 (by show (aA a).Reader < _; omega) hT.1) fun (y : Int × Int × TRr) hy => wN d3 (Cy (wN nd2 (ring q 0 _ Cq (vz (by omega)) (Me ⟨false, y.2.2⟩ rfl (fun j => ?_) rfl hy.1 ?_))))))
   · show (⟨_, _⟩ : Bx TRr) = cond (Nat.beq j _) _ _
     cases Nat.beq j e.Ring.toNat <;> rfl
   · unfold CK
     rw [if_neg n1, if_neg n2, if_pos k3, hrn, ← ha]; exact hy.2
 · have q := tk (by omega)
   obtain ⟨r1, r2, hC, hnil, hrn, d1, d2, d3⟩ := info q
   have hT := ht q
   unfold DU at hT
   rw [if_neg n1, if_neg n2, if_neg n3, if_pos k4, hrn] at hT
   obtain ⟨j0, j1⟩ := r2 (.inr k4)
   have hn := hC.hn
   refine wN d1 (wN d2 (wC (Kt hC h.hB (j := a.Reader) j0 (by show (aA a).Reader < _; omega) he.tk.1 hT) fun (y : Int × Int × TRr) hy => wN d3 (Cy (wN nd2 (ring q _ _ ?_ ?_ (Me ⟨false, y.2.2⟩ rfl (fun j => ?_) rfl hy.2.1 ?_))))))
   · rw [hy.1, ← hrn]; exact IE (NO h.uv _) _
   · rw [hy.1, ← hrn, if_pos k4]
   · show (⟨_, _⟩ : Bx TRr) = cond (Nat.beq j _) _ _
     cases Nat.beq j e.Ring.toNat <;> rfl
   · unfold CK
     rw [if_neg n1, if_neg n2, if_neg n3, if_pos k4, hrn, ← ha]; exact hy.2.2
 · have q := tk (by omega)
   obtain ⟨r1, r2, hC, hnil, hrn, d1, d2, d3⟩ := info q
   refine wN d1 (wN d2 (wC (M9 _) fun (y : Int × TRr) hy => wN d3 (Cy (wN nd2 (ring q 0 _ Cq (vz (by omega)) (Me ⟨false, y.2⟩ rfl (fun j => ?_) rfl ?_ ?_))))))
   · show (⟨_, _⟩ : Bx TRr) = cond (Nat.beq j _) _ _
     cases Nat.beq j e.Ring.toNat <;> rfl
   · subst hy; exact ⟨hC.wf.sn, hC.wf.rd, hC.wf.ms, hC.wf.hz, hC.wf.lz, hC.wf.hn, hC.wf.ln⟩
   · subst hy
     unfold CK
     rw [if_neg n1, if_neg n2, if_neg n3, if_neg n4, if_pos k13, hrn]; rfl
 · have q : A1 e.Kind = false := Bool.eq_false_iff.2 fun z => by rw [Aw] at z; omega
   refine AE ieI (fun k8 => ?_) fun n8 => AE ieI (fun k10 => ?_) fun n10 => AE ieI (fun k11 => ?_) fun n11 => ?_
   · refine fin 0 f.rings _ _ _ Cq (vz n4) hfr h.wf.rw (rgs q) ?_ (rd (by omega)) (en (by omega))
     unfold Ai; simp only; rw [if_pos k8, Ug]; rfl
   · refine fin 0 f.rings _ _ _ Cq (vz n4) hfr h.wf.rw (rgs q) (nw n8) ?_ (en (by omega))
     unfold Ai; simp only; rw [if_pos k10]; rfl
   · refine fin 0 f.rings _ _ _ Cq (vz n4) hfr h.wf.rw (rgs q) (nw n8) (rd n10) ?_
     unfold Ai; simp only; rw [if_pos k11]
   · exact fin 0 f.rings _ _ _ Cq (vz n4) hfr h.wf.rw (rgs q) (nw n8) (rd n10) (en n11)
theorem FC.grow (h : FC p B k f) (hB : B + 1 ≤ 2305843009213693952) (hk : k + 1 ≤ 1000000000) : FC p (B + 1) (k + 1) f :=
 ⟨h.hp, h.inv.mono (by omega), ⟨h.wf.cp, h.wf.tn, fun t ht => (h.wf.tw t ht).grow (by omega), h.wf.rn, h.wf.rw⟩, h.uv, hB, hk⟩
theorem OM (h : FC p B k f) (he : Qg e) (hB : B + 1 ≤ 2305843009213693952) (hk : k + 1 ≤ 1000000000) : D_f2k.wp (e, f) fun y => y.1 = (P5 (aP p) (aF f) e).1 ∧ aF y.2 = (P5 (aP p) (aF f) e).2 ∧ FC p (B + 1) (k + 1) y.2 := by
 refine of_wp ?_
 simp only [tt_f2k]
 refine wC (HQ h he) fun (y : Int) hy => ?_
 subst hy
 unfold P5
 refine AE (p := EE (aP p) (aF f) e ≠ 0) (by rw [bnI, ieI]) (fun q => ?_) fun q => wC (GQ h he) fun (y : Bool) hy => ?_
 · rw [if_pos q]; exact ⟨rfl, rfl, h.grow hB hk⟩
 · subst hy
   rw [if_neg q]
   refine AE bnI (fun q2 => ?_) fun q2 => ?_
   · rw [if_pos (by simpa using q2)]; exact ⟨rfl, rfl, h.grow hB hk⟩
   · have hA := Classical.byContradiction q2
     rw [if_neg (by rw [hA]; simp)]
     obtain ⟨F, _, hm⟩ := Dr hA
     exact wC (ME h he F (fun z => LU (p := aP p) hm F.re z) hB hk) fun (y : TFa) hy => ⟨rfl, hy⟩
end
theorem w_f2l (c r : Int) (hc : 1 ≤ c ∧ c ≤ 64) : D_f2l.wp (c, r) fun y => y.L.L = (List.range c.toNat).map H5 ∧ y.AR = r := by
 refine of_wp ?_
 simp only [tt_f2l]
 obtain ⟨n, rfl⟩ : ∃ n : Nat, c = n := ⟨c.toNat, by omega⟩
 rw [Int.toNat_natCast]
 refine DN (tt := tt_f2l_3) (fun x : X_f2l_3 => x.FJ = n ∧ ∃ k : Nat, x.Kj = k ∧ k ≤ n ∧ x.BI.L.n = k ∧ x.BI.AR = r ∧ ∀ i, i < k → x.BI.L.get i = H5 i) (fun x => (n - x.Kj).toNat)
  (fun _ y => y.L.L = (List.range n).map H5 ∧ y.AR = r) (fun D x hI hD => ?_) ⟨rfl, 0, rfl, Nat.zero_le _, rfl, rfl, fun i hi => by omega⟩
 obtain ⟨pl, i, m4, ⟨L, rd⟩⟩ := x
 obtain ⟨e0, k, e1, hk, hn, e2, hg⟩ := hI
 simp only at e0 e1 hn e2 hg hD
 subst e0 e1 e2 hn
 simp only [tt_f2l_3]
 refine AE ilI (fun h => wN (by simp [room]; omega) ?_) fun h => ⟨?_, rfl⟩
 · have e3 : IntKind.i64.wrap ((L.n : Int) + 1) = ((L.n + 1 : Nat) : Int) := by rw [wrap64] <;> omega
   rw [e3, Au (z := (L.n : Int)) (by omega) (by omega), Au (z := 2 * (L.n : Int)) (by omega) (by omega)]
   refine Ps (T' := snoc L (H5 L.n)) (fun T => D.wp (⟨(n : Int), ((L.n + 1 : Nat) : Int), m4, ⟨T, rd⟩⟩ : X_f2l_3) _) rfl rfl (fun i => ?_) (hD _ ⟨rfl, L.n + 1, rfl, by omega, rfl, rfl, fun i hi => ?_⟩ (by simp only; omega))
   · show (⟨_, _, _⟩ : TSo) = cond (Nat.blt i L.n) _ _
     cases Nat.blt i L.n <;> rfl
   · by_cases q : i = L.n
     · subst q; exact Gs
     · rw [show (snoc L (H5 L.n)).get i = L.get i from Gr (by omega)]; exact hg i (by omega)
 · have : L.n = n := by omega
   subst this
   apply List.ext_getElem
   · simp
   · intro i h1 h2
     rw [Sl.HC]
     simp only [List.getElem_map, List.getElem_range]
     exact hg i (by simpa using h1)
theorem w_f4b (c : TRg) (hc : BB c = true) : D_f4b.wp c fun y => R3 c 1 y ∧ DO y = HE c := by
 have hf := DD hc
 refine of_wp ?_
 simp only [tt_f4b]
 refine wN (by simp [upto, room, Bw]; omega) (wC (w_f2l c.DP c.AR (by omega)) fun (y : TR2) hy => ?_)
 have e : ∀ {z : TR3}, DO z = HE c → z.DP = c.DP → z.S.AR = c.AR → R3 c 1 z ∧ DO z = HE c := fun a k1 k2 => ⟨⟨hc, k1, k2, by rw [a]; exact Dt.new hc (by decide), by decide⟩, a⟩
 refine e ?_ (Au (by omega) (by omega)) hy.2
 show (⟨0, _, false, y.L.L⟩ : MR) = _
 rw [hy.1, J2]
 rfl
theorem w_f2m (p : TPg) (hp : Ib p) (hP : EZ (aP p)) : D_f2m.wp p fun y => aS y = CA (aP p) ∧ SV p 1 0 y := by
 obtain ⟨_, h8, hr8, _, hl⟩ := Bi hP
 refine of_wp ?_
 simp only [tt_f2m]
 refine wN (by simp [upto, room, Bw]; omega) ?_
 rw [Int.toNat_natCast]
 refine DN (tt := tt_f2m_3) (fun x : X_f2m_3 => x.DF = p ∧ ∃ k : Nat, x.EA = k ∧ k ≤ p.AF.n ∧ x.BC.AB = ⟨false, p.AB.n, fun _ => ⟨0, 0, 0, 0, 0, fun _ => 0, ⟨true, 0, fun _ => 0⟩⟩⟩ ∧ x.BC.Ec = 0 ∧ x.BC.Reads = 0 ∧ x.BC.BO = false ∧ x.BC.AF.n = k ∧ ∀ i, i < k → JM (x.BC.AF.get i) = HE (p.AF.get i))
  (fun x => (p.AF.n - x.EA).toNat) (fun _ y => aS y = CA (aP p) ∧ SV p 1 0 y) (fun D x hI hD => ?_) ⟨rfl, 0, rfl, Nat.zero_le _, rfl, rfl, rfl, rfl, rfl, fun i hi => by omega⟩
 obtain ⟨p', i, m2, ⟨mt, mr, mn, md, me⟩⟩ := x
 obtain ⟨e0, k, e1, hk, e2, e3, e4, e5, hn, hg⟩ := hI
 simp only at e0 e1 e2 e3 e4 e5 hn hg hD
 subst e0 e1 e2 e3 e4 e5 hn
 simp only [tt_f2m_3]
 refine AE ilI (fun h => ?_) fun h => ?_
 · have hkm : mr.n < p'.AF.n := by omega
   refine wN (A2 hkm) ?_
   rw [Int.toNat_natCast]
   refine wC (w_f4b _ (rg_of hP hkm)) fun (y : TR3) hy => wC (w_f3o hy.1) fun (z : TRs) hz => wN (by simp [room]; omega) ?_
   rw [Cu hkm hp.rn]
   refine Ps (T' := snoc mr z) (fun T => D.wp (⟨p', ((mr.n + 1 : Nat) : Int), m2, ⟨_, T, 0, 0, false⟩⟩ : X_f2m_3) _) rfl rfl (fun i => ?_) (hD _ ⟨rfl, mr.n + 1, rfl, hkm, rfl, rfl, rfl, rfl, rfl, fun i hi => ?_⟩ (by simp only; omega))
   · show (⟨_, ⟨_, _, _⟩, _, ⟨_, _, _⟩⟩ : TRs) = cond (Nat.blt i mr.n) _ _
     cases Nat.blt i mr.n <;> rfl
   · by_cases q : i = mr.n
     · subst q; rw [show (snoc mr z).get mr.n = z from Gs, hz.1, hy.2]
     · rw [show (snoc mr z).get i = mr.get i from Gr (by omega)]; exact hg i (by omega)
 · have hrn : mr.n = p'.AF.n := by omega
   have ea : ∀ {s : TSt}, s = ⟨⟨false, p'.AB.n, fun _ => ⟨0, 0, 0, 0, 0, fun _ => 0, ⟨true, 0, fun _ => 0⟩⟩⟩, mr, 0, 0, false⟩ → aS s = CA (aP p') := fun {s} hs => by
    subst hs
    unfold aS CA
    simp only [MS.mk.injEq, and_true]
    refine ⟨?_, E8 hrn fun i hi => hg i (hrn ▸ hi)⟩
    simp only [aP, List.map_map]
    exact E8 rfl fun i _ => rfl
   have ea' := ea rfl
   exact ⟨ea', ⟨⟨hp, by rw [ea']; exact Ql hP, fun t _ => PL 0, by decide, by decide⟩, by rw [ea']; exact Tt⟩⟩
section
variable {p : TPg} {B : Int} {k : Nat} {f : TFa}
theorem NB (f : TFa) : D_f1k.wp f fun y => y = f.now := CF rfl
theorem H6 (h : FC p B k f) (i : Int) : D_ff.wp (i, f) fun y => (0 ≤ i ∧ i < p.AF.n → y.nil = false ∧ QS (p.AF.get i.toNat) y.x ∧ aR y.x = CS (aF f) i) ∧ (¬ (0 ≤ i ∧ i < p.AF.n) → y.nil = true) := by
 have hfr := h.wf.rn
 refine CF ?_
 simp only [tt_ff]
 refine AE ilI (fun q => ⟨fun z => by omega, fun _ => rfl⟩) fun q1 => AE leI (fun q => wN (by simp) ⟨fun z => by omega, fun _ => rfl⟩) fun q2 => wN (by simp) (of_wp ?_)
 have h0 : 0 ≤ i := by omega
 have h1 : i < p.AF.n := by omega
 obtain ⟨hC, hnil, hrn⟩ := h.ring h0 h1
 have hi : i.toNat < p.AF.n := by omega
 have hcp := h.wf.cp
 have hb := h.hB
 simp only [tt_ff_3, Nat.zero_add]
 refine wN (by rw [ibI, hcp.r.n]; omega) (wN (by rw [ibI]; omega) (wN (by simp [hnil]) (wC (Gn (p.AF.get i.toNat) _ hC.rg hC.wf) fun (s : TRs) hs => ?_)))
 obtain ⟨e1, e2, e3⟩ := hs
 rw [hcp.r.g _ hi]
 have hI := hC.inv
 rw [← e1] at hI
 refine wC (w_fb (p.AF.get i.toNat) s hC.rg (Qf hC.rg hI (by omega) e2 e3)) fun (z : Bx TRr × Int) hz => wN (by simp [hnil]; omega) (Cy (wN (by simp) ?_))
 rcases hz with ⟨_, _, zn, zw, za⟩ | ⟨hno, _⟩
 · exact ⟨fun _ => ⟨zn, zw, by rw [za, e1, hrn]⟩, fun z => absurd ⟨h0, h1⟩ z⟩
 · exact absurd (Oa hC.rg hI (by omega)) hno
theorem Uc (h : FC p B k f) : VU (aF f) where
 tn := by have := h.small; have := h.wf.tn; have : (8 : Nat) ≤ maxLen := by decide
          simp [aF]; omega
 rn := by have := h.small; have := h.wf.rn; have : (8 : Nat) ≤ maxLen := by decide
          simp [aF]; omega
 ts t ht := by
  have hk := h.hk
  have : (1000000000 : Nat) ≤ maxLen := by decide
  simp only [aF, List.mem_map] at ht
  obtain ⟨x, hx, rfl⟩ := ht
  obtain ⟨i, hi, rfl⟩ := Sl.Ct.1 hx
  have := (h.wf.tw i hi).sb
  simp only [aT, Sl.Bb]; omega
 rs r hr := by
  have : (64 : Nat) ≤ maxLen := by decide
  have hrn := h.wf.rn
  simp only [aF, List.mem_map] at hr
  obtain ⟨x, hx, rfl⟩ := hr
  obtain ⟨i, hi, rfl⟩ := Sl.Ct.1 hx
  obtain ⟨hC, _⟩ := h.ring (i := (i : Int)) (Int.natCast_nonneg i) (by omega)
  rw [Int.toNat_natCast] at hC
  have := hC.hn
  have := hC.ln
  simp only [aR, Sl.Bb]; omega
end
theorem Ud (p : TPg) (hp : Ib p) : D_f1r.wp (p, 100) fun y => y = true → p.AF.n ≤ 10 ∧ p.AB.n ≤ 10 ∧ ∀ t, t < p.AB.n → (p.AB.get t).n ≤ 100 := by
 refine of_wp ?_
 simp only [tt_f1r]
 refine AE ilI (fun _ => fun h => by cases h) fun h1 => AE ilI (fun _ => fun h => by cases h) fun h2 => of_wp ?_
 simp only [tt_f1r_3]
 refine DN (tt := tt_f1r_5) (fun x : X_f1r_5 => x.HZ = 100 ∧ x.Sx = p ∧ ∃ k : Nat, x.Kj = k ∧ k ≤ p.AB.n ∧ ∀ t, t < k → (p.AB.get t).n ≤ 100) (fun x => (p.AB.n - x.Kj).toNat) (fun _ y => y = true → p.AF.n ≤ 10 ∧ p.AB.n ≤ 10 ∧ ∀ t, t < p.AB.n → (p.AB.get t).n ≤ 100) (fun D x hI hD => ?_) ⟨rfl, rfl, 0, rfl, Nat.zero_le _, fun t ht => by omega⟩
 obtain ⟨m, p', n, i⟩ := x
 obtain ⟨e0, e1, k, e2, hk, hg⟩ := hI
 simp only at e0 e1 e2 hg hD
 subst e0 e1 e2
 simp only [tt_f1r_5]
 refine AE ilI (fun h => ?_) fun h => fun _ => ⟨by omega, by omega, fun t ht => hg t (by omega)⟩
 have hkm : k < p'.AB.n := by omega
 refine wN (A2 hkm) ?_
 rw [Int.toNat_natCast]
 refine AE ilI (fun _ => fun h => by cases h) fun h3 => wN (A2 hkm) ?_
 rw [Cu hkm hp.tn]
 refine hD _ ⟨rfl, rfl, k + 1, rfl, hkm, fun t ht => ?_⟩ (by simp only; omega)
 by_cases e : t = k
 · subst e; omega
 · exact hg t (by omega)
theorem law_f44 (p : TPg) (hp : Ib p) : D_f44.wp p fun y => y = true ↔ EZ (aP p) := by
 refine of_wp ?_
 simp only [tt_f44]
 exact wC (w_f43 p hp) fun (y : Bool) hy => hy
theorem Vj {p q : TPg} (hp : Ib p) (hc : HJ q p) (hP : EZ (aP p)) {f : TFa} (hF : WG q 0 f) (ha : aF f = CA (aP q)) : FC p 1 0 f ∧ aF f = CA (aP p) := by
 have hqp := hc.same
 rw [hqp] at ha
 have h1 := hF.cp
 have cp : HJ f.p p := ⟨⟨h1.r.n.trans hc.r.n, fun i hi => (h1.r.g i (by rw [hc.r.n]; exact hi)).trans (hc.r.g i hi)⟩, h1.rz, h1.n.trans hc.n, fun t ht => by
  have a := h1.t t (by rw [hc.n]; exact ht)
  have b := (hc.t t ht).1
  exact ⟨⟨a.1.n.trans b.n, fun i hi => (a.1.g i (by rw [b.n]; exact hi)).trans (b.g i hi)⟩, a.2⟩⟩
 refine ⟨⟨hp, by rw [ha]; exact Ql hP, ⟨cp, hF.tn.trans hc.n, hF.tw, hF.rn.trans hc.r.n, fun i hi => ?_⟩, by rw [ha]; exact Tt, by decide, by decide⟩, ha⟩
 have := hF.rw i hi
 have hi' : i < p.AF.n := by have := hF.rn; have := hc.r.n; omega
 rw [hc.r.g i hi'] at this
 exact this
theorem WU {p : TPg} (hp : Ib p) : HJ p p := ⟨Ds.refl _, hp.rz, rfl, fun t ht => ⟨Ds.refl _, hp.lz t ht⟩⟩
section
variable {p : TPg} {B : Int} {k : Nat} {f : TFa}
theorem OC (h : FC p B k f) : D_f1.wp f fun y => aS y = aF f ∧ Tu k y := Kx p k f (by have := h.hk; omega) h.inv.pi h.wf
end
def Kq (x : AZ) : EN := ⟨x.Bj, x.Du, x.Gj, x.Hh⟩
def zE : TEv := ⟨0, 0, 0, 0, 0⟩
def S1 : Option TEv → TEv × Bool
 | some e => (e, true)
 | none => (zE, false)
def An (o : Option TEv) (e : TEv) (b : Bool) : Prop := o = some e ∧ b = true ∨ o = none ∧ b = false
structure SJ (t : Sl Int) : Prop where
 n : t.n ≤ maxLen
 u : ∀ i, i < t.n → B0 (t.get i)
structure P0 (x : AZ) : Prop where
 c : B0 x.Du
 d : B0 x.Gj
theorem SJ.mem {t : Sl Int} (h : SJ t) : ∀ x ∈ t.L, B0 x := fun x hx => by
 obtain ⟨i, hi, rfl⟩ := Sl.Ct.1 hx
 exact h.u i hi
section
variable {p : TPg} {B : Int} {k : Nat} {f : TFa} {tape : Sl Int} {x : AZ}
theorem FC.Vy (h : FC p B k f) {i : Int} (h0 : 0 ≤ i) (h1 : i < p.AF.n) {r : TRr} (hw : QS (p.AF.get i.toNat) r) (he : aR r = CS (aF f) i) : RC (p.AF.get i.toNat) B r := by
 have hB := h.hB
 have hR := h.inv.K7 (i := i) (by simp [aP]; omega)
 rw [IW h0 h1, ← he] at hR
 exact ⟨hR.2, hw, hR.1, by omega⟩
theorem VR (h : FC p B k f) (t : Int) : D_f1o.wp (t, f) fun y => (0 ≤ t ∧ t < p.AB.n → y.2 = 0 ∧ aA y.1 = Ak (aP p) (aF f) t) ∧ (¬(0 ≤ t ∧ t < p.AB.n) → y.2 ≠ 0) := by
 have htn := h.wf.tn
 refine CF ?_
 simp only [tt_f1o]
 refine wC (Gp t f) fun (y : Bool) hy => ?_
 refine AE bnI (fun q => ⟨fun hh => absurd (hy.2 (by omega)) q, fun _ => by simp⟩) fun q => ?_
 have hy := hy.1 (Classical.byContradiction q)
 exact wC (Gq h hy.1 (by omega)) fun (z : TAk) hz => ⟨fun _ => ⟨rfl, hz⟩, fun hh => absurd ⟨hy.1, by omega⟩ hh⟩
theorem TC (a : TAk) (c fire : Bool) : D_f3v.wp (a, (c, fire)) fun y => y = if c = true then (6, true) else if a.Mode = 0 then (5, true) else if a.Mode = 2 ∧ fire = true then (7, true) else (0, false) := by
 refine of_wp ?_
 simp only [tt_f3v]
 refine Aq (fun q => by rw [if_pos q]; rfl) fun q => ?_
 rw [if_neg q]
 refine AE ieI (fun q => by rw [if_pos q]; rfl) fun q => ?_
 rw [if_neg q]
 refine AE ieI (fun q1 => Aq (fun q2 => by rw [if_pos ⟨q1, q2⟩]; rfl) fun q2 => by rw [if_neg fun z => q2 z.2]; rfl) fun q1 => ?_
 rw [if_neg fun z => q1 z.1]; rfl
theorem Rp (h : FC p B k f) {a : TAk} {pk ck dr : Int} {fire : Bool} {tp : List Int} {none : Bool} {r : TRr} {z : TEv} (ha : aA a = Ak (aP p) (aF f) pk) (hk : a.Kind = 1 ∨ a.Kind = 2)
 (hr : aR r = CS (aF f) a.Ring) (hj : 0 ≤ a.Reader ∧ a.Reader < r.AA.AD.n) (hn : none = CG (CS (aF f) a.Ring) (aA a)) :
 D_ft_5.wp ⟨fire, a, none, f, ⟨pk, 0, 0, 0, 0⟩, z, r⟩ fun y => An (BH (aP p) (aF f) tp pk ck dr fire) y.1 y.2.1 := by
 refine of_wp ?_
 rw [IY (by rw [← ha]; exact hk), ← ha]
 simp only [tt_ft_5]
 show TT.wp _ fun (y : RR_ft) => An (if CG (CS (aF f) a.Ring) (aA a) = true then (if (CS (aF f) a.Ring).As = true then some ⟨pk, 6, a.Ring, 0, 0⟩ else if a.Mode = 0 then some ⟨pk, 5, a.Ring, 0, 0⟩ else if a.Mode = 2 ∧ fire = true then some ⟨pk, 7, a.Ring, 0, 0⟩ else Option.none)
  else if a.Kind = 1 then some ⟨pk, 1, a.Ring, (CS (aF f) a.Ring).A0, 0⟩ else some ⟨pk, 3, a.Ring, hd (CS (aF f) a.Ring) a.Reader, 0⟩) y.1 y.2.1
 rw [← hn, ← hr]
 refine Aq (fun q => ?_) fun q => ?_
 · rw [if_pos q]
   refine wC (C5 _) fun (y : Bool) hy => ?_
   subst hy
   refine wC (TC a r.closed fire) fun (w : Int × Bool) hw => ?_
   subst hw
   show An (if r.closed = true then _ else _) _ _
   by_cases q1 : r.closed = true
   · rw [if_pos q1, if_pos q1]; exact .inl ⟨rfl, rfl⟩
   rw [if_neg q1, if_neg q1]
   by_cases q2 : a.Mode = 0
   · rw [if_pos q2, if_pos q2]; exact .inl ⟨rfl, rfl⟩
   rw [if_neg q2, if_neg q2]
   by_cases q3 : a.Mode = 2 ∧ fire = true
   · rw [if_pos q3, if_pos q3]; exact .inl ⟨rfl, rfl⟩
   rw [if_neg q3, if_neg q3]; exact .inr ⟨rfl, rfl⟩
 · rw [if_neg q]
   refine wC (Jz a.Reader r hj.1 hj.2) fun (y : Int) hy => ?_
   subst hy
   refine AE ieI (fun q1 => wC (HP r) fun (y : Int) hy => ?_) fun q1 => ?_
   · subst hy; rw [if_pos q1]; exact .inl ⟨rfl, rfl⟩
   · rw [if_neg q1]
     exact .inl ⟨by rw [Mp hj.1 hj.2], rfl⟩
theorem Ox (h : FC p B k f) {a : TAk} {pk ck dr : Int} {fire : Bool} {tp : List Int} (ha : aA a = Ak (aP p) (aF f) pk) (hk : a.Kind = 1 ∨ a.Kind = 2) (h0 : 0 ≤ pk) (h1 : pk < p.AB.n) :
 D_ft.wp (a, (⟨pk, 0, 0, 0, 0⟩, (fire, f))) fun y => An (BH (aP p) (aF f) tp pk ck dr fire) y.1 y.2 := by
 have htn := h.wf.tn
 have ek : (Ak (aP p) (aF f) pk).Kind = a.Kind := by rw [← ha]; rfl
 have er : (Ak (aP p) (aF f) pk).Ring = a.Ring := by rw [← ha]; rfl
 have ed : (Ak (aP p) (aF f) pk).Reader = a.Reader := by rw [← ha]; rfl
 obtain ⟨r0, r1, r2⟩ := Gh h.inv (t := pk) (by simp [aF]; omega) rfl (by omega)
 have hs := Tp (p := aP p) (m := aF f) (t := pk)
 rw [er] at r0 r1 r2
 rw [ek, ed] at r2 hs
 have r1 : a.Ring < p.AF.n := by simp [aP] at r1; omega
 rw [IW r0 r1] at r2
 refine CF ?_
 simp only [tt_ft]
 refine wC (H6 h a.Ring) fun (y : Bx TRr) hy => ?_
 obtain ⟨yn, yw, ya⟩ := hy.1 ⟨r0, r1⟩
 have hC := h.Vy r0 r1 yw ya
 have hn := hC.hn
 have hj : 0 ≤ a.Reader ∧ a.Reader < y.x.AA.AD.n := by
  rcases hk with q | q
  · have := hs q; omega
  · have := r2 (.inl q); omega
 have L5 := fun none hn => Rp (p := p) (ck := ck) (dr := dr) (tp := tp) (fire := fire) (none := none) (z := ⟨0, 0, 0, 0, 0⟩) h ha hk ya hj hn
 refine wN (by simp [yn]) (wC (Eg a.Reader hj.1 hj.2) fun (em : Bool) he => ?_)
 refine AE ieI (fun q => wC (C5 _) fun (c : Bool) hc => Aq (fun qc => ?_) fun qc => wC (F4 hC) fun (fu : Bool) hf => ?_) fun q => ?_
 · refine L5 true ?_
   unfold CG; rw [if_pos (show (aA a).Kind = 1 from q), ← ya, ← hc, qc]; rfl
 · refine L5 fu ?_
   unfold CG; rw [if_pos (show (aA a).Kind = 1 from q), ← ya, ← hc, show c = false by simpa using qc, hf]; rfl
 · refine L5 em ?_
   unfold CG; rw [if_neg (show ¬ (aA a).Kind = 1 from q), ← ya, he]; rfl
theorem UZ (h : FC p B k f) (hr : 0 ≤ f.reads) (ht : SJ tape) (pk : Int) : D_f1e.wp (tape, (⟨pk, 0, 0, 0, 0⟩, f)) fun y => y = if f.ended = true ∨ (tape.n : Int) ≤ f.reads then ⟨pk, 11, 0, 0, 0⟩ else ⟨pk, 10, 0, 0, tape.L.getD f.reads.toNat 0⟩ := by
 have hm := GZ ht.n
 refine CF ?_
 simp only [tt_f1e]
 refine wC (OC h) fun (y : TSt) hy => ?_
 have e1 : y.BO = f.ended := congrArg MS.BO hy.1
 have e2 : y.Reads = f.reads := congrArg MS.Reads hy.1
 have e3 : IntKind.u64.wrap ((tape.n : Nat) : Int) = tape.n := by
  simp only [IntKind.wrap, IntKind.signed, IntKind.bits, Bool.false_and, Bool.false_eq_true, if_false]; omega
 rw [e1, e2, e3]
 refine Aq (fun q => by rw [if_pos (.inl q)]; rfl) fun q => AE leI (fun q2 => by rw [if_pos (.inr q2)]; rfl) fun q2 => of_wp ?_
 rw [if_neg (fun z => z.elim q q2)]
 simp only [tt_f1e_5, e2]
 refine wN (by rw [ibI]; omega) ?_
 rw [G8 tape hr (by omega)]
 rfl
end
theorem U4 {p : MP} {m : MS} {tp : List Int} {pk ck dr : Int} {fire : Bool} {e : TEv} {b : Bool} (h0 : 0 ≤ pk) (h1 : pk < m.AB.length) (hc : BH p m tp pk ck dr fire = some e) (hb : b = Bf p m e) : An (B3 p m tp pk ck dr fire) e b := by
 unfold B3
 rw [if_neg (by omega), hc]
 simp only
 subst hb
 cases q : Bf p m e
 · exact .inr ⟨by simp, rfl⟩
 · exact .inl ⟨by simp, rfl⟩
theorem Kr {p : MP} {m : MS} {tp : List Int} {pk ck dr : Int} {fire : Bool} {e : TEv} (hc : BH p m tp pk ck dr fire = none) : An (B3 p m tp pk ck dr fire) e false := by
 refine .inr ⟨?_, rfl⟩
 unfold B3
 split
 · rfl
 rw [hc]
theorem RE {o : Option TEv} {e : TEv} {b : Bool} (h : An o e b) : (if b = true then (e, true) else (zE, false)) = S1 o := by
 rcases h with ⟨h1, h2⟩ | ⟨h1, h2⟩ <;> subst h1 h2 <;> rfl
section
variable {p : TPg} {B : Int} {k : Nat} {f : TFa} {tape : Sl Int} {x : AZ}
theorem Oy (h : FC p B k f) (ht : SJ tape) (hx : P0 x) (h0 : 0 ≤ x.Bj) (h1 : x.Bj < p.AB.n) {z e : TEv} (hc : BH (aP p) (aF f) tape.L x.Bj x.Du x.Gj x.Hh = some e) :
 D_fg_26.wp ⟨f, z, e⟩ fun y => An (H0 (aP p) tape.L (aF f) (Kq x)) y.1 y.2.1 := by
 have htn := h.wf.tn
 refine of_wp ?_
 simp only [tt_fg_26]
 have hl : x.Bj < (aF f).AB.length := by simp [aF]; omega
 have hu := Ls h.inv h.hB (h.Q1 h0 h1) hx.d ht.mem h0 hl hc
 exact wC (GQ h ⟨hu.1, hu.2⟩) fun (y : Bool) hy => U4 h0 hl hc hy
theorem Rl (h : FC p B k f) (hr : 0 ≤ f.reads) (ht : SJ tape) (hx : P0 x) (h0 : 0 ≤ x.Bj) (h1 : x.Bj < p.AB.n) {a : TAk} (ha : aA a = Ak (aP p) (aF f) x.Bj) :
 D_fg.wp (tape, (a, (x, f))) fun y => An (H0 (aP p) tape.L (aF f) (Kq x)) y.1 y.2 := by
 have htn := h.wf.tn
 have hl : x.Bj < (aF f).AB.length := by simp [aF]; omega
 have ek : (Ak (aP p) (aF f) x.Bj).Kind = a.Kind := by rw [← ha]; rfl
 have er : (Ak (aP p) (aF f) x.Bj).Ring = a.Ring := by rw [← ha]; rfl
 have htop := Q0 h.inv (t := x.Bj) (by omega)
 rw [ek] at htop
 have L := fun e hc => Oy (x := x) (z := ⟨0, 0, 0, 0, 0⟩) (e := e) h ht hx h0 h1 hc
 have hcl := hx.c
 have hto : ∀ e b, a.Kind = 1 ∨ a.Kind = 2 → An (BH (aP p) (aF f) tape.L x.Bj x.Du x.Gj x.Hh) e b → An (H0 (aP p) tape.L (aF f) (Kq x)) e b := fun e b q hh => by
  show An (B3 (aP p) (aF f) tape.L x.Bj x.Du x.Gj x.Hh) _ _
  rw [OO h.inv h.hB h0 hl (by rw [ek]; exact q)]; exact hh
 refine CF ?_
 simp only [tt_fg]
 refine AE ieI (fun q => ?_) fun n0 => AE ieI (fun q => ?_) fun n1 => AE ieI (fun q => ?_) fun n2 => AE ieI (fun q => ?_) fun n10 => AE ieI (fun q => ?_) fun n11 => AE ieI (fun q => ?_) fun n3 =>
  AE ieI (fun q => ?_) fun n4 => AE ieI (fun q => ?_) fun n5 => AE ieI (fun q => ?_) fun n6 => AE ieI (fun q => ?_) fun n7 => AE ieI (fun q => ?_) fun n8 => AE ieI (fun q => ?_) fun n9 => by omega
 · show An (B3 (aP p) (aF f) tape.L x.Bj x.Du x.Gj x.Hh) _ _
   exact Kr (by unfold BH; simp only; rw [if_pos (by rw [ek]; exact q)])
 · exact wC (Ox (ck := x.Du) (dr := x.Gj) (tp := tape.L) h ha (.inl q) h0 h1) fun (y : TEv × Bool) hy => hto _ _ (.inl q) hy
 · exact wC (Ox (ck := x.Du) (dr := x.Gj) (tp := tape.L) h ha (.inr q) h0 h1) fun (y : TEv × Bool) hy => hto _ _ (.inr q) hy
 · exact L _ (by simp [BH, ← ha, aA, q])
 · exact L _ (by simp [BH, ← ha, aA, q])
 · obtain ⟨r0, r1, _⟩ := Gh h.inv (t := x.Bj) (by omega) rfl (by omega)
   rw [er] at r0 r1
   have r1 : a.Ring < p.AF.n := by simp [aP] at r1; omega
   refine wC (H6 h a.Ring) fun (y : Bx TRr) hy => ?_
   obtain ⟨yn, yw, ya⟩ := hy.1 ⟨r0, r1⟩
   refine wC (Q' := fun z => z = y.x.AA.tail) (of_wp (wN (by simp [yn]) rfl)) fun (z : Int) hz => L _ ?_
   subst hz
   have : (CS (aF f) a.Ring).A0 = y.x.AA.tail := by rw [← ya]; rfl
   simp [BH, ← ha, aA, q, this]
 · refine wC (NB f) fun (y : Int) hy => L _ ?_
   subst hy
   have : Int.tmod x.Du 1048576 = x.Du % 1048576 := Int.tmod_eq_emod_of_nonneg hcl.1
   simp [BH, ← ha, aA, q, this, show (aF f).Ec = f.now from rfl]
 · exact L _ (by simp [BH, ← ha, aA, q])
 · refine wC (UZ h hr ht x.Bj) fun (y : TEv) hy => L _ ?_
   subst hy
   simp only [BH, ← ha, aA, q, show (aF f).BO = f.ended from rfl, show (aF f).Reads = f.reads from rfl, Sl.Bb]
   simp only [Int.reduceEq, or_self, if_false, if_true]
   split <;> rfl
 · exact L _ (by simp [BH, ← ha, aA, q])
 · exact L _ (by simp [BH, ← ha, aA, q])
 · exact L _ (by simp [BH, ← ha, aA, q])
theorem TF (h : FC p B k f) (hr : 0 ≤ f.reads) (ht : SJ tape) (hx : P0 x) : D_f2q.wp (tape, (x, f)) fun y => y = S1 (H0 (aP p) tape.L (aF f) (Kq x)) := by
 have htn := h.wf.tn
 refine CF ?_
 simp only [tt_f2q]
 refine wC (VR h x.Bj) fun (y : TAk × Int) hy => ?_
 by_cases hin : 0 ≤ x.Bj ∧ x.Bj < p.AB.n
 · obtain ⟨y2, ya⟩ := hy.1 hin
   refine AE (p := y.2 ≠ 0) (by rw [bnI, ieI]) (fun q => absurd y2 q) fun _ => wC (Rl h hr ht hx hin.1 hin.2 ya) fun (w : TEv × Bool) hw => ?_
   rw [← RE hw]
   refine AE bnI (fun q => by rw [if_neg q]; rfl) fun q => ?_
   rw [if_pos (Classical.byContradiction q)]
   rfl
 · refine AE (p := y.2 ≠ 0) (by rw [bnI, ieI]) (fun _ => ?_) fun q => absurd (hy.2 hin) q
   have : H0 (aP p) tape.L (aF f) (Kq x) = none := by
    show B3 _ _ _ _ _ _ _ = none
    unfold B3
    rw [if_pos (by simp [aF, Kq]; omega)]
   rw [this]; rfl
def Vw (P : MP) (m : MS) (o : Option TEv) : MS := match o with | some e => Ai P m e | none => m
theorem JH {P : MP} {m : MS} {e : TEv} (h : 0 ≤ m.Reads) : 0 ≤ (Ai P m e).Reads := by
 show 0 ≤ (if e.Kind = 10 then IntKind.u64.wrap (m.Reads + 1) else m.Reads)
 split
 · simp only [IntKind.wrap, IntKind.signed, IntKind.bits, Bool.false_and, Bool.false_eq_true, if_false]; omega
 · exact h
theorem Ua (h : FC p B k f) (hr : 0 ≤ f.reads) (ht : SJ tape) (hx : P0 x) (hB : B + 1 ≤ 2305843009213693952) (hk : k + 1 ≤ 1000000000) :
 D_f3p.wp (tape, (x, f)) fun y => (y.1, y.2.1) = S1 (H0 (aP p) tape.L (aF f) (Kq x)) ∧ aF y.2.2 = Vw (aP p) (aF f) (H0 (aP p) tape.L (aF f) (Kq x)) ∧ FC p (B + 1) (k + 1) y.2.2 ∧ 0 ≤ y.2.2.reads := by
 have htn := h.wf.tn
 refine of_wp ?_
 simp only [tt_f3p]
 refine wC (TF h hr ht hx) fun (y : TEv × Bool) hy => ?_
 cases ho : H0 (aP p) tape.L (aF f) (Kq x) with
 | none =>
   rw [ho] at hy; subst hy
   exact Aq (fun q => by cases q) fun _ => ⟨rfl, rfl, h.grow hB hk, hr⟩
 | some e =>
   rw [ho] at hy; subst hy
   have hal := DZ (p := aP p) (m := aF f) ho
   have hin : x.Bj < p.AB.n := by have := hal.2.2; simp [aF, Kq] at this; omega
   have h0 : 0 ≤ x.Bj := hal.2.1
   have hu := Jh h.inv h.hB (h.Q1 h0 hin) hx.d ht.mem ho
   refine Aq (fun _ => ?_) fun q => absurd rfl q
   refine wC (OM h ⟨hu.1, hu.2⟩ hB hk) fun (w : Int × TFa) hw => ?_
   obtain ⟨_, w2, w3⟩ := hw
   have w2 : aF w.2 = (P5 (aP p) (aF f) e).2 := w2
   rw [IZ hal.1] at w2
   refine ⟨rfl, w2, w3, ?_⟩
   have : w.2.reads = (Ai (aP p) (aF f) e).Reads := congrArg MS.Reads w2
   show 0 ≤ w.2.reads
   rw [this]
   exact JH hr
end
section
variable {p : TPg} {B : Int} {k : Nat} {s : TSt} {tp : List Int} {pk ck dr : Int} {fire : Bool}
theorem Uz (h : SV p B k s) (h0 : 0 ≤ pk) (h1 : pk < p.AB.n) (hdr : B0 dr) (ht : ∀ x ∈ tp, B0 x) {z e : TEv} (hc : BH (aP p) (aS s) tp pk ck dr fire = some e) :
 D_f6_46.wp ⟨p, s, z, e⟩ fun y => An (B3 (aP p) (aS s) tp pk ck dr fire) y.1 y.2 := by
 have htn := h.sc.tn
 refine of_wp ?_
 simp only [tt_f6_46]
 have hl : pk < (aS s).AB.length := by simp [aS]; omega
 have hu := Ls h.sc.inv h.sc.hB (N0 h h0 h1) hdr ht h0 hl hc
 exact wC (w_f34 h.sc ⟨hu.1, hu.2⟩) fun (y : Bool) hy => U4 h0 hl hc hy
theorem V7 (h : SV p B k s) (h0 : 0 ≤ pk) (h1 : pk < p.AB.n) (hdr : B0 dr) (ht : ∀ x ∈ tp, B0 x) {z : TEv} {a : TA6} {r : TR3} {none : Bool} (ha : CX a = Ak (aP p) (aS s) pk) (hk : a.Kind = 1 ∨ a.Kind = 2)
 (hr : DO r = CS (aS s) a.Ring) (hj : a.Kind = 2 → 0 ≤ a.Reader ∧ a.Reader < r.AV.n) (hn : none = CG (CS (aS s) a.Ring) (CX a)) :
 D_f6_12.wp ⟨fire, p, s, none, z, a, ⟨pk, 0, a.Ring, 0, 0⟩, r⟩ fun y => An (B3 (aP p) (aS s) tp pk ck dr fire) y.1 y.2 := by
 have hc := IY (p := aP p) (m := aS s) (tape := tp) (pk := pk) (ck := ck) (dr := dr) (fire := fire) (by rw [← ha]; exact hk)
 rw [← ha] at hc
 have e1 : (CX a).Ring = a.Ring := rfl
 have e2 : (CX a).Kind = a.Kind := rfl
 have e3 : (CX a).Mode = a.Mode := rfl
 have e4 : (CX a).Reader = a.Reader := rfl
 rw [e1, e2, e3, e4, ← hn, ← hr] at hc
 have e5 : (DO r).As = r.As := rfl
 rw [e5] at hc
 have L := fun e hh => Uz (z := z) (e := e) (ck := ck) (fire := fire) h h0 h1 hdr ht hh
 refine of_wp ?_
 simp only [tt_f6_12]
 refine Aq (fun q => Aq (fun qc => L _ ?_) fun qc => of_wp ?_) fun q => of_wp ?_
 · rw [hc, if_pos q, if_pos qc]
 · rw [if_pos q, if_neg qc] at hc
   simp only [tt_f6_14]
   refine Aq (fun _ => AE ieI (fun qm => L _ ?_) fun qm => of_wp ?_) fun q' => absurd q q'
   · rw [hc, if_pos qm]
   · rw [if_neg qm] at hc
     simp only [tt_f6_16]
     refine Aq (fun _ => AE ieI (fun q2 => Aq (fun q3 => L _ ?_) fun q3 => Aq (fun _ => Kr ?_) fun q' => absurd q q') fun q2 => Aq (fun _ => Kr ?_) fun q' => absurd q q') fun q' => absurd q q'
     · rw [hc, if_pos ⟨q2, q3⟩]
     · rw [hc, if_neg fun w => q3 w.2]
     · rw [hc, if_neg fun w => q2 w.1]
 · rw [if_neg q] at hc
   simp only [tt_f6_14]
   refine Aq (fun q' => absurd q' q) fun _ => of_wp ?_
   simp only [tt_f6_16]
   refine Aq (fun q' => absurd q' q) fun _ => Aq (fun q' => absurd q' q) fun _ => of_wp ?_
   simp only [tt_f6_20]
   refine AE ieI (fun q1 => L _ ?_) fun q1 => wN ?_ (L _ ?_)
   · rw [hc, if_pos q1]; rfl
   · rw [ibI]; exact hj (by omega)
   · rw [hc, if_neg q1]
     have := hj (by omega)
     show some _ = some _
     unfold hd
     rw [show (DO r).AV = r.AV.L from rfl, G8 r.AV this.1 this.2]
theorem V6 (h : SV p B k s) (h0 : 0 ≤ pk) (h1 : pk < p.AB.n) (hdr : B0 dr) (ht : ∀ x ∈ tp, B0 x) {v : Int} {en : Bool} (he : en = true ↔ (tp.length : Int) ≤ s.Reads) (hck : B0 ck)
 (h4 : (Ak (aP p) (aS s) pk).Kind = 4 → v = ck) (h5 : (Ak (aP p) (aS s) pk).Kind = 5 → v = dr) (h6 : (Ak (aP p) (aS s) pk).Kind = 6 → ¬ en = true → v = tp.getD s.Reads.toNat 0) :
 D_f6.wp (p, (s, (pk, (v, (en, fire))))) fun y => An (B3 (aP p) (aS s) tp pk ck dr fire) y.1 y.2 := by
 have htn := h.sc.tn
 have hrn := h.sc.rn
 have hl : pk.toNat < (aS s).AB.length := by simp [aS]; omega
 refine of_wp ?_
 simp only [tt_f6]
 refine wC (w_f3z h.sc h0 h1) fun (a : TA6) ha => ?_
 have ek : (Ak (aP p) (aS s) pk).Kind = a.Kind := by rw [← ha]; rfl
 have er : (Ak (aP p) (aS s) pk).Ring = a.Ring := by rw [← ha]; rfl
 have ed : (Ak (aP p) (aS s) pk).Reader = a.Reader := by rw [← ha]; rfl
 have htop := Q0 h.sc.inv (t := pk) hl
 have hz := To (p := aP p) (m := aS s) (t := pk)
 rw [ek] at htop hz h4 h5 h6
 rw [er] at hz
 have hrg : a.Kind = 1 ∨ a.Kind = 2 ∨ a.Kind = 3 → 0 ≤ a.Ring ∧ a.Ring < p.AF.n ∧ (a.Kind = 2 → 0 ≤ a.Reader ∧ a.Reader < (p.AF.get a.Ring.toNat).AR) := fun q => by
  obtain ⟨r0, r1, r2⟩ := Gh h.sc.inv (t := pk) hl rfl (by omega)
  rw [er] at r0 r1 r2
  rw [ek, ed] at r2
  have r1 : a.Ring < p.AF.n := by simp [aP] at r1; omega
  rw [IW r0 r1] at r2
  exact ⟨r0, r1, fun q => r2 (.inl q)⟩
 have L := fun e hh => Uz (z := ⟨0, 0, 0, 0, 0⟩) (e := e) (ck := ck) (fire := fire) h h0 h1 hdr ht hh
 have L8 : a.Kind = 1 ∨ a.Kind = 2 → D_f6_8.wp ⟨fire, p, s, ⟨0, 0, 0, 0, 0⟩, a, ⟨pk, 0, a.Ring, 0, 0⟩⟩ fun y => An (B3 (aP p) (aS s) tp pk ck dr fire) y.1 y.2 := fun q => by
  obtain ⟨r0, r1, r2⟩ := hrg (by omega)
  refine of_wp ?_
  simp only [tt_f6_8]
  refine wC (w_f3g h.sc r0 r1) fun (r : TR3) hr => ?_
  obtain ⟨hR, hr⟩ := hr
  have hhn := hR.hn
  have L12 := fun none hn => V7 (none := none) (z := ⟨0, 0, 0, 0, 0⟩) (ck := ck) (fire := fire) h h0 h1 hdr ht ha q hr (fun q => by have := r2 q; omega) hn
  have e5 : (DO r).As = r.As := rfl
  refine AE ieI (fun q1 => Aq (fun qc => L12 _ ?_) fun qc => wC (w_f3m hR) fun (y : Bool) hy => Aq (fun qf => L12 _ ?_) fun qf => AE ieI (fun q2 => by omega) fun _ => L12 _ ?_) fun q1 => AE ieI (fun q2 => ?_) fun q2 => by omega
  · unfold CG; rw [if_pos (show (CX a).Kind = 1 from q1), ← hr, e5, qc]; rfl
  · unfold CG; rw [if_pos (show (CX a).Kind = 1 from q1), ← hr, e5, ← hy, qf, Bool.or_true]
  · unfold CG; rw [if_pos (show (CX a).Kind = 1 from q1), ← hr, e5, ← hy, show r.As = false by simpa using qc, show y = false by simpa using qf]; rfl
  · have := r2 q2
    refine wC (w_f37 (r := r) a.Reader this.1 (by omega)) fun (y : Bool) hy => L12 _ ?_
    unfold CG; rw [if_neg (show ¬ (CX a).Kind = 1 from q1), ← hr, hy]; rfl
 refine AE ieI (fun q => Kr (by unfold BH; simp only; rw [if_pos (by rw [ek]; exact q)])) fun n0 => AE ieI (fun q => L8 (.inl q)) fun n1 => AE ieI (fun q => L8 (.inr q)) fun n2 => AE ieI (fun q => ?_) fun n3 =>
  AE ieI (fun q => ?_) fun n4 => AE ieI (fun q => ?_) fun n5 => AE ieI (fun q => ?_) fun n6 => AE ieI (fun q => ?_) fun n7 => AE ieI (fun q => ?_) fun n8 => AE ieI (fun q => ?_) fun n9 =>
  AE ieI (fun q => ?_) fun n10 => AE ieI (fun q => ?_) fun n11 => by omega
 · obtain ⟨r0, r1, _⟩ := hrg (by omega)
   refine wN (by rw [ibI]; omega) (L _ ?_)
   have : (CS (aS s) a.Ring).A0 = (s.AF.get a.Ring.toNat).A0 := by
    unfold CS aS
    simp only [List.getD, List.getElem?_map]
    rw [Sl.D2 _ (by omega)]; rfl
   simp [BH, ← ha, CX, q, this]
 · have e : v = ck := h4 q
   have : Int.tmod ck 1048576 = ck % 1048576 := Int.tmod_eq_emod_of_nonneg hck.1
   exact L _ (by simp [BH, ← ha, CX, q, e, this, show (aS s).Ec = s.Ec from rfl])
 · have e : v = dr := h5 q
   exact L _ (by simp [BH, ← ha, CX, q, e, hz (by omega)])
 · refine Aq (fun qe => L _ ?_) fun qe => Aq (fun qd => L _ ?_) fun qd => L _ ?_
   · have := he.1 qe
     simp [BH, ← ha, CX, q, show (aS s).Reads = s.Reads from rfl, this]
   · simp [BH, ← ha, CX, q, show (aS s).BO = s.BO from rfl, qd]
   · have e := h6 q qe
     have : ¬ (tp.length : Int) ≤ s.Reads := fun w => qe (he.2 w)
     simp only [BH, ← ha, CX, q, show (aS s).BO = s.BO from rfl, show (aS s).Reads = s.Reads from rfl, e, hz (by omega)]
     simp only [Int.reduceEq, or_self, if_false, if_true]
     rw [if_neg (fun w => w.elim qd this)]
 · exact L _ (by simp [BH, ← ha, CX, q, hz (by omega)])
 · exact L _ (by simp [BH, ← ha, CX, q, hz (by omega), IntKind.wrap, IntKind.signed, IntKind.bits])
 · exact L _ (by simp [BH, ← ha, CX, q, hz (by omega), IntKind.wrap, IntKind.signed, IntKind.bits])
 · exact L _ (by simp [BH, ← ha, CX, q, IntKind.wrap, IntKind.signed, IntKind.bits])
 · exact L _ (by simp [BH, ← ha, CX, q, IntKind.wrap, IntKind.signed, IntKind.bits])
theorem TH {tape : Sl Int} {x : AZ} (h : SV p B k s) (hr : 0 ≤ s.Reads) (ht : SJ tape) (hx : P0 x) : D_f19.wp (p, (s, (tape, x))) fun y => y = S1 (H0 (aP p) tape.L (aS s) (Kq x)) := by
 have htn := h.sc.tn
 have hm := GZ ht.n
 have e3 : IntKind.u64.wrap ((tape.n : Nat) : Int) = tape.n := by
  simp only [IntKind.wrap, IntKind.signed, IntKind.bits, Bool.false_and, Bool.false_eq_true, if_false]; omega
 have hno : x.Bj < 0 ∨ (p.AB.n : Int) ≤ x.Bj → H0 (aP p) tape.L (aS s) (Kq x) = none := fun q => by
  show B3 _ _ _ _ _ _ _ = none
  unfold B3
  rw [if_pos (by simp [aS, Kq]; omega)]
 refine of_wp ?_
 simp only [tt_f19]
 refine AE ilI (fun q => by rw [hno (.inl q)]; rfl) fun q0 => AE leI (fun q => by rw [hno (.inr (by omega))]; rfl) fun q1 => of_wp ?_
 simp only [tt_f19_3, e3]
 have h0 : 0 ≤ x.Bj := by omega
 have h1 : x.Bj < p.AB.n := by omega
 refine wC (w_f3z h.sc h0 h1) fun (a : TA6) ha => ?_
 have ek : (Ak (aP p) (aS s) x.Bj).Kind = a.Kind := by rw [← ha]; rfl
 have L10 : ∀ v : Int, (a.Kind = 4 → v = x.Du) → (a.Kind = 5 → v = x.Gj) → (a.Kind = 6 → ¬ Bw (tape.n : Int) s.Reads = true → v = tape.L.getD s.Reads.toNat 0) → D_f19_10.wp ⟨p, s, x, v, Bw (tape.n : Int) s.Reads, ⟨0, 0, 0, 0, 0⟩⟩ fun y => y = S1 (H0 (aP p) tape.L (aS s) (Kq x)) := fun v h4 h5 h6 => by
  refine of_wp ?_
  simp only [tt_f19_10]
  refine wC (V6 (tp := tape.L) (ck := x.Du) (dr := x.Gj) (fire := x.Hh) h h0 h1 hx.d ht.mem (by rw [leI, Sl.Bb]) hx.c (by rw [ek]; exact h4) (by rw [ek]; exact h5) (by rw [ek]; exact h6)) fun (y : TEv × Bool) hy => ?_
  rw [show H0 (aP p) tape.L (aS s) (Kq x) = B3 (aP p) (aS s) tape.L x.Bj x.Du x.Gj x.Hh from rfl, ← RE hy]
  refine AE bnI (fun q => by rw [if_neg q]; rfl) fun q => ?_
  rw [if_pos (Classical.byContradiction q)]; rfl
 refine AE ieI (fun q => L10 _ (fun w => by omega) (fun _ => rfl) fun w => by omega) fun n5 => AE ieI (fun q => AE bnI (fun qe => wN ?_ (L10 _ (fun w => by omega) (fun w => by omega) fun _ _ => ?_)) fun qe => L10 _ (fun _ => rfl) (fun w => by omega) fun _ w => absurd w qe) fun n6 => L10 _ (fun _ => rfl) (fun w => absurd w n5) fun w => absurd w n6
 · rw [leI] at qe; rw [ibI]; omega
 · rw [leI] at qe
   exact (G8 tape hr (by omega) 0).symm
end
theorem Ta (s : Sl TEv) (e : TEv) (b : Bool) : (Sl.mk b (s.n + 1) (fun i => TEv.mk (cond (Nat.blt i s.n) (s.get i).Thread e.Thread) (cond (Nat.blt i s.n) (s.get i).Kind e.Kind) (cond (Nat.blt i s.n) (s.get i).Ring e.Ring) (cond (Nat.blt i s.n) (s.get i).AG e.AG) (cond (Nat.blt i s.n) (s.get i).Value e.Value))).L = s.L ++ [e] := by
 rw [← Pp]
 refine RK rfl fun i => ?_
 simp only [snoc]
 cases Nat.blt i s.n <;> rfl
theorem OZ {P : MP} {tp : List Int} {l : List EN} {k : Nat} {x : EN} (h : l[k]? = some x) (r : WR) : Be P tp (l.take (k + 1)) r = CV P tp (Be P tp (l.take k) r) x := by
 unfold Be
 rw [List.take_add_one, h, List.foldl_append]
 rfl
theorem T4 {P : MP} {tp : List Int} {r : WR} (x : EN) (h : 0 ≤ r.Idle ∧ 0 ≤ r.Bd) : 0 ≤ (CV P tp r x).Idle ∧ 0 ≤ (CV P tp r x).Bd := by
 unfold CV
 split
 · exact h
 · split <;> simp only <;> omega
theorem Pu {P : MP} {tp : List Int} (l : List EN) : ∀ r : WR, 0 ≤ r.Idle ∧ 0 ≤ r.Bd → 0 ≤ (Be P tp l r).Idle ∧ 0 ≤ (Be P tp l r).Bd := by
 induction l with
 | nil => intro r h; exact h
 | cons x l ih => intro r h; exact ih _ (T4 x h)
structure UP (l : Sl AZ) : Prop where
 n : l.n ≤ maxLen
 e : ∀ i, i < l.n → P0 (l.get i)
def Gl (l : Sl AZ) : List EN := l.L.map Kq
theorem QY {l : Sl AZ} {k : Nat} (h : k < l.n) : (Gl l)[k]? = some (Kq (l.get k)) := by
 unfold Gl
 rw [List.getElem?_map, Sl.D2 _ h]; rfl
@[simp] theorem Im (l : Sl AZ) : (Gl l).length = l.n := by simp [Gl]
section
variable {f : TFa}
theorem Ub (t : Int) (f : TFa) : D_f1j.wp (t, f) fun y => y = !HF (aF f) t := by
 refine CF ?_
 simp only [tt_f1j, Nat.zero_add]
 refine wC (Gp t f) fun (y : Bool) hy => ?_
 refine Aq (fun q => ?_) fun q => ?_
 · obtain ⟨h0, h1⟩ := hy.1 q
   refine wN (by rw [ibI]; exact ⟨h0, h1⟩) (wN (by simp) (wN (by simp) ?_))
   show AW (f.threads.get t.toNat).Status 0 = !HF (aF f) t
   unfold HF
   rw [ID h0 h1, show ((aF f).AB.length : Int) = f.threads.n by simp [aF]]
   refine Bk ?_
   simp only [ieI, Bool.not_eq_true', decide_eq_false_iff_not]
   show (f.threads.get t.toNat).Status = 0 ↔ ¬(t < 0 ∨ (f.threads.n : Int) ≤ t ∨ (f.threads.get t.toNat).Status ≠ 0)
   omega
 · show false = !HF (aF f) t
   have : HF (aF f) t = true := by
    unfold HF
    rw [show ((aF f).AB.length : Int) = f.threads.n by simp [aF]]
    refine decide_eq_true ?_
    have : ¬ (0 ≤ t ∧ t < f.threads.n) := fun z => q (hy.2 z)
    omega
   rw [this]; rfl
end
structure SH (p : TPg) (tp : List Int) (l : List EN) (y : Ap) : Prop where
 ev : y.Ay.L = (Be (aP p) tp l (Gk (CA (aP p)))).Ev
 st : aS y.State = (Be (aP p) tp l (Gk (CA (aP p)))).St
 id : y.Idle = (Be (aP p) tp l (Gk (CA (aP p)))).Idle
 wt : y.Bd = (Be (aP p) tp l (Gk (CA (aP p)))).Bd
 fc : ∃ f, FC p (1 + l.length) l.length f ∧ aF f = (Be (aP p) tp l (Gk (CA (aP p)))).St ∧ 0 ≤ f.reads
 ok : Tu l.length y.State
 ee : ∀ i, i < y.Ay.n → Qg (y.Ay.get i)
theorem VQ {p q : TPg} (hp : Ib p) (hq : HJ q p) {tape : Sl Int} {script : Sl AZ} (ht : SJ tape) (hs : UP script) :
 D_fd.wp (q, (tape, script)) fun y => (EZ (aP p) ∧ script.n ≤ 65536 ∧ tape.n ≤ 65536 → y.2 = 0 ∧ SH p tape.L (Gl script) y.1) ∧ (¬ EZ (aP p) → y.2 = 1 ∧ y.1 = ⟨⟨true, 0, fun _ => ⟨0, 0, 0, 0, 0⟩⟩, ⟨⟨true, 0, fun _ => ⟨0, 0, 0, 0, 0, fun _ => 0, ⟨true, 0, fun _ => 0⟩⟩⟩, ⟨true, 0, fun _ => ⟨0, ⟨true, 0, fun _ => 0⟩, false, ⟨true, 0, fun _ => ⟨0, 0, 0⟩⟩⟩⟩, 0, 0, false⟩, 0, 0⟩) ∧
  (EZ (aP p) ∧ 65536 < script.n → y.2 = 4 ∧ y.1 = ⟨⟨true, 0, fun _ => ⟨0, 0, 0, 0, 0⟩⟩, ⟨⟨true, 0, fun _ => ⟨0, 0, 0, 0, 0, fun _ => 0, ⟨true, 0, fun _ => 0⟩⟩⟩, ⟨true, 0, fun _ => ⟨0, ⟨true, 0, fun _ => 0⟩, false, ⟨true, 0, fun _ => ⟨0, 0, 0⟩⟩⟩⟩, 0, 0, false⟩, 0, 0⟩) := by
 refine of_wp ?_
 simp only [tt_fd]
 refine wC (w_f1g q (hq.Ib hp) 0) fun (y : Bx TFa × Int) hy => ?_
 have hqs : aP q = aP p := hq.same
 rcases hy with ⟨hP, y2, yn, yF, ya⟩ | ⟨hno, y2, yn⟩
 rotate_left
 · rw [hqs] at hno
   refine AE (p := y.2 ≠ 0) (by rw [bnI, ieI]) (fun _ => ⟨fun z => absurd z.1 hno, fun _ => ⟨rfl, rfl⟩, fun z => absurd z.1 hno⟩) fun z => absurd (by omega) z
 rw [hqs] at hP
 refine AE (p := y.2 ≠ 0) (by rw [bnI, ieI]) (fun z => absurd y2 z) fun _ => AE ilI (fun z => ⟨fun w => by omega, fun w => absurd hP w, fun _ => ⟨rfl, rfl⟩⟩) fun h1 => AE ilI (fun z => ⟨fun w => by omega, fun w => absurd hP w, fun w => by omega⟩) fun h2 => of_wp ?_
 simp only [tt_fd_6]
 obtain ⟨hFC, ya⟩ := Vj hp hq hP yF ya
 have hsn : script.n ≤ 65536 := by omega
 refine wN (by simp [yn]) ?_
 refine DN (tt := tt_fd_8) (fun x : X_fd_8 => x.Bl = tape ∧ x.LD = script ∧ x.NT = script.n ∧ ∃ k : Nat, x.Jb = k ∧ k ≤ script.n ∧ FC p (1 + k) k x.SL ∧ 0 ≤ x.SL.reads ∧ aF x.SL = (Be (aP p) tape.L ((Gl script).take k) (Gk (CA (aP p)))).St ∧
  x.B4.Ay.L = (Be (aP p) tape.L ((Gl script).take k) (Gk (CA (aP p)))).Ev ∧ x.B4.Idle = (Be (aP p) tape.L ((Gl script).take k) (Gk (CA (aP p)))).Idle ∧ x.B4.Bd = (Be (aP p) tape.L ((Gl script).take k) (Gk (CA (aP p)))).Bd ∧ ∀ i, i < x.B4.Ay.n → Qg (x.B4.Ay.get i))
  (fun x => (script.n - x.Jb).toNat) (fun _ y => (EZ (aP p) ∧ script.n ≤ 65536 ∧ tape.n ≤ 65536 → y.2 = 0 ∧ SH p tape.L (Gl script) y.1) ∧ (¬ EZ (aP p) → y.2 = 1 ∧ y.1 = ⟨⟨true, 0, fun _ => ⟨0, 0, 0, 0, 0⟩⟩, ⟨⟨true, 0, fun _ => ⟨0, 0, 0, 0, 0, fun _ => 0, ⟨true, 0, fun _ => 0⟩⟩⟩, ⟨true, 0, fun _ => ⟨0, ⟨true, 0, fun _ => 0⟩, false, ⟨true, 0, fun _ => ⟨0, 0, 0⟩⟩⟩⟩, 0, 0, false⟩, 0, 0⟩) ∧
    (EZ (aP p) ∧ 65536 < script.n → y.2 = 4 ∧ y.1 = ⟨⟨true, 0, fun _ => ⟨0, 0, 0, 0, 0⟩⟩, ⟨⟨true, 0, fun _ => ⟨0, 0, 0, 0, 0, fun _ => 0, ⟨true, 0, fun _ => 0⟩⟩⟩, ⟨true, 0, fun _ => ⟨0, ⟨true, 0, fun _ => 0⟩, false, ⟨true, 0, fun _ => ⟨0, 0, 0⟩⟩⟩⟩, 0, 0, false⟩, 0, 0⟩)) (fun D x hI hD => ?_)
  ⟨rfl, rfl, rfl, 0, rfl, Nat.zero_le _, hFC, by have : y.1.x.reads = (CA (aP p)).Reads := congrArg MS.Reads ya; rw [this]; exact Int.le_refl _, ya, rfl, rfl, rfl, fun i hi => absurd hi (Nat.not_lt_zero i)⟩
 obtain ⟨t', s', q35, q36, m6, m10, f⟩ := x
 obtain ⟨e0, e1, e2, k, e3, hk, hF, hr, hst, hev, hid, hwt, hee⟩ := hI
 simp only at e0 e1 e2 e3 hF hr hst hev hid hwt hee hD
 subst e0 e1 e2 e3
 simp only [tt_fd_8]
 have hcnt := JY (p := aP p) (tape := t'.L) ((Gl s').take k) (Gk (CA (aP p)))
 have hnn := Pu (P := aP p) (tp := t'.L) ((Gl s').take k) (Gk (CA (aP p))) ⟨Int.le_refl _, Int.le_refl _⟩
 rw [← hev, ← hid, ← hwt] at hcnt
 rw [← hid, ← hwt] at hnn
 have hcnt : (m10.Ay.n : Int) + m10.Idle + m10.Bd = k := by
  simp only [Sl.Bb, Gk, List.length_nil, List.length_take, Im] at hcnt
  omega
 refine AE ilI (fun h => ?_) fun h => of_wp ?_
 · have hkm : k < s'.n := by omega
   refine wN (A2 hkm) ?_
   rw [Int.toNat_natCast]
   have hx := hs.e k hkm
   have hsn := OZ (P := aP p) (tp := t'.L) (QY hkm) (Gk (CA (aP p)))
   refine wC (Ua hF hr ht hx (by omega) (by omega)) fun (w : TEv × Bool × TFa) hw => ?_
   obtain ⟨w1, w2, w3, w4⟩ := hw
   rw [show (1 : Int) + k + 1 = 1 + ((k + 1 : Nat) : Int) by omega] at w3
   have hd : ∀ m10' : Ap, (m10'.Ay.L = (Be (aP p) t'.L ((Gl s').take (k + 1)) (Gk (CA (aP p)))).Ev ∧ aF w.2.2 = (Be (aP p) t'.L ((Gl s').take (k + 1)) (Gk (CA (aP p)))).St ∧ m10'.Idle = (Be (aP p) t'.L ((Gl s').take (k + 1)) (Gk (CA (aP p)))).Idle ∧ m10'.Bd = (Be (aP p) t'.L ((Gl s').take (k + 1)) (Gk (CA (aP p)))).Bd) → (∀ i, i < m10'.Ay.n → Qg (m10'.Ay.get i)) →
    (D_fd_16 D).wp ⟨t', s', (s'.n : Int), (k : Int), m6, m10', w.2.2⟩ _ := fun m10' hh h5 => of_wp (by
    simp only [tt_fd_16, Cu hkm hs.n]
    exact hD _ ⟨rfl, rfl, rfl, k + 1, rfl, hkm, w3, w4, hh.2.1, hh.1, hh.2.2.1, hh.2.2.2, h5⟩ (by simp only; omega))
   unfold CV at hsn
   rw [← hst] at hsn
   cases ho : H0 (aP p) t'.L (aF f) (Kq (s'.get k)) with
   | some e =>
     rw [ho] at w1 w2 hsn
     have w11 : w.1 = e := congrArg Prod.fst w1
     have w12 : w.2.1 = true := congrArg Prod.snd w1
     simp only at hsn
     refine Aq (fun _ => wN (by simp [room]; omega) ?_) fun z => absurd w12 z
     have hin : (s'.get k).Bj < p.AB.n := by have := (DZ (p := aP p) (m := aF f) ho).2.2; have := hF.wf.tn; simp [aF, Kq] at *; omega
     have hu := Jh hF.inv hF.hB (hF.Q1 (DZ (p := aP p) (m := aF f) ho).2.1 hin) hx.d ht.mem ho
     refine hd _ ⟨?_, ?_, ?_, ?_⟩ ?_
     · rw [hsn]; simp only
       rw [Ta, hev, w11]
     · rw [hsn, w2]; rfl
     · rw [hsn]; exact hid
     · rw [hsn]; exact hwt
     · intro i hi
       simp only at hi ⊢
       by_cases c : i < m10.Ay.n
       · rw [PE c]; exact hee i c
       · have : i = m10.Ay.n := by omega
         rw [this, PF, w11]; exact ⟨hu.1, hu.2⟩
   | none =>
     rw [ho] at w1 w2 hsn
     have w12 : w.2.1 = false := congrArg Prod.snd w1
     have w2 : aF w.2.2 = aF f := w2
     simp only at hsn
     refine Aq (fun z => by rw [w12] at z; cases z) fun _ => wC (Ub _ _) fun (r : Bool) hr' => ?_
     rw [show aF (TFa.mk w.2.2.p w.2.2.threads w.2.2.rings w.2.2.now w.2.2.reads w.2.2.ended) = aF f from w2] at hr'
     have hsel : (Kq (s'.get k)).Bj = (s'.get k).Bj := rfl
     rw [hsel] at hsn
     refine Aq (fun z => ?_) fun z => ?_
     · have hi : HF (aF f) (s'.get k).Bj = false := by rw [hr'] at z; simpa using z
       rw [if_neg (by rw [hi]; simp)] at hsn
       refine hd _ ⟨by rw [hsn]; exact hev, by rw [hsn, w2, hst], by rw [hsn]; exact hid, ?_⟩ hee
       rw [hsn]; simp only
       rw [wrap64 (by omega) (by omega), hwt]
     · have hi : HF (aF f) (s'.get k).Bj = true := by rw [hr'] at z; simpa using z
       rw [if_pos hi] at hsn
       refine hd _ ⟨by rw [hsn]; exact hev, by rw [hsn, w2, hst], ?_, by rw [hsn]; exact hwt⟩ hee
       rw [hsn]; simp only
       rw [wrap64 (by omega) (by omega), hid]
 · have e : k = s'.n := by omega
   subst e
   simp only [tt_fd_17]
   have et : (Gl s').take s'.n = Gl s' := List.take_of_length_le (by simp)
   rw [et] at hst hev hid hwt
   refine wC (OC hF) fun (w : TSt) hw => ⟨fun _ => ⟨rfl, ?_⟩, fun z => absurd hP z, fun z => by omega⟩
   exact ⟨hev, hw.1.trans hst, hid, hwt, ⟨f, by rw [Im]; exact hF, hst, hr⟩, by rw [Im]; exact hw.2, hee⟩
theorem VS {p : TPg} (hp : Ib p) (hP : EZ (aP p)) {tape : Sl Int} {script : Sl AZ} (ht : SJ tape) (hs : UP script) (hsn : script.n ≤ 65536) :
 D_fz.wp (p, (tape, script)) fun y => y.Ay.L = (Be (aP p) tape.L (Gl script) (Gk (CA (aP p)))).Ev ∧ aS y.State = (Be (aP p) tape.L (Gl script) (Gk (CA (aP p)))).St ∧ y.Idle = (Be (aP p) tape.L (Gl script) (Gk (CA (aP p)))).Idle ∧ y.Bd = (Be (aP p) tape.L (Gl script) (Gk (CA (aP p)))).Bd := by
 refine of_wp ?_
 simp only [tt_fz]
 refine wC (w_f2m p hp hP) fun (s : TSt) hS => ?_
 refine DN (tt := tt_fz_3) (fun x : X_fz_3 => x.Bl = tape ∧ x.A9 = script ∧ x.Fy = p ∧ ∃ k : Nat, x.Lc = k ∧ k ≤ script.n ∧ SV p (1 + k) k x.Dv.State ∧ 0 ≤ x.Dv.State.Reads ∧ aS x.Dv.State = (Be (aP p) tape.L ((Gl script).take k) (Gk (CA (aP p)))).St ∧
  x.Dv.Ay.L = (Be (aP p) tape.L ((Gl script).take k) (Gk (CA (aP p)))).Ev ∧ x.Dv.Idle = (Be (aP p) tape.L ((Gl script).take k) (Gk (CA (aP p)))).Idle ∧ x.Dv.Bd = (Be (aP p) tape.L ((Gl script).take k) (Gk (CA (aP p)))).Bd)
  (fun x => (script.n - x.Lc).toNat) (fun _ y => y.Ay.L = (Be (aP p) tape.L (Gl script) (Gk (CA (aP p)))).Ev ∧ aS y.State = (Be (aP p) tape.L (Gl script) (Gk (CA (aP p)))).St ∧ y.Idle = (Be (aP p) tape.L (Gl script) (Gk (CA (aP p)))).Idle ∧ y.Bd = (Be (aP p) tape.L (Gl script) (Gk (CA (aP p)))).Bd) (fun D x hI hD => ?_)
  ⟨rfl, rfl, rfl, 0, rfl, Nat.zero_le _, hS.2, by have : s.Reads = (CA (aP p)).Reads := congrArg MS.Reads hS.1; rw [this]; exact Int.le_refl _, hS.1, rfl, rfl, rfl⟩
 obtain ⟨t', s', p', i8, m6, m7⟩ := x
 obtain ⟨e0, e1, e2, k, e3, hk, hV, hr, hst, hev, hid, hwt⟩ := hI
 simp only at e0 e1 e2 e3 hV hr hst hev hid hwt hD
 subst e0 e1 e2 e3
 simp only [tt_fz_3]
 have hcnt := JY (p := aP p') (tape := t'.L) ((Gl s').take k) (Gk (CA (aP p')))
 have hnn := Pu (P := aP p') (tp := t'.L) ((Gl s').take k) (Gk (CA (aP p'))) ⟨Int.le_refl _, Int.le_refl _⟩
 rw [← hev, ← hid, ← hwt] at hcnt
 rw [← hid, ← hwt] at hnn
 have hcnt : (m7.Ay.n : Int) + m7.Idle + m7.Bd = k := by
  simp only [Sl.Bb, Gk, List.length_nil, List.length_take, Im] at hcnt
  omega
 have htn := hV.sc.tn
 refine AE ilI (fun h => ?_) fun h => ?_
 · have hkm : k < s'.n := by omega
   refine wN (A2 hkm) ?_
   rw [Int.toNat_natCast]
   have hx := hs.e k hkm
   have hsnc := OZ (P := aP p') (tp := t'.L) (QY hkm) (Gk (CA (aP p')))
   refine wC (TH hV hr ht hx) fun (w : TEv × Bool) hw => wN (A2 hkm) ?_
   have hd : ∀ (m7' : Ag), (m7'.Ay.L = (Be (aP p') t'.L ((Gl s').take (k + 1)) (Gk (CA (aP p')))).Ev ∧ aS m7'.State = (Be (aP p') t'.L ((Gl s').take (k + 1)) (Gk (CA (aP p')))).St ∧ m7'.Idle = (Be (aP p') t'.L ((Gl s').take (k + 1)) (Gk (CA (aP p')))).Idle ∧ m7'.Bd = (Be (aP p') t'.L ((Gl s').take (k + 1)) (Gk (CA (aP p')))).Bd) →
    SV p' (1 + ((k + 1 : Nat) : Int)) (k + 1) m7'.State → 0 ≤ m7'.State.Reads → (D_fz_4 D).wp ⟨t', s', p', (k : Int), m6, m7'⟩ _ := fun m7' hh h5 h6 => of_wp (by
    simp only [tt_fz_4, Cu hkm hs.n]
    exact hD _ ⟨rfl, rfl, rfl, k + 1, rfl, hkm, h5, h6, hh.2.1, hh.1, hh.2.2.1, hh.2.2.2⟩ (by simp only; omega))
   have hgrow : SV p' (1 + ((k + 1 : Nat) : Int)) (k + 1) m7.State := by
    rw [show (1 : Int) + ((k + 1 : Nat) : Int) = 1 + k + 1 by omega]; exact hV.grow (by omega) (by omega)
   unfold CV at hsnc
   rw [← hst] at hsnc
   cases ho : H0 (aP p') t'.L (aS m7.State) (Kq (s'.get k)) with
   | some e =>
     rw [ho] at hw hsnc
     subst hw
     simp only at hsnc
     have hal := DZ (p := aP p') (m := aS m7.State) ho
     have hin : (s'.get k).Bj < p'.AB.n := by have := hal.2.2; simp [aS, Kq] at this; omega
     have hu := Jh hV.sc.inv hV.sc.hB (N0 hV hal.2.1 hin) hx.d ht.mem ho
     refine Aq (fun _ => ?_) fun z => absurd rfl z
     refine wC (w_f4g hV (e := e) ⟨hu.1, hu.2⟩ (by omega) (by omega)) fun (v : Int × TSt) hv => wN (by simp [room]; omega) ?_
     obtain ⟨_, v2, v3⟩ := hv
     rw [IZ hal.1] at v2
     rw [show (1 : Int) + k + 1 = 1 + ((k + 1 : Nat) : Int) by omega] at v3
     refine hd _ ⟨?_, ?_, ?_, ?_⟩ v3 ?_
     · rw [hsnc]; simp only
       exact (Ta _ e _).trans (by rw [hev])
     · rw [hsnc]; exact v2
     · rw [hsnc]; exact hid
     · rw [hsnc]; exact hwt
     · have : v.2.Reads = (Ai (aP p') (aS m7.State) e).Reads := congrArg MS.Reads v2
       show 0 ≤ v.2.Reads
       rw [this]; exact JH hr
   | none =>
     rw [ho] at hw hsnc
     subst hw
     simp only at hsnc
     have hsel : (Kq (s'.get k)).Bj = (s'.get k).Bj := rfl
     rw [hsel] at hsnc
     have hnum : ((aS m7.State).AB.length : Int) = m7.State.AB.n := by simp [aS]
     have hI : HF (aS m7.State) (s'.get k).Bj = true → (D_fz_4 D).wp ⟨t', s', p', (k : Int), m6, ⟨m7.Ay, m7.State, IntKind.i64.wrap (m7.Idle + 1), m7.Bd⟩⟩ _ := fun hi => by
      rw [if_pos hi] at hsnc
      refine hd _ ⟨by rw [hsnc]; exact hev, by rw [hsnc], ?_, by rw [hsnc]; exact hwt⟩ hgrow hr
      rw [hsnc]; simp only
      rw [wrap64 (by omega) (by omega), hid]
     refine Aq (fun z => by cases z) fun _ => AE ilI (fun z => hI (decide_eq_true (.inl z))) fun z1 => AE leI (fun z => hI (decide_eq_true (.inr (.inl (by rw [hnum]; exact z))))) fun z2 => wN (by rw [ibI]; omega) ?_
     have hth : (K0 (aS m7.State) (s'.get k).Bj).Status = (m7.State.AB.get (s'.get k).Bj.toNat).Status := by
      unfold K0 aS
      simp only [List.getD, List.getElem?_map]
      rw [Sl.D2 _ (by omega)]; rfl
     refine AE (p := (m7.State.AB.get (s'.get k).Bj.toNat).Status ≠ 0) (by rw [bnI, ieI]) (fun z => hI (decide_eq_true (.inr (.inr (by rw [hth]; exact z))))) fun z => ?_
     have hi : HF (aS m7.State) (s'.get k).Bj = false := by
      unfold HF
      rw [hnum, hth]
      exact decide_eq_false (by omega)
     rw [if_neg (by rw [hi]; simp)] at hsnc
     refine hd _ ⟨by rw [hsnc]; exact hev, by rw [hsnc], by rw [hsnc]; exact hid, ?_⟩ hgrow hr
     rw [hsnc]; simp only
     rw [wrap64 (by omega) (by omega), hwt]
 · have e : k = s'.n := by omega
   subst e
   have et : (Gl s').take s'.n = Gl s' := List.take_of_length_le (by simp)
   rw [et] at hst hev hid hwt
   exact ⟨hev, hst, hid, hwt⟩
theorem TE (a b : Sl TEv) (h : a.L = b.L) (hn : a.n ≤ maxLen) : D_f24.wp (a, b) fun y => y = true := by
 obtain ⟨h1, h2⟩ := Sl.Q6 h
 refine of_wp ?_
 simp only [tt_f24]
 refine AE (p := (a.n : Int) ≠ b.n) (by rw [bnI, ieI]) (fun z => by omega) fun _ => ?_
 refine C4 (tt := tt_f24_4) (fun k => (⟨a, b, (k : Int)⟩ : X_f24_4)) a.n (fun _ => True) (fun y => y = true) (fun D _ => ?_) (fun D k hk _ hD => ?_) (Nat.zero_le _) trivial
 · simp only [tt_f24_4]
   exact AE ilI (fun z => by omega) fun _ => rfl
 · simp only [tt_f24_4]
   refine AE ilI (fun _ => wN (A2 hk) (wN (A2 (by omega)) ?_)) fun z => by omega
   rw [Int.toNat_natCast, h2 k hk, Cu hk hn]
   refine Aq (fun z => ?_) fun _ => hD trivial
   simp [AW] at z
theorem ND : D_f3i.ev 1000 PUnit.unit = some true := by kernel_rfl
theorem TD : D_f3i.wp PUnit.unit fun y => y = true := ⟨true, D_f3i.H3 1000 _ _ ND, rfl⟩
theorem Wk (p : TPg) (hp : Ib p) : D_f4k.wp p fun y => y = true → EZ (aP p) := by
 refine of_wp ?_
 simp only [tt_f4k]
 refine wC (Ud p hp) fun (y : Bool) _ => Aq (fun _ => wC (law_f44 p hp) fun (z : Bool) hz => hz.1) fun _ => fun h => by cases h
theorem SH.len {p : TPg} {tp : List Int} {l : List EN} {y : Ap} (h : SH p tp l y) : VU (aS y.State) := by
 obtain ⟨f, hF, he, _⟩ := h.fc
 rw [h.st, ← he]
 exact Uc hF
theorem SH.cnt {p : TPg} {tp : List Int} {l : List EN} {y : Ap} (h : SH p tp l y) : (y.Ay.n : Int) + y.Idle + y.Bd = l.length ∧ 0 ≤ y.Idle ∧ 0 ≤ y.Bd := by
 have hcnt := JY (p := aP p) (tape := tp) l (Gk (CA (aP p)))
 have hnn := Pu (P := aP p) (tp := tp) l (Gk (CA (aP p))) ⟨Int.le_refl _, Int.le_refl _⟩
 rw [← h.ev, ← h.id, ← h.wt] at hcnt
 rw [← h.id, ← h.wt] at hnn
 simp only [Sl.Bb, Gk, List.length_nil] at hcnt
 omega
theorem We (s : Sl AZ) (x : AZ) (b : Bool) : Gl (Sl.mk b (s.n + 1) (fun i => AZ.mk (cond (Nat.blt i s.n) (s.get i).Bj x.Bj) (cond (Nat.blt i s.n) (s.get i).Du x.Du) (cond (Nat.blt i s.n) (s.get i).Gj x.Gj) (cond (Nat.blt i s.n) (s.get i).Hh x.Hh))) = Gl s ++ [Kq x] := by
 have : (Sl.mk b (s.n + 1) (fun i => AZ.mk (cond (Nat.blt i s.n) (s.get i).Bj x.Bj) (cond (Nat.blt i s.n) (s.get i).Du x.Du) (cond (Nat.blt i s.n) (s.get i).Gj x.Gj) (cond (Nat.blt i s.n) (s.get i).Hh x.Hh))).L = s.L ++ [x] := by
  rw [← Pp]
  refine RK rfl fun i => ?_
  simp only [snoc]
  cases Nat.blt i s.n <;> rfl
 unfold Gl
 rw [this, List.map_append]; rfl
theorem Wr {P : MP} {tp : List Int} (a c : List EN) (r : WR) : Be P tp (a ++ c) r = Be P tp c (Be P tp a r) := List.foldl_append
theorem Wt {P : MP} {tp : List Int} {b : Int} {r : WR} {x : EN} (h : Dd P b r.St) : (HF r.St x.Bj = true → CV P tp r x = { r with Idle := r.Idle + 1 }) ∧ (HF r.St x.Bj = false → (CV P tp r x).Idle = r.Idle) := by
 refine ⟨fun q => ?_, fun q => ?_⟩
 · have : H0 P tp r.St x = none := VN h (of_decide_eq_true q)
   unfold CV
   rw [this]; simp only [q, if_true]
 · unfold CV
   split
   · rfl
   · rw [if_neg (by rw [q]; simp)]
theorem Wo (p : TPg) (tape : Sl Int) (script : Sl AZ) (e : AZ) (hp : Ib p) (ht : SJ tape) (hs : UP script) (he : P0 e) : D_f4l.wp (p, (tape, (script, e))) fun y => y = true := by
 refine of_wp ?_
 simp only [tt_f4l]
 have aw : ∀ {k : Bool → TT Tryz.prog R_f4l} {Q}, (k true).wp Q → (TT.call con_f3i PUnit.unit k).wp Q := fun h => wC TD fun (y : Bool) hy => by subst hy; exact h
 refine aw (Aq (fun h => by simp at h) fun _ => ?_)
 refine wC (Wk p hp) fun (y : Bool) hy => AE bnI (fun _ => aw rfl) fun hf => AE ilI (fun _ => aw rfl) fun hl1 => AE ilI (fun _ => aw rfl) fun hl2 => of_wp ?_
 have hP := hy (Classical.byContradiction hf)
 have big : (65536 : Nat) ≤ maxLen := by decide
 simp only [tt_f4l_3, Nat.zero_add, H4, cond_false, Nat.sub_zero]
 refine wC (VQ hp (WU hp) ht hs) fun (a : Ap × Int) ha => wN (by simp [room]; omega) (wN (by simp [room]; omega) ?_)
 obtain ⟨_, hA⟩ := ha.1 ⟨hP, by omega, by omega⟩
 refine wC (VQ hp (WU hp) ht ⟨?_, fun i hi => ?_⟩) fun (b : Ap × Int) hb => wC (VS hp hP ht hs (by omega)) fun (r : Ag) hr => ?_
 · show script.n + 1 ≤ maxLen
   omega
 · simp only at hi ⊢
   by_cases c : i < script.n
   · rw [PE c]; exact ⟨(hs.e i c).c, (hs.e i c).d⟩
   · have : i = script.n := by omega
     rw [this, PF]; exact ⟨he.c, he.d⟩
 obtain ⟨b2, hB⟩ := hb.1 ⟨hP, by show script.n + 1 ≤ 65536; omega, by omega⟩
 have eS : Gl (Sl.mk (cond (Nat.beq 1 0) (cond (Nat.beq script.n 0) false false) false) (script.n + 1) (fun i => AZ.mk (cond (Nat.blt i script.n) (script.get i).Bj e.Bj) (cond (Nat.blt i script.n) (script.get i).Du e.Du) (cond (Nat.blt i script.n) (script.get i).Gj e.Gj) (cond (Nat.blt i script.n) (script.get i).Hh e.Hh))) = Gl script ++ [Kq e] := We script e _
 rw [eS] at hB
 obtain ⟨_, hrS, _, _⟩ := hr
 have hW : Be (aP p) tape.L (Gl script ++ [Kq e]) (Gk (CA (aP p))) = CV (aP p) tape.L (Be (aP p) tape.L (Gl script) (Gk (CA (aP p)))) (Kq e) := by rw [Wr]; rfl
 obtain ⟨f, hF, hf, _⟩ := hA.fc
 have htn : r.State.AB.n = p.AB.n := by
  have h1 : (aS r.State).AB.length = (aF f).AB.length := by rw [hrS, hf]
  have h2 := hF.wf.tn
  simp [aS, aF] at h1
  omega
 have hinv := hF.inv
 rw [hf] at hinv
 obtain ⟨i1, i2⟩ := Wt (tp := tape.L) (x := Kq e) hinv
 have cA := hA.cnt
 rw [Im] at cA
 have aid : a.1.Idle = (Be (aP p) tape.L (Gl script) (Gk (CA (aP p)))).Idle := hA.id
 have bid := hB.id
 have bev := hB.ev
 have bst := hB.st
 rw [hW] at bid bev bst
 have hlen : ((Be (aP p) tape.L (Gl script) (Gk (CA (aP p)))).St.AB.length : Int) = p.AB.n := by
  rw [← hrS, ← htn]; simp [aS]
 have L7 : ∀ idle : Bool, idle = HF (Be (aP p) tape.L (Gl script) (Gk (CA (aP p)))).St e.Bj → D_f4l_7.wp ⟨b.2, idle, a.1, b.1⟩ fun y => y = true := fun idle hid => by
  refine of_wp ?_
  simp only [tt_f4l_7]
  refine AE ieI (fun _ => ?_) fun w => absurd b2 w
  rw [wrap64 (by omega) (by omega)]
  cases hidle : idle with
  | true =>
    rw [hidle] at hid
    have hst := i1 hid.symm
    rw [hst] at bid bev bst
    have hi : AW b.1.Idle (a.1.Idle + 1) = true := by rw [ieI, bid, aid]
    rw [hi]
    have ev : a.1.Ay.L = b.1.Ay.L := hA.ev.trans bev.symm
    refine Aq (fun _ => Aq (fun w => by cases w) fun _ => ?_) fun w => absurd rfl w
    refine wC (TE _ _ ev (by omega)) fun (u : Bool) hu => Aq (fun _ => ?_) fun w => absurd hu w
    exact wC (w_fi _ _ (hA.st.trans bst.symm) hA.len) fun (v : Bool) hv => hv
  | false =>
    rw [hidle] at hid
    have hst := i2 hid.symm
    have hi : AW b.1.Idle (a.1.Idle + 1) = false := by
     refine Bool.eq_false_iff.2 fun w => ?_
     rw [ieI] at w
     rw [hst] at bid
     omega
    rw [hi]
    exact Aq (fun _ => Aq (fun _ => rfl) fun w => absurd rfl w) fun w => absurd rfl w
 refine AE ilI (fun q => L7 _ (decide_eq_true (.inl q)).symm) fun q1 => AE leI (fun q => L7 _ (decide_eq_true (.inr (.inl (by rw [hlen]; exact q)))).symm) fun q2 => wN (by rw [ibI]; omega) (L7 _ ?_)
 have : (K0 (Be (aP p) tape.L (Gl script) (Gk (CA (aP p)))).St e.Bj).Status = (r.State.AB.get e.Bj.toNat).Status := by
  rw [← hrS, Pc (by omega) (by omega)]; rfl
 unfold HF
 rw [hlen, this]
 refine Bk ?_
 simp only [bnI, ieI, decide_eq_true_eq]
 omega
def ok_TRg (x : TRg) : Prop := (fun n => (Lit.int .i64 n).wf = true) x.Kind ∧ (fun n => (Lit.int .i64 n).wf = true) x.DP ∧ (fun n => (Lit.int .i64 n).wf = true) x.AR ∧ True
def fl_TRg_0 : Field := (Gc Tryz.prog 87).toList.getD 0 default
def fl_TRg_1 : Field := (Gc Tryz.prog 87).toList.getD 1 default
def fl_TRg_2 : Field := (Gc Tryz.prog 87).toList.getD 2 default
theorem op_TRg : EI Tryz.prog 87 e_TRg ok_TRg :=
 EI.map (Fa (fs := Gc Tryz.prog 87) (l := fl_TRg_0 :: fl_TRg_1 :: fl_TRg_2 :: []) (by kernel_rfl) (by kernel_rfl) (by kernel_rfl)
  (Bz (u := 3) (s := 1) (by kernel_rfl) (by kernel_rfl) (by kernel_rfl) (Ck (k := .i64) (by kernel_rfl)) (Bz (u := 3) (s := 1) (by kernel_rfl) (by kernel_rfl) (by kernel_rfl) (Ck (k := .i64) (by kernel_rfl)) (Bz (u := 3) (s := 1) (by kernel_rfl) (by kernel_rfl) (by kernel_rfl) (Ck (k := .i64) (by kernel_rfl)) Hm)))) (fun x => ⟨x.1, x.2.1, x.2.2.1⟩) (fun _ => rfl) (fun _ h => h)
def ok_TIn (x : TIn) : Prop := (fun n => (Lit.int .i64 n).wf = true) x.Op ∧ (fun n => (Lit.int .i64 n).wf = true) x.A ∧ (fun n => (Lit.int .i64 n).wf = true) x.B ∧ (fun n => (Lit.int .i64 n).wf = true) x.C ∧ (fun n => (Lit.int .i64 n).wf = true) x.D ∧ (fun n => (Lit.int .u64 n).wf = true) x.K ∧ True
def fl_TIn_0 : Field := (Gc Tryz.prog 124).toList.getD 0 default
def fl_TIn_1 : Field := (Gc Tryz.prog 124).toList.getD 1 default
def fl_TIn_2 : Field := (Gc Tryz.prog 124).toList.getD 2 default
def fl_TIn_3 : Field := (Gc Tryz.prog 124).toList.getD 3 default
def fl_TIn_4 : Field := (Gc Tryz.prog 124).toList.getD 4 default
def fl_TIn_5 : Field := (Gc Tryz.prog 124).toList.getD 5 default
theorem op_TIn : EI Tryz.prog 124 e_TIn ok_TIn :=
 EI.map (Fa (fs := Gc Tryz.prog 124) (l := fl_TIn_0 :: fl_TIn_1 :: fl_TIn_2 :: fl_TIn_3 :: fl_TIn_4 :: fl_TIn_5 :: []) (by kernel_rfl) (by kernel_rfl) (by kernel_rfl)
  (Bz (u := 3) (s := 1) (by kernel_rfl) (by kernel_rfl) (by kernel_rfl) (Ck (k := .i64) (by kernel_rfl)) (Bz (u := 3) (s := 1) (by kernel_rfl) (by kernel_rfl) (by kernel_rfl) (Ck (k := .i64) (by kernel_rfl)) (Bz (u := 3) (s := 1) (by kernel_rfl) (by kernel_rfl) (by kernel_rfl) (Ck (k := .i64) (by kernel_rfl)) (Bz (u := 3) (s := 1) (by kernel_rfl) (by kernel_rfl) (by kernel_rfl) (Ck (k := .i64) (by kernel_rfl)) (Bz (u := 3) (s := 1) (by kernel_rfl) (by kernel_rfl) (by kernel_rfl) (Ck (k := .i64) (by kernel_rfl)) (Bz (u := 36) (s := 1) (by kernel_rfl) (by kernel_rfl) (by kernel_rfl) (Ck (k := .u64) (by kernel_rfl)) Hm))))))) (fun x => ⟨x.1, x.2.1, x.2.2.1, x.2.2.2.1, x.2.2.2.2.1, x.2.2.2.2.2.1⟩) (fun _ => rfl) (fun _ h => h)
def ok_TPg (x : TPg) : Prop := (Ol ok_TRg) x.AF ∧ (Ol (Ol ok_TIn)) x.AB ∧ True
def fl_TPg_0 : Field := (Gc Tryz.prog 25).toList.getD 0 default
def fl_TPg_1 : Field := (Gc Tryz.prog 25).toList.getD 1 default
theorem op_TPg : EI Tryz.prog 25 e_TPg ok_TPg :=
 EI.map (Fa (fs := Gc Tryz.prog 25) (l := fl_TPg_0 :: fl_TPg_1 :: []) (by kernel_rfl) (by kernel_rfl) (by kernel_rfl)
  (Bz (u := 22) (s := 1) (by kernel_rfl) (by kernel_rfl) (by kernel_rfl) (FK (e := 87) (s := 3) (d_TRg .undef) (by kernel_rfl) (by kernel_rfl) (by decide) (op_TRg)) (Bz (u := 23) (s := 1) (by kernel_rfl) (by kernel_rfl) (by kernel_rfl) (FK (e := 116) (s := 1) (dsl_TIn .undef) (by kernel_rfl) (by kernel_rfl) (by decide) (FK (e := 124) (s := 6) (d_TIn .undef) (by kernel_rfl) (by kernel_rfl) (by decide) (op_TIn))) Hm))) (fun x => ⟨x.1, x.2.1⟩) (fun _ => rfl) (fun _ h => h)
def FE (x : AZ) : Prop := (fun n => (Lit.int .i64 n).wf = true) x.Bj ∧ (fun n => (Lit.int .u64 n).wf = true) x.Du ∧ (fun n => (Lit.int .u64 n).wf = true) x.Gj ∧ (fun _ => True) x.Hh ∧ True
def KY : Field := (Gc Tryz.prog 41).toList.getD 0 default
def KX : Field := (Gc Tryz.prog 41).toList.getD 1 default
def KW : Field := (Gc Tryz.prog 41).toList.getD 2 default
def KV : Field := (Gc Tryz.prog 41).toList.getD 3 default
theorem MN : EI Tryz.prog 41 Bg FE :=
 EI.map (Fa (fs := Gc Tryz.prog 41) (l := KY :: KX :: KW :: KV :: []) (by kernel_rfl) (by kernel_rfl) (by kernel_rfl)
  (Bz (u := 3) (s := 1) (by kernel_rfl) (by kernel_rfl) (by kernel_rfl) (Ck (k := .i64) (by kernel_rfl)) (Bz (u := 36) (s := 1) (by kernel_rfl) (by kernel_rfl) (by kernel_rfl) (Ck (k := .u64) (by kernel_rfl)) (Bz (u := 36) (s := 1) (by kernel_rfl) (by kernel_rfl) (by kernel_rfl) (Ck (k := .u64) (by kernel_rfl)) (Bz (u := 4) (s := 1) (by kernel_rfl) (by kernel_rfl) (by kernel_rfl) (Py (by kernel_rfl)) Hm))))) (fun x => ⟨x.1, x.2.1, x.2.2.1, x.2.2.2.1⟩) (fun _ => rfl) (fun _ h => h)
theorem MV : PN Tryz.prog 25 e_TPg ok_TPg :=
 Ng (fs := Gc Tryz.prog 25) (by kernel_rfl) op_TPg (fun _ => rfl) (fun _ => rfl)
theorem VM {p : TPg} (h : ok_TPg p) : Ib p := by
 obtain ⟨⟨rz, rn, rr⟩, ⟨_, tn, tt⟩, _⟩ := h
 refine ⟨rn, tn, fun t ht => (tt t ht).2.1, fun t ht k hk => ?_, rz, fun t ht => (tt t ht).1⟩
 obtain ⟨_, a, b, c, d, k, _⟩ := (tt t ht).2.2 k hk
 have a := wf_i64 a; have b := wf_i64 b; have c := wf_i64 c; have d := wf_i64 d
 exact ⟨wf_u64 k, by omega, by omega, by omega, by omega⟩
theorem Wq : PN Tryz.prog 41 Bg FE :=
 Ng (fs := Gc Tryz.prog 41) (by kernel_rfl) MN (fun _ => rfl) (fun _ => rfl)
theorem UR {x : AZ} (h : FE x) : P0 x := by
 obtain ⟨_, c, d, _⟩ := h
 exact ⟨wf_u64 c, wf_u64 d⟩
theorem Nh : PN Tryz.prog 27 BX (Ol FE) :=
 Lf (KF (e := 41) (by kernel_rfl)) (FK (e := 41) (s := 4) (Bo .undef) (by kernel_rfl) (by kernel_rfl) (by decide) MN) (fun _ => rfl) (fun _ => rfl)
theorem UO {l : Sl AZ} (h : Ol FE l) : UP l := ⟨h.2.1, fun i hi => UR (h.2.2 i hi)⟩
theorem QC : PN Tryz.prog 26 BG (Ol fun n => (Lit.int .u64 n).wf = true) :=
 Lf (KF (e := 36) (by kernel_rfl)) (FK (e := 36) (s := 1) (dI .undef) (by kernel_rfl) (by kernel_rfl) (by decide) (Ck (k := .u64) (by kernel_rfl))) (fun _ => rfl) (fun _ => rfl)
theorem VL {l : Sl Int} (h : Ol (fun n => (Lit.int .u64 n).wf = true) l) : SJ l := ⟨h.2.1, fun i hi => wf_u64 (h.2.2 i hi)⟩

open Go.ChangeShapes Go.WideShapes Go.ChangeAt Go.RowKit
theorem Tryz.own : ownKnob Tryz.prog.godebug = none := by kernel_rfl
theorem Tryz.laidOut : laidOutB Tryz.prog = true := by kernel_rfl
theorem Tryz.Vx : mapsRowed Tryz.prog = true := by kernel_rfl
theorem Tryz.full : ∀ t e, t < Tryz.prog.types.size → Tryz.prog.underlying t = some (.slice e) → 0 < Tryz.prog.cellsOf e := slices_full_of Tryz.prog (by kernel_rfl)
def OA : Value := .agg #[.slice none 0 0, .slice none 0 0]
open Go.ChangeShapes Go.WideShapes Go.ChangeAt Go.RowKit
def Ws : Value := .agg #[.int .i64 0, .int .u64 0, .int .u64 0, .bool false]
theorem Wm (os : Os) (started : os.Started) (H : Type) (enc : TypeId × Value → H) :
 ReturnsInHanded {} Tryz.checked os 6 .any (Rows.worldIdleSpec.pre6 enc Tryz.prog Tryz.f6 Rows.worldIdleRow.domain false) (Rows.worldIdleSpec.post enc Tryz.prog Tryz.f6 false true false false) := by
 refine lifted (tb := 4) (C := Tryz.checked) Tryz.own started (by kernel_rfl) Tryz.func6
  (ChangeSpec.witness6 (enc := enc) (C := Tryz.checked) false ⟨#[], #[OA, .slice none 0 0, .slice none 0 0, Ws], []⟩ 8 (by kernel_rfl) (by kernel_rfl) (by kernel_rfl) (by kernel_rfl)) Tryz.laidOut Tryz.Vx Tryz.full
  (by kernel_rfl) rfl rfl (by kernel_rfl) ?_ ?_
 · intro ds hl
   match ds, hl with
   | [_, _, _, _], _ => rfl
 · intro W base args ds ps hval hA
   rw [Tryz.params6] at hA hval
   obtain ⟨v0, v1, v2, v3, d0, d1, d2, d3, p0, p1, p2, p3, rfl, rfl, rfl, h0, h1, h2, h3⟩ := trodAll_four hA
   obtain ⟨a, ha, ra⟩ := MV H enc W base v0 d0 p0 (hval 0 25 v0 rfl rfl) h0
   obtain ⟨b, hb, rb⟩ := QC H enc W base v1 d1 p1 (hval 1 26 v1 rfl rfl) h1
   obtain ⟨c, hc, rc⟩ := Nh H enc W base v2 d2 p2 (hval 2 27 v2 rfl rfl) h2
   obtain ⟨d, hd, rd⟩ := Wq H enc W base v3 d3 p3 (hval 3 41 v3 rfl rfl) h3
   obtain ⟨y, hy, rfl⟩ := Wo a b c d (VM ha) (VL hb) (UO hc) (UR hd)
   refine QN (con_f4l.ok (a, (b, (c, d))) true hy) (fun j x v hx hv => ?_) rfl
   match j, hx, hv with
   | 0, hx, hv => change some (e_TPg a) = some x at hx; cases hx; simp at hv; subst hv; exact ra
   | 1, hx, hv => change some (BG b) = some x at hx; cases hx; simp at hv; subst hv; exact rb
   | 2, hx, hv => change some (BX c) = some x at hx; cases hx; simp at hv; subst hv; exact rc
   | 3, hx, hv => change some (Bg d) = some x at hx; cases hx; simp at hv; subst hv; exact rd
theorem worldIdle_holds : Rows.WorldIdleSaid :=
 OpenClaim.holds_of_wide 6 Tryz.f6 rfl rfl rfl rfl rfl rfl rfl ⟨rfl, rfl, rfl, rfl, rfl⟩ rfl rfl rfl rfl rfl (by kernel_rfl) Tryz.func6 (by kernel_rfl)
  (of_decide_eq_true (by kernel_rfl)) (by unfold Func.isWrapper; first | (rw [if_pos (by decide +kernel)]; kernel_rfl) | (rw [if_neg (by decide +kernel)]; exact ⟨rfl, rfl⟩))
  (fun os started H enc _ => Wm os started H enc)
end Go.Proofs.YtiamaibincaihaaGreat
end
