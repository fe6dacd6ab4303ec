/- For every program and every list of events that are fed: each error, and how all stands behind it, is what the document says; what was handed in reads as it did. No conditions. -/
import Derived.Test.YtiplcdhnjennfaaGreatLawA
import Derived.Test.YtiplcdhnjennfaaGreatRows
namespace Go.Proofs.YtiplcdhnjennfaaGreat
open Go Go.Vm Go.Proofs
set_option maxRecDepth 10000
set_option maxRecDepth 100000
structure RU (p : TPg) (rs rs' : Sl (Bx TRr)) (i : Nat) (m : MR) : Prop where
  n : rs'.n = rs.n
  ot : ∀ j, j ≠ i → rs'.get j = rs.get j
  nl : (rs'.get i).nil = false
  wf : RWf (p.Rings.get i) (rs'.get i).x
  eq : aR (rs'.get i).x = m
theorem ru_of {p : TPg} {rs rs' : Sl (Bx TRr)} {i : Nat} {m : MR} (z : Bx TRr) (h1 : rs'.n = rs.n) (h2 : ∀ j, rs'.get j = cond (Nat.beq j i) z (rs.get j)) (h3 : z.nil = false) (h4 : RWf (p.Rings.get i) z.x) (h5 : aR z.x = m) : RU p rs rs' i m := by
  have hi : rs'.get i = z := by rw [h2, Nat.beq_refl]; rfl
  exact ⟨h1, fun j hj => by rw [h2, beq_ne hj]; rfl, by rw [hi]; exact h3, by rw [hi]; exact h4, by rw [hi]; exact h5⟩
theorem RU.L {p : TPg} {rs rs' : Sl (Bx TRr)} {i : Nat} {m : MR} (h : RU p rs rs' i m) : rs'.L.map (fun r => aR r.x) = (rs.L.map fun r => aR r.x).set i m := by
  apply List.ext_getElem
  · simp [h.n]
  · intro j h1 h2
    have hj : j < rs.n := by simpa [h.n] using h1
    simp only [List.getElem_map, Sl.L_getE]
    by_cases e : j = i
    · subst e; rw [List.getElem_set_self, h.eq]
    · rw [List.getElem_set_ne (fun q => e q.symm)]
      simp only [List.getElem_map, Sl.L_getE, h.ot j e]
section
variable {p : TPg} {B : Int} {k : Nat} {f : TFa} {e : TEv}
theorem w_fabric_claim (h : FC p B k f) {i : Int} (h0 : 0 ≤ i) (h1 : i < p.Rings.n) (hF : mFull (rng (aF f) i) = false) :
    D_f2d.wp (i, f) fun y => ∃ rs, y = ⟨f.p, f.threads, rs, f.now, f.reads, f.ended⟩ ∧ RU p f.rings rs i.toNat { rng (aF f) i with Tail := (rng (aF f) i).Tail + 1 } := by
  obtain ⟨hC, hnil, hrn⟩ := h.ring h0 h1
  have hfr := h.wf.rn
  have hi : i.toNat < p.Rings.n := by omega
  rw [hrn] at hF ⊢
  have nd : ((true && true) && ((Nat.beq f.rings.n f.rings.n) && (Nat.blt i.toNat f.rings.n))) = true := by simp; omega
  have nd2 : ((true && true) && (Nat.beq f.rings.n f.rings.n)) = true := by simp
  have ib : inb i f.rings.n = true := by rw [ibI]; omega
  refine of_wp ?_
  simp only [tt_f2d, Nat.zero_add]
  refine wN ib (wN (by simp [hnil]) (wC (w_ring_Claim hC) fun (y : Int × Int × TRr) hy => wN nd (wp_side' (wN nd2 ?_))))
  rcases hy with ⟨hcl, rfl⟩ | ⟨_, hfl, _⟩ | ⟨hcl, _, hy0, hyr⟩
  · refine wp_if (p := (10 : Int) ≠ 10) (by rw [bnI, ieI]) (fun q => absurd rfl q) fun _ => ?_
    simp only [Nat.beq_refl, cond_true]
    have hc := hC.rg
    refine wN ib (wN (by simp) (wC (w_ring_State (p.Rings.get i.toNat) _ hc hC.wf) fun (s : TRs) hs => wN (by simp; omega) (wp_side' (wN (by simp) ?_))))
    obtain ⟨e1, e2, e3⟩ := hs
    have hcp := h.wf.cp
    have hI := hC.inv.claim hF
    have ht := hC.t
    have hT : s.Tail = (f.rings.get i.toNat).x.cursors.tail := congrArg MR.Tail e1
    have hb := h.hB
    rw [wrapu64 (z := s.Tail + 1) (by rw [hT]; omega) (by rw [hT]; omega), hcp.r.g _ hi]
    have es : aRS ⟨s.Tail + 1, s.Heads, s.Closed, s.Slots⟩ = { aR (f.rings.get i.toNat).x with Tail := (aR (f.rings.get i.toNat).x).Tail + 1 } := by
      rw [← e1]; rfl
    rw [← es] at hI
    refine wN (by rw [ibI, hcp.r.n]; omega) (wC (w_fd (p.Rings.get i.toNat) ⟨s.Tail + 1, s.Heads, s.Closed, s.Slots⟩ hc (okRS_of hc hI (by omega) e2 e3)) fun (z : Bx TRr × Int) hz => ?_)
    rcases hz with ⟨_, z2, zn, zw, za⟩ | ⟨hno, _⟩
    rotate_left
    · exact absurd (ringL_of hc hI (by omega)) hno
    refine wp_if ieI (fun _ => wN ib (wN (by simp) (wN (by simp) ⟨_, rfl, ru_of z.1 rfl (fun j => ?_) zn zw (za.trans es)⟩))) fun q => absurd z2 q
    show (⟨_, _⟩ : Bx TRr) = cond (Nat.beq j _) _ _
    cases Nat.beq j i.toNat <;> rfl
  · rw [hF] at hfl; cases hfl
  · refine wp_if (p := y.2.1 ≠ 10) (by rw [bnI, ieI]) (fun _ => ⟨_, rfl, ru_of ⟨false, y.2.2⟩ rfl (fun j => ?_) rfl ?_ ?_⟩) fun q => absurd (by rw [hy0]; decide) q
    · show (⟨_, _⟩ : Bx TRr) = cond (Nat.beq j _) _ _
      cases Nat.beq j i.toNat <;> rfl
    · show RWf _ y.2.2
      rw [hyr]
      exact ⟨hC.wf.sn, hC.wf.rd, hC.wf.ms, hC.wf.hz, hC.wf.lz, hC.wf.hn, hC.wf.ln⟩
    · show aR y.2.2 = _
      rw [hyr]; rfl
theorem l_done_20 (h : FC p B k f) (he : okE e) (F : Fitting (aP p) (aF f) e) (v : Int) (hv : U64 v) (hve : v = if e.Kind = 4 then (slotAt (rng (aF f) e.Ring) e.Ticket).Value else 0) (rs : Sl (Bx TRr)) (now rd : Int) (en : Bool) :
    D_fg_20.wp (⟨e, v, ⟨f.p, f.threads, rs, now, rd, en⟩⟩ : X_fg_20) fun y => ∃ ts, y = ⟨f.p, ts, rs, now, rd, en⟩ ∧ ts.n = f.threads.n ∧ ts.L.map aT = (mBehind (aP p) (aF f) e).Threads ∧ ∀ t, t < ts.n → TWf (k + 1) (ts.get t) := by
  obtain ⟨h0, h1⟩ := fit_thread h.inv F
  obtain ⟨c1, c2, c3, c4⟩ := h.code h0 h1
  have htn := h.wf.tn
  have hk := h.hk
  have hT := h.tinv h0 h1
  rw [← c3] at hT
  have hcr := codeIn_of h.inv h0 h1
  rw [← code_aP h0 h1, ← c3] at hcr
  refine of_wp ?_
  simp only [tt_fg_20, Nat.zero_add]
  have ib : inb e.Thread f.threads.n = true := by rw [ibI]; omega
  refine wN (by rw [ibI]; omega) (wN ib (wN (by simp) (wC (w_f2a _ _ _ e v k (by omega) c1 c2 hcr hT (h.wf.tw _ (by omega)) hv he.vl he.tk.1) fun (y : TTh × Int) hy => wN ib (wN (by simp) (wN (by simp) ?_)))))
  have hd : mDoT (f.p.Threads.get e.Thread.toNat).L (aT (f.threads.get e.Thread.toNat)) e = 0 := by
    unfold mDoT
    have hft := F.ft
    have ha0 := F.a0
    unfold mAsk at hft ha0
    rw [thr_aF h0 (by omega), ← c3] at hft ha0
    rw [if_neg (by rw [F.re]; simp), if_neg (by rw [hft]; simp [ha0])]
  obtain ⟨hy1, hy2⟩ := hy.2 hd
  have hts : ∀ {T : Sl TTh}, T.n = f.threads.n → (∀ j, T.get j = cond (Nat.beq j e.Thread.toNat) y.1 (f.threads.get j)) → T.L.map aT = (mBehind (aP p) (aF f) e).Threads ∧ ∀ t, t < T.n → TWf (k + 1) (T.get t) := fun {T} e1 e2 => by
    refine ⟨?_, fun t ht => ?_⟩
    · have : T.L = f.threads.L.set e.Thread.toNat y.1 := by rw [← setS_L]; exact sl_L e1 e2
      rw [this, map_set, hy1]
      unfold mBehind
      simp only
      rw [thr_aF h0 (by omega), ← c3, hve]
      rfl
    · rw [e2]
      by_cases q : t = e.Thread.toNat
      · subst q; rw [Nat.beq_refl]; exact hy2
      · rw [beq_ne q]; exact (h.wf.tw t (by omega)).grow (by omega)
  refine ⟨_, rfl, rfl, hts rfl fun j => ?_⟩
  show (⟨_, _, _, _, _, _, _⟩ : TTh) = cond (Nat.beq j _) _ _
  cases Nat.beq j e.Thread.toNat <;> rfl
theorem FC.ask64 (h : FC p B k f) {t : Int} (h0 : 0 ≤ t) (h1 : t < p.Threads.n) : U64 (mAsk (aP p) (aF f) t).Value := by
  have htn := h.wf.tn
  have := h.tinv h0 h1
  unfold mAsk
  rw [thr_aF h0 (by omega)]
  rw [code_aP h0 h1] at this ⊢
  exact (next_U64 (codeIn_of h.inv h0 h1) (h.hp.k (by omega)) this (h.wf.tw _ (by omega)).rg).2
theorem w_fabric_done (h : FC p B k f) (he : okE e) (F : Fitting (aP p) (aF f) e) (ht : kTicket e.Kind = true → mTurn (rng (aF f) e.Ring) (mAsk (aP p) (aF f) e.Thread) e = true) (hB : B + 1 ≤ 2305843009213693952) (hk : k + 1 ≤ 1000000000) :
    D_fg.wp (e, f) fun y => aF y = mBehind (aP p) (aF f) e ∧ FC p (B + 1) (k + 1) y := by
  obtain ⟨t0, t1⟩ := fit_thread h.inv F
  have hfr := h.wf.rn
  have htn := h.wf.tn
  have hre := rightE_facts F.re
  have hI := inv_behind h.inv h.hB he.tk.1 F ht
  have hU := UV_behind h.uv (h.ask64 t0 t1)
  refine of_wp ?_
  simp only [tt_fg, Nat.zero_add]
  refine wC (w_fabric_ask h t0 t1) fun (a : TAk) ha => ?_
  -- the end of all ways
  have fin : ∀ (v : Int) (rs : Sl (Bx TRr)) (now rd : Int) (en : Bool), U64 v → v = (if e.Kind = 4 then (slotAt (rng (aF f) e.Ring) e.Ticket).Value else 0) → rs.n = p.Rings.n → (∀ i, i < rs.n → (rs.get i).nil = false ∧ RWf (p.Rings.get i) (rs.get i).x) →
      rs.L.map (fun r => aR r.x) = (mBehind (aP p) (aF f) e).Rings → now = (mBehind (aP p) (aF f) e).Now → rd = (mBehind (aP p) (aF f) e).Reads → en = (mBehind (aP p) (aF f) e).Ended →
      D_fg_20.wp (⟨e, v, ⟨f.p, f.threads, rs, now, rd, en⟩⟩ : X_fg_20) fun y => aF y = mBehind (aP p) (aF f) e ∧ FC p (B + 1) (k + 1) y := fun v rs now rd en hv hve r1 r2 r3 e1 e2 e3 => by
    refine (l_done_20 h he F v hv hve rs now rd en).mono fun y hy => ?_
    obtain ⟨ts, rfl, n1, n2, n3⟩ := hy
    have ea : aF ⟨f.p, ts, rs, now, rd, en⟩ = mBehind (aP p) (aF f) e := by
      show (⟨_, _, _, _, _⟩ : MS) = _
      rw [n2, r3, e1, e2, e3]
    exact ⟨ea, h.hp, by rw [ea]; exact hI, ⟨h.wf.cp, by show ts.n = _; omega, n3, r1, r2⟩, by rw [ea]; exact hU, hB, hk⟩
  have vz : e.Kind ≠ 4 → (0 : Int) = (if e.Kind = 4 then (slotAt (rng (aF f) e.Ring) e.Ticket).Value else 0) := fun q => by rw [if_neg q]
  have nw : e.Kind ≠ 8 → f.now = (mBehind (aP p) (aF f) e).Now := fun q => by unfold mBehind; simp only; rw [if_neg q]; rfl
  have rd : e.Kind ≠ 10 → f.reads = (mBehind (aP p) (aF f) e).Reads := fun q => by unfold mBehind; simp only; rw [if_neg q]; rfl
  have en : e.Kind ≠ 11 → f.ended = (mBehind (aP p) (aF f) e).Ended := fun q => by unfold mBehind; simp only; rw [if_neg q]; rfl
  have rgs : kTicket e.Kind = false → f.rings.L.map (fun r => aR r.x) = (mBehind (aP p) (aF f) e).Rings := fun q => by unfold mBehind; simp only [q, Bool.false_eq_true, if_false]; rfl
  -- with a ring
  have ring : kTicket e.Kind = true → ∀ (v : Int) (rs : Sl (Bx TRr)), U64 v → v = (if e.Kind = 4 then (slotAt (rng (aF f) e.Ring) e.Ticket).Value else 0) → RU p f.rings rs e.Ring.toNat (mRingB (rng (aF f) e.Ring) (mAsk (aP p) (aF f) e.Thread) e) →
      D_fg_20.wp (⟨e, v, ⟨f.p, f.threads, rs, f.now, f.reads, f.ended⟩⟩ : X_fg_20) fun y => aF y = mBehind (aP p) (aF f) e ∧ FC p (B + 1) (k + 1) y := fun q v rs hv hve hu => by
    have h1 := kTicket_iff.1 q
    refine fin v rs _ _ _ hv hve (by rw [hu.n]; exact hfr) (fun i hi => ?_) ?_ (nw (by omega)) (rd (by omega)) (en (by omega))
    · by_cases z : i = e.Ring.toNat
      · subst z; exact ⟨hu.nl, hu.wf⟩
      · rw [hu.ot i z]; exact h.wf.rw i (by rw [← hu.n]; exact hi)
    · rw [hu.L]
      unfold mBehind
      simp only [q, if_true]
      rfl
  have tk := fun z => kTicket_iff (k := e.Kind).2 z
  have info := fun (q : kTicket e.Kind = true) => by
    obtain ⟨r1, _, r2⟩ := turn_ok h.inv F (ticket_ring q)
    obtain ⟨hC, hnil, hrn⟩ := h.ring r1.1 r1.2
    exact (⟨r1, by rw [ha]; exact r2, hC, hnil, hrn, by rw [ibI]; omega, by simp [hnil], by simp; omega⟩ : (0 ≤ e.Ring ∧ e.Ring < p.Rings.n) ∧ (e.Kind = 3 ∨ e.Kind = 4 → 0 ≤ (aA a).Reader ∧ (aA a).Reader < (p.Rings.get e.Ring.toNat).Readers) ∧ RC (p.Rings.get e.Ring.toNat) B (f.rings.get e.Ring.toNat).x ∧ (f.rings.get e.Ring.toNat).nil = false ∧ rng (aF f) e.Ring = aR (f.rings.get e.Ring.toNat).x ∧ inb e.Ring f.rings.n = true ∧
      (((Nat.beq f.rings.n f.rings.n) && true) && (!(f.rings.get e.Ring.toNat).nil)) = true ∧ ((true && true) && ((Nat.beq f.rings.n f.rings.n) && (Nat.blt e.Ring.toNat f.rings.n))) = true)
  have nd2 : ((true && true) && (Nat.beq f.rings.n f.rings.n)) = true := by simp
  rw [← ha] at ht
  refine wp_if ieI (fun k1 => ?_) fun n1 => wp_if ieI (fun k2 => ?_) fun n2 => wp_if ieI (fun k3 => ?_) fun n3 => wp_if ieI (fun k4 => ?_) fun n4 => wp_if ieI (fun k13 => ?_) fun n13 => ?_
  · have q := tk (by omega)
    obtain ⟨r1, _⟩ := info q
    have hT := ht q
    unfold mTurn at hT
    rw [if_pos k1] at hT
    simp only [Bool.and_eq_true, Bool.not_eq_true', decide_eq_true_eq] at hT
    refine wC (w_fabric_claim h r1.1 r1.2 hT.1) fun (y : TFa) hy => ?_
    obtain ⟨rs, rfl, hu⟩ := hy
    refine ring q 0 rs U64_0 (vz (by omega)) ?_
    unfold mRingB
    rw [if_pos k1]; exact hu
  · have q := tk (by omega)
    obtain ⟨r1, r2, hC, hnil, hrn, d1, d2, d3⟩ := info q
    have hT := ht q
    unfold mTurn at hT
    rw [if_neg n1, if_pos k2, hrn] at hT
    refine wN d1 (wN d2 (wC (w_ring_Publish hC he.tk.1 hT) fun (y : Int × TRr) hy => wN d3 (wp_side' (wN nd2 (ring q 0 _ U64_0 (vz (by omega)) (ru_of ⟨false, y.2⟩ rfl (fun j => ?_) rfl hy.1 ?_))))))
    · show (⟨_, _⟩ : Bx TRr) = cond (Nat.beq j _) _ _
      cases Nat.beq j e.Ring.toNat <;> rfl
    · unfold mRingB
      rw [if_neg n1, if_pos k2, hrn, ← ha]; exact hy.2
  · have q := tk (by omega)
    obtain ⟨r1, r2, hC, hnil, hrn, d1, d2, d3⟩ := info q
    have hT := ht q
    unfold mTurn at hT
    rw [if_neg n1, if_neg n2, if_pos k3, hrn] at hT
    simp only [Bool.and_eq_true, Bool.not_eq_true', decide_eq_true_eq] at hT
    obtain ⟨j0, j1⟩ := r2 (.inl k3)
    have hn := hC.hn
    refine wN d1 (wN d2 (wC (w_ring_Take hC (j := a.Reader) j0 (by show (aA a).Reader < _; omega) hT.1) fun (y : Int × Int × TRr) hy => wN d3 (wp_side' (wN nd2 (ring q 0 _ U64_0 (vz (by omega)) (ru_of ⟨false, y.2.2⟩ rfl (fun j => ?_) rfl hy.1 ?_))))))
    · show (⟨_, _⟩ : Bx TRr) = cond (Nat.beq j _) _ _
      cases Nat.beq j e.Ring.toNat <;> rfl
    · unfold mRingB
      rw [if_neg n1, if_neg n2, if_pos k3, hrn, ← ha]; exact hy.2
  · have q := tk (by omega)
    obtain ⟨r1, r2, hC, hnil, hrn, d1, d2, d3⟩ := info q
    have hT := ht q
    unfold mTurn at hT
    rw [if_neg n1, if_neg n2, if_neg n3, if_pos k4, hrn] at hT
    obtain ⟨j0, j1⟩ := r2 (.inr k4)
    have hn := hC.hn
    refine wN d1 (wN d2 (wC (w_ring_Release hC h.hB (j := a.Reader) j0 (by show (aA a).Reader < _; omega) he.tk.1 hT) fun (y : Int × Int × TRr) hy => wN d3 (wp_side' (wN nd2 (ring q _ _ ?_ ?_ (ru_of ⟨false, y.2.2⟩ rfl (fun j => ?_) rfl hy.2.1 ?_))))))
    · rw [hy.1, ← hrn]; exact slotAt_U64 (rng_U64 h.uv _) _
    · rw [hy.1, ← hrn, if_pos k4]
    · show (⟨_, _⟩ : Bx TRr) = cond (Nat.beq j _) _ _
      cases Nat.beq j e.Ring.toNat <;> rfl
    · unfold mRingB
      rw [if_neg n1, if_neg n2, if_neg n3, if_pos k4, hrn, ← ha]; exact hy.2.2
  · have q := tk (by omega)
    obtain ⟨r1, r2, hC, hnil, hrn, d1, d2, d3⟩ := info q
    refine wN d1 (wN d2 (wC (w_ring_Close _) fun (y : Int × TRr) hy => wN d3 (wp_side' (wN nd2 (ring q 0 _ U64_0 (vz (by omega)) (ru_of ⟨false, y.2⟩ rfl (fun j => ?_) rfl ?_ ?_))))))
    · show (⟨_, _⟩ : Bx TRr) = cond (Nat.beq j _) _ _
      cases Nat.beq j e.Ring.toNat <;> rfl
    · subst hy; exact ⟨hC.wf.sn, hC.wf.rd, hC.wf.ms, hC.wf.hz, hC.wf.lz, hC.wf.hn, hC.wf.ln⟩
    · subst hy
      unfold mRingB
      rw [if_neg n1, if_neg n2, if_neg n3, if_neg n4, if_pos k13, hrn]; rfl
  · have q : kTicket e.Kind = false := Bool.eq_false_iff.2 fun z => by rw [kTicket_iff] at z; omega
    refine wp_if ieI (fun k8 => ?_) fun n8 => wp_if ieI (fun k10 => ?_) fun n10 => wp_if ieI (fun k11 => ?_) fun n11 => ?_
    · refine fin 0 f.rings _ _ _ U64_0 (vz n4) hfr h.wf.rw (rgs q) ?_ (rd (by omega)) (en (by omega))
      unfold mBehind; simp only; rw [if_pos k8, imax_eq]; rfl
    · refine fin 0 f.rings _ _ _ U64_0 (vz n4) hfr h.wf.rw (rgs q) (nw n8) ?_ (en (by omega))
      unfold mBehind; simp only; rw [if_pos k10]; rfl
    · refine fin 0 f.rings _ _ _ U64_0 (vz n4) hfr h.wf.rw (rgs q) (nw n8) (rd n10) ?_
      unfold mBehind; simp only; rw [if_pos k11]
    · exact fin 0 f.rings _ _ _ U64_0 (vz n4) hfr h.wf.rw (rgs q) (nw n8) (rd n10) (en n11)
theorem FC.grow (h : FC p B k f) (hB : B + 1 ≤ 2305843009213693952) (hk : k + 1 ≤ 1000000000) : FC p (B + 1) (k + 1) f :=
  ⟨h.hp, h.inv.mono (by omega), ⟨h.wf.cp, h.wf.tn, fun t ht => (h.wf.tw t ht).grow (by omega), h.wf.rn, h.wf.rw⟩, h.uv, hB, hk⟩
theorem w_fabric_Feed (h : FC p B k f) (he : okE e) (hB : B + 1 ≤ 2305843009213693952) (hk : k + 1 ≤ 1000000000) : D_f1z.wp (e, f) fun y => y.1 = (mFeed (aP p) (aF f) e).1 ∧ aF y.2 = (mFeed (aP p) (aF f) e).2 ∧ FC p (B + 1) (k + 1) y.2 := by
  refine of_wp ?_
  simp only [tt_f1z]
  refine wC (w_fabric_wrong h he) fun (y : Int) hy => ?_
  subst hy
  unfold mFeed
  refine wp_if (p := mFits (aP p) (aF f) e ≠ 0) (by rw [bnI, ieI]) (fun q => ?_) fun q => ?_
  · rw [if_pos q]; exact ⟨rfl, rfl, h.grow hB hk⟩
  rw [if_neg q]
  have F := fitting (Classical.byContradiction q)
  obtain ⟨t0, t1⟩ := fit_thread h.inv F
  have hre := rightE_facts F.re
  refine wC (w_f2q hre.1.1) fun (y : Bool) hy => ?_
  subst hy
  refine wp_ite (fun z => ?_) fun z => ?_
  · refine wC (w_fabric_ask h t0 t1) fun (a : TAk) ha => ?_
    obtain ⟨r1, _, r2⟩ := turn_ok h.inv F (ticket_ring z)
    rw [← ha] at r2
    refine wC (w_fabric_turn h a r1 r2 he.tk.1) fun (y : Bool) hy => ?_
    rw [ha] at hy
    subst hy
    refine wp_if bnI (fun q2 => ?_) fun q2 => ?_
    · rw [if_pos ⟨z, by simpa using q2⟩]; exact ⟨rfl, rfl, h.grow hB hk⟩
    · have hT := Classical.byContradiction q2
      rw [if_neg (by rw [hT]; simp)]
      exact wC (w_fabric_done h he F (fun _ => hT) hB hk) fun (y : TFa) hy => ⟨rfl, hy⟩
  · rw [if_neg fun w => z w.1]
    exact wC (w_fabric_done h he F (fun w => absurd w z) hB hk) fun (y : TFa) hy => ⟨rfl, hy⟩
end
theorem w_f2k (c r : Int) (hc : 1 ≤ c ∧ c ≤ 64) : D_f2k.wp (c, r) fun y => y.L.L = (List.range c.toNat).map zeroS ∧ y.Readers = r := by
  refine of_wp ?_
  simp only [tt_f2k]
  obtain ⟨n, rfl⟩ : ∃ n : Nat, c = n := ⟨c.toNat, by omega⟩
  rw [Int.toNat_natCast]
  refine loop_wp (tt := tt_f2k_3) (fun x : X_f2k_3 => x.places_0 = n ∧ ∃ k : Nat, x.i_6 = k ∧ k ≤ n ∧ x.m_5.L.n = k ∧ x.m_5.Readers = r ∧ ∀ i, i < k → x.m_5.L.get i = zeroS i) (fun x => (n - x.i_6).toNat)
    (fun _ y => y.L.L = (List.range n).map zeroS ∧ y.Readers = r) (fun D x hI hD => ?_) ⟨rfl, 0, rfl, Nat.zero_le _, rfl, rfl, fun i hi => by omega⟩
  obtain ⟨pl, i, m4, ⟨L, rd⟩⟩ := x
  obtain ⟨e0, k, e1, hk, hn, e2, hg⟩ := hI
  simp only at e0 e1 hn e2 hg hD
  subst e0 e1 e2 hn
  simp only [tt_f2k_3]
  refine wp_if ilI (fun h => wN (by simp [room]; omega) ?_) fun h => ⟨?_, rfl⟩
  · have e3 : IntKind.i64.wrap ((L.n : Int) + 1) = ((L.n + 1 : Nat) : Int) := by rw [wrap64] <;> omega
    rw [e3, wrapu64 (z := (L.n : Int)) (by omega) (by omega), wrapu64 (z := 2 * (L.n : Int)) (by omega) (by omega)]
    refine sl_ext (T' := snoc L (zeroS L.n)) (fun T => D.wp (⟨(n : Int), ((L.n + 1 : Nat) : Int), m4, ⟨T, rd⟩⟩ : X_f2k_3) _) rfl rfl (fun i => ?_) (hD _ ⟨rfl, L.n + 1, rfl, by omega, rfl, rfl, fun i hi => ?_⟩ (by simp only; omega))
    · show (⟨_, _, _⟩ : TSo) = cond (Nat.blt i L.n) _ _
      cases Nat.blt i L.n <;> rfl
    · by_cases q : i = L.n
      · subst q; exact snoc_eq
      · rw [show (snoc L (zeroS L.n)).get i = L.get i from snoc_lt (by omega)]; exact hg i (by omega)
  · have : L.n = n := by omega
    subst this
    apply List.ext_getElem
    · simp
    · intro i h1 h2
      rw [Sl.L_getE]
      simp only [List.getElem_map, List.getElem_range]
      exact hg i (by simpa using h1)
theorem w_f44 (c : TRg) (hc : rightRg c = true) : D_f44.wp c fun y => R3 c 1 y ∧ a13 y = mNewR c := by
  have hf := rg_facts hc
  refine of_wp ?_
  simp only [tt_f44]
  refine wN (by simp [upto, room, ile]; omega) (wC (w_f2k c.Cap c.Readers (by omega)) fun (y : TR2) hy => ?_)
  have e : ∀ {z : TR3}, a13 z = mNewR c → z.Cap = c.Cap → z.S.Readers = c.Readers → R3 c 1 z ∧ a13 z = mNewR c := fun a k1 k2 => ⟨⟨hc, k1, k2, by rw [a]; exact RInv.new hc (by decide), by decide⟩, a⟩
  refine e ?_ (wrapu64 (by omega) (by omega)) hy.2
  show (⟨0, _, false, y.L.L⟩ : MR) = _
  rw [hy.1, replicate_L]
  rfl
theorem w_f2l (p : TPg) (hp : okP p) (hP : PInv (aP p)) : D_f2l.wp p fun y => aS y = mNew (aP p) ∧ SV p 1 0 y := by
  obtain ⟨_, h8, hr8, _, hl⟩ := PInv_get hP
  refine of_wp ?_
  simp only [tt_f2l]
  refine wN (by simp [upto, room, ile]; omega) ?_
  rw [Int.toNat_natCast]
  refine loop_wp (tt := tt_f2l_3) (fun x : X_f2l_3 => x.p_1 = p ∧ ∃ k : Nat, x.i_4 = k ∧ k ≤ p.Rings.n ∧ x.m_3.Threads = ⟨false, p.Threads.n, fun _ => ⟨0, 0, 0, 0, 0, fun _ => 0, ⟨true, 0, fun _ => 0⟩⟩⟩ ∧ x.m_3.Now = 0 ∧ x.m_3.Reads = 0 ∧ x.m_3.Ended = false ∧ x.m_3.Rings.n = k ∧ ∀ i, i < k → aRS (x.m_3.Rings.get i) = mNewR (p.Rings.get i))
    (fun x => (p.Rings.n - x.i_4).toNat) (fun _ y => aS y = mNew (aP p) ∧ SV p 1 0 y) (fun D x hI hD => ?_) ⟨rfl, 0, rfl, Nat.zero_le _, rfl, rfl, rfl, rfl, rfl, fun i hi => by omega⟩
  obtain ⟨p', i, m2, ⟨mt, mr, mn, md, me⟩⟩ := x
  obtain ⟨e0, k, e1, hk, e2, e3, e4, e5, hn, hg⟩ := hI
  simp only at e0 e1 e2 e3 e4 e5 hn hg hD
  subst e0 e1 e2 e3 e4 e5 hn
  simp only [tt_f2l_3]
  refine wp_if ilI (fun h => ?_) fun h => ?_
  · have hkm : mr.n < p'.Rings.n := by omega
    refine wN (inb_nat hkm) ?_
    rw [Int.toNat_natCast]
    refine wC (w_f44 _ (rg_of hP hkm)) fun (y : TR3) hy => wC (w_f3d hy.1) fun (z : TRs) hz => wN (by simp [room]; omega) ?_
    rw [next64 hkm hp.rn]
    refine sl_ext (T' := snoc mr z) (fun T => D.wp (⟨p', ((mr.n + 1 : Nat) : Int), m2, ⟨_, T, 0, 0, false⟩⟩ : X_f2l_3) _) rfl rfl (fun i => ?_) (hD _ ⟨rfl, mr.n + 1, rfl, hkm, rfl, rfl, rfl, rfl, rfl, fun i hi => ?_⟩ (by simp only; omega))
    · show (⟨_, ⟨_, _, _⟩, _, ⟨_, _, _⟩⟩ : TRs) = cond (Nat.blt i mr.n) _ _
      cases Nat.blt i mr.n <;> rfl
    · by_cases q : i = mr.n
      · subst q; rw [show (snoc mr z).get mr.n = z from snoc_eq, hz.1, hy.2]
      · rw [show (snoc mr z).get i = mr.get i from snoc_lt (by omega)]; exact hg i (by omega)
  · have hrn : mr.n = p'.Rings.n := by omega
    have ea : ∀ {s : TSt}, s = ⟨⟨false, p'.Threads.n, fun _ => ⟨0, 0, 0, 0, 0, fun _ => 0, ⟨true, 0, fun _ => 0⟩⟩⟩, mr, 0, 0, false⟩ → aS s = mNew (aP p') := fun {s} hs => by
      subst hs
      unfold aS mNew
      simp only [MS.mk.injEq, and_true]
      refine ⟨?_, L_map_ext hrn fun i hi => hg i (hrn ▸ hi)⟩
      simp only [aP, List.map_map]
      exact L_map_ext rfl fun i _ => rfl
    have ea' := ea rfl
    exact ⟨ea', ⟨⟨hp, by rw [ea']; exact inv_new hP, fun t _ => TWf_zero 0, by decide, by decide⟩, by rw [ea']; exact UV_new⟩⟩
section
variable {p : TPg} {B : Int} {k : Nat} {f : TFa}
theorem w_fabric_Runs (t : Int) (f : TFa) (h0 : 0 ≤ t) (h1 : t < f.threads.n) : D_f1c.wp (t, f) fun y => y = ieq (f.threads.get t.toNat).Status 0 := by
  refine ro_wp ?_
  simp only [tt_f1c, Nat.zero_add]
  refine wC (w_fabric_has t f) fun (y : Bool) hy => ?_
  exact wp_ite (fun _ => wN (by rw [ibI]; exact ⟨h0, h1⟩) (wN (by simp) (wN (by simp) rfl))) fun q => absurd (hy.2 ⟨h0, h1⟩) q
theorem w_fabric_Seen (h : FC p B k f) {t : Int} (h0 : 0 ≤ t) (h1 : t < f.threads.n) : D_f1e.wp (t, f) fun y => y.L = (f.threads.get t.toNat).Seen.L ∧ y.n ≤ k := by
  have hk := h.hk
  have hw := h.wf.tw t.toNat (by omega)
  have hsb := hw.sb
  refine ro_wp ?_
  simp only [tt_f1e, Nat.zero_add]
  refine wC (w_fabric_has t f) fun (y : Bool) hy => ?_
  refine wp_if bnI (fun q => absurd (hy.2 ⟨h0, h1⟩) q) fun _ => wN (by rw [ibI]; exact ⟨h0, h1⟩) (wN (by simp) (wC (w_Clone_uint64 _ hw.sz (by omega)) fun (y : Sl Int) hy => wN (by simp) ⟨hy.1.L, by rw [hy.1.n]; exact hsb⟩))
theorem w_fabric_Now (f : TFa) : D_f1k.wp f fun y => y = f.now := ro_wp rfl
theorem w_fabric_Over (f : TFa) (hn : f.threads.n ≤ maxLen) : D_f1d.wp f fun y => y = true ↔ ∀ t, t < f.threads.n → (f.threads.get t).Status ≠ 0 := by
  have hI : D_f0.wp (⟨f.threads.n, f.threads.get⟩ : Ar TTh) fun y => 0 ≤ y ↔ ¬ ∀ t, t < f.threads.n → (f.threads.get t).Status ≠ 0 := by
    refine ro_wp ?_
    simp only [tt_f0]
    refine all_wp (fun k => (⟨f.threads.n, (k : Nat), ⟨f.threads.n, f.threads.get⟩⟩ : X_f0_2)) f.threads.n (fun t => (f.threads.get t).Status ≠ 0) _ (fun D hJ => ?_) (fun D k hk hD => ?_)
    · simp only [tt_f0_2, ilt_nat, Nat.lt_irrefl, decide_false, wp_false]
      exact ⟨fun h => absurd h (by show ¬ (0 : Int) ≤ -1; decide), fun h => absurd hJ h⟩
    · simp only [tt_f0_2, ilt_nat, hk, decide_true, wp_true, Int.toNat_natCast, Nat.zero_add, next64 hk hn]
      have h1 : D_f26.wp (f.threads.get k) fun y => y = true ↔ (f.threads.get k).Status = 0 := by
        refine of_wp ?_
        simp only [tt_f26]
        exact ieI
      refine wN (inb_nat hk) (wN (by simp) (wC h1 fun (y : Bool) hy => ?_))
      exact wp_if hy (fun h => ⟨fun _ k2 => k2 k hk h, fun _ => Int.natCast_nonneg k⟩) fun h => hD h
  have hC : D_fb.wp (⟨f.threads.n, f.threads.get⟩ : Ar TTh) fun y => y = true ↔ ¬ ∀ t, t < f.threads.n → (f.threads.get t).Status ≠ 0 := by
    refine ro_wp ?_
    simp only [tt_fb]
    exact wC hI fun (y : Int) hy => leI.trans hy
  refine ro_wp ?_
  simp only [tt_f1d]
  refine wC hC fun (y : Bool) hy => wN (by simp) (bnI.trans ?_)
  rw [hy]
  exact Decidable.not_not
theorem w_fabric_Ring (h : FC p B k f) (i : Int) : D_fh.wp (i, f) fun y => (0 ≤ i ∧ i < p.Rings.n → y.nil = false ∧ RWf (p.Rings.get i.toNat) y.x ∧ aR y.x = rng (aF f) i) ∧ (¬ (0 ≤ i ∧ i < p.Rings.n) → y.nil = true) := by
  have hfr := h.wf.rn
  refine ro_wp ?_
  simp only [tt_fh]
  refine wp_if ilI (fun q => ⟨fun z => by omega, fun _ => rfl⟩) fun q1 => wp_if leI (fun q => wN (by simp) ⟨fun z => by omega, fun _ => rfl⟩) fun q2 => wN (by simp) (of_wp ?_)
  have h0 : 0 ≤ i := by omega
  have h1 : i < p.Rings.n := by omega
  obtain ⟨hC, hnil, hrn⟩ := h.ring h0 h1
  have hi : i.toNat < p.Rings.n := by omega
  have hcp := h.wf.cp
  have hb := h.hB
  simp only [tt_fh_3, Nat.zero_add]
  refine wN (by rw [ibI, hcp.r.n]; omega) (wN (by rw [ibI]; omega) (wN (by simp [hnil]) (wC (w_ring_State (p.Rings.get i.toNat) _ hC.rg hC.wf) fun (s : TRs) hs => ?_)))
  obtain ⟨e1, e2, e3⟩ := hs
  rw [hcp.r.g _ hi]
  have hI := hC.inv
  rw [← e1] at hI
  refine wC (w_fd (p.Rings.get i.toNat) s hC.rg (okRS_of hC.rg hI (by omega) e2 e3)) fun (z : Bx TRr × Int) hz => wN (by simp [hnil]; omega) (wp_side' (wN (by simp) ?_))
  rcases hz with ⟨_, _, zn, zw, za⟩ | ⟨hno, _⟩
  · exact ⟨fun _ => ⟨zn, zw, by rw [za, e1, hrn]⟩, fun z => absurd ⟨h0, h1⟩ z⟩
  · exact absurd (ringL_of hC.rg hI (by omega)) hno
theorem w_ring_State_b0 (c : TRg) (r : Bx TRr) (hc : rightRg c = true) (hn0 : r.nil = false) (h : RWf c r.x) : D_f2j.wp r fun y => aRS y = aR r.x ∧ SlOk y.Heads ∧ SlOk y.Slots := by
  have hf := rg_facts hc
  have hn := h.hn
  have ln := h.ln
  refine of_wp ?_
  simp only [tt_f2j]
  refine wN (by simp [hn0]) (wN (by simp [h.sn]) ?_)
  refine wC (w_Clone_uint64_o0 ⟨r.x.cursors.heads.n, r.x.cursors.heads.get⟩ (by show 0 < r.x.cursors.heads.n; omega) (by show r.x.cursors.heads.n * 8 ≤ _; omega)) fun (y : Sl Int) hy => ?_
  refine wC (w_slots_All r.x.s.x (by omega) (by omega)) fun (z : Sl TSo) hz => wN (by simp) ?_
  have e : y.L = r.x.cursors.heads.L := hy.1.L
  refine ⟨?_, hy.2, hz.2⟩
  show (⟨r.x.cursors.tail, y.L, r.x.closed, z.L⟩ : MR) = _
  rw [e, hz.1.L]; rfl
theorem lenM_FC (h : FC p B k f) : lenM (aF f) where
  tn := by have := h.small; have := h.wf.tn; have : (8 : Nat) ≤ maxLen := by decide
           simp [aF]; omega
  rn := by have := h.small; have := h.wf.rn; have : (8 : Nat) ≤ maxLen := by decide
           simp [aF]; omega
  ts t ht := by
    have hk := h.hk
    have : (1000000000 : Nat) ≤ maxLen := by decide
    simp only [aF, List.mem_map] at ht
    obtain ⟨x, hx, rfl⟩ := ht
    obtain ⟨i, hi, rfl⟩ := Sl.mem_L.1 hx
    have := (h.wf.tw i hi).sb
    simp only [aT, Sl.L_length]; omega
  rs r hr := by
    have : (64 : Nat) ≤ maxLen := by decide
    have hrn := h.wf.rn
    simp only [aF, List.mem_map] at hr
    obtain ⟨x, hx, rfl⟩ := hr
    obtain ⟨i, hi, rfl⟩ := Sl.mem_L.1 hx
    obtain ⟨hC, _⟩ := h.ring (i := (i : Int)) (Int.natCast_nonneg i) (by omega)
    rw [Int.toNat_natCast] at hC
    have := hC.hn
    have := hC.ln
    simp only [aR, Sl.L_length]; omega
theorem law_agrees (s : TSt) {B' : Int} {k' : Nat} (h : FC p B k f) (hs : SV p B' k' s) (he : aF f = aS s) : D_f2.wp (p, (s, f)) fun y => y = true := by
  have htn := h.wf.tn
  have hrn := h.wf.rn
  have hsn := hs.sc.tn
  have hsr := hs.sc.rn
  have hsm := h.small
  have h8 : (8 : Nat) ≤ maxLen := by decide
  have hm : (1000000000 : Nat) ≤ maxLen := by decide
  have hth : ∀ t, t < p.Threads.n → aT (f.threads.get t) = aT (s.Threads.get t) := fun t ht => by
    have e : thr (aF f) (t : Int) = thr (aS s) (t : Int) := by rw [he]
    rw [thr_aF (Int.natCast_nonneg t) (by omega), thr_aS (Int.natCast_nonneg t) (by omega), Int.toNat_natCast] at e
    exact e
  refine ro_wp ?_
  simp only [tt_f2]
  -- the end
  have h18 : ∀ ov : Bool, (ov = true ↔ ∀ t, t < p.Threads.n → (s.Threads.get t).Status ≠ 0) → D_f2_18.wp (⟨s, ov, f⟩ : X_f2_18) fun y => y.1 = true := fun ov hov => by
    refine of_wp ?_
    simp only [tt_f2_18]
    refine wC (w_fabric_Over f (by omega)) fun (y : Bool) hy => ?_
    have : y = ov := bool_of (hy.trans (by
      rw [hov, htn]
      exact ⟨fun q t ht => by have := q t ht; rwa [show (f.threads.get t).Status = (s.Threads.get t).Status from congrArg MT.Status (hth t ht)] at this, fun q t ht => by have := q t ht; rwa [← show (f.threads.get t).Status = (s.Threads.get t).Status from congrArg MT.Status (hth t ht)] at this⟩))
    subst this
    refine wp_ite (fun _ => wC (w_fabric_Now f) fun (y : Int) hy => ?_) fun q => absurd (by simp) q
    subst hy
    have hnow : f.now = s.Now := congrArg MS.Now he
    refine wp_if ieI (fun _ => wC (w_fabric_Ring h _) fun (y : Bx TRr) hy => ?_) fun q => absurd hnow q
    refine wp_ite (fun _ => wC (w_fabric_Ring h _) fun (y : Bx TRr) hy => ?_) fun q => absurd (hy.2 (by omega)) q
    refine wp_ite (fun _ => wC (w_fabric_State p k f (by have := h.hk; omega) h.inv.pi h.wf) fun (y : TSt) hy => ?_) fun q => absurd (hy.2 (by omega)) q
    exact wC (w_fj y s (hy.1.trans he) (by rw [hy.1]; exact lenM_FC h)) fun (z : Bool) hz => hz
  have h13 : ∀ ov : Bool, (ov = true ↔ ∀ t, t < p.Threads.n → (s.Threads.get t).Status ≠ 0) → D_f2_13.wp (⟨s, ov, s.Rings.n, 0, f⟩ : X_f2_13) fun y => y.1 = true := fun ov hov => by
    refine all_wp (fun k => (⟨s, ov, s.Rings.n, (k : Nat), f⟩ : X_f2_13)) s.Rings.n (fun _ => True) _ (fun D hJ => ?_) (fun D k hk hD => ?_)
    · simp only [tt_f2_13, ilt_nat, Nat.lt_irrefl, decide_false, wp_false]
      exact h18 ov hov
    · simp only [tt_f2_13, ilt_nat, hk, decide_true, wp_true, Int.toNat_natCast]
      refine wC (w_fabric_Ring h _) fun (y : Bx TRr) hy => ?_
      obtain ⟨yn, yw, ya⟩ := hy.1 (by omega)
      rw [Int.toNat_natCast] at yw
      have hrg := rg_of h.inv.pi (show k < p.Rings.n by omega)
      refine wC (w_ring_State_b0 _ y hrg yn yw) fun (z : TRs) hz => wN (inb_nat hk) ?_
      have hf := rg_facts hrg
      have hzr := hz.1
      have e : aRS z = aRS (s.Rings.get k) := by
        rw [hz.1, ya, he, rng_aS (Int.natCast_nonneg k) (by omega), Int.toNat_natCast]
      have l1 := congrArg (fun m : MR => m.Heads.length) hzr
      have l2 := congrArg (fun m : MR => m.Slots.length) hzr
      simp only [aRS, aR, Sl.L_length] at l1 l2
      have hn := yw.hn
      have ln := yw.ln
      have m64 : (64 : Nat) ≤ maxLen := by decide
      refine wC (w_f18 z (s.Rings.get k) e (by omega) (by omega)) fun (w : Bool) hw => ?_
      subst hw
      refine wp_ite (fun q => by simp at q) fun _ => ?_
      have e2 : IntKind.i64.wrap ((k : Int) + 1) = ((k + 1 : Nat) : Int) := by rw [wrap64] <;> omega
      rw [e2]
      exact hD trivial
  -- the threads
  refine loop_wp (tt := tt_f2_3) (fun x : X_f2_3 => x.p_4 = p ∧ x.s_5 = s ∧ x.q_16 = s.Threads.n ∧ x.o_0 = f ∧ ∃ k : Nat, x.q_17 = k ∧ k ≤ s.Threads.n ∧ (x.over_7 = true ↔ ∀ t, t < k → (s.Threads.get t).Status ≠ 0)) (fun x => (s.Threads.n - x.q_17).toNat)
    (fun _ y => y.1 = true) (fun D x hI hD => ?_) ⟨rfl, rfl, rfl, rfl, 0, rfl, Nat.zero_le _, fun _ t ht => by omega, fun _ => rfl⟩
  obtain ⟨p4, s5, ov, q16, q17, o⟩ := x
  obtain ⟨e0, e1, e2, e3, t, e4, htl, hov⟩ := hI
  simp only at e0 e1 e2 e3 e4 hov hD
  subst e0 e1 e2 e3 e4
  simp only [tt_f2_3]
  refine wp_if ilI (fun hlt => ?_) fun hge => of_wp ?_
  · have hts : t < s5.Threads.n := by omega
    refine wC (w_fabric_Ask h _) fun (y : TAk × Int) hy => wN (inb_nat hts) ?_
    obtain ⟨y2, ya⟩ := hy (by omega)
    rw [Int.toNat_natCast]
    have e2 : IntKind.i64.wrap ((t : Int) + 1) = ((t + 1 : Nat) : Int) := by rw [wrap64] <;> omega
    have h9 : ∀ (ov' : Bool), (ov' = true ↔ ∀ j, j < t + 1 → (s5.Threads.get j).Status ≠ 0) →
        (D_f2_9 D).wp (⟨p4, s5, ov', t, y.2, ieq (s5.Threads.get t).Status 0, s5.Threads.n, t, o, ⟨y.1.Kind, y.1.Ring, y.1.Mode, y.1.Reader, y.1.Ticket, y.1.Value⟩⟩ : X_f2_9) fun y => y.1 = true := fun ov' hov' => by
      refine of_wp ?_
      simp only [tt_f2_9]
      refine wp_if (p := y.2 ≠ 0) (by rw [bnI, ieI]) (fun q => absurd y2 q) fun _ => wC (w_f3n hs.sc (t := (t : Int)) (Int.natCast_nonneg t) (by omega)) fun (z : TA6) hz => ?_
      have eq : aA y.1 = aA16 z := by rw [ya, hz, he]
      simp only [aA, aA16, MA.mk.injEq] at eq
      obtain ⟨q1, q2, q3, q4, q5, q6⟩ := eq
      refine wp_ite (fun q => by simp [q1, q2, q3, q4, q5, q6, ieq] at q) fun _ => wC (w_fabric_Runs (t : Int) o (Int.natCast_nonneg t) (by omega)) fun (w : Bool) hw => ?_
      rw [Int.toNat_natCast, show (o.threads.get t).Status = (s5.Threads.get t).Status from congrArg MT.Status (hth t (by omega))] at hw
      subst hw
      refine wp_ite (fun q => by simp at q) fun _ => wC (w_fabric_Seen h (t := (t : Int)) (Int.natCast_nonneg t) (by omega)) fun (w : Sl Int) hw => wN (inb_nat hts) ?_
      rw [Int.toNat_natCast] at hw ⊢
      have hk := h.hk
      refine wC (w_f23 w (s5.Threads.get t).Seen (by rw [hw.1]; exact congrArg MT.Seen (hth t (by omega))) (by omega)) fun (u : Bool) hu => ?_
      subst hu
      refine wp_ite (fun q => by simp at q) fun _ => of_wp ?_
      simp only [tt_f2_11, e2]
      exact hD _ ⟨rfl, rfl, rfl, rfl, t + 1, rfl, by omega, hov'⟩ (by simp only; omega)
    have hst : (!(ieq (s5.Threads.get t).Status 0)) = true ↔ (s5.Threads.get t).Status ≠ 0 := by rw [bnI, ieI]
    refine wp_ite (fun q => h9 _ ?_) fun q => h9 _ ?_
    · rw [hst]
      have q := hov.1 q
      refine ⟨fun z j hj => ?_, fun z => z t (by omega)⟩
      by_cases w : j = t
      · subst w; exact z
      · exact q j (by omega)
    · exact ⟨fun z => (by cases z), fun z => absurd (hov.2 fun j hj => z j (by omega)) q⟩
  · have : t = s5.Threads.n := by omega
    subst this
    simp only [tt_f2_12]
    exact h13 ov (by rw [hov, hsn])
end
theorem law_Few (p : TPg) (hp : okP p) : D_f1q.wp (p, 100) fun y => y = true → p.Rings.n ≤ 10 ∧ p.Threads.n ≤ 10 ∧ ∀ t, t < p.Threads.n → (p.Threads.get t).n ≤ 100 := by
  refine of_wp ?_
  simp only [tt_f1q]
  refine wp_if ilI (fun _ => fun h => by cases h) fun h1 => wp_if ilI (fun _ => fun h => by cases h) fun h2 => of_wp ?_
  simp only [tt_f1q_3]
  refine loop_wp (tt := tt_f1q_5) (fun x : X_f1q_5 => x.most_1 = 100 ∧ x.p_2 = p ∧ ∃ k : Nat, x.i_6 = k ∧ k ≤ p.Threads.n ∧ ∀ t, t < k → (p.Threads.get t).n ≤ 100) (fun x => (p.Threads.n - x.i_6).toNat) (fun _ y => y = true → p.Rings.n ≤ 10 ∧ p.Threads.n ≤ 10 ∧ ∀ t, t < p.Threads.n → (p.Threads.get t).n ≤ 100) (fun D x hI hD => ?_) ⟨rfl, rfl, 0, rfl, Nat.zero_le _, fun t ht => by omega⟩
  obtain ⟨m, p', n, i⟩ := x
  obtain ⟨e0, e1, k, e2, hk, hg⟩ := hI
  simp only at e0 e1 e2 hg hD
  subst e0 e1 e2
  simp only [tt_f1q_5]
  refine wp_if ilI (fun h => ?_) fun h => fun _ => ⟨by omega, by omega, fun t ht => hg t (by omega)⟩
  have hkm : k < p'.Threads.n := by omega
  refine wN (inb_nat hkm) ?_
  rw [Int.toNat_natCast]
  refine wp_if ilI (fun _ => fun h => by cases h) fun h3 => wN (inb_nat hkm) ?_
  rw [next64 hkm hp.tn]
  refine hD _ ⟨rfl, rfl, k + 1, rfl, hkm, fun t ht => ?_⟩ (by simp only; omega)
  by_cases e : t = k
  · subst e; omega
  · exact hg t (by omega)
theorem law_f3v (p : TPg) (hp : okP p) : D_f3v.wp p fun y => y = true ↔ PInv (aP p) := by
  refine of_wp ?_
  simp only [tt_f3v]
  exact wC (w_f3u p hp) fun (y : Bool) hy => hy
theorem law_few (p : TPg) (hp : okP p) : D_f47.wp p fun y => y = true → PInv (aP p) := by
  refine of_wp ?_
  simp only [tt_f47]
  refine wC (law_Few p hp) fun (y : Bool) _ => wp_ite (fun _ => wC (law_f3v p hp) fun (z : Bool) hz => hz.1) fun _ => fun h => by cases h
theorem w17_awake_ev : D_f3i.ev 1000 PUnit.unit = some true := by kernel_rfl
theorem law_awake : D_f3i.wp PUnit.unit fun y => y = true := ⟨true, D_f3i.evOK 1000 _ _ w17_awake_ev, rfl⟩
structure okL (l : Sl TEv) : Prop where
  n : l.n ≤ maxLen
  e : ∀ i, i < l.n → okE (l.get i)
theorem FC_new {p q : TPg} (hp : okP p) (hc : CopyP q p) (hP : PInv (aP p)) {f : TFa} (hF : FWf q 0 f) (ha : aF f = mNew (aP q)) : FC p 1 0 f ∧ aF f = mNew (aP p) := by
  have hqp := hc.same
  rw [hqp] at ha
  have h1 := hF.cp
  have cp : CopyP f.p p := ⟨⟨h1.r.n.trans hc.r.n, fun i hi => (h1.r.g i (by rw [hc.r.n]; exact hi)).trans (hc.r.g i hi)⟩, h1.rz, h1.n.trans hc.n, fun t ht => by
    have a := h1.t t (by rw [hc.n]; exact ht)
    have b := (hc.t t ht).1
    exact ⟨⟨a.1.n.trans b.n, fun i hi => (a.1.g i (by rw [b.n]; exact hi)).trans (b.g i hi)⟩, a.2⟩⟩
  refine ⟨⟨hp, by rw [ha]; exact inv_new hP, ⟨cp, hF.tn.trans hc.n, hF.tw, hF.rn.trans hc.r.n, fun i hi => ?_⟩, by rw [ha]; exact UV_new, by decide, by decide⟩, ha⟩
  have := hF.rw i hi
  have hi' : i < p.Rings.n := by have := hF.rn; have := hc.r.n; omega
  rw [hc.r.g i hi'] at this
  exact this
theorem copy_refl {p : TPg} (hp : okP p) : CopyP p p := ⟨SameS.refl _, hp.rz, rfl, fun t ht => ⟨SameS.refl _, hp.lz t ht⟩⟩
section
variable {p : TPg} {B : Int} {k : Nat} {f : TFa} {s : TSt}
theorem law_State (h : FC p B k f) (he : aF f = aS s) (y : TSt) (hy : aS y = aF f ∧ StOk k y) : D_fj.wp (y, s) fun z => z = true :=
  w_fj y s (hy.1.trans he) (by rw [hy.1]; exact lenM_FC h)
theorem wp_State (h : FC p B k f) : D_f3.wp f fun y => aS y = aF f ∧ StOk k y := w_fabric_State p k f (by have := h.hk; omega) h.inv.pi h.wf
end
theorem law_FabricFeeds (p : TPg) (l : Sl TEv) (hp : okP p) (hl : okL l) : D_f9.wp (p, l) fun y => y = true := by
  refine of_wp ?_
  simp only [tt_f9]
  have aw : ∀ {k : Bool → TT Tryz.prog R_f9} {Q}, (k true).wp Q → (TT.call con_f3i PUnit.unit k).wp Q := fun h => wC law_awake fun (y : Bool) hy => by subst hy; exact h
  refine aw (wp_ite (fun h => by simp at h) fun _ => ?_)
  refine wC (law_few p hp) fun (y : Bool) hy => wp_if bnI (fun _ => aw rfl) fun hf => wp_if ilI (fun _ => aw rfl) fun hl80 => of_wp ?_
  have hP := hy (Classical.byContradiction hf)
  simp only [tt_f9_3]
  refine wC (w_f19 p hp 0) fun (y : Bx TFa × Int) hy => wC (w_f2l p hp hP) fun (s : TSt) hs => ?_
  rcases hy with ⟨_, y2, yn, yF, ya⟩ | ⟨hno, _⟩
  rotate_left
  · exact absurd hP hno
  obtain ⟨hFC, ya⟩ := FC_new hp (copy_refl hp) hP yF ya
  refine wN (by simp [yn]) ?_
  refine loop_wp (tt := tt_f9_8) (fun x : X_f9_8 => x.p_2 = p ∧ x.q_35 = l ∧ x.q_36 = l.n ∧ ∃ k : Nat, x.q_37 = k ∧ k ≤ l.n ∧ FC p (1 + k) k x.n_5 ∧ SV p (1 + k) k x.m_7 ∧ aF x.n_5 = aS x.m_7) (fun x => (l.n - x.q_37).toNat) (fun _ y => y = true) (fun D x hI hD => ?_)
    ⟨rfl, rfl, rfl, 0, rfl, Nat.zero_le _, hFC, hs.2, ya.trans hs.1.symm⟩
  obtain ⟨p', l', q57, q58, s', f'⟩ := x
  obtain ⟨e0, e1, e2, k, e3, hk, hF, hS, he⟩ := hI
  simp only at e0 e1 e2 e3 hF hS he hD
  subst e0 e1 e2 e3
  simp only [tt_f9_8]
  refine wp_if ilI (fun h => ?_) fun h => of_wp ?_
  · have hkm : k < l'.n := by omega
    have hE := hl.e k hkm
    refine wN (inb_nat hkm) ?_
    rw [Int.toNat_natCast]
    refine wC (w_fabric_Feed hF hE (by omega) (by omega)) fun (y : Int × TFa) hy => wC (w_f2e hS hE (by omega) (by omega)) fun (z : Int × TSt) hz => ?_
    obtain ⟨y1, y2, y3⟩ := hy
    obtain ⟨z1, z2, z3⟩ := hz
    rw [he] at y1 y2
    refine wp_if (p := y.1 ≠ z.1) (by rw [bnI, ieI]) (fun e => absurd (y1.trans z1.symm) e) fun _ => ?_
    have he2 : aF y.2 = aS z.2 := y2.trans z2.symm
    refine wC (wp_State y3) fun (w : TSt) hw => wC (law_State y3 he2 w hw) fun (u : Bool) hu => ?_
    subst hu
    refine wp_ite (fun e => by simp at e) fun _ => of_wp ?_
    simp only [tt_f9_15, next64 hkm hl.n]
    exact hD _ ⟨rfl, rfl, rfl, k + 1, rfl, hkm, by rw [show (1 : Int) + ((k + 1 : Nat) : Int) = 1 + k + 1 by omega]; exact y3, by rw [show (1 : Int) + ((k + 1 : Nat) : Int) = 1 + k + 1 by omega]; exact z3, he2⟩ (by simp only; omega)
  · simp only [tt_f9_16]
    exact wC (law_agrees s' hF hS he) fun (w : Bool) hw => hw
def ok_TRg (x : TRg) : Prop := (fun n => (Lit.int .i64 n).wf = true) x.Kind ∧ (fun n => (Lit.int .i64 n).wf = true) x.Cap ∧ (fun n => (Lit.int .i64 n).wf = true) x.Readers ∧ True
noncomputable def fl_TRg_0 : Field := (flds Tryz.prog 98).toList.getD 0 default
noncomputable def fl_TRg_1 : Field := (flds Tryz.prog 98).toList.getD 1 default
noncomputable def fl_TRg_2 : Field := (flds Tryz.prog 98).toList.getD 2 default
theorem op_TRg : Opens Tryz.prog 98 e_TRg ok_TRg :=
  Opens.map (opens_struct (fs := flds Tryz.prog 98) (l := fl_TRg_0 :: fl_TRg_1 :: fl_TRg_2 :: []) (by kernel_rfl) (by kernel_rfl) (by kernel_rfl)
    (opens_cons (u := 3) (s := 1) (by kernel_rfl) (by kernel_rfl) (by kernel_rfl) (opens_int (k := .i64) (by kernel_rfl)) (opens_cons (u := 3) (s := 1) (by kernel_rfl) (by kernel_rfl) (by kernel_rfl) (opens_int (k := .i64) (by kernel_rfl)) (opens_cons (u := 3) (s := 1) (by kernel_rfl) (by kernel_rfl) (by kernel_rfl) (opens_int (k := .i64) (by kernel_rfl)) opens_nil)))) (fun x => ⟨x.1, x.2.1, x.2.2.1⟩) (fun _ => rfl) (fun _ h => h)
def ok_TIn (x : TIn) : Prop := (fun n => (Lit.int .i64 n).wf = true) x.Op ∧ (fun n => (Lit.int .i64 n).wf = true) x.A ∧ (fun n => (Lit.int .i64 n).wf = true) x.B ∧ (fun n => (Lit.int .i64 n).wf = true) x.C ∧ (fun n => (Lit.int .i64 n).wf = true) x.D ∧ (fun n => (Lit.int .u64 n).wf = true) x.K ∧ True
noncomputable def fl_TIn_0 : Field := (flds Tryz.prog 81).toList.getD 0 default
noncomputable def fl_TIn_1 : Field := (flds Tryz.prog 81).toList.getD 1 default
noncomputable def fl_TIn_2 : Field := (flds Tryz.prog 81).toList.getD 2 default
noncomputable def fl_TIn_3 : Field := (flds Tryz.prog 81).toList.getD 3 default
noncomputable def fl_TIn_4 : Field := (flds Tryz.prog 81).toList.getD 4 default
noncomputable def fl_TIn_5 : Field := (flds Tryz.prog 81).toList.getD 5 default
theorem op_TIn : Opens Tryz.prog 81 e_TIn ok_TIn :=
  Opens.map (opens_struct (fs := flds Tryz.prog 81) (l := fl_TIn_0 :: fl_TIn_1 :: fl_TIn_2 :: fl_TIn_3 :: fl_TIn_4 :: fl_TIn_5 :: []) (by kernel_rfl) (by kernel_rfl) (by kernel_rfl)
    (opens_cons (u := 3) (s := 1) (by kernel_rfl) (by kernel_rfl) (by kernel_rfl) (opens_int (k := .i64) (by kernel_rfl)) (opens_cons (u := 3) (s := 1) (by kernel_rfl) (by kernel_rfl) (by kernel_rfl) (opens_int (k := .i64) (by kernel_rfl)) (opens_cons (u := 3) (s := 1) (by kernel_rfl) (by kernel_rfl) (by kernel_rfl) (opens_int (k := .i64) (by kernel_rfl)) (opens_cons (u := 3) (s := 1) (by kernel_rfl) (by kernel_rfl) (by kernel_rfl) (opens_int (k := .i64) (by kernel_rfl)) (opens_cons (u := 3) (s := 1) (by kernel_rfl) (by kernel_rfl) (by kernel_rfl) (opens_int (k := .i64) (by kernel_rfl)) (opens_cons (u := 35) (s := 1) (by kernel_rfl) (by kernel_rfl) (by kernel_rfl) (opens_int (k := .u64) (by kernel_rfl)) opens_nil))))))) (fun x => ⟨x.1, x.2.1, x.2.2.1, x.2.2.2.1, x.2.2.2.2.1, x.2.2.2.2.2.1⟩) (fun _ => rfl) (fun _ h => h)
def ok_TPg (x : TPg) : Prop := (okSl ok_TRg) x.Rings ∧ (okSl (okSl ok_TIn)) x.Threads ∧ True
noncomputable def fl_TPg_0 : Field := (flds Tryz.prog 25).toList.getD 0 default
noncomputable def fl_TPg_1 : Field := (flds Tryz.prog 25).toList.getD 1 default
theorem op_TPg : Opens Tryz.prog 25 e_TPg ok_TPg :=
  Opens.map (opens_struct (fs := flds Tryz.prog 25) (l := fl_TPg_0 :: fl_TPg_1 :: []) (by kernel_rfl) (by kernel_rfl) (by kernel_rfl)
    (opens_cons (u := 22) (s := 1) (by kernel_rfl) (by kernel_rfl) (by kernel_rfl) (opens_slice (e := 98) (s := 3) (d_TRg .undef) (by kernel_rfl) (by kernel_rfl) (by decide) (op_TRg)) (opens_cons (u := 23) (s := 1) (by kernel_rfl) (by kernel_rfl) (by kernel_rfl) (opens_slice (e := 82) (s := 1) (dsl_TIn .undef) (by kernel_rfl) (by kernel_rfl) (by decide) (opens_slice (e := 81) (s := 6) (d_TIn .undef) (by kernel_rfl) (by kernel_rfl) (by decide) (op_TIn))) opens_nil))) (fun x => ⟨x.1, x.2.1⟩) (fun _ => rfl) (fun _ h => h)
def ok_TEv (x : TEv) : Prop := (fun n => (Lit.int .i64 n).wf = true) x.Thread ∧ (fun n => (Lit.int .i64 n).wf = true) x.Kind ∧ (fun n => (Lit.int .i64 n).wf = true) x.Ring ∧ (fun n => (Lit.int .u64 n).wf = true) x.Ticket ∧ (fun n => (Lit.int .u64 n).wf = true) x.Value ∧ True
noncomputable def fl_TEv_0 : Field := (flds Tryz.prog 46).toList.getD 0 default
noncomputable def fl_TEv_1 : Field := (flds Tryz.prog 46).toList.getD 1 default
noncomputable def fl_TEv_2 : Field := (flds Tryz.prog 46).toList.getD 2 default
noncomputable def fl_TEv_3 : Field := (flds Tryz.prog 46).toList.getD 3 default
noncomputable def fl_TEv_4 : Field := (flds Tryz.prog 46).toList.getD 4 default
theorem op_TEv : Opens Tryz.prog 46 e_TEv ok_TEv :=
  Opens.map (opens_struct (fs := flds Tryz.prog 46) (l := fl_TEv_0 :: fl_TEv_1 :: fl_TEv_2 :: fl_TEv_3 :: fl_TEv_4 :: []) (by kernel_rfl) (by kernel_rfl) (by kernel_rfl)
    (opens_cons (u := 3) (s := 1) (by kernel_rfl) (by kernel_rfl) (by kernel_rfl) (opens_int (k := .i64) (by kernel_rfl)) (opens_cons (u := 3) (s := 1) (by kernel_rfl) (by kernel_rfl) (by kernel_rfl) (opens_int (k := .i64) (by kernel_rfl)) (opens_cons (u := 3) (s := 1) (by kernel_rfl) (by kernel_rfl) (by kernel_rfl) (opens_int (k := .i64) (by kernel_rfl)) (opens_cons (u := 35) (s := 1) (by kernel_rfl) (by kernel_rfl) (by kernel_rfl) (opens_int (k := .u64) (by kernel_rfl)) (opens_cons (u := 35) (s := 1) (by kernel_rfl) (by kernel_rfl) (by kernel_rfl) (opens_int (k := .u64) (by kernel_rfl)) opens_nil)))))) (fun x => ⟨x.1, x.2.1, x.2.2.1, x.2.2.2.1, x.2.2.2.2.1⟩) (fun _ => rfl) (fun _ h => h)
theorem given_Program : Given Tryz.prog 25 e_TPg ok_TPg :=
  given_struct (fs := flds Tryz.prog 25) (by kernel_rfl) op_TPg (fun _ => rfl) (fun _ => rfl)
theorem okP_of {p : TPg} (h : ok_TPg p) : okP p := by
  obtain ⟨⟨rz, rn, rr⟩, ⟨_, tn, tt⟩, _⟩ := h
  refine ⟨rn, tn, fun t ht => (tt t ht).2.1, fun t ht k hk => ?_, rz, fun t ht => (tt t ht).1⟩
  obtain ⟨_, a, b, c, d, k, _⟩ := (tt t ht).2.2 k hk
  have a := wf_i64 a; have b := wf_i64 b; have c := wf_i64 c; have d := wf_i64 d
  exact ⟨wf_u64 k, by omega, by omega, by omega, by omega⟩
theorem given_Events : Given Tryz.prog 44 esl_TEv (okSl ok_TEv) :=
  given_leaf (cells_slice (e := 46) (by kernel_rfl)) (opens_slice (e := 46) (s := 5) (d_TEv .undef) (by kernel_rfl) (by kernel_rfl) (by decide) op_TEv) (fun _ => rfl) (fun _ => rfl)
theorem okE_of {e : TEv} (h : ok_TEv e) : okE e := by
  obtain ⟨_, _, _, t, v, _⟩ := h
  exact ⟨wf_u64 t, wf_u64 v⟩
theorem okL_of {l : Sl TEv} (h : okSl ok_TEv l) : okL l := ⟨h.2.1, fun i hi => okE_of (h.2.2 i hi)⟩

open Go.ChangeShapes Go.WideShapes Go.ChangeAt Go.RowKit
theorem Tryz.own : ownKnob Tryz.prog.godebug = none := by kernel_rfl
theorem Tryz.laidOut : laidOutB Tryz.prog = true := by kernel_rfl
theorem Tryz.rowed : mapsRowed Tryz.prog = true := by kernel_rfl
theorem Tryz.full : ∀ t e, t < Tryz.prog.types.size → Tryz.prog.underlying t = some (.slice e) → 0 < Tryz.prog.cellsOf e := slices_full_of Tryz.prog (by kernel_rfl)
def zeroProgram : Value := .agg #[.slice none 0 0, .slice none 0 0]
open Go.ChangeShapes Go.WideShapes Go.ChangeAt Go.RowKit
theorem fabricFeeds_lifted (os : Os) (started : os.Started) (H : Type) (enc : TypeId × Value → H) :
    ReturnsInHanded {} Tryz.checked os 8 .any (Rows.fabricFeedsSpec.pre6 enc Tryz.prog Tryz.f8 Rows.fabricFeedsRow.domain false) (Rows.fabricFeedsSpec.post enc Tryz.prog Tryz.f8 false true false false) := by
  refine lifted (tb := 4) (C := Tryz.checked) Tryz.own started (by kernel_rfl) Tryz.func8
    (ChangeSpec.witness6 (enc := enc) (C := Tryz.checked) false ⟨#[], #[zeroProgram, .slice none 0 0], []⟩ 8 (by kernel_rfl) (by kernel_rfl) (by kernel_rfl) (by kernel_rfl)) Tryz.laidOut Tryz.rowed Tryz.full
    (by kernel_rfl) rfl rfl (by kernel_rfl) ?_ ?_
  · intro ds hl
    match ds, hl with
    | [_, _], _ => rfl
  · intro W base args ds ps hval hA
    rw [Tryz.params8] at hA hval
    obtain ⟨v0, v1, d0, d1, p0, p1, rfl, rfl, rfl, h0, h1⟩ := trodAll_two hA
    obtain ⟨a, ha, ra⟩ := given_Program H enc W base v0 d0 p0 (hval 0 25 v0 rfl rfl) h0
    obtain ⟨b, hb, rb⟩ := given_Events H enc W base v1 d1 p1 (hval 1 44 v1 rfl rfl) h1
    obtain ⟨y, hy, rfl⟩ := law_FabricFeeds a b (okP_of ha) (okL_of hb)
    refine calls_bool (con_f9.ok (a, b) true hy) (fun j x v hx hv => ?_) rfl
    match j, hx, hv with
    | 0, hx, hv => change some (e_TPg a) = some x at hx; cases hx; simp at hv; subst hv; exact ra
    | 1, hx, hv => change some (esl_TEv b) = some x at hx; cases hx; simp at hv; subst hv; exact rb
theorem fabricFeeds_holds : Rows.FabricFeedsSaid :=
  OpenClaim.holds_of_wide 8 Tryz.f8 rfl rfl rfl rfl rfl rfl rfl ⟨rfl, rfl, rfl, rfl, rfl⟩ rfl rfl rfl rfl rfl (by kernel_rfl) Tryz.func8 (by kernel_rfl)
    (of_decide_eq_true (by kernel_rfl)) (by unfold Func.isWrapper; first | (rw [if_pos (by decide +kernel)]; kernel_rfl) | (rw [if_neg (by decide +kernel)]; exact ⟨rfl, rfl⟩))
    (fun os started H enc _ => fabricFeeds_lifted os started H enc)
end Go.Proofs.YtiplcdhnjennfaaGreat
