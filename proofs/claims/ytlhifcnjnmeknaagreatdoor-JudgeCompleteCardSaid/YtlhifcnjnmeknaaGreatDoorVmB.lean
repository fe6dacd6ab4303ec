/- Of an abstract machine over the model, part B: no statement is proved here. -/
import Derived.Test.YtlhifcnjnmeknaaGreatDoorVmA
import Derived.Calls
import Derived.Orders
section
namespace Go.Vm
open Go
section
variable {P : Program} {Γ : Ctx} {F : AF} {w : World} {ρ : Names} {fam : Et} {s : St} {a : Act} {o : Oper} {kn : Nat → Option Bool} {pol : Nat → Nat} {e : FF}
theorem Ac.drew (hm : Mem Γ w F) (hs : Ac Γ F w ρ fam s a.tmps) : Mem Γ w.drew F ∧ Ac Γ F w.drew ρ fam s a.tmps :=
 ⟨⟨hm.ext.trans (Ext.drew w), hm.sub, hm.fresh, hm.BD, hm.live⟩, hs.BD (Ext.drew w) (AF.Sub.refl _) (fun _ _ _ => rfl) (fun _ _ _ _ => rfl) hs.DL⟩
theorem Ac.fresh (hm : Mem Γ w F) (hs : Ac Γ F w ρ fam s a.tmps) (cells : Array Value) (el : TypeId) (k : Nat) :
 Mem Γ (w.alloc (.cells cells el)) (F.or (AZ w.heap.size 0 k)) ∧ Ac Γ (F.or (AZ w.heap.size 0 k)) (w.alloc (.cells cells el)) ρ fam s a.tmps := by
 have hE := Ext.alloc w (.cells cells el)
 have hoff : ∀ i, (fam i).D6 (F.or (AZ w.heap.size 0 k)) := by
  rintro i g o hi (h | h)
  · exact hs.DL i g o hi h
  · have := hs.lt i g o hi
    have := h.1
    omega
 refine ⟨⟨hm.ext.trans hE, fun g o h => .inl (hm.sub g o h), ?_, fun g o hn => ?_, ?_⟩, hs.BD hE (AF.BB _ _) (fun g o hg => CQ w _ (hm.live g o hg)) (fun i g o hg => CQ w _ (hs.lt _ g o hg)) hoff⟩
 · rintro g o (h | h)
   · exact hm.fresh g o h
   · exact .inr (.inl (by have := h.1; have := hm.ext.size; omega))
 · by_cases hlt : g < w.heap.size
   · rw [CQ w _ hlt]; exact hm.BD g o hn
   · exact absurd (Or.inl (Nat.le_trans hm.ext.size (by omega))) hn
 · rintro g o (h | h)
   · exact Nat.lt_of_lt_of_le (hm.live g o h) hE.size
   · rw [FA]; have := h.1; omega
theorem Qy (hm : Mem Γ w F) {el : TypeId} {sz n c : Nat} {get : Nat → V} {cells : Array Value} (hc : cells.size = c * sz) (hn : n ≤ c) (hcm : c ≤ maxLen)
 (hel : ∀ i, i < n → ∃ xs, xs.length = sz ∧ AK F w As (get i) xs none_ ∧ ∀ k u, xs[k]? = some u → cells[i * sz + k]? = some u) (tok : Option TypeId) (htok : ∀ e, tok = some e → e = el) :
 Al (F.or (AZ w.heap.size 0 (n * sz))) (w.alloc (.cells cells el)) ρ (.sl tok sz false n get) (.slice (some ⟨w.heap.size, 0, none⟩) n c) (AZ w.heap.size (n * sz) (c * sz - n * sz)) := by
 have hE := Ext.alloc w (.cells cells el)
 have hmul : n * sz ≤ c * sz := Nat.mul_le_mul_right _ hn
 refine ⟨nofun, fun _ => ⟨_, c, rfl, hn, hcm, nofun, fun _ => ⟨w.heap.size, 0, none, rfl, .inl rfl, fun e he => ?_, fun i hi => ?_⟩⟩⟩
 · obtain rfl := htok e he
   exact .inr ⟨rfl, cells, heap_alloc_new w _, hc, fun k h1 h2 => ⟨rfl, h1, by omega⟩⟩
 · obtain ⟨xs, h1, h2, h3⟩ := hel i hi
   have hi2 : (i + 1) * sz ≤ n * sz := Nat.mul_le_mul_right _ (by omega)
   rw [Nat.add_mul, Nat.one_mul] at hi2
   refine ⟨xs, h1, h2.BD hE (AF.BB _ _) (fun g o hg => CQ w _ (hm.live g o hg)) _ (fun _ _ h => h) (fun _ _ h => h.elim) (AF.Sub.refl _), fun j u hu => ?_, fun j hj => .inr ⟨rfl, by omega, by omega⟩⟩
   rw [IJ, Nat.zero_add]
   exact h3 j u hu
theorem I6 (hm : Mem Γ w F) (hs : Ac Γ F w ρ fam s a.tmps) {d : Nat} (hd : d < a.tmps.size) {el : TypeId} {sz n c : Nat} {get : Nat → V} {cells : Array Value} (hc : cells.size = c * sz) (hn : n ≤ c) (hcm : c ≤ maxLen)
 (hel : ∀ i, i < n → ∃ xs, xs.length = sz ∧ AK F w As (get i) xs none_ ∧ ∀ k u, xs[k]? = some u → cells[i * sz + k]? = some u) (tok : Option TypeId) (htok : ∀ e, tok = some e → e = el) :
 ∃ F' fam', Mem Γ (w.alloc (.cells cells el)) F' ∧ Ac Γ F' (w.alloc (.cells cells el)) ρ fam' { tm := C8 s.tm d (.sl tok sz false n get), H := s.H } (a.put (some d) (.slice (some ⟨w.heap.size, 0, none⟩) n c)).tmps := by
 obtain ⟨h1, h2⟩ := hs.fresh hm cells el (n * sz)
 refine ⟨_, _, h1, h2.put d hd (Qy hm hc hn hcm hel tok htok) (fun i _ g o h3 h4 => ?_) (fun g o h3 h4 => ?_) (fun g o h3 => .inl ?_) (fun g o h3 => ?_)⟩
 · have := hs.lt i g o h4
   have := h3.1
   omega
 · rcases h4 with h4 | h4
   · have := hm.live g o h4
     have := h3.1
     omega
   · have := h3.2.1
     have := h4.2.2
     omega
 · have := h3.1; have := hm.ext.size; omega
 · rw [FA]; have := h3.1; omega
theorem E6 : ∀ (x : V) {cs : List Value} {fp : AF}, AK F w ρ x cs fp → x.closed = true → AK F w As x.AP cs none_ := by
 intro x
 induction x with
 | undef | int | bool | str | B7 | unit | FX | DW => intro cs fp h _; simpa [AK, V.AP] using h
 | CC => intro cs fp h _; simp [AK] at h
 | ptr | own | Bl => intro cs fp h hc; simp [V.closed] at hc
 | Ai => intro cs fp h _; simp only [AK, V.AP] at h ⊢; obtain ⟨A, rfl, _⟩ := h; exact ⟨_, rfl, rfl⟩
 | A4 => intro cs fp h _; simp only [AK, V.AP] at h ⊢; obtain ⟨A, c, rfl, _⟩ := h; exact ⟨_, rfl, rfl⟩
 | vp x ih => intro cs fp h _; simpa [AK, V.AP] using h
 | sl tok s nil n get ih =>
   intro cs fp h _
   have := h.AP
   simpa only [AK, V.AP] using this
 | cons x r hx hr =>
   intro cs fp h hc
   simp only [AK, V.AP, V.closed, Bool.and_eq_true] at h hc ⊢
   obtain ⟨a, b, fa, fb, h1, h2, h3, _⟩ := h
   exact ⟨a, b, none_, none_, h1, hx h2 hc.1, hr h3 hc.2, AF.Aa _, AF.Aa _, AF.BR _⟩
 | arr s n get ih =>
   intro cs fp h hc
   simp only [AK, V.AP, V.closed, List.all_eq_true] at h hc ⊢
   obtain ⟨f, fs, h1, _, h3⟩ := h
   exact ⟨f, fun _ => none_, fun i hi => ⟨(h1 i hi).1, ih i (h1 i hi).2.1 (hc i (List.mem_range.2 hi)), AF.Aa _⟩, fun _ _ _ _ _ => AF.BR _, h3⟩
 | fn f caps ih =>
   intro cs fp h hc
   simp only [AK, V.AP, V.closed] at h hc ⊢
   obtain ⟨xs, h1, h2⟩ := h
   exact ⟨xs, h1, ih h2 hc⟩
 | iface t x ih =>
   intro cs fp h hc
   simp only [AK, V.AP, V.closed] at h hc ⊢
   obtain ⟨xs, v, h1, h2, h3, h4⟩ := h
   exact ⟨xs, v, h1, ih h2 hc, by rw [V.C5]; exact h3, by rw [V.C5]; exact h4⟩
theorem Qe {x : V} {cs : List Value} {fp : AF} (h : AK F w ρ x cs fp) (hp : T4 x = true) : AK F w As x.AP cs none_ := E6 x h hp
theorem QI (hm : Mem Γ w F) (hs : Ac Γ F w ρ fam s a.tmps) (hd : EB a.tmps.size o = true) {t : TypeId} {x : Operand} (ho : o.op = .box t x) (h : C2 P pol kn o s = some e) (hdst : o.dst.isSome = true) : Gb P Γ s a w o e := by
 obtain ⟨d, hdst⟩ := Option.isSome_iff_exists.1 hdst
 simp only [C2, ho, hdst, Option.getD_some] at h
 cases hpol : Nat.beq (pol d) 3
 case true =>
  rw [hpol, cond_true] at h
  obtain ⟨hf, h⟩ := AL h
  obtain rfl := Option.some.inj h
  simp only [Bool.and_eq_true] at hf
  obtain ⟨_, i, _, _, _, _, hone⟩ := B0 hf.1
  have h1 := (Ag hs x).one hone
  have hr := E6 _ (Fu h1 (G5 h1)) hf.2
  have hE := Ext.alloc w (.cells (a.eval x).cells t)
  obtain ⟨m1, m2⟩ := hs.fresh hm (a.eval x).cells t (a.eval x).cells.size
  have hv : Al (F.or (AZ w.heap.size 0 (a.eval x).cells.size)) (w.alloc (.cells (a.eval x).cells t)) ρ (.vp (AR s.tm x).AP) (.pointer (some ⟨w.heap.size, 0, none⟩)) none_ := by
   refine ⟨nofun, fun _ => ⟨w.heap.size, 0, (a.eval x).cells.toList, rfl, hr.BD hE (AF.BB _ _) (fun g o hg => CQ w _ (hm.live g o hg)) _ (fun _ _ h => h) (fun _ _ h => h.elim) (AF.Sub.refl _), fun j u hu => ?_, fun j hj => .inr ⟨rfl, by omega, ?_⟩⟩⟩
   · rw [IJ, Nat.zero_add, ← Array.getElem?_toList]; exact hu
   · rw [Array.length_toList] at hj; omega
  have h3 := Ac.val (a := a) m2 [] d (Br hd hdst) hv (AF.Aa _)
  refine .of (v := .pointer (some ⟨w.heap.size, 0, none⟩)) ?_ m1 h3 (by simp only [BK, hdst, DB]) (by rw [hdst])
  simp only [execOp, ho, Instr.box, Sem.run_bind, HW, Result.andThen_ok, Sem.run_pure]
 rw [hpol, cond_false] at h
 split at h <;> (try cases h)
 rename_i hH
 obtain ⟨hf, h⟩ := AL h
 obtain rfl := Option.some.inj h
 obtain ⟨_, i, _, _, _, _, hone⟩ := B0 hf
 obtain ⟨fr, h1, h2⟩ := EE (fam := fam) (Ag hs x)
 have hr := Fu (h1.one hone) (G5 (h1.one hone))
 refine Ld (t := t) hm hs hd hdst hH hr h2 ?_ rfl
 simp only [execOp, ho, Instr.box, Sem.run_bind, HW, Result.andThen_ok, Sem.run_pure]
theorem N6 (sz : Nat) : ∀ (vs : List Value) (k : Nat) (pre post : List Value), (∀ v ∈ vs, v.cells.size = sz) → pre.length = k * sz → post.length = vs.length * sz →
 Instr.fill (fun i => some (i * sz, sz)) (pre ++ post).toArray ((vs.zipIdx k).map fun p => (p.2, p.1)) = some (pre ++ vs.flatMap fun v => v.cells.toList).toArray := by
 intro vs
 induction vs with
 | nil => intro k pre post _ _ h; obtain rfl : post = [] := List.eq_nil_of_length_eq_zero (by simpa using h); simp [Instr.fill]
 | cons v vs ih =>
   intro k pre post hv hpre hpost
   have hsz := hv v (by simp)
   simp only [List.length_cons, Nat.add_mul, Nat.one_mul] at hpost
   have e1 : pre ++ post = pre ++ post.take sz ++ post.drop sz := by simp
   simp only [List.zipIdx_cons, List.map_cons]
   rw [e1, N7 (place := fun i => some (i * sz, sz)) (i := k) rfl hpre (by rw [List.length_take]; omega) hsz]
   have := ih (k + 1) (pre ++ v.cells.toList) (post.drop sz) (fun u hu => hv u (by simp [hu])) (by have := Array.length_toList (xs := v.cells); rw [List.length_append, this, hpre, hsz, Nat.add_mul, Nat.one_mul]) (by rw [List.length_drop]; omega)
   rw [this]
   simp
theorem JN : ∀ (l : List (Nat × V)) (ps : List (Nat × Operand)) (ev : Operand → V) (av : Operand → Value) (k : Nat), l = ps.map (fun p => (p.1, ev p.2)) → F9 k l = true →
 ps.map (fun p => (p.1, av p.2)) = ((ps.map fun p => av p.2).zipIdx k).map fun p => (p.2, p.1) := by
 intro l ps
 induction ps generalizing l with
 | nil => intro ev av k _ _; rfl
 | cons p ps ih =>
   intro ev av k hl h
   subst hl
   simp only [List.map_cons, F9, Bool.and_eq_true] at h
   have h1 := Nat.eq_of_beq_eq_true h.1
   simp only [List.map_cons, List.zipIdx_cons]
   rw [ih _ ev av (k + 1) rfl h.2, h1]
theorem KR (z : V) : ∀ (l : List (Nat × V)) (k j : Nat), F9 k l = true → j < l.length → GA z l (k + j) = (l.map (·.2)).getD j .undef := by
 intro l
 induction l with
 | nil => intro k j _ h; simp at h
 | cons x l ih =>
   obtain ⟨i, x⟩ := x
   intro k j hk h
   simp only [F9, Bool.and_eq_true] at hk
   obtain rfl := Nat.eq_of_beq_eq_true hk.1
   cases l with
   | nil =>
     obtain rfl : j = 0 := by simpa using h
     rfl
   | cons y l =>
     show V.mix (Nat.beq (i + j) i) x (GA z (y :: l) (i + j)) = _
     rw [V.Dg]
     cases j with
     | zero => simp
     | succ j =>
       have e : Nat.beq (i + (j + 1)) i = false := by
        cases hb : Nat.beq (i + (j + 1)) i
        · rfl
        · have := Nat.eq_of_beq_eq_true hb; omega
       rw [e, cond_false, show i + (j + 1) = i + 1 + j by omega, ih (i + 1) j hk.2 (by simpa using h)]
       simp
theorem JV {α : Type} {sz : Nat} {f : α → List Value} : ∀ (vs : List α), (∀ v ∈ vs, (f v).length = sz) → (vs.flatMap f).length = vs.length * sz := by
 intro vs
 induction vs with
 | nil => intro _; simp
 | cons x vs ih =>
   intro h
   rw [List.flatMap_cons, List.length_append, h x (by simp), ih (fun v hv => h v (by simp [hv])), List.length_cons, Nat.add_mul]
   omega
theorem CO {α : Type} {sz : Nat} {f : α → List Value} : ∀ (vs : List α) (i k : Nat) {v : α} {u : Value}, (∀ v ∈ vs, (f v).length = sz) → vs[i]? = some v → (f v)[k]? = some u → (vs.flatMap f)[i * sz + k]? = some u := by
 intro vs
 induction vs with
 | nil => intro i k v u _ h; simp at h
 | cons x vs ih =>
   intro i k v u hl hv hu
   rw [List.flatMap_cons]
   cases i with
   | zero =>
     simp only [List.getElem?_cons_zero, Option.some.injEq] at hv
     subst hv
     have := (List.getElem?_eq_some_iff.1 hu).1
     rw [Nat.zero_mul, Nat.zero_add, List.getElem?_append_left this]
     exact hu
   | succ i =>
     rw [List.getElem?_cons_succ] at hv
     have := ih i k (fun v hv => hl v (by simp [hv])) hv hu
     have hx := hl x (by simp)
     rw [List.getElem?_append_right (by rw [hx, Nat.add_mul]; omega), ← this, hx]
     congr 1
     rw [Nat.add_mul]
     omega
theorem Ie (hm : Mem Γ w F) (hs : Ac Γ F w ρ fam s a.tmps) (hd : EB a.tmps.size o = true) {t : TypeId} {len : Nat} {ps : Array (Nat × Operand)} (ho : o.op = .buildSlice t len ps) (h : C2 P pol kn o s = some e) {d : Nat} (hdst : o.dst = some d) (hpol : Nat.beq (pol d) 1 = false) : Gb P Γ s a w o e := by
 simp only [C2, ho, hdst, Option.getD_some] at h
 split at h <;> (try cases h)
 rename_i el i hel
 unfold elemOf at hel
 split at hel <;> (try cases hel)
 rename_i e0 hu
 simp only [Option.map_eq_some_iff, Prod.mk.injEq] at hel
 obtain ⟨i', hi, rfl, rfl⟩ := hel
 rw [hpol, cond_false] at h
 obtain ⟨hc, h⟩ := AL h
 obtain rfl := Option.some.inj h
 simp only [Bool.and_eq_true, List.all_eq_true] at hc
 obtain ⟨hz, hl, hparts, hgood, hsmall, hsmall2⟩ := hc
 obtain ⟨z, hz⟩ := Option.isSome_iff_exists.1 hz
 have hl := Nat.eq_of_beq_eq_true hl
 have hsmall := Nat.le_of_ble_eq_true hsmall
 have hsmall2 := Nat.le_of_ble_eq_true hsmall2
 -- the parts' values
 have hgood' : ∀ p ∈ ps.toList, AK F w As (A7 (AR s.tm p.2)) (a.eval p.2).cells.toList none_ ∧ (a.eval p.2).cells.size = i'.size := by
  intro p hp
  have h1 := hgood.1 (p.1, AR s.tm p.2) (List.mem_map.2 ⟨p, hp, rfl⟩)
  have h2 := hgood.2 (p.1, A7 (AR s.tm p.2)) (List.mem_map.2 ⟨p, hp, rfl⟩)
  obtain ⟨_, i2, _, k1, k2, _, hone⟩ := B0 h2
  rw [hi] at k1
  obtain rfl := Option.some.inj k1
  have hone' : (AR s.tm p.2).one = true := by rw [Dm] at hone; revert hone; cases AR s.tm p.2 <;> simp [V.AP, V.one]
  have hrel := (Ag hs p.2).one hone'
  have hcells := E6 _ (Fu hrel (G5 hrel)) h1
  rw [← Dm] at hcells
  refine ⟨hcells, ?_⟩
  have := hcells.length
  rw [← k2] at this
  have h3 := Array.length_toList (xs := (a.eval p.2).cells)
  omega
 have hll : ps.toList.length = len := by simpa using hl
 have hpairs : (ps.map fun p => (p.1, a.eval p.2)).toList = ((ps.toList.map fun p => a.eval p.2).zipIdx 0).map fun p => (p.2, p.1) := by
  rw [Array.toList_map]
  exact JN _ ps.toList (fun x => A7 (AR s.tm x)) a.eval 0 rfl hparts
 have hfill : ∀ Z : Array Value, Z.size = len * i'.size → Instr.fill (fun i => some (i * i'.size, i'.size)) Z (ps.map fun p => (p.1, a.eval p.2)).toList = some ((ps.toList.map fun p => a.eval p.2).flatMap fun v => v.cells.toList).toArray := by
  intro Z hZ
  rw [hpairs]
  have := N6 i'.size (ps.toList.map fun p => a.eval p.2) 0 [] Z.toList (fun v hv => by
   obtain ⟨p, hp, rfl⟩ := List.mem_map.1 hv
   exact (hgood' p hp).2) (by simp) (by have h3 := Array.length_toList (xs := Z); rw [List.length_map, hll]; omega)
  simpa using this
 have hbig : ¬ (len * i'.size > 2 ^ 24) := by omega
 have heach : ∀ v ∈ ps.toList.map fun p => a.eval p.2, v.cells.toList.length = i'.size := by
  intro v hv
  obtain ⟨p, hp, rfl⟩ := List.mem_map.1 hv
  have h3 := Array.length_toList (xs := (a.eval p.2).cells)
  rw [h3]
  exact (hgood' p hp).2
 have hflat := JV (f := fun v : Value => v.cells.toList) _ heach
 rw [List.length_map, hll] at hflat
 have hrun : (execOp a.eval o).run P w = .ok (.value (.slice (some ⟨w.heap.size, 0, none⟩) len len)) (w.alloc (.cells ((ps.toList.map fun p => a.eval p.2).flatMap fun v => v.cells.toList).toArray e0)) := by
  simp only [execOp, ho, Instr.buildSlice, Sem.run_bind, run_underlying hu, Result.andThen_ok, Go.sizeOf, Js hi, Sem.run_pure, hbig, if_false]
  by_cases h0 : len * i'.size = 0
  · simp only [h0, if_true, Sem.run_bind, Sem.run_pure, Result.andThen_ok]
    have := hfill ((Array.range 0).map fun x => (#[] : Array Value)[x % (#[] : Array Value).size]!) (by simp [h0])
    rw [this]
    rfl
  · simp only [h0, if_false, Sem.run_bind, Cs hi hz, Result.andThen_ok, Sem.run_pure]
    have := hfill ((Array.range (len * i'.size)).map fun x => z.cells[x % z.cells.size]!) (by simp)
    rw [this]
    rfl
 have hget : ∀ j, j < len → ∃ p, ps.toList[j]? = some p ∧ GA ((zeroOf P e0).getD .undef) (ps.toList.map fun p => (p.1, A7 (AR s.tm p.2))) j = A7 (AR s.tm p.2) := by
  intro j hj
  obtain ⟨p, hp⟩ : ∃ p, ps.toList[j]? = some p := ⟨_, List.getElem?_eq_getElem (by omega)⟩
  refine ⟨p, hp, ?_⟩
  have hpg := KR ((zeroOf P e0).getD .undef) (ps.toList.map fun p => (p.1, A7 (AR s.tm p.2))) 0 j hparts (by simpa [hll] using hj)
  rw [Nat.zero_add] at hpg
  rw [hpg]
  simp [List.getD_eq_getElem?_getD, hp]
 obtain ⟨F', fam', s1, s2⟩ := I6 (d := d) hm hs (Br hd hdst) (el := e0) (sz := i'.size) (n := len) (c := len) (cells := ((ps.toList.map fun p => a.eval p.2).flatMap fun v => v.cells.toList).toArray) (by simp only [List.size_toArray]; exact hflat) (Nat.le_refl _) (by unfold maxLen; omega)
  (fun j hj => by
    obtain ⟨p, hp, hgp⟩ := hget j hj
    have hmem : p ∈ ps.toList := List.mem_of_getElem? hp
    refine ⟨(a.eval p.2).cells.toList, heach _ (List.mem_map.2 ⟨p, hmem, rfl⟩), hgp ▸ (hgood' p hmem).1, fun k u hu => ?_⟩
    have := CO (f := fun v : Value => v.cells.toList) (ps.toList.map fun p => a.eval p.2) j k heach (v := a.eval p.2) (u := u) (by simp [hp]) hu
    simpa using this) (some e0) (fun _ h => by cases h; rfl)
 exact .of hrun s1 s2 (by simp only [BK, hdst, DB]) (by rw [hdst])
end
end Go.Vm
end
section
namespace Go.Vm
open Go
section
variable {P : Program} {Γ : Ctx} {F : AF} {w : World} {ρ : Names} {fam : Et} {s : St} {a : Act} {o : Oper} {kn : Nat → Option Bool} {pol : Nat → Nat} {e : FF}
theorem Ml {α : Type} : ∀ (l : List α) (f : α → List Value) (g : Nat → List Value) (n : Nat), l.length = n → (∀ j x, l[j]? = some x → f x = g j) → l.flatMap f = (List.range n).flatMap g := by
 intro l f g n hl h
 induction l generalizing g n with
 | nil => subst hl; rfl
 | cons x l ih =>
   subst hl
   rw [List.length_cons, List.range_succ_eq_map, List.flatMap_cons, List.flatMap_cons, List.flatMap_map, h 0 x rfl, ih (fun j => g (j + 1)) l.length rfl fun j y hy => h (j + 1) y (by simpa using hy)]
theorem Mm {α : Type} {f : α → List Nat} : ∀ {l : List α}, (l.flatMap f).Nodup → ∀ {i j : Nat} {p q : α} {x : Nat}, i ≠ j → l[i]? = some p → l[j]? = some q → x ∈ f p → x ∈ f q → False := by
 intro l
 induction l with
 | nil => intro _ i j p q x _ h; simp at h
 | cons a l ih =>
   intro hn i j p q x hij hp hq h1 h2
   rw [List.flatMap_cons] at hn
   obtain ⟨n1, n2, n3⟩ := List.nodup_append.1 hn
   cases i with
   | zero =>
     cases j with
     | zero => exact hij rfl
     | succ j =>
       simp only [List.getElem?_cons_zero, Option.some.injEq] at hp
       subst hp
       exact n3 x h1 x (List.mem_flatMap.2 ⟨q, List.mem_of_getElem? (by simpa using hq), h2⟩) rfl
   | succ i =>
     cases j with
     | zero =>
       simp only [List.getElem?_cons_zero, Option.some.injEq] at hq
       subst hq
       exact n3 x h2 x (List.mem_flatMap.2 ⟨p, List.mem_of_getElem? (by simpa using hp), h1⟩) rfl
     | succ j => exact ih n2 (i := i) (j := j) (by omega) (by simpa using hp) (by simpa using hq) h1 h2
theorem JX {fam : Et} {l : List Nat} {i : Ix} {g o : Nat} (h : CJ fam l none none_ i g o) : fam i g o ∧ ∀ t ∈ l, i ≠ .t t := by
 cases i with
 | b i => exact ⟨h, fun _ _ => nofun⟩
 | t u =>
   simp only [CJ, reduceCtorEq, if_false] at h
   split at h
   · exact h.elim
   · rename_i hu
     exact ⟨h, fun t ht e => by cases e; exact hu ht⟩
theorem TN {el : TypeId} {sz n c : Nat} {get : Nat → V} {cells : Array Value} {F' : AF} (hF' : F.Sub F') (hlive : ∀ g o, F g o → g < w.heap.size) {fp : AF} (hfp : ∀ g o, fp g o → g < w.heap.size)
 (hc : cells.size = c * sz) (hn : n ≤ c) (hcm : c ≤ maxLen) {f : Nat → List Value} {fs : Nat → AF} {rest : List Value} (hcells : cells.toList = (List.range n).flatMap f ++ rest)
 (hel : ∀ i, i < n → (f i).length = sz ∧ AK F w ρ (get i) (f i) (fs i) ∧ (fs i).Sub fp) (hoff : ∀ i j, i < n → j < n → i ≠ j → (fs i).D6 (fs j)) :
 Al F' (w.alloc (.cells cells el)) ρ (.A4 el sz false n get) (.slice (some ⟨w.heap.size, 0, none⟩) n c) (fun g o => AZ w.heap.size 0 (c * sz) g o ∨ fp g o) := by
 have hE := Ext.alloc w (.cells cells el)
 have hlen : ((List.range n).flatMap f).length = n * sz := Ak n fun i hi => (hel i hi).1
 have hmul : n * sz ≤ c * sz := Nat.mul_le_mul_right _ hn
 refine ⟨nofun, fun _ => ⟨_, c, rfl, hn, hcm, nofun, fun _ => ⟨w.heap.size, 0, rfl, ?_, fun _ _ h => .inl h, _, f, fs, rfl, ⟨fun j u hu => ?_, fun j hj => ?_, fun j hj => .inl ⟨rfl, by omega, by omega⟩⟩, fun i hi => ?_, hoff⟩⟩⟩
 · refine .inr ⟨rfl, cells, heap_alloc_new w _, hc, fun k h1 h2 => ⟨rfl, by omega, ?_⟩⟩
   have : n * sz + (c - n) * sz = c * sz := by rw [← Nat.add_mul]; congr 1; omega
   omega
 · rw [IJ, Nat.zero_add, ← Array.getElem?_toList, hcells, List.getElem?_append_left (List.getElem?_eq_some_iff.1 hu).1]
   exact hu
 · unfold World.frozen?; rw [heap_alloc_new]; simp
 · refine ⟨(hel i hi).1, (hel i hi).2.1.BD hE hF' (fun g o hg => CQ w _ (hlive g o hg)) _ (fun _ _ h => h) (fun g o hg => CQ w _ (hfp g o ((hel i hi).2.2 g o hg))) (AF.Sub.refl _), fun g o hg => .inr ((hel i hi).2.2 g o hg), fun g o hg hr => ?_⟩
   have := hfp g o ((hel i hi).2.2 g o hg)
   have := hr.1
   omega
theorem I7 (hm : Mem Γ w F) (hs : Ac Γ F w ρ fam s a.tmps) (l : List Nat) {d : Nat} (hd : d < a.tmps.size) {el : TypeId} {sz n c : Nat} {get : Nat → V} {cells : Array Value}
 (hc : cells.size = c * sz) (hn : n ≤ c) (hcm : c ≤ maxLen) {f : Nat → List Value} {fs : Nat → AF} {rest : List Value} (hcells : cells.toList = (List.range n).flatMap f ++ rest)
 (hel : ∀ i, i < n → (f i).length = sz ∧ AK F w ρ (get i) (f i) (fs i) ∧ (fs i).Sub (Cy fam l)) (hoff : ∀ i j, i < n → j < n → i ≠ j → (fs i).D6 (fs j)) :
 ∃ F' fam', Mem Γ (w.alloc (.cells cells el)) F' ∧ Ac Γ F' (w.alloc (.cells cells el)) ρ fam' { tm := C8 (takes s.tm l) d (.A4 el sz false n get), H := s.H } (a.put (some d) (.slice (some ⟨w.heap.size, 0, none⟩) n c)).tmps := by
 have hdr := hs.drop l
 obtain ⟨h1, h2⟩ := Ac.fresh (a := a) hm hdr cells el 0
 have hlt : ∀ g o, Cy fam l g o → g < w.heap.size := fun g o ⟨t, _, h⟩ => hs.lt _ g o h
 refine ⟨_, _, h1, h2.put d hd (TN (AF.BB _ _) hm.live hlt hc hn hcm hcells hel hoff) (fun i hi g o h3 h4 => ?_) (fun g o h3 h4 => ?_) (fun g o h3 => ?_) (fun g o h3 => ?_)⟩
 · obtain ⟨k1, k2⟩ := JX h4
   rcases h3 with h3 | ⟨t, ht, h3⟩
   · have := hs.lt i g o k1
     have := h3.1
     omega
   · exact hs.off (.t t) i (fun e => k2 t ht e.symm) g o h3 k1
 · rcases h4 with h4 | h4
   · rcases h3 with h3 | ⟨t, ht, h3⟩
     · have := hm.live g o h4
       have := h3.1
       omega
     · exact hs.DL _ g o h3 h4
   · have := h4.2.2; have := h4.2.1; omega
 · rcases h3 with h3 | ⟨t, ht, h3⟩
   · left; have := h3.1; have := hm.ext.size; omega
   · exact hs.new _ g o h3
 · rw [FA]
   rcases h3 with h3 | ⟨t, ht, h3⟩
   · have := h3.1; omega
   · have := hs.lt _ g o h3; omega
theorem Ac.U3 {vs : Array Value} (h : Ac Γ F w ρ fam s vs) {t : Nat} {id2 : Id} (hid : s.H id2 = none) (hloc : ∀ i, .par i ≠ id2) {e : TypeId} {sz n : Nat} {nil : Bool} {get : Nat → V} (ht : s.tm t = .A4 e sz nil n get) :
 ∃ ρ' fam', Ac Γ F w ρ' fam' { tm := C8 s.tm t (.Bl id2 e sz nil n), H := Bu s.H id2 (some (.arr sz n get)) } vs := by
 have h1 := h.tm t
 rw [ht] at h1
 obtain ⟨r, fe, fs, k1, k2, k3, k4, k5⟩ := KU ((h.nm id2).1 hid) (Fp h1 rfl rfl)
 exact ⟨_, _, h.RV hid hloc (EW k5 rfl rfl) k4 k3 k2 k1⟩
theorem S4 {α : Type} (f : Nat → α) (t : Nat) (x y : α) : C8 (C8 f t x) t y = C8 f t y := by
 funext u
 by_cases e : u = t
 · subst e; rw [BN, BN]
 · rw [Bm _ _ e, Bm _ _ e, Bm _ _ e]
theorem MK (hm : Mem Γ w F) (hs : Ac Γ F w ρ fam s a.tmps) (hd : EB a.tmps.size o = true) {t : TypeId} {len : Nat} {ps : Array (Nat × Operand)} (ho : o.op = .buildSlice t len ps) (h : C2 P pol kn o s = some e) {d : Nat} (hdst : o.dst = some d) (hpol : Nat.beq (pol d) 1 = true) : Gb P Γ s a w o e := by
 simp only [C2, ho, hdst, Option.getD_some] at h
 split at h <;> (try cases h)
 rename_i el i hel
 unfold elemOf at hel
 split at hel <;> (try cases hel)
 rename_i e0 hu
 simp only [Option.map_eq_some_iff, Prod.mk.injEq] at hel
 obtain ⟨i', hi, rfl, rfl⟩ := hel
 rw [hpol, cond_true] at h
 unfold Sg at h
 obtain ⟨hc, h⟩ := AL h
 obtain rfl := Option.some.inj h
 simp only [Bool.and_eq_true, List.all_eq_true] at hc
 obtain ⟨hz, hl, hparts, hgood, hnd, hsmall, hsmall2⟩ := hc
 obtain ⟨z, hz⟩ := Option.isSome_iff_exists.1 hz
 have hl := Nat.eq_of_beq_eq_true hl
 have hnd := G3 hnd
 have hsmall := Nat.le_of_ble_eq_true hsmall
 have hsmall2 := Nat.le_of_ble_eq_true hsmall2
 have hgood' : ∀ p ∈ ps.toList, ∃ fr, AK F w ρ (AR s.tm p.2) (a.eval p.2).cells.toList fr ∧ fr.Sub (Cy fam (Ap p.2 (AR s.tm p.2))) ∧ (a.eval p.2).cells.size = i'.size := by
  intro p hp
  have h2 := hgood (p.1, AR s.tm p.2) (List.mem_map.2 ⟨p, hp, rfl⟩)
  obtain ⟨_, i2, _, k1, k2, _, hone⟩ := B0 h2
  rw [hi] at k1
  obtain rfl := Option.some.inj k1
  obtain ⟨fr, m1, m2⟩ := EE (fam := fam) (Ag hs p.2)
  have hrel := m1.one hone
  have hcells := Fu hrel (G5 hrel)
  refine ⟨fr, hcells, m2, ?_⟩
  have := hcells.length
  rw [← k2] at this
  have h3 := Array.length_toList (xs := (a.eval p.2).cells)
  omega
 have hll : ps.toList.length = len := by simpa using hl
 have hpairs : (ps.map fun p => (p.1, a.eval p.2)).toList = ((ps.toList.map fun p => a.eval p.2).zipIdx 0).map fun p => (p.2, p.1) := by
  rw [Array.toList_map]
  exact JN _ ps.toList (fun x => AR s.tm x) a.eval 0 rfl hparts
 have hfill : ∀ Z : Array Value, Z.size = len * i'.size → Instr.fill (fun i => some (i * i'.size, i'.size)) Z (ps.map fun p => (p.1, a.eval p.2)).toList = some ((ps.toList.map fun p => a.eval p.2).flatMap fun v => v.cells.toList).toArray := by
  intro Z hZ
  rw [hpairs]
  have := N6 i'.size (ps.toList.map fun p => a.eval p.2) 0 [] Z.toList (fun v hv => by
   obtain ⟨p, hp, rfl⟩ := List.mem_map.1 hv
   obtain ⟨_, _, _, h⟩ := hgood' p hp
   exact h) (by simp) (by have h3 := Array.length_toList (xs := Z); rw [List.length_map, hll]; omega)
  simpa using this
 have hbig : ¬ (len * i'.size > 2 ^ 24) := by omega
 have heach : ∀ v ∈ ps.toList.map fun p => a.eval p.2, v.cells.toList.length = i'.size := by
  intro v hv
  obtain ⟨p, hp, rfl⟩ := List.mem_map.1 hv
  have h3 := Array.length_toList (xs := (a.eval p.2).cells)
  rw [h3]
  obtain ⟨_, _, _, h⟩ := hgood' p hp
  exact h
 have hflat := JV (f := fun v : Value => v.cells.toList) _ heach
 rw [List.length_map, hll] at hflat
 have hrun : (execOp a.eval o).run P w = .ok (.value (.slice (some ⟨w.heap.size, 0, none⟩) len len)) (w.alloc (.cells ((ps.toList.map fun p => a.eval p.2).flatMap fun v => v.cells.toList).toArray e0)) := by
  simp only [execOp, ho, Instr.buildSlice, Sem.run_bind, run_underlying hu, Result.andThen_ok, Go.sizeOf, Js hi, Sem.run_pure, hbig, if_false]
  by_cases h0 : len * i'.size = 0
  · simp only [h0, if_true, Sem.run_bind, Sem.run_pure, Result.andThen_ok]
    have := hfill ((Array.range 0).map fun x => (#[] : Array Value)[x % (#[] : Array Value).size]!) (by simp [h0])
    rw [this]
    rfl
  · simp only [h0, if_false, Sem.run_bind, Cs hi hz, Result.andThen_ok, Sem.run_pure]
    have := hfill ((Array.range (len * i'.size)).map fun x => z.cells[x % z.cells.size]!) (by simp)
    rw [this]
    rfl
 have hex : ∀ j : Nat, ∃ fc : List Value × AF, ∀ p, ps.toList[j]? = some p → fc.1 = (a.eval p.2).cells.toList ∧ AK F w ρ (AR s.tm p.2) fc.1 fc.2 ∧ fc.2.Sub (Cy fam (Ap p.2 (AR s.tm p.2))) ∧ fc.1.length = i'.size := by
  intro j
  cases hj : ps.toList[j]? with
  | none => exact ⟨([], none_), fun p h => by cases h⟩
  | some p =>
    obtain ⟨fr, h1, h2, h3⟩ := hgood' p (List.mem_of_getElem? hj)
    exact ⟨((a.eval p.2).cells.toList, fr), fun q hq => by cases hq; exact ⟨rfl, h1, h2, by rw [Array.length_toList]; exact h3⟩⟩
 obtain ⟨fc, hfc⟩ := Classical.axiomOfChoice hex
 have JU : ∀ j, j < len → ∃ p, ps.toList[j]? = some p := fun j hj => ⟨_, List.getElem?_eq_getElem (by omega)⟩
 have hcl : ((ps.toList.map fun p => a.eval p.2).flatMap fun v => v.cells.toList) = (List.range len).flatMap fun j => (fc j).1 := by
  rw [List.flatMap_map]
  refine Ml ps.toList (fun p => (a.eval p.2).cells.toList) (fun j => (fc j).1) len hll fun j p hp => (hfc j p hp).1.symm
 have htkoff : ∀ (i j : Nat) (p q : Nat × Operand), i ≠ j → ps.toList[i]? = some p → ps.toList[j]? = some q → (Cy fam (Ap p.2 (AR s.tm p.2))).D6 (Cy fam (Ap q.2 (AR s.tm q.2))) := by
  intro i j p q hij hp hq
  refine NQ hs fun x h1 h2 => ?_
  exact Mm (f := fun p : Nat × Operand => Ap p.2 (AR s.tm p.2)) hnd hij hp hq h1 h2
 have hel : ∀ j, j < len → ((fc j).1).length = i'.size ∧ AK F w ρ (GA ((zeroOf P e0).getD .undef) (ps.toList.map fun p => (p.1, AR s.tm p.2)) j) (fc j).1 (fc j).2 ∧ (fc j).2.Sub (Cy fam (ps.toList.flatMap fun p => Ap p.2 (AR s.tm p.2))) := by
  intro j hj
  obtain ⟨p, hp⟩ := JU j hj
  obtain ⟨h1, h2, h3, h4⟩ := hfc j p hp
  have hpg := KR ((zeroOf P e0).getD .undef) (ps.toList.map fun p => (p.1, AR s.tm p.2)) 0 j hparts (by simpa [hll] using hj)
  rw [Nat.zero_add] at hpg
  rw [hpg]
  refine ⟨h4, by simpa [List.getD_eq_getElem?_getD, hp] using h2, fun g o hg => ?_⟩
  obtain ⟨t, ht, hto⟩ := h3 g o hg
  exact ⟨t, List.mem_flatMap.2 ⟨p, List.mem_of_getElem? hp, ht⟩, hto⟩
 obtain ⟨F', fam', s1, s2⟩ := I7 (a := a) (el := e0) (sz := i'.size) (n := len) (c := len) (cells := ((ps.toList.map fun p => a.eval p.2).flatMap fun v => v.cells.toList).toArray) hm hs (ps.toList.flatMap fun p => Ap p.2 (AR s.tm p.2)) (Br hd hdst)
  (by simp only [List.size_toArray]; exact hflat) (Nat.le_refl _) (by unfold maxLen; omega) (f := fun j => (fc j).1) (fs := fun j => (fc j).2) (rest := []) (by rw [← hcl, List.append_nil]) hel
  (fun i j hi hj hij => by
    obtain ⟨p, hp⟩ := JU i hi
    obtain ⟨q, hq⟩ := JU j hj
    exact (htkoff i j p q hij hp hq).mono (hfc i p hp).2.2.1 (hfc j q hq).2.2.1)
 exact .of hrun s1 s2 (by simp only [BK, hdst]) (by rw [hdst])
end
end Go.Vm
end
section
namespace Go.Vm
open Go
theorem PY {n : Int} (h0 : 0 ≤ n) (h1 : n ≤ 9223372036854775807) : IntKind.i64.wrap n = n := by
 have e : n % 18446744073709551616 = n := Int.emod_eq_of_lt h0 (by omega)
 have h : ¬ (n ≥ 9223372036854775808) := by omega
 simp [IntKind.wrap, IntKind.bits, IntKind.signed, e, h]
theorem Oc (Z : Array Value) (c : Nat) : ((Array.range (c * Z.size)).map fun i => Z[i % Z.size]!).toList = (List.range c).flatMap fun _ => Z.toList := by
 have hl : ((List.range c).flatMap fun _ : Nat => Z.toList).length = c * Z.size := by
  rw [Ak (s := Z.size) c (fun _ _ => by simp)]
 apply List.ext_getElem?
 intro i
 by_cases hi : i < c * Z.size
 · have hpos : 0 < Z.size := by
    rcases Nat.eq_zero_or_pos Z.size with h | h
    · rw [h] at hi; omega
    · exact h
   have hdiv : i / Z.size < c := (Nat.div_lt_iff_lt_mul hpos).2 hi
   have hmod : i % Z.size < Z.size := Nat.mod_lt _ hpos
   have hr := CO (f := fun _ : Nat => Z.toList) (List.range c) (i / Z.size) (i % Z.size) (v := i / Z.size) (u := Z[i % Z.size]) (sz := Z.size) (fun _ _ => by simp) (by simp [hdiv]) (by simp [hmod])
   have e : i / Z.size * Z.size + i % Z.size = i := by rw [Nat.mul_comm]; exact Nat.div_add_mod i Z.size
   rw [e] at hr
   rw [hr]
   simp [hi, hmod]
 · rw [List.getElem?_eq_none (by simp; omega), List.getElem?_eq_none (by rw [hl]; omega)]
section
variable {P : Program} {Γ : Ctx} {F : AF} {w : World} {ρ : Names} {fam : Et} {s : St} {a : Act} {o : Oper} {kn : Nat → Option Bool} {pol : Nat → Nat} {e : FF}
theorem O4 {m d : Nat} {e : TypeId} {need : Bool} {sz n : Nat} {z : V} {x : FF} (h : Pp m d e need sz n z = some x) : x.need = need := by
 unfold Pp at h
 split at h
 · obtain rfl := Option.some.inj h; rfl
 · obtain rfl := Option.some.inj h; rfl
 · obtain ⟨_, h⟩ := AL h; obtain rfl := Option.some.inj h; rfl
theorem Jg (hm : Mem Γ w F) (hs : Ac Γ F w ρ fam s a.tmps) (hd : EB a.tmps.size o = true) {t : TypeId} {x y : Operand} (ho : o.op = .makeSlice t x y) (h : C2 P pol kn o s = some e) (hn : e.need = true) (hdst : o.dst.isSome = true) : Gb P Γ s a w o e := by
 obtain ⟨d, hdst⟩ := Option.isSome_iff_exists.1 hdst
 simp only [C2, ho, hdst, Option.getD_some] at h
 have hx := Ag hs x
 have hy := Ag hs y
 split at h <;> (try cases h)
 rename_i el i k l k' c hel hex hey hid
 rw [hex] at hx; rw [hey] at hy
 unfold elemOf at hel
 split at hel <;> (try cases hel)
 rename_i e0 hu
 simp only [Option.map_eq_some_iff, Prod.mk.injEq] at hel
 obtain ⟨i', hi, rfl, rfl⟩ := hel
 split at h <;> (try cases h)
 rename_i z hz
 rw [O4 h] at hn
 simp only [Bool.and_eq_true, Fg, Bd, room, decide_eq_true_eq] at hn
 obtain ⟨⟨⟨h1, h2⟩, h3⟩, h4⟩ := hn
 obtain ⟨iz, v, hiz, hv, hrz, hfit⟩ := F0 (F := F) (w := w) (ρ := ρ) hz
 rw [hi] at hiz
 obtain rfl := Option.some.inj hiz
 obtain ⟨_, i2, _, q1, q2, _, _⟩ := B0 hfit
 rw [hi] at q1
 obtain rfl := Option.some.inj q1
 have hvs : v.cells.size = i'.size := by
  have := hrz.length
  have h3 := Array.length_toList (xs := v.cells)
  omega
 have hc : (c.toNat : Int) = c := Int.toNat_of_nonneg h2
 have hbytes : ¬ ((i'.bytes : Int) * c > 281474976710656) := by
  have : (i'.bytes : Int) * c = ((c.toNat * i'.bytes : Nat) : Int) := by rw [← hc]; simp [Int.mul_comm]
  rw [this]; omega
 have hcn : ¬ c < 0 := by omega
 have hln : ¬ l < 0 := by omega
 have hlc : ¬ l > c := by omega
 have hroom : ¬ (c.toNat * i'.bytes > roomBytes) := by unfold roomBytes; omega
 have hask : (askRoom (c.toNat * i'.bytes)).run P w = .ok () w := by unfold askRoom; rw [if_neg hroom]; rfl
 have hrow : ∀ cells : Array Value, (newRow e0 cells).run P w = .ok ⟨w.heap.size, 0, none⟩ (w.alloc (.cells cells e0)) := fun _ => rfl
 let cells : Array Value := (Array.range (c.toNat * v.cells.size)).map fun i => v.cells[i % v.cells.size]!
 have hrun : (execOp a.eval o).run P w = .ok (.value (.slice (some ⟨w.heap.size, 0, none⟩) l.toNat c.toNat)) (w.alloc (.cells cells e0)) := by
  have hcond : (decide (c < 0) || decide ((i'.bytes : Int) * c > 281474976710656) || decide (l < 0) || decide (l > c)) = false := by
   simp [hcn, hbytes, hln, hlc]
  simp only [execOp, ho, Bo hx, Bo hy, Instr.makeSlice, Sem.run_bind, run_underlying hu, Result.andThen_ok, asInt, asIntOf, Sem.run_pure, Js hi, PY h2 h4, PY h1.1 (show l ≤ 9223372036854775807 by omega)]
  have hcond' : (decide (c < 0) || decide ((i'.bytes : Int) * c > 2 ^ 48) || decide (l < 0) || decide (l > c)) = false := hcond
  simp only [hcond', Bool.false_eq_true, if_false, Sem.run_bind, Sem.run_pure, Result.andThen_ok, hask, Go.sizeOf, Js hi]
  by_cases h0 : c.toNat * i'.size = 0
  · simp only [h0, if_true, Sem.run_bind, Sem.run_pure, Result.andThen_ok, hrow]
    have : cells = (Array.range 0).map fun x => (#[] : Array Value)[x % (#[] : Array Value).size]! := by
     apply Array.toList_inj.1
     have hz0 : c.toNat * v.cells.size = 0 := by rw [hvs]; exact h0
     simp [cells, hz0]
    rw [this]
  · simp only [h0, if_false, Sem.run_bind, Cs hi hv, Result.andThen_ok, Sem.run_pure, hrow]
    have : cells = (Array.range (c.toNat * i'.size)).map fun x => v.cells[x % v.cells.size]! := by
     simp only [cells, hvs]
    rw [this]
 have hcells : cells.toList = (List.range c.toNat).flatMap fun _ => v.cells.toList := Oc v.cells c.toNat
 have hlc2 : l.toNat ≤ c.toNat := by omega
 have hcm : c.toNat ≤ maxLen := by unfold maxLen; omega
 have hvl : v.cells.toList.length = i'.size := by rw [Array.length_toList]; exact hvs
 have hcells2 : cells.toList = ((List.range l.toNat).flatMap fun _ => v.cells.toList) ++ ((List.range' l.toNat (c.toNat - l.toNat)).flatMap fun _ => v.cells.toList) := by
  rw [hcells, ← List.flatMap_append]
  congr 1
  have h := List.range'_append_1 (s := 0) (m := l.toNat) (n := c.toNat - l.toNat)
  rw [Nat.zero_add, Nat.add_sub_cancel' hlc2] at h
  rw [List.range_eq_range', List.range_eq_range', h]
 have hcs : cells.size = c.toNat * i'.size := by
  rw [← Array.length_toList, hcells]; exact Ak c.toNat fun _ _ => hvl
 obtain ⟨F1, fam1, m1, m2⟩ := I7 (el := e0) (get := fun _ => z) hm hs [] (Br hd hdst) hcs hlc2 hcm hcells2 (fun j _ => ⟨hvl, hrz, AF.Aa _⟩) (fun _ _ _ _ _ => AF.BR _)
 simp only [DB] at m2
 unfold Pp at h
 split at h
 · obtain rfl := Option.some.inj h
   obtain ⟨ρ2, fam2, m3⟩ := m2.U3 (t := d) (id2 := .loc d 0) hid nofun (BN _ _ _)
   rw [S4] at m3
   exact .of hrun m1 m3 (by simp only [BK, hdst, DB]) (by rw [hdst])
 · obtain rfl := Option.some.inj h
   exact .of hrun m1 m2 (by simp only [BK, hdst, DB]) (by rw [hdst])
 · obtain ⟨hp, h⟩ := AL h
   obtain rfl := Option.some.inj h
   have hget : ∀ j, j < l.toNat → ∀ k u, v.cells.toList[k]? = some u → cells[j * i'.size + k]? = some u := fun j hj k u hu => by
    rw [← Array.getElem?_toList, hcells]
    exact CO (f := fun _ : Nat => v.cells.toList) (List.range c.toNat) j k (v := j) (fun _ _ => hvl) (List.getElem?_range (by omega)) hu
   obtain ⟨F2, fam2, k1, k2⟩ := I6 (el := e0) (sz := i'.size) (n := l.toNat) (c := c.toNat) (get := fun _ => z.AP) hm hs (Br hd hdst) hcs hlc2 hcm (fun j hj => ⟨v.cells.toList, hvl, Qe hrz hp, hget j hj⟩) (some e0) (fun e he => (Option.some.inj he).symm)
   exact .of hrun k1 k2 (by simp only [BK, hdst, DB]) (by rw [hdst])
end
end Go.Vm
end
section
namespace Go.Vm
open Go
section
variable {P : Program} {w : World}
theorem run_append_fits {t u ty e : TypeId} {i : TypeInfo} {d : TypeDesc} (ht : P.underlying t = some (.slice e)) (hi : P.info? e = some i) (hu : P.underlying u = some d) (hd : ∀ k, d ≠ .int k)
 {base : Option Addr} {sLen sCap m : Nat} {y : Value} {news : List Value} (hlen : (Builtin.lenOf y).run P w = .ok m w) (hfirst : (Builtin.firstCells i.size m y).run P w = .ok news.toArray w)
 (hroom : sLen + m ≤ sCap) {w' : World} (hst : ∀ a, base = some a → (storeCells (a.add (sLen * i.size)) news).run P w = .ok () w') (hno : base = none → w' = w) :
 (Builtin.append_ #[t, u] ty #[.slice base sLen sCap, y]).run P w = .ok (.slice base (sLen + m) sCap) w' := by
 have hz : (match d with | .int _ => true | _ => false) = false := by
  cases d <;> first | rfl | (exact absurd rfl (hd _))
 unfold Builtin.append_
 simp only [List.getElem?_toArray, List.getElem?_cons_zero, List.getElem?_cons_succ, Sem.run_bind, run_underlying ht, run_underlying hu, Result.andThen_ok, Go.sizeOf, Js hi, Sem.run_pure, hz, Bool.false_eq_true, if_false, Bool.not_false, if_true, hlen, hroom, hfirst]
 cases base with
 | none => simp [hno rfl]
 | some b => simp [hst b rfl]
theorem Gh {t u ty e : TypeId} {i : TypeInfo} {d : TypeDesc} {z : Value} (ht : P.underlying t = some (.slice e)) (hi : P.info? e = some i) (hiz : i.zero = some z) (hu : P.underlying u = some d) (hd : ∀ k, d ≠ .int k)
 {base : Option Addr} {sLen sCap m : Nat} {y : Value} {olds news : List Value} (hlen : (Builtin.lenOf y).run P w = .ok m w)
 (hfirst : (Builtin.firstCells i.size m y).run P w.drew = .ok news.toArray w.drew) (hold : (Builtin.firstCells i.size sLen (.slice base sLen sCap)).run P w.drew = .ok olds.toArray w.drew)
 (hroom : ¬ (sLen + m ≤ sCap)) (h63 : sLen + m ≤ 9223372036854775807) (hbytes : (sLen + m) * i.bytes ≤ 140737488355328) (hb0 : i.bytes ≠ 0) :
 (Builtin.append_ #[t, u] ty #[.slice base sLen sCap, y]).run P w =
   .ok (.slice (some ⟨w.heap.size, 0, none⟩) (sLen + m) (grownCap w (sLen + m) sCap e)) (w.drew.alloc (.cells (olds.toArray ++ news.toArray ++ Builtin.zeroCells z.cells (grownCap w (sLen + m) sCap e - (sLen + m))) e)) := by
 have hz : (match d with | .int _ => true | _ => false) = false := by
  cases d <;> first | rfl | (exact absurd rfl (hd _))
 have hfit : ¬ (Builtin.nextslicecap (sLen + m) sCap * i.bytes > 2 ^ 48) := by
  have := growslice_fits (old := sCap) (need := sLen + m) (bytes := i.bytes) (by omega) hbytes
  omega
 have hmax : ¬ (((sLen + m : Nat) : Int) > IntKind.i64.max ∧ (false = true ∨ i.bytes = 0)) := by
  rintro ⟨_, h | h⟩
  · cases h
  · exact hb0 h
 have h63' : ¬ (9223372036854775807 < ((sLen : Int) + (m : Int))) := by omega
 have h48' : ¬ (281474976710656 < Builtin.nextslicecap (sLen + m) sCap * i.bytes) := by omega
 unfold Builtin.append_
 simp only [List.getElem?_toArray, List.getElem?_cons_zero, List.getElem?_cons_succ, Sem.run_bind, run_underlying ht, run_underlying hu, Result.andThen_ok, Go.sizeOf, Js hi, Sem.run_pure, hz, Bool.false_eq_true, if_false, Bool.not_false, if_true, hlen, hroom]
 simp [h63', h48', Question.forced, hfirst, hold, newRow, grownCap, zeroValue, typeInfo, hi, hiz]
 congr 2
 apply Array.ext'
 simp [List.append_assoc]
theorem FZ {w : World} {g o m sz : Nat} {f : Nat → List Value} (hl : ∀ i, i < m → (f i).length = sz) (hr : ∀ i, i < m → Reads w g (o + i * sz) (f i)) :
 ∀ j u, ((List.range m).flatMap f)[j]? = some u → w.cell? ((⟨g, o, none⟩ : Addr).add j) = some u := by
 intro j u hj
 have hlen := Ak m hl
 have hlt := (List.getElem?_eq_some_iff.1 hj).1
 rw [hlen] at hlt
 have hpos : 0 < sz := by
  rcases Nat.eq_zero_or_pos sz with h | h
  · rw [h] at hlt; omega
  · exact h
 have hdiv : j / sz < m := (Nat.div_lt_iff_lt_mul hpos).2 hlt
 have hmod : j % sz < sz := Nat.mod_lt _ hpos
 have e : j / sz * sz + j % sz = j := by rw [Nat.mul_comm]; exact Nat.div_add_mod j sz
 have hfl : j % sz < (f (j / sz)).length := by rw [hl _ hdiv]; exact hmod
 have hget := CO (f := f) (List.range m) (j / sz) (j % sz) (v := j / sz) (u := (f (j / sz))[j % sz]) (sz := sz) (fun v hv => hl v (List.mem_range.1 hv)) (by simp [hdiv]) (List.getElem?_eq_getElem hfl)
 rw [e, hj] at hget
 have := hr (j / sz) hdiv (j % sz) u (by rw [List.getElem?_eq_getElem hfl, ← hget])
 rw [Bs]
 rwa [Nat.add_assoc, e] at this
variable {Γ : Ctx} {F : AF} {ρ : Names} {fam : Et} {s : St} {a : Act} {o : Oper} {kn : Nat → Option Bool} {pol : Nat → Nat} {e : FF}
structure UB (P : Program) (F : AF) (w : World) (sz m : Nat) (add : Nat → V) (y : Value) : Prop where
 len : (Builtin.lenOf y).run P w = .ok m w
 ex : ∃ news : List Value, news.length = m * sz ∧ (∀ w' : World, w'.heap = w.heap → (Builtin.firstCells sz m y).run P w' = .ok news.toArray w') ∧ (∀ u ∈ news, u.oneCell' = true) ∧
  ∀ j, j < m → ∃ xs, xs.length = sz ∧ AK F w As (add j) xs none_ ∧ ∀ k u, xs[k]? = some u → news[j * sz + k]? = some u
theorem HD {w w' : World} (h : w'.heap = w.heap) (x : Addr) : w'.cell? x = w.cell? x := by unfold World.cell?; rw [h]
theorem IQ {sz m : Nat} {add : Nat → V} {y : Value} (f : Nat → List Value) (hlen : (Builtin.lenOf y).run P w = .ok m w)
 (hf : ∀ i, i < m → (f i).length = sz ∧ AK F w As (add i) (f i) none_) (hfirst : ∀ w' : World, w'.heap = w.heap → (Builtin.firstCells sz m y).run P w' = .ok ((List.range m).flatMap f).toArray w') : UB P F w sz m add y where
 len := hlen
 ex := by
  refine ⟨(List.range m).flatMap f, Ak m fun i hi => (hf i hi).1, hfirst, fun u hu => ?_, fun j hj => ⟨f j, (hf j hj).1, (hf j hj).2, fun k u hu => ?_⟩⟩
  · obtain ⟨i, hi, hu⟩ := List.mem_flatMap.1 hu
    exact KZ (hf i (List.mem_range.1 hi)).2 u hu
  · exact CO (f := f) (List.range m) j k (v := j) (sz := sz) (fun v hv => (hf v (List.mem_range.1 hv)).1) (by simp [hj]) hu
theorem OP (hs : Ac Γ F w ρ fam s a.tmps) {y : Operand} {sz m : Nat} {add : Nat → V} {id : Option Id} {side : Option (Bool × Prop)} (h : Fb sz s.H (AR s.tm y) = some (m, add, id, side)) (hside : ∀ b p, side = some (b, p) → b = true ∧ p) :
 UB P F w sz m add (a.eval y) := by
 have hy := Ag hs y
 unfold Fb at h
 split at h <;> (try cases h)
 · rename_i tok s' nil n get hev
   rw [hev] at hy
   obtain ⟨hc, h⟩ := AL h
   simp only [Option.some.injEq, Prod.mk.injEq] at h
   obtain ⟨rfl, rfl, _, _⟩ := h
   obtain ⟨A, c, k1, k2, k3, k4, k5⟩ := Ha hy
   rw [k1]
   cases nil with
   | true =>
     obtain ⟨rfl, rfl, rfl⟩ := k4 rfl
     exact IQ (fun _ => []) (by simp [Builtin.lenOf]) (fun i hi => by omega) (fun w' _ => by simp [Builtin.firstCells])
   | false =>
     obtain ⟨g, o', q, rfl, hq, _, hel⟩ := k5 rfl
     have hsz : sz = s' := by simpa using hc
     subst hsz
     have hch : ∀ i : Nat, ∃ xs : List Value, i < n → xs.length = sz ∧ AK F w As (get i) xs none_ ∧ Reads w g (o' + i * sz) xs := by
      intro i
      by_cases hi : i < n
      · obtain ⟨xs, h1, h2, h3, _⟩ := hel i hi
        exact ⟨xs, fun _ => ⟨h1, h2, h3⟩⟩
      · exact ⟨[], fun h => absurd h hi⟩
     obtain ⟨f, hf⟩ := Classical.skolem.1 hch
     refine IQ f (by simp [Builtin.lenOf]) (fun i hi => ⟨(hf i hi).1, (hf i hi).2.1⟩) (fun w' hw' => ?_)
     rcases hq with rfl | rfl
     case inr =>
      obtain rfl : n = 0 := by omega
      simp [Builtin.firstCells, loadCells, loadCellsFrom]
     have := run_loadCells_list (P := P) (w := w') ⟨g, o', none⟩ _ (fun j u hj => by rw [HD hw']; exact FZ (fun i hi => (hf i hi).1) (fun i hi => (hf i hi).2.2) j u hj)
     rw [Ak n fun i hi => (hf i hi).1] at this
     exact this
 · rename_i b hev
   rw [hev] at hy
   obtain ⟨hc, h⟩ := AL h
   simp only [Option.some.injEq, Prod.mk.injEq] at h
   obtain ⟨rfl, rfl, _, _⟩ := h
   obtain rfl := Nat.eq_of_beq_eq_true hc
   rw [FM hy]
   refine IQ (fun i => [.int .u8 (bt b i)]) (by simp [Builtin.lenOf]) (fun i hi => ⟨rfl, rfl⟩) (fun w' _ => ?_)
   have e : ((b.extract 0 b.size).data.map fun c => Value.int .u8 c.toNat) = ((List.range b.size).flatMap fun i => [Value.int .u8 (bt b i)]).toArray := by
    apply Array.toList_inj.1
    apply List.ext_getElem?
    intro j
    have hfm : ((List.range b.size).flatMap fun i => [Value.int .u8 (bt b i)]) = (List.range b.size).map fun i => Value.int .u8 (bt b i) := by
     exact (List.map_eq_flatMap ..).symm
    rw [hfm]
    by_cases hj : j < b.size
    · simp [hj, bt]
      rfl
    · simp [hj]
   simp only [Builtin.firstCells, Sem.run_pure, e]
 · rename_i id' p s' N off len hev
   rw [hev] at hy
   obtain ⟨hc, h⟩ := AL h
   obtain rfl := Nat.eq_of_beq_eq_true hc
   split at h <;> (try cases h)
   rename_i c hHc
   split at h <;> (try cases h)
   rename_i s'' N' get hnav
   obtain ⟨hc2, h⟩ := AL h
   simp only [Option.some.injEq, Prod.mk.injEq] at h
   obtain ⟨rfl, rfl, _, hsd⟩ := h
   obtain rfl := Nat.eq_of_beq_eq_true hc2
   obtain ⟨hb, hclosed⟩ := hside _ _ hsd.symm
   simp only [Bool.and_eq_true] at hb
   obtain rfl := Nat.eq_of_beq_eq_true hb.2
   obtain ⟨g, of, cap, A, k1, k2, k3, k4, k5, k6, k7⟩ := H7 hy
   obtain ⟨xs, f, m1, m2, m3, m4⟩ := Kx (hs.bl id' c (g, of) hHc k1) (y := .arr sz N get) rfl hnav
   obtain ⟨q⟩ := Dv p c k2 hb.1 m1 hnav
   have hq := q.rel
   simp only [AK] at hq
   obtain ⟨f0, fs, h1, _, hzs⟩ := hq
   have hreads : Reads w g (of + Ab p) q.zs := by
    have hr := m2.reads
    have hxs := q.eq
    rw [hxs] at hr
    intro j u hu
    have := hr.part j u hu
    rwa [q.len] at this
   have hel : ∀ i, i < len → Reads w g (of + Ab p + off * sz + i * sz) (f0 (off + i)) := by
    intro i hi j u hu
    have := CO (f := f0) (List.range N) (off + i) j (v := off + i) (sz := sz) (fun v hv => (h1 v (List.mem_range.1 hv)).1) (by rw [List.getElem?_range (by omega)]) hu
    rw [← hzs] at this
    have := hreads _ u this
    rw [← this]
    congr 2
    rw [Nat.add_mul]
    omega
   rw [k3]
   refine IQ (fun i => f0 (off + i)) (by simp [Builtin.lenOf]) (fun i hi => ⟨(h1 _ (by omega)).1, E6 _ (h1 _ (by omega)).2.1 (hclosed i hi)⟩) (fun w' hw' => ?_)
   by_cases h0 : len = 0
   · subst h0; cases A <;> simp [Builtin.firstCells, loadCells, loadCellsFrom]
   · obtain rfl := k7 (by omega)
     have := run_loadCells_list (P := P) (w := w') ⟨g, of + Ab p + off * sz, none⟩ _ (fun j u hj => by rw [HD hw']; exact FZ (f := fun i => f0 (off + i)) (fun i hi => (h1 _ (by omega)).1) hel j u hj)
     rw [Ak (f := fun i => f0 (off + i)) len fun i hi => (h1 _ (by omega)).1] at this
     exact this
end
end Go.Vm
end
section
namespace Go.Vm
open Go
theorem Ti {sz : Nat} : ∀ (m : Nat) {news : List Value} {f : Nat → List Value}, news.length = m * sz → (∀ j, j < m → (f j).length = sz) → (∀ j, j < m → ∀ k u, (f j)[k]? = some u → news[j * sz + k]? = some u) →
 news = (List.range m).flatMap f := by
 intro m news f hl hf h
 have hl2 : ((List.range m).flatMap f).length = m * sz := Ak m hf
 apply List.ext_getElem?
 intro i
 by_cases hi : i < m * sz
 · have hpos : 0 < sz := by
    rcases Nat.eq_zero_or_pos sz with h | h
    · rw [h] at hi; omega
    · exact h
   have hdiv : i / sz < m := (Nat.div_lt_iff_lt_mul hpos).2 hi
   have hmod : i % sz < sz := Nat.mod_lt _ hpos
   have hlt : i % sz < (f (i / sz)).length := by rw [hf _ hdiv]; exact hmod
   have hk : (f (i / sz))[i % sz]? = some (f (i / sz))[i % sz] := List.getElem?_eq_getElem hlt
   have e : i / sz * sz + i % sz = i := by rw [Nat.mul_comm]; exact Nat.div_add_mod i sz
   have h1 := h _ hdiv _ _ hk
   have h2 := CO (f := f) (List.range m) (i / sz) (i % sz) (v := i / sz) (sz := sz) (fun v hv => hf v (List.mem_range.1 hv)) (by simp [hdiv]) hk
   rw [e] at h1 h2
   rw [h1, h2]
 · rw [List.getElem?_eq_none (by omega), List.getElem?_eq_none (by omega)]
theorem Ew {j n : Nat} (h : j < n) : Nat.blt j n = true := by rw [Nat.blt_eq]; exact h
theorem E8 {j n : Nat} (h : ¬ j < n) : Nat.blt j n = false := by
 cases hb : Nat.blt j n
 · rfl
 · rw [Nat.blt_eq] at hb; exact absurd hb h
section
variable {P : Program} {Γ : Ctx} {F : AF} {w : World} {ρ : Names} {fam : Et} {s : St} {a : Act} {o : Oper} {kn : Nat → Option Bool} {pol : Nat → Nat} {e : FF}
structure S1 (P : Program) (F : AF) (w : World) (ρ : Names) (sz m : Nat) (add : Nat → V) (y : Value) (fy : AF) : Prop where
 len : (Builtin.lenOf y).run P w = .ok m w
 ex : ∃ (f : Nat → List Value) (fs : Nat → AF), (∀ j, j < m → (f j).length = sz ∧ AK F w ρ (add j) (f j) (fs j) ∧ (fs j).Sub fy) ∧ (∀ i j, i < m → j < m → i ≠ j → (fs i).D6 (fs j)) ∧
  (∀ w' : World, w'.heap = w.heap → (Builtin.firstCells sz m y).run P w' = .ok ((List.range m).flatMap f).toArray w') ∧ ∀ u ∈ (List.range m).flatMap f, u.oneCell' = true
theorem Nr {x : V} {cs : List Value} (h : AK F w As x cs none_) : AK F w ρ x cs none_ := R2 h
theorem RG (hs : Ac Γ F w ρ fam s a.tmps) {y : Operand} {sz m : Nat} {add : Nat → V} {id : Option Id} {side : Option (Bool × Prop)} (h : K6 sz s.H (AR s.tm y) = some (m, add, id, side)) (hside : ∀ b p, side = some (b, p) → b = true ∧ p) :
 S1 P F w ρ sz m add (a.eval y) (Cy fam (Ap y (AR s.tm y))) := by
 have base : Fb sz s.H (AR s.tm y) = some (m, add, id, side) → S1 P F w ρ sz m add (a.eval y) (Cy fam (Ap y (AR s.tm y))) := by
  intro h
  obtain ⟨h1, news, n1, n2, n3, n4⟩ := OP (P := P) hs h hside
  have hch : ∀ j : Nat, ∃ xs : List Value, j < m → xs.length = sz ∧ AK F w As (add j) xs none_ ∧ ∀ k u, xs[k]? = some u → news[j * sz + k]? = some u := by
   intro j
   by_cases hj : j < m
   · obtain ⟨xs, q⟩ := n4 j hj; exact ⟨xs, fun _ => q⟩
   · exact ⟨[], fun h => absurd h hj⟩
  obtain ⟨f, hf⟩ := Classical.skolem.1 hch
  have he := Ti m n1 (fun j hj => (hf j hj).1) (fun j hj => (hf j hj).2.2)
  rw [he] at n2 n3
  exact ⟨h1, f, fun _ => none_, fun j hj => ⟨(hf j hj).1, Nr (hf j hj).2.1, AF.Aa _⟩, fun _ _ _ _ _ => AF.BR _, n2, n3⟩
 cases hv : AR s.tm y with
 | A4 e s' nil n get =>
   rw [hv] at h
   simp only [K6] at h
   obtain ⟨hsz, h'⟩ := AL h
   obtain rfl := Nat.eq_of_beq_eq_true hsz
   simp only [Option.some.injEq, Prod.mk.injEq] at h'
   obtain ⟨rfl, rfl, _, _⟩ := h'
   have hy := Ag hs y
   rw [hv] at hy
   have hslot : ∃ t0, y = .tmp t0 := by
    cases y with
    | tmp t0 => exact ⟨t0, rfl⟩
    | const v =>
      exfalso
      simp only [AR, JB] at hv
      split at hv <;> simp at hv
    | global => simp [AR] at hv
    | func => simp [AR] at hv
   obtain ⟨t0, rfl⟩ := hslot
   have htk : Cy fam (Ap (.tmp t0) (V.A4 e sz nil n get)) = fun g o => fam (.t t0) g o := by
    funext g o
    simp [Ap, V.C0, DJ, Cy]
   rw [htk]
   obtain ⟨A, c, rfl', k2, k3, hr⟩ := Mg hy
   rw [rfl']
   simp only [AK] at hr
   obtain ⟨A', c', e1, _, _, k4, k5⟩ := hr
   rw [rfl'] at e1
   simp only [List.cons.injEq, Value.slice.injEq, and_true, true_and] at e1
   obtain ⟨rfl, rfl⟩ := e1
   cases nil with
   | true =>
     obtain ⟨rfl, rfl, rfl⟩ := k4 rfl
     exact ⟨by simp [Builtin.lenOf], fun _ => [], fun _ => none_, fun j hj => by omega, fun i j hi => by omega, fun w' _ => by simp [Builtin.firstCells], fun u hu => by simp at hu⟩
   | false =>
     obtain ⟨g, of, rfl, _, _, xs, f, fs, q1, q2, q3, q4⟩ := k5 rfl
     refine ⟨by simp [Builtin.lenOf], f, fs, fun j hj => ⟨(q3 j hj).1, (q3 j hj).2.1, (q3 j hj).2.2.1⟩, q4, fun w' hw' => ?_, ?_⟩
     · have := run_loadCells_list (P := P) (w := w') ⟨g, of, none⟩ ((List.range n).flatMap f) (fun j u hj => by rw [HD hw', Bs]; exact q2.reads j u (by rw [q1]; exact hj))
       rw [Ak n fun i hi => (q3 i hi).1] at this
       exact this
     · intro u hu
       obtain ⟨j, hj, hu⟩ := List.mem_flatMap.1 hu
       exact KZ (q3 j (List.mem_range.1 hj)).2.1 u hu
 | _ => rw [hv] at h base; exact base h
theorem SJ {f f' : Nat → List Value} (n m : Nat) : (List.range (n + m)).flatMap (fun j => if j < n then f j else f' (j - n)) = (List.range n).flatMap f ++ (List.range m).flatMap f' := by
 rw [List.range_eq_range', ← List.range'_append_1 (s := 0) (m := n) (n := m), List.flatMap_append, Nat.zero_add]
 congr 1
 · rw [← List.range_eq_range']
   exact Dz fun j hj => by simp [List.mem_range.1 hj]
 · have : List.range' n m = (List.range m).map (n + ·) := by rw [List.range_eq_range', List.map_add_range', Nat.add_zero]
   rw [this, List.flatMap_map]
   refine Dz fun j _ => ?_
   have e1 : ¬ (n + j < n) := by omega
   have e2 : n + j - n = j := by omega
   show (if n + j < n then f (n + j) else f' (n + j - n)) = f' j
   rw [if_neg e1, e2]
theorem LM (hm : Mem Γ w F) (hs : Ac Γ F w ρ fam s a.tmps) {d : Nat} (hd : d < a.tmps.size) {t u : TypeId} {du : TypeDesc} (hdu : P.underlying u = some du) (hdk : ∀ k, du ≠ .int k) {x y : Operand}
 {e0 s0 : Nat} {nil : Bool} {n : Nat} {get : Nat → V} (hX : AR s.tm x = .A4 e0 s0 nil n get) (h : J3 P t s.H e0 s0 nil n get (AR s.tm y) (Ap x (AR s.tm x) ++ Ap y (AR s.tm y)) = some e) (hn : e.need = true)
 (hside : ∀ p, e.side = some p → p) (ty : TypeId) :
 ∃ v w', (Builtin.append_ #[t, u] ty #[a.eval x, a.eval y]).run P w = .ok v w' ∧ (∀ id c, e.Jr ≠ some (id, some c)) ∧ e.new = none ∧
   ∃ F' ρ' fam', Mem Γ w' F' ∧ Ac Γ F' w' ρ' fam' { tm := C8 (takes s.tm e.take) d e.res, H := s.H } (a.put (some d) v).tmps := by
 unfold J3 at h
 split at h <;> (try cases h)
 rename_i e1 i hel
 unfold elemOf at hel
 split at hel <;> (try cases hel)
 rename_i e1' hu
 simp only [Option.map_eq_some_iff, Prod.mk.injEq] at hel
 obtain ⟨i', hi, rfl, rfl⟩ := hel
 split at h <;> (try cases h)
 rename_i m add id side hadd
 obtain ⟨hc2, h⟩ := AL h
 obtain rfl := Option.some.inj h
 simp only [Bool.and_eq_true] at hc2 hn
 obtain ⟨hz, hsz, hby, hs0, he0, hnd⟩ := hc2
 obtain ⟨hsb, hn⟩ := hn
 obtain rfl := Nat.eq_of_beq_eq_true hs0
 obtain rfl := Nat.eq_of_beq_eq_true he0
 have hnd := G3 hnd
 split at hz <;> (try cases hz)
 rename_i z hiz
 have hzs := Nat.eq_of_beq_eq_true hz
 have hsz : 0 < i'.size := by simpa [Nat.blt_eq] using hsz
 have hby : 0 < i'.bytes := by simpa [Nat.blt_eq] using hby
 simp only [room, decide_eq_true_eq] at hn
 obtain ⟨alen, f', fs', a1, a2, a3, a4⟩ := RG (P := P) hs hadd (fun b p hp => by subst hp; exact ⟨hsb, hside p rfl⟩)
 have hnm : n + m ≤ 140737488351232 := Nat.le_trans (Nat.le_mul_of_pos_right (n + m) hby) hn
 have hxrel := Ag hs x
 rw [hX] at hxrel
 have hslot : ∃ t0, x = .tmp t0 := by
  cases x with
  | tmp t0 => exact ⟨t0, rfl⟩
  | const v =>
    exfalso
    simp only [AR, JB] at hX
    split at hX <;> simp at hX
  | global => simp [AR] at hX
  | func => simp [AR] at hX
 obtain ⟨t0, rfl⟩ := hslot
 have htx : Ap (.tmp t0) (AR s.tm (.tmp t0)) = [t0] := by rw [hX]; rfl
 generalize hty : Ap y (AR s.tm y) = ty' at *
 rw [htx] at hnd ⊢
 have hne : ∀ t ∈ ty', t ≠ t0 := fun t ht e => by
  subst e
  simp only [List.cons_append, List.nil_append, List.nodup_cons] at hnd
  exact hnd.1 ht
 obtain ⟨A, c, hav, k2, k3, hr⟩ := Mg hxrel
 simp only [AK] at hr
 obtain ⟨A', c', e1, _, _, k4, k5⟩ := hr
 rw [hav] at e1
 simp only [List.cons.injEq, Value.slice.injEq, and_true, true_and] at e1
 obtain ⟨rfl, rfl⟩ := e1
 have hnews : ((List.range m).flatMap f').length = m * i'.size := Ak m fun j hj => (a1 j hj).1
 have hfy : ∀ g o, Cy fam ty' g o → Cy fam ([t0] ++ ty') g o := fun g o ⟨t, ht, h⟩ => ⟨t, by simp [ht], h⟩
 have hfx : ∀ g o, fam (.t t0) g o → Cy fam ([t0] ++ ty') g o := fun g o h => ⟨t0, by simp, h⟩
 have hxy : ∀ g o, fam (.t t0) g o → Cy fam ty' g o → False := fun g o h ⟨t, ht, h'⟩ => hs.off (.t t0) (.t t) (fun e => hne t ht (by cases e; rfl)) g o h h'
 -- the SI elements, once those of x are known
 have grow : ∀ (f : Nat → List Value) (fs : Nat → AF), (∀ j, j < n → (f j).length = i'.size ∧ AK F w ρ (get j) (f j) (fs j) ∧ (fs j).Sub (fam (.t t0))) → (∀ i j, i < n → j < n → i ≠ j → (fs i).D6 (fs j)) →
  (Builtin.firstCells i'.size n (a.eval (.tmp t0))).run P w.drew = .ok ((List.range n).flatMap f).toArray w.drew → ¬ (n + m ≤ c) →
  ∃ v w', (Builtin.append_ #[t, u] ty #[a.eval (.tmp t0), a.eval y]).run P w = .ok v w' ∧ ∃ F' ρ' fam', Mem Γ w' F' ∧ Ac Γ F' w' ρ' fam' { tm := C8 (takes s.tm ([t0] ++ ty')) d (.A4 e0 i'.size (cond (Nat.beq m 0) nil false) (n + m) fun j => V.mix (Nat.blt j n) (get j) (add (j - n))), H := s.H } (a.put (some d) v).tmps := by
  intro f fs b1 b2 b3 hroom
  have hm0 : Nat.beq m 0 = false := by
   cases hb : Nat.beq m 0
   · rfl
   · have := Nat.eq_of_beq_eq_true hb; omega
  rw [hav] at b3
  have hrun := Gh (ty := ty) hu hi hiz hdu hdk alen (a3 w.drew rfl) b3 hroom (by omega) (by omega) (by omega)
  obtain ⟨d1, d2⟩ := hs.drew hm
  have hge := grownCap_ge w (n + m) c e0
  have hcm := grownCap_le_maxLen w (n + m) c e0 (by unfold maxLen; omega)
  have kd : ∀ {x : V} {xs : List Value} {fp : AF}, AK F w ρ x xs fp → AK F w.drew ρ x xs fp := fun hx => hx.BD (Ext.drew w) (AF.Sub.refl _) (fun _ _ _ => rfl) _ (fun _ _ h => h) (fun _ _ _ => rfl) (AF.Sub.refl _)
  have ho1 : ((List.range n).flatMap f).length = n * i'.size := Ak n fun j hj => (b1 j hj).1
  have hcells : (((List.range n).flatMap f).toArray ++ ((List.range m).flatMap f').toArray ++ Builtin.zeroCells z.cells (grownCap w (n + m) c e0 - (n + m))).size = grownCap w (n + m) c e0 * i'.size := by
   simp only [Array.size_append, List.size_toArray, size_zeroCells, hzs, ho1, hnews, ← Nat.add_mul]
   congr 1
   omega
  have hb1 : ∀ j, j < n + m → (if j < n then f j else f' (j - n)).length = i'.size ∧ AK F w.drew ρ (V.mix (Nat.blt j n) (get j) (add (j - n))) (if j < n then f j else f' (j - n)) (if j < n then fs j else fs' (j - n)) ∧
   (if j < n then fs j else fs' (j - n)).Sub (Cy fam ([t0] ++ ty')) := by
   intro j hj
   by_cases hjn : j < n
   · simp only [hjn, if_true, Ew hjn, V.Dg, cond_true]
     exact ⟨(b1 j hjn).1, kd (b1 j hjn).2.1, fun g o h => hfx g o ((b1 j hjn).2.2 g o h)⟩
   · simp only [hjn, if_false, E8 hjn, V.Dg, cond_false]
     exact ⟨(a1 _ (by omega)).1, kd (a1 _ (by omega)).2.1, fun g o h => hfy g o ((a1 _ (by omega)).2.2 g o h)⟩
  have hb2 : ∀ i j, i < n + m → j < n + m → i ≠ j → (if i < n then fs i else fs' (i - n)).D6 (if j < n then fs j else fs' (j - n)) := by
   intro i j hi hj hij
   by_cases hin : i < n <;> by_cases hjn : j < n <;> simp only [hin, hjn, if_true, if_false]
   · exact b2 i j hin hjn hij
   · exact fun g o h1 h2 => hxy g o ((b1 i hin).2.2 g o h1) ((a1 _ (by omega)).2.2 g o h2)
   · exact fun g o h1 h2 => hxy g o ((b1 j hjn).2.2 g o h2) ((a1 _ (by omega)).2.2 g o h1)
   · exact a2 _ _ (by omega) (by omega) (by omega)
  obtain ⟨F', fam', s1, s2⟩ := I7 (a := a) (el := e0) (get := fun j => V.mix (Nat.blt j n) (get j) (add (j - n))) d1 d2 ([t0] ++ ty') hd hcells hge hcm (f := fun j => if j < n then f j else f' (j - n)) (fs := fun j => if j < n then fs j else fs' (j - n))
   (rest := (Builtin.zeroCells z.cells (grownCap w (n + m) c e0 - (n + m))).toList) (by rw [SJ]; simp) hb1 hb2
  rw [hm0, cond_false]
  exact ⟨_, _, by rw [hav]; exact hrun, F', ρ, fam', s1, s2⟩
 suffices hmain : ∃ v w', (Builtin.append_ #[t, u] ty #[a.eval (.tmp t0), a.eval y]).run P w = .ok v w' ∧ ∃ F' ρ' fam', Mem Γ w' F' ∧ Ac Γ F' w' ρ' fam' { tm := C8 (takes s.tm ([t0] ++ ty')) d (.A4 e0 i'.size (cond (Nat.beq m 0) nil false) (n + m) fun j => V.mix (Nat.blt j n) (get j) (add (j - n))), H := s.H } (a.put (some d) v).tmps by
  obtain ⟨v, w', h1, h2⟩ := hmain
  exact ⟨v, w', h1, fun id' c' h => by cases id <;> simp at h, rfl, h2⟩
 cases hnil : nil with
 | true =>
   subst hnil
   obtain ⟨rfl, rfl, rfl⟩ := k4 rfl
   by_cases hm0 : m = 0
   · subst hm0
     have hrun := run_append_fits (ty := ty) (base := none) (sLen := 0) (sCap := 0) (w' := w) hu hi hdu hdk alen (a3 w rfl) (Nat.le_refl _) (fun a h => by cases h) (fun _ => rfl)
     refine ⟨_, w, by rw [hav]; exact hrun, F, ρ, _, hm, hs.val ([t0] ++ ty') d hd (fr := none_) ⟨nofun, fun _ => ⟨none, 0, rfl, Nat.le_refl _, Nat.zero_le _, fun _ => ⟨rfl, rfl, rfl⟩, nofun⟩⟩ (AF.Aa _)⟩
   · exact grow (fun _ => []) (fun _ => none_) (fun j hj => by omega) (fun i j hi => by omega) (by rw [hav]; simp [Builtin.firstCells]) (by omega)
 | false =>
   subst hnil
   obtain ⟨g, of, rfl, hsp, hreg, xs, f, fs, q1, q2, q3, q4⟩ := k5 rfl
   have hxl : xs.length = n * i'.size := by rw [q1]; exact Ak n fun j hj => (q3 j hj).1
   by_cases hroom : n + m ≤ c
   · have hmul : n * i'.size + m * i'.size ≤ c * i'.size := by rw [← Nat.add_mul]; exact Nat.mul_le_mul_right _ hroom
     -- where the new elements go is ours, and may be written
     have hsp2 : m = 0 ∨ (of = 0 ∧ ∃ cur : Array Value, w.heap[g]? = some (.cells cur e0 (0, 0)) ∧ cur.size = c * i'.size) := by
      rcases hsp with hsp | ⟨h1, cur, h2, h3, _⟩
      · left; omega
      · exact .inr ⟨h1, cur, h2, h3⟩
     have hcell : ∀ j, j < ((List.range m).flatMap f').length → (w.cell? ⟨g, of + n * i'.size + 0 + j, none⟩).isSome = true ∧ w.frozen? ⟨g, of + n * i'.size + 0 + j, none⟩ = false := by
      intro j hj
      rcases hsp2 with rfl | ⟨rfl, cur, h2, h3⟩
      · rw [hnews] at hj; omega
      · constructor
        · simp [World.cell?, h2, show n * i'.size + j < cur.size by omega]
        · simp [World.frozen?, h2]
     have hst := run_storeCells_cells (P := P) g (of + n * i'.size) ((List.range m).flatMap f') 0 w (fun j hj => (hcell j hj).1) (fun j hj => (hcell j hj).2) a4
     rw [Nat.add_zero] at hst
     have hrun := run_append_fits (ty := ty) (base := some ⟨g, of, none⟩) (sLen := n) (sCap := c) (w' := w.setCells g (of + n * i'.size) ((List.range m).flatMap f')) hu hi hdu hdk alen (a3 w rfl) hroom
      (fun a h => by cases h; rw [Bs]; exact hst) nofun
     have hE := Er g ((List.range m).flatMap f') (of + n * i'.size) w
     have hkeep : ∀ g' o', ¬ AZ g (of + n * i'.size) (m * i'.size) g' o' → (w.setCells g (of + n * i'.size) ((List.range m).flatMap f')).cell? ⟨g', o', none⟩ = w.cell? ⟨g', o', none⟩ := by
      intro g' o' hh
      refine World.cell?_setCells_out g _ _ w _ fun hb _ => ?_
      simp only at hb ⊢
      subst hb
      by_cases h1 : o' < of + n * i'.size
      · exact .inl h1
      · exact .inr (Nat.le_of_not_lt fun h2 => hh ⟨rfl, by omega, by omega⟩)
     have hin : ∀ g' o', AZ g (of + n * i'.size) (m * i'.size) g' o' → AZ g of (c * i'.size) g' o' := by
      rintro g' o' ⟨h1, h2, h3⟩
      exact ⟨h1, by omega, by omega⟩
     have hmine : ∀ g' o', AZ g (of + n * i'.size) (m * i'.size) g' o' → fam (.t t0) g' o' := fun g' o' h => hreg g' o' (hin g' o' h)
     have hdr := hs.drop ([t0] ++ ty')
     have hpn : ∀ {i : Ix} {g o : Nat}, CJ fam ([t0] ++ ty') none none_ i g o → fam i g o ∧ ∀ t ∈ [t0] ++ ty', i ≠ .t t := fun h => JX h
     have m1 : Mem Γ (w.setCells g (of + n * i'.size) ((List.range m).flatMap f')) F := by
      refine ⟨hm.ext.trans hE, hm.sub, hm.fresh, fun g' o' hn' => ?_, fun g' o' h => Nat.lt_of_lt_of_le (hm.live g' o' h) hE.size⟩
      rw [hkeep g' o' fun hh => hn' (hs.new _ g' o' (hmine g' o' hh))]
      exact hm.BD g' o' hn'
     have hsF : EL w (w.setCells g (of + n * i'.size) ((List.range m).flatMap f')) F := fun g' o' hF => hkeep g' o' fun hh => hs.DL _ g' o' (hmine g' o' hh) hF
     have s1 := hdr.BD (w' := w.setCells g (of + n * i'.size) ((List.range m).flatMap f')) hE (AF.Sub.refl _) hsF (fun i g' o' hg => hkeep g' o' fun hh => by
      obtain ⟨h1, h2⟩ := hpn hg
      exact hs.off i (.t t0) (h2 t0 (by simp)) g' o' h1 (hmine g' o' hh)) (fun i g' o' hg => hs.DL i g' o' (hpn hg).1)
     have hfull : ∀ g' o', (fun g o => fam (.t t0) g o ∨ Cy fam ty' g o) g' o' → ∃ t, t ∈ [t0] ++ ty' ∧ fam (.t t) g' o' := by
      rintro g' o' (h | ⟨t, ht, h⟩)
      · exact ⟨t0, by simp, h⟩
      · exact ⟨t, by simp [ht], h⟩
     have hcellnew : ∀ j (hj : j < ((List.range m).flatMap f').length), (w.setCells g (of + n * i'.size) ((List.range m).flatMap f')).cell? ⟨g, of + n * i'.size + j, none⟩ = some ((List.range m).flatMap f')[j] := fun j hj =>
      World.cell?_setCells_in g ((List.range m).flatMap f') (of + n * i'.size) w (fun j hj => (by have := (hcell j hj).1; rwa [Nat.add_zero] at this)) j hj
     have hval : Al F (w.setCells g (of + n * i'.size) ((List.range m).flatMap f')) ρ (.A4 e0 i'.size (cond (Nat.beq m 0) false false) (n + m) fun j => V.mix (Nat.blt j n) (get j) (add (j - n))) (.slice (some ⟨g, of, none⟩) (n + m) c) (fun g o => fam (.t t0) g o ∨ Cy fam ty' g o) := by
      refine ⟨nofun, fun _ => ⟨_, c, rfl, hroom, k3, fun h => by (cases hb : Nat.beq m 0 <;> rw [hb] at h <;> cases h), fun _ => ⟨g, of, rfl, ?_, fun g' o' h => .inl (hreg g' o' h), _, fun j => if j < n then f j else f' (j - n), fun j => if j < n then fs j else fs' (j - n), rfl, ?_, fun j hj => ?_, fun i j hi hj hij => ?_⟩⟩⟩
      · rcases hsp with hsp | ⟨h1, cur, h2, h3, _⟩
        · left; omega
        · obtain ⟨o', r1, r2⟩ := hE.shape _ _ h2
          cases o' <;> simp [alike] at r2
          obtain ⟨r3, rfl, rfl⟩ := r2
          refine .inr ⟨h1, _, r1, by omega, fun k h4 h5 => ⟨rfl, ?_, ?_⟩⟩
          · omega
          · have : (n + m) * i'.size + (c - (n + m)) * i'.size = c * i'.size := by rw [← Nat.add_mul]; congr 1; omega
            omega
      · rw [SJ, ← q1]
        refine ⟨fun j v hj => ?_, fun j hj => ?_, fun j hj => .inl (hreg _ _ ⟨rfl, by omega, ?_⟩)⟩
        · by_cases hjx : j < xs.length
          · rw [List.getElem?_append_left hjx] at hj
            rw [hkeep _ _ (by rintro ⟨_, h2, _⟩; omega)]
            exact q2.reads j v hj
          · rw [List.getElem?_append_right (by omega)] at hj
            have hlt := (List.getElem?_eq_some_iff.1 hj).1
            have e : of + j = of + n * i'.size + (j - xs.length) := by omega
            rw [e, hcellnew _ hlt]
            rw [List.getElem?_eq_getElem hlt] at hj
            exact hj
        · rw [World.frozen?_setCells]
          by_cases hjx : j < xs.length
          · exact q2.free j hjx
          · have hj' : j - xs.length < ((List.range m).flatMap f').length := by rw [List.length_append] at hj; omega
            have := (hcell _ hj').2
            have e : of + n * i'.size + 0 + (j - xs.length) = of + j := by omega
            rwa [e] at this
        · rw [List.length_append, hxl, hnews] at hj; omega
      · by_cases hjn : j < n
        · simp only [hjn, if_true, Ew hjn, V.Dg, cond_true]
          refine ⟨(q3 j hjn).1, (q3 j hjn).2.1.BD hE (AF.Sub.refl _) hsF _ (fun _ _ h => h) (fun g' o' h => hkeep g' o' fun hh => (q3 j hjn).2.2.2 g' o' h (hin g' o' hh)) (AF.Sub.refl _), fun g' o' h => .inl ((q3 j hjn).2.2.1 g' o' h), (q3 j hjn).2.2.2⟩
        · simp only [hjn, if_false, E8 hjn, V.Dg, cond_false]
          have ha := a1 (j - n) (by omega)
          refine ⟨ha.1, ha.2.1.BD hE (AF.Sub.refl _) hsF _ (fun _ _ h => h) (fun g' o' h => hkeep g' o' fun hh => hxy g' o' (hmine g' o' hh) (ha.2.2 g' o' h)) (AF.Sub.refl _), fun g' o' h => .inr (ha.2.2 g' o' h), fun g' o' h hh => hxy g' o' (hreg g' o' hh) (ha.2.2 g' o' h)⟩
      · by_cases hin : i < n <;> by_cases hjn : j < n <;> simp only [hin, hjn, if_true, if_false]
        · exact q4 i j hin hjn hij
        · exact fun g o h1 h2 => hxy g o ((q3 i hin).2.2.1 g o h1) ((a1 _ (by omega)).2.2 g o h2)
        · exact fun g o h1 h2 => hxy g o ((q3 j hjn).2.2.1 g o h2) ((a1 _ (by omega)).2.2 g o h1)
        · exact a2 _ _ (by omega) (by omega) (by omega)
     have s2 := s1.put (a := a) d hd hval (fun i hi g' o' h1 h2 => by
      obtain ⟨k1, k2⟩ := hpn h2
      obtain ⟨t, ht, h⟩ := hfull g' o' h1
      exact hs.off (.t t) i (fun e => k2 t ht e.symm) g' o' h k1) (fun g' o' h1 h2 => by
      obtain ⟨t, ht, h⟩ := hfull g' o' h1
      exact hs.DL _ g' o' h h2) (fun g' o' h1 => by
      obtain ⟨t, ht, h⟩ := hfull g' o' h1
      exact hs.new _ g' o' h) (fun g' o' h1 => by
      obtain ⟨t, ht, h⟩ := hfull g' o' h1
      exact Nat.lt_of_lt_of_le (hs.lt _ g' o' h) hE.size)
     exact ⟨_, _, by rw [hav]; exact hrun, F, ρ, _, m1, s2⟩
   · refine grow f fs (fun j hj => ⟨(q3 j hj).1, (q3 j hj).2.1, (q3 j hj).2.2.1⟩) q4 ?_ hroom
     rw [hav]
     have := run_loadCells_list (P := P) (w := w.drew) ⟨g, of, none⟩ ((List.range n).flatMap f) (fun j u hj => by rw [HD (show w.drew.heap = w.heap from rfl), Bs]; exact q2.reads j u (by rw [q1]; exact hj))
     rw [Ak n fun j hj => (q3 j hj).1] at this
     exact this
end
end Go.Vm
end
section
namespace Go.Vm
open Go
section
variable {P : Program} {w : World} {Γ : Ctx} {F : AF} {ρ : Names} {fam : Et} {s : St} {a : Act} {o : Oper} {kn : Nat → Option Bool} {pol : Nat → Nat} {e : FF}
theorem SI {sz n m : Nat} {get add : Nat → V} {olds news : List Value} {rest : Array Value} (ho : olds.length = n * sz)
 (h1 : ∀ j, j < n → ∃ xs, xs.length = sz ∧ AK F w As (get j) xs none_ ∧ ∀ k u, xs[k]? = some u → olds[j * sz + k]? = some u)
 (h2 : ∀ j, j < m → ∃ xs, xs.length = sz ∧ AK F w As (add j) xs none_ ∧ ∀ k u, xs[k]? = some u → news[j * sz + k]? = some u) :
 ∀ i, i < n + m → ∃ xs, xs.length = sz ∧ AK F w As (cond (Nat.blt i n) (get i) (add (i - n))) xs none_ ∧ ∀ k u, xs[k]? = some u → (olds.toArray ++ news.toArray ++ rest)[i * sz + k]? = some u := by
 intro i hi
 have harr : ∀ (j : Nat) (u : Value), (olds ++ news)[j]? = some u → (olds.toArray ++ news.toArray ++ rest)[j]? = some u := by
  intro j u hu
  have hj := (List.getElem?_eq_some_iff.1 hu).1
  rw [← Array.getElem?_toList]
  simp only [Array.toList_append, List.toList_toArray]
  rw [List.getElem?_append_left hj]
  exact hu
 by_cases hn : i < n
 · rw [Ew hn]
   obtain ⟨xs, k1, k2, k3⟩ := h1 i hn
   refine ⟨xs, k1, k2, fun k u hu => harr _ u ?_⟩
   have := k3 k u hu
   have hlt := (List.getElem?_eq_some_iff.1 this).1
   rw [List.getElem?_append_left hlt]
   exact this
 · rw [E8 hn]
   obtain ⟨xs, k1, k2, k3⟩ := h2 (i - n) (by omega)
   refine ⟨xs, k1, k2, fun k u hu => harr _ u ?_⟩
   have := k3 k u hu
   have e : i * sz + k = olds.length + ((i - n) * sz + k) := by
    rw [ho]
    have : i * sz = n * sz + (i - n) * sz := by rw [← Nat.add_mul]; congr 1; omega
    omega
   rw [e, List.getElem?_append_right (by omega), Nat.add_sub_cancel_left]
   exact this
theorem Ac.fill (hm : Mem Γ w F) (hs : Ac Γ F w ρ fam s a.tmps) (t : Nat) {g k : Nat} {news : List Value} (hsp : ∀ j, j < news.length → fam (.t t) g (k + j)) :
 let F' := F.or (AZ g k news.length)
 let s' : St := { tm := takes s.tm [t], H := s.H }
 Mem Γ (w.setCells g k news) F' ∧ Ac Γ F' (w.setCells g k news) ρ (CJ fam [t] none none_) s' a.tmps := by
 intro F' s'
 have hE := Er g news k w
 have hch : ∀ g' o', ¬ fam (.t t) g' o' → (w.setCells g k news).cell? ⟨g', o', none⟩ = w.cell? ⟨g', o', none⟩ := by
  intro g' o' hn
  refine World.cell?_setCells_out g _ _ w _ fun hb _ => ?_
  simp only at hb ⊢
  subst hb
  by_cases h1 : o' < k
  · exact .inl h1
  · right
    by_cases h2 : k + news.length ≤ o'
    · exact h2
    · exact absurd (by have := hsp (o' - k) (by omega); rwa [Nat.add_sub_cancel' (by omega)] at this) hn
 have hin : ∀ g' o', AZ g k news.length g' o' → fam (.t t) g' o' := by
  rintro g' o' ⟨rfl, h1, h2⟩
  have := hsp (o' - k) (by omega)
  rwa [Nat.add_sub_cancel' h1] at this
 have hd := hs.drop [t]
 have inl : ∀ {i : Ix} {g o}, CJ fam [t] none none_ i g o → fam i g o ∧ i ≠ .t t := by
  intro i g o hg
  cases i with
  | b i => exact ⟨hg, nofun⟩
  | t u =>
    simp only [CJ, reduceCtorEq, if_false, List.mem_singleton] at hg
    split at hg
    · exact hg.elim
    · rename_i hne
      exact ⟨hg, fun e => hne (by cases e; rfl)⟩
 refine ⟨⟨hm.ext.trans hE, fun g o h => .inl (hm.sub g o h), ?_, fun g o hn => ?_, ?_⟩, hd.BD hE (AF.BB _ _) (fun g o hg => hch g o fun hb => hs.DL _ g o hb hg) (fun i g o hg => hch g o fun hb => ?_) ?_⟩
 · rintro g' o' (h | h)
   · exact hm.fresh g' o' h
   · exact .inr (hs.new _ g' o' (hin g' o' h))
 · rw [hch g o fun hb => hn (hs.new _ g o hb)]; exact hm.BD g o hn
 · rintro g' o' (h | h)
   · exact Nat.lt_of_lt_of_le (hm.live g' o' h) hE.size
   · exact Nat.lt_of_lt_of_le (hs.lt _ g' o' (hin g' o' h)) hE.size
 · exact hs.off i (.t t) (inl hg).2 g o (inl hg).1 hb
 · rintro i g' o' hi (h | h)
   · exact hs.DL i g' o' (inl hi).1 h
   · exact hs.off i (.t t) (inl hi).2 g' o' (inl hi).1 (hin g' o' h)
theorem E9 {d : Nat} (hdst : o.dst = some d) {e : FF} (h1 : ∀ id c, e.Jr ≠ some (id, some c)) (h2 : e.new = none) : BK o s e = { tm := C8 (takes s.tm e.take) d e.res, H := s.H } := by
 unfold BK
 simp only [hdst, h2]
 split <;> simp_all
theorem ML (hm : Mem Γ w F) (hs : Ac Γ F w ρ fam s a.tmps) (hd : EB a.tmps.size o = true) {c : Call} (ho : o.op = .call c) (hc : c.callee = .builtin .append) (h : C2 P pol kn o s = some e) (hn : e.need = true)
 (hside : ∀ p, e.side = some p → p) (hdst : o.dst.isSome = true) : Gb P Γ s a w o e := by
 obtain ⟨d, hdst⟩ := Option.isSome_iff_exists.1 hdst
 simp only [C2, ho, hc] at h
 have hargs : ∃ x y, c.args = #[x, y] := by
  cases hal : c.args.toList with
  | nil => rw [hal] at h; simp [E7] at h
  | cons x l =>
    cases l with
    | nil => rw [hal] at h; simp [E7] at h
    | cons y l =>
      cases l with
      | cons z l => rw [hal] at h; simp [E7] at h
      | nil => exact ⟨x, y, by apply Array.toList_inj.1; simpa using hal⟩
 obtain ⟨x, y, hargs⟩ := hargs
 simp only [hargs, List.map_cons, List.map_nil, E7] at h
 obtain ⟨JU, h⟩ := AL h
 have htypes : ∃ t u, c.argTypes = #[t, u] ∧ ∃ du, P.underlying u = some du ∧ ∀ k, du ≠ .int k := by
  split at JU <;> (try cases JU)
  rename_i t u hts
  refine ⟨t, u, by apply Array.toList_inj.1; simpa using hts, ?_⟩
  split at JU <;> (try cases JU)
  rename_i hint hnone
  cases hdd : P.underlying u with
  | none => exact absurd hdd hnone
  | some du => exact ⟨du, rfl, fun k hk => hint k (by rw [hdd, hk])⟩
 obtain ⟨t, u, htypes, du, hdu, hdk⟩ := htypes
 simp only [htypes] at h
 split at h
 · rename_i e0 s0 nil n get hX
   obtain ⟨v, w', r1, r2, r3, F', ρ', fam', r4, r5⟩ := LM (t := t) hm hs (Br hd hdst) hdu hdk hX h hn hside o.type
   refine .of (v := v) (w' := w') ?_ r4 r5 (E9 hdst r2 r3) (by rw [hdst])
   simp only [execOp, ho, resolve, hc, Sem.run_bind, Sem.run_pure, Result.andThen_ok, invoke, Go.builtin, htypes, hargs, List.map_toArray, List.map_cons, List.map_nil, r1]
 unfold M6 at h
 split at h <;> (try cases h)
 rename_i e0 i hel
 unfold elemOf at hel
 split at hel <;> (try cases hel)
 rename_i e1 hu
 simp only [Option.map_eq_some_iff, Prod.mk.injEq] at hel
 obtain ⟨i', hi, rfl, rfl⟩ := hel
 split at h <;> (try cases h)
 rename_i m add id side hadd
 split at h <;> (try cases h)
 rename_i tok s0 nil n get hX
 obtain ⟨hc2, h⟩ := AL h
 obtain rfl := Option.some.inj h
 simp only [Bool.and_eq_true] at hc2 hn
 obtain ⟨hz, hsz, hby, htok⟩ := hc2
 obtain ⟨hsb, hn⟩ := hn
 split at hz <;> (try cases hz)
 rename_i z hiz
 have hzs := Nat.eq_of_beq_eq_true hz
 have hsz : 0 < i'.size := by simpa [Nat.blt_eq] using hsz
 have hby : 0 < i'.bytes := by simpa [Nat.blt_eq] using hby
 simp only [room, decide_eq_true_eq] at hn
 have hA := OP (P := P) hs hadd (fun b p hp => by subst hp; exact ⟨hsb, hside p rfl⟩)
 have hxrel := Ag hs x
 rw [hX] at hxrel
 obtain ⟨A, cap, k1, k2, k3, k4, k5⟩ := Ha hxrel
 obtain ⟨news, n1, n2, n3, n4⟩ := hA.ex
 have hnm : n + m ≤ 140737488351232 := Nat.le_trans (Nat.le_mul_of_pos_right (n + m) hby) hn
 have hex : ∀ v w', (Builtin.append_ #[t, u] o.type #[a.eval x, a.eval y]).run P w = .ok v w' → (execOp a.eval o).run P w = .ok (.value v) w' := by
  intro v w' hv
  simp only [execOp, ho, resolve, hc, Sem.run_bind, Sem.run_pure, Result.andThen_ok, invoke, Go.builtin, htypes, hargs, List.map_toArray, List.map_cons, List.map_nil, hv]
 -- new memory
 have hnew : ¬ (n + m ≤ cap) → ∀ olds : List Value, olds.length = n * i'.size → (Builtin.firstCells i'.size n (a.eval x)).run P w.drew = .ok olds.toArray w.drew →
  (∀ j, j < n → ∃ xs, xs.length = i'.size ∧ AK F w As (get j) xs none_ ∧ ∀ k u, xs[k]? = some u → olds[j * i'.size + k]? = some u) →
  Gb P Γ s a w o { need := (match side with | some (b, _) => b | none => true) && room (n + m) i'.bytes, side := side.map (·.2), res := Lq e1 i'.size n m nil get add, Jr := id.map (·, none), take := Ap x (AR s.tm x) } := by
  intro hroom olds ho1 ho2 ho3
  have hm0 : Nat.beq m 0 = false := by
   cases hb : Nat.beq m 0
   · rfl
   · have := Nat.eq_of_beq_eq_true hb; omega
  rw [k1] at ho2
  have hrun := Gh (ty := o.type) hu hi hiz hdu hdk hA.len (n2 w.drew rfl) ho2 hroom (by omega) (by omega) (by omega)
  have hdrop := hs.drop (Ap x (AR s.tm x))
  obtain ⟨d1, d2⟩ := hdrop.drew hm
  have hge := grownCap_ge w (n + m) cap e1
  have hcm := grownCap_le_maxLen w (n + m) cap e1 (by unfold maxLen; omega)
  have hcells : (olds.toArray ++ news.toArray ++ Builtin.zeroCells z.cells (grownCap w (n + m) cap e1 - (n + m))).size = grownCap w (n + m) cap e1 * i'.size := by
   simp only [Array.size_append, List.size_toArray, size_zeroCells, hzs, ho1, n1, ← Nat.add_mul]
   congr 1
   omega
  have kd : ∀ {x : V} {xs : List Value}, AK F w As x xs none_ → AK F w.drew As x xs none_ := fun hx => hx.BD (Ext.drew w) (AF.Sub.refl _) (fun _ _ _ => rfl) _ (fun _ _ h => h) (fun _ _ h => h.elim) (AF.Sub.refl _)
  obtain ⟨F', fam', s1, s2⟩ := I6 (a := a) d1 d2 (Br hd hdst) (get := fun j => cond (Nat.blt j n) (get j) (add (j - n))) hcells hge hcm
   (SI (get := get) (add := add) ho1 (fun j hj => let ⟨xs, q1, q2, q3⟩ := ho3 j hj; ⟨xs, q1, kd q2, q3⟩) (fun j hj => let ⟨xs, q1, q2, q3⟩ := n4 j hj; ⟨xs, q1, kd q2, q3⟩)) (some e1) (fun _ h => by cases h; rfl)
  refine .of (hex _ _ (by rw [k1]; exact hrun)) s1 s2 ?_ (by rw [hdst]; rfl)
  rw [E9 hdst (fun id' c' h => by cases id <;> simp at h) rfl]
  simp only [Lq, hm0, cond_false, V.Dg]
 cases nil with
 | true =>
   obtain ⟨rfl, rfl, rfl⟩ := k4 rfl
   by_cases hm0 : m = 0
   · subst hm0
     have hn0 : news = [] := List.eq_nil_of_length_eq_zero (by simpa using n1)
     subst hn0
     have hrun := run_append_fits (ty := o.type) (base := none) (sLen := 0) (sCap := 0) (w' := w) hu hi hdu hdk hA.len (n2 w rfl) (Nat.le_refl _) (fun a h => by cases h) (fun _ => rfl)
     have := hs.val (Ap x (AR s.tm x)) d (Br hd hdst) (res := Lq e1 i'.size 0 0 true get add) (v := .slice none 0 0) (fr := none_) ⟨nofun, fun _ => ⟨none, 0, rfl, Nat.le_refl _, Nat.zero_le _, fun _ => ⟨rfl, rfl, rfl⟩, nofun⟩⟩ (AF.Aa _)
     refine .of (hex _ _ (by rw [k1]; exact hrun)) hm this ?_ (by rw [hdst])
     rw [E9 hdst (fun id' c' h => by cases id <;> simp at h) rfl]
   · exact hnew (by omega) [] (by simp) (by rw [k1]; simp [Builtin.firstCells]) (fun j hj => by omega)
 | false =>
   obtain ⟨g, of, q, rfl, hq, hspare, hel⟩ := k5 rfl
   simp only [Bool.or_eq_true, Bool.false_eq_true, or_false, Bool.and_eq_true] at htok
   obtain ⟨hs0, htok⟩ := htok
   obtain rfl := Nat.eq_of_beq_eq_true hs0
   split at htok <;> (try cases htok)
   rename_i e2
   obtain rfl := Nat.eq_of_beq_eq_true htok
   have hsp := hspare _ rfl
   have hslot : ∃ t0, x = .tmp t0 := by
    cases x with
    | tmp t0 => exact ⟨t0, rfl⟩
    | const v =>
      exfalso
      simp only [AR, JB] at hX
      split at hX <;> simp at hX
    | global => simp [AR] at hX
    | func => simp [AR] at hX
   obtain ⟨t0, rfl⟩ := hslot
   have htake : Ap (.tmp t0) (AR s.tm (.tmp t0)) = [t0] := by rw [hX]; rfl
   by_cases hroom : n + m ≤ cap
   · rcases (show cap = n ∨ _ from by
      rcases hq with hq | hq
      · exact hsp.imp (fun h => h) fun h => And.intro hq h
      · exact .inl (by omega)) with hsp | ⟨rfl, rfl, cur, hcur, hcs, hown⟩
     · subst hsp
       obtain rfl : m = 0 := by omega
       have hn0 : news = [] := List.eq_nil_of_length_eq_zero (by simpa using n1)
       subst hn0
       have hrun := run_append_fits (ty := o.type) (base := some ⟨g, of, q⟩) (sLen := cap) (sCap := cap) (w' := w) hu hi hdu hdk hA.len (n2 w rfl) (Nat.le_refl _) (fun a h => rfl) nofun
       have := hs.val (Ap (.tmp t0) (AR s.tm (.tmp t0))) d (Br hd hdst) (res := Lq e1 i'.size cap 0 false get add) (v := .slice (some ⟨g, of, q⟩) (cap + 0) cap) (fr := none_)
        ⟨nofun, fun _ => ⟨_, cap, rfl, Nat.le_refl _, k3, nofun, fun _ => ⟨g, of, q, rfl, hq, fun _ _ => .inl rfl, fun i hi => by
          simp only [Ew (show i < cap from hi), V.Dg, cond_true]; exact hel i hi⟩⟩⟩ (AF.Aa _)
       refine .of (hex _ _ (by rw [k1]; exact hrun)) hm this ?_ (by rw [hdst])
       rw [E9 hdst (fun id' c' h => by cases id <;> simp at h) rfl]
     · have hmul : n * i'.size + m * i'.size ≤ cap * i'.size := by rw [← Nat.add_mul]; exact Nat.mul_le_mul_right _ hroom
       have hfp : ∀ k, n * i'.size ≤ k → k < cap * i'.size → fam (.t t0) g k := fun k h1 h2 => hown k h1 h2
       have hcell : ∀ j, j < news.length → (w.cell? ⟨g, n * i'.size + 0 + j, none⟩).isSome = true ∧ w.frozen? ⟨g, n * i'.size + 0 + j, none⟩ = false := by
        intro j hj
        have hlt : n * i'.size + 0 + j < cur.size := by omega
        constructor
        · simp [World.cell?, hcur, show n * i'.size + j < cur.size by omega]
        · simp [World.frozen?, hcur]
       have hst := run_storeCells_cells (P := P) g (n * i'.size) news 0 w (fun j hj => (hcell j hj).1) (fun j hj => (hcell j hj).2) n3
       rw [Nat.add_zero] at hst
       have hrun := run_append_fits (ty := o.type) (base := some ⟨g, 0, none⟩) (sLen := n) (sCap := cap) (w' := w.setCells g (n * i'.size) news) hu hi hdu hdk hA.len (n2 w rfl) hroom
        (fun a h => by cases h; rw [Bs, Nat.zero_add]; exact hst) nofun
       obtain ⟨d1, d2⟩ := Ac.fill (news := news) hm hs t0 (g := g) (k := n * i'.size) (fun j hj => hfp _ (by omega) (by omega))
       have hE := Er g news (n * i'.size) w
       have hkeep : ∀ g' o', (g' = g → o' < n * i'.size ∨ n * i'.size + news.length ≤ o') → (w.setCells g (n * i'.size) news).cell? ⟨g', o', none⟩ = w.cell? ⟨g', o', none⟩ :=
        fun g' o' hh => World.cell?_setCells_out g _ _ w _ fun hb _ => hh hb
       have hsameF : EL w (w.setCells g (n * i'.size) news) F := fun g' o' hF => hkeep g' o' fun e => by
        subst e
        by_cases q1 : o' < n * i'.size
        · exact .inl q1
        · right
          by_cases q2 : n * i'.size + news.length ≤ o'
          · exact q2
          · exact absurd hF (hs.DL _ _ _ (hfp o' (by omega) (by omega)))
       obtain ⟨cur', hc1, hc2⟩ : ∃ cur', (w.setCells g (n * i'.size) news).heap[g]? = some (.cells cur' e1 (0, 0)) ∧ cur'.size = cap * i'.size := by
        obtain ⟨o', q1, q2⟩ := hE.shape _ _ hcur
        cases o' <;> simp [alike] at q2
        obtain ⟨q3, rfl, rfl⟩ := q2
        exact ⟨_, q1, by omega⟩
       have hcellnew : ∀ j (hj : j < news.length), (w.setCells g (n * i'.size) news).cell? ⟨g, n * i'.size + j, none⟩ = some news[j] := fun j hj =>
        World.cell?_setCells_in g news (n * i'.size) w (fun j hj => (by have := (hcell j hj).1; rwa [Nat.add_zero] at this)) j hj
       have := d2.put (a := a) d (Br hd hdst) (res := Lq e1 i'.size n m false get add) (v := .slice (some ⟨g, 0, none⟩) (n + m) cap) (fr := AZ g ((n + m) * i'.size) (cap * i'.size - (n + m) * i'.size))
        ⟨nofun, fun _ => ⟨_, cap, rfl, hroom, k3, fun h => by (cases hb : Nat.beq m 0 <;> rw [hb] at h <;> cases h), fun _ => ⟨g, 0, none, rfl, .inl rfl, fun e' he' => ?_, fun i hi => ?_⟩⟩⟩ ?_ ?_ ?_ ?_
       · refine .of (hex _ _ (by rw [k1]; exact hrun)) d1 this ?_ (by rw [hdst])
         rw [E9 hdst (fun id' c' h => by cases id <;> simp at h) rfl, htake]
       · cases he'
         exact .inr ⟨rfl, cur', hc1, hc2, fun k h1 h2 => ⟨rfl, h1, by omega⟩⟩
       · by_cases hin : i < n
         · simp only [Ew hin, V.Dg, cond_true]
           obtain ⟨xs, q1, q2, q3, q4⟩ := hel i hin
           exact ⟨xs, q1, q2.BD hE (AF.BB _ _) hsameF _ (fun _ _ h => h) (fun _ _ h => h.elim) (AF.Sub.refl _), q3.BD hsameF (fun j hj => q4 j (by omega)), fun j hj => .inl (q4 j hj)⟩
         · simp only [E8 hin, V.Dg, cond_false]
           obtain ⟨xs, q1, q2, q3⟩ := n4 (i - n) (by omega)
           have hmi : (i - n + 1) * i'.size ≤ m * i'.size := Nat.mul_le_mul_right _ (by omega)
           rw [Nat.add_mul] at hmi
           have hie : i * i'.size = n * i'.size + (i - n) * i'.size := by rw [← Nat.add_mul]; congr 1; omega
           refine ⟨xs, q1, q2.BD hE (AF.BB _ _) hsameF _ (fun _ _ h => h) (fun _ _ h => h.elim) (AF.Sub.refl _), fun k u hu => ?_, fun k hk => .inr ⟨rfl, by omega, by omega⟩⟩
           have hu' := q3 k u hu
           have hlt := (List.getElem?_eq_some_iff.1 hu').1
           have e : 0 + i * i'.size + k = n * i'.size + ((i - n) * i'.size + k) := by omega
           rw [e, hcellnew _ hlt]
           rw [List.getElem?_eq_getElem hlt] at hu'
           exact hu'
       · intro i hi g' o' h1 h2
         obtain ⟨rfl, h3, h4⟩ := h1
         have hff : fam (.t t0) g' o' := hfp o' (by rw [Nat.add_mul] at h3; omega) (by omega)
         have hsub : ∀ i, CJ fam [t0] none none_ i g' o' → fam i g' o' ∧ i ≠ .t t0 := by
          intro i hg
          cases i with
          | b i => exact ⟨hg, nofun⟩
          | t u =>
            simp only [CJ, reduceCtorEq, if_false, List.mem_singleton] at hg
            split at hg
            · exact hg.elim
            · rename_i hne
              exact ⟨hg, fun e => hne (by cases e; rfl)⟩
         obtain ⟨h5, h6⟩ := hsub i h2
         exact hs.off _ _ h6 g' o' h5 hff
       · rintro g' o' ⟨rfl, h3, h4⟩ (h5 | ⟨_, h6, h7⟩)
         · exact hs.DL _ _ _ (hfp o' (by rw [Nat.add_mul] at h3; omega) (by omega)) h5
         · rw [n1, ← Nat.add_mul] at h7; omega
       · rintro g' o' ⟨rfl, h3, h4⟩
         exact hs.new _ _ _ (hfp o' (by rw [Nat.add_mul] at h3; omega) (by omega))
       · rintro g' o' ⟨rfl, h3, h4⟩
         exact Nat.lt_of_lt_of_le (hs.lt _ _ _ (hfp o' (by rw [Nat.add_mul] at h3; omega) (by omega))) hE.size
   · have hch : ∀ i : Nat, ∃ xs : List Value, i < n → xs.length = i'.size ∧ AK F w As (get i) xs none_ ∧ Reads w g (of + i * i'.size) xs := by
      intro i
      by_cases hi : i < n
      · obtain ⟨xs, h1, h2, h3, _⟩ := hel i hi
        exact ⟨xs, fun _ => ⟨h1, h2, h3⟩⟩
      · exact ⟨[], fun h => absurd h hi⟩
     obtain ⟨f, hf⟩ := Classical.skolem.1 hch
     refine hnew hroom ((List.range n).flatMap f) (Ak n fun i hi => (hf i hi).1) ?_ (fun j hj => ⟨f j, (hf j hj).1, (hf j hj).2.1, fun k u hu => ?_⟩)
     · rw [k1]
       rcases hq with rfl | rfl
       case inr =>
        obtain rfl : n = 0 := by omega
        simp [Builtin.firstCells, loadCells, loadCellsFrom]
       have := run_loadCells_list (P := P) (w := w.drew) ⟨g, of, none⟩ _ (fun j u hj => FZ (w := w.drew) (fun i hi => (hf i hi).1) (fun i hi => (hf i hi).2.2) j u hj)
       rw [Ak n fun i hi => (hf i hi).1] at this
       exact this
     · exact CO (f := f) (List.range n) j k (v := j) (sz := i'.size) (fun v hv => (hf v (List.mem_range.1 hv)).1) (by simp [hj]) hu
end
end Go.Vm
end
section
namespace Go.Vm
open Go
def KF (nt : Nat) (o : Oper) (e : FF) : Bool :=
 EB nt o && (match o.op with
  | .store .. => o.dst.isNone
  | .alloc _ | .box .. | .load .. | .makeSlice .. => o.dst.isSome
  | _ => (o.dst.isSome || (match o.op with
      | .buildSlice .. => false
      | .call _ => false
      | _ => true)) && (e.new.isNone && (match e.Jr with | some (_, some _) => false | _ => true)))
section
variable {P : Program} {w : World} {Γ : Ctx} {F : AF} {ρ : Names} {fam : Et} {s : St} {a : Act} {o : Oper} {kn : Nat → Option Bool} {pol : Nat → Nat} {e : FF}
theorem QX (hm : Mem Γ w F) (hs : Ac Γ F w ρ fam s a.tmps) (hsh : KF a.tmps.size o e = true) (hk : Fy kn s.tm)
 (h : C2 P pol kn o s = some e) (hn : e.need = true) (hside : ∀ p, e.side = some p → p) : Gb P Γ s a w o e := by
 simp only [KF, Bool.and_eq_true] at hsh
 obtain ⟨hd, hsh⟩ := hsh
 have val : (o.dst.isSome = true ∨ True) → (e.new.isNone = true ∧ (match e.Jr with | some (_, some _) => false | _ => true) = true) → Cj P F w ρ fam a o e → Gb P Γ s a w o e := by
  rintro _ ⟨h1, h2⟩ hv
  refine Cj.op hm hs hd hv (fun id c hc => ?_) (by simpa using h1)
  rw [hc] at h2; cases h2
 cases ho : o.op
 case alloc => rw [ho] at hsh; exact NX hm hs hd ho h hsh
 case box => rw [ho] at hsh; exact QI hm hs hd ho h hsh
 case load => rw [ho] at hsh; exact Ou hm hs hd ho h hn hsh
 case store => rw [ho] at hsh; exact NR hm hs hd ho h hn (by simpa using hsh)
 case makeSlice => rw [ho] at hsh; exact Jg hm hs hd ho h hn hsh
 case buildSlice =>
  simp only [ho, Bool.or_false, Bool.and_eq_true] at hsh
  obtain ⟨d, hdst⟩ := Option.isSome_iff_exists.1 hsh.1
  cases hp : Nat.beq (pol d) 1
  · exact Ie hm hs hd ho h hdst hp
  · exact MK hm hs hd ho h hdst hp
 case move x =>
  simp only [ho, Bool.or_true, Bool.true_and, Bool.and_eq_true] at hsh
  have h0 := h
  simp only [C2, ho] at h0
  cases hp : Nat.beq (pol (o.dst.getD 0)) 1 <;> rw [hp] at h0 <;> simp only [cond_true, cond_false, Option.some.injEq] at h0
  · exact val (.inr trivial) hsh (Ov hs ho h0.symm)
  · exact val (.inr trivial) hsh (KC hs (.inl ho) h0.symm)
 case assign x =>
  simp only [ho, Bool.or_true, Bool.true_and, Bool.and_eq_true] at hsh
  have h0 := h
  simp only [C2, ho, Option.some.injEq] at h0
  exact val (.inr trivial) hsh (KC hs (.inr ho) h0.symm)
 case pick c x y =>
  simp only [ho, Bool.or_true, Bool.true_and, Bool.and_eq_true] at hsh
  cases c with
  | tmp c => exact val (.inr trivial) hsh (Ot hs hk ho h)
  | _ => simp [C2, ho] at h
 case nilCheck => simp only [ho, Bool.or_true, Bool.true_and, Bool.and_eq_true] at hsh; exact val (.inr trivial) hsh (KD hs ho h)
 case fieldAddr => simp only [ho, Bool.or_true, Bool.true_and, Bool.and_eq_true] at hsh; exact val (.inr trivial) hsh (Ji hs ho h)
 case indexAddr => simp only [ho, Bool.or_true, Bool.true_and, Bool.and_eq_true] at hsh; exact val (.inr trivial) hsh (Jh hs ho h hn)
 case extract => simp only [ho, Bool.or_true, Bool.true_and, Bool.and_eq_true] at hsh; exact val (.inr trivial) hsh (LJ hs ho h)
 case binOp => simp only [ho, Bool.or_true, Bool.true_and, Bool.and_eq_true] at hsh; exact val (.inr trivial) hsh (NW hs ho h hn)
 case unOp => simp only [ho, Bool.or_true, Bool.true_and, Bool.and_eq_true] at hsh; exact val (.inr trivial) hsh (Oq hs ho h)
 case makeInterface => simp only [ho, Bool.or_true, Bool.true_and, Bool.and_eq_true] at hsh; exact val (.inr trivial) hsh (HE hs ho h)
 case field => simp only [ho, Bool.or_true, Bool.true_and, Bool.and_eq_true] at hsh; exact val (.inr trivial) hsh (NU hs ho h)
 case index => simp only [ho, Bool.or_true, Bool.true_and, Bool.and_eq_true] at hsh; exact val (.inr trivial) hsh (NT hs ho h hn)
 case makeFunc => simp only [ho, Bool.or_true, Bool.true_and, Bool.and_eq_true] at hsh; exact val (.inr trivial) hsh (KE hs ho h)
 case slice => simp only [ho, Bool.or_true, Bool.true_and, Bool.and_eq_true] at hsh; exact val (.inr trivial) hsh (NS hs ho h hn)
 case convert => simp only [ho, Bool.or_true, Bool.true_and, Bool.and_eq_true] at hsh; exact val (.inr trivial) hsh (LK hs ho h hside)
 case build => simp only [ho, Bool.or_true, Bool.true_and, Bool.and_eq_true] at hsh; exact val (.inr trivial) hsh (NV hs ho h)
 case call c =>
  simp only [ho, Bool.or_false, Bool.and_eq_true] at hsh
  cases hc : c.callee with
  | builtin b =>
    by_cases hb : b = .append
    · subst hb; exact ML hm hs hd ho hc h hn hside hsh.1
    · exact val (.inr trivial) hsh.2 (LL hs ho hc hb h)
  | _ => simp [C2, ho, hc] at h
 all_goals (simp [C2, ho] at h)
end
end Go.Vm
end
section
namespace Go.Vm
open Go
def BC (P : Program) (k : List Go.Item) (R : Act → World → Prop) (a : Act) (w : World) : Prop :=
 ∀ (b : Frame) (cs : List Frame), ∃ a' w', R a' w' ∧ ∃ todo, Steps P (lone (b.at a k) cs w) (lone { b.at a' todo with mode := .returning } cs w')
section
variable {P : Program} {k : List Go.Item} {R : Act → World → Prop} {a : Act} {w : World}
theorem BC.head {k' : List Go.Item} {a' : Act} {w' : World} (hs : ∀ (b : Frame) (cs : List Frame), step P (lone (b.at a k) cs w) = .next (lone (b.at a' k') cs w')) (h : BC P k' R a' w') : BC P k R a w :=
 fun b cs => let ⟨a'', w'', q, t, r⟩ := h b cs; ⟨a'', w'', q, t, .head (hs b cs) r⟩
theorem BC.mono {R' : Act → World → Prop} (h : BC P k R a w) (hr : ∀ a w, R a w → R' a w) : BC P k R' a w :=
 fun b cs => let ⟨a', w', q, r⟩ := h b cs; ⟨a', w', hr _ _ q, r⟩
theorem BC.nil (h : R a w) : BC P [] R a w := fun _ _ => ⟨a, w, h, [], .one step_end⟩
theorem BC.ret (h : R a w) : BC P (.code .ret :: k) R a w := fun _ _ => ⟨a, w, h, _, .one step_ret⟩
theorem BC.skip (h : BC P k R a w) : BC P (.code .skip :: k) R a w := .head (fun _ _ => step_skip) h
theorem BC.seq {x y : Code} (h : BC P (.code x :: .code y :: k) R a w) : BC P (.code (.seq x y) :: k) R a w := .head (fun _ _ => step_seq) h
theorem BC.cond {c : Operand} {x y : Code} {t : Bool} (hc : a.eval c = .bool t) (h : BC P (.code (if t then x else y) :: k) R a w) : BC P (.code (.cond c x y) :: k) R a w := .head (fun _ _ => step_cond hc) h
theorem BC.block {id : Nat} {c : Code} (h : BC P (.code c :: .inBlock id :: k) R a w) : BC P (.code (.block id c) :: k) R a w := .head (fun _ _ => step_block) h
theorem BC.loop {c : Code} (h : BC P (.code c :: .inLoop c :: k) R a w) : BC P (.code (.loop c) :: k) R a w := .head (fun _ _ => step_loop) h
theorem BC.inLoop {c : Code} (h : BC P (.code c :: .inLoop c :: k) R a w) : BC P (.inLoop c :: k) R a w := .head (fun _ _ => step_inLoop) h
theorem BC.inBlock {id : Nat} (h : BC P k R a w) : BC P (.inBlock id :: k) R a w := .head (fun _ _ => step_inBlock) h
theorem BC.scope {c : Code} (h : BC P (.code c :: .inScope c :: k) R a w) : BC P (.code (.scope c) :: k) R a w := .head (fun _ _ => step_lone_go (by simp [stepG, stepG.exec, Frame.at])) h
theorem BC.inScope {c : Code} (h : BC P k R a w) : BC P (.inScope c :: k) R a w := .head (fun _ _ => step_lone_go (by simp [stepG, stepG.exec, Frame.at])) h
theorem BC.label {l : Nat} (h : BC P k R a w) : BC P (.code (.label l) :: k) R a w := .head (fun _ _ => step_lone_go (by simp [stepG, stepG.exec, Frame.at])) h
theorem BC.exit {id : Nat} {k' : List Go.Item} (he : exitTo id k = some k') (h : BC P k' R a w) : BC P (.code (.exit id) :: k) R a w := .head (fun _ _ => step_exit he) h
theorem BC.region {id : Nat} {ops : Array Oper} (h : BC P (.inRegion ops (List.range ops.size) :: k) R a w) : BC P (.code (.region id ops false) :: k) R a w := .head (fun _ _ => step_region) h
theorem BC.KJ {ops : Array Oper} (h : BC P k R a w) : BC P (.inRegion ops [] :: k) R a w := .head (fun _ _ => step_region_end) h
theorem BC.Nb {id : Nat} {ops : Array Oper} (h : ∀ t, BC P (.inRegion ops (Region.schedule (P.follows .mixedOrders) ops t) :: k) R a { w with drawn := w.drawn + 1 }) :
 BC P (.code (.region id ops true) :: k) R a w :=
 fun b cs => let ⟨a'', w'', q, t, r⟩ := h _ b cs; ⟨a'', w'', q, t, .head step_region_draw r⟩
variable {ops : Array Oper} {i : Nat} {rest : List Nat} {o : Oper}
theorem BC.RO (ho : ops[i]? = some o) (hw : Region.wanted o (yielded ops a.tmps) = false) (h : BC P (.inRegion ops rest :: k) R (a.put o.dst Go.undef) w) : BC P (.inRegion ops (i :: rest) :: k) R a w := by
 refine .head (fun b cs => ?_) h
 have hs := step_op_skip (P := P) (b := b) (a := a) (k := k) (cs := cs) (w := w) (ops := ops) (i := i) (rest := rest) (by simp [ho, hw])
 simpa only [ho, Option.bind_some] using hs
theorem I9 (b : Frame) (ho : ops[i]? = some o) (v : Value) : (b.at a (.inRegion ops (i :: rest) :: k)).finish v = b.at (a.put o.dst v) (.inRegion ops rest :: k) := by
 rw [Frame.finish_at, ho]; rfl
theorem BC.Rv {v : Value} {w' : World} (ho : ops[i]? = some o) (hw : Region.wanted o (yielded ops a.tmps) = true) (hr : (execOp a.eval o).run P w = .ok (.value v) w')
 (h : BC P (.inRegion ops rest :: k) R (a.put o.dst v) w') : BC P (.inRegion ops (i :: rest) :: k) R a w := by
 refine .head (fun b cs => step_lone_go ?_) h
 rw [stepG_op ho hw, ← I9 b ho]; simp [stepG.apply, hr]
theorem BC.TO {w' : World} (ho : ops[i]? = some o) (hw : Region.wanted o (yielded ops a.tmps) = true) (hr : (execOp a.eval o).run P w = .ok .skip w')
 (h : BC P (.inRegion ops rest :: k) R (a.put o.dst Go.undef) w') : BC P (.inRegion ops (i :: rest) :: k) R a w := by
 refine .head (fun b cs => step_lone_go ?_) h
 rw [stepG_op ho hw, ← I9 b ho]; simp [stepG.apply, hr]
theorem BC.Nl {f : FuncId} {args : Array Value} {w' : World} (ho : ops[i]? = some o) (hw : Region.wanted o (yielded ops a.tmps) = true) (hr : (execOp a.eval o).run P w = .ok (.enter f args) w')
 (h : Calls P f args w' fun | .returned v, w'' => BC P (.inRegion ops rest :: k) R (a.put o.dst v) w'' | _, _ => False) : BC P (.inRegion ops (i :: rest) :: k) R a w := by
 intro b cs
 obtain ⟨e, w'', fr, hR, hsteps, _, hleave⟩ := h (b.at a (.inRegion ops (i :: rest) :: k) :: cs)
 have henter : step P (lone (b.at a (.inRegion ops (i :: rest) :: k)) cs w) = .next (lone (Frame.enter P f args .normal) (b.at a (.inRegion ops (i :: rest) :: k) :: cs) w') :=
  step_lone_go (by rw [stepG_op ho hw]; simp [stepG.apply, hr, Frame.at])
 cases e with
 | returned v =>
   have hR' : BC P (.inRegion ops rest :: k) R (a.put o.dst v) w'' := hR
   obtain ⟨a', w₃, hq, t, hs⟩ := hR' b cs
   refine ⟨a', w₃, hq, t, Steps.head henter (Steps.trans hsteps (Steps.head ?_ hs))⟩
   rw [← I9 b ho]; exact step_leave_returned hleave
 | panicked chain => exact hR.elim
 | outgrown => exact hR.elim
theorem LZ {f : FuncId} {fn : Func} {c : Code} {args : Array Value} {Q : Ending → World → Prop} (hf : P.funcs[f]? = some fn) (hb : fn.body = some c)
 (h : BC P [.code c] (fun a' w' => a'.defers = [] ∧ ∃ v, (results fn a'.tmps).run P w' = .ok v w' ∧ Q (.returned v) w') { tmps := args ++ Array.replicate (fn.ntmps - args.size) Go.undef, defers := [] } w) : Calls P f args w Q := by
 intro cs
 let b : Frame := { (default : Frame) with fn := f, kind := .normal }
 have henter : Frame.enter P f args .normal = b.at { tmps := args ++ Array.replicate (fn.ntmps - args.size) Go.undef, defers := [] } [.code c] := by
  simp [Frame.enter, Frame.at, hf, hb, b]
 obtain ⟨a', w', ⟨hd, v, hr, hR⟩, todo, hs⟩ := h b cs
 rw [← henter] at hs
 exact ⟨.returned v, w', _, hR, hs, rfl, rfl, hd, rfl, fn, hf, hr⟩
end
end Go.Vm
end
section
namespace Go.Vm
open Go
structure Fx where
 rt : List Nat
 rh : List Id
 wt : List Nat
 wh : List Id
 dh : List Id := []
 kh : List Id := []
 dt : List Nat := []
 kt : List Nat := []
def EY (t : Nat) (l : List Nat) : Bool := l.any (Nat.beq t)
def Cl (i : Id) (l : List Id) : Bool := l.any i.same
theorem BO {t : Nat} {l : List Nat} : EY t l = true ↔ t ∈ l := by
 simp only [EY, List.any_eq_true]
 constructor
 · rintro ⟨x, hx, h⟩; rw [Nat.eq_of_beq_eq_true h]; exact hx
 · intro h; exact ⟨t, h, by simp⟩
theorem Bp {i : Id} {l : List Id} : Cl i l = true ↔ i ∈ l := by
 simp only [Cl, List.any_eq_true]
 constructor
 · rintro ⟨x, hx, h⟩; rw [(Id.Bb i x).1 h]; exact hx
 · intro h; exact ⟨i, h, (Id.Bb i i).2 rfl⟩
def over (s s' : St) (fx : Fx) : St where
 tm t := cond (EY t fx.wt) (s'.tm t) (s.tm t)
 H i := cond (Cl i fx.wh) (s'.H i) (s.H i)
def HQ (a b : Option V) : Prop := a.map V.AP = b.map V.AP
theorem HQ.refl (a : Option V) : HQ a a := rfl
theorem HQ.symm {a b : Option V} (h : HQ a b) : HQ b a := Eq.symm h
theorem HQ.trans {a b c : Option V} (h : HQ a b) (k : HQ b c) : HQ a c := Eq.trans h k
def DK (a b : V) : Prop := a.AP = b.AP
theorem DK.refl (a : V) : DK a a := rfl
theorem DK.symm {a b : V} (h : DK a b) : DK b a := Eq.symm h
theorem DK.trans {a b c : V} (h : DK a b) (k : DK b c) : DK a c := Eq.trans h k
structure UA (s s' : St) (fx : Fx) : Prop where
 tm : ∀ t ∈ fx.rt, s'.tm t = s.tm t
 H : ∀ i ∈ fx.rh, s'.H i = s.H i
 D : ∀ i ∈ fx.dh, HQ (s'.H i) (s.H i)
 T : ∀ t ∈ fx.dt, DK (s'.tm t) (s.tm t)
def TU (l m : List Nat) : Bool := l.all fun t => !EY t m
def TV (l m : List Id) : Bool := l.all fun t => !Cl t m
def UW (w k d : List Id) : Bool := d.all fun t => Cl t k || !Cl t w
def R0 (w k d : List Nat) : Bool := d.all fun t => EY t k || !EY t w
def Ei (x y : Fx) : Bool :=
 (TU x.wt y.rt && (TU x.wt y.wt && TU x.rt y.wt)) && ((TV x.wh y.rh && (TV x.wh y.wh && TV x.rh y.wh)) && ((UW x.wh x.kh y.dh && UW y.wh y.kh x.dh) && (R0 x.wt x.kt y.dt && R0 y.wt y.kt x.dt)))
theorem Iu {l m : List Nat} (h : TU l m = true) {t : Nat} (h1 : t ∈ l) (h2 : t ∈ m) : False := by
 have := List.all_eq_true.1 h t h1
 rw [BO.2 h2] at this; cases this
theorem Iv {l m : List Id} (h : TV l m = true) {t : Id} (h1 : t ∈ l) (h2 : t ∈ m) : False := by
 have := List.all_eq_true.1 h t h1
 rw [Bp.2 h2] at this; cases this
def R8 (acc : List Nat) (o : Oper) : Nat :=
 o.after.toList.foldl (fun s e => cond (Region.binds .any e) (s ||| (2 ^ e.on ||| acc.getD e.on 0)) s) 0
def H2 : List Oper → List Nat → List Nat
 | [], acc => acc
 | o :: l, acc => H2 l (acc ++ [R8 acc o])
def K3 : Nat → List Oper → Bool
 | _, [] => true
 | i, o :: l => (o.after.toList.all fun e => !Region.binds .any e || Nat.blt e.on i) && K3 (i + 1) l
def J1 (x : Fx) (i : Nat) : List (Fx × Nat) → Bool
 | [] => true
 | (y, m) :: l => (Nat.testBit m i || Ei x y) && J1 x i l
def IH : Nat → List (Fx × Nat) → Bool
 | _, [] => true
 | i, (x, _) :: l => J1 x i l && IH (i + 1) l
def E4 (ops : Array Oper) (fxs : List Fx) : Bool :=
 K3 0 ops.toList && IH 0 (fxs.zip (H2 ops.toList []))
inductive OZ (ops : Array Oper) : Nat → Nat → Prop
 | one {i j : Nat} {o : Oper} {e : Edge} (ho : ops[j]? = some o) (he : e ∈ o.after) (hb : Region.binds .any e = true) (hi : e.on = i) : OZ ops i j
 | more {i j : Nat} {o : Oper} {e : Edge} (ho : ops[j]? = some o) (he : e ∈ o.after) (hb : Region.binds .any e = true) (h : OZ ops i e.on) : OZ ops i j
theorem Mb {ops : Array Oper} {acc : List Nat} (hacc : ∀ j m, acc[j]? = some m → ∀ i, Nat.testBit m i = true → OZ ops i j) {o : Oper} {j : Nat} (ho : ops[j]? = some o) :
 ∀ i, Nat.testBit (R8 acc o) i = true → OZ ops i j := by
 have : ∀ (l : List Edge) (s : Nat), (∀ e ∈ l, e ∈ o.after) → (∀ i, Nat.testBit s i = true → OZ ops i j) →
  ∀ i, Nat.testBit (l.foldl (fun s e => cond (Region.binds .any e) (s ||| (2 ^ e.on ||| acc.getD e.on 0)) s) s) i = true → OZ ops i j := by
  intro l
  induction l with
  | nil => intro s _ hs; exact hs
  | cons e l ih =>
    intro s hl hs
    rw [List.foldl_cons]
    refine ih _ (fun e he => hl e (by simp [he])) ?_
    intro i hi
    cases hb : Region.binds .any e
    · rw [hb] at hi; exact hs i hi
    · rw [hb, cond_true, Nat.testBit_or, Nat.testBit_or, Bool.or_eq_true, Bool.or_eq_true] at hi
      rcases hi with hi | hi | hi
      · exact hs i hi
      · rw [Nat.testBit_two_pow] at hi
        exact .one ho (hl e (by simp)) hb (by simpa using hi)
      · cases hg : acc[e.on]? with
        | none => rw [List.getD_eq_getElem?_getD, hg] at hi; simp at hi
        | some m =>
          rw [List.getD_eq_getElem?_getD, hg] at hi
          exact .more ho (hl e (by simp)) hb (hacc _ _ hg i hi)
 exact this _ 0 (fun e he => by simpa using he) (fun i hi => by simp at hi)
theorem Nt {ops : Array Oper} : ∀ (l : List Oper) (acc : List Nat), (∀ k o, l[k]? = some o → ops[acc.length + k]? = some o) → (∀ j m, acc[j]? = some m → ∀ i, Nat.testBit m i = true → OZ ops i j) →
 ∀ j m, (H2 l acc)[j]? = some m → ∀ i, Nat.testBit m i = true → OZ ops i j := by
 intro l
 induction l with
 | nil => intro acc _ h; exact h
 | cons o l ih =>
   intro acc hl hacc
   refine ih _ (fun k o' hk => ?_) (fun j m hj => ?_)
   · have := hl (k + 1) o' (by simpa using hk)
     rw [List.length_append]
     simpa [Nat.add_assoc, Nat.add_comm 1 k] using this
   · by_cases h : j < acc.length
     · rw [List.getElem?_append_left h] at hj; exact hacc j m hj
     · rw [List.getElem?_append_right (by omega)] at hj
       have hj0 : j - acc.length = 0 := by
        cases hh : j - acc.length with
        | zero => rfl
        | succ n => rw [hh] at hj; simp at hj
       rw [hj0] at hj
       simp only [List.getElem?_cons_zero, Option.some.injEq] at hj
       subst hj
       have hje : j = acc.length := by omega
       subst hje
       exact Mb hacc (by simpa using hl 0 o (by simp))
theorem Qj : ∀ (l : List Oper) (acc : List Nat), (H2 l acc).length = acc.length + l.length := by
 intro l
 induction l with
 | nil => intro acc; simp [H2]
 | cons o l ih => intro acc; rw [H2, ih]; simp; omega
theorem Mu {x : Fx} {i : Nat} : ∀ {l : List (Fx × Nat)}, J1 x i l = true → ∀ (k : Nat) (y : Fx) (m : Nat), l[k]? = some (y, m) → Nat.testBit m i = true ∨ Ei x y = true := by
 intro l
 induction l with
 | nil => intro _ k y m h; simp at h
 | cons p l ih =>
   obtain ⟨y0, m0⟩ := p
   intro h k y m hk
   simp only [J1, Bool.and_eq_true, Bool.or_eq_true] at h
   cases k with
   | zero => simp only [List.getElem?_cons_zero, Option.some.injEq, Prod.mk.injEq] at hk; obtain ⟨rfl, rfl⟩ := hk; exact h.1
   | succ k => exact ih h.2 k y m (by simpa using hk)
theorem LY : ∀ {l : List (Fx × Nat)} {b : Nat}, IH b l = true → ∀ (i j : Nat) (x y : Fx) (n m : Nat), i < j → l[i]? = some (x, n) → l[j]? = some (y, m) → Nat.testBit m (b + i) = true ∨ Ei x y = true := by
 intro l
 induction l with
 | nil => intro b _ i j x y n m _ h; simp at h
 | cons p l ih =>
   obtain ⟨x0, m0⟩ := p
   intro b h i j x y n m hij hi hj
   simp only [IH, Bool.and_eq_true] at h
   cases j with
   | zero => omega
   | succ j =>
     cases i with
     | zero =>
       simp only [List.getElem?_cons_zero, Option.some.injEq, Prod.mk.injEq] at hi
       obtain ⟨rfl, rfl⟩ := hi
       exact Mu h.1 j y m (by simpa using hj)
     | succ i =>
       have := ih h.2 i j x y n m (by omega) (by simpa using hi) (by simpa using hj)
       rwa [show b + 1 + i = b + (i + 1) by omega] at this
theorem K1 : ∀ {l : List Oper} {b : Nat}, K3 b l = true → ∀ (i : Nat) (o : Oper), l[i]? = some o → ∀ e ∈ o.after, Region.binds .any e = true → e.on < b + i := by
 intro l
 induction l with
 | nil => intro b _ i o h; simp at h
 | cons o0 l ih =>
   intro b h i o hi e he hb
   simp only [K3, Bool.and_eq_true] at h
   cases i with
   | zero =>
     simp only [List.getElem?_cons_zero, Option.some.injEq] at hi
     subst hi
     have := List.all_eq_true.1 h.1 e (by simpa using he)
     simpa [hb, Nat.blt_eq] using this
   | succ i =>
     have := ih h.2 i o (by simpa using hi) e he hb
     omega
def comb (S : Nat → Bool) : Nat → List (Fx × St) → St → St
 | _, [], s => s
 | i, (fx, s') :: l, s => comb S (i + 1) l (cond (S i) (over s s' fx) s)
theorem IG {S S' : Nat → Bool} {t : Nat} : ∀ (l : List (Fx × St)) (i : Nat) (s u : St), (∀ k fx s', l[k]? = some (fx, s') → t ∈ fx.wt → S (i + k) = S' (i + k)) → s.tm t = u.tm t →
 (comb S i l s).tm t = (comb S' i l u).tm t := by
 intro l
 induction l with
 | nil => intro i s u _ h; exact h
 | cons p l ih =>
   obtain ⟨fx, s'⟩ := p
   intro i s u h hs
   refine ih (i + 1) _ _ (fun k fx s' hk ht => by have := h (k + 1) fx s' (by simpa using hk) ht; rwa [show i + (k + 1) = i + 1 + k by omega] at this) ?_
   by_cases ht : t ∈ fx.wt
   · have := h 0 fx s' rfl ht
     rw [Nat.add_zero] at this
     rw [this]
     cases S' i
     · exact hs
     · simp only [cond_true, over, BO.2 ht]
   · have hm : EY t fx.wt = false := by
      cases hh : EY t fx.wt
      · rfl
      · exact absurd (BO.1 hh) ht
     have e : ∀ (b : Bool) (s : St), (cond b (over s s' fx) s).tm t = s.tm t := fun b s => by cases b <;> simp [over, hm]
     rw [e, e, hs]
theorem Kv {S S' : Nat → Bool} {t : Id} : ∀ (l : List (Fx × St)) (i : Nat) (s u : St), (∀ k fx s', l[k]? = some (fx, s') → t ∈ fx.wh → S (i + k) = S' (i + k)) → s.H t = u.H t →
 (comb S i l s).H t = (comb S' i l u).H t := by
 intro l
 induction l with
 | nil => intro i s u _ h; exact h
 | cons p l ih =>
   obtain ⟨fx, s'⟩ := p
   intro i s u h hs
   refine ih (i + 1) _ _ (fun k fx s' hk ht => by have := h (k + 1) fx s' (by simpa using hk) ht; rwa [show i + (k + 1) = i + 1 + k by omega] at this) ?_
   by_cases ht : t ∈ fx.wh
   · have := h 0 fx s' rfl ht
     rw [Nat.add_zero] at this
     rw [this]
     cases S' i
     · exact hs
     · simp only [cond_true, over, Bp.2 ht]
   · have hm : Cl t fx.wh = false := by
      cases hh : Cl t fx.wh
      · rfl
      · exact absurd (Bp.1 hh) ht
     have e : ∀ (b : Bool) (s : St), (cond b (over s s' fx) s).H t = s.H t := fun b s => by cases b <;> simp [over, hm]
     rw [e, e, hs]
theorem Kt {S : Nat → Bool} : ∀ (l : List (Fx × St)) (i : Nat) (s : St), (∀ j, S j = false) → comb S i l s = s := by
 intro l
 induction l with
 | nil => intro i s _; rfl
 | cons p l ih =>
   obtain ⟨fx, s'⟩ := p
   intro i s h
   rw [comb, h i, cond_false]
   exact ih _ _ h
theorem Fs {S : Nat → Bool} {t : Id} (l : List (Fx × St)) (i : Nat) (u : St) (h : ∀ k fx s', l[k]? = some (fx, s') → t ∈ fx.wh → S (i + k) = false) : (comb S i l u).H t = u.H t := by
 have := Kv (S := S) (S' := fun _ => false) (t := t) l i u u h rfl
 rw [this, Kt _ _ _ fun _ => rfl]
def QB (t : Id) : St → List (Fx × St) → Prop
 | _, [] => True
 | s, (fx, s') :: l => (t ∈ fx.kh → HQ (s'.H t) (s.H t)) ∧ (t ∉ fx.wh → s'.H t = s.H t) ∧ QB t s' l
def Down (t : Id) (S : Nat → Bool) (i : Nat) (l : List (Fx × St)) : Prop :=
 ∀ k j fx s' fy s'', k < j → l[k]? = some (fx, s') → l[j]? = some (fy, s'') → t ∈ fx.wh → t ∈ fy.wh → S (i + j) = true → S (i + k) = true
theorem Down.tail {t : Id} {S : Nat → Bool} {i : Nat} {p : Fx × St} {l : List (Fx × St)} (h : Down t S i (p :: l)) : Down t S (i + 1) l := by
 intro k j fx s' fy s'' hkj hk hj h1 h2 h3
 have := h (k + 1) (j + 1) fx s' fy s'' (by omega) (by simpa using hk) (by simpa using hj) h1 h2 (by rwa [show i + (j + 1) = i + 1 + j by omega])
 rwa [show i + 1 + k = i + (k + 1) by omega]
theorem Down.stop {t : Id} {S : Nat → Bool} {i : Nat} {fx : Fx} {s' : St} {l : List (Fx × St)} (h : Down t S i ((fx, s') :: l)) (hw : t ∈ fx.wh) (h0 : S i = false) : ∀ k fy s'', l[k]? = some (fy, s'') → t ∈ fy.wh → S (i + 1 + k) = false := by
 intro k fy s'' hk h2
 cases hS : S (i + 1 + k)
 · rfl
 · have := h 0 (k + 1) fx s' fy s'' (by omega) rfl (by simpa using hk) hw h2 (by rwa [show i + (k + 1) = i + 1 + k by omega])
   rw [Nat.add_zero, h0] at this
   cases this
theorem Hx {s s' : St} {fx : Fx} {t : Id} (h : t ∈ fx.wh) : (over s s' fx).H t = s'.H t := by simp only [over, Bp.2 h, cond_true]
theorem KT {s s' : St} {fx : Fx} {t : Id} (h : t ∉ fx.wh) : (over s s' fx).H t = s.H t := by
 have hm : Cl t fx.wh = false := by
  cases hh : Cl t fx.wh
  · rfl
  · exact absurd (Bp.1 hh) h
 simp only [over, hm, cond_false]
theorem L1 {S : Nat → Bool} {t : Id} : ∀ (l : List (Fx × St)) (i : Nat) (s u : St), QB t s l → Down t S i l → (∀ k fx s', l[k]? = some (fx, s') → t ∈ fx.wh → S (i + k) = true → t ∈ fx.kh) → HQ (u.H t) (s.H t) →
 HQ ((comb S i l u).H t) (s.H t) := by
 intro l
 induction l with
 | nil => intro i s u _ _ _ h; exact h
 | cons p l ih =>
   obtain ⟨fx, s'⟩ := p
   intro i s u hc hd hk hs
   have hk' : ∀ k fy s'', l[k]? = some (fy, s'') → t ∈ fy.wh → S (i + 1 + k) = true → t ∈ fy.kh := fun k fy s'' h1 h2 h3 => hk (k + 1) fy s'' (by simpa using h1) h2 (by rwa [show i + (k + 1) = i + 1 + k by omega])
   rw [comb]
   by_cases hw : t ∈ fx.wh
   · cases hS : S i
     · rw [cond_false, Fs l (i + 1) u (hd.stop hw hS)]
       exact hs
     · rw [cond_true]
       have h1 := hc.1 (hk 0 fx s' rfl hw (by rw [Nat.add_zero]; exact hS))
       exact (ih (i + 1) s' _ hc.2.2 hd.tail hk' (by rw [Hx hw]; exact HQ.refl _)).trans h1
   · have e : ∀ b : Bool, (cond b (over u s' fx) u).H t = u.H t := fun b => by cases b <;> simp [KT hw]
     have h2 := hc.2.1 hw
     rw [← h2]
     exact ih (i + 1) s' _ hc.2.2 hd.tail hk' (by rw [e, h2]; exact hs)
theorem Uk {S S' : Nat → Bool} {t : Id} : ∀ (l : List (Fx × St)) (i : Nat) (s u v : St), QB t s l → Down t S i l → Down t S' i l → (∀ k fx s', l[k]? = some (fx, s') → t ∈ fx.wh → t ∉ fx.kh → S (i + k) = S' (i + k)) →
 HQ (u.H t) (s.H t) → HQ (v.H t) (s.H t) → HQ ((comb S i l u).H t) ((comb S' i l v).H t) := by
 intro l
 induction l with
 | nil => intro i s u v _ _ _ _ h k; exact h.trans k.symm
 | cons p l ih =>
   obtain ⟨fx, s'⟩ := p
   intro i s u v hc hd hd' he hu hv
   have he' : ∀ k fy s'', l[k]? = some (fy, s'') → t ∈ fy.wh → t ∉ fy.kh → S (i + 1 + k) = S' (i + 1 + k) := fun k fy s'' h1 h2 h3 => by
    have := he (k + 1) fy s'' (by simpa using h1) h2 h3
    rwa [show i + (k + 1) = i + 1 + k by omega] at this
   have he0 : t ∈ fx.wh → S i ≠ S' i → t ∈ fx.kh := fun hw hne => Classical.byContradiction fun hk => hne (by have := he 0 fx s' rfl hw hk; rwa [Nat.add_zero] at this)
   simp only [comb]
   by_cases hw : t ∈ fx.wh
   · cases hS : S i <;> cases hS' : S' i
     · rw [cond_false, cond_false, Fs l (i + 1) u (hd.stop hw hS), Fs l (i + 1) v (hd'.stop hw hS')]
       exact hu.trans hv.symm
     · rw [cond_false, cond_true, Fs l (i + 1) u (hd.stop hw hS)]
       have hk := he0 hw (by rw [hS, hS']; simp)
       have h1 := L1 l (i + 1) s' (over v s' fx) hc.2.2 hd'.tail (fun k fy s'' h1 h2 h3 => Classical.byContradiction fun h4 => by
        have := he' k fy s'' h1 h2 h4
        rw [hd.stop hw hS k fy s'' h1 h2, h3] at this; cases this) (by rw [Hx hw]; exact HQ.refl _)
       exact (hu.trans (hc.1 hk).symm).trans h1.symm
     · rw [cond_true, cond_false, Fs l (i + 1) v (hd'.stop hw hS')]
       have hk := he0 hw (by rw [hS, hS']; simp)
       have h1 := L1 l (i + 1) s' (over u s' fx) hc.2.2 hd.tail (fun k fy s'' h1 h2 h3 => Classical.byContradiction fun h4 => by
        have := he' k fy s'' h1 h2 h4
        rw [hd'.stop hw hS' k fy s'' h1 h2, h3] at this; cases this) (by rw [Hx hw]; exact HQ.refl _)
       exact (h1.trans (hc.1 hk)).trans hv.symm
     · rw [cond_true, cond_true]
       exact ih (i + 1) s' _ _ hc.2.2 hd.tail hd'.tail he' (by rw [Hx hw]; exact HQ.refl _) (by rw [Hx hw]; exact HQ.refl _)
   · have e : ∀ (b : Bool) (z : St), (cond b (over z s' fx) z).H t = z.H t := fun b z => by cases b <;> simp [KT hw]
     have h2 := hc.2.1 hw
     exact ih (i + 1) s' _ _ hc.2.2 hd.tail hd'.tail he' (by rw [e, h2]; exact hu) (by rw [e, h2]; exact hv)
theorem E5 {S : Nat → Bool} {t : Nat} (l : List (Fx × St)) (i : Nat) (u : St) (h : ∀ k fx s', l[k]? = some (fx, s') → t ∈ fx.wt → S (i + k) = false) : (comb S i l u).tm t = u.tm t := by
 have := IG (S := S) (S' := fun _ => false) (t := t) l i u u h rfl
 rw [this, Kt _ _ _ fun _ => rfl]
def NC (t : Nat) : St → List (Fx × St) → Prop
 | _, [] => True
 | s, (fx, s') :: l => (t ∈ fx.kt → DK (s'.tm t) (s.tm t)) ∧ (t ∉ fx.wt → s'.tm t = s.tm t) ∧ NC t s' l
def IU (t : Nat) (S : Nat → Bool) (i : Nat) (l : List (Fx × St)) : Prop :=
 ∀ k j fx s' fy s'', k < j → l[k]? = some (fx, s') → l[j]? = some (fy, s'') → t ∈ fx.wt → t ∈ fy.wt → S (i + j) = true → S (i + k) = true
theorem IU.tail {t : Nat} {S : Nat → Bool} {i : Nat} {p : Fx × St} {l : List (Fx × St)} (h : IU t S i (p :: l)) : IU t S (i + 1) l := by
 intro k j fx s' fy s'' hkj hk hj h1 h2 h3
 have := h (k + 1) (j + 1) fx s' fy s'' (by omega) (by simpa using hk) (by simpa using hj) h1 h2 (by rwa [show i + (j + 1) = i + 1 + j by omega])
 rwa [show i + 1 + k = i + (k + 1) by omega]
theorem IU.stop {t : Nat} {S : Nat → Bool} {i : Nat} {fx : Fx} {s' : St} {l : List (Fx × St)} (h : IU t S i ((fx, s') :: l)) (hw : t ∈ fx.wt) (h0 : S i = false) : ∀ k fy s'', l[k]? = some (fy, s'') → t ∈ fy.wt → S (i + 1 + k) = false := by
 intro k fy s'' hk h2
 cases hS : S (i + 1 + k)
 · rfl
 · have := h 0 (k + 1) fx s' fy s'' (by omega) rfl (by simpa using hk) hw h2 (by rwa [show i + (k + 1) = i + 1 + k by omega])
   rw [Nat.add_zero, h0] at this
   cases this
theorem Gl {s s' : St} {fx : Fx} {t : Nat} (h : t ∈ fx.wt) : (over s s' fx).tm t = s'.tm t := by simp only [over, BO.2 h, cond_true]
theorem Ip {s s' : St} {fx : Fx} {t : Nat} (h : t ∉ fx.wt) : (over s s' fx).tm t = s.tm t := by
 have hm : EY t fx.wt = false := by
  cases hh : EY t fx.wt
  · rfl
  · exact absurd (BO.1 hh) h
 simp only [over, hm, cond_false]
theorem Ku {S : Nat → Bool} {t : Nat} : ∀ (l : List (Fx × St)) (i : Nat) (s u : St), NC t s l → IU t S i l → (∀ k fx s', l[k]? = some (fx, s') → t ∈ fx.wt → S (i + k) = true → t ∈ fx.kt) → DK (u.tm t) (s.tm t) →
 DK ((comb S i l u).tm t) (s.tm t) := by
 intro l
 induction l with
 | nil => intro i s u _ _ _ h; exact h
 | cons p l ih =>
   obtain ⟨fx, s'⟩ := p
   intro i s u hc hd hk hs
   have hk' : ∀ k fy s'', l[k]? = some (fy, s'') → t ∈ fy.wt → S (i + 1 + k) = true → t ∈ fy.kt := fun k fy s'' h1 h2 h3 => hk (k + 1) fy s'' (by simpa using h1) h2 (by rwa [show i + (k + 1) = i + 1 + k by omega])
   rw [comb]
   by_cases hw : t ∈ fx.wt
   · cases hS : S i
     · rw [cond_false, E5 l (i + 1) u (hd.stop hw hS)]
       exact hs
     · rw [cond_true]
       have h1 := hc.1 (hk 0 fx s' rfl hw (by rw [Nat.add_zero]; exact hS))
       exact (ih (i + 1) s' _ hc.2.2 hd.tail hk' (by rw [Gl hw]; exact DK.refl _)).trans h1
   · have e : ∀ b : Bool, (cond b (over u s' fx) u).tm t = u.tm t := fun b => by cases b <;> simp [Ip hw]
     have h2 := hc.2.1 hw
     rw [← h2]
     exact ih (i + 1) s' _ hc.2.2 hd.tail hk' (by rw [e, h2]; exact hs)
theorem To {S S' : Nat → Bool} {t : Nat} : ∀ (l : List (Fx × St)) (i : Nat) (s u v : St), NC t s l → IU t S i l → IU t S' i l → (∀ k fx s', l[k]? = some (fx, s') → t ∈ fx.wt → t ∉ fx.kt → S (i + k) = S' (i + k)) →
 DK (u.tm t) (s.tm t) → DK (v.tm t) (s.tm t) → DK ((comb S i l u).tm t) ((comb S' i l v).tm t) := by
 intro l
 induction l with
 | nil => intro i s u v _ _ _ _ h k; exact h.trans k.symm
 | cons p l ih =>
   obtain ⟨fx, s'⟩ := p
   intro i s u v hc hd hd' he hu hv
   have he' : ∀ k fy s'', l[k]? = some (fy, s'') → t ∈ fy.wt → t ∉ fy.kt → S (i + 1 + k) = S' (i + 1 + k) := fun k fy s'' h1 h2 h3 => by
    have := he (k + 1) fy s'' (by simpa using h1) h2 h3
    rwa [show i + (k + 1) = i + 1 + k by omega] at this
   have he0 : t ∈ fx.wt → S i ≠ S' i → t ∈ fx.kt := fun hw hne => Classical.byContradiction fun hk => hne (by have := he 0 fx s' rfl hw hk; rwa [Nat.add_zero] at this)
   simp only [comb]
   by_cases hw : t ∈ fx.wt
   · cases hS : S i <;> cases hS' : S' i
     · rw [cond_false, cond_false, E5 l (i + 1) u (hd.stop hw hS), E5 l (i + 1) v (hd'.stop hw hS')]
       exact hu.trans hv.symm
     · rw [cond_false, cond_true, E5 l (i + 1) u (hd.stop hw hS)]
       have hk := he0 hw (by rw [hS, hS']; simp)
       have h1 := Ku l (i + 1) s' (over v s' fx) hc.2.2 hd'.tail (fun k fy s'' h1 h2 h3 => Classical.byContradiction fun h4 => by
        have := he' k fy s'' h1 h2 h4
        rw [hd.stop hw hS k fy s'' h1 h2, h3] at this; cases this) (by rw [Gl hw]; exact DK.refl _)
       exact (hu.trans (hc.1 hk).symm).trans h1.symm
     · rw [cond_true, cond_false, E5 l (i + 1) v (hd'.stop hw hS')]
       have hk := he0 hw (by rw [hS, hS']; simp)
       have h1 := Ku l (i + 1) s' (over u s' fx) hc.2.2 hd.tail (fun k fy s'' h1 h2 h3 => Classical.byContradiction fun h4 => by
        have := he' k fy s'' h1 h2 h4
        rw [hd'.stop hw hS' k fy s'' h1 h2, h3] at this; cases this) (by rw [Gl hw]; exact DK.refl _)
       exact (h1.trans (hc.1 hk)).trans hv.symm
     · rw [cond_true, cond_true]
       exact ih (i + 1) s' _ _ hc.2.2 hd.tail hd'.tail he' (by rw [Gl hw]; exact DK.refl _) (by rw [Gl hw]; exact DK.refl _)
   · have e : ∀ (b : Bool) (z : St), (cond b (over z s' fx) z).tm t = z.tm t := fun b z => by cases b <;> simp [Ip hw]
     have h2 := hc.2.1 hw
     exact ih (i + 1) s' _ _ hc.2.2 hd.tail hd'.tail he' (by rw [e, h2]; exact hu) (by rw [e, h2]; exact hv)
end Go.Vm
end
section
namespace Go.Vm
open Go
inductive Tr (ok : Nat → St → St → Fx → Prop) : Nat → St → List (Fx × St) → St → Prop
 | nil {i : Nat} {s : St} : Tr ok i s [] s
 | cons {i : Nat} {s s' s'' : St} {fx : Fx} {l : List (Fx × St)} (h : ok i s s' fx) (he : over s s' fx = s') (hv : (∀ t ∈ fx.kh, HQ (s'.H t) (s.H t)) ∧ ∀ t ∈ fx.kt, DK (s'.tm t) (s.tm t)) (ht : Tr ok (i + 1) s' l s'') : Tr ok i s ((fx, s') :: l) s''
theorem JC {S : Nat → Bool} : ∀ (l : List (Fx × St)) (i : Nat) (s : St), (∀ j, i ≤ j → S j = false) → comb S i l s = s := by
 intro l
 induction l with
 | nil => intro i s _; rfl
 | cons p l ih =>
   obtain ⟨fx, s'⟩ := p
   intro i s h
   rw [comb, h i (Nat.le_refl _), cond_false]
   exact ih _ _ fun j hj => h j (by omega)
theorem Tr.at_ {ok : Nat → St → St → Fx → Prop} {i : Nat} {s s'' : St} {l : List (Fx × St)} (h : Tr ok i s l s'') :
 comb (fun j => decide (j < i + l.length)) i l s = s'' ∧ ∀ k fx s', l[k]? = some (fx, s') → ok (i + k) (comb (fun j => decide (j < i + k)) i l s) s' fx ∧ comb (fun j => decide (j < i + (k + 1))) i l s = s' := by
 induction h with
 | nil => exact ⟨rfl, fun k fx s' h => by simp at h⟩
 | @cons i s s' s'' fx l h1 h2 hv h3 ih =>
   have hc : ∀ n, comb (fun j => decide (j < i + (n + 1))) i ((fx, s') :: l) s = comb (fun j => decide (j < i + 1 + n)) (i + 1) l s' := by
    intro n
    have e : i + (n + 1) = i + 1 + n := by omega
    rw [comb, e]
    have : decide (i < i + 1 + n) = true := by simp; omega
    rw [this, cond_true, h2]
   refine ⟨by rw [List.length_cons, hc]; exact ih.1, fun k fx' u hk => ?_⟩
   cases k with
   | zero =>
     simp only [List.getElem?_cons_zero, Option.some.injEq, Prod.mk.injEq] at hk
     obtain ⟨rfl, rfl⟩ := hk
     refine ⟨?_, ?_⟩
     · rw [Nat.add_zero, JC _ _ _ (fun j hj => by simp; omega)]; exact h1
     · rw [hc, JC _ _ _ (fun j hj => by simp; omega)]
   | succ k =>
     obtain ⟨h4, h5⟩ := ih.2 k fx' u (by simpa using hk)
     refine ⟨?_, ?_⟩
     · rw [hc, show i + (k + 1) = i + 1 + k by omega]; exact h4
     · rw [hc, show i + 1 + (k + 1) = i + 1 + (k + 1) from rfl]; exact h5
theorem Tr.chain {ok : Nat → St → St → Fx → Prop} {i : Nat} {s s'' : St} {l : List (Fx × St)} (h : Tr ok i s l s'') (t : Id) : QB t s l := by
 induction h with
 | nil => trivial
 | @cons i s s' s'' fx l h1 h2 hv h3 ih => exact ⟨hv.1 t, fun hw => by rw [← h2, KT hw], ih⟩
theorem Tr.Ul {ok : Nat → St → St → Fx → Prop} {i : Nat} {s s'' : St} {l : List (Fx × St)} (h : Tr ok i s l s'') (t : Nat) : NC t s l := by
 induction h with
 | nil => trivial
 | @cons i s s' s'' fx l h1 h2 hv h3 ih => exact ⟨hv.2 t, fun hw => by rw [← h2, Ip hw], ih⟩
def Cx (P : Program) (ops : Array Oper) (I : St → Act → World → Prop) (i : Nat) (s s' : St) (fx : Fx) : Prop :=
 ∀ (u : St) (a : Act) (w : World) (rest : List Nat) (K : List Go.Item) (R : Act → World → Prop), UA s u fx → I u a w →
   (∀ a' w', I (over u s' fx) a' w' → BC P (.inRegion ops rest :: K) R a' w') → BC P (.inRegion ops (i :: rest) :: K) R a w
theorem PM {p q : Nat → Bool} {i : Nat} (hp : p i = true) (hq : q i = false) (he : ∀ j, j ≠ i → q j = p j) : ∀ n, i < n → (List.range n).countP q + 1 = (List.range n).countP p := by
 have same : ∀ n, n ≤ i → (List.range n).countP q = (List.range n).countP p := by
  intro n hn
  exact List.countP_congr fun j hj => by rw [he j (by have := List.mem_range.1 hj; omega)]
 intro n
 induction n with
 | zero => intro h; omega
 | succ n ih =>
   intro h
   rw [List.range_succ, List.countP_append, List.countP_append]
   by_cases hi : i = n
   · subst hi
     rw [same i (Nat.le_refl _)]
     simp [hp, hq]
   · have := ih (by omega)
     simp only [List.countP_singleton, he n (fun h => hi h.symm)]
     omega
section
variable {P : Program} {ops : Array Oper} {I : St → Act → World → Prop} {l : List (Fx × St)} {s0 s1 : St}
def Gf (ops : Array Oper) (listed : Array Bool) : Nat := (List.range ops.size).countP fun i => !listed.getD i true
theorem getD_set_true {listed : Array Bool} {i j : Nat} {d : Bool} (h : i < listed.size) : (listed.setIfInBounds i true).getD j d = if j = i then true else listed.getD j d := by
 by_cases hj : j = i
 · subst hj; simp [Array.getD, h]
 · simp only [hj, if_false, Array.getD_eq_getD_getElem?, Array.getElem?_setIfInBounds, Ne.symm hj]
theorem OZ.listed {S : Nat → Bool} (hS : ∀ j o, ops[j]? = some o → S j = true → ∀ e ∈ o.after, Region.binds .any e = true → S e.on = true) {i j : Nat} (h : OZ ops i j) (hj : S j = true) : S i = true := by
 induction h with
 | one ho he hb hi => subst hi; exact hS _ _ ho hj _ he hb
 | more ho he hb _ ih => exact ih (hS _ _ ho hj _ he hb)
theorem CN (hind : E4 ops (l.map (·.1)) = true) (hlen : l.length = ops.size) {i j : Nat} {x y : Fx} {s s' : St} (hij : i < j) (hi : l[i]? = some (x, s)) (hj : l[j]? = some (y, s')) : OZ ops i j ∨ Ei x y = true := by
 simp only [E4, Bool.and_eq_true] at hind
 have hml := Qj ops.toList []
 have hlt := (List.getElem?_eq_some_iff.1 hj).1
 have hget : ∀ k, k < l.length → ∃ m, (H2 ops.toList [])[k]? = some m := fun k hk => ⟨_, List.getElem?_eq_getElem (by rw [hml]; simp; omega)⟩
 obtain ⟨m, hm⟩ := hget j hlt
 obtain ⟨n, hn⟩ := hget i (by omega)
 have hz : ∀ (k : Nat) (x : Fx) (s : St) (m : Nat), l[k]? = some (x, s) → (H2 ops.toList [])[k]? = some m → ((l.map (·.1)).zip (H2 ops.toList []))[k]? = some (x, m) := by
  intro k x s m h1 h2
  rw [List.getElem?_zip_eq_some]
  exact ⟨by rw [List.getElem?_map, h1]; rfl, h2⟩
 have := LY hind.2 i j x y n m hij (hz i x s n hi hn) (hz j y s' m hj hm)
 rw [Nat.zero_add] at this
 refine this.imp (fun h => ?_) id
 exact Nt ops.toList [] (fun k o hk => by simpa using hk) (fun j m h => by simp at h) j m hm i h
theorem IM {x y : Fx} (h : Ei x y = true) {t : Nat} : (t ∈ x.wt → t ∈ y.rt → False) ∧ (t ∈ x.wt → t ∈ y.wt → False) ∧ (t ∈ x.rt → t ∈ y.wt → False) := by
 simp only [Ei, Bool.and_eq_true] at h
 exact ⟨Iu h.1.1, Iu h.1.2.1, Iu h.1.2.2⟩
theorem IP {x y : Fx} (h : Ei x y = true) {t : Id} : (t ∈ x.wh → t ∈ y.rh → False) ∧ (t ∈ x.wh → t ∈ y.wh → False) ∧ (t ∈ x.rh → t ∈ y.wh → False) := by
 simp only [Ei, Bool.and_eq_true] at h
 exact ⟨Iv h.2.1.1, Iv h.2.1.2.1, Iv h.2.1.2.2⟩
theorem Lm {w k d : List Id} (h : UW w k d = true) {t : Id} (h1 : t ∈ d) (h2 : t ∈ w) : t ∈ k := by
 have := List.all_eq_true.1 h t h1
 rw [Bp.2 h2] at this
 exact Bp.1 (by simpa using this)
theorem P6 {x y : Fx} (h : Ei x y = true) {t : Id} : (t ∈ y.dh → t ∈ x.wh → t ∈ x.kh) ∧ (t ∈ x.dh → t ∈ y.wh → t ∈ y.kh) := by
 simp only [Ei, Bool.and_eq_true] at h
 exact ⟨Lm h.2.2.1.1, Lm h.2.2.1.2⟩
theorem Ka {w k d : List Nat} (h : R0 w k d = true) {t : Nat} (h1 : t ∈ d) (h2 : t ∈ w) : t ∈ k := by
 have := List.all_eq_true.1 h t h1
 rw [BO.2 h2] at this
 exact BO.1 (by simpa using this)
theorem ON {x y : Fx} (h : Ei x y = true) {t : Nat} : (t ∈ y.dt → t ∈ x.wt → t ∈ x.kt) ∧ (t ∈ x.dt → t ∈ y.wt → t ∈ y.kt) := by
 simp only [Ei, Bool.and_eq_true] at h
 exact ⟨Ka h.2.2.2.1, Ka h.2.2.2.2⟩
theorem Q4 (htr : Tr (Cx P ops I) 0 s0 l s1) (hlen : l.length = ops.size) (hind : E4 ops (l.map (·.1)) = true) {S S' : Nat → Bool}
 (hS : ∀ j o, ops[j]? = some o → S j = true → ∀ e ∈ o.after, Region.binds .any e = true → S e.on = true) {k : Nat} {o : Oper} (hk : ops[k]? = some o) (hSk : S k = false)
 (hpre : ∀ e ∈ o.after, Region.binds .any e = true → S e.on = true) (hS' : ∀ j, S' j = if j = k then true else S j) :
 ∃ s s' fx, Cx P ops I k s s' fx ∧ UA s (comb S 0 l s0) fx ∧ comb S' 0 l s0 = over (comb S 0 l s0) s' fx := by
 have hkl : k < l.length := by have := (Array.getElem?_eq_some_iff.1 hk).1; omega
 obtain ⟨p, hp⟩ : ∃ p, l[k]? = some p := ⟨_, List.getElem?_eq_getElem hkl⟩
 obtain ⟨fx, s'⟩ := p
 obtain ⟨h1, h2⟩ := htr.at_.2 k fx s' hp
 rw [Nat.zero_add] at h1 h2
 have hanc : ∀ j, OZ ops j k → S j = true := by
  intro j h
  cases h with
  | one ho he hb hi => rw [hk] at ho; cases ho; subst hi; exact hpre _ he hb
  | more ho he hb h => rw [hk] at ho; cases ho; exact h.listed hS (hpre _ he hb)
 have hdesc : ∀ j, OZ ops k j → S j = false := by
  intro j h
  cases hj : S j
  · rfl
  · rw [h.listed hS hj] at hSk; cases hSk
 have hdown : ∀ (t : Id) (S : Nat → Bool), (∀ i j, OZ ops i j → S j = true → S i = true) → Down t S 0 l := by
  intro t S hcl i j fx s' fy s'' hij hi hj hw1 hw2 hs
  rw [Nat.zero_add] at hs ⊢
  exact hcl i j ((CN hind hlen hij hi hj).resolve_right fun ha => (IP ha).2.1 hw1 hw2) hs
 have hdownT : ∀ (t : Nat) (S : Nat → Bool), (∀ i j, OZ ops i j → S j = true → S i = true) → IU t S 0 l := by
  intro t S hcl i j fx s' fy s'' hij hi hj hw1 hw2 hs
  rw [Nat.zero_add] at hs ⊢
  exact hcl i j ((CN hind hlen hij hi hj).resolve_right fun ha => (IM ha).2.1 hw1 hw2) hs
 have hlt : ∀ i j, OZ ops i j → i < j := by
  intro i j h
  have hb : ∀ (i j : Nat) (o : Oper) (e : Edge), ops[j]? = some o → e ∈ o.after → Region.binds .any e = true → e.on = i → i < j := fun i j o e ho he hb hi => by
   have h1 := (by simpa [E4, Bool.and_eq_true] using hind : K3 0 ops.toList = true ∧ _).1
   have := K1 h1 j o (by simpa using ho) e he hb
   omega
  induction h with
  | one ho he hb' hi => exact hb _ _ _ _ ho he hb' hi
  | more ho he hb' _ ih => exact Nat.lt_trans ih (hb _ _ _ _ ho he hb' rfl)
 refine ⟨_, s', fx, h1, ⟨fun t ht => ?_, fun t ht => ?_, fun t ht => ?_, fun t ht => ?_⟩, ?_⟩
 · refine IG l 0 _ _ (fun j fy u hj hw => ?_) rfl
   rw [Nat.zero_add]
   rcases Nat.lt_trichotomy j k with h | h | h
   · rw [hanc j ((CN hind hlen h hj hp).resolve_right fun ha => (IM ha).1 hw ht)]; simp [h]
   · subst h; rw [hSk]; simp
   · rw [hdesc j ((CN hind hlen h hp hj).resolve_right fun ha => (IM ha).2.2 ht hw)]; simp; omega
 · refine Kv l 0 _ _ (fun j fy u hj hw => ?_) rfl
   rw [Nat.zero_add]
   rcases Nat.lt_trichotomy j k with h | h | h
   · rw [hanc j ((CN hind hlen h hj hp).resolve_right fun ha => (IP ha).1 hw ht)]; simp [h]
   · subst h; rw [hSk]; simp
   · rw [hdesc j ((CN hind hlen h hp hj).resolve_right fun ha => (IP ha).2.2 ht hw)]; simp; omega
 · refine Uk l 0 s0 _ _ (htr.chain t) (hdown t S fun i j ha hj => ha.listed hS hj) (hdown t _ fun i j ha hj => ?_) (fun j fy u hj hw hnk => ?_) (HQ.refl _) (HQ.refl _)
   · have := hlt i j ha
     simp at hj ⊢
     omega
   rw [Nat.zero_add]
   rcases Nat.lt_trichotomy j k with h | h | h
   · rw [hanc j ((CN hind hlen h hj hp).resolve_right fun ha => hnk ((P6 ha).1 ht hw))]; simp [h]
   · subst h; rw [hSk]; simp
   · rw [hdesc j ((CN hind hlen h hp hj).resolve_right fun ha => hnk ((P6 ha).2 ht hw))]; simp; omega
 · refine To l 0 s0 _ _ (htr.Ul t) (hdownT t S fun i j ha hj => ha.listed hS hj) (hdownT t _ fun i j ha hj => ?_) (fun j fy u hj hw hnk => ?_) (DK.refl _) (DK.refl _)
   · have := hlt i j ha
     simp at hj ⊢
     omega
   rw [Nat.zero_add]
   rcases Nat.lt_trichotomy j k with h | h | h
   · rw [hanc j ((CN hind hlen h hj hp).resolve_right fun ha => hnk ((ON ha).1 ht hw))]; simp [h]
   · subst h; rw [hSk]; simp
   · rw [hdesc j ((CN hind hlen h hp hj).resolve_right fun ha => hnk ((ON ha).2 ht hw))]; simp; omega
 · have e : ∀ u v : St, u.tm = v.tm → u.H = v.H → u = v := by intro u v; cases u; cases v; simp_all
   refine e _ _ (funext fun t => ?_) (funext fun t => ?_)
   · by_cases ht : t ∈ fx.wt
     · simp only [over, BO.2 ht, cond_true]
       rw [← congrArg (fun s => St.tm s t) h2]
       refine IG l 0 _ _ (fun j fy u hj hw => ?_) rfl
       rw [Nat.zero_add, hS']
       rcases Nat.lt_trichotomy j k with h | h | h
       · rw [hanc j ((CN hind hlen h hj hp).resolve_right fun ha => (IM ha).2.1 hw ht)]; simp; omega
       · subst h; simp
       · rw [if_neg (by omega), hdesc j ((CN hind hlen h hp hj).resolve_right fun ha => (IM ha).2.1 ht hw)]; simp; omega
     · have hm : EY t fx.wt = false := by
        cases hh : EY t fx.wt
        · rfl
        · exact absurd (BO.1 hh) ht
       simp only [over, hm, cond_false]
       refine IG l 0 _ _ (fun j fy u hj hw => ?_) rfl
       rw [Nat.zero_add, hS']
       by_cases h : j = k
       · subst h; rw [hp] at hj; cases hj; exact absurd hw ht
       · rw [if_neg h]
   · by_cases ht : t ∈ fx.wh
     · simp only [over, Bp.2 ht, cond_true]
       rw [← congrArg (fun s => St.H s t) h2]
       refine Kv l 0 _ _ (fun j fy u hj hw => ?_) rfl
       rw [Nat.zero_add, hS']
       rcases Nat.lt_trichotomy j k with h | h | h
       · rw [hanc j ((CN hind hlen h hj hp).resolve_right fun ha => (IP ha).2.1 hw ht)]; simp; omega
       · subst h; simp
       · rw [if_neg (by omega), hdesc j ((CN hind hlen h hp hj).resolve_right fun ha => (IP ha).2.1 ht hw)]; simp; omega
     · have hm : Cl t fx.wh = false := by
        cases hh : Cl t fx.wh
        · rfl
        · exact absurd (Bp.1 hh) ht
       simp only [over, hm, cond_false]
       refine Kv l 0 _ _ (fun j fy u hj hw => ?_) rfl
       rw [Nat.zero_add, hS']
       by_cases h : j = k
       · subst h; rw [hp] at hj; cases hj; exact absurd hw ht
       · rw [if_neg h]
theorem M8 (hb : K3 0 ops.toList = true) {listed : Array Bool} (hsz : listed.size = ops.size) (hr : Region.ready .any ops listed = []) : ∀ n, n < ops.size → listed.getD n false = true := by
 intro n
 induction n using Nat.strongRecOn with
 | ind n ih =>
   intro hn
   cases hl : listed.getD n false
   · exfalso
     have hmem : n ∈ Region.ready .any ops listed := by
      unfold Region.ready
      rw [List.mem_filter]
      refine ⟨List.mem_range.2 hn, ?_⟩
      have hl2 : listed.getD n true = false := by
       simp only [Array.getD, hsz, hn, dite_true] at hl ⊢; exact hl
      simp only [hl2, Bool.not_false, Bool.true_and, Array.getElem?_eq_getElem hn, Option.map_some, Option.getD_some, Array.all_eq_true_iff_forall_mem]
      intro e he
      cases hbe : Region.binds .any e
      · rfl
      · have := K1 hb n ops[n] (by simp [hn]) e he hbe
        rw [Nat.zero_add] at this
        rw [ih e.on this (by omega)]; simp
     rw [hr] at hmem
     simp at hmem
   · rfl
theorem RF (htr : Tr (Cx P ops I) 0 s0 l s1) (hlen : l.length = ops.size) (hind : E4 ops (l.map (·.1)) = true) {K : List Go.Item} {R : Act → World → Prop}
 (hk : ∀ a w, I s1 a w → BC P K R a w) : ∀ (fuel t : Nat) (listed : Array Bool) (a : Act) (w : World), listed.size = ops.size →
   (∀ j o, ops[j]? = some o → listed.getD j false = true → ∀ e ∈ o.after, Region.binds .any e = true → listed.getD e.on false = true) → Gf ops listed ≤ fuel →
   I (comb (fun j => listed.getD j false) 0 l s0) a w → BC P (.inRegion ops (Region.linearise.go .any ops fuel t listed []) :: K) R a w := by
 have hb : K3 0 ops.toList = true := by simp only [E4, Bool.and_eq_true] at hind; exact hind.1
 have fin : ∀ (listed : Array Bool) (a : Act) (w : World), (∀ n, n < ops.size → listed.getD n false = true) → I (comb (fun j => listed.getD j false) 0 l s0) a w → BC P (.inRegion ops [] :: K) R a w := by
  intro listed a w hall hI
  refine .KJ (hk a w ?_)
  have e : ∀ u v : St, u.tm = v.tm → u.H = v.H → u = v := by intro u v; cases u; cases v; simp_all
  have hend := htr.at_.1
  rw [Nat.zero_add] at hend
  have : comb (fun j => listed.getD j false) 0 l s0 = s1 := by
   rw [← hend]
   have hj : ∀ (j : Nat) (fx : Fx) (u : St), l[j]? = some (fx, u) → listed.getD (0 + j) false = decide (0 + j < l.length) := by
    intro j fx u hj
    have := (List.getElem?_eq_some_iff.1 hj).1
    rw [Nat.zero_add, hall j (by omega)]; simp [this]
   exact e _ _ (funext fun t => IG l 0 _ _ (fun j fx u h _ => hj j fx u h) rfl) (funext fun t => Kv l 0 _ _ (fun j fx u h _ => hj j fx u h) rfl)
  rwa [this] at hI
 intro fuel
 induction fuel with
 | zero =>
   intro t listed a w hsz _ hun hI
   refine fin listed a w (fun n hn => ?_) hI
   have : ∀ i ∈ List.range ops.size, (!listed.getD i true) = false := by
    intro i hi
    have h0 : Gf ops listed = 0 := by omega
    have := List.countP_eq_zero.1 h0 i hi
    simpa using this
   have := this n (List.mem_range.2 hn)
   simp only [Array.getD, hsz, hn, dite_true] at this ⊢
   simpa using this
 | succ fuel ih =>
   intro t listed a w hsz hcl hun hI
   simp only [Region.linearise.go]
   change BC P (.inRegion ops (match (Region.ready .any ops listed)[t % (Region.ready .any ops listed).length]? with
    | some i => Region.linearise.go .any ops fuel (t / (Region.ready .any ops listed).length) (listed.setIfInBounds i true) [i]
    | none => [].reverse) :: K) R a w
   cases hi : (Region.ready .any ops listed)[t % (Region.ready .any ops listed).length]? with
   | none =>
     have hnil : Region.ready .any ops listed = [] := by
      cases hr : Region.ready .any ops listed with
      | nil => rfl
      | cons x xs =>
        rw [hr] at hi
        have hlt : t % (x :: xs).length < (x :: xs).length := Nat.mod_lt _ (by simp)
        simp at hi
        simp at hlt
        omega
     exact fin listed a w (M8 hb hsz hnil) hI
   | some i =>
     simp only []
     rw [linearise_go_acc, List.reverse_singleton, List.singleton_append]
     have hmem := List.mem_of_getElem? hi
     unfold Region.ready at hmem
     rw [List.mem_filter] at hmem
     obtain ⟨hin, hmem⟩ := hmem
     have hin := List.mem_range.1 hin
     simp only [Array.getElem?_eq_getElem hin, Option.map_some, Option.getD_some, Bool.and_eq_true, Array.all_eq_true_iff_forall_mem] at hmem
     have hun1 : listed.getD i true = false := by simpa using hmem.1
     have hun2 : listed.getD i false = false := by simp only [Array.getD, hsz, hin, dite_true] at hun1 ⊢; exact hun1
     have hpre : ∀ e ∈ ops[i].after, Region.binds .any e = true → listed.getD e.on false = true := by
      intro e he hbe
      have := hmem.2 e he
      simpa [hbe] using this
     have hset : ∀ (j : Nat) (d : Bool), (listed.setIfInBounds i true).getD j d = if j = i then true else listed.getD j d := fun j d => getD_set_true (by omega)
     obtain ⟨s, s', fx, h1, h2, h3⟩ := Q4 htr hlen hind (S := fun j => listed.getD j false) (S' := fun j => (listed.setIfInBounds i true).getD j false) hcl (Array.getElem?_eq_getElem hin) hun2 hpre (fun j => hset j false)
     refine h1 _ a w _ K R h2 hI fun a' w' hI' => ?_
     rw [← h3] at hI'
     refine ih _ _ a' w' (by simpa using hsz) (fun j o ho hj e he hbe => ?_) ?_ hI'
     · rw [hset] at hj ⊢
       by_cases hji : j = i
       · subst hji
         rw [Array.getElem?_eq_getElem hin] at ho
         cases ho
         split
         · rfl
         · exact hpre e he hbe
       · rw [if_neg hji] at hj
         split
         · rfl
         · exact hcl j o ho hj e he hbe
     · have : Gf ops (listed.setIfInBounds i true) + 1 = Gf ops listed :=
        PM (p := fun j => !listed.getD j true) (q := fun j => !(listed.setIfInBounds i true).getD j true) (by simp [hun1]) (by simp [hset]) (fun j hj => by simp [hset, hj]) _ hin
       omega
theorem Tn (hm : P.follows .mixedOrders = true) (htr : Tr (Cx P ops I) 0 s0 l s1) (hlen : l.length = ops.size) (hind : E4 ops (l.map (·.1)) = true) {K : List Go.Item} {R : Act → World → Prop}
 (hk : ∀ a w, I s1 a w → BC P K R a w) {id : Nat} {a : Act} {w : World} (hI : I s0 a { w with drawn := w.drawn + 1 }) : BC P (.code (.region id ops true) :: K) R a w := by
 refine .Nb fun t => ?_
 simp only [Region.schedule, hm, Bool.true_or, if_true]
 have hrep : ∀ j d, d = false → (Array.replicate ops.size false).getD j d = false := by
  intro j d hd
  simp only [Array.getD]
  split
  · simp
  · exact hd
 refine RF htr hlen hind hk ops.size t _ a _ (by simp) (fun j o _ hj => by rw [hrep j false rfl] at hj; cases hj) ?_ ?_
 · unfold Gf
   refine Nat.le_trans List.countP_le_length (by simp)
 · rw [JC _ _ _ (fun j _ => hrep j false rfl)]
   exact hI
theorem QL {K : List Go.Item} {R : Act → World → Prop} (hk : ∀ a w, I s1 a w → BC P K R a w) : ∀ {i : Nat} {s : St} {l : List (Fx × St)}, Tr (Cx P ops I) i s l s1 → i + l.length = ops.size → ∀ {a : Act} {w : World}, I s a w →
 BC P (.inRegion ops (List.range' i l.length) :: K) R a w := by
 intro i s l htr
 induction htr with
 | nil => intro _ a w hI; exact .KJ (hk a w hI)
 | @cons i s s' s'' fx l h he hv ht ih =>
   intro hlen a w hI
   rw [List.length_cons, List.range'_succ]
   refine h s a w _ K R ⟨fun _ _ => rfl, fun _ _ => rfl, fun _ _ => HQ.refl _, fun _ _ => DK.refl _⟩ hI fun a' w' hI' => ?_
   rw [he] at hI'
   exact ih hk (by rw [List.length_cons] at hlen; omega) hI'
end
end Go.Vm
end
section
namespace Go.Vm
open Go
def Db (o : Oper) : List Nat := o.op.operands.toList.flatMap DJ
def Pm (o : Oper) (s : St) : List Id :=
 match o.op with
 | .load _ a => match AR s.tm a with | .ptr id _ => [id, .loc (o.dst.getD 0) 0] | _ => []
 | .store _ a _ => match AR s.tm a with | .ptr id _ => [id] | _ => []
 | .alloc _ => [.loc (o.dst.getD 0) 0]
 | .box _ _ => [.loc (o.dst.getD 0) 0]
 | .makeSlice _ _ _ => [.loc (o.dst.getD 0) 0]
 | .call c => match c.args.toList with
   | [_, y] => match AR s.tm y with | .own id _ _ _ _ _ => [id] | _ => []
   | _ => []
 | _ => []
def DC (pol : Nat → Nat) (o : Oper) (e : FF) : Bool := match o.op, e.Jr, e.new with
 | .load _ _, some (_, none), none => !(Nat.beq (pol (o.dst.getD 0)) 1)
 | _, _, _ => false
def V.Jm : V → Bool
 | .int _ _ | .bool _ | .str _ | .B7 | .unit | .FX | .DW => true
 | .cons x r => x.Jm && r.Jm
 | _ => false
theorem Lu : ∀ {x : V}, x.AP.Jm = true → x.C0 = false := by
 intro x
 induction x with
 | cons a r ha hr => intro h; simp only [V.AP, V.Jm, Bool.and_eq_true] at h; simp [V.C0, ha h.1, hr h.2]
 | _ => intro h; first | rfl | (simp [V.AP, V.Jm] at h)
theorem N4 : ∀ {x : V}, x.Jm = true → x.AP.Jm = true := by
 intro x
 induction x with
 | cons a r ha hr => intro h; simp only [V.Jm, Bool.and_eq_true] at h; simp [V.AP, V.Jm, ha h.1, hr h.2]
 | _ => intro h; first | rfl | (simp [V.Jm] at h)
def Ez (o : Oper) (e : FF) : Bool := match o.op, e.take with
 | .extract _ _, [] => e.res.Jm
 | _, _ => false
def E0 (pol : Nat → Nat) (gs : List Nat) (o : Oper) (s : St) (e : FF) : Fx where
 rt := gs ++ cond (Ez o e) [] (Db o)
 dt := cond (Ez o e) (Db o) []
 kt := match o.op with
  | .extract _ _ => e.take.filter fun t => match o.dst with | some d => !(Nat.beq d t) | none => true
  | _ => []
 rh := cond (DC pol o e) [] (Pm o s)
 dh := cond (DC pol o e) (match e.Jr with | some (id, _) => [id] | none => []) []
 kh := match o.op, e.Jr, e.new with
  | .load _ _, some (id, some _), none => [id]
  | _, _, _ => []
 wt := (match o.dst with | some d => [d] | none => []) ++ e.take
 wh := match e.Jr, e.new with
  | some (id, some _), none => [id]
  | some (id, some _), some (id', _) => [id, id']
  | _, some (id, _) => [id]
  | _, _ => []
theorem Eb {tm tm' : Nat → V} {x : Operand} (h : ∀ t ∈ DJ x, tm' t = tm t) : AR tm' x = AR tm x := by
 cases x with
 | tmp t => exact h t (by simp [DJ])
 | _ => rfl
theorem Dy {α β : Type} {f g : α → List β} {l : List α} (h : ∀ i ∈ l, f i = g i) : l.flatMap f = l.flatMap g := by
 induction l with
 | nil => rfl
 | cons a l ih => rw [List.flatMap_cons, List.flatMap_cons, h a (by simp), ih (fun i hi => h i (by simp [hi]))]
section
variable {P : Program} {pol : Nat → Nat} {kn kn' : Nat → Option Bool} {o : Oper} {s u : St}
theorem NA {sz : Nat} {H H' : Id → Option V} {y : V} (h : ∀ id p a b c d, y = .own id p a b c d → H' id = H id) : Fb sz H' y = Fb sz H y := by
 cases y <;> (try rfl)
 rename_i id p a b c d
 simp only [Fb, h id p a b c d rfl]
theorem QY (hev : ∀ x ∈ o.op.operands, AR u.tm x = AR s.tm x) (hH : ∀ i ∈ Pm o s, u.H i = s.H i) (hkn : ∀ c x y, o.op = .pick (.tmp c) x y → kn' c = kn c) : C2 P pol kn' o u = C2 P pol kn o s := by
 obtain ⟨dst, op, type, pos, after, guard⟩ := o
 have pairs : ∀ ps : Array (Nat × Operand), (∀ x ∈ ps.toList.map (·.2), AR u.tm x = AR s.tm x) → ∀ p ∈ ps.toList, AR u.tm p.2 = AR s.tm p.2 := fun ps hp p hm => hp _ (List.mem_map.2 ⟨p, hm, rfl⟩)
 cases op <;> simp only [Op.operands] at hev <;> simp only [Pm] at hH <;> simp only [C2]
 case move x => rw [hev x (by simp)]
 case assign x => rw [hev x (by simp)]
 case pick c x y =>
  have h1 := hev c (by simp)
  have h2 := hev x (by simp)
  have h3 := hev y (by simp)
  cases c with
  | tmp c => simp only [AR] at h1; simp only [hkn c x y rfl, h1, h2, h3]
  | _ => rfl
 case alloc => rw [hH _ (by simp)]
 case box e x => rw [hH _ (by simp), hev x (by simp)]
 case build t ps =>
  have hp := pairs ps (fun x hx => hev x (by simpa using hx))
  have e1 : (ps.toList.flatMap fun p => Ap p.2 (AR u.tm p.2)) = ps.toList.flatMap fun p => Ap p.2 (AR s.tm p.2) := Dy fun p hm => by rw [hp p hm]
  have e2 : (ps.toList.map fun p => (p.1, AR u.tm p.2)) = ps.toList.map fun p => (p.1, AR s.tm p.2) := List.map_congr_left fun p hm => by rw [hp p hm]
  rw [e1, e2]
 case buildSlice t n ps =>
  have hp := pairs ps (fun x hx => hev x (by simpa using hx))
  have e2 : (ps.toList.map fun p => (p.1, A7 (AR u.tm p.2))) = ps.toList.map fun p => (p.1, A7 (AR s.tm p.2)) := List.map_congr_left fun p hm => by rw [hp p hm]
  have e3 : (ps.toList.map fun p => (p.1, AR u.tm p.2)) = ps.toList.map fun p => (p.1, AR s.tm p.2) := List.map_congr_left fun p hm => by rw [hp p hm]
  have e4 : (ps.toList.flatMap fun p => Ap p.2 (AR u.tm p.2)) = ps.toList.flatMap fun p => Ap p.2 (AR s.tm p.2) := Dy fun p hm => by rw [hp p hm]
  rw [e2, e3, e4]
 case load t x =>
  rw [hev x (by simp)]
  cases hx : AR s.tm x <;> (try rfl)
  rename_i id p
  rw [hx] at hH
  have e := hH id (by simp)
  have e' := hH (.loc (dst.getD 0) 0) (by simp)
  simp only [e, Fm, e']
 case store t x y =>
  rw [hev x (by simp), hev y (by simp)]
  cases hx : AR s.tm x <;> (try rfl)
  rename_i id p
  rw [hx] at hH
  have e := hH id (List.mem_singleton.2 rfl)
  simp only [e]
 case nilCheck x => rw [hev x (by simp)]
 case binOp op t x y ty => rw [hev x (by simp), hev y (by simp)]
 case unOp op t x => cases op <;> simp only [] <;> (try rw [hev x (by simp)])
 case convert a b x => rw [hev x (by simp)]
 case makeInterface t x => rw [hev x (by simp)]
 case makeFunc f first cap =>
  cases f <;> simp only []
  have e2 : (cap.toList.map fun x => A7 (AR u.tm x)) = cap.toList.map fun x => A7 (AR s.tm x) := List.map_congr_left fun x hm => by rw [hev x (by simp at hm ⊢; exact .inr hm)]
  have e1 : (cap.toList.all fun x => !(AR u.tm x).agg && (A7 (AR u.tm x)).one) = cap.toList.all fun x => !(AR s.tm x).agg && (A7 (AR s.tm x)).one := by
   rw [Bool.eq_iff_iff, List.all_eq_true, List.all_eq_true]
   constructor <;> intro h x hm <;> have := h x hm <;> rw [hev x (by simp at hm ⊢; exact .inr hm)] at * <;> exact this
  rw [e1, e2]
 case makeSlice t x y => rw [hev x (by simp), hev y (by simp), hH _ (by simp)]
 case slice t x l h m =>
  have hl : l.map (AR u.tm) = l.map (AR s.tm) := by cases l <;> simp; exact hev _ (by simp)
  have hh : h.map (AR u.tm) = h.map (AR s.tm) := by cases h <;> simp; exact hev _ (by simp)
  have hm : m.map (AR u.tm) = m.map (AR s.tm) := by cases m <;> simp; exact hev _ (by simp)
  rw [hev x (by simp), hl, hh, hm]
 case fieldAddr t x j => rw [hev x (by simp)]
 case field t x j => rw [hev x (by simp)]
 case indexAddr t x y => rw [hev x (by simp), hev y (by simp)]
 case index t x y => rw [hev x (by simp), hev y (by simp)]
 case extract x j => rw [hev x (by simp)]
 case call c =>
  have hargs : (c.args.toList.map fun x => AR u.tm x) = c.args.toList.map fun x => AR s.tm x := List.map_congr_left fun x hm => hev x (by simp only [Call.operands, Array.mem_append]; exact .inr (by simpa using hm))
  cases hc : c.callee with
  | builtin b =>
    simp only [hargs]
    cases hl : c.args.toList with
    | nil => cases b <;> rfl
    | cons x l =>
      cases l with
      | nil => cases b <;> rfl
      | cons y l =>
        cases l with
        | cons z l => cases b <;> rfl
        | nil =>
          rw [hl] at hH
          cases b <;> (try rfl)
          simp only [List.map_cons, List.map_nil, E7, M6, J3]
          have hxe : AR u.tm x = AR s.tm x := by rw [hl] at hargs; simp only [List.map_cons, List.cons.injEq] at hargs; exact hargs.1
          have hye : AR u.tm y = AR s.tm y := by rw [hl] at hargs; simp only [List.map_cons, List.cons.injEq] at hargs; exact hargs.2.1
          have e : ∀ sz, Fb sz u.H (AR s.tm y) = Fb sz s.H (AR s.tm y) := fun sz => NA fun id p a b c d he => by simp only [he] at hH; exact hH id (List.mem_singleton.2 rfl)
          have e2 : ∀ sz, K6 sz u.H (AR s.tm y) = K6 sz s.H (AR s.tm y) := fun sz => by
           cases hy : AR s.tm y <;> first | rfl | (have h3 := e sz; rw [hy] at h3; exact h3)
          simp only [e, e2, hxe, hye]
  | _ => rfl
theorem Dk {tm tm' : Nat → V} : ∀ (l : List Nat) {t : Nat}, tm' t = tm t → takes tm' l t = takes tm l t := by
 intro l
 induction l generalizing tm tm' with
 | nil => intro t h; exact h
 | cons a l ih =>
   intro t h
   refine ih ?_
   by_cases e : t = a
   · subst e; rw [BN, BN, h]
   · rw [Bm _ _ e, Bm _ _ e, h]
theorem Eu {tm : Nat → V} : ∀ (l : List Nat) {t : Nat}, t ∉ l → takes tm l t = tm t := by
 intro l
 induction l generalizing tm with
 | nil => intro t _; rfl
 | cons a l ih =>
   intro t h
   rw [takes, ih (fun h' => h (by simp [h'])), Bm _ _ (fun e => h (by simp [e]))]
theorem Ck {t : Nat} {l : List Nat} (h : t ∉ l) : EY t l = false := by
 cases hh : EY t l
 · rfl
 · exact absurd (BO.1 hh) h
theorem GF {t : Id} {l : List Id} (h : t ∉ l) : Cl t l = false := by
 cases hh : Cl t l
 · rfl
 · exact absurd (Bp.1 hh) h
theorem Ja {gs : List Nat} {e : FF} (ht : ∀ t ∈ e.take, u.tm t = s.tm t) : BK o u e = over u (BK o s e) (E0 pol gs o s e) := by
 have ext : ∀ u v : St, u.tm = v.tm → u.H = v.H → u = v := by intro u v; cases u; cases v; simp_all
 refine ext _ _ (funext fun t => ?_) (funext fun i => ?_)
 · simp only [over, E0]
   cases hd : o.dst with
   | none =>
     simp only [List.nil_append]
     by_cases hm : t ∈ e.take
     · rw [BO.2 hm, cond_true]
       simp only [BK, hd]
       exact Dk _ (ht t hm)
     · rw [Ck hm, cond_false]
       simp only [BK, hd]
       exact Eu _ hm
   | some d =>
     by_cases hm : t ∈ [d] ++ e.take
     · rw [BO.2 hm, cond_true]
       simp only [BK, hd]
       by_cases hdt : t = d
       · subst hdt; rw [BN, BN]
       · rw [Bm _ _ hdt, Bm _ _ hdt]
         exact Dk _ (ht t (by simpa [hdt] using hm))
     · rw [Ck hm, cond_false]
       simp only [List.cons_append, List.nil_append, List.mem_cons, not_or] at hm
       simp only [BK, hd]
       rw [Bm _ _ hm.1]
       exact Eu _ hm.2
 · have one : ∀ (id : Id) (c : V), Bu u.H id (some c) i = cond (Cl i [id]) (Bu s.H id (some c) i) (u.H i) := by
    intro id c
    by_cases hi : i = id
    · subst hi; rw [BE, Bp.2 (by simp), cond_true, BE]
    · rw [Bj _ _ hi, GF (by simpa using hi), cond_false]
   simp only [over, E0, BK]
   cases htg : e.Jr with
   | none =>
     cases hn : e.new with
     | none => rfl
     | some p => obtain ⟨id, c⟩ := p; exact one id c
   | some p =>
     obtain ⟨id, c⟩ := p
     cases c with
     | none =>
       cases hn : e.new with
       | none => rfl
       | some p => obtain ⟨id', c⟩ := p; exact one id' c
     | some c =>
       cases hn : e.new with
       | none => exact one id c
       | some p =>
         obtain ⟨id', c'⟩ := p
         show Bu (Bu u.H id (some c)) id' (some c') i = cond (Cl i [id, id']) (Bu (Bu s.H id (some c)) id' (some c') i) (u.H i)
         by_cases hi : i = id'
         · subst hi; rw [BE, Bp.2 (by simp), cond_true, BE]
         · rw [Bj _ _ hi, Bj _ _ hi, one id c]
           by_cases hi2 : i = id
           · subst hi2; rw [Bp.2 (by simp), Bp.2 (by simp)]
           · rw [GF (by simpa using hi2), GF (by simp [hi, hi2])]
def Inv (Γ : Ctx) (nt : Nat) (s : St) (a : Act) (w : World) : Prop := a.tmps.size = nt ∧ Conc Γ s a w
theorem Ht (a : Act) (d : Option Tmp) (v : Value) : (a.put d v).tmps.size = a.tmps.size := by
 cases d <;> simp [Act.put]
def FB (ops : Array Oper) (nt : Nat) (Γ : Ctx) (s : St) (o : Oper) (gs : List Nat) (b : Bool) : Prop :=
 ∀ (u : St) (a : Act) (w : World), (∀ t ∈ gs, u.tm t = s.tm t) → Inv Γ nt u a w → Region.wanted o (yielded ops a.tmps) = b
theorem NJ {ops : Array Oper} {nt : Nat} {Γ : Ctx} (h : o.guard = none) : FB ops nt Γ s o [] true := by
 intro u a w _ _; simp [Region.wanted, h]
theorem QE {ops : Array Oper} {nt : Nat} {Γ : Ctx} {j d : Nat} {want v : Bool} (h : o.guard = some (j, want)) (hd : (ops[j]?).bind (·.dst) = some d) (hv : s.tm d = .bool v) : FB ops nt Γ s o [d] (v == want) := by
 rintro u a w hu ⟨_, _, F, ρ, fam, hm, hs⟩
 have h1 := hs.tm d
 rw [hu d (by simp), hv] at h1
 have h2 := DX h1
 have h3 : a.tmps[d]? = some (.bool v) := by
  rw [Array.getD_eq_getD_getElem?] at h2
  cases hh : a.tmps[d]? with
  | none => rw [hh] at h2; exact absurd h2 (by simp [Go.undef])
  | some x => rw [hh] at h2; simp at h2; rw [h2]
 simp only [Region.wanted, h, yielded, hd, Option.bind_some, h3]
 cases v <;> cases want <;> rfl
theorem NI {ops : Array Oper} {nt : Nat} {Γ : Ctx} {j d : Nat} {want : Bool} (h : o.guard = some (j, want)) (hd : (ops[j]?).bind (·.dst) = some d) (hv : s.tm d = .CC .unit) : FB ops nt Γ s o [d] false := by
 rintro u a w hu ⟨_, _, F, ρ, fam, hm, hs⟩
 have h1 := hs.tm d
 rw [hu d (by simp), hv] at h1
 obtain ⟨vs, h2, h4⟩ := h1
 have h3 : yielded ops a.tmps j = none := by
  simp only [yielded, hd, Option.bind_some]
  rw [Array.getD_eq_getD_getElem?] at h2
  cases hh : a.tmps[d]? with
  | none => rfl
  | some x => rw [hh] at h2; simp only [Option.getD_some] at h2; rw [h2]
 simp only [Region.wanted, h, h3]
 rfl
theorem Fa : ∀ x : V, x.AP.AP = x.AP := by
 intro x
 induction x with
 | cons x r hx hr => simp only [V.AP, hx, hr]
 | arr s n get ih => simp only [V.AP, ih]
 | CC x ih => simp only [V.AP, ih]
 | fn f c ih => simp only [V.AP, ih]
 | iface t x ih => simp only [V.AP, ih]
 | _ => rfl
theorem GC : ∀ (x : V) (j : Nat), x.AP.nth j = (x.nth j).map V.AP := by
 intro x
 induction x with
 | cons a r _ ih =>
   intro j
   cases j with
   | zero => rfl
   | succ j => exact ih j
 | _ => intro j; cases j <;> rfl
theorem LW : ∀ (x : V) (j : Nat), x.AP.Dx j = x.Dx j := by
 intro x
 induction x with
 | cons a r _ ih =>
   intro j
   cases j with
   | zero => rfl
   | succ j => simp only [V.AP, V.Dx, V.FP, ih]
 | _ => intro j; cases j <;> rfl
theorem Kd : ∀ (p : List Bv) (x : V), x.AP.ES p = (x.ES p).map V.AP := by
 intro p
 induction p with
 | nil => intro x; rfl
 | cons s p ih =>
   intro x
   cases s with
   | CI j d =>
     simp only [V.ES, LW, GC]
     cases Nat.beq (x.Dx j) d
     · rfl
     · simp only [cond_true]
       cases x.nth j with
       | none => rfl
       | some y => exact ih y
   | idx s' n' i =>
     cases x with
     | arr s n get =>
       simp only [V.AP, V.ES]
       cases Nat.beq s s'
       · rfl
       · exact ih _
     | _ => rfl
theorem Kq : ∀ (p : List Bv) (x : V), x.AP.fit p = x.fit p := by
 intro p
 induction p with
 | nil => intro x; rfl
 | cons s p ih =>
   intro x
   cases s with
   | CI j d =>
     simp only [V.fit, GC]
     cases x.nth j with
     | none => rfl
     | some y => exact ih y
   | idx s' n' i =>
     cases x with
     | arr s n get => simp only [V.AP, V.fit, ih]
     | _ => rfl
theorem HM (x : V) : A7 x = x.AP := by
 unfold A7
 cases h : x.B9
 · rw [cond_false, HL h]
 · rfl
theorem JW {t : TypeId} {x : V} (h : x.AP.one = true) : fits P t x.AP = fits P t x ∧ x.one = true := by
 have h1 : x.one = true := by cases x <;> simp_all [V.AP, V.one]
 have h2 : x.AP.agg = x.agg := by cases x <;> simp_all [V.AP, V.agg, V.one]
 unfold fits
 rw [V.FP, h2, h, h1]
 exact ⟨rfl, rfl⟩
theorem SF {e : FF} (h : C2 P pol kn o s = some e) (hp : DC pol o e = true) (hev : ∀ x ∈ o.op.operands, AR u.tm x = AR s.tm x)
 (hD : ∀ i ∈ (match e.Jr with | some (id, _) => [id] | none => []), HQ (u.H i) (s.H i)) : C2 P pol kn' o u = some e := by
 obtain ⟨dst, op, type, pos, after, guard⟩ := o
 cases op <;> (try (simp only [DC] at hp; cases hp))
 rename_i t x
 simp only [C2] at h ⊢
 rw [hev x (by simp [Op.operands])]
 split at h <;> (try cases h)
 · rename_i id p hx
   split at h <;> (try cases h)
   rename_i c hc
   split at h <;> (try cases h)
   rename_i y hy
   obtain ⟨hf, h⟩ := AL h
   have hp0 : Nat.beq (pol (dst.getD 0)) 1 = false := by
    simp only [DC] at hp
    split at hp
    · simpa using hp
    · cases hp
   cases hpol : (Nat.beq (pol (dst.getD 0)) 1 && y.B9)
   · rw [hpol, cond_false] at h
     have key : ∀ {z : V}, y = z → (match z with | .Ai _ _ => False | .A4 _ _ _ _ _ => False | _ => True) → e = { need := c.fit p, res := A7 y, Jr := some (id, none) } →
      (match u.H id with
        | some c => match c.ES p with
          | some x => cond (fits P t x) (cond (Nat.beq (pol (dst.getD 0)) 1 && x.B9) (match c.put p x.AP with
             | some c' => some { need := c.fit p, res := x, Jr := some (id, some c') }
             | none => none) (match x with
             | .Ai nil z => Fm u.H c id p (dst.getD 0) (c.fit p && !nil) (.ptr (.loc (dst.getD 0) 0) []) (.ptr (.loc (dst.getD 0) 0) []) z
             | .A4 e sz nil n get => Fm u.H c id p (dst.getD 0) (c.fit p) (.Bl (.loc (dst.getD 0) 0) e sz nil n) (.own (.loc (dst.getD 0) 0) [] sz n 0 n) (.arr sz n get)
             | x => some { need := c.fit p, res := A7 x, Jr := some (id, none) })) none
          | none => none
        | none => none) = some e := by
      intro z hz hno he
      subst he
      have hs : HQ (u.H id) (s.H id) := hD id (by simp)
      rw [hc] at hs
      obtain ⟨c2, hc2, hd⟩ : ∃ c2, u.H id = some c2 ∧ c2.AP = c.AP := by
       unfold HQ at hs
       cases hu : u.H id with
       | none => rw [hu] at hs; cases hs
       | some c2 => rw [hu] at hs; exact ⟨c2, rfl, Option.some.inj hs⟩
      rw [hc2]
      have hn := Kd p c2
      rw [hd, Kd p c, hy] at hn
      obtain ⟨y2, hy2, hyd⟩ : ∃ y2, c2.ES p = some y2 ∧ y2.AP = y.AP := by
       cases hu : c2.ES p with
       | none => rw [hu] at hn; cases hn
       | some y2 => rw [hu] at hn; exact ⟨y2, rfl, (Option.some.inj hn).symm⟩
      simp only [hy2]
      have hfit : c2.fit p = c.fit p := by rw [← Kq p c2, hd, Kq]
      have hone : y.AP.one = true := by
       have h1 : y.one = true := by
        unfold fits at hf
        split at hf
        · simp only [Bool.and_eq_true] at hf; exact hf.1
        · cases hf
       subst hz
       cases y <;> first | exact hno.elim | (simp_all [V.AP, V.one])
      have hf2 : fits P t y2 = true := by
       rw [← (JW (P := P) (t := t) (x := y2) (by rw [hyd]; exact hone)).1, hyd, (JW (P := P) (t := t) (x := y) hone).1]; exact hf
      have hpl : (Nat.beq (pol (dst.getD 0)) 1 && y2.B9) = false := by rw [hp0, Bool.false_and]
      rw [hf2, hpl, cond_true, cond_false]
      have hno2 : ∀ nil z, y2 ≠ .Ai nil z := fun nil z h => by rw [h] at hyd; simp only [V.AP] at hyd; rw [← hyd] at hone; cases hone
      have hno3 : ∀ e s nil n g, y2 ≠ .A4 e s nil n g := fun e s nil n g h => by rw [h] at hyd; simp only [V.AP] at hyd; rw [← hyd] at hone; cases hone
      have hres : A7 y2 = A7 y := by rw [HM, HM, hyd]
      cases y2 <;> first | exact absurd rfl (hno2 _ _) | exact absurd rfl (hno3 _ _ _ _ _) | (simp only [hfit, hres])
     cases y with
     | Ai nil z =>
       simp only [Fm] at h
       split at h <;> (try cases h)
       simp [DC] at hp
     | A4 e0 sz nil n get =>
       simp only [Fm] at h
       split at h <;> (try cases h)
       simp [DC] at hp
     | _ => exact key rfl trivial (Option.some.inj h).symm
   · rw [hp0, Bool.false_and] at hpol; cases hpol
 · obtain ⟨_, h⟩ := AL h
   cases h
   simp [DC] at hp
theorem Tl {e : FF} {kn2 : Nat → Option Bool} (h : C2 P pol kn o s = some e) (hp : Ez o e = true) (hT : ∀ t ∈ Db o, DK (u.tm t) (s.tm t)) : C2 P pol kn2 o u = some e := by
 obtain ⟨dst, op, type, pos, after, guard⟩ := o
 cases op <;> (try (simp only [Ez] at hp; cases hp))
 rename_i x j
 simp only [C2] at h ⊢
 have hx : DK (AR u.tm x) (AR s.tm x) := by
  cases x with
  | tmp t => exact hT t (by simp [Db, Op.operands, DJ])
  | _ => exact DK.refl _
 split at h <;> (try cases h)
 rename_i y hy
 split at h <;> (try cases h)
 rename_i z hz
 rw [hy] at hx
 cases hu : AR u.tm x <;> (rw [hu] at hx; unfold DK at hx; simp only [V.AP] at hx; try cases hx)
 rename_i y2
 have hx : y2.AP = y.AP := by simpa using hx
 have hn := GC y2 j
 rw [hx, GC y j, hz] at hn
 have hfirm : e.res.Jm = true := by
  unfold Ez at hp
  split at hp
  · exact hp
  · cases hp
 cases ho : z.C0
 · rw [ho, cond_false] at h
   cases h
   cases hz2 : y2.nth j with
   | none => rw [hz2] at hn; cases hn
   | some z2 =>
     rw [hz2] at hn
     have hd : z.AP = z2.AP := Option.some.inj hn
     have h2 : z2.C0 = false := Lu (by rw [← hd]; exact hfirm)
     simp only [hz2, h2, cond_false, hd]
 · rw [ho, cond_true] at h
   cases h
   rw [Lu (N4 hfirm)] at ho
   cases ho
theorem Nn {nt : Nat} {Γ : Ctx} {ops : Array Oper} {i : Nat} {e : FF} {gs : List Nat} (ho : ops[i]? = some o) (hg : FB ops nt Γ s o gs true) (hkn : Fy kn s.tm) (h : C2 P pol kn o s = some e) (hsh : KF nt o e = true)
 (htk : (e.take.all fun t => EY t (Db o)) = true) (hn : e.need = true) (hside : ∀ p, e.side = some p → p) : Cx P ops (Inv Γ nt) i s (BK o s e) (E0 pol gs o s e) := by
 intro u a w rest K R hag hI hk
 have hw := hg u a w (fun t ht => hag.tm t (by simp [E0, ht])) hI
 obtain ⟨hsz, hdf, F, ρ, fam, hm, hs⟩ := hI
 obtain ⟨kn', h', hkn', htk'⟩ : ∃ kn', C2 P pol kn' o u = some e ∧ Fy kn' u.tm ∧ ∀ t ∈ e.take, u.tm t = s.tm t := by
  cases hpe : Ez o e
  case true =>
   refine ⟨fun _ => none, Tl h hpe fun t ht => hag.T t (by simp only [E0, hpe, cond_true]; exact ht), (fun t b hb => by cases hb), fun t ht => ?_⟩
   unfold Ez at hpe
   split at hpe
   · rename_i hk; rw [hk] at ht; cases ht
   · cases hpe
  have hslot : ∀ t ∈ Db o, u.tm t = s.tm t := fun t ht => hag.tm t (by simp only [E0, hpe, cond_false]; exact List.mem_append_right _ ht)
  refine ⟨fun t => cond (EY t (Db o)) (kn t) none, ?_, ?_, fun t ht => hslot t (BO.1 (List.all_eq_true.1 htk t ht))⟩
  rotate_left
  · intro t b ht
    by_cases hm : t ∈ Db o
    · simp only [BO.2 hm, cond_true] at ht
      rw [hslot t hm]; exact hkn t b ht
    · simp only [Ck hm, cond_false] at ht; cases ht
  cases hpl : DC pol o e
  case true =>
   refine SF h hpl (fun x hx => Eb fun t ht => hslot t (List.mem_flatMap.2 ⟨x, by simpa using hx, ht⟩)) fun j hj => hag.D j ?_
   simp only [E0, hpl, cond_true]; exact hj
  have hH : ∀ j ∈ Pm o s, u.H j = s.H j := fun j hj => hag.H j (by simp only [E0, hpl, cond_false]; exact hj)
  rw [← h]
  refine QY (fun x hx => Eb fun t ht => hslot t (List.mem_flatMap.2 ⟨x, by simpa using hx, ht⟩)) hH (fun c x y hop => ?_)
  have : c ∈ Db o := by simp [Db, hop, Op.operands, DJ]
  simp only [BO.2 this, cond_true]
 subst hsz
 obtain ⟨nx, v, w', hrun, hnx, F', ρ', fam', hm', hs'⟩ := QX hm hs hsh hkn' h' hn hside
 have hap := Ja (pol := pol) (gs := gs) (o := o) (s := s) (u := u) (e := e) htk'
 have hI' : Inv Γ a.tmps.size (over u (BK o s e) (E0 pol gs o s e)) (a.put o.dst v) w' := by
  rw [← hap]
  refine ⟨Ht _ _ _, ?_, F', ρ', fam', hm', hs'⟩
  rw [← hdf]; cases o.dst <;> rfl
 rcases hnx with rfl | ⟨rfl, rfl⟩
 · exact .Rv ho hw hrun (hk _ _ hI')
 · exact .TO ho hw hrun (hk _ _ hI')
theorem O0 : ∀ {p : List Bv} {c x c' : V}, c.ES p = some x → c.put p x.AP = some c' → c'.AP = c.AP := by
 intro p
 induction p with
 | nil =>
   intro c x c' h1 h2
   simp only [V.ES, Option.some.injEq] at h1
   subst h1
   simp only [V.put] at h2
   obtain ⟨_, h2⟩ := AL h2
   cases h2
   exact Fa _
 | cons s p ih =>
   intro c x c' h1 h2
   cases s with
   | CI j d =>
     simp only [V.ES] at h1
     obtain ⟨hb, h1⟩ := AL h1
     simp only [V.put, hb, cond_true] at h2
     cases hn : c.nth j with
     | none => rw [hn] at h1; cases h1
     | some z =>
       rw [hn] at h1 h2
       simp only at h1 h2
       cases hz : z.put p x.AP with
       | none => rw [hz] at h2; cases h2
       | some z' =>
         rw [hz] at h2
         simp only at h2
         have hd := ih h1 hz
         have key : ∀ (c : V) (j : Nat) (c' : V), c.nth j = some z → c.Ee j z' = some c' → c'.AP = c.AP := by
          intro c
          induction c with
          | cons a r _ ihr =>
            intro j c' h1 h2
            cases j with
            | zero =>
              simp only [V.nth, Option.some.injEq] at h1
              simp only [V.Ee, Option.some.injEq] at h2
              subst h1 h2
              simp only [V.AP, hd]
            | succ j =>
              simp only [V.nth] at h1
              simp only [V.Ee, Option.map_eq_some_iff] at h2
              obtain ⟨r', h3, rfl⟩ := h2
              simp only [V.AP, ihr j r' h1 h3]
          | _ => intro j c' h1; simp [V.nth] at h1
         exact key c j c' hn h2
   | idx s' n' i =>
     cases c with
     | arr s n get =>
       simp only [V.ES] at h1
       obtain ⟨hb, h1⟩ := AL h1
       simp only [V.put, hb, cond_true] at h2
       cases hz : (get i).put p x.AP with
       | none => rw [hz] at h2; cases h2
       | some z' =>
         rw [hz] at h2
         simp only [Option.some.injEq] at h2
         subst h2
         simp only [V.AP]
         congr 1
         funext j
         rw [V.Dg]
         cases hj : Nat.beq j i
         · rfl
         · rw [Nat.eq_of_beq_eq_true hj]; exact ih h1 hz
     | _ => simp [V.ES] at h1
theorem Ll {gs : List Nat} {e : FF} (h : C2 P pol kn o s = some e) : ∀ t ∈ (E0 pol gs o s e).kh, HQ ((BK o s e).H t) (s.H t) := by
 intro t ht
 obtain ⟨dst, op, type, pos, after, guard⟩ := o
 cases op <;> (try (simp [E0] at ht; done))
 rename_i ty x
 simp only [C2] at h
 split at h <;> (try cases h)
 · rename_i id p hx
   split at h <;> (try cases h)
   rename_i c hc
   split at h <;> (try cases h)
   rename_i y hy
   obtain ⟨hf, h⟩ := AL h
   cases hpol : (Nat.beq (pol (dst.getD 0)) 1 && y.B9)
   · rw [hpol, cond_false] at h
     split at h
     · unfold Fm at h
       split at h <;> (try cases h)
       simp [E0] at ht
     · unfold Fm at h
       split at h <;> (try cases h)
       simp [E0] at ht
     · cases h
       simp [E0] at ht
   · rw [hpol, cond_true] at h
     split at h <;> (try cases h)
     rename_i c' hput
     simp only [E0, List.mem_singleton] at ht
     subst ht
     show HQ (Bu s.H t (some c') t) (s.H t)
     rw [BE, hc]
     show some c'.AP = some c.AP
     rw [O0 hy hput]
 · obtain ⟨_, h⟩ := AL h
   cases h
   simp [E0] at ht
theorem KW {gs : List Nat} {e : FF} (h : C2 P pol kn o s = some e) : ∀ t ∈ (E0 pol gs o s e).kt, DK ((BK o s e).tm t) (s.tm t) := by
 intro t ht
 obtain ⟨dst, op, type, pos, after, guard⟩ := o
 cases op <;> (try (simp [E0] at ht; done))
 rename_i x j
 simp only [E0, List.mem_filter] at ht
 obtain ⟨ht, hd⟩ := ht
 simp only [C2] at h
 split at h <;> (try cases h)
 split at h <;> (try cases h)
 rename_i y _ z hz
 cases ho : z.C0
 · rw [ho, cond_false] at h; cases h; cases ht
 · rw [ho, cond_true] at h
   cases h
   cases x <;> simp only [DJ, List.not_mem_nil, List.mem_singleton] at ht
   subst ht
   rename_i d
   have e1 : takes s.tm [t] t = (s.tm t).AP := by simp [takes, BN]
   cases dst with
   | none => show DK (takes s.tm [t] t) _; rw [e1]; exact Fa _
   | some d =>
     have hne : t ≠ d := fun k => by subst k; simp at hd
     show DK (C8 (takes s.tm [t]) d z t) _
     rw [Bm _ _ hne, e1]; exact Fa _
def Ho (o : Oper) (s : St) : St := { s with tm := match o.dst with | some d => C8 s.tm d (.CC .unit) | none => s.tm }
def FQ (gs : List Nat) (o : Oper) : Fx := { rt := gs, rh := [], wt := match o.dst with | some d => [d] | none => [], wh := [] }
theorem QJ {nt : Nat} {Γ : Ctx} {ops : Array Oper} {i : Nat} {gs : List Nat} (ho : ops[i]? = some o) (hg : FB ops nt Γ s o gs false) (hd : EB nt o = true) : Cx P ops (Inv Γ nt) i s (Ho o s) (FQ gs o) := by
 intro u a w rest K R hag hI hk
 have hw := hg u a w hag.tm hI
 obtain ⟨hsz, hdf, F, ρ, fam, hm, hs⟩ := hI
 refine .RO ho hw (hk _ _ ⟨by rw [Ht]; exact hsz, by rw [← hdf]; cases o.dst <;> rfl, F, ρ, ?_⟩)
 cases hdst : o.dst with
 | none =>
   refine ⟨fam, hm, ?_⟩
   have : over u (Ho o s) (FQ gs o) = u := by simp [over, FQ, hdst, EY, Cl]
   rw [this]; exact hs
 | some d =>
   have hlt : d < a.tmps.size := by rw [hsz]; exact Br hd hdst
   have := hs.val [] d hlt (res := .CC .unit) (v := Go.undef) (fr := none_) ⟨[], rfl, by simp [D4, AK]⟩ (AF.Aa _)
   refine ⟨CJ fam [] (some d) none_, hm, ?_⟩
   have e : over u (Ho o s) (FQ gs o) = { tm := C8 (takes u.tm []) d (.CC .unit), H := u.H } := by
    have ext : ∀ u v : St, u.tm = v.tm → u.H = v.H → u = v := by intro u v; cases u; cases v; simp_all
    refine ext _ _ (funext fun t => ?_) (funext fun i => by simp [over, FQ, Cl])
    simp only [over, FQ, Ho, hdst, takes]
    by_cases ht : t = d
    · subst ht; rw [BO.2 (by simp), cond_true, BN, BN]
    · rw [Ck (by simpa using ht), cond_false, Bm _ _ ht]
   rw [e]; exact this
theorem QK {gs : List Nat} : over s (Ho o s) (FQ gs o) = Ho o s := by
 have ext : ∀ u v : St, u.tm = v.tm → u.H = v.H → u = v := by intro u v; cases u; cases v; simp_all
 refine ext _ _ (funext fun t => ?_) (funext fun i => by simp [over, FQ, Ho, Cl])
 simp only [over, FQ, Ho]
 cases o.dst with
 | none => simp [EY]
 | some d =>
   simp only []
   by_cases ht : t = d
   · subst ht; rw [BO.2 (by simp), cond_true]
   · rw [Ck (by simpa using ht), cond_false, Bm _ _ ht]
end
end Go.Vm
end
section
namespace Go.Vm
open Go
def V.kill (id : Id) : V → V
 | .ptr i p => cond (i.same id) .undef (.ptr i p)
 | .own i p s N off len => cond (i.same id) .undef (.own i p s N off len)
 | .Bl i e s nil n => cond (i.same id) .undef (.Bl i e s nil n)
 | .cons x r => .cons (kill id x) (kill id r)
 | .arr s n get => .arr s n fun i => kill id (get i)
 | .CC x => .CC (kill id x)
 | .fn f c => .fn f (kill id c)
 | .iface t x => .iface t (kill id x)
 | .Ai nil x => .Ai nil (kill id x)
 | .A4 e s nil n get => .A4 e s nil n fun i => kill id (get i)
 | x => x
def Names.del (ρ : Names) (id : Id) : Names := fun j => cond (j.same id) none (ρ j)
theorem F7 {i j : Id} (h : i.same j = false) : i ≠ j := fun e => by rw [(Id.Bb i j).2 e] at h; cases h
theorem Names.Ks (ρ : Names) (id : Id) : ρ.del id id = none := by simp [Names.del, (Id.Bb id id).2 rfl]
theorem Names.Eh (ρ : Names) {id j : Id} (h : j ≠ id) : ρ.del id j = ρ j := by
 have : j.same id = false := by
  cases hh : j.same id
  · rfl
  · exact absurd ((Id.Bb j id).1 hh) h
 simp [Names.del, this]
theorem H5 (id : Id) (x : V) : (x.kill id).agg = x.agg := by
 cases x with
 | ptr i p => simp only [V.kill]; cases i.same id <;> rfl
 | own i p s N off len => simp only [V.kill]; cases i.same id <;> rfl
 | Bl i e s nil n => simp only [V.kill]; cases i.same id <;> rfl
 | _ => rfl
section
variable {F : AF} {w : World} {ρ : Names} {id : Id}
theorem Kj : ∀ (x : V) {cs : List Value} {fp : AF}, AK F w ρ x cs fp → AK F w (ρ.del id) (x.kill id) cs fp := by
 intro x
 induction x with
 | undef | int | bool | str | B7 | unit | FX | DW | vp | sl => intro cs fp h; simpa only [AK, V.kill] using h
 | CC => intro cs fp h; simp [AK] at h
 | ptr i p =>
   intro cs fp h
   simp only [AK] at h
   obtain ⟨g, o, h1, h2, rfl⟩ := h
   simp only [V.kill]
   cases hi : i.same id
   · exact ⟨g, o, by rw [Names.Eh _ (F7 hi)]; exact h1, h2, rfl⟩
   · exact ⟨_, rfl, rfl⟩
 | own i p s N off len =>
   intro cs fp h
   simp only [AK] at h
   obtain ⟨g, o, c, A, h1, h2, rfl, h4⟩ := h
   simp only [V.kill]
   cases hi : i.same id
   · exact ⟨g, o, c, A, by rw [Names.Eh _ (F7 hi)]; exact h1, h2, rfl, h4⟩
   · exact ⟨_, rfl, rfl⟩
 | Bl i e s nil n =>
   intro cs fp h
   simp only [AK] at h
   obtain ⟨g, o, A, c, h1, rfl, h4⟩ := h
   simp only [V.kill]
   cases hi : i.same id
   · exact ⟨g, o, A, c, by rw [Names.Eh _ (F7 hi)]; exact h1, rfl, h4⟩
   · exact ⟨_, rfl, rfl⟩
 | cons x r hx hr =>
   intro cs fp h
   simp only [AK, V.kill] at h ⊢
   obtain ⟨a, b, fa, fb, h1, h2, h3, h4⟩ := h
   exact ⟨a, b, fa, fb, h1, hx h2, hr h3, h4⟩
 | arr s n get ih =>
   intro cs fp h
   simp only [AK, V.kill] at h ⊢
   obtain ⟨f, fs, h1, h2, h3⟩ := h
   exact ⟨f, fs, fun i hi => ⟨(h1 i hi).1, ih i (h1 i hi).2.1, (h1 i hi).2.2⟩, h2, h3⟩
 | fn f c ih => intro cs fp h; simp only [AK, V.kill] at h ⊢; obtain ⟨xs, h1, h2⟩ := h; exact ⟨xs, h1, ih h2⟩
 | iface t x ih =>
   intro cs fp h
   simp only [AK, V.kill] at h ⊢
   obtain ⟨xs, v, h1, h2, h3, h4⟩ := h
   exact ⟨xs, v, h1, ih h2, by rw [H5]; exact h3, by rw [H5]; exact h4⟩
 | Ai nil x ih =>
   intro cs fp h
   simp only [AK, V.kill] at h ⊢
   obtain ⟨A, h1, h2, h3⟩ := h
   refine ⟨A, h1, h2, fun hn => ?_⟩
   obtain ⟨g, o, xs, f, k1, k2, k3⟩ := h3 hn
   exact ⟨g, o, xs, f, k1, ih k2, k3⟩
 | A4 e s nil n get ih =>
   intro cs fp h
   simp only [AK, V.kill] at h ⊢
   obtain ⟨A, c, h1, h2, h3, h4, h5⟩ := h
   refine ⟨A, c, h1, h2, h3, h4, fun hn => ?_⟩
   obtain ⟨g, o, k1, k2, k3, xs, f, fs, k4, k5, k6, k7⟩ := h5 hn
   exact ⟨g, o, k1, k2, k3, xs, f, fs, k4, k5, fun i hi => ⟨(k6 i hi).1, ih i (k6 i hi).2.1, (k6 i hi).2.2⟩, k7⟩
theorem Fo {x : V} {v : Value} {fp : AF} (h : BI F w ρ x v fp) : BI F w (ρ.del id) (x.kill id) v fp :=
 ⟨fun ha => let ⟨cs, h1, h2⟩ := h.1 (by rwa [H5] at ha); ⟨cs, h1, Kj x h2⟩, fun ha => Kj x (h.2 (by rwa [H5] at ha))⟩
theorem Qs : ∀ {x : V} {vs : List Value} {fp : AF}, D4 F w ρ x vs fp → D4 F w (ρ.del id) (x.kill id) vs fp := by
 intro x
 induction x with
 | cons x r _ ih =>
   intro vs fp h
   simp only [D4, V.kill] at h ⊢
   obtain ⟨v, vs', fa, fb, h1, h2, h3, h4⟩ := h
   exact ⟨v, vs', fa, fb, h1, Fo h2, ih h3, h4⟩
 | unit => intro vs fp h; exact h
 | _ => intro vs fp h; exact h.elim
theorem G6 {x : V} {v : Value} {fp : AF} (h : Al F w ρ x v fp) : Al F w (ρ.del id) (x.kill id) v fp := by
 cases x with
 | undef => trivial
 | CC y => obtain ⟨vs, h1, h2⟩ := h; exact ⟨vs, h1, Qs h2⟩
 | ptr i p =>
   have := Fo (id := id) (x := .ptr i p) h
   simp only [V.kill] at this ⊢
   cases hi : i.same id <;> rw [hi] at this
   · exact this
   · trivial
 | own i p s N off len =>
   have := Fo (id := id) (x := .own i p s N off len) h
   simp only [V.kill] at this ⊢
   cases hi : i.same id <;> rw [hi] at this
   · exact this
   · trivial
 | Bl i e s nil n =>
   have := Fo (id := id) (x := .Bl i e s nil n) h
   simp only [V.kill] at this ⊢
   cases hi : i.same id <;> rw [hi] at this
   · exact this
   · trivial
 | _ => exact Fo h
theorem G7 {a : Nat × Nat} {x : V} {fp : AF} (h : CA F w ρ a x fp) : CA F w (ρ.del id) a (x.kill id) fp := by
 obtain ⟨xs, f, h1, h2⟩ := h
 exact ⟨xs, f, Kj x h1, h2⟩
end
def JA (H : Id → Option V) (id : Id) : Id → Option V := fun j => cond (j.same id) none ((H j).map (V.kill id))
theorem W5 (H : Id → Option V) (id : Id) : JA H id id = none := by simp [JA, (Id.Bb id id).2 rfl]
theorem HC (H : Id → Option V) {id j : Id} (h : j ≠ id) : JA H id j = (H j).map (V.kill id) := by
 have : j.same id = false := by
  cases hh : j.same id
  · rfl
  · exact absurd ((Id.Bb j id).1 hh) h
 simp [JA, this]
section
variable {Γ : Ctx} {F : AF} {w : World} {ρ : Names} {fam : Et} {s : St} {vs : Array Value} {id id2 : Id} {r r2 : Nat × Nat} {c' z : V}
open Classical in
theorem Ac.Ss (h : Ac Γ F w ρ fam s vs) (hloc : ∀ i, .par i ≠ id2) (hne : id ≠ id2) (hr : ρ id = some r) (h1 : CA F w ρ r c' ((fam (.b id)).or (fam (.b id2)))) :
 Ac Γ F w (ρ.del id2) (fun i => if i = .b id2 then none_ else if i = .b id then (fam (.b id)).or (fam (.b id2)) else fam i) { tm := fun t => (s.tm t).kill id2, H := JA (Bu s.H id (some c')) id2 } vs := by
 refine h.re (G := fun i j => i ≠ .b id2 ∧ (j = i ∨ i = .b id ∧ j = .b id2)) ⟨fun i g o hi => ?_, fun i i' j hii hj hj' => ?_⟩ (fun t => ?_) (fun i => ?_) (fun i x r' hx hr' => ?_) (fun i => (Names.Eh _ (hloc i)).trans (h.pn i))
 · by_cases e : i = .b id2
   · simp only [e, if_true] at hi; exact hi.elim
   · by_cases e' : i = .b id
     · subst e'
       simp only [e, if_false, if_true] at hi
       rcases hi with hi | hi
       · exact ⟨_, ⟨e, .inl rfl⟩, hi⟩
       · exact ⟨_, ⟨e, .inr ⟨rfl, rfl⟩⟩, hi⟩
     · simp only [e, e', if_false] at hi
       exact ⟨_, ⟨e, .inl rfl⟩, hi⟩
 · obtain ⟨n1, hj⟩ := hj
   obtain ⟨n2, hj'⟩ := hj'
   rcases hj with rfl | ⟨rfl, rfl⟩
   · rcases hj' with rfl | ⟨_, rfl⟩
     · exact absurd rfl hii
     · exact absurd rfl n1
   · rcases hj' with e | ⟨e, _⟩
     · exact absurd e.symm n2
     · exact absurd e.symm hii
 · exact (G6 (h.tm t)).mono (by simp only [reduceCtorEq, if_false]; exact AF.Sub.refl _)
 · show JA (Bu s.H id (some c')) id2 i = none ↔ _
   by_cases e : i = id2
   · subst e; rw [W5, Names.Ks]; simp
   · rw [HC _ e, Names.Eh _ e, Option.map_eq_none_iff]
     by_cases e' : i = id
     · subst e'; rw [BE, hr]; simp
     · rw [Bj _ _ e']; exact h.nm i
 · have hx : JA (Bu s.H id (some c')) id2 i = some x := hx
   by_cases e : i = id2
   · subst e; rw [W5] at hx; cases hx
   · rw [HC _ e, Option.map_eq_some_iff] at hx
     obtain ⟨y, hy, rfl⟩ := hx
     rw [Names.Eh _ e] at hr'
     have e2 : ¬ (Ix.b i = Ix.b id2) := fun h => e (by cases h; rfl)
     by_cases e' : i = id
     · subst e'
       rw [BE] at hy
       obtain rfl := Option.some.inj hy
       rw [hr] at hr'
       obtain rfl := Option.some.inj hr'
       simp only [e2, if_false, if_true]
       exact G7 h1
     · rw [Bj _ _ e'] at hy
       have e3 : ¬ (Ix.b i = Ix.b id) := fun h => e' (by cases h; rfl)
       simp only [e2, e3, if_false]
       exact G7 (h.bl i y r' hy hr')
open Classical in
theorem Ac.Ty (h : Ac Γ F w ρ fam s vs) {t : Nat} (hloc : ∀ i, .par i ≠ id2) (h1 : Al F w ρ c' (vs.getD t Go.undef) ((fam (.t t)).or (fam (.b id2)))) :
 Ac Γ F w (ρ.del id2) (fun i => if i = .b id2 then none_ else if i = .t t then (fam (.t t)).or (fam (.b id2)) else fam i) { tm := fun u => (C8 s.tm t c' u).kill id2, H := JA s.H id2 } vs := by
 refine h.re (G := fun i j => i ≠ .b id2 ∧ (j = i ∨ i = .t t ∧ j = .b id2)) ⟨fun i g o hi => ?_, fun i i' j hii hj hj' => ?_⟩ (fun u => ?_) (fun i => ?_) (fun i x r' hx hr' => ?_) (fun i => (Names.Eh _ (hloc i)).trans (h.pn i))
 · by_cases e : i = .b id2
   · simp only [e, if_true] at hi; exact hi.elim
   · by_cases e' : i = .t t
     · subst e'
       simp only [e, if_false, if_true] at hi
       rcases hi with hi | hi
       · exact ⟨_, ⟨e, .inl rfl⟩, hi⟩
       · exact ⟨_, ⟨e, .inr ⟨rfl, rfl⟩⟩, hi⟩
     · simp only [e, e', if_false] at hi
       exact ⟨_, ⟨e, .inl rfl⟩, hi⟩
 · obtain ⟨n1, hj⟩ := hj
   obtain ⟨n2, hj'⟩ := hj'
   rcases hj with rfl | ⟨rfl, rfl⟩
   · rcases hj' with rfl | ⟨_, rfl⟩
     · exact absurd rfl hii
     · exact absurd rfl n1
   · rcases hj' with e | ⟨e, _⟩
     · exact absurd e.symm n2
     · exact absurd e.symm hii
 · show Al F w (ρ.del id2) ((C8 s.tm t c' u).kill id2) _ _
   by_cases e : u = t
   · subst e
     rw [BN]
     exact (G6 h1).mono (by simp only [reduceCtorEq, if_false, if_true]; exact AF.Sub.refl _)
   · rw [Bm _ _ e]
     have e' : ¬ (Ix.t u = Ix.t t) := fun h => e (by cases h; rfl)
     exact (G6 (h.tm u)).mono (by simp only [reduceCtorEq, e', if_false]; exact AF.Sub.refl _)
 · show JA s.H id2 i = none ↔ _
   by_cases e : i = id2
   · subst e; rw [W5, Names.Ks]; simp
   · rw [HC _ e, Names.Eh _ e, Option.map_eq_none_iff]; exact h.nm i
 · have hx : JA s.H id2 i = some x := hx
   by_cases e : i = id2
   · subst e; rw [W5] at hx; cases hx
   · rw [HC _ e, Option.map_eq_some_iff] at hx
     obtain ⟨y, hy, rfl⟩ := hx
     rw [Names.Eh _ e] at hr'
     have e2 : ¬ (Ix.b i = Ix.b id2) := fun h => e (by cases h; rfl)
     simp only [e2, reduceCtorEq, if_false]
     exact G7 (h.bl i y r' hy hr')
end
end Go.Vm
end
section
namespace Go.Vm
open Go
structure Rec where
 id : Id
 owner : Id
 path : List Bv
 arr : Option (Nat × Nat × Nat × (Nat → V))
 orig : Option V
inductive Hint where
 | close (id : Id)
 | drop (id : Id)
 | shut (t : Nat)
 | open_ (t : Nat)
 | Ir (id : Id) (p : List Bv) (d : Nat)
 | Ud (id : Id) (p : List Bv)
 | PG (t : Nat)
 | back (id : Id)
 | Qf (t : Nat)
def Hint.Pv : Hint → Bool
 | .Ud _ _ | .PG _ => true
 | _ => false
def Ej : List Bv → Bool
 | [] => true
 | .CI _ _ :: p => Ej p
 | .idx _ n i :: p => Nat.blt i n && Ej p
def Id.Cg : Id → Bool
 | .loc _ _ => true
 | .par _ => false
def Gq (s : St) (id : Id) (t : Nat → V) (H : Id → Option V) : St := { tm := fun u => (t u).kill id, H := JA H id }
def V.C8 : V → List Bv → V → Option V
 | _, [], y => some y
 | x, .CI j d :: p, y => cond (Nat.beq (x.Dx j) d) (match x.nth j with
    | some z => match C8 z p y with
      | some z' => x.Ee j z'
      | none => none
    | none => none) none
 | .arr s n get, .idx s' _ i :: p, y => cond (Nat.beq s s') (match C8 (get i) p y with
    | some z => some (.arr s n fun j => mix (Nat.beq j i) z (get j))
    | none => none) none
 | _, .idx _ _ _ :: _, _ => none
abbrev Sz := Option (Bool × Option Prop × St)
def GM (id : Id) (z : V) : V → Option (Bool × V)
 | .ptr i [] => cond (i.same id) (some (true, .Ai false z)) none
 | .Bl i e s nil n => match z with
   | .arr s' n' get => cond (i.same id && Nat.beq s s') (some (Nat.beq n n', .A4 e s nil n get)) none
   | _ => none
 | _ => none
def Mo : List Rec → Id → Option Rec
 | [], _ => none
 | r :: l, id => cond (r.id.same id) (some r) (Mo l id)
def GN (s : St) (id : Id) (z : V) (r : Rec) : Sz :=
 match s.H r.owner with
 | none => none
 | some c => cond (!(r.owner.same id)) (match r.arr with
   | none => match c.ES r.path with
     | some y => match GM id z y with
       | some (b, y') => match c.put r.path y' with
         | some c' => some ((Ej r.path && c.fit r.path) && b, none, Gq s id s.tm (Bu s.H r.owner (some c')))
         | none => none
       | none => none
     | none => none
   | some (sz, n, i, get0) => match c.ES r.path with
     | some (.arr sz' n' g) => cond (Nat.beq sz sz') (match c.C8 r.path (.arr sz n fun j => V.mix (Nat.beq j i) (.Ai false z) (get0 j)) with
        | some c' => some ((Ej r.path && c.fit r.path) && (Nat.beq n n' && Nat.blt i n), some (g = fun j => V.mix (Nat.beq j i) (.ptr id []) (get0 j)), Gq s id s.tm (Bu s.H r.owner (some c')))
        | none => none) none
     | _ => none) none
def P3 (s : St) (id : Id) (z : V) (r : Rec) : Sz :=
 match r.orig, s.H r.owner with
 | some (.Ai nil0 z0), some c => cond (!(r.owner.same id)) (match r.arr, c.ES r.path with
   | none, some (.ptr i []) => cond (i.same id) (match c.put r.path (.Ai nil0 z0) with
      | some c' => some ((Ej r.path && c.fit r.path) && !nil0, some (z = z0), Gq s id s.tm (Bu s.H r.owner (some c')))
      | none => none) none
   | some (sz, n, i, get0), some (.arr sz' n' g) => cond (Nat.beq sz sz') (match c.C8 r.path (.arr sz n get0) with
      | some c' => some ((Ej r.path && c.fit r.path) && ((Nat.beq n n' && Nat.blt i n) && !nil0), some ((g = fun j => V.mix (Nat.beq j i) (.ptr id []) (get0 j)) ∧ (z = z0 ∧ get0 i = .Ai nil0 z0)), Gq s id s.tm (Bu s.H r.owner (some c')))
      | none => none) none
   | _, _ => none) none
 | _, _ => GN s id z r
def DY (s : St) (l : List Rec) : Hint → Sz
 | .close id => match s.H id with
   | none => some (true, none, s)
   | some z => match Mo l id with
     | some r => cond id.Cg (GN s id z r) none
     | none => none
 | .back id => match s.H id with
   | none => some (true, none, s)
   | some z => match Mo l id with
     | some r => cond id.Cg (P3 s id z r) none
     | none => none
 | .drop id => match s.H id with
   | none => some (true, none, s)
   | some _ => cond id.Cg (some (true, none, Gq s id s.tm s.H)) none
 | .shut t => match s.tm t with
   | .ptr id [] => match s.H id with
     | some z => match GM id z (s.tm t) with
       | some (b, y) => cond id.Cg (some (b, none, Gq s id (C8 s.tm t y) s.H)) none
       | none => none
     | none => none
   | .Bl id _ _ _ _ => match s.H id with
     | some z => match GM id z (s.tm t) with
       | some (b, y) => cond id.Cg (some (b, none, Gq s id (C8 s.tm t y) s.H)) none
       | none => none
     | none => none
   | _ => some (true, none, s)
 | .open_ t => match s.tm t with
   | .Ai nil z => match s.H (.loc t 1) with
     | some _ => none
     | none => some (!nil, none, { tm := C8 s.tm t (.ptr (.loc t 1) []), H := Bu s.H (.loc t 1) (some z) })
   | .A4 e sz nil n get => match s.H (.loc t 1) with
     | some _ => none
     | none => some (true, none, { tm := C8 s.tm t (.Bl (.loc t 1) e sz nil n), H := Bu s.H (.loc t 1) (some (.arr sz n get)) })
   | _ => some (true, none, s)
 | .Ir id p d => match s.H id with
   | none => some (true, none, s)
   | some c => match c.ES p with
     | some (.A4 e sz nil n get) => match s.H (.loc d 0), c.put p (.Bl (.loc d 0) e sz nil n) with
       | none, some c' => some (Ej p && c.fit p, none, { tm := s.tm, H := Bu (Bu s.H id (some c')) (.loc d 0) (some (.arr sz n get)) })
       | _, _ => none
     | some (.Ai nil z) => match s.H (.loc d 0), c.put p (.ptr (.loc d 0) []) with
       | none, some c' => some ((Ej p && c.fit p) && !nil, none, { tm := s.tm, H := Bu (Bu s.H id (some c')) (.loc d 0) (some z) })
       | _, _ => none
     | _ => some (true, none, s)
 | .Ud id p => match s.H id with
   | none => some (true, none, s)
   | some c => match c.ES p with
     | some (.A4 e sz nil n get) => match c.put p (.sl (some e) sz nil n fun i => (get i).AP) with
       | some c' => some (Ej p && c.fit p, some (∀ i, i < n → (get i).closed = true), { tm := s.tm, H := Bu s.H id (some c') })
       | none => none
     | _ => some (true, none, s)
 | .PG t => match s.tm t with
   | .A4 e sz nil n get => some (true, some (∀ i, i < n → (get i).closed = true), { tm := C8 s.tm t (.sl (some e) sz nil n fun i => (get i).AP), H := s.H })
   | _ => some (true, none, s)
 | .Qf _ => some (true, none, s)
def R5 : Hint → St → Option (Bool × St)
 | .Qf t, s => match s.tm t with
   | .Ai b _ => some (b, { tm := C8 s.tm t .B7, H := s.H })
   | _ => none
 | _, _ => none
section
variable {Γ : Ctx} {F : AF} {w : World} {ρ : Names} {fam : Et} {s : St} {vs : Array Value} {id : Id} {z : V}
theorem Fl : ∀ {p : List Bv}, Ej p = true → Cu p := by
 intro p
 induction p with
 | nil => intro _ s hs; simp at hs
 | cons x p ih =>
   intro h s hs
   cases x with
   | CI j d =>
     rcases List.mem_cons.1 hs with rfl | hs
     · trivial
     · exact ih h s hs
   | idx sz n i =>
     simp only [Ej, Bool.and_eq_true, Nat.blt_eq] at h
     rcases List.mem_cons.1 hs with rfl | hs
     · exact h.1
     · exact ih h.2 s hs
theorem G8 {id : Id} (h : id.Cg = true) : ∀ i, .par i ≠ id := by
 rintro i rfl; cases h
theorem L2 {r : Nat × Nat} (hr : ρ id = some r) {fe : AF} (hz : CA F w ρ r z fe) {y y' : V} {b : Bool} (h : GM id z y = some (b, y')) (hb : b = true) {cs : List Value} {fs : AF} (hy : AK F w ρ y cs fs) (hoff : fe.D6 fs) :
 AK F w ρ y' cs (fe.or fs) ∧ y'.size = y.size ∧ y'.agg = false ∧ y.agg = false ∧ y'.one = true := by
 unfold GM at h
 split at h
 · rename_i i
   obtain ⟨h1, h'⟩ := AL h
   obtain rfl := (Id.Bb _ _).1 h1
   cases h'
   exact ⟨(Kb hr hy hz).mono (AF.BB _ _), rfl, rfl, rfl, rfl⟩
 · rename_i i e s nil n
   split at h
   · rename_i s' n' get
     obtain ⟨h1, h'⟩ := AL h
     simp only [Bool.and_eq_true] at h1
     obtain rfl := (Id.Bb _ _).1 h1.1
     obtain rfl := Nat.eq_of_beq_eq_true h1.2
     cases h'
     obtain rfl := Nat.eq_of_beq_eq_true hb
     exact ⟨QW hr hy hz hoff, rfl, rfl, rfl, rfl⟩
   · cases h
 · cases h
theorem Jb (h : Ac Γ F w ρ fam s vs) {owner : Id} (hne : owner ≠ id) {c c' y y' : V} (hc : s.H owner = some c) {g of : Nat} (hr : ρ owner = some (g, of)) {xs : List Value} {f : AF} {p : Nat} {re : V → V → Prop}
 (m2 : Region w (fam (.b owner)) g of xs) (m3 : f.Sub (fam (.b owner))) (m4 : f.D6 (AZ g of xs.length)) (q : Part F w ρ xs f p y re) (hre : ∀ x', re y' x' → x' = c')
 (hy' : AK F w ρ y' q.zs ((fam (.b id)).or q.f1)) (hsz : y'.size = y.size) : CA F w ρ (g, of) c' ((fam (.b owner)).or (fam (.b id))) := by
 have hoff : (fam (.b owner)).D6 (fam (.b id)) := h.off _ _ (fun e => hne (by cases e; rfl))
 obtain ⟨c2, e1, e2⟩ := q.put (Gw.refl F w ρ) (fun _ _ _ => rfl) y' q.zs _ hy' hsz (AF.Iq (hoff.symm.mono (AF.Sub.refl _) (q.D7.trans m3)) q.off)
 obtain rfl := hre _ e1
 have hrel := e2 (((fam (.b id)).or q.f1).or q.f2) (AF.BB _ _) (AF.B5 _ _)
 rw [← q.eq] at hrel
 have hregs : (AZ g of xs.length).Sub (fam (.b owner)) := by
  rintro g' o' ⟨rfl, h1, h2⟩
  have := m2.own (o' - of) (by omega)
  rwa [Nat.add_sub_cancel' h1] at this
 refine ⟨xs, _, hrel, ⟨m2.reads, m2.free, fun j hj => .inl (m2.own j hj)⟩, ?_, ?_⟩
 · rintro g' o' ((h | h) | h)
   · exact .inr h
   · exact .inl (m3 _ _ (q.DI _ _ h))
   · exact .inl (m3 _ _ (q.D7 _ _ h))
 · rintro g' o' ((h | h) | h) h2
   · exact hoff g' o' (hregs g' o' h2) h
   · exact m4 _ _ (q.DI _ _ h) h2
   · exact m4 _ _ (q.D7 _ _ h) h2
open Classical in
theorem Ac.forget (h : Ac Γ F w ρ fam s vs) (hloc : ∀ i, .par i ≠ id) :
 Ac Γ F w (ρ.del id) (fun i => if i = .b id then none_ else fam i) (Gq s id s.tm s.H) vs := by
 refine h.re (G := fun i j => j = i) ⟨fun i g o hi => ?_, fun i i' j hii hj hj' => ?_⟩ (fun u => ?_) (fun i => ?_) (fun i x r' hx hr' => ?_) (fun i => (Names.Eh _ (hloc i)).trans (h.pn i))
 · refine ⟨i, rfl, ?_⟩
   by_cases e : i = .b id
   · simp only [e, if_true] at hi; exact hi.elim
   · simp only [e, if_false] at hi; exact hi
 · exact absurd (hj.symm.trans hj') hii
 · exact (G6 (h.tm u)).mono (by simp only [reduceCtorEq, if_false]; exact AF.Sub.refl _)
 · show JA s.H id i = none ↔ _
   by_cases e : i = id
   · subst e; rw [W5, Names.Ks]; simp
   · rw [HC _ e, Names.Eh _ e, Option.map_eq_none_iff]; exact h.nm i
 · have hx : JA s.H id i = some x := hx
   by_cases e : i = id
   · subst e; rw [W5] at hx; cases hx
   · rw [HC _ e, Option.map_eq_some_iff] at hx
     obtain ⟨y, hy, rfl⟩ := hx
     rw [Names.Eh _ e] at hr'
     have e2 : ¬ (Ix.b i = Ix.b id) := fun h => e (by cases h; rfl)
     simp only [e2, if_false]
     exact G7 (h.bl i y r' hy hr')
theorem Tu {i : Nat} {ref y : V} {get0 : Nat → V} : (fun j => cond (Nat.beq j i) y ((fun j => V.mix (Nat.beq j i) ref (get0 j)) j)) = fun j => V.mix (Nat.beq j i) y (get0 j) := by
 funext j
 simp only [V.Dg]
 cases Nat.beq j i <;> rfl
theorem S5 : ∀ {p : List Bv} {x y x' z : V}, x.C8 p y = some x' → x.ES p = some z → y.size = z.size → x.put p y = some x' := by
 intro p
 induction p with
 | nil =>
   intro x y x' z h hn hs
   simp only [V.ES, Option.some.injEq] at hn
   subst hn
   simp only [V.C8, V.put] at h ⊢
   rw [hs]
   simpa using h
 | cons s p ih =>
   intro x y x' z h hn hs
   cases s with
   | CI j d =>
     simp only [V.C8, V.put, V.ES] at h hn ⊢
     cases hd : Nat.beq (x.Dx j) d
     · rw [hd] at h; cases h
     · rw [hd, cond_true] at h hn
       rw [cond_true]
       cases hj : x.nth j with
       | none => rw [hj] at h; cases h
       | some z0 =>
         rw [hj] at h hn
         simp only at h hn ⊢
         cases hu : z0.C8 p y with
         | none => rw [hu] at h; cases h
         | some z1 =>
           rw [hu] at h
           rw [ih hu hn hs]
           exact h
   | idx s' n' i =>
     cases x with
     | arr s0 n get =>
       simp only [V.C8, V.put, V.ES] at h hn ⊢
       cases hd : Nat.beq s0 s'
       · rw [hd] at h; cases h
       · rw [hd, cond_true] at h hn
         rw [cond_true]
         cases hu : (get i).C8 p y with
         | none => rw [hu] at h; cases h
         | some z1 =>
           rw [hu] at h
           rw [ih hu hn hs]
           exact h
     | _ => simp [V.C8] at h
theorem L3 (h : Ac Γ F w ρ fam s vs) (hloc : id.Cg = true) (hz : s.H id = some z) {r : Rec} {b : Bool} {p : Option Prop} {s' : St} (hc : GN s id z r = some (b, p, s')) (hb : b = true) (hp : ∀ q, p = some q → q) :
 ∃ ρ' fam', Ac Γ F w ρ' fam' s' vs := by
 unfold GN at hc
 split at hc
 · cases hc
 rename_i c hcc
 obtain ⟨hne, hc⟩ := AL hc
 have hne : r.owner ≠ id := by
  rintro e
  rw [(Id.Bb _ _).2 e] at hne
  cases hne
 cases hro : ρ r.owner with
 | none => rw [(h.nm _).2 hro] at hcc; cases hcc
 | some at_ =>
 obtain ⟨g, of⟩ := at_
 cases hri : ρ id with
 | none => rw [(h.nm _).2 hri] at hz; cases hz
 | some ri =>
 obtain ⟨xs, f, m1, m2, m3, m4⟩ := h.bl _ c (g, of) hcc hro
 have hrel := h.bl id z ri hz hri
 have hoff : (fam (.b id)).D6 (fam (.b r.owner)) := h.off _ _ (fun e => hne (by cases e; rfl))
 split at hc
 · split at hc
   · rename_i y hy
     split at hc
     · rename_i b' y' hcl
       split at hc
       · rename_i c' hput
         simp only [Option.some.injEq, Prod.mk.injEq] at hc
         obtain ⟨rfl, rfl, rfl⟩ := hc
         simp only [Bool.and_eq_true] at hb
         obtain ⟨q⟩ := Dv r.path c (Fl hb.1.1) hb.1.2 m1 hy
         obtain ⟨j1, j2, _⟩ := L2 hri hrel hcl hb.2 q.rel (hoff.mono (AF.Sub.refl _) (q.DI.trans m3))
         exact ⟨_, _, h.Ss (G8 hloc) hne hro (Jb h hne hcc hro m2 m3 m4 q (fun x' hx' => by rw [hput] at hx'; exact (Option.some.inj hx').symm) j1 j2)⟩
       · cases hc
     · cases hc
   · cases hc
 · rename_i sz n i get0 _
   split at hc
   · rename_i sz' n' gt hy
     obtain ⟨hsz, hc'⟩ := AL hc
     obtain rfl := Nat.eq_of_beq_eq_true hsz
     split at hc'
     · rename_i c' hupd
       cases hc'
       simp only [Bool.and_eq_true, Nat.blt_eq] at hb
       obtain ⟨⟨b1, b2⟩, b3, b4⟩ := hb
       obtain rfl := Nat.eq_of_beq_eq_true b3
       obtain rfl := hp _ rfl
       have hput := S5 hupd hy rfl
       obtain ⟨q⟩ := Dv r.path c (Fl b1) b2 m1 hy
       obtain ⟨q2⟩ := Fv b4 q.rel
       have hi : V.mix (Nat.beq i i) (V.ptr id []) (get0 i) = .ptr id [] := by rw [V.Dg, show Nat.beq i i = true by simp]; rfl
       have j0 : ∀ y, V.mix (Nat.beq i i) (V.ptr id []) (get0 i) = y → AK F w ρ y q2.zs q2.f1 := by
        intro y e
        subst e
        exact q2.rel
       have j1 := Kb hri (j0 _ hi) hrel
       obtain ⟨x', rfl, j2⟩ := q2.put (Gw.refl F w ρ) (fun _ _ _ => rfl) (.Ai false z) q2.zs _ j1 (by rw [hi]; rfl) (hoff.mono (AF.Sub.refl _) ((q2.D7.trans q.DI).trans m3))
       have j3 := j2 ((fam (.b id)).or q.f1) (AF.BB _ _) (q2.D7.trans (AF.B5 _ _))
       rw [← q2.eq, Tu] at j3
       exact ⟨_, _, h.Ss (G8 hloc) hne hro (Jb h hne hcc hro m2 m3 m4 q (fun x' hx' => by rw [hput] at hx'; exact (Option.some.inj hx').symm) j3 rfl)⟩
     · cases hc'
   · cases hc
theorem OJ {r : Rec} {b : Bool} {p : Option Prop} {s' : St} (hc : P3 s id z r = some (b, p, s')) (hb : b = true) (hp : ∀ q, p = some q → q) :
 ∃ b' p', GN s id z r = some (b', p', s') ∧ b' = true ∧ ∀ q, p' = some q → q := by
 unfold P3 at hc
 split at hc
 · rename_i nil0 z0 c hr hco
   obtain ⟨hne, hc⟩ := AL hc
   split at hc
   · rename_i i harr hnav
     obtain ⟨hi, hc⟩ := AL hc
     obtain rfl := (Id.Bb _ _).1 hi
     cases hput : c.put r.path (.Ai nil0 z0) with
     | none => rw [hput] at hc; cases hc
     | some c' =>
     rw [hput] at hc
     simp only [Option.some.injEq, Prod.mk.injEq] at hc
     obtain ⟨rfl, rfl, rfl⟩ := hc
     simp only [Bool.and_eq_true, Bool.not_eq_true'] at hb
     obtain ⟨hb, rfl⟩ := hb
     obtain rfl : z = z0 := hp _ rfl
     refine ⟨(Ej r.path && c.fit r.path) && true, none, ?_, ?_, nofun⟩
     · unfold GN
       simp only [hco, hne, cond_true, harr, hnav, GM, hi, hput]
     · simp only [hb, Bool.and_self]
   · rename_i sz n i get0 sz' n' g harr hnav
     obtain ⟨hsz, hc⟩ := AL hc
     cases hupd : c.C8 r.path (.arr sz n get0) with
     | none => rw [hupd] at hc; cases hc
     | some c' =>
     rw [hupd] at hc
     simp only [Option.some.injEq, Prod.mk.injEq] at hc
     obtain ⟨rfl, rfl, rfl⟩ := hc
     simp only [Bool.and_eq_true, Bool.not_eq_true'] at hb
     obtain ⟨hb1, hb2, rfl⟩ := hb
     obtain ⟨hg, rfl, hget⟩ := hp _ rfl
     have he : (fun j => V.mix (Nat.beq j i) (V.Ai false z) (get0 j)) = get0 := by
      funext j
      rw [V.Dg]
      cases hj : Nat.beq j i
      · rfl
      · rw [Nat.eq_of_beq_eq_true hj, hget]; rfl
     refine ⟨(Ej r.path && c.fit r.path) && (Nat.beq n n' && Nat.blt i n), some (g = fun j => V.mix (Nat.beq j i) (.ptr id []) (get0 j)), ?_, ?_, fun q hq => by cases hq; exact hg⟩
     · unfold GN
       simp only [hco, hne, cond_true, harr, hnav, hsz, he, hupd]
     · simp only [hb1, hb2, Bool.and_self]
   · cases hc
 · exact ⟨b, p, hc, hb, hp⟩
theorem Qw (h : Ac Γ F w ρ fam s vs) {l : List Rec} {x : Hint} {b : Bool} {p : Option Prop} {s' : St} (hx : x.Pv = false) (hc : DY s l x = some (b, p, s')) (hb : b = true) (hp : ∀ q, p = some q → q) : ∃ ρ' fam', Ac Γ F w ρ' fam' s' vs := by
 have named : ∀ {id : Id} {c y ref z c' : V} {p : List Bv} {d : Nat}, s.H id = some c → c.ES p = some y → s.H (.loc d 0) = none → c.put p ref = some c' → Ej p = true → c.fit p = true →
  (∀ cs fp, AK F w ρ y cs fp → ∃ r2 fe fs, fe.D6 fs ∧ fe.Sub fp ∧ fs.Sub fp ∧ CA F w (ρ.with (.loc d 0) r2) r2 z fe ∧ AK F w (ρ.with (.loc d 0) r2) ref cs fs) → ref.size = y.size →
  ∃ ρ' fam', Ac Γ F w ρ' fam' { tm := s.tm, H := Bu (Bu s.H id (some c')) (.loc d 0) (some z) } vs := by
  intro id c y ref z c' p d hcH hy hH hput hp1 hp2 hopen hsz
  cases hri : ρ id with
  | none => rw [(h.nm _).2 hri] at hcH; cases hcH
  | some r =>
    obtain ⟨xs, f, m1, m2, m3, m4⟩ : CA F w ρ r c (fam (.b id)) := h.bl id c r hcH hri
    obtain ⟨q⟩ := Dv p c (Fl hp1) hp2 m1 hy
    obtain ⟨r2, fe, fs, j1, j2, j3, j4, j5⟩ := hopen _ _ q.rel
    have hle := Names.GH r2 ((h.nm _).1 hH)
    obtain ⟨c2, e1, e2⟩ := q.put (F' := F) (w' := w) (ρ' := ρ.with (.loc d 0) r2) ⟨Ext.refl w, AF.Sub.refl _, fun _ _ _ => rfl, hle⟩ (fun _ _ _ => rfl) ref q.zs fs j5 hsz (q.off.mono j3 (AF.Sub.refl _))
    rw [hput] at e1
    obtain rfl := Option.some.inj e1
    have hxs := q.eq
    let fr : AF := fun g' o' => AZ r.1 r.2 xs.length g' o' ∨ (fs.or q.f2) g' o'
    have hrel2 : AK F w (ρ.with (.loc d 0) r2) c' xs (fs.or q.f2) := by
     have := e2 (fs.or q.f2) (AF.BB _ _) (AF.B5 _ _)
     rw [← hxs] at this
     exact this
    have hsub : (fs.or q.f2).Sub f := AF.HU (j3.trans q.DI) q.D7
    have hreg : Region w fr r.1 r.2 xs := ⟨m2.reads, m2.free, fun j hj => .inl ⟨rfl, by omega, by omega⟩⟩
    have hR : CA F w (ρ.with (.loc d 0) r2) r c' fr := FK hrel2 hreg (fun _ _ h => .inr h) (m4.mono hsub (AF.Sub.refl _))
    have hregs : (AZ r.1 r.2 xs.length).Sub (fam (.b id)) := by
     rintro g' o' ⟨rfl, h1, h2⟩
     have := m2.own (o' - r.2) (by omega)
     rwa [Nat.add_sub_cancel' h1] at this
    exact ⟨_, _, h.split (fr := fr) (fn := fe) hri hH nofun hR j4 (fun g' o' h => h.elim (hregs g' o') fun h => m3 g' o' (hsub g' o' h)) (fun g' o' h => m3 g' o' (q.DI g' o' (j2 g' o' h))) (by
     rintro g' o' (h | h | h) h'
     · exact m4 g' o' (q.DI g' o' (j2 g' o' h')) h
     · exact j1 g' o' h' h
     · exact q.off g' o' (j2 g' o' h') h)⟩
 have sealed : ∀ (t : Nat) (id : Id) (y : V), s.tm t = y → (match s.H id with
  | some z => match GM id z y with
    | some (b, y') => cond id.Cg (some (b, none, Gq s id (C8 s.tm t y') s.H)) none
    | none => none
  | none => none) = some (b, p, s') → ∃ ρ' fam', Ac Γ F w ρ' fam' s' vs := by
  intro t id y hy hc
  split at hc
  · rename_i z hz
    split at hc
    · rename_i b' y' hcl
      obtain ⟨hl, hc⟩ := AL hc
      cases hc
      cases hri : ρ id with
      | none => rw [(h.nm _).2 hri] at hz; cases hz
      | some ri =>
        have h1 := h.tm t
        rw [hy] at h1
        have hone : y.agg = false ∧ y.one = true := by
         cases y <;> simp [GM] at hcl <;> exact ⟨rfl, rfl⟩
        obtain ⟨j1, j2, j3, j4, j5⟩ := L2 hri (h.bl id z ri hz hri) hcl hb (Fp h1 hone.1 hone.2) (h.off (.b id) (.t t) nofun)
        refine ⟨_, _, h.Ty (G8 hl) (EW (j1.mono ?_) j3 j5)⟩
        rintro g o (h | h)
        · exact .inr h
        · exact .inl h
    · cases hc
  · cases hc
 cases x with
 | close id =>
   simp only [DY] at hc
   split at hc
   · cases hc; exact ⟨_, _, h⟩
   · rename_i z hz
     split at hc
     · obtain ⟨hl, hc⟩ := AL hc
       exact L3 h hl hz hc hb hp
     · cases hc
 | back id =>
   simp only [DY] at hc
   split at hc
   · cases hc; exact ⟨_, _, h⟩
   · rename_i z hz
     split at hc
     · obtain ⟨hl, hc⟩ := AL hc
       obtain ⟨b', p', k1, k2, k3⟩ := OJ hc hb hp
       exact L3 h hl hz k1 k2 k3
     · cases hc
 | drop id =>
   simp only [DY] at hc
   split at hc
   · cases hc; exact ⟨_, _, h⟩
   · obtain ⟨hl, hc⟩ := AL hc
     cases hc
     exact ⟨_, _, h.forget (G8 hl)⟩
 | shut t =>
   simp only [DY] at hc
   split at hc
   · rename_i id ht; exact sealed t id _ ht (by rw [← ht]; exact hc)
   · rename_i id e sz nil n ht; exact sealed t id _ ht (by rw [← ht]; exact hc)
   · cases hc; exact ⟨_, _, h⟩
 | open_ t =>
   simp only [DY] at hc
   split at hc
   · rename_i nil z ht
     split at hc
     · cases hc
     · rename_i hH
       cases hc
       simp only [Bool.not_eq_true'] at hb
       subst hb
       have h1 := h.tm t
       rw [ht] at h1
       obtain ⟨r2, j1, j2⟩ := Iw ((h.nm _).1 hH) (Fp h1 rfl rfl)
       exact ⟨_, _, h.RV hH nofun (EW j2 rfl rfl) j1 (AF.Aa _) (AF.Sub.refl _) (AF.Hy _)⟩
   · rename_i e sz nil n get ht
     split at hc
     · cases hc
     · rename_i hH
       cases hc
       exact h.U3 hH nofun ht
   · cases hc; exact ⟨_, _, h⟩
 | Ir id p d =>
   simp only [DY] at hc
   split at hc
   · cases hc; exact ⟨_, _, h⟩
   · rename_i c hcH
     split at hc
     · rename_i e sz nil n get hy
       split at hc <;> (try cases hc)
       rename_i c' hH hput
       simp only [Bool.and_eq_true] at hb
       exact named hcH hy hH hput hb.1 hb.2 (fun cs fp hq => KU ((h.nm _).1 hH) hq) rfl
     · rename_i nil z hy
       split at hc <;> (try cases hc)
       rename_i c' hH hput
       simp only [Bool.and_eq_true, Bool.not_eq_true'] at hb
       obtain ⟨⟨hb1, hb2⟩, rfl⟩ := hb
       exact named hcH hy hH hput hb1 hb2 (fun cs fp hq => by
        obtain ⟨r2, j1, j2⟩ := Iw ((h.nm _).1 hH) hq
        exact ⟨r2, fp, none_, AF.Hy _, AF.Sub.refl _, AF.Aa _, j1, j2⟩) rfl
     · cases hc; exact ⟨_, _, h⟩
 | Ud => cases hx
 | PG => cases hx
 | Qf => cases hc; exact ⟨_, _, h⟩
theorem KV {e : TypeId} {sz n : Nat} {nil : Bool} {get : Nat → V} {cs : List Value} {fp : AF} (h : AK F w ρ (.A4 e sz nil n get) cs fp) (hc : ∀ i, i < n → (get i).closed = true) :
 ∃ fz fs : AF, fz.Sub fp ∧ fs.Sub fp ∧ fs.D6 fz ∧ AK (F.or fz) w ρ (.sl (some e) sz nil n fun i => (get i).AP) cs fs := by
 simp only [AK] at h
 obtain ⟨A, c, rfl, h2, h3, h4, h5⟩ := h
 cases hn : nil with
 | true =>
   refine ⟨none_, none_, AF.Aa _, AF.Aa _, AF.BR _, ?_⟩
   simp only [AK]
   exact ⟨A, c, rfl, h2, h3, fun _ => h4 hn, nofun⟩
 | false =>
   obtain ⟨g, o, rfl, k2, k3, xs, f, fs, k4, k5, k6, k7⟩ := h5 hn
   have hlen : xs.length = n * sz := by rw [k4]; exact Ak n fun i hi => (k6 i hi).1
   have hsub : (AZ g o (n * sz)).Sub fp := by
    rintro b k ⟨e1, e2, e3⟩
    exact k3 b k ⟨e1, e2, Nat.lt_of_lt_of_le e3 (Nat.add_le_add_left (Nat.mul_le_mul_right sz h2) o)⟩
   refine ⟨AZ g o (n * sz), Cr g o sz n c, hsub, (Ic h2).trans k3, fun b k h1 h2 => Lc b k h2 h1, ?_⟩
   simp only [AK]
   refine ⟨_, c, rfl, h2, h3, nofun, fun _ => ⟨g, o, none, rfl, .inl rfl, fun e' he => by cases he; exact k2, fun i hi => ⟨f i, (k6 i hi).1, ?_, ?_, fun j hj => .inr ⟨rfl, by omega, ?_⟩⟩⟩⟩
   · exact AK.BD (Ext.refl w) (AF.BB _ _) (fun _ _ _ => rfl) _ (fun _ _ h => h) (fun _ _ _ => rfl) (AF.Sub.refl _) (E6 _ (k6 i hi).2.1 (hc i hi))
   · intro j u hu
     have hmem := CO (f := f) (List.range n) i j (v := i) (u := u) (sz := sz) (fun v hv => (k6 v (List.mem_range.1 hv)).1) (by simp [hi]) hu
     rw [← k4] at hmem
     rw [Nat.add_assoc]
     exact k5.reads _ _ hmem
   · have : (i + 1) * sz ≤ n * sz := Nat.mul_le_mul_right sz hi
     rw [Nat.add_mul] at this
     omega
theorem Ac.less {s' : St} {F' : AF} {fam' : Et} (h : Ac Γ F w ρ fam s vs) (hF : F.Sub F') (hf : ∀ i, (fam' i).Sub (fam i)) (hoff : ∀ i, (fam' i).D6 F') (htm : ∀ t, Al F' w ρ (s'.tm t) (vs.getD t Go.undef) (fam' (.t t)))
 (hnm : ∀ id, s'.H id = none ↔ ρ id = none) (hbl : ∀ id x r, s'.H id = some x → ρ id = some r → CA F' w ρ r x (fam' (.b id))) : Ac Γ F' w ρ fam' s' vs where
 tm := htm
 nm := hnm
 bl := hbl
 off i j hne g o h1 h2 := h.off i j hne g o (hf i g o h1) (hf j g o h2)
 DL := hoff
 new i g o h1 := h.new i g o (hf i g o h1)
 lt i g o h1 := h.lt i g o (hf i g o h1)
 pn := h.pn
theorem Mem.more {fz : AF} (hm : Mem Γ w F) (h : Ac Γ F w ρ fam s vs) {i : Ix} (hz : fz.Sub (fam i)) : Mem Γ w (F.or fz) where
 ext := hm.ext
 sub g o k := .inl (hm.sub g o k)
 fresh g o k := k.elim (hm.fresh g o) fun k => .inr (h.new i g o (hz g o k))
 BD := hm.BD
 live g o k := k.elim (hm.live g o) fun k => h.lt i g o (hz g o k)
open Classical in
theorem SO (hm : Mem Γ w F) (h : Ac Γ F w ρ fam s vs) {l : List Rec} {x : Hint} {b : Bool} {p : Option Prop} {s' : St} (hc : DY s l x = some (b, p, s')) (hb : b = true) (hp : ∀ q, p = some q → q) :
 ∃ F' ρ' fam', Mem Γ w F' ∧ Ac Γ F' w ρ' fam' s' vs := by
 have old : x.Pv = false → ∃ F' ρ' fam', Mem Γ w F' ∧ Ac Γ F' w ρ' fam' s' vs := fun hx => by
  obtain ⟨ρ', fam', k⟩ := Qw h hx hc hb hp
  exact ⟨F, ρ', fam', hm, k⟩
 have keepV : ∀ {fz : AF} {x : V} {v : Value} {fp : AF}, Al F w ρ x v fp → Al (F.or fz) w ρ x v fp := fun k => Al.BD (Ext.refl w) (AF.BB _ _) (fun _ _ _ => rfl) (fun _ _ h => h) (fun _ _ _ => rfl) (AF.Sub.refl _) k
 cases x with
 | close => exact old rfl
 | drop => exact old rfl
 | shut => exact old rfl
 | open_ => exact old rfl
 | Ir => exact old rfl
 | back => exact old rfl
 | Qf => exact old rfl
 | PG t =>
   simp only [DY] at hc
   split at hc
   · rename_i e sz nil n get ht
     cases hc
     have hcl := hp _ rfl
     have h1 := h.tm t
     rw [ht] at h1
     obtain ⟨fz, fs, z1, z2, z3, z4⟩ := KV (Fp h1 rfl rfl) hcl
     refine ⟨F.or fz, ρ, fun i => if i = .t t then fs else fam i, hm.more h z1, h.less (AF.BB _ _) (fun i => ?_) (fun i => ?_) (fun u => ?_) h.nm (fun id x r hx hr => ?_)⟩
     · by_cases e : i = .t t
       · subst e; simp only [if_true]; exact z2
       · simp only [e, if_false]; exact AF.Sub.refl _
     · by_cases e : i = .t t
       · subst e
         simp only [if_true]
         rintro g o k (k' | k')
         · exact h.DL _ g o (z2 g o k) k'
         · exact z3 g o k k'
       · simp only [e, if_false]
         rintro g o k (k' | k')
         · exact h.DL _ g o k k'
         · exact h.off i (.t t) e g o k (z1 g o k')
     · show Al _ w ρ (C8 s.tm t _ u) _ _
       by_cases e : u = t
       · subst e
         rw [BN]
         simp only [if_true]
         exact EW z4 rfl rfl
       · rw [Bm _ _ e]
         have : ¬ (Ix.t u = Ix.t t) := fun k => e (by cases k; rfl)
         simp only [this, if_false]
         exact keepV (h.tm u)
     · have : ¬ (Ix.b id = Ix.t t) := nofun
       simp only [this, if_false]
       exact CA.BD (Ext.refl w) (AF.BB _ _) (fun _ _ _ => rfl) _ (fun _ _ h => h) (fun _ _ _ => rfl) (AF.Sub.refl _) (h.bl id x r hx hr)
   · cases hc; exact ⟨F, ρ, fam, hm, h⟩
 | Ud id p =>
   simp only [DY] at hc
   split at hc
   · cases hc; exact ⟨F, ρ, fam, hm, h⟩
   · rename_i c hcH
     split at hc
     · rename_i e sz nil n get hy
       split at hc <;> (try cases hc)
       rename_i c' hput
       simp only [Bool.and_eq_true] at hb
       have hcl := hp _ rfl
       cases hri : ρ id with
       | none => rw [(h.nm _).2 hri] at hcH; cases hcH
       | some r =>
         obtain ⟨xs, f, m1, m2, m3, m4⟩ : CA F w ρ r c (fam (.b id)) := h.bl id c r hcH hri
         obtain ⟨q⟩ := Dv p c (Fl hb.1) hb.2 m1 hy
         obtain ⟨fz, fs, z1, z2, z3, z4⟩ := KV q.rel hcl
         obtain ⟨c2, e1, e2⟩ := q.put (F' := F.or fz) (w' := w) (ρ' := ρ) ⟨Ext.refl w, AF.BB _ _, fun _ _ _ => rfl, fun _ _ h => h⟩ (fun _ _ _ => rfl) (.sl (some e) sz nil n fun i => (get i).AP) q.zs fs z4 rfl (q.off.mono z2 (AF.Sub.refl _))
         rw [hput] at e1
         obtain rfl := Option.some.inj e1
         have hxs := q.eq
         let fr : AF := fun g' o' => AZ r.1 r.2 xs.length g' o' ∨ (fs.or q.f2) g' o'
         have hrel2 : AK (F.or fz) w ρ c' xs (fs.or q.f2) := by
          have := e2 (fs.or q.f2) (AF.BB _ _) (AF.B5 _ _)
          rw [← hxs] at this
          exact this
         have hsub : (fs.or q.f2).Sub f := AF.HU (z2.trans q.DI) q.D7
         have hreg : Region w fr r.1 r.2 xs := ⟨m2.reads, m2.free, fun j hj => .inl ⟨rfl, by omega, by omega⟩⟩
         have hR : CA (F.or fz) w ρ r c' fr := FK hrel2 hreg (fun _ _ h => .inr h) (m4.mono hsub (AF.Sub.refl _))
         have hregs : (AZ r.1 r.2 xs.length).Sub (fam (.b id)) := by
          rintro g' o' ⟨rfl, h1, h2⟩
          have := m2.own (o' - r.2) (by omega)
          rwa [Nat.add_sub_cancel' h1] at this
         have hzf : fz.Sub (fam (.b id)) := (z1.trans q.DI).trans m3
         have hfr : fr.Sub (fam (.b id)) := fun g' o' h => h.elim (hregs g' o') fun h => m3 g' o' (hsub g' o' h)
         refine ⟨F.or fz, ρ, fun i => if i = .b id then fr else fam i, hm.more h hzf, h.less (AF.BB _ _) (fun i => ?_) (fun i => ?_) (fun u => ?_) (fun i => ?_) (fun i x r' hx hr => ?_)⟩
         · by_cases e : i = .b id
           · subst e; simp only [if_true]; exact hfr
           · simp only [e, if_false]; exact AF.Sub.refl _
         · by_cases e : i = .b id
           · subst e
             simp only [if_true]
             rintro g o k (k' | k')
             · exact h.DL _ g o (hfr g o k) k'
             · rcases k with k | k | k
               · exact m4 g o (q.DI g o (z1 g o k')) k
               · exact z3 g o k k'
               · exact q.off g o (z1 g o k') k
           · simp only [e, if_false]
             rintro g o k (k' | k')
             · exact h.DL _ g o k k'
             · exact h.off i (.b id) e g o k (hzf g o k')
         · have : ¬ (Ix.t u = Ix.b id) := nofun
           simp only [this, if_false]
           exact keepV (h.tm u)
         · show Bu s.H id (some c') i = none ↔ _
           by_cases e : i = id
           · subst e; rw [BE, hri]; simp
           · rw [Bj _ _ e]; exact h.nm i
         · have hx : Bu s.H id (some c') i = some x := hx
           by_cases e : i = id
           · subst e
             rw [BE] at hx
             obtain rfl := Option.some.inj hx
             rw [hri] at hr
             obtain rfl := Option.some.inj hr
             simp only [if_true]
             exact hR
           · rw [Bj _ _ e] at hx
             have : ¬ (Ix.b i = Ix.b id) := fun k => e (by cases k; rfl)
             simp only [this, if_false]
             exact CA.BD (Ext.refl w) (AF.BB _ _) (fun _ _ _ => rfl) _ (fun _ _ h => h) (fun _ _ _ => rfl) (AF.Sub.refl _) (h.bl i x r' hx hr)
     · cases hc; exact ⟨F, ρ, fam, hm, h⟩
theorem N1 {nt : Nat} {a : Act} {l : List Rec} {x : Hint} {b : Bool} {p : Option Prop} {s' : St} (hI : Inv Γ nt s a w) (hc : DY s l x = some (b, p, s')) (hb : b = true) (hp : ∀ q, p = some q → q) : Inv Γ nt s' a w := by
 obtain ⟨h1, h2, F, ρ, fam, hm, hs⟩ := hI
 obtain ⟨F', ρ', fam', hm', h3⟩ := SO hm hs hc hb hp
 exact ⟨h1, h2, F', ρ', fam', hm', h3⟩
theorem Pt {kn : Nat → Option Bool} {l : List Rec} {x : Hint} {b : Bool} {p : Option Prop} {s' : St} (hk : Fy kn s.tm) (hc : DY s l x = some (b, p, s')) : Fy kn s'.tm := by
 have kb : ∀ {t : Nat} {b : Bool} {f : Nat → V} {id : Id}, f t = .bool b → (f t).kill id = .bool b := fun h => by rw [h]; rfl
 have key : ∀ (id : Id) (f : Nat → V) (H : Id → Option V), (∀ t b, s.tm t = .bool b → f t = .bool b) → Fy kn (Gq s id f H).tm := fun id f H hf t b ht => kb (hf t b (hk t b ht))
 have updk : ∀ {t : Nat} {y : V}, (∀ b, s.tm t ≠ .bool b) → ∀ u b, s.tm u = .bool b → C8 s.tm t y u = .bool b := by
  intro t y hn u b hu
  by_cases e : u = t
  · subst e; exact absurd hu (hn b)
  · rw [Bm _ _ e]; exact hu
 have closed : ∀ {id : Id} {z : V} {r : Rec}, GN s id z r = some (b, p, s') → Fy kn s'.tm := by
  intro id z r hc
  unfold GN at hc
  split at hc
  · cases hc
  obtain ⟨_, hc'⟩ := AL hc
  split at hc'
  · split at hc'
    · split at hc'
      · split at hc'
        · cases hc'; exact key _ _ _ fun _ _ h => h
        · cases hc'
      · cases hc'
    · cases hc'
  · split at hc'
    · obtain ⟨_, hc2⟩ := AL hc'
      split at hc2
      · cases hc2; exact key _ _ _ fun _ _ h => h
      · cases hc2
    · cases hc'
 have sealed : ∀ (t : Nat) (id : Id) (y : V), s.tm t = y → (∀ b, y ≠ .bool b) → (match s.H id with
  | some z => match GM id z y with
    | some (b, y') => cond id.Cg (some (b, none, Gq s id (C8 s.tm t y') s.H)) none
    | none => none
  | none => none) = some (b, p, s') → Fy kn s'.tm := by
  intro t id y hy hn hc
  split at hc
  · split at hc
    · obtain ⟨_, hc'⟩ := AL hc
      cases hc'
      exact key _ _ _ (updk (by rw [hy]; exact hn))
    · cases hc
  · cases hc
 cases x with
 | close id =>
   simp only [DY] at hc
   split at hc
   · cases hc; exact hk
   · split at hc
     · obtain ⟨_, hc'⟩ := AL hc
       exact closed hc'
     · cases hc
 | back id =>
   simp only [DY] at hc
   split at hc
   · cases hc; exact hk
   · rename_i z hz
     split at hc
     · rename_i r hr
       obtain ⟨_, hc'⟩ := AL hc
       unfold P3 at hc'
       split at hc'
       · obtain ⟨_, hc'⟩ := AL hc'
         split at hc'
         · obtain ⟨_, hc'⟩ := AL hc'
           split at hc' <;> (try cases hc')
           exact key _ _ _ fun _ _ h => h
         · obtain ⟨_, hc'⟩ := AL hc'
           split at hc' <;> (try cases hc')
           exact key _ _ _ fun _ _ h => h
         · cases hc'
       · exact closed hc'
     · cases hc
 | drop id =>
   simp only [DY] at hc
   split at hc
   · cases hc; exact hk
   · obtain ⟨_, hc'⟩ := AL hc
     cases hc'
     exact key _ _ _ fun _ _ h => h
 | shut t =>
   simp only [DY] at hc
   split at hc
   · rename_i id ht; exact sealed t id _ ht nofun (by rw [← ht]; exact hc)
   · rename_i id e sz nil n ht; exact sealed t id _ ht nofun (by rw [← ht]; exact hc)
   · cases hc; exact hk
 | open_ t =>
   simp only [DY] at hc
   split at hc
   · rename_i nil z ht
     split at hc
     · cases hc
     · cases hc
       exact fun u b hu => updk (by rw [ht]; exact nofun) u b (hk u b hu)
   · rename_i e sz nil n get ht
     split at hc
     · cases hc
     · cases hc
       exact fun u b hu => updk (by rw [ht]; exact nofun) u b (hk u b hu)
   · cases hc; exact hk
 | Ir id p d =>
   simp only [DY] at hc
   split at hc
   · cases hc; exact hk
   · split at hc
     · split at hc <;> (try cases hc)
       exact hk
     · split at hc <;> (try cases hc)
       exact hk
     · cases hc; exact hk
 | Ud id p =>
   simp only [DY] at hc
   split at hc
   · cases hc; exact hk
   · split at hc
     · split at hc <;> (try cases hc)
       exact hk
     · cases hc; exact hk
 | PG t =>
   simp only [DY] at hc
   split at hc
   · rename_i e sz nil n get ht
     cases hc
     exact fun u b hu => updk (by rw [ht]; exact nofun) u b (hk u b hu)
   · cases hc; exact hk
 | Qf => cases hc; exact hk
theorem TX {x : Hint} {s' : St} (hx : R5 x s = some (true, s')) (h : Ac Γ F w ρ fam s vs) : Ac Γ F w ρ fam s' vs := by
 unfold R5 at hx
 split at hx <;> (try cases hx)
 rename_i s0 t
 split at hx <;> (try cases hx)
 rename_i z ht
 refine ⟨fun u => ?_, h.nm, h.bl, h.off, h.DL, h.new, h.lt, h.pn⟩
 show Al F w ρ (C8 s.tm t .B7 u) _ _
 by_cases e : u = t
 · subst e
   have h1 := h.tm u
   rw [ht] at h1
   rw [BN]
   have h2 := Fp h1 rfl rfl
   simp only [AK] at h2
   obtain ⟨A, h3, h4, _⟩ := h2
   rw [h4 (by first | rfl | trivial)] at h3
   simp only [List.cons.injEq, and_true] at h3
   rw [h3]
   exact ⟨nofun, fun _ => by simp only [AK]⟩
 · rw [Bm _ _ e]; exact h.tm u
theorem TY {kn : Nat → Option Bool} {x : Hint} {b : Bool} {s' : St} (hx : R5 x s = some (b, s')) (hk : Fy kn s.tm) : Fy kn s'.tm := by
 unfold R5 at hx
 split at hx <;> (try cases hx)
 rename_i s0 t
 split at hx <;> (try cases hx)
 rename_i z ht
 intro u c hu
 have h1 := hk u c hu
 by_cases e : u = t
 · subst e; rw [ht] at h1; cases h1
 · show C8 s.tm t .B7 u = _
   rw [Bm _ _ e]; exact h1
end
end Go.Vm
end
