/- Of an abstract machine over the model, part B: no statement is proved here. -/
import Derived.Test.YtigdgbdmlejcbaaGreatDoorVmA
import Derived.Calls
import Derived.Orders
section
namespace Go.Vm
open Go
section
variable {P : Program} {Γ : Ctx} {F : Foot} {w : World} {ρ : Names} {fam : Fam} {s : St} {a : Act} {o : Oper} {kn : Nat → Option Bool} {pol : Nat → Nat} {e : Eff}
theorem Stand.drew (hm : Mem Γ w F) (hs : Stand Γ F w ρ fam s a.tmps) : Mem Γ w.drew F ∧ Stand Γ F w.drew ρ fam s a.tmps :=
  ⟨⟨hm.ext.trans (Ext.drew w), hm.sub, hm.fresh, hm.keep, hm.live⟩, hs.keep (Ext.drew w) (Foot.Sub.refl _) (fun _ _ _ => rfl) (fun _ _ _ _ => rfl) hs.offF⟩
theorem Stand.fresh (hm : Mem Γ w F) (hs : Stand Γ F w ρ fam s a.tmps) (cells : Array Value) (el : TypeId) (k : Nat) :
    Mem Γ (w.alloc (.cells cells el)) (F.or (regionFoot w.heap.size 0 k)) ∧ Stand Γ (F.or (regionFoot w.heap.size 0 k)) (w.alloc (.cells cells el)) ρ fam s a.tmps := by
  have hE := Ext.alloc w (.cells cells el)
  have hoff : ∀ i, (fam i).Off (F.or (regionFoot w.heap.size 0 k)) := by
    rintro i g o hi (h | h)
    · exact hs.offF i g o hi h
    · have := hs.lt i g o hi
      have := h.1
      omega
  refine ⟨⟨hm.ext.trans hE, fun g o h => .inl (hm.sub g o h), ?_, fun g o hn => ?_, ?_⟩, hs.keep hE (Foot.sub_left _ _) (fun g o hg => cell_alloc w _ (hm.live g o hg)) (fun i g o hg => cell_alloc w _ (hs.lt _ g o hg)) hoff⟩
  · rintro g o (h | h)
    · exact hm.fresh g o h
    · exact .inr (.inl (by have := h.1; have := hm.ext.size; omega))
  · by_cases hlt : g < w.heap.size
    · rw [cell_alloc w _ hlt]; exact hm.keep g o hn
    · exact absurd (Or.inl (Nat.le_trans hm.ext.size (by omega))) hn
  · rintro g o (h | h)
    · exact Nat.lt_of_lt_of_le (hm.live g o h) hE.size
    · rw [alloc_size]; have := h.1; omega
theorem fresh_rel (hm : Mem Γ w F) {el : TypeId} {sz n c : Nat} {get : Nat → V} {cells : Array Value} (hc : cells.size = c * sz) (hn : n ≤ c) (hcm : c ≤ maxLen)
    (hel : ∀ i, i < n → ∃ xs, xs.length = sz ∧ RelT F w noNames (get i) xs none_ ∧ ∀ k u, xs[k]? = some u → cells[i * sz + k]? = some u) (tok : Option TypeId) (htok : ∀ e, tok = some e → e = el) :
    RelV (F.or (regionFoot w.heap.size 0 (n * sz))) (w.alloc (.cells cells el)) ρ (.sl tok sz false n get) (.slice (some ⟨w.heap.size, 0, none⟩) n c) (regionFoot w.heap.size (n * sz) (c * sz - n * sz)) := by
  have hE := Ext.alloc w (.cells cells el)
  have hmul : n * sz ≤ c * sz := Nat.mul_le_mul_right _ hn
  refine ⟨nofun, fun _ => ⟨_, c, rfl, hn, hcm, nofun, fun _ => ⟨w.heap.size, 0, none, rfl, .inl rfl, fun e he => ?_, fun i hi => ?_⟩⟩⟩
  · obtain rfl := htok e he
    exact .inr ⟨rfl, cells, heap_alloc_new w _, hc, fun k h1 h2 => ⟨rfl, h1, by omega⟩⟩
  · obtain ⟨xs, h1, h2, h3⟩ := hel i hi
    have hi2 : (i + 1) * sz ≤ n * sz := Nat.mul_le_mul_right _ (by omega)
    rw [Nat.add_mul, Nat.one_mul] at hi2
    refine ⟨xs, h1, h2.keep hE (Foot.sub_left _ _) (fun g o hg => cell_alloc w _ (hm.live g o hg)) _ (fun _ _ h => h) (fun _ _ h => h.elim) (Foot.Sub.refl _), fun j u hu => ?_, fun j hj => .inr ⟨rfl, by omega, by omega⟩⟩
    rw [cell_new, Nat.zero_add]
    exact h3 j u hu
theorem fresh_put (hm : Mem Γ w F) (hs : Stand Γ F w ρ fam s a.tmps) {d : Nat} (hd : d < a.tmps.size) {el : TypeId} {sz n c : Nat} {get : Nat → V} {cells : Array Value} (hc : cells.size = c * sz) (hn : n ≤ c) (hcm : c ≤ maxLen)
    (hel : ∀ i, i < n → ∃ xs, xs.length = sz ∧ RelT F w noNames (get i) xs none_ ∧ ∀ k u, xs[k]? = some u → cells[i * sz + k]? = some u) (tok : Option TypeId) (htok : ∀ e, tok = some e → e = el) :
    ∃ F' fam', Mem Γ (w.alloc (.cells cells el)) F' ∧ Stand Γ F' (w.alloc (.cells cells el)) ρ fam' { tm := upd s.tm d (.sl tok sz false n get), H := s.H } (a.put (some d) (.slice (some ⟨w.heap.size, 0, none⟩) n c)).tmps := by
  obtain ⟨h1, h2⟩ := hs.fresh hm cells el (n * sz)
  refine ⟨_, _, h1, h2.put d hd (fresh_rel hm hc hn hcm hel tok htok) (fun i _ g o h3 h4 => ?_) (fun g o h3 h4 => ?_) (fun g o h3 => .inl ?_) (fun g o h3 => ?_)⟩
  · have := hs.lt i g o h4
    have := h3.1
    omega
  · rcases h4 with h4 | h4
    · have := hm.live g o h4
      have := h3.1
      omega
    · have := h3.2.1
      have := h4.2.2
      omega
  · have := h3.1; have := hm.ext.size; omega
  · rw [alloc_size]; have := h3.1; omega
theorem closed_rel : ∀ (x : V) {cs : List Value} {fp : Foot}, RelT F w ρ x cs fp → x.closed = true → RelT F w noNames x.demote cs none_ := by
  intro x
  induction x with
  | undef | int | bool | str | nilp | unit | nilf | nili => intro cs fp h _; simpa [RelT, V.demote] using h
  | tup => intro cs fp h _; simp [RelT] at h
  | ptr | own | lent => intro cs fp h hc; simp [V.closed] at hc
  | obox => intro cs fp h _; simp only [RelT, V.demote] at h ⊢; obtain ⟨A, rfl, _⟩ := h; exact ⟨_, rfl, rfl⟩
  | osl => intro cs fp h _; simp only [RelT, V.demote] at h ⊢; obtain ⟨A, c, rfl, _⟩ := h; exact ⟨_, rfl, rfl⟩
  | vp x ih => intro cs fp h _; simpa [RelT, V.demote] using h
  | sl tok s nil n get ih =>
    intro cs fp h _
    have := h.demote
    simpa only [RelT, V.demote] using this
  | cons x r hx hr =>
    intro cs fp h hc
    simp only [RelT, V.demote, V.closed, Bool.and_eq_true] at h hc ⊢
    obtain ⟨a, b, fa, fb, h1, h2, h3, _⟩ := h
    exact ⟨a, b, none_, none_, h1, hx h2 hc.1, hr h3 hc.2, Foot.none_sub _, Foot.none_sub _, Foot.none_off _⟩
  | arr s n get ih =>
    intro cs fp h hc
    simp only [RelT, V.demote, V.closed, List.all_eq_true] at h hc ⊢
    obtain ⟨f, fs, h1, _, h3⟩ := h
    exact ⟨f, fun _ => none_, fun i hi => ⟨(h1 i hi).1, ih i (h1 i hi).2.1 (hc i (List.mem_range.2 hi)), Foot.none_sub _⟩, fun _ _ _ _ _ => Foot.none_off _, h3⟩
  | fn f caps ih =>
    intro cs fp h hc
    simp only [RelT, V.demote, V.closed] at h hc ⊢
    obtain ⟨xs, h1, h2⟩ := h
    exact ⟨xs, h1, ih h2 hc⟩
  | iface t x ih =>
    intro cs fp h hc
    simp only [RelT, V.demote, V.closed] at h hc ⊢
    obtain ⟨xs, v, h1, h2, h3, h4⟩ := h
    exact ⟨xs, v, h1, ih h2 hc, by rw [V.demote_agg]; exact h3, by rw [V.demote_agg]; exact h4⟩
theorem noTok_rel {x : V} {cs : List Value} {fp : Foot} (h : RelT F w ρ x cs fp) (hp : pureV x = true) : RelT F w noNames x.demote cs none_ := closed_rel x h hp
theorem sound_box (hm : Mem Γ w F) (hs : Stand Γ F w ρ fam s a.tmps) (hd : dstOk a.tmps.size o = true) {t : TypeId} {x : Operand} (ho : o.op = .box t x) (h : opW P pol kn o s = some e) (hdst : o.dst.isSome = true) : OpOK P Γ s a w o e := by
  obtain ⟨d, hdst⟩ := Option.isSome_iff_exists.1 hdst
  simp only [opW, ho, hdst, Option.getD_some] at h
  cases hpol : Nat.beq (pol d) 3
  case true =>
    rw [hpol, cond_true] at h
    obtain ⟨hf, h⟩ := cond_some h
    obtain rfl := Option.some.inj h
    simp only [Bool.and_eq_true] at hf
    obtain ⟨_, i, _, _, _, _, hone⟩ := fits_agg hf.1
    have h1 := (evalV_rel hs x).one hone
    have hr := closed_rel _ (cells_of h1 (leaf_ne h1)) hf.2
    have hE := Ext.alloc w (.cells (a.eval x).cells t)
    obtain ⟨m1, m2⟩ := hs.fresh hm (a.eval x).cells t (a.eval x).cells.size
    have hv : RelV (F.or (regionFoot w.heap.size 0 (a.eval x).cells.size)) (w.alloc (.cells (a.eval x).cells t)) ρ (.vp (evalV s.tm x).demote) (.pointer (some ⟨w.heap.size, 0, none⟩)) none_ := by
      refine ⟨nofun, fun _ => ⟨w.heap.size, 0, (a.eval x).cells.toList, rfl, hr.keep hE (Foot.sub_left _ _) (fun g o hg => cell_alloc w _ (hm.live g o hg)) _ (fun _ _ h => h) (fun _ _ h => h.elim) (Foot.Sub.refl _), fun j u hu => ?_, fun j hj => .inr ⟨rfl, by omega, ?_⟩⟩⟩
      · rw [cell_new, Nat.zero_add, ← Array.getElem?_toList]; exact hu
      · rw [Array.length_toList] at hj; omega
    have h3 := Stand.val (a := a) m2 [] d (dstOk_lt hd hdst) hv (Foot.none_sub _)
    refine .of (v := .pointer (some ⟨w.heap.size, 0, none⟩)) ?_ m1 h3 (by simp only [applyE, hdst, takes_nil]) (by rw [hdst])
    simp only [execOp, ho, Instr.box, Sem.run_bind, newVar_run, Result.andThen_ok, Sem.run_pure]
  rw [hpol, cond_false] at h
  split at h <;> (try cases h)
  rename_i hH
  obtain ⟨hf, h⟩ := cond_some h
  obtain rfl := Option.some.inj h
  obtain ⟨_, i, _, _, _, _, hone⟩ := fits_agg hf
  obtain ⟨fr, h1, h2⟩ := takeOf_sub (fam := fam) (evalV_rel hs x)
  have hr := cells_of (h1.one hone) (leaf_ne (h1.one hone))
  refine sound_new (t := t) hm hs hd hdst hH hr h2 ?_ rfl
  simp only [execOp, ho, Instr.box, Sem.run_bind, newVar_run, Result.andThen_ok, Sem.run_pure]
theorem fill_seq (sz : Nat) : ∀ (vs : List Value) (k : Nat) (pre post : List Value), (∀ v ∈ vs, v.cells.size = sz) → pre.length = k * sz → post.length = vs.length * sz →
    Instr.fill (fun i => some (i * sz, sz)) (pre ++ post).toArray ((vs.zipIdx k).map fun p => (p.2, p.1)) = some (pre ++ vs.flatMap fun v => v.cells.toList).toArray := by
  intro vs
  induction vs with
  | nil => intro k pre post _ _ h; obtain rfl : post = [] := List.eq_nil_of_length_eq_zero (by simpa using h); simp [Instr.fill]
  | cons v vs ih =>
    intro k pre post hv hpre hpost
    have hsz := hv v (by simp)
    simp only [List.length_cons, Nat.add_mul, Nat.one_mul] at hpost
    have e1 : pre ++ post = pre ++ post.take sz ++ post.drop sz := by simp
    simp only [List.zipIdx_cons, List.map_cons]
    rw [e1, fill_one (place := fun i => some (i * sz, sz)) (i := k) rfl hpre (by rw [List.length_take]; omega) hsz]
    have := ih (k + 1) (pre ++ v.cells.toList) (post.drop sz) (fun u hu => hv u (by simp [hu])) (by have := Array.length_toList (xs := v.cells); rw [List.length_append, this, hpre, hsz, Nat.add_mul, Nat.one_mul]) (by rw [List.length_drop]; omega)
    rw [this]
    simp
theorem partsOk_zip : ∀ (l : List (Nat × V)) (ps : List (Nat × Operand)) (ev : Operand → V) (av : Operand → Value) (k : Nat), l = ps.map (fun p => (p.1, ev p.2)) → partsOk k l = true →
    ps.map (fun p => (p.1, av p.2)) = ((ps.map fun p => av p.2).zipIdx k).map fun p => (p.2, p.1) := by
  intro l ps
  induction ps generalizing l with
  | nil => intro ev av k _ _; rfl
  | cons p ps ih =>
    intro ev av k hl h
    subst hl
    simp only [List.map_cons, partsOk, Bool.and_eq_true] at h
    have h1 := Nat.eq_of_beq_eq_true h.1
    simp only [List.map_cons, List.zipIdx_cons]
    rw [ih _ ev av (k + 1) rfl h.2, h1]
theorem partGet_eq (z : V) : ∀ (l : List (Nat × V)) (k j : Nat), partsOk k l = true → j < l.length → partGet z l (k + j) = (l.map (·.2)).getD j .undef := by
  intro l
  induction l with
  | nil => intro k j _ h; simp at h
  | cons x l ih =>
    obtain ⟨i, x⟩ := x
    intro k j hk h
    simp only [partsOk, Bool.and_eq_true] at hk
    obtain rfl := Nat.eq_of_beq_eq_true hk.1
    cases l with
    | nil =>
      obtain rfl : j = 0 := by simpa using h
      rfl
    | cons y l =>
      show V.mix (Nat.beq (i + j) i) x (partGet z (y :: l) (i + j)) = _
      rw [V.mix_eq]
      cases j with
      | zero => simp
      | succ j =>
        have e : Nat.beq (i + (j + 1)) i = false := by
          cases hb : Nat.beq (i + (j + 1)) i
          · rfl
          · have := Nat.eq_of_beq_eq_true hb; omega
        rw [e, cond_false, show i + (j + 1) = i + 1 + j by omega, ih (i + 1) j hk.2 (by simpa using h)]
        simp
theorem flatMap_len {α : Type} {sz : Nat} {f : α → List Value} : ∀ (vs : List α), (∀ v ∈ vs, (f v).length = sz) → (vs.flatMap f).length = vs.length * sz := by
  intro vs
  induction vs with
  | nil => intro _; simp
  | cons x vs ih =>
    intro h
    rw [List.flatMap_cons, List.length_append, h x (by simp), ih (fun v hv => h v (by simp [hv])), List.length_cons, Nat.add_mul]
    omega
theorem flatMap_get {α : Type} {sz : Nat} {f : α → List Value} : ∀ (vs : List α) (i k : Nat) {v : α} {u : Value}, (∀ v ∈ vs, (f v).length = sz) → vs[i]? = some v → (f v)[k]? = some u → (vs.flatMap f)[i * sz + k]? = some u := by
  intro vs
  induction vs with
  | nil => intro i k v u _ h; simp at h
  | cons x vs ih =>
    intro i k v u hl hv hu
    rw [List.flatMap_cons]
    cases i with
    | zero =>
      simp only [List.getElem?_cons_zero, Option.some.injEq] at hv
      subst hv
      have := (List.getElem?_eq_some_iff.1 hu).1
      rw [Nat.zero_mul, Nat.zero_add, List.getElem?_append_left this]
      exact hu
    | succ i =>
      rw [List.getElem?_cons_succ] at hv
      have := ih i k (fun v hv => hl v (by simp [hv])) hv hu
      have hx := hl x (by simp)
      rw [List.getElem?_append_right (by rw [hx, Nat.add_mul]; omega), ← this, hx]
      congr 1
      rw [Nat.add_mul]
      omega
theorem sound_buildSlice (hm : Mem Γ w F) (hs : Stand Γ F w ρ fam s a.tmps) (hd : dstOk a.tmps.size o = true) {t : TypeId} {len : Nat} {ps : Array (Nat × Operand)} (ho : o.op = .buildSlice t len ps) (h : opW P pol kn o s = some e) {d : Nat} (hdst : o.dst = some d) (hpol : Nat.beq (pol d) 1 = false) : OpOK P Γ s a w o e := by
  simp only [opW, ho, hdst, Option.getD_some] at h
  split at h <;> (try cases h)
  rename_i el i hel
  unfold elemOf at hel
  split at hel <;> (try cases hel)
  rename_i e0 hu
  simp only [Option.map_eq_some_iff, Prod.mk.injEq] at hel
  obtain ⟨i', hi, rfl, rfl⟩ := hel
  rw [hpol, cond_false] at h
  obtain ⟨hc, h⟩ := cond_some h
  obtain rfl := Option.some.inj h
  simp only [Bool.and_eq_true, List.all_eq_true] at hc
  obtain ⟨hz, hl, hparts, hgood, hsmall, hsmall2⟩ := hc
  obtain ⟨z, hz⟩ := Option.isSome_iff_exists.1 hz
  have hl := Nat.eq_of_beq_eq_true hl
  have hsmall := Nat.le_of_ble_eq_true hsmall
  have hsmall2 := Nat.le_of_ble_eq_true hsmall2
  -- the parts' values
  have hgood' : ∀ p ∈ ps.toList, RelT F w noNames (copyOf (evalV s.tm p.2)) (a.eval p.2).cells.toList none_ ∧ (a.eval p.2).cells.size = i'.size := by
    intro p hp
    have h1 := hgood.1 (p.1, evalV s.tm p.2) (List.mem_map.2 ⟨p, hp, rfl⟩)
    have h2 := hgood.2 (p.1, copyOf (evalV s.tm p.2)) (List.mem_map.2 ⟨p, hp, rfl⟩)
    obtain ⟨_, i2, _, k1, k2, _, hone⟩ := fits_agg h2
    rw [hi] at k1
    obtain rfl := Option.some.inj k1
    have hone' : (evalV s.tm p.2).one = true := by rw [copyOf_eq] at hone; revert hone; cases evalV s.tm p.2 <;> simp [V.demote, V.one]
    have hrel := (evalV_rel hs p.2).one hone'
    have hcells := closed_rel _ (cells_of hrel (leaf_ne hrel)) h1
    rw [← copyOf_eq] at hcells
    refine ⟨hcells, ?_⟩
    have := hcells.length
    rw [← k2] at this
    have h3 := Array.length_toList (xs := (a.eval p.2).cells)
    omega
  have hll : ps.toList.length = len := by simpa using hl
  have hpairs : (ps.map fun p => (p.1, a.eval p.2)).toList = ((ps.toList.map fun p => a.eval p.2).zipIdx 0).map fun p => (p.2, p.1) := by
    rw [Array.toList_map]
    exact partsOk_zip _ ps.toList (fun x => copyOf (evalV s.tm x)) a.eval 0 rfl hparts
  have hfill : ∀ Z : Array Value, Z.size = len * i'.size → Instr.fill (fun i => some (i * i'.size, i'.size)) Z (ps.map fun p => (p.1, a.eval p.2)).toList = some ((ps.toList.map fun p => a.eval p.2).flatMap fun v => v.cells.toList).toArray := by
    intro Z hZ
    rw [hpairs]
    have := fill_seq i'.size (ps.toList.map fun p => a.eval p.2) 0 [] Z.toList (fun v hv => by
      obtain ⟨p, hp, rfl⟩ := List.mem_map.1 hv
      exact (hgood' p hp).2) (by simp) (by have h3 := Array.length_toList (xs := Z); rw [List.length_map, hll]; omega)
    simpa using this
  have hbig : ¬ (len * i'.size > 2 ^ 24) := by omega
  have heach : ∀ v ∈ ps.toList.map fun p => a.eval p.2, v.cells.toList.length = i'.size := by
    intro v hv
    obtain ⟨p, hp, rfl⟩ := List.mem_map.1 hv
    have h3 := Array.length_toList (xs := (a.eval p.2).cells)
    rw [h3]
    exact (hgood' p hp).2
  have hflat := flatMap_len (f := fun v : Value => v.cells.toList) _ heach
  rw [List.length_map, hll] at hflat
  have hrun : (execOp a.eval o).run P w = .ok (.value (.slice (some ⟨w.heap.size, 0, none⟩) len len)) (w.alloc (.cells ((ps.toList.map fun p => a.eval p.2).flatMap fun v => v.cells.toList).toArray e0)) := by
    simp only [execOp, ho, Instr.buildSlice, Sem.run_bind, run_underlying hu, Result.andThen_ok, Go.sizeOf, rti hi, Sem.run_pure, hbig, if_false]
    by_cases h0 : len * i'.size = 0
    · simp only [h0, if_true, Sem.run_bind, Sem.run_pure, Result.andThen_ok]
      have := hfill ((Array.range 0).map fun x => (#[] : Array Value)[x % (#[] : Array Value).size]!) (by simp [h0])
      rw [this]
      rfl
    · simp only [h0, if_false, Sem.run_bind, run_zeroValue hi hz, Result.andThen_ok, Sem.run_pure]
      have := hfill ((Array.range (len * i'.size)).map fun x => z.cells[x % z.cells.size]!) (by simp)
      rw [this]
      rfl
  have hget : ∀ j, j < len → ∃ p, ps.toList[j]? = some p ∧ partGet ((zeroOf P e0).getD .undef) (ps.toList.map fun p => (p.1, copyOf (evalV s.tm p.2))) j = copyOf (evalV s.tm p.2) := by
    intro j hj
    obtain ⟨p, hp⟩ : ∃ p, ps.toList[j]? = some p := ⟨_, List.getElem?_eq_getElem (by omega)⟩
    refine ⟨p, hp, ?_⟩
    have hpg := partGet_eq ((zeroOf P e0).getD .undef) (ps.toList.map fun p => (p.1, copyOf (evalV s.tm p.2))) 0 j hparts (by simpa [hll] using hj)
    rw [Nat.zero_add] at hpg
    rw [hpg]
    simp [List.getD_eq_getElem?_getD, hp]
  obtain ⟨F', fam', s1, s2⟩ := fresh_put (d := d) hm hs (dstOk_lt hd hdst) (el := e0) (sz := i'.size) (n := len) (c := len) (cells := ((ps.toList.map fun p => a.eval p.2).flatMap fun v => v.cells.toList).toArray) (by simp only [List.size_toArray]; exact hflat) (Nat.le_refl _) (by unfold maxLen; omega)
    (fun j hj => by
      obtain ⟨p, hp, hgp⟩ := hget j hj
      have hmem : p ∈ ps.toList := List.mem_of_getElem? hp
      refine ⟨(a.eval p.2).cells.toList, heach _ (List.mem_map.2 ⟨p, hmem, rfl⟩), hgp ▸ (hgood' p hmem).1, fun k u hu => ?_⟩
      have := flatMap_get (f := fun v : Value => v.cells.toList) (ps.toList.map fun p => a.eval p.2) j k heach (v := a.eval p.2) (u := u) (by simp [hp]) hu
      simpa using this) (some e0) (fun _ h => by cases h; rfl)
  exact .of hrun s1 s2 (by simp only [applyE, hdst, takes_nil]) (by rw [hdst])
end
end Go.Vm
end
section
namespace Go.Vm
open Go
section
variable {P : Program} {Γ : Ctx} {F : Foot} {w : World} {ρ : Names} {fam : Fam} {s : St} {a : Act} {o : Oper} {kn : Nat → Option Bool} {pol : Nat → Nat} {e : Eff}
theorem flat_of_list {α : Type} : ∀ (l : List α) (f : α → List Value) (g : Nat → List Value) (n : Nat), l.length = n → (∀ j x, l[j]? = some x → f x = g j) → l.flatMap f = (List.range n).flatMap g := by
  intro l f g n hl h
  induction l generalizing g n with
  | nil => subst hl; rfl
  | cons x l ih =>
    subst hl
    rw [List.length_cons, List.range_succ_eq_map, List.flatMap_cons, List.flatMap_cons, List.flatMap_map, h 0 x rfl, ih (fun j => g (j + 1)) l.length rfl fun j y hy => h (j + 1) y (by simpa using hy)]
theorem flatMap_disj {α : Type} {f : α → List Nat} : ∀ {l : List α}, (l.flatMap f).Nodup → ∀ {i j : Nat} {p q : α} {x : Nat}, i ≠ j → l[i]? = some p → l[j]? = some q → x ∈ f p → x ∈ f q → False := by
  intro l
  induction l with
  | nil => intro _ i j p q x _ h; simp at h
  | cons a l ih =>
    intro hn i j p q x hij hp hq h1 h2
    rw [List.flatMap_cons] at hn
    obtain ⟨n1, n2, n3⟩ := List.nodup_append.1 hn
    cases i with
    | zero =>
      cases j with
      | zero => exact hij rfl
      | succ j =>
        simp only [List.getElem?_cons_zero, Option.some.injEq] at hp
        subst hp
        exact n3 x h1 x (List.mem_flatMap.2 ⟨q, List.mem_of_getElem? (by simpa using hq), h2⟩) rfl
    | succ i =>
      cases j with
      | zero =>
        simp only [List.getElem?_cons_zero, Option.some.injEq] at hq
        subst hq
        exact n3 x h2 x (List.mem_flatMap.2 ⟨p, List.mem_of_getElem? (by simpa using hp), h1⟩) rfl
      | succ j => exact ih n2 (i := i) (j := j) (by omega) (by simpa using hp) (by simpa using hq) h1 h2
theorem famPut_none {fam : Fam} {l : List Nat} {i : Ix} {g o : Nat} (h : famPut fam l none none_ i g o) : fam i g o ∧ ∀ t ∈ l, i ≠ .t t := by
  cases i with
  | b i => exact ⟨h, fun _ _ => nofun⟩
  | t u =>
    simp only [famPut, reduceCtorEq, if_false] at h
    split at h
    · exact h.elim
    · rename_i hu
      exact ⟨h, fun t ht e => by cases e; exact hu ht⟩
theorem osl_new {el : TypeId} {sz n c : Nat} {get : Nat → V} {cells : Array Value} {F' : Foot} (hF' : F.Sub F') (hlive : ∀ g o, F g o → g < w.heap.size) {fp : Foot} (hfp : ∀ g o, fp g o → g < w.heap.size)
    (hc : cells.size = c * sz) (hn : n ≤ c) (hcm : c ≤ maxLen) {f : Nat → List Value} {fs : Nat → Foot} {rest : List Value} (hcells : cells.toList = (List.range n).flatMap f ++ rest)
    (hel : ∀ i, i < n → (f i).length = sz ∧ RelT F w ρ (get i) (f i) (fs i) ∧ (fs i).Sub fp) (hoff : ∀ i j, i < n → j < n → i ≠ j → (fs i).Off (fs j)) :
    RelV F' (w.alloc (.cells cells el)) ρ (.osl el sz false n get) (.slice (some ⟨w.heap.size, 0, none⟩) n c) (fun g o => regionFoot w.heap.size 0 (c * sz) g o ∨ fp g o) := by
  have hE := Ext.alloc w (.cells cells el)
  have hlen : ((List.range n).flatMap f).length = n * sz := flatMap_length n fun i hi => (hel i hi).1
  have hmul : n * sz ≤ c * sz := Nat.mul_le_mul_right _ hn
  refine ⟨nofun, fun _ => ⟨_, c, rfl, hn, hcm, nofun, fun _ => ⟨w.heap.size, 0, rfl, ?_, fun _ _ h => .inl h, _, f, fs, rfl, ⟨fun j u hu => ?_, fun j hj => ?_, fun j hj => .inl ⟨rfl, by omega, by omega⟩⟩, fun i hi => ?_, hoff⟩⟩⟩
  · refine .inr ⟨rfl, cells, heap_alloc_new w _, hc, fun k h1 h2 => ⟨rfl, by omega, ?_⟩⟩
    have : n * sz + (c - n) * sz = c * sz := by rw [← Nat.add_mul]; congr 1; omega
    omega
  · rw [cell_new, Nat.zero_add, ← Array.getElem?_toList, hcells, List.getElem?_append_left (List.getElem?_eq_some_iff.1 hu).1]
    exact hu
  · unfold World.frozen?; rw [heap_alloc_new]; simp
  · refine ⟨(hel i hi).1, (hel i hi).2.1.keep hE hF' (fun g o hg => cell_alloc w _ (hlive g o hg)) _ (fun _ _ h => h) (fun g o hg => cell_alloc w _ (hfp g o ((hel i hi).2.2 g o hg))) (Foot.Sub.refl _), fun g o hg => .inr ((hel i hi).2.2 g o hg), fun g o hg hr => ?_⟩
    have := hfp g o ((hel i hi).2.2 g o hg)
    have := hr.1
    omega
theorem fresh_osl (hm : Mem Γ w F) (hs : Stand Γ F w ρ fam s a.tmps) (l : List Nat) {d : Nat} (hd : d < a.tmps.size) {el : TypeId} {sz n c : Nat} {get : Nat → V} {cells : Array Value}
    (hc : cells.size = c * sz) (hn : n ≤ c) (hcm : c ≤ maxLen) {f : Nat → List Value} {fs : Nat → Foot} {rest : List Value} (hcells : cells.toList = (List.range n).flatMap f ++ rest)
    (hel : ∀ i, i < n → (f i).length = sz ∧ RelT F w ρ (get i) (f i) (fs i) ∧ (fs i).Sub (sumT fam l)) (hoff : ∀ i j, i < n → j < n → i ≠ j → (fs i).Off (fs j)) :
    ∃ F' fam', Mem Γ (w.alloc (.cells cells el)) F' ∧ Stand Γ F' (w.alloc (.cells cells el)) ρ fam' { tm := upd (takes s.tm l) d (.osl el sz false n get), H := s.H } (a.put (some d) (.slice (some ⟨w.heap.size, 0, none⟩) n c)).tmps := by
  have hdr := hs.drop l
  obtain ⟨h1, h2⟩ := Stand.fresh (a := a) hm hdr cells el 0
  have hlt : ∀ g o, sumT fam l g o → g < w.heap.size := fun g o ⟨t, _, h⟩ => hs.lt _ g o h
  refine ⟨_, _, h1, h2.put d hd (osl_new (Foot.sub_left _ _) hm.live hlt hc hn hcm hcells hel hoff) (fun i hi g o h3 h4 => ?_) (fun g o h3 h4 => ?_) (fun g o h3 => ?_) (fun g o h3 => ?_)⟩
  · obtain ⟨k1, k2⟩ := famPut_none h4
    rcases h3 with h3 | ⟨t, ht, h3⟩
    · have := hs.lt i g o k1
      have := h3.1
      omega
    · exact hs.off (.t t) i (fun e => k2 t ht e.symm) g o h3 k1
  · rcases h4 with h4 | h4
    · rcases h3 with h3 | ⟨t, ht, h3⟩
      · have := hm.live g o h4
        have := h3.1
        omega
      · exact hs.offF _ g o h3 h4
    · have := h4.2.2; have := h4.2.1; omega
  · rcases h3 with h3 | ⟨t, ht, h3⟩
    · left; have := h3.1; have := hm.ext.size; omega
    · exact hs.new _ g o h3
  · rw [alloc_size]
    rcases h3 with h3 | ⟨t, ht, h3⟩
    · have := h3.1; omega
    · have := hs.lt _ g o h3; omega
theorem Stand.lend {vs : Array Value} (h : Stand Γ F w ρ fam s vs) {t : Nat} {id2 : Id} (hid : s.H id2 = none) (hloc : ∀ i, .par i ≠ id2) {e : TypeId} {sz n : Nat} {nil : Bool} {get : Nat → V} (ht : s.tm t = .osl e sz nil n get) :
    ∃ ρ' fam', Stand Γ F w ρ' fam' { tm := upd s.tm t (.lent id2 e sz nil n), H := updH s.H id2 (some (.arr sz n get)) } vs := by
  have h1 := h.tm t
  rw [ht] at h1
  obtain ⟨r, fe, fs, k1, k2, k3, k4, k5⟩ := osl_open ((h.nm id2).1 hid) (inv_leaf h1 rfl rfl)
  exact ⟨_, _, h.splitT hid hloc (val_leaf k5 rfl rfl) k4 k3 k2 k1⟩
theorem upd_upd {α : Type} (f : Nat → α) (t : Nat) (x y : α) : upd (upd f t x) t y = upd f t y := by
  funext u
  by_cases e : u = t
  · subst e; rw [upd_same, upd_same]
  · rw [upd_ne _ _ e, upd_ne _ _ e, upd_ne _ _ e]
theorem fixN_relV {el : TypeId} {x : V} {v : Value} {fp : Foot} (h : RelV F w ρ x v fp) : RelV F w ρ (fixN P el x) v fp := by
  unfold fixN
  split
  · split
    · rename_i s' g' _
      obtain ⟨A, c, rfl, h1, h2, h3, h4⟩ := inv_sl h
      have k : ∀ tok, RelV F w ρ (.sl tok s' true 0 g') (.slice A 0 c) fp := fun tok => val_leaf ⟨A, c, rfl, h1, h2, h3, nofun⟩ rfl rfl
      unfold tokZ
      split
      · rename_i hz
        cases hz
        exact k _
      · exact k _
    · exact h
  · exact h
theorem sound_buildO (hm : Mem Γ w F) (hs : Stand Γ F w ρ fam s a.tmps) (hd : dstOk a.tmps.size o = true) {t : TypeId} {len : Nat} {ps : Array (Nat × Operand)} (ho : o.op = .buildSlice t len ps) (h : opW P pol kn o s = some e) {d : Nat} (hdst : o.dst = some d) (hpol : Nat.beq (pol d) 1 = true) : OpOK P Γ s a w o e := by
  simp only [opW, ho, hdst, Option.getD_some] at h
  split at h <;> (try cases h)
  rename_i el i hel
  unfold elemOf at hel
  split at hel <;> (try cases hel)
  rename_i e0 hu
  simp only [Option.map_eq_some_iff, Prod.mk.injEq] at hel
  obtain ⟨i', hi, rfl, rfl⟩ := hel
  rw [hpol, cond_true] at h
  unfold buildO at h
  obtain ⟨hc, h⟩ := cond_some h
  obtain rfl := Option.some.inj h
  simp only [Bool.and_eq_true, List.all_eq_true] at hc
  obtain ⟨hz, hl, hparts, hgood, hnd, hsmall, hsmall2⟩ := hc
  obtain ⟨z, hz⟩ := Option.isSome_iff_exists.1 hz
  have hl := Nat.eq_of_beq_eq_true hl
  have hnd := nodupB_ok hnd
  have hsmall := Nat.le_of_ble_eq_true hsmall
  have hsmall2 := Nat.le_of_ble_eq_true hsmall2
  have hgood' : ∀ p ∈ ps.toList, ∃ fr, RelT F w ρ (fixN P e0 (evalV s.tm p.2)) (a.eval p.2).cells.toList fr ∧ fr.Sub (sumT fam (takeOf p.2 (evalV s.tm p.2))) ∧ (a.eval p.2).cells.size = i'.size := by
    intro p hp
    have h2 := hgood (p.1, fixN P e0 (evalV s.tm p.2)) (List.mem_map.2 ⟨p, hp, rfl⟩)
    obtain ⟨_, i2, _, k1, k2, _, hone⟩ := fits_agg h2
    rw [hi] at k1
    obtain rfl := Option.some.inj k1
    obtain ⟨fr, m1, m2⟩ := takeOf_sub (fam := fam) (evalV_rel hs p.2)
    have hrel := (fixN_relV (P := P) (el := e0) m1).one hone
    have hcells := cells_of hrel (leaf_ne hrel)
    refine ⟨fr, hcells, m2, ?_⟩
    have := hcells.length
    rw [← k2] at this
    have h3 := Array.length_toList (xs := (a.eval p.2).cells)
    omega
  have hll : ps.toList.length = len := by simpa using hl
  have hpairs : (ps.map fun p => (p.1, a.eval p.2)).toList = ((ps.toList.map fun p => a.eval p.2).zipIdx 0).map fun p => (p.2, p.1) := by
    rw [Array.toList_map]
    exact partsOk_zip _ ps.toList (fun x => fixN P e0 (evalV s.tm x)) a.eval 0 rfl hparts
  have hfill : ∀ Z : Array Value, Z.size = len * i'.size → Instr.fill (fun i => some (i * i'.size, i'.size)) Z (ps.map fun p => (p.1, a.eval p.2)).toList = some ((ps.toList.map fun p => a.eval p.2).flatMap fun v => v.cells.toList).toArray := by
    intro Z hZ
    rw [hpairs]
    have := fill_seq i'.size (ps.toList.map fun p => a.eval p.2) 0 [] Z.toList (fun v hv => by
      obtain ⟨p, hp, rfl⟩ := List.mem_map.1 hv
      obtain ⟨_, _, _, h⟩ := hgood' p hp
      exact h) (by simp) (by have h3 := Array.length_toList (xs := Z); rw [List.length_map, hll]; omega)
    simpa using this
  have hbig : ¬ (len * i'.size > 2 ^ 24) := by omega
  have heach : ∀ v ∈ ps.toList.map fun p => a.eval p.2, v.cells.toList.length = i'.size := by
    intro v hv
    obtain ⟨p, hp, rfl⟩ := List.mem_map.1 hv
    have h3 := Array.length_toList (xs := (a.eval p.2).cells)
    rw [h3]
    obtain ⟨_, _, _, h⟩ := hgood' p hp
    exact h
  have hflat := flatMap_len (f := fun v : Value => v.cells.toList) _ heach
  rw [List.length_map, hll] at hflat
  have hrun : (execOp a.eval o).run P w = .ok (.value (.slice (some ⟨w.heap.size, 0, none⟩) len len)) (w.alloc (.cells ((ps.toList.map fun p => a.eval p.2).flatMap fun v => v.cells.toList).toArray e0)) := by
    simp only [execOp, ho, Instr.buildSlice, Sem.run_bind, run_underlying hu, Result.andThen_ok, Go.sizeOf, rti hi, Sem.run_pure, hbig, if_false]
    by_cases h0 : len * i'.size = 0
    · simp only [h0, if_true, Sem.run_bind, Sem.run_pure, Result.andThen_ok]
      have := hfill ((Array.range 0).map fun x => (#[] : Array Value)[x % (#[] : Array Value).size]!) (by simp [h0])
      rw [this]
      rfl
    · simp only [h0, if_false, Sem.run_bind, run_zeroValue hi hz, Result.andThen_ok, Sem.run_pure]
      have := hfill ((Array.range (len * i'.size)).map fun x => z.cells[x % z.cells.size]!) (by simp)
      rw [this]
      rfl
  have hex : ∀ j : Nat, ∃ fc : List Value × Foot, ∀ p, ps.toList[j]? = some p → fc.1 = (a.eval p.2).cells.toList ∧ RelT F w ρ (fixN P e0 (evalV s.tm p.2)) fc.1 fc.2 ∧ fc.2.Sub (sumT fam (takeOf p.2 (evalV s.tm p.2))) ∧ fc.1.length = i'.size := by
    intro j
    cases hj : ps.toList[j]? with
    | none => exact ⟨([], none_), fun p h => by cases h⟩
    | some p =>
      obtain ⟨fr, h1, h2, h3⟩ := hgood' p (List.mem_of_getElem? hj)
      exact ⟨((a.eval p.2).cells.toList, fr), fun q hq => by cases hq; exact ⟨rfl, h1, h2, by rw [Array.length_toList]; exact h3⟩⟩
  obtain ⟨fc, hfc⟩ := Classical.axiomOfChoice hex
  have hat : ∀ j, j < len → ∃ p, ps.toList[j]? = some p := fun j hj => ⟨_, List.getElem?_eq_getElem (by omega)⟩
  have hcl : ((ps.toList.map fun p => a.eval p.2).flatMap fun v => v.cells.toList) = (List.range len).flatMap fun j => (fc j).1 := by
    rw [List.flatMap_map]
    refine flat_of_list ps.toList (fun p => (a.eval p.2).cells.toList) (fun j => (fc j).1) len hll fun j p hp => (hfc j p hp).1.symm
  have htkoff : ∀ (i j : Nat) (p q : Nat × Operand), i ≠ j → ps.toList[i]? = some p → ps.toList[j]? = some q → (sumT fam (takeOf p.2 (evalV s.tm p.2))).Off (sumT fam (takeOf q.2 (evalV s.tm q.2))) := by
    intro i j p q hij hp hq
    refine sumT_off hs fun x h1 h2 => ?_
    exact flatMap_disj (f := fun p : Nat × Operand => takeOf p.2 (evalV s.tm p.2)) hnd hij hp hq h1 h2
  have hel : ∀ j, j < len → ((fc j).1).length = i'.size ∧ RelT F w ρ (partGet ((zeroOf P e0).getD .undef) (ps.toList.map fun p => (p.1, fixN P e0 (evalV s.tm p.2))) j) (fc j).1 (fc j).2 ∧ (fc j).2.Sub (sumT fam (ps.toList.flatMap fun p => takeOf p.2 (evalV s.tm p.2))) := by
    intro j hj
    obtain ⟨p, hp⟩ := hat j hj
    obtain ⟨h1, h2, h3, h4⟩ := hfc j p hp
    have hpg := partGet_eq ((zeroOf P e0).getD .undef) (ps.toList.map fun p => (p.1, fixN P e0 (evalV s.tm p.2))) 0 j hparts (by simpa [hll] using hj)
    rw [Nat.zero_add] at hpg
    rw [hpg]
    refine ⟨h4, by simpa [List.getD_eq_getElem?_getD, hp] using h2, fun g o hg => ?_⟩
    obtain ⟨t, ht, hto⟩ := h3 g o hg
    exact ⟨t, List.mem_flatMap.2 ⟨p, List.mem_of_getElem? hp, ht⟩, hto⟩
  obtain ⟨F', fam', s1, s2⟩ := fresh_osl (a := a) (el := e0) (sz := i'.size) (n := len) (c := len) (cells := ((ps.toList.map fun p => a.eval p.2).flatMap fun v => v.cells.toList).toArray) hm hs (ps.toList.flatMap fun p => takeOf p.2 (evalV s.tm p.2)) (dstOk_lt hd hdst)
    (by simp only [List.size_toArray]; exact hflat) (Nat.le_refl _) (by unfold maxLen; omega) (f := fun j => (fc j).1) (fs := fun j => (fc j).2) (rest := []) (by rw [← hcl, List.append_nil]) hel
    (fun i j hi hj hij => by
      obtain ⟨p, hp⟩ := hat i hi
      obtain ⟨q, hq⟩ := hat j hj
      exact (htkoff i j p q hij hp hq).mono (hfc i p hp).2.2.1 (hfc j q hq).2.2.1)
  exact .of hrun s1 s2 (by simp only [applyE, hdst]) (by rw [hdst])
end
end Go.Vm
end
section
namespace Go.Vm
open Go
theorem wrap_id {n : Int} (h0 : 0 ≤ n) (h1 : n ≤ 9223372036854775807) : IntKind.i64.wrap n = n := by
  have e : n % 18446744073709551616 = n := Int.emod_eq_of_lt h0 (by omega)
  have h : ¬ (n ≥ 9223372036854775808) := by omega
  simp [IntKind.wrap, IntKind.bits, IntKind.signed, e, h]
theorem zero_cells (Z : Array Value) (c : Nat) : ((Array.range (c * Z.size)).map fun i => Z[i % Z.size]!).toList = (List.range c).flatMap fun _ => Z.toList := by
  have hl : ((List.range c).flatMap fun _ : Nat => Z.toList).length = c * Z.size := by
    rw [flatMap_length (s := Z.size) c (fun _ _ => by simp)]
  apply List.ext_getElem?
  intro i
  by_cases hi : i < c * Z.size
  · have hpos : 0 < Z.size := by
      rcases Nat.eq_zero_or_pos Z.size with h | h
      · rw [h] at hi; omega
      · exact h
    have hdiv : i / Z.size < c := (Nat.div_lt_iff_lt_mul hpos).2 hi
    have hmod : i % Z.size < Z.size := Nat.mod_lt _ hpos
    have hr := flatMap_get (f := fun _ : Nat => Z.toList) (List.range c) (i / Z.size) (i % Z.size) (v := i / Z.size) (u := Z[i % Z.size]) (sz := Z.size) (fun _ _ => by simp) (by simp [hdiv]) (by simp [hmod])
    have e : i / Z.size * Z.size + i % Z.size = i := by rw [Nat.mul_comm]; exact Nat.div_add_mod i Z.size
    rw [e] at hr
    rw [hr]
    simp [hi, hmod]
  · rw [List.getElem?_eq_none (by simp; omega), List.getElem?_eq_none (by rw [hl]; omega)]
section
variable {P : Program} {Γ : Ctx} {F : Foot} {w : World} {ρ : Names} {fam : Fam} {s : St} {a : Act} {o : Oper} {kn : Nat → Option Bool} {pol : Nat → Nat} {e : Eff}
theorem makeV_need {m d : Nat} {e : TypeId} {need : Bool} {sz n : Nat} {z : V} {x : Eff} (h : makeV m d e need sz n z = some x) : x.need = need := by
  unfold makeV at h
  split at h
  · obtain rfl := Option.some.inj h; rfl
  · obtain rfl := Option.some.inj h; rfl
  · obtain ⟨_, h⟩ := cond_some h; obtain rfl := Option.some.inj h; rfl
theorem sound_makeSlice (hm : Mem Γ w F) (hs : Stand Γ F w ρ fam s a.tmps) (hd : dstOk a.tmps.size o = true) {t : TypeId} {x y : Operand} (ho : o.op = .makeSlice t x y) (h : opW P pol kn o s = some e) (hn : e.need = true) (hdst : o.dst.isSome = true) : OpOK P Γ s a w o e := by
  obtain ⟨d, hdst⟩ := Option.isSome_iff_exists.1 hdst
  simp only [opW, ho, hdst, Option.getD_some] at h
  have hx := evalV_rel hs x
  have hy := evalV_rel hs y
  split at h <;> (try cases h)
  rename_i el i k l k' c hel hex hey hid
  rw [hex] at hx; rw [hey] at hy
  unfold elemOf at hel
  split at hel <;> (try cases hel)
  rename_i e0 hu
  simp only [Option.map_eq_some_iff, Prod.mk.injEq] at hel
  obtain ⟨i', hi, rfl, rfl⟩ := hel
  split at h <;> (try cases h)
  rename_i z hz
  rw [makeV_need h] at hn
  simp only [Bool.and_eq_true, upto_iff, ile, room, decide_eq_true_eq] at hn
  obtain ⟨⟨⟨h1, h2⟩, h3⟩, h4⟩ := hn
  obtain ⟨iz, v, hiz, hv, hrz, hfit⟩ := zeroOf_rel (F := F) (w := w) (ρ := ρ) hz
  rw [hi] at hiz
  obtain rfl := Option.some.inj hiz
  obtain ⟨_, i2, _, q1, q2, _, _⟩ := fits_agg hfit
  rw [hi] at q1
  obtain rfl := Option.some.inj q1
  have hvs : v.cells.size = i'.size := by
    have := hrz.length
    have h3 := Array.length_toList (xs := v.cells)
    omega
  have hc : (c.toNat : Int) = c := Int.toNat_of_nonneg h2
  have hbytes : ¬ ((i'.bytes : Int) * c > 281474976710656) := by
    have : (i'.bytes : Int) * c = ((c.toNat * i'.bytes : Nat) : Int) := by rw [← hc]; simp [Int.mul_comm]
    rw [this]; omega
  have hcn : ¬ c < 0 := by omega
  have hln : ¬ l < 0 := by omega
  have hlc : ¬ l > c := by omega
  have hroom : ¬ (c.toNat * i'.bytes > roomBytes) := by unfold roomBytes; omega
  have hask : (askRoom (c.toNat * i'.bytes)).run P w = .ok () w := by unfold askRoom; rw [if_neg hroom]; rfl
  have hrow : ∀ cells : Array Value, (newRow e0 cells).run P w = .ok ⟨w.heap.size, 0, none⟩ (w.alloc (.cells cells e0)) := fun _ => rfl
  let cells : Array Value := (Array.range (c.toNat * v.cells.size)).map fun i => v.cells[i % v.cells.size]!
  have hrun : (execOp a.eval o).run P w = .ok (.value (.slice (some ⟨w.heap.size, 0, none⟩) l.toNat c.toNat)) (w.alloc (.cells cells e0)) := by
    have hcond : (decide (c < 0) || decide ((i'.bytes : Int) * c > 281474976710656) || decide (l < 0) || decide (l > c)) = false := by
      simp [hcn, hbytes, hln, hlc]
    simp only [execOp, ho, inv_int hx, inv_int hy, Instr.makeSlice, Sem.run_bind, run_underlying hu, Result.andThen_ok, asInt, asIntOf, Sem.run_pure, rti hi, wrap_id h2 h4, wrap_id h1.1 (show l ≤ 9223372036854775807 by omega)]
    have hcond' : (decide (c < 0) || decide ((i'.bytes : Int) * c > 2 ^ 48) || decide (l < 0) || decide (l > c)) = false := hcond
    simp only [hcond', Bool.false_eq_true, if_false, Sem.run_bind, Sem.run_pure, Result.andThen_ok, hask, Go.sizeOf, rti hi]
    by_cases h0 : c.toNat * i'.size = 0
    · simp only [h0, if_true, Sem.run_bind, Sem.run_pure, Result.andThen_ok, hrow]
      have : cells = (Array.range 0).map fun x => (#[] : Array Value)[x % (#[] : Array Value).size]! := by
        apply Array.toList_inj.1
        have hz0 : c.toNat * v.cells.size = 0 := by rw [hvs]; exact h0
        simp [cells, hz0]
      rw [this]
    · simp only [h0, if_false, Sem.run_bind, run_zeroValue hi hv, Result.andThen_ok, Sem.run_pure, hrow]
      have : cells = (Array.range (c.toNat * i'.size)).map fun x => v.cells[x % v.cells.size]! := by
        simp only [cells, hvs]
      rw [this]
  have hcells : cells.toList = (List.range c.toNat).flatMap fun _ => v.cells.toList := zero_cells v.cells c.toNat
  have hlc2 : l.toNat ≤ c.toNat := by omega
  have hcm : c.toNat ≤ maxLen := by unfold maxLen; omega
  have hvl : v.cells.toList.length = i'.size := by rw [Array.length_toList]; exact hvs
  have hcells2 : cells.toList = ((List.range l.toNat).flatMap fun _ => v.cells.toList) ++ ((List.range' l.toNat (c.toNat - l.toNat)).flatMap fun _ => v.cells.toList) := by
    rw [hcells, ← List.flatMap_append]
    congr 1
    have h := List.range'_append_1 (s := 0) (m := l.toNat) (n := c.toNat - l.toNat)
    rw [Nat.zero_add, Nat.add_sub_cancel' hlc2] at h
    rw [List.range_eq_range', List.range_eq_range', h]
  have hcs : cells.size = c.toNat * i'.size := by
    rw [← Array.length_toList, hcells]; exact flatMap_length c.toNat fun _ _ => hvl
  obtain ⟨F1, fam1, m1, m2⟩ := fresh_osl (el := e0) (get := fun _ => z) hm hs [] (dstOk_lt hd hdst) hcs hlc2 hcm hcells2 (fun j _ => ⟨hvl, hrz, Foot.none_sub _⟩) (fun _ _ _ _ _ => Foot.none_off _)
  simp only [takes_nil] at m2
  unfold makeV at h
  split at h
  · obtain rfl := Option.some.inj h
    obtain ⟨ρ2, fam2, m3⟩ := m2.lend (t := d) (id2 := .loc d 0) hid nofun (upd_same _ _ _)
    rw [upd_upd] at m3
    exact .of hrun m1 m3 (by simp only [applyE, hdst, takes_nil]) (by rw [hdst])
  · obtain rfl := Option.some.inj h
    exact .of hrun m1 m2 (by simp only [applyE, hdst, takes_nil]) (by rw [hdst])
  · obtain ⟨hp, h⟩ := cond_some h
    obtain rfl := Option.some.inj h
    have hget : ∀ j, j < l.toNat → ∀ k u, v.cells.toList[k]? = some u → cells[j * i'.size + k]? = some u := fun j hj k u hu => by
      rw [← Array.getElem?_toList, hcells]
      exact flatMap_get (f := fun _ : Nat => v.cells.toList) (List.range c.toNat) j k (v := j) (fun _ _ => hvl) (List.getElem?_range (by omega)) hu
    obtain ⟨F2, fam2, k1, k2⟩ := fresh_put (el := e0) (sz := i'.size) (n := l.toNat) (c := c.toNat) (get := fun _ => z.demote) hm hs (dstOk_lt hd hdst) hcs hlc2 hcm (fun j hj => ⟨v.cells.toList, hvl, noTok_rel hrz hp, hget j hj⟩) (some e0) (fun e he => (Option.some.inj he).symm)
    exact .of hrun k1 k2 (by simp only [applyE, hdst, takes_nil]) (by rw [hdst])
end
end Go.Vm
end
section
namespace Go.Vm
open Go
section
variable {P : Program} {w : World}
theorem run_append_fits {t u ty e : TypeId} {i : TypeInfo} {d : TypeDesc} (ht : P.underlying t = some (.slice e)) (hi : P.info? e = some i) (hu : P.underlying u = some d) (hd : ∀ k, d ≠ .int k)
    {base : Option Addr} {sLen sCap m : Nat} {y : Value} {news : List Value} (hlen : (Builtin.lenOf y).run P w = .ok m w) (hfirst : (Builtin.firstCells i.size m y).run P w = .ok news.toArray w)
    (hroom : sLen + m ≤ sCap) {w' : World} (hst : ∀ a, base = some a → (storeCells (a.add (sLen * i.size)) news).run P w = .ok () w') (hno : base = none → w' = w) :
    (Builtin.append_ #[t, u] ty #[.slice base sLen sCap, y]).run P w = .ok (.slice base (sLen + m) sCap) w' := by
  have hz : (match d with | .int _ => true | _ => false) = false := by
    cases d <;> first | rfl | (exact absurd rfl (hd _))
  unfold Builtin.append_
  simp only [List.getElem?_toArray, List.getElem?_cons_zero, List.getElem?_cons_succ, Sem.run_bind, run_underlying ht, run_underlying hu, Result.andThen_ok, Go.sizeOf, rti hi, Sem.run_pure, hz, Bool.false_eq_true, if_false, Bool.not_false, if_true, hlen, hroom, hfirst]
  cases base with
  | none => simp [hno rfl]
  | some b => simp [hst b rfl]
theorem run_append_new {t u ty e : TypeId} {i : TypeInfo} {d : TypeDesc} {z : Value} (ht : P.underlying t = some (.slice e)) (hi : P.info? e = some i) (hiz : i.zero = some z) (hu : P.underlying u = some d) (hd : ∀ k, d ≠ .int k)
    {base : Option Addr} {sLen sCap m : Nat} {y : Value} {olds news : List Value} (hlen : (Builtin.lenOf y).run P w = .ok m w)
    (hfirst : (Builtin.firstCells i.size m y).run P w.drew = .ok news.toArray w.drew) (hold : (Builtin.firstCells i.size sLen (.slice base sLen sCap)).run P w.drew = .ok olds.toArray w.drew)
    (hroom : ¬ (sLen + m ≤ sCap)) (h63 : sLen + m ≤ 9223372036854775807) (hbytes : (sLen + m) * i.bytes ≤ 140737488355328) (hb0 : i.bytes ≠ 0) :
    (Builtin.append_ #[t, u] ty #[.slice base sLen sCap, y]).run P w =
      .ok (.slice (some ⟨w.heap.size, 0, none⟩) (sLen + m) (grownCap w (sLen + m) sCap e)) (w.drew.alloc (.cells (olds.toArray ++ news.toArray ++ Builtin.zeroCells z.cells (grownCap w (sLen + m) sCap e - (sLen + m))) e)) := by
  have hz : (match d with | .int _ => true | _ => false) = false := by
    cases d <;> first | rfl | (exact absurd rfl (hd _))
  have hfit : ¬ (Builtin.nextslicecap (sLen + m) sCap * i.bytes > 2 ^ 48) := by
    have := growslice_fits (old := sCap) (need := sLen + m) (bytes := i.bytes) (by omega) hbytes
    omega
  have hmax : ¬ (((sLen + m : Nat) : Int) > IntKind.i64.max ∧ (false = true ∨ i.bytes = 0)) := by
    rintro ⟨_, h | h⟩
    · cases h
    · exact hb0 h
  have h63' : ¬ (9223372036854775807 < ((sLen : Int) + (m : Int))) := by omega
  have h48' : ¬ (281474976710656 < Builtin.nextslicecap (sLen + m) sCap * i.bytes) := by omega
  unfold Builtin.append_
  simp only [List.getElem?_toArray, List.getElem?_cons_zero, List.getElem?_cons_succ, Sem.run_bind, run_underlying ht, run_underlying hu, Result.andThen_ok, Go.sizeOf, rti hi, Sem.run_pure, hz, Bool.false_eq_true, if_false, Bool.not_false, if_true, hlen, hroom]
  simp [h63', h48', Question.forced, hfirst, hold, newRow, grownCap, zeroValue, typeInfo, hi, hiz]
  congr 2
  apply Array.ext'
  simp [List.append_assoc]
theorem flatMap_reads {w : World} {g o m sz : Nat} {f : Nat → List Value} (hl : ∀ i, i < m → (f i).length = sz) (hr : ∀ i, i < m → Reads w g (o + i * sz) (f i)) :
    ∀ j u, ((List.range m).flatMap f)[j]? = some u → w.cell? ((⟨g, o, none⟩ : Addr).add j) = some u := by
  intro j u hj
  have hlen := flatMap_length m hl
  have hlt := (List.getElem?_eq_some_iff.1 hj).1
  rw [hlen] at hlt
  have hpos : 0 < sz := by
    rcases Nat.eq_zero_or_pos sz with h | h
    · rw [h] at hlt; omega
    · exact h
  have hdiv : j / sz < m := (Nat.div_lt_iff_lt_mul hpos).2 hlt
  have hmod : j % sz < sz := Nat.mod_lt _ hpos
  have e : j / sz * sz + j % sz = j := by rw [Nat.mul_comm]; exact Nat.div_add_mod j sz
  have hfl : j % sz < (f (j / sz)).length := by rw [hl _ hdiv]; exact hmod
  have hget := flatMap_get (f := f) (List.range m) (j / sz) (j % sz) (v := j / sz) (u := (f (j / sz))[j % sz]) (sz := sz) (fun v hv => hl v (List.mem_range.1 hv)) (by simp [hdiv]) (List.getElem?_eq_getElem hfl)
  rw [e, hj] at hget
  have := hr (j / sz) hdiv (j % sz) u (by rw [List.getElem?_eq_getElem hfl, ← hget])
  rw [add_addr]
  rwa [Nat.add_assoc, e] at this
variable {Γ : Ctx} {F : Foot} {ρ : Names} {fam : Fam} {s : St} {a : Act} {o : Oper} {kn : Nat → Option Bool} {pol : Nat → Nat} {e : Eff}
structure Added (P : Program) (F : Foot) (w : World) (sz m : Nat) (add : Nat → V) (y : Value) : Prop where
  len : (Builtin.lenOf y).run P w = .ok m w
  ex : ∃ news : List Value, news.length = m * sz ∧ (∀ w' : World, w'.heap = w.heap → (Builtin.firstCells sz m y).run P w' = .ok news.toArray w') ∧ (∀ u ∈ news, u.oneCell' = true) ∧
    ∀ j, j < m → ∃ xs, xs.length = sz ∧ RelT F w noNames (add j) xs none_ ∧ ∀ k u, xs[k]? = some u → news[j * sz + k]? = some u
theorem cell_heap {w w' : World} (h : w'.heap = w.heap) (x : Addr) : w'.cell? x = w.cell? x := by unfold World.cell?; rw [h]
theorem added_of {sz m : Nat} {add : Nat → V} {y : Value} (f : Nat → List Value) (hlen : (Builtin.lenOf y).run P w = .ok m w)
    (hf : ∀ i, i < m → (f i).length = sz ∧ RelT F w noNames (add i) (f i) none_) (hfirst : ∀ w' : World, w'.heap = w.heap → (Builtin.firstCells sz m y).run P w' = .ok ((List.range m).flatMap f).toArray w') : Added P F w sz m add y where
  len := hlen
  ex := by
    refine ⟨(List.range m).flatMap f, flatMap_length m fun i hi => (hf i hi).1, hfirst, fun u hu => ?_, fun j hj => ⟨f j, (hf j hj).1, (hf j hj).2, fun k u hu => ?_⟩⟩
    · obtain ⟨i, hi, hu⟩ := List.mem_flatMap.1 hu
      exact oneCells (hf i (List.mem_range.1 hi)).2 u hu
    · exact flatMap_get (f := f) (List.range m) j k (v := j) (sz := sz) (fun v hv => (hf v (List.mem_range.1 hv)).1) (by simp [hj]) hu
theorem added_ok (hs : Stand Γ F w ρ fam s a.tmps) {y : Operand} {sz m : Nat} {add : Nat → V} {id : Option Id} {side : Option (Bool × Prop)} (h : addedV sz s.H (evalV s.tm y) = some (m, add, id, side)) (hside : ∀ b p, side = some (b, p) → b = true ∧ p) :
    Added P F w sz m add (a.eval y) := by
  have hy := evalV_rel hs y
  unfold addedV at h
  split at h <;> (try cases h)
  · rename_i tok s' nil n get hev
    rw [hev] at hy
    obtain ⟨hc, h⟩ := cond_some h
    simp only [Option.some.injEq, Prod.mk.injEq] at h
    obtain ⟨rfl, rfl, _, _⟩ := h
    obtain ⟨A, c, k1, k2, k3, k4, k5⟩ := inv_sl hy
    rw [k1]
    cases nil with
    | true =>
      obtain ⟨rfl, rfl, rfl⟩ := k4 rfl
      exact added_of (fun _ => []) (by simp [Builtin.lenOf]) (fun i hi => by omega) (fun w' _ => by simp [Builtin.firstCells])
    | false =>
      obtain ⟨g, o', q, rfl, hq, _, hel⟩ := k5 rfl
      have hsz : sz = s' := by simpa using hc
      subst hsz
      have hch : ∀ i : Nat, ∃ xs : List Value, i < n → xs.length = sz ∧ RelT F w noNames (get i) xs none_ ∧ Reads w g (o' + i * sz) xs := by
        intro i
        by_cases hi : i < n
        · obtain ⟨xs, h1, h2, h3, _⟩ := hel i hi
          exact ⟨xs, fun _ => ⟨h1, h2, h3⟩⟩
        · exact ⟨[], fun h => absurd h hi⟩
      obtain ⟨f, hf⟩ := Classical.skolem.1 hch
      refine added_of f (by simp [Builtin.lenOf]) (fun i hi => ⟨(hf i hi).1, (hf i hi).2.1⟩) (fun w' hw' => ?_)
      rcases hq with rfl | rfl
      case inr =>
        obtain rfl : n = 0 := by omega
        simp [Builtin.firstCells, loadCells, loadCellsFrom]
      have := run_loadCells_list (P := P) (w := w') ⟨g, o', none⟩ _ (fun j u hj => by rw [cell_heap hw']; exact flatMap_reads (fun i hi => (hf i hi).1) (fun i hi => (hf i hi).2.2) j u hj)
      rw [flatMap_length n fun i hi => (hf i hi).1] at this
      exact this
  · rename_i b hev
    rw [hev] at hy
    obtain ⟨hc, h⟩ := cond_some h
    simp only [Option.some.injEq, Prod.mk.injEq] at h
    obtain ⟨rfl, rfl, _, _⟩ := h
    obtain rfl := Nat.eq_of_beq_eq_true hc
    rw [inv_str hy]
    refine added_of (fun i => [.int .u8 (bt b i)]) (by simp [Builtin.lenOf]) (fun i hi => ⟨rfl, rfl⟩) (fun w' _ => ?_)
    have e : ((b.extract 0 b.size).data.map fun c => Value.int .u8 c.toNat) = ((List.range b.size).flatMap fun i => [Value.int .u8 (bt b i)]).toArray := by
      apply Array.toList_inj.1
      apply List.ext_getElem?
      intro j
      have hfm : ((List.range b.size).flatMap fun i => [Value.int .u8 (bt b i)]) = (List.range b.size).map fun i => Value.int .u8 (bt b i) := by
        exact (List.map_eq_flatMap ..).symm
      rw [hfm]
      by_cases hj : j < b.size
      · simp [hj, bt]
        rfl
      · simp [hj]
    simp only [Builtin.firstCells, Sem.run_pure, e]
  · rename_i id' p s' N off len hev
    rw [hev] at hy
    obtain ⟨hc, h⟩ := cond_some h
    obtain rfl := Nat.eq_of_beq_eq_true hc
    split at h <;> (try cases h)
    rename_i c hHc
    split at h <;> (try cases h)
    rename_i s'' N' get hnav
    obtain ⟨hc2, h⟩ := cond_some h
    simp only [Option.some.injEq, Prod.mk.injEq] at h
    obtain ⟨rfl, rfl, _, hsd⟩ := h
    obtain rfl := Nat.eq_of_beq_eq_true hc2
    obtain ⟨hb, hclosed⟩ := hside _ _ hsd.symm
    simp only [Bool.and_eq_true] at hb
    obtain rfl := Nat.eq_of_beq_eq_true hb.2
    obtain ⟨g, of, cap, A, k1, k2, k3, k4, k5, k6, k7⟩ := inv_own hy
    obtain ⟨xs, f, m1, m2, m3, m4⟩ := block_part (hs.bl id' c (g, of) hHc k1) (y := .arr sz N get) rfl hnav
    obtain ⟨q⟩ := nav_part p c k2 hb.1 m1 hnav
    have hq := q.rel
    simp only [RelT] at hq
    obtain ⟨f0, fs, h1, _, hzs⟩ := hq
    have hreads : Reads w g (of + pathOff p) q.zs := by
      have hr := m2.reads
      have hxs := q.eq
      rw [hxs] at hr
      intro j u hu
      have := hr.part j u hu
      rwa [q.len] at this
    have hel : ∀ i, i < len → Reads w g (of + pathOff p + off * sz + i * sz) (f0 (off + i)) := by
      intro i hi j u hu
      have := flatMap_get (f := f0) (List.range N) (off + i) j (v := off + i) (sz := sz) (fun v hv => (h1 v (List.mem_range.1 hv)).1) (by rw [List.getElem?_range (by omega)]) hu
      rw [← hzs] at this
      have := hreads _ u this
      rw [← this]
      congr 2
      rw [Nat.add_mul]
      omega
    rw [k3]
    refine added_of (fun i => f0 (off + i)) (by simp [Builtin.lenOf]) (fun i hi => ⟨(h1 _ (by omega)).1, closed_rel _ (h1 _ (by omega)).2.1 (hclosed i hi)⟩) (fun w' hw' => ?_)
    by_cases h0 : len = 0
    · subst h0; cases A <;> simp [Builtin.firstCells, loadCells, loadCellsFrom]
    · obtain rfl := k7 (by omega)
      have := run_loadCells_list (P := P) (w := w') ⟨g, of + pathOff p + off * sz, none⟩ _ (fun j u hj => by rw [cell_heap hw']; exact flatMap_reads (f := fun i => f0 (off + i)) (fun i hi => (h1 _ (by omega)).1) hel j u hj)
      rw [flatMap_length (f := fun i => f0 (off + i)) len fun i hi => (h1 _ (by omega)).1] at this
      exact this
end
end Go.Vm
end
section
namespace Go.Vm
open Go
theorem flat_of {sz : Nat} : ∀ (m : Nat) {news : List Value} {f : Nat → List Value}, news.length = m * sz → (∀ j, j < m → (f j).length = sz) → (∀ j, j < m → ∀ k u, (f j)[k]? = some u → news[j * sz + k]? = some u) →
    news = (List.range m).flatMap f := by
  intro m news f hl hf h
  have hl2 : ((List.range m).flatMap f).length = m * sz := flatMap_length m hf
  apply List.ext_getElem?
  intro i
  by_cases hi : i < m * sz
  · have hpos : 0 < sz := by
      rcases Nat.eq_zero_or_pos sz with h | h
      · rw [h] at hi; omega
      · exact h
    have hdiv : i / sz < m := (Nat.div_lt_iff_lt_mul hpos).2 hi
    have hmod : i % sz < sz := Nat.mod_lt _ hpos
    have hlt : i % sz < (f (i / sz)).length := by rw [hf _ hdiv]; exact hmod
    have hk : (f (i / sz))[i % sz]? = some (f (i / sz))[i % sz] := List.getElem?_eq_getElem hlt
    have e : i / sz * sz + i % sz = i := by rw [Nat.mul_comm]; exact Nat.div_add_mod i sz
    have h1 := h _ hdiv _ _ hk
    have h2 := flatMap_get (f := f) (List.range m) (i / sz) (i % sz) (v := i / sz) (sz := sz) (fun v hv => hf v (List.mem_range.1 hv)) (by simp [hdiv]) hk
    rw [e] at h1 h2
    rw [h1, h2]
  · rw [List.getElem?_eq_none (by omega), List.getElem?_eq_none (by omega)]
theorem blt_true' {j n : Nat} (h : j < n) : Nat.blt j n = true := by rw [Nat.blt_eq]; exact h
theorem blt_false' {j n : Nat} (h : ¬ j < n) : Nat.blt j n = false := by
  cases hb : Nat.blt j n
  · rfl
  · rw [Nat.blt_eq] at hb; exact absurd hb h
section
variable {P : Program} {Γ : Ctx} {F : Foot} {w : World} {ρ : Names} {fam : Fam} {s : St} {a : Act} {o : Oper} {kn : Nat → Option Bool} {pol : Nat → Nat} {e : Eff}
structure AddedO (P : Program) (F : Foot) (w : World) (ρ : Names) (sz m : Nat) (add : Nat → V) (y : Value) (fy : Foot) : Prop where
  len : (Builtin.lenOf y).run P w = .ok m w
  ex : ∃ (f : Nat → List Value) (fs : Nat → Foot), (∀ j, j < m → (f j).length = sz ∧ RelT F w ρ (add j) (f j) (fs j) ∧ (fs j).Sub fy) ∧ (∀ i j, i < m → j < m → i ≠ j → (fs i).Off (fs j)) ∧
    (∀ w' : World, w'.heap = w.heap → (Builtin.firstCells sz m y).run P w' = .ok ((List.range m).flatMap f).toArray w') ∧ ∀ u ∈ (List.range m).flatMap f, u.oneCell' = true
theorem noNames_rel {x : V} {cs : List Value} (h : RelT F w noNames x cs none_) : RelT F w ρ x cs none_ := noName h
theorem addedO_ok (hs : Stand Γ F w ρ fam s a.tmps) {y : Operand} {sz m : Nat} {add : Nat → V} {id : Option Id} {side : Option (Bool × Prop)} (h : addedO sz s.H (evalV s.tm y) = some (m, add, id, side)) (hside : ∀ b p, side = some (b, p) → b = true ∧ p) :
    AddedO P F w ρ sz m add (a.eval y) (sumT fam (takeOf y (evalV s.tm y))) := by
  have base : addedV sz s.H (evalV s.tm y) = some (m, add, id, side) → AddedO P F w ρ sz m add (a.eval y) (sumT fam (takeOf y (evalV s.tm y))) := by
    intro h
    obtain ⟨h1, news, n1, n2, n3, n4⟩ := added_ok (P := P) hs h hside
    have hch : ∀ j : Nat, ∃ xs : List Value, j < m → xs.length = sz ∧ RelT F w noNames (add j) xs none_ ∧ ∀ k u, xs[k]? = some u → news[j * sz + k]? = some u := by
      intro j
      by_cases hj : j < m
      · obtain ⟨xs, q⟩ := n4 j hj; exact ⟨xs, fun _ => q⟩
      · exact ⟨[], fun h => absurd h hj⟩
    obtain ⟨f, hf⟩ := Classical.skolem.1 hch
    have he := flat_of m n1 (fun j hj => (hf j hj).1) (fun j hj => (hf j hj).2.2)
    rw [he] at n2 n3
    exact ⟨h1, f, fun _ => none_, fun j hj => ⟨(hf j hj).1, noNames_rel (hf j hj).2.1, Foot.none_sub _⟩, fun _ _ _ _ _ => Foot.none_off _, n2, n3⟩
  cases hv : evalV s.tm y with
  | osl e s' nil n get =>
    rw [hv] at h
    simp only [addedO] at h
    obtain ⟨hsz, h'⟩ := cond_some h
    obtain rfl := Nat.eq_of_beq_eq_true hsz
    simp only [Option.some.injEq, Prod.mk.injEq] at h'
    obtain ⟨rfl, rfl, _, _⟩ := h'
    have hy := evalV_rel hs y
    rw [hv] at hy
    have hslot : ∃ t0, y = .tmp t0 := by
      cases y with
      | tmp t0 => exact ⟨t0, rfl⟩
      | const v =>
        exfalso
        simp only [evalV, constV] at hv
        split at hv <;> simp at hv
      | global => simp [evalV] at hv
      | func => simp [evalV] at hv
    obtain ⟨t0, rfl⟩ := hslot
    have htk : sumT fam (takeOf (.tmp t0) (V.osl e sz nil n get)) = fun g o => fam (.t t0) g o := by
      funext g o
      simp [takeOf, V.owns, slotOf, sumT]
    rw [htk]
    obtain ⟨A, c, rfl', k2, k3, hr⟩ := inv_osl hy
    rw [rfl']
    simp only [RelT] at hr
    obtain ⟨A', c', e1, _, _, k4, k5⟩ := hr
    rw [rfl'] at e1
    simp only [List.cons.injEq, Value.slice.injEq, and_true, true_and] at e1
    obtain ⟨rfl, rfl⟩ := e1
    cases nil with
    | true =>
      obtain ⟨rfl, rfl, rfl⟩ := k4 rfl
      exact ⟨by simp [Builtin.lenOf], fun _ => [], fun _ => none_, fun j hj => by omega, fun i j hi => by omega, fun w' _ => by simp [Builtin.firstCells], fun u hu => by simp at hu⟩
    | false =>
      obtain ⟨g, of, rfl, _, _, xs, f, fs, q1, q2, q3, q4⟩ := k5 rfl
      refine ⟨by simp [Builtin.lenOf], f, fs, fun j hj => ⟨(q3 j hj).1, (q3 j hj).2.1, (q3 j hj).2.2.1⟩, q4, fun w' hw' => ?_, ?_⟩
      · have := run_loadCells_list (P := P) (w := w') ⟨g, of, none⟩ ((List.range n).flatMap f) (fun j u hj => by rw [cell_heap hw', add_addr]; exact q2.reads j u (by rw [q1]; exact hj))
        rw [flatMap_length n fun i hi => (q3 i hi).1] at this
        exact this
      · intro u hu
        obtain ⟨j, hj, hu⟩ := List.mem_flatMap.1 hu
        exact oneCells (q3 j (List.mem_range.1 hj)).2.1 u hu
  | _ => rw [hv] at h base; exact base h
theorem join_f {f f' : Nat → List Value} (n m : Nat) : (List.range (n + m)).flatMap (fun j => if j < n then f j else f' (j - n)) = (List.range n).flatMap f ++ (List.range m).flatMap f' := by
  rw [List.range_eq_range', ← List.range'_append_1 (s := 0) (m := n) (n := m), List.flatMap_append, Nat.zero_add]
  congr 1
  · rw [← List.range_eq_range']
    exact flatMap_congr' fun j hj => by simp [List.mem_range.1 hj]
  · have : List.range' n m = (List.range m).map (n + ·) := by rw [List.range_eq_range', List.map_add_range', Nat.add_zero]
    rw [this, List.flatMap_map]
    refine flatMap_congr' fun j _ => ?_
    have e1 : ¬ (n + j < n) := by omega
    have e2 : n + j - n = j := by omega
    show (if n + j < n then f (n + j) else f' (n + j - n)) = f' j
    rw [if_neg e1, e2]
theorem sound_appendO (hm : Mem Γ w F) (hs : Stand Γ F w ρ fam s a.tmps) {d : Nat} (hd : d < a.tmps.size) {t u : TypeId} {du : TypeDesc} (hdu : P.underlying u = some du) (hdk : ∀ k, du ≠ .int k) {x y : Operand}
    {e0 s0 : Nat} {nil : Bool} {n : Nat} {get : Nat → V} (hX : evalV s.tm x = .osl e0 s0 nil n get) (h : appendO P t s.H e0 s0 nil n get (evalV s.tm y) (takeOf x (evalV s.tm x) ++ takeOf y (evalV s.tm y)) = some e) (hn : e.need = true)
    (hside : ∀ p, e.side = some p → p) (ty : TypeId) :
    ∃ v w', (Builtin.append_ #[t, u] ty #[a.eval x, a.eval y]).run P w = .ok v w' ∧ (∀ id c, e.tgt ≠ some (id, some c)) ∧ e.new = none ∧
      ∃ F' ρ' fam', Mem Γ w' F' ∧ Stand Γ F' w' ρ' fam' { tm := upd (takes s.tm e.take) d e.res, H := s.H } (a.put (some d) v).tmps := by
  unfold appendO at h
  split at h <;> (try cases h)
  rename_i e1 i hel
  unfold elemOf at hel
  split at hel <;> (try cases hel)
  rename_i e1' hu
  simp only [Option.map_eq_some_iff, Prod.mk.injEq] at hel
  obtain ⟨i', hi, rfl, rfl⟩ := hel
  split at h <;> (try cases h)
  rename_i m add id side hadd
  obtain ⟨hc2, h⟩ := cond_some h
  obtain rfl := Option.some.inj h
  simp only [Bool.and_eq_true] at hc2 hn
  obtain ⟨hz, hsz, hby, hs0, he0, hnd⟩ := hc2
  obtain ⟨hsb, hn⟩ := hn
  obtain rfl := Nat.eq_of_beq_eq_true hs0
  obtain rfl := Nat.eq_of_beq_eq_true he0
  have hnd := nodupB_ok hnd
  split at hz <;> (try cases hz)
  rename_i z hiz
  have hzs := Nat.eq_of_beq_eq_true hz
  have hsz : 0 < i'.size := by simpa [Nat.blt_eq] using hsz
  have hby : 0 < i'.bytes := by simpa [Nat.blt_eq] using hby
  simp only [room, decide_eq_true_eq] at hn
  obtain ⟨alen, f', fs', a1, a2, a3, a4⟩ := addedO_ok (P := P) hs hadd (fun b p hp => by subst hp; exact ⟨hsb, hside p rfl⟩)
  have hnm : n + m ≤ 140737488351232 := Nat.le_trans (Nat.le_mul_of_pos_right (n + m) hby) hn
  have hxrel := evalV_rel hs x
  rw [hX] at hxrel
  have hslot : ∃ t0, x = .tmp t0 := by
    cases x with
    | tmp t0 => exact ⟨t0, rfl⟩
    | const v =>
      exfalso
      simp only [evalV, constV] at hX
      split at hX <;> simp at hX
    | global => simp [evalV] at hX
    | func => simp [evalV] at hX
  obtain ⟨t0, rfl⟩ := hslot
  have htx : takeOf (.tmp t0) (evalV s.tm (.tmp t0)) = [t0] := by rw [hX]; rfl
  generalize hty : takeOf y (evalV s.tm y) = ty' at *
  rw [htx] at hnd ⊢
  have hne : ∀ t ∈ ty', t ≠ t0 := fun t ht e => by
    subst e
    simp only [List.cons_append, List.nil_append, List.nodup_cons] at hnd
    exact hnd.1 ht
  obtain ⟨A, c, hav, k2, k3, hr⟩ := inv_osl hxrel
  simp only [RelT] at hr
  obtain ⟨A', c', e1, _, _, k4, k5⟩ := hr
  rw [hav] at e1
  simp only [List.cons.injEq, Value.slice.injEq, and_true, true_and] at e1
  obtain ⟨rfl, rfl⟩ := e1
  have hnews : ((List.range m).flatMap f').length = m * i'.size := flatMap_length m fun j hj => (a1 j hj).1
  have hfy : ∀ g o, sumT fam ty' g o → sumT fam ([t0] ++ ty') g o := fun g o ⟨t, ht, h⟩ => ⟨t, by simp [ht], h⟩
  have hfx : ∀ g o, fam (.t t0) g o → sumT fam ([t0] ++ ty') g o := fun g o h => ⟨t0, by simp, h⟩
  have hxy : ∀ g o, fam (.t t0) g o → sumT fam ty' g o → False := fun g o h ⟨t, ht, h'⟩ => hs.off (.t t0) (.t t) (fun e => hne t ht (by cases e; rfl)) g o h h'
  -- the joined elements, once those of x are known
  have grow : ∀ (f : Nat → List Value) (fs : Nat → Foot), (∀ j, j < n → (f j).length = i'.size ∧ RelT F w ρ (get j) (f j) (fs j) ∧ (fs j).Sub (fam (.t t0))) → (∀ i j, i < n → j < n → i ≠ j → (fs i).Off (fs j)) →
      (Builtin.firstCells i'.size n (a.eval (.tmp t0))).run P w.drew = .ok ((List.range n).flatMap f).toArray w.drew → ¬ (n + m ≤ c) →
      ∃ v w', (Builtin.append_ #[t, u] ty #[a.eval (.tmp t0), a.eval y]).run P w = .ok v w' ∧ ∃ F' ρ' fam', Mem Γ w' F' ∧ Stand Γ F' w' ρ' fam' { tm := upd (takes s.tm ([t0] ++ ty')) d (.osl e0 i'.size (cond (Nat.beq m 0) nil false) (n + m) fun j => V.mix (Nat.blt j n) (get j) (add (j - n))), H := s.H } (a.put (some d) v).tmps := by
    intro f fs b1 b2 b3 hroom
    have hm0 : Nat.beq m 0 = false := by
      cases hb : Nat.beq m 0
      · rfl
      · have := Nat.eq_of_beq_eq_true hb; omega
    rw [hav] at b3
    have hrun := run_append_new (ty := ty) hu hi hiz hdu hdk alen (a3 w.drew rfl) b3 hroom (by omega) (by omega) (by omega)
    obtain ⟨d1, d2⟩ := hs.drew hm
    have hge := grownCap_ge w (n + m) c e0
    have hcm := grownCap_le_maxLen w (n + m) c e0 (by unfold maxLen; omega)
    have kd : ∀ {x : V} {xs : List Value} {fp : Foot}, RelT F w ρ x xs fp → RelT F w.drew ρ x xs fp := fun hx => hx.keep (Ext.drew w) (Foot.Sub.refl _) (fun _ _ _ => rfl) _ (fun _ _ h => h) (fun _ _ _ => rfl) (Foot.Sub.refl _)
    have ho1 : ((List.range n).flatMap f).length = n * i'.size := flatMap_length n fun j hj => (b1 j hj).1
    have hcells : (((List.range n).flatMap f).toArray ++ ((List.range m).flatMap f').toArray ++ Builtin.zeroCells z.cells (grownCap w (n + m) c e0 - (n + m))).size = grownCap w (n + m) c e0 * i'.size := by
      simp only [Array.size_append, List.size_toArray, size_zeroCells, hzs, ho1, hnews, ← Nat.add_mul]
      congr 1
      omega
    have hb1 : ∀ j, j < n + m → (if j < n then f j else f' (j - n)).length = i'.size ∧ RelT F w.drew ρ (V.mix (Nat.blt j n) (get j) (add (j - n))) (if j < n then f j else f' (j - n)) (if j < n then fs j else fs' (j - n)) ∧
        (if j < n then fs j else fs' (j - n)).Sub (sumT fam ([t0] ++ ty')) := by
      intro j hj
      by_cases hjn : j < n
      · simp only [hjn, if_true, blt_true' hjn, V.mix_eq, cond_true]
        exact ⟨(b1 j hjn).1, kd (b1 j hjn).2.1, fun g o h => hfx g o ((b1 j hjn).2.2 g o h)⟩
      · simp only [hjn, if_false, blt_false' hjn, V.mix_eq, cond_false]
        exact ⟨(a1 _ (by omega)).1, kd (a1 _ (by omega)).2.1, fun g o h => hfy g o ((a1 _ (by omega)).2.2 g o h)⟩
    have hb2 : ∀ i j, i < n + m → j < n + m → i ≠ j → (if i < n then fs i else fs' (i - n)).Off (if j < n then fs j else fs' (j - n)) := by
      intro i j hi hj hij
      by_cases hin : i < n <;> by_cases hjn : j < n <;> simp only [hin, hjn, if_true, if_false]
      · exact b2 i j hin hjn hij
      · exact fun g o h1 h2 => hxy g o ((b1 i hin).2.2 g o h1) ((a1 _ (by omega)).2.2 g o h2)
      · exact fun g o h1 h2 => hxy g o ((b1 j hjn).2.2 g o h2) ((a1 _ (by omega)).2.2 g o h1)
      · exact a2 _ _ (by omega) (by omega) (by omega)
    obtain ⟨F', fam', s1, s2⟩ := fresh_osl (a := a) (el := e0) (get := fun j => V.mix (Nat.blt j n) (get j) (add (j - n))) d1 d2 ([t0] ++ ty') hd hcells hge hcm (f := fun j => if j < n then f j else f' (j - n)) (fs := fun j => if j < n then fs j else fs' (j - n))
      (rest := (Builtin.zeroCells z.cells (grownCap w (n + m) c e0 - (n + m))).toList) (by rw [join_f]; simp) hb1 hb2
    rw [hm0, cond_false]
    exact ⟨_, _, by rw [hav]; exact hrun, F', ρ, fam', s1, s2⟩
  suffices hmain : ∃ v w', (Builtin.append_ #[t, u] ty #[a.eval (.tmp t0), a.eval y]).run P w = .ok v w' ∧ ∃ F' ρ' fam', Mem Γ w' F' ∧ Stand Γ F' w' ρ' fam' { tm := upd (takes s.tm ([t0] ++ ty')) d (.osl e0 i'.size (cond (Nat.beq m 0) nil false) (n + m) fun j => V.mix (Nat.blt j n) (get j) (add (j - n))), H := s.H } (a.put (some d) v).tmps by
    obtain ⟨v, w', h1, h2⟩ := hmain
    exact ⟨v, w', h1, fun id' c' h => by cases id <;> simp at h, rfl, h2⟩
  cases hnil : nil with
  | true =>
    subst hnil
    obtain ⟨rfl, rfl, rfl⟩ := k4 rfl
    by_cases hm0 : m = 0
    · subst hm0
      have hrun := run_append_fits (ty := ty) (base := none) (sLen := 0) (sCap := 0) (w' := w) hu hi hdu hdk alen (a3 w rfl) (Nat.le_refl _) (fun a h => by cases h) (fun _ => rfl)
      refine ⟨_, w, by rw [hav]; exact hrun, F, ρ, _, hm, hs.val ([t0] ++ ty') d hd (fr := none_) ⟨nofun, fun _ => ⟨none, 0, rfl, Nat.le_refl _, Nat.zero_le _, fun _ => ⟨rfl, rfl, rfl⟩, nofun⟩⟩ (Foot.none_sub _)⟩
    · exact grow (fun _ => []) (fun _ => none_) (fun j hj => by omega) (fun i j hi => by omega) (by rw [hav]; simp [Builtin.firstCells]) (by omega)
  | false =>
    subst hnil
    obtain ⟨g, of, rfl, hsp, hreg, xs, f, fs, q1, q2, q3, q4⟩ := k5 rfl
    have hxl : xs.length = n * i'.size := by rw [q1]; exact flatMap_length n fun j hj => (q3 j hj).1
    by_cases hroom : n + m ≤ c
    · have hmul : n * i'.size + m * i'.size ≤ c * i'.size := by rw [← Nat.add_mul]; exact Nat.mul_le_mul_right _ hroom
      -- where the new elements go is ours, and may be written
      have hsp2 : m = 0 ∨ (of = 0 ∧ ∃ cur : Array Value, w.heap[g]? = some (.cells cur e0 (0, 0)) ∧ cur.size = c * i'.size) := by
        rcases hsp with hsp | ⟨h1, cur, h2, h3, _⟩
        · left; omega
        · exact .inr ⟨h1, cur, h2, h3⟩
      have hcell : ∀ j, j < ((List.range m).flatMap f').length → (w.cell? ⟨g, of + n * i'.size + 0 + j, none⟩).isSome = true ∧ w.frozen? ⟨g, of + n * i'.size + 0 + j, none⟩ = false := by
        intro j hj
        rcases hsp2 with rfl | ⟨rfl, cur, h2, h3⟩
        · rw [hnews] at hj; omega
        · constructor
          · simp [World.cell?, h2, show n * i'.size + j < cur.size by omega]
          · simp [World.frozen?, h2]
      have hst := run_storeCells_cells (P := P) g (of + n * i'.size) ((List.range m).flatMap f') 0 w (fun j hj => (hcell j hj).1) (fun j hj => (hcell j hj).2) a4
      rw [Nat.add_zero] at hst
      have hrun := run_append_fits (ty := ty) (base := some ⟨g, of, none⟩) (sLen := n) (sCap := c) (w' := w.setCells g (of + n * i'.size) ((List.range m).flatMap f')) hu hi hdu hdk alen (a3 w rfl) hroom
        (fun a h => by cases h; rw [add_addr]; exact hst) nofun
      have hE := ext_setCells g ((List.range m).flatMap f') (of + n * i'.size) w
      have hkeep : ∀ g' o', ¬ regionFoot g (of + n * i'.size) (m * i'.size) g' o' → (w.setCells g (of + n * i'.size) ((List.range m).flatMap f')).cell? ⟨g', o', none⟩ = w.cell? ⟨g', o', none⟩ := by
        intro g' o' hh
        refine World.cell?_setCells_out g _ _ w _ fun hb _ => ?_
        simp only at hb ⊢
        subst hb
        by_cases h1 : o' < of + n * i'.size
        · exact .inl h1
        · exact .inr (Nat.le_of_not_lt fun h2 => hh ⟨rfl, by omega, by omega⟩)
      have hin : ∀ g' o', regionFoot g (of + n * i'.size) (m * i'.size) g' o' → regionFoot g of (c * i'.size) g' o' := by
        rintro g' o' ⟨h1, h2, h3⟩
        exact ⟨h1, by omega, by omega⟩
      have hmine : ∀ g' o', regionFoot g (of + n * i'.size) (m * i'.size) g' o' → fam (.t t0) g' o' := fun g' o' h => hreg g' o' (hin g' o' h)
      have hdr := hs.drop ([t0] ++ ty')
      have hpn : ∀ {i : Ix} {g o : Nat}, famPut fam ([t0] ++ ty') none none_ i g o → fam i g o ∧ ∀ t ∈ [t0] ++ ty', i ≠ .t t := fun h => famPut_none h
      have m1 : Mem Γ (w.setCells g (of + n * i'.size) ((List.range m).flatMap f')) F := by
        refine ⟨hm.ext.trans hE, hm.sub, hm.fresh, fun g' o' hn' => ?_, fun g' o' h => Nat.lt_of_lt_of_le (hm.live g' o' h) hE.size⟩
        rw [hkeep g' o' fun hh => hn' (hs.new _ g' o' (hmine g' o' hh))]
        exact hm.keep g' o' hn'
      have hsF : Same w (w.setCells g (of + n * i'.size) ((List.range m).flatMap f')) F := fun g' o' hF => hkeep g' o' fun hh => hs.offF _ g' o' (hmine g' o' hh) hF
      have s1 := hdr.keep (w' := w.setCells g (of + n * i'.size) ((List.range m).flatMap f')) hE (Foot.Sub.refl _) hsF (fun i g' o' hg => hkeep g' o' fun hh => by
        obtain ⟨h1, h2⟩ := hpn hg
        exact hs.off i (.t t0) (h2 t0 (by simp)) g' o' h1 (hmine g' o' hh)) (fun i g' o' hg => hs.offF i g' o' (hpn hg).1)
      have hfull : ∀ g' o', (fun g o => fam (.t t0) g o ∨ sumT fam ty' g o) g' o' → ∃ t, t ∈ [t0] ++ ty' ∧ fam (.t t) g' o' := by
        rintro g' o' (h | ⟨t, ht, h⟩)
        · exact ⟨t0, by simp, h⟩
        · exact ⟨t, by simp [ht], h⟩
      have hcellnew : ∀ j (hj : j < ((List.range m).flatMap f').length), (w.setCells g (of + n * i'.size) ((List.range m).flatMap f')).cell? ⟨g, of + n * i'.size + j, none⟩ = some ((List.range m).flatMap f')[j] := fun j hj =>
        World.cell?_setCells_in g ((List.range m).flatMap f') (of + n * i'.size) w (fun j hj => (by have := (hcell j hj).1; rwa [Nat.add_zero] at this)) j hj
      have hval : RelV F (w.setCells g (of + n * i'.size) ((List.range m).flatMap f')) ρ (.osl e0 i'.size (cond (Nat.beq m 0) false false) (n + m) fun j => V.mix (Nat.blt j n) (get j) (add (j - n))) (.slice (some ⟨g, of, none⟩) (n + m) c) (fun g o => fam (.t t0) g o ∨ sumT fam ty' g o) := by
        refine ⟨nofun, fun _ => ⟨_, c, rfl, hroom, k3, fun h => by (cases hb : Nat.beq m 0 <;> rw [hb] at h <;> cases h), fun _ => ⟨g, of, rfl, ?_, fun g' o' h => .inl (hreg g' o' h), _, fun j => if j < n then f j else f' (j - n), fun j => if j < n then fs j else fs' (j - n), rfl, ?_, fun j hj => ?_, fun i j hi hj hij => ?_⟩⟩⟩
        · rcases hsp with hsp | ⟨h1, cur, h2, h3, _⟩
          · left; omega
          · obtain ⟨o', r1, r2⟩ := hE.shape _ _ h2
            cases o' <;> simp [alike] at r2
            obtain ⟨r3, rfl, rfl⟩ := r2
            refine .inr ⟨h1, _, r1, by omega, fun k h4 h5 => ⟨rfl, ?_, ?_⟩⟩
            · omega
            · have : (n + m) * i'.size + (c - (n + m)) * i'.size = c * i'.size := by rw [← Nat.add_mul]; congr 1; omega
              omega
        · rw [join_f, ← q1]
          refine ⟨fun j v hj => ?_, fun j hj => ?_, fun j hj => .inl (hreg _ _ ⟨rfl, by omega, ?_⟩)⟩
          · by_cases hjx : j < xs.length
            · rw [List.getElem?_append_left hjx] at hj
              rw [hkeep _ _ (by rintro ⟨_, h2, _⟩; omega)]
              exact q2.reads j v hj
            · rw [List.getElem?_append_right (by omega)] at hj
              have hlt := (List.getElem?_eq_some_iff.1 hj).1
              have e : of + j = of + n * i'.size + (j - xs.length) := by omega
              rw [e, hcellnew _ hlt]
              rw [List.getElem?_eq_getElem hlt] at hj
              exact hj
          · rw [World.frozen?_setCells]
            by_cases hjx : j < xs.length
            · exact q2.free j hjx
            · have hj' : j - xs.length < ((List.range m).flatMap f').length := by rw [List.length_append] at hj; omega
              have := (hcell _ hj').2
              have e : of + n * i'.size + 0 + (j - xs.length) = of + j := by omega
              rwa [e] at this
          · rw [List.length_append, hxl, hnews] at hj; omega
        · by_cases hjn : j < n
          · simp only [hjn, if_true, blt_true' hjn, V.mix_eq, cond_true]
            refine ⟨(q3 j hjn).1, (q3 j hjn).2.1.keep hE (Foot.Sub.refl _) hsF _ (fun _ _ h => h) (fun g' o' h => hkeep g' o' fun hh => (q3 j hjn).2.2.2 g' o' h (hin g' o' hh)) (Foot.Sub.refl _), fun g' o' h => .inl ((q3 j hjn).2.2.1 g' o' h), (q3 j hjn).2.2.2⟩
          · simp only [hjn, if_false, blt_false' hjn, V.mix_eq, cond_false]
            have ha := a1 (j - n) (by omega)
            refine ⟨ha.1, ha.2.1.keep hE (Foot.Sub.refl _) hsF _ (fun _ _ h => h) (fun g' o' h => hkeep g' o' fun hh => hxy g' o' (hmine g' o' hh) (ha.2.2 g' o' h)) (Foot.Sub.refl _), fun g' o' h => .inr (ha.2.2 g' o' h), fun g' o' h hh => hxy g' o' (hreg g' o' hh) (ha.2.2 g' o' h)⟩
        · by_cases hin : i < n <;> by_cases hjn : j < n <;> simp only [hin, hjn, if_true, if_false]
          · exact q4 i j hin hjn hij
          · exact fun g o h1 h2 => hxy g o ((q3 i hin).2.2.1 g o h1) ((a1 _ (by omega)).2.2 g o h2)
          · exact fun g o h1 h2 => hxy g o ((q3 j hjn).2.2.1 g o h2) ((a1 _ (by omega)).2.2 g o h1)
          · exact a2 _ _ (by omega) (by omega) (by omega)
      have s2 := s1.put (a := a) d hd hval (fun i hi g' o' h1 h2 => by
          obtain ⟨k1, k2⟩ := hpn h2
          obtain ⟨t, ht, h⟩ := hfull g' o' h1
          exact hs.off (.t t) i (fun e => k2 t ht e.symm) g' o' h k1) (fun g' o' h1 h2 => by
          obtain ⟨t, ht, h⟩ := hfull g' o' h1
          exact hs.offF _ g' o' h h2) (fun g' o' h1 => by
          obtain ⟨t, ht, h⟩ := hfull g' o' h1
          exact hs.new _ g' o' h) (fun g' o' h1 => by
          obtain ⟨t, ht, h⟩ := hfull g' o' h1
          exact Nat.lt_of_lt_of_le (hs.lt _ g' o' h) hE.size)
      exact ⟨_, _, by rw [hav]; exact hrun, F, ρ, _, m1, s2⟩
    · refine grow f fs (fun j hj => ⟨(q3 j hj).1, (q3 j hj).2.1, (q3 j hj).2.2.1⟩) q4 ?_ hroom
      rw [hav]
      have := run_loadCells_list (P := P) (w := w.drew) ⟨g, of, none⟩ ((List.range n).flatMap f) (fun j u hj => by rw [cell_heap (show w.drew.heap = w.heap from rfl), add_addr]; exact q2.reads j u (by rw [q1]; exact hj))
      rw [flatMap_length n fun j hj => (q3 j hj).1] at this
      exact this
end
end Go.Vm
end
section
namespace Go.Vm
open Go
section
variable {P : Program} {w : World} {Γ : Ctx} {F : Foot} {ρ : Names} {fam : Fam} {s : St} {a : Act} {o : Oper} {kn : Nat → Option Bool} {pol : Nat → Nat} {e : Eff}
theorem joined {sz n m : Nat} {get add : Nat → V} {olds news : List Value} {rest : Array Value} (ho : olds.length = n * sz)
    (h1 : ∀ j, j < n → ∃ xs, xs.length = sz ∧ RelT F w noNames (get j) xs none_ ∧ ∀ k u, xs[k]? = some u → olds[j * sz + k]? = some u)
    (h2 : ∀ j, j < m → ∃ xs, xs.length = sz ∧ RelT F w noNames (add j) xs none_ ∧ ∀ k u, xs[k]? = some u → news[j * sz + k]? = some u) :
    ∀ i, i < n + m → ∃ xs, xs.length = sz ∧ RelT F w noNames (cond (Nat.blt i n) (get i) (add (i - n))) xs none_ ∧ ∀ k u, xs[k]? = some u → (olds.toArray ++ news.toArray ++ rest)[i * sz + k]? = some u := by
  intro i hi
  have harr : ∀ (j : Nat) (u : Value), (olds ++ news)[j]? = some u → (olds.toArray ++ news.toArray ++ rest)[j]? = some u := by
    intro j u hu
    have hj := (List.getElem?_eq_some_iff.1 hu).1
    rw [← Array.getElem?_toList]
    simp only [Array.toList_append, List.toList_toArray]
    rw [List.getElem?_append_left hj]
    exact hu
  by_cases hn : i < n
  · rw [blt_true' hn]
    obtain ⟨xs, k1, k2, k3⟩ := h1 i hn
    refine ⟨xs, k1, k2, fun k u hu => harr _ u ?_⟩
    have := k3 k u hu
    have hlt := (List.getElem?_eq_some_iff.1 this).1
    rw [List.getElem?_append_left hlt]
    exact this
  · rw [blt_false' hn]
    obtain ⟨xs, k1, k2, k3⟩ := h2 (i - n) (by omega)
    refine ⟨xs, k1, k2, fun k u hu => harr _ u ?_⟩
    have := k3 k u hu
    have e : i * sz + k = olds.length + ((i - n) * sz + k) := by
      rw [ho]
      have : i * sz = n * sz + (i - n) * sz := by rw [← Nat.add_mul]; congr 1; omega
      omega
    rw [e, List.getElem?_append_right (by omega), Nat.add_sub_cancel_left]
    exact this
theorem Stand.fill (hm : Mem Γ w F) (hs : Stand Γ F w ρ fam s a.tmps) (t : Nat) {g k : Nat} {news : List Value} (hsp : ∀ j, j < news.length → fam (.t t) g (k + j)) :
    let F' := F.or (regionFoot g k news.length)
    let s' : St := { tm := takes s.tm [t], H := s.H }
    Mem Γ (w.setCells g k news) F' ∧ Stand Γ F' (w.setCells g k news) ρ (famPut fam [t] none none_) s' a.tmps := by
  intro F' s'
  have hE := ext_setCells g news k w
  have hch : ∀ g' o', ¬ fam (.t t) g' o' → (w.setCells g k news).cell? ⟨g', o', none⟩ = w.cell? ⟨g', o', none⟩ := by
    intro g' o' hn
    refine World.cell?_setCells_out g _ _ w _ fun hb _ => ?_
    simp only at hb ⊢
    subst hb
    by_cases h1 : o' < k
    · exact .inl h1
    · right
      by_cases h2 : k + news.length ≤ o'
      · exact h2
      · exact absurd (by have := hsp (o' - k) (by omega); rwa [Nat.add_sub_cancel' (by omega)] at this) hn
  have hin : ∀ g' o', regionFoot g k news.length g' o' → fam (.t t) g' o' := by
    rintro g' o' ⟨rfl, h1, h2⟩
    have := hsp (o' - k) (by omega)
    rwa [Nat.add_sub_cancel' h1] at this
  have hd := hs.drop [t]
  have inl : ∀ {i : Ix} {g o}, famPut fam [t] none none_ i g o → fam i g o ∧ i ≠ .t t := by
    intro i g o hg
    cases i with
    | b i => exact ⟨hg, nofun⟩
    | t u =>
      simp only [famPut, reduceCtorEq, if_false, List.mem_singleton] at hg
      split at hg
      · exact hg.elim
      · rename_i hne
        exact ⟨hg, fun e => hne (by cases e; rfl)⟩
  refine ⟨⟨hm.ext.trans hE, fun g o h => .inl (hm.sub g o h), ?_, fun g o hn => ?_, ?_⟩, hd.keep hE (Foot.sub_left _ _) (fun g o hg => hch g o fun hb => hs.offF _ g o hb hg) (fun i g o hg => hch g o fun hb => ?_) ?_⟩
  · rintro g' o' (h | h)
    · exact hm.fresh g' o' h
    · exact .inr (hs.new _ g' o' (hin g' o' h))
  · rw [hch g o fun hb => hn (hs.new _ g o hb)]; exact hm.keep g o hn
  · rintro g' o' (h | h)
    · exact Nat.lt_of_lt_of_le (hm.live g' o' h) hE.size
    · exact Nat.lt_of_lt_of_le (hs.lt _ g' o' (hin g' o' h)) hE.size
  · exact hs.off i (.t t) (inl hg).2 g o (inl hg).1 hb
  · rintro i g' o' hi (h | h)
    · exact hs.offF i g' o' (inl hi).1 h
    · exact hs.off i (.t t) (inl hi).2 g' o' (inl hi).1 (hin g' o' h)
theorem applyE_val {d : Nat} (hdst : o.dst = some d) {e : Eff} (h1 : ∀ id c, e.tgt ≠ some (id, some c)) (h2 : e.new = none) : applyE o s e = { tm := upd (takes s.tm e.take) d e.res, H := s.H } := by
  unfold applyE
  simp only [hdst, h2]
  split <;> simp_all
theorem sound_append (hm : Mem Γ w F) (hs : Stand Γ F w ρ fam s a.tmps) (hd : dstOk a.tmps.size o = true) {c : Call} (ho : o.op = .call c) (hc : c.callee = .builtin .append) (h : opW P pol kn o s = some e) (hn : e.need = true)
    (hside : ∀ p, e.side = some p → p) (hdst : o.dst.isSome = true) : OpOK P Γ s a w o e := by
  obtain ⟨d, hdst⟩ := Option.isSome_iff_exists.1 hdst
  simp only [opW, ho, hc] at h
  have hargs : ∃ x y, c.args = #[x, y] := by
    cases hal : c.args.toList with
    | nil => rw [hal] at h; simp [builtinV] at h
    | cons x l =>
      cases l with
      | nil => rw [hal] at h; simp [builtinV] at h
      | cons y l =>
        cases l with
        | cons z l => rw [hal] at h; simp [builtinV] at h
        | nil => exact ⟨x, y, by apply Array.toList_inj.1; simpa using hal⟩
  obtain ⟨x, y, hargs⟩ := hargs
  simp only [hargs, List.map_cons, List.map_nil, builtinV] at h
  obtain ⟨hat, h⟩ := cond_some h
  have htypes : ∃ t u, c.argTypes = #[t, u] ∧ ∃ du, P.underlying u = some du ∧ ∀ k, du ≠ .int k := by
    split at hat <;> (try cases hat)
    rename_i t u hts
    refine ⟨t, u, by apply Array.toList_inj.1; simpa using hts, ?_⟩
    split at hat <;> (try cases hat)
    rename_i hint hnone
    cases hdd : P.underlying u with
    | none => exact absurd hdd hnone
    | some du => exact ⟨du, rfl, fun k hk => hint k (by rw [hdd, hk])⟩
  obtain ⟨t, u, htypes, du, hdu, hdk⟩ := htypes
  simp only [htypes] at h
  split at h
  · rename_i e0 s0 nil n get hX
    obtain ⟨v, w', r1, r2, r3, F', ρ', fam', r4, r5⟩ := sound_appendO (t := t) hm hs (dstOk_lt hd hdst) hdu hdk hX h hn hside o.type
    refine .of (v := v) (w' := w') ?_ r4 r5 (applyE_val hdst r2 r3) (by rw [hdst])
    simp only [execOp, ho, resolve, hc, Sem.run_bind, Sem.run_pure, Result.andThen_ok, invoke, Go.builtin, htypes, hargs, List.map_toArray, List.map_cons, List.map_nil, r1]
  unfold appendV at h
  split at h <;> (try cases h)
  rename_i e0 i hel
  unfold elemOf at hel
  split at hel <;> (try cases hel)
  rename_i e1 hu
  simp only [Option.map_eq_some_iff, Prod.mk.injEq] at hel
  obtain ⟨i', hi, rfl, rfl⟩ := hel
  split at h <;> (try cases h)
  rename_i m add id side hadd
  split at h <;> (try cases h)
  rename_i tok s0 nil n get hX
  obtain ⟨hc2, h⟩ := cond_some h
  obtain rfl := Option.some.inj h
  simp only [Bool.and_eq_true] at hc2 hn
  obtain ⟨hz, hsz, hby, htok⟩ := hc2
  obtain ⟨hsb, hn⟩ := hn
  split at hz <;> (try cases hz)
  rename_i z hiz
  have hzs := Nat.eq_of_beq_eq_true hz
  have hsz : 0 < i'.size := by simpa [Nat.blt_eq] using hsz
  have hby : 0 < i'.bytes := by simpa [Nat.blt_eq] using hby
  simp only [room, decide_eq_true_eq] at hn
  have hA := added_ok (P := P) hs hadd (fun b p hp => by subst hp; exact ⟨hsb, hside p rfl⟩)
  have hxrel := evalV_rel hs x
  rw [hX] at hxrel
  obtain ⟨A, cap, k1, k2, k3, k4, k5⟩ := inv_sl hxrel
  obtain ⟨news, n1, n2, n3, n4⟩ := hA.ex
  have hnm : n + m ≤ 140737488351232 := Nat.le_trans (Nat.le_mul_of_pos_right (n + m) hby) hn
  have hex : ∀ v w', (Builtin.append_ #[t, u] o.type #[a.eval x, a.eval y]).run P w = .ok v w' → (execOp a.eval o).run P w = .ok (.value v) w' := by
    intro v w' hv
    simp only [execOp, ho, resolve, hc, Sem.run_bind, Sem.run_pure, Result.andThen_ok, invoke, Go.builtin, htypes, hargs, List.map_toArray, List.map_cons, List.map_nil, hv]
  -- new memory
  have hnew : ¬ (n + m ≤ cap) → ∀ olds : List Value, olds.length = n * i'.size → (Builtin.firstCells i'.size n (a.eval x)).run P w.drew = .ok olds.toArray w.drew →
      (∀ j, j < n → ∃ xs, xs.length = i'.size ∧ RelT F w noNames (get j) xs none_ ∧ ∀ k u, xs[k]? = some u → olds[j * i'.size + k]? = some u) →
      OpOK P Γ s a w o { need := (match side with | some (b, _) => b | none => true) && room (n + m) i'.bytes, side := side.map (·.2), res := joinV e1 i'.size n m nil get add, tgt := id.map (·, none), take := takeOf x (evalV s.tm x) } := by
    intro hroom olds ho1 ho2 ho3
    have hm0 : Nat.beq m 0 = false := by
      cases hb : Nat.beq m 0
      · rfl
      · have := Nat.eq_of_beq_eq_true hb; omega
    rw [k1] at ho2
    have hrun := run_append_new (ty := o.type) hu hi hiz hdu hdk hA.len (n2 w.drew rfl) ho2 hroom (by omega) (by omega) (by omega)
    have hdrop := hs.drop (takeOf x (evalV s.tm x))
    obtain ⟨d1, d2⟩ := hdrop.drew hm
    have hge := grownCap_ge w (n + m) cap e1
    have hcm := grownCap_le_maxLen w (n + m) cap e1 (by unfold maxLen; omega)
    have hcells : (olds.toArray ++ news.toArray ++ Builtin.zeroCells z.cells (grownCap w (n + m) cap e1 - (n + m))).size = grownCap w (n + m) cap e1 * i'.size := by
      simp only [Array.size_append, List.size_toArray, size_zeroCells, hzs, ho1, n1, ← Nat.add_mul]
      congr 1
      omega
    have kd : ∀ {x : V} {xs : List Value}, RelT F w noNames x xs none_ → RelT F w.drew noNames x xs none_ := fun hx => hx.keep (Ext.drew w) (Foot.Sub.refl _) (fun _ _ _ => rfl) _ (fun _ _ h => h) (fun _ _ h => h.elim) (Foot.Sub.refl _)
    obtain ⟨F', fam', s1, s2⟩ := fresh_put (a := a) d1 d2 (dstOk_lt hd hdst) (get := fun j => cond (Nat.blt j n) (get j) (add (j - n))) hcells hge hcm
      (joined (get := get) (add := add) ho1 (fun j hj => let ⟨xs, q1, q2, q3⟩ := ho3 j hj; ⟨xs, q1, kd q2, q3⟩) (fun j hj => let ⟨xs, q1, q2, q3⟩ := n4 j hj; ⟨xs, q1, kd q2, q3⟩)) (some e1) (fun _ h => by cases h; rfl)
    refine .of (hex _ _ (by rw [k1]; exact hrun)) s1 s2 ?_ (by rw [hdst]; rfl)
    rw [applyE_val hdst (fun id' c' h => by cases id <;> simp at h) rfl]
    simp only [joinV, hm0, cond_false, V.mix_eq]
  cases nil with
  | true =>
    obtain ⟨rfl, rfl, rfl⟩ := k4 rfl
    by_cases hm0 : m = 0
    · subst hm0
      have hn0 : news = [] := List.eq_nil_of_length_eq_zero (by simpa using n1)
      subst hn0
      have hrun := run_append_fits (ty := o.type) (base := none) (sLen := 0) (sCap := 0) (w' := w) hu hi hdu hdk hA.len (n2 w rfl) (Nat.le_refl _) (fun a h => by cases h) (fun _ => rfl)
      have := hs.val (takeOf x (evalV s.tm x)) d (dstOk_lt hd hdst) (res := joinV e1 i'.size 0 0 true get add) (v := .slice none 0 0) (fr := none_) ⟨nofun, fun _ => ⟨none, 0, rfl, Nat.le_refl _, Nat.zero_le _, fun _ => ⟨rfl, rfl, rfl⟩, nofun⟩⟩ (Foot.none_sub _)
      refine .of (hex _ _ (by rw [k1]; exact hrun)) hm this ?_ (by rw [hdst])
      rw [applyE_val hdst (fun id' c' h => by cases id <;> simp at h) rfl]
    · exact hnew (by omega) [] (by simp) (by rw [k1]; simp [Builtin.firstCells]) (fun j hj => by omega)
  | false =>
    obtain ⟨g, of, q, rfl, hq, hspare, hel⟩ := k5 rfl
    simp only [Bool.or_eq_true, Bool.false_eq_true, or_false, Bool.and_eq_true] at htok
    obtain ⟨hs0, htok⟩ := htok
    obtain rfl := Nat.eq_of_beq_eq_true hs0
    split at htok <;> (try cases htok)
    rename_i e2
    obtain rfl := Nat.eq_of_beq_eq_true htok
    have hsp := hspare _ rfl
    have hslot : ∃ t0, x = .tmp t0 := by
      cases x with
      | tmp t0 => exact ⟨t0, rfl⟩
      | const v =>
        exfalso
        simp only [evalV, constV] at hX
        split at hX <;> simp at hX
      | global => simp [evalV] at hX
      | func => simp [evalV] at hX
    obtain ⟨t0, rfl⟩ := hslot
    have htake : takeOf (.tmp t0) (evalV s.tm (.tmp t0)) = [t0] := by rw [hX]; rfl
    by_cases hroom : n + m ≤ cap
    · rcases (show cap = n ∨ _ from by
        rcases hq with hq | hq
        · exact hsp.imp (fun h => h) fun h => And.intro hq h
        · exact .inl (by omega)) with hsp | ⟨rfl, rfl, cur, hcur, hcs, hown⟩
      · subst hsp
        obtain rfl : m = 0 := by omega
        have hn0 : news = [] := List.eq_nil_of_length_eq_zero (by simpa using n1)
        subst hn0
        have hrun := run_append_fits (ty := o.type) (base := some ⟨g, of, q⟩) (sLen := cap) (sCap := cap) (w' := w) hu hi hdu hdk hA.len (n2 w rfl) (Nat.le_refl _) (fun a h => rfl) nofun
        have := hs.val (takeOf (.tmp t0) (evalV s.tm (.tmp t0))) d (dstOk_lt hd hdst) (res := joinV e1 i'.size cap 0 false get add) (v := .slice (some ⟨g, of, q⟩) (cap + 0) cap) (fr := none_)
          ⟨nofun, fun _ => ⟨_, cap, rfl, Nat.le_refl _, k3, nofun, fun _ => ⟨g, of, q, rfl, hq, fun _ _ => .inl rfl, fun i hi => by
            simp only [blt_true' (show i < cap from hi), V.mix_eq, cond_true]; exact hel i hi⟩⟩⟩ (Foot.none_sub _)
        refine .of (hex _ _ (by rw [k1]; exact hrun)) hm this ?_ (by rw [hdst])
        rw [applyE_val hdst (fun id' c' h => by cases id <;> simp at h) rfl]
      · have hmul : n * i'.size + m * i'.size ≤ cap * i'.size := by rw [← Nat.add_mul]; exact Nat.mul_le_mul_right _ hroom
        have hfp : ∀ k, n * i'.size ≤ k → k < cap * i'.size → fam (.t t0) g k := fun k h1 h2 => hown k h1 h2
        have hcell : ∀ j, j < news.length → (w.cell? ⟨g, n * i'.size + 0 + j, none⟩).isSome = true ∧ w.frozen? ⟨g, n * i'.size + 0 + j, none⟩ = false := by
          intro j hj
          have hlt : n * i'.size + 0 + j < cur.size := by omega
          constructor
          · simp [World.cell?, hcur, show n * i'.size + j < cur.size by omega]
          · simp [World.frozen?, hcur]
        have hst := run_storeCells_cells (P := P) g (n * i'.size) news 0 w (fun j hj => (hcell j hj).1) (fun j hj => (hcell j hj).2) n3
        rw [Nat.add_zero] at hst
        have hrun := run_append_fits (ty := o.type) (base := some ⟨g, 0, none⟩) (sLen := n) (sCap := cap) (w' := w.setCells g (n * i'.size) news) hu hi hdu hdk hA.len (n2 w rfl) hroom
          (fun a h => by cases h; rw [add_addr, Nat.zero_add]; exact hst) nofun
        obtain ⟨d1, d2⟩ := Stand.fill (news := news) hm hs t0 (g := g) (k := n * i'.size) (fun j hj => hfp _ (by omega) (by omega))
        have hE := ext_setCells g news (n * i'.size) w
        have hkeep : ∀ g' o', (g' = g → o' < n * i'.size ∨ n * i'.size + news.length ≤ o') → (w.setCells g (n * i'.size) news).cell? ⟨g', o', none⟩ = w.cell? ⟨g', o', none⟩ :=
          fun g' o' hh => World.cell?_setCells_out g _ _ w _ fun hb _ => hh hb
        have hsameF : Same w (w.setCells g (n * i'.size) news) F := fun g' o' hF => hkeep g' o' fun e => by
          subst e
          by_cases q1 : o' < n * i'.size
          · exact .inl q1
          · right
            by_cases q2 : n * i'.size + news.length ≤ o'
            · exact q2
            · exact absurd hF (hs.offF _ _ _ (hfp o' (by omega) (by omega)))
        obtain ⟨cur', hc1, hc2⟩ : ∃ cur', (w.setCells g (n * i'.size) news).heap[g]? = some (.cells cur' e1 (0, 0)) ∧ cur'.size = cap * i'.size := by
          obtain ⟨o', q1, q2⟩ := hE.shape _ _ hcur
          cases o' <;> simp [alike] at q2
          obtain ⟨q3, rfl, rfl⟩ := q2
          exact ⟨_, q1, by omega⟩
        have hcellnew : ∀ j (hj : j < news.length), (w.setCells g (n * i'.size) news).cell? ⟨g, n * i'.size + j, none⟩ = some news[j] := fun j hj =>
          World.cell?_setCells_in g news (n * i'.size) w (fun j hj => (by have := (hcell j hj).1; rwa [Nat.add_zero] at this)) j hj
        have := d2.put (a := a) d (dstOk_lt hd hdst) (res := joinV e1 i'.size n m false get add) (v := .slice (some ⟨g, 0, none⟩) (n + m) cap) (fr := regionFoot g ((n + m) * i'.size) (cap * i'.size - (n + m) * i'.size))
          ⟨nofun, fun _ => ⟨_, cap, rfl, hroom, k3, fun h => by (cases hb : Nat.beq m 0 <;> rw [hb] at h <;> cases h), fun _ => ⟨g, 0, none, rfl, .inl rfl, fun e' he' => ?_, fun i hi => ?_⟩⟩⟩ ?_ ?_ ?_ ?_
        · refine .of (hex _ _ (by rw [k1]; exact hrun)) d1 this ?_ (by rw [hdst])
          rw [applyE_val hdst (fun id' c' h => by cases id <;> simp at h) rfl, htake]
        · cases he'
          exact .inr ⟨rfl, cur', hc1, hc2, fun k h1 h2 => ⟨rfl, h1, by omega⟩⟩
        · by_cases hin : i < n
          · simp only [blt_true' hin, V.mix_eq, cond_true]
            obtain ⟨xs, q1, q2, q3, q4⟩ := hel i hin
            exact ⟨xs, q1, q2.keep hE (Foot.sub_left _ _) hsameF _ (fun _ _ h => h) (fun _ _ h => h.elim) (Foot.Sub.refl _), q3.keep hsameF (fun j hj => q4 j (by omega)), fun j hj => .inl (q4 j hj)⟩
          · simp only [blt_false' hin, V.mix_eq, cond_false]
            obtain ⟨xs, q1, q2, q3⟩ := n4 (i - n) (by omega)
            have hmi : (i - n + 1) * i'.size ≤ m * i'.size := Nat.mul_le_mul_right _ (by omega)
            rw [Nat.add_mul] at hmi
            have hie : i * i'.size = n * i'.size + (i - n) * i'.size := by rw [← Nat.add_mul]; congr 1; omega
            refine ⟨xs, q1, q2.keep hE (Foot.sub_left _ _) hsameF _ (fun _ _ h => h) (fun _ _ h => h.elim) (Foot.Sub.refl _), fun k u hu => ?_, fun k hk => .inr ⟨rfl, by omega, by omega⟩⟩
            have hu' := q3 k u hu
            have hlt := (List.getElem?_eq_some_iff.1 hu').1
            have e : 0 + i * i'.size + k = n * i'.size + ((i - n) * i'.size + k) := by omega
            rw [e, hcellnew _ hlt]
            rw [List.getElem?_eq_getElem hlt] at hu'
            exact hu'
        · intro i hi g' o' h1 h2
          obtain ⟨rfl, h3, h4⟩ := h1
          have hff : fam (.t t0) g' o' := hfp o' (by rw [Nat.add_mul] at h3; omega) (by omega)
          have hsub : ∀ i, famPut fam [t0] none none_ i g' o' → fam i g' o' ∧ i ≠ .t t0 := by
            intro i hg
            cases i with
            | b i => exact ⟨hg, nofun⟩
            | t u =>
              simp only [famPut, reduceCtorEq, if_false, List.mem_singleton] at hg
              split at hg
              · exact hg.elim
              · rename_i hne
                exact ⟨hg, fun e => hne (by cases e; rfl)⟩
          obtain ⟨h5, h6⟩ := hsub i h2
          exact hs.off _ _ h6 g' o' h5 hff
        · rintro g' o' ⟨rfl, h3, h4⟩ (h5 | ⟨_, h6, h7⟩)
          · exact hs.offF _ _ _ (hfp o' (by rw [Nat.add_mul] at h3; omega) (by omega)) h5
          · rw [n1, ← Nat.add_mul] at h7; omega
        · rintro g' o' ⟨rfl, h3, h4⟩
          exact hs.new _ _ _ (hfp o' (by rw [Nat.add_mul] at h3; omega) (by omega))
        · rintro g' o' ⟨rfl, h3, h4⟩
          exact Nat.lt_of_lt_of_le (hs.lt _ _ _ (hfp o' (by rw [Nat.add_mul] at h3; omega) (by omega))) hE.size
    · have hch : ∀ i : Nat, ∃ xs : List Value, i < n → xs.length = i'.size ∧ RelT F w noNames (get i) xs none_ ∧ Reads w g (of + i * i'.size) xs := by
        intro i
        by_cases hi : i < n
        · obtain ⟨xs, h1, h2, h3, _⟩ := hel i hi
          exact ⟨xs, fun _ => ⟨h1, h2, h3⟩⟩
        · exact ⟨[], fun h => absurd h hi⟩
      obtain ⟨f, hf⟩ := Classical.skolem.1 hch
      refine hnew hroom ((List.range n).flatMap f) (flatMap_length n fun i hi => (hf i hi).1) ?_ (fun j hj => ⟨f j, (hf j hj).1, (hf j hj).2.1, fun k u hu => ?_⟩)
      · rw [k1]
        rcases hq with rfl | rfl
        case inr =>
          obtain rfl : n = 0 := by omega
          simp [Builtin.firstCells, loadCells, loadCellsFrom]
        have := run_loadCells_list (P := P) (w := w.drew) ⟨g, of, none⟩ _ (fun j u hj => flatMap_reads (w := w.drew) (fun i hi => (hf i hi).1) (fun i hi => (hf i hi).2.2) j u hj)
        rw [flatMap_length n fun i hi => (hf i hi).1] at this
        exact this
      · exact flatMap_get (f := f) (List.range n) j k (v := j) (sz := i'.size) (fun v hv => (hf v (List.mem_range.1 hv)).1) (by simp [hj]) hu
end
end Go.Vm
end
section
namespace Go.Vm
open Go
def shapeB (nt : Nat) (o : Oper) (e : Eff) : Bool :=
  dstOk nt o && (match o.op with
    | .store .. => o.dst.isNone
    | .alloc _ | .box .. | .load .. | .makeSlice .. => o.dst.isSome
    | _ => (o.dst.isSome || (match o.op with
        | .buildSlice .. => false
        | .call _ => false
        | _ => true)) && (e.new.isNone && (match e.tgt with | some (_, some _) => false | _ => true)))
section
variable {P : Program} {w : World} {Γ : Ctx} {F : Foot} {ρ : Names} {fam : Fam} {s : St} {a : Act} {o : Oper} {kn : Nat → Option Bool} {pol : Nat → Nat} {e : Eff}
theorem opW_sound (hm : Mem Γ w F) (hs : Stand Γ F w ρ fam s a.tmps) (hsh : shapeB a.tmps.size o e = true) (hk : KnOK kn s.tm)
    (h : opW P pol kn o s = some e) (hn : e.need = true) (hside : ∀ p, e.side = some p → p) : OpOK P Γ s a w o e := by
  simp only [shapeB, Bool.and_eq_true] at hsh
  obtain ⟨hd, hsh⟩ := hsh
  have val : (o.dst.isSome = true ∨ True) → (e.new.isNone = true ∧ (match e.tgt with | some (_, some _) => false | _ => true) = true) → ValOK P F w ρ fam a o e → OpOK P Γ s a w o e := by
    rintro _ ⟨h1, h2⟩ hv
    refine ValOK.op hm hs hd hv (fun id c hc => ?_) (by simpa using h1)
    rw [hc] at h2; cases h2
  cases ho : o.op
  case alloc => rw [ho] at hsh; exact sound_alloc hm hs hd ho h hsh
  case box => rw [ho] at hsh; exact sound_box hm hs hd ho h hsh
  case load => rw [ho] at hsh; exact sound_load hm hs hd ho h hn hsh
  case store => rw [ho] at hsh; exact sound_store hm hs hd ho h hn (by simpa using hsh)
  case makeSlice => rw [ho] at hsh; exact sound_makeSlice hm hs hd ho h hn hsh
  case buildSlice =>
    simp only [ho, Bool.or_false, Bool.and_eq_true] at hsh
    obtain ⟨d, hdst⟩ := Option.isSome_iff_exists.1 hsh.1
    cases hp : Nat.beq (pol d) 1
    · exact sound_buildSlice hm hs hd ho h hdst hp
    · exact sound_buildO hm hs hd ho h hdst hp
  case move x =>
    simp only [ho, Bool.or_true, Bool.true_and, Bool.and_eq_true] at hsh
    have h0 := h
    simp only [opW, ho] at h0
    cases hp : Nat.beq (pol (o.dst.getD 0)) 1 <;> rw [hp] at h0 <;> simp only [cond_true, cond_false, Option.some.injEq] at h0
    · exact val (.inr trivial) hsh (sound_copy hs ho h0.symm)
    · exact val (.inr trivial) hsh (sound_take hs (.inl ho) h0.symm)
  case assign x =>
    simp only [ho, Bool.or_true, Bool.true_and, Bool.and_eq_true] at hsh
    have h0 := h
    simp only [opW, ho, Option.some.injEq] at h0
    exact val (.inr trivial) hsh (sound_take hs (.inr ho) h0.symm)
  case pick c x y =>
    simp only [ho, Bool.or_true, Bool.true_and, Bool.and_eq_true] at hsh
    cases c with
    | tmp c => exact val (.inr trivial) hsh (sound_pick hs hk ho h)
    | _ => simp [opW, ho] at h
  case nilCheck => simp only [ho, Bool.or_true, Bool.true_and, Bool.and_eq_true] at hsh; exact val (.inr trivial) hsh (sound_nilCheck hs ho h)
  case fieldAddr => simp only [ho, Bool.or_true, Bool.true_and, Bool.and_eq_true] at hsh; exact val (.inr trivial) hsh (sound_fieldAddr hs ho h)
  case indexAddr => simp only [ho, Bool.or_true, Bool.true_and, Bool.and_eq_true] at hsh; exact val (.inr trivial) hsh (sound_indexAddr hs ho h hn)
  case extract => simp only [ho, Bool.or_true, Bool.true_and, Bool.and_eq_true] at hsh; exact val (.inr trivial) hsh (sound_extract hs ho h)
  case binOp => simp only [ho, Bool.or_true, Bool.true_and, Bool.and_eq_true] at hsh; exact val (.inr trivial) hsh (sound_binOp hs ho h hn)
  case unOp => simp only [ho, Bool.or_true, Bool.true_and, Bool.and_eq_true] at hsh; exact val (.inr trivial) hsh (sound_unOp hs ho h)
  case makeInterface => simp only [ho, Bool.or_true, Bool.true_and, Bool.and_eq_true] at hsh; exact val (.inr trivial) hsh (sound_makeInterface hs ho h)
  case field => simp only [ho, Bool.or_true, Bool.true_and, Bool.and_eq_true] at hsh; exact val (.inr trivial) hsh (sound_field hs ho h)
  case index => simp only [ho, Bool.or_true, Bool.true_and, Bool.and_eq_true] at hsh; exact val (.inr trivial) hsh (sound_index hs ho h hn)
  case makeFunc => simp only [ho, Bool.or_true, Bool.true_and, Bool.and_eq_true] at hsh; exact val (.inr trivial) hsh (sound_makeFunc hs ho h)
  case slice => simp only [ho, Bool.or_true, Bool.true_and, Bool.and_eq_true] at hsh; exact val (.inr trivial) hsh (sound_slice hs ho h hn)
  case convert => simp only [ho, Bool.or_true, Bool.true_and, Bool.and_eq_true] at hsh; exact val (.inr trivial) hsh (sound_convert hs ho h hside)
  case build => simp only [ho, Bool.or_true, Bool.true_and, Bool.and_eq_true] at hsh; exact val (.inr trivial) hsh (sound_build hs ho h)
  case call c =>
    simp only [ho, Bool.or_false, Bool.and_eq_true] at hsh
    cases hc : c.callee with
    | builtin b =>
      by_cases hb : b = .append
      · subst hb; exact sound_append hm hs hd ho hc h hn hside hsh.1
      · exact val (.inr trivial) hsh.2 (sound_builtin hs ho hc hb h)
    | _ => simp [opW, ho, hc] at h
  all_goals (simp [opW, ho] at h)
end
end Go.Vm
end
section
namespace Go.Vm
open Go
def Runs (P : Program) (k : List Go.Item) (R : Act → World → Prop) (a : Act) (w : World) : Prop :=
  ∀ (b : Frame) (cs : List Frame), ∃ a' w', R a' w' ∧ ∃ todo, Steps P (lone (b.at a k) cs w) (lone { b.at a' todo with mode := .returning } cs w')
section
variable {P : Program} {k : List Go.Item} {R : Act → World → Prop} {a : Act} {w : World}
theorem Runs.head {k' : List Go.Item} {a' : Act} {w' : World} (hs : ∀ (b : Frame) (cs : List Frame), step P (lone (b.at a k) cs w) = .next (lone (b.at a' k') cs w')) (h : Runs P k' R a' w') : Runs P k R a w :=
  fun b cs => let ⟨a'', w'', q, t, r⟩ := h b cs; ⟨a'', w'', q, t, .head (hs b cs) r⟩
theorem Runs.mono {R' : Act → World → Prop} (h : Runs P k R a w) (hr : ∀ a w, R a w → R' a w) : Runs P k R' a w :=
  fun b cs => let ⟨a', w', q, r⟩ := h b cs; ⟨a', w', hr _ _ q, r⟩
theorem Runs.nil (h : R a w) : Runs P [] R a w := fun _ _ => ⟨a, w, h, [], .one step_end⟩
theorem Runs.ret (h : R a w) : Runs P (.code .ret :: k) R a w := fun _ _ => ⟨a, w, h, _, .one step_ret⟩
theorem Runs.skip (h : Runs P k R a w) : Runs P (.code .skip :: k) R a w := .head (fun _ _ => step_skip) h
theorem Runs.seq {x y : Code} (h : Runs P (.code x :: .code y :: k) R a w) : Runs P (.code (.seq x y) :: k) R a w := .head (fun _ _ => step_seq) h
theorem Runs.cond {c : Operand} {x y : Code} {t : Bool} (hc : a.eval c = .bool t) (h : Runs P (.code (if t then x else y) :: k) R a w) : Runs P (.code (.cond c x y) :: k) R a w := .head (fun _ _ => step_cond hc) h
theorem Runs.block {id : Nat} {c : Code} (h : Runs P (.code c :: .inBlock id :: k) R a w) : Runs P (.code (.block id c) :: k) R a w := .head (fun _ _ => step_block) h
theorem Runs.loop {c : Code} (h : Runs P (.code c :: .inLoop c :: k) R a w) : Runs P (.code (.loop c) :: k) R a w := .head (fun _ _ => step_loop) h
theorem Runs.inLoop {c : Code} (h : Runs P (.code c :: .inLoop c :: k) R a w) : Runs P (.inLoop c :: k) R a w := .head (fun _ _ => step_inLoop) h
theorem Runs.inBlock {id : Nat} (h : Runs P k R a w) : Runs P (.inBlock id :: k) R a w := .head (fun _ _ => step_inBlock) h
theorem Runs.scope {c : Code} (h : Runs P (.code c :: .inScope c :: k) R a w) : Runs P (.code (.scope c) :: k) R a w := .head (fun _ _ => step_lone_go (by simp [stepG, stepG.exec, Frame.at])) h
theorem Runs.inScope {c : Code} (h : Runs P k R a w) : Runs P (.inScope c :: k) R a w := .head (fun _ _ => step_lone_go (by simp [stepG, stepG.exec, Frame.at])) h
theorem Runs.label {l : Nat} (h : Runs P k R a w) : Runs P (.code (.label l) :: k) R a w := .head (fun _ _ => step_lone_go (by simp [stepG, stepG.exec, Frame.at])) h
theorem Runs.exit {id : Nat} {k' : List Go.Item} (he : exitTo id k = some k') (h : Runs P k' R a w) : Runs P (.code (.exit id) :: k) R a w := .head (fun _ _ => step_exit he) h
theorem Runs.region {id : Nat} {ops : Array Oper} (h : Runs P (.inRegion ops (List.range ops.size) :: k) R a w) : Runs P (.code (.region id ops false) :: k) R a w := .head (fun _ _ => step_region) h
theorem Runs.region_end {ops : Array Oper} (h : Runs P k R a w) : Runs P (.inRegion ops [] :: k) R a w := .head (fun _ _ => step_region_end) h
theorem Runs.region_draw {id : Nat} {ops : Array Oper} (h : ∀ t, Runs P (.inRegion ops (Region.schedule (P.follows .mixedOrders) ops t) :: k) R a { w with drawn := w.drawn + 1 }) :
    Runs P (.code (.region id ops true) :: k) R a w :=
  fun b cs => let ⟨a'', w'', q, t, r⟩ := h _ b cs; ⟨a'', w'', q, t, .head step_region_draw r⟩
variable {ops : Array Oper} {i : Nat} {rest : List Nat} {o : Oper}
theorem Runs.unwanted (ho : ops[i]? = some o) (hw : Region.wanted o (yielded ops a.tmps) = false) (h : Runs P (.inRegion ops rest :: k) R (a.put o.dst Go.undef) w) : Runs P (.inRegion ops (i :: rest) :: k) R a w := by
  refine .head (fun b cs => ?_) h
  have hs := step_op_skip (P := P) (b := b) (a := a) (k := k) (cs := cs) (w := w) (ops := ops) (i := i) (rest := rest) (by simp [ho, hw])
  simpa only [ho, Option.bind_some] using hs
theorem finish_eq (b : Frame) (ho : ops[i]? = some o) (v : Value) : (b.at a (.inRegion ops (i :: rest) :: k)).finish v = b.at (a.put o.dst v) (.inRegion ops rest :: k) := by
  rw [Frame.finish_at, ho]; rfl
theorem Runs.op_value {v : Value} {w' : World} (ho : ops[i]? = some o) (hw : Region.wanted o (yielded ops a.tmps) = true) (hr : (execOp a.eval o).run P w = .ok (.value v) w')
    (h : Runs P (.inRegion ops rest :: k) R (a.put o.dst v) w') : Runs P (.inRegion ops (i :: rest) :: k) R a w := by
  refine .head (fun b cs => step_lone_go ?_) h
  rw [stepG_op ho hw, ← finish_eq b ho]; simp [stepG.apply, hr]
theorem Runs.op_skip {w' : World} (ho : ops[i]? = some o) (hw : Region.wanted o (yielded ops a.tmps) = true) (hr : (execOp a.eval o).run P w = .ok .skip w')
    (h : Runs P (.inRegion ops rest :: k) R (a.put o.dst Go.undef) w') : Runs P (.inRegion ops (i :: rest) :: k) R a w := by
  refine .head (fun b cs => step_lone_go ?_) h
  rw [stepG_op ho hw, ← finish_eq b ho]; simp [stepG.apply, hr]
theorem Runs.op_enter {f : FuncId} {args : Array Value} {w' : World} (ho : ops[i]? = some o) (hw : Region.wanted o (yielded ops a.tmps) = true) (hr : (execOp a.eval o).run P w = .ok (.enter f args) w')
    (h : Calls P f args w' fun | .returned v, w'' => Runs P (.inRegion ops rest :: k) R (a.put o.dst v) w'' | _, _ => False) : Runs P (.inRegion ops (i :: rest) :: k) R a w := by
  intro b cs
  obtain ⟨e, w'', fr, hR, hsteps, _, hleave⟩ := h (b.at a (.inRegion ops (i :: rest) :: k) :: cs)
  have henter : step P (lone (b.at a (.inRegion ops (i :: rest) :: k)) cs w) = .next (lone (Frame.enter P f args .normal) (b.at a (.inRegion ops (i :: rest) :: k) :: cs) w') :=
    step_lone_go (by rw [stepG_op ho hw]; simp [stepG.apply, hr, Frame.at])
  cases e with
  | returned v =>
    have hR' : Runs P (.inRegion ops rest :: k) R (a.put o.dst v) w'' := hR
    obtain ⟨a', w₃, hq, t, hs⟩ := hR' b cs
    refine ⟨a', w₃, hq, t, Steps.head henter (Steps.trans hsteps (Steps.head ?_ hs))⟩
    rw [← finish_eq b ho]; exact step_leave_returned hleave
  | panicked chain => exact hR.elim
  | outgrown => exact hR.elim
theorem calls_of_runs {f : FuncId} {fn : Func} {c : Code} {args : Array Value} {Q : Ending → World → Prop} (hf : P.funcs[f]? = some fn) (hb : fn.body = some c)
    (h : Runs P [.code c] (fun a' w' => a'.defers = [] ∧ ∃ v, (results fn a'.tmps).run P w' = .ok v w' ∧ Q (.returned v) w') { tmps := args ++ Array.replicate (fn.ntmps - args.size) Go.undef, defers := [] } w) : Calls P f args w Q := by
  intro cs
  let b : Frame := { (default : Frame) with fn := f, kind := .normal }
  have henter : Frame.enter P f args .normal = b.at { tmps := args ++ Array.replicate (fn.ntmps - args.size) Go.undef, defers := [] } [.code c] := by
    simp [Frame.enter, Frame.at, hf, hb, b]
  obtain ⟨a', w', ⟨hd, v, hr, hR⟩, todo, hs⟩ := h b cs
  rw [← henter] at hs
  exact ⟨.returned v, w', _, hR, hs, rfl, rfl, hd, rfl, fn, hf, hr⟩
end
end Go.Vm
end
section
namespace Go.Vm
open Go
structure Fx where
  rt : List Nat
  rh : List Id
  wt : List Nat
  wh : List Id
  dh : List Id := []
  kh : List Id := []
  dt : List Nat := []
  kt : List Nat := []
def memN (t : Nat) (l : List Nat) : Bool := l.any (Nat.beq t)
def memI (i : Id) (l : List Id) : Bool := l.any i.same
theorem memN_iff {t : Nat} {l : List Nat} : memN t l = true ↔ t ∈ l := by
  simp only [memN, List.any_eq_true]
  constructor
  · rintro ⟨x, hx, h⟩; rw [Nat.eq_of_beq_eq_true h]; exact hx
  · intro h; exact ⟨t, h, by simp⟩
theorem memI_iff {i : Id} {l : List Id} : memI i l = true ↔ i ∈ l := by
  simp only [memI, List.any_eq_true]
  constructor
  · rintro ⟨x, hx, h⟩; rw [(Id.same_iff i x).1 h]; exact hx
  · intro h; exact ⟨i, h, (Id.same_iff i i).2 rfl⟩
def over (s s' : St) (fx : Fx) : St where
  tm t := cond (memN t fx.wt) (s'.tm t) (s.tm t)
  H i := cond (memI i fx.wh) (s'.H i) (s.H i)
def sim (a b : Option V) : Prop := a.map V.demote = b.map V.demote
theorem sim.refl (a : Option V) : sim a a := rfl
theorem sim.symm {a b : Option V} (h : sim a b) : sim b a := Eq.symm h
theorem sim.trans {a b c : Option V} (h : sim a b) (k : sim b c) : sim a c := Eq.trans h k
def simV (a b : V) : Prop := a.demote = b.demote
theorem simV.refl (a : V) : simV a a := rfl
theorem simV.symm {a b : V} (h : simV a b) : simV b a := Eq.symm h
theorem simV.trans {a b c : V} (h : simV a b) (k : simV b c) : simV a c := Eq.trans h k
structure Agree (s s' : St) (fx : Fx) : Prop where
  tm : ∀ t ∈ fx.rt, s'.tm t = s.tm t
  H : ∀ i ∈ fx.rh, s'.H i = s.H i
  D : ∀ i ∈ fx.dh, sim (s'.H i) (s.H i)
  T : ∀ t ∈ fx.dt, simV (s'.tm t) (s.tm t)
def offN (l m : List Nat) : Bool := l.all fun t => !memN t m
def offI (l m : List Id) : Bool := l.all fun t => !memI t m
def offK (w k d : List Id) : Bool := d.all fun t => memI t k || !memI t w
def offKt (w k d : List Nat) : Bool := d.all fun t => memN t k || !memN t w
def apartB (x y : Fx) : Bool :=
  (offN x.wt y.rt && (offN x.wt y.wt && offN x.rt y.wt)) && ((offI x.wh y.rh && (offI x.wh y.wh && offI x.rh y.wh)) && ((offK x.wh x.kh y.dh && offK y.wh y.kh x.dh) && (offKt x.wt x.kt y.dt && offKt y.wt y.kt x.dt)))
theorem offN_spec {l m : List Nat} (h : offN l m = true) {t : Nat} (h1 : t ∈ l) (h2 : t ∈ m) : False := by
  have := List.all_eq_true.1 h t h1
  rw [memN_iff.2 h2] at this; cases this
theorem offI_spec {l m : List Id} (h : offI l m = true) {t : Id} (h1 : t ∈ l) (h2 : t ∈ m) : False := by
  have := List.all_eq_true.1 h t h1
  rw [memI_iff.2 h2] at this; cases this
def maskOf (acc : List Nat) (o : Oper) : Nat :=
  o.after.toList.foldl (fun s e => cond (Region.binds .any e) (s ||| (2 ^ e.on ||| acc.getD e.on 0)) s) 0
def masks : List Oper → List Nat → List Nat
  | [], acc => acc
  | o :: l, acc => masks l (acc ++ [maskOf acc o])
def backB : Nat → List Oper → Bool
  | _, [] => true
  | i, o :: l => (o.after.toList.all fun e => !Region.binds .any e || Nat.blt e.on i) && backB (i + 1) l
def clearOf (x : Fx) (i : Nat) : List (Fx × Nat) → Bool
  | [] => true
  | (y, m) :: l => (Nat.testBit m i || apartB x y) && clearOf x i l
def clearAll : Nat → List (Fx × Nat) → Bool
  | _, [] => true
  | i, (x, _) :: l => clearOf x i l && clearAll (i + 1) l
def indepB (ops : Array Oper) (fxs : List Fx) : Bool :=
  backB 0 ops.toList && clearAll 0 (fxs.zip (masks ops.toList []))
inductive Anc (ops : Array Oper) : Nat → Nat → Prop
  | one {i j : Nat} {o : Oper} {e : Edge} (ho : ops[j]? = some o) (he : e ∈ o.after) (hb : Region.binds .any e = true) (hi : e.on = i) : Anc ops i j
  | more {i j : Nat} {o : Oper} {e : Edge} (ho : ops[j]? = some o) (he : e ∈ o.after) (hb : Region.binds .any e = true) (h : Anc ops i e.on) : Anc ops i j
theorem maskOf_sound {ops : Array Oper} {acc : List Nat} (hacc : ∀ j m, acc[j]? = some m → ∀ i, Nat.testBit m i = true → Anc ops i j) {o : Oper} {j : Nat} (ho : ops[j]? = some o) :
    ∀ i, Nat.testBit (maskOf acc o) i = true → Anc ops i j := by
  have : ∀ (l : List Edge) (s : Nat), (∀ e ∈ l, e ∈ o.after) → (∀ i, Nat.testBit s i = true → Anc ops i j) →
      ∀ i, Nat.testBit (l.foldl (fun s e => cond (Region.binds .any e) (s ||| (2 ^ e.on ||| acc.getD e.on 0)) s) s) i = true → Anc ops i j := by
    intro l
    induction l with
    | nil => intro s _ hs; exact hs
    | cons e l ih =>
      intro s hl hs
      rw [List.foldl_cons]
      refine ih _ (fun e he => hl e (by simp [he])) ?_
      intro i hi
      cases hb : Region.binds .any e
      · rw [hb] at hi; exact hs i hi
      · rw [hb, cond_true, Nat.testBit_or, Nat.testBit_or, Bool.or_eq_true, Bool.or_eq_true] at hi
        rcases hi with hi | hi | hi
        · exact hs i hi
        · rw [Nat.testBit_two_pow] at hi
          exact .one ho (hl e (by simp)) hb (by simpa using hi)
        · cases hg : acc[e.on]? with
          | none => rw [List.getD_eq_getElem?_getD, hg] at hi; simp at hi
          | some m =>
            rw [List.getD_eq_getElem?_getD, hg] at hi
            exact .more ho (hl e (by simp)) hb (hacc _ _ hg i hi)
  exact this _ 0 (fun e he => by simpa using he) (fun i hi => by simp at hi)
theorem masks_sound {ops : Array Oper} : ∀ (l : List Oper) (acc : List Nat), (∀ k o, l[k]? = some o → ops[acc.length + k]? = some o) → (∀ j m, acc[j]? = some m → ∀ i, Nat.testBit m i = true → Anc ops i j) →
    ∀ j m, (masks l acc)[j]? = some m → ∀ i, Nat.testBit m i = true → Anc ops i j := by
  intro l
  induction l with
  | nil => intro acc _ h; exact h
  | cons o l ih =>
    intro acc hl hacc
    refine ih _ (fun k o' hk => ?_) (fun j m hj => ?_)
    · have := hl (k + 1) o' (by simpa using hk)
      rw [List.length_append]
      simpa [Nat.add_assoc, Nat.add_comm 1 k] using this
    · by_cases h : j < acc.length
      · rw [List.getElem?_append_left h] at hj; exact hacc j m hj
      · rw [List.getElem?_append_right (by omega)] at hj
        have hj0 : j - acc.length = 0 := by
          cases hh : j - acc.length with
          | zero => rfl
          | succ n => rw [hh] at hj; simp at hj
        rw [hj0] at hj
        simp only [List.getElem?_cons_zero, Option.some.injEq] at hj
        subst hj
        have hje : j = acc.length := by omega
        subst hje
        exact maskOf_sound hacc (by simpa using hl 0 o (by simp))
theorem masks_len : ∀ (l : List Oper) (acc : List Nat), (masks l acc).length = acc.length + l.length := by
  intro l
  induction l with
  | nil => intro acc; simp [masks]
  | cons o l ih => intro acc; rw [masks, ih]; simp; omega
theorem clearOf_spec {x : Fx} {i : Nat} : ∀ {l : List (Fx × Nat)}, clearOf x i l = true → ∀ (k : Nat) (y : Fx) (m : Nat), l[k]? = some (y, m) → Nat.testBit m i = true ∨ apartB x y = true := by
  intro l
  induction l with
  | nil => intro _ k y m h; simp at h
  | cons p l ih =>
    obtain ⟨y0, m0⟩ := p
    intro h k y m hk
    simp only [clearOf, Bool.and_eq_true, Bool.or_eq_true] at h
    cases k with
    | zero => simp only [List.getElem?_cons_zero, Option.some.injEq, Prod.mk.injEq] at hk; obtain ⟨rfl, rfl⟩ := hk; exact h.1
    | succ k => exact ih h.2 k y m (by simpa using hk)
theorem clearAll_spec : ∀ {l : List (Fx × Nat)} {b : Nat}, clearAll b l = true → ∀ (i j : Nat) (x y : Fx) (n m : Nat), i < j → l[i]? = some (x, n) → l[j]? = some (y, m) → Nat.testBit m (b + i) = true ∨ apartB x y = true := by
  intro l
  induction l with
  | nil => intro b _ i j x y n m _ h; simp at h
  | cons p l ih =>
    obtain ⟨x0, m0⟩ := p
    intro b h i j x y n m hij hi hj
    simp only [clearAll, Bool.and_eq_true] at h
    cases j with
    | zero => omega
    | succ j =>
      cases i with
      | zero =>
        simp only [List.getElem?_cons_zero, Option.some.injEq, Prod.mk.injEq] at hi
        obtain ⟨rfl, rfl⟩ := hi
        exact clearOf_spec h.1 j y m (by simpa using hj)
      | succ i =>
        have := ih h.2 i j x y n m (by omega) (by simpa using hi) (by simpa using hj)
        rwa [show b + 1 + i = b + (i + 1) by omega] at this
theorem backB_spec : ∀ {l : List Oper} {b : Nat}, backB b l = true → ∀ (i : Nat) (o : Oper), l[i]? = some o → ∀ e ∈ o.after, Region.binds .any e = true → e.on < b + i := by
  intro l
  induction l with
  | nil => intro b _ i o h; simp at h
  | cons o0 l ih =>
    intro b h i o hi e he hb
    simp only [backB, Bool.and_eq_true] at h
    cases i with
    | zero =>
      simp only [List.getElem?_cons_zero, Option.some.injEq] at hi
      subst hi
      have := List.all_eq_true.1 h.1 e (by simpa using he)
      simpa [hb, Nat.blt_eq] using this
    | succ i =>
      have := ih h.2 i o (by simpa using hi) e he hb
      omega
def comb (S : Nat → Bool) : Nat → List (Fx × St) → St → St
  | _, [], s => s
  | i, (fx, s') :: l, s => comb S (i + 1) l (cond (S i) (over s s' fx) s)
theorem comb_tm {S S' : Nat → Bool} {t : Nat} : ∀ (l : List (Fx × St)) (i : Nat) (s u : St), (∀ k fx s', l[k]? = some (fx, s') → t ∈ fx.wt → S (i + k) = S' (i + k)) → s.tm t = u.tm t →
    (comb S i l s).tm t = (comb S' i l u).tm t := by
  intro l
  induction l with
  | nil => intro i s u _ h; exact h
  | cons p l ih =>
    obtain ⟨fx, s'⟩ := p
    intro i s u h hs
    refine ih (i + 1) _ _ (fun k fx s' hk ht => by have := h (k + 1) fx s' (by simpa using hk) ht; rwa [show i + (k + 1) = i + 1 + k by omega] at this) ?_
    by_cases ht : t ∈ fx.wt
    · have := h 0 fx s' rfl ht
      rw [Nat.add_zero] at this
      rw [this]
      cases S' i
      · exact hs
      · simp only [cond_true, over, memN_iff.2 ht]
    · have hm : memN t fx.wt = false := by
        cases hh : memN t fx.wt
        · rfl
        · exact absurd (memN_iff.1 hh) ht
      have e : ∀ (b : Bool) (s : St), (cond b (over s s' fx) s).tm t = s.tm t := fun b s => by cases b <;> simp [over, hm]
      rw [e, e, hs]
theorem comb_H {S S' : Nat → Bool} {t : Id} : ∀ (l : List (Fx × St)) (i : Nat) (s u : St), (∀ k fx s', l[k]? = some (fx, s') → t ∈ fx.wh → S (i + k) = S' (i + k)) → s.H t = u.H t →
    (comb S i l s).H t = (comb S' i l u).H t := by
  intro l
  induction l with
  | nil => intro i s u _ h; exact h
  | cons p l ih =>
    obtain ⟨fx, s'⟩ := p
    intro i s u h hs
    refine ih (i + 1) _ _ (fun k fx s' hk ht => by have := h (k + 1) fx s' (by simpa using hk) ht; rwa [show i + (k + 1) = i + 1 + k by omega] at this) ?_
    by_cases ht : t ∈ fx.wh
    · have := h 0 fx s' rfl ht
      rw [Nat.add_zero] at this
      rw [this]
      cases S' i
      · exact hs
      · simp only [cond_true, over, memI_iff.2 ht]
    · have hm : memI t fx.wh = false := by
        cases hh : memI t fx.wh
        · rfl
        · exact absurd (memI_iff.1 hh) ht
      have e : ∀ (b : Bool) (s : St), (cond b (over s s' fx) s).H t = s.H t := fun b s => by cases b <;> simp [over, hm]
      rw [e, e, hs]
theorem comb_none0 {S : Nat → Bool} : ∀ (l : List (Fx × St)) (i : Nat) (s : St), (∀ j, S j = false) → comb S i l s = s := by
  intro l
  induction l with
  | nil => intro i s _; rfl
  | cons p l ih =>
    obtain ⟨fx, s'⟩ := p
    intro i s h
    rw [comb, h i, cond_false]
    exact ih _ _ h
theorem comb_stop {S : Nat → Bool} {t : Id} (l : List (Fx × St)) (i : Nat) (u : St) (h : ∀ k fx s', l[k]? = some (fx, s') → t ∈ fx.wh → S (i + k) = false) : (comb S i l u).H t = u.H t := by
  have := comb_H (S := S) (S' := fun _ => false) (t := t) l i u u h rfl
  rw [this, comb_none0 _ _ _ fun _ => rfl]
def Chain (t : Id) : St → List (Fx × St) → Prop
  | _, [] => True
  | s, (fx, s') :: l => (t ∈ fx.kh → sim (s'.H t) (s.H t)) ∧ (t ∉ fx.wh → s'.H t = s.H t) ∧ Chain t s' l
def Down (t : Id) (S : Nat → Bool) (i : Nat) (l : List (Fx × St)) : Prop :=
  ∀ k j fx s' fy s'', k < j → l[k]? = some (fx, s') → l[j]? = some (fy, s'') → t ∈ fx.wh → t ∈ fy.wh → S (i + j) = true → S (i + k) = true
theorem Down.tail {t : Id} {S : Nat → Bool} {i : Nat} {p : Fx × St} {l : List (Fx × St)} (h : Down t S i (p :: l)) : Down t S (i + 1) l := by
  intro k j fx s' fy s'' hkj hk hj h1 h2 h3
  have := h (k + 1) (j + 1) fx s' fy s'' (by omega) (by simpa using hk) (by simpa using hj) h1 h2 (by rwa [show i + (j + 1) = i + 1 + j by omega])
  rwa [show i + 1 + k = i + (k + 1) by omega]
theorem Down.stop {t : Id} {S : Nat → Bool} {i : Nat} {fx : Fx} {s' : St} {l : List (Fx × St)} (h : Down t S i ((fx, s') :: l)) (hw : t ∈ fx.wh) (h0 : S i = false) : ∀ k fy s'', l[k]? = some (fy, s'') → t ∈ fy.wh → S (i + 1 + k) = false := by
  intro k fy s'' hk h2
  cases hS : S (i + 1 + k)
  · rfl
  · have := h 0 (k + 1) fx s' fy s'' (by omega) rfl (by simpa using hk) hw h2 (by rwa [show i + (k + 1) = i + 1 + k by omega])
    rw [Nat.add_zero, h0] at this
    cases this
theorem over_in {s s' : St} {fx : Fx} {t : Id} (h : t ∈ fx.wh) : (over s s' fx).H t = s'.H t := by simp only [over, memI_iff.2 h, cond_true]
theorem over_out {s s' : St} {fx : Fx} {t : Id} (h : t ∉ fx.wh) : (over s s' fx).H t = s.H t := by
  have hm : memI t fx.wh = false := by
    cases hh : memI t fx.wh
    · rfl
    · exact absurd (memI_iff.1 hh) h
  simp only [over, hm, cond_false]
theorem comb_kill {S : Nat → Bool} {t : Id} : ∀ (l : List (Fx × St)) (i : Nat) (s u : St), Chain t s l → Down t S i l → (∀ k fx s', l[k]? = some (fx, s') → t ∈ fx.wh → S (i + k) = true → t ∈ fx.kh) → sim (u.H t) (s.H t) →
    sim ((comb S i l u).H t) (s.H t) := by
  intro l
  induction l with
  | nil => intro i s u _ _ _ h; exact h
  | cons p l ih =>
    obtain ⟨fx, s'⟩ := p
    intro i s u hc hd hk hs
    have hk' : ∀ k fy s'', l[k]? = some (fy, s'') → t ∈ fy.wh → S (i + 1 + k) = true → t ∈ fy.kh := fun k fy s'' h1 h2 h3 => hk (k + 1) fy s'' (by simpa using h1) h2 (by rwa [show i + (k + 1) = i + 1 + k by omega])
    rw [comb]
    by_cases hw : t ∈ fx.wh
    · cases hS : S i
      · rw [cond_false, comb_stop l (i + 1) u (hd.stop hw hS)]
        exact hs
      · rw [cond_true]
        have h1 := hc.1 (hk 0 fx s' rfl hw (by rw [Nat.add_zero]; exact hS))
        exact (ih (i + 1) s' _ hc.2.2 hd.tail hk' (by rw [over_in hw]; exact sim.refl _)).trans h1
    · have e : ∀ b : Bool, (cond b (over u s' fx) u).H t = u.H t := fun b => by cases b <;> simp [over_out hw]
      have h2 := hc.2.1 hw
      rw [← h2]
      exact ih (i + 1) s' _ hc.2.2 hd.tail hk' (by rw [e, h2]; exact hs)
theorem comb_D {S S' : Nat → Bool} {t : Id} : ∀ (l : List (Fx × St)) (i : Nat) (s u v : St), Chain t s l → Down t S i l → Down t S' i l → (∀ k fx s', l[k]? = some (fx, s') → t ∈ fx.wh → t ∉ fx.kh → S (i + k) = S' (i + k)) →
    sim (u.H t) (s.H t) → sim (v.H t) (s.H t) → sim ((comb S i l u).H t) ((comb S' i l v).H t) := by
  intro l
  induction l with
  | nil => intro i s u v _ _ _ _ h k; exact h.trans k.symm
  | cons p l ih =>
    obtain ⟨fx, s'⟩ := p
    intro i s u v hc hd hd' he hu hv
    have he' : ∀ k fy s'', l[k]? = some (fy, s'') → t ∈ fy.wh → t ∉ fy.kh → S (i + 1 + k) = S' (i + 1 + k) := fun k fy s'' h1 h2 h3 => by
      have := he (k + 1) fy s'' (by simpa using h1) h2 h3
      rwa [show i + (k + 1) = i + 1 + k by omega] at this
    have he0 : t ∈ fx.wh → S i ≠ S' i → t ∈ fx.kh := fun hw hne => Classical.byContradiction fun hk => hne (by have := he 0 fx s' rfl hw hk; rwa [Nat.add_zero] at this)
    simp only [comb]
    by_cases hw : t ∈ fx.wh
    · cases hS : S i <;> cases hS' : S' i
      · rw [cond_false, cond_false, comb_stop l (i + 1) u (hd.stop hw hS), comb_stop l (i + 1) v (hd'.stop hw hS')]
        exact hu.trans hv.symm
      · rw [cond_false, cond_true, comb_stop l (i + 1) u (hd.stop hw hS)]
        have hk := he0 hw (by rw [hS, hS']; simp)
        have h1 := comb_kill l (i + 1) s' (over v s' fx) hc.2.2 hd'.tail (fun k fy s'' h1 h2 h3 => Classical.byContradiction fun h4 => by
          have := he' k fy s'' h1 h2 h4
          rw [hd.stop hw hS k fy s'' h1 h2, h3] at this; cases this) (by rw [over_in hw]; exact sim.refl _)
        exact (hu.trans (hc.1 hk).symm).trans h1.symm
      · rw [cond_true, cond_false, comb_stop l (i + 1) v (hd'.stop hw hS')]
        have hk := he0 hw (by rw [hS, hS']; simp)
        have h1 := comb_kill l (i + 1) s' (over u s' fx) hc.2.2 hd.tail (fun k fy s'' h1 h2 h3 => Classical.byContradiction fun h4 => by
          have := he' k fy s'' h1 h2 h4
          rw [hd'.stop hw hS' k fy s'' h1 h2, h3] at this; cases this) (by rw [over_in hw]; exact sim.refl _)
        exact (h1.trans (hc.1 hk)).trans hv.symm
      · rw [cond_true, cond_true]
        exact ih (i + 1) s' _ _ hc.2.2 hd.tail hd'.tail he' (by rw [over_in hw]; exact sim.refl _) (by rw [over_in hw]; exact sim.refl _)
    · have e : ∀ (b : Bool) (z : St), (cond b (over z s' fx) z).H t = z.H t := fun b z => by cases b <;> simp [over_out hw]
      have h2 := hc.2.1 hw
      exact ih (i + 1) s' _ _ hc.2.2 hd.tail hd'.tail he' (by rw [e, h2]; exact hu) (by rw [e, h2]; exact hv)
theorem comb_stopT {S : Nat → Bool} {t : Nat} (l : List (Fx × St)) (i : Nat) (u : St) (h : ∀ k fx s', l[k]? = some (fx, s') → t ∈ fx.wt → S (i + k) = false) : (comb S i l u).tm t = u.tm t := by
  have := comb_tm (S := S) (S' := fun _ => false) (t := t) l i u u h rfl
  rw [this, comb_none0 _ _ _ fun _ => rfl]
def ChainT (t : Nat) : St → List (Fx × St) → Prop
  | _, [] => True
  | s, (fx, s') :: l => (t ∈ fx.kt → simV (s'.tm t) (s.tm t)) ∧ (t ∉ fx.wt → s'.tm t = s.tm t) ∧ ChainT t s' l
def DownT (t : Nat) (S : Nat → Bool) (i : Nat) (l : List (Fx × St)) : Prop :=
  ∀ k j fx s' fy s'', k < j → l[k]? = some (fx, s') → l[j]? = some (fy, s'') → t ∈ fx.wt → t ∈ fy.wt → S (i + j) = true → S (i + k) = true
theorem DownT.tail {t : Nat} {S : Nat → Bool} {i : Nat} {p : Fx × St} {l : List (Fx × St)} (h : DownT t S i (p :: l)) : DownT t S (i + 1) l := by
  intro k j fx s' fy s'' hkj hk hj h1 h2 h3
  have := h (k + 1) (j + 1) fx s' fy s'' (by omega) (by simpa using hk) (by simpa using hj) h1 h2 (by rwa [show i + (j + 1) = i + 1 + j by omega])
  rwa [show i + 1 + k = i + (k + 1) by omega]
theorem DownT.stop {t : Nat} {S : Nat → Bool} {i : Nat} {fx : Fx} {s' : St} {l : List (Fx × St)} (h : DownT t S i ((fx, s') :: l)) (hw : t ∈ fx.wt) (h0 : S i = false) : ∀ k fy s'', l[k]? = some (fy, s'') → t ∈ fy.wt → S (i + 1 + k) = false := by
  intro k fy s'' hk h2
  cases hS : S (i + 1 + k)
  · rfl
  · have := h 0 (k + 1) fx s' fy s'' (by omega) rfl (by simpa using hk) hw h2 (by rwa [show i + (k + 1) = i + 1 + k by omega])
    rw [Nat.add_zero, h0] at this
    cases this
theorem over_inT {s s' : St} {fx : Fx} {t : Nat} (h : t ∈ fx.wt) : (over s s' fx).tm t = s'.tm t := by simp only [over, memN_iff.2 h, cond_true]
theorem over_outT {s s' : St} {fx : Fx} {t : Nat} (h : t ∉ fx.wt) : (over s s' fx).tm t = s.tm t := by
  have hm : memN t fx.wt = false := by
    cases hh : memN t fx.wt
    · rfl
    · exact absurd (memN_iff.1 hh) h
  simp only [over, hm, cond_false]
theorem comb_killT {S : Nat → Bool} {t : Nat} : ∀ (l : List (Fx × St)) (i : Nat) (s u : St), ChainT t s l → DownT t S i l → (∀ k fx s', l[k]? = some (fx, s') → t ∈ fx.wt → S (i + k) = true → t ∈ fx.kt) → simV (u.tm t) (s.tm t) →
    simV ((comb S i l u).tm t) (s.tm t) := by
  intro l
  induction l with
  | nil => intro i s u _ _ _ h; exact h
  | cons p l ih =>
    obtain ⟨fx, s'⟩ := p
    intro i s u hc hd hk hs
    have hk' : ∀ k fy s'', l[k]? = some (fy, s'') → t ∈ fy.wt → S (i + 1 + k) = true → t ∈ fy.kt := fun k fy s'' h1 h2 h3 => hk (k + 1) fy s'' (by simpa using h1) h2 (by rwa [show i + (k + 1) = i + 1 + k by omega])
    rw [comb]
    by_cases hw : t ∈ fx.wt
    · cases hS : S i
      · rw [cond_false, comb_stopT l (i + 1) u (hd.stop hw hS)]
        exact hs
      · rw [cond_true]
        have h1 := hc.1 (hk 0 fx s' rfl hw (by rw [Nat.add_zero]; exact hS))
        exact (ih (i + 1) s' _ hc.2.2 hd.tail hk' (by rw [over_inT hw]; exact simV.refl _)).trans h1
    · have e : ∀ b : Bool, (cond b (over u s' fx) u).tm t = u.tm t := fun b => by cases b <;> simp [over_outT hw]
      have h2 := hc.2.1 hw
      rw [← h2]
      exact ih (i + 1) s' _ hc.2.2 hd.tail hk' (by rw [e, h2]; exact hs)
theorem comb_DT {S S' : Nat → Bool} {t : Nat} : ∀ (l : List (Fx × St)) (i : Nat) (s u v : St), ChainT t s l → DownT t S i l → DownT t S' i l → (∀ k fx s', l[k]? = some (fx, s') → t ∈ fx.wt → t ∉ fx.kt → S (i + k) = S' (i + k)) →
    simV (u.tm t) (s.tm t) → simV (v.tm t) (s.tm t) → simV ((comb S i l u).tm t) ((comb S' i l v).tm t) := by
  intro l
  induction l with
  | nil => intro i s u v _ _ _ _ h k; exact h.trans k.symm
  | cons p l ih =>
    obtain ⟨fx, s'⟩ := p
    intro i s u v hc hd hd' he hu hv
    have he' : ∀ k fy s'', l[k]? = some (fy, s'') → t ∈ fy.wt → t ∉ fy.kt → S (i + 1 + k) = S' (i + 1 + k) := fun k fy s'' h1 h2 h3 => by
      have := he (k + 1) fy s'' (by simpa using h1) h2 h3
      rwa [show i + (k + 1) = i + 1 + k by omega] at this
    have he0 : t ∈ fx.wt → S i ≠ S' i → t ∈ fx.kt := fun hw hne => Classical.byContradiction fun hk => hne (by have := he 0 fx s' rfl hw hk; rwa [Nat.add_zero] at this)
    simp only [comb]
    by_cases hw : t ∈ fx.wt
    · cases hS : S i <;> cases hS' : S' i
      · rw [cond_false, cond_false, comb_stopT l (i + 1) u (hd.stop hw hS), comb_stopT l (i + 1) v (hd'.stop hw hS')]
        exact hu.trans hv.symm
      · rw [cond_false, cond_true, comb_stopT l (i + 1) u (hd.stop hw hS)]
        have hk := he0 hw (by rw [hS, hS']; simp)
        have h1 := comb_killT l (i + 1) s' (over v s' fx) hc.2.2 hd'.tail (fun k fy s'' h1 h2 h3 => Classical.byContradiction fun h4 => by
          have := he' k fy s'' h1 h2 h4
          rw [hd.stop hw hS k fy s'' h1 h2, h3] at this; cases this) (by rw [over_inT hw]; exact simV.refl _)
        exact (hu.trans (hc.1 hk).symm).trans h1.symm
      · rw [cond_true, cond_false, comb_stopT l (i + 1) v (hd'.stop hw hS')]
        have hk := he0 hw (by rw [hS, hS']; simp)
        have h1 := comb_killT l (i + 1) s' (over u s' fx) hc.2.2 hd.tail (fun k fy s'' h1 h2 h3 => Classical.byContradiction fun h4 => by
          have := he' k fy s'' h1 h2 h4
          rw [hd'.stop hw hS' k fy s'' h1 h2, h3] at this; cases this) (by rw [over_inT hw]; exact simV.refl _)
        exact (h1.trans (hc.1 hk)).trans hv.symm
      · rw [cond_true, cond_true]
        exact ih (i + 1) s' _ _ hc.2.2 hd.tail hd'.tail he' (by rw [over_inT hw]; exact simV.refl _) (by rw [over_inT hw]; exact simV.refl _)
    · have e : ∀ (b : Bool) (z : St), (cond b (over z s' fx) z).tm t = z.tm t := fun b z => by cases b <;> simp [over_outT hw]
      have h2 := hc.2.1 hw
      exact ih (i + 1) s' _ _ hc.2.2 hd.tail hd'.tail he' (by rw [e, h2]; exact hu) (by rw [e, h2]; exact hv)
end Go.Vm
end
section
namespace Go.Vm
open Go
inductive Tr (ok : Nat → St → St → Fx → Prop) : Nat → St → List (Fx × St) → St → Prop
  | nil {i : Nat} {s : St} : Tr ok i s [] s
  | cons {i : Nat} {s s' s'' : St} {fx : Fx} {l : List (Fx × St)} (h : ok i s s' fx) (he : over s s' fx = s') (hv : (∀ t ∈ fx.kh, sim (s'.H t) (s.H t)) ∧ ∀ t ∈ fx.kt, simV (s'.tm t) (s.tm t)) (ht : Tr ok (i + 1) s' l s'') : Tr ok i s ((fx, s') :: l) s''
theorem comb_none {S : Nat → Bool} : ∀ (l : List (Fx × St)) (i : Nat) (s : St), (∀ j, i ≤ j → S j = false) → comb S i l s = s := by
  intro l
  induction l with
  | nil => intro i s _; rfl
  | cons p l ih =>
    obtain ⟨fx, s'⟩ := p
    intro i s h
    rw [comb, h i (Nat.le_refl _), cond_false]
    exact ih _ _ fun j hj => h j (by omega)
theorem Tr.at_ {ok : Nat → St → St → Fx → Prop} {i : Nat} {s s'' : St} {l : List (Fx × St)} (h : Tr ok i s l s'') :
    comb (fun j => decide (j < i + l.length)) i l s = s'' ∧ ∀ k fx s', l[k]? = some (fx, s') → ok (i + k) (comb (fun j => decide (j < i + k)) i l s) s' fx ∧ comb (fun j => decide (j < i + (k + 1))) i l s = s' := by
  induction h with
  | nil => exact ⟨rfl, fun k fx s' h => by simp at h⟩
  | @cons i s s' s'' fx l h1 h2 hv h3 ih =>
    have hc : ∀ n, comb (fun j => decide (j < i + (n + 1))) i ((fx, s') :: l) s = comb (fun j => decide (j < i + 1 + n)) (i + 1) l s' := by
      intro n
      have e : i + (n + 1) = i + 1 + n := by omega
      rw [comb, e]
      have : decide (i < i + 1 + n) = true := by simp; omega
      rw [this, cond_true, h2]
    refine ⟨by rw [List.length_cons, hc]; exact ih.1, fun k fx' u hk => ?_⟩
    cases k with
    | zero =>
      simp only [List.getElem?_cons_zero, Option.some.injEq, Prod.mk.injEq] at hk
      obtain ⟨rfl, rfl⟩ := hk
      refine ⟨?_, ?_⟩
      · rw [Nat.add_zero, comb_none _ _ _ (fun j hj => by simp; omega)]; exact h1
      · rw [hc, comb_none _ _ _ (fun j hj => by simp; omega)]
    | succ k =>
      obtain ⟨h4, h5⟩ := ih.2 k fx' u (by simpa using hk)
      refine ⟨?_, ?_⟩
      · rw [hc, show i + (k + 1) = i + 1 + k by omega]; exact h4
      · rw [hc, show i + 1 + (k + 1) = i + 1 + (k + 1) from rfl]; exact h5
theorem Tr.chain {ok : Nat → St → St → Fx → Prop} {i : Nat} {s s'' : St} {l : List (Fx × St)} (h : Tr ok i s l s'') (t : Id) : Chain t s l := by
  induction h with
  | nil => trivial
  | @cons i s s' s'' fx l h1 h2 hv h3 ih => exact ⟨hv.1 t, fun hw => by rw [← h2, over_out hw], ih⟩
theorem Tr.chainT {ok : Nat → St → St → Fx → Prop} {i : Nat} {s s'' : St} {l : List (Fx × St)} (h : Tr ok i s l s'') (t : Nat) : ChainT t s l := by
  induction h with
  | nil => trivial
  | @cons i s s' s'' fx l h1 h2 hv h3 ih => exact ⟨hv.2 t, fun hw => by rw [← h2, over_outT hw], ih⟩
def StepSem (P : Program) (ops : Array Oper) (I : St → Act → World → Prop) (i : Nat) (s s' : St) (fx : Fx) : Prop :=
  ∀ (u : St) (a : Act) (w : World) (rest : List Nat) (K : List Go.Item) (R : Act → World → Prop), Agree s u fx → I u a w →
    (∀ a' w', I (over u s' fx) a' w' → Runs P (.inRegion ops rest :: K) R a' w') → Runs P (.inRegion ops (i :: rest) :: K) R a w
theorem countP_one {p q : Nat → Bool} {i : Nat} (hp : p i = true) (hq : q i = false) (he : ∀ j, j ≠ i → q j = p j) : ∀ n, i < n → (List.range n).countP q + 1 = (List.range n).countP p := by
  have same : ∀ n, n ≤ i → (List.range n).countP q = (List.range n).countP p := by
    intro n hn
    exact List.countP_congr fun j hj => by rw [he j (by have := List.mem_range.1 hj; omega)]
  intro n
  induction n with
  | zero => intro h; omega
  | succ n ih =>
    intro h
    rw [List.range_succ, List.countP_append, List.countP_append]
    by_cases hi : i = n
    · subst hi
      rw [same i (Nat.le_refl _)]
      simp [hp, hq]
    · have := ih (by omega)
      simp only [List.countP_singleton, he n (fun h => hi h.symm)]
      omega
section
variable {P : Program} {ops : Array Oper} {I : St → Act → World → Prop} {l : List (Fx × St)} {s0 s1 : St}
def unlisted (ops : Array Oper) (listed : Array Bool) : Nat := (List.range ops.size).countP fun i => !listed.getD i true
theorem getD_set_true {listed : Array Bool} {i j : Nat} {d : Bool} (h : i < listed.size) : (listed.setIfInBounds i true).getD j d = if j = i then true else listed.getD j d := by
  by_cases hj : j = i
  · subst hj; simp [Array.getD, h]
  · simp only [hj, if_false, Array.getD_eq_getD_getElem?, Array.getElem?_setIfInBounds, Ne.symm hj]
theorem Anc.listed {S : Nat → Bool} (hS : ∀ j o, ops[j]? = some o → S j = true → ∀ e ∈ o.after, Region.binds .any e = true → S e.on = true) {i j : Nat} (h : Anc ops i j) (hj : S j = true) : S i = true := by
  induction h with
  | one ho he hb hi => subst hi; exact hS _ _ ho hj _ he hb
  | more ho he hb _ ih => exact ih (hS _ _ ho hj _ he hb)
theorem fx_apart (hind : indepB ops (l.map (·.1)) = true) (hlen : l.length = ops.size) {i j : Nat} {x y : Fx} {s s' : St} (hij : i < j) (hi : l[i]? = some (x, s)) (hj : l[j]? = some (y, s')) : Anc ops i j ∨ apartB x y = true := by
  simp only [indepB, Bool.and_eq_true] at hind
  have hml := masks_len ops.toList []
  have hlt := (List.getElem?_eq_some_iff.1 hj).1
  have hget : ∀ k, k < l.length → ∃ m, (masks ops.toList [])[k]? = some m := fun k hk => ⟨_, List.getElem?_eq_getElem (by rw [hml]; simp; omega)⟩
  obtain ⟨m, hm⟩ := hget j hlt
  obtain ⟨n, hn⟩ := hget i (by omega)
  have hz : ∀ (k : Nat) (x : Fx) (s : St) (m : Nat), l[k]? = some (x, s) → (masks ops.toList [])[k]? = some m → ((l.map (·.1)).zip (masks ops.toList []))[k]? = some (x, m) := by
    intro k x s m h1 h2
    rw [List.getElem?_zip_eq_some]
    exact ⟨by rw [List.getElem?_map, h1]; rfl, h2⟩
  have := clearAll_spec hind.2 i j x y n m hij (hz i x s n hi hn) (hz j y s' m hj hm)
  rw [Nat.zero_add] at this
  refine this.imp (fun h => ?_) id
  exact masks_sound ops.toList [] (fun k o hk => by simpa using hk) (fun j m h => by simp at h) j m hm i h
theorem apart_t {x y : Fx} (h : apartB x y = true) {t : Nat} : (t ∈ x.wt → t ∈ y.rt → False) ∧ (t ∈ x.wt → t ∈ y.wt → False) ∧ (t ∈ x.rt → t ∈ y.wt → False) := by
  simp only [apartB, Bool.and_eq_true] at h
  exact ⟨offN_spec h.1.1, offN_spec h.1.2.1, offN_spec h.1.2.2⟩
theorem apart_h {x y : Fx} (h : apartB x y = true) {t : Id} : (t ∈ x.wh → t ∈ y.rh → False) ∧ (t ∈ x.wh → t ∈ y.wh → False) ∧ (t ∈ x.rh → t ∈ y.wh → False) := by
  simp only [apartB, Bool.and_eq_true] at h
  exact ⟨offI_spec h.2.1.1, offI_spec h.2.1.2.1, offI_spec h.2.1.2.2⟩
theorem offK_spec {w k d : List Id} (h : offK w k d = true) {t : Id} (h1 : t ∈ d) (h2 : t ∈ w) : t ∈ k := by
  have := List.all_eq_true.1 h t h1
  rw [memI_iff.2 h2] at this
  exact memI_iff.1 (by simpa using this)
theorem apart_d {x y : Fx} (h : apartB x y = true) {t : Id} : (t ∈ y.dh → t ∈ x.wh → t ∈ x.kh) ∧ (t ∈ x.dh → t ∈ y.wh → t ∈ y.kh) := by
  simp only [apartB, Bool.and_eq_true] at h
  exact ⟨offK_spec h.2.2.1.1, offK_spec h.2.2.1.2⟩
theorem offKt_spec {w k d : List Nat} (h : offKt w k d = true) {t : Nat} (h1 : t ∈ d) (h2 : t ∈ w) : t ∈ k := by
  have := List.all_eq_true.1 h t h1
  rw [memN_iff.2 h2] at this
  exact memN_iff.1 (by simpa using this)
theorem apart_dt {x y : Fx} (h : apartB x y = true) {t : Nat} : (t ∈ y.dt → t ∈ x.wt → t ∈ x.kt) ∧ (t ∈ x.dt → t ∈ y.wt → t ∈ y.kt) := by
  simp only [apartB, Bool.and_eq_true] at h
  exact ⟨offKt_spec h.2.2.2.1, offKt_spec h.2.2.2.2⟩
theorem comb_step (htr : Tr (StepSem P ops I) 0 s0 l s1) (hlen : l.length = ops.size) (hind : indepB ops (l.map (·.1)) = true) {S S' : Nat → Bool}
    (hS : ∀ j o, ops[j]? = some o → S j = true → ∀ e ∈ o.after, Region.binds .any e = true → S e.on = true) {k : Nat} {o : Oper} (hk : ops[k]? = some o) (hSk : S k = false)
    (hpre : ∀ e ∈ o.after, Region.binds .any e = true → S e.on = true) (hS' : ∀ j, S' j = if j = k then true else S j) :
    ∃ s s' fx, StepSem P ops I k s s' fx ∧ Agree s (comb S 0 l s0) fx ∧ comb S' 0 l s0 = over (comb S 0 l s0) s' fx := by
  have hkl : k < l.length := by have := (Array.getElem?_eq_some_iff.1 hk).1; omega
  obtain ⟨p, hp⟩ : ∃ p, l[k]? = some p := ⟨_, List.getElem?_eq_getElem hkl⟩
  obtain ⟨fx, s'⟩ := p
  obtain ⟨h1, h2⟩ := htr.at_.2 k fx s' hp
  rw [Nat.zero_add] at h1 h2
  have hanc : ∀ j, Anc ops j k → S j = true := by
    intro j h
    cases h with
    | one ho he hb hi => rw [hk] at ho; cases ho; subst hi; exact hpre _ he hb
    | more ho he hb h => rw [hk] at ho; cases ho; exact h.listed hS (hpre _ he hb)
  have hdesc : ∀ j, Anc ops k j → S j = false := by
    intro j h
    cases hj : S j
    · rfl
    · rw [h.listed hS hj] at hSk; cases hSk
  have hdown : ∀ (t : Id) (S : Nat → Bool), (∀ i j, Anc ops i j → S j = true → S i = true) → Down t S 0 l := by
    intro t S hcl i j fx s' fy s'' hij hi hj hw1 hw2 hs
    rw [Nat.zero_add] at hs ⊢
    exact hcl i j ((fx_apart hind hlen hij hi hj).resolve_right fun ha => (apart_h ha).2.1 hw1 hw2) hs
  have hdownT : ∀ (t : Nat) (S : Nat → Bool), (∀ i j, Anc ops i j → S j = true → S i = true) → DownT t S 0 l := by
    intro t S hcl i j fx s' fy s'' hij hi hj hw1 hw2 hs
    rw [Nat.zero_add] at hs ⊢
    exact hcl i j ((fx_apart hind hlen hij hi hj).resolve_right fun ha => (apart_t ha).2.1 hw1 hw2) hs
  have hlt : ∀ i j, Anc ops i j → i < j := by
    intro i j h
    have hb : ∀ (i j : Nat) (o : Oper) (e : Edge), ops[j]? = some o → e ∈ o.after → Region.binds .any e = true → e.on = i → i < j := fun i j o e ho he hb hi => by
      have h1 := (by simpa [indepB, Bool.and_eq_true] using hind : backB 0 ops.toList = true ∧ _).1
      have := backB_spec h1 j o (by simpa using ho) e he hb
      omega
    induction h with
    | one ho he hb' hi => exact hb _ _ _ _ ho he hb' hi
    | more ho he hb' _ ih => exact Nat.lt_trans ih (hb _ _ _ _ ho he hb' rfl)
  refine ⟨_, s', fx, h1, ⟨fun t ht => ?_, fun t ht => ?_, fun t ht => ?_, fun t ht => ?_⟩, ?_⟩
  · refine comb_tm l 0 _ _ (fun j fy u hj hw => ?_) rfl
    rw [Nat.zero_add]
    rcases Nat.lt_trichotomy j k with h | h | h
    · rw [hanc j ((fx_apart hind hlen h hj hp).resolve_right fun ha => (apart_t ha).1 hw ht)]; simp [h]
    · subst h; rw [hSk]; simp
    · rw [hdesc j ((fx_apart hind hlen h hp hj).resolve_right fun ha => (apart_t ha).2.2 ht hw)]; simp; omega
  · refine comb_H l 0 _ _ (fun j fy u hj hw => ?_) rfl
    rw [Nat.zero_add]
    rcases Nat.lt_trichotomy j k with h | h | h
    · rw [hanc j ((fx_apart hind hlen h hj hp).resolve_right fun ha => (apart_h ha).1 hw ht)]; simp [h]
    · subst h; rw [hSk]; simp
    · rw [hdesc j ((fx_apart hind hlen h hp hj).resolve_right fun ha => (apart_h ha).2.2 ht hw)]; simp; omega
  · refine comb_D l 0 s0 _ _ (htr.chain t) (hdown t S fun i j ha hj => ha.listed hS hj) (hdown t _ fun i j ha hj => ?_) (fun j fy u hj hw hnk => ?_) (sim.refl _) (sim.refl _)
    · have := hlt i j ha
      simp at hj ⊢
      omega
    rw [Nat.zero_add]
    rcases Nat.lt_trichotomy j k with h | h | h
    · rw [hanc j ((fx_apart hind hlen h hj hp).resolve_right fun ha => hnk ((apart_d ha).1 ht hw))]; simp [h]
    · subst h; rw [hSk]; simp
    · rw [hdesc j ((fx_apart hind hlen h hp hj).resolve_right fun ha => hnk ((apart_d ha).2 ht hw))]; simp; omega
  · refine comb_DT l 0 s0 _ _ (htr.chainT t) (hdownT t S fun i j ha hj => ha.listed hS hj) (hdownT t _ fun i j ha hj => ?_) (fun j fy u hj hw hnk => ?_) (simV.refl _) (simV.refl _)
    · have := hlt i j ha
      simp at hj ⊢
      omega
    rw [Nat.zero_add]
    rcases Nat.lt_trichotomy j k with h | h | h
    · rw [hanc j ((fx_apart hind hlen h hj hp).resolve_right fun ha => hnk ((apart_dt ha).1 ht hw))]; simp [h]
    · subst h; rw [hSk]; simp
    · rw [hdesc j ((fx_apart hind hlen h hp hj).resolve_right fun ha => hnk ((apart_dt ha).2 ht hw))]; simp; omega
  · have e : ∀ u v : St, u.tm = v.tm → u.H = v.H → u = v := by intro u v; cases u; cases v; simp_all
    refine e _ _ (funext fun t => ?_) (funext fun t => ?_)
    · by_cases ht : t ∈ fx.wt
      · simp only [over, memN_iff.2 ht, cond_true]
        rw [← congrArg (fun s => St.tm s t) h2]
        refine comb_tm l 0 _ _ (fun j fy u hj hw => ?_) rfl
        rw [Nat.zero_add, hS']
        rcases Nat.lt_trichotomy j k with h | h | h
        · rw [hanc j ((fx_apart hind hlen h hj hp).resolve_right fun ha => (apart_t ha).2.1 hw ht)]; simp; omega
        · subst h; simp
        · rw [if_neg (by omega), hdesc j ((fx_apart hind hlen h hp hj).resolve_right fun ha => (apart_t ha).2.1 ht hw)]; simp; omega
      · have hm : memN t fx.wt = false := by
          cases hh : memN t fx.wt
          · rfl
          · exact absurd (memN_iff.1 hh) ht
        simp only [over, hm, cond_false]
        refine comb_tm l 0 _ _ (fun j fy u hj hw => ?_) rfl
        rw [Nat.zero_add, hS']
        by_cases h : j = k
        · subst h; rw [hp] at hj; cases hj; exact absurd hw ht
        · rw [if_neg h]
    · by_cases ht : t ∈ fx.wh
      · simp only [over, memI_iff.2 ht, cond_true]
        rw [← congrArg (fun s => St.H s t) h2]
        refine comb_H l 0 _ _ (fun j fy u hj hw => ?_) rfl
        rw [Nat.zero_add, hS']
        rcases Nat.lt_trichotomy j k with h | h | h
        · rw [hanc j ((fx_apart hind hlen h hj hp).resolve_right fun ha => (apart_h ha).2.1 hw ht)]; simp; omega
        · subst h; simp
        · rw [if_neg (by omega), hdesc j ((fx_apart hind hlen h hp hj).resolve_right fun ha => (apart_h ha).2.1 ht hw)]; simp; omega
      · have hm : memI t fx.wh = false := by
          cases hh : memI t fx.wh
          · rfl
          · exact absurd (memI_iff.1 hh) ht
        simp only [over, hm, cond_false]
        refine comb_H l 0 _ _ (fun j fy u hj hw => ?_) rfl
        rw [Nat.zero_add, hS']
        by_cases h : j = k
        · subst h; rw [hp] at hj; cases hj; exact absurd hw ht
        · rw [if_neg h]
theorem all_of_ready (hb : backB 0 ops.toList = true) {listed : Array Bool} (hsz : listed.size = ops.size) (hr : Region.ready .any ops listed = []) : ∀ n, n < ops.size → listed.getD n false = true := by
  intro n
  induction n using Nat.strongRecOn with
  | ind n ih =>
    intro hn
    cases hl : listed.getD n false
    · exfalso
      have hmem : n ∈ Region.ready .any ops listed := by
        unfold Region.ready
        rw [List.mem_filter]
        refine ⟨List.mem_range.2 hn, ?_⟩
        have hl2 : listed.getD n true = false := by
          simp only [Array.getD, hsz, hn, dite_true] at hl ⊢; exact hl
        simp only [hl2, Bool.not_false, Bool.true_and, Array.getElem?_eq_getElem hn, Option.map_some, Option.getD_some, Array.all_eq_true_iff_forall_mem]
        intro e he
        cases hbe : Region.binds .any e
        · rfl
        · have := backB_spec hb n ops[n] (by simp [hn]) e he hbe
          rw [Nat.zero_add] at this
          rw [ih e.on this (by omega)]; simp
      rw [hr] at hmem
      simp at hmem
    · rfl
theorem any_order (htr : Tr (StepSem P ops I) 0 s0 l s1) (hlen : l.length = ops.size) (hind : indepB ops (l.map (·.1)) = true) {K : List Go.Item} {R : Act → World → Prop}
    (hk : ∀ a w, I s1 a w → Runs P K R a w) : ∀ (fuel t : Nat) (listed : Array Bool) (a : Act) (w : World), listed.size = ops.size →
      (∀ j o, ops[j]? = some o → listed.getD j false = true → ∀ e ∈ o.after, Region.binds .any e = true → listed.getD e.on false = true) → unlisted ops listed ≤ fuel →
      I (comb (fun j => listed.getD j false) 0 l s0) a w → Runs P (.inRegion ops (Region.linearise.go .any ops fuel t listed []) :: K) R a w := by
  have hb : backB 0 ops.toList = true := by simp only [indepB, Bool.and_eq_true] at hind; exact hind.1
  have fin : ∀ (listed : Array Bool) (a : Act) (w : World), (∀ n, n < ops.size → listed.getD n false = true) → I (comb (fun j => listed.getD j false) 0 l s0) a w → Runs P (.inRegion ops [] :: K) R a w := by
    intro listed a w hall hI
    refine .region_end (hk a w ?_)
    have e : ∀ u v : St, u.tm = v.tm → u.H = v.H → u = v := by intro u v; cases u; cases v; simp_all
    have hend := htr.at_.1
    rw [Nat.zero_add] at hend
    have : comb (fun j => listed.getD j false) 0 l s0 = s1 := by
      rw [← hend]
      have hj : ∀ (j : Nat) (fx : Fx) (u : St), l[j]? = some (fx, u) → listed.getD (0 + j) false = decide (0 + j < l.length) := by
        intro j fx u hj
        have := (List.getElem?_eq_some_iff.1 hj).1
        rw [Nat.zero_add, hall j (by omega)]; simp [this]
      exact e _ _ (funext fun t => comb_tm l 0 _ _ (fun j fx u h _ => hj j fx u h) rfl) (funext fun t => comb_H l 0 _ _ (fun j fx u h _ => hj j fx u h) rfl)
    rwa [this] at hI
  intro fuel
  induction fuel with
  | zero =>
    intro t listed a w hsz _ hun hI
    refine fin listed a w (fun n hn => ?_) hI
    have : ∀ i ∈ List.range ops.size, (!listed.getD i true) = false := by
      intro i hi
      have h0 : unlisted ops listed = 0 := by omega
      have := List.countP_eq_zero.1 h0 i hi
      simpa using this
    have := this n (List.mem_range.2 hn)
    simp only [Array.getD, hsz, hn, dite_true] at this ⊢
    simpa using this
  | succ fuel ih =>
    intro t listed a w hsz hcl hun hI
    simp only [Region.linearise.go]
    change Runs P (.inRegion ops (match (Region.ready .any ops listed)[t % (Region.ready .any ops listed).length]? with
      | some i => Region.linearise.go .any ops fuel (t / (Region.ready .any ops listed).length) (listed.setIfInBounds i true) [i]
      | none => [].reverse) :: K) R a w
    cases hi : (Region.ready .any ops listed)[t % (Region.ready .any ops listed).length]? with
    | none =>
      have hnil : Region.ready .any ops listed = [] := by
        cases hr : Region.ready .any ops listed with
        | nil => rfl
        | cons x xs =>
          rw [hr] at hi
          have hlt : t % (x :: xs).length < (x :: xs).length := Nat.mod_lt _ (by simp)
          simp at hi
          simp at hlt
          omega
      exact fin listed a w (all_of_ready hb hsz hnil) hI
    | some i =>
      simp only []
      rw [linearise_go_acc, List.reverse_singleton, List.singleton_append]
      have hmem := List.mem_of_getElem? hi
      unfold Region.ready at hmem
      rw [List.mem_filter] at hmem
      obtain ⟨hin, hmem⟩ := hmem
      have hin := List.mem_range.1 hin
      simp only [Array.getElem?_eq_getElem hin, Option.map_some, Option.getD_some, Bool.and_eq_true, Array.all_eq_true_iff_forall_mem] at hmem
      have hun1 : listed.getD i true = false := by simpa using hmem.1
      have hun2 : listed.getD i false = false := by simp only [Array.getD, hsz, hin, dite_true] at hun1 ⊢; exact hun1
      have hpre : ∀ e ∈ ops[i].after, Region.binds .any e = true → listed.getD e.on false = true := by
        intro e he hbe
        have := hmem.2 e he
        simpa [hbe] using this
      have hset : ∀ (j : Nat) (d : Bool), (listed.setIfInBounds i true).getD j d = if j = i then true else listed.getD j d := fun j d => getD_set_true (by omega)
      obtain ⟨s, s', fx, h1, h2, h3⟩ := comb_step htr hlen hind (S := fun j => listed.getD j false) (S' := fun j => (listed.setIfInBounds i true).getD j false) hcl (Array.getElem?_eq_getElem hin) hun2 hpre (fun j => hset j false)
      refine h1 _ a w _ K R h2 hI fun a' w' hI' => ?_
      rw [← h3] at hI'
      refine ih _ _ a' w' (by simpa using hsz) (fun j o ho hj e he hbe => ?_) ?_ hI'
      · rw [hset] at hj ⊢
        by_cases hji : j = i
        · subst hji
          rw [Array.getElem?_eq_getElem hin] at ho
          cases ho
          split
          · rfl
          · exact hpre e he hbe
        · rw [if_neg hji] at hj
          split
          · rfl
          · exact hcl j o ho hj e he hbe
      · have : unlisted ops (listed.setIfInBounds i true) + 1 = unlisted ops listed :=
          countP_one (p := fun j => !listed.getD j true) (q := fun j => !(listed.setIfInBounds i true).getD j true) (by simp [hun1]) (by simp [hset]) (fun j hj => by simp [hset, hj]) _ hin
        omega
theorem draw_ok (hm : P.follows .mixedOrders = true) (htr : Tr (StepSem P ops I) 0 s0 l s1) (hlen : l.length = ops.size) (hind : indepB ops (l.map (·.1)) = true) {K : List Go.Item} {R : Act → World → Prop}
    (hk : ∀ a w, I s1 a w → Runs P K R a w) {id : Nat} {a : Act} {w : World} (hI : I s0 a { w with drawn := w.drawn + 1 }) : Runs P (.code (.region id ops true) :: K) R a w := by
  refine .region_draw fun t => ?_
  simp only [Region.schedule, hm, Bool.true_or, if_true]
  have hrep : ∀ j d, d = false → (Array.replicate ops.size false).getD j d = false := by
    intro j d hd
    simp only [Array.getD]
    split
    · simp
    · exact hd
  refine any_order htr hlen hind hk ops.size t _ a _ (by simp) (fun j o _ hj => by rw [hrep j false rfl] at hj; cases hj) ?_ ?_
  · unfold unlisted
    refine Nat.le_trans List.countP_le_length (by simp)
  · rw [comb_none _ _ _ (fun j _ => hrep j false rfl)]
    exact hI
theorem seq_order {K : List Go.Item} {R : Act → World → Prop} (hk : ∀ a w, I s1 a w → Runs P K R a w) : ∀ {i : Nat} {s : St} {l : List (Fx × St)}, Tr (StepSem P ops I) i s l s1 → i + l.length = ops.size → ∀ {a : Act} {w : World}, I s a w →
    Runs P (.inRegion ops (List.range' i l.length) :: K) R a w := by
  intro i s l htr
  induction htr with
  | nil => intro _ a w hI; exact .region_end (hk a w hI)
  | @cons i s s' s'' fx l h he hv ht ih =>
    intro hlen a w hI
    rw [List.length_cons, List.range'_succ]
    refine h s a w _ K R ⟨fun _ _ => rfl, fun _ _ => rfl, fun _ _ => sim.refl _, fun _ _ => simV.refl _⟩ hI fun a' w' hI' => ?_
    rw [he] at hI'
    exact ih hk (by rw [List.length_cons] at hlen; omega) hI'
end
end Go.Vm
end
section
namespace Go.Vm
open Go
def opSlots (o : Oper) : List Nat := o.op.operands.toList.flatMap slotOf
def opIds (o : Oper) (s : St) : List Id :=
  match o.op with
  | .load _ a => match evalV s.tm a with | .ptr id _ => [id, .loc (o.dst.getD 0) 0] | _ => []
  | .store _ a _ => match evalV s.tm a with | .ptr id _ => [id] | _ => []
  | .alloc _ => [.loc (o.dst.getD 0) 0]
  | .box _ _ => [.loc (o.dst.getD 0) 0]
  | .makeSlice _ _ _ => [.loc (o.dst.getD 0) 0]
  | .call c => match c.args.toList with
    | [_, y] => match evalV s.tm y with | .own id _ _ _ _ _ => [id] | _ => []
    | _ => []
  | _ => []
def plainLoad (pol : Nat → Nat) (o : Oper) (e : Eff) : Bool := match o.op, e.tgt, e.new with
  | .load _ _, some (_, none), none => !(Nat.beq (pol (o.dst.getD 0)) 1)
  | _, _, _ => false
def V.firm : V → Bool
  | .int _ _ | .bool _ | .str _ | .nilp | .unit | .nilf | .nili => true
  | .cons x r => x.firm && r.firm
  | _ => false
theorem firm_owns : ∀ {x : V}, x.demote.firm = true → x.owns = false := by
  intro x
  induction x with
  | cons a r ha hr => intro h; simp only [V.demote, V.firm, Bool.and_eq_true] at h; simp [V.owns, ha h.1, hr h.2]
  | _ => intro h; first | rfl | (simp [V.demote, V.firm] at h)
theorem firm_demote : ∀ {x : V}, x.firm = true → x.demote.firm = true := by
  intro x
  induction x with
  | cons a r ha hr => intro h; simp only [V.firm, Bool.and_eq_true] at h; simp [V.demote, V.firm, ha h.1, hr h.2]
  | _ => intro h; first | rfl | (simp [V.firm] at h)
def plainExt (o : Oper) (e : Eff) : Bool := match o.op, e.take with
  | .extract _ _, [] => e.res.firm
  | _, _ => false
def opFx (pol : Nat → Nat) (gs : List Nat) (o : Oper) (s : St) (e : Eff) : Fx where
  rt := gs ++ cond (plainExt o e) [] (opSlots o)
  dt := cond (plainExt o e) (opSlots o) []
  kt := match o.op with
    | .extract _ _ => e.take.filter fun t => match o.dst with | some d => !(Nat.beq d t) | none => true
    | _ => []
  rh := cond (plainLoad pol o e) [] (opIds o s)
  dh := cond (plainLoad pol o e) (match e.tgt with | some (id, _) => [id] | none => []) []
  kh := match o.op, e.tgt, e.new with
    | .load _ _, some (id, some _), none => [id]
    | _, _, _ => []
  wt := (match o.dst with | some d => [d] | none => []) ++ e.take
  wh := match e.tgt, e.new with
    | some (id, some _), none => [id]
    | some (id, some _), some (id', _) => [id, id']
    | _, some (id, _) => [id]
    | _, _ => []
theorem evalV_congr {tm tm' : Nat → V} {x : Operand} (h : ∀ t ∈ slotOf x, tm' t = tm t) : evalV tm' x = evalV tm x := by
  cases x with
  | tmp t => exact h t (by simp [slotOf])
  | _ => rfl
theorem flatMap_congr2 {α β : Type} {f g : α → List β} {l : List α} (h : ∀ i ∈ l, f i = g i) : l.flatMap f = l.flatMap g := by
  induction l with
  | nil => rfl
  | cons a l ih => rw [List.flatMap_cons, List.flatMap_cons, h a (by simp), ih (fun i hi => h i (by simp [hi]))]
section
variable {P : Program} {pol : Nat → Nat} {kn kn' : Nat → Option Bool} {o : Oper} {s u : St}
theorem addedV_congr {sz : Nat} {H H' : Id → Option V} {y : V} (h : ∀ id p a b c d, y = .own id p a b c d → H' id = H id) : addedV sz H' y = addedV sz H y := by
  cases y <;> (try rfl)
  rename_i id p a b c d
  simp only [addedV, h id p a b c d rfl]
theorem opW_congr (hev : ∀ x ∈ o.op.operands, evalV u.tm x = evalV s.tm x) (hH : ∀ i ∈ opIds o s, u.H i = s.H i) (hkn : ∀ c x y, o.op = .pick (.tmp c) x y → kn' c = kn c) : opW P pol kn' o u = opW P pol kn o s := by
  obtain ⟨dst, op, type, pos, after, guard⟩ := o
  have pairs : ∀ ps : Array (Nat × Operand), (∀ x ∈ ps.toList.map (·.2), evalV u.tm x = evalV s.tm x) → ∀ p ∈ ps.toList, evalV u.tm p.2 = evalV s.tm p.2 := fun ps hp p hm => hp _ (List.mem_map.2 ⟨p, hm, rfl⟩)
  cases op <;> simp only [Op.operands] at hev <;> simp only [opIds] at hH <;> simp only [opW]
  case move x => rw [hev x (by simp)]
  case assign x => rw [hev x (by simp)]
  case pick c x y =>
    have h1 := hev c (by simp)
    have h2 := hev x (by simp)
    have h3 := hev y (by simp)
    cases c with
    | tmp c => simp only [evalV] at h1; simp only [hkn c x y rfl, h1, h2, h3]
    | _ => rfl
  case alloc => rw [hH _ (by simp)]
  case box e x => rw [hH _ (by simp), hev x (by simp)]
  case build t ps =>
    have hp := pairs ps (fun x hx => hev x (by simpa using hx))
    have e1 : (ps.toList.flatMap fun p => takeOf p.2 (evalV u.tm p.2)) = ps.toList.flatMap fun p => takeOf p.2 (evalV s.tm p.2) := flatMap_congr2 fun p hm => by rw [hp p hm]
    have e2 : (ps.toList.map fun p => (p.1, evalV u.tm p.2)) = ps.toList.map fun p => (p.1, evalV s.tm p.2) := List.map_congr_left fun p hm => by rw [hp p hm]
    rw [e1, e2]
  case buildSlice t n ps =>
    have hp := pairs ps (fun x hx => hev x (by simpa using hx))
    have e2 : (ps.toList.map fun p => (p.1, copyOf (evalV u.tm p.2))) = ps.toList.map fun p => (p.1, copyOf (evalV s.tm p.2)) := List.map_congr_left fun p hm => by rw [hp p hm]
    have e3 : (ps.toList.map fun p => (p.1, evalV u.tm p.2)) = ps.toList.map fun p => (p.1, evalV s.tm p.2) := List.map_congr_left fun p hm => by rw [hp p hm]
    have e4 : (ps.toList.flatMap fun p => takeOf p.2 (evalV u.tm p.2)) = ps.toList.flatMap fun p => takeOf p.2 (evalV s.tm p.2) := flatMap_congr2 fun p hm => by rw [hp p hm]
    have e5 : ∀ e, (ps.toList.map fun p => (p.1, fixN P e (evalV u.tm p.2))) = ps.toList.map fun p => (p.1, fixN P e (evalV s.tm p.2)) := fun e => List.map_congr_left fun p hm => by rw [hp p hm]
    rw [e2, e3, e4]
    simp only [e5]
  case load t x =>
    rw [hev x (by simp)]
    cases hx : evalV s.tm x <;> (try rfl)
    rename_i id p
    rw [hx] at hH
    have e := hH id (by simp)
    have e' := hH (.loc (dst.getD 0) 0) (by simp)
    simp only [e, openV, e']
  case store t x y =>
    rw [hev x (by simp), hev y (by simp)]
    cases hx : evalV s.tm x <;> (try rfl)
    rename_i id p
    rw [hx] at hH
    have e := hH id (List.mem_singleton.2 rfl)
    simp only [e]
  case nilCheck x => rw [hev x (by simp)]
  case binOp op t x y ty => rw [hev x (by simp), hev y (by simp)]
  case unOp op t x => cases op <;> simp only [] <;> (try rw [hev x (by simp)])
  case convert a b x => rw [hev x (by simp)]
  case makeInterface t x => rw [hev x (by simp)]
  case makeFunc f first cap =>
    cases f <;> simp only []
    have e2 : (cap.toList.map fun x => copyOf (evalV u.tm x)) = cap.toList.map fun x => copyOf (evalV s.tm x) := List.map_congr_left fun x hm => by rw [hev x (by simp at hm ⊢; exact .inr hm)]
    have e1 : (cap.toList.all fun x => !(evalV u.tm x).agg && (copyOf (evalV u.tm x)).one) = cap.toList.all fun x => !(evalV s.tm x).agg && (copyOf (evalV s.tm x)).one := by
      rw [Bool.eq_iff_iff, List.all_eq_true, List.all_eq_true]
      constructor <;> intro h x hm <;> have := h x hm <;> rw [hev x (by simp at hm ⊢; exact .inr hm)] at * <;> exact this
    rw [e1, e2]
  case makeSlice t x y => rw [hev x (by simp), hev y (by simp), hH _ (by simp)]
  case slice t x l h m =>
    have hl : l.map (evalV u.tm) = l.map (evalV s.tm) := by cases l <;> simp; exact hev _ (by simp)
    have hh : h.map (evalV u.tm) = h.map (evalV s.tm) := by cases h <;> simp; exact hev _ (by simp)
    have hm : m.map (evalV u.tm) = m.map (evalV s.tm) := by cases m <;> simp; exact hev _ (by simp)
    rw [hev x (by simp), hl, hh, hm]
  case fieldAddr t x j => rw [hev x (by simp)]
  case field t x j => rw [hev x (by simp)]
  case indexAddr t x y => rw [hev x (by simp), hev y (by simp)]
  case index t x y => rw [hev x (by simp), hev y (by simp)]
  case extract x j => rw [hev x (by simp)]
  case call c =>
    have hargs : (c.args.toList.map fun x => evalV u.tm x) = c.args.toList.map fun x => evalV s.tm x := List.map_congr_left fun x hm => hev x (by simp only [Call.operands, Array.mem_append]; exact .inr (by simpa using hm))
    cases hc : c.callee with
    | builtin b =>
      simp only [hargs]
      cases hl : c.args.toList with
      | nil => cases b <;> rfl
      | cons x l =>
        cases l with
        | nil => cases b <;> rfl
        | cons y l =>
          cases l with
          | cons z l => cases b <;> rfl
          | nil =>
            rw [hl] at hH
            cases b <;> (try rfl)
            simp only [List.map_cons, List.map_nil, builtinV, appendV, appendO]
            have hxe : evalV u.tm x = evalV s.tm x := by rw [hl] at hargs; simp only [List.map_cons, List.cons.injEq] at hargs; exact hargs.1
            have hye : evalV u.tm y = evalV s.tm y := by rw [hl] at hargs; simp only [List.map_cons, List.cons.injEq] at hargs; exact hargs.2.1
            have e : ∀ sz, addedV sz u.H (evalV s.tm y) = addedV sz s.H (evalV s.tm y) := fun sz => addedV_congr fun id p a b c d he => by simp only [he] at hH; exact hH id (List.mem_singleton.2 rfl)
            have e2 : ∀ sz, addedO sz u.H (evalV s.tm y) = addedO sz s.H (evalV s.tm y) := fun sz => by
              cases hy : evalV s.tm y <;> first | rfl | (have h3 := e sz; rw [hy] at h3; exact h3)
            simp only [e, e2, hxe, hye]
    | _ => rfl
theorem takes_congr {tm tm' : Nat → V} : ∀ (l : List Nat) {t : Nat}, tm' t = tm t → takes tm' l t = takes tm l t := by
  intro l
  induction l generalizing tm tm' with
  | nil => intro t h; exact h
  | cons a l ih =>
    intro t h
    refine ih ?_
    by_cases e : t = a
    · subst e; rw [upd_same, upd_same, h]
    · rw [upd_ne _ _ e, upd_ne _ _ e, h]
theorem takes_out {tm : Nat → V} : ∀ (l : List Nat) {t : Nat}, t ∉ l → takes tm l t = tm t := by
  intro l
  induction l generalizing tm with
  | nil => intro t _; rfl
  | cons a l ih =>
    intro t h
    rw [takes, ih (fun h' => h (by simp [h'])), upd_ne _ _ (fun e => h (by simp [e]))]
theorem memN_false {t : Nat} {l : List Nat} (h : t ∉ l) : memN t l = false := by
  cases hh : memN t l
  · rfl
  · exact absurd (memN_iff.1 hh) h
theorem memI_false {t : Id} {l : List Id} (h : t ∉ l) : memI t l = false := by
  cases hh : memI t l
  · rfl
  · exact absurd (memI_iff.1 hh) h
theorem applyE_over {gs : List Nat} {e : Eff} (ht : ∀ t ∈ e.take, u.tm t = s.tm t) : applyE o u e = over u (applyE o s e) (opFx pol gs o s e) := by
  have ext : ∀ u v : St, u.tm = v.tm → u.H = v.H → u = v := by intro u v; cases u; cases v; simp_all
  refine ext _ _ (funext fun t => ?_) (funext fun i => ?_)
  · simp only [over, opFx]
    cases hd : o.dst with
    | none =>
      simp only [List.nil_append]
      by_cases hm : t ∈ e.take
      · rw [memN_iff.2 hm, cond_true]
        simp only [applyE, hd]
        exact takes_congr _ (ht t hm)
      · rw [memN_false hm, cond_false]
        simp only [applyE, hd]
        exact takes_out _ hm
    | some d =>
      by_cases hm : t ∈ [d] ++ e.take
      · rw [memN_iff.2 hm, cond_true]
        simp only [applyE, hd]
        by_cases hdt : t = d
        · subst hdt; rw [upd_same, upd_same]
        · rw [upd_ne _ _ hdt, upd_ne _ _ hdt]
          exact takes_congr _ (ht t (by simpa [hdt] using hm))
      · rw [memN_false hm, cond_false]
        simp only [List.cons_append, List.nil_append, List.mem_cons, not_or] at hm
        simp only [applyE, hd]
        rw [upd_ne _ _ hm.1]
        exact takes_out _ hm.2
  · have one : ∀ (id : Id) (c : V), updH u.H id (some c) i = cond (memI i [id]) (updH s.H id (some c) i) (u.H i) := by
      intro id c
      by_cases hi : i = id
      · subst hi; rw [updH_same, memI_iff.2 (by simp), cond_true, updH_same]
      · rw [updH_ne _ _ hi, memI_false (by simpa using hi), cond_false]
    simp only [over, opFx, applyE]
    cases htg : e.tgt with
    | none =>
      cases hn : e.new with
      | none => rfl
      | some p => obtain ⟨id, c⟩ := p; exact one id c
    | some p =>
      obtain ⟨id, c⟩ := p
      cases c with
      | none =>
        cases hn : e.new with
        | none => rfl
        | some p => obtain ⟨id', c⟩ := p; exact one id' c
      | some c =>
        cases hn : e.new with
        | none => exact one id c
        | some p =>
          obtain ⟨id', c'⟩ := p
          show updH (updH u.H id (some c)) id' (some c') i = cond (memI i [id, id']) (updH (updH s.H id (some c)) id' (some c') i) (u.H i)
          by_cases hi : i = id'
          · subst hi; rw [updH_same, memI_iff.2 (by simp), cond_true, updH_same]
          · rw [updH_ne _ _ hi, updH_ne _ _ hi, one id c]
            by_cases hi2 : i = id
            · subst hi2; rw [memI_iff.2 (by simp), memI_iff.2 (by simp)]
            · rw [memI_false (by simpa using hi2), memI_false (by simp [hi, hi2])]
def Inv (Γ : Ctx) (nt : Nat) (s : St) (a : Act) (w : World) : Prop := a.tmps.size = nt ∧ Conc Γ s a w
theorem put_size (a : Act) (d : Option Tmp) (v : Value) : (a.put d v).tmps.size = a.tmps.size := by
  cases d <;> simp [Act.put]
def Wanted (ops : Array Oper) (nt : Nat) (Γ : Ctx) (s : St) (o : Oper) (gs : List Nat) (b : Bool) : Prop :=
  ∀ (u : St) (a : Act) (w : World), (∀ t ∈ gs, u.tm t = s.tm t) → Inv Γ nt u a w → Region.wanted o (yielded ops a.tmps) = b
theorem wanted_free {ops : Array Oper} {nt : Nat} {Γ : Ctx} (h : o.guard = none) : Wanted ops nt Γ s o [] true := by
  intro u a w _ _; simp [Region.wanted, h]
theorem wanted_of {ops : Array Oper} {nt : Nat} {Γ : Ctx} {j d : Nat} {want v : Bool} (h : o.guard = some (j, want)) (hd : (ops[j]?).bind (·.dst) = some d) (hv : s.tm d = .bool v) : Wanted ops nt Γ s o [d] (v == want) := by
  rintro u a w hu ⟨_, _, F, ρ, fam, hm, hs⟩
  have h1 := hs.tm d
  rw [hu d (by simp), hv] at h1
  have h2 := inv_bool h1
  have h3 : a.tmps[d]? = some (.bool v) := by
    rw [Array.getD_eq_getD_getElem?] at h2
    cases hh : a.tmps[d]? with
    | none => rw [hh] at h2; exact absurd h2 (by simp [Go.undef])
    | some x => rw [hh] at h2; simp at h2; rw [h2]
  simp only [Region.wanted, h, yielded, hd, Option.bind_some, h3]
  cases v <;> cases want <;> rfl
theorem wanted_skip {ops : Array Oper} {nt : Nat} {Γ : Ctx} {j d : Nat} {want : Bool} (h : o.guard = some (j, want)) (hd : (ops[j]?).bind (·.dst) = some d) (hv : s.tm d = .tup .unit) : Wanted ops nt Γ s o [d] false := by
  rintro u a w hu ⟨_, _, F, ρ, fam, hm, hs⟩
  have h1 := hs.tm d
  rw [hu d (by simp), hv] at h1
  obtain ⟨vs, h2, h4⟩ := h1
  have h3 : yielded ops a.tmps j = none := by
    simp only [yielded, hd, Option.bind_some]
    rw [Array.getD_eq_getD_getElem?] at h2
    cases hh : a.tmps[d]? with
    | none => rfl
    | some x => rw [hh] at h2; simp only [Option.getD_some] at h2; rw [h2]
  simp only [Region.wanted, h, h3]
  rfl
theorem demote_demote : ∀ x : V, x.demote.demote = x.demote := by
  intro x
  induction x with
  | cons x r hx hr => simp only [V.demote, hx, hr]
  | arr s n get ih => simp only [V.demote, ih]
  | tup x ih => simp only [V.demote, ih]
  | fn f c ih => simp only [V.demote, ih]
  | iface t x ih => simp only [V.demote, ih]
  | _ => rfl
theorem nth_demote : ∀ (x : V) (j : Nat), x.demote.nth j = (x.nth j).map V.demote := by
  intro x
  induction x with
  | cons a r _ ih =>
    intro j
    cases j with
    | zero => rfl
    | succ j => exact ih j
  | _ => intro j; cases j <;> rfl
theorem fldOff_demote : ∀ (x : V) (j : Nat), x.demote.fldOff j = x.fldOff j := by
  intro x
  induction x with
  | cons a r _ ih =>
    intro j
    cases j with
    | zero => rfl
    | succ j => simp only [V.demote, V.fldOff, V.demote_size, ih]
  | _ => intro j; cases j <;> rfl
theorem nav_demote : ∀ (p : List Sel) (x : V), x.demote.nav p = (x.nav p).map V.demote := by
  intro p
  induction p with
  | nil => intro x; rfl
  | cons s p ih =>
    intro x
    cases s with
    | fld j d =>
      simp only [V.nav, fldOff_demote, nth_demote]
      cases Nat.beq (x.fldOff j) d
      · rfl
      · simp only [cond_true]
        cases x.nth j with
        | none => rfl
        | some y => exact ih y
    | idx s' n' i =>
      cases x with
      | arr s n get =>
        simp only [V.demote, V.nav]
        cases Nat.beq s s'
        · rfl
        · exact ih _
      | _ => rfl
theorem fit_demote : ∀ (p : List Sel) (x : V), x.demote.fit p = x.fit p := by
  intro p
  induction p with
  | nil => intro x; rfl
  | cons s p ih =>
    intro x
    cases s with
    | fld j d =>
      simp only [V.fit, nth_demote]
      cases x.nth j with
      | none => rfl
      | some y => exact ih y
    | idx s' n' i =>
      cases x with
      | arr s n get => simp only [V.demote, V.fit, ih]
      | _ => rfl
theorem copyOf_demote (x : V) : copyOf x = x.demote := by
  unfold copyOf
  cases h : x.hasTok
  · rw [cond_false, hasTok_demote h]
  · rfl
theorem fits_demote {t : TypeId} {x : V} (h : x.demote.one = true) : fits P t x.demote = fits P t x ∧ x.one = true := by
  have h1 : x.one = true := by cases x <;> simp_all [V.demote, V.one]
  have h2 : x.demote.agg = x.agg := by cases x <;> simp_all [V.demote, V.agg, V.one]
  unfold fits
  rw [V.demote_size, h2, h, h1]
  exact ⟨rfl, rfl⟩
theorem load_sim {e : Eff} (h : opW P pol kn o s = some e) (hp : plainLoad pol o e = true) (hev : ∀ x ∈ o.op.operands, evalV u.tm x = evalV s.tm x)
    (hD : ∀ i ∈ (match e.tgt with | some (id, _) => [id] | none => []), sim (u.H i) (s.H i)) : opW P pol kn' o u = some e := by
  obtain ⟨dst, op, type, pos, after, guard⟩ := o
  cases op <;> (try (simp only [plainLoad] at hp; cases hp))
  rename_i t x
  simp only [opW] at h ⊢
  rw [hev x (by simp [Op.operands])]
  split at h <;> (try cases h)
  · rename_i id p hx
    split at h <;> (try cases h)
    rename_i c hc
    split at h <;> (try cases h)
    rename_i y hy
    obtain ⟨hf, h⟩ := cond_some h
    have hp0 : Nat.beq (pol (dst.getD 0)) 1 = false := by
      simp only [plainLoad] at hp
      split at hp
      · simpa using hp
      · cases hp
    cases hpol : (Nat.beq (pol (dst.getD 0)) 1 && y.hasTok)
    · rw [hpol, cond_false] at h
      have key : ∀ {z : V}, y = z → (match z with | .obox _ _ => False | .osl _ _ _ _ _ => False | _ => True) → e = { need := c.fit p, res := copyOf y, tgt := some (id, none) } →
          (match u.H id with
            | some c => match c.nav p with
              | some x => cond (fits P t x) (cond (Nat.beq (pol (dst.getD 0)) 1 && x.hasTok) (match c.put p x.demote with
                  | some c' => some { need := c.fit p, res := x, tgt := some (id, some c') }
                  | none => none) (match x with
                  | .obox nil z => openV u.H c id p (dst.getD 0) (c.fit p && !nil) (.ptr (.loc (dst.getD 0) 0) []) (.ptr (.loc (dst.getD 0) 0) []) z
                  | .osl e sz nil n get => openV u.H c id p (dst.getD 0) (c.fit p) (.lent (.loc (dst.getD 0) 0) e sz nil n) (.own (.loc (dst.getD 0) 0) [] sz n 0 n) (.arr sz n get)
                  | x => some { need := c.fit p, res := copyOf x, tgt := some (id, none) })) none
              | none => none
            | none => none) = some e := by
        intro z hz hno he
        subst he
        have hs : sim (u.H id) (s.H id) := hD id (by simp)
        rw [hc] at hs
        obtain ⟨c2, hc2, hd⟩ : ∃ c2, u.H id = some c2 ∧ c2.demote = c.demote := by
          unfold sim at hs
          cases hu : u.H id with
          | none => rw [hu] at hs; cases hs
          | some c2 => rw [hu] at hs; exact ⟨c2, rfl, Option.some.inj hs⟩
        rw [hc2]
        have hn := nav_demote p c2
        rw [hd, nav_demote p c, hy] at hn
        obtain ⟨y2, hy2, hyd⟩ : ∃ y2, c2.nav p = some y2 ∧ y2.demote = y.demote := by
          cases hu : c2.nav p with
          | none => rw [hu] at hn; cases hn
          | some y2 => rw [hu] at hn; exact ⟨y2, rfl, (Option.some.inj hn).symm⟩
        simp only [hy2]
        have hfit : c2.fit p = c.fit p := by rw [← fit_demote p c2, hd, fit_demote]
        have hone : y.demote.one = true := by
          have h1 : y.one = true := by
            unfold fits at hf
            split at hf
            · simp only [Bool.and_eq_true] at hf; exact hf.1
            · cases hf
          subst hz
          cases y <;> first | exact hno.elim | (simp_all [V.demote, V.one])
        have hf2 : fits P t y2 = true := by
          rw [← (fits_demote (P := P) (t := t) (x := y2) (by rw [hyd]; exact hone)).1, hyd, (fits_demote (P := P) (t := t) (x := y) hone).1]; exact hf
        have hpl : (Nat.beq (pol (dst.getD 0)) 1 && y2.hasTok) = false := by rw [hp0, Bool.false_and]
        rw [hf2, hpl, cond_true, cond_false]
        have hno2 : ∀ nil z, y2 ≠ .obox nil z := fun nil z h => by rw [h] at hyd; simp only [V.demote] at hyd; rw [← hyd] at hone; cases hone
        have hno3 : ∀ e s nil n g, y2 ≠ .osl e s nil n g := fun e s nil n g h => by rw [h] at hyd; simp only [V.demote] at hyd; rw [← hyd] at hone; cases hone
        have hres : copyOf y2 = copyOf y := by rw [copyOf_demote, copyOf_demote, hyd]
        cases y2 <;> first | exact absurd rfl (hno2 _ _) | exact absurd rfl (hno3 _ _ _ _ _) | (simp only [hfit, hres])
      cases y with
      | obox nil z =>
        simp only [openV] at h
        split at h <;> (try cases h)
        simp [plainLoad] at hp
      | osl e0 sz nil n get =>
        simp only [openV] at h
        split at h <;> (try cases h)
        simp [plainLoad] at hp
      | _ => exact key rfl trivial (Option.some.inj h).symm
    · rw [hp0, Bool.false_and] at hpol; cases hpol
  · obtain ⟨_, h⟩ := cond_some h
    cases h
    simp [plainLoad] at hp
theorem ext_sim {e : Eff} {kn2 : Nat → Option Bool} (h : opW P pol kn o s = some e) (hp : plainExt o e = true) (hT : ∀ t ∈ opSlots o, simV (u.tm t) (s.tm t)) : opW P pol kn2 o u = some e := by
  obtain ⟨dst, op, type, pos, after, guard⟩ := o
  cases op <;> (try (simp only [plainExt] at hp; cases hp))
  rename_i x j
  simp only [opW] at h ⊢
  have hx : simV (evalV u.tm x) (evalV s.tm x) := by
    cases x with
    | tmp t => exact hT t (by simp [opSlots, Op.operands, slotOf])
    | _ => exact simV.refl _
  split at h <;> (try cases h)
  rename_i y hy
  split at h <;> (try cases h)
  rename_i z hz
  rw [hy] at hx
  cases hu : evalV u.tm x <;> (rw [hu] at hx; unfold simV at hx; simp only [V.demote] at hx; try cases hx)
  rename_i y2
  have hx : y2.demote = y.demote := by simpa using hx
  have hn := nth_demote y2 j
  rw [hx, nth_demote y j, hz] at hn
  have hfirm : e.res.firm = true := by
    unfold plainExt at hp
    split at hp
    · exact hp
    · cases hp
  cases ho : z.owns
  · rw [ho, cond_false] at h
    cases h
    cases hz2 : y2.nth j with
    | none => rw [hz2] at hn; cases hn
    | some z2 =>
      rw [hz2] at hn
      have hd : z.demote = z2.demote := Option.some.inj hn
      have h2 : z2.owns = false := firm_owns (by rw [← hd]; exact hfirm)
      simp only [hz2, h2, cond_false, hd]
  · rw [ho, cond_true] at h
    cases h
    rw [firm_owns (firm_demote hfirm)] at ho
    cases ho
theorem opW_step {nt : Nat} {Γ : Ctx} {ops : Array Oper} {i : Nat} {e : Eff} {gs : List Nat} (ho : ops[i]? = some o) (hg : Wanted ops nt Γ s o gs true) (hkn : KnOK kn s.tm) (h : opW P pol kn o s = some e) (hsh : shapeB nt o e = true)
    (htk : (e.take.all fun t => memN t (opSlots o)) = true) (hn : e.need = true) (hside : ∀ p, e.side = some p → p) : StepSem P ops (Inv Γ nt) i s (applyE o s e) (opFx pol gs o s e) := by
  intro u a w rest K R hag hI hk
  have hw := hg u a w (fun t ht => hag.tm t (by simp [opFx, ht])) hI
  obtain ⟨hsz, hdf, F, ρ, fam, hm, hs⟩ := hI
  obtain ⟨kn', h', hkn', htk'⟩ : ∃ kn', opW P pol kn' o u = some e ∧ KnOK kn' u.tm ∧ ∀ t ∈ e.take, u.tm t = s.tm t := by
    cases hpe : plainExt o e
    case true =>
      refine ⟨fun _ => none, ext_sim h hpe fun t ht => hag.T t (by simp only [opFx, hpe, cond_true]; exact ht), (fun t b hb => by cases hb), fun t ht => ?_⟩
      unfold plainExt at hpe
      split at hpe
      · rename_i hk; rw [hk] at ht; cases ht
      · cases hpe
    have hslot : ∀ t ∈ opSlots o, u.tm t = s.tm t := fun t ht => hag.tm t (by simp only [opFx, hpe, cond_false]; exact List.mem_append_right _ ht)
    refine ⟨fun t => cond (memN t (opSlots o)) (kn t) none, ?_, ?_, fun t ht => hslot t (memN_iff.1 (List.all_eq_true.1 htk t ht))⟩
    rotate_left
    · intro t b ht
      by_cases hm : t ∈ opSlots o
      · simp only [memN_iff.2 hm, cond_true] at ht
        rw [hslot t hm]; exact hkn t b ht
      · simp only [memN_false hm, cond_false] at ht; cases ht
    cases hpl : plainLoad pol o e
    case true =>
      refine load_sim h hpl (fun x hx => evalV_congr fun t ht => hslot t (List.mem_flatMap.2 ⟨x, by simpa using hx, ht⟩)) fun j hj => hag.D j ?_
      simp only [opFx, hpl, cond_true]; exact hj
    have hH : ∀ j ∈ opIds o s, u.H j = s.H j := fun j hj => hag.H j (by simp only [opFx, hpl, cond_false]; exact hj)
    rw [← h]
    refine opW_congr (fun x hx => evalV_congr fun t ht => hslot t (List.mem_flatMap.2 ⟨x, by simpa using hx, ht⟩)) hH (fun c x y hop => ?_)
    have : c ∈ opSlots o := by simp [opSlots, hop, Op.operands, slotOf]
    simp only [memN_iff.2 this, cond_true]
  subst hsz
  obtain ⟨nx, v, w', hrun, hnx, F', ρ', fam', hm', hs'⟩ := opW_sound hm hs hsh hkn' h' hn hside
  have hap := applyE_over (pol := pol) (gs := gs) (o := o) (s := s) (u := u) (e := e) htk'
  have hI' : Inv Γ a.tmps.size (over u (applyE o s e) (opFx pol gs o s e)) (a.put o.dst v) w' := by
    rw [← hap]
    refine ⟨put_size _ _ _, ?_, F', ρ', fam', hm', hs'⟩
    rw [← hdf]; cases o.dst <;> rfl
  rcases hnx with rfl | ⟨rfl, rfl⟩
  · exact .op_value ho hw hrun (hk _ _ hI')
  · exact .op_skip ho hw hrun (hk _ _ hI')
theorem put_demote : ∀ {p : List Sel} {c x c' : V}, c.nav p = some x → c.put p x.demote = some c' → c'.demote = c.demote := by
  intro p
  induction p with
  | nil =>
    intro c x c' h1 h2
    simp only [V.nav, Option.some.injEq] at h1
    subst h1
    simp only [V.put] at h2
    obtain ⟨_, h2⟩ := cond_some h2
    cases h2
    exact demote_demote _
  | cons s p ih =>
    intro c x c' h1 h2
    cases s with
    | fld j d =>
      simp only [V.nav] at h1
      obtain ⟨hb, h1⟩ := cond_some h1
      simp only [V.put, hb, cond_true] at h2
      cases hn : c.nth j with
      | none => rw [hn] at h1; cases h1
      | some z =>
        rw [hn] at h1 h2
        simp only at h1 h2
        cases hz : z.put p x.demote with
        | none => rw [hz] at h2; cases h2
        | some z' =>
          rw [hz] at h2
          simp only at h2
          have hd := ih h1 hz
          have key : ∀ (c : V) (j : Nat) (c' : V), c.nth j = some z → c.setNth j z' = some c' → c'.demote = c.demote := by
            intro c
            induction c with
            | cons a r _ ihr =>
              intro j c' h1 h2
              cases j with
              | zero =>
                simp only [V.nth, Option.some.injEq] at h1
                simp only [V.setNth, Option.some.injEq] at h2
                subst h1 h2
                simp only [V.demote, hd]
              | succ j =>
                simp only [V.nth] at h1
                simp only [V.setNth, Option.map_eq_some_iff] at h2
                obtain ⟨r', h3, rfl⟩ := h2
                simp only [V.demote, ihr j r' h1 h3]
            | _ => intro j c' h1; simp [V.nth] at h1
          exact key c j c' hn h2
    | idx s' n' i =>
      cases c with
      | arr s n get =>
        simp only [V.nav] at h1
        obtain ⟨hb, h1⟩ := cond_some h1
        simp only [V.put, hb, cond_true] at h2
        cases hz : (get i).put p x.demote with
        | none => rw [hz] at h2; cases h2
        | some z' =>
          rw [hz] at h2
          simp only [Option.some.injEq] at h2
          subst h2
          simp only [V.demote]
          congr 1
          funext j
          rw [V.mix_eq]
          cases hj : Nat.beq j i
          · rfl
          · rw [Nat.eq_of_beq_eq_true hj]; exact ih h1 hz
      | _ => simp [V.nav] at h1
theorem opFx_kill {gs : List Nat} {e : Eff} (h : opW P pol kn o s = some e) : ∀ t ∈ (opFx pol gs o s e).kh, sim ((applyE o s e).H t) (s.H t) := by
  intro t ht
  obtain ⟨dst, op, type, pos, after, guard⟩ := o
  cases op <;> (try (simp [opFx] at ht; done))
  rename_i ty x
  simp only [opW] at h
  split at h <;> (try cases h)
  · rename_i id p hx
    split at h <;> (try cases h)
    rename_i c hc
    split at h <;> (try cases h)
    rename_i y hy
    obtain ⟨hf, h⟩ := cond_some h
    cases hpol : (Nat.beq (pol (dst.getD 0)) 1 && y.hasTok)
    · rw [hpol, cond_false] at h
      split at h
      · unfold openV at h
        split at h <;> (try cases h)
        simp [opFx] at ht
      · unfold openV at h
        split at h <;> (try cases h)
        simp [opFx] at ht
      · cases h
        simp [opFx] at ht
    · rw [hpol, cond_true] at h
      split at h <;> (try cases h)
      rename_i c' hput
      simp only [opFx, List.mem_singleton] at ht
      subst ht
      show sim (updH s.H t (some c') t) (s.H t)
      rw [updH_same, hc]
      show some c'.demote = some c.demote
      rw [put_demote hy hput]
  · obtain ⟨_, h⟩ := cond_some h
    cases h
    simp [opFx] at ht
theorem opFx_killT {gs : List Nat} {e : Eff} (h : opW P pol kn o s = some e) : ∀ t ∈ (opFx pol gs o s e).kt, simV ((applyE o s e).tm t) (s.tm t) := by
  intro t ht
  obtain ⟨dst, op, type, pos, after, guard⟩ := o
  cases op <;> (try (simp [opFx] at ht; done))
  rename_i x j
  simp only [opFx, List.mem_filter] at ht
  obtain ⟨ht, hd⟩ := ht
  simp only [opW] at h
  split at h <;> (try cases h)
  split at h <;> (try cases h)
  rename_i y _ z hz
  cases ho : z.owns
  · rw [ho, cond_false] at h; cases h; cases ht
  · rw [ho, cond_true] at h
    cases h
    cases x <;> simp only [slotOf, List.not_mem_nil, List.mem_singleton] at ht
    subst ht
    rename_i d
    have e1 : takes s.tm [t] t = (s.tm t).demote := by simp [takes, upd_same]
    cases dst with
    | none => show simV (takes s.tm [t] t) _; rw [e1]; exact demote_demote _
    | some d =>
      have hne : t ≠ d := fun k => by subst k; simp at hd
      show simV (upd (takes s.tm [t]) d z t) _
      rw [upd_ne _ _ hne, e1]; exact demote_demote _
def skipS (o : Oper) (s : St) : St := { s with tm := match o.dst with | some d => upd s.tm d (.tup .unit) | none => s.tm }
def skipFx (gs : List Nat) (o : Oper) : Fx := { rt := gs, rh := [], wt := match o.dst with | some d => [d] | none => [], wh := [] }
theorem skip_step {nt : Nat} {Γ : Ctx} {ops : Array Oper} {i : Nat} {gs : List Nat} (ho : ops[i]? = some o) (hg : Wanted ops nt Γ s o gs false) (hd : dstOk nt o = true) : StepSem P ops (Inv Γ nt) i s (skipS o s) (skipFx gs o) := by
  intro u a w rest K R hag hI hk
  have hw := hg u a w hag.tm hI
  obtain ⟨hsz, hdf, F, ρ, fam, hm, hs⟩ := hI
  refine .unwanted ho hw (hk _ _ ⟨by rw [put_size]; exact hsz, by rw [← hdf]; cases o.dst <;> rfl, F, ρ, ?_⟩)
  cases hdst : o.dst with
  | none =>
    refine ⟨fam, hm, ?_⟩
    have : over u (skipS o s) (skipFx gs o) = u := by simp [over, skipFx, hdst, memN, memI]
    rw [this]; exact hs
  | some d =>
    have hlt : d < a.tmps.size := by rw [hsz]; exact dstOk_lt hd hdst
    have := hs.val [] d hlt (res := .tup .unit) (v := Go.undef) (fr := none_) ⟨[], rfl, by simp [RelL, RelT]⟩ (Foot.none_sub _)
    refine ⟨famPut fam [] (some d) none_, hm, ?_⟩
    have e : over u (skipS o s) (skipFx gs o) = { tm := upd (takes u.tm []) d (.tup .unit), H := u.H } := by
      have ext : ∀ u v : St, u.tm = v.tm → u.H = v.H → u = v := by intro u v; cases u; cases v; simp_all
      refine ext _ _ (funext fun t => ?_) (funext fun i => by simp [over, skipFx, memI])
      simp only [over, skipFx, skipS, hdst, takes]
      by_cases ht : t = d
      · subst ht; rw [memN_iff.2 (by simp), cond_true, upd_same, upd_same]
      · rw [memN_false (by simpa using ht), cond_false, upd_ne _ _ ht]
    rw [e]; exact this
theorem skip_over {gs : List Nat} : over s (skipS o s) (skipFx gs o) = skipS o s := by
  have ext : ∀ u v : St, u.tm = v.tm → u.H = v.H → u = v := by intro u v; cases u; cases v; simp_all
  refine ext _ _ (funext fun t => ?_) (funext fun i => by simp [over, skipFx, skipS, memI])
  simp only [over, skipFx, skipS]
  cases o.dst with
  | none => simp [memN]
  | some d =>
    simp only []
    by_cases ht : t = d
    · subst ht; rw [memN_iff.2 (by simp), cond_true]
    · rw [memN_false (by simpa using ht), cond_false, upd_ne _ _ ht]
end
end Go.Vm
end
section
namespace Go.Vm
open Go
def V.kill (id : Id) : V → V
  | .ptr i p => cond (i.same id) .undef (.ptr i p)
  | .own i p s N off len => cond (i.same id) .undef (.own i p s N off len)
  | .lent i e s nil n => cond (i.same id) .undef (.lent i e s nil n)
  | .cons x r => .cons (kill id x) (kill id r)
  | .arr s n get => .arr s n fun i => kill id (get i)
  | .tup x => .tup (kill id x)
  | .fn f c => .fn f (kill id c)
  | .iface t x => .iface t (kill id x)
  | .obox nil x => .obox nil (kill id x)
  | .osl e s nil n get => .osl e s nil n fun i => kill id (get i)
  | x => x
def Names.del (ρ : Names) (id : Id) : Names := fun j => cond (j.same id) none (ρ j)
theorem same_false {i j : Id} (h : i.same j = false) : i ≠ j := fun e => by rw [(Id.same_iff i j).2 e] at h; cases h
theorem Names.del_same (ρ : Names) (id : Id) : ρ.del id id = none := by simp [Names.del, (Id.same_iff id id).2 rfl]
theorem Names.del_ne (ρ : Names) {id j : Id} (h : j ≠ id) : ρ.del id j = ρ j := by
  have : j.same id = false := by
    cases hh : j.same id
    · rfl
    · exact absurd ((Id.same_iff j id).1 hh) h
  simp [Names.del, this]
theorem kill_agg (id : Id) (x : V) : (x.kill id).agg = x.agg := by
  cases x with
  | ptr i p => simp only [V.kill]; cases i.same id <;> rfl
  | own i p s N off len => simp only [V.kill]; cases i.same id <;> rfl
  | lent i e s nil n => simp only [V.kill]; cases i.same id <;> rfl
  | _ => rfl
section
variable {F : Foot} {w : World} {ρ : Names} {id : Id}
theorem kill_rel : ∀ (x : V) {cs : List Value} {fp : Foot}, RelT F w ρ x cs fp → RelT F w (ρ.del id) (x.kill id) cs fp := by
  intro x
  induction x with
  | undef | int | bool | str | nilp | unit | nilf | nili | vp | sl => intro cs fp h; simpa only [RelT, V.kill] using h
  | tup => intro cs fp h; simp [RelT] at h
  | ptr i p =>
    intro cs fp h
    simp only [RelT] at h
    obtain ⟨g, o, h1, h2, rfl⟩ := h
    simp only [V.kill]
    cases hi : i.same id
    · exact ⟨g, o, by rw [Names.del_ne _ (same_false hi)]; exact h1, h2, rfl⟩
    · exact ⟨_, rfl, rfl⟩
  | own i p s N off len =>
    intro cs fp h
    simp only [RelT] at h
    obtain ⟨g, o, c, A, h1, h2, rfl, h4⟩ := h
    simp only [V.kill]
    cases hi : i.same id
    · exact ⟨g, o, c, A, by rw [Names.del_ne _ (same_false hi)]; exact h1, h2, rfl, h4⟩
    · exact ⟨_, rfl, rfl⟩
  | lent i e s nil n =>
    intro cs fp h
    simp only [RelT] at h
    obtain ⟨g, o, A, c, h1, rfl, h4⟩ := h
    simp only [V.kill]
    cases hi : i.same id
    · exact ⟨g, o, A, c, by rw [Names.del_ne _ (same_false hi)]; exact h1, rfl, h4⟩
    · exact ⟨_, rfl, rfl⟩
  | cons x r hx hr =>
    intro cs fp h
    simp only [RelT, V.kill] at h ⊢
    obtain ⟨a, b, fa, fb, h1, h2, h3, h4⟩ := h
    exact ⟨a, b, fa, fb, h1, hx h2, hr h3, h4⟩
  | arr s n get ih =>
    intro cs fp h
    simp only [RelT, V.kill] at h ⊢
    obtain ⟨f, fs, h1, h2, h3⟩ := h
    exact ⟨f, fs, fun i hi => ⟨(h1 i hi).1, ih i (h1 i hi).2.1, (h1 i hi).2.2⟩, h2, h3⟩
  | fn f c ih => intro cs fp h; simp only [RelT, V.kill] at h ⊢; obtain ⟨xs, h1, h2⟩ := h; exact ⟨xs, h1, ih h2⟩
  | iface t x ih =>
    intro cs fp h
    simp only [RelT, V.kill] at h ⊢
    obtain ⟨xs, v, h1, h2, h3, h4⟩ := h
    exact ⟨xs, v, h1, ih h2, by rw [kill_agg]; exact h3, by rw [kill_agg]; exact h4⟩
  | obox nil x ih =>
    intro cs fp h
    simp only [RelT, V.kill] at h ⊢
    obtain ⟨A, h1, h2, h3⟩ := h
    refine ⟨A, h1, h2, fun hn => ?_⟩
    obtain ⟨g, o, xs, f, k1, k2, k3⟩ := h3 hn
    exact ⟨g, o, xs, f, k1, ih k2, k3⟩
  | osl e s nil n get ih =>
    intro cs fp h
    simp only [RelT, V.kill] at h ⊢
    obtain ⟨A, c, h1, h2, h3, h4, h5⟩ := h
    refine ⟨A, c, h1, h2, h3, h4, fun hn => ?_⟩
    obtain ⟨g, o, k1, k2, k3, xs, f, fs, k4, k5, k6, k7⟩ := h5 hn
    exact ⟨g, o, k1, k2, k3, xs, f, fs, k4, k5, fun i hi => ⟨(k6 i hi).1, ih i (k6 i hi).2.1, (k6 i hi).2.2⟩, k7⟩
theorem kill_rel1 {x : V} {v : Value} {fp : Foot} (h : Rel1 F w ρ x v fp) : Rel1 F w (ρ.del id) (x.kill id) v fp :=
  ⟨fun ha => let ⟨cs, h1, h2⟩ := h.1 (by rwa [kill_agg] at ha); ⟨cs, h1, kill_rel x h2⟩, fun ha => kill_rel x (h.2 (by rwa [kill_agg] at ha))⟩
theorem kill_relL : ∀ {x : V} {vs : List Value} {fp : Foot}, RelL F w ρ x vs fp → RelL F w (ρ.del id) (x.kill id) vs fp := by
  intro x
  induction x with
  | cons x r _ ih =>
    intro vs fp h
    simp only [RelL, V.kill] at h ⊢
    obtain ⟨v, vs', fa, fb, h1, h2, h3, h4⟩ := h
    exact ⟨v, vs', fa, fb, h1, kill_rel1 h2, ih h3, h4⟩
  | unit => intro vs fp h; exact h
  | _ => intro vs fp h; exact h.elim
theorem kill_relV {x : V} {v : Value} {fp : Foot} (h : RelV F w ρ x v fp) : RelV F w (ρ.del id) (x.kill id) v fp := by
  cases x with
  | undef => trivial
  | tup y => obtain ⟨vs, h1, h2⟩ := h; exact ⟨vs, h1, kill_relL h2⟩
  | ptr i p =>
    have := kill_rel1 (id := id) (x := .ptr i p) h
    simp only [V.kill] at this ⊢
    cases hi : i.same id <;> rw [hi] at this
    · exact this
    · trivial
  | own i p s N off len =>
    have := kill_rel1 (id := id) (x := .own i p s N off len) h
    simp only [V.kill] at this ⊢
    cases hi : i.same id <;> rw [hi] at this
    · exact this
    · trivial
  | lent i e s nil n =>
    have := kill_rel1 (id := id) (x := .lent i e s nil n) h
    simp only [V.kill] at this ⊢
    cases hi : i.same id <;> rw [hi] at this
    · exact this
    · trivial
  | _ => exact kill_rel1 h
theorem kill_relR {a : Nat × Nat} {x : V} {fp : Foot} (h : RelR F w ρ a x fp) : RelR F w (ρ.del id) a (x.kill id) fp := by
  obtain ⟨xs, f, h1, h2⟩ := h
  exact ⟨xs, f, kill_rel x h1, h2⟩
end
def delH (H : Id → Option V) (id : Id) : Id → Option V := fun j => cond (j.same id) none ((H j).map (V.kill id))
theorem delH_same (H : Id → Option V) (id : Id) : delH H id id = none := by simp [delH, (Id.same_iff id id).2 rfl]
theorem delH_ne (H : Id → Option V) {id j : Id} (h : j ≠ id) : delH H id j = (H j).map (V.kill id) := by
  have : j.same id = false := by
    cases hh : j.same id
    · rfl
    · exact absurd ((Id.same_iff j id).1 hh) h
  simp [delH, this]
section
variable {Γ : Ctx} {F : Foot} {w : World} {ρ : Names} {fam : Fam} {s : St} {vs : Array Value} {id id2 : Id} {r r2 : Nat × Nat} {c' z : V}
open Classical in
theorem Stand.absorb (h : Stand Γ F w ρ fam s vs) (hloc : ∀ i, .par i ≠ id2) (hne : id ≠ id2) (hr : ρ id = some r) (h1 : RelR F w ρ r c' ((fam (.b id)).or (fam (.b id2)))) :
    Stand Γ F w (ρ.del id2) (fun i => if i = .b id2 then none_ else if i = .b id then (fam (.b id)).or (fam (.b id2)) else fam i) { tm := fun t => (s.tm t).kill id2, H := delH (updH s.H id (some c')) id2 } vs := by
  refine h.re (G := fun i j => i ≠ .b id2 ∧ (j = i ∨ i = .b id ∧ j = .b id2)) ⟨fun i g o hi => ?_, fun i i' j hii hj hj' => ?_⟩ (fun t => ?_) (fun i => ?_) (fun i x r' hx hr' => ?_) (fun i => (Names.del_ne _ (hloc i)).trans (h.pn i))
  · by_cases e : i = .b id2
    · simp only [e, if_true] at hi; exact hi.elim
    · by_cases e' : i = .b id
      · subst e'
        simp only [e, if_false, if_true] at hi
        rcases hi with hi | hi
        · exact ⟨_, ⟨e, .inl rfl⟩, hi⟩
        · exact ⟨_, ⟨e, .inr ⟨rfl, rfl⟩⟩, hi⟩
      · simp only [e, e', if_false] at hi
        exact ⟨_, ⟨e, .inl rfl⟩, hi⟩
  · obtain ⟨n1, hj⟩ := hj
    obtain ⟨n2, hj'⟩ := hj'
    rcases hj with rfl | ⟨rfl, rfl⟩
    · rcases hj' with rfl | ⟨_, rfl⟩
      · exact absurd rfl hii
      · exact absurd rfl n1
    · rcases hj' with e | ⟨e, _⟩
      · exact absurd e.symm n2
      · exact absurd e.symm hii
  · exact (kill_relV (h.tm t)).mono (by simp only [reduceCtorEq, if_false]; exact Foot.Sub.refl _)
  · show delH (updH s.H id (some c')) id2 i = none ↔ _
    by_cases e : i = id2
    · subst e; rw [delH_same, Names.del_same]; simp
    · rw [delH_ne _ e, Names.del_ne _ e, Option.map_eq_none_iff]
      by_cases e' : i = id
      · subst e'; rw [updH_same, hr]; simp
      · rw [updH_ne _ _ e']; exact h.nm i
  · have hx : delH (updH s.H id (some c')) id2 i = some x := hx
    by_cases e : i = id2
    · subst e; rw [delH_same] at hx; cases hx
    · rw [delH_ne _ e, Option.map_eq_some_iff] at hx
      obtain ⟨y, hy, rfl⟩ := hx
      rw [Names.del_ne _ e] at hr'
      have e2 : ¬ (Ix.b i = Ix.b id2) := fun h => e (by cases h; rfl)
      by_cases e' : i = id
      · subst e'
        rw [updH_same] at hy
        obtain rfl := Option.some.inj hy
        rw [hr] at hr'
        obtain rfl := Option.some.inj hr'
        simp only [e2, if_false, if_true]
        exact kill_relR h1
      · rw [updH_ne _ _ e'] at hy
        have e3 : ¬ (Ix.b i = Ix.b id) := fun h => e' (by cases h; rfl)
        simp only [e2, e3, if_false]
        exact kill_relR (h.bl i y r' hy hr')
open Classical in
theorem Stand.absorbT (h : Stand Γ F w ρ fam s vs) {t : Nat} (hloc : ∀ i, .par i ≠ id2) (h1 : RelV F w ρ c' (vs.getD t Go.undef) ((fam (.t t)).or (fam (.b id2)))) :
    Stand Γ F w (ρ.del id2) (fun i => if i = .b id2 then none_ else if i = .t t then (fam (.t t)).or (fam (.b id2)) else fam i) { tm := fun u => (upd s.tm t c' u).kill id2, H := delH s.H id2 } vs := by
  refine h.re (G := fun i j => i ≠ .b id2 ∧ (j = i ∨ i = .t t ∧ j = .b id2)) ⟨fun i g o hi => ?_, fun i i' j hii hj hj' => ?_⟩ (fun u => ?_) (fun i => ?_) (fun i x r' hx hr' => ?_) (fun i => (Names.del_ne _ (hloc i)).trans (h.pn i))
  · by_cases e : i = .b id2
    · simp only [e, if_true] at hi; exact hi.elim
    · by_cases e' : i = .t t
      · subst e'
        simp only [e, if_false, if_true] at hi
        rcases hi with hi | hi
        · exact ⟨_, ⟨e, .inl rfl⟩, hi⟩
        · exact ⟨_, ⟨e, .inr ⟨rfl, rfl⟩⟩, hi⟩
      · simp only [e, e', if_false] at hi
        exact ⟨_, ⟨e, .inl rfl⟩, hi⟩
  · obtain ⟨n1, hj⟩ := hj
    obtain ⟨n2, hj'⟩ := hj'
    rcases hj with rfl | ⟨rfl, rfl⟩
    · rcases hj' with rfl | ⟨_, rfl⟩
      · exact absurd rfl hii
      · exact absurd rfl n1
    · rcases hj' with e | ⟨e, _⟩
      · exact absurd e.symm n2
      · exact absurd e.symm hii
  · show RelV F w (ρ.del id2) ((upd s.tm t c' u).kill id2) _ _
    by_cases e : u = t
    · subst e
      rw [upd_same]
      exact (kill_relV h1).mono (by simp only [reduceCtorEq, if_false, if_true]; exact Foot.Sub.refl _)
    · rw [upd_ne _ _ e]
      have e' : ¬ (Ix.t u = Ix.t t) := fun h => e (by cases h; rfl)
      exact (kill_relV (h.tm u)).mono (by simp only [reduceCtorEq, e', if_false]; exact Foot.Sub.refl _)
  · show delH s.H id2 i = none ↔ _
    by_cases e : i = id2
    · subst e; rw [delH_same, Names.del_same]; simp
    · rw [delH_ne _ e, Names.del_ne _ e, Option.map_eq_none_iff]; exact h.nm i
  · have hx : delH s.H id2 i = some x := hx
    by_cases e : i = id2
    · subst e; rw [delH_same] at hx; cases hx
    · rw [delH_ne _ e, Option.map_eq_some_iff] at hx
      obtain ⟨y, hy, rfl⟩ := hx
      rw [Names.del_ne _ e] at hr'
      have e2 : ¬ (Ix.b i = Ix.b id2) := fun h => e (by cases h; rfl)
      simp only [e2, reduceCtorEq, if_false]
      exact kill_relR (h.bl i y r' hy hr')
end
end Go.Vm
end
section
namespace Go.Vm
open Go
structure Rec where
  id : Id
  owner : Id
  path : List Sel
  arr : Option (Nat × Nat × Nat × (Nat → V))
  orig : Option V
inductive Hint where
  | close (id : Id)
  | drop (id : Id)
  | shut (t : Nat)
  | open_ (t : Nat)
  | opn (id : Id) (p : List Sel) (d : Nat)
  | frz (id : Id) (p : List Sel)
  | frzT (t : Nat)
  | back (id : Id)
  | nilS (t : Nat)
def Hint.freezes : Hint → Bool
  | .frz _ _ | .frzT _ => true
  | _ => false
def pathB : List Sel → Bool
  | [] => true
  | .fld _ _ :: p => pathB p
  | .idx _ n i :: p => Nat.blt i n && pathB p
def Id.isLoc : Id → Bool
  | .loc _ _ => true
  | .par _ => false
def killS (s : St) (id : Id) (t : Nat → V) (H : Id → Option V) : St := { tm := fun u => (t u).kill id, H := delH H id }
def V.upd : V → List Sel → V → Option V
  | _, [], y => some y
  | x, .fld j d :: p, y => cond (Nat.beq (x.fldOff j) d) (match x.nth j with
      | some z => match upd z p y with
        | some z' => x.setNth j z'
        | none => none
      | none => none) none
  | .arr s n get, .idx s' _ i :: p, y => cond (Nat.beq s s') (match upd (get i) p y with
      | some z => some (.arr s n fun j => mix (Nat.beq j i) z (get j))
      | none => none) none
  | _, .idx _ _ _ :: _, _ => none
abbrev HintR := Option (Bool × Option Prop × St)
def closeV (id : Id) (z : V) : V → Option (Bool × V)
  | .ptr i [] => cond (i.same id) (some (true, .obox false z)) none
  | .lent i e s nil n => match z with
    | .arr s' n' get => cond (i.same id && Nat.beq s s') (some (Nat.beq n n', .osl e s nil n get)) none
    | _ => none
  | _ => none
def findRec : List Rec → Id → Option Rec
  | [], _ => none
  | r :: l, id => cond (r.id.same id) (some r) (findRec l id)
def closeS (s : St) (id : Id) (z : V) (r : Rec) : HintR :=
  match s.H r.owner with
  | none => none
  | some c => cond (!(r.owner.same id)) (match r.arr with
    | none => match c.nav r.path with
      | some y => match closeV id z y with
        | some (b, y') => match c.put r.path y' with
          | some c' => some ((pathB r.path && c.fit r.path) && b, none, killS s id s.tm (updH s.H r.owner (some c')))
          | none => none
        | none => none
      | none => none
    | some (sz, n, i, get0) => match c.nav r.path with
      | some (.arr sz' n' g) => cond (Nat.beq sz sz') (match c.upd r.path (.arr sz n fun j => V.mix (Nat.beq j i) (.obox false z) (get0 j)) with
          | some c' => some ((pathB r.path && c.fit r.path) && (Nat.beq n n' && Nat.blt i n), some (g = fun j => V.mix (Nat.beq j i) (.ptr id []) (get0 j)), killS s id s.tm (updH s.H r.owner (some c')))
          | none => none) none
      | _ => none) none
def backV (s : St) (id : Id) (z : V) (r : Rec) : HintR :=
  match r.orig, s.H r.owner with
  | some (.obox nil0 z0), some c => cond (!(r.owner.same id)) (match r.arr, c.nav r.path with
    | none, some (.ptr i []) => cond (i.same id) (match c.put r.path (.obox nil0 z0) with
        | some c' => some ((pathB r.path && c.fit r.path) && !nil0, some (z = z0), killS s id s.tm (updH s.H r.owner (some c')))
        | none => none) none
    | some (sz, n, i, get0), some (.arr sz' n' g) => cond (Nat.beq sz sz') (match c.upd r.path (.arr sz n get0) with
        | some c' => some ((pathB r.path && c.fit r.path) && ((Nat.beq n n' && Nat.blt i n) && !nil0), some ((g = fun j => V.mix (Nat.beq j i) (.ptr id []) (get0 j)) ∧ (z = z0 ∧ get0 i = .obox nil0 z0)), killS s id s.tm (updH s.H r.owner (some c')))
        | none => none) none
    | _, _ => none) none
  | _, _ => closeS s id z r
def hintW (s : St) (l : List Rec) : Hint → HintR
  | .close id => match s.H id with
    | none => some (true, none, s)
    | some z => match findRec l id with
      | some r => cond id.isLoc (closeS s id z r) none
      | none => none
  | .back id => match s.H id with
    | none => some (true, none, s)
    | some z => match findRec l id with
      | some r => cond id.isLoc (backV s id z r) none
      | none => none
  | .drop id => match s.H id with
    | none => some (true, none, s)
    | some _ => cond id.isLoc (some (true, none, killS s id s.tm s.H)) none
  | .shut t => match s.tm t with
    | .ptr id [] => match s.H id with
      | some z => match closeV id z (s.tm t) with
        | some (b, y) => cond id.isLoc (some (b, none, killS s id (upd s.tm t y) s.H)) none
        | none => none
      | none => none
    | .lent id _ _ _ _ => match s.H id with
      | some z => match closeV id z (s.tm t) with
        | some (b, y) => cond id.isLoc (some (b, none, killS s id (upd s.tm t y) s.H)) none
        | none => none
      | none => none
    | _ => some (true, none, s)
  | .open_ t => match s.tm t with
    | .obox nil z => match s.H (.loc t 1) with
      | some _ => none
      | none => some (!nil, none, { tm := upd s.tm t (.ptr (.loc t 1) []), H := updH s.H (.loc t 1) (some z) })
    | .osl e sz nil n get => match s.H (.loc t 1) with
      | some _ => none
      | none => some (true, none, { tm := upd s.tm t (.lent (.loc t 1) e sz nil n), H := updH s.H (.loc t 1) (some (.arr sz n get)) })
    | _ => some (true, none, s)
  | .opn id p d => match s.H id with
    | none => some (true, none, s)
    | some c => match c.nav p with
      | some (.osl e sz nil n get) => match s.H (.loc d 0), c.put p (.lent (.loc d 0) e sz nil n) with
        | none, some c' => some (pathB p && c.fit p, none, { tm := s.tm, H := updH (updH s.H id (some c')) (.loc d 0) (some (.arr sz n get)) })
        | _, _ => none
      | some (.obox nil z) => match s.H (.loc d 0), c.put p (.ptr (.loc d 0) []) with
        | none, some c' => some ((pathB p && c.fit p) && !nil, none, { tm := s.tm, H := updH (updH s.H id (some c')) (.loc d 0) (some z) })
        | _, _ => none
      | _ => some (true, none, s)
  | .frz id p => match s.H id with
    | none => some (true, none, s)
    | some c => match c.nav p with
      | some (.osl e sz nil n get) => match c.put p (.sl (some e) sz nil n fun i => (get i).demote) with
        | some c' => some (pathB p && c.fit p, some (∀ i, i < n → (get i).closed = true), { tm := s.tm, H := updH s.H id (some c') })
        | none => none
      | _ => some (true, none, s)
  | .frzT t => match s.tm t with
    | .osl e sz nil n get => some (true, some (∀ i, i < n → (get i).closed = true), { tm := upd s.tm t (.sl (some e) sz nil n fun i => (get i).demote), H := s.H })
    | _ => some (true, none, s)
  | .nilS _ => some (true, none, s)
def nilB : Hint → St → Option (Bool × St)
  | .nilS t, s => match s.tm t with
    | .obox b _ => some (b, { tm := upd s.tm t .nilp, H := s.H })
    | _ => none
  | _, _ => none
section
variable {Γ : Ctx} {F : Foot} {w : World} {ρ : Names} {fam : Fam} {s : St} {vs : Array Value} {id : Id} {z : V}
theorem pathB_ok : ∀ {p : List Sel}, pathB p = true → pathOk p := by
  intro p
  induction p with
  | nil => intro _ s hs; simp at hs
  | cons x p ih =>
    intro h s hs
    cases x with
    | fld j d =>
      rcases List.mem_cons.1 hs with rfl | hs
      · trivial
      · exact ih h s hs
    | idx sz n i =>
      simp only [pathB, Bool.and_eq_true, Nat.blt_eq] at h
      rcases List.mem_cons.1 hs with rfl | hs
      · exact h.1
      · exact ih h.2 s hs
theorem isLoc_par {id : Id} (h : id.isLoc = true) : ∀ i, .par i ≠ id := by
  rintro i rfl; cases h
theorem closeV_ok {r : Nat × Nat} (hr : ρ id = some r) {fe : Foot} (hz : RelR F w ρ r z fe) {y y' : V} {b : Bool} (h : closeV id z y = some (b, y')) (hb : b = true) {cs : List Value} {fs : Foot} (hy : RelT F w ρ y cs fs) (hoff : fe.Off fs) :
    RelT F w ρ y' cs (fe.or fs) ∧ y'.size = y.size ∧ y'.agg = false ∧ y.agg = false ∧ y'.one = true := by
  unfold closeV at h
  split at h
  · rename_i i
    obtain ⟨h1, h'⟩ := cond_some h
    obtain rfl := (Id.same_iff _ _).1 h1
    cases h'
    exact ⟨(obox_close hr hy hz).mono (Foot.sub_left _ _), rfl, rfl, rfl, rfl⟩
  · rename_i i e s nil n
    split at h
    · rename_i s' n' get
      obtain ⟨h1, h'⟩ := cond_some h
      simp only [Bool.and_eq_true] at h1
      obtain rfl := (Id.same_iff _ _).1 h1.1
      obtain rfl := Nat.eq_of_beq_eq_true h1.2
      cases h'
      obtain rfl := Nat.eq_of_beq_eq_true hb
      exact ⟨osl_close hr hy hz hoff, rfl, rfl, rfl, rfl⟩
    · cases h
  · cases h
theorem absorb_part (h : Stand Γ F w ρ fam s vs) {owner : Id} (hne : owner ≠ id) {c c' y y' : V} (hc : s.H owner = some c) {g of : Nat} (hr : ρ owner = some (g, of)) {xs : List Value} {f : Foot} {p : Nat} {re : V → V → Prop}
    (m2 : Region w (fam (.b owner)) g of xs) (m3 : f.Sub (fam (.b owner))) (m4 : f.Off (regionFoot g of xs.length)) (q : Part F w ρ xs f p y re) (hre : ∀ x', re y' x' → x' = c')
    (hy' : RelT F w ρ y' q.zs ((fam (.b id)).or q.f1)) (hsz : y'.size = y.size) : RelR F w ρ (g, of) c' ((fam (.b owner)).or (fam (.b id))) := by
  have hoff : (fam (.b owner)).Off (fam (.b id)) := h.off _ _ (fun e => hne (by cases e; rfl))
  obtain ⟨c2, e1, e2⟩ := q.put (Later.refl F w ρ) (fun _ _ _ => rfl) y' q.zs _ hy' hsz (Foot.or_off (hoff.symm.mono (Foot.Sub.refl _) (q.sub2.trans m3)) q.off)
  obtain rfl := hre _ e1
  have hrel := e2 (((fam (.b id)).or q.f1).or q.f2) (Foot.sub_left _ _) (Foot.sub_right _ _)
  rw [← q.eq] at hrel
  have hregs : (regionFoot g of xs.length).Sub (fam (.b owner)) := by
    rintro g' o' ⟨rfl, h1, h2⟩
    have := m2.own (o' - of) (by omega)
    rwa [Nat.add_sub_cancel' h1] at this
  refine ⟨xs, _, hrel, ⟨m2.reads, m2.free, fun j hj => .inl (m2.own j hj)⟩, ?_, ?_⟩
  · rintro g' o' ((h | h) | h)
    · exact .inr h
    · exact .inl (m3 _ _ (q.sub1 _ _ h))
    · exact .inl (m3 _ _ (q.sub2 _ _ h))
  · rintro g' o' ((h | h) | h) h2
    · exact hoff g' o' (hregs g' o' h2) h
    · exact m4 _ _ (q.sub1 _ _ h) h2
    · exact m4 _ _ (q.sub2 _ _ h) h2
open Classical in
theorem Stand.forget (h : Stand Γ F w ρ fam s vs) (hloc : ∀ i, .par i ≠ id) :
    Stand Γ F w (ρ.del id) (fun i => if i = .b id then none_ else fam i) (killS s id s.tm s.H) vs := by
  refine h.re (G := fun i j => j = i) ⟨fun i g o hi => ?_, fun i i' j hii hj hj' => ?_⟩ (fun u => ?_) (fun i => ?_) (fun i x r' hx hr' => ?_) (fun i => (Names.del_ne _ (hloc i)).trans (h.pn i))
  · refine ⟨i, rfl, ?_⟩
    by_cases e : i = .b id
    · simp only [e, if_true] at hi; exact hi.elim
    · simp only [e, if_false] at hi; exact hi
  · exact absurd (hj.symm.trans hj') hii
  · exact (kill_relV (h.tm u)).mono (by simp only [reduceCtorEq, if_false]; exact Foot.Sub.refl _)
  · show delH s.H id i = none ↔ _
    by_cases e : i = id
    · subst e; rw [delH_same, Names.del_same]; simp
    · rw [delH_ne _ e, Names.del_ne _ e, Option.map_eq_none_iff]; exact h.nm i
  · have hx : delH s.H id i = some x := hx
    by_cases e : i = id
    · subst e; rw [delH_same] at hx; cases hx
    · rw [delH_ne _ e, Option.map_eq_some_iff] at hx
      obtain ⟨y, hy, rfl⟩ := hx
      rw [Names.del_ne _ e] at hr'
      have e2 : ¬ (Ix.b i = Ix.b id) := fun h => e (by cases h; rfl)
      simp only [e2, if_false]
      exact kill_relR (h.bl i y r' hy hr')
theorem arr_eta {i : Nat} {ref y : V} {get0 : Nat → V} : (fun j => cond (Nat.beq j i) y ((fun j => V.mix (Nat.beq j i) ref (get0 j)) j)) = fun j => V.mix (Nat.beq j i) y (get0 j) := by
  funext j
  simp only [V.mix_eq]
  cases Nat.beq j i <;> rfl
theorem upd_put : ∀ {p : List Sel} {x y x' z : V}, x.upd p y = some x' → x.nav p = some z → y.size = z.size → x.put p y = some x' := by
  intro p
  induction p with
  | nil =>
    intro x y x' z h hn hs
    simp only [V.nav, Option.some.injEq] at hn
    subst hn
    simp only [V.upd, V.put] at h ⊢
    rw [hs]
    simpa using h
  | cons s p ih =>
    intro x y x' z h hn hs
    cases s with
    | fld j d =>
      simp only [V.upd, V.put, V.nav] at h hn ⊢
      cases hd : Nat.beq (x.fldOff j) d
      · rw [hd] at h; cases h
      · rw [hd, cond_true] at h hn
        rw [cond_true]
        cases hj : x.nth j with
        | none => rw [hj] at h; cases h
        | some z0 =>
          rw [hj] at h hn
          simp only at h hn ⊢
          cases hu : z0.upd p y with
          | none => rw [hu] at h; cases h
          | some z1 =>
            rw [hu] at h
            rw [ih hu hn hs]
            exact h
    | idx s' n' i =>
      cases x with
      | arr s0 n get =>
        simp only [V.upd, V.put, V.nav] at h hn ⊢
        cases hd : Nat.beq s0 s'
        · rw [hd] at h; cases h
        · rw [hd, cond_true] at h hn
          rw [cond_true]
          cases hu : (get i).upd p y with
          | none => rw [hu] at h; cases h
          | some z1 =>
            rw [hu] at h
            rw [ih hu hn hs]
            exact h
      | _ => simp [V.upd] at h
theorem closeS_ok (h : Stand Γ F w ρ fam s vs) (hloc : id.isLoc = true) (hz : s.H id = some z) {r : Rec} {b : Bool} {p : Option Prop} {s' : St} (hc : closeS s id z r = some (b, p, s')) (hb : b = true) (hp : ∀ q, p = some q → q) :
    ∃ ρ' fam', Stand Γ F w ρ' fam' s' vs := by
  unfold closeS at hc
  split at hc
  · cases hc
  rename_i c hcc
  obtain ⟨hne, hc⟩ := cond_some hc
  have hne : r.owner ≠ id := by
    rintro e
    rw [(Id.same_iff _ _).2 e] at hne
    cases hne
  cases hro : ρ r.owner with
  | none => rw [(h.nm _).2 hro] at hcc; cases hcc
  | some at_ =>
  obtain ⟨g, of⟩ := at_
  cases hri : ρ id with
  | none => rw [(h.nm _).2 hri] at hz; cases hz
  | some ri =>
  obtain ⟨xs, f, m1, m2, m3, m4⟩ := h.bl _ c (g, of) hcc hro
  have hrel := h.bl id z ri hz hri
  have hoff : (fam (.b id)).Off (fam (.b r.owner)) := h.off _ _ (fun e => hne (by cases e; rfl))
  split at hc
  · split at hc
    · rename_i y hy
      split at hc
      · rename_i b' y' hcl
        split at hc
        · rename_i c' hput
          simp only [Option.some.injEq, Prod.mk.injEq] at hc
          obtain ⟨rfl, rfl, rfl⟩ := hc
          simp only [Bool.and_eq_true] at hb
          obtain ⟨q⟩ := nav_part r.path c (pathB_ok hb.1.1) hb.1.2 m1 hy
          obtain ⟨j1, j2, _⟩ := closeV_ok hri hrel hcl hb.2 q.rel (hoff.mono (Foot.Sub.refl _) (q.sub1.trans m3))
          exact ⟨_, _, h.absorb (isLoc_par hloc) hne hro (absorb_part h hne hcc hro m2 m3 m4 q (fun x' hx' => by rw [hput] at hx'; exact (Option.some.inj hx').symm) j1 j2)⟩
        · cases hc
      · cases hc
    · cases hc
  · rename_i sz n i get0 _
    split at hc
    · rename_i sz' n' gt hy
      obtain ⟨hsz, hc'⟩ := cond_some hc
      obtain rfl := Nat.eq_of_beq_eq_true hsz
      split at hc'
      · rename_i c' hupd
        cases hc'
        simp only [Bool.and_eq_true, Nat.blt_eq] at hb
        obtain ⟨⟨b1, b2⟩, b3, b4⟩ := hb
        obtain rfl := Nat.eq_of_beq_eq_true b3
        obtain rfl := hp _ rfl
        have hput := upd_put hupd hy rfl
        obtain ⟨q⟩ := nav_part r.path c (pathB_ok b1) b2 m1 hy
        obtain ⟨q2⟩ := arr_part b4 q.rel
        have hi : V.mix (Nat.beq i i) (V.ptr id []) (get0 i) = .ptr id [] := by rw [V.mix_eq, show Nat.beq i i = true by simp]; rfl
        have j0 : ∀ y, V.mix (Nat.beq i i) (V.ptr id []) (get0 i) = y → RelT F w ρ y q2.zs q2.f1 := by
          intro y e
          subst e
          exact q2.rel
        have j1 := obox_close hri (j0 _ hi) hrel
        obtain ⟨x', rfl, j2⟩ := q2.put (Later.refl F w ρ) (fun _ _ _ => rfl) (.obox false z) q2.zs _ j1 (by rw [hi]; rfl) (hoff.mono (Foot.Sub.refl _) ((q2.sub2.trans q.sub1).trans m3))
        have j3 := j2 ((fam (.b id)).or q.f1) (Foot.sub_left _ _) (q2.sub2.trans (Foot.sub_right _ _))
        rw [← q2.eq, arr_eta] at j3
        exact ⟨_, _, h.absorb (isLoc_par hloc) hne hro (absorb_part h hne hcc hro m2 m3 m4 q (fun x' hx' => by rw [hput] at hx'; exact (Option.some.inj hx').symm) j3 rfl)⟩
      · cases hc'
    · cases hc
theorem backV_close {r : Rec} {b : Bool} {p : Option Prop} {s' : St} (hc : backV s id z r = some (b, p, s')) (hb : b = true) (hp : ∀ q, p = some q → q) :
    ∃ b' p', closeS s id z r = some (b', p', s') ∧ b' = true ∧ ∀ q, p' = some q → q := by
  unfold backV at hc
  split at hc
  · rename_i nil0 z0 c hr hco
    obtain ⟨hne, hc⟩ := cond_some hc
    split at hc
    · rename_i i harr hnav
      obtain ⟨hi, hc⟩ := cond_some hc
      obtain rfl := (Id.same_iff _ _).1 hi
      cases hput : c.put r.path (.obox nil0 z0) with
      | none => rw [hput] at hc; cases hc
      | some c' =>
      rw [hput] at hc
      simp only [Option.some.injEq, Prod.mk.injEq] at hc
      obtain ⟨rfl, rfl, rfl⟩ := hc
      simp only [Bool.and_eq_true, Bool.not_eq_true'] at hb
      obtain ⟨hb, rfl⟩ := hb
      obtain rfl : z = z0 := hp _ rfl
      refine ⟨(pathB r.path && c.fit r.path) && true, none, ?_, ?_, nofun⟩
      · unfold closeS
        simp only [hco, hne, cond_true, harr, hnav, closeV, hi, hput]
      · simp only [hb, Bool.and_self]
    · rename_i sz n i get0 sz' n' g harr hnav
      obtain ⟨hsz, hc⟩ := cond_some hc
      cases hupd : c.upd r.path (.arr sz n get0) with
      | none => rw [hupd] at hc; cases hc
      | some c' =>
      rw [hupd] at hc
      simp only [Option.some.injEq, Prod.mk.injEq] at hc
      obtain ⟨rfl, rfl, rfl⟩ := hc
      simp only [Bool.and_eq_true, Bool.not_eq_true'] at hb
      obtain ⟨hb1, hb2, rfl⟩ := hb
      obtain ⟨hg, rfl, hget⟩ := hp _ rfl
      have he : (fun j => V.mix (Nat.beq j i) (V.obox false z) (get0 j)) = get0 := by
        funext j
        rw [V.mix_eq]
        cases hj : Nat.beq j i
        · rfl
        · rw [Nat.eq_of_beq_eq_true hj, hget]; rfl
      refine ⟨(pathB r.path && c.fit r.path) && (Nat.beq n n' && Nat.blt i n), some (g = fun j => V.mix (Nat.beq j i) (.ptr id []) (get0 j)), ?_, ?_, fun q hq => by cases hq; exact hg⟩
      · unfold closeS
        simp only [hco, hne, cond_true, harr, hnav, hsz, he, hupd]
      · simp only [hb1, hb2, Bool.and_self]
    · cases hc
  · exact ⟨b, p, hc, hb, hp⟩
theorem hintW_ok0 (h : Stand Γ F w ρ fam s vs) {l : List Rec} {x : Hint} {b : Bool} {p : Option Prop} {s' : St} (hx : x.freezes = false) (hc : hintW s l x = some (b, p, s')) (hb : b = true) (hp : ∀ q, p = some q → q) : ∃ ρ' fam', Stand Γ F w ρ' fam' s' vs := by
  have named : ∀ {id : Id} {c y ref z c' : V} {p : List Sel} {d : Nat}, s.H id = some c → c.nav p = some y → s.H (.loc d 0) = none → c.put p ref = some c' → pathB p = true → c.fit p = true →
      (∀ cs fp, RelT F w ρ y cs fp → ∃ r2 fe fs, fe.Off fs ∧ fe.Sub fp ∧ fs.Sub fp ∧ RelR F w (ρ.with (.loc d 0) r2) r2 z fe ∧ RelT F w (ρ.with (.loc d 0) r2) ref cs fs) → ref.size = y.size →
      ∃ ρ' fam', Stand Γ F w ρ' fam' { tm := s.tm, H := updH (updH s.H id (some c')) (.loc d 0) (some z) } vs := by
    intro id c y ref z c' p d hcH hy hH hput hp1 hp2 hopen hsz
    cases hri : ρ id with
    | none => rw [(h.nm _).2 hri] at hcH; cases hcH
    | some r =>
      obtain ⟨xs, f, m1, m2, m3, m4⟩ : RelR F w ρ r c (fam (.b id)) := h.bl id c r hcH hri
      obtain ⟨q⟩ := nav_part p c (pathB_ok hp1) hp2 m1 hy
      obtain ⟨r2, fe, fs, j1, j2, j3, j4, j5⟩ := hopen _ _ q.rel
      have hle := Names.le_with r2 ((h.nm _).1 hH)
      obtain ⟨c2, e1, e2⟩ := q.put (F' := F) (w' := w) (ρ' := ρ.with (.loc d 0) r2) ⟨Ext.refl w, Foot.Sub.refl _, fun _ _ _ => rfl, hle⟩ (fun _ _ _ => rfl) ref q.zs fs j5 hsz (q.off.mono j3 (Foot.Sub.refl _))
      rw [hput] at e1
      obtain rfl := Option.some.inj e1
      have hxs := q.eq
      let fr : Foot := fun g' o' => regionFoot r.1 r.2 xs.length g' o' ∨ (fs.or q.f2) g' o'
      have hrel2 : RelT F w (ρ.with (.loc d 0) r2) c' xs (fs.or q.f2) := by
        have := e2 (fs.or q.f2) (Foot.sub_left _ _) (Foot.sub_right _ _)
        rw [← hxs] at this
        exact this
      have hsub : (fs.or q.f2).Sub f := Foot.or_sub (j3.trans q.sub1) q.sub2
      have hreg : Region w fr r.1 r.2 xs := ⟨m2.reads, m2.free, fun j hj => .inl ⟨rfl, by omega, by omega⟩⟩
      have hR : RelR F w (ρ.with (.loc d 0) r2) r c' fr := relR_of hrel2 hreg (fun _ _ h => .inr h) (m4.mono hsub (Foot.Sub.refl _))
      have hregs : (regionFoot r.1 r.2 xs.length).Sub (fam (.b id)) := by
        rintro g' o' ⟨rfl, h1, h2⟩
        have := m2.own (o' - r.2) (by omega)
        rwa [Nat.add_sub_cancel' h1] at this
      exact ⟨_, _, h.split (fr := fr) (fn := fe) hri hH nofun hR j4 (fun g' o' h => h.elim (hregs g' o') fun h => m3 g' o' (hsub g' o' h)) (fun g' o' h => m3 g' o' (q.sub1 g' o' (j2 g' o' h))) (by
        rintro g' o' (h | h | h) h'
        · exact m4 g' o' (q.sub1 g' o' (j2 g' o' h')) h
        · exact j1 g' o' h' h
        · exact q.off g' o' (j2 g' o' h') h)⟩
  have sealed : ∀ (t : Nat) (id : Id) (y : V), s.tm t = y → (match s.H id with
      | some z => match closeV id z y with
        | some (b, y') => cond id.isLoc (some (b, none, killS s id (upd s.tm t y') s.H)) none
        | none => none
      | none => none) = some (b, p, s') → ∃ ρ' fam', Stand Γ F w ρ' fam' s' vs := by
    intro t id y hy hc
    split at hc
    · rename_i z hz
      split at hc
      · rename_i b' y' hcl
        obtain ⟨hl, hc⟩ := cond_some hc
        cases hc
        cases hri : ρ id with
        | none => rw [(h.nm _).2 hri] at hz; cases hz
        | some ri =>
          have h1 := h.tm t
          rw [hy] at h1
          have hone : y.agg = false ∧ y.one = true := by
            cases y <;> simp [closeV] at hcl <;> exact ⟨rfl, rfl⟩
          obtain ⟨j1, j2, j3, j4, j5⟩ := closeV_ok hri (h.bl id z ri hz hri) hcl hb (inv_leaf h1 hone.1 hone.2) (h.off (.b id) (.t t) nofun)
          refine ⟨_, _, h.absorbT (isLoc_par hl) (val_leaf (j1.mono ?_) j3 j5)⟩
          rintro g o (h | h)
          · exact .inr h
          · exact .inl h
      · cases hc
    · cases hc
  cases x with
  | close id =>
    simp only [hintW] at hc
    split at hc
    · cases hc; exact ⟨_, _, h⟩
    · rename_i z hz
      split at hc
      · obtain ⟨hl, hc⟩ := cond_some hc
        exact closeS_ok h hl hz hc hb hp
      · cases hc
  | back id =>
    simp only [hintW] at hc
    split at hc
    · cases hc; exact ⟨_, _, h⟩
    · rename_i z hz
      split at hc
      · obtain ⟨hl, hc⟩ := cond_some hc
        obtain ⟨b', p', k1, k2, k3⟩ := backV_close hc hb hp
        exact closeS_ok h hl hz k1 k2 k3
      · cases hc
  | drop id =>
    simp only [hintW] at hc
    split at hc
    · cases hc; exact ⟨_, _, h⟩
    · obtain ⟨hl, hc⟩ := cond_some hc
      cases hc
      exact ⟨_, _, h.forget (isLoc_par hl)⟩
  | shut t =>
    simp only [hintW] at hc
    split at hc
    · rename_i id ht; exact sealed t id _ ht (by rw [← ht]; exact hc)
    · rename_i id e sz nil n ht; exact sealed t id _ ht (by rw [← ht]; exact hc)
    · cases hc; exact ⟨_, _, h⟩
  | open_ t =>
    simp only [hintW] at hc
    split at hc
    · rename_i nil z ht
      split at hc
      · cases hc
      · rename_i hH
        cases hc
        simp only [Bool.not_eq_true'] at hb
        subst hb
        have h1 := h.tm t
        rw [ht] at h1
        obtain ⟨r2, j1, j2⟩ := obox_open ((h.nm _).1 hH) (inv_leaf h1 rfl rfl)
        exact ⟨_, _, h.splitT hH nofun (val_leaf j2 rfl rfl) j1 (Foot.none_sub _) (Foot.Sub.refl _) (Foot.off_none _)⟩
    · rename_i e sz nil n get ht
      split at hc
      · cases hc
      · rename_i hH
        cases hc
        exact h.lend hH nofun ht
    · cases hc; exact ⟨_, _, h⟩
  | opn id p d =>
    simp only [hintW] at hc
    split at hc
    · cases hc; exact ⟨_, _, h⟩
    · rename_i c hcH
      split at hc
      · rename_i e sz nil n get hy
        split at hc <;> (try cases hc)
        rename_i c' hH hput
        simp only [Bool.and_eq_true] at hb
        exact named hcH hy hH hput hb.1 hb.2 (fun cs fp hq => osl_open ((h.nm _).1 hH) hq) rfl
      · rename_i nil z hy
        split at hc <;> (try cases hc)
        rename_i c' hH hput
        simp only [Bool.and_eq_true, Bool.not_eq_true'] at hb
        obtain ⟨⟨hb1, hb2⟩, rfl⟩ := hb
        exact named hcH hy hH hput hb1 hb2 (fun cs fp hq => by
          obtain ⟨r2, j1, j2⟩ := obox_open ((h.nm _).1 hH) hq
          exact ⟨r2, fp, none_, Foot.off_none _, Foot.Sub.refl _, Foot.none_sub _, j1, j2⟩) rfl
      · cases hc; exact ⟨_, _, h⟩
  | frz => cases hx
  | frzT => cases hx
  | nilS => cases hc; exact ⟨_, _, h⟩
theorem osl_freeze {e : TypeId} {sz n : Nat} {nil : Bool} {get : Nat → V} {cs : List Value} {fp : Foot} (h : RelT F w ρ (.osl e sz nil n get) cs fp) (hc : ∀ i, i < n → (get i).closed = true) :
    ∃ fz fs : Foot, fz.Sub fp ∧ fs.Sub fp ∧ fs.Off fz ∧ RelT (F.or fz) w ρ (.sl (some e) sz nil n fun i => (get i).demote) cs fs := by
  simp only [RelT] at h
  obtain ⟨A, c, rfl, h2, h3, h4, h5⟩ := h
  cases hn : nil with
  | true =>
    refine ⟨none_, none_, Foot.none_sub _, Foot.none_sub _, Foot.none_off _, ?_⟩
    simp only [RelT]
    exact ⟨A, c, rfl, h2, h3, fun _ => h4 hn, nofun⟩
  | false =>
    obtain ⟨g, o, rfl, k2, k3, xs, f, fs, k4, k5, k6, k7⟩ := h5 hn
    have hlen : xs.length = n * sz := by rw [k4]; exact flatMap_length n fun i hi => (k6 i hi).1
    have hsub : (regionFoot g o (n * sz)).Sub fp := by
      rintro b k ⟨e1, e2, e3⟩
      exact k3 b k ⟨e1, e2, Nat.lt_of_lt_of_le e3 (Nat.add_le_add_left (Nat.mul_le_mul_right sz h2) o)⟩
    refine ⟨regionFoot g o (n * sz), spareFoot g o sz n c, hsub, (spare_sub h2).trans k3, fun b k h1 h2 => spare_off b k h2 h1, ?_⟩
    simp only [RelT]
    refine ⟨_, c, rfl, h2, h3, nofun, fun _ => ⟨g, o, none, rfl, .inl rfl, fun e' he => by cases he; exact k2, fun i hi => ⟨f i, (k6 i hi).1, ?_, ?_, fun j hj => .inr ⟨rfl, by omega, ?_⟩⟩⟩⟩
    · exact RelT.keep (Ext.refl w) (Foot.sub_left _ _) (fun _ _ _ => rfl) _ (fun _ _ h => h) (fun _ _ _ => rfl) (Foot.Sub.refl _) (closed_rel _ (k6 i hi).2.1 (hc i hi))
    · intro j u hu
      have hmem := flatMap_get (f := f) (List.range n) i j (v := i) (u := u) (sz := sz) (fun v hv => (k6 v (List.mem_range.1 hv)).1) (by simp [hi]) hu
      rw [← k4] at hmem
      rw [Nat.add_assoc]
      exact k5.reads _ _ hmem
    · have : (i + 1) * sz ≤ n * sz := Nat.mul_le_mul_right sz hi
      rw [Nat.add_mul] at this
      omega
theorem Stand.less {s' : St} {F' : Foot} {fam' : Fam} (h : Stand Γ F w ρ fam s vs) (hF : F.Sub F') (hf : ∀ i, (fam' i).Sub (fam i)) (hoff : ∀ i, (fam' i).Off F') (htm : ∀ t, RelV F' w ρ (s'.tm t) (vs.getD t Go.undef) (fam' (.t t)))
    (hnm : ∀ id, s'.H id = none ↔ ρ id = none) (hbl : ∀ id x r, s'.H id = some x → ρ id = some r → RelR F' w ρ r x (fam' (.b id))) : Stand Γ F' w ρ fam' s' vs where
  tm := htm
  nm := hnm
  bl := hbl
  off i j hne g o h1 h2 := h.off i j hne g o (hf i g o h1) (hf j g o h2)
  offF := hoff
  new i g o h1 := h.new i g o (hf i g o h1)
  lt i g o h1 := h.lt i g o (hf i g o h1)
  pn := h.pn
theorem Mem.more {fz : Foot} (hm : Mem Γ w F) (h : Stand Γ F w ρ fam s vs) {i : Ix} (hz : fz.Sub (fam i)) : Mem Γ w (F.or fz) where
  ext := hm.ext
  sub g o k := .inl (hm.sub g o k)
  fresh g o k := k.elim (hm.fresh g o) fun k => .inr (h.new i g o (hz g o k))
  keep := hm.keep
  live g o k := k.elim (hm.live g o) fun k => h.lt i g o (hz g o k)
open Classical in
theorem hintW_ok (hm : Mem Γ w F) (h : Stand Γ F w ρ fam s vs) {l : List Rec} {x : Hint} {b : Bool} {p : Option Prop} {s' : St} (hc : hintW s l x = some (b, p, s')) (hb : b = true) (hp : ∀ q, p = some q → q) :
    ∃ F' ρ' fam', Mem Γ w F' ∧ Stand Γ F' w ρ' fam' s' vs := by
  have old : x.freezes = false → ∃ F' ρ' fam', Mem Γ w F' ∧ Stand Γ F' w ρ' fam' s' vs := fun hx => by
    obtain ⟨ρ', fam', k⟩ := hintW_ok0 h hx hc hb hp
    exact ⟨F, ρ', fam', hm, k⟩
  have keepV : ∀ {fz : Foot} {x : V} {v : Value} {fp : Foot}, RelV F w ρ x v fp → RelV (F.or fz) w ρ x v fp := fun k => RelV.keep (Ext.refl w) (Foot.sub_left _ _) (fun _ _ _ => rfl) (fun _ _ h => h) (fun _ _ _ => rfl) (Foot.Sub.refl _) k
  cases x with
  | close => exact old rfl
  | drop => exact old rfl
  | shut => exact old rfl
  | open_ => exact old rfl
  | opn => exact old rfl
  | back => exact old rfl
  | nilS => exact old rfl
  | frzT t =>
    simp only [hintW] at hc
    split at hc
    · rename_i e sz nil n get ht
      cases hc
      have hcl := hp _ rfl
      have h1 := h.tm t
      rw [ht] at h1
      obtain ⟨fz, fs, z1, z2, z3, z4⟩ := osl_freeze (inv_leaf h1 rfl rfl) hcl
      refine ⟨F.or fz, ρ, fun i => if i = .t t then fs else fam i, hm.more h z1, h.less (Foot.sub_left _ _) (fun i => ?_) (fun i => ?_) (fun u => ?_) h.nm (fun id x r hx hr => ?_)⟩
      · by_cases e : i = .t t
        · subst e; simp only [if_true]; exact z2
        · simp only [e, if_false]; exact Foot.Sub.refl _
      · by_cases e : i = .t t
        · subst e
          simp only [if_true]
          rintro g o k (k' | k')
          · exact h.offF _ g o (z2 g o k) k'
          · exact z3 g o k k'
        · simp only [e, if_false]
          rintro g o k (k' | k')
          · exact h.offF _ g o k k'
          · exact h.off i (.t t) e g o k (z1 g o k')
      · show RelV _ w ρ (upd s.tm t _ u) _ _
        by_cases e : u = t
        · subst e
          rw [upd_same]
          simp only [if_true]
          exact val_leaf z4 rfl rfl
        · rw [upd_ne _ _ e]
          have : ¬ (Ix.t u = Ix.t t) := fun k => e (by cases k; rfl)
          simp only [this, if_false]
          exact keepV (h.tm u)
      · have : ¬ (Ix.b id = Ix.t t) := nofun
        simp only [this, if_false]
        exact RelR.keep (Ext.refl w) (Foot.sub_left _ _) (fun _ _ _ => rfl) _ (fun _ _ h => h) (fun _ _ _ => rfl) (Foot.Sub.refl _) (h.bl id x r hx hr)
    · cases hc; exact ⟨F, ρ, fam, hm, h⟩
  | frz id p =>
    simp only [hintW] at hc
    split at hc
    · cases hc; exact ⟨F, ρ, fam, hm, h⟩
    · rename_i c hcH
      split at hc
      · rename_i e sz nil n get hy
        split at hc <;> (try cases hc)
        rename_i c' hput
        simp only [Bool.and_eq_true] at hb
        have hcl := hp _ rfl
        cases hri : ρ id with
        | none => rw [(h.nm _).2 hri] at hcH; cases hcH
        | some r =>
          obtain ⟨xs, f, m1, m2, m3, m4⟩ : RelR F w ρ r c (fam (.b id)) := h.bl id c r hcH hri
          obtain ⟨q⟩ := nav_part p c (pathB_ok hb.1) hb.2 m1 hy
          obtain ⟨fz, fs, z1, z2, z3, z4⟩ := osl_freeze q.rel hcl
          obtain ⟨c2, e1, e2⟩ := q.put (F' := F.or fz) (w' := w) (ρ' := ρ) ⟨Ext.refl w, Foot.sub_left _ _, fun _ _ _ => rfl, fun _ _ h => h⟩ (fun _ _ _ => rfl) (.sl (some e) sz nil n fun i => (get i).demote) q.zs fs z4 rfl (q.off.mono z2 (Foot.Sub.refl _))
          rw [hput] at e1
          obtain rfl := Option.some.inj e1
          have hxs := q.eq
          let fr : Foot := fun g' o' => regionFoot r.1 r.2 xs.length g' o' ∨ (fs.or q.f2) g' o'
          have hrel2 : RelT (F.or fz) w ρ c' xs (fs.or q.f2) := by
            have := e2 (fs.or q.f2) (Foot.sub_left _ _) (Foot.sub_right _ _)
            rw [← hxs] at this
            exact this
          have hsub : (fs.or q.f2).Sub f := Foot.or_sub (z2.trans q.sub1) q.sub2
          have hreg : Region w fr r.1 r.2 xs := ⟨m2.reads, m2.free, fun j hj => .inl ⟨rfl, by omega, by omega⟩⟩
          have hR : RelR (F.or fz) w ρ r c' fr := relR_of hrel2 hreg (fun _ _ h => .inr h) (m4.mono hsub (Foot.Sub.refl _))
          have hregs : (regionFoot r.1 r.2 xs.length).Sub (fam (.b id)) := by
            rintro g' o' ⟨rfl, h1, h2⟩
            have := m2.own (o' - r.2) (by omega)
            rwa [Nat.add_sub_cancel' h1] at this
          have hzf : fz.Sub (fam (.b id)) := (z1.trans q.sub1).trans m3
          have hfr : fr.Sub (fam (.b id)) := fun g' o' h => h.elim (hregs g' o') fun h => m3 g' o' (hsub g' o' h)
          refine ⟨F.or fz, ρ, fun i => if i = .b id then fr else fam i, hm.more h hzf, h.less (Foot.sub_left _ _) (fun i => ?_) (fun i => ?_) (fun u => ?_) (fun i => ?_) (fun i x r' hx hr => ?_)⟩
          · by_cases e : i = .b id
            · subst e; simp only [if_true]; exact hfr
            · simp only [e, if_false]; exact Foot.Sub.refl _
          · by_cases e : i = .b id
            · subst e
              simp only [if_true]
              rintro g o k (k' | k')
              · exact h.offF _ g o (hfr g o k) k'
              · rcases k with k | k | k
                · exact m4 g o (q.sub1 g o (z1 g o k')) k
                · exact z3 g o k k'
                · exact q.off g o (z1 g o k') k
            · simp only [e, if_false]
              rintro g o k (k' | k')
              · exact h.offF _ g o k k'
              · exact h.off i (.b id) e g o k (hzf g o k')
          · have : ¬ (Ix.t u = Ix.b id) := nofun
            simp only [this, if_false]
            exact keepV (h.tm u)
          · show updH s.H id (some c') i = none ↔ _
            by_cases e : i = id
            · subst e; rw [updH_same, hri]; simp
            · rw [updH_ne _ _ e]; exact h.nm i
          · have hx : updH s.H id (some c') i = some x := hx
            by_cases e : i = id
            · subst e
              rw [updH_same] at hx
              obtain rfl := Option.some.inj hx
              rw [hri] at hr
              obtain rfl := Option.some.inj hr
              simp only [if_true]
              exact hR
            · rw [updH_ne _ _ e] at hx
              have : ¬ (Ix.b i = Ix.b id) := fun k => e (by cases k; rfl)
              simp only [this, if_false]
              exact RelR.keep (Ext.refl w) (Foot.sub_left _ _) (fun _ _ _ => rfl) _ (fun _ _ h => h) (fun _ _ _ => rfl) (Foot.Sub.refl _) (h.bl i x r' hx hr)
      · cases hc; exact ⟨F, ρ, fam, hm, h⟩
theorem hint_inv {nt : Nat} {a : Act} {l : List Rec} {x : Hint} {b : Bool} {p : Option Prop} {s' : St} (hI : Inv Γ nt s a w) (hc : hintW s l x = some (b, p, s')) (hb : b = true) (hp : ∀ q, p = some q → q) : Inv Γ nt s' a w := by
  obtain ⟨h1, h2, F, ρ, fam, hm, hs⟩ := hI
  obtain ⟨F', ρ', fam', hm', h3⟩ := hintW_ok hm hs hc hb hp
  exact ⟨h1, h2, F', ρ', fam', hm', h3⟩
theorem hint_kn {kn : Nat → Option Bool} {l : List Rec} {x : Hint} {b : Bool} {p : Option Prop} {s' : St} (hk : KnOK kn s.tm) (hc : hintW s l x = some (b, p, s')) : KnOK kn s'.tm := by
  have kb : ∀ {t : Nat} {b : Bool} {f : Nat → V} {id : Id}, f t = .bool b → (f t).kill id = .bool b := fun h => by rw [h]; rfl
  have key : ∀ (id : Id) (f : Nat → V) (H : Id → Option V), (∀ t b, s.tm t = .bool b → f t = .bool b) → KnOK kn (killS s id f H).tm := fun id f H hf t b ht => kb (hf t b (hk t b ht))
  have updk : ∀ {t : Nat} {y : V}, (∀ b, s.tm t ≠ .bool b) → ∀ u b, s.tm u = .bool b → upd s.tm t y u = .bool b := by
    intro t y hn u b hu
    by_cases e : u = t
    · subst e; exact absurd hu (hn b)
    · rw [upd_ne _ _ e]; exact hu
  have closed : ∀ {id : Id} {z : V} {r : Rec}, closeS s id z r = some (b, p, s') → KnOK kn s'.tm := by
    intro id z r hc
    unfold closeS at hc
    split at hc
    · cases hc
    obtain ⟨_, hc'⟩ := cond_some hc
    split at hc'
    · split at hc'
      · split at hc'
        · split at hc'
          · cases hc'; exact key _ _ _ fun _ _ h => h
          · cases hc'
        · cases hc'
      · cases hc'
    · split at hc'
      · obtain ⟨_, hc2⟩ := cond_some hc'
        split at hc2
        · cases hc2; exact key _ _ _ fun _ _ h => h
        · cases hc2
      · cases hc'
  have sealed : ∀ (t : Nat) (id : Id) (y : V), s.tm t = y → (∀ b, y ≠ .bool b) → (match s.H id with
      | some z => match closeV id z y with
        | some (b, y') => cond id.isLoc (some (b, none, killS s id (upd s.tm t y') s.H)) none
        | none => none
      | none => none) = some (b, p, s') → KnOK kn s'.tm := by
    intro t id y hy hn hc
    split at hc
    · split at hc
      · obtain ⟨_, hc'⟩ := cond_some hc
        cases hc'
        exact key _ _ _ (updk (by rw [hy]; exact hn))
      · cases hc
    · cases hc
  cases x with
  | close id =>
    simp only [hintW] at hc
    split at hc
    · cases hc; exact hk
    · split at hc
      · obtain ⟨_, hc'⟩ := cond_some hc
        exact closed hc'
      · cases hc
  | back id =>
    simp only [hintW] at hc
    split at hc
    · cases hc; exact hk
    · rename_i z hz
      split at hc
      · rename_i r hr
        obtain ⟨_, hc'⟩ := cond_some hc
        unfold backV at hc'
        split at hc'
        · obtain ⟨_, hc'⟩ := cond_some hc'
          split at hc'
          · obtain ⟨_, hc'⟩ := cond_some hc'
            split at hc' <;> (try cases hc')
            exact key _ _ _ fun _ _ h => h
          · obtain ⟨_, hc'⟩ := cond_some hc'
            split at hc' <;> (try cases hc')
            exact key _ _ _ fun _ _ h => h
          · cases hc'
        · exact closed hc'
      · cases hc
  | drop id =>
    simp only [hintW] at hc
    split at hc
    · cases hc; exact hk
    · obtain ⟨_, hc'⟩ := cond_some hc
      cases hc'
      exact key _ _ _ fun _ _ h => h
  | shut t =>
    simp only [hintW] at hc
    split at hc
    · rename_i id ht; exact sealed t id _ ht nofun (by rw [← ht]; exact hc)
    · rename_i id e sz nil n ht; exact sealed t id _ ht nofun (by rw [← ht]; exact hc)
    · cases hc; exact hk
  | open_ t =>
    simp only [hintW] at hc
    split at hc
    · rename_i nil z ht
      split at hc
      · cases hc
      · cases hc
        exact fun u b hu => updk (by rw [ht]; exact nofun) u b (hk u b hu)
    · rename_i e sz nil n get ht
      split at hc
      · cases hc
      · cases hc
        exact fun u b hu => updk (by rw [ht]; exact nofun) u b (hk u b hu)
    · cases hc; exact hk
  | opn id p d =>
    simp only [hintW] at hc
    split at hc
    · cases hc; exact hk
    · split at hc
      · split at hc <;> (try cases hc)
        exact hk
      · split at hc <;> (try cases hc)
        exact hk
      · cases hc; exact hk
  | frz id p =>
    simp only [hintW] at hc
    split at hc
    · cases hc; exact hk
    · split at hc
      · split at hc <;> (try cases hc)
        exact hk
      · cases hc; exact hk
  | frzT t =>
    simp only [hintW] at hc
    split at hc
    · rename_i e sz nil n get ht
      cases hc
      exact fun u b hu => updk (by rw [ht]; exact nofun) u b (hk u b hu)
    · cases hc; exact hk
  | nilS => cases hc; exact hk
theorem nilB_ok {x : Hint} {s' : St} (hx : nilB x s = some (true, s')) (h : Stand Γ F w ρ fam s vs) : Stand Γ F w ρ fam s' vs := by
  unfold nilB at hx
  split at hx <;> (try cases hx)
  rename_i s0 t
  split at hx <;> (try cases hx)
  rename_i z ht
  refine ⟨fun u => ?_, h.nm, h.bl, h.off, h.offF, h.new, h.lt, h.pn⟩
  show RelV F w ρ (upd s.tm t .nilp u) _ _
  by_cases e : u = t
  · subst e
    have h1 := h.tm u
    rw [ht] at h1
    rw [upd_same]
    have h2 := inv_leaf h1 rfl rfl
    simp only [RelT] at h2
    obtain ⟨A, h3, h4, _⟩ := h2
    rw [h4 (by first | rfl | trivial)] at h3
    simp only [List.cons.injEq, and_true] at h3
    rw [h3]
    exact ⟨nofun, fun _ => by simp only [RelT]⟩
  · rw [upd_ne _ _ e]; exact h.tm u
theorem nilB_kn {kn : Nat → Option Bool} {x : Hint} {b : Bool} {s' : St} (hx : nilB x s = some (b, s')) (hk : KnOK kn s.tm) : KnOK kn s'.tm := by
  unfold nilB at hx
  split at hx <;> (try cases hx)
  rename_i s0 t
  split at hx <;> (try cases hx)
  rename_i z ht
  intro u c hu
  have h1 := hk u c hu
  by_cases e : u = t
  · subst e; rw [ht] at h1; cases h1
  · show upd s.tm t .nilp u = _
    rw [upd_ne _ _ e]; exact h1
end
end Go.Vm
end
