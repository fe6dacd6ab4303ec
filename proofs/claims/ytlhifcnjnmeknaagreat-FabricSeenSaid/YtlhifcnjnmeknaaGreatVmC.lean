/- Of an abstract machine over the model, part C: no statement is proved here. -/
import Derived.Test.YtlhifcnjnmeknaaGreatVmB
import Derived.KernelRfl
import Derived.ChangeKeysEq
import Derived.Deep.Slices
import Derived.OpenShut
import Derived.ChangeCalls
import Derived.ProofKit
noncomputable section
section
namespace Go.Vm
open Go
structure Mk (P : Program) (E : Env) (Γ : Ctx) (Φ : List V → Act → World → Prop) : Prop where
 mixed : P.follows .mixedOrders = true
 fin : ∀ s r, (E.fin s).DP r → ∀ a w, Inv Γ E.nt s a w → Φ r a w
 cut : ∀ id K f, E.cut id = some (K, f) → ∀ s r, (f s).DP r → ∀ a w, Inv Γ E.nt s a w → Ax P K (Φ r) a w
 call : ∀ o s ct, E.call o s = some ct → ct.need = true → ct.side → ∀ y, ct.run y → over s (ct.next y) ct.fx = ct.next y ∧ (ct.fx.kh = [] ∧ ct.fx.kt = []) ∧
  ∀ ops i gs, ops[i]? = some o → EZ ops E.nt Γ s o gs true → CX P ops (Inv Γ E.nt) i s (ct.next y) (ct.fx.with gs)
section
variable {P : Program} {E : Env} {Γ : Ctx} {Φ : List V → Act → World → Prop}
theorem NS (hE : Mk P E Γ Φ) {ops : Array Oper} {i : Nat} {o : Oper} (ho : ops[i]? = some o) {gs : List Nat} {want : Bool} {c : Pb} {k : St → Fx → List Rec → Tree} {r : List V} (hw : EZ ops E.nt Γ c.s o gs want)
 (hkn : Fe c.kn c.s.tm) (h : (NT P E o gs want c k).DP r) : ∃ s' fx, CX P ops (Inv Γ E.nt) i c.s s' fx ∧ over c.s s' fx = s' ∧ ((∀ t ∈ fx.kh, GX (s'.H t) (c.s.H t)) ∧ ∀ t ∈ fx.kt, Cs (s'.tm t) (c.s.tm t)) ∧ ∃ rs, (k s' fx rs).DP r := by
 cases want with
 | false =>
   simp only [NT] at h
   cases hd : DV E.nt o
   · rw [hd] at h; exact h.elim
   · rw [hd] at h; exact ⟨_, _, OS ho hw hd, OT, ⟨(fun _ h => by cases h), (fun _ h => by cases h)⟩, _, h⟩
 | true =>
   simp only [NT] at h
   cases hcl : QV o
   · rw [hcl] at h
     simp only at h
     cases he : Cg P E.pol c.kn o c.s with
     | none => rw [he] at h; exact h.elim
     | some e =>
       rw [he] at h
       simp only at h
       cases hb : (Iz E.nt o e && e.take.all fun t => Dr t (C3 o))
       · rw [hb] at h; exact h.elim
       · rw [hb, cond_true] at h
         simp only [Bool.and_eq_true] at hb
         obtain ⟨hn, h⟩ := C7 h
         have hov : over c.s (A3 o c.s e) (EP E.pol gs o c.s e) = A3 o c.s e := (ID (pol := E.pol) fun _ _ => rfl).symm
         cases hs : e.side with
         | none =>
           rw [hs] at h
           exact ⟨_, _, L7 ho hw hkn he hb.1 hb.2 hn (fun p hp => by rw [hs] at hp; cases hp), hov, ⟨KL he, JF he⟩, _, h⟩
         | some p =>
           rw [hs] at h
           exact ⟨_, _, L7 ho hw hkn he hb.1 hb.2 hn (fun q hq => by rw [hs] at hq; cases hq; exact h.1), hov, ⟨KL he, JF he⟩, _, h.2⟩
   · rw [hcl] at h
     simp only at h
     cases hc : E.call o c.s with
     | none => rw [hc] at h; exact h.elim
     | some ct =>
       rw [hc] at h
       obtain ⟨hnd, hs, y, hy, h⟩ := C7 h
       obtain ⟨h1, h3, h2⟩ := hE.call o c.s ct hc hnd hs y hy
       exact ⟨_, _, h2 ops i gs ho hw, h1, ⟨(fun t ht => by have : t ∈ ct.fx.kh := ht; rw [h3.1] at this; cases this), (fun t ht => by have : t ∈ ct.fx.kt := ht; rw [h3.2] at this; cases this)⟩, _, h⟩
theorem O5 {kn : Nat → Option Bool} {s s' : St} {fx : Fx} (h : Fe kn s.tm) (he : over s s' fx = s') : Fe (K1 kn fx) s'.tm := by
 intro t b ht
 simp only [K1] at ht
 cases hm : Dr t fx.wt
 · rw [hm] at ht
   rw [← he]
   simp only [over, hm, cond_false]
   exact h t b ht
 · rw [hm] at ht; cases ht
theorem Kj {kn : Nat → Option Bool} {tm : Nat → V} {d : Nat} {v b : Bool} (h : Fe kn tm) (hd : tm d = .bool v) (hv : v = b) : Fe (Cp kn d (some b)) tm := by
 intro t b' ht
 by_cases e : t = d
 · subst e; rw [BD] at ht; cases ht; rw [hd, hv]
 · rw [Bg _ _ e] at ht; exact h t b' ht
def Good (P : Program) (E : Env) (Γ : Ctx) (Φ : List V → Act → World → Prop) (c : Pb) (r : List V) : Prop :=
 match c.I5 with
 | some (all, draw, i) => i ≤ all.size → ∃ s' l, Tr (CX P all (Inv Γ E.nt)) i c.s l s' ∧ i + l.length = all.size ∧ (draw = true → ES all (c.fx.reverse ++ l.map (·.1)) = true) ∧
    ∀ a w, Inv Γ E.nt s' a w → Ax P c.K (Φ r) a w
 | none => ∀ a w, Inv Γ E.nt c.s a w → Ax P c.K (Φ r) a w
theorem O8 {nt : Nat} {s : St} {a : Act} {w : World} (h : Inv Γ nt s a w) : Inv Γ nt s a { w with drawn := w.drawn + 1 } := by
 obtain ⟨h1, h2, F, ρ, fam, hm, hs⟩ := h
 obtain ⟨k1, k2⟩ := hs.drew hm
 exact ⟨h1, h2, F, ρ, fam, k1, k2⟩
theorem MX (hE : Mk P E Γ Φ) {c : Pb} {r : List V} {id : Nat} {ops : Array Oper} {draw : Bool} {K : List Item} (h : Good P E Γ Φ { c with I5 := some (ops, draw, 0), K := K, fx := [] } r) :
 ∀ a w, Inv Γ E.nt c.s a w → Ax P (.code (.region id ops draw) :: K) (Φ r) a w := by
 intro a w hI
 obtain ⟨s', l, h1, h2, h3, h4⟩ := h (Nat.zero_le _)
 cases draw with
 | true => exact Rr hE.mixed h1 (by simpa using h2) (by simpa using h3 rfl) h4 (O8 hI)
 | false =>
   refine .region ?_
   have := OV h4 h1 h2 hI
   rw [List.range_eq_range', ← (by simpa using h2 : l.length = ops.size)]
   exact this
theorem KT {nt : Nat} {s : St} {a : Act} {w : World} {t : Nat} {v : Bool} (hI : Inv Γ nt s a w) (h : s.tm t = .bool v) : a.eval (.tmp t) = .bool v := by
 obtain ⟨_, _, F, ρ, fam, hm, hs⟩ := hI
 have := Ab hs (.tmp t)
 simp only [AO, h] at this
 exact Cz this
theorem Dt {nt : Nat} {a : Act} {w : World} {G : Prop} : ∀ {l : List Hint} {c : Pb} {k : Pb → Tree} {r : List V}, Inv Γ nt c.s a w → Fe c.kn c.s.tm → (hints l c k).DP r →
 (∀ c', c'.I5 = c.I5 → c'.K = c.K → Inv Γ nt c'.s a w → Fe c'.kn c'.s.tm → (k c').DP r → G) → G := by
 intro l
 induction l with
 | nil => intro c k r hI hkn h hk; exact hk c rfl rfl hI hkn h
 | cons x l ih =>
   intro c k r hI hkn h hk
   simp only [hints] at h
   split at h
   · rename_i b p s' hw
     obtain ⟨hb, hp, h⟩ := C7 h
     exact ih (c := { c with s := s', rs := Np c.s x ++ c.rs }) (MK hI hw hb (fun q hq => by cases hq; exact hp)) (N0 hkn hw) h (fun c' e1 e2 => hk c' e1 e2)
   · rename_i b s' hw
     obtain ⟨hb, h⟩ := C7 h
     exact ih (c := { c with s := s', rs := Np c.s x ++ c.rs }) (MK hI hw hb (fun q hq => by cases hq)) (N0 hkn hw) h (fun c' e1 e2 => hk c' e1 e2)
   · exact h.elim
theorem KW (hE : Mk P E Γ Φ) : ∀ (n : Nat) (c : Pb) (r : List V), (den P E n c).DP r → Fe c.kn c.s.tm → Good P E Γ Φ c r := by
 intro n
 induction n with
 | zero => intro c r h; exact h.elim
 | succ n ih =>
   intro c r h hkn
   obtain ⟨I5, K, s, kn, fx, rs⟩ := c
   cases I5 with
   | some p =>
     obtain ⟨all, draw, i⟩ := p
     simp only [Good]
     intro hi
     simp only [den] at h
     cases ho : all[i]? with
     | none =>
       rw [ho] at h
       simp only at h
       have hie : i = all.size := by have := Array.getElem?_eq_none_iff.1 ho; omega
       cases hb : (!draw || ES all fx.reverse)
       · rw [hb] at h; exact h.elim
       · rw [hb, cond_true] at h
         refine ⟨s, [], .nil, by simpa using hie, fun hd => ?_, ih _ r h hkn⟩
         subst hd
         simpa using hb
     | some o =>
       rw [ho] at h
       simp only at h
       have hlt := (Array.getElem?_eq_some_iff.1 ho).1
       have more : ∀ gs want, EZ all E.nt Γ s o gs want → (NT P E o gs want ⟨some (all, draw, i), K, s, kn, fx, rs⟩ (fun s fx' rs => den P E n { I5 := some (all, draw, i + 1), K := K, s := s, kn := K1 kn fx', fx := fx' :: fx, rs := rs })).DP r →
        ∃ s' l, Tr (CX P all (Inv Γ E.nt)) i s l s' ∧ i + l.length = all.size ∧ (draw = true → ES all (fx.reverse ++ l.map (·.1)) = true) ∧ ∀ a w, Inv Γ E.nt s' a w → Ax P K (Φ r) a w := by
        intro gs want hw hg
        obtain ⟨s', fx', h1, h2, hv, rs', h3⟩ := NS hE ho hw hkn hg
        have := ih _ r h3 (O5 hkn h2)
        simp only [Good] at this
        obtain ⟨s'', l, k1, k2, k3, k4⟩ := this (by omega)
        refine ⟨s'', (fx', s') :: l, .cons h1 h2 hv k1, by rw [List.length_cons]; omega, fun hd => ?_, k4⟩
        have := k3 hd
        simpa using this
       cases hga : K4 all o with
       | none => rw [hga] at h; exact h.elim
       | some g =>
         rw [hga] at h
         unfold K4 at hga
         cases hgd : o.guard with
         | none =>
           rw [hgd] at hga
           obtain rfl := (Option.some.inj hga).symm
           exact more [] true (Lb hgd) h
         | some jw =>
           obtain ⟨j, want⟩ := jw
           rw [hgd] at hga
           simp only at hga
           cases hd : (all[j]?).bind (·.dst) with
           | none => rw [hd] at hga; cases hga
           | some d =>
             rw [hd] at hga
             obtain rfl := (Option.some.inj hga).symm
             simp only at h
             cases hkd : kn d with
             | some b =>
               rw [hkd] at h
               exact more [d] (b == want) (ON hgd hd (hkn d b hkd)) h
             | none =>
               rw [hkd] at h
               simp only at h
               cases hv : s.tm d <;> rw [hv] at h <;> (try exact h.elim)
               case CG v =>
                cases v <;> (try exact h.elim)
                exact more [d] false (La hgd hd hv) h
               rename_i v
               cases v with
               | true =>
                 have := ih _ r ((FU h).1 rfl) (Kj hkn hv rfl)
                 simp only [Good] at this
                 exact this hi
               | false =>
                 have := ih _ r ((FU h).2 rfl) (Kj hkn hv rfl)
                 simp only [Good] at this
                 exact this hi
   | none =>
     simp only [Good]
     intro a w hI
     simp only [den] at h
     have go : ∀ (K' : List Item), (den P E n ⟨none, K', s, kn, fx, rs⟩).DP r → Ax P K' (Φ r) a w := fun K' h => (ih ⟨none, K', s, kn, fx, rs⟩ r h hkn : Good P E Γ Φ ⟨none, K', s, kn, fx, rs⟩ r) a w hI
     cases K with
     | nil => exact .nil (Dt hI hkn h fun c' _ _ hI' hk' h' => hE.fin c'.s r h' a w hI')
     | cons it K =>
       cases it with
       | inLoop b => exact .inLoop (go _ h)
       | inBlock id => exact .inBlock (go _ h)
       | inScope b => exact .inScope (go _ h)
       | code cd =>
         cases cd with
         | ret => exact .ret (Dt hI hkn h fun c' _ _ hI' hk' h' => hE.fin c'.s r h' a w hI')
         | skip => exact .skip (go _ h)
         | seq x y => exact .seq (go _ h)
         | block id b => exact .block (go _ h)
         | loop b => exact .loop (go _ h)
         | scope b => exact .scope (go _ h)
         | label l => exact .label (go _ h)
         | exit id =>
           simp only at h
           cases he : exitTo id K with
           | none => rw [he] at h; exact h.elim
           | some K' => rw [he] at h; exact .exit he (go _ h)
         | cond x y z =>
           cases x with
           | tmp t =>
             simp only at h
             cases hkt : kn t with
             | some v =>
               rw [hkt] at h
               have e : (if v = true then y else z) = cond v y z := by cases v <;> rfl
               exact .cond (KT hI (hkn t v hkt)) (by rw [e]; exact go _ h)
             | none =>
               rw [hkt] at h
               simp only at h
               cases hv : s.tm t <;> rw [hv] at h <;> (try exact h.elim)
               rename_i v
               refine .cond (KT hI hv) ?_
               cases v with
               | true => exact (ih ⟨none, _, s, Cp kn t (some true), fx, rs⟩ r ((FU h).1 rfl) (Kj hkn hv rfl) : Good P E Γ Φ ⟨none, _, s, Cp kn t (some true), fx, rs⟩ r) a w hI
               | false => exact (ih ⟨none, _, s, Cp kn t (some false), fx, rs⟩ r ((FU h).2 rfl) (Kj hkn hv rfl) : Good P E Γ Φ ⟨none, _, s, Cp kn t (some false), fx, rs⟩ r) a w hI
           | _ => exact h.elim
         | region id ops draw =>
           simp only at h
           refine Dt hI hkn h fun c' e1 e2 hI' hk' h' => ?_
           obtain ⟨reg', K', s', kn', fx', rs'⟩ := c'
           simp only at e1 e2
           subst e1 e2
           cases hc : E.cut id with
           | some p =>
             obtain ⟨K', f⟩ := p
             rw [hc] at h'
             obtain ⟨hK, h'⟩ := h'
             rw [hK]
             exact hE.cut id K' f hc s' r h' a w hI'
           | none =>
             rw [hc] at h'
             refine Dt hI' hk' h' fun c' e1 e2 hI2 hk2 h2 => ?_
             obtain ⟨reg2, K2, s2, kn2, fx2, rs2⟩ := c'
             exact MX hE (c := ⟨none, K, s2, kn2, fx2, rs2⟩) (ih ⟨some (ops, draw, 0), K, s2, kn2, [], rs2⟩ r h2 hk2) a w hI2
         | _ => exact h.elim
       | _ => exact h.elim
theorem NU (hE : Mk P E Γ Φ) {n : Nat} {c : Pb} {r : List V} (h : (Sg P E n c).DP r) (hkn : Fe c.kn c.s.tm) (hreg : c.I5 = none) : ∀ a w, Inv Γ E.nt c.s a w → Ax P c.K (Φ r) a w := by
 obtain ⟨I5, K, s, kn, fx, rs⟩ := c
 simp only at hreg
 subst hreg
 unfold Sg at h
 split at h
 · rename_i id ops draw K' hK
   simp only at hK
   subst hK
   intro a w hI
   refine Dt hI hkn h fun c' e1 e2 hI2 hk2 h2 => ?_
   obtain ⟨reg2, K2, s2, kn2, fx2, rs2⟩ := c'
   exact MX hE (c := ⟨none, K', s2, kn2, fx2, rs2⟩) (KW hE n _ r h2 hk2) a w hI2
 · exact (KW hE n _ r h hkn : Good P E Γ Φ ⟨none, K, s, kn, fx, rs⟩ r)
end
end Go.Vm
end
section
namespace Go.Vm
open Go
def Be.same : Be → Be → Bool
 | .BN j d, .BN j' d' => Nat.beq j j' && Nat.beq d d'
 | _, _ => false
def strip : List Be → List Be → Option (List Be)
 | [], q => some q
 | s :: p, t :: q => cond (s.same t) (strip p q) none
 | _ :: _, [] => none
def look : List (Id × List Be) → Nat → Id → List Be → Option (Nat × List Be)
 | [], _, _, _ => none
 | (id, p) :: σ, i, id', q => cond (id.same id') (match strip p q with | some r => some (i, r) | none => look σ (i + 1) id' q) (look σ (i + 1) id' q)
def V.Am (σ : List (Id × List Be)) : V → V
 | .ptr id p => match look σ 0 id p with | some (i, q) => .ptr (.par i) q | none => .undef
 | .own id p s N off len => match look σ 0 id p with | some (i, q) => .own (.par i) q s N off len | none => .undef
 | .cons x r => .cons (Am σ x) (Am σ r)
 | .arr s n get => .arr s n fun i => Am σ (get i)
 | .CG x => .CG (Am σ x)
 | .fn f c => .fn f (Am σ c)
 | .iface t x => .iface t (Am σ x)
 | .BQ id e s nil n => match look σ 0 id [] with | some (i, []) => .BQ (.par i) e s nil n | _ => .undef
 | .Aa nil x => .Aa nil (Am σ x)
 | .Aq e s nil n get => .Aq e s nil n fun i => Am σ (get i)
 | x => x
def V.DU (σ : List (Id × List Be)) : V → V
 | .ptr (.par i) q => match σ[i]? with | some (id, p) => .ptr id (p ++ q) | none => .undef
 | .ptr (.loc _ _) _ => .undef
 | .own (.par i) q s N off len => match σ[i]? with | some (id, p) => .own id (p ++ q) s N off len | none => .undef
 | .own (.loc _ _) _ _ _ _ _ => .undef
 | .cons x r => .cons (DU σ x) (DU σ r)
 | .arr s n get => .arr s n fun i => DU σ (get i)
 | .CG x => .CG (DU σ x)
 | .fn f c => .fn f (DU σ c)
 | .iface t x => .iface t (DU σ x)
 | .BQ (.par i) e s nil n => match σ[i]? with | some (id, []) => .BQ id e s nil n | _ => .undef
 | .BQ (.loc _ _) _ _ _ _ => .undef
 | .Aa nil x => .Aa nil (DU σ x)
 | .Aq e s nil n get => .Aq e s nil n fun i => DU σ (get i)
 | x => x
theorem Be.RD {s t : Be} (h : s.same t = true) : s = t := by
 cases s <;> cases t <;> simp [Be.same] at h
 obtain ⟨rfl, rfl⟩ := h
 rfl
theorem Po : ∀ {p q r : List Be}, strip p q = some r → q = p ++ r := by
 intro p
 induction p with
 | nil => intro q r h; simp [strip] at h; simp [h]
 | cons s p ih =>
   intro q r h
   cases q with
   | nil => simp [strip] at h
   | cons t q =>
     simp only [strip] at h
     obtain ⟨h1, h2⟩ := AG h
     rw [Be.RD h1, ih h2]
     rfl
theorem look_eq : ∀ {σ : List (Id × List Be)} {b : Nat} {id : Id} {q : List Be} {i : Nat} {r : List Be}, look σ b id q = some (i, r) → ∃ j p, i = b + j ∧ σ[j]? = some (id, p) ∧ q = p ++ r := by
 intro σ
 induction σ with
 | nil => intro b id q i r h; simp [look] at h
 | cons x σ ih =>
   obtain ⟨id0, p0⟩ := x
   intro b id q i r h
   have next : look σ (b + 1) id q = some (i, r) → ∃ j p, i = b + j ∧ ((id0, p0) :: σ)[j]? = some (id, p) ∧ q = p ++ r := by
    intro h
    obtain ⟨j, p, h1, h2, h3⟩ := ih h
    exact ⟨j + 1, p, by omega, by simpa using h2, h3⟩
   simp only [look] at h
   cases hs : id0.same id
   · rw [hs] at h; exact next h
   · rw [hs, cond_true] at h
     cases hst : strip p0 q with
     | none => rw [hst] at h; exact next h
     | some r' =>
       rw [hst] at h
       simp only [Option.some.injEq, Prod.mk.injEq] at h
       obtain ⟨rfl, rfl⟩ := h
       exact ⟨0, p0, rfl, by rw [(Id.BI _ _).1 hs]; rfl, Po hst⟩
theorem HR (σ : List (Id × List Be)) (x : V) : (x.Am σ).agg = x.agg := by
 cases x <;> simp only [V.Am] <;> (try rfl)
 · split <;> rfl
 · split <;> rfl
 · split <;> rfl
theorem Kp (σ : List (Id × List Be)) (x : V) : (x.DU σ).agg = x.agg := by
 cases x <;> (try rfl)
 · rename_i id p
   cases id
   · simp only [V.DU]; split <;> rfl
   · rfl
 · rename_i id p s N off len
   cases id
   · simp only [V.DU]; split <;> rfl
   · rfl
 · rename_i id e s nil n
   cases id
   · simp only [V.DU]; split <;> rfl
   · rfl
section
variable {F : AE} {w : World} {σ : List (Id × List Be)} {ρ ρ' : Names}
theorem OP (h : ∀ (i : Nat) (id : Id) (p : List Be), σ[i]? = some (id, p) → ∀ a, ρ id = some a → ρ' (.par i) = some (a.1, a.2 + AW p)) :
 ∀ (x : V) {cs : List Value} {fp : AE}, AF F w ρ x cs fp → AF F w ρ' (x.Am σ) cs fp := by
 intro x
 induction x with
 | ptr id p =>
   intro cs fp hx
   simp only [AF] at hx
   obtain ⟨g, o, h1, h2, rfl⟩ := hx
   simp only [V.Am]
   split
   · rename_i i q hl
     obtain ⟨j, p', rfl, h3, rfl⟩ := look_eq hl
     rw [Nat.zero_add]
     refine ⟨g, o + AW p', h j id p' h3 (g, o) h1, fun s hs => h2 s (by simp [hs]), ?_⟩
     rw [Bn, Nat.add_assoc]
   · exact ⟨_, rfl, rfl⟩
 | own id p s N off len =>
   intro cs fp hx
   simp only [AF] at hx
   obtain ⟨g, o, c, A, h1, h2, rfl, h4⟩ := hx
   simp only [V.Am]
   split
   · rename_i i q hl
     obtain ⟨j, p', rfl, h3, rfl⟩ := look_eq hl
     rw [Nat.zero_add]
     refine ⟨g, o + AW p', c, A, h j id p' h3 (g, o) h1, fun s hs => h2 s (by simp [hs]), rfl, h4.1, h4.2.1, h4.2.2.1, fun h5 => ?_⟩
     rw [h4.2.2.2 h5, Bn]
     congr 2
     omega
   · exact ⟨_, rfl, rfl⟩
 | cons x r hx hr =>
   intro cs fp h0
   simp only [AF, V.Am] at h0 ⊢
   obtain ⟨a, b, fa, fb, h1, h2, h3, h4⟩ := h0
   exact ⟨a, b, fa, fb, h1, hx h2, hr h3, h4⟩
 | arr s n get ih =>
   intro cs fp h0
   simp only [AF, V.Am] at h0 ⊢
   obtain ⟨f, fs, h1, h2, h3⟩ := h0
   exact ⟨f, fs, fun i hi => ⟨(h1 i hi).1, ih i (h1 i hi).2.1, (h1 i hi).2.2⟩, h2, h3⟩
 | fn f c ih => intro cs fp h0; simp only [AF, V.Am] at h0 ⊢; obtain ⟨xs, h1, h2⟩ := h0; exact ⟨xs, h1, ih h2⟩
 | iface t x ih =>
   intro cs fp h0
   simp only [AF, V.Am] at h0 ⊢
   obtain ⟨xs, v, h1, h2, h3, h4⟩ := h0
   exact ⟨xs, v, h1, ih h2, by rw [HR]; exact h3, by rw [HR]; exact h4⟩
 | CG => intro cs fp h0; simp [AF] at h0
 | Aa nil x ih =>
   intro cs fp h0
   simp only [AF, V.Am] at h0 ⊢
   obtain ⟨A, h1, h2, h3⟩ := h0
   refine ⟨A, h1, h2, fun hn => ?_⟩
   obtain ⟨g, o, xs, f, k1, k2, k3⟩ := h3 hn
   exact ⟨g, o, xs, f, k1, ih k2, k3⟩
 | Aq e s nil n get ih =>
   intro cs fp h0
   simp only [AF, V.Am] at h0 ⊢
   obtain ⟨A, c, h1, h2, h3, h4, h5⟩ := h0
   refine ⟨A, c, h1, h2, h3, h4, fun hn => ?_⟩
   obtain ⟨g, o, k1, k2, k3, xs, f, fs, k4, k5, k6, k7⟩ := h5 hn
   exact ⟨g, o, k1, k2, k3, xs, f, fs, k4, k5, fun i hi => ⟨(k6 i hi).1, ih i (k6 i hi).2.1, (k6 i hi).2.2⟩, k7⟩
 | BQ id e s nil n =>
   intro cs fp hx
   simp only [AF] at hx
   obtain ⟨g, o, A, c, h1, rfl, h4⟩ := hx
   simp only [V.Am]
   split
   · rename_i i hl
     obtain ⟨j, p', rfl, h3, h5⟩ := look_eq hl
     rw [Nat.zero_add]
     obtain ⟨rfl, _⟩ := List.append_eq_nil_iff.1 h5.symm
     have := h j id [] h3 (g, o) h1
     exact ⟨g, o, A, c, by simpa [AW] using this, rfl, h4⟩
   · exact ⟨_, rfl, rfl⟩
 | undef | int | bool | str | B8 | unit | Eo | Cy | vp | sl => intro cs fp h0; simpa only [AF, V.Am] using h0
theorem RI (h : ∀ (i : Nat) (id : Id) (p : List Be), σ[i]? = some (id, p) → ∀ a, ρ' (.par i) = some a → CV p ∧ ∃ b, ρ id = some b ∧ a = (b.1, b.2 + AW p)) :
 ∀ (x : V) {cs : List Value} {fp : AE}, AF F w ρ' x cs fp → AF F w ρ (x.DU σ) cs fp := by
 intro x
 induction x with
 | ptr id p =>
   intro cs fp hx
   simp only [AF] at hx
   obtain ⟨g, o, h1, h2, rfl⟩ := hx
   cases id with
   | loc => exact ⟨_, rfl, rfl⟩
   | par i =>
     simp only [V.DU]
     split
     · rename_i id p' hl
       obtain ⟨h3, ⟨g', o'⟩, h4, h5⟩ := h i id p' hl _ h1
       cases h5
       refine ⟨g', o', h4, fun s hs => ?_, ?_⟩
       · rcases List.mem_append.1 hs with hs | hs
         · exact h3 s hs
         · exact h2 s hs
       · rw [Bn, Nat.add_assoc]
     · exact ⟨_, rfl, rfl⟩
 | own id p s N off len =>
   intro cs fp hx
   simp only [AF] at hx
   obtain ⟨g, o, c, A, h1, h2, rfl, k1, k2, k3, k4⟩ := hx
   cases id with
   | loc => exact ⟨_, rfl, rfl⟩
   | par i =>
     simp only [V.DU]
     split
     · rename_i id p' hl
       obtain ⟨h3, ⟨g', o'⟩, h4, h5⟩ := h i id p' hl _ h1
       cases h5
       refine ⟨g', o', c, A, h4, fun s hs => ?_, rfl, k1, k2, k3, fun h5 => ?_⟩
       · rcases List.mem_append.1 hs with hs | hs
         · exact h3 s hs
         · exact h2 s hs
       · rw [k4 h5, Bn]
         congr 2
         omega
     · exact ⟨_, rfl, rfl⟩
 | cons x r hx hr =>
   intro cs fp h0
   simp only [AF, V.DU] at h0 ⊢
   obtain ⟨a, b, fa, fb, h1, h2, h3, h4⟩ := h0
   exact ⟨a, b, fa, fb, h1, hx h2, hr h3, h4⟩
 | arr s n get ih =>
   intro cs fp h0
   simp only [AF, V.DU] at h0 ⊢
   obtain ⟨f, fs, h1, h2, h3⟩ := h0
   exact ⟨f, fs, fun i hi => ⟨(h1 i hi).1, ih i (h1 i hi).2.1, (h1 i hi).2.2⟩, h2, h3⟩
 | fn f c ih => intro cs fp h0; simp only [AF, V.DU] at h0 ⊢; obtain ⟨xs, h1, h2⟩ := h0; exact ⟨xs, h1, ih h2⟩
 | iface t x ih =>
   intro cs fp h0
   simp only [AF, V.DU] at h0 ⊢
   obtain ⟨xs, v, h1, h2, h3, h4⟩ := h0
   exact ⟨xs, v, h1, ih h2, by rw [Kp]; exact h3, by rw [Kp]; exact h4⟩
 | CG => intro cs fp h0; simp [AF] at h0
 | Aa nil x ih =>
   intro cs fp h0
   simp only [AF, V.DU] at h0 ⊢
   obtain ⟨A, h1, h2, h3⟩ := h0
   refine ⟨A, h1, h2, fun hn => ?_⟩
   obtain ⟨g, o, xs, f, k1, k2, k3⟩ := h3 hn
   exact ⟨g, o, xs, f, k1, ih k2, k3⟩
 | Aq e s nil n get ih =>
   intro cs fp h0
   simp only [AF, V.DU] at h0 ⊢
   obtain ⟨A, c, h1, h2, h3, h4, h5⟩ := h0
   refine ⟨A, c, h1, h2, h3, h4, fun hn => ?_⟩
   obtain ⟨g, o, k1, k2, k3, xs, f, fs, k4, k5, k6, k7⟩ := h5 hn
   exact ⟨g, o, k1, k2, k3, xs, f, fs, k4, k5, fun i hi => ⟨(k6 i hi).1, ih i (k6 i hi).2.1, (k6 i hi).2.2⟩, k7⟩
 | BQ id e s nil n =>
   intro cs fp hx
   simp only [AF] at hx
   obtain ⟨g, o, A, c, h1, rfl, h4⟩ := hx
   cases id with
   | loc => exact ⟨_, rfl, rfl⟩
   | par i =>
     simp only [V.DU]
     split
     · rename_i id hl
       obtain ⟨h3, ⟨g', o'⟩, h5, h6⟩ := h i id [] hl _ h1
       simp only [AW, Nat.add_zero, Prod.mk.injEq] at h6
       obtain ⟨rfl, rfl⟩ := h6
       exact ⟨g, o, A, c, h5, rfl, h4⟩
     · exact ⟨_, rfl, rfl⟩
 | undef | int | bool | str | B8 | unit | Eo | Cy | vp | sl => intro cs fp h0; simpa only [AF, V.DU] using h0
end
end Go.Vm
end
section
namespace Go.Vm
open Go
section
variable {F : AE} {w : World} {σ : List (Id × List Be)} {ρ ρ' : Names}
structure IW (F : AE) (w : World) (ρ ρ' : Names) (T : V → V) : Prop where
 rel : ∀ (x : V) {cs : List Value} {fp : AE}, AF F w ρ x cs fp → AF F w ρ' (T x) cs fp
 agg : ∀ x, (T x).agg = x.agg
 undef : T .undef = .undef
 CG : ∀ x, T (.CG x) = .CG (T x)
 unit : T .unit = .unit
 cons : ∀ x r, T (.cons x r) = .cons (T x) (T r)
theorem Mv (h : ∀ (i : Nat) (id : Id) (p : List Be), σ[i]? = some (id, p) → ∀ a, ρ id = some a → ρ' (.par i) = some (a.1, a.2 + AW p)) : IW F w ρ ρ' (V.Am σ) :=
 ⟨OP h, HR σ, rfl, fun _ => rfl, rfl, fun _ _ => rfl⟩
theorem Ph (h : ∀ (i : Nat) (id : Id) (p : List Be), σ[i]? = some (id, p) → ∀ a, ρ' (.par i) = some a → CV p ∧ ∃ b, ρ id = some b ∧ a = (b.1, b.2 + AW p)) : IW F w ρ' ρ (V.DU σ) :=
 ⟨RI h, Kp σ, rfl, fun _ => rfl, rfl, fun _ _ => rfl⟩
variable {T : V → V}
theorem IW.Sx (hT : IW F w ρ ρ' T) {x : V} {v : Value} {fp : AE} (h : A1 F w ρ x v fp) : A1 F w ρ' (T x) v fp :=
 ⟨fun ha => let ⟨cs, h1, h2⟩ := h.1 (by rwa [hT.agg] at ha); ⟨cs, h1, hT.rel x h2⟩, fun ha => hT.rel x (h.2 (by rwa [hT.agg] at ha))⟩
theorem IW.relL (hT : IW F w ρ ρ' T) : ∀ {x : V} {vs : List Value} {fp : AE}, DO F w ρ x vs fp → DO F w ρ' (T x) vs fp := by
 intro x
 induction x with
 | cons x r _ ih =>
   intro vs fp h
   rw [hT.cons]
   simp only [DO] at h ⊢
   obtain ⟨v, vs', fa, fb, h1, h2, h3, h4⟩ := h
   exact ⟨v, vs', fa, fb, h1, hT.Sx h2, ih h3, h4⟩
 | unit => intro vs fp h; rw [hT.unit]; exact h
 | _ => intro vs fp h; exact h.elim
theorem Hz {x : V} {v : Value} {fp : AE} (h : A1 F w ρ x v fp) : ∀ y, x ≠ .CG y := by
 rintro y rfl
 have := h.2 rfl
 simp [AF] at this
theorem IW.SH (hT : IW F w ρ ρ' T) {x : V} {v : Value} {fp : AE} (h : Ag F w ρ x v fp) : Ag F w ρ' (T x) v fp := by
 have key : A1 F w ρ x v fp → Ag F w ρ' (T x) v fp := by
  intro h1
  have h2 := hT.Sx h1
  cases hTx : T x with
  | undef => trivial
  | CG y => exact absurd hTx (Hz h2 y)
  | _ => rw [hTx] at h2; exact h2
 cases x with
 | undef => rw [hT.undef]; trivial
 | CG y => rw [hT.CG]; obtain ⟨vs, h1, h2⟩ := h; exact ⟨vs, h1, hT.relL h2⟩
 | _ => exact key h
theorem IW.RJ (hT : IW F w ρ ρ' T) {a : Nat × Nat} {x : V} {fp : AE} (h : Br F w ρ a x fp) : Br F w ρ' a (T x) fp := by
 have key : (∃ xs f, AF F w ρ x xs f ∧ Region w fp a.1 a.2 xs ∧ f.Sub fp ∧ f.DS (AS a.1 a.2 xs.length)) → Br F w ρ' a (T x) fp := by
  rintro ⟨xs, f, h1, h2, h3, h4⟩
  exact Ec (hT.rel x h1) h2 h3 h4
 exact key h
end
end Go.Vm
end
section
namespace Go.Vm
open Go
inductive Sh where
 | any
 | cp
 | sl (tok : Option TypeId) (s : Nat) (d : V)
 | Aq (e : TypeId) (s : Nat) (d : V)
 | box (d : V)
 | cons (a b : Sh)
def PS (tok : Option TypeId) (s : Nat) (d : V) (t0 : Option TypeId) (s0 : Nat) (nil : Bool) (n : Nat) (get : Nat → V) : Bool × V :=
 match s0 with
 | 0 => (nil, .sl tok s nil n fun _ => d)
 | s0 => match tok, t0 with
   | none, _ => (true, .sl none s0 nil n get)
   | some _, some e => (true, .sl (some e) s0 nil n get)
   | some e, none => (nil, .sl (some e) s0 nil n fun _ => d)
def Ka (e : TypeId) (s : Nat) (d : V) (s0 : Nat) (nil : Bool) (n : Nat) (_get : Nat → V) : Bool × V :=
 match s0 with
 | 0 => (nil, .Aq e s nil n fun _ => d)
 | s0 => (nil, .Aq e s0 nil n fun _ => d)
def Sh.as : Sh → V → Bool × V
 | .any, v => (true, v)
 | .cp, v => (true, v.AL)
 | .sl tok s d, .sl t0 s0 nil n get => PS tok s d t0 s0 nil n get
 | .Aq e s d, .sl _ s0 nil n get => Ka e s d s0 nil n get
 | .box d, .B8 => (true, .Aa true d)
 | .cons a b, .cons x r => ((a.as x).1 && (b.as r).1, .cons (a.as x).2 (b.as r).2)
 | _, v => (true, v)
theorem LL (tok : Option TypeId) (s : Nat) (d : V) (t0 : Option TypeId) (s0 : Nat) (nil : Bool) (n : Nat) (get : Nat → V) : ∃ tok' s' get', (PS tok s d t0 s0 nil n get).2 = .sl tok' s' nil n get' ∧
 ((PS tok s d t0 s0 nil n get).1 = true → nil = true ∨ (s' = s0 ∧ get' = get ∧ (tok' = none ∨ tok' = t0))) := by
 unfold PS
 split
 · exact ⟨_, _, _, rfl, fun h => .inl h⟩
 · split
   · exact ⟨_, _, _, rfl, fun _ => .inr ⟨rfl, rfl, .inl rfl⟩⟩
   · exact ⟨_, _, _, rfl, fun _ => .inr ⟨rfl, rfl, .inr rfl⟩⟩
   · exact ⟨_, _, _, rfl, fun h => .inl h⟩
theorem Jl (e : TypeId) (s : Nat) (d : V) (s0 : Nat) (nil : Bool) (n : Nat) (get : Nat → V) : ∃ s' get', (Ka e s d s0 nil n get).2 = .Aq e s' nil n get' ∧ ((Ka e s d s0 nil n get).1 = true → nil = true) := by
 unfold Ka
 split
 · exact ⟨_, _, rfl, fun h => h⟩
 · exact ⟨_, _, rfl, fun h => h⟩
theorem Qv : ∀ (sh : Sh) (x : V), (sh.as x).2.agg = x.agg := by
 intro sh
 cases sh with
 | any => intro x; rfl
 | cp => intro x; exact V.Cj x
 | sl tok s d =>
   intro x
   cases x <;> (try rfl)
   rename_i t0 s0 nil n get
   obtain ⟨_, _, _, h, _⟩ := LL tok s d t0 s0 nil n get
   show (PS tok s d t0 s0 nil n get).2.agg = _
   rw [h]; rfl
 | Aq e s d =>
   intro x
   cases x <;> (try rfl)
   rename_i t0 s0 nil n get
   obtain ⟨_, _, h, _⟩ := Jl e s d s0 nil n get
   show (Ka e s d s0 nil n get).2.agg = _
   rw [h]; rfl
 | box d => intro x; cases x <;> rfl
 | cons a b => intro x; cases x <;> rfl
theorem Rv : ∀ (sh : Sh) (x : V), (sh.as x).2.size = x.size := by
 intro sh
 induction sh with
 | any => intro x; rfl
 | cp => intro x; exact V.Eg x
 | sl tok s d =>
   intro x
   cases x <;> (try rfl)
   rename_i t0 s0 nil n get
   obtain ⟨_, _, _, h, _⟩ := LL tok s d t0 s0 nil n get
   show (PS tok s d t0 s0 nil n get).2.size = _
   rw [h]; rfl
 | Aq e s d =>
   intro x
   cases x <;> (try rfl)
   rename_i t0 s0 nil n get
   obtain ⟨_, _, h, _⟩ := Jl e s d s0 nil n get
   show (Ka e s d s0 nil n get).2.size = _
   rw [h]; rfl
 | box d => intro x; cases x <;> rfl
 | cons a b iha ihb =>
   intro x
   cases x <;> (try rfl)
   simp only [Sh.as, V.size, iha, ihb]
section
variable {F : AE} {w : World} {ρ : Names}
theorem Nc : ∀ (sh : Sh) (x : V) {cs : List Value} {fp : AE}, (sh.as x).1 = true → AF F w ρ x cs fp → AF F w ρ (sh.as x).2 cs fp := by
 intro sh
 induction sh with
 | any => intro x cs fp _ h; exact h
 | cp => intro x cs fp _ h; exact h.AL.mono (AE.AU _)
 | sl tok s d =>
   intro x cs fp hb h
   cases x with
   | sl t0 s0 nil n get =>
     obtain ⟨tok', s', get', h1, h2⟩ := LL tok s d t0 s0 nil n get
     have e : ((Sh.sl tok s d).as (.sl t0 s0 nil n get)).2 = .sl tok' s' nil n get' := h1
     rw [e]
     simp only [AF] at h ⊢
     obtain ⟨A, c, k1, k2, k3, k4, k5⟩ := h
     rcases h2 hb with rfl | ⟨rfl, rfl, ht⟩
     · exact ⟨A, c, k1, k2, k3, k4, nofun⟩
     · refine ⟨A, c, k1, k2, k3, k4, fun hn => ?_⟩
       obtain ⟨g, o, q, m1, mq, m2, m3⟩ := k5 hn
       refine ⟨g, o, q, m1, mq, fun e0 he => ?_, m3⟩
       rcases ht with rfl | rfl
       · cases he
       · exact m2 e0 he
   | _ => exact h
 | Aq e s d =>
   intro x cs fp hb h
   cases x with
   | sl t0 s0 nil n get =>
     obtain ⟨s', get', h1, h2⟩ := Jl e s d s0 nil n get
     have e1 : ((Sh.Aq e s d).as (.sl t0 s0 nil n get)).2 = .Aq e s' nil n get' := h1
     rw [e1]
     obtain rfl := h2 hb
     simp only [AF] at h ⊢
     obtain ⟨A, c, k1, k2, k3, k4, _⟩ := h
     exact ⟨A, c, k1, k2, k3, k4, nofun⟩
   | _ => exact h
 | box d =>
   intro x cs fp _ h
   cases x with
   | B8 => simp only [Sh.as, AF] at h ⊢; exact ⟨none, h, fun _ => rfl, nofun⟩
   | _ => exact h
 | cons a b iha ihb =>
   intro x cs fp hb h
   cases x with
   | cons x r =>
     simp only [Sh.as, Bool.and_eq_true] at hb
     simp only [Sh.as, AF] at h ⊢
     obtain ⟨p, q, fa, fb, h1, h2, h3, h4⟩ := h
     exact ⟨p, q, fa, fb, h1, iha x hb.1 h2, ihb r hb.2 h3, h4⟩
   | _ => exact h
theorem Kr {T : V → V} {ρ' : Names} (hr : ∀ (x : V) {cs : List Value} {fp : AE}, AF F w ρ x cs fp → AF F w ρ' (T x) cs fp) (ha : ∀ x, (T x).agg = x.agg) {x : V} {v : Value} {fp : AE} (h : A1 F w ρ x v fp) :
 A1 F w ρ' (T x) v fp :=
 ⟨fun e => let ⟨cs, h1, h2⟩ := h.1 (by rwa [ha] at e); ⟨cs, h1, hr x h2⟩, fun e => hr x (h.2 (by rwa [ha] at e))⟩
theorem I3 {x : V} {v : Value} {fp : AE} (h : A1 F w ρ x v fp) : Ag F w ρ x v fp := by
 cases x with
 | undef => trivial
 | CG y => exact absurd rfl (Hz h y)
 | _ => exact h
theorem OC {sh : Sh} {x : V} {v : Value} {fp : AE} (hb : (sh.as x).1 = true) (h : A1 F w ρ x v fp) : A1 F w ρ (sh.as x).2 v fp :=
 ⟨fun e => let ⟨cs, h1, h2⟩ := h.1 (by rwa [Qv] at e); ⟨cs, h1, Nc sh x hb h2⟩, fun e => Nc sh x hb (h.2 (by rwa [Qv] at e))⟩
theorem OB {sh : Sh} {x : V} {v : Value} {fp : AE} (hb : (sh.as x).1 = true) (h : Ag F w ρ x v fp) : Ag F w ρ (sh.as x).2 v fp := by
 cases x with
 | undef => cases sh <;> trivial
 | CG y =>
   cases sh with
   | cp => exact Ag.mono (Ag.AL h) (AE.AU _)
   | _ => exact h
 | _ => exact I3 (OC hb (by exact h))
theorem Ik {sh : Sh} {x : V} {a : Nat × Nat} {fp : AE} (hb : (sh.as x).1 = true) (h : Br F w ρ a x fp) : Br F w ρ a (sh.as x).2 fp := by
 obtain ⟨xs, f, h1, h2⟩ := h
 exact ⟨xs, f, Nc sh x hb h1, h2⟩
end
def B6 : List Sh → List V → Bool × List V
 | sh :: shs, v :: l => ((sh.as v).1 && (B6 shs l).1, (sh.as v).2 :: (B6 shs l).2)
 | _, l => (true, l)
theorem Dd : ∀ {l : List V} {shs : List Sh}, (B6 shs l).2.length = l.length ∧ ((B6 shs l).1 = true → ∀ (i : Nat) (v : V), l[i]? = some v → ∃ sh : Sh, (sh.as v).1 = true ∧ (B6 shs l).2[i]? = some (sh.as v).2) := by
 intro l
 induction l with
 | nil => intro shs; cases shs <;> exact ⟨rfl, fun _ i v h => by simp at h⟩
 | cons x l ih =>
   intro shs
   cases shs with
   | nil => exact ⟨rfl, fun _ i v h => ⟨.any, rfl, h⟩⟩
   | cons sh shs =>
     obtain ⟨k1, k2⟩ := ih (shs := shs)
     refine ⟨by simp [B6, k1], fun hb i v h => ?_⟩
     simp only [B6, Bool.and_eq_true] at hb
     cases i with
     | zero =>
       simp only [List.getElem?_cons_zero, Option.some.injEq] at h
       subst h
       exact ⟨sh, hb.1, rfl⟩
     | succ i => exact k2 hb.2 i v (by simpa using h)
end Go.Vm
end
section
namespace Go.Vm
open Go
def G3 (vs Gy : List V) : St where
 tm t := vs.getD t .undef
 H := fun | .par i => Gy[i]? | .loc _ _ => none
def EL : List V → List V → Bool
 | [], [] => true
 | x :: l, y :: m => y.one && (Nat.beq y.size x.size && EL l m)
 | _, _ => false
def OK (P : Program) (f : FuncId) (args Gy : List V) (res : V) (objs' : List V) : Prop :=
 EL Gy objs' = true ∧
 ∀ (Γ : Ctx) (ρ : Names) (fam : EF) (vals : Array Value), vals.size = args.length → Mem Γ Γ.w Γ.F → AY Γ Γ.F Γ.w ρ fam (G3 args Gy) vals →
   Calls P f vals Γ.w fun
    | .returned v, w' => ∃ F' ρ' fam', Mem Γ w' F' ∧ AY Γ F' w' ρ' fam' (G3 [res] objs') #[v]
    | _, _ => False
def partsOf (H : Id → Option V) : List (Id × List Be) → Option (Bool × List V)
 | [] => some (true, [])
 | (id, p) :: σ => match H id with
   | some c => match c.Dk p, partsOf H σ with
     | some y, some (b, l) => cond y.one (some (D5 p && c.fit p && b, y :: l)) none
     | _, _ => none
   | none => none
def Hf : List Id → Bool
 | [] => true
 | i :: l => !CJ i l && Hf l
end Go.Vm
end
section
namespace Go.Vm
open Go
section
variable {P : Program} {Γ : Ctx} {F : AE} {w : World} {ρ : Names} {fam : EF} {s : St} {a : Act}
structure Dw (F : AE) (w : World) (ρ : Names) (fb : AE) (id : Id) (p : List Be) (c y : V) where
 g : Nat
 o : Nat
 at_ : ρ id = some (g, o)
 xs : List Value
 f : AE
 rel : AF F w ρ c xs f
 I5 : Region w fb g o xs
 sub : f.Sub fb
 off : f.DS (AS g o xs.length)
 q : Part F w ρ xs f (AW p) y fun y' x' => c.put p y' = some x'
def Dw.Hk {fb : AE} {id : Id} {p : List Be} {c y : V} (k : Dw F w ρ fb id p c y) : AE :=
 fun g o => AS k.g (k.o + AW p) k.q.zs.length g o ∨ k.q.f1 g o
theorem QC (hs : AY Γ F w ρ fam s a.tmps) {id : Id} {p : List Be} {c y : V} (hc : s.H id = some c) (hy : c.Dk p = some y) (hfit : c.fit p = true) (hp : CV p) : Nonempty (Dw F w ρ (fam (.b id)) id p c y) := by
 cases hr : ρ id with
 | none => rw [(hs.nm id).2 hr] at hc; cases hc
 | some r =>
   obtain ⟨xs, f, h1, h2, h3, h4⟩ := hs.bl id c r hc hr
   obtain ⟨q⟩ := DI p c hp hfit h1 hy
   exact ⟨⟨r.1, r.2, hr, xs, f, h1, h2, h3, h4, q⟩⟩
variable {fb : AE} {id : Id} {p : List Be} {c y : V}
theorem Dw.reads (k : Dw F w ρ fb id p c y) : Reads w k.g (k.o + AW p) k.q.zs := by
 have hr := k.I5.reads
 have hxs := k.q.eq
 rw [hxs] at hr
 intro j u hu
 have := hr.part j u hu
 rwa [k.q.len] at this
theorem Dw.len (k : Dw F w ρ fb id p c y) : k.xs.length = AW p + k.q.zs.length + k.q.post.length := by
 have h := congrArg List.length k.q.eq
 rw [List.length_append, List.length_append, k.q.len] at h
 exact h
theorem Dw.region (k : Dw F w ρ fb id p c y) : Region w k.Hk k.g (k.o + AW p) k.q.zs where
 reads := k.reads
 free j hj := by
  have := k.I5.free (AW p + j) (by rw [k.len]; omega)
  rwa [← Nat.add_assoc] at this
 own j hj := .inl ⟨rfl, by omega, by omega⟩
theorem Dw.Qc (k : Dw F w ρ fb id p c y) : k.Hk.Sub fb := by
 rintro g o (⟨rfl, h1, h2⟩ | h)
 · have := k.I5.own (o - k.o) (by rw [k.len]; omega)
   rwa [Nat.add_sub_cancel' (by omega)] at this
 · exact k.sub g o (k.q.Cq g o h)
theorem Dw.RJ (k : Dw F w ρ fb id p c y) : Br F w ρ (k.g, k.o + AW p) y k.Hk := by
 refine Ec k.q.rel k.region (fun _ _ h => .inr h) ?_
 intro g o h ⟨h1, h2, h3⟩
 refine k.off g o (k.q.Cq g o h) ⟨h1, by omega, ?_⟩
 have := k.len
 simp only at h3
 omega
theorem Dw.back (k : Dw F w ρ fb id p c y) {F' : AE} {w' : World} {ρ' : Names} (L : F3 F w ρ F' w' ρ') (hkeep : ∀ g o, fb g o → ¬ k.Hk g o → w'.cell? ⟨g, o, none⟩ = w.cell? ⟨g, o, none⟩) {y' : V} {f' : AE}
 (hr : Br F' w' ρ' (k.g, k.o + AW p) y' f') (hsz : y'.size = y.size) (hoff : ∀ g o, f' g o → fb g o → k.Hk g o) :
 ∃ c', c.put p y' = some c' ∧ Br F' w' ρ' (k.g, k.o) c' fun g o => (fb g o ∧ ¬ k.Hk g o) ∨ f' g o := by
 obtain ⟨xs', f1, h1, h2, h3, h4⟩ := hr
 have hlen : xs'.length = k.q.zs.length := by rw [h1.length, hsz, k.q.rel.length]
 have hl := k.len
 have hf2 : ∀ g o, k.q.f2 g o → fb g o ∧ ¬ k.Hk g o := by
  intro g o h
  refine ⟨k.sub g o (k.q.DT g o h), ?_⟩
  rintro (⟨e1, e2, e3⟩ | h')
  · exact k.off g o (k.q.DT g o h) ⟨e1, by omega, by omega⟩
  · exact k.q.off g o h' h
 have hout : ∀ j, j < k.xs.length → (j < AW p ∨ AW p + k.q.zs.length ≤ j) → fb k.g (k.o + j) ∧ ¬ k.Hk k.g (k.o + j) := by
  intro j hj hout
  refine ⟨k.I5.own j hj, ?_⟩
  rintro (⟨_, e2, e3⟩ | h')
  · omega
  · exact k.off _ _ (k.q.Cq _ _ h') ⟨rfl, by omega, by omega⟩
 obtain ⟨c', e1, e2⟩ := k.q.put L (fun g o h => hkeep g o (hf2 g o h).1 (hf2 g o h).2) y' xs' f1 h1 hsz (fun g o a b => (hf2 g o b).2 (hoff g o (h3 g o a) (hf2 g o b).1))
 refine ⟨c', e1, ?_⟩
 have hxs := k.q.eq
 have hpl := k.q.len
 have hL : (k.q.pre ++ xs' ++ k.q.post).length = k.xs.length := by simp only [List.length_append]; omega
 have hcell : ∀ j, j < k.xs.length → (j < AW p ∨ AW p + k.q.zs.length ≤ j) → w'.cell? ⟨k.g, k.o + j, none⟩ = k.xs[j]? := by
  intro j hj ho
  obtain ⟨a1, a2⟩ := hout j hj ho
  rw [hkeep _ _ a1 a2, k.I5.reads j k.xs[j] (List.getElem?_eq_getElem hj), List.getElem?_eq_getElem hj]
 have hreg : Region w' (fun g o => (fb g o ∧ ¬ k.Hk g o) ∨ f' g o) k.g k.o (k.q.pre ++ xs' ++ k.q.post) := by
  have three : ∀ j, j < (k.q.pre ++ xs' ++ k.q.post).length → (j < AW p ∨ AW p + k.q.zs.length ≤ j) ∨ ∃ i, i < xs'.length ∧ j = AW p + i := by
   intro j hj
   by_cases a : j < AW p
   · exact .inl (.inl a)
   · by_cases b : AW p + k.q.zs.length ≤ j
     · exact .inl (.inr b)
     · exact .inr ⟨j - AW p, by omega, by omega⟩
  refine ⟨fun j u hu => ?_, fun j hj => ?_, fun j hj => ?_⟩
  · have hj := (List.getElem?_eq_some_iff.1 hu).1
    rcases three j hj with ho | ⟨i, hi, rfl⟩
    · rw [hcell j (by omega) ho]
      rw [hxs]
      rcases ho with ho | ho
      · rw [List.append_assoc, List.getElem?_append_left (by omega)] at hu ⊢
        exact hu
      · rw [List.getElem?_append_right (by rw [List.length_append]; omega)] at hu ⊢
        rw [List.length_append] at hu ⊢
        rw [← hu]; congr 1; omega
    · rw [List.append_assoc, List.getElem?_append_right (by omega), List.getElem?_append_left (by omega), hpl, Nat.add_sub_cancel_left] at hu
      rw [← Nat.add_assoc]
      exact h2.reads i u hu
  · rcases three j hj with ho | ⟨i, hi, rfl⟩
    · have hj' : j < k.xs.length := by omega
      rw [L.ext.frozen (k.I5.reads j _ (List.getElem?_eq_getElem hj'))]
      exact k.I5.free j hj'
    · rw [← Nat.add_assoc]; exact h2.free i hi
  · rcases three j hj with ho | ⟨i, hi, rfl⟩
    · exact .inl (hout j (by omega) ho)
    · rw [← Nat.add_assoc]; exact .inr (h2.own i hi)
 refine Ec (e2 (f1.or k.q.f2) (AE.Av _ _) (AE.Bl _ _)) hreg ?_ ?_
 · rintro g o (h | h)
   · exact .inr (h3 g o h)
   · exact .inl (hf2 g o h)
 · rintro g o (h | h) ⟨e1, e2, e3⟩
   · rw [hL] at e3
     by_cases a : k.o + AW p ≤ o ∧ o < k.o + AW p + xs'.length
     · exact h4 g o h ⟨e1, a.1, a.2⟩
     · have hh := hout (o - k.o) (by omega) (by omega)
       rw [Nat.add_sub_cancel' e2] at hh
       subst e1
       exact hh.2 (hoff _ _ (h3 _ _ h) hh.1)
   · rw [hL] at e3
     exact k.off g o (k.q.DT g o h) ⟨e1, e2, e3⟩
end
end Go.Vm
end
section
namespace Go.Vm
open Go
theorem P5 (σ : List (Id × List Be)) (x : V) : (x.DU σ).size = x.size := by
 induction x with
 | cons x r hx hr => simp only [V.DU, V.size, hx, hr]
 | ptr id p => cases id <;> simp only [V.DU] <;> (try split) <;> rfl
 | own id p s N off len => cases id <;> simp only [V.DU] <;> (try split) <;> rfl
 | BQ id e s nil n => cases id <;> simp only [V.DU] <;> (try split) <;> rfl
 | _ => rfl
theorem Mu (σ : List (Id × List Be)) (x : V) : (x.Am σ).size = x.size := by
 induction x with
 | cons x r hx hr => simp only [V.Am, V.size, hx, hr]
 | ptr id p => simp only [V.Am]; split <;> rfl
 | own id p s N off len => simp only [V.Am]; split <;> rfl
 | BQ id e s nil n => simp only [V.Am]; split <;> rfl
 | _ => rfl
theorem M6 : ∀ {l m : List V}, EL l m = true → l.length = m.length ∧ ∀ (i : Nat) (x : V), l[i]? = some x → ∃ y, m[i]? = some y ∧ y.size = x.size := by
 intro l
 induction l with
 | nil => intro m h; cases m <;> simp [EL] at h ⊢
 | cons a l ih =>
   intro m h
   cases m with
   | nil => simp [EL] at h
   | cons b m =>
     simp only [EL, Bool.and_eq_true] at h
     obtain ⟨k1, k2⟩ := ih h.2.2
     refine ⟨by simp [k1], fun i x hx => ?_⟩
     cases i with
     | zero => simp only [List.getElem?_cons_zero, Option.some.injEq] at hx; subst hx; exact ⟨b, rfl, Nat.eq_of_beq_eq_true h.2.1⟩
     | succ i => exact k2 i x (by simpa using hx)
def V.RP (c : V) (p : List Be) (v : V) : Option V := match p with
 | [] => some v
 | x :: p => c.put (x :: p) v
theorem V.Nr {c v c' : V} {p : List Be} (h : c.put p v = some c') : c.RP p v = some c' := by
 cases p with
 | nil => simp only [V.put] at h; exact (AG h).2
 | cons x p => exact h
def Ce (H : Id → Option V) : List (Id × List Be) → List V → Id → Option V
 | (id, p) :: σ, v :: vs => Bd (Ce H σ vs) id ((H id).bind fun c => c.RP p v)
 | _, _ => H
theorem Oq : ∀ {l : List Id}, Hf l = true → l.Nodup := by
 intro l
 induction l with
 | nil => intro _; exact List.nodup_nil
 | cons x l ih =>
   intro h
   simp only [Hf, Bool.and_eq_true, Bool.not_eq_true'] at h
   refine List.nodup_cons.2 ⟨fun hm => ?_, ih h.2⟩
   rw [BZ.2 hm] at h; cases h.1
theorem GY {H : Id → Option V} : ∀ {σ : List (Id × List Be)} {vs : List V} {id : Id}, id ∉ σ.map (·.1) → Ce H σ vs id = H id := by
 intro σ
 induction σ with
 | nil => intro vs id _; rfl
 | cons x σ ih =>
   obtain ⟨id0, p0⟩ := x
   intro vs id h
   cases vs with
   | nil => rfl
   | cons v vs =>
     simp only [List.map_cons, List.mem_cons, not_or] at h
     rw [Ce, BS _ _ h.1, ih h.2]
theorem KI {H : Id → Option V} : ∀ {σ : List (Id × List Be)} {vs : List V} {i : Nat} {id : Id} {p : List Be} {v : V}, (σ.map (·.1)).Nodup → σ[i]? = some (id, p) → vs[i]? = some v → Ce H σ vs id = (H id).bind fun c => c.RP p v := by
 intro σ
 induction σ with
 | nil => intro vs i id p v _ h; simp at h
 | cons x σ ih =>
   obtain ⟨id0, p0⟩ := x
   intro vs i id p v hn h hv
   rw [List.map_cons, List.nodup_cons] at hn
   cases vs with
   | nil => simp at hv
   | cons v0 vs =>
     rw [Ce]
     cases i with
     | zero =>
       simp only [List.getElem?_cons_zero, Option.some.injEq, Prod.mk.injEq] at h hv
       obtain ⟨rfl, rfl⟩ := h
       subst hv
       rw [Ay]
     | succ i =>
       simp only [List.getElem?_cons_succ] at h hv
       have hne : id ≠ id0 := by
        rintro rfl
        exact hn.1 (List.mem_map.2 ⟨_, List.mem_of_getElem? h, rfl⟩)
       rw [BS _ _ hne, ih hn.2 h hv]
theorem H2 {H : Id → Option V} : ∀ {σ : List (Id × List Be)} {b : Bool} {ys : List V}, partsOf H σ = some (b, ys) → ys.length = σ.length ∧
 (b = true → ∀ (i : Nat) (id : Id) (p : List Be), σ[i]? = some (id, p) → ∃ c y, H id = some c ∧ c.Dk p = some y ∧ ys[i]? = some y ∧ D5 p = true ∧ c.fit p = true) := by
 intro σ
 induction σ with
 | nil => intro b ys h; simp [partsOf] at h; obtain ⟨rfl, rfl⟩ := h; exact ⟨rfl, fun _ i id p h => by simp at h⟩
 | cons x σ ih =>
   obtain ⟨id0, p0⟩ := x
   intro b ys h
   simp only [partsOf] at h
   split at h <;> (try cases h)
   rename_i c hc
   split at h <;> (try cases h)
   rename_i y b' l hy hl
   obtain ⟨_, h'⟩ := AG h
   cases h'
   obtain ⟨k1, k2⟩ := ih hl
   refine ⟨by simp [k1], fun hb i id p hi => ?_⟩
   simp only [Bool.and_eq_true] at hb
   cases i with
   | zero =>
     simp only [List.getElem?_cons_zero, Option.some.injEq, Prod.mk.injEq] at hi
     obtain ⟨rfl, rfl⟩ := hi
     exact ⟨c, y, hc, hy, rfl, hb.1.1, hb.1.2⟩
   | succ i => exact k2 hb.2 i id p (by simpa using hi)
theorem F9 {σ : List (Id × List Be)} (hn : (σ.map (·.1)).Nodup) {i j : Nat} {id : Id} {p q : List Be} (hi : σ[i]? = some (id, p)) (hj : σ[j]? = some (id, q)) : i = j := by
 have h1 : (σ.map (·.1))[i]? = some id := by rw [List.getElem?_map, hi]; rfl
 have h2 : (σ.map (·.1))[j]? = some id := by rw [List.getElem?_map, hj]; rfl
 have l1 := (List.getElem?_eq_some_iff.1 h1).1
 exact (List.getElem?_inj l1 hn).1 (h1.trans h2.symm)
def GV (s : St) (dst : Option Nat) (tk : List Nat) (σ : List (Id × List Be)) (res : V) (outs : List V) : St where
 tm := match dst with
  | some t => Cp (takes s.tm tk) t (res.DU σ)
  | none => takes s.tm tk
 H := Ce s.H σ (outs.map (V.DU σ))
section
variable {P : Program} {Γ : Ctx} {F : AE} {w : World} {ρ : Names} {fam : EF} {s : St} {a : Act}
theorem Rx {x : Operand} {v : V} {val : Value} (h : Ag F w ρ v val (En fam x)) : Ag F w ρ v val (if v.Cf = true then En fam x else none_) := by
 cases ht : v.Cf
 · simp only [Bool.false_eq_true, if_false]
   exact h.Dh ht
 · simpa using h
def Ru (fam : EF) (s : St) (xs : List Operand) (n : Nat) (pf : Nat → AE) : EF
 | .t k => match xs[k]? with
   | some x => if (AO s.tm x).Cf = true then En fam x else none_
   | none => none_
 | .b (.par i) => if i < n then pf i else none_
 | .b (.loc _ _) => none_
theorem pieces (hs : AY Γ F w ρ fam s a.tmps) {σ : List (Id × List Be)} {ys : List V} (hp : partsOf s.H σ = some (true, ys)) :
 ∃ (pf : Nat → AE) (ad : Nat → Nat × Nat), ∀ (i : Nat) (id : Id) (p : List Be), σ[i]? = some (id, p) → ∃ c y, ∃ k : Dw F w ρ (fam (.b id)) id p c y, s.H id = some c ∧ ys[i]? = some y ∧ pf i = k.Hk ∧ ad i = (k.g, k.o + AW p) ∧ CV p := by
 have h : ∀ i : Nat, ∃ fa : AE × (Nat × Nat), ∀ (id : Id) (p : List Be), σ[i]? = some (id, p) → ∃ c y, ∃ k : Dw F w ρ (fam (.b id)) id p c y, s.H id = some c ∧ ys[i]? = some y ∧ fa.1 = k.Hk ∧ fa.2 = (k.g, k.o + AW p) ∧ CV p := by
  intro i
  cases hi : σ[i]? with
  | none => exact ⟨(none_, 0, 0), fun _ _ h => by cases h⟩
  | some x =>
    obtain ⟨id, p⟩ := x
    obtain ⟨c, y, h1, h2, h3, h4, h5⟩ := (H2 hp).2 rfl i id p hi
    obtain ⟨k⟩ := QC (a := a) hs h1 h2 h5 (E1 h4)
    exact ⟨(k.Hk, (k.g, k.o + AW p)), fun id' p' h => by cases h; exact ⟨c, y, k, h1, h3, rfl, rfl, E1 h4⟩⟩
 obtain ⟨f, hf⟩ := Classical.axiomOfChoice h
 exact ⟨fun i => (f i).1, fun i => (f i).2, hf⟩
open Classical in
theorem N9 (hm : Mem Γ w F) (hs : AY Γ F w ρ fam s a.tmps) {f : FuncId} {xs : List Operand} {σ : List (Id × List Be)} {ys : List V} {res : V} {outs : List V} {dst : Option Nat}
 (hn : FL (xs.flatMap fun x => Ah x (AO s.tm x)) = true) (hσ : Hf (σ.map (·.1)) = true) (hp : partsOf s.H σ = some (true, ys)) (hd : ∀ d, dst = some d → d < a.tmps.size)
 {ex : List V} {exv : List Value} (hex : ex.length = exv.length ∧ ∀ (j : Nat) (x : V) (v : Value), ex[j]? = some x → exv[j]? = some v → Ag F w ρ x v none_)
 {ash osh : List Sh} (hash : (B6 ash (xs.map (AO s.tm))).1 = true) (hosh : (B6 osh ys).1 = true)
 (hok : OK P f ((B6 ash (xs.map (AO s.tm))).2.map (V.Am σ) ++ ex.map (V.Am σ)) ((B6 osh ys).2.map (V.Am σ)) res outs) :
 Calls P f (xs.map a.eval ++ exv).toArray w fun
  | .returned v, w' => ∃ F' fam', Mem Γ w' F' ∧ AY Γ F' w' ρ fam' (GV s dst (xs.flatMap fun x => Ah x (AO s.tm x)) σ res outs) (a.put dst v).tmps
  | _, _ => False := by
 have hnd := GA hn
 have hnσ := Oq hσ
 obtain ⟨pf, ad, hpc⟩ := pieces hs hp
 have hylen := (H2 hp).1
 generalize htk : (xs.flatMap fun x => Ah x (AO s.tm x)) = tk at hnd ⊢
 let cf := Ru fam s xs σ.length pf
 let ρ' : Names := fun | .par i => if i < σ.length then some (ad i) else none | .loc _ _ => none
 let Γ' : Ctx := { w := w, F := F, fp := fun g o => ∃ j, cf j g o, par := fun i => ρ' (.par i) }
 have hσi : ∀ i : Nat, i < σ.length → ∃ (id : Id) (p : List Be), σ[i]? = some (id, p) := fun i hi => ⟨σ[i].1, σ[i].2, List.getElem?_eq_getElem hi⟩
 have hlt : ∀ {i : Nat} {x : Id × List Be}, σ[i]? = some x → i < σ.length := fun h => (List.getElem?_eq_some_iff.1 h).1
 -- whence a cell that is handed over comes
 have from_ : ∀ {j : Ix} {g o : Nat}, cf j g o → (∃ (k : Nat) (x : Operand) (u : Nat), xs[k]? = some x ∧ x = .tmp u ∧ (AO s.tm x).Cf = true ∧ j = .t k ∧ fam (.t u) g o) ∨ (∃ (i : Nat) (id : Id) (p : List Be), σ[i]? = some (id, p) ∧ pf i g o ∧ fam (.b id) g o ∧ j = .b (.par i)) := by
  intro j g o h
  cases j with
  | t k =>
    have h : (match xs[k]? with | some x => if (AO s.tm x).Cf = true then En fam x else none_ | none => none_) g o := h
    cases hx : xs[k]? with
    | none => rw [hx] at h; exact h.elim
    | some x =>
      rw [hx] at h
      simp only at h
      split at h
      · rename_i ht
        cases x with
        | tmp u => exact .inl ⟨k, _, u, hx, rfl, ht, rfl, h⟩
        | _ => exact h.elim
      · exact h.elim
  | b id =>
    cases id with
    | loc => exact h.elim
    | par i =>
      have h : (if i < σ.length then pf i else none_) g o := h
      split at h
      · rename_i hi
        obtain ⟨id, p, hip⟩ := hσi i hi
        obtain ⟨c, y, k, _, _, e1, _⟩ := hpc i id p hip
        refine .inr ⟨i, id, p, hip, h, ?_, rfl⟩
        rw [e1] at h
        exact k.Qc g o h
      · exact h.elim
 have inTk : ∀ {k : Nat} {x : Operand} {u : Nat}, xs[k]? = some x → x = .tmp u → (AO s.tm x).Cf = true → u ∈ tk := by
  intro k x u h1 h2 h3
  rw [← htk]
  refine List.mem_flatMap.2 ⟨x, List.mem_of_getElem? h1, ?_⟩
  subst h2
  simp [Ah, h3, Cr]
 have fam_of : ∀ {j g o}, cf j g o → ∃ i, fam i g o := fun h => by
  rcases from_ h with ⟨_, _, u, _, _, _, _, h⟩ | ⟨_, id, _, _, _, h, _⟩
  · exact ⟨_, h⟩
  · exact ⟨_, h⟩
 have hsame : ∀ (k k' : Nat) (x x' : Operand) (u : Nat), xs[k]? = some x → xs[k']? = some x' → x = .tmp u → x' = .tmp u → (AO s.tm x).Cf = true → k = k' := by
  intro k k' x x' u h1 h2 e1 e2 ht
  subst e1
  subst e2
  by_cases hkk : k = k'
  · exact hkk
  · exfalso
    have : ∀ (l : List Operand) (k k' : Nat), k < k' → l[k]? = some (.tmp u) → l[k']? = some (.tmp u) → (l.flatMap fun x => Ah x (AO s.tm x)).Nodup → False := by
     intro l
     induction l with
     | nil => intro k k' _ h; simp at h
     | cons y l ih =>
       intro k k' hlt h1 h2 hnd
       rw [List.flatMap_cons] at hnd
       obtain ⟨n1, n2, n3⟩ := List.nodup_append.1 hnd
       cases k' with
       | zero => omega
       | succ k' =>
         cases k with
         | zero =>
           simp only [List.getElem?_cons_zero, Option.some.injEq] at h1
           subst h1
           refine n3 u (by simp [Ah, ht, Cr]) u ?_ rfl
           refine List.mem_flatMap.2 ⟨_, List.mem_of_getElem? (by simpa using h2), by simp [Ah, ht, Cr]⟩
         | succ k => exact ih k k' (by omega) (by simpa using h1) (by simpa using h2) n2
    rw [← htk] at hnd
    rcases Nat.lt_or_gt_of_ne hkk with h | h
    · exact this xs k k' h h1 h2 hnd
    · exact this xs k' k h h2 h1 hnd
 have hun : IW F w ρ ρ' (V.Am σ) := Mv fun i id p hi b hb => by
  obtain ⟨c, y, k, _, _, _, e2, _⟩ := hpc i id p hi
  rw [k.at_] at hb
  obtain rfl := Option.some.inj hb
  show (if i < σ.length then some (ad i) else none) = _
  rw [if_pos (hlt hi), e2]
 have hst : AY Γ' F w ρ' cf (G3 ((B6 ash (xs.map (AO s.tm))).2.map (V.Am σ) ++ ex.map (V.Am σ)) ((B6 osh ys).2.map (V.Am σ))) (xs.map a.eval ++ exv).toArray := by
  refine ⟨fun t => ?_, fun id => ?_, fun id x r h1 h2 => ?_, fun j j' hj g o h1 h2 => ?_, fun j g o h1 h2 => ?_, fun j g o h1 => .inr ⟨j, h1⟩, fun j g o h1 => ?_, fun i => rfl⟩
  · show Ag F w ρ' (((B6 ash (xs.map (AO s.tm))).2.map (V.Am σ) ++ ex.map (V.Am σ)).getD t .undef) ((xs.map a.eval ++ exv).toArray.getD t Go.undef) (cf (.t t))
    rw [Array.getD_eq_getD_getElem?, List.getElem?_toArray, List.getD_eq_getElem?_getD]
    cases hx : xs[t]? with
    | none =>
      have hle : xs.length ≤ t := List.getElem?_eq_none_iff.1 hx
      have hal : (B6 ash (xs.map (AO s.tm))).2.length = xs.length := by rw [Dd.1, List.length_map]
      rw [List.getElem?_append_right (by simpa [hal] using hle), List.getElem?_append_right (by simpa using hle), List.length_map, List.length_map, hal, List.getElem?_map]
      cases hj : ex[t - xs.length]? with
      | none => trivial
      | some y =>
        have hj2 : t - xs.length < exv.length := by rw [← hex.1]; exact (List.getElem?_eq_some_iff.1 hj).1
        have hv := List.getElem?_eq_getElem hj2
        rw [hv]
        exact (hun.SH (hex.2 _ _ _ hj hv)).mono (AE.AU _)
    | some x =>
      have hlt' : t < xs.length := (List.getElem?_eq_some_iff.1 hx).1
      have hal : (B6 ash (xs.map (AO s.tm))).2.length = xs.length := by rw [Dd.1, List.length_map]
      obtain ⟨sh, k1, k2⟩ := Dd.2 hash t (AO s.tm x) (by rw [List.getElem?_map, hx]; rfl)
      rw [List.getElem?_append_left (by simpa [hal] using hlt'), List.getElem?_append_left (by simpa using hlt'), List.getElem?_map, List.getElem?_map, hx, k2]
      have h1 := hun.SH (OB k1 (Rx (Ab hs x)))
      have : cf (.t t) = if (AO s.tm x).Cf = true then En fam x else none_ := by
       show (match xs[t]? with | some x => if (AO s.tm x).Cf = true then En fam x else none_ | none => none_) = _
       rw [hx]
      rw [this]
      exact h1
  · cases id with
    | loc => exact ⟨fun _ => rfl, fun _ => rfl⟩
    | par i =>
      show ((B6 osh ys).2.map (V.Am σ))[i]? = none ↔ (if i < σ.length then some (ad i) else none) = none
      rw [List.getElem?_eq_none_iff, List.length_map, Dd.1, hylen]
      by_cases h : i < σ.length
      · simp [h]
      · simp [h]; omega
  · cases id with
    | loc => cases h2
    | par i =>
      have h1 : ((B6 osh ys).2.map (V.Am σ))[i]? = some x := h1
      have h2 : (if i < σ.length then some (ad i) else none) = some r := h2
      rw [List.getElem?_map, Option.map_eq_some_iff] at h1
      obtain ⟨y, hy, rfl⟩ := h1
      split at h2
      · rename_i hi
        obtain rfl := Option.some.inj h2
        obtain ⟨id, p, hip⟩ := hσi i hi
        obtain ⟨c, y', k, _, e0, e1, e2, _⟩ := hpc i id p hip
        obtain ⟨sh, q1, q2⟩ := Dd.2 hosh i y' e0
        rw [hy] at q2
        obtain rfl := Option.some.inj q2
        have : cf (.b (.par i)) = pf i := by show (if i < σ.length then pf i else none_) = _; rw [if_pos hi]
        rw [this, e1, e2]
        exact hun.RJ (Ik q1 k.RJ)
      · cases h2
  · rcases from_ h1 with ⟨k, x, u, a1, a2, a3, rfl, a4⟩ | ⟨i, id, p, a1, a2, a3, rfl⟩
    · rcases from_ h2 with ⟨k', x', u', b1, b2, b3, rfl, b4⟩ | ⟨i', id', p', b1, b2, b3, rfl⟩
      · by_cases e : u = u'
        · subst e; exact hj (by rw [hsame k k' x x' u a1 b1 a2 b2 a3])
        · exact hs.off (.t u) (.t u') (fun h => e (by cases h; rfl)) g o a4 b4
      · exact hs.off (.t u) (.b id') nofun g o a4 b3
    · rcases from_ h2 with ⟨k', x', u', b1, b2, b3, rfl, b4⟩ | ⟨i', id', p', b1, b2, b3, rfl⟩
      · exact hs.off (.b id) (.t u') nofun g o a3 b4
      · by_cases e : id = id'
        · subst e; exact hj (by rw [F9 hnσ a1 b1])
        · exact hs.off (.b id) (.b id') (fun h => e (by cases h; rfl)) g o a3 b3
  · obtain ⟨i, hi⟩ := fam_of h1
    exact hs.Cx i g o hi h2
  · obtain ⟨i, hi⟩ := fam_of h1
    exact hs.lt i g o hi
 have hmem : Mem Γ' w F := ⟨Ext.refl w, AE.Sub.refl _, fun g o h => .inl h, fun _ _ _ => rfl, hm.live⟩
 have hcall := hok.2 Γ' ρ' cf (xs.map a.eval ++ exv).toArray (by simp [hex.1, (Dd (l := xs.map (AO s.tm)) (shs := ash)).1]) hmem hst
 refine hcall.mono ?_
 rintro e w' he
 cases e with
 | panicked => exact he
 | outgrown => exact he
 | returned v =>
   obtain ⟨F', ρ2, f2, m2, s2⟩ := he
   have hρ2 : ∀ i, ρ2 (.par i) = ρ' (.par i) := s2.pn
   -- what is left with the caller
   let Rem : EF := fun
    | .t u => fun g o => fam (.t u) g o ∧ u ∉ tk
    | .b id => fun g o => fam (.b id) g o ∧ ∀ (i : Nat) (p : List Be), σ[i]? = some (id, p) → ¬ pf i g o
   have rem_fam : ∀ {j g o}, Rem j g o → fam j g o := by
    intro j g o h
    cases j with
    | t => exact h.1
    | b => exact h.1
   have rem_new : ∀ {j g o}, Rem j g o → ¬ Γ'.Sm g o := by
    intro j g o h hN
    rcases hN with hN | ⟨j', hN⟩
    · have := hs.lt j g o (rem_fam h)
      have hN : w.heap.size ≤ g := hN
      omega
    · rcases from_ hN with ⟨k, x, u, a1, a2, a3, rfl, a4⟩ | ⟨i, id, p, a1, a2, a3, rfl⟩
      · have hu := inTk a1 a2 a3
        by_cases e : j = .t u
        · subst e; exact h.2 hu
        · exact hs.off j (.t u) e g o (rem_fam h) a4
      · by_cases e : j = .b id
        · subst e; exact h.2 i p a1 a2
        · exact hs.off j (.b id) e g o (rem_fam h) a3
   have keepF : De w w' F := fun g o hg => m2.Az g o fun hN => by
    rcases hN with hN | ⟨j', hN⟩
    · have := hm.live g o hg
      have hN : w.heap.size ≤ g := hN
      omega
    · obtain ⟨i, hi⟩ := fam_of hN
      exact hs.Cx i g o hi hg
   have keepR : ∀ j, De w w' (Rem j) := fun j g o hg => m2.Az g o (rem_new hg)
   have hren : IW F' w' ρ2 ρ (V.DU σ) := Ph fun i id p hi b hb => by
    obtain ⟨c, y, k, _, _, _, e2, e3⟩ := hpc i id p hi
    rw [hρ2 i] at hb
    have hb : (if i < σ.length then some (ad i) else none) = some b := hb
    rw [if_pos (hlt hi), e2] at hb
    obtain rfl := Option.some.inj hb
    exact ⟨e3, _, k.at_, rfl⟩
   have newTo : ∀ {g o}, Γ'.Sm g o → Γ.Sm g o := by
    intro g o h
    rcases h with h | ⟨j, h⟩
    · left; have := hm.ext.size; have h : w.heap.size ≤ g := h; omega
    · obtain ⟨i, hi⟩ := fam_of h
      exact hs.new i g o hi
   have hΓ : Mem Γ w' F' := by
    refine ⟨hm.ext.trans m2.ext, fun g o h => m2.sub g o (hm.sub g o h), fun g o h => ?_, fun g o h => ?_, m2.live⟩
    · rcases m2.fresh g o h with h | h
      · exact hm.fresh g o h
      · exact .inr (newTo h)
    · rw [m2.Az g o (fun h' => h (newTo h'))]; exact hm.Az g o h
   -- how the cells are dealt out behind the call
   let f3 : EF := fun
    | .t u => fun g o => if some u = dst then f2 (.t 0) g o else Rem (.t u) g o
    | .b id => fun g o => Rem (.b id) g o ∨ ∃ (i : Nat) (p : List Be), σ[i]? = some (id, p) ∧ f2 (.b (.par i)) g o
   have kind : ∀ {j g o}, f3 j g o → Rem j g o ∨ ∃ j2, f2 j2 g o ∧ ((∃ u, j = .t u ∧ some u = dst ∧ j2 = .t 0) ∨ ∃ (id : Id) (i : Nat) (p : List Be), j = .b id ∧ σ[i]? = some (id, p) ∧ j2 = .b (.par i)) := by
    intro j g o h
    cases j with
    | t u =>
      have h : if some u = dst then f2 (.t 0) g o else Rem (.t u) g o := h
      split at h
      · rename_i hu; exact .inr ⟨_, h, .inl ⟨u, rfl, hu, rfl⟩⟩
      · exact .inl h
    | b id =>
      rcases h with h | ⟨i, p, h1, h2⟩
      · exact .inl h
      · exact .inr ⟨_, h2, .inr ⟨id, i, p, rfl, h1, rfl⟩⟩
   have back : ∀ (i : Nat) (id : Id) (p : List Be), σ[i]? = some (id, p) → ∃ c c' z, s.H id = some c ∧ outs[i]? = some z ∧ c.put p (z.DU σ) = some c' ∧ ∀ r, ρ id = some r → Br F' w' ρ r c' (f3 (.b id)) := by
    intro i id p hi
    obtain ⟨c, y, k, e0, e1, e2, e3, e4⟩ := hpc i id p hi
    obtain ⟨sh, q1, q2⟩ := Dd.2 hosh i y e1
    obtain ⟨z, hz, hzs⟩ := (M6 hok.1).2 i ((sh.as y).2.Am σ) (by rw [List.getElem?_map, q2]; rfl)
    have hρi : ρ2 (.par i) = some (k.g, k.o + AW p) := by
     rw [hρ2 i]; show (if i < σ.length then some (ad i) else none) = _; rw [if_pos (hlt hi), e3]
    have hr := hren.RJ (s2.bl (.par i) z _ hz hρi)
    have hk : ∀ g o, fam (.b id) g o → ¬ k.Hk g o → w'.cell? ⟨g, o, none⟩ = w.cell? ⟨g, o, none⟩ := fun g o h1 h2 => keepR (.b id) g o ⟨h1, fun i' p' hi' h3 => by
     obtain rfl := F9 hnσ hi hi'
     rw [e2] at h3
     exact h2 h3⟩
    obtain ⟨c', h1, h2⟩ := k.back ⟨m2.ext, m2.sub, keepF, fun _ _ h => h⟩ hk hr (by rw [P5, hzs, Mu, Rv]) (fun g o h1 h2 => by
     rcases s2.new _ g o h1 with hN | ⟨j', hN⟩
     · have := hs.lt _ g o h2
       have hN : w.heap.size ≤ g := hN
       omega
     · rcases from_ hN with ⟨k', x, u, a1, a2, a3, rfl, a4⟩ | ⟨i', id', p', a1, a2, a3, rfl⟩
       · exact (hs.off (.t u) (.b id) nofun g o a4 h2).elim
       · by_cases e : id' = id
         · subst e
           obtain rfl := F9 hnσ hi a1
           rw [e2] at a2
           exact a2
         · exact (hs.off (.b id') (.b id) (fun h => e (by cases h; rfl)) g o a3 h2).elim)
    refine ⟨c, c', z, e0, hz, h1, fun r hr => ?_⟩
    rw [k.at_] at hr
    obtain rfl := Option.some.inj hr
    refine h2.Az (Ext.refl _) (AE.Sub.refl _) (fun _ _ _ => rfl) _ (fun _ _ h => h) (fun _ _ _ => rfl) ?_
    rintro g o (⟨h3, h4⟩ | h3)
    · refine .inl ⟨h3, fun i' p' hi' h5 => ?_⟩
      obtain rfl := F9 hnσ hi hi'
      rw [e2] at h5
      exact h4 h5
    · exact .inr ⟨i, p, hi, h3⟩
   refine ⟨F', f3, hΓ, ⟨fun u => ?_, fun id => ?_, fun id x r h1 h2 => ?_, fun j j' hj g o h1 h2 => ?_, fun j g o h1 h2 => ?_, fun j g o h1 => ?_, fun j g o h1 => ?_, hs.pn⟩⟩
   · have hrem : Ag F' w' ρ (takes s.tm tk u) (a.tmps.getD u Go.undef) (Rem (.t u)) := by
      have h1 := Ey (F := F) (w := w) (ρ := ρ) (fun t => a.tmps.getD t Go.undef) (fun t => fam (.t t)) tk s.tm hs.tm u
      have e : (if u ∈ tk then none_ else fam (.t u)) = Rem (.t u) := by
       funext g o
       show _ = (fam (.t u) g o ∧ u ∉ tk)
       by_cases h : u ∈ tk
       · simp [h, none_]
       · simp [h]
      rw [e] at h1
      exact Ag.Az m2.ext m2.sub keepF (fun _ _ h => h) (keepR (.t u)) (AE.Sub.refl _) h1
     cases hdst : dst with
     | none =>
       show Ag F' w' ρ (takes s.tm tk u) ((a.put none v).tmps.getD u Go.undef) _
       refine hrem.mono fun g o h => ?_
       show if some u = dst then _ else _
       rw [if_neg (by rw [hdst]; exact nofun)]
       exact h
     | some d =>
       show Ag F' w' ρ (Cp (takes s.tm tk) d (res.DU σ) u) ((a.tmps.setIfInBounds d v).getD u Go.undef) _
       rw [JS _ _ _ _ (hd d hdst)]
       by_cases e : u = d
       · subst e
         rw [BD, if_pos rfl]
         refine (hren.SH (s2.tm 0)).mono fun g o h => ?_
         show if some u = dst then _ else _
         rw [if_pos hdst.symm]
         exact h
       · rw [Bg _ _ e, if_neg e]
         refine hrem.mono fun g o h => ?_
         show if some u = dst then _ else _
         rw [if_neg (by rw [hdst]; exact fun h => e (Option.some.inj h))]
         exact h
   · show Ce s.H σ (outs.map (V.DU σ)) id = none ↔ _
     by_cases h : id ∈ σ.map (·.1)
     · obtain ⟨⟨id', p⟩, hx, rfl⟩ := List.mem_map.1 h
       obtain ⟨i, hi⟩ := List.getElem?_of_mem hx
       obtain ⟨c, c', z, e0, e1, e2, e3⟩ := back i id' p hi
       rw [KI (v := z.DU σ) hnσ hi (by rw [List.getElem?_map, e1]; rfl), e0]
       simp only [Option.bind_some, V.Nr e2]
       have : ρ id' ≠ none := fun h => by rw [(hs.nm id').2 h] at e0; cases e0
       simp [this]
     · rw [GY h]; exact hs.nm id
   · have h1 : Ce s.H σ (outs.map (V.DU σ)) id = some x := h1
     by_cases h : id ∈ σ.map (·.1)
     · obtain ⟨⟨id', p⟩, hx, rfl⟩ := List.mem_map.1 h
       obtain ⟨i, hi⟩ := List.getElem?_of_mem hx
       obtain ⟨c, c', z, e0, e1, e2, e3⟩ := back i id' p hi
       rw [KI (v := z.DU σ) hnσ hi (by rw [List.getElem?_map, e1]; rfl), e0] at h1
       simp only [Option.bind_some, V.Nr e2] at h1
       obtain rfl := Option.some.inj h1
       exact e3 r h2
     · rw [GY h] at h1
       have hsub : ∀ g o, fam (.b id) g o → Rem (.b id) g o := fun g o hg => ⟨hg, fun i p hi _ => h (List.mem_map.2 ⟨_, List.mem_of_getElem? hi, rfl⟩)⟩
       exact (hs.bl id x r h1 h2).Az m2.ext m2.sub keepF _ (fun _ _ h => h) (fun g o hg => keepR (.b id) g o (hsub g o hg)) (fun g o hg => .inl (hsub g o hg))
   · rcases kind h1 with h1 | ⟨k1, h1, h1'⟩
     · rcases kind h2 with h2 | ⟨k2, h2, h2'⟩
       · exact hs.off j j' hj g o (rem_fam h1) (rem_fam h2)
       · exact rem_new h1 (s2.new _ g o h2)
     · rcases kind h2 with h2 | ⟨k2, h2, h2'⟩
       · exact rem_new h2 (s2.new _ g o h1)
       · by_cases e : k1 = k2
         · subst e
           rcases h1' with ⟨u, rfl, c1, rfl⟩ | ⟨id, i, p, rfl, c1, rfl⟩
           · rcases h2' with ⟨u', rfl, c2, _⟩ | ⟨_, _, _, _, _, c⟩
             · exact hj (by rw [Option.some.inj (c1.trans c2.symm)])
             · cases c
           · rcases h2' with ⟨_, _, _, c⟩ | ⟨id', i', p', rfl, c2, c⟩
             · cases c
             · cases c
               rw [c1] at c2
               cases c2
               exact hj rfl
         · exact s2.off _ _ e g o h1 h2
   · rcases kind h1 with h1 | ⟨k1, h1, _⟩
     · rcases m2.fresh g o h2 with h2 | h2
       · exact hs.Cx j g o (rem_fam h1) h2
       · exact rem_new h1 h2
     · exact s2.Cx _ g o h1 h2
   · rcases kind h1 with h1 | ⟨k1, h1, _⟩
     · exact hs.new j g o (rem_fam h1)
     · exact newTo (s2.new _ g o h1)
   · rcases kind h1 with h1 | ⟨k1, h1, _⟩
     · exact Nat.lt_of_lt_of_le (hs.lt j g o (rem_fam h1)) m2.ext.size
     · exact s2.lt _ g o h1
end
end Go.Vm
end
section
namespace Go.Vm
open Go
def V.only (ids : List Id) : V → V
 | .ptr i p => cond (i.CD && !CJ i ids) .undef (.ptr i p)
 | .own i p s N off len => cond (i.CD && !CJ i ids) .undef (.own i p s N off len)
 | .BQ i e s nil n => cond (i.CD && !CJ i ids) .undef (.BQ i e s nil n)
 | .cons x r => .cons (only ids x) (only ids r)
 | .arr s n get => .arr s n fun i => only ids (get i)
 | .CG x => .CG (only ids x)
 | .fn f c => .fn f (only ids c)
 | .iface t x => .iface t (only ids x)
 | .Aa nil x => .Aa nil (only ids x)
 | .Aq e s nil n get => .Aq e s nil n fun i => only ids (get i)
 | x => x
def Names.only (ρ : Names) (ids : List Id) : Names := fun j => cond (j.CD && !CJ j ids) none (ρ j)
theorem JH (ids : List Id) (x : V) : (x.only ids).agg = x.agg := by
 cases x with
 | ptr i p => simp only [V.only]; cases i.CD && !CJ i ids <;> rfl
 | own i p s N off len => simp only [V.only]; cases i.CD && !CJ i ids <;> rfl
 | BQ i e s nil n => simp only [V.only]; cases i.CD && !CJ i ids <;> rfl
 | _ => rfl
section
variable {F : AE} {w : World} {ρ : Names} {ids : List Id}
theorem JG {i : Id} (h : (i.CD && !CJ i ids) = false) : (ρ.only ids) i = ρ i := by simp only [Names.only, h, cond_false]
theorem L8 : ∀ (x : V) {cs : List Value} {fp : AE}, AF F w ρ x cs fp → AF F w (ρ.only ids) (x.only ids) cs fp := by
 intro x
 induction x with
 | undef | int | bool | str | B8 | unit | Eo | Cy | vp | sl => intro cs fp h; simpa only [AF, V.only] using h
 | CG => intro cs fp h; simp [AF] at h
 | ptr i p =>
   intro cs fp h
   simp only [AF] at h
   obtain ⟨g, o, h1, h2, rfl⟩ := h
   simp only [V.only]
   cases hi : (i.CD && !CJ i ids)
   · exact ⟨g, o, by rw [JG hi]; exact h1, h2, rfl⟩
   · exact ⟨_, rfl, rfl⟩
 | own i p s N off len =>
   intro cs fp h
   simp only [AF] at h
   obtain ⟨g, o, c, A, h1, h2, rfl, h4⟩ := h
   simp only [V.only]
   cases hi : (i.CD && !CJ i ids)
   · exact ⟨g, o, c, A, by rw [JG hi]; exact h1, h2, rfl, h4⟩
   · exact ⟨_, rfl, rfl⟩
 | BQ i e s nil n =>
   intro cs fp h
   simp only [AF] at h
   obtain ⟨g, o, A, c, h1, rfl, h4⟩ := h
   simp only [V.only]
   cases hi : (i.CD && !CJ i ids)
   · exact ⟨g, o, A, c, by rw [JG hi]; exact h1, rfl, h4⟩
   · exact ⟨_, rfl, rfl⟩
 | cons x r hx hr =>
   intro cs fp h
   simp only [AF, V.only] at h ⊢
   obtain ⟨a, b, fa, fb, h1, h2, h3, h4⟩ := h
   exact ⟨a, b, fa, fb, h1, hx h2, hr h3, h4⟩
 | arr s n get ih =>
   intro cs fp h
   simp only [AF, V.only] at h ⊢
   obtain ⟨f, fs, h1, h2, h3⟩ := h
   exact ⟨f, fs, fun i hi => ⟨(h1 i hi).1, ih i (h1 i hi).2.1, (h1 i hi).2.2⟩, h2, h3⟩
 | fn f c ih => intro cs fp h; simp only [AF, V.only] at h ⊢; obtain ⟨xs, h1, h2⟩ := h; exact ⟨xs, h1, ih h2⟩
 | iface t x ih =>
   intro cs fp h
   simp only [AF, V.only] at h ⊢
   obtain ⟨xs, v, h1, h2, h3, h4⟩ := h
   exact ⟨xs, v, h1, ih h2, by rw [JH]; exact h3, by rw [JH]; exact h4⟩
 | Aa nil x ih =>
   intro cs fp h
   simp only [AF, V.only] at h ⊢
   obtain ⟨A, h1, h2, h3⟩ := h
   refine ⟨A, h1, h2, fun hn => ?_⟩
   obtain ⟨g, o, xs, f, k1, k2, k3⟩ := h3 hn
   exact ⟨g, o, xs, f, k1, ih k2, k3⟩
 | Aq e s nil n get ih =>
   intro cs fp h
   simp only [AF, V.only] at h ⊢
   obtain ⟨A, c, h1, h2, h3, h4, h5⟩ := h
   refine ⟨A, c, h1, h2, h3, h4, fun hn => ?_⟩
   obtain ⟨g, o, k1, k2, k3, xs, f, fs, k4, k5, k6, k7⟩ := h5 hn
   exact ⟨g, o, k1, k2, k3, xs, f, fs, k4, k5, fun i hi => ⟨(k6 i hi).1, ih i (k6 i hi).2.1, (k6 i hi).2.2⟩, k7⟩
theorem Hb {x : V} {v : Value} {fp : AE} (h : A1 F w ρ x v fp) : A1 F w (ρ.only ids) (x.only ids) v fp :=
 Kr (fun x _ _ h => L8 x h) (JH ids) h
theorem Om : ∀ {x : V} {vs : List Value} {fp : AE}, DO F w ρ x vs fp → DO F w (ρ.only ids) (x.only ids) vs fp := by
 intro x
 induction x with
 | cons x r _ ih =>
   intro vs fp h
   simp only [DO, V.only] at h ⊢
   obtain ⟨v, vs', fa, fb, h1, h2, h3, h4⟩ := h
   exact ⟨v, vs', fa, fb, h1, Hb h2, ih h3, h4⟩
 | unit => intro vs fp h; exact h
 | _ => intro vs fp h; exact h.elim
theorem Ol {x : V} {v : Value} {fp : AE} (h : Ag F w ρ x v fp) : Ag F w (ρ.only ids) (x.only ids) v fp := by
 cases x with
 | undef => trivial
 | CG y => obtain ⟨vs, h1, h2⟩ := h; exact ⟨vs, h1, Om h2⟩
 | _ => exact I3 (Hb (by exact h))
theorem Ha {x : V} {a : Nat × Nat} {fp : AE} (h : Br F w ρ a x fp) : Br F w (ρ.only ids) a (x.only ids) fp := by
 obtain ⟨xs, f, h1, h2⟩ := h
 exact ⟨xs, f, L8 x h1, h2⟩
end
structure Q1 where
 live : List (Nat × Sh)
 D1 : List Sh
 K0 : List (Id × Sh)
def conv (ids : List Id) (sh : Sh) (v : V) : Bool × V := sh.as (v.only ids)
def slotsOf (ids : List Id) (tm : Nat → V) : List (Nat × Sh) → Bool × List V
 | [] => (true, [])
 | (t, sh) :: l => ((conv ids sh (tm t)).1 && (slotsOf ids tm l).1, (conv ids sh (tm t)).2 :: (slotsOf ids tm l).2)
def HX (ids : List Id) (H : Id → Option V) : Nat → List Sh → Option (Bool × List V)
 | _, [] => some (true, [])
 | i, sh :: l => match H (.par i), HX ids H (i + 1) l with
   | some c, some (b, r) => some ((conv ids sh c).1 && b, (conv ids sh c).2 :: r)
   | _, _ => none
def JN (ids : List Id) (H : Id → Option V) : List (Id × Sh) → Option (Bool × List V)
 | [] => some (true, [])
 | (i, sh) :: l => match H i, JN ids H l with
   | some c, some (b, r) => cond i.CD (some ((conv ids sh c).1 && b, (conv ids sh c).2 :: r)) none
   | _, _ => none
def Q1.ids (L : Q1) : List Id := L.K0.map (·.1)
def Q1.K7 (L : Q1) (s : St) : Option (Bool × List V) :=
 match HX L.ids s.H 0 L.D1, JN L.ids s.H L.K0 with
 | some (b, p), some (b', l) => some ((slotsOf L.ids s.tm L.live).1 && (b && b'), (slotsOf L.ids s.tm L.live).2 ++ (p ++ l))
 | _, _ => none
def FZ : List (Nat × Sh) → List V → Nat → V
 | (u, _) :: r, v :: l, t => cond (Nat.beq t u) v (FZ r l t)
 | _, _, _ => .undef
def GP : List Sh → List V → Nat → Option V
 | _ :: _, v :: _, 0 => some v
 | _ :: r, _ :: l, i + 1 => GP r l i
 | _, _, _ => none
def H6 : List (Id × Sh) → List V → Id → Option V
 | (i, _) :: r, v :: l, id => cond (id.same i) (some v) (H6 r l id)
 | _, _, _ => none
def D6 {α : Type} : List α → List V → List V
 | _ :: r, _ :: l => D6 r l
 | _, l => l
def Q1.spread (L : Q1) (l : List V) : St where
 tm t := FZ L.live l t
 H := fun
   | .par i => GP L.D1 (D6 L.live l) i
   | .loc t j => H6 L.K0 (D6 L.D1 (D6 L.live l)) (.loc t j)
theorem KV {α : Type} : ∀ (r : List α) (a b : List V), a.length = r.length → D6 r (a ++ b) = b := by
 intro r
 induction r with
 | nil => intro a b h; cases a with
   | nil => rfl
   | cons => simp at h
 | cons x r ih => intro a b h; cases a with
   | nil => simp at h
   | cons y a => exact ih a b (by simpa using h)
theorem M4 (ids : List Id) (tm : Nat → V) : ∀ (l : List (Nat × Sh)), (slotsOf ids tm l).2.length = l.length ∧ ((slotsOf ids tm l).1 = true → ∀ (b : List V) t, FZ l ((slotsOf ids tm l).2 ++ b) t = .undef ∨
 ∃ sh, (conv ids sh (tm t)).1 = true ∧ FZ l ((slotsOf ids tm l).2 ++ b) t = (conv ids sh (tm t)).2) := by
 intro l
 induction l with
 | nil => exact ⟨rfl, fun _ b t => .inl rfl⟩
 | cons x l ih =>
   obtain ⟨u, sh⟩ := x
   refine ⟨by simp [slotsOf, ih.1], fun h b t => ?_⟩
   simp only [slotsOf, Bool.and_eq_true] at h
   show cond (Nat.beq t u) (conv ids sh (tm u)).2 (FZ l ((slotsOf ids tm l).2 ++ b) t) = _ ∨ _
   cases e : Nat.beq t u
   · have := ih.2 h.2 b t
     rw [cond_false]
     refine this.imp_right fun ⟨sh', k1, k2⟩ => ⟨sh', k1, ?_⟩
     show cond (Nat.beq t u) _ _ = _
     rw [e, cond_false]
     exact k2
   · obtain rfl := Nat.eq_of_beq_eq_true e
     refine .inr ⟨sh, h.1, ?_⟩
     show cond (Nat.beq t t) _ _ = _
     rw [e]; rfl
theorem KJ {ids : List Id} {H : Id → Option V} : ∀ {l : List Sh} {i : Nat} {b : Bool} {p : List V}, HX ids H i l = some (b, p) → p.length = l.length ∧ ∀ (q : List V) (j : Nat),
 (j < l.length → ∃ c sh, H (.par (i + j)) = some c ∧ GP l (p ++ q) j = some (conv ids sh c).2 ∧ (b = true → (conv ids sh c).1 = true)) ∧ (l.length ≤ j → GP l (p ++ q) j = none) := by
 intro l
 induction l with
 | nil => intro i b p h; simp only [HX, Option.some.injEq, Prod.mk.injEq] at h; obtain ⟨_, rfl⟩ := h; exact ⟨rfl, fun q j => ⟨fun h => by simp at h, fun _ => rfl⟩⟩
 | cons sh l ih =>
   intro i b p h
   simp only [HX] at h
   split at h <;> (try cases h)
   rename_i c b' r hc hr
   obtain ⟨k1, k2⟩ := ih hr
   refine ⟨by simp [k1], fun q j => ?_⟩
   cases j with
   | zero =>
     refine ⟨fun _ => ⟨c, sh, hc, rfl, fun h => ?_⟩, fun h => by simp at h⟩
     simp only [Bool.and_eq_true] at h
     exact h.1
   | succ j =>
     obtain ⟨m1, m2⟩ := k2 q j
     refine ⟨fun h => ?_, fun h => m2 (by simpa using h)⟩
     obtain ⟨c', sh', n1, n2, n3⟩ := m1 (by simpa using h)
     refine ⟨c', sh', by rw [← n1]; congr 2; omega, n2, fun h => ?_⟩
     simp only [Bool.and_eq_true] at h
     exact n3 h.2
theorem O1 {ids : List Id} {H : Id → Option V} : ∀ {l : List (Id × Sh)} {b : Bool} {p : List V}, JN ids H l = some (b, p) → p.length = l.length ∧ ∀ (id : Id),
 (id ∈ l.map (·.1) → id.CD = true ∧ ∃ c sh, H id = some c ∧ H6 l p id = some (conv ids sh c).2 ∧ (b = true → (conv ids sh c).1 = true)) ∧ (id ∉ l.map (·.1) → H6 l p id = none) := by
 intro l
 induction l with
 | nil => intro b p h; simp only [JN, Option.some.injEq, Prod.mk.injEq] at h; obtain ⟨_, rfl⟩ := h; exact ⟨rfl, fun id => ⟨fun h => by simp at h, fun _ => rfl⟩⟩
 | cons x l ih =>
   obtain ⟨i, sh⟩ := x
   intro b p h
   simp only [JN] at h
   split at h <;> (try cases h)
   rename_i c b' r hc hr
   obtain ⟨hl, h'⟩ := AG h
   cases h'
   obtain ⟨k1, k2⟩ := ih hr
   refine ⟨by simp [k1], fun id => ?_⟩
   have hloc : H6 ((i, sh) :: l) ((conv ids sh c).2 :: r) id = cond (id.same i) (some (conv ids sh c).2) (H6 l r id) := rfl
   rw [hloc]
   cases e : id.same i
   · have hne := FH e
     obtain ⟨m1, m2⟩ := k2 id
     refine ⟨fun h => ?_, fun h => ?_⟩
     · simp only [List.map_cons, List.mem_cons, hne, false_or] at h
       obtain ⟨n0, c', sh', n1, n2, n3⟩ := m1 h
       refine ⟨n0, c', sh', n1, n2, fun h => ?_⟩
       simp only [Bool.and_eq_true] at h
       exact n3 h.2
     · exact m2 fun hm => h (by simp only [List.map_cons, List.mem_cons]; exact .inr hm)
   · obtain rfl := (Id.BI _ _).1 e
     refine ⟨fun _ => ⟨hl, c, sh, hc, rfl, fun h => ?_⟩, fun h => absurd (by simp) h⟩
     simp only [Bool.and_eq_true] at h
     exact h.1
section
variable {Γ : Ctx} {F : AE} {w : World} {ρ : Names} {fam : EF} {s : St} {vs : Array Value}
open Classical in
theorem PB (h : AY Γ F w ρ fam s vs) {L : Q1} {l : List V} (hg : L.K7 s = some (true, l)) (hp : ∀ i, L.D1.length ≤ i → Γ.par i = none) : ∃ ρ' fam', AY Γ F w ρ' fam' (L.spread l) vs := by
 unfold Q1.K7 at hg
 split at hg <;> (try cases hg)
 rename_i b p b' q h1 h2
 simp only [Option.some.injEq, Prod.mk.injEq, Bool.and_eq_true] at hg
 obtain ⟨⟨hb0, hb1, hb2⟩, rfl⟩ := hg
 obtain ⟨s1, s2⟩ := M4 L.ids s.tm L.live
 obtain ⟨p1, p2⟩ := KJ h1
 obtain ⟨q1, q2⟩ := O1 h2
 have e1 : D6 L.live ((slotsOf L.ids s.tm L.live).2 ++ (p ++ q)) = p ++ q := KV _ _ _ s1
 have e2 : D6 L.D1 (p ++ q) = q := KV _ _ _ p1
 let Az : Ix → Prop := fun | .t _ => True | .b i => ¬ (i.CD && !CJ i L.ids) = true
 refine ⟨ρ.only L.ids, fun i => if Az i then fam i else none_, ?_⟩
 have hkeep : ∀ i g o, (if Az i then fam i else none_) g o → fam i g o := by
  intro i g o hi
  by_cases hk : Az i
  · simpa only [hk, if_true] using hi
  · simp only [hk, if_false] at hi; exact hi.elim
 have hmem : ∀ {id : Id}, id ∈ L.K0.map (·.1) ↔ CJ id L.ids = true := fun {id} => (BZ (i := id) (l := L.ids)).symm
 refine h.re (G := fun i j => j = i) ⟨fun i g o hi => ⟨i, rfl, hkeep i g o hi⟩, fun i i' j hii hj hj' => absurd (hj.symm.trans hj') hii⟩ (fun t => ?_) (fun id => ?_) (fun id x r hx hr => ?_) (fun i => ?_)
 · show Ag F w _ (FZ L.live ((slotsOf L.ids s.tm L.live).2 ++ (p ++ q)) t) _ _
   rcases s2 hb0 (p ++ q) t with e | ⟨sh, k1, k2⟩
   · rw [e]; trivial
   · rw [k2]
     exact (OB k1 (Ol (h.tm t))).mono (by simp only [Az, if_true]; exact AE.Sub.refl _)
 · cases id with
   | par i =>
     show GP L.D1 (D6 L.live ((slotsOf L.ids s.tm L.live).2 ++ (p ++ q))) i = none ↔ ρ (.par i) = none
     rw [e1]
     obtain ⟨m1, m2⟩ := p2 q i
     by_cases hi : i < L.D1.length
     · obtain ⟨c, sh, n1, n2, _⟩ := m1 hi
       rw [Nat.zero_add] at n1
       rw [n2]
       have : ρ (.par i) ≠ none := fun e => by rw [(h.nm _).2 e] at n1; cases n1
       simp [this]
     · rw [m2 (by omega), h.pn, hp i (by omega)]; exact ⟨fun _ => rfl, fun _ => rfl⟩
   | loc t j =>
     show H6 L.K0 (D6 L.D1 (D6 L.live ((slotsOf L.ids s.tm L.live).2 ++ (p ++ q)))) (.loc t j) = none ↔ cond (!CJ (.loc t j) L.ids) none (ρ (.loc t j)) = none
     rw [e1, e2]
     obtain ⟨m1, m2⟩ := q2 (.loc t j)
     cases hm : CJ (.loc t j) L.ids
     · rw [m2 fun hh => by rw [hmem.1 hh] at hm; cases hm]; simp
     · obtain ⟨_, c, sh, n1, n2, _⟩ := m1 (hmem.2 hm)
       rw [n2]
       have : ρ (.loc t j) ≠ none := fun e => by rw [(h.nm _).2 e] at n1; cases n1
       simp [this]
 · cases id with
   | par i =>
     have hx : GP L.D1 (D6 L.live ((slotsOf L.ids s.tm L.live).2 ++ (p ++ q))) i = some x := hx
     rw [e1] at hx
     have hr : ρ (.par i) = some r := hr
     obtain ⟨m1, m2⟩ := p2 q i
     by_cases hi : i < L.D1.length
     · obtain ⟨c, sh, n1, n2, n3⟩ := m1 hi
       rw [Nat.zero_add] at n1
       rw [n2] at hx
       obtain rfl := Option.some.inj hx
       have hk : Az (.b (.par i)) := by simp [Az, Id.CD]
       simp only [hk, if_true]
       exact Ik (n3 hb1) (Ha (h.bl _ c r n1 hr))
     · rw [m2 (by omega)] at hx; cases hx
   | loc t j =>
     have hx : H6 L.K0 (D6 L.D1 (D6 L.live ((slotsOf L.ids s.tm L.live).2 ++ (p ++ q)))) (.loc t j) = some x := hx
     rw [e1, e2] at hx
     have hr : cond (!CJ (.loc t j) L.ids) none (ρ (.loc t j)) = some r := hr
     obtain ⟨m1, m2⟩ := q2 (.loc t j)
     cases hm : CJ (.loc t j) L.ids
     · rw [hm] at hr; cases hr
     · rw [hm] at hr
       have hr : ρ (.loc t j) = some r := hr
       obtain ⟨_, c, sh, n1, n2, n3⟩ := m1 (hmem.2 hm)
       rw [n2] at hx
       obtain rfl := Option.some.inj hx
       have hk : Az (.b (.loc t j)) := by simp [Az, hm]
       simp only [hk, if_true]
       exact Ik (n3 hb2) (Ha (h.bl _ c r n1 hr))
 · show ρ (.par i) = Γ.par i
   exact h.pn i
theorem NP {nt : Nat} {a : Act} (hI : Inv Γ nt s a w) {L : Q1} {l : List V} (hg : L.K7 s = some (true, l)) (hp : ∀ i, L.D1.length ≤ i → Γ.par i = none) : Inv Γ nt (L.spread l) a w := by
 obtain ⟨h1, h2, F, ρ, fam, hm, hs⟩ := hI
 obtain ⟨ρ', fam', h3⟩ := PB hs hg hp
 exact ⟨h1, h2, F, ρ', fam', hm, h3⟩
end
end Go.Vm
end
section
namespace Go.Vm
open Go
def Ix.same : Ix → Ix → Bool
 | .t m, .t n => Nat.beq m n
 | .b i, .b j => i.same j
 | _, _ => false
theorem Ix.BI {i j : Ix} : i.same j = true ↔ i = j := by
 cases i <;> cases j <;> simp [Ix.same, Id.BI]
def Ky : List Ix → Bool
 | [] => true
 | x :: l => !l.any x.same && Ky l
theorem Oo : ∀ {l : List Ix}, Ky l = true → l.Nodup := by
 intro l
 induction l with
 | nil => intro _; exact List.nodup_nil
 | cons x l ih =>
   intro h
   simp only [Ky, Bool.and_eq_true, Bool.not_eq_true'] at h
   refine List.nodup_cons.2 ⟨fun hm => ?_, ih h.2⟩
   have : l.any x.same = true := List.any_eq_true.2 ⟨x, hm, Ix.BI.2 rfl⟩
   rw [this] at h; cases h.1
def KH (P : Program) (s : St) : ResultVar → Option (Bool × V × Ix)
 | .tmp t => cond (s.tm t).one (some (true, s.tm t, .t t)) none
 | .cell a ty => match s.tm a with
   | .ptr id p => match s.H id with
     | some c => match c.Dk p with
       | some x => cond (fits P ty x && id.CD) (some (c.fit p, x, .b id)) none
       | none => none
     | none => none
   | _ => none
def EN (P : Program) (s : St) : List ResultVar → List Sh → Option (Bool × List V × List Ix)
 | [], [] => some (true, [], [])
 | r :: l, sh :: shs => match KH P s r, EN P s l shs with
   | some (b, x, i), some (b', xs, is) => some (b && ((conv [] sh x).1 && b'), (conv [] sh x).2 :: xs, i :: is)
   | _, _ => none
 | _, _ => none
def RH : List V → V
 | [x] => x
 | l => .CG (.ofList l)
def Sa (P : Program) (fn : Func) (SE Gv : List Sh) (s : St) : Tree :=
 match EN P s fn.results.toList SE, HX [] s.H 0 Gv with
 | some (b, rs, is), some (b', ps) => cond (Ky is) (cond (b && b') (.ret (RH rs :: ps)) .fail) .fail
 | _, _ => .fail
section
variable {P : Program} {Γ : Ctx} {F : AE} {w : World} {ρ : Names} {fam : EF} {s : St} {a : Act}
theorem P4 (hs : AY Γ F w ρ fam s a.tmps) {r : ResultVar} {b : Bool} {x : V} {i : Ix} (h : KH P s r = some (b, x, i)) (hb : b = true) : ∃ v fr, (match r with
 | .tmp t => pure (a.tmps.getD t Go.undef)
 | .cell c t => do loadVar t (← asAddr (a.tmps.getD c Go.undef)) : Sem Value).run P w = .ok v w ∧ A1 F w ρ x v fr ∧ fr.Sub (fam i) := by
 cases r with
 | tmp t =>
   simp only [KH] at h
   obtain ⟨h1, h'⟩ := AG h
   cases h'
   exact ⟨_, _, rfl, (hs.tm t).one h1, AE.Sub.refl _⟩
 | cell c ty =>
   simp only [KH] at h
   split at h <;> (try cases h)
   rename_i id p hp
   split at h <;> (try cases h)
   rename_i blk hblk
   split at h <;> (try cases h)
   rename_i y hy
   obtain ⟨h1, h'⟩ := AG h
   cases h'
   simp only [Bool.and_eq_true] at h1
   have hx := hs.tm c
   rw [hp] at hx
   obtain ⟨g, of, k1, k2, k3⟩ := FR hx
   obtain ⟨xs, f, m1, m2, m3, m4⟩ := hs.bl id blk _ hblk k1
   obtain ⟨q⟩ := DI p blk k2 hb m1 hy
   have hreads : Reads w g (of + AW p) q.zs := by
    have hr := m2.reads
    have hxs := q.eq
    rw [hxs] at hr
    intro j u hu
    have := hr.part j u hu
    rwa [q.len] at this
   obtain ⟨v, n1, n2⟩ := DY (P := P) (ρ := ρ) h1.1 q.rel hreads
   obtain ⟨_, _, _, _, _, _, hone⟩ := Bj h1.1
   refine ⟨v, q.f1, ?_, n2.one hone, q.Cq.trans m3⟩
   simp only [k3, asAddr, Sem.run_bind, Sem.run_pure, Result.andThen_ok, n1]
theorem OY (hs : AY Γ F w ρ fam s a.tmps) : ∀ {rv : List ResultVar} {shs : List Sh} {b : Bool} {xs : List V} {is : List Ix}, EN P s rv shs = some (b, xs, is) → b = true →
 ∃ (vals : List Value) (fr : Nat → AE), (rv.mapM fun r => (match r with
   | .tmp t => pure (a.tmps.getD t Go.undef)
   | .cell c t => do loadVar t (← asAddr (a.tmps.getD c Go.undef)) : Sem Value)).run P w = .ok vals w ∧ vals.length = xs.length ∧ is.length = xs.length ∧
   ∀ (j : Nat) (x : V) (v : Value) (i : Ix), xs[j]? = some x → vals[j]? = some v → is[j]? = some i → A1 F w (ρ.only []) x v (fr j) ∧ (fr j).Sub (fam i) := by
 intro rv
 induction rv with
 | nil =>
   intro shs b xs is h hb
   cases shs with
   | nil =>
     simp only [EN, Option.some.injEq, Prod.mk.injEq] at h
     obtain ⟨_, rfl, rfl⟩ := h
     exact ⟨[], fun _ => none_, rfl, rfl, rfl, fun j x v i h => by simp at h⟩
   | cons => simp [EN] at h
 | cons r rv ih =>
   intro shs b xs is h hb
   cases shs with
   | nil => simp [EN] at h
   | cons sh shs =>
     simp only [EN] at h
     split at h <;> (try cases h)
     rename_i b1 x i b2 ys js h1 h2
     simp only [Bool.and_eq_true] at hb
     obtain ⟨v, fr, k1, k2, k3⟩ := P4 hs h1 hb.1
     obtain ⟨vals, ff, m1, m2, m3, m4⟩ := ih h2 hb.2.2
     refine ⟨v :: vals, fun j => match j with | 0 => fr | j + 1 => ff j, ?_, by simp [m2], by simp [m3], fun j y u k e1 e2 e3 => ?_⟩
     · rw [List.mapM_cons]
       simp only [Sem.run_bind, k1, Result.andThen_ok, m1, Sem.run_pure]
     · cases j with
       | zero =>
         simp only [List.getElem?_cons_zero, Option.some.injEq] at e1 e2 e3
         subst e1 e2 e3
         exact ⟨OC hb.2.1 (Hb k2), k3⟩
       | succ j => exact m4 j y u k (by simpa using e1) (by simpa using e2) (by simpa using e3)
theorem RK : ∀ {xs : List V} {vals : List Value} {fr : Nat → AE}, xs.length = vals.length → (∀ (j : Nat) (x : V) (v : Value), xs[j]? = some x → vals[j]? = some v → A1 F w ρ x v (fr j)) →
 (∀ i j, i < xs.length → j < xs.length → i ≠ j → (fr i).DS (fr j)) → DO F w ρ (V.ofList xs) vals (fun g o => ∃ j, j < xs.length ∧ fr j g o) := by
 intro xs
 induction xs with
 | nil => intro vals fr hl _ _; simp only [List.length_nil] at hl; exact List.eq_nil_of_length_eq_zero hl.symm
 | cons x xs ih =>
   intro vals fr hl h hoff
   cases vals with
   | nil => simp at hl
   | cons v vals =>
     refine ⟨v, vals, fr 0, fun g o => ∃ j, j < xs.length ∧ fr (j + 1) g o, rfl, h 0 x v rfl rfl, ih (by simpa using hl) (fun j y u e1 e2 => h (j + 1) y u (by simpa using e1) (by simpa using e2)) (fun i j hi hj hij => hoff (i + 1) (j + 1) (by simpa using hi) (by simpa using hj) (by omega)), ?_, ?_, ?_⟩
     · exact fun g o hg => ⟨0, by simp, hg⟩
     · rintro g o ⟨j, hj, hg⟩; exact ⟨j + 1, by simpa using hj, hg⟩
     · rintro g o hg ⟨j, hj, hg'⟩; exact hoff 0 (j + 1) (by simp) (by simpa using hj) (by omega) g o hg hg'
def Qz (P : Program) (fn : Func) (Γ : Ctx) (r : List V) (a : Act) (w : World) : Prop :=
 a.defers = [] ∧ ∃ v, (results fn a.tmps).run P w = .ok v w ∧ ∃ F' ρ' fam', Mem Γ w F' ∧ AY Γ F' w ρ' fam' (G3 [r.headD .undef] r.tail) #[v]
open Classical in
theorem Rm {fn : Func} {SE Gv : List Sh} {nt : Nat} {r : List V} (hp : ∀ i, Gv.length ≤ i → Γ.par i = none) (h : (Sa P fn SE Gv s).DP r) (hI : Inv Γ nt s a w) : Qz P fn Γ r a w := by
 obtain ⟨_, hd, F, ρ, fam, hm, hs⟩ := hI
 refine ⟨hd, ?_⟩
 unfold Sa at h
 split at h <;> (try exact h.elim)
 rename_i b rs is b' ps h1 h2
 obtain ⟨hn, h⟩ := C7 h
 obtain ⟨hb, h⟩ := C7 h
 simp only [Bool.and_eq_true] at hb
 obtain rfl : RH rs :: ps = r := h
 obtain ⟨vals, fr, k1, k2, k3, k4⟩ := OY hs h1 hb.1
 obtain ⟨p1, p2⟩ := KJ h2
 have hnd := Oo hn
 have hrun : (results fn a.tmps).run P w = .ok (if h : vals.toArray.size = 1 then vals.toArray[0] else .tuple vals.toArray) w := by
  unfold results
  rw [Array.mapM_eq_mapM_toList]
  simp only [Sem.run_bind, Sem.run_map]
  have k1' : _ = Result.ok vals w := k1
  refine Eq.trans (congrArg (fun x : Result (List Value) => (x.andThen fun a w' => Result.ok a.toArray w').andThen fun a w' => Sem.run P (pure (if h : a.size = 1 then a[0] else Value.tuple a)) w') (Eq.trans (congrArg (fun f : ResultVar → Sem Value => Sem.run P (List.mapM f fn.results.toList) w) (funext fun r => by cases r <;> rfl)) k1')) rfl
 have hoff : ∀ i j, i < rs.length → j < rs.length → i ≠ j → (fr i).DS (fr j) := by
  intro i j hi hj hij g o h1 h2
  obtain ⟨m1, m2⟩ := k4 i _ _ _ (List.getElem?_eq_getElem hi) (List.getElem?_eq_getElem (by omega)) (List.getElem?_eq_getElem (by omega))
  obtain ⟨n1, n2⟩ := k4 j _ _ _ (List.getElem?_eq_getElem hj) (List.getElem?_eq_getElem (by omega)) (List.getElem?_eq_getElem (by omega))
  exact hs.off _ _ (fun e => hij ((List.getElem_inj hnd).1 e)) g o (m2 g o h1) (n2 g o h2)
 let fp : AE := fun g o => ∃ j, j < rs.length ∧ fr j g o
 have hsub : ∀ g o, fp g o → ∃ i ∈ is, fam i g o := by
  rintro g o ⟨j, hj, hg⟩
  obtain ⟨_, m2⟩ := k4 j _ _ _ (List.getElem?_eq_getElem hj) (List.getElem?_eq_getElem (by omega)) (List.getElem?_eq_getElem (by omega))
  exact ⟨_, List.getElem_mem (by omega), m2 g o hg⟩
 have hrel : Ag F w (ρ.only []) (RH rs) (if h : vals.toArray.size = 1 then vals.toArray[0] else .tuple vals.toArray) fp := by
  by_cases h1 : rs.length = 1
  · obtain ⟨x, rfl⟩ := List.length_eq_one_iff.1 h1
    obtain ⟨v, rfl⟩ := List.length_eq_one_iff.1 (k2.trans h1)
    have := (k4 0 x v (is[0]'(by omega)) rfl rfl (List.getElem?_eq_getElem (by omega))).1
    exact (I3 this).mono fun g o hg => ⟨0, by simp, hg⟩
  · have h2 : ¬ vals.toArray.size = 1 := by simpa [k2] using h1
    have h3 : RH rs = .CG (V.ofList rs) := by
     cases rs with
     | nil => rfl
     | cons x rs => cases rs with
       | nil => simp at h1
       | cons => rfl
    rw [dif_neg h2, h3]
    exact ⟨vals, rfl, RK k2.symm (fun j x v e1 e2 => (k4 j x v _ e1 e2 (List.getElem?_eq_getElem (by have := (List.getElem?_eq_some_iff.1 e1).1; omega))).1) hoff⟩
 have hisLoc : ∀ i ∈ is, ∀ j, i ≠ .b (.par j) := by
  have : ∀ {rv : List ResultVar} {shs : List Sh} {b : Bool} {xs : List V} {is : List Ix}, EN P s rv shs = some (b, xs, is) → ∀ i ∈ is, ∀ j, i ≠ .b (.par j) := by
   intro rv
   induction rv with
   | nil => intro shs b xs is h; cases shs <;> simp [EN] at h; obtain ⟨_, _, rfl⟩ := h; intro i hi; simp at hi
   | cons rr rv ih =>
     intro shs b xs is h
     cases shs with
     | nil => simp [EN] at h
     | cons sh shs =>
       simp only [EN] at h
       split at h <;> (try cases h)
       rename_i b1 x i b2 ys js e1 e2
       intro k hk j
       rcases List.mem_cons.1 hk with rfl | hk
       · cases rr with
         | tmp t => simp only [KH] at e1; obtain ⟨_, e1'⟩ := AG e1; cases e1'; exact nofun
         | cell c ty =>
           simp only [KH] at e1
           split at e1 <;> (try cases e1)
           split at e1 <;> (try cases e1)
           split at e1 <;> (try cases e1)
           obtain ⟨e0, e1'⟩ := AG e1
           cases e1'
           simp only [Bool.and_eq_true] at e0
           rintro h
           cases h
           simp [Id.CD] at e0
       · exact ih e2 k hk j
  exact this h1
 refine ⟨_, hrun, F, ρ.only [], fun i => match i with | .t 0 => fp | .t (_ + 1) => none_ | .b (.par i) => fam (.b (.par i)) | .b (.loc _ _) => none_, hm, ?_⟩
 refine hs.re (G := fun i j => (i = .t 0 ∧ j ∈ is) ∨ (∃ k, i = .b (.par k) ∧ j = i)) ⟨fun i g o hi => ?_, fun i i' j hii hj hj' => ?_⟩ (fun t => ?_) (fun id => ?_) (fun id x r hx hr => ?_) (fun i => hs.pn i)
 · cases i with
   | t t =>
     cases t with
     | zero => obtain ⟨j, hj, hg⟩ := hsub g o hi; exact ⟨j, .inl ⟨rfl, hj⟩, hg⟩
     | succ => exact hi.elim
   | b id =>
     cases id with
     | par k => exact ⟨_, .inr ⟨k, rfl, rfl⟩, hi⟩
     | loc => exact hi.elim
 · rcases hj with ⟨rfl, hj⟩ | ⟨k, rfl, rfl⟩
   · rcases hj' with ⟨rfl, _⟩ | ⟨k, rfl, rfl⟩
     · exact absurd rfl hii
     · exact absurd rfl (hisLoc _ hj k)
   · rcases hj' with ⟨rfl, hj'⟩ | ⟨k', rfl, e⟩
     · exact absurd rfl (hisLoc _ hj' k)
     · exact absurd e hii
 · cases t with
   | zero => exact hrel
   | succ t => trivial
 · cases id with
   | par i =>
     show ps[i]? = none ↔ ρ (.par i) = none
     by_cases hi : i < Gv.length
     · obtain ⟨c, sh, n1, _⟩ := (p2 [] i).1 hi
       rw [Nat.zero_add] at n1
       have : ρ (.par i) ≠ none := fun e => by rw [(hs.nm _).2 e] at n1; cases n1
       have h3 : ps[i]? ≠ none := by rw [List.getElem?_eq_getElem (by omega)]; exact nofun
       simp [this, h3]
     · rw [List.getElem?_eq_none (by omega), hs.pn, hp i (by omega)]; exact ⟨fun _ => rfl, fun _ => rfl⟩
   | loc => exact ⟨fun _ => rfl, fun _ => rfl⟩
 · cases id with
   | par i =>
     have hx : ps[i]? = some x := hx
     have hr : ρ (.par i) = some r := hr
     have hi : i < Gv.length := by have := (List.getElem?_eq_some_iff.1 hx).1; omega
     obtain ⟨c, sh, n1, n2, n3⟩ := (p2 [] i).1 hi
     rw [Nat.zero_add] at n1
     have hpa : ∀ {l : List Sh} {q : List V} (i : Nat), l.length = q.length → GP l q i = q[i]? := by
      intro l
      induction l with
      | nil => intro q i h; cases q with
        | nil => rfl
        | cons => simp at h
      | cons a l ih => intro q i h; cases q with
        | nil => simp at h
        | cons b q => cases i with
          | zero => rfl
          | succ i => simpa [GP] using ih i (by simpa using h)
     rw [List.append_nil, hpa i p1.symm, hx] at n2
     obtain rfl := Option.some.inj n2
     exact Ik (n3 hb.2) (Ha (hs.bl _ c r n1 hr))
   | loc => cases hx
end
end Go.Vm
end
section
namespace Go.Vm
open Go
def V.CB : V → Prop
 | .undef => False
 | .cons x r => x.CB ∧ r.CB
 | .arr _ _ get => ∀ i, (get i).CB
 | .CG x => x.CB
 | .fn _ c => c.CB
 | .iface _ x => x.CB
 | .Aa _ x => x.CB
 | .Aq _ _ _ _ get => ∀ i, (get i).CB
 | _ => True
def Q0 : List V → Prop
 | [] => True
 | v :: l => v.CB ∧ Q0 l
structure BC (P : Program) : Type 1 where
 f : FuncId
 fn : Func
 hf : P.funcs[f]? = some fn
 hb : fn.body.isSome = true
 hn : (fn.name == "runtime.NumGoroutine") = false
 X : Type
 Y : Type
 args : X → List V
 Gy : X → List V
 res : Y → V
 outs : X → Y → List V
 rel : X → Y → Prop
 ev : Nat → X → Option Y
 Gf : ∀ n x y, ev n x = some y → rel x y
 dec : List V → List V → X
 ash : List Sh
 osh : List Sh
 ok : ∀ x y, rel x y → OK P f (args x) (Gy x) (res y) (outs x y)
 pure : Bool
 Ku : pure = true → ∀ x y, rel x y → outs x y = Gy x
 I9 : pure = true → ∀ x, Q0 (Gy x)
def refs : V → List (Id × List Be)
 | .ptr id p => [(id, p)]
 | .own id p _ _ _ _ => [(id, p)]
 | .BQ id _ _ _ _ => [(id, [])]
 | .cons x r => refs x ++ refs r
 | .CG x => refs x
 | .fn _ c => refs c
 | .iface _ x => refs x
 | .Aa _ x => refs x
 | _ => []
def reach (H : Id → Option V) : Nat → List (Id × List Be) → List (Id × List Be) → List (Id × List Be)
 | 0, _, acc => acc
 | _ + 1, [], acc => acc
 | n + 1, (id, p) :: l, acc => cond (CJ id (acc.map (·.1))) (reach H n l acc) (match H id with
   | some c => match c.Dk p with
     | some y => reach H n (l ++ refs y) (acc ++ [(id, p)])
     | none => reach H n l acc
   | none => reach H n l acc)
def Hr : V → Option (List V)
 | .unit => some []
 | .cons x r => cond (!x.agg && (x.one && !x.Bq)) ((Hr r).map (x :: ·)) none
 | _ => none
def C1 (tm : Nat → V) (c : Call) : Option (FuncId × List V) :=
 match c.callee with
 | .value f => match AO tm f with
   | .fn g caps => (Hr caps).map (g, ·)
   | _ => none
 | _ => none
def GH {P : Program} : List (BC P) → FuncId → Option (BC P)
 | [], _ => none
 | c :: l, f => cond (Nat.beq c.f f) (some c) (GH l f)
def Sy {P : Program} (Nh : List (BC P)) (c : Call) (s : St) : List (BC P) :=
 cond (c.args.toList.any fun x => match AO s.tm x with | .B8 => true | _ => false) Nh.reverse Nh
def CU (c : Call) : List Nat := (match c.callee with | .value f => Cr f | _ => []) ++ c.args.toList.flatMap Cr
def Gg {P : Program} (nt : Nat) (o : Oper) (c : Call) (s : St) (K : BC P) (caps : List V) : Mn :=
 let as := B6 K.ash (c.args.toList.map (AO s.tm))
 let vs := as.2 ++ caps
 let σ := reach s.H 40 (vs.flatMap refs) []
 let tk := c.args.toList.flatMap fun x => Ah x (AO s.tm x)
 let ps0 := (partsOf s.H σ).getD (false, [])
 let os := B6 K.osh ps0.2
 let x := K.dec (vs.map (V.Am σ)) (os.2.map (V.Am σ))
 { Y := K.Y
   need := DV nt o && (FL tk && (Hf (σ.map (·.1)) && ((partsOf s.H σ).isSome && (ps0.1 && (as.1 && os.1)))))
   side := vs.map (V.Am σ) = K.args x ∧ os.2.map (V.Am σ) = K.Gy x
   run := K.rel x
   fx := { rt := CU c, rh := σ.map (·.1), wt := (match o.dst with | some d => [d] | none => []) ++ tk, wh := σ.map (·.1) }
   next := fun y => GV s o.dst tk σ (K.res y) (K.outs x y) }
def Gh {P : Program} (nt : Nat) (o : Oper) (c : Call) (s : St) (K : BC P) (caps : List V) : Mn :=
 let as := B6 K.ash (c.args.toList.map (AO s.tm))
 let vs := as.2 ++ caps
 let σ := reach s.H 40 (vs.flatMap refs) []
 let tk := c.args.toList.flatMap fun x => Ah x (AO s.tm x)
 let ps0 := (partsOf s.H σ).getD (false, [])
 let x := K.dec (vs.map (V.Am σ)) (ps0.2.map (V.Am σ))
 { Y := K.Y
   need := DV nt o && (FL tk && (Hf (σ.map (·.1)) && ((partsOf s.H σ).isSome && (ps0.1 && as.1))))
   side := vs.map (V.Am σ) = K.args x ∧ ps0.2.map (V.Am σ) = K.Gy x
   run := K.rel x
   fx := { rt := CU c, rh := σ.map (·.1), wt := (match o.dst with | some d => [d] | none => []) ++ tk, wh := [] }
   next := fun y => GV s o.dst tk σ (K.res y) [] }
def Qn {P : Program} (Nh : List (BC P)) (nt : Nat) (o : Oper) (s : St) : Option Mn :=
 match o.op with
 | .call c => match C1 s.tm c with
   | some (g, caps) => match GH (Sy Nh c s) g with
     | some K => cond K.pure (some (Gh nt o c s K caps)) (some (Gg nt o c s K caps))
     | none => none
   | none => none
 | _ => none
theorem KS {P : Program} : ∀ {l : List (BC P)} {f : FuncId} {K : BC P}, GH l f = some K → K.f = f := by
 intro l
 induction l with
 | nil => intro f K h; cases h
 | cons c l ih =>
   intro f K h
   simp only [GH] at h
   cases e : Nat.beq c.f f
   · rw [e] at h; exact ih h
   · rw [e] at h
     cases h
     exact Nat.eq_of_beq_eq_true e
section
variable {P : Program} {Γ : Ctx} {F : AE} {w : World} {ρ : Names}
theorem N8 : ∀ {c : V} {l : List V} {xs : List Value}, Hr c = some l → AF F w ρ c xs none_ → l.length = xs.length ∧ ∀ (j : Nat) (x : V) (v : Value), l[j]? = some x → xs[j]? = some v → Ag F w ρ x v none_ := by
 intro c
 induction c with
 | unit => intro l xs h hr; simp only [Hr, Option.some.injEq] at h; subst h; simp only [AF] at hr; subst hr; exact ⟨rfl, fun j x v h => by simp at h⟩
 | cons x r _ ih =>
   intro l xs h hr
   simp only [Hr] at h
   obtain ⟨h1, h⟩ := AG h
   simp only [Option.map_eq_some_iff] at h
   obtain ⟨l', hl, rfl⟩ := h
   simp only [Bool.and_eq_true, Bool.not_eq_true'] at h1
   simp only [AF] at hr
   obtain ⟨a, b, fa, fb, rfl, k1, k2, k3, k4, _⟩ := hr
   have hsz : x.size = 1 := by cases x <;> simp_all [V.agg, V.size]
   obtain ⟨v, rfl⟩ : ∃ v, a = [v] := List.length_eq_one_iff.1 (k1.length.trans hsz)
   obtain ⟨m1, m2⟩ := ih hl (k2.mono k4)
   refine ⟨by simp [m1], fun j y u e1 e2 => ?_⟩
   cases j with
   | zero =>
     simp only [List.getElem?_cons_zero, Option.some.injEq, List.cons_append, List.nil_append] at e1 e2
     subst e1 e2
     exact Dp (k1.mono k3) h1.1 h1.2.1
   | succ j => exact m2 j y u (by simpa using e1) (by simpa using e2)
 | _ => intro l xs h; simp [Hr] at h
theorem Fz {tm tm' : Nat → V} {c : Call} (h : ∀ t ∈ CU c, tm' t = tm t) : C1 tm' c = C1 tm c := by
 unfold C1
 cases hc : c.callee with
 | value f =>
   have : AO tm' f = AO tm f := Du fun t ht => h t (by unfold CU; rw [hc]; exact List.mem_append_left _ ht)
   simp only [this]
 | _ => rfl
theorem GO {H H' : Id → Option V} : ∀ {σ : List (Id × List Be)}, (∀ id ∈ σ.map (·.1), H' id = H id) → partsOf H' σ = partsOf H σ := by
 intro σ
 induction σ with
 | nil => intro _; rfl
 | cons x σ ih =>
   obtain ⟨id, p⟩ := x
   intro h
   have h1 := h id (by simp)
   have h2 := ih fun i hi => h i (by simp at hi ⊢; exact .inr hi)
   simp only [partsOf, h1, h2]
theorem Kt {H H' : Id → Option V} : ∀ {σ : List (Id × List Be)} {vs : List V} {id : Id}, (∀ i ∈ σ.map (·.1), H' i = H i) → H' id = H id → Ce H' σ vs id = Ce H σ vs id := by
 intro σ
 induction σ with
 | nil => intro vs id _ h; exact h
 | cons x σ ih =>
   obtain ⟨id0, p0⟩ := x
   intro vs id h he
   cases vs with
   | nil => exact he
   | cons v vs =>
     simp only [Ce]
     by_cases e : id = id0
     · subst e; rw [Ay, Ay, h id (by simp)]
     · rw [BS _ _ e, BS _ _ e]
       exact ih (fun i hi => h i (by simp at hi ⊢; exact .inr hi)) he
theorem Ji {s u : St} {dst : Option Nat} {tk : List Nat} {σ : List (Id × List Be)} {res : V} {outs : List V} {rt : List Nat} (ht : ∀ t ∈ tk, u.tm t = s.tm t) (hH : ∀ i ∈ σ.map (·.1), u.H i = s.H i) :
 GV u dst tk σ res outs = over u (GV s dst tk σ res outs) { rt := rt, rh := σ.map (·.1), wt := (match dst with | some d => [d] | none => []) ++ tk, wh := σ.map (·.1) } := by
 have e : ∀ (a b : St), a.tm = b.tm → a.H = b.H → a = b := by rintro ⟨_, _⟩ ⟨_, _⟩ rfl rfl; rfl
 refine e _ _ (funext fun t => ?_) (funext fun i => ?_)
 · cases dst with
   | none =>
     show takes u.tm tk t = cond (Dr t ([] ++ tk)) (takes s.tm tk t) (u.tm t)
     by_cases h : t ∈ tk
     · rw [A7.2 (by simpa using h), cond_true]; exact C9 _ (ht t h)
     · rw [CI (by simpa using h), cond_false]; exact EG _ h
   | some d =>
     show Cp (takes u.tm tk) d (res.DU σ) t = cond (Dr t ([d] ++ tk)) (Cp (takes s.tm tk) d (res.DU σ) t) (u.tm t)
     by_cases hd : t = d
     · subst hd; rw [BD, BD, A7.2 (by simp), cond_true]
     · rw [Bg _ _ hd, Bg _ _ hd]
       by_cases h : t ∈ tk
       · rw [A7.2 (by simp [h]), cond_true]; exact C9 _ (ht t h)
       · rw [CI (by simp [hd, h]), cond_false]; exact EG _ h
 · show Ce u.H σ _ i = cond (CJ i (σ.map (·.1))) (Ce s.H σ _ i) (u.H i)
   by_cases h : i ∈ σ.map (·.1)
   · rw [BZ.2 h, cond_true]; exact Kt hH (hH i h)
   · rw [FM h, cond_false]; exact GY h
theorem Gn {tm : Nat → V} {l : List Operand} {t : Nat} (h : t ∈ l.flatMap fun x => Ah x (AO tm x)) : t ∈ l.flatMap Cr := by
 obtain ⟨x, hx, ht⟩ := List.mem_flatMap.1 h
 refine List.mem_flatMap.2 ⟨x, hx, ?_⟩
 unfold Ah at ht
 cases e : (AO tm x).Cf
 · rw [e] at ht; simp at ht
 · rw [e] at ht; exact ht
theorem OO {σ : List (Id × List Be)} : ∀ {x : V}, (x.Am σ).CB → (x.Am σ).DU σ = x := by
 intro x
 induction x with
 | ptr id p =>
   intro h
   simp only [V.Am] at h ⊢
   split at h
   · rename_i i q hl
     obtain ⟨j, p', e1, e2, e3⟩ := look_eq hl
     have e1 : i = j := by omega
     subst e1
     simp only [V.DU, e2, e3]
   · exact h.elim
 | own id p s N off len =>
   intro h
   simp only [V.Am] at h ⊢
   split at h
   · rename_i i q hl
     obtain ⟨j, p', e1, e2, e3⟩ := look_eq hl
     have e1 : i = j := by omega
     subst e1
     simp only [V.DU, e2, e3]
   · exact h.elim
 | BQ id e s nil n =>
   intro h
   simp only [V.Am] at h ⊢
   split at h
   · rename_i i hl
     obtain ⟨j, p', e1, e2, e3⟩ := look_eq hl
     have e1 : i = j := by omega
     subst e1
     have e3 : p' = [] := by
      cases p' with
      | nil => rfl
      | cons a b => cases e3
     subst e3
     simp only [V.DU, e2]
   · exact h.elim
 | cons x r hx hr => intro h; simp only [V.Am, V.DU] at h ⊢; rw [hx h.1, hr h.2]
 | arr s n get ih => intro h; simp only [V.Am, V.DU]; congr 1; funext i; exact ih i (h i)
 | CG x ih => intro h; simp only [V.Am, V.DU]; rw [ih h]
 | fn f c ih => intro h; simp only [V.Am, V.DU]; rw [ih h]
 | iface t x ih => intro h; simp only [V.Am, V.DU]; rw [ih h]
 | Aa nil x ih => intro h; simp only [V.Am, V.DU]; rw [ih h]
 | Aq e s nil n get ih => intro h; simp only [V.Am, V.DU]; congr 1; funext i; exact ih i (h i)
 | undef => intro h; exact h.elim
 | _ => intro _; rfl
theorem Is {σ : List (Id × List Be)} : ∀ {l : List V}, Q0 (l.map (V.Am σ)) → (l.map (V.Am σ)).map (V.DU σ) = l
 | [], _ => rfl
 | x :: l, h => by
   simp only [List.map_cons] at h ⊢
   rw [OO h.1, Is h.2]
theorem Lu : ∀ {x z : V} {j : Nat}, x.nth j = some z → x.Dy j z = some x := by
 intro x
 induction x with
 | cons a r _ ih =>
   intro z j h
   cases j with
   | zero => simp only [V.nth, Option.some.injEq] at h; subst h; rfl
   | succ j => simp only [V.nth] at h; simp only [V.Dy, ih h, Option.map_some]
 | _ => intro z j h; simp [V.nth] at h
theorem P8 : ∀ {p : List Be} {c y : V}, c.Dk p = some y → c.put p y = some c := by
 intro p
 induction p with
 | nil => intro c y h; simp only [V.Dk, Option.some.injEq] at h; subst h; simp [V.put]
 | cons x p ih =>
   intro c y h
   cases x with
   | BN j d =>
     simp only [V.Dk] at h
     obtain ⟨hb, h⟩ := AG h
     simp only [V.put, hb, cond_true]
     cases hn : c.nth j with
     | none => rw [hn] at h; cases h
     | some z =>
       rw [hn] at h
       simp only at h ⊢
       rw [ih h]
       exact Lu hn
   | idx s' n' i =>
     cases c with
     | arr s n get =>
       simp only [V.Dk] at h
       obtain ⟨hb, h⟩ := AG h
       simp only [V.put, hb, cond_true, ih h]
       congr 2
       funext j
       rw [V.Ch]
       cases hj : Nat.beq j i
       · rfl
       · rw [Nat.eq_of_beq_eq_true hj]; rfl
     | _ => simp [V.Dk] at h
theorem Og {p : List Be} {c y : V} (h : c.Dk p = some y) : c.RP p y = some c := by
 cases p with
 | nil => simp only [V.Dk, Option.some.injEq] at h; subst h; rfl
 | cons x p => exact P8 h
theorem L2 {H : Id → Option V} : ∀ {σ : List (Id × List Be)} {ys : List V} {b : Bool}, partsOf H σ = some (b, ys) → Ce H σ ys = H := by
 intro σ
 induction σ with
 | nil => intro ys b _; cases ys <;> rfl
 | cons a σ ih =>
   obtain ⟨id, p⟩ := a
   intro ys b h
   simp only [partsOf] at h
   split at h <;> (try cases h)
   rename_i c hc
   split at h <;> (try cases h)
   rename_i y b' l hy hl
   obtain ⟨_, h⟩ := AG h
   simp only [Option.some.injEq, Prod.mk.injEq] at h
   obtain ⟨_, rfl⟩ := h
   funext i
   simp only [Ce, ih hl]
   by_cases e : i = id
   · subst e; rw [Ay, hc, Option.bind_some, Og hy]
   · rw [BS _ _ e]
theorem I8 {H : Id → Option V} : ∀ {σ : List (Id × List Be)}, Ce H σ [] = H := by
 intro σ; cases σ <;> rfl
theorem Nb {u : St} {dst : Option Nat} {tk : List Nat} {σ : List (Id × List Be)} {res : V} {ys zs : List V} {b : Bool} (h : partsOf u.H σ = some (b, ys)) (hn : zs.map (V.DU σ) = ys) :
 GV u dst tk σ res zs = GV u dst tk σ res [] := by
 unfold GV
 rw [hn, L2 h, List.map_nil, I8]
theorem IC {s u : St} {dst : Option Nat} {tk : List Nat} {σ : List (Id × List Be)} {res : V} {rt : List Nat} {rh : List Id} (ht : ∀ t ∈ tk, u.tm t = s.tm t) :
 GV u dst tk σ res [] = over u (GV s dst tk σ res []) { rt := rt, rh := rh, wt := (match dst with | some d => [d] | none => []) ++ tk, wh := [] } := by
 have e : ∀ (a b : St), a.tm = b.tm → a.H = b.H → a = b := by rintro ⟨_, _⟩ ⟨_, _⟩ rfl rfl; rfl
 refine e _ _ (funext fun t => ?_) (funext fun i => ?_)
 · cases dst with
   | none =>
     show takes u.tm tk t = cond (Dr t ([] ++ tk)) (takes s.tm tk t) (u.tm t)
     by_cases h : t ∈ tk
     · rw [A7.2 (by simpa using h), cond_true]; exact C9 _ (ht t h)
     · rw [CI (by simpa using h), cond_false]; exact EG _ h
   | some d =>
     show Cp (takes u.tm tk) d (res.DU σ) t = cond (Dr t ([d] ++ tk)) (Cp (takes s.tm tk) d (res.DU σ) t) (u.tm t)
     by_cases hd : t = d
     · subst hd; rw [BD, BD, A7.2 (by simp), cond_true]
     · rw [Bg _ _ hd, Bg _ _ hd]
       by_cases h : t ∈ tk
       · rw [A7.2 (by simp [h]), cond_true]; exact C9 _ (ht t h)
       · rw [CI (by simp [hd, h]), cond_false]; exact EG _ h
 · show Ce u.H σ ([].map (V.DU σ)) i = u.H i
   rw [List.map_nil, I8]
theorem PL {nt : Nat} {Nh : List (BC P)} {o : Oper} {s : St} {c : Call} {g : FuncId} {caps : List V} {K : BC P} (hop : o.op = .call c) (hcal : C1 s.tm c = some (g, caps)) (hK : GH Nh g = some K)
 (hneed : (Gg nt o c s K caps).need = true) (hside : (Gg nt o c s K caps).side) (y : (Gg nt o c s K caps).Y) (hy : (Gg nt o c s K caps).run y) :
 over s ((Gg nt o c s K caps).next y) (Gg nt o c s K caps).fx = (Gg nt o c s K caps).next y ∧ ((Gg nt o c s K caps).fx.kh = [] ∧ (Gg nt o c s K caps).fx.kt = []) ∧ ∀ ops i gs, ops[i]? = some o → EZ ops nt Γ s o gs true → CX P ops (Inv Γ nt) i s ((Gg nt o c s K caps).next y) ((Gg nt o c s K caps).fx.with gs) := by
 have hKf := KS hK
 simp only [Gg, Bool.and_eq_true] at hneed
 obtain ⟨hdst, hnd, hnI, hsome, hb, has, hos⟩ := hneed
 obtain ⟨⟨b, ys⟩, hps⟩ := Option.isSome_iff_exists.1 hsome
 rw [hps] at hb hos
 simp only [Option.getD_some] at hb hos
 subst hb
 simp only [Gg, hps, Option.getD_some] at hside hy
 obtain ⟨hs1, hs2⟩ := hside
 generalize hσ : reach s.H 40 (((B6 K.ash (c.args.toList.map (AO s.tm))).2 ++ caps).flatMap refs) [] = σ at *
 generalize hx : K.dec (((B6 K.ash (c.args.toList.map (AO s.tm))).2 ++ caps).map (V.Am σ)) ((B6 K.osh ys).2.map (V.Am σ)) = x at *
 have hok := K.ok x y hy
 rw [← hs1, ← hs2, hKf] at hok
 have htk : ∀ t, t ∈ (c.args.toList.flatMap fun x => Ah x (AO s.tm x)) → t ∈ CU c := fun t ht => List.mem_append_right _ (Gn ht)
 simp only [Gg, hσ, hps, Option.getD_some, hx]
 refine ⟨(Ji (fun _ _ => rfl) (fun _ _ => rfl)).symm, ⟨trivial, trivial⟩, fun ops i gs hops hw => ?_⟩
 intro u a w rest KK R hag hI hk
 have hagt : ∀ t ∈ CU c, u.tm t = s.tm t := fun t ht => hag.tm t (List.mem_append_right _ ht)
 have hagH : ∀ i ∈ σ.map (·.1), u.H i = s.H i := fun i hi => hag.H i hi
 have hw' := hw u a w (fun t ht => hag.tm t (List.mem_append_left _ ht)) hI
 obtain ⟨hsz, hdf, F, ρ, fam, hm, hs⟩ := hI
 have hargs : ∀ x ∈ c.args.toList, AO u.tm x = AO s.tm x := fun x hx => Du fun t ht => hagt t (List.mem_append_right _ (List.mem_flatMap.2 ⟨x, hx, ht⟩))
 have hcal' : C1 u.tm c = some (g, caps) := by rw [Fz hagt]; exact hcal
 -- the callee's value
 unfold C1 at hcal'
 split at hcal' <;> (try cases hcal')
 rename_i fo hfo
 split at hcal' <;> (try cases hcal')
 rename_i g' cv hcv
 simp only [Option.map_eq_some_iff, Prod.mk.injEq] at hcal'
 obtain ⟨l', hl', rfl, rfl⟩ := hcal'
 have hfv := Ab hs fo
 rw [hcv] at hfv
 obtain ⟨xs, hval, hxs⟩ := NM hfv
 obtain ⟨e1, e2⟩ := N8 hl' hxs
 have hmap : c.args.toList.map (AO u.tm) = c.args.toList.map (AO s.tm) := List.map_congr_left fun x hx => hargs x hx
 have hflat : (c.args.toList.flatMap fun x => Ah x (AO u.tm x)) = c.args.toList.flatMap fun x => Ah x (AO s.tm x) := DK fun x hx => by rw [hargs x hx]
 have hpu : partsOf u.H σ = some (true, ys) := by rw [GO hagH]; exact hps
 rw [List.map_append] at hok
 have hc := N9 (a := a) (dst := o.dst) hm hs (f := g') (xs := c.args.toList) (σ := σ) (ys := ys) (res := K.res y) (outs := K.outs x y) (by rw [hflat]; exact hnd) hnI hpu (fun d hd => by rw [hsz]; exact Bb hdst hd) ⟨e1, e2⟩ (ash := K.ash) (osh := K.osh) (by rw [hmap]; exact has) hos (by rw [hmap]; exact hok)
 have hbody : (fn : Func) → K.fn = fn → True := fun _ _ => trivial
 refine Ax.L6 (f := g') (args := (c.args.toList.map a.eval ++ xs).toArray) (w' := w) hops hw' ?_ (hc.mono ?_)
 · have hKb : ¬ (K.fn.body.isNone = true) := by
    have := K.hb
    cases hbb : K.fn.body <;> simp_all
   have hmapE : c.args.map a.eval = (c.args.toList.map a.eval).toArray := by rw [← Array.toList_map, Array.toArray_toList]
   simp only [execOp, hop, resolve, hfo, hval, Deferred.ofValue, Sem.run_bind, Sem.run_pure, Result.andThen_ok, invoke, callFunc, run_program, ← hKf, K.hf, K.hn, Bool.false_eq_true, if_false, hKb]
   congr 2
   rw [hmapE]
   simp
 · rintro e w' he
   cases e with
   | panicked => exact he
   | outgrown => exact he
   | returned v =>
     obtain ⟨F', fam', m1, m2⟩ := he
     refine hk _ _ ⟨by rw [Gu]; exact hsz, ?_, F', ρ, fam', m1, ?_⟩
     · show (a.put o.dst v).defers = []
       rw [← hdf]
       cases o.dst <;> rfl
     · rw [hflat, Ji (s := s) (rt := gs ++ CU c) (fun t ht => hagt t (htk t ht)) hagH] at m2
       exact m2
theorem PM {nt : Nat} {Nh : List (BC P)} {o : Oper} {s : St} {c : Call} {g : FuncId} {caps : List V} {K : BC P} (hop : o.op = .call c) (hcal : C1 s.tm c = some (g, caps)) (hK : GH Nh g = some K) (hpure : K.pure = true)
 (hneed : (Gh nt o c s K caps).need = true) (hside : (Gh nt o c s K caps).side) (y : (Gh nt o c s K caps).Y) (hy : (Gh nt o c s K caps).run y) :
 over s ((Gh nt o c s K caps).next y) (Gh nt o c s K caps).fx = (Gh nt o c s K caps).next y ∧ ((Gh nt o c s K caps).fx.kh = [] ∧ (Gh nt o c s K caps).fx.kt = []) ∧ ∀ ops i gs, ops[i]? = some o → EZ ops nt Γ s o gs true → CX P ops (Inv Γ nt) i s ((Gh nt o c s K caps).next y) ((Gh nt o c s K caps).fx.with gs) := by
 have hKf := KS hK
 simp only [Gh, Bool.and_eq_true] at hneed
 obtain ⟨hdst, hnd, hnI, hsome, hb, has⟩ := hneed
 obtain ⟨⟨b, ys⟩, hps⟩ := Option.isSome_iff_exists.1 hsome
 rw [hps] at hb
 simp only [Option.getD_some] at hb
 subst hb
 simp only [Gh, hps, Option.getD_some] at hside hy
 obtain ⟨hs1, hs2⟩ := hside
 generalize hσ : reach s.H 40 (((B6 K.ash (c.args.toList.map (AO s.tm))).2 ++ caps).flatMap refs) [] = σ at *
 generalize hx : K.dec (((B6 K.ash (c.args.toList.map (AO s.tm))).2 ++ caps).map (V.Am σ)) (ys.map (V.Am σ)) = x at *
 have hok := K.ok x y hy
 rw [K.Ku hpure x y hy] at hok
 have hnm2 : (ys.map (V.Am σ)).map (V.DU σ) = ys := Is (by rw [hs2]; exact K.I9 hpure x)
 rw [← hs1, ← hs2, hKf] at hok
 have hok : OK P g ((B6 K.ash (c.args.toList.map (AO s.tm))).2 ++ caps |>.map (V.Am σ)) ((B6 [] ys).2.map (V.Am σ)) (K.res y) (ys.map (V.Am σ)) := hok
 have htk : ∀ t, t ∈ (c.args.toList.flatMap fun x => Ah x (AO s.tm x)) → t ∈ CU c := fun t ht => List.mem_append_right _ (Gn ht)
 simp only [Gh, hσ, hps, Option.getD_some, hx]
 refine ⟨(IC (fun _ _ => rfl)).symm, ⟨trivial, trivial⟩, fun ops i gs hops hw => ?_⟩
 intro u a w rest KK R hag hI hk
 have hagt : ∀ t ∈ CU c, u.tm t = s.tm t := fun t ht => hag.tm t (List.mem_append_right _ ht)
 have hagH : ∀ i ∈ σ.map (·.1), u.H i = s.H i := fun i hi => hag.H i hi
 have hw' := hw u a w (fun t ht => hag.tm t (List.mem_append_left _ ht)) hI
 obtain ⟨hsz, hdf, F, ρ, fam, hm, hs⟩ := hI
 have hargs : ∀ x ∈ c.args.toList, AO u.tm x = AO s.tm x := fun x hx => Du fun t ht => hagt t (List.mem_append_right _ (List.mem_flatMap.2 ⟨x, hx, ht⟩))
 have hcal' : C1 u.tm c = some (g, caps) := by rw [Fz hagt]; exact hcal
 -- the callee's value
 unfold C1 at hcal'
 split at hcal' <;> (try cases hcal')
 rename_i fo hfo
 split at hcal' <;> (try cases hcal')
 rename_i g' cv hcv
 simp only [Option.map_eq_some_iff, Prod.mk.injEq] at hcal'
 obtain ⟨l', hl', rfl, rfl⟩ := hcal'
 have hfv := Ab hs fo
 rw [hcv] at hfv
 obtain ⟨xs, hval, hxs⟩ := NM hfv
 obtain ⟨e1, e2⟩ := N8 hl' hxs
 have hmap : c.args.toList.map (AO u.tm) = c.args.toList.map (AO s.tm) := List.map_congr_left fun x hx => hargs x hx
 have hflat : (c.args.toList.flatMap fun x => Ah x (AO u.tm x)) = c.args.toList.flatMap fun x => Ah x (AO s.tm x) := DK fun x hx => by rw [hargs x hx]
 have hpu : partsOf u.H σ = some (true, ys) := by rw [GO hagH]; exact hps
 rw [List.map_append] at hok
 have hc := N9 (a := a) (dst := o.dst) hm hs (f := g') (xs := c.args.toList) (σ := σ) (ys := ys) (res := K.res y) (outs := ys.map (V.Am σ)) (by rw [hflat]; exact hnd) hnI hpu (fun d hd => by rw [hsz]; exact Bb hdst hd) ⟨e1, e2⟩ (ash := K.ash) (osh := []) (by rw [hmap]; exact has) rfl (by rw [hmap]; exact hok)
 have hbody : (fn : Func) → K.fn = fn → True := fun _ _ => trivial
 refine Ax.L6 (f := g') (args := (c.args.toList.map a.eval ++ xs).toArray) (w' := w) hops hw' ?_ (hc.mono ?_)
 · have hKb : ¬ (K.fn.body.isNone = true) := by
    have := K.hb
    cases hbb : K.fn.body <;> simp_all
   have hmapE : c.args.map a.eval = (c.args.toList.map a.eval).toArray := by rw [← Array.toList_map, Array.toArray_toList]
   simp only [execOp, hop, resolve, hfo, hval, Deferred.ofValue, Sem.run_bind, Sem.run_pure, Result.andThen_ok, invoke, callFunc, run_program, ← hKf, K.hf, K.hn, Bool.false_eq_true, if_false, hKb]
   congr 2
   rw [hmapE]
   simp
 · rintro e w' he
   cases e with
   | panicked => exact he
   | outgrown => exact he
   | returned v =>
     obtain ⟨F', fam', m1, m2⟩ := he
     refine hk _ _ ⟨by rw [Gu]; exact hsz, ?_, F', ρ, fam', m1, ?_⟩
     · show (a.put o.dst v).defers = []
       rw [← hdf]
       cases o.dst <;> rfl
     · rw [hflat, Nb hpu hnm2, IC (s := s) (rt := gs ++ CU c) (rh := σ.map (·.1)) (fun t ht => hagt t (htk t ht))] at m2
       exact m2
theorem Qm {nt : Nat} {Nh : List (BC P)} {o : Oper} {s : St} {ct : Mn} (h : Qn Nh nt o s = some ct) (hneed : ct.need = true) (hside : ct.side) (y : ct.Y) (hy : ct.run y) :
 over s (ct.next y) ct.fx = ct.next y ∧ (ct.fx.kh = [] ∧ ct.fx.kt = []) ∧ ∀ ops i gs, ops[i]? = some o → EZ ops nt Γ s o gs true → CX P ops (Inv Γ nt) i s (ct.next y) (ct.fx.with gs) := by
 unfold Qn at h
 split at h <;> (try cases h)
 rename_i c hop
 split at h <;> (try cases h)
 rename_i g caps hcal
 split at h <;> (try cases h)
 rename_i K hK
 cases hp : K.pure
 · rw [hp, cond_false] at h
   obtain rfl := Option.some.inj h
   exact PL hop hcal hK hneed hside y hy
 · rw [hp, cond_true] at h
   obtain rfl := Option.some.inj h
   exact PM hop hcal hK hp hneed hside y hy
end
end Go.Vm
end
section
namespace Go.Vm
open Go
structure AR : Type 1 where
 id : Nat
 K : List Item
 lay : Q1
 X : Type
 enc : X → List V
 dec : List V → X
structure AV (X R : Type) where
 rel : X → R → Prop
 ev : Nat → X → Option R
 Gf : ∀ n x y, ev n x = some y → rel x y
structure Nd (R : Type) : Type 1 where
 S : AR
 D : AV S.X R
inductive TT (P : Program) (R : Type) : Type 1 where
 | ret (r : R)
 | fail
 | need (b : Bool) (t : TT P R)
 | ite (b : Bool) (t e : TT P R)
 | side (p : Prop) (t : TT P R)
 | call (K : BC P) (x : K.X) (k : K.Y → TT P R)
 | Ac (S : AR) (D : AV S.X R) (x : S.X)
 | GR (p : Prop) (S : AR) (D : AV S.X R) (x : S.X)
namespace TT
variable {P : Program} {R : Type}
def tree (enc : R → List V) : TT P R → Tree
 | .ret r => .ret (enc r)
 | .fail => .fail
 | .need b t => cond b (t.tree enc) .fail
 | .ite b t e => cond b (t.tree enc) (e.tree enc)
 | .side p t => .side p (t.tree enc)
 | .call K x k => .side (K.args x = K.args x ∧ K.Gy x = K.Gy x) (.call (K.rel x) fun y => (k y).tree enc)
 | .Ac S D x => .side (S.K = S.K) (.side (S.enc x = S.enc x) (.call (D.rel x) fun y => .ret (enc y)))
 | .GR p S D x => .side (S.K = S.K) (.side p (.call (D.rel x) fun y => .ret (enc y)))
def Fin : TT P R → R → Prop
 | .ret r, r' => r = r'
 | .fail, _ => False
 | .need b t, r => b = true ∧ t.Fin r
 | .ite b t e, r => (b = true → t.Fin r) ∧ (b = false → e.Fin r)
 | .side _ t, r => t.Fin r
 | .call K x k, r => ∃ y, K.rel x y ∧ (k y).Fin r
 | .Ac _ D x, r => D.rel x r
 | .GR _ _ D x, r => D.rel x r
def AH : TT P R → Prop
 | .need _ t => t.AH
 | .ite _ t e => t.AH ∧ e.AH
 | .side p t => p ∧ t.AH
 | .call _ _ k => ∀ y, (k y).AH
 | .GR p _ _ _ => p
 | _ => True
theorem sR {r : R} : (TT.ret r : TT P R).AH := trivial
theorem SD : (TT.fail : TT P R).AH := trivial
theorem sJ {S : AR} {D : AV S.X R} {x : S.X} : (TT.Ac S D x : TT P R).AH := trivial
theorem RE {p : Prop} {S : AR} {D : AV S.X R} {x : S.X} (hp : p) : (TT.GR p S D x : TT P R).AH := hp
theorem sN {b : Bool} {t : TT P R} (h : t.AH) : (TT.need b t).AH := h
theorem sI {b : Bool} {t e : TT P R} (h : t.AH) (k : e.AH) : (TT.ite b t e).AH := ⟨h, k⟩
theorem sS {p : Prop} {t : TT P R} (hp : p) (h : t.AH) : (TT.side p t).AH := ⟨hp, h⟩
theorem sC {K : BC P} {x : K.X} {k : K.Y → TT P R} (h : ∀ y, (k y).AH) : (TT.call K x k).AH := h
def ev (n : Nat) : TT P R → Option R
 | .ret r => some r
 | .fail => none
 | .need b t => cond b (t.ev n) none
 | .ite b t e => cond b (t.ev n) (e.ev n)
 | .side _ t => t.ev n
 | .call K x k => match K.ev n x with | some y => (k y).ev n | none => none
 | .Ac _ D x => D.ev n x
 | .GR _ _ D x => D.ev n x
theorem PF (enc : R → List V) : ∀ {t : TT P R} {r : R}, t.AH → t.Fin r → (t.tree enc).DP (enc r) := by
 intro t
 induction t with
 | ret r => intro r' _ h; exact congrArg enc h
 | fail => intro r _ h; exact h.elim
 | need b t ih =>
   intro r hs h
   obtain ⟨rfl, h⟩ := h
   exact ih hs h
 | ite b t e iht ihe =>
   intro r hs h
   cases b
   · exact ihe hs.2 (h.2 rfl)
   · exact iht hs.1 (h.1 rfl)
 | side p t ih => intro r hs h; exact ⟨hs.1, ih hs.2 h⟩
 | call K x k ih => intro r hs h; obtain ⟨y, h1, h2⟩ := h; exact ⟨⟨rfl, rfl⟩, y, h1, ih y (hs y) h2⟩
 | Ac S D x => intro r _ h; exact ⟨rfl, rfl, r, h, rfl⟩
 | GR p S D x => intro r hp h; exact ⟨rfl, hp, r, h, rfl⟩
theorem Sb {n : Nat} : ∀ {t : TT P R} {r : R}, t.ev n = some r → t.Fin r := by
 intro t
 induction t with
 | ret r => intro r' h; exact Option.some.inj h
 | fail => intro r h; cases h
 | need b t ih => intro r h; obtain ⟨hb, h⟩ := AG h; exact ⟨hb, ih h⟩
 | ite b t e iht ihe =>
   intro r h
   cases b
   · exact ⟨nofun, fun _ => ihe h⟩
   · exact ⟨fun _ => iht h, nofun⟩
 | side p t ih => intro r h; exact ih h
 | call K x k ih =>
   intro r h
   simp only [ev] at h
   split at h
   · rename_i y hy; exact ⟨y, K.Gf n x y hy, ih y h⟩
   · cases h
 | Ac S D x => intro r h; exact D.Gf n x r h
 | GR p S D x => intro r h; exact D.Gf n x r h
end TT
def AV.of {P : Program} {X R : Type} (tt : X → TT P R) : AV X R where
 rel x y := (tt x).Fin y
 ev n x := (tt x).ev n
 Gf _ _ _ h := TT.Sb h
def AV.none {X R : Type} : AV X R where
 rel _ _ := False
 ev _ _ := .none
 Gf _ _ _ h := by cases h
def AV.lvl {P : Program} {X R : Type} (tt : AV X R → X → TT P R) : Nat → AV X R
 | 0 => .none
 | n + 1 => .of (tt (lvl tt n))
def AV.loop {P : Program} {X R : Type} (tt : AV X R → X → TT P R) : AV X R where
 rel x y := ∃ n, (lvl tt n).rel x y
 ev n x := (lvl tt n).ev n x
 Gf n x y h := ⟨n, (lvl tt n).Gf n x y h⟩
def R5 (id : Nat) : Code → List Item → Option (List Item)
 | .region i ops d, K => cond (Nat.beq i id) (some (.code (.region i ops d) :: K)) none
 | .seq a b, K => match R5 id a (.code b :: K) with
   | some r => some r
   | none => R5 id b K
 | .cond _ a b, K => match R5 id a K with
   | some r => some r
   | none => R5 id b K
 | .block i c, K => R5 id c (.inBlock i :: K)
 | .loop c, K => R5 id c (.inLoop c :: K)
 | .scope c, K => R5 id c (.inScope c :: K)
 | _, _ => none
def Ig {R : Type} : List (Nd R) → Nat → Option (Nd R)
 | [], _ => none
 | l :: r, id => cond (Nat.beq l.S.id id) (some l) (Ig r id)
structure BH (P : Program) : Type 1 where
 fn : Func
 nt : Nat
 pol : Nat → Nat
 hint : Nat → List Hint
 JR : Nat → List Hint
 NR : List Hint
 SE : List Sh
 Gv : List Sh
 Nh : List (BC P)
 R : Type
 enc : R → List V
 SI : Nat → List Rec
def S6 {R : Type} (enc : R → List V) (labs : List (Nd R)) (id : Nat) : Option (List Item × (St → Tree)) :=
 match Ig labs id with
 | some l => some (l.S.K, fun s => match l.S.lay.K7 s with
   | some (b, vs) => cond b (.side (vs = l.S.enc (l.S.dec vs)) (.call (l.D.rel (l.S.dec vs)) fun y => .ret (enc y))) .fail
   | none => .fail)
 | none => none
def BH.env {P : Program} (J : BH P) (labs : List (Nd J.R)) : Env where
 pol := J.pol
 nt := J.nt
 hint := J.hint
 JR := J.JR
 NR := J.NR
 fin := Sa P J.fn J.SE J.Gv
 cut := S6 J.enc labs
 call := Qn J.Nh J.nt
def BH.den {P : Program} (J : BH P) (labs : List (Nd J.R)) (S : AR) (x : S.X) (n : Nat) : Tree :=
 Sg P (J.env labs) n { I5 := none, K := S.K, s := S.lay.spread (S.enc x), kn := fun _ => none, fx := [], rs := J.SI S.id }
def AZ {P : Program} (J : BH P) (S : AR) (D : AV S.X J.R) : Prop :=
 ∀ Γ : Ctx, (∀ i, J.Gv.length ≤ i → Γ.par i = none) → ∀ x y, D.rel x y → ∀ a w, Inv Γ J.nt (S.lay.spread (S.enc x)) a w → Ax P S.K (Qz P J.fn Γ (J.enc y)) a w
section
variable {P : Program} {J : BH P}
theorem LB {R : Type} : ∀ {l : List (Nd R)} {id : Nat} {x : Nd R}, Ig l id = some x → x ∈ l := by
 intro l
 induction l with
 | nil => intro id x h; cases h
 | cons a l ih =>
   intro id x h
   simp only [Ig] at h
   cases e : Nat.beq a.S.id id
   · rw [e] at h; exact List.mem_cons_of_mem _ (ih h)
   · rw [e] at h; cases h; exact List.mem_cons_self
theorem Sf (hm : P.follows .mixedOrders = true) {labs : List (Nd J.R)} (hl : ∀ l ∈ labs, l.S.lay.D1.length = J.Gv.length ∧ AZ J l.S l.D) {Γ : Ctx} (hp : ∀ i, J.Gv.length ≤ i → Γ.par i = none) :
 Mk P (J.env labs) Γ (Qz P J.fn Γ) where
 mixed := hm
 fin s r h a w hI := Rm hp h hI
 cut id K f hc s r h a w hI := by
  simp only [BH.env, S6] at hc
  split at hc <;> (try cases hc)
  rename_i l hf
  obtain ⟨h1, h2⟩ := hl l (LB hf)
  simp only at h
  split at h <;> (try exact h.elim)
  rename_i b vs hg
  obtain ⟨hb, hv, y, hy, hr⟩ := C7 h
  subst hb
  obtain rfl : J.enc y = r := hr
  have hI2 := NP hI hg (fun i hi => hp i (by omega))
  rw [hv] at hI2
  exact h2 Γ hp _ y hy a w hI2
 call o s ct hc hneed hside y hy := Qm (nt := J.nt) hc hneed hside y hy
theorem lbk (hm : P.follows .mixedOrders = true) {labs : List (Nd J.R)} (hl : ∀ l ∈ labs, l.S.lay.D1.length = J.Gv.length ∧ AZ J l.S l.D) {S : AR} {tt : S.X → TT P J.R} (n : Nat)
 (hd : ∀ x, J.den labs S x n = (tt x).tree J.enc) (hs : ∀ x, (tt x).AH) : AZ J S (.of tt) := by
 intro Γ hp x y hxy a w hI
 have h := TT.PF J.enc (hs x) hxy
 rw [← hd x] at h
 exact NU (Sf hm hl hp) h (fun _ _ h => by cases h) rfl a w hI
theorem lbn : ∀ l ∈ ([] : List (Nd J.R)), l.S.lay.D1.length = J.Gv.length ∧ AZ J l.S l.D := fun _ h => by cases h
theorem O3 {a : Nd J.R} {labs : List (Nd J.R)} (h1 : a.S.lay.D1.length = J.Gv.length) (h2 : AZ J a.S a.D) (h : ∀ l ∈ labs, l.S.lay.D1.length = J.Gv.length ∧ AZ J l.S l.D) :
 ∀ l ∈ a :: labs, l.S.lay.D1.length = J.Gv.length ∧ AZ J l.S l.D := fun l hl => by
 rcases List.mem_cons.1 hl with rfl | hl
 · exact ⟨h1, h2⟩
 · exact h l hl
theorem QS {S : AR} : AZ J S .none := fun _ _ _ _ h => h.elim
theorem QP {S : AR} {tt : AV S.X J.R → S.X → TT P J.R} (h : ∀ D, AZ J S D → AZ J S (.of (tt D))) : ∀ n, AZ J S (AV.lvl tt n)
 | 0 => QS
 | n + 1 => h _ (QP h n)
theorem BF {S : AR} {tt : AV S.X J.R → S.X → TT P J.R} (h : ∀ D, AZ J S D → AZ J S (.of (tt D))) : AZ J S (AV.loop tt) :=
 fun Γ hp x y ⟨n, hn⟩ a w hI => QP h n Γ hp x y hn a w hI
def Dv (k np : Nat) : Q1 where
 live := (List.range' 0 k).map (·, .any)
 D1 := List.replicate np .any
 K0 := []
theorem MW (k : Nat) : ∀ (b : Nat) (vs os : List V) (t : Nat), vs.length = k → FZ ((List.range' b k).map (·, Sh.any)) (vs ++ os) (b + t) = vs.getD t .undef ∧ D6 ((List.range' b k).map (·, Sh.any)) (vs ++ os) = os ∧
 ∀ t, t < b → FZ ((List.range' b k).map (·, Sh.any)) (vs ++ os) t = .undef := by
 induction k with
 | zero => intro b vs os t h; obtain rfl := List.eq_nil_of_length_eq_zero h; exact ⟨by simp [FZ], rfl, fun _ _ => by simp [FZ]⟩
 | succ k ih =>
   intro b vs os t h
   cases vs with
   | nil => simp at h
   | cons v vs =>
     have hl : vs.length = k := by simpa using h
     rw [List.range'_succ, List.map_cons]
     refine ⟨?_, (ih (b + 1) vs os 0 hl).2.1, fun t ht => ?_⟩
     · show cond (Nat.beq (b + t) b) v (FZ _ (vs ++ os) (b + t)) = _
       cases t with
       | zero => simp
       | succ t =>
         have e : Nat.beq (b + (t + 1)) b = false := by
          cases hb : Nat.beq (b + (t + 1)) b
          · rfl
          · have := Nat.eq_of_beq_eq_true hb; omega
         rw [e, cond_false]
         have := (ih (b + 1) vs os t hl).1
         rw [show b + 1 + t = b + (t + 1) by omega] at this
         rw [this]
         simp
     · show cond (Nat.beq t b) v (FZ _ (vs ++ os) t) = _
       have e : Nat.beq t b = false := by
        cases hb : Nat.beq t b
        · rfl
        · have := Nat.eq_of_beq_eq_true hb; omega
       rw [e, cond_false]
       exact (ih (b + 1) vs os 0 hl).2.2 t (by omega)
theorem PI : ∀ (np : Nat) (os : List V) (i : Nat), os.length = np → GP (List.replicate np Sh.any) os i = os[i]? := by
 intro np
 induction np with
 | zero => intro os i h; obtain rfl := List.eq_nil_of_length_eq_zero h; rfl
 | succ np ih =>
   intro os i h
   cases os with
   | nil => simp at h
   | cons o os =>
     rw [List.replicate_succ]
     cases i with
     | zero => rfl
     | succ i => exact ih os i (by simpa using h)
theorem LC {vs os : List V} : (Dv vs.length os.length).spread (vs ++ os) = G3 vs os := by
 have e : ∀ (a b : St), a.tm = b.tm → a.H = b.H → a = b := by rintro ⟨_, _⟩ ⟨_, _⟩ rfl rfl; rfl
 refine e _ _ (funext fun t => ?_) (funext fun i => ?_)
 · have := (MW vs.length 0 vs os t rfl).1
   rw [Nat.zero_add] at this
   exact this
 · cases i with
   | par i =>
     show GP (List.replicate os.length Sh.any) (D6 _ (vs ++ os)) i = os[i]?
     rw [show D6 (Dv vs.length os.length).live (vs ++ os) = os from (MW vs.length 0 vs os 0 rfl).2.1]
     exact PI _ _ _ rfl
   | loc t j => rfl
theorem HD {f : FuncId} {fn : Func} {code : Code} (hf : P.funcs[f]? = some fn) (hb : fn.body = some code) (hJ : J.fn = fn) {S : AR} {D : AV S.X J.R} (hL : AZ J S D) (hK : S.K = [.code code])
 {x : S.X} {y : J.R} (h : D.rel x y) {vs os : List V} (henc : S.enc x = vs ++ os) (hlay : S.lay = Dv vs.length os.length) (hnt : J.nt = vs.length + (fn.ntmps - vs.length)) (hnp : J.Gv.length = os.length)
 {res : V} {outs : List V} (hy : J.enc y = res :: outs) (hsz : EL os outs = true) : OK P f vs os res outs := by
 refine ⟨hsz, fun Γ ρ fam vals hv hm hs => ?_⟩
 have hp : ∀ i, J.Gv.length ≤ i → Γ.par i = none := by
  intro i hi
  rw [← hs.pn i, ← hs.nm]
  show os[i]? = none
  exact List.getElem?_eq_none (by omega)
 have hI : Inv Γ J.nt (S.lay.spread (S.enc x)) { tmps := vals ++ Array.replicate (fn.ntmps - vals.size) Go.undef, defers := [] } Γ.w := by
  rw [henc, hlay, LC]
  refine ⟨by simp [hv, hnt], rfl, Γ.F, ρ, fam, hm, ⟨fun t => ?_, hs.nm, hs.bl, hs.off, hs.Cx, hs.new, hs.lt, hs.pn⟩⟩
  have h1 := hs.tm t
  by_cases ht : t < vals.size
  · have : (vals ++ Array.replicate (fn.ntmps - vals.size) Go.undef).getD t Go.undef = vals.getD t Go.undef := by
     simp only [Array.getD_eq_getD_getElem?]
     rw [Array.getElem?_append_left ht]
    rw [this]
    exact h1
  · have : (G3 vs os).tm t = .undef := by
     show vs.getD t .undef = .undef
     rw [List.getD_eq_getElem?_getD, List.getElem?_eq_none (by omega)]
     rfl
    rw [this]
    trivial
 have hr := hL Γ hp x y h _ _ hI
 rw [hK] at hr
 refine KA hf hb (hr.mono ?_)
 rintro a w ⟨h1, v, h2, F', ρ', fam', h3, h4⟩
 rw [hy] at h4
 rw [hJ] at h2
 exact ⟨h1, v, h2, F', ρ', fam', h3, h4⟩
end
end Go.Vm
end
section
namespace Go.Vm
open Go
structure Sl (α : Type) where
 nil : Bool
 n : Nat
 get : Nat → α
structure Bx (α : Type) where
 nil : Bool
 x : α
structure Ln where
 nil : Bool
 n : Nat
structure Ar (α : Type) where
 n : Nat
 get : Nat → α
section
variable {α : Type}
def MY (tok : Option TypeId) (s : Nat) (e : α → V) (x : Sl α) : V := .sl tok s x.nil x.n fun i => e (x.get i)
def Rq (t : TypeId) (s : Nat) (e : α → V) (x : Sl α) : V := .Aq t s x.nil x.n fun i => e (x.get i)
def eBx (e : α → V) (x : Bx α) : V := .Aa x.nil (e x.x)
def Fw (s n : Nat) (e : α → V) (g : Nat → α) : V := .arr s n fun i => e (g i)
def Hm (s : Nat) (e : α → V) (x : Ar α) : V := .arr s x.n fun i => e (x.get i)
def eLn (id : Id) (t : TypeId) (s : Nat) (x : Ln) : V := .BQ id t s x.nil x.n
def DQ (e : α → V) (x : α) : V := .vp (e x)
def dI : V → Int
 | .int _ n => n
 | _ => 0
def dB : V → Bool
 | .bool b => b
 | _ => false
def dS : V → ByteArray
 | .str s => s
 | _ => ⟨#[]⟩
def LW (d : V → α) : V → Sl α
 | .sl _ _ nil n get => ⟨nil, n, fun i => d (get i)⟩
 | .Aq _ _ nil n get => ⟨nil, n, fun i => d (get i)⟩
 | _ => ⟨true, 0, fun _ => d .undef⟩
def dBx (d : V → α) : V → Bx α
 | .Aa nil x => ⟨nil, d x⟩
 | _ => ⟨true, d .undef⟩
def JZ (d : V → α) : V → Nat → α
 | .arr _ _ get => fun i => d (get i)
 | _ => fun _ => d .undef
def Mq (d : V → α) : V → Ar α
 | .arr _ n get => ⟨n, fun i => d (get i)⟩
 | _ => ⟨0, fun _ => d .undef⟩
def Pa : V → Ln
 | .BQ _ _ _ nil n => ⟨nil, n⟩
 | _ => ⟨true, 0⟩
def DR (d : V → α) : V → α
 | .vp x => d x
 | _ => d .undef
def ePt (i s : Nat) (x : Nat × Nat) : V := .ptr (.par i) [.idx s x.2 x.1]
def fd : V → Nat → V
 | .cons x _, 0 => x
 | .cons _ r, j + 1 => fd r j
 | .CG x, j => fd x j
 | _, _ => .undef
def fnc : V → V
 | .fn _ c => c
 | _ => .undef
def at_ : List V → Nat → V
 | x :: _, 0 => x
 | _ :: l, i + 1 => at_ l i
 | [], _ => .undef
end
section
variable {P : Program}
def Aj (fn : Func) (k np : Nat) (X : Type) (enc : X → List V) (dec : List V → X) : AR := ⟨0, [.code (fn.body.getD .skip)], Dv k np, X, enc, dec⟩
def Ak (fn : Func) (id : Nat) (live : List (Nat × Sh)) (D1 : List Sh) (K0 : List (Id × Sh)) (X : Type) (enc : X → List V) (dec : List V → X) : AR :=
 ⟨id, (R5 id (fn.body.getD .skip) []).getD [], ⟨live, D1, K0⟩, X, enc, dec⟩
def Pn {α : Type} (d : α) : List (Nat × α) → Nat → α
 | [], _ => d
 | (k, x) :: l, n => cond (Nat.beq k n) x (Pn d l n)
def BR (P : Program) (fn : Func) (nt : Nat) (pol : List (Nat × Nat)) (hint JR : List (Nat × List Hint)) (NR : List Hint) (SE Gv : List Sh) (Nh : List (BC P)) (R : Type) (SI : List (Nat × List Rec)) (enc : R → List V) : BH P :=
 ⟨fn, nt, Pn 0 pol, Pn [] hint, Pn [] JR, NR, SE, Gv, Nh, R, enc, Pn [] SI⟩
theorem lbc {J : BH P} {S : AR} {D : AV S.X J.R} {labs : List (Nd J.R)} (h2 : AZ J S D) (h1 : S.lay.D1.length = J.Gv.length) (h : ∀ l ∈ labs, l.S.lay.D1.length = J.Gv.length ∧ AZ J l.S l.D) :
 ∀ l ∈ (⟨S, D⟩ : Nd J.R) :: labs, l.S.lay.D1.length = J.Gv.length ∧ AZ J l.S l.D := O3 (a := ⟨S, D⟩) h1 h2 h
def S3 (f : FuncId) (J : BH P) (S : AR) (D G : AV S.X J.R) (hG : ∀ x y, G.rel x y → D.rel x y) (na np : Nat) (ash : List Sh) (hf : P.funcs[f]? = some J.fn) (hb : J.fn.body.isSome = true)
    (hn : (J.fn.name == "runtime.NumGoroutine") = false) (hL : AZ J S D) (hK : S.K = [.code (J.fn.body.getD .skip)]) (hlay : S.lay = Dv na np) (hlen : ∀ x, (S.enc x).length = na + np)
    (hnt : J.nt = na + (J.fn.ntmps - na)) (hnp : J.Gv.length = np) (hy : ∀ y, J.enc y = (J.enc y).headD .undef :: (J.enc y).tail) (hsz : ∀ x y, G.rel x y → EL ((S.enc x).drop na) (J.enc y).tail = true) : BC P where
 f := f
 fn := J.fn
 hf := hf
 hb := hb
 hn := hn
 X := S.X
 Y := J.R
 args x := (S.enc x).take na
 Gy x := (S.enc x).drop na
 res y := (J.enc y).headD .undef
 outs _ y := (J.enc y).tail
 rel := G.rel
 ev := G.ev
 Gf := G.Gf
 dec l m := S.dec (l ++ m)
 ash := ash
 osh := J.Gv
 ok x y h := by
  have e1 : ((S.enc x).take na).length = na := by rw [List.length_take, hlen]; omega
  have e2 : ((S.enc x).drop na).length = np := by rw [List.length_drop, hlen]; omega
  refine HD hf (code := J.fn.body.getD .skip) ?_ rfl hL hK (hG x y h) (List.take_append_drop na _).symm ?_ ?_ ?_ (hy y) (hsz x y h)
  · obtain ⟨c, hc⟩ := Option.isSome_iff_exists.1 hb
    rw [hc]; rfl
  · rw [hlay, e1, e2]
  · rw [hnt, e1]
  · rw [hnp, e2]
 pure := false
 Ku h := by cases h
 I9 h := by cases h
def TT.Ro {R O : Type} (π : R → O) (o : O) (t : TT P R) : Prop := ∀ r, t.Fin r → π r = o
section
variable {R O : Type} {π : R → O} {o : O}
theorem TT.rR {r : R} (h : π r = o) : (TT.ret r : TT P R).Ro π o := fun _ k => k ▸ h
theorem TT.RG : (TT.fail : TT P R).Ro π o := fun _ k => k.elim
theorem TT.rN {b : Bool} {t : TT P R} (h : t.Ro π o) : (TT.need b t).Ro π o := fun r k => h r k.2
theorem TT.rI {b : Bool} {t e : TT P R} (h : t.Ro π o) (k : e.Ro π o) : (TT.ite b t e).Ro π o := fun r q => by
 cases b
 · exact k r (q.2 rfl)
 · exact h r (q.1 rfl)
theorem TT.rS {p : Prop} {t : TT P R} (h : t.Ro π o) : (TT.side p t).Ro π o := h
theorem TT.rC {K : BC P} {x : K.X} {k : K.Y → TT P R} (h : ∀ y, (k y).Ro π o) : (TT.call K x k).Ro π o := fun r ⟨y, _, q⟩ => h y r q
theorem TT.rJ {S : AR} {D : AV S.X R} {x : S.X} (h : ∀ y, D.rel x y → π y = o) : (TT.Ac S D x : TT P R).Ro π o := h
theorem G1 {X : Type} {ω : X → O} {tt : AV X R → X → TT P R} (h : ∀ D : AV X R, (∀ x y, D.rel x y → π y = ω x) → ∀ x, (tt D x).Ro π (ω x)) : ∀ x y, (AV.loop tt).rel x y → π y = ω x := by
 have key : ∀ n x y, (AV.lvl tt n).rel x y → π y = ω x := by
  intro n
  induction n with
  | zero => intro x y k; exact k.elim
  | succ n ih => intro x y k; exact h _ ih x y k
 rintro x y ⟨n, k⟩
 exact key n x y k
end
def AV.ro {X Y R : Type} (D : AV X R) (prj : R → Y) (inj : Y → X → R) (h : ∀ x y, D.rel x y → y = inj (prj y) x) : AV X Y where
 rel x y := D.rel x (inj y x)
 ev n x := (D.ev n x).map prj
 Gf n x y k := by
  simp only [Option.map_eq_some_iff] at k
  obtain ⟨z, k1, k2⟩ := k
  subst k2
  have k3 := D.Gf n x z k1
  rw [← h x z k3]; exact k3
theorem Hx : ∀ {l : List V}, l.all V.one = true → EL l l = true
 | [], _ => rfl
 | x :: l, h => by
   simp only [List.all_cons, Bool.and_eq_true] at h
   simp [EL, h.1, Hx h.2]
def SS (f : FuncId) (J : BH P) (S : AR) {Y : Type} (D : AV S.X J.R) (E : AV S.X Y) (inj : Y → S.X → J.R) (hE : ∀ x y, E.rel x y → D.rel x (inj y x)) (res : Y → V) (na np : Nat) (ash : List Sh) (hf : P.funcs[f]? = some J.fn) (hb : J.fn.body.isSome = true)
    (hn : (J.fn.name == "runtime.NumGoroutine") = false) (hL : AZ J S D) (hK : S.K = [.code (J.fn.body.getD .skip)]) (hlay : S.lay = Dv na np) (hlen : ∀ x, (S.enc x).length = na + np)
    (hnt : J.nt = na + (J.fn.ntmps - na)) (hnp : J.Gv.length = np) (hy : ∀ x y, J.enc (inj y x) = res y :: (S.enc x).drop na) (hone : ∀ x, ((S.enc x).drop na).all V.one = true)
    (hnm : ∀ x, Q0 ((S.enc x).drop na)) : BC P where
 f := f
 fn := J.fn
 hf := hf
 hb := hb
 hn := hn
 X := S.X
 Y := Y
 args x := (S.enc x).take na
 Gy x := (S.enc x).drop na
 res := res
 outs x _ := (S.enc x).drop na
 rel := E.rel
 ev := E.ev
 Gf := E.Gf
 dec l m := S.dec (l ++ m)
 ash := ash
 osh := []
 ok x y h := by
  have e1 : ((S.enc x).take na).length = na := by rw [List.length_take, hlen]; omega
  have e2 : ((S.enc x).drop na).length = np := by rw [List.length_drop, hlen]; omega
  refine HD hf (code := J.fn.body.getD .skip) ?_ rfl hL hK (hE x y h) (List.take_append_drop na _).symm ?_ ?_ ?_ (hy x y) (Hx (hone x))
  · obtain ⟨c, hc⟩ := Option.isSome_iff_exists.1 hb
    rw [hc]; rfl
  · rw [hlay, e1, e2]
  · rw [hnt, e1]
  · rw [hnp, e2]
 pure := true
 Ku _ _ _ _ := rfl
 I9 _ := hnm
end
theorem lk {P : Program} {J : BH P} (hm : P.follows .mixedOrders = true) {labs : List (Nd J.R)} (hl : ∀ l ∈ labs, l.S.lay.D1.length = J.Gv.length ∧ AZ J l.S l.D) {S : AR} {tt : S.X → TT P J.R} (hs : ∀ x, (tt x).AH)
 (hd : ∀ x, J.den labs S x 4000 = (tt x).tree J.enc := by intro x; kernel_rfl) : AZ J S (.of tt) := lbk hm hl 4000 hd hs
def CH {P : Program} (f : FuncId) (J : BH P) (S : AR) (D : AV S.X J.R) (na np : Nat) (ash : List Sh) (hL : AZ J S D) (hf : P.funcs[f]? = some J.fn := by kernel_rfl) (hb : J.fn.body.isSome = true := by kernel_rfl)
    (hn : (J.fn.name == "runtime.NumGoroutine") = false := by kernel_rfl) (hK : S.K = [.code (J.fn.body.getD .skip)] := by exact rfl) (hlay : S.lay = Dv na np := by exact rfl) (hlen : ∀ x, (S.enc x).length = na + np := by exact fun _ => rfl)
    (hnt : J.nt = na + (J.fn.ntmps - na) := by kernel_rfl) (hnp : J.Gv.length = np := by exact rfl) (hy : ∀ y, J.enc y = (J.enc y).headD .undef :: (J.enc y).tail := by exact fun _ => rfl)
    (hsz : ∀ x y, D.rel x y → EL ((S.enc x).drop na) (J.enc y).tail = true := by intro x y _; kernel_rfl) : BC P := S3 f J S D D (fun _ _ h => h) na np ash hf hb hn hL hK hlay hlen hnt hnp hy hsz
def Cb {P : Program} (f : FuncId) (J : BH P) (S : AR) {Y : Type} (D : AV S.X J.R) (E : AV S.X Y) (inj : Y → S.X → J.R) (res : Y → V) (na np : Nat) (ash : List Sh) (hL : AZ J S D) (hnm : ∀ x, Q0 ((S.enc x).drop na))
    (hE : ∀ x y, E.rel x y → D.rel x (inj y x) := by exact fun _ _ h => h) (hf : P.funcs[f]? = some J.fn := by kernel_rfl) (hb : J.fn.body.isSome = true := by kernel_rfl)
    (hn : (J.fn.name == "runtime.NumGoroutine") = false := by kernel_rfl) (hK : S.K = [.code (J.fn.body.getD .skip)] := by exact rfl) (hlay : S.lay = Dv na np := by exact rfl) (hlen : ∀ x, (S.enc x).length = na + np := by exact fun _ => rfl)
    (hnt : J.nt = na + (J.fn.ntmps - na) := by kernel_rfl) (hnp : J.Gv.length = np := by exact rfl) (hy : ∀ x y, J.enc (inj y x) = res y :: (S.enc x).drop na := by exact fun _ _ => rfl) (hone : ∀ x, ((S.enc x).drop na).all V.one = true := by exact fun _ => rfl) : BC P :=
 SS f J S D E inj hE res na np ash hf hb hn hL hK hlay hlen hnt hnp hy hone hnm
def an (l : List Nat) : List (Nat × Sh) := l.map (·, .any)
end Go.Vm
end
section
namespace Go.Vm
open Go
section
variable {P : Program} {X R : Type}
end
theorem wrap64 {z : Int} (h0 : -9223372036854775808 ≤ z) (h1 : z ≤ 9223372036854775807) : IntKind.i64.wrap z = z := by
 simp [IntKind.wrap, IntKind.signed, IntKind.bits]
 split <;> omega
theorem A5 {z : Int} (h0 : 0 ≤ z) (h1 : z < 18446744073709551616) : IntKind.u64.wrap z = z := by
 simp [IntKind.wrap, IntKind.signed, IntKind.bits]
 omega
theorem Ct {k n : Nat} (h : k < n) (hn : n ≤ maxLen) : IntKind.i64.wrap ((k : Int) + 1) = ((k + 1 : Nat) : Int) := by
 unfold maxLen at hn
 rw [wrap64 (by omega) (by omega)]
 simp
theorem BT {a b : Nat} : Bu (a : Int) (b : Int) = decide (a < b) := by simp [Bu]
theorem A6 {a b : Nat} (h : a < b) : BA (a : Int) b = true := by rw [Ef]; omega
theorem wf_i64 {n : Int} (h : (Lit.int .i64 n).wf = true) : -9223372036854775808 ≤ n ∧ n ≤ 9223372036854775807 := by
 simp [Lit.wf, IntKind.min, IntKind.max, IntKind.signed, IntKind.bits] at h
 omega
theorem wf_u64 {n : Int} (h : (Lit.int .u64 n).wf = true) : 0 ≤ n ∧ n < 18446744073709551616 := by
 simp [Lit.wf, IntKind.min, IntKind.max, IntKind.signed, IntKind.bits] at h
 omega
theorem F6 (n : Int) : 0 ≤ IntKind.u64.wrap n ∧ IntKind.u64.wrap n < 18446744073709551616 := by
 simp [IntKind.wrap, IntKind.signed, IntKind.bits]
 omega
theorem Nj {a b : ByteArray} : seq a b = true ↔ a = b := by
 unfold seq
 rw [beq_iff_eq]
 constructor
 · intro h
   have h : a.data.toList = b.data.toList := by simpa [ByteArray.toList_eq] using h
   cases a; cases b
   simp only at h
   congr 1
   exact Array.toList_inj.1 h
 · rintro rfl; rfl
end Go.Vm
end
section
namespace Go.Vm
open Go
section
variable {P : Program} {X R : Type}
def AV.wp (D : AV X R) (x : X) (Q : R → Prop) : Prop := ∃ y, D.rel x y ∧ Q y
def TT.wp : TT P R → (R → Prop) → Prop
 | .ret r, Q => Q r
 | .fail, _ => False
 | .need b t, Q => b = true ∧ t.wp Q
 | .ite b t e, Q => (b = true → t.wp Q) ∧ (¬ b = true → e.wp Q)
 | .side _ t, Q => t.wp Q
 | .call K x k, Q => ∃ y, K.rel x y ∧ (k y).wp Q
 | .Ac _ D x, Q => D.wp x Q
 | .GR _ _ D x, Q => D.wp x Q
theorem TT.HN {Q : R → Prop} : ∀ {t : TT P R}, t.wp Q → ∃ r, t.Fin r ∧ Q r := by
 intro t
 induction t with
 | ret r => intro h; exact ⟨r, rfl, h⟩
 | fail => intro h; exact h.elim
 | need b t ih => rintro ⟨h, k⟩; obtain ⟨r, h1, h2⟩ := ih k; exact ⟨r, ⟨h, h1⟩, h2⟩
 | ite b t e iht ihe =>
   rintro ⟨h, k⟩
   cases b
   · obtain ⟨r, h1, h2⟩ := ihe (k nofun); exact ⟨r, ⟨nofun, fun _ => h1⟩, h2⟩
   · obtain ⟨r, h1, h2⟩ := iht (h rfl); exact ⟨r, ⟨fun _ => h1, nofun⟩, h2⟩
 | side p t ih => exact ih
 | call K x k ih => rintro ⟨y, h, k⟩; obtain ⟨r, h1, h2⟩ := ih y k; exact ⟨r, ⟨y, h, h1⟩, h2⟩
 | Ac S D x => exact id
 | GR p S D x => exact id
theorem of_wp {tt : X → TT P R} {x : X} {Q : R → Prop} (h : (tt x).wp Q) : (AV.of tt).wp x Q := TT.HN h
theorem B5 {Y : Type} {tt : X → TT P R} {prj : R → Y} {inj : Y → X → R} {h : ∀ x y, (AV.of tt).rel x y → y = inj (prj y) x} {x : X} {Q : Y → Prop} (k : (tt x).wp fun r => Q (prj r)) : (AV.ro (AV.of tt) prj inj h).wp x Q := by
 obtain ⟨r, h1, h2⟩ := TT.HN k
 refine ⟨prj r, ?_, h2⟩
 show (AV.of tt).rel x (inj (prj r) x)
 rw [← h x r h1]; exact h1
theorem AV.wp.mono {D : AV X R} {x : X} {Q Q' : R → Prop} (h : D.wp x Q) (k : ∀ y, Q y → Q' y) : D.wp x Q' := by
 obtain ⟨y, h1, h2⟩ := h; exact ⟨y, h1, k y h2⟩
theorem Ee {tt : AV X R → X → TT P R} (I : X → Prop) (m : X → Nat) (Q : X → R → Prop)
 (h : ∀ (D : AV X R) x, I x → (∀ x', I x' → m x' < m x → D.wp x' (Q x')) → (tt D x).wp (Q x)) {x : X} (hx : I x) : (AV.loop tt).wp x (Q x) := by
 have key : ∀ n x, I x → m x < n → (AV.lvl tt n).wp x (Q x) := by
  intro n
  induction n with
  | zero => intro x _ h; omega
  | succ n ih => intro x hx hm; exact TT.HN (h _ x hx fun x' h1 h2 => ih x' h1 (by omega))
 obtain ⟨y, h1, h2⟩ := key (m x + 1) x hx (by omega)
 exact ⟨y, ⟨_, h1⟩, h2⟩
theorem DN {tt : AV X R → X → TT P R} (st : Nat → X) (N : Nat) (J : Nat → Prop) (Q : R → Prop) (hend : ∀ D, J N → (tt D (st N)).wp Q)
 (hstep : ∀ (D : AV X R) k, k < N → J k → (J (k + 1) → D.wp (st (k + 1)) Q) → (tt D (st k)).wp Q) {k : Nat} (hk : k ≤ N) (hJ : J k) : (AV.loop tt).wp (st k) Q := by
 have key : ∀ d k, k + d = N → J k → (∃ n, (AV.lvl tt n).wp (st k) Q) := by
  intro d
  induction d with
  | zero => intro k h hJ; obtain rfl : k = N := by omega
            exact ⟨1, TT.HN (hend _ hJ)⟩
  | succ d ih =>
    intro k h hJ
    by_cases hJ' : J (k + 1)
    · obtain ⟨n, hn⟩ := ih (k + 1) (by omega) hJ'
      exact ⟨n + 1, TT.HN (hstep _ k (by omega) hJ fun _ => hn)⟩
    · exact ⟨1, TT.HN (hstep _ k (by omega) hJ fun h => absurd h hJ')⟩
 obtain ⟨n, y, h1, h2⟩ := key (N - k) k (by omega) hJ
 exact ⟨y, ⟨n, h1⟩, h2⟩
theorem wN {b : Bool} {t : TT P R} {Q : R → Prop} (h : b = true) (k : t.wp Q) : (TT.need b t).wp Q := ⟨h, k⟩
theorem BX {b : Bool} {t e : TT P R} {Q : R → Prop} (h : b = true → t.wp Q) (k : ¬ b = true → e.wp Q) : (TT.ite b t e).wp Q := ⟨h, k⟩
theorem AM {b : Bool} {p : Prop} {t e : TT P R} {Q : R → Prop} (hb : b = true ↔ p) (h : p → t.wp Q) (k : ¬ p → e.wp Q) : (TT.ite b t e).wp Q := ⟨fun q => h (hb.1 q), fun q => k fun r => q (hb.2 r)⟩
theorem DC {t e : TT P R} {Q : R → Prop} : (TT.ite true t e).wp Q ↔ t.wp Q := by simp [TT.wp]
theorem Cc {t e : TT P R} {Q : R → Prop} : (TT.ite false t e).wp Q ↔ e.wp Q := by simp [TT.wp]
theorem BK {t : TT P R} {Q : R → Prop} : (TT.need true t).wp Q ↔ t.wp Q := by simp [TT.wp]
theorem wC {K : BC P} {x : K.X} {k : K.Y → TT P R} {Q : R → Prop} {Q' : K.Y → Prop} (h : ∃ y, K.rel x y ∧ Q' y) (h2 : ∀ y, Q' y → (k y).wp Q) : (TT.call K x k).wp Q := by
 obtain ⟨y, a, b⟩ := h; exact ⟨y, a, h2 y b⟩
theorem N3 {Y : Type} {rel Q' G : Y → Prop} (h : ∃ y, rel y ∧ Q' y) (k : ∀ y, Q' y → G y) : ∃ y, rel y ∧ G y := by
 obtain ⟨y, a, b⟩ := h; exact ⟨y, a, k y b⟩
end
section
variable {α β : Type}
def Sl.L (s : Sl α) : List α := (List.range s.n).map s.get
@[simp] theorem Sl.C2 (s : Sl α) : s.L.length = s.n := by simp [Sl.L]
theorem Sl.Eh? (s : Sl α) (i : Nat) : s.L[i]? = if i < s.n then some (s.get i) else none := by
 unfold Sl.L
 split
 · simp [*]
 · simp; omega
theorem Sl.Eh (s : Sl α) {i : Nat} (h : i < s.n) : s.L[i]? = some (s.get i) := by rw [Sl.Eh?, if_pos h]
theorem Sl.F4 (s : Sl α) {i : Nat} (h : i < s.L.length) : s.L[i] = s.get i := by simp [Sl.L]
theorem Sl.R8 {s t : Sl α} (hn : s.n = t.n) (h : ∀ i, i < s.n → s.get i = t.get i) : s.L = t.L := by
 unfold Sl.L; rw [← hn]; exact List.map_congr_left fun i hi => h i (List.mem_range.1 hi)
theorem Sl.TD {s t : Sl α} (h : s.L = t.L) : s.n = t.n ∧ ∀ i, i < s.n → s.get i = t.get i := by
 have hn : s.n = t.n := by have := congrArg List.length h; simpa using this
 refine ⟨hn, fun i hi => ?_⟩
 have := congrArg (fun l => l[i]?) h
 simp only [Sl.Eh _ hi, Sl.Eh _ (hn ▸ hi)] at this
 exact Option.some.inj this
theorem Sl.DA {s : Sl α} {x : α} : x ∈ s.L ↔ ∃ i, i < s.n ∧ s.get i = x := by simp [Sl.L]
end
theorem bnI {b : Bool} : (!b) = true ↔ ¬ b = true := by cases b <;> simp
theorem ibI {i : Int} {n : Nat} : BA i n = true ↔ 0 ≤ i ∧ i < (n : Int) := Ef i n
theorem ieI {a b : Int} : Ad a b = true ↔ a = b := by simp [Ad]
theorem O9 {a b : Int} : Ad a b = false ↔ a ≠ b := by simp [Ad]
theorem ilI {a b : Int} : Bu a b = true ↔ a < b := by simp [Bu]
theorem KQ {a b : Int} : Bu a b = false ↔ b ≤ a := by simp [Bu]
theorem leI {a b : Int} : Bh a b = true ↔ a ≤ b := by simp [Bh]
end Go.Vm
end
section
namespace Go.Vm
open Go Go.ChangeShapes Go.WideShapes Go.ChangeAt Go.RowKit
def old (W : World) : AE := fun g _ => g < W.heap.size
def Es (P : Program) (t : TypeId) : Array Field := match P.underlying t with
 | some (.struct fs) => fs
 | _ => #[]
def DW {α : Type} (P : Program) (t : TypeId) (e : α → V) (ok : α → Prop) : Prop :=
 ∀ (H : Type) (enc : TypeId × Value → H) (W : World) (held : Bool) (fuel : Nat) (cs : List Value) (x : DataW H × List MemPlace),
   DataW.trod enc P W 0 (fun _ => true) held fuel t cs = some x → ∃ a, ok a ∧ AF (old W) W Ap (e a) cs none_
def LR {α : Type} (P : Program) (fs : List Field) (off : Nat) (e : α → V) (ok : α → Prop) : Prop :=
 ∀ (H : Type) (enc : TypeId × Value → H) (W : World) (held : Bool) (cs : List Value), cs.length = off + (fs.map fun f => P.cellsOf f.type).sum →
   (∀ f ∈ fs, ∃ n x, DataW.trod enc P W 0 (fun _ => true) held n f.type ((cs.drop f.offset).take (P.cellsOf f.type)) = some x) →
   ∃ a, ok a ∧ AF (old W) W Ap (e a) (cs.drop off) none_
section
variable {P : Program} {t : TypeId}
theorem Bf {k : IntKind} (ht : P.underlying t = some (.int k)) : DW P t (V.int k) (fun n => (Lit.int k n).wf = true) := by
 intro H enc W held fuel cs x h
 obtain ⟨n, rfl, _, hw⟩ := DataW.trod_int ht h
 exact ⟨n, hw, by simp only [AF]⟩
def On {α : Type} (ok : α → Prop) (x : Sl α) : Prop := (x.nil = true → x.n = 0) ∧ x.n ≤ maxLen ∧ ∀ i, i < x.n → ok (x.get i)
theorem Ed {α : Type} {e : TypeId} {s : Nat} {enc_ : α → V} {ok : α → Prop} (d : α) (ht : P.underlying t = some (.slice e)) (hs : P.cellsOf e = s) (hpos : 0 < s) (h : DW P e enc_ ok) :
 DW P t (MY none s enc_) (On ok) := by
 intro H enc W held fuel cs x hx
 rcases Go.Deep.open_slice ht hx with ⟨rfl, _⟩ | ⟨a, len, cap, m, n, D, Pl, rfl, _, hl, hm, hmm, _, hel⟩
 · exact ⟨⟨true, 0, fun _ => d⟩, ⟨fun _ => rfl, Nat.zero_le _, fun i hi => absurd hi (Nat.not_lt_zero _)⟩, by
    simp only [MY, AF]
    exact ⟨none, 0, rfl, Nat.le_refl _, Nat.zero_le _, fun _ => by simp, nofun⟩⟩
 · simp only [if_true] at hmm
   subst hmm
   rw [hs] at hel
   have hq : a.spot = none ∨ m = 0 := by
    by_cases h0 : m = 0
    · exact .inr h0
    · left
      obtain ⟨cs', h1, _⟩ := hel 0 (by omega)
      obtain ⟨_, h2, h3⟩ := World.cells?_some h1
      have h4 := h3 0 hpos
      rw [List.getElem?_eq_getElem (by omega), Nat.zero_mul] at h4
      unfold World.cell? at h4
      split at h4
      · split at h4
        · cases h4
        · rename_i hsp
          have e1 : ((a.add 0).add 0) = a := by simp [Addr.add]
          rw [e1] at hsp
          cases hq : a.spot
          · rfl
          · rw [hq] at hsp; simp at hsp
      · cases h4
   have hch : ∀ i : Nat, ∃ y : α × List Value, i < len → y.2.length = s ∧ ok y.1 ∧ AF (old W) W Ap (enc_ y.1) y.2 none_ ∧ (∀ j, j < s → W.cell? ((a.add (i * s)).add j) = y.2[j]?) := by
    intro i
    by_cases hi : i < len
    · obtain ⟨cs', h1, h2⟩ := hel i (by omega)
      obtain ⟨_, h3, h4⟩ := World.cells?_some h1
      obtain ⟨y, h5, h6⟩ := h H enc W held _ _ _ h2
      exact ⟨(y, cs'), fun _ => ⟨h3, h5, h6, h4⟩⟩
    · exact ⟨(d, []), fun h => absurd h hi⟩
   obtain ⟨f, hf⟩ := Classical.skolem.1 hch
   obtain ⟨g, o, q⟩ := a
   refine ⟨⟨false, len, fun i => (f i).1⟩, ⟨nofun, by show len ≤ maxLen; omega, fun i hi => (hf i hi).2.1⟩, ?_⟩
   simp only [MY, AF]
   refine ⟨_, m, rfl, hl, hm, nofun, fun _ => ⟨g, o, q, rfl, hq, nofun, fun i hi => ?_⟩⟩
   obtain ⟨h1, h2, h3, h4⟩ := hf i hi
   obtain rfl : q = none := hq.resolve_right (by omega)
   have hc : ∀ j (hj : j < s), W.cell? ⟨g, o + i * s + j, none⟩ = (f i).2[j]? := fun j hj => by
    have := h4 j hj
    rwa [Bc, Bc] at this
   refine ⟨_, h1, h3, fun j u hu => ?_, fun j hj => ?_⟩
   · have hj : j < s := by have := (List.getElem?_eq_some_iff.1 hu).1; omega
     rw [hc j hj]; exact hu
   · have := hc j hj
     rw [List.getElem?_eq_getElem (by omega)] at this
     unfold World.cell? at this
     unfold old
     cases hb : W.heap[g]? with
     | none => simp [hb] at this
     | some b => exact (Array.getElem?_eq_some_iff.1 hb).1
theorem F8 {off : Nat} : LR P [] off (fun _ : Unit => V.unit) (fun _ => True) := by
 intro H enc W held cs hl _
 refine ⟨(), trivial, ?_⟩
 simp only [AF]
 exact List.drop_eq_nil_of_le (by simpa using Nat.le_of_eq hl)
theorem BE {α β : Type} {f : Field} {fs : List Field} {off s : Nat} {u : TypeId} {e1 : α → V} {e2 : β → V} {ok1 : α → Prop} {ok2 : β → Prop} (hu : f.type = u) (ho : f.offset = off) (hs : P.cellsOf u = s)
 (h1 : DW P u e1 ok1) (h2 : LR P fs (off + s) e2 ok2) : LR P (f :: fs) off (fun x : α × β => V.cons (e1 x.1) (e2 x.2)) (fun x => ok1 x.1 ∧ ok2 x.2) := by
 subst hu
 intro H enc W held cs hl hf
 obtain ⟨n, x, hx⟩ := hf f (List.mem_cons_self ..)
 rw [ho, hs] at hx
 obtain ⟨a, k1, k2⟩ := h1 H enc W held _ _ _ hx
 simp only [List.map_cons, List.sum_cons, hs] at hl
 obtain ⟨b, k3, k4⟩ := h2 H enc W held cs (by omega) (fun g hg => hf g (List.mem_cons_of_mem _ hg))
 refine ⟨(a, b), ⟨k1, k3⟩, ?_⟩
 simp only [AF]
 refine ⟨_, _, none_, none_, ?_, k2, k4, AE.AU _, AE.AU _, AE.BJ _⟩
 rw [← List.drop_drop, List.take_append_drop]
theorem EA {α : Type} {fs : Array Field} {l : List Field} {e : α → V} {ok : α → Prop} (ht : P.underlying t = some (.struct fs)) (hl : fs.toList = l) (hc : P.cellsOf t = (l.map fun f => P.cellsOf f.type).sum) (h : LR P l 0 e ok) : DW P t e ok := by
 intro H enc W held fuel cs x hx
 obtain ⟨xs, n, _, _, hlen, hxs, hel⟩ := DataW.trod_struct ht hx
 subst hl
 obtain ⟨a, h1, h2⟩ := h H enc W held cs (by rw [hlen, hc, Nat.zero_add]) (fun f hf => by
  obtain ⟨i, hi⟩ := List.mem_iff_getElem?.1 hf
  have hi' : fs[i]? = some f := by simpa using hi
  have := hel i f hi'
  have hlt : i < fs.size := (Array.getElem?_eq_some_iff.1 hi').1
  rw [List.getElem?_eq_getElem (by omega)] at this
  exact ⟨n, _, this⟩)
 exact ⟨a, h1, by simpa using h2⟩
theorem DW.map {α β : Type} {e : α → V} {ok : α → Prop} {e' : β → V} {ok' : β → Prop} (h : DW P t e ok) (f : α → β) (he : ∀ a, e' (f a) = e a) (hk : ∀ a, ok a → ok' (f a)) : DW P t e' ok' := by
 intro H enc W held fuel cs x hx
 obtain ⟨a, h1, h2⟩ := h H enc W held fuel cs x hx
 exact ⟨f a, hk a h1, by rw [he]; exact h2⟩
def OE {α : Type} (P : Program) (t : TypeId) (e : α → V) (ok : α → Prop) : Prop :=
 ∀ (H : Type) (enc : TypeId × Value → H) (W : World) (base : Nat) (v : Value) (d : DataW H) (ps : List MemPlace), Value.okWide P W .any base t v →
   DataW.Trod enc P W 0 (fun _ => true) true t v d ps → ∃ a, ok a ∧ Ag (old W) W Ap (e a) v none_
theorem K5 {α : Type} {fs : Array Field} {e : α → V} {ok : α → Prop} (ht : P.underlying t = some (.struct fs)) (h : DW P t e ok) (ha : ∀ a, (e a).agg = true) (h1 : ∀ a, (e a).one = true) : OE P t e ok := by
 intro H enc W base v d ps hv hd
 simp only [Value.okWide, ht] at hv
 obtain ⟨cs, rfl, _⟩ := hv
 obtain ⟨fuel, hd⟩ := hd
 obtain ⟨a, k1, k2⟩ := h H enc W true _ _ _ hd
 refine ⟨a, k1, A1.val ⟨fun _ => ⟨cs.toList, rfl, k2⟩, fun hf => ?_⟩ (h1 a)⟩
 rw [ha a] at hf
 cases hf
theorem NO {α : Type} {e : α → V} {ok : α → Prop} (hv : ∀ (W : World) (base : Nat) (v : Value), Value.okWide P W .any base t v → v.cells = #[v]) (h : DW P t e ok) (ha : ∀ a, (e a).agg = false) (h1 : ∀ a, (e a).one = true) : OE P t e ok := by
 intro H enc W base v d ps hok hd
 obtain ⟨fuel, hd⟩ := hd
 rw [hv W base v hok] at hd
 obtain ⟨a, k1, k2⟩ := h H enc W true _ _ _ hd
 refine ⟨a, k1, A1.val ⟨fun hf => ?_, fun _ => k2⟩ (h1 a)⟩
 rw [ha a] at hf
 cases hf
theorem MZ {e : TypeId} (ht : P.underlying t = some (.slice e)) (W : World) (base : Nat) (v : Value) (h : Value.okWide P W .any base t v) : v.cells = #[v] := by
 simp only [Value.okWide, ht, Cell.okWide] at h
 cases v <;> simp_all [Cell.ok, Value.cells]
end
def ctx (W : World) : Ctx := ⟨W, old W, none_, fun _ => none⟩
theorem Ra (W : World) : Mem (ctx W) W (old W) :=
 ⟨Ext.refl W, AE.Sub.refl _, fun _ _ h => .inl h, fun _ _ _ => rfl, fun _ _ h => h⟩
theorem Mx {W : World} {vs : List V} {vals : Array Value}
 (hr : ∀ (j : Nat) (x : V) (v : Value), vs[j]? = some x → vals[j]? = some v → Ag (old W) W Ap x v none_) (hn : vals.size = vs.length) : AY (ctx W) (old W) W Ap (fun _ => none_) (G3 vs []) vals where
 tm t := by
  show Ag (old W) W Ap (vs.getD t .undef) _ none_
  by_cases h : t < vs.length
  · have e1 : vs.getD t .undef = vs[t] := by simp [List.getD, List.getElem?_eq_getElem h]
    have e2 : vals.getD t Go.undef = vals[t]'(by omega) := by simp [Array.getD, show t < vals.size by omega]
    rw [e1, e2]
    exact hr t _ _ (List.getElem?_eq_getElem h) (Array.getElem?_eq_getElem (by omega))
  · have e1 : vs.getD t .undef = .undef := by simp [List.getD, List.getElem?_eq_none (show vs.length ≤ t by omega)]
    rw [e1]
    trivial
 nm id := by cases id <;> simp [G3, Ap]
 bl id x r h := by cases id <;> simp [G3] at h
 off _ _ _ := AE.BJ _
 Cx _ := AE.BJ _
 new _ := AE.AU _
 lt _ _ _ h := h.elim
 pn _ := rfl
theorem LK {W w' : World} {F' : AE} (h : Mem (ctx W) w' F') : Below W.heap.size W w' where
 os := h.ext.os
 tape := h.ext.tape
 output := h.ext.output
 size := h.ext.size
 block k hk := by
  obtain ⟨o', h1, h2⟩ := h.ext.shape k _ (Array.getElem?_eq_getElem hk)
  have hkeep : ∀ o, w'.cell? ⟨k, o, none⟩ = W.cell? ⟨k, o, none⟩ := fun o => h.Az k o fun hn => by
   rcases hn with hn | hn
   · have hn : W.heap.size ≤ k := hn
     omega
   · exact hn
  rw [h1, Array.getElem?_eq_getElem hk]
  cases ho : W.heap[k] with
  | cells c e f =>
    rw [ho] at h2
    cases o' <;> simp [alike] at h2
    rename_i c' e' f'
    obtain ⟨h3, rfl, rfl⟩ := h2
    have : c' = c := by
     apply Array.ext h3
     intro i hi hi'
     have := hkeep i
     have hg : W.heap[k]? = some (.cells c e' f') := by rw [Array.getElem?_eq_getElem hk, ho]
     simp only [World.cell?, h1, hg, Option.isSome_none, Bool.false_eq_true, if_false, Array.getElem?_eq_getElem hi, Array.getElem?_eq_getElem hi', Option.some.injEq] at this
     exact this
    rw [this]
  | _ => rw [ho] at h2; simp only [alike] at h2; rw [h2]
theorem NY {P : Program} {f : FuncId} {vs : List V} {b : Bool} (h : OK P f vs [] (.bool b) []) {W : World} {vals : Array Value}
 (hr : ∀ (j : Nat) (x : V) (v : Value), vs[j]? = some x → vals[j]? = some v → Ag (old W) W Ap x v none_) (hn : vals.size = vs.length) :
 Calls P f vals W fun e w' => e = .returned (.bool b) ∧ Below W.heap.size W w' := by
 refine (h.2 (ctx W) Ap (fun _ => none_) vals hn (Ra W) (Mx hr hn)).mono fun e w' hh => ?_
 cases e with
 | returned v =>
   obtain ⟨F', ρ', fam', h1, h2⟩ := hh
   have := h2.tm 0
   have hv : Ag F' w' ρ' (.bool b) v (fam' (.t 0)) := this
   exact ⟨by rw [Cz hv], LK h1⟩
 | _ => exact hh.elim
section
variable {H : Type} {enc : TypeId × Value → H} {P : Program}
theorem Oh {f : Func} {s : ChangeSpec} {fresh handsOn : Bool} {W W' : World} {args : Array Value} {ds : List (DataW H)} {ps : List MemPlace} {tb : TypeId}
 (hl : laidOutB P = true) (hm : mapsRowed P = true) (hz : ∀ t e, t < P.types.size → P.underlying t = some (.slice e) → 0 < P.cellsOf e)
 (hp : ∀ t ∈ f.params.toList, t < P.types.size) (hvars : s.vars = []) (hr : f.resultTypes = #[tb]) (htb : P.underlying tb = some .bool)
 (hfn : s.fn H (ds ++ []) = { results := [.lit (.bool true)], args := ds })
 (hW : DataW.Whole enc P f.params.toList s.vars false W args.toList ds [] ps) (hA : DataW.TrodAll enc P W 0 (fun _ => true) true f.params.toList args.toList ds ps)
 (hB : Below W.heap.size W W') : s.post enc P f false fresh handsOn false W args (.bool true) W' := by
 have hlt : ∀ p ∈ ps, p.block < W.heap.size := fun p h => hW.lt p h
 refine ⟨ds, [], ps, [], ps, [], hW, ?_, ?_, ?_, hB.frame _, nofun⟩
 · rw [hfn, hr]
   exact trodAll_mk1 (shut_bool htb true)
 · rw [hfn]
   have h1 : DataW.TrodAll enc P W' 0 (fun _ => true) true f.params.toList args.toList ds ps := by
    have key : ∀ {ts : List TypeId} {vs : List Value} {ds : List (DataW H)} {ps : List MemPlace}, (∀ p ∈ ps, p.block < W.heap.size) → DataW.TrodAll enc P W 0 (fun _ => true) true ts vs ds ps → DataW.TrodAll enc P W' 0 (fun _ => true) true ts vs ds ps := by
     intro ts
     induction ts with
     | nil =>
       intro vs ds ps _ h
       obtain ⟨rfl, rfl, rfl⟩ := trodAll_nil h
       exact trodAll_mk0
     | cons t ts ih =>
       intro vs ds ps hlt h
       obtain ⟨v, vs', d, ds', p, q, rfl, rfl, rfl, ⟨n, hn⟩, h2⟩ := trodAll_cons h
       exact ⟨p, q, ⟨n, DataW.trod_carry n _ _ _ hn fun p hp => hB.same (hlt p (List.mem_append_left _ hp))⟩, ih (fun p hp => hlt p (List.mem_append_right _ hp)) h2, rfl⟩
    exact key hlt hA
   exact h1.respare (kids_rows hl hm) hz hp fun p hp => by simpa using hlt p hp
 · rw [hfn, hvars]
   rfl
theorem lifted {C : Checked} {os : Os} {f : FuncId} {fn : Func} {s : ChangeSpec} {conds : List PathCond} {fresh handsOn : Bool} {tb : TypeId}
 (own : ownKnob C.prog.godebug = none) (started : os.Started) (noInit : C.prog.inits.idxOf? f = none) (hfn : C.prog.funcs[f]? = some fn)
 (witness : ∃ (w : World) (tape : Tape) (i : Input), w.os = os ∧ (w.forCall tape i).Shaped C.prog ∧ i.vars = [] ∧ Input.okWide C.prog (w.forCall tape i) .any w.heap.size f i ∧
   s.pre6 enc C.prog fn conds false (w.forCall tape i).memory i.args ∧ ({} : Assume).holds C.prog (lone (Frame.enter C.prog f i.args .normal) [] (w.forCall tape i)))
 (hl : laidOutB C.prog = true) (hm : mapsRowed C.prog = true) (hz : ∀ t e, t < C.prog.types.size → C.prog.underlying t = some (.slice e) → 0 < C.prog.cellsOf e)
 (hp : (fn.params.toList.all fun t => decide (t < C.prog.types.size)) = true) (hvars : s.vars = []) (hr : fn.resultTypes = #[tb]) (htb : C.prog.underlying tb = some .bool)
 (hs : ∀ ds : List (DataW H), ds.length = fn.params.toList.length → s.fn H (ds ++ []) = { results := [.lit (.bool true)], args := ds })
 (HD : ∀ (W : World) (base : Nat) (args : Array Value) (ds : List (DataW H)) (ps : List MemPlace),
   (∀ (j : Nat) t v, fn.params[j]? = some t → args[j]? = some v → Value.okWide C.prog W .any base t v) →
   DataW.TrodAll enc C.prog W 0 (fun _ => true) true fn.params.toList args.toList ds ps →
   Calls C.prog f args W fun e w' => e = .returned (.bool true) ∧ Below W.heap.size W w') :
 ReturnsInHanded {} C os f .any (s.pre6 enc C.prog fn conds false) (s.post enc C.prog fn false fresh handsOn false) := by
 refine returnsInHanded_of_change own started noInit hfn witness ?_
 intro W base args ds gs before hval hW _ _
 have hW' := hW
 obtain ⟨p, q, hA, hV, rfl, _, _⟩ := hW
 rw [hvars] at hV
 obtain ⟨rfl, rfl⟩ := trodVars_none hV
 simp only [List.append_nil] at hW'
 refine (HD W base args ds p hval hA).mono fun e W' ⟨he, hB⟩ => ⟨_, he, ?_⟩
 exact Oh hl hm hz (fun t ht => of_decide_eq_true (List.all_eq_true.1 hp t ht)) hvars hr htb (hs ds (Go.trodAll_length hA).2) hW' hA hB
end
end Go.Vm
end
end
