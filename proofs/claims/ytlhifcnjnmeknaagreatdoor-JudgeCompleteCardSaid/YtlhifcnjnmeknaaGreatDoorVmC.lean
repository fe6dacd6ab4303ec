/- Of an abstract machine over the model, part C: no statement is proved here. -/
import Derived.Test.YtlhifcnjnmeknaaGreatDoorVmB
import Derived.KernelRfl
import Derived.ChangeKeysEq
import Derived.Deep.Slices
import Derived.OpenShut
import Derived.ChangeCalls
import Derived.ProofKit
import Derived.Shelf.Strings.OnBuilder
noncomputable section
section
namespace Go.Vm
open Go
inductive Tree : Type 1 where
 | ret (o : List V)
 | fail
 | side (p : Prop) (t : Tree)
 | call {Y : Type} (o : Y → Prop) (k : Y → Tree)
def Tree.D5 : Tree → List V → Prop
 | .ret o, r => o = r
 | .fail, _ => False
 | .side p t, r => p ∧ t.D5 r
 | .call o k, r => ∃ y, o y ∧ (k y).D5 r
theorem Di {b : Bool} {t : Tree} {r : List V} (h : (cond b t .fail).D5 r) : b = true ∧ t.D5 r := by
 cases b
 · exact h.elim
 · exact ⟨rfl, h⟩
theorem EI {b : Bool} {t e : Tree} {r : List V} (h : (cond b t e).D5 r) : (b = true → t.D5 r) ∧ (b = false → e.D5 r) := by
 cases b
 · exact ⟨nofun, fun _ => h⟩
 · exact ⟨fun _ => h, nofun⟩
structure OY : Type 1 where
 Y : Type
 need : Bool
 side : Prop
 run : Y → Prop
 fx : Fx
 next : Y → St
structure Env : Type 1 where
 pol : Nat → Nat
 nt : Nat
 hint : Nat → List Hint
 Km : Nat → List Hint
 PI : List Hint
 fin : St → Tree
 cut : Nat → Option (List Item × (St → Tree))
 call : Oper → St → Option OY
structure RL where
 KL : Option (Array Oper × Bool × Nat)
 K : List Item
 s : St
 kn : Nat → Option Bool
 fx : List Fx
 rs : List Rec
def Mi (all : Array Oper) (o : Oper) : Option (Option (Nat × Bool)) :=
 match o.guard with
 | none => some none
 | some (j, want) => match (all[j]?).bind (·.dst) with
   | some d => some (some (d, want))
   | none => none
def SK (o : Oper) : Bool := match o.op with
 | .call c => match c.callee with
   | .builtin _ => false
   | _ => true
 | _ => false
def Mf (kn : Nat → Option Bool) (fx : Fx) : Nat → Option Bool := fun t => cond (EY t fx.wt) none (kn t)
def Fx.with (fx : Fx) (gs : List Nat) : Fx := { fx with rt := gs ++ fx.rt }
section
variable (P : Program) (E : Env)
def Pq : List Bv → Option (List Bv × Nat)
 | [] => none
 | [.idx _ _ i] => some ([], i)
 | x :: p => (Pq p).map fun (q, i) => (x :: q, i)
def R6 (o : Oper) (s : St) (e : FF) (l : List Rec) : List Rec :=
 match o.op, e.Jr, e.new with
 | .load _ a, some (id, some _), some (id2, _) => match AR s.tm a with
   | .ptr _ p => match Pq p, s.H id with
     | some (q, i), some c => match c.ES q with
       | some (.arr sz n get) => ⟨id2, id, q, some (sz, n, i, get), c.ES p⟩ :: l
       | _ => l
     | _, some c => ⟨id2, id, p, none, c.ES p⟩ :: l
     | _, none => ⟨id2, id, p, none, none⟩ :: l
   | _ => l
 | _, _, _ => l
def Ph (s : St) : Hint → List Rec
 | .Ir id p d => match s.H id with
   | some c => [⟨.loc d 0, id, p, none, c.ES p⟩]
   | none => []
 | _ => []
def hints : List Hint → RL → (RL → Tree) → Tree
 | [], c, k => k c
 | h :: l, c, k => match R5 h c.s with
   | some (b, s) => cond b (hints l { c with s } k) (hints l c k)
   | none => match DY c.s c.rs h with
     | some (b, some p, s) => cond b (.side p (hints l { c with s, rs := Ph c.s h ++ c.rs } k)) .fail
     | some (b, none, s) => cond b (hints l { c with s, rs := Ph c.s h ++ c.rs } k) .fail
     | none => .fail
def PK (o : Oper) (gs : List Nat) (want : Bool) (c : RL) (k : St → Fx → List Rec → Tree) : Tree :=
 match want with
 | false => cond (EB E.nt o) (k (Ho o c.s) (FQ gs o) c.rs) .fail
 | true => match SK o with
   | true => match E.call o c.s with
     | some ct => cond ct.need (.side ct.side (.call ct.run fun y => k (ct.next y) (ct.fx.with gs) c.rs)) .fail
     | none => .fail
   | false => match C2 P E.pol c.kn o c.s with
     | some e => cond (KF E.nt o e && e.take.all fun t => EY t (Db o))
        (cond e.need (match e.side with
          | some p => .side p (k (BK o c.s e) (E0 E.pol gs o c.s e) (R6 o c.s e c.rs))
          | none => k (BK o c.s e) (E0 E.pol gs o c.s e) (R6 o c.s e c.rs)) .fail) .fail
     | none => .fail
def den : Nat → RL → Tree
 | 0, _ => .fail
 | n + 1, c => match c.KL with
   | some (all, draw, i) => match all[i]? with
     | none => cond (!draw || E4 all c.fx.reverse) (den n { c with KL := none, fx := [] }) .fail
     | some o =>
       let k := fun s fx rs => den n { KL := some (all, draw, i + 1), K := c.K, s := s, kn := Mf c.kn fx, fx := fx :: c.fx, rs := rs }
       match Mi all o with
       | none => .fail
       | some none => PK P E o [] true c k
       | some (some (d, want)) => match c.kn d with
         | some b => PK P E o [d] (b == want) c k
         | none => match c.s.tm d with
           | .bool v => cond v (den n { c with kn := C8 c.kn d (some true) }) (den n { c with kn := C8 c.kn d (some false) })
           | .CC .unit => PK P E o [d] false c k
           | _ => .fail
   | none => match c.K with
     | [] => hints E.PI c fun c => E.fin c.s
     | .code .ret :: _ => hints E.PI c fun c => E.fin c.s
     | .code .skip :: K => den n { c with K }
     | .code (.seq a b) :: K => den n { c with K := .code a :: .code b :: K }
     | .code (.block id b) :: K => den n { c with K := .code b :: .inBlock id :: K }
     | .code (.loop b) :: K => den n { c with K := .code b :: .inLoop b :: K }
     | .inLoop b :: K => den n { c with K := .code b :: .inLoop b :: K }
     | .inBlock _ :: K => den n { c with K }
     | .code (.scope b) :: K => den n { c with K := .code b :: .inScope b :: K }
     | .inScope _ :: K => den n { c with K }
     | .code (.label _) :: K => den n { c with K }
     | .code (.exit id) :: K => match exitTo id K with
       | some K => den n { c with K }
       | none => .fail
     | .code (.cond (.tmp t) a b) :: K => match c.kn t with
       | some v => den n { c with K := .code (cond v a b) :: K }
       | none => match c.s.tm t with
         | .bool v => cond v (den n { c with K := .code a :: K, kn := C8 c.kn t (some true) }) (den n { c with K := .code b :: K, kn := C8 c.kn t (some false) })
         | _ => .fail
     | .code (.region id ops draw) :: K => hints (E.hint id) c fun c => match E.cut id with
       | some (K', f) => .side (.code (.region id ops draw) :: K = K') (f c.s)
       | none => hints (E.Km id) c fun c => den n { c with KL := some (ops, draw, 0), K, fx := [] }
     | _ => .fail
def Uj (n : Nat) (c : RL) : Tree := match c.K with
 | .code (.region id ops draw) :: K => hints (E.Km id) c fun c => den P E n { c with KL := some (ops, draw, 0), K, fx := [] }
 | _ => den P E n c
end
end Go.Vm
end
section
namespace Go.Vm
open Go
structure OT (P : Program) (E : Env) (Γ : Ctx) (Φ : List V → Act → World → Prop) : Prop where
 mixed : P.follows .mixedOrders = true
 fin : ∀ s r, (E.fin s).D5 r → ∀ a w, Inv Γ E.nt s a w → Φ r a w
 cut : ∀ id K f, E.cut id = some (K, f) → ∀ s r, (f s).D5 r → ∀ a w, Inv Γ E.nt s a w → BC P K (Φ r) a w
 call : ∀ o s ct, E.call o s = some ct → ct.need = true → ct.side → ∀ y, ct.run y → over s (ct.next y) ct.fx = ct.next y ∧ (ct.fx.kh = [] ∧ ct.fx.kt = []) ∧
  ∀ ops i gs, ops[i]? = some o → FB ops E.nt Γ s o gs true → Cx P ops (Inv Γ E.nt) i s (ct.next y) (ct.fx.with gs)
section
variable {P : Program} {E : Env} {Γ : Ctx} {Φ : List V → Act → World → Prop}
theorem PJ (hE : OT P E Γ Φ) {ops : Array Oper} {i : Nat} {o : Oper} (ho : ops[i]? = some o) {gs : List Nat} {want : Bool} {c : RL} {k : St → Fx → List Rec → Tree} {r : List V} (hw : FB ops E.nt Γ c.s o gs want)
 (hkn : Fy c.kn c.s.tm) (h : (PK P E o gs want c k).D5 r) : ∃ s' fx, Cx P ops (Inv Γ E.nt) i c.s s' fx ∧ over c.s s' fx = s' ∧ ((∀ t ∈ fx.kh, HQ (s'.H t) (c.s.H t)) ∧ ∀ t ∈ fx.kt, DK (s'.tm t) (c.s.tm t)) ∧ ∃ rs, (k s' fx rs).D5 r := by
 cases want with
 | false =>
   simp only [PK] at h
   cases hd : EB E.nt o
   · rw [hd] at h; exact h.elim
   · rw [hd] at h; exact ⟨_, _, QJ ho hw hd, QK, ⟨(fun _ h => by cases h), (fun _ h => by cases h)⟩, _, h⟩
 | true =>
   simp only [PK] at h
   cases hcl : SK o
   · rw [hcl] at h
     simp only at h
     cases he : C2 P E.pol c.kn o c.s with
     | none => rw [he] at h; exact h.elim
     | some e =>
       rw [he] at h
       simp only at h
       cases hb : (KF E.nt o e && e.take.all fun t => EY t (Db o))
       · rw [hb] at h; exact h.elim
       · rw [hb, cond_true] at h
         simp only [Bool.and_eq_true] at hb
         obtain ⟨hn, h⟩ := Di h
         have hov : over c.s (BK o c.s e) (E0 E.pol gs o c.s e) = BK o c.s e := (Ja (pol := E.pol) fun _ _ => rfl).symm
         cases hs : e.side with
         | none =>
           rw [hs] at h
           exact ⟨_, _, Nn ho hw hkn he hb.1 hb.2 hn (fun p hp => by rw [hs] at hp; cases hp), hov, ⟨Ll he, KW he⟩, _, h⟩
         | some p =>
           rw [hs] at h
           exact ⟨_, _, Nn ho hw hkn he hb.1 hb.2 hn (fun q hq => by rw [hs] at hq; cases hq; exact h.1), hov, ⟨Ll he, KW he⟩, _, h.2⟩
   · rw [hcl] at h
     simp only at h
     cases hc : E.call o c.s with
     | none => rw [hc] at h; exact h.elim
     | some ct =>
       rw [hc] at h
       obtain ⟨hnd, hs, y, hy, h⟩ := Di h
       obtain ⟨h1, h3, h2⟩ := hE.call o c.s ct hc hnd hs y hy
       exact ⟨_, _, h2 ops i gs ho hw, h1, ⟨(fun t ht => by have : t ∈ ct.fx.kh := ht; rw [h3.1] at this; cases this), (fun t ht => by have : t ∈ ct.fx.kt := ht; rw [h3.2] at this; cases this)⟩, _, h⟩
theorem Qr {kn : Nat → Option Bool} {s s' : St} {fx : Fx} (h : Fy kn s.tm) (he : over s s' fx = s') : Fy (Mf kn fx) s'.tm := by
 intro t b ht
 simp only [Mf] at ht
 cases hm : EY t fx.wt
 · rw [hm] at ht
   rw [← he]
   simp only [over, hm, cond_false]
   exact h t b ht
 · rw [hm] at ht; cases ht
theorem MH {kn : Nat → Option Bool} {tm : Nat → V} {d : Nat} {v b : Bool} (h : Fy kn tm) (hd : tm d = .bool v) (hv : v = b) : Fy (C8 kn d (some b)) tm := by
 intro t b' ht
 by_cases e : t = d
 · subst e; rw [BN] at ht; cases ht; rw [hd, hv]
 · rw [Bm _ _ e] at ht; exact h t b' ht
def Good (P : Program) (E : Env) (Γ : Ctx) (Φ : List V → Act → World → Prop) (c : RL) (r : List V) : Prop :=
 match c.KL with
 | some (all, draw, i) => i ≤ all.size → ∃ s' l, Tr (Cx P all (Inv Γ E.nt)) i c.s l s' ∧ i + l.length = all.size ∧ (draw = true → E4 all (c.fx.reverse ++ l.map (·.1)) = true) ∧
    ∀ a w, Inv Γ E.nt s' a w → BC P c.K (Φ r) a w
 | none => ∀ a w, Inv Γ E.nt c.s a w → BC P c.K (Φ r) a w
theorem Qu {nt : Nat} {s : St} {a : Act} {w : World} (h : Inv Γ nt s a w) : Inv Γ nt s a { w with drawn := w.drawn + 1 } := by
 obtain ⟨h1, h2, F, ρ, fam, hm, hs⟩ := h
 obtain ⟨k1, k2⟩ := hs.drew hm
 exact ⟨h1, h2, F, ρ, fam, k1, k2⟩
theorem OE (hE : OT P E Γ Φ) {c : RL} {r : List V} {id : Nat} {ops : Array Oper} {draw : Bool} {K : List Item} (h : Good P E Γ Φ { c with KL := some (ops, draw, 0), K := K, fx := [] } r) :
 ∀ a w, Inv Γ E.nt c.s a w → BC P (.code (.region id ops draw) :: K) (Φ r) a w := by
 intro a w hI
 obtain ⟨s', l, h1, h2, h3, h4⟩ := h (Nat.zero_le _)
 cases draw with
 | true => exact Tn hE.mixed h1 (by simpa using h2) (by simpa using h3 rfl) h4 (Qu hI)
 | false =>
   refine .region ?_
   have := QL h4 h1 h2 hI
   rw [List.range_eq_range', ← (by simpa using h2 : l.length = ops.size)]
   exact this
theorem Lw {nt : Nat} {s : St} {a : Act} {w : World} {t : Nat} {v : Bool} (hI : Inv Γ nt s a w) (h : s.tm t = .bool v) : a.eval (.tmp t) = .bool v := by
 obtain ⟨_, _, F, ρ, fam, hm, hs⟩ := hI
 have := Ag hs (.tmp t)
 simp only [AR, h] at this
 exact DX this
theorem Ea {nt : Nat} {a : Act} {w : World} {G : Prop} : ∀ {l : List Hint} {c : RL} {k : RL → Tree} {r : List V}, Inv Γ nt c.s a w → Fy c.kn c.s.tm → (hints l c k).D5 r →
 (∀ c', c'.KL = c.KL → c'.K = c.K → Inv Γ nt c'.s a w → Fy c'.kn c'.s.tm → (k c').D5 r → G) → G := by
 intro l
 induction l with
 | nil => intro c k r hI hkn h hk; exact hk c rfl rfl hI hkn h
 | cons x l ih =>
   intro c k r hI hkn h hk
   simp only [hints] at h
   split at h
   · rename_i b s' hn
     cases b with
     | true =>
       obtain ⟨h1, h2, F, ρ, fam, h3, h4⟩ := hI
       exact ih (c := { c with s := s' }) ⟨h1, h2, F, ρ, fam, h3, TX hn h4⟩ (TY hn hkn) ((EI h).1 rfl) (fun c' e1 e2 => hk c' e1 e2)
     | false => exact ih hI hkn ((EI h).2 rfl) hk
   split at h
   · rename_i b p s' hw
     obtain ⟨hb, hp, h⟩ := Di h
     exact ih (c := { c with s := s', rs := Ph c.s x ++ c.rs }) (N1 hI hw hb (fun q hq => by cases hq; exact hp)) (Pt hkn hw) h (fun c' e1 e2 => hk c' e1 e2)
   · rename_i b s' hw
     obtain ⟨hb, h⟩ := Di h
     exact ih (c := { c with s := s', rs := Ph c.s x ++ c.rs }) (N1 hI hw hb (fun q hq => by cases hq)) (Pt hkn hw) h (fun c' e1 e2 => hk c' e1 e2)
   · exact h.elim
theorem Lz (hE : OT P E Γ Φ) : ∀ (n : Nat) (c : RL) (r : List V), (den P E n c).D5 r → Fy c.kn c.s.tm → Good P E Γ Φ c r := by
 intro n
 induction n with
 | zero => intro c r h; exact h.elim
 | succ n ih =>
   intro c r h hkn
   obtain ⟨KL, K, s, kn, fx, rs⟩ := c
   cases KL with
   | some p =>
     obtain ⟨all, draw, i⟩ := p
     simp only [Good]
     intro hi
     simp only [den] at h
     cases ho : all[i]? with
     | none =>
       rw [ho] at h
       simp only at h
       have hie : i = all.size := by have := Array.getElem?_eq_none_iff.1 ho; omega
       cases hb : (!draw || E4 all fx.reverse)
       · rw [hb] at h; exact h.elim
       · rw [hb, cond_true] at h
         refine ⟨s, [], .nil, by simpa using hie, fun hd => ?_, ih _ r h hkn⟩
         subst hd
         simpa using hb
     | some o =>
       rw [ho] at h
       simp only at h
       have hlt := (Array.getElem?_eq_some_iff.1 ho).1
       have more : ∀ gs want, FB all E.nt Γ s o gs want → (PK P E o gs want ⟨some (all, draw, i), K, s, kn, fx, rs⟩ (fun s fx' rs => den P E n { KL := some (all, draw, i + 1), K := K, s := s, kn := Mf kn fx', fx := fx' :: fx, rs := rs })).D5 r →
        ∃ s' l, Tr (Cx P all (Inv Γ E.nt)) i s l s' ∧ i + l.length = all.size ∧ (draw = true → E4 all (fx.reverse ++ l.map (·.1)) = true) ∧ ∀ a w, Inv Γ E.nt s' a w → BC P K (Φ r) a w := by
        intro gs want hw hg
        obtain ⟨s', fx', h1, h2, hv, rs', h3⟩ := PJ hE ho hw hkn hg
        have := ih _ r h3 (Qr hkn h2)
        simp only [Good] at this
        obtain ⟨s'', l, k1, k2, k3, k4⟩ := this (by omega)
        refine ⟨s'', (fx', s') :: l, .cons h1 h2 hv k1, by rw [List.length_cons]; omega, fun hd => ?_, k4⟩
        have := k3 hd
        simpa using this
       cases hga : Mi all o with
       | none => rw [hga] at h; exact h.elim
       | some g =>
         rw [hga] at h
         unfold Mi at hga
         cases hgd : o.guard with
         | none =>
           rw [hgd] at hga
           obtain rfl := (Option.some.inj hga).symm
           exact more [] true (NJ hgd) h
         | some jw =>
           obtain ⟨j, want⟩ := jw
           rw [hgd] at hga
           simp only at hga
           cases hd : (all[j]?).bind (·.dst) with
           | none => rw [hd] at hga; cases hga
           | some d =>
             rw [hd] at hga
             obtain rfl := (Option.some.inj hga).symm
             simp only at h
             cases hkd : kn d with
             | some b =>
               rw [hkd] at h
               exact more [d] (b == want) (QE hgd hd (hkn d b hkd)) h
             | none =>
               rw [hkd] at h
               simp only at h
               cases hv : s.tm d <;> rw [hv] at h <;> (try exact h.elim)
               case CC v =>
                cases v <;> (try exact h.elim)
                exact more [d] false (NI hgd hd hv) h
               rename_i v
               cases v with
               | true =>
                 have := ih _ r ((EI h).1 rfl) (MH hkn hv rfl)
                 simp only [Good] at this
                 exact this hi
               | false =>
                 have := ih _ r ((EI h).2 rfl) (MH hkn hv rfl)
                 simp only [Good] at this
                 exact this hi
   | none =>
     simp only [Good]
     intro a w hI
     simp only [den] at h
     have go : ∀ (K' : List Item), (den P E n ⟨none, K', s, kn, fx, rs⟩).D5 r → BC P K' (Φ r) a w := fun K' h => (ih ⟨none, K', s, kn, fx, rs⟩ r h hkn : Good P E Γ Φ ⟨none, K', s, kn, fx, rs⟩ r) a w hI
     cases K with
     | nil => exact .nil (Ea hI hkn h fun c' _ _ hI' hk' h' => hE.fin c'.s r h' a w hI')
     | cons it K =>
       cases it with
       | inLoop b => exact .inLoop (go _ h)
       | inBlock id => exact .inBlock (go _ h)
       | inScope b => exact .inScope (go _ h)
       | code cd =>
         cases cd with
         | ret => exact .ret (Ea hI hkn h fun c' _ _ hI' hk' h' => hE.fin c'.s r h' a w hI')
         | skip => exact .skip (go _ h)
         | seq x y => exact .seq (go _ h)
         | block id b => exact .block (go _ h)
         | loop b => exact .loop (go _ h)
         | scope b => exact .scope (go _ h)
         | label l => exact .label (go _ h)
         | exit id =>
           simp only at h
           cases he : exitTo id K with
           | none => rw [he] at h; exact h.elim
           | some K' => rw [he] at h; exact .exit he (go _ h)
         | cond x y z =>
           cases x with
           | tmp t =>
             simp only at h
             cases hkt : kn t with
             | some v =>
               rw [hkt] at h
               have e : (if v = true then y else z) = cond v y z := by cases v <;> rfl
               exact .cond (Lw hI (hkn t v hkt)) (by rw [e]; exact go _ h)
             | none =>
               rw [hkt] at h
               simp only at h
               cases hv : s.tm t <;> rw [hv] at h <;> (try exact h.elim)
               rename_i v
               refine .cond (Lw hI hv) ?_
               cases v with
               | true => exact (ih ⟨none, _, s, C8 kn t (some true), fx, rs⟩ r ((EI h).1 rfl) (MH hkn hv rfl) : Good P E Γ Φ ⟨none, _, s, C8 kn t (some true), fx, rs⟩ r) a w hI
               | false => exact (ih ⟨none, _, s, C8 kn t (some false), fx, rs⟩ r ((EI h).2 rfl) (MH hkn hv rfl) : Good P E Γ Φ ⟨none, _, s, C8 kn t (some false), fx, rs⟩ r) a w hI
           | _ => exact h.elim
         | region id ops draw =>
           simp only at h
           refine Ea hI hkn h fun c' e1 e2 hI' hk' h' => ?_
           obtain ⟨reg', K', s', kn', fx', rs'⟩ := c'
           simp only at e1 e2
           subst e1 e2
           cases hc : E.cut id with
           | some p =>
             obtain ⟨K', f⟩ := p
             rw [hc] at h'
             obtain ⟨hK, h'⟩ := h'
             rw [hK]
             exact hE.cut id K' f hc s' r h' a w hI'
           | none =>
             rw [hc] at h'
             refine Ea hI' hk' h' fun c' e1 e2 hI2 hk2 h2 => ?_
             obtain ⟨reg2, K2, s2, kn2, fx2, rs2⟩ := c'
             exact OE hE (c := ⟨none, K, s2, kn2, fx2, rs2⟩) (ih ⟨some (ops, draw, 0), K, s2, kn2, [], rs2⟩ r h2 hk2) a w hI2
         | _ => exact h.elim
       | _ => exact h.elim
theorem PL (hE : OT P E Γ Φ) {n : Nat} {c : RL} {r : List V} (h : (Uj P E n c).D5 r) (hkn : Fy c.kn c.s.tm) (hreg : c.KL = none) : ∀ a w, Inv Γ E.nt c.s a w → BC P c.K (Φ r) a w := by
 obtain ⟨KL, K, s, kn, fx, rs⟩ := c
 simp only at hreg
 subst hreg
 unfold Uj at h
 split at h
 · rename_i id ops draw K' hK
   simp only at hK
   subst hK
   intro a w hI
   refine Ea hI hkn h fun c' e1 e2 hI2 hk2 h2 => ?_
   obtain ⟨reg2, K2, s2, kn2, fx2, rs2⟩ := c'
   exact OE hE (c := ⟨none, K', s2, kn2, fx2, rs2⟩) (Lz hE n _ r h2 hk2) a w hI2
 · exact (Lz hE n _ r h hkn : Good P E Γ Φ ⟨none, K, s, kn, fx, rs⟩ r)
end
end Go.Vm
end
section
namespace Go.Vm
open Go
def Bv.same : Bv → Bv → Bool
 | .CI j d, .CI j' d' => Nat.beq j j' && Nat.beq d d'
 | _, _ => false
def strip : List Bv → List Bv → Option (List Bv)
 | [], q => some q
 | s :: p, t :: q => cond (s.same t) (strip p q) none
 | _ :: _, [] => none
def look : List (Id × List Bv) → Nat → Id → List Bv → Option (Nat × List Bv)
 | [], _, _, _ => none
 | (id, p) :: σ, i, id', q => cond (id.same id') (match strip p q with | some r => some (i, r) | none => look σ (i + 1) id' q) (look σ (i + 1) id' q)
def V.Ay (σ : List (Id × List Bv)) : V → V
 | .ptr id p => match look σ 0 id p with | some (i, q) => .ptr (.par i) q | none => .undef
 | .own id p s N off len => match look σ 0 id p with | some (i, q) => .own (.par i) q s N off len | none => .undef
 | .cons x r => .cons (Ay σ x) (Ay σ r)
 | .arr s n get => .arr s n fun i => Ay σ (get i)
 | .CC x => .CC (Ay σ x)
 | .fn f c => .fn f (Ay σ c)
 | .iface t x => .iface t (Ay σ x)
 | .Bl id e s nil n => match look σ 0 id [] with | some (i, []) => .Bl (.par i) e s nil n | _ => .undef
 | .Ai nil x => .Ai nil (Ay σ x)
 | .A4 e s nil n get => .A4 e s nil n fun i => Ay σ (get i)
 | x => x
def V.D8 (σ : List (Id × List Bv)) : V → V
 | .ptr (.par i) q => match σ[i]? with | some (id, p) => .ptr id (p ++ q) | none => .undef
 | .ptr (.loc _ _) _ => .undef
 | .own (.par i) q s N off len => match σ[i]? with | some (id, p) => .own id (p ++ q) s N off len | none => .undef
 | .own (.loc _ _) _ _ _ _ _ => .undef
 | .cons x r => .cons (D8 σ x) (D8 σ r)
 | .arr s n get => .arr s n fun i => D8 σ (get i)
 | .CC x => .CC (D8 σ x)
 | .fn f c => .fn f (D8 σ c)
 | .iface t x => .iface t (D8 σ x)
 | .Bl (.par i) e s nil n => match σ[i]? with | some (id, []) => .Bl id e s nil n | _ => .undef
 | .Bl (.loc _ _) _ _ _ _ => .undef
 | .Ai nil x => .Ai nil (D8 σ x)
 | .A4 e s nil n get => .A4 e s nil n fun i => D8 σ (get i)
 | x => x
theorem Bv.S7 {s t : Bv} (h : s.same t = true) : s = t := by
 cases s <;> cases t <;> simp [Bv.same] at h
 obtain ⟨rfl, rfl⟩ := h
 rfl
theorem RS : ∀ {p q r : List Bv}, strip p q = some r → q = p ++ r := by
 intro p
 induction p with
 | nil => intro q r h; simp [strip] at h; simp [h]
 | cons s p ih =>
   intro q r h
   cases q with
   | nil => simp [strip] at h
   | cons t q =>
     simp only [strip] at h
     obtain ⟨h1, h2⟩ := AL h
     rw [Bv.S7 h1, ih h2]
     rfl
theorem look_eq : ∀ {σ : List (Id × List Bv)} {b : Nat} {id : Id} {q : List Bv} {i : Nat} {r : List Bv}, look σ b id q = some (i, r) → ∃ j p, i = b + j ∧ σ[j]? = some (id, p) ∧ q = p ++ r := by
 intro σ
 induction σ with
 | nil => intro b id q i r h; simp [look] at h
 | cons x σ ih =>
   obtain ⟨id0, p0⟩ := x
   intro b id q i r h
   have next : look σ (b + 1) id q = some (i, r) → ∃ j p, i = b + j ∧ ((id0, p0) :: σ)[j]? = some (id, p) ∧ q = p ++ r := by
    intro h
    obtain ⟨j, p, h1, h2, h3⟩ := ih h
    exact ⟨j + 1, p, by omega, by simpa using h2, h3⟩
   simp only [look] at h
   cases hs : id0.same id
   · rw [hs] at h; exact next h
   · rw [hs, cond_true] at h
     cases hst : strip p0 q with
     | none => rw [hst] at h; exact next h
     | some r' =>
       rw [hst] at h
       simp only [Option.some.injEq, Prod.mk.injEq] at h
       obtain ⟨rfl, rfl⟩ := h
       exact ⟨0, p0, rfl, by rw [(Id.Bb _ _).1 hs]; rfl, RS hst⟩
theorem IZ (σ : List (Id × List Bv)) (x : V) : (x.Ay σ).agg = x.agg := by
 cases x <;> simp only [V.Ay] <;> (try rfl)
 · split <;> rfl
 · split <;> rfl
 · split <;> rfl
theorem MQ (σ : List (Id × List Bv)) (x : V) : (x.D8 σ).agg = x.agg := by
 cases x <;> (try rfl)
 · rename_i id p
   cases id
   · simp only [V.D8]; split <;> rfl
   · rfl
 · rename_i id p s N off len
   cases id
   · simp only [V.D8]; split <;> rfl
   · rfl
 · rename_i id e s nil n
   cases id
   · simp only [V.D8]; split <;> rfl
   · rfl
section
variable {F : AF} {w : World} {σ : List (Id × List Bv)} {ρ ρ' : Names}
theorem QG (h : ∀ (i : Nat) (id : Id) (p : List Bv), σ[i]? = some (id, p) → ∀ a, ρ id = some a → ρ' (.par i) = some (a.1, a.2 + Ab p)) :
 ∀ (x : V) {cs : List Value} {fp : AF}, AK F w ρ x cs fp → AK F w ρ' (x.Ay σ) cs fp := by
 intro x
 induction x with
 | ptr id p =>
   intro cs fp hx
   simp only [AK] at hx
   obtain ⟨g, o, h1, h2, rfl⟩ := hx
   simp only [V.Ay]
   split
   · rename_i i q hl
     obtain ⟨j, p', rfl, h3, rfl⟩ := look_eq hl
     rw [Nat.zero_add]
     refine ⟨g, o + Ab p', h j id p' h3 (g, o) h1, fun s hs => h2 s (by simp [hs]), ?_⟩
     rw [B6, Nat.add_assoc]
   · exact ⟨_, rfl, rfl⟩
 | own id p s N off len =>
   intro cs fp hx
   simp only [AK] at hx
   obtain ⟨g, o, c, A, h1, h2, rfl, h4⟩ := hx
   simp only [V.Ay]
   split
   · rename_i i q hl
     obtain ⟨j, p', rfl, h3, rfl⟩ := look_eq hl
     rw [Nat.zero_add]
     refine ⟨g, o + Ab p', c, A, h j id p' h3 (g, o) h1, fun s hs => h2 s (by simp [hs]), rfl, h4.1, h4.2.1, h4.2.2.1, fun h5 => ?_⟩
     rw [h4.2.2.2 h5, B6]
     congr 2
     omega
   · exact ⟨_, rfl, rfl⟩
 | cons x r hx hr =>
   intro cs fp h0
   simp only [AK, V.Ay] at h0 ⊢
   obtain ⟨a, b, fa, fb, h1, h2, h3, h4⟩ := h0
   exact ⟨a, b, fa, fb, h1, hx h2, hr h3, h4⟩
 | arr s n get ih =>
   intro cs fp h0
   simp only [AK, V.Ay] at h0 ⊢
   obtain ⟨f, fs, h1, h2, h3⟩ := h0
   exact ⟨f, fs, fun i hi => ⟨(h1 i hi).1, ih i (h1 i hi).2.1, (h1 i hi).2.2⟩, h2, h3⟩
 | fn f c ih => intro cs fp h0; simp only [AK, V.Ay] at h0 ⊢; obtain ⟨xs, h1, h2⟩ := h0; exact ⟨xs, h1, ih h2⟩
 | iface t x ih =>
   intro cs fp h0
   simp only [AK, V.Ay] at h0 ⊢
   obtain ⟨xs, v, h1, h2, h3, h4⟩ := h0
   exact ⟨xs, v, h1, ih h2, by rw [IZ]; exact h3, by rw [IZ]; exact h4⟩
 | CC => intro cs fp h0; simp [AK] at h0
 | Ai nil x ih =>
   intro cs fp h0
   simp only [AK, V.Ay] at h0 ⊢
   obtain ⟨A, h1, h2, h3⟩ := h0
   refine ⟨A, h1, h2, fun hn => ?_⟩
   obtain ⟨g, o, xs, f, k1, k2, k3⟩ := h3 hn
   exact ⟨g, o, xs, f, k1, ih k2, k3⟩
 | A4 e s nil n get ih =>
   intro cs fp h0
   simp only [AK, V.Ay] at h0 ⊢
   obtain ⟨A, c, h1, h2, h3, h4, h5⟩ := h0
   refine ⟨A, c, h1, h2, h3, h4, fun hn => ?_⟩
   obtain ⟨g, o, k1, k2, k3, xs, f, fs, k4, k5, k6, k7⟩ := h5 hn
   exact ⟨g, o, k1, k2, k3, xs, f, fs, k4, k5, fun i hi => ⟨(k6 i hi).1, ih i (k6 i hi).2.1, (k6 i hi).2.2⟩, k7⟩
 | Bl id e s nil n =>
   intro cs fp hx
   simp only [AK] at hx
   obtain ⟨g, o, A, c, h1, rfl, h4⟩ := hx
   simp only [V.Ay]
   split
   · rename_i i hl
     obtain ⟨j, p', rfl, h3, h5⟩ := look_eq hl
     rw [Nat.zero_add]
     obtain ⟨rfl, _⟩ := List.append_eq_nil_iff.1 h5.symm
     have := h j id [] h3 (g, o) h1
     exact ⟨g, o, A, c, by simpa [Ab] using this, rfl, h4⟩
   · exact ⟨_, rfl, rfl⟩
 | undef | int | bool | str | B7 | unit | FX | DW | vp | sl => intro cs fp h0; simpa only [AK, V.Ay] using h0
theorem TB (h : ∀ (i : Nat) (id : Id) (p : List Bv), σ[i]? = some (id, p) → ∀ a, ρ' (.par i) = some a → Cu p ∧ ∃ b, ρ id = some b ∧ a = (b.1, b.2 + Ab p)) :
 ∀ (x : V) {cs : List Value} {fp : AF}, AK F w ρ' x cs fp → AK F w ρ (x.D8 σ) cs fp := by
 intro x
 induction x with
 | ptr id p =>
   intro cs fp hx
   simp only [AK] at hx
   obtain ⟨g, o, h1, h2, rfl⟩ := hx
   cases id with
   | loc => exact ⟨_, rfl, rfl⟩
   | par i =>
     simp only [V.D8]
     split
     · rename_i id p' hl
       obtain ⟨h3, ⟨g', o'⟩, h4, h5⟩ := h i id p' hl _ h1
       cases h5
       refine ⟨g', o', h4, fun s hs => ?_, ?_⟩
       · rcases List.mem_append.1 hs with hs | hs
         · exact h3 s hs
         · exact h2 s hs
       · rw [B6, Nat.add_assoc]
     · exact ⟨_, rfl, rfl⟩
 | own id p s N off len =>
   intro cs fp hx
   simp only [AK] at hx
   obtain ⟨g, o, c, A, h1, h2, rfl, k1, k2, k3, k4⟩ := hx
   cases id with
   | loc => exact ⟨_, rfl, rfl⟩
   | par i =>
     simp only [V.D8]
     split
     · rename_i id p' hl
       obtain ⟨h3, ⟨g', o'⟩, h4, h5⟩ := h i id p' hl _ h1
       cases h5
       refine ⟨g', o', c, A, h4, fun s hs => ?_, rfl, k1, k2, k3, fun h5 => ?_⟩
       · rcases List.mem_append.1 hs with hs | hs
         · exact h3 s hs
         · exact h2 s hs
       · rw [k4 h5, B6]
         congr 2
         omega
     · exact ⟨_, rfl, rfl⟩
 | cons x r hx hr =>
   intro cs fp h0
   simp only [AK, V.D8] at h0 ⊢
   obtain ⟨a, b, fa, fb, h1, h2, h3, h4⟩ := h0
   exact ⟨a, b, fa, fb, h1, hx h2, hr h3, h4⟩
 | arr s n get ih =>
   intro cs fp h0
   simp only [AK, V.D8] at h0 ⊢
   obtain ⟨f, fs, h1, h2, h3⟩ := h0
   exact ⟨f, fs, fun i hi => ⟨(h1 i hi).1, ih i (h1 i hi).2.1, (h1 i hi).2.2⟩, h2, h3⟩
 | fn f c ih => intro cs fp h0; simp only [AK, V.D8] at h0 ⊢; obtain ⟨xs, h1, h2⟩ := h0; exact ⟨xs, h1, ih h2⟩
 | iface t x ih =>
   intro cs fp h0
   simp only [AK, V.D8] at h0 ⊢
   obtain ⟨xs, v, h1, h2, h3, h4⟩ := h0
   exact ⟨xs, v, h1, ih h2, by rw [MQ]; exact h3, by rw [MQ]; exact h4⟩
 | CC => intro cs fp h0; simp [AK] at h0
 | Ai nil x ih =>
   intro cs fp h0
   simp only [AK, V.D8] at h0 ⊢
   obtain ⟨A, h1, h2, h3⟩ := h0
   refine ⟨A, h1, h2, fun hn => ?_⟩
   obtain ⟨g, o, xs, f, k1, k2, k3⟩ := h3 hn
   exact ⟨g, o, xs, f, k1, ih k2, k3⟩
 | A4 e s nil n get ih =>
   intro cs fp h0
   simp only [AK, V.D8] at h0 ⊢
   obtain ⟨A, c, h1, h2, h3, h4, h5⟩ := h0
   refine ⟨A, c, h1, h2, h3, h4, fun hn => ?_⟩
   obtain ⟨g, o, k1, k2, k3, xs, f, fs, k4, k5, k6, k7⟩ := h5 hn
   exact ⟨g, o, k1, k2, k3, xs, f, fs, k4, k5, fun i hi => ⟨(k6 i hi).1, ih i (k6 i hi).2.1, (k6 i hi).2.2⟩, k7⟩
 | Bl id e s nil n =>
   intro cs fp hx
   simp only [AK] at hx
   obtain ⟨g, o, A, c, h1, rfl, h4⟩ := hx
   cases id with
   | loc => exact ⟨_, rfl, rfl⟩
   | par i =>
     simp only [V.D8]
     split
     · rename_i id hl
       obtain ⟨h3, ⟨g', o'⟩, h5, h6⟩ := h i id [] hl _ h1
       simp only [Ab, Nat.add_zero, Prod.mk.injEq] at h6
       obtain ⟨rfl, rfl⟩ := h6
       exact ⟨g, o, A, c, h5, rfl, h4⟩
     · exact ⟨_, rfl, rfl⟩
 | undef | int | bool | str | B7 | unit | FX | DW | vp | sl => intro cs fp h0; simpa only [AK, V.D8] using h0
end
end Go.Vm
end
section
namespace Go.Vm
open Go
section
variable {F : AF} {w : World} {σ : List (Id × List Bv)} {ρ ρ' : Names}
structure Jn (F : AF) (w : World) (ρ ρ' : Names) (T : V → V) : Prop where
 rel : ∀ (x : V) {cs : List Value} {fp : AF}, AK F w ρ x cs fp → AK F w ρ' (T x) cs fp
 agg : ∀ x, (T x).agg = x.agg
 undef : T .undef = .undef
 CC : ∀ x, T (.CC x) = .CC (T x)
 unit : T .unit = .unit
 cons : ∀ x r, T (.cons x r) = .cons (T x) (T r)
theorem Oi (h : ∀ (i : Nat) (id : Id) (p : List Bv), σ[i]? = some (id, p) → ∀ a, ρ id = some a → ρ' (.par i) = some (a.1, a.2 + Ab p)) : Jn F w ρ ρ' (V.Ay σ) :=
 ⟨QG h, IZ σ, rfl, fun _ => rfl, rfl, fun _ _ => rfl⟩
theorem RP (h : ∀ (i : Nat) (id : Id) (p : List Bv), σ[i]? = some (id, p) → ∀ a, ρ' (.par i) = some a → Cu p ∧ ∃ b, ρ id = some b ∧ a = (b.1, b.2 + Ab p)) : Jn F w ρ' ρ (V.D8 σ) :=
 ⟨TB h, MQ σ, rfl, fun _ => rfl, rfl, fun _ _ => rfl⟩
variable {T : V → V}
theorem Jn.Uv (hT : Jn F w ρ ρ' T) {x : V} {v : Value} {fp : AF} (h : BI F w ρ x v fp) : BI F w ρ' (T x) v fp :=
 ⟨fun ha => let ⟨cs, h1, h2⟩ := h.1 (by rwa [hT.agg] at ha); ⟨cs, h1, hT.rel x h2⟩, fun ha => hT.rel x (h.2 (by rwa [hT.agg] at ha))⟩
theorem Jn.relL (hT : Jn F w ρ ρ' T) : ∀ {x : V} {vs : List Value} {fp : AF}, D4 F w ρ x vs fp → D4 F w ρ' (T x) vs fp := by
 intro x
 induction x with
 | cons x r _ ih =>
   intro vs fp h
   rw [hT.cons]
   simp only [D4] at h ⊢
   obtain ⟨v, vs', fa, fb, h1, h2, h3, h4⟩ := h
   exact ⟨v, vs', fa, fb, h1, hT.Uv h2, ih h3, h4⟩
 | unit => intro vs fp h; rw [hT.unit]; exact h
 | _ => intro vs fp h; exact h.elim
theorem JM {x : V} {v : Value} {fp : AF} (h : BI F w ρ x v fp) : ∀ y, x ≠ .CC y := by
 rintro y rfl
 have := h.2 rfl
 simp [AK] at this
theorem Jn.UK (hT : Jn F w ρ ρ' T) {x : V} {v : Value} {fp : AF} (h : Al F w ρ x v fp) : Al F w ρ' (T x) v fp := by
 have key : BI F w ρ x v fp → Al F w ρ' (T x) v fp := by
  intro h1
  have h2 := hT.Uv h1
  cases hTx : T x with
  | undef => trivial
  | CC y => exact absurd hTx (JM h2 y)
  | _ => rw [hTx] at h2; exact h2
 cases x with
 | undef => rw [hT.undef]; trivial
 | CC y => rw [hT.CC]; obtain ⟨vs, h1, h2⟩ := h; exact ⟨vs, h1, hT.relL h2⟩
 | _ => exact key h
theorem Jn.TC (hT : Jn F w ρ ρ' T) {a : Nat × Nat} {x : V} {fp : AF} (h : CA F w ρ a x fp) : CA F w ρ' a (T x) fp := by
 have key : (∃ xs f, AK F w ρ x xs f ∧ Region w fp a.1 a.2 xs ∧ f.Sub fp ∧ f.D6 (AZ a.1 a.2 xs.length)) → CA F w ρ' a (T x) fp := by
  rintro ⟨xs, f, h1, h2, h3, h4⟩
  exact FK (hT.rel x h1) h2 h3 h4
 exact key h
end
end Go.Vm
end
section
namespace Go.Vm
open Go
inductive Sh where
 | any
 | cp
 | sl (tok : Option TypeId) (s : Nat) (d : V)
 | A4 (e : TypeId) (s : Nat) (d : V)
 | box (d : V)
 | cons (a b : Sh)
def RD (tok : Option TypeId) (s : Nat) (d : V) (t0 : Option TypeId) (s0 : Nat) (nil : Bool) (n : Nat) (get : Nat → V) : Bool × V :=
 match s0 with
 | 0 => (nil, .sl tok s nil n fun _ => d)
 | s0 => match tok, t0 with
   | none, _ => (true, .sl none s0 nil n get)
   | some _, some e => (true, .sl (some e) s0 nil n get)
   | some e, none => (nil, .sl (some e) s0 nil n fun _ => d)
def L4 (e : TypeId) (s : Nat) (d : V) (s0 : Nat) (nil : Bool) (n : Nat) (get : Nat → V) : Bool × V :=
 match s0 with
 | 0 => (nil, .A4 e s nil n fun _ => d)
 | s0 => (nil, .A4 e s0 nil n fun _ => d)
def Sh.az : Sh → V → Bool × V
 | .any, v => (true, v)
 | .cp, v => (true, v.AP)
 | .sl tok s d, .sl t0 s0 nil n get => RD tok s d t0 s0 nil n get
 | .A4 e s d, .sl _ s0 nil n get => L4 e s d s0 nil n get
 | .box d, .B7 => (true, .Ai true d)
 | .cons a b, .cons x r => ((a.az x).1 && (b.az r).1, .cons (a.az x).2 (b.az r).2)
 | _, v => (true, v)
theorem M5 (tok : Option TypeId) (s : Nat) (d : V) (t0 : Option TypeId) (s0 : Nat) (nil : Bool) (n : Nat) (get : Nat → V) : ∃ tok' s' get', (RD tok s d t0 s0 nil n get).2 = .sl tok' s' nil n get' ∧
 ((RD tok s d t0 s0 nil n get).1 = true → nil = true ∨ (s' = s0 ∧ get' = get ∧ (tok' = none ∨ tok' = t0))) := by
 unfold RD
 split
 · exact ⟨_, _, _, rfl, fun h => .inl h⟩
 · split
   · exact ⟨_, _, _, rfl, fun _ => .inr ⟨rfl, rfl, .inl rfl⟩⟩
   · exact ⟨_, _, _, rfl, fun _ => .inr ⟨rfl, rfl, .inr rfl⟩⟩
   · exact ⟨_, _, _, rfl, fun h => .inl h⟩
theorem K4 (e : TypeId) (s : Nat) (d : V) (s0 : Nat) (nil : Bool) (n : Nat) (get : Nat → V) : ∃ s' get', (L4 e s d s0 nil n get).2 = .A4 e s' nil n get' ∧ ((L4 e s d s0 nil n get).1 = true → nil = true) := by
 unfold L4
 split
 · exact ⟨_, _, rfl, fun h => h⟩
 · exact ⟨_, _, rfl, fun h => h⟩
theorem Sp : ∀ (sh : Sh) (x : V), (sh.az x).2.agg = x.agg := by
 intro sh
 cases sh with
 | any => intro x; rfl
 | cp => intro x; exact V.C5 x
 | sl tok s d =>
   intro x
   cases x <;> (try rfl)
   rename_i t0 s0 nil n get
   obtain ⟨_, _, _, h, _⟩ := M5 tok s d t0 s0 nil n get
   show (RD tok s d t0 s0 nil n get).2.agg = _
   rw [h]; rfl
 | A4 e s d =>
   intro x
   cases x <;> (try rfl)
   rename_i t0 s0 nil n get
   obtain ⟨_, _, h, _⟩ := K4 e s d s0 nil n get
   show (L4 e s d s0 nil n get).2.agg = _
   rw [h]; rfl
 | box d => intro x; cases x <;> rfl
 | cons a b => intro x; cases x <;> rfl
theorem Tt : ∀ (sh : Sh) (x : V), (sh.az x).2.size = x.size := by
 intro sh
 induction sh with
 | any => intro x; rfl
 | cp => intro x; exact V.FP x
 | sl tok s d =>
   intro x
   cases x <;> (try rfl)
   rename_i t0 s0 nil n get
   obtain ⟨_, _, _, h, _⟩ := M5 tok s d t0 s0 nil n get
   show (RD tok s d t0 s0 nil n get).2.size = _
   rw [h]; rfl
 | A4 e s d =>
   intro x
   cases x <;> (try rfl)
   rename_i t0 s0 nil n get
   obtain ⟨_, _, h, _⟩ := K4 e s d s0 nil n get
   show (L4 e s d s0 nil n get).2.size = _
   rw [h]; rfl
 | box d => intro x; cases x <;> rfl
 | cons a b iha ihb =>
   intro x
   cases x <;> (try rfl)
   simp only [Sh.az, V.size, iha, ihb]
section
variable {F : AF} {w : World} {ρ : Names}
theorem PW : ∀ (sh : Sh) (x : V) {cs : List Value} {fp : AF}, (sh.az x).1 = true → AK F w ρ x cs fp → AK F w ρ (sh.az x).2 cs fp := by
 intro sh
 induction sh with
 | any => intro x cs fp _ h; exact h
 | cp => intro x cs fp _ h; exact h.AP.mono (AF.Aa _)
 | sl tok s d =>
   intro x cs fp hb h
   cases x with
   | sl t0 s0 nil n get =>
     obtain ⟨tok', s', get', h1, h2⟩ := M5 tok s d t0 s0 nil n get
     have e : ((Sh.sl tok s d).az (.sl t0 s0 nil n get)).2 = .sl tok' s' nil n get' := h1
     rw [e]
     simp only [AK] at h ⊢
     obtain ⟨A, c, k1, k2, k3, k4, k5⟩ := h
     rcases h2 hb with rfl | ⟨rfl, rfl, ht⟩
     · exact ⟨A, c, k1, k2, k3, k4, nofun⟩
     · refine ⟨A, c, k1, k2, k3, k4, fun hn => ?_⟩
       obtain ⟨g, o, q, m1, mq, m2, m3⟩ := k5 hn
       refine ⟨g, o, q, m1, mq, fun e0 he => ?_, m3⟩
       rcases ht with rfl | rfl
       · cases he
       · exact m2 e0 he
   | _ => exact h
 | A4 e s d =>
   intro x cs fp hb h
   cases x with
   | sl t0 s0 nil n get =>
     obtain ⟨s', get', h1, h2⟩ := K4 e s d s0 nil n get
     have e1 : ((Sh.A4 e s d).az (.sl t0 s0 nil n get)).2 = .A4 e s' nil n get' := h1
     rw [e1]
     obtain rfl := h2 hb
     simp only [AK] at h ⊢
     obtain ⟨A, c, k1, k2, k3, k4, _⟩ := h
     exact ⟨A, c, k1, k2, k3, k4, nofun⟩
   | _ => exact h
 | box d =>
   intro x cs fp _ h
   cases x with
   | B7 => simp only [Sh.az, AK] at h ⊢; exact ⟨none, h, fun _ => rfl, nofun⟩
   | _ => exact h
 | cons a b iha ihb =>
   intro x cs fp hb h
   cases x with
   | cons x r =>
     simp only [Sh.az, Bool.and_eq_true] at hb
     simp only [Sh.az, AK] at h ⊢
     obtain ⟨p, q, fa, fb, h1, h2, h3, h4⟩ := h
     exact ⟨p, q, fa, fb, h1, iha x hb.1 h2, ihb r hb.2 h3, h4⟩
   | _ => exact h
theorem MV {T : V → V} {ρ' : Names} (hr : ∀ (x : V) {cs : List Value} {fp : AF}, AK F w ρ x cs fp → AK F w ρ' (T x) cs fp) (ha : ∀ x, (T x).agg = x.agg) {x : V} {v : Value} {fp : AF} (h : BI F w ρ x v fp) :
 BI F w ρ' (T x) v fp :=
 ⟨fun e => let ⟨cs, h1, h2⟩ := h.1 (by rwa [ha] at e); ⟨cs, h1, hr x h2⟩, fun e => hr x (h.2 (by rwa [ha] at e))⟩
theorem KI {x : V} {v : Value} {fp : AF} (h : BI F w ρ x v fp) : Al F w ρ x v fp := by
 cases x with
 | undef => trivial
 | CC y => exact absurd rfl (JM h y)
 | _ => exact h
theorem P5 {sh : Sh} {x : V} {v : Value} {fp : AF} (hb : (sh.az x).1 = true) (h : BI F w ρ x v fp) : BI F w ρ (sh.az x).2 v fp :=
 ⟨fun e => let ⟨cs, h1, h2⟩ := h.1 (by rwa [Sp] at e); ⟨cs, h1, PW sh x hb h2⟩, fun e => PW sh x hb (h.2 (by rwa [Sp] at e))⟩
theorem P4 {sh : Sh} {x : V} {v : Value} {fp : AF} (hb : (sh.az x).1 = true) (h : Al F w ρ x v fp) : Al F w ρ (sh.az x).2 v fp := by
 cases x with
 | undef => cases sh <;> trivial
 | CC y =>
   cases sh with
   | cp => exact Al.mono (Al.AP h) (AF.Aa _)
   | _ => exact h
 | _ => exact KI (P5 hb (by exact h))
theorem J2 {sh : Sh} {x : V} {a : Nat × Nat} {fp : AF} (hb : (sh.az x).1 = true) (h : CA F w ρ a x fp) : CA F w ρ a (sh.az x).2 fp := by
 obtain ⟨xs, f, h1, h2⟩ := h
 exact ⟨xs, f, PW sh x hb h1, h2⟩
end
def CT : List Sh → List V → Bool × List V
 | sh :: shs, v :: l => ((sh.az v).1 && (CT shs l).1, (sh.az v).2 :: (CT shs l).2)
 | _, l => (true, l)
theorem EK : ∀ {l : List V} {shs : List Sh}, (CT shs l).2.length = l.length ∧ ((CT shs l).1 = true → ∀ (i : Nat) (v : V), l[i]? = some v → ∃ sh : Sh, (sh.az v).1 = true ∧ (CT shs l).2[i]? = some (sh.az v).2) := by
 intro l
 induction l with
 | nil => intro shs; cases shs <;> exact ⟨rfl, fun _ i v h => by simp at h⟩
 | cons x l ih =>
   intro shs
   cases shs with
   | nil => exact ⟨rfl, fun _ i v h => ⟨.any, rfl, h⟩⟩
   | cons sh shs =>
     obtain ⟨k1, k2⟩ := ih (shs := shs)
     refine ⟨by simp [CT, k1], fun hb i v h => ?_⟩
     simp only [CT, Bool.and_eq_true] at hb
     cases i with
     | zero =>
       simp only [List.getElem?_cons_zero, Option.some.injEq] at h
       subst h
       exact ⟨sh, hb.1, rfl⟩
     | succ i => exact k2 hb.2 i v (by simpa using h)
end Go.Vm
end
section
namespace Go.Vm
open Go
def Gp (vs HV : List V) : St where
 tm t := vs.getD t .undef
 H := fun | .par i => HV[i]? | .loc _ _ => none
def Ex : List V → List V → Bool
 | [], [] => true
 | x :: l, y :: m => y.one && (Nat.beq y.size x.size && Ex l m)
 | _, _ => false
def OK (P : Program) (f : FuncId) (args HV : List V) (res : V) (objs' : List V) : Prop :=
 Ex HV objs' = true ∧
 ∀ (Γ : Ctx) (ρ : Names) (fam : Et) (vals : Array Value), vals.size = args.length → Mem Γ Γ.w Γ.F → Ac Γ Γ.F Γ.w ρ fam (Gp args HV) vals →
   Calls P f vals Γ.w fun
    | .returned v, w' => ∃ F' ρ' fam', Mem Γ w' F' ∧ Ac Γ F' w' ρ' fam' (Gp [res] objs') #[v]
    | _, _ => False
def partsOf (H : Id → Option V) : List (Id × List Bv) → Option (Bool × List V)
 | [] => some (true, [])
 | (id, p) :: σ => match H id with
   | some c => match c.ES p, partsOf H σ with
     | some y, some (b, l) => cond y.one (some (Ej p && c.fit p && b, y :: l)) none
     | _, _ => none
   | none => none
def Iy : List Id → Bool
 | [] => true
 | i :: l => !Cl i l && Iy l
end Go.Vm
end
section
namespace Go.Vm
open Go
section
variable {P : Program} {Γ : Ctx} {F : AF} {w : World} {ρ : Names} {fam : Et} {s : St} {a : Act}
structure Piece (F : AF) (w : World) (ρ : Names) (fb : AF) (id : Id) (p : List Bv) (c y : V) where
 g : Nat
 o : Nat
 at_ : ρ id = some (g, o)
 xs : List Value
 f : AF
 rel : AK F w ρ c xs f
 KL : Region w fb g o xs
 sub : f.Sub fb
 off : f.D6 (AZ g o xs.length)
 q : Part F w ρ xs f (Ab p) y fun y' x' => c.put p y' = some x'
def Piece.I8 {fb : AF} {id : Id} {p : List Bv} {c y : V} (k : Piece F w ρ fb id p c y) : AF :=
 fun g o => AZ k.g (k.o + Ab p) k.q.zs.length g o ∨ k.q.f1 g o
theorem Ru (hs : Ac Γ F w ρ fam s a.tmps) {id : Id} {p : List Bv} {c y : V} (hc : s.H id = some c) (hy : c.ES p = some y) (hfit : c.fit p = true) (hp : Cu p) : Nonempty (Piece F w ρ (fam (.b id)) id p c y) := by
 cases hr : ρ id with
 | none => rw [(hs.nm id).2 hr] at hc; cases hc
 | some r =>
   obtain ⟨xs, f, h1, h2, h3, h4⟩ := hs.bl id c r hc hr
   obtain ⟨q⟩ := Dv p c hp hfit h1 hy
   exact ⟨⟨r.1, r.2, hr, xs, f, h1, h2, h3, h4, q⟩⟩
variable {fb : AF} {id : Id} {p : List Bv} {c y : V}
theorem Piece.reads (k : Piece F w ρ fb id p c y) : Reads w k.g (k.o + Ab p) k.q.zs := by
 have hr := k.KL.reads
 have hxs := k.q.eq
 rw [hxs] at hr
 intro j u hu
 have := hr.part j u hu
 rwa [k.q.len] at this
theorem Piece.len (k : Piece F w ρ fb id p c y) : k.xs.length = Ab p + k.q.zs.length + k.q.post.length := by
 have h := congrArg List.length k.q.eq
 rw [List.length_append, List.length_append, k.q.len] at h
 exact h
theorem Piece.region (k : Piece F w ρ fb id p c y) : Region w k.I8 k.g (k.o + Ab p) k.q.zs where
 reads := k.reads
 free j hj := by
  have := k.KL.free (Ab p + j) (by rw [k.len]; omega)
  rwa [← Nat.add_assoc] at this
 own j hj := .inl ⟨rfl, by omega, by omega⟩
theorem Piece.SQ (k : Piece F w ρ fb id p c y) : k.I8.Sub fb := by
 rintro g o (⟨rfl, h1, h2⟩ | h)
 · have := k.KL.own (o - k.o) (by rw [k.len]; omega)
   rwa [Nat.add_sub_cancel' (by omega)] at this
 · exact k.sub g o (k.q.DI g o h)
theorem Piece.TC (k : Piece F w ρ fb id p c y) : CA F w ρ (k.g, k.o + Ab p) y k.I8 := by
 refine FK k.q.rel k.region (fun _ _ h => .inr h) ?_
 intro g o h ⟨h1, h2, h3⟩
 refine k.off g o (k.q.DI g o h) ⟨h1, by omega, ?_⟩
 have := k.len
 simp only at h3
 omega
theorem Piece.back (k : Piece F w ρ fb id p c y) {F' : AF} {w' : World} {ρ' : Names} (L : Gw F w ρ F' w' ρ') (hkeep : ∀ g o, fb g o → ¬ k.I8 g o → w'.cell? ⟨g, o, none⟩ = w.cell? ⟨g, o, none⟩) {y' : V} {f' : AF}
 (hr : CA F' w' ρ' (k.g, k.o + Ab p) y' f') (hsz : y'.size = y.size) (hoff : ∀ g o, f' g o → fb g o → k.I8 g o) :
 ∃ c', c.put p y' = some c' ∧ CA F' w' ρ' (k.g, k.o) c' fun g o => (fb g o ∧ ¬ k.I8 g o) ∨ f' g o := by
 obtain ⟨xs', f1, h1, h2, h3, h4⟩ := hr
 have hlen : xs'.length = k.q.zs.length := by rw [h1.length, hsz, k.q.rel.length]
 have hl := k.len
 have hf2 : ∀ g o, k.q.f2 g o → fb g o ∧ ¬ k.I8 g o := by
  intro g o h
  refine ⟨k.sub g o (k.q.D7 g o h), ?_⟩
  rintro (⟨e1, e2, e3⟩ | h')
  · exact k.off g o (k.q.D7 g o h) ⟨e1, by omega, by omega⟩
  · exact k.q.off g o h' h
 have hout : ∀ j, j < k.xs.length → (j < Ab p ∨ Ab p + k.q.zs.length ≤ j) → fb k.g (k.o + j) ∧ ¬ k.I8 k.g (k.o + j) := by
  intro j hj hout
  refine ⟨k.KL.own j hj, ?_⟩
  rintro (⟨_, e2, e3⟩ | h')
  · omega
  · exact k.off _ _ (k.q.DI _ _ h') ⟨rfl, by omega, by omega⟩
 obtain ⟨c', e1, e2⟩ := k.q.put L (fun g o h => hkeep g o (hf2 g o h).1 (hf2 g o h).2) y' xs' f1 h1 hsz (fun g o a b => (hf2 g o b).2 (hoff g o (h3 g o a) (hf2 g o b).1))
 refine ⟨c', e1, ?_⟩
 have hxs := k.q.eq
 have hpl := k.q.len
 have hL : (k.q.pre ++ xs' ++ k.q.post).length = k.xs.length := by simp only [List.length_append]; omega
 have hcell : ∀ j, j < k.xs.length → (j < Ab p ∨ Ab p + k.q.zs.length ≤ j) → w'.cell? ⟨k.g, k.o + j, none⟩ = k.xs[j]? := by
  intro j hj ho
  obtain ⟨a1, a2⟩ := hout j hj ho
  rw [hkeep _ _ a1 a2, k.KL.reads j k.xs[j] (List.getElem?_eq_getElem hj), List.getElem?_eq_getElem hj]
 have hreg : Region w' (fun g o => (fb g o ∧ ¬ k.I8 g o) ∨ f' g o) k.g k.o (k.q.pre ++ xs' ++ k.q.post) := by
  have three : ∀ j, j < (k.q.pre ++ xs' ++ k.q.post).length → (j < Ab p ∨ Ab p + k.q.zs.length ≤ j) ∨ ∃ i, i < xs'.length ∧ j = Ab p + i := by
   intro j hj
   by_cases a : j < Ab p
   · exact .inl (.inl a)
   · by_cases b : Ab p + k.q.zs.length ≤ j
     · exact .inl (.inr b)
     · exact .inr ⟨j - Ab p, by omega, by omega⟩
  refine ⟨fun j u hu => ?_, fun j hj => ?_, fun j hj => ?_⟩
  · have hj := (List.getElem?_eq_some_iff.1 hu).1
    rcases three j hj with ho | ⟨i, hi, rfl⟩
    · rw [hcell j (by omega) ho]
      rw [hxs]
      rcases ho with ho | ho
      · rw [List.append_assoc, List.getElem?_append_left (by omega)] at hu ⊢
        exact hu
      · rw [List.getElem?_append_right (by rw [List.length_append]; omega)] at hu ⊢
        rw [List.length_append] at hu ⊢
        rw [← hu]; congr 1; omega
    · rw [List.append_assoc, List.getElem?_append_right (by omega), List.getElem?_append_left (by omega), hpl, Nat.add_sub_cancel_left] at hu
      rw [← Nat.add_assoc]
      exact h2.reads i u hu
  · rcases three j hj with ho | ⟨i, hi, rfl⟩
    · have hj' : j < k.xs.length := by omega
      rw [L.ext.frozen (k.KL.reads j _ (List.getElem?_eq_getElem hj'))]
      exact k.KL.free j hj'
    · rw [← Nat.add_assoc]; exact h2.free i hi
  · rcases three j hj with ho | ⟨i, hi, rfl⟩
    · exact .inl (hout j (by omega) ho)
    · rw [← Nat.add_assoc]; exact .inr (h2.own i hi)
 refine FK (e2 (f1.or k.q.f2) (AF.BB _ _) (AF.B5 _ _)) hreg ?_ ?_
 · rintro g o (h | h)
   · exact .inr (h3 g o h)
   · exact .inl (hf2 g o h)
 · rintro g o (h | h) ⟨e1, e2, e3⟩
   · rw [hL] at e3
     by_cases a : k.o + Ab p ≤ o ∧ o < k.o + Ab p + xs'.length
     · exact h4 g o h ⟨e1, a.1, a.2⟩
     · have hh := hout (o - k.o) (by omega) (by omega)
       rw [Nat.add_sub_cancel' e2] at hh
       subst e1
       exact hh.2 (hoff _ _ (h3 _ _ h) hh.1)
   · rw [hL] at e3
     exact k.off g o (k.q.D7 g o h) ⟨e1, e2, e3⟩
end
end Go.Vm
end
section
namespace Go.Vm
open Go
theorem Rk (σ : List (Id × List Bv)) (x : V) : (x.D8 σ).size = x.size := by
 induction x with
 | cons x r hx hr => simp only [V.D8, V.size, hx, hr]
 | ptr id p => cases id <;> simp only [V.D8] <;> (try split) <;> rfl
 | own id p s N off len => cases id <;> simp only [V.D8] <;> (try split) <;> rfl
 | Bl id e s nil n => cases id <;> simp only [V.D8] <;> (try split) <;> rfl
 | _ => rfl
theorem Oh (σ : List (Id × List Bv)) (x : V) : (x.Ay σ).size = x.size := by
 induction x with
 | cons x r hx hr => simp only [V.Ay, V.size, hx, hr]
 | ptr id p => simp only [V.Ay]; split <;> rfl
 | own id p s N off len => simp only [V.Ay]; split <;> rfl
 | Bl id e s nil n => simp only [V.Ay]; split <;> rfl
 | _ => rfl
theorem Oy : ∀ {l m : List V}, Ex l m = true → l.length = m.length ∧ ∀ (i : Nat) (x : V), l[i]? = some x → ∃ y, m[i]? = some y ∧ y.size = x.size := by
 intro l
 induction l with
 | nil => intro m h; cases m <;> simp [Ex] at h ⊢
 | cons a l ih =>
   intro m h
   cases m with
   | nil => simp [Ex] at h
   | cons b m =>
     simp only [Ex, Bool.and_eq_true] at h
     obtain ⟨k1, k2⟩ := ih h.2.2
     refine ⟨by simp [k1], fun i x hx => ?_⟩
     cases i with
     | zero => simp only [List.getElem?_cons_zero, Option.some.injEq] at hx; subst hx; exact ⟨b, rfl, Nat.eq_of_beq_eq_true h.2.1⟩
     | succ i => exact k2 i x (by simpa using hx)
def V.TL (c : V) (p : List Bv) (v : V) : Option V := match p with
 | [] => some v
 | x :: p => c.put (x :: p) v
theorem V.Pk {c v c' : V} {p : List Bv} (h : c.put p v = some c') : c.TL p v = some c' := by
 cases p with
 | nil => simp only [V.put] at h; exact (AL h).2
 | cons x p => exact h
def Cz (H : Id → Option V) : List (Id × List Bv) → List V → Id → Option V
 | (id, p) :: σ, v :: vs => Bu (Cz H σ vs) id ((H id).bind fun c => c.TL p v)
 | _, _ => H
theorem Qd : ∀ {l : List Id}, Iy l = true → l.Nodup := by
 intro l
 induction l with
 | nil => intro _; exact List.nodup_nil
 | cons x l ih =>
   intro h
   simp only [Iy, Bool.and_eq_true, Bool.not_eq_true'] at h
   refine List.nodup_cons.2 ⟨fun hm => ?_, ih h.2⟩
   rw [Bp.2 hm] at h; cases h.1
theorem HS {H : Id → Option V} : ∀ {σ : List (Id × List Bv)} {vs : List V} {id : Id}, id ∉ σ.map (·.1) → Cz H σ vs id = H id := by
 intro σ
 induction σ with
 | nil => intro vs id _; rfl
 | cons x σ ih =>
   obtain ⟨id0, p0⟩ := x
   intro vs id h
   cases vs with
   | nil => rfl
   | cons v vs =>
     simp only [List.map_cons, List.mem_cons, not_or] at h
     rw [Cz, Bj _ _ h.1, ih h.2]
theorem Li {H : Id → Option V} : ∀ {σ : List (Id × List Bv)} {vs : List V} {i : Nat} {id : Id} {p : List Bv} {v : V}, (σ.map (·.1)).Nodup → σ[i]? = some (id, p) → vs[i]? = some v → Cz H σ vs id = (H id).bind fun c => c.TL p v := by
 intro σ
 induction σ with
 | nil => intro vs i id p v _ h; simp at h
 | cons x σ ih =>
   obtain ⟨id0, p0⟩ := x
   intro vs i id p v hn h hv
   rw [List.map_cons, List.nodup_cons] at hn
   cases vs with
   | nil => simp at hv
   | cons v0 vs =>
     rw [Cz]
     cases i with
     | zero =>
       simp only [List.getElem?_cons_zero, Option.some.injEq, Prod.mk.injEq] at h hv
       obtain ⟨rfl, rfl⟩ := h
       subst hv
       rw [BE]
     | succ i =>
       simp only [List.getElem?_cons_succ] at h hv
       have hne : id ≠ id0 := by
        rintro rfl
        exact hn.1 (List.mem_map.2 ⟨_, List.mem_of_getElem? h, rfl⟩)
       rw [Bj _ _ hne, ih hn.2 h hv]
theorem JO {H : Id → Option V} : ∀ {σ : List (Id × List Bv)} {b : Bool} {ys : List V}, partsOf H σ = some (b, ys) → ys.length = σ.length ∧
 (b = true → ∀ (i : Nat) (id : Id) (p : List Bv), σ[i]? = some (id, p) → ∃ c y, H id = some c ∧ c.ES p = some y ∧ ys[i]? = some y ∧ Ej p = true ∧ c.fit p = true) := by
 intro σ
 induction σ with
 | nil => intro b ys h; simp [partsOf] at h; obtain ⟨rfl, rfl⟩ := h; exact ⟨rfl, fun _ i id p h => by simp at h⟩
 | cons x σ ih =>
   obtain ⟨id0, p0⟩ := x
   intro b ys h
   simp only [partsOf] at h
   split at h <;> (try cases h)
   rename_i c hc
   split at h <;> (try cases h)
   rename_i y b' l hy hl
   obtain ⟨_, h'⟩ := AL h
   cases h'
   obtain ⟨k1, k2⟩ := ih hl
   refine ⟨by simp [k1], fun hb i id p hi => ?_⟩
   simp only [Bool.and_eq_true] at hb
   cases i with
   | zero =>
     simp only [List.getElem?_cons_zero, Option.some.injEq, Prod.mk.injEq] at hi
     obtain ⟨rfl, rfl⟩ := hi
     exact ⟨c, y, hc, hy, rfl, hb.1.1, hb.1.2⟩
   | succ i => exact k2 hb.2 i id p (by simpa using hi)
theorem G2 {σ : List (Id × List Bv)} (hn : (σ.map (·.1)).Nodup) {i j : Nat} {id : Id} {p q : List Bv} (hi : σ[i]? = some (id, p)) (hj : σ[j]? = some (id, q)) : i = j := by
 have h1 : (σ.map (·.1))[i]? = some id := by rw [List.getElem?_map, hi]; rfl
 have h2 : (σ.map (·.1))[j]? = some id := by rw [List.getElem?_map, hj]; rfl
 have l1 := (List.getElem?_eq_some_iff.1 h1).1
 exact (List.getElem?_inj l1 hn).1 (h1.trans h2.symm)
def HO (s : St) (dst : Option Nat) (tk : List Nat) (σ : List (Id × List Bv)) (res : V) (outs : List V) : St where
 tm := match dst with
  | some t => C8 (takes s.tm tk) t (res.D8 σ)
  | none => takes s.tm tk
 H := Cz s.H σ (outs.map (V.D8 σ))
section
variable {P : Program} {Γ : Ctx} {F : AF} {w : World} {ρ : Names} {fam : Et} {s : St} {a : Act}
theorem Tv {x : Operand} {v : V} {val : Value} (h : Al F w ρ v val (FW fam x)) : Al F w ρ v val (if v.C0 = true then FW fam x else none_) := by
 cases ht : v.C0
 · simp only [Bool.false_eq_true, if_false]
   exact h.EO ht
 · simpa using h
def Tp (fam : Et) (s : St) (xs : List Operand) (n : Nat) (pf : Nat → AF) : Et
 | .t k => match xs[k]? with
   | some x => if (AR s.tm x).C0 = true then FW fam x else none_
   | none => none_
 | .b (.par i) => if i < n then pf i else none_
 | .b (.loc _ _) => none_
theorem pieces (hs : Ac Γ F w ρ fam s a.tmps) {σ : List (Id × List Bv)} {ys : List V} (hp : partsOf s.H σ = some (true, ys)) :
 ∃ (pf : Nat → AF) (ad : Nat → Nat × Nat), ∀ (i : Nat) (id : Id) (p : List Bv), σ[i]? = some (id, p) → ∃ c y, ∃ k : Piece F w ρ (fam (.b id)) id p c y, s.H id = some c ∧ ys[i]? = some y ∧ pf i = k.I8 ∧ ad i = (k.g, k.o + Ab p) ∧ Cu p := by
 have h : ∀ i : Nat, ∃ fa : AF × (Nat × Nat), ∀ (id : Id) (p : List Bv), σ[i]? = some (id, p) → ∃ c y, ∃ k : Piece F w ρ (fam (.b id)) id p c y, s.H id = some c ∧ ys[i]? = some y ∧ fa.1 = k.I8 ∧ fa.2 = (k.g, k.o + Ab p) ∧ Cu p := by
  intro i
  cases hi : σ[i]? with
  | none => exact ⟨(none_, 0, 0), fun _ _ h => by cases h⟩
  | some x =>
    obtain ⟨id, p⟩ := x
    obtain ⟨c, y, h1, h2, h3, h4, h5⟩ := (JO hp).2 rfl i id p hi
    obtain ⟨k⟩ := Ru (a := a) hs h1 h2 h5 (Fl h4)
    exact ⟨(k.I8, (k.g, k.o + Ab p)), fun id' p' h => by cases h; exact ⟨c, y, k, h1, h3, rfl, rfl, Fl h4⟩⟩
 obtain ⟨f, hf⟩ := Classical.axiomOfChoice h
 exact ⟨fun i => (f i).1, fun i => (f i).2, hf⟩
open Classical in
theorem P2 (hm : Mem Γ w F) (hs : Ac Γ F w ρ fam s a.tmps) {f : FuncId} {xs : List Operand} {σ : List (Id × List Bv)} {ys : List V} {res : V} {outs : List V} {dst : Option Nat}
 (hn : GD (xs.flatMap fun x => Ap x (AR s.tm x)) = true) (hσ : Iy (σ.map (·.1)) = true) (hp : partsOf s.H σ = some (true, ys)) (hd : ∀ d, dst = some d → d < a.tmps.size)
 {ex : List V} {exv : List Value} (hex : ex.length = exv.length ∧ ∀ (j : Nat) (x : V) (v : Value), ex[j]? = some x → exv[j]? = some v → Al F w ρ x v none_)
 {ash osh : List Sh} (hash : (CT ash (xs.map (AR s.tm))).1 = true) (hosh : (CT osh ys).1 = true)
 (hok : OK P f ((CT ash (xs.map (AR s.tm))).2.map (V.Ay σ) ++ ex.map (V.Ay σ)) ((CT osh ys).2.map (V.Ay σ)) res outs) :
 Calls P f (xs.map a.eval ++ exv).toArray w fun
  | .returned v, w' => ∃ F' fam', Mem Γ w' F' ∧ Ac Γ F' w' ρ fam' (HO s dst (xs.flatMap fun x => Ap x (AR s.tm x)) σ res outs) (a.put dst v).tmps
  | _, _ => False := by
 have hnd := G3 hn
 have hnσ := Qd hσ
 obtain ⟨pf, ad, hpc⟩ := pieces hs hp
 have hylen := (JO hp).1
 generalize htk : (xs.flatMap fun x => Ap x (AR s.tm x)) = tk at hnd ⊢
 let cf := Tp fam s xs σ.length pf
 let ρ' : Names := fun | .par i => if i < σ.length then some (ad i) else none | .loc _ _ => none
 let Γ' : Ctx := { w := w, F := F, fp := fun g o => ∃ j, cf j g o, par := fun i => ρ' (.par i) }
 have hσi : ∀ i : Nat, i < σ.length → ∃ (id : Id) (p : List Bv), σ[i]? = some (id, p) := fun i hi => ⟨σ[i].1, σ[i].2, List.getElem?_eq_getElem hi⟩
 have hlt : ∀ {i : Nat} {x : Id × List Bv}, σ[i]? = some x → i < σ.length := fun h => (List.getElem?_eq_some_iff.1 h).1
 -- whence a cell that is handed over comes
 have from_ : ∀ {j : Ix} {g o : Nat}, cf j g o → (∃ (k : Nat) (x : Operand) (u : Nat), xs[k]? = some x ∧ x = .tmp u ∧ (AR s.tm x).C0 = true ∧ j = .t k ∧ fam (.t u) g o) ∨ (∃ (i : Nat) (id : Id) (p : List Bv), σ[i]? = some (id, p) ∧ pf i g o ∧ fam (.b id) g o ∧ j = .b (.par i)) := by
  intro j g o h
  cases j with
  | t k =>
    have h : (match xs[k]? with | some x => if (AR s.tm x).C0 = true then FW fam x else none_ | none => none_) g o := h
    cases hx : xs[k]? with
    | none => rw [hx] at h; exact h.elim
    | some x =>
      rw [hx] at h
      simp only at h
      split at h
      · rename_i ht
        cases x with
        | tmp u => exact .inl ⟨k, _, u, hx, rfl, ht, rfl, h⟩
        | _ => exact h.elim
      · exact h.elim
  | b id =>
    cases id with
    | loc => exact h.elim
    | par i =>
      have h : (if i < σ.length then pf i else none_) g o := h
      split at h
      · rename_i hi
        obtain ⟨id, p, hip⟩ := hσi i hi
        obtain ⟨c, y, k, _, _, e1, _⟩ := hpc i id p hip
        refine .inr ⟨i, id, p, hip, h, ?_, rfl⟩
        rw [e1] at h
        exact k.SQ g o h
      · exact h.elim
 have inTk : ∀ {k : Nat} {x : Operand} {u : Nat}, xs[k]? = some x → x = .tmp u → (AR s.tm x).C0 = true → u ∈ tk := by
  intro k x u h1 h2 h3
  rw [← htk]
  refine List.mem_flatMap.2 ⟨x, List.mem_of_getElem? h1, ?_⟩
  subst h2
  simp [Ap, h3, DJ]
 have fam_of : ∀ {j g o}, cf j g o → ∃ i, fam i g o := fun h => by
  rcases from_ h with ⟨_, _, u, _, _, _, _, h⟩ | ⟨_, id, _, _, _, h, _⟩
  · exact ⟨_, h⟩
  · exact ⟨_, h⟩
 have hsame : ∀ (k k' : Nat) (x x' : Operand) (u : Nat), xs[k]? = some x → xs[k']? = some x' → x = .tmp u → x' = .tmp u → (AR s.tm x).C0 = true → k = k' := by
  intro k k' x x' u h1 h2 e1 e2 ht
  subst e1
  subst e2
  by_cases hkk : k = k'
  · exact hkk
  · exfalso
    have : ∀ (l : List Operand) (k k' : Nat), k < k' → l[k]? = some (.tmp u) → l[k']? = some (.tmp u) → (l.flatMap fun x => Ap x (AR s.tm x)).Nodup → False := by
     intro l
     induction l with
     | nil => intro k k' _ h; simp at h
     | cons y l ih =>
       intro k k' hlt h1 h2 hnd
       rw [List.flatMap_cons] at hnd
       obtain ⟨n1, n2, n3⟩ := List.nodup_append.1 hnd
       cases k' with
       | zero => omega
       | succ k' =>
         cases k with
         | zero =>
           simp only [List.getElem?_cons_zero, Option.some.injEq] at h1
           subst h1
           refine n3 u (by simp [Ap, ht, DJ]) u ?_ rfl
           refine List.mem_flatMap.2 ⟨_, List.mem_of_getElem? (by simpa using h2), by simp [Ap, ht, DJ]⟩
         | succ k => exact ih k k' (by omega) (by simpa using h1) (by simpa using h2) n2
    rw [← htk] at hnd
    rcases Nat.lt_or_gt_of_ne hkk with h | h
    · exact this xs k k' h h1 h2 hnd
    · exact this xs k' k h h2 h1 hnd
 have hun : Jn F w ρ ρ' (V.Ay σ) := Oi fun i id p hi b hb => by
  obtain ⟨c, y, k, _, _, _, e2, _⟩ := hpc i id p hi
  rw [k.at_] at hb
  obtain rfl := Option.some.inj hb
  show (if i < σ.length then some (ad i) else none) = _
  rw [if_pos (hlt hi), e2]
 have hst : Ac Γ' F w ρ' cf (Gp ((CT ash (xs.map (AR s.tm))).2.map (V.Ay σ) ++ ex.map (V.Ay σ)) ((CT osh ys).2.map (V.Ay σ))) (xs.map a.eval ++ exv).toArray := by
  refine ⟨fun t => ?_, fun id => ?_, fun id x r h1 h2 => ?_, fun j j' hj g o h1 h2 => ?_, fun j g o h1 h2 => ?_, fun j g o h1 => .inr ⟨j, h1⟩, fun j g o h1 => ?_, fun i => rfl⟩
  · show Al F w ρ' (((CT ash (xs.map (AR s.tm))).2.map (V.Ay σ) ++ ex.map (V.Ay σ)).getD t .undef) ((xs.map a.eval ++ exv).toArray.getD t Go.undef) (cf (.t t))
    rw [Array.getD_eq_getD_getElem?, List.getElem?_toArray, List.getD_eq_getElem?_getD]
    cases hx : xs[t]? with
    | none =>
      have hle : xs.length ≤ t := List.getElem?_eq_none_iff.1 hx
      have hal : (CT ash (xs.map (AR s.tm))).2.length = xs.length := by rw [EK.1, List.length_map]
      rw [List.getElem?_append_right (by simpa [hal] using hle), List.getElem?_append_right (by simpa using hle), List.length_map, List.length_map, hal, List.getElem?_map]
      cases hj : ex[t - xs.length]? with
      | none => trivial
      | some y =>
        have hj2 : t - xs.length < exv.length := by rw [← hex.1]; exact (List.getElem?_eq_some_iff.1 hj).1
        have hv := List.getElem?_eq_getElem hj2
        rw [hv]
        exact (hun.UK (hex.2 _ _ _ hj hv)).mono (AF.Aa _)
    | some x =>
      have hlt' : t < xs.length := (List.getElem?_eq_some_iff.1 hx).1
      have hal : (CT ash (xs.map (AR s.tm))).2.length = xs.length := by rw [EK.1, List.length_map]
      obtain ⟨sh, k1, k2⟩ := EK.2 hash t (AR s.tm x) (by rw [List.getElem?_map, hx]; rfl)
      rw [List.getElem?_append_left (by simpa [hal] using hlt'), List.getElem?_append_left (by simpa using hlt'), List.getElem?_map, List.getElem?_map, hx, k2]
      have h1 := hun.UK (P4 k1 (Tv (Ag hs x)))
      have : cf (.t t) = if (AR s.tm x).C0 = true then FW fam x else none_ := by
       show (match xs[t]? with | some x => if (AR s.tm x).C0 = true then FW fam x else none_ | none => none_) = _
       rw [hx]
      rw [this]
      exact h1
  · cases id with
    | loc => exact ⟨fun _ => rfl, fun _ => rfl⟩
    | par i =>
      show ((CT osh ys).2.map (V.Ay σ))[i]? = none ↔ (if i < σ.length then some (ad i) else none) = none
      rw [List.getElem?_eq_none_iff, List.length_map, EK.1, hylen]
      by_cases h : i < σ.length
      · simp [h]
      · simp [h]; omega
  · cases id with
    | loc => cases h2
    | par i =>
      have h1 : ((CT osh ys).2.map (V.Ay σ))[i]? = some x := h1
      have h2 : (if i < σ.length then some (ad i) else none) = some r := h2
      rw [List.getElem?_map, Option.map_eq_some_iff] at h1
      obtain ⟨y, hy, rfl⟩ := h1
      split at h2
      · rename_i hi
        obtain rfl := Option.some.inj h2
        obtain ⟨id, p, hip⟩ := hσi i hi
        obtain ⟨c, y', k, _, e0, e1, e2, _⟩ := hpc i id p hip
        obtain ⟨sh, q1, q2⟩ := EK.2 hosh i y' e0
        rw [hy] at q2
        obtain rfl := Option.some.inj q2
        have : cf (.b (.par i)) = pf i := by show (if i < σ.length then pf i else none_) = _; rw [if_pos hi]
        rw [this, e1, e2]
        exact hun.TC (J2 q1 k.TC)
      · cases h2
  · rcases from_ h1 with ⟨k, x, u, a1, a2, a3, rfl, a4⟩ | ⟨i, id, p, a1, a2, a3, rfl⟩
    · rcases from_ h2 with ⟨k', x', u', b1, b2, b3, rfl, b4⟩ | ⟨i', id', p', b1, b2, b3, rfl⟩
      · by_cases e : u = u'
        · subst e; exact hj (by rw [hsame k k' x x' u a1 b1 a2 b2 a3])
        · exact hs.off (.t u) (.t u') (fun h => e (by cases h; rfl)) g o a4 b4
      · exact hs.off (.t u) (.b id') nofun g o a4 b3
    · rcases from_ h2 with ⟨k', x', u', b1, b2, b3, rfl, b4⟩ | ⟨i', id', p', b1, b2, b3, rfl⟩
      · exact hs.off (.b id) (.t u') nofun g o a3 b4
      · by_cases e : id = id'
        · subst e; exact hj (by rw [G2 hnσ a1 b1])
        · exact hs.off (.b id) (.b id') (fun h => e (by cases h; rfl)) g o a3 b3
  · obtain ⟨i, hi⟩ := fam_of h1
    exact hs.DL i g o hi h2
  · obtain ⟨i, hi⟩ := fam_of h1
    exact hs.lt i g o hi
 have hmem : Mem Γ' w F := ⟨Ext.refl w, AF.Sub.refl _, fun g o h => .inl h, fun _ _ _ => rfl, hm.live⟩
 have hcall := hok.2 Γ' ρ' cf (xs.map a.eval ++ exv).toArray (by simp [hex.1, (EK (l := xs.map (AR s.tm)) (shs := ash)).1]) hmem hst
 refine hcall.mono ?_
 rintro e w' he
 cases e with
 | panicked => exact he
 | outgrown => exact he
 | returned v =>
   obtain ⟨F', ρ2, f2, m2, s2⟩ := he
   have hρ2 : ∀ i, ρ2 (.par i) = ρ' (.par i) := s2.pn
   -- what is left with the caller
   let Rem : Et := fun
    | .t u => fun g o => fam (.t u) g o ∧ u ∉ tk
    | .b id => fun g o => fam (.b id) g o ∧ ∀ (i : Nat) (p : List Bv), σ[i]? = some (id, p) → ¬ pf i g o
   have rem_fam : ∀ {j g o}, Rem j g o → fam j g o := by
    intro j g o h
    cases j with
    | t => exact h.1
    | b => exact h.1
   have rem_new : ∀ {j g o}, Rem j g o → ¬ Γ'.Um g o := by
    intro j g o h hN
    rcases hN with hN | ⟨j', hN⟩
    · have := hs.lt j g o (rem_fam h)
      have hN : w.heap.size ≤ g := hN
      omega
    · rcases from_ hN with ⟨k, x, u, a1, a2, a3, rfl, a4⟩ | ⟨i, id, p, a1, a2, a3, rfl⟩
      · have hu := inTk a1 a2 a3
        by_cases e : j = .t u
        · subst e; exact h.2 hu
        · exact hs.off j (.t u) e g o (rem_fam h) a4
      · by_cases e : j = .b id
        · subst e; exact h.2 i p a1 a2
        · exact hs.off j (.b id) e g o (rem_fam h) a3
   have keepF : EL w w' F := fun g o hg => m2.BD g o fun hN => by
    rcases hN with hN | ⟨j', hN⟩
    · have := hm.live g o hg
      have hN : w.heap.size ≤ g := hN
      omega
    · obtain ⟨i, hi⟩ := fam_of hN
      exact hs.DL i g o hi hg
   have keepR : ∀ j, EL w w' (Rem j) := fun j g o hg => m2.BD g o (rem_new hg)
   have hren : Jn F' w' ρ2 ρ (V.D8 σ) := RP fun i id p hi b hb => by
    obtain ⟨c, y, k, _, _, _, e2, e3⟩ := hpc i id p hi
    rw [hρ2 i] at hb
    have hb : (if i < σ.length then some (ad i) else none) = some b := hb
    rw [if_pos (hlt hi), e2] at hb
    obtain rfl := Option.some.inj hb
    exact ⟨e3, _, k.at_, rfl⟩
   have newTo : ∀ {g o}, Γ'.Um g o → Γ.Um g o := by
    intro g o h
    rcases h with h | ⟨j, h⟩
    · left; have := hm.ext.size; have h : w.heap.size ≤ g := h; omega
    · obtain ⟨i, hi⟩ := fam_of h
      exact hs.new i g o hi
   have hΓ : Mem Γ w' F' := by
    refine ⟨hm.ext.trans m2.ext, fun g o h => m2.sub g o (hm.sub g o h), fun g o h => ?_, fun g o h => ?_, m2.live⟩
    · rcases m2.fresh g o h with h | h
      · exact hm.fresh g o h
      · exact .inr (newTo h)
    · rw [m2.BD g o (fun h' => h (newTo h'))]; exact hm.BD g o h
   -- how the cells are dealt out behind the call
   let f3 : Et := fun
    | .t u => fun g o => if some u = dst then f2 (.t 0) g o else Rem (.t u) g o
    | .b id => fun g o => Rem (.b id) g o ∨ ∃ (i : Nat) (p : List Bv), σ[i]? = some (id, p) ∧ f2 (.b (.par i)) g o
   have kind : ∀ {j g o}, f3 j g o → Rem j g o ∨ ∃ j2, f2 j2 g o ∧ ((∃ u, j = .t u ∧ some u = dst ∧ j2 = .t 0) ∨ ∃ (id : Id) (i : Nat) (p : List Bv), j = .b id ∧ σ[i]? = some (id, p) ∧ j2 = .b (.par i)) := by
    intro j g o h
    cases j with
    | t u =>
      have h : if some u = dst then f2 (.t 0) g o else Rem (.t u) g o := h
      split at h
      · rename_i hu; exact .inr ⟨_, h, .inl ⟨u, rfl, hu, rfl⟩⟩
      · exact .inl h
    | b id =>
      rcases h with h | ⟨i, p, h1, h2⟩
      · exact .inl h
      · exact .inr ⟨_, h2, .inr ⟨id, i, p, rfl, h1, rfl⟩⟩
   have back : ∀ (i : Nat) (id : Id) (p : List Bv), σ[i]? = some (id, p) → ∃ c c' z, s.H id = some c ∧ outs[i]? = some z ∧ c.put p (z.D8 σ) = some c' ∧ ∀ r, ρ id = some r → CA F' w' ρ r c' (f3 (.b id)) := by
    intro i id p hi
    obtain ⟨c, y, k, e0, e1, e2, e3, e4⟩ := hpc i id p hi
    obtain ⟨sh, q1, q2⟩ := EK.2 hosh i y e1
    obtain ⟨z, hz, hzs⟩ := (Oy hok.1).2 i ((sh.az y).2.Ay σ) (by rw [List.getElem?_map, q2]; rfl)
    have hρi : ρ2 (.par i) = some (k.g, k.o + Ab p) := by
     rw [hρ2 i]; show (if i < σ.length then some (ad i) else none) = _; rw [if_pos (hlt hi), e3]
    have hr := hren.TC (s2.bl (.par i) z _ hz hρi)
    have hk : ∀ g o, fam (.b id) g o → ¬ k.I8 g o → w'.cell? ⟨g, o, none⟩ = w.cell? ⟨g, o, none⟩ := fun g o h1 h2 => keepR (.b id) g o ⟨h1, fun i' p' hi' h3 => by
     obtain rfl := G2 hnσ hi hi'
     rw [e2] at h3
     exact h2 h3⟩
    obtain ⟨c', h1, h2⟩ := k.back ⟨m2.ext, m2.sub, keepF, fun _ _ h => h⟩ hk hr (by rw [Rk, hzs, Oh, Tt]) (fun g o h1 h2 => by
     rcases s2.new _ g o h1 with hN | ⟨j', hN⟩
     · have := hs.lt _ g o h2
       have hN : w.heap.size ≤ g := hN
       omega
     · rcases from_ hN with ⟨k', x, u, a1, a2, a3, rfl, a4⟩ | ⟨i', id', p', a1, a2, a3, rfl⟩
       · exact (hs.off (.t u) (.b id) nofun g o a4 h2).elim
       · by_cases e : id' = id
         · subst e
           obtain rfl := G2 hnσ hi a1
           rw [e2] at a2
           exact a2
         · exact (hs.off (.b id') (.b id) (fun h => e (by cases h; rfl)) g o a3 h2).elim)
    refine ⟨c, c', z, e0, hz, h1, fun r hr => ?_⟩
    rw [k.at_] at hr
    obtain rfl := Option.some.inj hr
    refine h2.BD (Ext.refl _) (AF.Sub.refl _) (fun _ _ _ => rfl) _ (fun _ _ h => h) (fun _ _ _ => rfl) ?_
    rintro g o (⟨h3, h4⟩ | h3)
    · refine .inl ⟨h3, fun i' p' hi' h5 => ?_⟩
      obtain rfl := G2 hnσ hi hi'
      rw [e2] at h5
      exact h4 h5
    · exact .inr ⟨i, p, hi, h3⟩
   refine ⟨F', f3, hΓ, ⟨fun u => ?_, fun id => ?_, fun id x r h1 h2 => ?_, fun j j' hj g o h1 h2 => ?_, fun j g o h1 h2 => ?_, fun j g o h1 => ?_, fun j g o h1 => ?_, hs.pn⟩⟩
   · have hrem : Al F' w' ρ (takes s.tm tk u) (a.tmps.getD u Go.undef) (Rem (.t u)) := by
      have h1 := Fh (F := F) (w := w) (ρ := ρ) (fun t => a.tmps.getD t Go.undef) (fun t => fam (.t t)) tk s.tm hs.tm u
      have e : (if u ∈ tk then none_ else fam (.t u)) = Rem (.t u) := by
       funext g o
       show _ = (fam (.t u) g o ∧ u ∉ tk)
       by_cases h : u ∈ tk
       · simp [h, none_]
       · simp [h]
      rw [e] at h1
      exact Al.BD m2.ext m2.sub keepF (fun _ _ h => h) (keepR (.t u)) (AF.Sub.refl _) h1
     cases hdst : dst with
     | none =>
       show Al F' w' ρ (takes s.tm tk u) ((a.put none v).tmps.getD u Go.undef) _
       refine hrem.mono fun g o h => ?_
       show if some u = dst then _ else _
       rw [if_neg (by rw [hdst]; exact nofun)]
       exact h
     | some d =>
       show Al F' w' ρ (C8 (takes s.tm tk) d (res.D8 σ) u) ((a.tmps.setIfInBounds d v).getD u Go.undef) _
       rw [Kn _ _ _ _ (hd d hdst)]
       by_cases e : u = d
       · subst e
         rw [BN, if_pos rfl]
         refine (hren.UK (s2.tm 0)).mono fun g o h => ?_
         show if some u = dst then _ else _
         rw [if_pos hdst.symm]
         exact h
       · rw [Bm _ _ e, if_neg e]
         refine hrem.mono fun g o h => ?_
         show if some u = dst then _ else _
         rw [if_neg (by rw [hdst]; exact fun h => e (Option.some.inj h))]
         exact h
   · show Cz s.H σ (outs.map (V.D8 σ)) id = none ↔ _
     by_cases h : id ∈ σ.map (·.1)
     · obtain ⟨⟨id', p⟩, hx, rfl⟩ := List.mem_map.1 h
       obtain ⟨i, hi⟩ := List.getElem?_of_mem hx
       obtain ⟨c, c', z, e0, e1, e2, e3⟩ := back i id' p hi
       rw [Li (v := z.D8 σ) hnσ hi (by rw [List.getElem?_map, e1]; rfl), e0]
       simp only [Option.bind_some, V.Pk e2]
       have : ρ id' ≠ none := fun h => by rw [(hs.nm id').2 h] at e0; cases e0
       simp [this]
     · rw [HS h]; exact hs.nm id
   · have h1 : Cz s.H σ (outs.map (V.D8 σ)) id = some x := h1
     by_cases h : id ∈ σ.map (·.1)
     · obtain ⟨⟨id', p⟩, hx, rfl⟩ := List.mem_map.1 h
       obtain ⟨i, hi⟩ := List.getElem?_of_mem hx
       obtain ⟨c, c', z, e0, e1, e2, e3⟩ := back i id' p hi
       rw [Li (v := z.D8 σ) hnσ hi (by rw [List.getElem?_map, e1]; rfl), e0] at h1
       simp only [Option.bind_some, V.Pk e2] at h1
       obtain rfl := Option.some.inj h1
       exact e3 r h2
     · rw [HS h] at h1
       have hsub : ∀ g o, fam (.b id) g o → Rem (.b id) g o := fun g o hg => ⟨hg, fun i p hi _ => h (List.mem_map.2 ⟨_, List.mem_of_getElem? hi, rfl⟩)⟩
       exact (hs.bl id x r h1 h2).BD m2.ext m2.sub keepF _ (fun _ _ h => h) (fun g o hg => keepR (.b id) g o (hsub g o hg)) (fun g o hg => .inl (hsub g o hg))
   · rcases kind h1 with h1 | ⟨k1, h1, h1'⟩
     · rcases kind h2 with h2 | ⟨k2, h2, h2'⟩
       · exact hs.off j j' hj g o (rem_fam h1) (rem_fam h2)
       · exact rem_new h1 (s2.new _ g o h2)
     · rcases kind h2 with h2 | ⟨k2, h2, h2'⟩
       · exact rem_new h2 (s2.new _ g o h1)
       · by_cases e : k1 = k2
         · subst e
           rcases h1' with ⟨u, rfl, c1, rfl⟩ | ⟨id, i, p, rfl, c1, rfl⟩
           · rcases h2' with ⟨u', rfl, c2, _⟩ | ⟨_, _, _, _, _, c⟩
             · exact hj (by rw [Option.some.inj (c1.trans c2.symm)])
             · cases c
           · rcases h2' with ⟨_, _, _, c⟩ | ⟨id', i', p', rfl, c2, c⟩
             · cases c
             · cases c
               rw [c1] at c2
               cases c2
               exact hj rfl
         · exact s2.off _ _ e g o h1 h2
   · rcases kind h1 with h1 | ⟨k1, h1, _⟩
     · rcases m2.fresh g o h2 with h2 | h2
       · exact hs.DL j g o (rem_fam h1) h2
       · exact rem_new h1 h2
     · exact s2.DL _ g o h1 h2
   · rcases kind h1 with h1 | ⟨k1, h1, _⟩
     · exact hs.new j g o (rem_fam h1)
     · exact newTo (s2.new _ g o h1)
   · rcases kind h1 with h1 | ⟨k1, h1, _⟩
     · exact Nat.lt_of_lt_of_le (hs.lt j g o (rem_fam h1)) m2.ext.size
     · exact s2.lt _ g o h1
end
end Go.Vm
end
section
namespace Go.Vm
open Go
def V.only (ids : List Id) : V → V
 | .ptr i p => cond (i.Cg && !Cl i ids) .undef (.ptr i p)
 | .own i p s N off len => cond (i.Cg && !Cl i ids) .undef (.own i p s N off len)
 | .Bl i e s nil n => cond (i.Cg && !Cl i ids) .undef (.Bl i e s nil n)
 | .cons x r => .cons (only ids x) (only ids r)
 | .arr s n get => .arr s n fun i => only ids (get i)
 | .CC x => .CC (only ids x)
 | .fn f c => .fn f (only ids c)
 | .iface t x => .iface t (only ids x)
 | .Ai nil x => .Ai nil (only ids x)
 | .A4 e s nil n get => .A4 e s nil n fun i => only ids (get i)
 | x => x
def Names.only (ρ : Names) (ids : List Id) : Names := fun j => cond (j.Cg && !Cl j ids) none (ρ j)
theorem KY (ids : List Id) (x : V) : (x.only ids).agg = x.agg := by
 cases x with
 | ptr i p => simp only [V.only]; cases i.Cg && !Cl i ids <;> rfl
 | own i p s N off len => simp only [V.only]; cases i.Cg && !Cl i ids <;> rfl
 | Bl i e s nil n => simp only [V.only]; cases i.Cg && !Cl i ids <;> rfl
 | _ => rfl
section
variable {F : AF} {w : World} {ρ : Names} {ids : List Id}
theorem KX {i : Id} (h : (i.Cg && !Cl i ids) = false) : (ρ.only ids) i = ρ i := by simp only [Names.only, h, cond_false]
theorem Np : ∀ (x : V) {cs : List Value} {fp : AF}, AK F w ρ x cs fp → AK F w (ρ.only ids) (x.only ids) cs fp := by
 intro x
 induction x with
 | undef | int | bool | str | B7 | unit | FX | DW | vp | sl => intro cs fp h; simpa only [AK, V.only] using h
 | CC => intro cs fp h; simp [AK] at h
 | ptr i p =>
   intro cs fp h
   simp only [AK] at h
   obtain ⟨g, o, h1, h2, rfl⟩ := h
   simp only [V.only]
   cases hi : (i.Cg && !Cl i ids)
   · exact ⟨g, o, by rw [KX hi]; exact h1, h2, rfl⟩
   · exact ⟨_, rfl, rfl⟩
 | own i p s N off len =>
   intro cs fp h
   simp only [AK] at h
   obtain ⟨g, o, c, A, h1, h2, rfl, h4⟩ := h
   simp only [V.only]
   cases hi : (i.Cg && !Cl i ids)
   · exact ⟨g, o, c, A, by rw [KX hi]; exact h1, h2, rfl, h4⟩
   · exact ⟨_, rfl, rfl⟩
 | Bl i e s nil n =>
   intro cs fp h
   simp only [AK] at h
   obtain ⟨g, o, A, c, h1, rfl, h4⟩ := h
   simp only [V.only]
   cases hi : (i.Cg && !Cl i ids)
   · exact ⟨g, o, A, c, by rw [KX hi]; exact h1, rfl, h4⟩
   · exact ⟨_, rfl, rfl⟩
 | cons x r hx hr =>
   intro cs fp h
   simp only [AK, V.only] at h ⊢
   obtain ⟨a, b, fa, fb, h1, h2, h3, h4⟩ := h
   exact ⟨a, b, fa, fb, h1, hx h2, hr h3, h4⟩
 | arr s n get ih =>
   intro cs fp h
   simp only [AK, V.only] at h ⊢
   obtain ⟨f, fs, h1, h2, h3⟩ := h
   exact ⟨f, fs, fun i hi => ⟨(h1 i hi).1, ih i (h1 i hi).2.1, (h1 i hi).2.2⟩, h2, h3⟩
 | fn f c ih => intro cs fp h; simp only [AK, V.only] at h ⊢; obtain ⟨xs, h1, h2⟩ := h; exact ⟨xs, h1, ih h2⟩
 | iface t x ih =>
   intro cs fp h
   simp only [AK, V.only] at h ⊢
   obtain ⟨xs, v, h1, h2, h3, h4⟩ := h
   exact ⟨xs, v, h1, ih h2, by rw [KY]; exact h3, by rw [KY]; exact h4⟩
 | Ai nil x ih =>
   intro cs fp h
   simp only [AK, V.only] at h ⊢
   obtain ⟨A, h1, h2, h3⟩ := h
   refine ⟨A, h1, h2, fun hn => ?_⟩
   obtain ⟨g, o, xs, f, k1, k2, k3⟩ := h3 hn
   exact ⟨g, o, xs, f, k1, ih k2, k3⟩
 | A4 e s nil n get ih =>
   intro cs fp h
   simp only [AK, V.only] at h ⊢
   obtain ⟨A, c, h1, h2, h3, h4, h5⟩ := h
   refine ⟨A, c, h1, h2, h3, h4, fun hn => ?_⟩
   obtain ⟨g, o, k1, k2, k3, xs, f, fs, k4, k5, k6, k7⟩ := h5 hn
   exact ⟨g, o, k1, k2, k3, xs, f, fs, k4, k5, fun i hi => ⟨(k6 i hi).1, ih i (k6 i hi).2.1, (k6 i hi).2.2⟩, k7⟩
theorem It {x : V} {v : Value} {fp : AF} (h : BI F w ρ x v fp) : BI F w (ρ.only ids) (x.only ids) v fp :=
 MV (fun x _ _ h => Np x h) (KY ids) h
theorem Qa : ∀ {x : V} {vs : List Value} {fp : AF}, D4 F w ρ x vs fp → D4 F w (ρ.only ids) (x.only ids) vs fp := by
 intro x
 induction x with
 | cons x r _ ih =>
   intro vs fp h
   simp only [D4, V.only] at h ⊢
   obtain ⟨v, vs', fa, fb, h1, h2, h3, h4⟩ := h
   exact ⟨v, vs', fa, fb, h1, It h2, ih h3, h4⟩
 | unit => intro vs fp h; exact h
 | _ => intro vs fp h; exact h.elim
theorem QZ {x : V} {v : Value} {fp : AF} (h : Al F w ρ x v fp) : Al F w (ρ.only ids) (x.only ids) v fp := by
 cases x with
 | undef => trivial
 | CC y => obtain ⟨vs, h1, h2⟩ := h; exact ⟨vs, h1, Qa h2⟩
 | _ => exact KI (It (by exact h))
theorem Is {x : V} {a : Nat × Nat} {fp : AF} (h : CA F w ρ a x fp) : CA F w (ρ.only ids) a (x.only ids) fp := by
 obtain ⟨xs, f, h1, h2⟩ := h
 exact ⟨xs, f, Np x h1, h2⟩
end
structure Sx where
 live : List (Nat × Sh)
 Ef : List Sh
 Me : List (Id × Sh)
def conv (ids : List Id) (sh : Sh) (v : V) : Bool × V := sh.az (v.only ids)
def slotsOf (ids : List Id) (tm : Nat → V) : List (Nat × Sh) → Bool × List V
 | [] => (true, [])
 | (t, sh) :: l => ((conv ids sh (tm t)).1 && (slotsOf ids tm l).1, (conv ids sh (tm t)).2 :: (slotsOf ids tm l).2)
def Io (ids : List Id) (H : Id → Option V) : Nat → List Sh → Option (Bool × List V)
 | _, [] => some (true, [])
 | i, sh :: l => match H (.par i), Io ids H (i + 1) l with
   | some c, some (b, r) => some ((conv ids sh c).1 && b, (conv ids sh c).2 :: r)
   | _, _ => none
def Ki (ids : List Id) (H : Id → Option V) : List (Id × Sh) → Option (Bool × List V)
 | [] => some (true, [])
 | (i, sh) :: l => match H i, Ki ids H l with
   | some c, some (b, r) => cond i.Cg (some ((conv ids sh c).1 && b, (conv ids sh c).2 :: r)) none
   | _, _ => none
def Sx.ids (L : Sx) : List Id := L.Me.map (·.1)
def Sx.Mk (L : Sx) (s : St) : Option (Bool × List V) :=
 match Io L.ids s.H 0 L.Ef, Ki L.ids s.H L.Me with
 | some (b, p), some (b', l) => some ((slotsOf L.ids s.tm L.live).1 && (b && b'), (slotsOf L.ids s.tm L.live).2 ++ (p ++ l))
 | _, _ => none
def GV : List (Nat × Sh) → List V → Nat → V
 | (u, _) :: r, v :: l, t => cond (Nat.beq t u) v (GV r l t)
 | _, _, _ => .undef
def HK : List Sh → List V → Nat → Option V
 | _ :: _, v :: _, 0 => some v
 | _ :: r, _ :: l, i + 1 => HK r l i
 | _, _, _ => none
def JQ : List (Id × Sh) → List V → Id → Option V
 | (i, _) :: r, v :: l, id => cond (id.same i) (some v) (JQ r l id)
 | _, _, _ => none
def El {α : Type} : List α → List V → List V
 | _ :: r, _ :: l => El r l
 | _, l => l
def Sx.spread (L : Sx) (l : List V) : St where
 tm t := GV L.live l t
 H := fun
   | .par i => HK L.Ef (El L.live l) i
   | .loc t j => JQ L.Me (El L.Ef (El L.live l)) (.loc t j)
theorem Ly {α : Type} : ∀ (r : List α) (a b : List V), a.length = r.length → El r (a ++ b) = b := by
 intro r
 induction r with
 | nil => intro a b h; cases a with
   | nil => rfl
   | cons => simp at h
 | cons x r ih => intro a b h; cases a with
   | nil => simp at h
   | cons y a => exact ih a b (by simpa using h)
theorem Ow (ids : List Id) (tm : Nat → V) : ∀ (l : List (Nat × Sh)), (slotsOf ids tm l).2.length = l.length ∧ ((slotsOf ids tm l).1 = true → ∀ (b : List V) t, GV l ((slotsOf ids tm l).2 ++ b) t = .undef ∨
 ∃ sh, (conv ids sh (tm t)).1 = true ∧ GV l ((slotsOf ids tm l).2 ++ b) t = (conv ids sh (tm t)).2) := by
 intro l
 induction l with
 | nil => exact ⟨rfl, fun _ b t => .inl rfl⟩
 | cons x l ih =>
   obtain ⟨u, sh⟩ := x
   refine ⟨by simp [slotsOf, ih.1], fun h b t => ?_⟩
   simp only [slotsOf, Bool.and_eq_true] at h
   show cond (Nat.beq t u) (conv ids sh (tm u)).2 (GV l ((slotsOf ids tm l).2 ++ b) t) = _ ∨ _
   cases e : Nat.beq t u
   · have := ih.2 h.2 b t
     rw [cond_false]
     refine this.imp_right fun ⟨sh', k1, k2⟩ => ⟨sh', k1, ?_⟩
     show cond (Nat.beq t u) _ _ = _
     rw [e, cond_false]
     exact k2
   · obtain rfl := Nat.eq_of_beq_eq_true e
     refine .inr ⟨sh, h.1, ?_⟩
     show cond (Nat.beq t t) _ _ = _
     rw [e]; rfl
theorem Lk {ids : List Id} {H : Id → Option V} : ∀ {l : List Sh} {i : Nat} {b : Bool} {p : List V}, Io ids H i l = some (b, p) → p.length = l.length ∧ ∀ (q : List V) (j : Nat),
 (j < l.length → ∃ c sh, H (.par (i + j)) = some c ∧ HK l (p ++ q) j = some (conv ids sh c).2 ∧ (b = true → (conv ids sh c).1 = true)) ∧ (l.length ≤ j → HK l (p ++ q) j = none) := by
 intro l
 induction l with
 | nil => intro i b p h; simp only [Io, Option.some.injEq, Prod.mk.injEq] at h; obtain ⟨_, rfl⟩ := h; exact ⟨rfl, fun q j => ⟨fun h => by simp at h, fun _ => rfl⟩⟩
 | cons sh l ih =>
   intro i b p h
   simp only [Io] at h
   split at h <;> (try cases h)
   rename_i c b' r hc hr
   obtain ⟨k1, k2⟩ := ih hr
   refine ⟨by simp [k1], fun q j => ?_⟩
   cases j with
   | zero =>
     refine ⟨fun _ => ⟨c, sh, hc, rfl, fun h => ?_⟩, fun h => by simp at h⟩
     simp only [Bool.and_eq_true] at h
     exact h.1
   | succ j =>
     obtain ⟨m1, m2⟩ := k2 q j
     refine ⟨fun h => ?_, fun h => m2 (by simpa using h)⟩
     obtain ⟨c', sh', n1, n2, n3⟩ := m1 (by simpa using h)
     refine ⟨c', sh', by rw [← n1]; congr 2; omega, n2, fun h => ?_⟩
     simp only [Bool.and_eq_true] at h
     exact n3 h.2
theorem Qn {ids : List Id} {H : Id → Option V} : ∀ {l : List (Id × Sh)} {b : Bool} {p : List V}, Ki ids H l = some (b, p) → p.length = l.length ∧ ∀ (id : Id),
 (id ∈ l.map (·.1) → id.Cg = true ∧ ∃ c sh, H id = some c ∧ JQ l p id = some (conv ids sh c).2 ∧ (b = true → (conv ids sh c).1 = true)) ∧ (id ∉ l.map (·.1) → JQ l p id = none) := by
 intro l
 induction l with
 | nil => intro b p h; simp only [Ki, Option.some.injEq, Prod.mk.injEq] at h; obtain ⟨_, rfl⟩ := h; exact ⟨rfl, fun id => ⟨fun h => by simp at h, fun _ => rfl⟩⟩
 | cons x l ih =>
   obtain ⟨i, sh⟩ := x
   intro b p h
   simp only [Ki] at h
   split at h <;> (try cases h)
   rename_i c b' r hc hr
   obtain ⟨hl, h'⟩ := AL h
   cases h'
   obtain ⟨k1, k2⟩ := ih hr
   refine ⟨by simp [k1], fun id => ?_⟩
   have hloc : JQ ((i, sh) :: l) ((conv ids sh c).2 :: r) id = cond (id.same i) (some (conv ids sh c).2) (JQ l r id) := rfl
   rw [hloc]
   cases e : id.same i
   · have hne := F7 e
     obtain ⟨m1, m2⟩ := k2 id
     refine ⟨fun h => ?_, fun h => ?_⟩
     · simp only [List.map_cons, List.mem_cons, hne, false_or] at h
       obtain ⟨n0, c', sh', n1, n2, n3⟩ := m1 h
       refine ⟨n0, c', sh', n1, n2, fun h => ?_⟩
       simp only [Bool.and_eq_true] at h
       exact n3 h.2
     · exact m2 fun hm => h (by simp only [List.map_cons, List.mem_cons]; exact .inr hm)
   · obtain rfl := (Id.Bb _ _).1 e
     refine ⟨fun _ => ⟨hl, c, sh, hc, rfl, fun h => ?_⟩, fun h => absurd (by simp) h⟩
     simp only [Bool.and_eq_true] at h
     exact h.1
section
variable {Γ : Ctx} {F : AF} {w : World} {ρ : Names} {fam : Et} {s : St} {vs : Array Value}
open Classical in
theorem Qx (h : Ac Γ F w ρ fam s vs) {L : Sx} {l : List V} (hg : L.Mk s = some (true, l)) (hp : ∀ i, L.Ef.length ≤ i → Γ.par i = none) : ∃ ρ' fam', Ac Γ F w ρ' fam' (L.spread l) vs := by
 unfold Sx.Mk at hg
 split at hg <;> (try cases hg)
 rename_i b p b' q h1 h2
 simp only [Option.some.injEq, Prod.mk.injEq, Bool.and_eq_true] at hg
 obtain ⟨⟨hb0, hb1, hb2⟩, rfl⟩ := hg
 obtain ⟨s1, s2⟩ := Ow L.ids s.tm L.live
 obtain ⟨p1, p2⟩ := Lk h1
 obtain ⟨q1, q2⟩ := Qn h2
 have e1 : El L.live ((slotsOf L.ids s.tm L.live).2 ++ (p ++ q)) = p ++ q := Ly _ _ _ s1
 have e2 : El L.Ef (p ++ q) = q := Ly _ _ _ p1
 let BD : Ix → Prop := fun | .t _ => True | .b i => ¬ (i.Cg && !Cl i L.ids) = true
 refine ⟨ρ.only L.ids, fun i => if BD i then fam i else none_, ?_⟩
 have hkeep : ∀ i g o, (if BD i then fam i else none_) g o → fam i g o := by
  intro i g o hi
  by_cases hk : BD i
  · simpa only [hk, if_true] using hi
  · simp only [hk, if_false] at hi; exact hi.elim
 have hmem : ∀ {id : Id}, id ∈ L.Me.map (·.1) ↔ Cl id L.ids = true := fun {id} => (Bp (i := id) (l := L.ids)).symm
 refine h.re (G := fun i j => j = i) ⟨fun i g o hi => ⟨i, rfl, hkeep i g o hi⟩, fun i i' j hii hj hj' => absurd (hj.symm.trans hj') hii⟩ (fun t => ?_) (fun id => ?_) (fun id x r hx hr => ?_) (fun i => ?_)
 · show Al F w _ (GV L.live ((slotsOf L.ids s.tm L.live).2 ++ (p ++ q)) t) _ _
   rcases s2 hb0 (p ++ q) t with e | ⟨sh, k1, k2⟩
   · rw [e]; trivial
   · rw [k2]
     exact (P4 k1 (QZ (h.tm t))).mono (by simp only [BD, if_true]; exact AF.Sub.refl _)
 · cases id with
   | par i =>
     show HK L.Ef (El L.live ((slotsOf L.ids s.tm L.live).2 ++ (p ++ q))) i = none ↔ ρ (.par i) = none
     rw [e1]
     obtain ⟨m1, m2⟩ := p2 q i
     by_cases hi : i < L.Ef.length
     · obtain ⟨c, sh, n1, n2, _⟩ := m1 hi
       rw [Nat.zero_add] at n1
       rw [n2]
       have : ρ (.par i) ≠ none := fun e => by rw [(h.nm _).2 e] at n1; cases n1
       simp [this]
     · rw [m2 (by omega), h.pn, hp i (by omega)]; exact ⟨fun _ => rfl, fun _ => rfl⟩
   | loc t j =>
     show JQ L.Me (El L.Ef (El L.live ((slotsOf L.ids s.tm L.live).2 ++ (p ++ q)))) (.loc t j) = none ↔ cond (!Cl (.loc t j) L.ids) none (ρ (.loc t j)) = none
     rw [e1, e2]
     obtain ⟨m1, m2⟩ := q2 (.loc t j)
     cases hm : Cl (.loc t j) L.ids
     · rw [m2 fun hh => by rw [hmem.1 hh] at hm; cases hm]; simp
     · obtain ⟨_, c, sh, n1, n2, _⟩ := m1 (hmem.2 hm)
       rw [n2]
       have : ρ (.loc t j) ≠ none := fun e => by rw [(h.nm _).2 e] at n1; cases n1
       simp [this]
 · cases id with
   | par i =>
     have hx : HK L.Ef (El L.live ((slotsOf L.ids s.tm L.live).2 ++ (p ++ q))) i = some x := hx
     rw [e1] at hx
     have hr : ρ (.par i) = some r := hr
     obtain ⟨m1, m2⟩ := p2 q i
     by_cases hi : i < L.Ef.length
     · obtain ⟨c, sh, n1, n2, n3⟩ := m1 hi
       rw [Nat.zero_add] at n1
       rw [n2] at hx
       obtain rfl := Option.some.inj hx
       have hk : BD (.b (.par i)) := by simp [BD, Id.Cg]
       simp only [hk, if_true]
       exact J2 (n3 hb1) (Is (h.bl _ c r n1 hr))
     · rw [m2 (by omega)] at hx; cases hx
   | loc t j =>
     have hx : JQ L.Me (El L.Ef (El L.live ((slotsOf L.ids s.tm L.live).2 ++ (p ++ q)))) (.loc t j) = some x := hx
     rw [e1, e2] at hx
     have hr : cond (!Cl (.loc t j) L.ids) none (ρ (.loc t j)) = some r := hr
     obtain ⟨m1, m2⟩ := q2 (.loc t j)
     cases hm : Cl (.loc t j) L.ids
     · rw [hm] at hr; cases hr
     · rw [hm] at hr
       have hr : ρ (.loc t j) = some r := hr
       obtain ⟨_, c, sh, n1, n2, n3⟩ := m1 (hmem.2 hm)
       rw [n2] at hx
       obtain rfl := Option.some.inj hx
       have hk : BD (.b (.loc t j)) := by simp [BD, hm]
       simp only [hk, if_true]
       exact J2 (n3 hb2) (Is (h.bl _ c r n1 hr))
 · show ρ (.par i) = Γ.par i
   exact h.pn i
theorem PF {nt : Nat} {a : Act} (hI : Inv Γ nt s a w) {L : Sx} {l : List V} (hg : L.Mk s = some (true, l)) (hp : ∀ i, L.Ef.length ≤ i → Γ.par i = none) : Inv Γ nt (L.spread l) a w := by
 obtain ⟨h1, h2, F, ρ, fam, hm, hs⟩ := hI
 obtain ⟨ρ', fam', h3⟩ := Qx hs hg hp
 exact ⟨h1, h2, F, ρ', fam', hm, h3⟩
end
end Go.Vm
end
section
namespace Go.Vm
open Go
def Ix.same : Ix → Ix → Bool
 | .t m, .t n => Nat.beq m n
 | .b i, .b j => i.same j
 | _, _ => false
theorem Ix.Bb {i j : Ix} : i.same j = true ↔ i = j := by
 cases i <;> cases j <;> simp [Ix.same, Id.Bb]
def MZ : List Ix → Bool
 | [] => true
 | x :: l => !l.any x.same && MZ l
theorem Qc : ∀ {l : List Ix}, MZ l = true → l.Nodup := by
 intro l
 induction l with
 | nil => intro _; exact List.nodup_nil
 | cons x l ih =>
   intro h
   simp only [MZ, Bool.and_eq_true, Bool.not_eq_true'] at h
   refine List.nodup_cons.2 ⟨fun hm => ?_, ih h.2⟩
   have : l.any x.same = true := List.any_eq_true.2 ⟨x, hm, Ix.Bb.2 rfl⟩
   rw [this] at h; cases h.1
def Lh (P : Program) (s : St) : ResultVar → Option (Bool × V × Ix)
 | .tmp t => cond (s.tm t).one (some (true, s.tm t, .t t)) none
 | .cell a ty => match s.tm a with
   | .ptr id p => match s.H id with
     | some c => match c.ES p with
       | some x => cond (fits P ty x && id.Cg) (some (c.fit p, x, .b id)) none
       | none => none
     | none => none
   | _ => none
def Ey (P : Program) (s : St) : List ResultVar → List Sh → Option (Bool × List V × List Ix)
 | [], [] => some (true, [], [])
 | r :: l, sh :: shs => match Lh P s r, Ey P s l shs with
   | some (b, x, i), some (b', xs, is) => some (b && ((conv [] sh x).1 && b'), (conv [] sh x).2 :: xs, i :: is)
   | _, _ => none
 | _, _ => none
def TA : List V → V
 | [x] => x
 | l => .CC (.ofList l)
def N5 (P : Program) (fn : Func) (UH Hv : List Sh) (s : St) : Tree :=
 match Ey P s fn.results.toList UH, Io [] s.H 0 Hv with
 | some (b, rs, is), some (b', ps) => cond (MZ is) (cond (b && b') (.ret (TA rs :: ps)) .fail) .fail
 | _, _ => .fail
section
variable {P : Program} {Γ : Ctx} {F : AF} {w : World} {ρ : Names} {fam : Et} {s : St} {a : Act}
theorem Rj (hs : Ac Γ F w ρ fam s a.tmps) {r : ResultVar} {b : Bool} {x : V} {i : Ix} (h : Lh P s r = some (b, x, i)) (hb : b = true) : ∃ v fr, (match r with
 | .tmp t => pure (a.tmps.getD t Go.undef)
 | .cell c t => do loadVar t (← asAddr (a.tmps.getD c Go.undef)) : Sem Value).run P w = .ok v w ∧ BI F w ρ x v fr ∧ fr.Sub (fam i) := by
 cases r with
 | tmp t =>
   simp only [Lh] at h
   obtain ⟨h1, h'⟩ := AL h
   cases h'
   exact ⟨_, _, rfl, (hs.tm t).one h1, AF.Sub.refl _⟩
 | cell c ty =>
   simp only [Lh] at h
   split at h <;> (try cases h)
   rename_i id p hp
   split at h <;> (try cases h)
   rename_i blk hblk
   split at h <;> (try cases h)
   rename_i y hy
   obtain ⟨h1, h'⟩ := AL h
   cases h'
   simp only [Bool.and_eq_true] at h1
   have hx := hs.tm c
   rw [hp] at hx
   obtain ⟨g, of, k1, k2, k3⟩ := GJ hx
   obtain ⟨xs, f, m1, m2, m3, m4⟩ := hs.bl id blk _ hblk k1
   obtain ⟨q⟩ := Dv p blk k2 hb m1 hy
   have hreads : Reads w g (of + Ab p) q.zs := by
    have hr := m2.reads
    have hxs := q.eq
    rw [hxs] at hr
    intro j u hu
    have := hr.part j u hu
    rwa [q.len] at this
   obtain ⟨v, n1, n2⟩ := EF (P := P) (ρ := ρ) h1.1 q.rel hreads
   obtain ⟨_, _, _, _, _, _, hone⟩ := B0 h1.1
   refine ⟨v, q.f1, ?_, n2.one hone, q.DI.trans m3⟩
   simp only [k3, asAddr, Sem.run_bind, Sem.run_pure, Result.andThen_ok, n1]
theorem QO (hs : Ac Γ F w ρ fam s a.tmps) : ∀ {rv : List ResultVar} {shs : List Sh} {b : Bool} {xs : List V} {is : List Ix}, Ey P s rv shs = some (b, xs, is) → b = true →
 ∃ (vals : List Value) (fr : Nat → AF), (rv.mapM fun r => (match r with
   | .tmp t => pure (a.tmps.getD t Go.undef)
   | .cell c t => do loadVar t (← asAddr (a.tmps.getD c Go.undef)) : Sem Value)).run P w = .ok vals w ∧ vals.length = xs.length ∧ is.length = xs.length ∧
   ∀ (j : Nat) (x : V) (v : Value) (i : Ix), xs[j]? = some x → vals[j]? = some v → is[j]? = some i → BI F w (ρ.only []) x v (fr j) ∧ (fr j).Sub (fam i) := by
 intro rv
 induction rv with
 | nil =>
   intro shs b xs is h hb
   cases shs with
   | nil =>
     simp only [Ey, Option.some.injEq, Prod.mk.injEq] at h
     obtain ⟨_, rfl, rfl⟩ := h
     exact ⟨[], fun _ => none_, rfl, rfl, rfl, fun j x v i h => by simp at h⟩
   | cons => simp [Ey] at h
 | cons r rv ih =>
   intro shs b xs is h hb
   cases shs with
   | nil => simp [Ey] at h
   | cons sh shs =>
     simp only [Ey] at h
     split at h <;> (try cases h)
     rename_i b1 x i b2 ys js h1 h2
     simp only [Bool.and_eq_true] at hb
     obtain ⟨v, fr, k1, k2, k3⟩ := Rj hs h1 hb.1
     obtain ⟨vals, ff, m1, m2, m3, m4⟩ := ih h2 hb.2.2
     refine ⟨v :: vals, fun j => match j with | 0 => fr | j + 1 => ff j, ?_, by simp [m2], by simp [m3], fun j y u k e1 e2 e3 => ?_⟩
     · rw [List.mapM_cons]
       simp only [Sem.run_bind, k1, Result.andThen_ok, m1, Sem.run_pure]
     · cases j with
       | zero =>
         simp only [List.getElem?_cons_zero, Option.some.injEq] at e1 e2 e3
         subst e1 e2 e3
         exact ⟨P5 hb.2.1 (It k2), k3⟩
       | succ j => exact m4 j y u k (by simpa using e1) (by simpa using e2) (by simpa using e3)
theorem TD : ∀ {xs : List V} {vals : List Value} {fr : Nat → AF}, xs.length = vals.length → (∀ (j : Nat) (x : V) (v : Value), xs[j]? = some x → vals[j]? = some v → BI F w ρ x v (fr j)) →
 (∀ i j, i < xs.length → j < xs.length → i ≠ j → (fr i).D6 (fr j)) → D4 F w ρ (V.ofList xs) vals (fun g o => ∃ j, j < xs.length ∧ fr j g o) := by
 intro xs
 induction xs with
 | nil => intro vals fr hl _ _; simp only [List.length_nil] at hl; exact List.eq_nil_of_length_eq_zero hl.symm
 | cons x xs ih =>
   intro vals fr hl h hoff
   cases vals with
   | nil => simp at hl
   | cons v vals =>
     refine ⟨v, vals, fr 0, fun g o => ∃ j, j < xs.length ∧ fr (j + 1) g o, rfl, h 0 x v rfl rfl, ih (by simpa using hl) (fun j y u e1 e2 => h (j + 1) y u (by simpa using e1) (by simpa using e2)) (fun i j hi hj hij => hoff (i + 1) (j + 1) (by simpa using hi) (by simpa using hj) (by omega)), ?_, ?_, ?_⟩
     · exact fun g o hg => ⟨0, by simp, hg⟩
     · rintro g o ⟨j, hj, hg⟩; exact ⟨j + 1, by simpa using hj, hg⟩
     · rintro g o hg ⟨j, hj, hg'⟩; exact hoff 0 (j + 1) (by simp) (by simpa using hj) (by omega) g o hg hg'
def Sv (P : Program) (fn : Func) (Γ : Ctx) (r : List V) (a : Act) (w : World) : Prop :=
 a.defers = [] ∧ ∃ v, (results fn a.tmps).run P w = .ok v w ∧ ∃ F' ρ' fam', Mem Γ w F' ∧ Ac Γ F' w ρ' fam' (Gp [r.headD .undef] r.tail) #[v]
open Classical in
theorem Tj {fn : Func} {UH Hv : List Sh} {nt : Nat} {r : List V} (hp : ∀ i, Hv.length ≤ i → Γ.par i = none) (h : (N5 P fn UH Hv s).D5 r) (hI : Inv Γ nt s a w) : Sv P fn Γ r a w := by
 obtain ⟨_, hd, F, ρ, fam, hm, hs⟩ := hI
 refine ⟨hd, ?_⟩
 unfold N5 at h
 split at h <;> (try exact h.elim)
 rename_i b rs is b' ps h1 h2
 obtain ⟨hn, h⟩ := Di h
 obtain ⟨hb, h⟩ := Di h
 simp only [Bool.and_eq_true] at hb
 obtain rfl : TA rs :: ps = r := h
 obtain ⟨vals, fr, k1, k2, k3, k4⟩ := QO hs h1 hb.1
 obtain ⟨p1, p2⟩ := Lk h2
 have hnd := Qc hn
 have hrun : (results fn a.tmps).run P w = .ok (if h : vals.toArray.size = 1 then vals.toArray[0] else .tuple vals.toArray) w := by
  unfold results
  rw [Array.mapM_eq_mapM_toList]
  simp only [Sem.run_bind, Sem.run_map]
  have k1' : _ = Result.ok vals w := k1
  refine Eq.trans (congrArg (fun x : Result (List Value) => (x.andThen fun a w' => Result.ok a.toArray w').andThen fun a w' => Sem.run P (pure (if h : a.size = 1 then a[0] else Value.tuple a)) w') (Eq.trans (congrArg (fun f : ResultVar → Sem Value => Sem.run P (List.mapM f fn.results.toList) w) (funext fun r => by cases r <;> rfl)) k1')) rfl
 have hoff : ∀ i j, i < rs.length → j < rs.length → i ≠ j → (fr i).D6 (fr j) := by
  intro i j hi hj hij g o h1 h2
  obtain ⟨m1, m2⟩ := k4 i _ _ _ (List.getElem?_eq_getElem hi) (List.getElem?_eq_getElem (by omega)) (List.getElem?_eq_getElem (by omega))
  obtain ⟨n1, n2⟩ := k4 j _ _ _ (List.getElem?_eq_getElem hj) (List.getElem?_eq_getElem (by omega)) (List.getElem?_eq_getElem (by omega))
  exact hs.off _ _ (fun e => hij ((List.getElem_inj hnd).1 e)) g o (m2 g o h1) (n2 g o h2)
 let fp : AF := fun g o => ∃ j, j < rs.length ∧ fr j g o
 have hsub : ∀ g o, fp g o → ∃ i ∈ is, fam i g o := by
  rintro g o ⟨j, hj, hg⟩
  obtain ⟨_, m2⟩ := k4 j _ _ _ (List.getElem?_eq_getElem hj) (List.getElem?_eq_getElem (by omega)) (List.getElem?_eq_getElem (by omega))
  exact ⟨_, List.getElem_mem (by omega), m2 g o hg⟩
 have hrel : Al F w (ρ.only []) (TA rs) (if h : vals.toArray.size = 1 then vals.toArray[0] else .tuple vals.toArray) fp := by
  by_cases h1 : rs.length = 1
  · obtain ⟨x, rfl⟩ := List.length_eq_one_iff.1 h1
    obtain ⟨v, rfl⟩ := List.length_eq_one_iff.1 (k2.trans h1)
    have := (k4 0 x v (is[0]'(by omega)) rfl rfl (List.getElem?_eq_getElem (by omega))).1
    exact (KI this).mono fun g o hg => ⟨0, by simp, hg⟩
  · have h2 : ¬ vals.toArray.size = 1 := by simpa [k2] using h1
    have h3 : TA rs = .CC (V.ofList rs) := by
     cases rs with
     | nil => rfl
     | cons x rs => cases rs with
       | nil => simp at h1
       | cons => rfl
    rw [dif_neg h2, h3]
    exact ⟨vals, rfl, TD k2.symm (fun j x v e1 e2 => (k4 j x v _ e1 e2 (List.getElem?_eq_getElem (by have := (List.getElem?_eq_some_iff.1 e1).1; omega))).1) hoff⟩
 have hisLoc : ∀ i ∈ is, ∀ j, i ≠ .b (.par j) := by
  have : ∀ {rv : List ResultVar} {shs : List Sh} {b : Bool} {xs : List V} {is : List Ix}, Ey P s rv shs = some (b, xs, is) → ∀ i ∈ is, ∀ j, i ≠ .b (.par j) := by
   intro rv
   induction rv with
   | nil => intro shs b xs is h; cases shs <;> simp [Ey] at h; obtain ⟨_, _, rfl⟩ := h; intro i hi; simp at hi
   | cons rr rv ih =>
     intro shs b xs is h
     cases shs with
     | nil => simp [Ey] at h
     | cons sh shs =>
       simp only [Ey] at h
       split at h <;> (try cases h)
       rename_i b1 x i b2 ys js e1 e2
       intro k hk j
       rcases List.mem_cons.1 hk with rfl | hk
       · cases rr with
         | tmp t => simp only [Lh] at e1; obtain ⟨_, e1'⟩ := AL e1; cases e1'; exact nofun
         | cell c ty =>
           simp only [Lh] at e1
           split at e1 <;> (try cases e1)
           split at e1 <;> (try cases e1)
           split at e1 <;> (try cases e1)
           obtain ⟨e0, e1'⟩ := AL e1
           cases e1'
           simp only [Bool.and_eq_true] at e0
           rintro h
           cases h
           simp [Id.Cg] at e0
       · exact ih e2 k hk j
  exact this h1
 refine ⟨_, hrun, F, ρ.only [], fun i => match i with | .t 0 => fp | .t (_ + 1) => none_ | .b (.par i) => fam (.b (.par i)) | .b (.loc _ _) => none_, hm, ?_⟩
 refine hs.re (G := fun i j => (i = .t 0 ∧ j ∈ is) ∨ (∃ k, i = .b (.par k) ∧ j = i)) ⟨fun i g o hi => ?_, fun i i' j hii hj hj' => ?_⟩ (fun t => ?_) (fun id => ?_) (fun id x r hx hr => ?_) (fun i => hs.pn i)
 · cases i with
   | t t =>
     cases t with
     | zero => obtain ⟨j, hj, hg⟩ := hsub g o hi; exact ⟨j, .inl ⟨rfl, hj⟩, hg⟩
     | succ => exact hi.elim
   | b id =>
     cases id with
     | par k => exact ⟨_, .inr ⟨k, rfl, rfl⟩, hi⟩
     | loc => exact hi.elim
 · rcases hj with ⟨rfl, hj⟩ | ⟨k, rfl, rfl⟩
   · rcases hj' with ⟨rfl, _⟩ | ⟨k, rfl, rfl⟩
     · exact absurd rfl hii
     · exact absurd rfl (hisLoc _ hj k)
   · rcases hj' with ⟨rfl, hj'⟩ | ⟨k', rfl, e⟩
     · exact absurd rfl (hisLoc _ hj' k)
     · exact absurd e hii
 · cases t with
   | zero => exact hrel
   | succ t => trivial
 · cases id with
   | par i =>
     show ps[i]? = none ↔ ρ (.par i) = none
     by_cases hi : i < Hv.length
     · obtain ⟨c, sh, n1, _⟩ := (p2 [] i).1 hi
       rw [Nat.zero_add] at n1
       have : ρ (.par i) ≠ none := fun e => by rw [(hs.nm _).2 e] at n1; cases n1
       have h3 : ps[i]? ≠ none := by rw [List.getElem?_eq_getElem (by omega)]; exact nofun
       simp [this, h3]
     · rw [List.getElem?_eq_none (by omega), hs.pn, hp i (by omega)]; exact ⟨fun _ => rfl, fun _ => rfl⟩
   | loc => exact ⟨fun _ => rfl, fun _ => rfl⟩
 · cases id with
   | par i =>
     have hx : ps[i]? = some x := hx
     have hr : ρ (.par i) = some r := hr
     have hi : i < Hv.length := by have := (List.getElem?_eq_some_iff.1 hx).1; omega
     obtain ⟨c, sh, n1, n2, n3⟩ := (p2 [] i).1 hi
     rw [Nat.zero_add] at n1
     have hpa : ∀ {l : List Sh} {q : List V} (i : Nat), l.length = q.length → HK l q i = q[i]? := by
      intro l
      induction l with
      | nil => intro q i h; cases q with
        | nil => rfl
        | cons => simp at h
      | cons a l ih => intro q i h; cases q with
        | nil => simp at h
        | cons b q => cases i with
          | zero => rfl
          | succ i => simpa [HK] using ih i (by simpa using h)
     rw [List.append_nil, hpa i p1.symm, hx] at n2
     obtain rfl := Option.some.inj n2
     exact J2 (n3 hb.2) (Is (hs.bl _ c r n1 hr))
   | loc => cases hx
end
end Go.Vm
end
section
namespace Go.Vm
open Go
def V.CV : V → Prop
 | .undef => False
 | .cons x r => x.CV ∧ r.CV
 | .arr _ _ get => ∀ i, (get i).CV
 | .CC x => x.CV
 | .fn _ c => c.CV
 | .iface _ x => x.CV
 | .Ai _ x => x.CV
 | .A4 _ _ _ _ get => ∀ i, (get i).CV
 | _ => True
def Sw : List V → Prop
 | [] => True
 | v :: l => v.CV ∧ Sw l
structure A3 (P : Program) : Type 1 where
 f : FuncId
 fn : Func
 hf : P.funcs[f]? = some fn
 hb : fn.body.isSome = true
 hn : (fn.name == "runtime.NumGoroutine") = false
 X : Type
 Y : Type
 args : X → List V
 HV : X → List V
 res : Y → V
 outs : X → Y → List V
 rel : X → Y → Prop
 ev : Nat → X → Option Y
 GZ : ∀ n x y, ev n x = some y → rel x y
 dec : List V → List V → X
 ash : List Sh
 osh : List Sh
 ok : ∀ x y, rel x y → OK P f (args x) (HV x) (res y) (outs x y)
 pure : Bool
 Jt : pure = true → ∀ x y, rel x y → outs x y = HV x
 Hu : pure = true → ∀ x, Sw (HV x)
def refs : V → List (Id × List Bv)
 | .ptr id p => [(id, p)]
 | .own id p _ _ _ _ => [(id, p)]
 | .Bl id _ _ _ _ => [(id, [])]
 | .cons x r => refs x ++ refs r
 | .CC x => refs x
 | .fn _ c => refs c
 | .iface _ x => refs x
 | .Ai _ x => refs x
 | _ => []
def reach (H : Id → Option V) : Nat → List (Id × List Bv) → List (Id × List Bv) → List (Id × List Bv)
 | 0, _, acc => acc
 | _ + 1, [], acc => acc
 | n + 1, (id, p) :: l, acc => cond (Cl id (acc.map (·.1))) (reach H n l acc) (match H id with
   | some c => match c.ES p with
     | some y => reach H n (l ++ refs y) (acc ++ [(id, p)])
     | none => reach H n l acc
   | none => reach H n l acc)
def JD : V → Option (List V)
 | .unit => some []
 | .cons x r => cond (!x.agg && (x.one && !x.B9)) ((JD r).map (x :: ·)) none
 | _ => none
def DZ (tm : Nat → V) (c : Call) : Option (FuncId × List V) :=
 match c.callee with
 | .value f => match AR tm f with
   | .fn g caps => (JD caps).map (g, ·)
   | _ => none
 | _ => none
def HA {P : Program} : List (A3 P) → FuncId → Option (A3 P)
 | [], _ => none
 | c :: l, f => cond (Nat.beq c.f f) (some c) (HA l f)
def Uw {P : Program} (Pa : List (A3 P)) (c : Call) (s : St) : List (A3 P) :=
 cond (c.args.toList.any fun x => match AR s.tm x with | .B7 => true | _ => false) Pa.reverse Pa
def Ct (c : Call) : List Nat := (match c.callee with | .value f => DJ f | _ => []) ++ c.args.toList.flatMap DJ
def Hc {P : Program} (nt : Nat) (o : Oper) (c : Call) (s : St) (K : A3 P) (caps : List V) : OY :=
 let az := CT K.ash (c.args.toList.map (AR s.tm))
 let vs := az.2 ++ caps
 let σ := reach s.H 40 (vs.flatMap refs) []
 let tk := c.args.toList.flatMap fun x => Ap x (AR s.tm x)
 let ps0 := (partsOf s.H σ).getD (false, [])
 let os := CT K.osh ps0.2
 let x := K.dec (vs.map (V.Ay σ)) (os.2.map (V.Ay σ))
 { Y := K.Y
   need := EB nt o && (GD tk && (Iy (σ.map (·.1)) && ((partsOf s.H σ).isSome && (ps0.1 && (az.1 && os.1)))))
   side := vs.map (V.Ay σ) = K.args x ∧ os.2.map (V.Ay σ) = K.HV x
   run := K.rel x
   fx := { rt := Ct c, rh := σ.map (·.1), wt := (match o.dst with | some d => [d] | none => []) ++ tk, wh := σ.map (·.1) }
   next := fun y => HO s o.dst tk σ (K.res y) (K.outs x y) }
def Hd {P : Program} (nt : Nat) (o : Oper) (c : Call) (s : St) (K : A3 P) (caps : List V) : OY :=
 let az := CT K.ash (c.args.toList.map (AR s.tm))
 let vs := az.2 ++ caps
 let σ := reach s.H 40 (vs.flatMap refs) []
 let tk := c.args.toList.flatMap fun x => Ap x (AR s.tm x)
 let ps0 := (partsOf s.H σ).getD (false, [])
 let x := K.dec (vs.map (V.Ay σ)) (ps0.2.map (V.Ay σ))
 { Y := K.Y
   need := EB nt o && (GD tk && (Iy (σ.map (·.1)) && ((partsOf s.H σ).isSome && (ps0.1 && az.1))))
   side := vs.map (V.Ay σ) = K.args x ∧ ps0.2.map (V.Ay σ) = K.HV x
   run := K.rel x
   fx := { rt := Ct c, rh := σ.map (·.1), wt := (match o.dst with | some d => [d] | none => []) ++ tk, wh := [] }
   next := fun y => HO s o.dst tk σ (K.res y) [] }
def Se {P : Program} (Pa : List (A3 P)) (nt : Nat) (o : Oper) (s : St) : Option OY :=
 match o.op with
 | .call c => match DZ s.tm c with
   | some (g, caps) => match HA (Uw Pa c s) g with
     | some K => cond K.pure (some (Hd nt o c s K caps)) (some (Hc nt o c s K caps))
     | none => none
   | none => none
 | _ => none
theorem Lv {P : Program} : ∀ {l : List (A3 P)} {f : FuncId} {K : A3 P}, HA l f = some K → K.f = f := by
 intro l
 induction l with
 | nil => intro f K h; cases h
 | cons c l ih =>
   intro f K h
   simp only [HA] at h
   cases e : Nat.beq c.f f
   · rw [e] at h; exact ih h
   · rw [e] at h
     cases h
     exact Nat.eq_of_beq_eq_true e
section
variable {P : Program} {Γ : Ctx} {F : AF} {w : World} {ρ : Names}
theorem P1 : ∀ {c : V} {l : List V} {xs : List Value}, JD c = some l → AK F w ρ c xs none_ → l.length = xs.length ∧ ∀ (j : Nat) (x : V) (v : Value), l[j]? = some x → xs[j]? = some v → Al F w ρ x v none_ := by
 intro c
 induction c with
 | unit => intro l xs h hr; simp only [JD, Option.some.injEq] at h; subst h; simp only [AK] at hr; subst hr; exact ⟨rfl, fun j x v h => by simp at h⟩
 | cons x r _ ih =>
   intro l xs h hr
   simp only [JD] at h
   obtain ⟨h1, h⟩ := AL h
   simp only [Option.map_eq_some_iff] at h
   obtain ⟨l', hl, rfl⟩ := h
   simp only [Bool.and_eq_true, Bool.not_eq_true'] at h1
   simp only [AK] at hr
   obtain ⟨a, b, fa, fb, rfl, k1, k2, k3, k4, _⟩ := hr
   have hsz : x.size = 1 := by cases x <;> simp_all [V.agg, V.size]
   obtain ⟨v, rfl⟩ : ∃ v, a = [v] := List.length_eq_one_iff.1 (k1.length.trans hsz)
   obtain ⟨m1, m2⟩ := ih hl (k2.mono k4)
   refine ⟨by simp [m1], fun j y u e1 e2 => ?_⟩
   cases j with
   | zero =>
     simp only [List.getElem?_cons_zero, Option.some.injEq, List.cons_append, List.nil_append] at e1 e2
     subst e1 e2
     exact EW (k1.mono k3) h1.1 h1.2.1
   | succ j => exact m2 j y u (by simpa using e1) (by simpa using e2)
 | _ => intro l xs h; simp [JD] at h
theorem Gv {tm tm' : Nat → V} {c : Call} (h : ∀ t ∈ Ct c, tm' t = tm t) : DZ tm' c = DZ tm c := by
 unfold DZ
 cases hc : c.callee with
 | value f =>
   have : AR tm' f = AR tm f := Eb fun t ht => h t (by unfold Ct; rw [hc]; exact List.mem_append_left _ ht)
   simp only [this]
 | _ => rfl
theorem HJ {H H' : Id → Option V} : ∀ {σ : List (Id × List Bv)}, (∀ id ∈ σ.map (·.1), H' id = H id) → partsOf H' σ = partsOf H σ := by
 intro σ
 induction σ with
 | nil => intro _; rfl
 | cons x σ ih =>
   obtain ⟨id, p⟩ := x
   intro h
   have h1 := h id (by simp)
   have h2 := ih fun i hi => h i (by simp at hi ⊢; exact .inr hi)
   simp only [partsOf, h1, h2]
theorem MX {H H' : Id → Option V} : ∀ {σ : List (Id × List Bv)} {vs : List V} {id : Id}, (∀ i ∈ σ.map (·.1), H' i = H i) → H' id = H id → Cz H' σ vs id = Cz H σ vs id := by
 intro σ
 induction σ with
 | nil => intro vs id _ h; exact h
 | cons x σ ih =>
   obtain ⟨id0, p0⟩ := x
   intro vs id h he
   cases vs with
   | nil => exact he
   | cons v vs =>
     simp only [Cz]
     by_cases e : id = id0
     · subst e; rw [BE, BE, h id (by simp)]
     · rw [Bj _ _ e, Bj _ _ e]
       exact ih (fun i hi => h i (by simp at hi ⊢; exact .inr hi)) he
theorem K0 {s u : St} {dst : Option Nat} {tk : List Nat} {σ : List (Id × List Bv)} {res : V} {outs : List V} {rt : List Nat} (ht : ∀ t ∈ tk, u.tm t = s.tm t) (hH : ∀ i ∈ σ.map (·.1), u.H i = s.H i) :
 HO u dst tk σ res outs = over u (HO s dst tk σ res outs) { rt := rt, rh := σ.map (·.1), wt := (match dst with | some d => [d] | none => []) ++ tk, wh := σ.map (·.1) } := by
 have e : ∀ (a b : St), a.tm = b.tm → a.H = b.H → a = b := by rintro ⟨_, _⟩ ⟨_, _⟩ rfl rfl; rfl
 refine e _ _ (funext fun t => ?_) (funext fun i => ?_)
 · cases dst with
   | none =>
     show takes u.tm tk t = cond (EY t ([] ++ tk)) (takes s.tm tk t) (u.tm t)
     by_cases h : t ∈ tk
     · rw [BO.2 (by simpa using h), cond_true]; exact Dk _ (ht t h)
     · rw [Ck (by simpa using h), cond_false]; exact Eu _ h
   | some d =>
     show C8 (takes u.tm tk) d (res.D8 σ) t = cond (EY t ([d] ++ tk)) (C8 (takes s.tm tk) d (res.D8 σ) t) (u.tm t)
     by_cases hd : t = d
     · subst hd; rw [BN, BN, BO.2 (by simp), cond_true]
     · rw [Bm _ _ hd, Bm _ _ hd]
       by_cases h : t ∈ tk
       · rw [BO.2 (by simp [h]), cond_true]; exact Dk _ (ht t h)
       · rw [Ck (by simp [hd, h]), cond_false]; exact Eu _ h
 · show Cz u.H σ _ i = cond (Cl i (σ.map (·.1))) (Cz s.H σ _ i) (u.H i)
   by_cases h : i ∈ σ.map (·.1)
   · rw [Bp.2 h, cond_true]; exact MX hH (hH i h)
   · rw [GF h, cond_false]; exact HS h
theorem Hl {tm : Nat → V} {l : List Operand} {t : Nat} (h : t ∈ l.flatMap fun x => Ap x (AR tm x)) : t ∈ l.flatMap DJ := by
 obtain ⟨x, hx, ht⟩ := List.mem_flatMap.1 h
 refine List.mem_flatMap.2 ⟨x, hx, ?_⟩
 unfold Ap at ht
 cases e : (AR tm x).C0
 · rw [e] at ht; simp at ht
 · rw [e] at ht; exact ht
theorem QF {σ : List (Id × List Bv)} : ∀ {x : V}, (x.Ay σ).CV → (x.Ay σ).D8 σ = x := by
 intro x
 induction x with
 | ptr id p =>
   intro h
   simp only [V.Ay] at h ⊢
   split at h
   · rename_i i q hl
     obtain ⟨j, p', e1, e2, e3⟩ := look_eq hl
     have e1 : i = j := by omega
     subst e1
     simp only [V.D8, e2, e3]
   · exact h.elim
 | own id p s N off len =>
   intro h
   simp only [V.Ay] at h ⊢
   split at h
   · rename_i i q hl
     obtain ⟨j, p', e1, e2, e3⟩ := look_eq hl
     have e1 : i = j := by omega
     subst e1
     simp only [V.D8, e2, e3]
   · exact h.elim
 | Bl id e s nil n =>
   intro h
   simp only [V.Ay] at h ⊢
   split at h
   · rename_i i hl
     obtain ⟨j, p', e1, e2, e3⟩ := look_eq hl
     have e1 : i = j := by omega
     subst e1
     have e3 : p' = [] := by
      cases p' with
      | nil => rfl
      | cons a b => cases e3
     subst e3
     simp only [V.D8, e2]
   · exact h.elim
 | cons x r hx hr => intro h; simp only [V.Ay, V.D8] at h ⊢; rw [hx h.1, hr h.2]
 | arr s n get ih => intro h; simp only [V.Ay, V.D8]; congr 1; funext i; exact ih i (h i)
 | CC x ih => intro h; simp only [V.Ay, V.D8]; rw [ih h]
 | fn f c ih => intro h; simp only [V.Ay, V.D8]; rw [ih h]
 | iface t x ih => intro h; simp only [V.Ay, V.D8]; rw [ih h]
 | Ai nil x ih => intro h; simp only [V.Ay, V.D8]; rw [ih h]
 | A4 e s nil n get ih => intro h; simp only [V.Ay, V.D8]; congr 1; funext i; exact ih i (h i)
 | undef => intro h; exact h.elim
 | _ => intro _; rfl
theorem J9 {σ : List (Id × List Bv)} : ∀ {l : List V}, Sw (l.map (V.Ay σ)) → (l.map (V.Ay σ)).map (V.D8 σ) = l
 | [], _ => rfl
 | x :: l, h => by
   simp only [List.map_cons] at h ⊢
   rw [QF h.1, J9 h.2]
theorem NY : ∀ {x z : V} {j : Nat}, x.nth j = some z → x.Ee j z = some x := by
 intro x
 induction x with
 | cons a r _ ih =>
   intro z j h
   cases j with
   | zero => simp only [V.nth, Option.some.injEq] at h; subst h; rfl
   | succ j => simp only [V.nth] at h; simp only [V.Ee, ih h, Option.map_some]
 | _ => intro z j h; simp [V.nth] at h
theorem Rq : ∀ {p : List Bv} {c y : V}, c.ES p = some y → c.put p y = some c := by
 intro p
 induction p with
 | nil => intro c y h; simp only [V.ES, Option.some.injEq] at h; subst h; simp [V.put]
 | cons x p ih =>
   intro c y h
   cases x with
   | CI j d =>
     simp only [V.ES] at h
     obtain ⟨hb, h⟩ := AL h
     simp only [V.put, hb, cond_true]
     cases hn : c.nth j with
     | none => rw [hn] at h; cases h
     | some z =>
       rw [hn] at h
       simp only at h ⊢
       rw [ih h]
       exact NY hn
   | idx s' n' i =>
     cases c with
     | arr s n get =>
       simp only [V.ES] at h
       obtain ⟨hb, h⟩ := AL h
       simp only [V.put, hb, cond_true, ih h]
       congr 2
       funext j
       rw [V.Dg]
       cases hj : Nat.beq j i
       · rfl
       · rw [Nat.eq_of_beq_eq_true hj]; rfl
     | _ => simp [V.ES] at h
theorem QU {p : List Bv} {c y : V} (h : c.ES p = some y) : c.TL p y = some c := by
 cases p with
 | nil => simp only [V.ES, Option.some.injEq] at h; subst h; rfl
 | cons x p => exact Rq h
theorem Nh {H : Id → Option V} : ∀ {σ : List (Id × List Bv)} {ys : List V} {b : Bool}, partsOf H σ = some (b, ys) → Cz H σ ys = H := by
 intro σ
 induction σ with
 | nil => intro ys b _; cases ys <;> rfl
 | cons a σ ih =>
   obtain ⟨id, p⟩ := a
   intro ys b h
   simp only [partsOf] at h
   split at h <;> (try cases h)
   rename_i c hc
   split at h <;> (try cases h)
   rename_i y b' l hy hl
   obtain ⟨_, h⟩ := AL h
   simp only [Option.some.injEq, Prod.mk.injEq] at h
   obtain ⟨_, rfl⟩ := h
   funext i
   simp only [Cz, ih hl]
   by_cases e : i = id
   · subst e; rw [BE, hc, Option.bind_some, QU hy]
   · rw [Bj _ _ e]
theorem KP {H : Id → Option V} : ∀ {σ : List (Id × List Bv)}, Cz H σ [] = H := by
 intro σ; cases σ <;> rfl
theorem PV {u : St} {dst : Option Nat} {tk : List Nat} {σ : List (Id × List Bv)} {res : V} {ys zs : List V} {b : Bool} (h : partsOf u.H σ = some (b, ys)) (hn : zs.map (V.D8 σ) = ys) :
 HO u dst tk σ res zs = HO u dst tk σ res [] := by
 unfold HO
 rw [hn, Nh h, List.map_nil, KP]
theorem JZ {s u : St} {dst : Option Nat} {tk : List Nat} {σ : List (Id × List Bv)} {res : V} {rt : List Nat} {rh : List Id} (ht : ∀ t ∈ tk, u.tm t = s.tm t) :
 HO u dst tk σ res [] = over u (HO s dst tk σ res []) { rt := rt, rh := rh, wt := (match dst with | some d => [d] | none => []) ++ tk, wh := [] } := by
 have e : ∀ (a b : St), a.tm = b.tm → a.H = b.H → a = b := by rintro ⟨_, _⟩ ⟨_, _⟩ rfl rfl; rfl
 refine e _ _ (funext fun t => ?_) (funext fun i => ?_)
 · cases dst with
   | none =>
     show takes u.tm tk t = cond (EY t ([] ++ tk)) (takes s.tm tk t) (u.tm t)
     by_cases h : t ∈ tk
     · rw [BO.2 (by simpa using h), cond_true]; exact Dk _ (ht t h)
     · rw [Ck (by simpa using h), cond_false]; exact Eu _ h
   | some d =>
     show C8 (takes u.tm tk) d (res.D8 σ) t = cond (EY t ([d] ++ tk)) (C8 (takes s.tm tk) d (res.D8 σ) t) (u.tm t)
     by_cases hd : t = d
     · subst hd; rw [BN, BN, BO.2 (by simp), cond_true]
     · rw [Bm _ _ hd, Bm _ _ hd]
       by_cases h : t ∈ tk
       · rw [BO.2 (by simp [h]), cond_true]; exact Dk _ (ht t h)
       · rw [Ck (by simp [hd, h]), cond_false]; exact Eu _ h
 · show Cz u.H σ ([].map (V.D8 σ)) i = u.H i
   rw [List.map_nil, KP]
theorem Q6 {nt : Nat} {Pa : List (A3 P)} {o : Oper} {s : St} {c : Call} {g : FuncId} {caps : List V} {K : A3 P} (hop : o.op = .call c) (hcal : DZ s.tm c = some (g, caps)) (hK : HA Pa g = some K)
 (hneed : (Hc nt o c s K caps).need = true) (hside : (Hc nt o c s K caps).side) (y : (Hc nt o c s K caps).Y) (hy : (Hc nt o c s K caps).run y) :
 over s ((Hc nt o c s K caps).next y) (Hc nt o c s K caps).fx = (Hc nt o c s K caps).next y ∧ ((Hc nt o c s K caps).fx.kh = [] ∧ (Hc nt o c s K caps).fx.kt = []) ∧ ∀ ops i gs, ops[i]? = some o → FB ops nt Γ s o gs true → Cx P ops (Inv Γ nt) i s ((Hc nt o c s K caps).next y) ((Hc nt o c s K caps).fx.with gs) := by
 have hKf := Lv hK
 simp only [Hc, Bool.and_eq_true] at hneed
 obtain ⟨hdst, hnd, hnI, hsome, hb, has, hos⟩ := hneed
 obtain ⟨⟨b, ys⟩, hps⟩ := Option.isSome_iff_exists.1 hsome
 rw [hps] at hb hos
 simp only [Option.getD_some] at hb hos
 subst hb
 simp only [Hc, hps, Option.getD_some] at hside hy
 obtain ⟨hs1, hs2⟩ := hside
 generalize hσ : reach s.H 40 (((CT K.ash (c.args.toList.map (AR s.tm))).2 ++ caps).flatMap refs) [] = σ at *
 generalize hx : K.dec (((CT K.ash (c.args.toList.map (AR s.tm))).2 ++ caps).map (V.Ay σ)) ((CT K.osh ys).2.map (V.Ay σ)) = x at *
 have hok := K.ok x y hy
 rw [← hs1, ← hs2, hKf] at hok
 have htk : ∀ t, t ∈ (c.args.toList.flatMap fun x => Ap x (AR s.tm x)) → t ∈ Ct c := fun t ht => List.mem_append_right _ (Hl ht)
 simp only [Hc, hσ, hps, Option.getD_some, hx]
 refine ⟨(K0 (fun _ _ => rfl) (fun _ _ => rfl)).symm, ⟨trivial, trivial⟩, fun ops i gs hops hw => ?_⟩
 intro u a w rest KK R hag hI hk
 have hagt : ∀ t ∈ Ct c, u.tm t = s.tm t := fun t ht => hag.tm t (List.mem_append_right _ ht)
 have hagH : ∀ i ∈ σ.map (·.1), u.H i = s.H i := fun i hi => hag.H i hi
 have hw' := hw u a w (fun t ht => hag.tm t (List.mem_append_left _ ht)) hI
 obtain ⟨hsz, hdf, F, ρ, fam, hm, hs⟩ := hI
 have hargs : ∀ x ∈ c.args.toList, AR u.tm x = AR s.tm x := fun x hx => Eb fun t ht => hagt t (List.mem_append_right _ (List.mem_flatMap.2 ⟨x, hx, ht⟩))
 have hcal' : DZ u.tm c = some (g, caps) := by rw [Gv hagt]; exact hcal
 -- the callee's value
 unfold DZ at hcal'
 split at hcal' <;> (try cases hcal')
 rename_i fo hfo
 split at hcal' <;> (try cases hcal')
 rename_i g' cv hcv
 simp only [Option.map_eq_some_iff, Prod.mk.injEq] at hcal'
 obtain ⟨l', hl', rfl, rfl⟩ := hcal'
 have hfv := Ag hs fo
 rw [hcv] at hfv
 obtain ⟨xs, hval, hxs⟩ := PD hfv
 obtain ⟨e1, e2⟩ := P1 hl' hxs
 have hmap : c.args.toList.map (AR u.tm) = c.args.toList.map (AR s.tm) := List.map_congr_left fun x hx => hargs x hx
 have hflat : (c.args.toList.flatMap fun x => Ap x (AR u.tm x)) = c.args.toList.flatMap fun x => Ap x (AR s.tm x) := Dy fun x hx => by rw [hargs x hx]
 have hpu : partsOf u.H σ = some (true, ys) := by rw [HJ hagH]; exact hps
 rw [List.map_append] at hok
 have hc := P2 (a := a) (dst := o.dst) hm hs (f := g') (xs := c.args.toList) (σ := σ) (ys := ys) (res := K.res y) (outs := K.outs x y) (by rw [hflat]; exact hnd) hnI hpu (fun d hd => by rw [hsz]; exact Br hdst hd) ⟨e1, e2⟩ (ash := K.ash) (osh := K.osh) (by rw [hmap]; exact has) hos (by rw [hmap]; exact hok)
 have hbody : (fn : Func) → K.fn = fn → True := fun _ _ => trivial
 refine BC.Nl (f := g') (args := (c.args.toList.map a.eval ++ xs).toArray) (w' := w) hops hw' ?_ (hc.mono ?_)
 · have hKb : ¬ (K.fn.body.isNone = true) := by
    have := K.hb
    cases hbb : K.fn.body <;> simp_all
   have hmapE : c.args.map a.eval = (c.args.toList.map a.eval).toArray := by rw [← Array.toList_map, Array.toArray_toList]
   simp only [execOp, hop, resolve, hfo, hval, Deferred.ofValue, Sem.run_bind, Sem.run_pure, Result.andThen_ok, invoke, callFunc, run_program, ← hKf, K.hf, K.hn, Bool.false_eq_true, if_false, hKb]
   congr 2
   rw [hmapE]
   simp
 · rintro e w' he
   cases e with
   | panicked => exact he
   | outgrown => exact he
   | returned v =>
     obtain ⟨F', fam', m1, m2⟩ := he
     refine hk _ _ ⟨by rw [Ht]; exact hsz, ?_, F', ρ, fam', m1, ?_⟩
     · show (a.put o.dst v).defers = []
       rw [← hdf]
       cases o.dst <;> rfl
     · rw [hflat, K0 (s := s) (rt := gs ++ Ct c) (fun t ht => hagt t (htk t ht)) hagH] at m2
       exact m2
theorem Q7 {nt : Nat} {Pa : List (A3 P)} {o : Oper} {s : St} {c : Call} {g : FuncId} {caps : List V} {K : A3 P} (hop : o.op = .call c) (hcal : DZ s.tm c = some (g, caps)) (hK : HA Pa g = some K) (hpure : K.pure = true)
 (hneed : (Hd nt o c s K caps).need = true) (hside : (Hd nt o c s K caps).side) (y : (Hd nt o c s K caps).Y) (hy : (Hd nt o c s K caps).run y) :
 over s ((Hd nt o c s K caps).next y) (Hd nt o c s K caps).fx = (Hd nt o c s K caps).next y ∧ ((Hd nt o c s K caps).fx.kh = [] ∧ (Hd nt o c s K caps).fx.kt = []) ∧ ∀ ops i gs, ops[i]? = some o → FB ops nt Γ s o gs true → Cx P ops (Inv Γ nt) i s ((Hd nt o c s K caps).next y) ((Hd nt o c s K caps).fx.with gs) := by
 have hKf := Lv hK
 simp only [Hd, Bool.and_eq_true] at hneed
 obtain ⟨hdst, hnd, hnI, hsome, hb, has⟩ := hneed
 obtain ⟨⟨b, ys⟩, hps⟩ := Option.isSome_iff_exists.1 hsome
 rw [hps] at hb
 simp only [Option.getD_some] at hb
 subst hb
 simp only [Hd, hps, Option.getD_some] at hside hy
 obtain ⟨hs1, hs2⟩ := hside
 generalize hσ : reach s.H 40 (((CT K.ash (c.args.toList.map (AR s.tm))).2 ++ caps).flatMap refs) [] = σ at *
 generalize hx : K.dec (((CT K.ash (c.args.toList.map (AR s.tm))).2 ++ caps).map (V.Ay σ)) (ys.map (V.Ay σ)) = x at *
 have hok := K.ok x y hy
 rw [K.Jt hpure x y hy] at hok
 have hnm2 : (ys.map (V.Ay σ)).map (V.D8 σ) = ys := J9 (by rw [hs2]; exact K.Hu hpure x)
 rw [← hs1, ← hs2, hKf] at hok
 have hok : OK P g ((CT K.ash (c.args.toList.map (AR s.tm))).2 ++ caps |>.map (V.Ay σ)) ((CT [] ys).2.map (V.Ay σ)) (K.res y) (ys.map (V.Ay σ)) := hok
 have htk : ∀ t, t ∈ (c.args.toList.flatMap fun x => Ap x (AR s.tm x)) → t ∈ Ct c := fun t ht => List.mem_append_right _ (Hl ht)
 simp only [Hd, hσ, hps, Option.getD_some, hx]
 refine ⟨(JZ (fun _ _ => rfl)).symm, ⟨trivial, trivial⟩, fun ops i gs hops hw => ?_⟩
 intro u a w rest KK R hag hI hk
 have hagt : ∀ t ∈ Ct c, u.tm t = s.tm t := fun t ht => hag.tm t (List.mem_append_right _ ht)
 have hagH : ∀ i ∈ σ.map (·.1), u.H i = s.H i := fun i hi => hag.H i hi
 have hw' := hw u a w (fun t ht => hag.tm t (List.mem_append_left _ ht)) hI
 obtain ⟨hsz, hdf, F, ρ, fam, hm, hs⟩ := hI
 have hargs : ∀ x ∈ c.args.toList, AR u.tm x = AR s.tm x := fun x hx => Eb fun t ht => hagt t (List.mem_append_right _ (List.mem_flatMap.2 ⟨x, hx, ht⟩))
 have hcal' : DZ u.tm c = some (g, caps) := by rw [Gv hagt]; exact hcal
 -- the callee's value
 unfold DZ at hcal'
 split at hcal' <;> (try cases hcal')
 rename_i fo hfo
 split at hcal' <;> (try cases hcal')
 rename_i g' cv hcv
 simp only [Option.map_eq_some_iff, Prod.mk.injEq] at hcal'
 obtain ⟨l', hl', rfl, rfl⟩ := hcal'
 have hfv := Ag hs fo
 rw [hcv] at hfv
 obtain ⟨xs, hval, hxs⟩ := PD hfv
 obtain ⟨e1, e2⟩ := P1 hl' hxs
 have hmap : c.args.toList.map (AR u.tm) = c.args.toList.map (AR s.tm) := List.map_congr_left fun x hx => hargs x hx
 have hflat : (c.args.toList.flatMap fun x => Ap x (AR u.tm x)) = c.args.toList.flatMap fun x => Ap x (AR s.tm x) := Dy fun x hx => by rw [hargs x hx]
 have hpu : partsOf u.H σ = some (true, ys) := by rw [HJ hagH]; exact hps
 rw [List.map_append] at hok
 have hc := P2 (a := a) (dst := o.dst) hm hs (f := g') (xs := c.args.toList) (σ := σ) (ys := ys) (res := K.res y) (outs := ys.map (V.Ay σ)) (by rw [hflat]; exact hnd) hnI hpu (fun d hd => by rw [hsz]; exact Br hdst hd) ⟨e1, e2⟩ (ash := K.ash) (osh := []) (by rw [hmap]; exact has) rfl (by rw [hmap]; exact hok)
 have hbody : (fn : Func) → K.fn = fn → True := fun _ _ => trivial
 refine BC.Nl (f := g') (args := (c.args.toList.map a.eval ++ xs).toArray) (w' := w) hops hw' ?_ (hc.mono ?_)
 · have hKb : ¬ (K.fn.body.isNone = true) := by
    have := K.hb
    cases hbb : K.fn.body <;> simp_all
   have hmapE : c.args.map a.eval = (c.args.toList.map a.eval).toArray := by rw [← Array.toList_map, Array.toArray_toList]
   simp only [execOp, hop, resolve, hfo, hval, Deferred.ofValue, Sem.run_bind, Sem.run_pure, Result.andThen_ok, invoke, callFunc, run_program, ← hKf, K.hf, K.hn, Bool.false_eq_true, if_false, hKb]
   congr 2
   rw [hmapE]
   simp
 · rintro e w' he
   cases e with
   | panicked => exact he
   | outgrown => exact he
   | returned v =>
     obtain ⟨F', fam', m1, m2⟩ := he
     refine hk _ _ ⟨by rw [Ht]; exact hsz, ?_, F', ρ, fam', m1, ?_⟩
     · show (a.put o.dst v).defers = []
       rw [← hdf]
       cases o.dst <;> rfl
     · rw [hflat, PV hpu hnm2, JZ (s := s) (rt := gs ++ Ct c) (rh := σ.map (·.1)) (fun t ht => hagt t (htk t ht))] at m2
       exact m2
theorem Sd {nt : Nat} {Pa : List (A3 P)} {o : Oper} {s : St} {ct : OY} (h : Se Pa nt o s = some ct) (hneed : ct.need = true) (hside : ct.side) (y : ct.Y) (hy : ct.run y) :
 over s (ct.next y) ct.fx = ct.next y ∧ (ct.fx.kh = [] ∧ ct.fx.kt = []) ∧ ∀ ops i gs, ops[i]? = some o → FB ops nt Γ s o gs true → Cx P ops (Inv Γ nt) i s (ct.next y) (ct.fx.with gs) := by
 unfold Se at h
 split at h <;> (try cases h)
 rename_i c hop
 split at h <;> (try cases h)
 rename_i g caps hcal
 split at h <;> (try cases h)
 rename_i K hK
 cases hp : K.pure
 · rw [hp, cond_false] at h
   obtain rfl := Option.some.inj h
   exact Q6 hop hcal hK hneed hside y hy
 · rw [hp, cond_true] at h
   obtain rfl := Option.some.inj h
   exact Q7 hop hcal hK hp hneed hside y hy
end
end Go.Vm
end
section
namespace Go.Vm
open Go
structure AM : Type 1 where
 id : Nat
 K : List Item
 lay : Sx
 X : Type
 enc : X → List V
 dec : List V → X
structure AQ (X R : Type) where
 rel : X → R → Prop
 ev : Nat → X → Option R
 GZ : ∀ n x y, ev n x = some y → rel x y
structure PX (R : Type) : Type 1 where
 S : AM
 D : AQ S.X R
inductive TT (P : Program) (R : Type) : Type 1 where
 | ret (r : R)
 | fail
 | need (b : Bool) (t : TT P R)
 | ite (b : Bool) (t e : TT P R)
 | side (p : Prop) (t : TT P R)
 | call (K : A3 P) (x : K.X) (k : K.Y → TT P R)
 | jump (S : AM) (D : AQ S.X R) (x : S.X)
 | JS (p : Prop) (S : AM) (D : AQ S.X R) (x : S.X)
namespace TT
variable {P : Program} {R : Type}
def tree (enc : R → List V) : TT P R → Tree
 | .ret r => .ret (enc r)
 | .fail => .fail
 | .need b t => cond b (t.tree enc) .fail
 | .ite b t e => cond b (t.tree enc) (e.tree enc)
 | .side p t => .side p (t.tree enc)
 | .call K x k => .side (K.args x = K.args x ∧ K.HV x = K.HV x) (.call (K.rel x) fun y => (k y).tree enc)
 | .jump S D x => .side (S.K = S.K) (.side (S.enc x = S.enc x) (.call (D.rel x) fun y => .ret (enc y)))
 | .JS p S D x => .side (S.K = S.K) (.side p (.call (D.rel x) fun y => .ret (enc y)))
def Fin : TT P R → R → Prop
 | .ret r, r' => r = r'
 | .fail, _ => False
 | .need b t, r => b = true ∧ t.Fin r
 | .ite b t e, r => (b = true → t.Fin r) ∧ (b = false → e.Fin r)
 | .side _ t, r => t.Fin r
 | .call K x k, r => ∃ y, K.rel x y ∧ (k y).Fin r
 | .jump _ D x, r => D.rel x r
 | .JS _ _ D x, r => D.rel x r
def AH : TT P R → Prop
 | .need _ t => t.AH
 | .ite _ t e => t.AH ∧ e.AH
 | .side p t => p ∧ t.AH
 | .call _ _ k => ∀ y, (k y).AH
 | .JS p _ _ _ => p
 | _ => True
theorem sR {r : R} : (TT.ret r : TT P R).AH := trivial
theorem Oz : (TT.fail : TT P R).AH := trivial
theorem sJ {S : AM} {D : AQ S.X R} {x : S.X} : (TT.jump S D x : TT P R).AH := trivial
theorem sN {b : Bool} {t : TT P R} (h : t.AH) : (TT.need b t).AH := h
theorem sI {b : Bool} {t e : TT P R} (h : t.AH) (k : e.AH) : (TT.ite b t e).AH := ⟨h, k⟩
theorem sS {p : Prop} {t : TT P R} (hp : p) (h : t.AH) : (TT.side p t).AH := ⟨hp, h⟩
theorem sC {K : A3 P} {x : K.X} {k : K.Y → TT P R} (h : ∀ y, (k y).AH) : (TT.call K x k).AH := h
def ev (n : Nat) : TT P R → Option R
 | .ret r => some r
 | .fail => none
 | .need b t => cond b (t.ev n) none
 | .ite b t e => cond b (t.ev n) (e.ev n)
 | .side _ t => t.ev n
 | .call K x k => match K.ev n x with | some y => (k y).ev n | none => none
 | .jump _ D x => D.ev n x
 | .JS _ _ D x => D.ev n x
theorem Q1 (enc : R → List V) : ∀ {t : TT P R} {r : R}, t.AH → t.Fin r → (t.tree enc).D5 (enc r) := by
 intro t
 induction t with
 | ret r => intro r' _ h; exact congrArg enc h
 | fail => intro r _ h; exact h.elim
 | need b t ih =>
   intro r hs h
   obtain ⟨rfl, h⟩ := h
   exact ih hs h
 | ite b t e iht ihe =>
   intro r hs h
   cases b
   · exact ihe hs.2 (h.2 rfl)
   · exact iht hs.1 (h.1 rfl)
 | side p t ih => intro r hs h; exact ⟨hs.1, ih hs.2 h⟩
 | call K x k ih => intro r hs h; obtain ⟨y, h1, h2⟩ := h; exact ⟨⟨rfl, rfl⟩, y, h1, ih y (hs y) h2⟩
 | jump S D x => intro r _ h; exact ⟨rfl, rfl, r, h, rfl⟩
 | JS p S D x => intro r hp h; exact ⟨rfl, hp, r, h, rfl⟩
theorem Ue {n : Nat} : ∀ {t : TT P R} {r : R}, t.ev n = some r → t.Fin r := by
 intro t
 induction t with
 | ret r => intro r' h; exact Option.some.inj h
 | fail => intro r h; cases h
 | need b t ih => intro r h; obtain ⟨hb, h⟩ := AL h; exact ⟨hb, ih h⟩
 | ite b t e iht ihe =>
   intro r h
   cases b
   · exact ⟨nofun, fun _ => ihe h⟩
   · exact ⟨fun _ => iht h, nofun⟩
 | side p t ih => intro r h; exact ih h
 | call K x k ih =>
   intro r h
   simp only [ev] at h
   split at h
   · rename_i y hy; exact ⟨y, K.GZ n x y hy, ih y h⟩
   · cases h
 | jump S D x => intro r h; exact D.GZ n x r h
 | JS p S D x => intro r h; exact D.GZ n x r h
end TT
def AQ.of {P : Program} {X R : Type} (tt : X → TT P R) : AQ X R where
 rel x y := (tt x).Fin y
 ev n x := (tt x).ev n
 GZ _ _ _ h := TT.Ue h
def AQ.none {X R : Type} : AQ X R where
 rel _ _ := False
 ev _ _ := .none
 GZ _ _ _ h := by cases h
def AQ.lvl {P : Program} {X R : Type} (tt : AQ X R → X → TT P R) : Nat → AQ X R
 | 0 => .none
 | n + 1 => .of (tt (lvl tt n))
def AQ.loop {P : Program} {X R : Type} (tt : AQ X R → X → TT P R) : AQ X R where
 rel x y := ∃ n, (lvl tt n).rel x y
 ev n x := (lvl tt n).ev n x
 GZ n x y h := ⟨n, (lvl tt n).GZ n x y h⟩
def T5 (id : Nat) : Code → List Item → Option (List Item)
 | .region i ops d, K => cond (Nat.beq i id) (some (.code (.region i ops d) :: K)) none
 | .seq a b, K => match T5 id a (.code b :: K) with
   | some r => some r
   | none => T5 id b K
 | .cond _ a b, K => match T5 id a K with
   | some r => some r
   | none => T5 id b K
 | .block i c, K => T5 id c (.inBlock i :: K)
 | .loop c, K => T5 id c (.inLoop c :: K)
 | .scope c, K => T5 id c (.inScope c :: K)
 | _, _ => none
def Jx {R : Type} : List (PX R) → Nat → Option (PX R)
 | [], _ => none
 | l :: r, id => cond (Nat.beq l.S.id id) (some l) (Jx r id)
structure A9 (P : Program) : Type 1 where
 fn : Func
 nt : Nat
 pol : Nat → Nat
 hint : Nat → List Hint
 Km : Nat → List Hint
 PI : List Hint
 UH : List Sh
 Hv : List Sh
 Pa : List (A3 P)
 R : Type
 enc : R → List V
 UL : Nat → List Rec
def U7 {R : Type} (enc : R → List V) (labs : List (PX R)) (id : Nat) : Option (List Item × (St → Tree)) :=
 match Jx labs id with
 | some l => some (l.S.K, fun s => match l.S.lay.Mk s with
   | some (b, vs) => cond b (.side (vs = l.S.enc (l.S.dec vs)) (.call (l.D.rel (l.S.dec vs)) fun y => .ret (enc y))) .fail
   | none => .fail)
 | none => none
def A9.env {P : Program} (J : A9 P) (labs : List (PX J.R)) : Env where
 pol := J.pol
 nt := J.nt
 hint := J.hint
 Km := J.Km
 PI := J.PI
 fin := N5 P J.fn J.UH J.Hv
 cut := U7 J.enc labs
 call := Se J.Pa J.nt
def A9.den {P : Program} (J : A9 P) (labs : List (PX J.R)) (S : AM) (x : S.X) (n : Nat) : Tree :=
 Uj P (J.env labs) n { KL := none, K := S.K, s := S.lay.spread (S.enc x), kn := fun _ => none, fx := [], rs := J.UL S.id }
def AV {P : Program} (J : A9 P) (S : AM) (D : AQ S.X J.R) : Prop :=
 ∀ Γ : Ctx, (∀ i, J.Hv.length ≤ i → Γ.par i = none) → ∀ x y, D.rel x y → ∀ a w, Inv Γ J.nt (S.lay.spread (S.enc x)) a w → BC P S.K (Sv P J.fn Γ (J.enc y)) a w
section
variable {P : Program} {J : A9 P}
theorem Mp {R : Type} : ∀ {l : List (PX R)} {id : Nat} {x : PX R}, Jx l id = some x → x ∈ l := by
 intro l
 induction l with
 | nil => intro id x h; cases h
 | cons a l ih =>
   intro id x h
   simp only [Jx] at h
   cases e : Nat.beq a.S.id id
   · rw [e] at h; exact List.mem_cons_of_mem _ (ih h)
   · rw [e] at h; cases h; exact List.mem_cons_self
theorem Ui (hm : P.follows .mixedOrders = true) {labs : List (PX J.R)} (hl : ∀ l ∈ labs, l.S.lay.Ef.length = J.Hv.length ∧ AV J l.S l.D) {Γ : Ctx} (hp : ∀ i, J.Hv.length ≤ i → Γ.par i = none) :
 OT P (J.env labs) Γ (Sv P J.fn Γ) where
 mixed := hm
 fin s r h a w hI := Tj hp h hI
 cut id K f hc s r h a w hI := by
  simp only [A9.env, U7] at hc
  split at hc <;> (try cases hc)
  rename_i l hf
  obtain ⟨h1, h2⟩ := hl l (Mp hf)
  simp only at h
  split at h <;> (try exact h.elim)
  rename_i b vs hg
  obtain ⟨hb, hv, y, hy, hr⟩ := Di h
  subst hb
  obtain rfl : J.enc y = r := hr
  have hI2 := PF hI hg (fun i hi => hp i (by omega))
  rw [hv] at hI2
  exact h2 Γ hp _ y hy a w hI2
 call o s ct hc hneed hside y hy := Sd (nt := J.nt) hc hneed hside y hy
theorem lbk (hm : P.follows .mixedOrders = true) {labs : List (PX J.R)} (hl : ∀ l ∈ labs, l.S.lay.Ef.length = J.Hv.length ∧ AV J l.S l.D) {S : AM} {tt : S.X → TT P J.R} (n : Nat)
 (hd : ∀ x, J.den labs S x n = (tt x).tree J.enc) (hs : ∀ x, (tt x).AH) : AV J S (.of tt) := by
 intro Γ hp x y hxy a w hI
 have h := TT.Q1 J.enc (hs x) hxy
 rw [← hd x] at h
 exact PL (Ui hm hl hp) h (fun _ _ h => by cases h) rfl a w hI
theorem lbn : ∀ l ∈ ([] : List (PX J.R)), l.S.lay.Ef.length = J.Hv.length ∧ AV J l.S l.D := fun _ h => by cases h
theorem Qp {a : PX J.R} {labs : List (PX J.R)} (h1 : a.S.lay.Ef.length = J.Hv.length) (h2 : AV J a.S a.D) (h : ∀ l ∈ labs, l.S.lay.Ef.length = J.Hv.length ∧ AV J l.S l.D) :
 ∀ l ∈ a :: labs, l.S.lay.Ef.length = J.Hv.length ∧ AV J l.S l.D := fun l hl => by
 rcases List.mem_cons.1 hl with rfl | hl
 · exact ⟨h1, h2⟩
 · exact h l hl
theorem SH {S : AM} : AV J S .none := fun _ _ _ _ h => h.elim
theorem SE {S : AM} {tt : AQ S.X J.R → S.X → TT P J.R} (h : ∀ D, AV J S D → AV J S (.of (tt D))) : ∀ n, AV J S (AQ.lvl tt n)
 | 0 => SH
 | n + 1 => h _ (SE h n)
theorem Az {S : AM} {tt : AQ S.X J.R → S.X → TT P J.R} (h : ∀ D, AV J S D → AV J S (.of (tt D))) : AV J S (AQ.loop tt) :=
 fun Γ hp x y ⟨n, hn⟩ a w hI => SE h n Γ hp x y hn a w hI
def Ec (k np : Nat) : Sx where
 live := (List.range' 0 k).map (·, .any)
 Ef := List.replicate np .any
 Me := []
theorem OD (k : Nat) : ∀ (b : Nat) (vs os : List V) (t : Nat), vs.length = k → GV ((List.range' b k).map (·, Sh.any)) (vs ++ os) (b + t) = vs.getD t .undef ∧ El ((List.range' b k).map (·, Sh.any)) (vs ++ os) = os ∧
 ∀ t, t < b → GV ((List.range' b k).map (·, Sh.any)) (vs ++ os) t = .undef := by
 induction k with
 | zero => intro b vs os t h; obtain rfl := List.eq_nil_of_length_eq_zero h; exact ⟨by simp [GV], rfl, fun _ _ => by simp [GV]⟩
 | succ k ih =>
   intro b vs os t h
   cases vs with
   | nil => simp at h
   | cons v vs =>
     have hl : vs.length = k := by simpa using h
     rw [List.range'_succ, List.map_cons]
     refine ⟨?_, (ih (b + 1) vs os 0 hl).2.1, fun t ht => ?_⟩
     · show cond (Nat.beq (b + t) b) v (GV _ (vs ++ os) (b + t)) = _
       cases t with
       | zero => simp
       | succ t =>
         have e : Nat.beq (b + (t + 1)) b = false := by
          cases hb : Nat.beq (b + (t + 1)) b
          · rfl
          · have := Nat.eq_of_beq_eq_true hb; omega
         rw [e, cond_false]
         have := (ih (b + 1) vs os t hl).1
         rw [show b + 1 + t = b + (t + 1) by omega] at this
         rw [this]
         simp
     · show cond (Nat.beq t b) v (GV _ (vs ++ os) t) = _
       have e : Nat.beq t b = false := by
        cases hb : Nat.beq t b
        · rfl
        · have := Nat.eq_of_beq_eq_true hb; omega
       rw [e, cond_false]
       exact (ih (b + 1) vs os 0 hl).2.2 t (by omega)
theorem Q3 : ∀ (np : Nat) (os : List V) (i : Nat), os.length = np → HK (List.replicate np Sh.any) os i = os[i]? := by
 intro np
 induction np with
 | zero => intro os i h; obtain rfl := List.eq_nil_of_length_eq_zero h; rfl
 | succ np ih =>
   intro os i h
   cases os with
   | nil => simp at h
   | cons o os =>
     rw [List.replicate_succ]
     cases i with
     | zero => rfl
     | succ i => exact ih os i (by simpa using h)
theorem Mr {vs os : List V} : (Ec vs.length os.length).spread (vs ++ os) = Gp vs os := by
 have e : ∀ (a b : St), a.tm = b.tm → a.H = b.H → a = b := by rintro ⟨_, _⟩ ⟨_, _⟩ rfl rfl; rfl
 refine e _ _ (funext fun t => ?_) (funext fun i => ?_)
 · have := (OD vs.length 0 vs os t rfl).1
   rw [Nat.zero_add] at this
   exact this
 · cases i with
   | par i =>
     show HK (List.replicate os.length Sh.any) (El _ (vs ++ os)) i = os[i]?
     rw [show El (Ec vs.length os.length).live (vs ++ os) = os from (OD vs.length 0 vs os 0 rfl).2.1]
     exact Q3 _ _ _ rfl
   | loc t j => rfl
theorem IF {f : FuncId} {fn : Func} {code : Code} (hf : P.funcs[f]? = some fn) (hb : fn.body = some code) (hJ : J.fn = fn) {S : AM} {D : AQ S.X J.R} (hL : AV J S D) (hK : S.K = [.code code])
 {x : S.X} {y : J.R} (h : D.rel x y) {vs os : List V} (henc : S.enc x = vs ++ os) (hlay : S.lay = Ec vs.length os.length) (hnt : J.nt = vs.length + (fn.ntmps - vs.length)) (hnp : J.Hv.length = os.length)
 {res : V} {outs : List V} (hy : J.enc y = res :: outs) (hsz : Ex os outs = true) : OK P f vs os res outs := by
 refine ⟨hsz, fun Γ ρ fam vals hv hm hs => ?_⟩
 have hp : ∀ i, J.Hv.length ≤ i → Γ.par i = none := by
  intro i hi
  rw [← hs.pn i, ← hs.nm]
  show os[i]? = none
  exact List.getElem?_eq_none (by omega)
 have hI : Inv Γ J.nt (S.lay.spread (S.enc x)) { tmps := vals ++ Array.replicate (fn.ntmps - vals.size) Go.undef, defers := [] } Γ.w := by
  rw [henc, hlay, Mr]
  refine ⟨by simp [hv, hnt], rfl, Γ.F, ρ, fam, hm, ⟨fun t => ?_, hs.nm, hs.bl, hs.off, hs.DL, hs.new, hs.lt, hs.pn⟩⟩
  have h1 := hs.tm t
  by_cases ht : t < vals.size
  · have : (vals ++ Array.replicate (fn.ntmps - vals.size) Go.undef).getD t Go.undef = vals.getD t Go.undef := by
     simp only [Array.getD_eq_getD_getElem?]
     rw [Array.getElem?_append_left ht]
    rw [this]
    exact h1
  · have : (Gp vs os).tm t = .undef := by
     show vs.getD t .undef = .undef
     rw [List.getD_eq_getElem?_getD, List.getElem?_eq_none (by omega)]
     rfl
    rw [this]
    trivial
 have hr := hL Γ hp x y h _ _ hI
 rw [hK] at hr
 refine LZ hf hb (hr.mono ?_)
 rintro a w ⟨h1, v, h2, F', ρ', fam', h3, h4⟩
 rw [hy] at h4
 rw [hJ] at h2
 exact ⟨h1, v, h2, F', ρ', fam', h3, h4⟩
end
end Go.Vm
end
section
namespace Go.Vm
open Go
structure Sl (α : Type) where
 nil : Bool
 n : Nat
 get : Nat → α
structure Bx (α : Type) where
 nil : Bool
 x : α
structure Ln where
 nil : Bool
 n : Nat
structure Ar (α : Type) where
 n : Nat
 get : Nat → α
section
variable {α : Type}
def LA (tok : Option TypeId) (s : Nat) (e : α → V) (x : Sl α) : V := .sl tok s x.nil x.n fun i => e (x.get i)
def Tm (t : TypeId) (s : Nat) (e : α → V) (x : Sl α) : V := .A4 t s x.nil x.n fun i => e (x.get i)
def eBx (e : α → V) (x : Bx α) : V := .Ai x.nil (e x.x)
def Sa (s n : Nat) (e : α → V) (g : Nat → α) : V := .arr s n fun i => e (g i)
def Jy (s : Nat) (e : α → V) (x : Ar α) : V := .arr s x.n fun i => e (x.get i)
def eLn (id : Id) (t : TypeId) (s : Nat) (x : Ln) : V := .Bl id t s x.nil x.n
def CR (e : α → V) (x : α) : V := .vp (e x)
def dI : V → Int
 | .int _ n => n
 | _ => 0
def dB : V → Bool
 | .bool b => b
 | _ => false
def dS : V → ByteArray
 | .str s => s
 | _ => ⟨#[]⟩
def LX (d : V → α) : V → Sl α
 | .sl _ _ nil n get => ⟨nil, n, fun i => d (get i)⟩
 | .A4 _ _ nil n get => ⟨nil, n, fun i => d (get i)⟩
 | _ => ⟨true, 0, fun _ => d .undef⟩
def dBx (d : V → α) : V → Bx α
 | .Ai nil x => ⟨nil, d x⟩
 | _ => ⟨true, d .undef⟩
def U6 (d : V → α) : V → Nat → α
 | .arr _ _ get => fun i => d (get i)
 | _ => fun _ => d .undef
def Pz (d : V → α) : V → Ar α
 | .arr _ n get => ⟨n, fun i => d (get i)⟩
 | _ => ⟨0, fun _ => d .undef⟩
def S3 : V → Ln
 | .Bl _ _ _ nil n => ⟨nil, n⟩
 | _ => ⟨true, 0⟩
def CS (d : V → α) : V → α
 | .vp x => d x
 | _ => d .undef
def ePt (i s : Nat) (x : Nat × Nat) : V := .ptr (.par i) [.idx s x.2 x.1]
def fd : V → Nat → V
 | .cons x _, 0 => x
 | .cons _ r, j + 1 => fd r j
 | .CC x, j => fd x j
 | _, _ => .undef
def fnc : V → V
 | .fn _ c => c
 | _ => .undef
def at_ : List V → Nat → V
 | x :: _, 0 => x
 | _ :: l, i + 1 => at_ l i
 | [], _ => .undef
end
section
variable {P : Program}
def Ae (fn : Func) (k np : Nat) (X : Type) (enc : X → List V) (dec : List V → X) : AM := ⟨0, [.code (fn.body.getD .skip)], Ec k np, X, enc, dec⟩
def Ad (fn : Func) (id : Nat) (live : List (Nat × Sh)) (Ef : List Sh) (Me : List (Id × Sh)) (X : Type) (enc : X → List V) (dec : List V → X) : AM :=
 ⟨id, (T5 id (fn.body.getD .skip) []).getD [], ⟨live, Ef, Me⟩, X, enc, dec⟩
def RR {α : Type} (d : α) : List (Nat × α) → Nat → α
 | [], _ => d
 | (k, x) :: l, n => cond (Nat.beq k n) x (RR d l n)
def BF (P : Program) (fn : Func) (nt : Nat) (pol : List (Nat × Nat)) (hint Km : List (Nat × List Hint)) (PI : List Hint) (UH Hv : List Sh) (Pa : List (A3 P)) (R : Type) (UL : List (Nat × List Rec)) (enc : R → List V) : A9 P :=
 ⟨fn, nt, RR 0 pol, RR [] hint, RR [] Km, PI, UH, Hv, Pa, R, enc, RR [] UL⟩
theorem lbc {J : A9 P} {S : AM} {D : AQ S.X J.R} {labs : List (PX J.R)} (h2 : AV J S D) (h1 : S.lay.Ef.length = J.Hv.length) (h : ∀ l ∈ labs, l.S.lay.Ef.length = J.Hv.length ∧ AV J l.S l.D) :
 ∀ l ∈ (⟨S, D⟩ : PX J.R) :: labs, l.S.lay.Ef.length = J.Hv.length ∧ AV J l.S l.D := Qp (a := ⟨S, D⟩) h1 h2 h
def U1 (f : FuncId) (J : A9 P) (S : AM) (D G : AQ S.X J.R) (hG : ∀ x y, G.rel x y → D.rel x y) (na np : Nat) (ash : List Sh) (hf : P.funcs[f]? = some J.fn) (hb : J.fn.body.isSome = true)
    (hn : (J.fn.name == "runtime.NumGoroutine") = false) (hL : AV J S D) (hK : S.K = [.code (J.fn.body.getD .skip)]) (hlay : S.lay = Ec na np) (hlen : ∀ x, (S.enc x).length = na + np)
    (hnt : J.nt = na + (J.fn.ntmps - na)) (hnp : J.Hv.length = np) (hy : ∀ y, J.enc y = (J.enc y).headD .undef :: (J.enc y).tail) (hsz : ∀ x y, G.rel x y → Ex ((S.enc x).drop na) (J.enc y).tail = true) : A3 P where
 f := f
 fn := J.fn
 hf := hf
 hb := hb
 hn := hn
 X := S.X
 Y := J.R
 args x := (S.enc x).take na
 HV x := (S.enc x).drop na
 res y := (J.enc y).headD .undef
 outs _ y := (J.enc y).tail
 rel := G.rel
 ev := G.ev
 GZ := G.GZ
 dec l m := S.dec (l ++ m)
 ash := ash
 osh := J.Hv
 ok x y h := by
  have e1 : ((S.enc x).take na).length = na := by rw [List.length_take, hlen]; omega
  have e2 : ((S.enc x).drop na).length = np := by rw [List.length_drop, hlen]; omega
  refine IF hf (code := J.fn.body.getD .skip) ?_ rfl hL hK (hG x y h) (List.take_append_drop na _).symm ?_ ?_ ?_ (hy y) (hsz x y h)
  · obtain ⟨c, hc⟩ := Option.isSome_iff_exists.1 hb
    rw [hc]; rfl
  · rw [hlay, e1, e2]
  · rw [hnt, e1]
  · rw [hnp, e2]
 pure := false
 Jt h := by cases h
 Hu h := by cases h
def TT.Ro {R O : Type} (π : R → O) (o : O) (t : TT P R) : Prop := ∀ r, t.Fin r → π r = o
section
variable {R O : Type} {π : R → O} {o : O}
theorem TT.rR {r : R} (h : π r = o) : (TT.ret r : TT P R).Ro π o := fun _ k => k ▸ h
theorem TT.S9 : (TT.fail : TT P R).Ro π o := fun _ k => k.elim
theorem TT.rN {b : Bool} {t : TT P R} (h : t.Ro π o) : (TT.need b t).Ro π o := fun r k => h r k.2
theorem TT.rI {b : Bool} {t e : TT P R} (h : t.Ro π o) (k : e.Ro π o) : (TT.ite b t e).Ro π o := fun r q => by
 cases b
 · exact k r (q.2 rfl)
 · exact h r (q.1 rfl)
theorem TT.rS {p : Prop} {t : TT P R} (h : t.Ro π o) : (TT.side p t).Ro π o := h
theorem TT.rC {K : A3 P} {x : K.X} {k : K.Y → TT P R} (h : ∀ y, (k y).Ro π o) : (TT.call K x k).Ro π o := fun r ⟨y, _, q⟩ => h y r q
theorem TT.rJ {S : AM} {D : AQ S.X R} {x : S.X} (h : ∀ y, D.rel x y → π y = o) : (TT.jump S D x : TT P R).Ro π o := h
theorem Ju {X : Type} {ω : X → O} {tt : AQ X R → X → TT P R} (h : ∀ D : AQ X R, (∀ x y, D.rel x y → π y = ω x) → ∀ x, (tt D x).Ro π (ω x)) : ∀ x y, (AQ.loop tt).rel x y → π y = ω x := by
 have key : ∀ n x y, (AQ.lvl tt n).rel x y → π y = ω x := by
  intro n
  induction n with
  | zero => intro x y k; exact k.elim
  | succ n ih => intro x y k; exact h _ ih x y k
 rintro x y ⟨n, k⟩
 exact key n x y k
end
def AQ.ro {X Y R : Type} (D : AQ X R) (prj : R → Y) (inj : Y → X → R) (h : ∀ x y, D.rel x y → y = inj (prj y) x) : AQ X Y where
 rel x y := D.rel x (inj y x)
 ev n x := (D.ev n x).map prj
 GZ n x y k := by
  simp only [Option.map_eq_some_iff] at k
  obtain ⟨z, k1, k2⟩ := k
  subst k2
  have k3 := D.GZ n x z k1
  rw [← h x z k3]; exact k3
theorem JJ : ∀ {l : List V}, l.all V.one = true → Ex l l = true
 | [], _ => rfl
 | x :: l, h => by
   simp only [List.all_cons, Bool.and_eq_true] at h
   simp [Ex, h.1, JJ h.2]
def UY (f : FuncId) (J : A9 P) (S : AM) {Y : Type} (D : AQ S.X J.R) (E : AQ S.X Y) (inj : Y → S.X → J.R) (hE : ∀ x y, E.rel x y → D.rel x (inj y x)) (res : Y → V) (na np : Nat) (ash : List Sh) (hf : P.funcs[f]? = some J.fn) (hb : J.fn.body.isSome = true)
    (hn : (J.fn.name == "runtime.NumGoroutine") = false) (hL : AV J S D) (hK : S.K = [.code (J.fn.body.getD .skip)]) (hlay : S.lay = Ec na np) (hlen : ∀ x, (S.enc x).length = na + np)
    (hnt : J.nt = na + (J.fn.ntmps - na)) (hnp : J.Hv.length = np) (hy : ∀ x y, J.enc (inj y x) = res y :: (S.enc x).drop na) (hone : ∀ x, ((S.enc x).drop na).all V.one = true)
    (hnm : ∀ x, Sw ((S.enc x).drop na)) : A3 P where
 f := f
 fn := J.fn
 hf := hf
 hb := hb
 hn := hn
 X := S.X
 Y := Y
 args x := (S.enc x).take na
 HV x := (S.enc x).drop na
 res := res
 outs x _ := (S.enc x).drop na
 rel := E.rel
 ev := E.ev
 GZ := E.GZ
 dec l m := S.dec (l ++ m)
 ash := ash
 osh := []
 ok x y h := by
  have e1 : ((S.enc x).take na).length = na := by rw [List.length_take, hlen]; omega
  have e2 : ((S.enc x).drop na).length = np := by rw [List.length_drop, hlen]; omega
  refine IF hf (code := J.fn.body.getD .skip) ?_ rfl hL hK (hE x y h) (List.take_append_drop na _).symm ?_ ?_ ?_ (hy x y) (JJ (hone x))
  · obtain ⟨c, hc⟩ := Option.isSome_iff_exists.1 hb
    rw [hc]; rfl
  · rw [hlay, e1, e2]
  · rw [hnt, e1]
  · rw [hnp, e2]
 pure := true
 Jt _ _ _ _ := rfl
 Hu _ := hnm
end
theorem lk {P : Program} {J : A9 P} (hm : P.follows .mixedOrders = true) {labs : List (PX J.R)} (hl : ∀ l ∈ labs, l.S.lay.Ef.length = J.Hv.length ∧ AV J l.S l.D) {S : AM} {tt : S.X → TT P J.R} (hs : ∀ x, (tt x).AH)
 (hd : ∀ x, J.den labs S x 4000 = (tt x).tree J.enc := by intro x; kernel_rfl) : AV J S (.of tt) := lbk hm hl 4000 hd hs
def BZ {P : Program} (f : FuncId) (J : A9 P) (S : AM) (D : AQ S.X J.R) (na np : Nat) (ash : List Sh) (hL : AV J S D) (hf : P.funcs[f]? = some J.fn := by kernel_rfl) (hb : J.fn.body.isSome = true := by kernel_rfl)
    (hn : (J.fn.name == "runtime.NumGoroutine") = false := by kernel_rfl) (hK : S.K = [.code (J.fn.body.getD .skip)] := by exact rfl) (hlay : S.lay = Ec na np := by exact rfl) (hlen : ∀ x, (S.enc x).length = na + np := by exact fun _ => rfl)
    (hnt : J.nt = na + (J.fn.ntmps - na) := by kernel_rfl) (hnp : J.Hv.length = np := by exact rfl) (hy : ∀ y, J.enc y = (J.enc y).headD .undef :: (J.enc y).tail := by exact fun _ => rfl)
    (hsz : ∀ x y, D.rel x y → Ex ((S.enc x).drop na) (J.enc y).tail = true := by intro x y _; kernel_rfl) : A3 P := U1 f J S D D (fun _ _ h => h) na np ash hf hb hn hL hK hlay hlen hnt hnp hy hsz
def C3 {P : Program} (f : FuncId) (J : A9 P) (S : AM) {Y : Type} (D : AQ S.X J.R) (E : AQ S.X Y) (inj : Y → S.X → J.R) (res : Y → V) (na np : Nat) (ash : List Sh) (hL : AV J S D) (hnm : ∀ x, Sw ((S.enc x).drop na))
    (hE : ∀ x y, E.rel x y → D.rel x (inj y x) := by exact fun _ _ h => h) (hf : P.funcs[f]? = some J.fn := by kernel_rfl) (hb : J.fn.body.isSome = true := by kernel_rfl)
    (hn : (J.fn.name == "runtime.NumGoroutine") = false := by kernel_rfl) (hK : S.K = [.code (J.fn.body.getD .skip)] := by exact rfl) (hlay : S.lay = Ec na np := by exact rfl) (hlen : ∀ x, (S.enc x).length = na + np := by exact fun _ => rfl)
    (hnt : J.nt = na + (J.fn.ntmps - na) := by kernel_rfl) (hnp : J.Hv.length = np := by exact rfl) (hy : ∀ x y, J.enc (inj y x) = res y :: (S.enc x).drop na := by exact fun _ _ => rfl) (hone : ∀ x, ((S.enc x).drop na).all V.one = true := by exact fun _ => rfl) : A3 P :=
 UY f J S D E inj hE res na np ash hf hb hn hL hK hlay hlen hnt hnp hy hone hnm
def an (l : List Nat) : List (Nat × Sh) := l.map (·, .any)
end Go.Vm
end
section
namespace Go.Vm
open Go
section
variable {P : Program} {X R : Type}
end
theorem wrap64 {z : Int} (h0 : -9223372036854775808 ≤ z) (h1 : z ≤ 9223372036854775807) : IntKind.i64.wrap z = z := by
 simp [IntKind.wrap, IntKind.signed, IntKind.bits]
 split <;> omega
theorem Aj {z : Int} (h0 : 0 ≤ z) (h1 : z < 18446744073709551616) : IntKind.u64.wrap z = z := by
 simp [IntKind.wrap, IntKind.signed, IntKind.bits]
 omega
theorem CG {k n : Nat} (h : k < n) (hn : n ≤ maxLen) : IntKind.i64.wrap ((k : Int) + 1) = ((k + 1 : Nat) : Int) := by
 unfold maxLen at hn
 rw [wrap64 (by omega) (by omega)]
 simp
theorem BV {a b : Nat} : BS (a : Int) (b : Int) = decide (a < b) := by simp [BS]
theorem BL {a b : Nat} (h : a < b) : A0 (a : Int) b = true := by rw [FN]; omega
theorem wf_i64 {n : Int} (h : (Lit.int .i64 n).wf = true) : -9223372036854775808 ≤ n ∧ n ≤ 9223372036854775807 := by
 simp [Lit.wf, IntKind.min, IntKind.max, IntKind.signed, IntKind.bits] at h
 omega
theorem wf_u64 {n : Int} (h : (Lit.int .u64 n).wf = true) : 0 ≤ n ∧ n < 18446744073709551616 := by
 simp [Lit.wf, IntKind.min, IntKind.max, IntKind.signed, IntKind.bits] at h
 omega
theorem Gy (n : Int) : 0 ≤ IntKind.u64.wrap n ∧ IntKind.u64.wrap n < 18446744073709551616 := by
 simp [IntKind.wrap, IntKind.signed, IntKind.bits]
 omega
theorem MM {a b : ByteArray} : seq a b = true ↔ a = b := by
 unfold seq
 rw [beq_iff_eq]
 constructor
 · intro h
   have h : a.data.toList = b.data.toList := by simpa [ByteArray.toList_eq] using h
   cases a; cases b
   simp only at h
   congr 1
   exact Array.toList_inj.1 h
 · rintro rfl; rfl
end Go.Vm
end
section
namespace Go.Vm
open Go
section
variable {P : Program} {X R : Type}
def AQ.wp (D : AQ X R) (x : X) (Q : R → Prop) : Prop := ∃ y, D.rel x y ∧ Q y
def TT.wp : TT P R → (R → Prop) → Prop
 | .ret r, Q => Q r
 | .fail, _ => False
 | .need b t, Q => b = true ∧ t.wp Q
 | .ite b t e, Q => (b = true → t.wp Q) ∧ (¬ b = true → e.wp Q)
 | .side _ t, Q => t.wp Q
 | .call K x k, Q => ∃ y, K.rel x y ∧ (k y).wp Q
 | .jump _ D x, Q => D.wp x Q
 | .JS _ _ D x, Q => D.wp x Q
theorem TT.IW {Q : R → Prop} : ∀ {t : TT P R}, t.wp Q → ∃ r, t.Fin r ∧ Q r := by
 intro t
 induction t with
 | ret r => intro h; exact ⟨r, rfl, h⟩
 | fail => intro h; exact h.elim
 | need b t ih => rintro ⟨h, k⟩; obtain ⟨r, h1, h2⟩ := ih k; exact ⟨r, ⟨h, h1⟩, h2⟩
 | ite b t e iht ihe =>
   rintro ⟨h, k⟩
   cases b
   · obtain ⟨r, h1, h2⟩ := ihe (k nofun); exact ⟨r, ⟨nofun, fun _ => h1⟩, h2⟩
   · obtain ⟨r, h1, h2⟩ := iht (h rfl); exact ⟨r, ⟨fun _ => h1, nofun⟩, h2⟩
 | side p t ih => exact ih
 | call K x k ih => rintro ⟨y, h, k⟩; obtain ⟨r, h1, h2⟩ := ih y k; exact ⟨r, ⟨y, h, h1⟩, h2⟩
 | jump S D x => exact id
 | JS p S D x => exact id
theorem of_wp {tt : X → TT P R} {x : X} {Q : R → Prop} (h : (tt x).wp Q) : (AQ.of tt).wp x Q := TT.IW h
theorem B3 {Y : Type} {tt : X → TT P R} {prj : R → Y} {inj : Y → X → R} {h : ∀ x y, (AQ.of tt).rel x y → y = inj (prj y) x} {x : X} {Q : Y → Prop} (k : (tt x).wp fun r => Q (prj r)) : (AQ.ro (AQ.of tt) prj inj h).wp x Q := by
 obtain ⟨r, h1, h2⟩ := TT.IW k
 refine ⟨prj r, ?_, h2⟩
 show (AQ.of tt).rel x (inj (prj r) x)
 rw [← h x r h1]; exact h1
theorem AQ.wp.mono {D : AQ X R} {x : X} {Q Q' : R → Prop} (h : D.wp x Q) (k : ∀ y, Q y → Q' y) : D.wp x Q' := by
 obtain ⟨y, h1, h2⟩ := h; exact ⟨y, h1, k y h2⟩
theorem CU {tt : AQ X R → X → TT P R} (I : X → Prop) (m : X → Nat) (Q : X → R → Prop)
 (h : ∀ (D : AQ X R) x, I x → (∀ x', I x' → m x' < m x → D.wp x' (Q x')) → (tt D x).wp (Q x)) {x : X} (hx : I x) : (AQ.loop tt).wp x (Q x) := by
 have key : ∀ n x, I x → m x < n → (AQ.lvl tt n).wp x (Q x) := by
  intro n
  induction n with
  | zero => intro x _ h; omega
  | succ n ih => intro x hx hm; exact TT.IW (h _ x hx fun x' h1 h2 => ih x' h1 (by omega))
 obtain ⟨y, h1, h2⟩ := key (m x + 1) x hx (by omega)
 exact ⟨y, ⟨_, h1⟩, h2⟩
theorem Cc {tt : AQ X R → X → TT P R} (st : Nat → X) (N : Nat) (J : Nat → Prop) (Q : R → Prop) (hend : ∀ D, J N → (tt D (st N)).wp Q)
 (hstep : ∀ (D : AQ X R) k, k < N → J k → (J (k + 1) → D.wp (st (k + 1)) Q) → (tt D (st k)).wp Q) {k : Nat} (hk : k ≤ N) (hJ : J k) : (AQ.loop tt).wp (st k) Q := by
 have key : ∀ d k, k + d = N → J k → (∃ n, (AQ.lvl tt n).wp (st k) Q) := by
  intro d
  induction d with
  | zero => intro k h hJ; obtain rfl : k = N := by omega
            exact ⟨1, TT.IW (hend _ hJ)⟩
  | succ d ih =>
    intro k h hJ
    by_cases hJ' : J (k + 1)
    · obtain ⟨n, hn⟩ := ih (k + 1) (by omega) hJ'
      exact ⟨n + 1, TT.IW (hstep _ k (by omega) hJ fun _ => hn)⟩
    · exact ⟨1, TT.IW (hstep _ k (by omega) hJ fun h => absurd h hJ')⟩
 obtain ⟨n, y, h1, h2⟩ := key (N - k) k (by omega) hJ
 exact ⟨y, ⟨n, h1⟩, h2⟩
theorem wN {b : Bool} {t : TT P R} {Q : R → Prop} (h : b = true) (k : t.wp Q) : (TT.need b t).wp Q := ⟨h, k⟩
theorem BM {b : Bool} {t e : TT P R} {Q : R → Prop} (h : b = true → t.wp Q) (k : ¬ b = true → e.wp Q) : (TT.ite b t e).wp Q := ⟨h, k⟩
theorem AE {b : Bool} {p : Prop} {t e : TT P R} {Q : R → Prop} (hb : b = true ↔ p) (h : p → t.wp Q) (k : ¬ p → e.wp Q) : (TT.ite b t e).wp Q := ⟨fun q => h (hb.1 q), fun q => k fun r => q (hb.2 r)⟩
theorem DA {t e : TT P R} {Q : R → Prop} : (TT.ite true t e).wp Q ↔ t.wp Q := by simp [TT.wp]
theorem CW {t e : TT P R} {Q : R → Prop} : (TT.ite false t e).wp Q ↔ e.wp Q := by simp [TT.wp]
theorem Be {t : TT P R} {Q : R → Prop} : (TT.need true t).wp Q ↔ t.wp Q := by simp [TT.wp]
theorem wC {K : A3 P} {x : K.X} {k : K.Y → TT P R} {Q : R → Prop} {Q' : K.Y → Prop} (h : ∃ y, K.rel x y ∧ Q' y) (h2 : ∀ y, Q' y → (k y).wp Q) : (TT.call K x k).wp Q := by
 obtain ⟨y, a, b⟩ := h; exact ⟨y, a, h2 y b⟩
theorem Pw {Y : Type} {rel Q' G : Y → Prop} (h : ∃ y, rel y ∧ Q' y) (k : ∀ y, Q' y → G y) : ∃ y, rel y ∧ G y := by
 obtain ⟨y, a, b⟩ := h; exact ⟨y, a, k y b⟩
end
section
variable {α β : Type}
def Sl.L (s : Sl α) : List α := (List.range s.n).map s.get
@[simp] theorem Sl.A8 (s : Sl α) : s.L.length = s.n := by simp [Sl.L]
theorem Sl.DH? (s : Sl α) (i : Nat) : s.L[i]? = if i < s.n then some (s.get i) else none := by
 unfold Sl.L
 split
 · simp [*]
 · simp; omega
theorem Sl.DH (s : Sl α) {i : Nat} (h : i < s.n) : s.L[i]? = some (s.get i) := by rw [Sl.DH?, if_pos h]
theorem Sl.GP (s : Sl α) {i : Nat} (h : i < s.L.length) : s.L[i] = s.get i := by simp [Sl.L]
theorem Sl.Sy {s t : Sl α} (hn : s.n = t.n) (h : ∀ i, i < s.n → s.get i = t.get i) : s.L = t.L := by
 unfold Sl.L; rw [← hn]; exact List.map_congr_left fun i hi => h i (List.mem_range.1 hi)
theorem Sl.Xe {s t : Sl α} (h : s.L = t.L) : s.n = t.n ∧ ∀ i, i < s.n → s.get i = t.get i := by
 have hn : s.n = t.n := by have := congrArg List.length h; simpa using this
 refine ⟨hn, fun i hi => ?_⟩
 have := congrArg (fun l => l[i]?) h
 simp only [Sl.DH _ hi, Sl.DH _ (hn ▸ hi)] at this
 exact Option.some.inj this
theorem Sl.CZ {s : Sl α} {x : α} : x ∈ s.L ↔ ∃ i, i < s.n ∧ s.get i = x := by simp [Sl.L]
end
theorem bnI {b : Bool} : (!b) = true ↔ ¬ b = true := by cases b <;> simp
theorem ibI {i : Int} {n : Nat} : A0 i n = true ↔ 0 ≤ i ∧ i < (n : Int) := FN i n
theorem ieI {a b : Int} : AX a b = true ↔ a = b := by simp [AX]
theorem Qv {a b : Int} : AX a b = false ↔ a ≠ b := by simp [AX]
theorem ilI {a b : Int} : BS a b = true ↔ a < b := by simp [BS]
theorem Lr {a b : Int} : BS a b = false ↔ b ≤ a := by simp [BS]
theorem leI {a b : Int} : Bd a b = true ↔ a ≤ b := by simp [Bd]
end Go.Vm
end
section
namespace Go.Vm
open Go Go.ChangeShapes Go.WideShapes Go.ChangeAt Go.RowKit
def old (W : World) : AF := fun g _ => g < W.heap.size
def FG (P : Program) (t : TypeId) : Array Field := match P.underlying t with
 | some (.struct fs) => fs
 | _ => #[]
def EC {α : Type} (P : Program) (t : TypeId) (e : α → V) (ok : α → Prop) : Prop :=
 ∀ (H : Type) (enc : TypeId × Value → H) (W : World) (held : Bool) (fuel : Nat) (cs : List Value) (x : DataW H × List MemPlace),
   DataW.trod enc P W 0 (fun _ => true) held fuel t cs = some x → ∃ a, ok a ∧ AK (old W) W As (e a) cs none_
def NB {α : Type} (P : Program) (fs : List Field) (off : Nat) (e : α → V) (ok : α → Prop) : Prop :=
 ∀ (H : Type) (enc : TypeId × Value → H) (W : World) (held : Bool) (cs : List Value), cs.length = off + (fs.map fun f => P.cellsOf f.type).sum →
   (∀ f ∈ fs, ∃ n x, DataW.trod enc P W 0 (fun _ => true) held n f.type ((cs.drop f.offset).take (P.cellsOf f.type)) = some x) →
   ∃ a, ok a ∧ AK (old W) W As (e a) (cs.drop off) none_
section
variable {P : Program} {t : TypeId}
theorem Bw {k : IntKind} (ht : P.underlying t = some (.int k)) : EC P t (V.int k) (fun n => (Lit.int k n).wf = true) := by
 intro H enc W held fuel cs x h
 obtain ⟨n, rfl, _, hw⟩ := DataW.trod_int ht h
 exact ⟨n, hw, by simp only [AK]⟩
def Qb {α : Type} (ok : α → Prop) (x : Sl α) : Prop := (x.nil = true → x.n = 0) ∧ x.n ≤ maxLen ∧ ∀ i, i < x.n → ok (x.get i)
theorem FL {α : Type} {e : TypeId} {s : Nat} {enc_ : α → V} {ok : α → Prop} (d : α) (ht : P.underlying t = some (.slice e)) (hs : P.cellsOf e = s) (hpos : 0 < s) (h : EC P e enc_ ok) :
 EC P t (LA none s enc_) (Qb ok) := by
 intro H enc W held fuel cs x hx
 rcases Go.Deep.open_slice ht hx with ⟨rfl, _⟩ | ⟨a, len, cap, m, n, D, Pl, rfl, _, hl, hm, hmm, _, hel⟩
 · exact ⟨⟨true, 0, fun _ => d⟩, ⟨fun _ => rfl, Nat.zero_le _, fun i hi => absurd hi (Nat.not_lt_zero _)⟩, by
    simp only [LA, AK]
    exact ⟨none, 0, rfl, Nat.le_refl _, Nat.zero_le _, fun _ => by simp, nofun⟩⟩
 · simp only [if_true] at hmm
   subst hmm
   rw [hs] at hel
   have hq : a.spot = none ∨ m = 0 := by
    by_cases h0 : m = 0
    · exact .inr h0
    · left
      obtain ⟨cs', h1, _⟩ := hel 0 (by omega)
      obtain ⟨_, h2, h3⟩ := World.cells?_some h1
      have h4 := h3 0 hpos
      rw [List.getElem?_eq_getElem (by omega), Nat.zero_mul] at h4
      unfold World.cell? at h4
      split at h4
      · split at h4
        · cases h4
        · rename_i hsp
          have e1 : ((a.add 0).add 0) = a := by simp [Addr.add]
          rw [e1] at hsp
          cases hq : a.spot
          · rfl
          · rw [hq] at hsp; simp at hsp
      · cases h4
   have hch : ∀ i : Nat, ∃ y : α × List Value, i < len → y.2.length = s ∧ ok y.1 ∧ AK (old W) W As (enc_ y.1) y.2 none_ ∧ (∀ j, j < s → W.cell? ((a.add (i * s)).add j) = y.2[j]?) := by
    intro i
    by_cases hi : i < len
    · obtain ⟨cs', h1, h2⟩ := hel i (by omega)
      obtain ⟨_, h3, h4⟩ := World.cells?_some h1
      obtain ⟨y, h5, h6⟩ := h H enc W held _ _ _ h2
      exact ⟨(y, cs'), fun _ => ⟨h3, h5, h6, h4⟩⟩
    · exact ⟨(d, []), fun h => absurd h hi⟩
   obtain ⟨f, hf⟩ := Classical.skolem.1 hch
   obtain ⟨g, o, q⟩ := a
   refine ⟨⟨false, len, fun i => (f i).1⟩, ⟨nofun, by show len ≤ maxLen; omega, fun i hi => (hf i hi).2.1⟩, ?_⟩
   simp only [LA, AK]
   refine ⟨_, m, rfl, hl, hm, nofun, fun _ => ⟨g, o, q, rfl, hq, nofun, fun i hi => ?_⟩⟩
   obtain ⟨h1, h2, h3, h4⟩ := hf i hi
   obtain rfl : q = none := hq.resolve_right (by omega)
   have hc : ∀ j (hj : j < s), W.cell? ⟨g, o + i * s + j, none⟩ = (f i).2[j]? := fun j hj => by
    have := h4 j hj
    rwa [Bs, Bs] at this
   refine ⟨_, h1, h3, fun j u hu => ?_, fun j hj => ?_⟩
   · have hj : j < s := by have := (List.getElem?_eq_some_iff.1 hu).1; omega
     rw [hc j hj]; exact hu
   · have := hc j hj
     rw [List.getElem?_eq_getElem (by omega)] at this
     unfold World.cell? at this
     unfold old
     cases hb : W.heap[g]? with
     | none => simp [hb] at this
     | some b => exact (Array.getElem?_eq_some_iff.1 hb).1
theorem G1 {off : Nat} : NB P [] off (fun _ : Unit => V.unit) (fun _ => True) := by
 intro H enc W held cs hl _
 refine ⟨(), trivial, ?_⟩
 simp only [AK]
 exact List.drop_eq_nil_of_le (by simpa using Nat.le_of_eq hl)
theorem BT {α β : Type} {f : Field} {fs : List Field} {off s : Nat} {u : TypeId} {e1 : α → V} {e2 : β → V} {ok1 : α → Prop} {ok2 : β → Prop} (hu : f.type = u) (ho : f.offset = off) (hs : P.cellsOf u = s)
 (h1 : EC P u e1 ok1) (h2 : NB P fs (off + s) e2 ok2) : NB P (f :: fs) off (fun x : α × β => V.cons (e1 x.1) (e2 x.2)) (fun x => ok1 x.1 ∧ ok2 x.2) := by
 subst hu
 intro H enc W held cs hl hf
 obtain ⟨n, x, hx⟩ := hf f (List.mem_cons_self ..)
 rw [ho, hs] at hx
 obtain ⟨a, k1, k2⟩ := h1 H enc W held _ _ _ hx
 simp only [List.map_cons, List.sum_cons, hs] at hl
 obtain ⟨b, k3, k4⟩ := h2 H enc W held cs (by omega) (fun g hg => hf g (List.mem_cons_of_mem _ hg))
 refine ⟨(a, b), ⟨k1, k3⟩, ?_⟩
 simp only [AK]
 refine ⟨_, _, none_, none_, ?_, k2, k4, AF.Aa _, AF.Aa _, AF.BR _⟩
 rw [← List.drop_drop, List.take_append_drop]
theorem En {α : Type} {fs : Array Field} {l : List Field} {e : α → V} {ok : α → Prop} (ht : P.underlying t = some (.struct fs)) (hl : fs.toList = l) (hc : P.cellsOf t = (l.map fun f => P.cellsOf f.type).sum) (h : NB P l 0 e ok) : EC P t e ok := by
 intro H enc W held fuel cs x hx
 obtain ⟨xs, n, _, _, hlen, hxs, hel⟩ := DataW.trod_struct ht hx
 subst hl
 obtain ⟨a, h1, h2⟩ := h H enc W held cs (by rw [hlen, hc, Nat.zero_add]) (fun f hf => by
  obtain ⟨i, hi⟩ := List.mem_iff_getElem?.1 hf
  have hi' : fs[i]? = some f := by simpa using hi
  have := hel i f hi'
  have hlt : i < fs.size := (Array.getElem?_eq_some_iff.1 hi').1
  rw [List.getElem?_eq_getElem (by omega)] at this
  exact ⟨n, _, this⟩)
 exact ⟨a, h1, by simpa using h2⟩
theorem EC.map {α β : Type} {e : α → V} {ok : α → Prop} {e' : β → V} {ok' : β → Prop} (h : EC P t e ok) (f : α → β) (he : ∀ a, e' (f a) = e a) (hk : ∀ a, ok a → ok' (f a)) : EC P t e' ok' := by
 intro H enc W held fuel cs x hx
 obtain ⟨a, h1, h2⟩ := h H enc W held fuel cs x hx
 exact ⟨f a, hk a h1, by rw [he]; exact h2⟩
def OS {α : Type} (P : Program) (t : TypeId) (e : α → V) (ok : α → Prop) : Prop :=
 ∀ (H : Type) (enc : TypeId × Value → H) (W : World) (base : Nat) (v : Value) (d : DataW H) (ps : List MemPlace), Value.okWide P W .any base t v →
   DataW.Trod enc P W 0 (fun _ => true) true t v d ps → ∃ a, ok a ∧ Al (old W) W As (e a) v none_
theorem H9 {α : Type} {fs : Array Field} {e : α → V} {ok : α → Prop} (ht : P.underlying t = some (.struct fs)) (h : EC P t e ok) (ha : ∀ a, (e a).agg = true) (h1 : ∀ a, (e a).one = true) : OS P t e ok := by
 intro H enc W base v d ps hv hd
 simp only [Value.okWide, ht] at hv
 obtain ⟨cs, rfl, _⟩ := hv
 obtain ⟨fuel, hd⟩ := hd
 obtain ⟨a, k1, k2⟩ := h H enc W true _ _ _ hd
 refine ⟨a, k1, BI.val ⟨fun _ => ⟨cs.toList, rfl, k2⟩, fun hf => ?_⟩ (h1 a)⟩
 rw [ha a] at hf
 cases hf
theorem PE {α : Type} {e : α → V} {ok : α → Prop} (hv : ∀ (W : World) (base : Nat) (v : Value), Value.okWide P W .any base t v → v.cells = #[v]) (h : EC P t e ok) (ha : ∀ a, (e a).agg = false) (h1 : ∀ a, (e a).one = true) : OS P t e ok := by
 intro H enc W base v d ps hok hd
 obtain ⟨fuel, hd⟩ := hd
 rw [hv W base v hok] at hd
 obtain ⟨a, k1, k2⟩ := h H enc W true _ _ _ hd
 refine ⟨a, k1, BI.val ⟨fun hf => ?_, fun _ => k2⟩ (h1 a)⟩
 rw [ha a] at hf
 cases hf
theorem OH {e : TypeId} (ht : P.underlying t = some (.slice e)) (W : World) (base : Nat) (v : Value) (h : Value.okWide P W .any base t v) : v.cells = #[v] := by
 simp only [Value.okWide, ht, Cell.okWide] at h
 cases v <;> simp_all [Cell.ok, Value.cells]
end
def ctx (W : World) : Ctx := ⟨W, old W, none_, fun _ => none⟩
theorem Tb (W : World) : Mem (ctx W) W (old W) :=
 ⟨Ext.refl W, AF.Sub.refl _, fun _ _ h => .inl h, fun _ _ _ => rfl, fun _ _ h => h⟩
theorem On {W : World} {vs : List V} {vals : Array Value}
 (hr : ∀ (j : Nat) (x : V) (v : Value), vs[j]? = some x → vals[j]? = some v → Al (old W) W As x v none_) (hn : vals.size = vs.length) : Ac (ctx W) (old W) W As (fun _ => none_) (Gp vs []) vals where
 tm t := by
  show Al (old W) W As (vs.getD t .undef) _ none_
  by_cases h : t < vs.length
  · have e1 : vs.getD t .undef = vs[t] := by simp [List.getD, List.getElem?_eq_getElem h]
    have e2 : vals.getD t Go.undef = vals[t]'(by omega) := by simp [Array.getD, show t < vals.size by omega]
    rw [e1, e2]
    exact hr t _ _ (List.getElem?_eq_getElem h) (Array.getElem?_eq_getElem (by omega))
  · have e1 : vs.getD t .undef = .undef := by simp [List.getD, List.getElem?_eq_none (show vs.length ≤ t by omega)]
    rw [e1]
    trivial
 nm id := by cases id <;> simp [Gp, As]
 bl id x r h := by cases id <;> simp [Gp] at h
 off _ _ _ := AF.BR _
 DL _ := AF.BR _
 new _ := AF.Aa _
 lt _ _ _ h := h.elim
 pn _ := rfl
theorem M4 {W w' : World} {F' : AF} (h : Mem (ctx W) w' F') : Below W.heap.size W w' where
 os := h.ext.os
 tape := h.ext.tape
 output := h.ext.output
 size := h.ext.size
 block k hk := by
  obtain ⟨o', h1, h2⟩ := h.ext.shape k _ (Array.getElem?_eq_getElem hk)
  have hkeep : ∀ o, w'.cell? ⟨k, o, none⟩ = W.cell? ⟨k, o, none⟩ := fun o => h.BD k o fun hn => by
   rcases hn with hn | hn
   · have hn : W.heap.size ≤ k := hn
     omega
   · exact hn
  rw [h1, Array.getElem?_eq_getElem hk]
  cases ho : W.heap[k] with
  | cells c e f =>
    rw [ho] at h2
    cases o' <;> simp [alike] at h2
    rename_i c' e' f'
    obtain ⟨h3, rfl, rfl⟩ := h2
    have : c' = c := by
     apply Array.ext h3
     intro i hi hi'
     have := hkeep i
     have hg : W.heap[k]? = some (.cells c e' f') := by rw [Array.getElem?_eq_getElem hk, ho]
     simp only [World.cell?, h1, hg, Option.isSome_none, Bool.false_eq_true, if_false, Array.getElem?_eq_getElem hi, Array.getElem?_eq_getElem hi', Option.some.injEq] at this
     exact this
    rw [this]
  | _ => rw [ho] at h2; simp only [alike] at h2; rw [h2]
theorem PR {P : Program} {f : FuncId} {vs : List V} {b : Bool} (h : OK P f vs [] (.bool b) []) {W : World} {vals : Array Value}
 (hr : ∀ (j : Nat) (x : V) (v : Value), vs[j]? = some x → vals[j]? = some v → Al (old W) W As x v none_) (hn : vals.size = vs.length) :
 Calls P f vals W fun e w' => e = .returned (.bool b) ∧ Below W.heap.size W w' := by
 refine (h.2 (ctx W) As (fun _ => none_) vals hn (Tb W) (On hr hn)).mono fun e w' hh => ?_
 cases e with
 | returned v =>
   obtain ⟨F', ρ', fam', h1, h2⟩ := hh
   have := h2.tm 0
   have hv : Al F' w' ρ' (.bool b) v (fam' (.t 0)) := this
   exact ⟨by rw [DX hv], M4 h1⟩
 | _ => exact hh.elim
section
variable {H : Type} {enc : TypeId × Value → H} {P : Program}
theorem QV {f : Func} {s : ChangeSpec} {fresh handsOn : Bool} {W W' : World} {args : Array Value} {ds : List (DataW H)} {ps : List MemPlace} {tb : TypeId}
 (hl : laidOutB P = true) (hm : mapsRowed P = true) (hz : ∀ t e, t < P.types.size → P.underlying t = some (.slice e) → 0 < P.cellsOf e)
 (hp : ∀ t ∈ f.params.toList, t < P.types.size) (hvars : s.vars = []) (hr : f.resultTypes = #[tb]) (htb : P.underlying tb = some .bool)
 (hfn : s.fn H (ds ++ []) = { results := [.lit (.bool true)], args := ds })
 (hW : DataW.Whole enc P f.params.toList s.vars false W args.toList ds [] ps) (hA : DataW.TrodAll enc P W 0 (fun _ => true) true f.params.toList args.toList ds ps)
 (hB : Below W.heap.size W W') : s.post enc P f false fresh handsOn false W args (.bool true) W' := by
 have hlt : ∀ p ∈ ps, p.block < W.heap.size := fun p h => hW.lt p h
 refine ⟨ds, [], ps, [], ps, [], hW, ?_, ?_, ?_, hB.frame _, nofun⟩
 · rw [hfn, hr]
   exact trodAll_mk1 (shut_bool htb true)
 · rw [hfn]
   have h1 : DataW.TrodAll enc P W' 0 (fun _ => true) true f.params.toList args.toList ds ps := by
    have key : ∀ {ts : List TypeId} {vs : List Value} {ds : List (DataW H)} {ps : List MemPlace}, (∀ p ∈ ps, p.block < W.heap.size) → DataW.TrodAll enc P W 0 (fun _ => true) true ts vs ds ps → DataW.TrodAll enc P W' 0 (fun _ => true) true ts vs ds ps := by
     intro ts
     induction ts with
     | nil =>
       intro vs ds ps _ h
       obtain ⟨rfl, rfl, rfl⟩ := trodAll_nil h
       exact trodAll_mk0
     | cons t ts ih =>
       intro vs ds ps hlt h
       obtain ⟨v, vs', d, ds', p, q, rfl, rfl, rfl, ⟨n, hn⟩, h2⟩ := trodAll_cons h
       exact ⟨p, q, ⟨n, DataW.trod_carry n _ _ _ hn fun p hp => hB.same (hlt p (List.mem_append_left _ hp))⟩, ih (fun p hp => hlt p (List.mem_append_right _ hp)) h2, rfl⟩
    exact key hlt hA
   exact h1.respare (kids_rows hl hm) hz hp fun p hp => by simpa using hlt p hp
 · rw [hfn, hvars]
   rfl
end
end Go.Vm
end
section
namespace Go.Vm
open Go Go.RowKit
theorem Qh {Γ : Ctx} {w' : World} (hm : Mem Γ Γ.w Γ.F) (hB : Below Γ.w.heap.size Γ.w w') : Mem Γ w' Γ.F where
 ext := ⟨hB.os, hB.tape, hB.output, hB.size, fun g o h => by
  have hg : g < Γ.w.heap.size := (Array.getElem?_eq_some_iff.1 h).1
  exact ⟨o, (hB.block g hg).trans h, alike.refl o⟩⟩
 sub := AF.Sub.refl _
 fresh _ _ h := .inl h
 BD g o h := by
  have hg : g < Γ.w.heap.size := Nat.lt_of_not_le fun k => h (.inl k)
  simp only [World.cell?, hB.block g hg]
 live g o h := Nat.lt_of_lt_of_le (hm.live g o h) hB.size
theorem OK.R1 {P : Program} {f : FuncId} {vs : List V} {res : V}
 (h : ∀ (F : AF) (w : World) (vals : Array Value), vals.size = vs.length → (∀ g o, F g o → g < w.heap.size) →
   (∀ t, ∃ fp, Al F w As (vs.getD t .undef) (vals.getD t Go.undef) fp) →
   Calls P f vals w fun e w' => ∃ v, e = .returned v ∧ Al F w' As res v none_ ∧ Below w.heap.size w w') : OK P f vs [] res [] := by
 refine ⟨rfl, fun Γ ρ fam vals hv hm hs => ?_⟩
 obtain rfl : ρ = As := funext fun id => (hs.nm id).1 (by cases id <;> rfl)
 refine (h Γ.F Γ.w vals hv hm.live fun t => ⟨_, hs.tm t⟩).mono ?_
 rintro e w' ⟨v, rfl, hr, hB⟩
 refine ⟨Γ.F, As, fun _ => none_, Qh hm hB, ⟨fun t => ?_, fun id => by cases id <;> simp [Gp, As], fun id x r h => by cases id <;> simp [Gp] at h, fun _ _ _ => AF.BR _, fun _ => AF.BR _, fun _ => AF.Aa _, fun _ _ _ h => h.elim, hs.pn⟩⟩
 cases t with
 | zero => exact hr
 | succ t =>
   show Al Γ.F w' As .undef _ _
   trivial
end Go.Vm
end
section
namespace Go.Vm
open Go Go.Proofs Go.Shelf Go.RowKit
def Nw (l : List ByteArray) (sep : ByteArray) : ByteArray := ⟨(Lib.join (l.map (·.data.toList)) sep.data.toList).toArray⟩
theorem TR {P : Program} {ρ : Ren} (L : Lays.n156 P ρ) (X : Builder.Extra P ρ) (l : Sl ByteArray) (sep : ByteArray) (hN : l.n ≤ 140737488355328)
 (hlen : (Lib.join (l.L.map (·.data.toList)) sep.data.toList).length ≤ 140737488355328) : OK P (ρ.f 156) [LA none 1 V.str l, .str sep] [] (.str (Nw l.L sep)) [] := by
 refine OK.R1 fun F w vals hv hF hr => ?_
 obtain ⟨f0, r0⟩ := hr 0
 obtain ⟨f1, r1⟩ := hr 1
 obtain ⟨vs⟩ := vals
 match vs, hv with
 | [v0, v1], _ =>
   obtain rfl : v1 = .string sep := FM r1
   obtain ⟨A, c, e0, h1, h2, h3, h4⟩ := Ha (show Al F w As (.sl none 1 l.nil l.n fun i => V.str (l.get i)) v0 f0 from r0)
   subst e0
   have fin : ∀ {Q : Ending → World → Prop}, Calls P (ρ.f 156) #[.slice A l.n c, .string sep] w Q → (∀ e w', Q e w' → e = .returned (.string (Nw l.L sep)) ∧ Below w.heap.size w w') →
    Calls P (ρ.f 156) #[.slice A l.n c, .string sep] w fun e w' => ∃ v, e = .returned v ∧ Al F w' As (.str (Nw l.L sep)) v none_ ∧ Below w.heap.size w w' := fun h k =>
    h.mono fun e w' q => ⟨_, (k e w' q).1, Gz _, (k e w' q).2⟩
   by_cases hn : l.n = 0
   · have hL : l.L = [] := by simp [Sl.L, hn]
     rw [hn] at fin ⊢
     refine fin (Any.strings_Join_none L X A c sep w) fun e w' ⟨he, hw⟩ => ⟨?_, hw ▸ Below.refl _ _⟩
     rw [he, hL]; rfl
   · have hnil : l.nil = false := by
      cases q : l.nil
      · rfl
      · exact absurd (h3 q).2.1 hn
     obtain ⟨g, o, q, rfl, hq, _, hel⟩ := h4 hnil
     obtain rfl : q = none := hq.resolve_right (by omega)
     have hlen2 : l.L.length = l.n := Sl.A8 l
     rw [← hlen2] at h1 fin ⊢
     refine fin (Any.strings_Join L X g o c l.L sep w (fun j x hx => ?_) ?_ (by omega) h1 hlen) fun e w' q => q
     · rw [Sl.DH?] at hx
       split at hx <;> cases hx
       rename_i hj
       obtain ⟨xs, e1, e2, e3, _⟩ := hel j hj
       simp only [AK] at e2
       subst e2
       have := e3 0 _ rfl
       simpa using this
     · obtain ⟨xs, _, _, _, e4⟩ := hel 0 (by omega)
       exact hF _ _ (e4 0 (by omega))
def PC (x : Sl ByteArray × ByteArray) : Bool := Nat.ble x.1.n 1000000 && Nat.ble (Lib.join (x.1.L.map (·.data.toList)) x.2.data.toList).length 140737488355328
def UX {P : Program} {ρ : Ren} (L : Lays.n156 P ρ) (X : Builder.Extra P ρ) (f : FuncId) (hρ : ρ.f 156 = f) (fn : Func) (hf : P.funcs[f]? = some fn) (hb : fn.body.isSome = true) (hn : (fn.name == "runtime.NumGoroutine") = false)
    (dec : List V → List V → Sl ByteArray × ByteArray) (ash : List Sh) : A3 P where
 f := f
 fn := fn
 hf := hf
 hb := hb
 hn := hn
 X := Sl ByteArray × ByteArray
 Y := ByteArray
 args x := [LA none 1 V.str x.1, .str x.2]
 HV _ := []
 res y := .str y
 outs _ _ := []
 rel x y := PC x = true ∧ Nw x.1.L x.2 = y
 ev _ x := cond (PC x) (some (Nw x.1.L x.2)) none
 GZ _ x y h := by
  obtain ⟨h1, h2⟩ := AL h
  exact ⟨h1, Option.some.inj h2⟩
 dec := dec
 ash := ash
 osh := []
 ok x y h := by
  obtain ⟨h, rfl⟩ := h
  simp only [PC, Bool.and_eq_true, Nat.ble_eq] at h
  subst hρ
  exact TR L X x.1 x.2 (by omega) h.2
 pure := false
 Jt h := by cases h
 Hu h := by cases h
end Go.Vm
end
end
