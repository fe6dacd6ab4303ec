/- Of what a fabric is, plainly: no statement is proved here. -/
import Derived.Test.YtiamaibincaihaaGreatVmC
namespace Go.Proofs.YtiamaibincaihaaGreat
open Go Go.Vm
section
structure TIn where
 Op : Int
 A : Int
 B : Int
 C : Int
 D : Int
 K : Int
structure TRg where
 Kind : Int
 DE : Int
 AR : Int
structure TEv where
 Thread : Int
 Kind : Int
 Ring : Int
 AG : Int
 Value : Int
structure TSo where
 AP : Int
 Value : Int
 Left : Int
end
section
structure MT where
 At : Int
 Phase : Int
 Ring : Int
 Status : Int
 AG : Int
 Ae : Nat → Int
 Seen : List Int
structure MR where
 Ax : Int
 AV : List Int
 Ao : Bool
 Ai : List TSo
structure MS where
 AB : List MT
 AF : List MR
 FQ : Int
 Reads : Int
 Ba : Bool
structure MP where
 AF : List TRg
 AB : List (List TIn)
structure MA where
 Kind : Int
 Ring : Int
 Mode : Int
 Reader : Int
 AG : Int
 Value : Int
def zI : TIn := ⟨0, 0, 0, 0, 0, 0⟩
def zS : TSo := ⟨0, 0, 0⟩
def zA : MA := ⟨0, 0, 0, 0, 0, 0⟩
def zT : MT := ⟨0, 0, 0, 0, 0, fun _ => 0, []⟩
def zR : MR := ⟨0, [], false, []⟩
def gI (l : List TIn) (n : Int) : TIn := l.getD n.toNat zI
def D6 (g : Nat → Int) (i v : Int) : Nat → Int := fun k => if k = i.toNat then v else g k
def J7 (op a b : Int) : Int :=
 if op = 3 then IntKind.u64.wrap (a + b)
 else if op = 4 then IntKind.u64.wrap (a - b)
 else if op = 5 then IntKind.u64.wrap (a * b)
 else if op = 6 then (if b = 0 then 0 else a / b)
 else if op = 7 then (if b = 0 then 0 else a % b)
 else if op = 8 then ((a.toNat &&& b.toNat : Nat) : Int)
 else if op = 9 then ((a.toNat ||| b.toNat : Nat) : Int)
 else if op = 10 then ((a.toNat ^^^ b.toNat : Nat) : Int)
 else if op = 11 then IntKind.u64.wrap (a * 2 ^ (b % 64).toNat)
 else if op = 12 then a / 2 ^ (b % 64).toNat
 else if op = 13 then (if a < b then 1 else 0)
 else (if a = b then 1 else 0)
def EA (i : TIn) (t : MT) : MT :=
 if i.Op = 1 then { t with At := t.At + 1, Ae := D6 t.Ae i.A i.K }
 else if i.Op = 2 then { t with At := t.At + 1, Ae := D6 t.Ae i.A (t.Ae i.B.toNat) }
 else if i.Op = 15 ∨ (i.Op = 16 ∧ t.Ae i.A.toNat = 0) ∨ (i.Op = 17 ∧ t.Ae i.A.toNat ≠ 0) then { t with At := i.K }
 else if i.Op < 15 then { t with At := t.At + 1, Ae := D6 t.Ae i.A (J7 i.Op (t.Ae i.B.toNat) (t.Ae i.C.toNat)) }
 else { t with At := t.At + 1 }
def EG (l : List TIn) : Nat → MT → MT
 | 0, t => t
 | n + 1, t => if t.At < l.length ∧ (gI l t.At).Op ≤ 17 then EG l n (EA (gI l t.At) t) else t
def E3 (l : List TIn) (t : MT) : MA :=
 let i := gI l t.At
 if t.At = l.length then { zA with Kind := 8 }
 else if i.Op ≤ 17 then { zA with Kind := 9 }
 else if i.Op = 18 then ⟨1, i.C, i.D, 0, 0, t.Ae i.A.toNat⟩
 else if i.Op = 19 then ⟨2, i.C, i.D, i.K, 0, 0⟩
 else if i.Op = 20 then ⟨3, i.C, 0, 0, 0, 0⟩
 else if i.Op = 21 then { zA with Kind := 4 }
 else if i.Op = 22 then { zA with Kind := 5 }
 else if i.Op = 23 then { zA with Kind := 6 }
 else if i.Op = 24 then { zA with Kind := 7, Value := t.Ae i.A.toNat }
 else { zA with Kind := 8 }
def CH (l : List TIn) (t : MT) : MT × MA :=
 if t.Status ≠ 0 then (t, zA)
 else if t.Phase = 1 then (t, ⟨10, t.Ring, 0, 0, t.AG, t.Ae (gI l t.At).A.toNat⟩)
 else if t.Phase = 2 then (t, ⟨11, t.Ring, 0, (gI l t.At).K, t.AG, 0⟩)
 else (EG l 256 t, E3 l (EG l 256 t))
def Az (k : Int) : Bool := decide (1 ≤ k ∧ k ≤ 4 ∨ k = 13)
def CT (k : Int) : Bool := decide (1 ≤ k ∧ k ≤ 7 ∨ k = 13)
def C2 (k : Int) : Bool := decide (8 ≤ k ∧ k ≤ 10 ∨ k = 12)
def Bk (e : TEv) : Bool :=
 decide ((1 ≤ e.Kind ∧ e.Kind ≤ 15) ∧ (0 ≤ e.Thread ∧ e.Thread ≤ 7) ∧ (0 ≤ e.Ring ∧ e.Ring ≤ 7) ∧ e.AG < 4611686018427387904 ∧
  (CT e.Kind = true ∨ e.Ring = 0) ∧ (Az e.Kind = true ∨ e.AG = 0) ∧ (C2 e.Kind = true ∨ e.Value = 0))
def El (k : Int) : Int :=
 if k = 1 then 1 else if k = 2 then 10 else if k = 3 then 2 else if k = 4 then 11 else if k = 8 then 4 else if k = 9 then 5 else if k = 10 then 6 else if k = 11 then 6
 else if k = 12 then 7 else if k = 13 then 3 else if k = 14 then 8 else 9
def Cj (a : MA) (e : TEv) : Bool :=
 (!CT e.Kind || decide (a.Ring = e.Ring)) &&
 (if e.Kind = 5 then decide ((a.Kind = 1 ∨ a.Kind = 2) ∧ a.Mode = 0)
  else if e.Kind = 6 then decide (a.Kind = 1 ∨ a.Kind = 2)
  else if e.Kind = 7 then decide ((a.Kind = 1 ∨ a.Kind = 2) ∧ a.Mode = 2)
  else if e.Kind = 2 ∨ e.Kind = 4 then decide (a.Kind = El e.Kind ∧ a.AG = e.AG)
  else if e.Kind = 12 then decide (a.Kind = 7 ∧ a.Value = e.Value)
  else decide (a.Kind = El e.Kind))
def BR (i : TIn) (t : MT) (e : TEv) (v : Int) : MT :=
 if e.Kind = 1 then { t with Phase := 1, Ring := e.Ring, AG := e.AG }
 else if e.Kind = 3 then { t with Phase := 2, Ring := e.Ring, AG := e.AG }
 else if e.Kind = 14 then { t with Status := 1 }
 else if e.Kind = 15 then { t with Status := 2 }
 else
  let g :=
   if e.Kind = 2 then D6 t.Ae i.B 0
   else if e.Kind = 4 then D6 (D6 t.Ae i.A v) i.B 0
   else if e.Kind = 5 then D6 t.Ae i.B 1
   else if e.Kind = 6 then D6 t.Ae i.B 2
   else if e.Kind = 7 then D6 t.Ae i.B 3
   else if e.Kind = 8 then D6 t.Ae i.A e.Value
   else if e.Kind = 9 then D6 t.Ae i.A e.Value
   else if e.Kind = 10 then D6 (D6 t.Ae i.A e.Value) i.B 0
   else if e.Kind = 11 then D6 t.Ae i.B 1
   else t.Ae
  { t with Ae := g, Seen := if e.Kind = 12 then t.Seen ++ [e.Value] else t.Seen, Phase := 0, Ring := 0, AG := 0, At := t.At + 1 }
def hd (r : MR) (j : Int) : Int := r.AV.getD j.toNat 0
def IA (r : MR) : Int := r.Ai.length
def Ed (r : MR) : Bool := r.AV.any fun h => decide (IA r ≤ r.Ax - h)
def EB (r : MR) (j : Int) : Bool := decide (hd r j = r.Ax)
def G3 (r : MR) (t : Int) : Nat := (t % IA r).toNat
def A1 (r : MR) (t : Int) : TSo := r.Ai.getD (G3 r t) zS
def Df (x : Int) (j : Int) : Bool := decide (x / 2 ^ j.toNat % 2 = 1)
def HJ (r : MR) (t : Int) : Bool := decide (t < r.Ax ∧ (A1 r t).AP = 2 * t)
def K7 (r : MR) (j t : Int) : Bool := decide (t < hd r j ∧ (A1 r t).AP = 2 * t + 1 ∧ Df (A1 r t).Left j = true)
def DP (r : MR) (a : MA) (e : TEv) : Bool :=
 if e.Kind = 1 then !Ed r && decide (e.AG = r.Ax)
 else if e.Kind = 2 then HJ r e.AG
 else if e.Kind = 3 then !EB r a.Reader && decide (e.AG = hd r a.Reader)
 else if e.Kind = 4 then K7 r a.Reader e.AG
 else decide (e.AG = r.Ax)
def Ob (r : MR) (t v : Int) : MR := { r with Ai := r.Ai.set (G3 r t) ⟨2 * t + 1, v, 2 ^ r.AV.length - 1⟩ }
def FX (r : MR) (j : Int) : MR := { r with AV := r.AV.set j.toNat (hd r j + 1) }
def K8 (x : TSo) (j t c : Int) : TSo := if x.Left - 2 ^ j.toNat = 0 then ⟨2 * (t + c), 0, 0⟩ else { x with Left := x.Left - 2 ^ j.toNat }
def RF (r : MR) (j t : Int) : MR := { r with Ai := r.Ai.set (G3 r t) (K8 (A1 r t) j t (IA r)) }
def CB (r : MR) (a : MA) (e : TEv) : MR :=
 if e.Kind = 1 then { r with Ax := r.Ax + 1 }
 else if e.Kind = 2 then Ob r e.AG a.Value
 else if e.Kind = 3 then FX r a.Reader
 else if e.Kind = 4 then RF r a.Reader e.AG
 else if e.Kind = 13 then { r with Ao := true }
 else r
def Mx (s : MS) (t : Int) : MT := s.AB.getD t.toNat zT
def CO (s : MS) (i : Int) : MR := s.AF.getD i.toNat zR
def CD (p : MP) (t : Int) : List TIn := p.AB.getD t.toNat []
def Aq (p : MP) (s : MS) (t : Int) : MA := (CH (CD p t) (Mx s t)).2
def EP (p : MP) (s : MS) (e : TEv) : Int :=
 if Bk e = false then 3
 else if (s.AB.length : Int) ≤ e.Thread then 5
 else if (Aq p s e.Thread).Kind = 0 ∨ Cj (Aq p s e.Thread) e = false then 11
 else 0
def Ca (r : MR) (a : MA) : Bool := if a.Kind = 1 then r.Ao || Ed r else EB r a.Reader
def JR (s : MS) (a : MA) (e : TEv) : Bool :=
 let r := CO s e.Ring
 if e.Kind = 5 ∨ e.Kind = 7 then Ca r a && !r.Ao
 else if e.Kind = 6 then Ca r a && r.Ao
 else if e.Kind = 8 then decide (s.FQ ≤ e.Value ∧ e.Value - s.FQ < 1048576)
 else if e.Kind = 10 then !s.Ba
 else if e.Kind = 1 then DP r a e && !r.Ao
 else !Az e.Kind || DP r a e
def Cb (p : MP) (s : MS) (e : TEv) : Bool := decide (EP p s e = 0) && JR s (Aq p s e.Thread) e
def As (p : MP) (s : MS) (e : TEv) : MS :=
 let n := CH (CD p e.Thread) (Mx s e.Thread)
 let r := CO s e.Ring
 let v := if e.Kind = 4 then (A1 r e.AG).Value else 0
 { AB := s.AB.set e.Thread.toNat (BR (gI (CD p e.Thread) n.1.At) n.1 e v)
   AF := if Az e.Kind = true then s.AF.set e.Ring.toNat (CB r n.2 e) else s.AF
   FQ := if e.Kind = 8 then max s.FQ e.Value else s.FQ
   Reads := if e.Kind = 10 then IntKind.u64.wrap (s.Reads + 1) else s.Reads
   Ba := if e.Kind = 11 then true else s.Ba }
def T3 (p : MP) (s : MS) (e : TEv) : Int × MS :=
 if EP p s e ≠ 0 then (EP p s e, s) else if Cb p s e = false then (11, s) else (0, As p s e)
def Gz (c : TRg) : MR := ⟨0, List.replicate c.AR.toNat 0, false, (List.range c.DE.toNat).map fun i : Nat => (⟨2 * (i : Int), 0, 0⟩ : TSo)⟩
def Gk (p : MP) : MS := ⟨p.AB.map fun _ => zT, p.AF.map Gz, 0, 0, false⟩
def Bz (i : TIn) : Bool :=
 let r := fun (x : Int) (m : Int) => decide (0 ≤ x ∧ x ≤ m)
 if i.Op = 1 then r i.A 7 && r i.B 0 && r i.C 0 && r i.D 0
 else if i.Op = 2 ∨ i.Op = 23 then r i.A 7 && r i.B 7 && r i.C 0 && r i.D 0 && r i.K 0
 else if 3 ≤ i.Op ∧ i.Op ≤ 14 then r i.A 7 && r i.B 7 && r i.C 7 && r i.D 0 && r i.K 0
 else if i.Op = 15 then r i.A 0 && r i.B 0 && r i.C 0 && r i.D 0 && r i.K 256
 else if i.Op = 16 ∨ i.Op = 17 then r i.A 7 && r i.B 0 && r i.C 0 && r i.D 0 && r i.K 256
 else if i.Op = 18 then r i.A 7 && r i.B 7 && r i.C 7 && r i.D 2 && r i.K 0
 else if i.Op = 19 then r i.A 7 && r i.B 7 && r i.C 7 && r i.D 2 && r i.K 7
 else if i.Op = 20 then r i.A 0 && r i.B 0 && r i.C 7 && r i.D 0 && r i.K 0
 else if i.Op = 21 ∨ i.Op = 22 ∨ i.Op = 24 then r i.A 7 && r i.B 0 && r i.C 0 && r i.D 0 && r i.K 0
 else if i.Op = 25 then r i.A 0 && r i.B 0 && r i.C 0 && r i.D 0 && r i.K 0
 else false
def A8 (c : TRg) : Bool := decide (1 ≤ c.DE ∧ c.DE ≤ 64 ∧ (c.Kind = 1 ∧ c.AR = 1 ∨ c.Kind = 2 ∧ 1 ≤ c.AR ∧ c.AR ≤ 8))
def DZ (rs : List TRg) (i : TIn) (n : Int) : Int :=
 if Bz i = false then 6
 else if 15 ≤ i.Op ∧ i.Op ≤ 17 ∧ n < i.K then 5
 else if 18 ≤ i.Op ∧ i.Op ≤ 20 ∧ (rs.length : Int) ≤ i.C then 7
 else if i.Op = 19 ∧ (rs.getD i.C.toNat ⟨0, 0, 0⟩).AR ≤ i.K then 7
 else 0
structure FL (p : MP) : Prop where
 t1 : 1 ≤ p.AB.length
 t8 : p.AB.length ≤ 8
 r8 : p.AF.length ≤ 8
 rg : ∀ c ∈ p.AF, A8 c = true
 len : ∀ l ∈ p.AB, l.length ≤ 256
 ins : ∀ l ∈ p.AB, ∀ i ∈ l, DZ p.AF i l.length = 0
structure Mm (c : Int) (nr : Nat) (tail : Int) (AD : List Int) (i : Nat) (x : TSo) : Prop where
 s0 : 0 ≤ x.AP
 s1 : x.AP < 9223372036854775808
 VE : x.AP / 2 % c = i
 free : x.AP % 2 = 0 → x.Value = 0 ∧ x.Left = 0
 held : x.AP % 2 = 1 → 1 ≤ x.Left ∧ x.Left < 2 ^ nr
 QS : x.AP % 2 = 1 → x.AP / 2 < tail
 UB : x.AP % 2 = 1 → ∀ (j : Nat) (h : Int), AD[j]? = some h → Df x.Left (j : Int) = false → x.AP / 2 < h
 S0 : x.AP % 2 = 0 → c ≤ x.AP / 2 → ∀ h ∈ AD, x.AP / 2 - c < h
structure Db (c : TRg) (b : Int) (r : MR) : Prop where
 cap : (r.Ai.length : Int) = c.DE
 rd : (r.AV.length : Int) = c.AR
 t0 : 0 ≤ r.Ax
 tb : r.Ax < b
 h0 : ∀ h ∈ r.AV, 0 ≤ h ∧ h ≤ r.Ax ∧ r.Ax - h ≤ c.DE
 sl : ∀ (i : Nat) x, r.Ai[i]? = some x → Mm c.DE r.AV.length r.Ax r.AV i x
structure Fh (l : List TIn) (t : MT) : Prop where
 a0 : 0 ≤ t.At
 a1 : t.At ≤ l.length
 st : 0 ≤ t.Status ∧ t.Status ≤ 2
 ph : 0 ≤ t.Phase ∧ t.Phase ≤ 2
 p0 : t.Phase = 0 → t.Ring = 0 ∧ t.AG = 0
 p1 : t.Phase ≠ 0 → t.Status = 0 ∧ t.At < l.length ∧ (gI l t.At).Op = 17 + t.Phase ∧ (gI l t.At).C = t.Ring ∧ 0 ≤ t.AG ∧ t.AG < 4611686018427387904
structure Ec (p : MP) (b : Int) (s : MS) : Prop where
 pi : FL p
 nt : s.AB.length = p.AB.length
 nr : s.AF.length = p.AF.length
 n0 : 0 ≤ s.FQ
 ri : ∀ (i : Nat) c r, p.AF[i]? = some c → s.AF[i]? = some r → Db c b r
 ti : ∀ (i : Nat) l t, p.AB[i]? = some l → s.AB[i]? = some t → Fh l t
 p1 : ∀ (i : Nat) t, s.AB[i]? = some t → t.Phase = 1 → t.AG < (CO s t.Ring).Ax
 p2 : ∀ (i : Nat) l t, p.AB[i]? = some l → s.AB[i]? = some t → t.Phase = 2 → t.AG < hd (CO s t.Ring) (gI l t.At).K
end
section
theorem GK (n : Nat) : 0 < (2 : Int) ^ n := Int.pow_pos (by decide)
theorem ER {α : Type} {l : List α} {i : Nat} {d : α} (h : i < l.length) : l[i]? = some (l.getD i d) := by simp [List.getD, List.getElem?_eq_getElem h]
theorem F6 {α : Type} {l : List α} {i : Nat} {x d : α} (h : i < l.length) : (l.set i x).getD i d = x := by simp [List.getD, h]
theorem getD_set_ne {α : Type} {l : List α} {i j : Nat} {x d : α} (h : i ≠ j) : (l.set i x).getD j d = l.getD j d := by simp [List.getD, List.getElem?_set_ne h]
section
variable {c : TRg} {b b' : Int} {r : MR}
theorem Fw (h : A8 c = true) : 1 ≤ c.DE ∧ c.DE ≤ 64 ∧ 1 ≤ c.AR ∧ c.AR ≤ 8 := by
 simp only [A8, decide_eq_true_eq] at h; omega
theorem Db.mono (h : Db c b r) (k : b ≤ b') : Db c b' r := { h with tb := by have := h.tb; omega }
theorem Mm.mono {cp : Int} {nr : Nat} {tail tail' : Int} {AD heads' : List Int} {i : Nat} {x : TSo} (h : Mm cp nr tail AD i x) (ht : tail ≤ tail')
 (hh : ∀ (j : Nat) (y : Int), heads'[j]? = some y → ∃ z : Int, AD[j]? = some z ∧ z ≤ y) : Mm cp nr tail' heads' i x where
 s0 := h.s0
 s1 := h.s1
 VE := h.VE
 free := h.free
 held := h.held
 QS k := by have := h.QS k; omega
 UB k j y hy hb := by
  obtain ⟨z, h1, h2⟩ := hh j y hy
  have := h.UB k j z h1 hb
  omega
 S0 k k2 y hy := by
  obtain ⟨j, hj⟩ := List.getElem?_of_mem hy
  obtain ⟨z, h1, h2⟩ := hh j y hj
  have := h.S0 k k2 z (List.mem_of_getElem? h1)
  omega
theorem Oc (h : Ed r = false) : ∀ x ∈ r.AV, r.Ax - x < IA r := by
 intro x hx
 simp only [Ed, List.any_eq_false, decide_eq_true_eq] at h
 have := h x hx
 omega
theorem Db.UY (h : Db c b r) (hf : Ed r = false) : Db c (b + 1) { r with Ax := r.Ax + 1 } where
 cap := h.cap
 rd := h.rd
 t0 := by have := h.t0; show 0 ≤ r.Ax + 1; omega
 tb := by have := h.tb; show r.Ax + 1 < b + 1; omega
 h0 x hx := by
  have h1 := h.h0 x hx
  have h2 := Oc hf x hx
  have h3 := h.cap
  unfold IA at h2
  show 0 ≤ x ∧ x ≤ r.Ax + 1 ∧ r.Ax + 1 - x ≤ c.DE
  omega
 sl i x hx := (h.sl i x hx).mono (by show r.Ax ≤ r.Ax + 1; omega) fun j y hy => ⟨y, hy, Int.le_refl _⟩
theorem Kt (h : Db c b r) (hc : A8 c = true) (t : Int) : G3 r t < r.Ai.length := by
 have h1 := h.cap
 have h2 := Fw hc
 unfold G3 IA
 have h3 := Int.emod_nonneg t (b := (r.Ai.length : Int)) (by omega)
 have h4 := Int.emod_lt_of_pos t (b := (r.Ai.length : Int)) (by omega)
 omega
theorem JC (h : Db c b r) (hc : A8 c = true) (t : Int) : r.Ai[G3 r t]? = some (A1 r t) := ER (Kt h hc t)
theorem SJ (h : Db c b r) (hc : A8 c = true) (t : Int) : t % c.DE = (G3 r t : Int) := by
 have h1 := h.cap
 have h2 := Fw hc
 unfold G3 IA
 rw [h1]
 have h3 := Int.emod_nonneg t (b := c.DE) (by omega)
 omega
theorem Fp {α : Type} {l : List α} {k i : Nat} {x y : α} (h : (l.set k x)[i]? = some y) (hk : k < l.length) : (i = k ∧ y = x) ∨ (i ≠ k ∧ l[i]? = some y) := by
 by_cases e : k = i
 · subst e
   rw [List.getElem?_set_self hk] at h
   exact .inl ⟨rfl, (Option.some.inj h).symm⟩
 · rw [List.getElem?_set_ne e] at h
   exact .inr ⟨fun k => e k.symm, h⟩
theorem TC {n j : Nat} (h : j < n) : Df (2 ^ n - 1) (j : Int) = true := by
 simp only [Df, decide_eq_true_eq, Int.toNat_natCast]
 obtain ⟨d, rfl⟩ : ∃ d, n = j + (d + 1) := ⟨n - j - 1, by omega⟩
 have h1 : (2 : Int) ^ (j + (d + 1)) - 1 = (2 ^ (d + 1) - 1) * 2 ^ j + (2 ^ j - 1) := by
  rw [Int.pow_add, Int.sub_mul, Int.mul_comm (2 ^ j)]; omega
 have h2 := GK j
 rw [h1, Int.add_comm, Int.add_mul_ediv_right _ _ (by omega), Int.ediv_eq_zero_of_lt (by omega) (by omega)]
 have h3 : (2 : Int) ^ (d + 1) = 2 * 2 ^ d := by rw [Int.pow_succ, Int.mul_comm]
 omega
theorem Db.put (h : Db c b r) (hc : A8 c = true) {t v : Int} (hf : HJ r t = true) (t0 : 0 ≤ t) (hb : b ≤ 4611686018427387904) : Db c b (Ob r t v) where
 cap := by have := h.cap; simpa [Ob] using this
 rd := h.rd
 t0 := h.t0
 tb := h.tb
 h0 := h.h0
 sl i x hx := by
  simp only [HJ, decide_eq_true_eq] at hf
  rcases Fp hx (Kt h hc t) with ⟨rfl, rfl⟩ | ⟨_, hx⟩
  · have ht : t < r.Ax := hf.1
    have hlt := h.tb
    have hd : (2 * t + 1) / 2 = t := by omega
    have hm : (2 * t + 1) % 2 = 1 := by omega
    have hp := GK r.AV.length
    have hrd := h.rd
    have hr := (Fw hc).2.2
    refine ⟨by show 0 ≤ 2 * t + 1; omega, by show 2 * t + 1 < _; omega, by show (2 * t + 1) / 2 % c.DE = _; rw [hd]; exact SJ h hc t, fun k => by exfalso; change (2 * t + 1) % 2 = 0 at k; omega, fun _ => ?_, fun _ => by show (2 * t + 1) / 2 < r.Ax; omega,
     fun _ j y hy hb => ?_, fun k => by exfalso; change (2 * t + 1) % 2 = 0 at k; omega⟩
    · show 1 ≤ (2 : Int) ^ r.AV.length - 1 ∧ (2 : Int) ^ r.AV.length - 1 < 2 ^ r.AV.length
      obtain ⟨d, hd⟩ : ∃ d, r.AV.length = d + 1 := ⟨r.AV.length - 1, by omega⟩
      rw [hd, Int.pow_succ]
      have := GK d
      omega
    · have hj : j < r.AV.length := (List.getElem?_eq_some_iff.1 hy).1
      have := TC hj
      change Df (2 ^ r.AV.length - 1) (j : Int) = false at hb
      rw [this] at hb
      cases hb
  · exact h.sl i x hx
theorem Db.take (h : Db c b r) {j : Int} (hj : (j.toNat) < r.AV.length) (he : EB r j = false) : Db c b (FX r j) where
 cap := h.cap
 rd := by have := h.rd; simpa [FX] using this
 t0 := h.t0
 tb := h.tb
 h0 x hx := by
  simp only [EB, decide_eq_false_iff_not] at he
  obtain ⟨k, hk⟩ := List.getElem?_of_mem hx
  have hd0 : r.AV[j.toNat]? = some (hd r j) := ER hj
  have h1 := h.h0 _ (List.mem_of_getElem? hd0)
  rcases Fp hk hj with ⟨rfl, rfl⟩ | ⟨_, hk⟩
  · show 0 ≤ hd r j + 1 ∧ hd r j + 1 ≤ r.Ax ∧ r.Ax - (hd r j + 1) ≤ c.DE
    omega
  · exact h.h0 x (List.mem_of_getElem? hk)
 sl i x hx := by
  have hl : (FX r j).AV.length = r.AV.length := by simp [FX]
  rw [hl]
  refine (h.sl i x hx).mono (Int.le_refl _) fun k y hy => ?_
  rcases Fp hy hj with ⟨rfl, rfl⟩ | ⟨_, hk⟩
  · exact ⟨_, ER hj, by show hd r j ≤ hd r j + 1; omega⟩
  · exact ⟨y, hk, Int.le_refl _⟩
theorem Db.close (h : Db c b r) : Db c b { r with Ao := true } where
 cap := h.cap
 rd := h.rd
 t0 := h.t0
 tb := h.tb
 h0 := h.h0
 sl := h.sl
end
theorem Rg : ∀ (x : Fin 256) (j k : Fin 8), Df (x.val : Int) (j.val : Int) = true → Df ((x.val : Int) - 2 ^ j.val) (k.val : Int) = (Df (x.val : Int) (k.val : Int) && !decide (k = j)) ∧ (0 : Int) ≤ (x.val : Int) - 2 ^ j.val := by decide +kernel
theorem LW {x : Int} {j k n : Nat} (h0 : 0 ≤ x) (h1 : x < 2 ^ n) (hn : n ≤ 8) (hj : j < n) (hk : k < n) (hb : Df x (j : Int) = true) :
 Df (x - 2 ^ j) (k : Int) = (Df x (k : Int) && !decide (k = j)) ∧ 0 ≤ x - 2 ^ j := by
 have h2 : (2 : Int) ^ n ≤ 2 ^ 8 := by
  have := Nat.pow_le_pow_right (n := 2) (by decide) hn
  exact_mod_cast this
 have e : ((x.toNat : Nat) : Int) = x := Int.toNat_of_nonneg h0
 have := Rg ⟨x.toNat, by omega⟩ ⟨j, by omega⟩ ⟨k, by omega⟩
 simp only [e, Fin.mk.injEq] at this
 exact this hb
theorem Rh (k : Int) : Df 0 k = false := by simp [Df]
section
variable {c : TRg} {b : Int} {r : MR}
theorem Db.rel (h : Db c b r) (hc : A8 c = true) {j t : Int} (hj0 : 0 ≤ j) (hj : j.toNat < r.AV.length) (hh : K7 r j t = true) (hb : b ≤ 2305843009213693952) : Db c b (RF r j t) where
 cap := by have := h.cap; simpa [RF] using this
 rd := h.rd
 t0 := h.t0
 tb := h.tb
 h0 := h.h0
 sl i x hx := by
  simp only [K7, decide_eq_true_eq] at hh
  obtain ⟨hlt, hst, hbit⟩ := hh
  rcases Fp hx (Kt h hc t) with ⟨rfl, rfl⟩ | ⟨_, hx⟩
  · have hS := h.sl _ _ (JC h hc t)
    have hrc := Fw hc
    have hrd := h.rd
    have htb := h.tb
    have hcap : IA r = c.DE := h.cap
    have hd0 : r.AV[j.toNat]? = some (hd r j) := ER hj
    have hhd := h.h0 _ (List.mem_of_getElem? hd0)
    have hs0 := hS.s0
    have hm : (A1 r t).AP % 2 = 1 := by omega
    have hdv : (A1 r t).AP / 2 = t := by omega
    have hheld := hS.held hm
    have hjn : ((j.toNat : Nat) : Int) = j := Int.toNat_of_nonneg hj0
    have hclr : ∀ k : Nat, k < r.AV.length → Df ((A1 r t).Left - 2 ^ j.toNat) (k : Int) = (Df (A1 r t).Left (k : Int) && !decide (k = j.toNat)) ∧ 0 ≤ (A1 r t).Left - 2 ^ j.toNat :=
     fun k hk => LW (by omega) hheld.2 (by omega) hj hk (by rw [hjn]; exact hbit)
    have hlow : ∀ (k : Nat) (y : Int), r.AV[k]? = some y → Df ((A1 r t).Left - 2 ^ j.toNat) (k : Int) = false → t < y := by
     intro k y hy hbk
     have hk : k < r.AV.length := (List.getElem?_eq_some_iff.1 hy).1
     rw [(hclr k hk).1] at hbk
     by_cases e : k = j.toNat
     · subst e; rw [hd0] at hy; cases hy; exact hlt
     · simp only [e, decide_false, Bool.not_false, Bool.and_true] at hbk
       have := hS.UB hm k y hy hbk
       omega
    unfold K8
    split
    · rename_i hz
      rw [hz] at hlow
      rw [hcap]
      have e : 2 * (t + c.DE) / 2 = t + c.DE := by omega
      refine ⟨by show 0 ≤ 2 * (t + c.DE); omega, by show 2 * (t + c.DE) < _; omega, ?_, fun _ => ⟨rfl, rfl⟩, fun k => by exfalso; change 2 * (t + c.DE) % 2 = 1 at k; omega, fun k => by exfalso; change 2 * (t + c.DE) % 2 = 1 at k; omega,
       fun k => by exfalso; change 2 * (t + c.DE) % 2 = 1 at k; omega, fun _ _ y hy => ?_⟩
      · show 2 * (t + c.DE) / 2 % c.DE = _
        rw [e, Int.add_emod_right]
        exact SJ h hc t
      · show 2 * (t + c.DE) / 2 - c.DE < y
        obtain ⟨k, hk⟩ := List.getElem?_of_mem hy
        have := hlow k y hk (Rh _)
        omega
    · rename_i hz
      have h2 := (hclr _ hj).2
      have hp := GK j.toNat
      exact ⟨hS.s0, hS.s1, hS.VE, fun k => by exfalso; change (A1 r t).AP % 2 = 0 at k; omega, fun _ => ⟨by show 1 ≤ (A1 r t).Left - 2 ^ j.toNat; omega, by show (A1 r t).Left - 2 ^ j.toNat < 2 ^ r.AV.length; omega⟩, hS.QS,
       fun _ k y hy hbk => by show (A1 r t).AP / 2 < y; rw [hdv]; exact hlow k y hy hbk, fun k => by exfalso; change (A1 r t).AP % 2 = 0 at k; omega⟩
  · exact h.sl i x hx
theorem LK {α : Type} (f : Nat → α) (n i : Nat) (x : α) (h : ((List.range n).map f)[i]? = some x) : i < n ∧ x = f i := by
 simp only [List.getElem?_map, Option.map_eq_some_iff] at h
 obtain ⟨k, hk, rfl⟩ := h
 obtain ⟨h1, h2⟩ := List.getElem?_eq_some_iff.1 hk
 simp at h1 h2
 subst h2
 exact ⟨h1, rfl⟩
theorem Db.new (hc : A8 c = true) (hb : 0 < b) : Db c b (Gz c) where
 cap := by have := Fw hc; simp [Gz]; omega
 rd := by have := Fw hc; simp [Gz]; omega
 t0 := Int.le_refl _
 tb := hb
 h0 x hx := by
  have := Fw hc
  simp only [Gz, List.mem_replicate] at hx
  obtain ⟨_, rfl⟩ := hx
  show (0 : Int) ≤ 0 ∧ (0 : Int) ≤ 0 ∧ (0 : Int) - 0 ≤ c.DE
  omega
 sl i x hx := by
  have hcp := Fw hc
  obtain ⟨hi, rfl⟩ := LK _ _ _ _ hx
  refine ⟨by show 0 ≤ 2 * (i : Int); omega, by show 2 * (i : Int) < _; omega, ?_, fun _ => ⟨rfl, rfl⟩, fun k => by exfalso; change 2 * (i : Int) % 2 = 1 at k; omega, fun k => by exfalso; change 2 * (i : Int) % 2 = 1 at k; omega,
   fun k => by exfalso; change 2 * (i : Int) % 2 = 1 at k; omega, fun _ k => by exfalso; change c.DE ≤ 2 * (i : Int) / 2 at k; omega⟩
  show 2 * (i : Int) / 2 % c.DE = i
  rw [show 2 * (i : Int) / 2 = i by omega]
  exact Int.emod_eq_of_lt (by omega) (by omega)
end
end
section
theorem H6 {l : List TIn} {n : Int} (h0 : 0 ≤ n) (h1 : n < l.length) : gI l n ∈ l := by
 have : n.toNat < l.length := by omega
 exact List.mem_of_getElem? (ER this)
theorem BF {i : TIn} (h : Bz i = true) :
 (1 ≤ i.Op ∧ i.Op ≤ 25) ∧ (0 ≤ i.A ∧ i.A ≤ 7) ∧ (0 ≤ i.B ∧ i.B ≤ 7) ∧ (0 ≤ i.C ∧ i.C ≤ 7) ∧ (0 ≤ i.D ∧ i.D ≤ 2) ∧ (i.Op ≠ 1 → 0 ≤ i.K ∧ i.K ≤ 256) ∧ (i.Op = 19 → i.K ≤ 7) := by
 unfold Bz at h
 simp only at h
 repeat' split at h
 all_goals first | (exact absurd h (by decide)) | (simp only [Bool.and_eq_true, decide_eq_true_eq] at h; omega)
theorem Gq {rs : List TRg} {i : TIn} {n : Int} (h : DZ rs i n = 0) :
 Bz i = true ∧ (15 ≤ i.Op ∧ i.Op ≤ 17 → i.K ≤ n) ∧ (18 ≤ i.Op ∧ i.Op ≤ 20 → i.C < rs.length) ∧ (i.Op = 19 → i.K < (rs.getD i.C.toNat ⟨0, 0, 0⟩).AR) := by
 unfold DZ at h
 repeat' split at h
 all_goals first
  | (exfalso; omega)
  | (refine ⟨?_, ?_, ?_, ?_⟩
     · cases e : Bz i
       · exact absurd e ‹_›
       · rfl
     all_goals (intro hh; omega))
def HR (rs : List TRg) (l : List TIn) : Prop := ∀ i ∈ l, DZ rs i l.length = 0
section
variable {rs : List TRg} {l : List TIn} {t : MT}
structure Kept (t u : MT) : Prop where
 ph : u.Phase = t.Phase
 rg : u.Ring = t.Ring
 st : u.Status = t.Status
 tk : u.AG = t.AG
 sn : u.Seen = t.Seen
theorem Kept.refl (t : MT) : Kept t t := ⟨rfl, rfl, rfl, rfl, rfl⟩
theorem Kept.trans {t u v : MT} (a : Kept t u) (b : Kept u v) : Kept t v := ⟨b.ph.trans a.ph, b.rg.trans a.rg, b.st.trans a.st, b.tk.trans a.tk, b.sn.trans a.sn⟩
theorem RP (i : TIn) (t : MT) : Kept t (EA i t) := by
 unfold EA
 repeat' split
 all_goals exact ⟨rfl, rfl, rfl, rfl, rfl⟩
theorem My {i : TIn} {t : MT} {n : Int} (h0 : 0 ≤ t.At) (h1 : t.At < n) (hk : i.Op ≠ 1 → 0 ≤ i.K) (hj : 15 ≤ i.Op ∧ i.Op ≤ 17 → i.K ≤ n) : 0 ≤ (EA i t).At ∧ (EA i t).At ≤ n := by
 unfold EA
 repeat' split
 all_goals (simp only; omega)
theorem HV (hc : HR rs l) : ∀ (n : Nat) (t : MT), 0 ≤ t.At → t.At ≤ l.length → Kept t (EG l n t) ∧ 0 ≤ (EG l n t).At ∧ (EG l n t).At ≤ l.length
 | 0, t, h0, h1 => ⟨Kept.refl t, h0, h1⟩
 | n + 1, t, h0, h1 => by
   unfold EG
   split
   · rename_i h
     have hm := H6 h0 h.1
     have hf := Gq (hc _ hm)
     have hr := BF hf.1
     have hs := My (i := gI l t.At) h0 h.1 (fun k => (hr.2.2.2.2.2.1 k).1) hf.2.1
     obtain ⟨k1, k2⟩ := HV hc n (EA (gI l t.At) t) hs.1 hs.2
     exact ⟨(RP _ _).trans k1, k2⟩
   · exact ⟨Kept.refl t, h0, h1⟩
theorem Fh.kept {t u : MT} (h : Fh l t) (hp : t.Phase = 0) (k : Kept t u) (h0 : 0 ≤ u.At) (h1 : u.At ≤ l.length) : Fh l u where
 a0 := h0
 a1 := h1
 st := by rw [k.st]; exact h.st
 ph := by rw [k.ph]; exact h.ph
 p0 _ := by rw [k.rg, k.tk]; exact h.p0 hp
 p1 q := by rw [k.ph] at q; exact absurd hp q
theorem MN (hc : HR rs l) (h : Fh l t) : Kept t (CH l t).1 ∧ Fh l (CH l t).1 := by
 unfold CH
 repeat' split
 · exact ⟨Kept.refl t, h⟩
 · exact ⟨Kept.refl t, h⟩
 · exact ⟨Kept.refl t, h⟩
 · have hp : t.Phase = 0 := by have := h.ph; omega
   obtain ⟨k1, k2, k3⟩ := HV hc 256 t h.a0 h.a1
   exact ⟨k1, h.kept hp k1 k2 k3⟩
structure Qm (l : List TIn) (t n : MT) (a : MA) : Prop where
 run : a.Kind ≠ 0 → t.Status = 0
 k1 : a.Kind = 1 → n.Phase = 0 ∧ n.At < l.length ∧ (gI l n.At).Op = 18 ∧ a.Ring = (gI l n.At).C
 k2 : a.Kind = 2 → n.Phase = 0 ∧ n.At < l.length ∧ (gI l n.At).Op = 19 ∧ a.Ring = (gI l n.At).C ∧ a.Reader = (gI l n.At).K
 k3 : a.Kind = 3 → n.Phase = 0 ∧ n.At < l.length ∧ (gI l n.At).Op = 20 ∧ a.Ring = (gI l n.At).C
 kn : 4 ≤ a.Kind ∧ a.Kind ≤ 7 → n.Phase = 0 ∧ n.At < l.length
 kh : a.Kind = 8 ∨ a.Kind = 9 → n.Phase = 0
 kp : a.Kind = 10 → n.Phase = 1 ∧ n.At < l.length ∧ a.Ring = n.Ring ∧ a.AG = n.AG
 kr : a.Kind = 11 → n.Phase = 2 ∧ n.At < l.length ∧ a.Ring = n.Ring ∧ a.AG = n.AG ∧ a.Reader = (gI l n.At).K
 ks : a.Kind = 7 → n.Phase = 0
 top : 0 ≤ a.Kind ∧ a.Kind ≤ 11
theorem Oz (hc : HR rs l) (h : Fh l t) : Qm l t (CH l t).1 (CH l t).2 := by
 unfold CH
 split
 · refine ⟨fun k => absurd rfl k, ?_, ?_, ?_, ?_, ?_, ?_, ?_, ?_, ?_⟩ <;> simp [zA]
 rename_i hs
 have hs : t.Status = 0 := by omega
 split
 · rename_i hp
   have := h.p1 (by omega)
   refine ⟨fun _ => hs, ?_, ?_, ?_, ?_, ?_, ?_, ?_, ?_, ?_⟩ <;> simp [hp]
   exact this.2.1
 split
 · rename_i hp
   have := h.p1 (by omega)
   refine ⟨fun _ => hs, ?_, ?_, ?_, ?_, ?_, ?_, ?_, ?_, ?_⟩ <;> simp [hp]
   exact this.2.1
 have hp : t.Phase = 0 := by have := h.ph; omega
 obtain ⟨k1, k2, k3⟩ := HV hc 256 t h.a0 h.a1
 generalize EG l 256 t = n at k1 k2 k3
 have hn : n.Phase = 0 := by rw [k1.ph, hp]
 simp only [E3]
 repeat' split
 all_goals (refine ⟨fun _ => hs, ?_, ?_, ?_, ?_, ?_, ?_, ?_, ?_, ?_⟩ <;> simp [zA, hn] <;> omega)
end
end
section
theorem B6 {e : TEv} (h : Bk e = true) : (1 ≤ e.Kind ∧ e.Kind ≤ 15) ∧ (0 ≤ e.Thread ∧ e.Thread ≤ 7) ∧ (0 ≤ e.Ring ∧ e.Ring ≤ 7) ∧ e.AG < 4611686018427387904 ∧
 (CT e.Kind = true ∨ e.Ring = 0) ∧ (Az e.Kind = true ∨ e.AG = 0) ∧ (C2 e.Kind = true ∨ e.Value = 0) := by
 simpa only [Bk, decide_eq_true_eq] using h
theorem Bq {k : Int} : CT k = true ↔ (1 ≤ k ∧ k ≤ 7 ∨ k = 13) := by simp only [CT, decide_eq_true_eq]
theorem Av {k : Int} : Az k = true ↔ (1 ≤ k ∧ k ≤ 4 ∨ k = 13) := by simp only [Az, decide_eq_true_eq]
structure UQ (a : MA) (e : TEv) : Prop where
 rg : CT e.Kind = true → a.Ring = e.Ring
 f1 : e.Kind = 1 → a.Kind = 1
 f2 : e.Kind = 2 → a.Kind = 10 ∧ a.AG = e.AG
 f3 : e.Kind = 3 → a.Kind = 2
 f4 : e.Kind = 4 → a.Kind = 11 ∧ a.AG = e.AG
 f5 : 5 ≤ e.Kind ∧ e.Kind ≤ 7 → a.Kind = 1 ∨ a.Kind = 2
 f8 : e.Kind = 8 → a.Kind = 4
 f9 : e.Kind = 9 → a.Kind = 5
 f10 : e.Kind = 10 ∨ e.Kind = 11 → a.Kind = 6
 f12 : e.Kind = 12 → a.Kind = 7 ∧ a.Value = e.Value
 f13 : e.Kind = 13 → a.Kind = 3
 f14 : e.Kind = 14 → a.Kind = 8
 f15 : e.Kind = 15 → a.Kind = 9
theorem Pt {a : MA} {e : TEv} (hr : Bk e = true) (h : Cj a e = true) : UQ a e := by
 have hk := (B6 hr).1
 simp only [Cj, Bool.and_eq_true, Bool.or_eq_true, Bool.not_eq_true', decide_eq_true_eq] at h
 obtain ⟨h1, h2⟩ := h
 have h1 : CT e.Kind = true → a.Ring = e.Ring := fun k => by
  rcases h1 with h1 | h1
  · rw [h1] at k; cases k
  · exact h1
 have hd : e.Kind = 1 ∨ e.Kind = 2 ∨ e.Kind = 3 ∨ e.Kind = 4 ∨ e.Kind = 5 ∨ e.Kind = 6 ∨ e.Kind = 7 ∨ e.Kind = 8 ∨ e.Kind = 9 ∨ e.Kind = 10 ∨ e.Kind = 11 ∨ e.Kind = 12 ∨ e.Kind = 13 ∨ e.Kind = 14 ∨ e.Kind = 15 := by omega
 rcases hd with q | q | q | q | q | q | q | q | q | q | q | q | q | q | q
 all_goals (simp [q, El] at h2; refine ⟨h1, ?_, ?_, ?_, ?_, ?_, ?_, ?_, ?_, ?_, ?_, ?_, ?_⟩ <;> intro hh <;> omega)
section
variable {l : List TIn} {t n : MT} {a : MA} {e : TEv} {v : Int}
theorem Vc (i : TIn) (h : e.Kind = 1) : BR i n e v = { n with Phase := 1, Ring := e.Ring, AG := e.AG } := by unfold BR; rw [if_pos h]
theorem Vb (i : TIn) (h : e.Kind = 3) : BR i n e v = { n with Phase := 2, Ring := e.Ring, AG := e.AG } := by unfold BR; rw [if_neg (by omega), if_pos h]
theorem TF (i : TIn) (h : e.Kind = 14) : BR i n e v = { n with Status := 1 } := by unfold BR; rw [if_neg (by omega), if_neg (by omega), if_pos h]
theorem TE (i : TIn) (h : e.Kind = 15) : BR i n e v = { n with Status := 2 } := by unfold BR; rw [if_neg (by omega), if_neg (by omega), if_neg (by omega), if_pos h]
theorem bTe (i : TIn) (h1 : e.Kind ≠ 1) (h3 : e.Kind ≠ 3) (h14 : e.Kind ≠ 14) (h15 : e.Kind ≠ 15) :
 (BR i n e v).At = n.At + 1 ∧ (BR i n e v).Phase = 0 ∧ (BR i n e v).Ring = 0 ∧ (BR i n e v).AG = 0 ∧ (BR i n e v).Status = n.Status ∧
   (BR i n e v).Seen = (if e.Kind = 12 then n.Seen ++ [e.Value] else n.Seen) := by
 unfold BR
 rw [if_neg h1, if_neg h3, if_neg h14, if_neg h15]
 exact ⟨rfl, rfl, rfl, rfl, rfl, rfl⟩
theorem P3 (hr : Bk e = true) (h0 : 0 ≤ e.AG) (hq : Qm l t n a) (hn : Fh l n) (hst : n.Status = t.Status) (ha : a.Kind ≠ 0) (hf : UQ a e) : Fh l (BR (gI l n.At) n e v) := by
 have hk := B6 hr
 have hrun : n.Status = 0 := hst.trans (hq.run ha)
 have hkr := Bq (k := e.Kind)
 by_cases he : e.Kind = 1
 · rw [Vc _ he]
   have h1 := hq.k1 (hf.f1 he)
   have h2 := hf.rg (hkr.2 (by omega))
   exact ⟨hn.a0, hn.a1, hn.st, by simp, by simp, fun _ => ⟨hrun, h1.2.1, by rw [h1.2.2.1]; rfl, by rw [← h1.2.2.2, h2], h0, hk.2.2.2.1⟩⟩
 by_cases he3 : e.Kind = 3
 · rw [Vb _ he3]
   have h1 := hq.k2 (hf.f3 he3)
   have h2 := hf.rg (hkr.2 (by omega))
   exact ⟨hn.a0, hn.a1, hn.st, by simp, by simp, fun _ => ⟨hrun, h1.2.1, by rw [h1.2.2.1]; rfl, by rw [← h1.2.2.2.1, h2], h0, hk.2.2.2.1⟩⟩
 by_cases he14 : e.Kind = 14
 · rw [TF _ he14]
   have h1 := hq.kh (.inl (hf.f14 he14))
   exact ⟨hn.a0, hn.a1, by simp, hn.ph, hn.p0, fun k => absurd h1 k⟩
 by_cases he15 : e.Kind = 15
 · rw [TE _ he15]
   have h1 := hq.kh (.inr (hf.f15 he15))
   exact ⟨hn.a0, hn.a1, by simp, hn.ph, hn.p0, fun k => absurd h1 k⟩
 have Jp : n.At < l.length := by
  have b2 := hf.f2; have b4 := hf.f4; have b5 := hf.f5; have b8 := hf.f8; have b9 := hf.f9; have b10 := hf.f10; have b12 := hf.f12; have b13 := hf.f13
  have hd : e.Kind = 2 ∨ e.Kind = 4 ∨ (5 ≤ e.Kind ∧ e.Kind ≤ 7) ∨ (8 ≤ e.Kind ∧ e.Kind ≤ 12) ∨ e.Kind = 13 := by omega
  rcases hd with h | h | h | h | h
  · exact (hq.kp (b2 h).1).2.1
  · exact (hq.kr (b4 h).1).2.1
  · rcases b5 h with q | q
    · exact (hq.k1 q).2.1
    · exact (hq.k2 q).2.1
  · refine (hq.kn ?_).2
    have : e.Kind = 8 ∨ e.Kind = 9 ∨ (e.Kind = 10 ∨ e.Kind = 11) ∨ e.Kind = 12 := by omega
    rcases this with q | q | q | q
    · have := b8 q; omega
    · have := b9 q; omega
    · have := b10 q; omega
    · have := b12 q; omega
  · exact (hq.k3 (b13 h)).2.1
 have := hn.a0
 obtain ⟨e1, e2, e3, e4, e5, _⟩ := bTe (v := v) (n := n) (gI l n.At) he he3 he14 he15
 exact ⟨by rw [e1]; omega, by rw [e1]; omega, by rw [e5]; exact hn.st, by rw [e2]; simp, fun _ => ⟨e3, e4⟩, fun k => absurd e2 k⟩
theorem N4 {c : TRg} {b : Int} {r : MR} (h : Db c b r) (hc : A8 c = true) (hb : b ≤ 2305843009213693952) (h0 : 0 ≤ e.AG) (hrd : a.Kind = 2 ∨ a.Kind = 11 → 0 ≤ a.Reader ∧ a.Reader < c.AR)
 (hf : UQ a e) (ht : DP r a e = true) : Db c (b + 1) (CB r a e) := by
 unfold CB
 unfold DP at ht
 have hl := h.rd
 split
 · rename_i he
   rw [if_pos he] at ht
   simp only [Bool.and_eq_true, Bool.not_eq_true', decide_eq_true_eq] at ht
   exact h.UY ht.1
 rename_i h1
 rw [if_neg h1] at ht
 split
 · rename_i he
   rw [if_pos he] at ht
   exact (h.put hc ht h0 (by omega)).mono (by omega)
 rename_i h2
 rw [if_neg h2] at ht
 split
 · rename_i he
   rw [if_pos he] at ht
   simp only [Bool.and_eq_true, Bool.not_eq_true', decide_eq_true_eq] at ht
   have := hrd (.inl (hf.f3 he))
   exact (h.take (by omega) ht.1).mono (by omega)
 rename_i h3
 rw [if_neg h3] at ht
 split
 · rename_i he
   rw [if_pos he] at ht
   have := hrd (.inr (hf.f4 he).1)
   exact (h.rel hc this.1 (by omega) ht hb).mono (by omega)
 split
 · exact h.close.mono (by omega)
 · exact h.mono (by omega)
theorem Kk (r : MR) (a : MA) (e : TEv) : r.Ax ≤ (CB r a e).Ax ∧ (e.Kind = 1 → (CB r a e).Ax = r.Ax + 1) ∧ (e.Kind ≠ 1 → (CB r a e).Ax = r.Ax) := by
 unfold CB
 repeat' split
 all_goals (refine ⟨?_, fun h => ?_, fun h => ?_⟩ <;> (try simp [Ob, FX, RF]) <;> (try omega))
theorem TZ {r : MR} {j k : Int} : hd r k ≤ hd (FX r j) k := by
 simp only [hd, FX]
 by_cases e : j.toNat = k.toNat
 · by_cases h : j.toNat < r.AV.length
   · rw [← e, F6 h]; omega
   · rw [List.set_eq_of_length_le (by omega)]; omega
 · rw [getD_set_ne e]; omega
theorem SD (r : MR) (a : MA) (e : TEv) (k : Int) : hd r k ≤ hd (CB r a e) k := by
 unfold CB
 split
 · exact Int.le_refl _
 split
 · exact Int.le_refl _
 split
 · exact TZ
 split
 · exact Int.le_refl _
 split <;> exact Int.le_refl _
end
end
section
section
variable {p : MP} {b : Int} {s : MS} {e : TEv}
structure Dg (p : MP) (s : MS) (e : TEv) : Prop where
 re : Bk e = true
 lt : e.Thread.toNat < s.AB.length
 th : 0 ≤ e.Thread
 a0 : (Aq p s e.Thread).Kind ≠ 0
 ft : Cj (Aq p s e.Thread) e = true
theorem fitting (h : EP p s e = 0) : Dg p s e := by
 unfold EP at h
 split at h
 · omega
 rename_i h1
 split at h
 · omega
 rename_i h2
 split at h
 · omega
 rename_i h3
 have hr : Bk e = true := by cases q : Bk e <;> simp_all
 have hk := B6 hr
 refine ⟨hr, by omega, hk.2.1.1, fun q => h3 (.inl q), ?_⟩
 cases q : Cj (Aq p s e.Thread) e
 · exact absurd (.inr q) h3
 · rfl
theorem Ol : EP p s e = 0 ↔ Dg p s e := by
 refine ⟨fitting, fun h => ?_⟩
 have := h.lt
 have := h.th
 unfold EP
 rw [if_neg (by rw [h.re]; simp), if_neg (by omega), if_neg (by rw [h.ft]; simp [h.a0])]
theorem QZ (h : Ec p b s) {i : Nat} {l : List TIn} (hl : p.AB[i]? = some l) : HR p.AF l := h.pi.ins l (List.mem_of_getElem? hl)
theorem Ug {t : Int} (h : t.toNat < s.AB.length) : s.AB[t.toNat]? = some (Mx s t) := ER h
theorem KP (h : Ec p b s) {t : Int} (k : t.toNat < s.AB.length) : p.AB[t.toNat]? = some (CD p t) := ER (by rw [← h.nt]; exact k)
theorem Uj {i : Int} (h : i.toNat < s.AF.length) : s.AF[i.toNat]? = some (CO s i) := ER h
def LS (p : MP) (i : Int) : TRg := p.AF.getD i.toNat ⟨0, 0, 0⟩
theorem P0 {i : Int} (h : i.toNat < p.AF.length) : p.AF[i.toNat]? = some (LS p i) := ER h
theorem Ec.Kj (h : Ec p b s) {i : Int} (k : i.toNat < p.AF.length) : Db (LS p i) b (CO s i) ∧ A8 (LS p i) = true :=
 ⟨h.ri _ _ _ (P0 k) (Uj (by rw [h.nr]; exact k)), h.pi.rg _ (List.mem_of_getElem? (P0 k))⟩
theorem Ec.J2 (h : Ec p b s) {t : Int} (k : t.toNat < s.AB.length) : Fh (CD p t) (Mx s t) := h.ti _ _ _ (KP h k) (Ug k)
theorem Ec.asked (h : Ec p b s) {t : Int} (k : t.toNat < s.AB.length) :
 Qm (CD p t) (Mx s t) (CH (CD p t) (Mx s t)).1 (Aq p s t) ∧ Fh (CD p t) (CH (CD p t) (Mx s t)).1 ∧ Kept (Mx s t) (CH (CD p t) (Mx s t)).1 ∧ HR p.AF (CD p t) := by
 have hc := QZ h (KP h k)
 have hk := MN hc (h.J2 k)
 exact ⟨Oz hc (h.J2 k), hk.2, hk.1, hc⟩
theorem GW (h : Ec p b s) {t : Int} (k : t.toNat < s.AB.length) {a : MA} (ha : a = Aq p s t) (hk : a.Kind = 1 ∨ a.Kind = 2 ∨ a.Kind = 3 ∨ a.Kind = 10 ∨ a.Kind = 11) :
 0 ≤ a.Ring ∧ a.Ring.toNat < p.AF.length ∧ (a.Kind = 2 ∨ a.Kind = 11 → 0 ≤ a.Reader ∧ a.Reader < (LS p a.Ring).AR) := by
 obtain ⟨hq, hn, _, hc⟩ := h.asked k
 rw [← ha] at hq
 generalize (CH (CD p t) (Mx s t)).1 = n at hq hn
 generalize CD p t = l at hq hn hc
 have key : ∀ {i : TIn}, i ∈ l → 18 ≤ i.Op ∧ i.Op ≤ 20 → 0 ≤ i.C ∧ i.C.toNat < p.AF.length ∧ (i.Op = 19 → 0 ≤ i.K ∧ i.K < (LS p i.C).AR) := by
  intro i hi ho
  have h1 := Gq (hc i hi)
  have h2 := BF h1.1
  have h3 := h1.2.2.1 ho
  exact ⟨by omega, by omega, fun q => ⟨(h2.2.2.2.2.2.1 (by omega)).1, h1.2.2.2 q⟩⟩
 have a0 := hn.a0
 rcases hk with q | q | q | q | q
 · obtain ⟨_, h1, h2, h3⟩ := hq.k1 q
   have := key (H6 a0 h1) (by omega)
   rw [h3]
   exact ⟨this.1, this.2.1, by omega⟩
 · obtain ⟨_, h1, h2, h3, h4⟩ := hq.k2 q
   have := key (H6 a0 h1) (by omega)
   rw [h3, h4]
   exact ⟨this.1, this.2.1, fun _ => this.2.2 h2⟩
 · obtain ⟨_, h1, h2, h3⟩ := hq.k3 q
   have := key (H6 a0 h1) (by omega)
   rw [h3]
   exact ⟨this.1, this.2.1, by omega⟩
 · obtain ⟨h0, h1, h2, h3⟩ := hq.kp q
   obtain ⟨_, _, h4, h5, _⟩ := hn.p1 (by omega)
   have := key (H6 a0 h1) (by omega)
   rw [h2, ← h5]
   exact ⟨this.1, this.2.1, by omega⟩
 · obtain ⟨h0, h1, h2, h3, h6⟩ := hq.kr q
   obtain ⟨_, _, h4, h5, _⟩ := hn.p1 (by omega)
   have := key (H6 a0 h1) (by omega)
   rw [h2, ← h5, h6]
   exact ⟨this.1, this.2.1, fun _ => this.2.2 (by omega)⟩
theorem Il (h : Ec p b s) (f : Dg p s e) (hk : CT e.Kind = true) :
 0 ≤ e.Ring ∧ e.Ring.toNat < p.AF.length ∧ ((Aq p s e.Thread).Kind = 2 ∨ (Aq p s e.Thread).Kind = 11 → 0 ≤ (Aq p s e.Thread).Reader ∧ (Aq p s e.Thread).Reader < (LS p e.Ring).AR) := by
 have hf := Pt f.re f.ft
 have hr := hf.rg hk
 rw [← hr]
 refine GW h f.lt rfl ?_
 rw [Bq] at hk
 have h1 := hf.f1; have h2 := hf.f2; have h3 := hf.f3; have h4 := hf.f4; have h5 := hf.f5; have h13 := hf.f13
 omega
end
end
section
section
variable {p : MP} {b : Int} {s : MS} {e : TEv}
theorem QD {rs : List MR} {i : Nat} {r : MR} (k : i < rs.length) (j : Int) : (rs.set i r).getD j.toNat zR = if j.toNat = i then r else rs.getD j.toNat zR := by
 by_cases q : i = j.toNat
 · rw [if_pos q.symm, ← q, F6 k]
 · rw [if_neg (Ne.symm q), getD_set_ne q]
theorem LX (h : Ec p b s) (f : Dg p s e) (i : Int) : (CO s i).Ax ≤ (CO (As p s e) i).Ax ∧ ∀ k, hd (CO s i) k ≤ hd (CO (As p s e) i) k := by
 unfold CO As
 simp only
 split
 · rename_i q
   have hk : CT e.Kind = true := by rw [Bq]; rw [Av] at q; omega
   have hr := Il h f hk
   rw [QD (by rw [h.nr]; exact hr.2.1)]
   split
   · rename_i q2
     rw [q2]
     exact ⟨(Kk _ _ _).1, fun k => SD _ _ _ _⟩
   · exact ⟨Int.le_refl _, fun _ => Int.le_refl _⟩
 · exact ⟨Int.le_refl _, fun _ => Int.le_refl _⟩
theorem G1 (h : Ec p b s) (f : Dg p s e) (q : Az e.Kind = true) : CO (As p s e) e.Ring = CB (CO s e.Ring) (Aq p s e.Thread) e := by
 have hk : CT e.Kind = true := by rw [Bq]; rw [Av] at q; omega
 have hr := Il h f hk
 unfold CO As
 simp only
 rw [if_pos q, QD (by rw [h.nr]; exact hr.2.1), if_pos rfl]
 rfl
theorem LG (h : Ec p b s) (hb : b ≤ 2305843009213693952) (he0 : 0 ≤ e.AG) (f : Dg p s e) (ht : Az e.Kind = true → DP (CO s e.Ring) (Aq p s e.Thread) e = true) :
 Ec p (b + 1) (As p s e) := by
 obtain ⟨hq, hn, hkp, hc⟩ := h.asked f.lt
 have hf := Pt f.re f.ft
 have hrg : Az e.Kind = true → 0 ≤ e.Ring ∧ e.Ring.toNat < p.AF.length ∧ _ := fun q => Il h f (by rw [Bq]; rw [Av] at q; omega)
 have hT : Fh (CD p e.Thread) (BR (gI (CD p e.Thread) (CH (CD p e.Thread) (Mx s e.Thread)).1.At) (CH (CD p e.Thread) (Mx s e.Thread)).1 e (if e.Kind = 4 then (A1 (CO s e.Ring) e.AG).Value else 0)) :=
  P3 f.re he0 hq hn hkp.st f.a0 hf
 refine ⟨h.pi, by simp [As, h.nt], ?_, ?_, ?_, ?_, ?_, ?_⟩
 · unfold As; simp only; split <;> simp [h.nr]
 · have := h.n0
   unfold As; simp only; split
   · omega
   · exact this
 · intro i c r hi hr
   unfold As at hr
   simp only at hr
   split at hr
   · rename_i q
     obtain ⟨r0, r1, r2⟩ := hrg q
     rcases Fp hr (by rw [h.nr]; exact r1) with ⟨rfl, rfl⟩ | ⟨_, hr⟩
     · have := h.Kj r1
       rw [P0 r1] at hi
       cases hi
       exact N4 this.1 this.2 hb he0 r2 hf (ht q)
     · exact (h.ri i c r hi hr).mono (by omega)
   · exact (h.ri i c r hi hr).mono (by omega)
 · intro i l t hl hi
   rcases Fp (by simpa [As] using hi) f.lt with ⟨rfl, rfl⟩ | ⟨_, hi⟩
   · rw [KP h f.lt] at hl
     cases hl
     exact hT
   · exact h.ti i l t hl hi
 · intro i t hi hp
   rcases Fp (by simpa [As] using hi) f.lt with ⟨rfl, rfl⟩ | ⟨_, hi⟩
   · by_cases he : e.Kind = 1
     · rw [Vc _ he] at hp ⊢
       have q : Az e.Kind = true := by rw [Av]; omega
       have h1 := ht q
       show e.AG < (CO (As p s e) e.Ring).Ax
       rw [G1 h f q, (Kk _ _ _).2.1 he]
       simp only [DP, he, if_true, Bool.and_eq_true, decide_eq_true_eq] at h1
       omega
     by_cases he3 : e.Kind = 3
     · rw [Vb _ he3] at hp; simp at hp
     by_cases he14 : e.Kind = 14
     · rw [TF _ he14] at hp
       have := hq.kh (.inl (hf.f14 he14))
       simp only at hp; omega
     by_cases he15 : e.Kind = 15
     · rw [TE _ he15] at hp
       have := hq.kh (.inr (hf.f15 he15))
       simp only at hp; omega
     · rw [(bTe _ he he3 he14 he15).2.1] at hp; omega
   · have := h.p1 i t hi hp
     have := (LX h f t.Ring).1
     omega
 · intro i l t hl hi hp
   rcases Fp (by simpa [As] using hi) f.lt with ⟨rfl, rfl⟩ | ⟨_, hi⟩
   · rw [KP h f.lt] at hl
     cases hl
     by_cases he : e.Kind = 1
     · rw [Vc _ he] at hp; simp at hp
     by_cases he3 : e.Kind = 3
     · rw [Vb _ he3] at hp ⊢
       have q : Az e.Kind = true := by rw [Av]; omega
       have h1 := ht q
       obtain ⟨r0, r1, r2⟩ := hrg q
       have hk2 := hq.k2 (hf.f3 he3)
       show e.AG < hd (CO (As p s e) e.Ring) (gI (CD p e.Thread) (CH (CD p e.Thread) (Mx s e.Thread)).1.At).K
       rw [G1 h f q, ← hk2.2.2.2.2]
       unfold DP at h1
       rw [if_neg he, if_neg (by omega), if_pos he3] at h1
       simp only [Bool.and_eq_true, Bool.not_eq_true', decide_eq_true_eq] at h1
       have hR := (h.Kj r1).1
       have hrd := r2 (.inl (hf.f3 he3))
       have hl := hR.rd
       have : CB (CO s e.Ring) (Aq p s e.Thread) e = FX (CO s e.Ring) (Aq p s e.Thread).Reader := by unfold CB; rw [if_neg he, if_neg (by omega), if_pos he3]
       rw [this]
       have : hd (FX (CO s e.Ring) (Aq p s e.Thread).Reader) (Aq p s e.Thread).Reader = hd (CO s e.Ring) (Aq p s e.Thread).Reader + 1 := by
        unfold hd FX
        rw [F6 (by omega)]
        rfl
       rw [this]
       have := h1.2
       omega
     by_cases he14 : e.Kind = 14
     · rw [TF _ he14] at hp
       have := hq.kh (.inl (hf.f14 he14))
       simp only at hp; omega
     by_cases he15 : e.Kind = 15
     · rw [TE _ he15] at hp
       have := hq.kh (.inr (hf.f15 he15))
       simp only at hp; omega
     · rw [(bTe _ he he3 he14 he15).2.1] at hp; omega
   · have := h.p2 i l t hl hi hp
     have := (LX h f t.Ring).2 (gI l t.At).K
     omega
theorem Ec.mono {b' : Int} (h : Ec p b s) (k : b ≤ b') : Ec p b' s := { h with ri := fun i c r hi hr => (h.ri i c r hi hr).mono k }
theorem OZ (hk : JR s (Aq p s e.Thread) e = true) (_hr : Bk e = true) (q : Az e.Kind = true) : DP (CO s e.Ring) (Aq p s e.Thread) e = true := by
 have h1 := (Av (k := e.Kind)).1 q
 unfold JR at hk
 simp only at hk
 rw [if_neg (by omega), if_neg (by omega), if_neg (by omega), if_neg (by omega)] at hk
 split at hk
 · simp only [Bool.and_eq_true] at hk; exact hk.1
 · simpa [q] using hk
theorem QN (h : FL p) : Ec p 1 (Gk p) where
 pi := h
 nt := by simp [Gk]
 nr := by simp [Gk]
 n0 := Int.le_refl _
 ri i c r hi hr := by
  simp only [Gk, List.getElem?_map, hi, Option.map_some, Option.some.injEq] at hr
  subst hr
  exact Db.new (h.rg c (List.mem_of_getElem? hi)) (by decide)
 ti i l t hl hi := by
  simp only [Gk, List.getElem?_map, hl, Option.map_some, Option.some.injEq] at hi
  subst hi
  exact ⟨by decide, by simp [zT], by decide, by decide, fun _ => ⟨rfl, rfl⟩, fun k => absurd rfl k⟩
 p1 i t hi hp := by
  simp only [Gk, List.getElem?_map, Option.map_eq_some_iff] at hi
  obtain ⟨_, _, rfl⟩ := hi
  simp [zT] at hp
 p2 i l t hl hi hp := by
  simp only [Gk, List.getElem?_map, Option.map_eq_some_iff] at hi
  obtain ⟨_, _, rfl⟩ := hi
  simp [zT] at hp
end
end
section
def Bs (z : Int) : Prop := 0 ≤ z ∧ z < 18446744073709551616
theorem Cd : Bs 0 := by unfold Bs; decide
def Li (op : Int) (a b : Nat) : Nat := if op = 8 then a &&& b else if op = 9 then a ||| b else a ^^^ b
def VC (op : Int) (x y : Nat) : Prop := op = 8 ∧ x + y = 2 ∨ op = 9 ∧ 0 < x + y ∨ op = 10 ∧ x + y = 1
instance (op : Int) (x y : Nat) : Decidable (VC op x y) := by unfold VC; infer_instance
theorem Ts (op : Int) (ho : op = 8 ∨ op = 9 ∨ op = 10) (a b k : Nat) : Li op a b / 2 ^ k % 2 = if VC op (a / 2 ^ k % 2) (b / 2 ^ k % 2) then 1 else 0 := by
 have e : ∀ n : Nat, n / 2 ^ k % 2 = (n.testBit k).toNat := fun n => (Nat.toNat_testBit n k).symm
 rw [e, e a, e b]
 rcases ho with h | h | h <;> subst h
 · show ((a &&& b).testBit k).toNat = _
   rw [Nat.testBit_and]; cases a.testBit k <;> cases b.testBit k <;> decide
 · show ((a ||| b).testBit k).toNat = _
   rw [Nat.testBit_or]; cases a.testBit k <;> cases b.testBit k <;> decide
 · show ((a ^^^ b).testBit k).toNat = _
   rw [Nat.testBit_xor]; cases a.testBit k <;> cases b.testBit k <;> decide
theorem mod_pow_succ (n k : Nat) : n % 2 ^ (k + 1) = n % 2 ^ k + 2 ^ k * (n / 2 ^ k % 2) := Nat.mod_mul
theorem Uo (op : Int) {a b : Nat} (ha : a < 2 ^ 64) (hb : b < 2 ^ 64) : Li op a b < 2 ^ 64 := by
 unfold Li
 split
 · exact Nat.and_lt_two_pow _ hb
 · split
   · exact Nat.or_lt_two_pow ha hb
   · exact Nat.xor_lt_two_pow ha hb
theorem Tt {op a b : Int} (ho : op = 8 ∨ op = 9 ∨ op = 10) : J7 op a b = (Li op a.toNat b.toNat : Nat) := by
 rcases ho with h | h | h <;> subst h <;> rfl
theorem SP (op : Int) (ho : op = 8 ∨ op = 9 ∨ op = 10) (a b k : Nat) :
 Li op a b % 2 ^ (k + 1) = if VC op (a / 2 ^ k % 2) (b / 2 ^ k % 2) then Li op a b % 2 ^ k + 2 ^ k else Li op a b % 2 ^ k := by
 rw [mod_pow_succ, Ts op ho]
 split <;> simp
theorem MB (a : Int) (k : Nat) : IntKind.u64.wrap (IntKind.u64.wrap (a * 2 ^ k) * 2) = IntKind.u64.wrap (a * 2 ^ (k + 1)) := by
 rw [Int.pow_succ, ← Int.mul_assoc]
 generalize a * 2 ^ k = z
 simp only [IntKind.wrap, IntKind.signed, IntKind.bits, Bool.false_and, Bool.false_eq_true, if_false]
 omega
theorem NW (a : Int) (k : Nat) (_h : 0 ≤ a) : a / 2 ^ k / 2 = a / 2 ^ (k + 1) := by
 rw [Int.pow_succ, Int.ediv_ediv_of_nonneg (Int.le_of_lt (Int.pow_pos (by decide)))]
def KM (l : List Int) (n : Int) : Prop := n ∈ l ∧ ∀ x ∈ l, n ≤ x
theorem Jl {r : MR} {n : Int} (h : KM r.AV n) : Ed r = true ↔ IA r ≤ r.Ax - n := by
 simp only [Ed, List.any_eq_true, decide_eq_true_eq]
 refine ⟨fun ⟨x, hx, hh⟩ => ?_, fun hh => ⟨n, h.1, hh⟩⟩
 have := h.2 x hx
 omega
theorem Pj : ∀ (x : Fin 256) (j : Fin 8), Df (x.val : Int) (j.val : Int) = true → Vm.bits .andNot IntKind.i64 (x.val : Int) (shl IntKind.i64 1 (j.val : Int)) = (x.val : Int) - 2 ^ j.val := by decide +kernel
end
section
section
variable {p : MP} {s : MS} {e : TEv}
theorem HO (h : Cb p s e = true) : Dg p s e ∧ EP p s e = 0 ∧ JR s (Aq p s e.Thread) e = true := by
 simp only [Cb, Bool.and_eq_true, decide_eq_true_eq] at h
 exact ⟨fitting h.1, h.1, h.2⟩
theorem Lc (h : Cb p s e = true) : T3 p s e = (0, As p s e) := by
 have := (HO h).2.1
 unfold T3
 rw [if_neg (by omega), if_neg (by rw [h]; simp)]
end
end
section
section
variable {e : TEv}
theorem Co (q : Az e.Kind = true) : CT e.Kind = true := by rw [Bq]; rw [Av] at q; omega
end
end
section
def Bw (p : MP) (m : MS) (tape : List Int) (pk ck dr : Int) (fire : Bool) : Option TEv :=
 let a := Aq p m pk
 let r := CO m a.Ring
 if a.Kind = 0 then none
 else if a.Kind = 1 ∨ a.Kind = 2 then
  (if Ca r a = true then
    (if r.Ao = true then some ⟨pk, 6, a.Ring, 0, 0⟩ else if a.Mode = 0 then some ⟨pk, 5, a.Ring, 0, 0⟩ else if a.Mode = 2 ∧ fire = true then some ⟨pk, 7, a.Ring, 0, 0⟩ else none)
  else if a.Kind = 1 then some ⟨pk, 1, a.Ring, r.Ax, 0⟩ else some ⟨pk, 3, a.Ring, hd r a.Reader, 0⟩)
 else if a.Kind = 3 then some ⟨pk, 13, a.Ring, r.Ax, 0⟩
 else if a.Kind = 4 then some ⟨pk, 8, 0, 0, IntKind.u64.wrap (m.FQ + ck % 1048576)⟩
 else if a.Kind = 5 then some ⟨pk, 9, 0, 0, dr⟩
 else if a.Kind = 6 then (if m.Ba = true ∨ (tape.length : Int) ≤ m.Reads then some ⟨pk, 11, 0, 0, 0⟩ else some ⟨pk, 10, 0, 0, tape.getD m.Reads.toNat 0⟩)
 else if a.Kind = 7 then some ⟨pk, 12, 0, 0, a.Value⟩
 else if a.Kind = 8 then some ⟨pk, 14, 0, 0, 0⟩
 else if a.Kind = 9 then some ⟨pk, 15, 0, 0, 0⟩
 else if a.Kind = 10 then some ⟨pk, 2, a.Ring, a.AG, 0⟩
 else some ⟨pk, 4, a.Ring, a.AG, 0⟩
def Ci (p : MP) (m : MS) (tape : List Int) (pk ck dr : Int) (fire : Bool) : Option TEv :=
 if pk < 0 ∨ (m.AB.length : Int) ≤ pk then none
 else match Bw p m tape pk ck dr fire with
  | some e => if Cb p m e = true then some e else none
  | none => none
section
variable {p : MP} {b : Int} {m : MS}
theorem Ds (h : Ec p b m) (hb : b ≤ 2305843009213693952) {pk : Int} (h0 : 0 ≤ pk) (h1 : pk < m.AB.length) (hk : (Aq p m pk).Kind = 1 ∨ (Aq p m pk).Kind = 2) {k t : Int}
 (hc : Ca (CO m (Aq p m pk).Ring) (Aq p m pk) = true → t = 0 ∧ ((CO m (Aq p m pk).Ring).Ao = true ∧ k = 6 ∨ (CO m (Aq p m pk).Ring).Ao = false ∧ ((Aq p m pk).Mode = 0 ∧ k = 5 ∨ (Aq p m pk).Mode = 2 ∧ k = 7)))
 (hn : Ca (CO m (Aq p m pk).Ring) (Aq p m pk) = false → ((Aq p m pk).Kind = 1 ∧ k = 1 ∧ t = (CO m (Aq p m pk).Ring).Ax ∨ (Aq p m pk).Kind = 2 ∧ k = 3 ∧ t = hd (CO m (Aq p m pk).Ring) (Aq p m pk).Reader)) :
 Cb p m ⟨pk, k, (Aq p m pk).Ring, t, 0⟩ = true := by
 have hlt : pk.toNat < m.AB.length := by omega
 have h8 : m.AB.length ≤ 8 := by rw [h.nt]; exact h.pi.t8
 have hr8 := h.pi.r8
 obtain ⟨r0, r1, r2⟩ := GW h hlt rfl (by omega : (Aq p m pk).Kind = 1 ∨ (Aq p m pk).Kind = 2 ∨ (Aq p m pk).Kind = 3 ∨ (Aq p m pk).Kind = 10 ∨ (Aq p m pk).Kind = 11)
 have hR := (h.Kj r1).1
 have htb := hR.tb
 have ht0 := hR.t0
 generalize ha : Aq p m pk = a at *
 have hkk : (1 ≤ k ∧ k ≤ 7) ∧ (k = 1 ∨ k = 3 ∨ k = 5 ∨ k = 6 ∨ k = 7) ∧ ((k = 1 → a.Kind = 1) ∧ (k = 3 → a.Kind = 2) ∧ (k = 5 → a.Mode = 0) ∧ (k = 7 → a.Mode = 2)) := by
  cases q : Ca (CO m a.Ring) a
  · have := hn q; omega
  · have := hc q; omega
 have hhd : a.Kind = 2 → 0 ≤ hd (CO m a.Ring) a.Reader ∧ hd (CO m a.Ring) a.Reader ≤ (CO m a.Ring).Ax := fun q => by
  have := r2 (.inl q)
  have hl := hR.rd
  have := hR.h0 _ (List.mem_of_getElem? (ER (d := 0) (show a.Reader.toNat < (CO m a.Ring).AV.length by omega)))
  unfold hd
  omega
 have ht : 0 ≤ t ∧ t < 4611686018427387904 ∧ (k ≠ 1 → k ≠ 3 → t = 0) := by
  cases q : Ca (CO m a.Ring) a
  · rcases hn q with ⟨q1, q2, q3⟩ | ⟨q1, q2, q3⟩
    · omega
    · have := hhd q1; omega
  · have := hc q; omega
 have hre : Bk ⟨pk, k, a.Ring, t, 0⟩ = true := by
  simp only [Bk, decide_eq_true_eq]
  refine ⟨by omega, by omega, by omega, by omega, .inl (Bq.2 (by omega)), ?_, by simp⟩
  by_cases q : k = 1 ∨ k = 3
  · exact .inl (Av.2 (by omega))
  · exact .inr (ht.2.2 (by omega) (by omega))
 have hft : Cj a ⟨pk, k, a.Ring, t, 0⟩ = true := by
  simp only [Cj, Bool.and_eq_true]
  refine ⟨by simp, ?_⟩
  rcases hkk.2.1 with q | q | q | q | q
  · subst q; simp [El, hkk.2.2.1 rfl]
  · subst q; simp [El, hkk.2.2.2.1 rfl]
  · subst q; simp [hkk.2.2.2.2.1 rfl, hk]
  · subst q; simp [hk]
  · subst q; simp [hkk.2.2.2.2.2 rfl, hk]
 have hfit : EP p m ⟨pk, k, a.Ring, t, 0⟩ = 0 := by
  rw [Ol]
  exact ⟨hre, hlt, h0, by show (Aq p m pk).Kind ≠ 0; rw [ha]; omega, by show Cj (Aq p m pk) _ = true; rw [ha]; exact hft⟩
 unfold Cb
 rw [decide_eq_true hfit, Bool.true_and]
 show JR m (Aq p m pk) _ = true
 rw [ha]
 unfold JR
 simp only
 cases q : Ca (CO m a.Ring) a
 · rcases hn q with ⟨q1, q2, q3⟩ | ⟨q1, q2, q3⟩
   · subst q2
     rw [if_neg (by omega), if_neg (by omega), if_neg (by omega), if_neg (by omega), if_pos rfl]
     unfold Ca at q
     rw [if_pos q1] at q
     simp only [Bool.or_eq_false_iff] at q
     simp [DP, q.1, q.2, q3]
   · subst q2
     rw [if_neg (by omega), if_neg (by omega), if_neg (by omega), if_neg (by omega), if_neg (by omega)]
     unfold Ca at q
     rw [if_neg (by omega)] at q
     simp [DP, q, q3]
 · obtain ⟨_, q2⟩ := hc q
   rcases q2 with ⟨c, q2⟩ | ⟨c, ⟨_, q2⟩ | ⟨_, q2⟩⟩
   · subst q2; rw [if_neg (by omega), if_pos rfl, c]; rfl
   · subst q2; rw [if_pos (by omega), c]; rfl
   · subst q2; rw [if_pos (by omega), c]; rfl
end
end
section
section
variable {p : MP} {b : Int} {m : MS}
theorem TG {t : Int} (hk : 4 ≤ (Aq p m t).Kind ∧ (Aq p m t).Kind ≤ 9) : (Aq p m t).Ring = 0 := by
 unfold Aq CH at *
 split at hk <;> rename_i q1
 · simp [zA] at hk
 rw [if_neg q1]
 split at hk <;> rename_i q2
 · simp at hk
 rw [if_neg q2]
 split at hk <;> rename_i q3
 · simp at hk
 rw [if_neg q3]
 simp only
 unfold E3 at *
 revert hk
 simp only
 (repeat' split) <;> simp [zA] <;> omega
theorem Qd (h : Ec p b m) {t : Int} (k : t.toNat < m.AB.length) : 0 ≤ (Aq p m t).Kind ∧ (Aq p m t).Kind ≤ 11 := (h.asked k).1.top
theorem F4 {tape : List Int} {pk ck dr : Int} {fire : Bool} {e : TEv} (h : Ci p m tape pk ck dr fire = some e) : Cb p m e = true ∧ 0 ≤ pk ∧ pk < m.AB.length := by
 unfold Ci at h
 split at h
 · cases h
 rename_i q
 split at h
 · split at h
   · rename_i q2; cases h; exact ⟨q2, by omega, by omega⟩
   · cases h
 · cases h
end
end
section
structure EN where
 B4 : Int
 Dj : Int
 Gx : Int
 Hn : Bool
structure WR where
 Ev : List TEv
 St : MS
 Idle : Int
 Fg : Int
def VU (m : MS) (pk : Int) : Bool := decide (pk < 0 ∨ (m.AB.length : Int) ≤ pk ∨ (Mx m pk).Status ≠ 0)
def Ie (p : MP) (tape : List Int) (m : MS) (x : EN) : Option TEv := Ci p m tape x.B4 x.Dj x.Gx x.Hn
def Gj (p : MP) (tape : List Int) (r : WR) (x : EN) : WR :=
 match Ie p tape r.St x with
 | some e => { r with Ev := r.Ev ++ [e], St := As p r.St e }
 | none => if VU r.St x.B4 = true then { r with Idle := r.Idle + 1 } else { r with Fg := r.Fg + 1 }
def K6 (p : MP) (tape : List Int) (l : List EN) (r : WR) : WR := l.foldl (Gj p tape) r
def wr0 (m : MS) : WR := ⟨[], m, 0, 0⟩
section
variable {p : MP} {tape : List Int}
theorem PL (r : WR) (x : EN) : ((Gj p tape r x).Ev.length : Int) + (Gj p tape r x).Idle + (Gj p tape r x).Fg = r.Ev.length + r.Idle + r.Fg + 1 := by
 unfold Gj
 split
 · simp only [List.length_append, List.length_singleton]; omega
 · split <;> simp only <;> omega
theorem VA (l : List EN) : ∀ r : WR, ((K6 p tape l r).Ev.length : Int) + (K6 p tape l r).Idle + (K6 p tape l r).Fg = r.Ev.length + r.Idle + r.Fg + l.length := by
 induction l with
 | nil => intro r; simp [K6]
 | cons x l ih =>
   intro r
   have := ih (Gj p tape r x)
   have := PL (p := p) (tape := tape) r x
   show ((K6 p tape l (Gj p tape r x)).Ev.length : Int) + (K6 p tape l (Gj p tape r x)).Idle + (K6 p tape l (Gj p tape r x)).Fg = _
   simp only [List.length_cons]
   omega
end
section
variable {p : MP} {b : Int} {m : MS} {tape : List Int}
theorem LU (h : Ec p b m) (hb : b ≤ 2305843009213693952) {pk ck dr : Int} {fire : Bool} {e : TEv} (ha : Bs (Aq p m pk).Value) (hdr : Bs dr) (ht : ∀ x ∈ tape, Bs x)
 (h0 : 0 ≤ pk) (h1 : pk < m.AB.length) (hc : Bw p m tape pk ck dr fire = some e) : Bs e.AG ∧ Bs e.Value := by
 have hlt : pk.toNat < m.AB.length := by omega
 obtain ⟨hq, hn, _, _⟩ := h.asked hlt
 have hr := fun k => GW h hlt rfl k
 unfold Bw at hc
 simp only at hc
 have z : Bs 0 := Cd
 have htail : (Aq p m pk).Kind = 1 ∨ (Aq p m pk).Kind = 2 ∨ (Aq p m pk).Kind = 3 → Bs (CO m (Aq p m pk).Ring).Ax := fun k => by
  obtain ⟨r0, r1, _⟩ := hr (by omega)
  have hR := (h.Kj r1).1
  have := hR.t0; have := hR.tb
  unfold Bs; omega
 have hhd : (Aq p m pk).Kind = 2 → Bs (hd (CO m (Aq p m pk).Ring) (Aq p m pk).Reader) := fun k => by
  obtain ⟨r0, r1, r2⟩ := hr (by omega)
  have hR := (h.Kj r1).1
  have := hR.rd; have := hR.tb
  have := r2 (.inl k)
  have := hR.h0 _ (List.mem_of_getElem? (ER (d := 0) (show (Aq p m pk).Reader.toNat < (CO m (Aq p m pk).Ring).AV.length by omega)))
  unfold Bs hd; omega
 have htk : (Aq p m pk).Kind = 10 ∨ (Aq p m pk).Kind = 11 → Bs (Aq p m pk).AG := fun k => by
  rcases k with k | k
  · have a := hq.kp k
    have := hn.p1 (by omega)
    unfold Bs; omega
  · have a := hq.kr k
    have := hn.p1 (by omega)
    unfold Bs; omega
 have hw : Bs (IntKind.u64.wrap (m.FQ + ck % 1048576)) := by
  simp only [Bs, IntKind.wrap, IntKind.signed, IntKind.bits, Bool.false_and, Bool.false_eq_true, if_false]; omega
 have hg : Bs (tape.getD m.Reads.toNat 0) := by
  rw [List.getD_eq_getElem?_getD]
  cases q : tape[m.Reads.toNat]? with
  | none => exact z
  | some x => exact ht x (List.mem_of_getElem? q)
 have htop := hq.top
 clear hq hn hr h
 generalize Aq p m pk = a at *
 generalize CO m a.Ring = r at *
 generalize IntKind.u64.wrap (m.FQ + ck % 1048576) = w at *
 generalize tape.getD m.Reads.toNat 0 = g at *
 generalize hd r a.Reader = q at *
 split at hc
 · cases hc
 split at hc
 · split at hc
   · (repeat' split at hc) <;> cases hc <;> exact ⟨z, z⟩
   · split at hc <;> cases hc
     · exact ⟨htail (by omega), z⟩
     · exact ⟨hhd (by omega), z⟩
 split at hc
 · cases hc; exact ⟨htail (by omega), z⟩
 split at hc
 · cases hc; exact ⟨z, hw⟩
 split at hc
 · cases hc; exact ⟨z, hdr⟩
 split at hc
 · split at hc <;> cases hc
   · exact ⟨z, z⟩
   · exact ⟨z, hg⟩
 split at hc
 · cases hc; exact ⟨z, ha⟩
 split at hc
 · cases hc; exact ⟨z, z⟩
 split at hc
 · cases hc; exact ⟨z, z⟩
 split at hc
 · cases hc; exact ⟨htk (by omega), z⟩
 · cases hc; exact ⟨htk (by omega), z⟩
theorem ML (h : Ec p b m) (hb : b ≤ 2305843009213693952) {pk ck dr : Int} {fire : Bool} {e : TEv} (ha : Bs (Aq p m pk).Value) (hdr : Bs dr) (ht : ∀ x ∈ tape, Bs x)
 (ho : Ci p m tape pk ck dr fire = some e) : Bs e.AG ∧ Bs e.Value := by
 obtain ⟨_, h0, h1⟩ := F4 ho
 have hc : Bw p m tape pk ck dr fire = some e := by
  unfold Ci at ho
  rw [if_neg (by omega)] at ho
  split at ho
  · rename_i q
    split at ho
    · cases ho; exact q
    · cases ho
  · cases ho
 exact LU h hb ha hdr ht h0 h1 hc
theorem TH {t : Int} (hk : (Aq p m t).Kind = 1) : (Aq p m t).Reader = 0 := by
 unfold Aq CH at *
 split at hk <;> rename_i q1
 · simp [zA] at hk
 rw [if_neg q1]
 split at hk <;> rename_i q2
 · simp at hk
 rw [if_neg q2]
 split at hk <;> rename_i q3
 · simp at hk
 rw [if_neg q3]
 simp only
 unfold E3 at *
 revert hk
 simp only
 (repeat' split) <;> simp [zA]
theorem IB {pk ck dr : Int} {fire : Bool} (hk : (Aq p m pk).Kind = 1 ∨ (Aq p m pk).Kind = 2) : Bw p m tape pk ck dr fire =
 if Ca (CO m (Aq p m pk).Ring) (Aq p m pk) = true then
  (if (CO m (Aq p m pk).Ring).Ao = true then some ⟨pk, 6, (Aq p m pk).Ring, 0, 0⟩ else if (Aq p m pk).Mode = 0 then some ⟨pk, 5, (Aq p m pk).Ring, 0, 0⟩ else if (Aq p m pk).Mode = 2 ∧ fire = true then some ⟨pk, 7, (Aq p m pk).Ring, 0, 0⟩ else none)
 else if (Aq p m pk).Kind = 1 then some ⟨pk, 1, (Aq p m pk).Ring, (CO m (Aq p m pk).Ring).Ax, 0⟩ else some ⟨pk, 3, (Aq p m pk).Ring, hd (CO m (Aq p m pk).Ring) (Aq p m pk).Reader, 0⟩ := by
 unfold Bw
 simp only
 rw [if_neg (by omega), if_pos hk]
theorem N5 (h : Ec p b m) (hb : b ≤ 2305843009213693952) {pk ck dr : Int} {fire : Bool} (h0 : 0 ≤ pk) (h1 : pk < m.AB.length) (hk : (Aq p m pk).Kind = 1 ∨ (Aq p m pk).Kind = 2) : Ci p m tape pk ck dr fire = Bw p m tape pk ck dr fire := by
 unfold Ci
 rw [if_neg (by omega)]
 have key : ∀ e, Bw p m tape pk ck dr fire = some e → Cb p m e = true := by
  intro e he
  rw [IB hk] at he
  split at he <;> rename_i q1
  · split at he <;> rename_i q2
    · cases he; exact Ds h hb h0 h1 hk (fun _ => ⟨rfl, .inl ⟨q2, rfl⟩⟩) fun q => by rw [q] at q1; cases q1
    · have q2 : (CO m (Aq p m pk).Ring).Ao = false := by simpa using q2
      split at he <;> rename_i q3
      · cases he; exact Ds h hb h0 h1 hk (fun _ => ⟨rfl, .inr ⟨q2, .inl ⟨q3, rfl⟩⟩⟩) fun q => by rw [q] at q1; cases q1
      · split at he <;> rename_i q4
        · cases he; exact Ds h hb h0 h1 hk (fun _ => ⟨rfl, .inr ⟨q2, .inr ⟨q4.1, rfl⟩⟩⟩) fun q => by rw [q] at q1; cases q1
        · cases he
  · split at he <;> rename_i q2 <;> cases he
    · exact Ds h hb h0 h1 hk (fun q => absurd q q1) fun _ => .inl ⟨q2, rfl, rfl⟩
    · exact Ds h hb h0 h1 hk (fun q => absurd q q1) fun _ => .inr ⟨by omega, rfl, rfl⟩
 cases hc : Bw p m tape pk ck dr fire with
 | none => rfl
 | some e => simp only [key e hc, if_true]
end
end
end Go.Proofs.YtiamaibincaihaaGreat
