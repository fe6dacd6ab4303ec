/- Of what a fabric is, plainly: no statement is proved here. -/
import Derived.Test.YtlhifcnjnmeknaaGreatDoorVmC
namespace Go.Proofs.YtlhifcnjnmeknaaGreatDoor
open Go Go.Vm
section
structure TIn where
 Op : Int
 A : Int
 B : Int
 C : Int
 D : Int
 K : Int
structure TRg where
 Kind : Int
 Cn : Int
 AU : Int
structure TEv where
 Thread : Int
 Kind : Int
 Ring : Int
 AG : Int
 Value : Int
structure TSo where
 AO : Int
 Value : Int
 Left : Int
end
section
structure MT where
 At : Int
 Phase : Int
 Ring : Int
 Status : Int
 AG : Int
 Af : Nat → Int
 Seen : List Int
structure MR where
 Aq : Int
 AY : List Int
 Aw : Bool
 Ao : List TSo
structure MS where
 AB : List MT
 AJ : List MR
 FD : Int
 Reads : Int
 CF : Bool
structure MP where
 AJ : List TRg
 AB : List (List TIn)
structure MA where
 Kind : Int
 Ring : Int
 Mode : Int
 Reader : Int
 AG : Int
 Value : Int
def zI : TIn := ⟨0, 0, 0, 0, 0, 0⟩
def zS : TSo := ⟨0, 0, 0⟩
def zA : MA := ⟨0, 0, 0, 0, 0, 0⟩
def zT : MT := ⟨0, 0, 0, 0, 0, fun _ => 0, []⟩
def zR : MR := ⟨0, [], false, []⟩
def gI (l : List TIn) (n : Int) : TIn := l.getD n.toNat zI
def Df (g : Nat → Int) (i v : Int) : Nat → Int := fun k => if k = i.toNat then v else g k
def Jj (op a b : Int) : Int :=
 if op = 3 then IntKind.u64.wrap (a + b)
 else if op = 4 then IntKind.u64.wrap (a - b)
 else if op = 5 then IntKind.u64.wrap (a * b)
 else if op = 6 then (if b = 0 then 0 else a / b)
 else if op = 7 then (if b = 0 then 0 else a % b)
 else if op = 8 then ((a.toNat &&& b.toNat : Nat) : Int)
 else if op = 9 then ((a.toNat ||| b.toNat : Nat) : Int)
 else if op = 10 then ((a.toNat ^^^ b.toNat : Nat) : Int)
 else if op = 11 then IntKind.u64.wrap (a * 2 ^ (b % 64).toNat)
 else if op = 12 then a / 2 ^ (b % 64).toNat
 else if op = 13 then (if a < b then 1 else 0)
 else (if a = b then 1 else 0)
def Dh (i : TIn) (t : MT) : MT :=
 if i.Op = 1 then { t with At := t.At + 1, Af := Df t.Af i.A i.K }
 else if i.Op = 2 then { t with At := t.At + 1, Af := Df t.Af i.A (t.Af i.B.toNat) }
 else if i.Op = 15 ∨ (i.Op = 16 ∧ t.Af i.A.toNat = 0) ∨ (i.Op = 17 ∧ t.Af i.A.toNat ≠ 0) then { t with At := i.K }
 else if i.Op < 15 then { t with At := t.At + 1, Af := Df t.Af i.A (Jj i.Op (t.Af i.B.toNat) (t.Af i.C.toNat)) }
 else { t with At := t.At + 1 }
def Dn (l : List TIn) : Nat → MT → MT
 | 0, t => t
 | n + 1, t => if t.At < l.length ∧ (gI l t.At).Op ≤ 17 then Dn l n (Dh (gI l t.At) t) else t
def EZ (l : List TIn) (t : MT) : MA :=
 let i := gI l t.At
 if t.At = l.length then { zA with Kind := 8 }
 else if i.Op ≤ 17 then { zA with Kind := 9 }
 else if i.Op = 18 then ⟨1, i.C, i.D, 0, 0, t.Af i.A.toNat⟩
 else if i.Op = 19 then ⟨2, i.C, i.D, i.K, 0, 0⟩
 else if i.Op = 20 then ⟨3, i.C, 0, 0, 0, 0⟩
 else if i.Op = 21 then { zA with Kind := 4 }
 else if i.Op = 22 then { zA with Kind := 5 }
 else if i.Op = 23 then { zA with Kind := 6 }
 else if i.Op = 24 then { zA with Kind := 7, Value := t.Af i.A.toNat }
 else { zA with Kind := 8 }
def Ba (l : List TIn) (t : MT) : MT × MA :=
 if t.Status ≠ 0 then (t, zA)
 else if t.Phase = 1 then (t, ⟨10, t.Ring, 0, 0, t.AG, t.Af (gI l t.At).A.toNat⟩)
 else if t.Phase = 2 then (t, ⟨11, t.Ring, 0, (gI l t.At).K, t.AG, 0⟩)
 else (Dn l 256 t, EZ l (Dn l 256 t))
def Au (k : Int) : Bool := decide (1 ≤ k ∧ k ≤ 4 ∨ k = 13)
def Bn (k : Int) : Bool := decide (1 ≤ k ∧ k ≤ 7 ∨ k = 13)
def B1 (k : Int) : Bool := decide (8 ≤ k ∧ k ≤ 10 ∨ k = 12)
def BU (e : TEv) : Bool :=
 decide ((1 ≤ e.Kind ∧ e.Kind ≤ 15) ∧ (0 ≤ e.Thread ∧ e.Thread ≤ 7) ∧ (0 ≤ e.Ring ∧ e.Ring ≤ 7) ∧ e.AG < 4611686018427387904 ∧
  (Bn e.Kind = true ∨ e.Ring = 0) ∧ (Au e.Kind = true ∨ e.AG = 0) ∧ (B1 e.Kind = true ∨ e.Value = 0))
def E1 (k : Int) : Int :=
 if k = 1 then 1 else if k = 2 then 10 else if k = 3 then 2 else if k = 4 then 11 else if k = 8 then 4 else if k = 9 then 5 else if k = 10 then 6 else if k = 11 then 6
 else if k = 12 then 7 else if k = 13 then 3 else if k = 14 then 8 else 9
def CH (a : MA) (e : TEv) : Bool :=
 (!Bn e.Kind || decide (a.Ring = e.Ring)) &&
 (if e.Kind = 5 then decide ((a.Kind = 1 ∨ a.Kind = 2) ∧ a.Mode = 0)
  else if e.Kind = 6 then decide (a.Kind = 1 ∨ a.Kind = 2)
  else if e.Kind = 7 then decide ((a.Kind = 1 ∨ a.Kind = 2) ∧ a.Mode = 2)
  else if e.Kind = 2 ∨ e.Kind = 4 then decide (a.Kind = E1 e.Kind ∧ a.AG = e.AG)
  else if e.Kind = 12 then decide (a.Kind = 7 ∧ a.Value = e.Value)
  else decide (a.Kind = E1 e.Kind))
def BJ (i : TIn) (t : MT) (e : TEv) (v : Int) : MT :=
 if e.Kind = 1 then { t with Phase := 1, Ring := e.Ring, AG := e.AG }
 else if e.Kind = 3 then { t with Phase := 2, Ring := e.Ring, AG := e.AG }
 else if e.Kind = 14 then { t with Status := 1 }
 else if e.Kind = 15 then { t with Status := 2 }
 else
  let g :=
   if e.Kind = 2 then Df t.Af i.B 0
   else if e.Kind = 4 then Df (Df t.Af i.A v) i.B 0
   else if e.Kind = 5 then Df t.Af i.B 1
   else if e.Kind = 6 then Df t.Af i.B 2
   else if e.Kind = 7 then Df t.Af i.B 3
   else if e.Kind = 8 then Df t.Af i.A e.Value
   else if e.Kind = 9 then Df t.Af i.A e.Value
   else if e.Kind = 10 then Df (Df t.Af i.A e.Value) i.B 0
   else if e.Kind = 11 then Df t.Af i.B 1
   else t.Af
  { t with Af := g, Seen := if e.Kind = 12 then t.Seen ++ [e.Value] else t.Seen, Phase := 0, Ring := 0, AG := 0, At := t.At + 1 }
def hd (r : MR) (j : Int) : Int := r.AY.getD j.toNat 0
def He (r : MR) : Int := r.Ao.length
def EA (r : MR) : Bool := r.AY.any fun h => decide (He r ≤ r.Aq - h)
def DN (r : MR) (j : Int) : Bool := decide (hd r j = r.Aq)
def GX (r : MR) (t : Int) : Nat := (t % He r).toNat
def Av (r : MR) (t : Int) : TSo := r.Ao.getD (GX r t) zS
def DE (x : Int) (j : Int) : Bool := decide (x / 2 ^ j.toNat % 2 = 1)
def GU (r : MR) (t : Int) : Bool := decide (t < r.Aq ∧ (Av r t).AO = 2 * t)
def Ke (r : MR) (j t : Int) : Bool := decide (t < hd r j ∧ (Av r t).AO = 2 * t + 1 ∧ DE (Av r t).Left j = true)
def Ca (r : MR) (a : MA) (e : TEv) : Bool :=
 if e.Kind = 1 then !EA r && decide (e.AG = r.Aq)
 else if e.Kind = 2 then GU r e.AG
 else if e.Kind = 3 then !DN r a.Reader && decide (e.AG = hd r a.Reader)
 else if e.Kind = 4 then Ke r a.Reader e.AG
 else decide (e.AG = r.Aq)
def Nu (r : MR) (t v : Int) : MR := { r with Ao := r.Ao.set (GX r t) ⟨2 * t + 1, v, 2 ^ r.AY.length - 1⟩ }
def E2 (r : MR) (j : Int) : MR := { r with AY := r.AY.set j.toNat (hd r j + 1) }
def Kf (x : TSo) (j t c : Int) : TSo := if x.Left - 2 ^ j.toNat = 0 then ⟨2 * (t + c), 0, 0⟩ else { x with Left := x.Left - 2 ^ j.toNat }
def Qk (r : MR) (j t : Int) : MR := { r with Ao := r.Ao.set (GX r t) (Kf (Av r t) j t (He r)) }
def Bq (r : MR) (a : MA) (e : TEv) : MR :=
 if e.Kind = 1 then { r with Aq := r.Aq + 1 }
 else if e.Kind = 2 then Nu r e.AG a.Value
 else if e.Kind = 3 then E2 r a.Reader
 else if e.Kind = 4 then Qk r a.Reader e.AG
 else if e.Kind = 13 then { r with Aw := true }
 else r
def KA (s : MS) (t : Int) : MT := s.AB.getD t.toNat zT
def CP (s : MS) (i : Int) : MR := s.AJ.getD i.toNat zR
def Bi (p : MP) (t : Int) : List TIn := p.AB.getD t.toNat []
def A2 (p : MP) (s : MS) (t : Int) : MA := (Ba (Bi p t) (KA s t)).2
def Dl (p : MP) (s : MS) (e : TEv) : Int :=
 if BU e = false then 3
 else if (s.AB.length : Int) ≤ e.Thread then 5
 else if (A2 p s e.Thread).Kind = 0 ∨ CH (A2 p s e.Thread) e = false then 11
 else 0
def GR (r : MR) (a : MA) : Bool := if a.Kind = 1 then r.Aw || EA r else DN r a.Reader
def H3 (s : MS) (a : MA) (e : TEv) : Bool :=
 let r := CP s e.Ring
 if e.Kind = 5 ∨ e.Kind = 7 then GR r a && !r.Aw
 else if e.Kind = 6 then GR r a && r.Aw
 else if e.Kind = 8 then decide (s.FD ≤ e.Value ∧ e.Value - s.FD < 1048576)
 else if e.Kind = 10 then !s.CF
 else if e.Kind = 1 then Ca r a e && !r.Aw
 else !Au e.Kind || Ca r a e
def Ax (p : MP) (s : MS) (e : TEv) : Bool := decide (Dl p s e = 0) && H3 s (A2 p s e.Thread) e
def D2 (p : MP) (s : MS) (e : TEv) : MS :=
 let n := Ba (Bi p e.Thread) (KA s e.Thread)
 let r := CP s e.Ring
 let v := if e.Kind = 4 then (Av r e.AG).Value else 0
 { AB := s.AB.set e.Thread.toNat (BJ (gI (Bi p e.Thread) n.1.At) n.1 e v)
   AJ := if Au e.Kind = true then s.AJ.set e.Ring.toNat (Bq r n.2 e) else s.AJ
   FD := if e.Kind = 8 then max s.FD e.Value else s.FD
   Reads := if e.Kind = 10 then IntKind.u64.wrap (s.Reads + 1) else s.Reads
   CF := if e.Kind = 11 then true else s.CF }
def RH (p : MP) (s : MS) (e : TEv) : Int × MS :=
 if Dl p s e ≠ 0 then (Dl p s e, s) else if Ax p s e = false then (11, s) else (0, D2 p s e)
def GS (c : TRg) : MR := ⟨0, List.replicate c.AU.toNat 0, false, (List.range c.Cn.toNat).map fun i : Nat => (⟨2 * (i : Int), 0, 0⟩ : TSo)⟩
def Eo (p : MP) : MS := ⟨p.AB.map fun _ => zT, p.AJ.map GS, 0, 0, false⟩
def Bg (i : TIn) : Bool :=
 let r := fun (x : Int) (m : Int) => decide (0 ≤ x ∧ x ≤ m)
 if i.Op = 1 then r i.A 7 && r i.B 0 && r i.C 0 && r i.D 0
 else if i.Op = 2 ∨ i.Op = 23 then r i.A 7 && r i.B 7 && r i.C 0 && r i.D 0 && r i.K 0
 else if 3 ≤ i.Op ∧ i.Op ≤ 14 then r i.A 7 && r i.B 7 && r i.C 7 && r i.D 0 && r i.K 0
 else if i.Op = 15 then r i.A 0 && r i.B 0 && r i.C 0 && r i.D 0 && r i.K 256
 else if i.Op = 16 ∨ i.Op = 17 then r i.A 7 && r i.B 0 && r i.C 0 && r i.D 0 && r i.K 256
 else if i.Op = 18 then r i.A 7 && r i.B 7 && r i.C 7 && r i.D 2 && r i.K 0
 else if i.Op = 19 then r i.A 7 && r i.B 7 && r i.C 7 && r i.D 2 && r i.K 7
 else if i.Op = 20 then r i.A 0 && r i.B 0 && r i.C 7 && r i.D 0 && r i.K 0
 else if i.Op = 21 ∨ i.Op = 22 ∨ i.Op = 24 then r i.A 7 && r i.B 0 && r i.C 0 && r i.D 0 && r i.K 0
 else if i.Op = 25 then r i.A 0 && r i.B 0 && r i.C 0 && r i.D 0 && r i.K 0
 else false
def A1 (c : TRg) : Bool := decide (1 ≤ c.Cn ∧ c.Cn ≤ 64 ∧ (c.Kind = 1 ∧ c.AU = 1 ∨ c.Kind = 2 ∧ 1 ≤ c.AU ∧ c.AU ≤ 8))
def C4 (rs : List TRg) (i : TIn) (n : Int) : Int :=
 if Bg i = false then 6
 else if 15 ≤ i.Op ∧ i.Op ≤ 17 ∧ n < i.K then 5
 else if 18 ≤ i.Op ∧ i.Op ≤ 20 ∧ (rs.length : Int) ≤ i.C then 7
 else if i.Op = 19 ∧ (rs.getD i.C.toNat ⟨0, 0, 0⟩).AU ≤ i.K then 7
 else 0
structure DP (p : MP) : Prop where
 t1 : 1 ≤ p.AB.length
 t8 : p.AB.length ≤ 8
 r8 : p.AJ.length ≤ 8
 rg : ∀ c ∈ p.AJ, A1 c = true
 len : ∀ l ∈ p.AB, l.length ≤ 256
 ins : ∀ l ∈ p.AB, ∀ i ∈ l, C4 p.AJ i l.length = 0
structure L7 (c : Int) (nr : Nat) (tail : Int) (AD : List Int) (i : Nat) (x : TSo) : Prop where
 s0 : 0 ≤ x.AO
 s1 : x.AO < 9223372036854775808
 Uq : x.AO / 2 % c = i
 free : x.AO % 2 = 0 → x.Value = 0 ∧ x.Left = 0
 held : x.AO % 2 = 1 → 1 ≤ x.Left ∧ x.Left < 2 ^ nr
 Pu : x.AO % 2 = 1 → x.AO / 2 < tail
 Th : x.AO % 2 = 1 → ∀ (j : Nat) (h : Int), AD[j]? = some h → DE x.Left (j : Int) = false → x.AO / 2 < h
 SW : x.AO % 2 = 0 → c ≤ x.AO / 2 → ∀ h ∈ AD, x.AO / 2 - c < h
structure C7 (c : TRg) (b : Int) (r : MR) : Prop where
 cap : (r.Ao.length : Int) = c.Cn
 rd : (r.AY.length : Int) = c.AU
 t0 : 0 ≤ r.Aq
 tb : r.Aq < b
 h0 : ∀ h ∈ r.AY, 0 ≤ h ∧ h ≤ r.Aq ∧ r.Aq - h ≤ c.Cn
 sl : ∀ (i : Nat) x, r.Ao[i]? = some x → L7 c.Cn r.AY.length r.Aq r.AY i x
structure Es (l : List TIn) (t : MT) : Prop where
 a0 : 0 ≤ t.At
 a1 : t.At ≤ l.length
 st : 0 ≤ t.Status ∧ t.Status ≤ 2
 ph : 0 ≤ t.Phase ∧ t.Phase ≤ 2
 p0 : t.Phase = 0 → t.Ring = 0 ∧ t.AG = 0
 p1 : t.Phase ≠ 0 → t.Status = 0 ∧ t.At < l.length ∧ (gI l t.At).Op = 17 + t.Phase ∧ (gI l t.At).C = t.Ring ∧ 0 ≤ t.AG ∧ t.AG < 4611686018427387904
structure Dj (p : MP) (b : Int) (s : MS) : Prop where
 pi : DP p
 nt : s.AB.length = p.AB.length
 nr : s.AJ.length = p.AJ.length
 n0 : 0 ≤ s.FD
 ri : ∀ (i : Nat) c r, p.AJ[i]? = some c → s.AJ[i]? = some r → C7 c b r
 ti : ∀ (i : Nat) l t, p.AB[i]? = some l → s.AB[i]? = some t → Es l t
 p1 : ∀ (i : Nat) t, s.AB[i]? = some t → t.Phase = 1 → t.AG < (CP s t.Ring).Aq
 p2 : ∀ (i : Nat) l t, p.AB[i]? = some l → s.AB[i]? = some t → t.Phase = 2 → t.AG < hd (CP s t.Ring) (gI l t.At).K
end
section
theorem Fk (n : Nat) : 0 < (2 : Int) ^ n := Int.pow_pos (by decide)
theorem Dw {α : Type} {l : List α} {i : Nat} {d : α} (h : i < l.length) : l[i]? = some (l.getD i d) := by simp [List.getD, List.getElem?_eq_getElem h]
theorem FY {α : Type} {l : List α} {i : Nat} {x d : α} (h : i < l.length) : (l.set i x).getD i d = x := by simp [List.getD, h]
theorem getD_set_ne {α : Type} {l : List α} {i j : Nat} {x d : α} (h : i ≠ j) : (l.set i x).getD j d = l.getD j d := by simp [List.getD, List.getElem?_set_ne h]
section
variable {c : TRg} {b b' : Int} {r : MR}
theorem FR (h : A1 c = true) : 1 ≤ c.Cn ∧ c.Cn ≤ 64 ∧ 1 ≤ c.AU ∧ c.AU ≤ 8 := by
 simp only [A1, decide_eq_true_eq] at h; omega
theorem C7.mono (h : C7 c b r) (k : b ≤ b') : C7 c b' r := { h with tb := by have := h.tb; omega }
theorem L7.mono {cp : Int} {nr : Nat} {tail tail' : Int} {AD heads' : List Int} {i : Nat} {x : TSo} (h : L7 cp nr tail AD i x) (ht : tail ≤ tail')
 (hh : ∀ (j : Nat) (y : Int), heads'[j]? = some y → ∃ z : Int, AD[j]? = some z ∧ z ≤ y) : L7 cp nr tail' heads' i x where
 s0 := h.s0
 s1 := h.s1
 Uq := h.Uq
 free := h.free
 held := h.held
 Pu k := by have := h.Pu k; omega
 Th k j y hy hb := by
  obtain ⟨z, h1, h2⟩ := hh j y hy
  have := h.Th k j z h1 hb
  omega
 SW k k2 y hy := by
  obtain ⟨j, hj⟩ := List.getElem?_of_mem hy
  obtain ⟨z, h1, h2⟩ := hh j y hj
  have := h.SW k k2 z (List.mem_of_getElem? h1)
  omega
theorem Nv (h : EA r = false) : ∀ x ∈ r.AY, r.Aq - x < He r := by
 intro x hx
 simp only [EA, List.any_eq_false, decide_eq_true_eq] at h
 have := h x hx
 omega
theorem C7.T8 (h : C7 c b r) (hf : EA r = false) : C7 c (b + 1) { r with Aq := r.Aq + 1 } where
 cap := h.cap
 rd := h.rd
 t0 := by have := h.t0; show 0 ≤ r.Aq + 1; omega
 tb := by have := h.tb; show r.Aq + 1 < b + 1; omega
 h0 x hx := by
  have h1 := h.h0 x hx
  have h2 := Nv hf x hx
  have h3 := h.cap
  unfold He at h2
  show 0 ≤ x ∧ x ≤ r.Aq + 1 ∧ r.Aq + 1 - x ≤ c.Cn
  omega
 sl i x hx := (h.sl i x hx).mono (by show r.Aq ≤ r.Aq + 1; omega) fun j y hy => ⟨y, hy, Int.le_refl _⟩
theorem KQ (h : C7 c b r) (hc : A1 c = true) (t : Int) : GX r t < r.Ao.length := by
 have h1 := h.cap
 have h2 := FR hc
 unfold GX He
 have h3 := Int.emod_nonneg t (b := (r.Ao.length : Int)) (by omega)
 have h4 := Int.emod_lt_of_pos t (b := (r.Ao.length : Int)) (by omega)
 omega
theorem Ig (h : C7 c b r) (hc : A1 c = true) (t : Int) : r.Ao[GX r t]? = some (Av r t) := Dw (KQ h hc t)
theorem Rr (h : C7 c b r) (hc : A1 c = true) (t : Int) : t % c.Cn = (GX r t : Int) := by
 have h1 := h.cap
 have h2 := FR hc
 unfold GX He
 rw [h1]
 have h3 := Int.emod_nonneg t (b := c.Cn) (by omega)
 omega
theorem FJ {α : Type} {l : List α} {k i : Nat} {x y : α} (h : (l.set k x)[i]? = some y) (hk : k < l.length) : (i = k ∧ y = x) ∨ (i ≠ k ∧ l[i]? = some y) := by
 by_cases e : k = i
 · subst e
   rw [List.getElem?_set_self hk] at h
   exact .inl ⟨rfl, (Option.some.inj h).symm⟩
 · rw [List.getElem?_set_ne e] at h
   exact .inr ⟨fun k => e k.symm, h⟩
theorem Sk {n j : Nat} (h : j < n) : DE (2 ^ n - 1) (j : Int) = true := by
 simp only [DE, decide_eq_true_eq, Int.toNat_natCast]
 obtain ⟨d, rfl⟩ : ∃ d, n = j + (d + 1) := ⟨n - j - 1, by omega⟩
 have h1 : (2 : Int) ^ (j + (d + 1)) - 1 = (2 ^ (d + 1) - 1) * 2 ^ j + (2 ^ j - 1) := by
  rw [Int.pow_add, Int.sub_mul, Int.mul_comm (2 ^ j)]; omega
 have h2 := Fk j
 rw [h1, Int.add_comm, Int.add_mul_ediv_right _ _ (by omega), Int.ediv_eq_zero_of_lt (by omega) (by omega)]
 have h3 : (2 : Int) ^ (d + 1) = 2 * 2 ^ d := by rw [Int.pow_succ, Int.mul_comm]
 omega
theorem C7.put (h : C7 c b r) (hc : A1 c = true) {t v : Int} (hf : GU r t = true) (t0 : 0 ≤ t) (hb : b ≤ 4611686018427387904) : C7 c b (Nu r t v) where
 cap := by have := h.cap; simpa [Nu] using this
 rd := h.rd
 t0 := h.t0
 tb := h.tb
 h0 := h.h0
 sl i x hx := by
  simp only [GU, decide_eq_true_eq] at hf
  rcases FJ hx (KQ h hc t) with ⟨rfl, rfl⟩ | ⟨_, hx⟩
  · have ht : t < r.Aq := hf.1
    have hlt := h.tb
    have hd : (2 * t + 1) / 2 = t := by omega
    have hm : (2 * t + 1) % 2 = 1 := by omega
    have hp := Fk r.AY.length
    have hrd := h.rd
    have hr := (FR hc).2.2
    refine ⟨by show 0 ≤ 2 * t + 1; omega, by show 2 * t + 1 < _; omega, by show (2 * t + 1) / 2 % c.Cn = _; rw [hd]; exact Rr h hc t, fun k => by exfalso; change (2 * t + 1) % 2 = 0 at k; omega, fun _ => ?_, fun _ => by show (2 * t + 1) / 2 < r.Aq; omega,
     fun _ j y hy hb => ?_, fun k => by exfalso; change (2 * t + 1) % 2 = 0 at k; omega⟩
    · show 1 ≤ (2 : Int) ^ r.AY.length - 1 ∧ (2 : Int) ^ r.AY.length - 1 < 2 ^ r.AY.length
      obtain ⟨d, hd⟩ : ∃ d, r.AY.length = d + 1 := ⟨r.AY.length - 1, by omega⟩
      rw [hd, Int.pow_succ]
      have := Fk d
      omega
    · have hj : j < r.AY.length := (List.getElem?_eq_some_iff.1 hy).1
      have := Sk hj
      change DE (2 ^ r.AY.length - 1) (j : Int) = false at hb
      rw [this] at hb
      cases hb
  · exact h.sl i x hx
theorem C7.take (h : C7 c b r) {j : Int} (hj : (j.toNat) < r.AY.length) (he : DN r j = false) : C7 c b (E2 r j) where
 cap := h.cap
 rd := by have := h.rd; simpa [E2] using this
 t0 := h.t0
 tb := h.tb
 h0 x hx := by
  simp only [DN, decide_eq_false_iff_not] at he
  obtain ⟨k, hk⟩ := List.getElem?_of_mem hx
  have hd0 : r.AY[j.toNat]? = some (hd r j) := Dw hj
  have h1 := h.h0 _ (List.mem_of_getElem? hd0)
  rcases FJ hk hj with ⟨rfl, rfl⟩ | ⟨_, hk⟩
  · show 0 ≤ hd r j + 1 ∧ hd r j + 1 ≤ r.Aq ∧ r.Aq - (hd r j + 1) ≤ c.Cn
    omega
  · exact h.h0 x (List.mem_of_getElem? hk)
 sl i x hx := by
  have hl : (E2 r j).AY.length = r.AY.length := by simp [E2]
  rw [hl]
  refine (h.sl i x hx).mono (Int.le_refl _) fun k y hy => ?_
  rcases FJ hy hj with ⟨rfl, rfl⟩ | ⟨_, hk⟩
  · exact ⟨_, Dw hj, by show hd r j ≤ hd r j + 1; omega⟩
  · exact ⟨y, hk, Int.le_refl _⟩
theorem C7.close (h : C7 c b r) : C7 c b { r with Aw := true } where
 cap := h.cap
 rd := h.rd
 t0 := h.t0
 tb := h.tb
 h0 := h.h0
 sl := h.sl
end
theorem Q8 : ∀ (x : Fin 256) (j k : Fin 8), DE (x.val : Int) (j.val : Int) = true → DE ((x.val : Int) - 2 ^ j.val) (k.val : Int) = (DE (x.val : Int) (k.val : Int) && !decide (k = j)) ∧ (0 : Int) ≤ (x.val : Int) - 2 ^ j.val := by decide +kernel
theorem Ky {x : Int} {j k n : Nat} (h0 : 0 ≤ x) (h1 : x < 2 ^ n) (hn : n ≤ 8) (hj : j < n) (hk : k < n) (hb : DE x (j : Int) = true) :
 DE (x - 2 ^ j) (k : Int) = (DE x (k : Int) && !decide (k = j)) ∧ 0 ≤ x - 2 ^ j := by
 have h2 : (2 : Int) ^ n ≤ 2 ^ 8 := by
  have := Nat.pow_le_pow_right (n := 2) (by decide) hn
  exact_mod_cast this
 have e : ((x.toNat : Nat) : Int) = x := Int.toNat_of_nonneg h0
 have := Q8 ⟨x.toNat, by omega⟩ ⟨j, by omega⟩ ⟨k, by omega⟩
 simp only [e, Fin.mk.injEq] at this
 exact this hb
theorem Q9 (k : Int) : DE 0 k = false := by simp [DE]
section
variable {c : TRg} {b : Int} {r : MR}
theorem C7.rel (h : C7 c b r) (hc : A1 c = true) {j t : Int} (hj0 : 0 ≤ j) (hj : j.toNat < r.AY.length) (hh : Ke r j t = true) (hb : b ≤ 2305843009213693952) : C7 c b (Qk r j t) where
 cap := by have := h.cap; simpa [Qk] using this
 rd := h.rd
 t0 := h.t0
 tb := h.tb
 h0 := h.h0
 sl i x hx := by
  simp only [Ke, decide_eq_true_eq] at hh
  obtain ⟨hlt, hst, hbit⟩ := hh
  rcases FJ hx (KQ h hc t) with ⟨rfl, rfl⟩ | ⟨_, hx⟩
  · have hS := h.sl _ _ (Ig h hc t)
    have hrc := FR hc
    have hrd := h.rd
    have htb := h.tb
    have hcap : He r = c.Cn := h.cap
    have hd0 : r.AY[j.toNat]? = some (hd r j) := Dw hj
    have hhd := h.h0 _ (List.mem_of_getElem? hd0)
    have hs0 := hS.s0
    have hm : (Av r t).AO % 2 = 1 := by omega
    have hdv : (Av r t).AO / 2 = t := by omega
    have hheld := hS.held hm
    have hjn : ((j.toNat : Nat) : Int) = j := Int.toNat_of_nonneg hj0
    have hclr : ∀ k : Nat, k < r.AY.length → DE ((Av r t).Left - 2 ^ j.toNat) (k : Int) = (DE (Av r t).Left (k : Int) && !decide (k = j.toNat)) ∧ 0 ≤ (Av r t).Left - 2 ^ j.toNat :=
     fun k hk => Ky (by omega) hheld.2 (by omega) hj hk (by rw [hjn]; exact hbit)
    have hlow : ∀ (k : Nat) (y : Int), r.AY[k]? = some y → DE ((Av r t).Left - 2 ^ j.toNat) (k : Int) = false → t < y := by
     intro k y hy hbk
     have hk : k < r.AY.length := (List.getElem?_eq_some_iff.1 hy).1
     rw [(hclr k hk).1] at hbk
     by_cases e : k = j.toNat
     · subst e; rw [hd0] at hy; cases hy; exact hlt
     · simp only [e, decide_false, Bool.not_false, Bool.and_true] at hbk
       have := hS.Th hm k y hy hbk
       omega
    unfold Kf
    split
    · rename_i hz
      rw [hz] at hlow
      rw [hcap]
      have e : 2 * (t + c.Cn) / 2 = t + c.Cn := by omega
      refine ⟨by show 0 ≤ 2 * (t + c.Cn); omega, by show 2 * (t + c.Cn) < _; omega, ?_, fun _ => ⟨rfl, rfl⟩, fun k => by exfalso; change 2 * (t + c.Cn) % 2 = 1 at k; omega, fun k => by exfalso; change 2 * (t + c.Cn) % 2 = 1 at k; omega,
       fun k => by exfalso; change 2 * (t + c.Cn) % 2 = 1 at k; omega, fun _ _ y hy => ?_⟩
      · show 2 * (t + c.Cn) / 2 % c.Cn = _
        rw [e, Int.add_emod_right]
        exact Rr h hc t
      · show 2 * (t + c.Cn) / 2 - c.Cn < y
        obtain ⟨k, hk⟩ := List.getElem?_of_mem hy
        have := hlow k y hk (Q9 _)
        omega
    · rename_i hz
      have h2 := (hclr _ hj).2
      have hp := Fk j.toNat
      exact ⟨hS.s0, hS.s1, hS.Uq, fun k => by exfalso; change (Av r t).AO % 2 = 0 at k; omega, fun _ => ⟨by show 1 ≤ (Av r t).Left - 2 ^ j.toNat; omega, by show (Av r t).Left - 2 ^ j.toNat < 2 ^ r.AY.length; omega⟩, hS.Pu,
       fun _ k y hy hbk => by show (Av r t).AO / 2 < y; rw [hdv]; exact hlow k y hy hbk, fun k => by exfalso; change (Av r t).AO % 2 = 0 at k; omega⟩
  · exact h.sl i x hx
theorem Ko {α : Type} (f : Nat → α) (n i : Nat) (x : α) (h : ((List.range n).map f)[i]? = some x) : i < n ∧ x = f i := by
 simp only [List.getElem?_map, Option.map_eq_some_iff] at h
 obtain ⟨k, hk, rfl⟩ := h
 obtain ⟨h1, h2⟩ := List.getElem?_eq_some_iff.1 hk
 simp at h1 h2
 subst h2
 exact ⟨h1, rfl⟩
theorem C7.new (hc : A1 c = true) (hb : 0 < b) : C7 c b (GS c) where
 cap := by have := FR hc; simp [GS]; omega
 rd := by have := FR hc; simp [GS]; omega
 t0 := Int.le_refl _
 tb := hb
 h0 x hx := by
  have := FR hc
  simp only [GS, List.mem_replicate] at hx
  obtain ⟨_, rfl⟩ := hx
  show (0 : Int) ≤ 0 ∧ (0 : Int) ≤ 0 ∧ (0 : Int) - 0 ≤ c.Cn
  omega
 sl i x hx := by
  have hcp := FR hc
  obtain ⟨hi, rfl⟩ := Ko _ _ _ _ hx
  refine ⟨by show 0 ≤ 2 * (i : Int); omega, by show 2 * (i : Int) < _; omega, ?_, fun _ => ⟨rfl, rfl⟩, fun k => by exfalso; change 2 * (i : Int) % 2 = 1 at k; omega, fun k => by exfalso; change 2 * (i : Int) % 2 = 1 at k; omega,
   fun k => by exfalso; change 2 * (i : Int) % 2 = 1 at k; omega, fun _ k => by exfalso; change c.Cn ≤ 2 * (i : Int) / 2 at k; omega⟩
  show 2 * (i : Int) / 2 % c.Cn = i
  rw [show 2 * (i : Int) / 2 = i by omega]
  exact Int.emod_eq_of_lt (by omega) (by omega)
end
end
section
theorem Hb {l : List TIn} {n : Int} (h0 : 0 ≤ n) (h1 : n < l.length) : gI l n ∈ l := by
 have : n.toNat < l.length := by omega
 exact List.mem_of_getElem? (Dw this)
theorem A6 {i : TIn} (h : Bg i = true) :
 (1 ≤ i.Op ∧ i.Op ≤ 25) ∧ (0 ≤ i.A ∧ i.A ≤ 7) ∧ (0 ≤ i.B ∧ i.B ≤ 7) ∧ (0 ≤ i.C ∧ i.C ≤ 7) ∧ (0 ≤ i.D ∧ i.D ≤ 2) ∧ (i.Op ≠ 1 → 0 ≤ i.K ∧ i.K ≤ 256) ∧ (i.Op = 19 → i.K ≤ 7) := by
 unfold Bg at h
 simp only at h
 repeat' split at h
 all_goals first | (exact absurd h (by decide)) | (simp only [Bool.and_eq_true, decide_eq_true_eq] at h; omega)
theorem GK {rs : List TRg} {i : TIn} {n : Int} (h : C4 rs i n = 0) :
 Bg i = true ∧ (15 ≤ i.Op ∧ i.Op ≤ 17 → i.K ≤ n) ∧ (18 ≤ i.Op ∧ i.Op ≤ 20 → i.C < rs.length) ∧ (i.Op = 19 → i.K < (rs.getD i.C.toNat ⟨0, 0, 0⟩).AU) := by
 unfold C4 at h
 repeat' split at h
 all_goals first
  | (exfalso; omega)
  | (refine ⟨?_, ?_, ?_, ?_⟩
     · cases e : Bg i
       · exact absurd e ‹_›
       · rfl
     all_goals (intro hh; omega))
def Gx (rs : List TRg) (l : List TIn) : Prop := ∀ i ∈ l, C4 rs i l.length = 0
section
variable {rs : List TRg} {l : List TIn} {t : MT}
structure Kept (t u : MT) : Prop where
 ph : u.Phase = t.Phase
 rg : u.Ring = t.Ring
 st : u.Status = t.Status
 tk : u.AG = t.AG
 sn : u.Seen = t.Seen
theorem Kept.refl (t : MT) : Kept t t := ⟨rfl, rfl, rfl, rfl, rfl⟩
theorem Kept.trans {t u v : MT} (a : Kept t u) (b : Kept u v) : Kept t v := ⟨b.ph.trans a.ph, b.rg.trans a.rg, b.st.trans a.st, b.tk.trans a.tk, b.sn.trans a.sn⟩
theorem Qt (i : TIn) (t : MT) : Kept t (Dh i t) := by
 unfold Dh
 repeat' split
 all_goals exact ⟨rfl, rfl, rfl, rfl, rfl⟩
theorem MI {i : TIn} {t : MT} {n : Int} (h0 : 0 ≤ t.At) (h1 : t.At < n) (hk : i.Op ≠ 1 → 0 ≤ i.K) (hj : 15 ≤ i.Op ∧ i.Op ≤ 17 → i.K ≤ n) : 0 ≤ (Dh i t).At ∧ (Dh i t).At ≤ n := by
 unfold Dh
 repeat' split
 all_goals (simp only; omega)
theorem G0 (hc : Gx rs l) : ∀ (n : Nat) (t : MT), 0 ≤ t.At → t.At ≤ l.length → Kept t (Dn l n t) ∧ 0 ≤ (Dn l n t).At ∧ (Dn l n t).At ≤ l.length
 | 0, t, h0, h1 => ⟨Kept.refl t, h0, h1⟩
 | n + 1, t, h0, h1 => by
   unfold Dn
   split
   · rename_i h
     have hm := Hb h0 h.1
     have hf := GK (hc _ hm)
     have hr := A6 hf.1
     have hs := MI (i := gI l t.At) h0 h.1 (fun k => (hr.2.2.2.2.2.1 k).1) hf.2.1
     obtain ⟨k1, k2⟩ := G0 hc n (Dh (gI l t.At) t) hs.1 hs.2
     exact ⟨(Qt _ _).trans k1, k2⟩
   · exact ⟨Kept.refl t, h0, h1⟩
theorem Es.kept {t u : MT} (h : Es l t) (hp : t.Phase = 0) (k : Kept t u) (h0 : 0 ≤ u.At) (h1 : u.At ≤ l.length) : Es l u where
 a0 := h0
 a1 := h1
 st := by rw [k.st]; exact h.st
 ph := by rw [k.ph]; exact h.ph
 p0 _ := by rw [k.rg, k.tk]; exact h.p0 hp
 p1 q := by rw [k.ph] at q; exact absurd hp q
theorem Lo (hc : Gx rs l) (h : Es l t) : Kept t (Ba l t).1 ∧ Es l (Ba l t).1 := by
 unfold Ba
 repeat' split
 · exact ⟨Kept.refl t, h⟩
 · exact ⟨Kept.refl t, h⟩
 · exact ⟨Kept.refl t, h⟩
 · have hp : t.Phase = 0 := by have := h.ph; omega
   obtain ⟨k1, k2, k3⟩ := G0 hc 256 t h.a0 h.a1
   exact ⟨k1, h.kept hp k1 k2 k3⟩
structure QC (l : List TIn) (t n : MT) (a : MA) : Prop where
 run : a.Kind ≠ 0 → t.Status = 0
 k1 : a.Kind = 1 → n.Phase = 0 ∧ n.At < l.length ∧ (gI l n.At).Op = 18 ∧ a.Ring = (gI l n.At).C
 k2 : a.Kind = 2 → n.Phase = 0 ∧ n.At < l.length ∧ (gI l n.At).Op = 19 ∧ a.Ring = (gI l n.At).C ∧ a.Reader = (gI l n.At).K
 k3 : a.Kind = 3 → n.Phase = 0 ∧ n.At < l.length ∧ (gI l n.At).Op = 20 ∧ a.Ring = (gI l n.At).C
 kn : 4 ≤ a.Kind ∧ a.Kind ≤ 7 → n.Phase = 0 ∧ n.At < l.length
 kh : a.Kind = 8 ∨ a.Kind = 9 → n.Phase = 0
 kp : a.Kind = 10 → n.Phase = 1 ∧ n.At < l.length ∧ a.Ring = n.Ring ∧ a.AG = n.AG
 kr : a.Kind = 11 → n.Phase = 2 ∧ n.At < l.length ∧ a.Ring = n.Ring ∧ a.AG = n.AG ∧ a.Reader = (gI l n.At).K
 ks : a.Kind = 7 → n.Phase = 0
 top : 0 ≤ a.Kind ∧ a.Kind ≤ 11
theorem OL (hc : Gx rs l) (h : Es l t) : QC l t (Ba l t).1 (Ba l t).2 := by
 unfold Ba
 split
 · refine ⟨fun k => absurd rfl k, ?_, ?_, ?_, ?_, ?_, ?_, ?_, ?_, ?_⟩ <;> simp [zA]
 rename_i hs
 have hs : t.Status = 0 := by omega
 split
 · rename_i hp
   have := h.p1 (by omega)
   refine ⟨fun _ => hs, ?_, ?_, ?_, ?_, ?_, ?_, ?_, ?_, ?_⟩ <;> simp [hp]
   exact this.2.1
 split
 · rename_i hp
   have := h.p1 (by omega)
   refine ⟨fun _ => hs, ?_, ?_, ?_, ?_, ?_, ?_, ?_, ?_, ?_⟩ <;> simp [hp]
   exact this.2.1
 have hp : t.Phase = 0 := by have := h.ph; omega
 obtain ⟨k1, k2, k3⟩ := G0 hc 256 t h.a0 h.a1
 generalize Dn l 256 t = n at k1 k2 k3
 have hn : n.Phase = 0 := by rw [k1.ph, hp]
 simp only [EZ]
 repeat' split
 all_goals (refine ⟨fun _ => hs, ?_, ?_, ?_, ?_, ?_, ?_, ?_, ?_, ?_⟩ <;> simp [zA, hn] <;> omega)
end
end
section
theorem BX {e : TEv} (h : BU e = true) : (1 ≤ e.Kind ∧ e.Kind ≤ 15) ∧ (0 ≤ e.Thread ∧ e.Thread ≤ 7) ∧ (0 ≤ e.Ring ∧ e.Ring ≤ 7) ∧ e.AG < 4611686018427387904 ∧
 (Bn e.Kind = true ∨ e.Ring = 0) ∧ (Au e.Kind = true ∨ e.AG = 0) ∧ (B1 e.Kind = true ∨ e.Value = 0) := by
 simpa only [BU, decide_eq_true_eq] using h
theorem BW {k : Int} : Bn k = true ↔ (1 ≤ k ∧ k ≤ 7 ∨ k = 13) := by simp only [Bn, decide_eq_true_eq]
theorem Am {k : Int} : Au k = true ↔ (1 ≤ k ∧ k ≤ 4 ∨ k = 13) := by simp only [Au, decide_eq_true_eq]
structure T0 (a : MA) (e : TEv) : Prop where
 rg : Bn e.Kind = true → a.Ring = e.Ring
 f1 : e.Kind = 1 → a.Kind = 1
 f2 : e.Kind = 2 → a.Kind = 10 ∧ a.AG = e.AG
 f3 : e.Kind = 3 → a.Kind = 2
 f4 : e.Kind = 4 → a.Kind = 11 ∧ a.AG = e.AG
 f5 : 5 ≤ e.Kind ∧ e.Kind ≤ 7 → a.Kind = 1 ∨ a.Kind = 2
 f8 : e.Kind = 8 → a.Kind = 4
 f9 : e.Kind = 9 → a.Kind = 5
 f10 : e.Kind = 10 ∨ e.Kind = 11 → a.Kind = 6
 f12 : e.Kind = 12 → a.Kind = 7 ∧ a.Value = e.Value
 f13 : e.Kind = 13 → a.Kind = 3
 f14 : e.Kind = 14 → a.Kind = 8
 f15 : e.Kind = 15 → a.Kind = 9
theorem Mn {a : MA} {e : TEv} (hr : BU e = true) (h : CH a e = true) : T0 a e := by
 have hk := (BX hr).1
 simp only [CH, Bool.and_eq_true, Bool.or_eq_true, Bool.not_eq_true', decide_eq_true_eq] at h
 obtain ⟨h1, h2⟩ := h
 have h1 : Bn e.Kind = true → a.Ring = e.Ring := fun k => by
  rcases h1 with h1 | h1
  · rw [h1] at k; cases k
  · exact h1
 have hd : e.Kind = 1 ∨ e.Kind = 2 ∨ e.Kind = 3 ∨ e.Kind = 4 ∨ e.Kind = 5 ∨ e.Kind = 6 ∨ e.Kind = 7 ∨ e.Kind = 8 ∨ e.Kind = 9 ∨ e.Kind = 10 ∨ e.Kind = 11 ∨ e.Kind = 12 ∨ e.Kind = 13 ∨ e.Kind = 14 ∨ e.Kind = 15 := by omega
 rcases hd with q | q | q | q | q | q | q | q | q | q | q | q | q | q | q
 all_goals (simp [q, E1] at h2; refine ⟨h1, ?_, ?_, ?_, ?_, ?_, ?_, ?_, ?_, ?_, ?_, ?_, ?_⟩ <;> intro hh <;> omega)
section
variable {l : List TIn} {t n : MT} {a : MA} {e : TEv} {v : Int}
theorem VA (i : TIn) (h : e.Kind = 1) : BJ i n e v = { n with Phase := 1, Ring := e.Ring, AG := e.AG } := by unfold BJ; rw [if_pos h]
theorem U9 (i : TIn) (h : e.Kind = 3) : BJ i n e v = { n with Phase := 2, Ring := e.Ring, AG := e.AG } := by unfold BJ; rw [if_neg (by omega), if_pos h]
theorem So (i : TIn) (h : e.Kind = 14) : BJ i n e v = { n with Status := 1 } := by unfold BJ; rw [if_neg (by omega), if_neg (by omega), if_pos h]
theorem Sn (i : TIn) (h : e.Kind = 15) : BJ i n e v = { n with Status := 2 } := by unfold BJ; rw [if_neg (by omega), if_neg (by omega), if_neg (by omega), if_pos h]
theorem bTe (i : TIn) (h1 : e.Kind ≠ 1) (h3 : e.Kind ≠ 3) (h14 : e.Kind ≠ 14) (h15 : e.Kind ≠ 15) :
 (BJ i n e v).At = n.At + 1 ∧ (BJ i n e v).Phase = 0 ∧ (BJ i n e v).Ring = 0 ∧ (BJ i n e v).AG = 0 ∧ (BJ i n e v).Status = n.Status ∧
   (BJ i n e v).Seen = (if e.Kind = 12 then n.Seen ++ [e.Value] else n.Seen) := by
 unfold BJ
 rw [if_neg h1, if_neg h3, if_neg h14, if_neg h15]
 exact ⟨rfl, rfl, rfl, rfl, rfl, rfl⟩
theorem PU (hr : BU e = true) (h0 : 0 ≤ e.AG) (hq : QC l t n a) (hn : Es l n) (hst : n.Status = t.Status) (ha : a.Kind ≠ 0) (hf : T0 a e) : Es l (BJ (gI l n.At) n e v) := by
 have hk := BX hr
 have hrun : n.Status = 0 := hst.trans (hq.run ha)
 have hkr := BW (k := e.Kind)
 by_cases he : e.Kind = 1
 · rw [VA _ he]
   have h1 := hq.k1 (hf.f1 he)
   have h2 := hf.rg (hkr.2 (by omega))
   exact ⟨hn.a0, hn.a1, hn.st, by simp, by simp, fun _ => ⟨hrun, h1.2.1, by rw [h1.2.2.1]; rfl, by rw [← h1.2.2.2, h2], h0, hk.2.2.2.1⟩⟩
 by_cases he3 : e.Kind = 3
 · rw [U9 _ he3]
   have h1 := hq.k2 (hf.f3 he3)
   have h2 := hf.rg (hkr.2 (by omega))
   exact ⟨hn.a0, hn.a1, hn.st, by simp, by simp, fun _ => ⟨hrun, h1.2.1, by rw [h1.2.2.1]; rfl, by rw [← h1.2.2.2.1, h2], h0, hk.2.2.2.1⟩⟩
 by_cases he14 : e.Kind = 14
 · rw [So _ he14]
   have h1 := hq.kh (.inl (hf.f14 he14))
   exact ⟨hn.a0, hn.a1, by simp, hn.ph, hn.p0, fun k => absurd h1 k⟩
 by_cases he15 : e.Kind = 15
 · rw [Sn _ he15]
   have h1 := hq.kh (.inr (hf.f15 he15))
   exact ⟨hn.a0, hn.a1, by simp, hn.ph, hn.p0, fun k => absurd h1 k⟩
 have JU : n.At < l.length := by
  have b2 := hf.f2; have b4 := hf.f4; have b5 := hf.f5; have b8 := hf.f8; have b9 := hf.f9; have b10 := hf.f10; have b12 := hf.f12; have b13 := hf.f13
  have hd : e.Kind = 2 ∨ e.Kind = 4 ∨ (5 ≤ e.Kind ∧ e.Kind ≤ 7) ∨ (8 ≤ e.Kind ∧ e.Kind ≤ 12) ∨ e.Kind = 13 := by omega
  rcases hd with h | h | h | h | h
  · exact (hq.kp (b2 h).1).2.1
  · exact (hq.kr (b4 h).1).2.1
  · rcases b5 h with q | q
    · exact (hq.k1 q).2.1
    · exact (hq.k2 q).2.1
  · refine (hq.kn ?_).2
    have : e.Kind = 8 ∨ e.Kind = 9 ∨ (e.Kind = 10 ∨ e.Kind = 11) ∨ e.Kind = 12 := by omega
    rcases this with q | q | q | q
    · have := b8 q; omega
    · have := b9 q; omega
    · have := b10 q; omega
    · have := b12 q; omega
  · exact (hq.k3 (b13 h)).2.1
 have := hn.a0
 obtain ⟨e1, e2, e3, e4, e5, _⟩ := bTe (v := v) (n := n) (gI l n.At) he he3 he14 he15
 exact ⟨by rw [e1]; omega, by rw [e1]; omega, by rw [e5]; exact hn.st, by rw [e2]; simp, fun _ => ⟨e3, e4⟩, fun k => absurd e2 k⟩
theorem NP {c : TRg} {b : Int} {r : MR} (h : C7 c b r) (hc : A1 c = true) (hb : b ≤ 2305843009213693952) (h0 : 0 ≤ e.AG) (hrd : a.Kind = 2 ∨ a.Kind = 11 → 0 ≤ a.Reader ∧ a.Reader < c.AU)
 (hf : T0 a e) (ht : Ca r a e = true) : C7 c (b + 1) (Bq r a e) := by
 unfold Bq
 unfold Ca at ht
 have hl := h.rd
 split
 · rename_i he
   rw [if_pos he] at ht
   simp only [Bool.and_eq_true, Bool.not_eq_true', decide_eq_true_eq] at ht
   exact h.T8 ht.1
 rename_i h1
 rw [if_neg h1] at ht
 split
 · rename_i he
   rw [if_pos he] at ht
   exact (h.put hc ht h0 (by omega)).mono (by omega)
 rename_i h2
 rw [if_neg h2] at ht
 split
 · rename_i he
   rw [if_pos he] at ht
   simp only [Bool.and_eq_true, Bool.not_eq_true', decide_eq_true_eq] at ht
   have := hrd (.inl (hf.f3 he))
   exact (h.take (by omega) ht.1).mono (by omega)
 rename_i h3
 rw [if_neg h3] at ht
 split
 · rename_i he
   rw [if_pos he] at ht
   have := hrd (.inr (hf.f4 he).1)
   exact (h.rel hc this.1 (by omega) ht hb).mono (by omega)
 split
 · exact h.close.mono (by omega)
 · exact h.mono (by omega)
theorem KH (r : MR) (a : MA) (e : TEv) : r.Aq ≤ (Bq r a e).Aq ∧ (e.Kind = 1 → (Bq r a e).Aq = r.Aq + 1) ∧ (e.Kind ≠ 1 → (Bq r a e).Aq = r.Aq) := by
 unfold Bq
 repeat' split
 all_goals (refine ⟨?_, fun h => ?_, fun h => ?_⟩ <;> (try simp [Nu, E2, Qk]) <;> (try omega))
theorem S6 {r : MR} {j k : Int} : hd r k ≤ hd (E2 r j) k := by
 simp only [hd, E2]
 by_cases e : j.toNat = k.toNat
 · by_cases h : j.toNat < r.AY.length
   · rw [← e, FY h]; omega
   · rw [List.set_eq_of_length_le (by omega)]; omega
 · rw [getD_set_ne e]; omega
theorem Ri (r : MR) (a : MA) (e : TEv) (k : Int) : hd r k ≤ hd (Bq r a e) k := by
 unfold Bq
 split
 · exact Int.le_refl _
 split
 · exact Int.le_refl _
 split
 · exact S6
 split
 · exact Int.le_refl _
 split <;> exact Int.le_refl _
end
end
section
section
variable {p : MP} {b : Int} {s : MS} {e : TEv}
structure DF (p : MP) (s : MS) (e : TEv) : Prop where
 re : BU e = true
 lt : e.Thread.toNat < s.AB.length
 th : 0 ≤ e.Thread
 a0 : (A2 p s e.Thread).Kind ≠ 0
 ft : CH (A2 p s e.Thread) e = true
theorem fitting (h : Dl p s e = 0) : DF p s e := by
 unfold Dl at h
 split at h
 · omega
 rename_i h1
 split at h
 · omega
 rename_i h2
 split at h
 · omega
 rename_i h3
 have hr : BU e = true := by cases q : BU e <;> simp_all
 have hk := BX hr
 refine ⟨hr, by omega, hk.2.1.1, fun q => h3 (.inl q), ?_⟩
 cases q : CH (A2 p s e.Thread) e
 · exact absurd (.inr q) h3
 · rfl
theorem WB : Dl p s e = 0 ↔ DF p s e := by
 refine ⟨fitting, fun h => ?_⟩
 have := h.lt
 have := h.th
 unfold Dl
 rw [if_neg (by rw [h.re]; simp), if_neg (by omega), if_neg (by rw [h.ft]; simp [h.a0])]
theorem P0 (h : Dj p b s) {i : Nat} {l : List TIn} (hl : p.AB[i]? = some l) : Gx p.AJ l := h.pi.ins l (List.mem_of_getElem? hl)
theorem UG {t : Int} (h : t.toNat < s.AB.length) : s.AB[t.toNat]? = some (KA s t) := Dw h
theorem J0 (h : Dj p b s) {t : Int} (k : t.toNat < s.AB.length) : p.AB[t.toNat]? = some (Bi p t) := Dw (by rw [← h.nt]; exact k)
theorem UI {i : Int} (h : i.toNat < s.AJ.length) : s.AJ[i.toNat]? = some (CP s i) := Dw h
def II (p : MP) (i : Int) : TRg := p.AJ.getD i.toNat ⟨0, 0, 0⟩
theorem PO {i : Int} (h : i.toNat < p.AJ.length) : p.AJ[i.toNat]? = some (II p i) := Dw h
theorem Dj.KG (h : Dj p b s) {i : Int} (k : i.toNat < p.AJ.length) : C7 (II p i) b (CP s i) ∧ A1 (II p i) = true :=
 ⟨h.ri _ _ _ (PO k) (UI (by rw [h.nr]; exact k)), h.pi.rg _ (List.mem_of_getElem? (PO k))⟩
theorem Dj.Hk (h : Dj p b s) {t : Int} (k : t.toNat < s.AB.length) : Es (Bi p t) (KA s t) := h.ti _ _ _ (J0 h k) (UG k)
theorem Dj.asked (h : Dj p b s) {t : Int} (k : t.toNat < s.AB.length) :
 QC (Bi p t) (KA s t) (Ba (Bi p t) (KA s t)).1 (A2 p s t) ∧ Es (Bi p t) (Ba (Bi p t) (KA s t)).1 ∧ Kept (KA s t) (Ba (Bi p t) (KA s t)).1 ∧ Gx p.AJ (Bi p t) := by
 have hc := P0 h (J0 h k)
 have hk := Lo hc (h.Hk k)
 exact ⟨OL hc (h.Hk k), hk.2, hk.1, hc⟩
theorem IL (h : Dj p b s) {t : Int} (k : t.toNat < s.AB.length) {a : MA} (ha : a = A2 p s t) (hk : a.Kind = 1 ∨ a.Kind = 2 ∨ a.Kind = 3 ∨ a.Kind = 10 ∨ a.Kind = 11) :
 0 ≤ a.Ring ∧ a.Ring.toNat < p.AJ.length ∧ (a.Kind = 2 ∨ a.Kind = 11 → 0 ≤ a.Reader ∧ a.Reader < (II p a.Ring).AU) := by
 obtain ⟨hq, hn, _, hc⟩ := h.asked k
 rw [← ha] at hq
 generalize (Ba (Bi p t) (KA s t)).1 = n at hq hn
 generalize Bi p t = l at hq hn hc
 have key : ∀ {i : TIn}, i ∈ l → 18 ≤ i.Op ∧ i.Op ≤ 20 → 0 ≤ i.C ∧ i.C.toNat < p.AJ.length ∧ (i.Op = 19 → 0 ≤ i.K ∧ i.K < (II p i.C).AU) := by
  intro i hi ho
  have h1 := GK (hc i hi)
  have h2 := A6 h1.1
  have h3 := h1.2.2.1 ho
  exact ⟨by omega, by omega, fun q => ⟨(h2.2.2.2.2.2.1 (by omega)).1, h1.2.2.2 q⟩⟩
 have a0 := hn.a0
 rcases hk with q | q | q | q | q
 · obtain ⟨_, h1, h2, h3⟩ := hq.k1 q
   have := key (Hb a0 h1) (by omega)
   rw [h3]
   exact ⟨this.1, this.2.1, by omega⟩
 · obtain ⟨_, h1, h2, h3, h4⟩ := hq.k2 q
   have := key (Hb a0 h1) (by omega)
   rw [h3, h4]
   exact ⟨this.1, this.2.1, fun _ => this.2.2 h2⟩
 · obtain ⟨_, h1, h2, h3⟩ := hq.k3 q
   have := key (Hb a0 h1) (by omega)
   rw [h3]
   exact ⟨this.1, this.2.1, by omega⟩
 · obtain ⟨h0, h1, h2, h3⟩ := hq.kp q
   obtain ⟨_, _, h4, h5, _⟩ := hn.p1 (by omega)
   have := key (Hb a0 h1) (by omega)
   rw [h2, ← h5]
   exact ⟨this.1, this.2.1, by omega⟩
 · obtain ⟨h0, h1, h2, h3, h6⟩ := hq.kr q
   obtain ⟨_, _, h4, h5, _⟩ := hn.p1 (by omega)
   have := key (Hb a0 h1) (by omega)
   rw [h2, ← h5, h6]
   exact ⟨this.1, this.2.1, fun _ => this.2.2 (by omega)⟩
theorem Gs (h : Dj p b s) (f : DF p s e) (hk : Bn e.Kind = true) :
 0 ≤ e.Ring ∧ e.Ring.toNat < p.AJ.length ∧ ((A2 p s e.Thread).Kind = 2 ∨ (A2 p s e.Thread).Kind = 11 → 0 ≤ (A2 p s e.Thread).Reader ∧ (A2 p s e.Thread).Reader < (II p e.Ring).AU) := by
 have hf := Mn f.re f.ft
 have hr := hf.rg hk
 rw [← hr]
 refine IL h f.lt rfl ?_
 rw [BW] at hk
 have h1 := hf.f1; have h2 := hf.f2; have h3 := hf.f3; have h4 := hf.f4; have h5 := hf.f5; have h13 := hf.f13
 omega
end
end
section
section
variable {p : MP} {b : Int} {s : MS} {e : TEv}
theorem Pg {rs : List MR} {i : Nat} {r : MR} (k : i < rs.length) (j : Int) : (rs.set i r).getD j.toNat zR = if j.toNat = i then r else rs.getD j.toNat zR := by
 by_cases q : i = j.toNat
 · rw [if_pos q.symm, ← q, FY k]
 · rw [if_neg (Ne.symm q), getD_set_ne q]
theorem Kz (h : Dj p b s) (f : DF p s e) (i : Int) : (CP s i).Aq ≤ (CP (D2 p s e) i).Aq ∧ ∀ k, hd (CP s i) k ≤ hd (CP (D2 p s e) i) k := by
 unfold CP D2
 simp only
 split
 · rename_i q
   have hk : Bn e.Kind = true := by rw [BW]; rw [Am] at q; omega
   have hr := Gs h f hk
   rw [Pg (by rw [h.nr]; exact hr.2.1)]
   split
   · rename_i q2
     rw [q2]
     exact ⟨(KH _ _ _).1, fun k => Ri _ _ _ _⟩
   · exact ⟨Int.le_refl _, fun _ => Int.le_refl _⟩
 · exact ⟨Int.le_refl _, fun _ => Int.le_refl _⟩
theorem GW (h : Dj p b s) (f : DF p s e) (q : Au e.Kind = true) : CP (D2 p s e) e.Ring = Bq (CP s e.Ring) (A2 p s e.Thread) e := by
 have hk : Bn e.Kind = true := by rw [BW]; rw [Am] at q; omega
 have hr := Gs h f hk
 unfold CP D2
 simp only
 rw [if_pos q, Pg (by rw [h.nr]; exact hr.2.1), if_pos rfl]
 rfl
theorem Kl (h : Dj p b s) (hb : b ≤ 2305843009213693952) (he0 : 0 ≤ e.AG) (f : DF p s e) (ht : Au e.Kind = true → Ca (CP s e.Ring) (A2 p s e.Thread) e = true) :
 Dj p (b + 1) (D2 p s e) := by
 obtain ⟨hq, hn, hkp, hc⟩ := h.asked f.lt
 have hf := Mn f.re f.ft
 have hrg : Au e.Kind = true → 0 ≤ e.Ring ∧ e.Ring.toNat < p.AJ.length ∧ _ := fun q => Gs h f (by rw [BW]; rw [Am] at q; omega)
 have hT : Es (Bi p e.Thread) (BJ (gI (Bi p e.Thread) (Ba (Bi p e.Thread) (KA s e.Thread)).1.At) (Ba (Bi p e.Thread) (KA s e.Thread)).1 e (if e.Kind = 4 then (Av (CP s e.Ring) e.AG).Value else 0)) :=
  PU f.re he0 hq hn hkp.st f.a0 hf
 refine ⟨h.pi, by simp [D2, h.nt], ?_, ?_, ?_, ?_, ?_, ?_⟩
 · unfold D2; simp only; split <;> simp [h.nr]
 · have := h.n0
   unfold D2; simp only; split
   · omega
   · exact this
 · intro i c r hi hr
   unfold D2 at hr
   simp only at hr
   split at hr
   · rename_i q
     obtain ⟨r0, r1, r2⟩ := hrg q
     rcases FJ hr (by rw [h.nr]; exact r1) with ⟨rfl, rfl⟩ | ⟨_, hr⟩
     · have := h.KG r1
       rw [PO r1] at hi
       cases hi
       exact NP this.1 this.2 hb he0 r2 hf (ht q)
     · exact (h.ri i c r hi hr).mono (by omega)
   · exact (h.ri i c r hi hr).mono (by omega)
 · intro i l t hl hi
   rcases FJ (by simpa [D2] using hi) f.lt with ⟨rfl, rfl⟩ | ⟨_, hi⟩
   · rw [J0 h f.lt] at hl
     cases hl
     exact hT
   · exact h.ti i l t hl hi
 · intro i t hi hp
   rcases FJ (by simpa [D2] using hi) f.lt with ⟨rfl, rfl⟩ | ⟨_, hi⟩
   · by_cases he : e.Kind = 1
     · rw [VA _ he] at hp ⊢
       have q : Au e.Kind = true := by rw [Am]; omega
       have h1 := ht q
       show e.AG < (CP (D2 p s e) e.Ring).Aq
       rw [GW h f q, (KH _ _ _).2.1 he]
       simp only [Ca, he, if_true, Bool.and_eq_true, decide_eq_true_eq] at h1
       omega
     by_cases he3 : e.Kind = 3
     · rw [U9 _ he3] at hp; simp at hp
     by_cases he14 : e.Kind = 14
     · rw [So _ he14] at hp
       have := hq.kh (.inl (hf.f14 he14))
       simp only at hp; omega
     by_cases he15 : e.Kind = 15
     · rw [Sn _ he15] at hp
       have := hq.kh (.inr (hf.f15 he15))
       simp only at hp; omega
     · rw [(bTe _ he he3 he14 he15).2.1] at hp; omega
   · have := h.p1 i t hi hp
     have := (Kz h f t.Ring).1
     omega
 · intro i l t hl hi hp
   rcases FJ (by simpa [D2] using hi) f.lt with ⟨rfl, rfl⟩ | ⟨_, hi⟩
   · rw [J0 h f.lt] at hl
     cases hl
     by_cases he : e.Kind = 1
     · rw [VA _ he] at hp; simp at hp
     by_cases he3 : e.Kind = 3
     · rw [U9 _ he3] at hp ⊢
       have q : Au e.Kind = true := by rw [Am]; omega
       have h1 := ht q
       obtain ⟨r0, r1, r2⟩ := hrg q
       have hk2 := hq.k2 (hf.f3 he3)
       show e.AG < hd (CP (D2 p s e) e.Ring) (gI (Bi p e.Thread) (Ba (Bi p e.Thread) (KA s e.Thread)).1.At).K
       rw [GW h f q, ← hk2.2.2.2.2]
       unfold Ca at h1
       rw [if_neg he, if_neg (by omega), if_pos he3] at h1
       simp only [Bool.and_eq_true, Bool.not_eq_true', decide_eq_true_eq] at h1
       have hR := (h.KG r1).1
       have hrd := r2 (.inl (hf.f3 he3))
       have hl := hR.rd
       have : Bq (CP s e.Ring) (A2 p s e.Thread) e = E2 (CP s e.Ring) (A2 p s e.Thread).Reader := by unfold Bq; rw [if_neg he, if_neg (by omega), if_pos he3]
       rw [this]
       have : hd (E2 (CP s e.Ring) (A2 p s e.Thread).Reader) (A2 p s e.Thread).Reader = hd (CP s e.Ring) (A2 p s e.Thread).Reader + 1 := by
        unfold hd E2
        rw [FY (by omega)]
        rfl
       rw [this]
       have := h1.2
       omega
     by_cases he14 : e.Kind = 14
     · rw [So _ he14] at hp
       have := hq.kh (.inl (hf.f14 he14))
       simp only at hp; omega
     by_cases he15 : e.Kind = 15
     · rw [Sn _ he15] at hp
       have := hq.kh (.inr (hf.f15 he15))
       simp only at hp; omega
     · rw [(bTe _ he he3 he14 he15).2.1] at hp; omega
   · have := h.p2 i l t hl hi hp
     have := (Kz h f t.Ring).2 (gI l t.At).K
     omega
theorem Dj.mono {b' : Int} (h : Dj p b s) (k : b ≤ b') : Dj p b' s := { h with ri := fun i c r hi hr => (h.ri i c r hi hr).mono k }
theorem H0 (hk : H3 s (A2 p s e.Thread) e = true) (hr : BU e = true) (q : Au e.Kind = true) : Ca (CP s e.Ring) (A2 p s e.Thread) e = true := by
 have h1 := (Am (k := e.Kind)).1 q
 unfold H3 at hk
 simp only at hk
 rw [if_neg (by omega), if_neg (by omega), if_neg (by omega), if_neg (by omega)] at hk
 split at hk
 · simp only [Bool.and_eq_true] at hk; exact hk.1
 · simpa [q] using hk
theorem Xc (h : Dj p b s) (hb : b ≤ 2305843009213693952) (he0 : 0 ≤ e.AG) : Dj p (b + 1) (RH p s e).2 := by
 unfold RH
 split
 · exact h.mono (by omega)
 split
 · exact h.mono (by omega)
 · rename_i h1 h2
   have f : DF p s e := fitting (by omega)
   refine Kl h hb he0 f fun q => H0 (p := p) ?_ f.re q
   cases hm : Ax p s e
   · exact absurd hm h2
   · simp only [Ax, Bool.and_eq_true] at hm; exact hm.2
theorem Pr (h : DP p) : Dj p 1 (Eo p) where
 pi := h
 nt := by simp [Eo]
 nr := by simp [Eo]
 n0 := Int.le_refl _
 ri i c r hi hr := by
  simp only [Eo, List.getElem?_map, hi, Option.map_some, Option.some.injEq] at hr
  subst hr
  exact C7.new (h.rg c (List.mem_of_getElem? hi)) (by decide)
 ti i l t hl hi := by
  simp only [Eo, List.getElem?_map, hl, Option.map_some, Option.some.injEq] at hi
  subst hi
  exact ⟨by decide, by simp [zT], by decide, by decide, fun _ => ⟨rfl, rfl⟩, fun k => absurd rfl k⟩
 p1 i t hi hp := by
  simp only [Eo, List.getElem?_map, Option.map_eq_some_iff] at hi
  obtain ⟨_, _, rfl⟩ := hi
  simp [zT] at hp
 p2 i l t hl hi hp := by
  simp only [Eo, List.getElem?_map, Option.map_eq_some_iff] at hi
  obtain ⟨_, _, rfl⟩ := hi
  simp [zT] at hp
end
end
section
def CD (z : Int) : Prop := 0 ≤ z ∧ z < 18446744073709551616
theorem CE : CD 0 := by unfold CD; decide
def Uo (op : Int) (x y : Nat) : Prop := op = 8 ∧ x + y = 2 ∨ op = 9 ∧ 0 < x + y ∨ op = 10 ∧ x + y = 1
instance (op : Int) (x y : Nat) : Decidable (Uo op x y) := by unfold Uo; infer_instance
def Jw (l : List Int) (n : Int) : Prop := n ∈ l ∧ ∀ x ∈ l, n ≤ x
theorem JP {r : MR} {n : Int} (h : Jw r.AY n) : EA r = true ↔ He r ≤ r.Aq - n := by
 simp only [EA, List.any_eq_true, decide_eq_true_eq]
 refine ⟨fun ⟨x, hx, hh⟩ => ?_, fun hh => ⟨n, h.1, hh⟩⟩
 have := h.2 x hx
 omega
theorem O8 : ∀ (x : Fin 256) (j : Fin 8), DE (x.val : Int) (j.val : Int) = true → Vm.bits .andNot IntKind.i64 (x.val : Int) (shl IntKind.i64 1 (j.val : Int)) = (x.val : Int) - 2 ^ j.val := by decide +kernel
end
section
section
variable {p : MP} {s : MS} {e : TEv}
theorem Ci (h : Ax p s e = true) : DF p s e ∧ Dl p s e = 0 ∧ H3 s (A2 p s e.Thread) e = true := by
 simp only [Ax, Bool.and_eq_true, decide_eq_true_eq] at h
 exact ⟨fitting h.1, h.1, h.2⟩
theorem GO (h : Ax p s e = true) : RH p s e = (0, D2 p s e) := by
 have := (Ci h).2.1
 unfold RH
 rw [if_neg (by omega), if_neg (by rw [h]; simp)]
theorem KM (h : Ax p s e = false) : (RH p s e).1 ≠ 0 ∧ (RH p s e).2 = s := by
 unfold RH
 by_cases h0 : Dl p s e ≠ 0
 · rw [if_pos h0]; exact ⟨h0, rfl⟩
 · rw [if_neg h0, if_pos h]; exact ⟨by show (11 : Int) ≠ 0; decide, rfl⟩
theorem Jz : (RH p s e).1 = 0 ↔ Ax p s e = true := by
 cases h : Ax p s e
 · exact ⟨fun k => absurd k (KM h).1, fun k => by cases k⟩
 · exact ⟨fun _ => rfl, fun _ => by rw [GO h]⟩
end
end
section
section
variable {e : TEv}
theorem B2 (q : Au e.Kind = true) : Bn e.Kind = true := by rw [BW]; rw [Am] at q; omega
end
end
section
def VP (p : MP) (m : MS) (tape : List Int) (pk ck dr : Int) (fire : Bool) : Option TEv :=
 let a := A2 p m pk
 let r := CP m a.Ring
 if a.Kind = 0 then none
 else if a.Kind = 1 ∨ a.Kind = 2 then
  (if GR r a = true then
    (if r.Aw = true then some ⟨pk, 6, a.Ring, 0, 0⟩ else if a.Mode = 0 then some ⟨pk, 5, a.Ring, 0, 0⟩ else if a.Mode = 2 ∧ fire = true then some ⟨pk, 7, a.Ring, 0, 0⟩ else none)
  else if a.Kind = 1 then some ⟨pk, 1, a.Ring, r.Aq, 0⟩ else some ⟨pk, 3, a.Ring, hd r a.Reader, 0⟩)
 else if a.Kind = 3 then some ⟨pk, 13, a.Ring, r.Aq, 0⟩
 else if a.Kind = 4 then some ⟨pk, 8, 0, 0, IntKind.u64.wrap (m.FD + ck % 1048576)⟩
 else if a.Kind = 5 then some ⟨pk, 9, 0, 0, dr⟩
 else if a.Kind = 6 then (if m.CF = true ∨ (tape.length : Int) ≤ m.Reads then some ⟨pk, 11, 0, 0, 0⟩ else some ⟨pk, 10, 0, 0, tape.getD m.Reads.toNat 0⟩)
 else if a.Kind = 7 then some ⟨pk, 12, 0, 0, a.Value⟩
 else if a.Kind = 8 then some ⟨pk, 14, 0, 0, 0⟩
 else if a.Kind = 9 then some ⟨pk, 15, 0, 0, 0⟩
 else if a.Kind = 10 then some ⟨pk, 2, a.Ring, a.AG, 0⟩
 else some ⟨pk, 4, a.Ring, a.AG, 0⟩
def VW (p : MP) (m : MS) (tape : List Int) (pk ck dr : Int) (fire : Bool) : Option TEv :=
 if pk < 0 ∨ (m.AB.length : Int) ≤ pk then none
 else match VP p m tape pk ck dr fire with
  | some e => if Ax p m e = true then some e else none
  | none => none
section
variable {p : MP} {b : Int} {m : MS}
theorem VT (h : Dj p b m) (hb : b ≤ 2305843009213693952) {pk : Int} (h0 : 0 ≤ pk) (h1 : pk < m.AB.length) (hk : (A2 p m pk).Kind = 1 ∨ (A2 p m pk).Kind = 2) {k t : Int}
 (hc : GR (CP m (A2 p m pk).Ring) (A2 p m pk) = true → t = 0 ∧ ((CP m (A2 p m pk).Ring).Aw = true ∧ k = 6 ∨ (CP m (A2 p m pk).Ring).Aw = false ∧ ((A2 p m pk).Mode = 0 ∧ k = 5 ∨ (A2 p m pk).Mode = 2 ∧ k = 7)))
 (hn : GR (CP m (A2 p m pk).Ring) (A2 p m pk) = false → ((A2 p m pk).Kind = 1 ∧ k = 1 ∧ t = (CP m (A2 p m pk).Ring).Aq ∨ (A2 p m pk).Kind = 2 ∧ k = 3 ∧ t = hd (CP m (A2 p m pk).Ring) (A2 p m pk).Reader)) :
 Ax p m ⟨pk, k, (A2 p m pk).Ring, t, 0⟩ = true := by
 have hlt : pk.toNat < m.AB.length := by omega
 have h8 : m.AB.length ≤ 8 := by rw [h.nt]; exact h.pi.t8
 have hr8 := h.pi.r8
 obtain ⟨r0, r1, r2⟩ := IL h hlt rfl (by omega : (A2 p m pk).Kind = 1 ∨ (A2 p m pk).Kind = 2 ∨ (A2 p m pk).Kind = 3 ∨ (A2 p m pk).Kind = 10 ∨ (A2 p m pk).Kind = 11)
 have hR := (h.KG r1).1
 have htb := hR.tb
 have ht0 := hR.t0
 generalize ha : A2 p m pk = a at *
 have hkk : (1 ≤ k ∧ k ≤ 7) ∧ (k = 1 ∨ k = 3 ∨ k = 5 ∨ k = 6 ∨ k = 7) ∧ ((k = 1 → a.Kind = 1) ∧ (k = 3 → a.Kind = 2) ∧ (k = 5 → a.Mode = 0) ∧ (k = 7 → a.Mode = 2)) := by
  cases q : GR (CP m a.Ring) a
  · have := hn q; omega
  · have := hc q; omega
 have hhd : a.Kind = 2 → 0 ≤ hd (CP m a.Ring) a.Reader ∧ hd (CP m a.Ring) a.Reader ≤ (CP m a.Ring).Aq := fun q => by
  have := r2 (.inl q)
  have hl := hR.rd
  have := hR.h0 _ (List.mem_of_getElem? (Dw (d := 0) (show a.Reader.toNat < (CP m a.Ring).AY.length by omega)))
  unfold hd
  omega
 have ht : 0 ≤ t ∧ t < 4611686018427387904 ∧ (k ≠ 1 → k ≠ 3 → t = 0) := by
  cases q : GR (CP m a.Ring) a
  · rcases hn q with ⟨q1, q2, q3⟩ | ⟨q1, q2, q3⟩
    · omega
    · have := hhd q1; omega
  · have := hc q; omega
 have hre : BU ⟨pk, k, a.Ring, t, 0⟩ = true := by
  simp only [BU, decide_eq_true_eq]
  refine ⟨by omega, by omega, by omega, by omega, .inl (BW.2 (by omega)), ?_, by simp⟩
  by_cases q : k = 1 ∨ k = 3
  · exact .inl (Am.2 (by omega))
  · exact .inr (ht.2.2 (by omega) (by omega))
 have hft : CH a ⟨pk, k, a.Ring, t, 0⟩ = true := by
  simp only [CH, Bool.and_eq_true]
  refine ⟨by simp, ?_⟩
  rcases hkk.2.1 with q | q | q | q | q
  · subst q; simp [E1, hkk.2.2.1 rfl]
  · subst q; simp [E1, hkk.2.2.2.1 rfl]
  · subst q; simp [hkk.2.2.2.2.1 rfl, hk]
  · subst q; simp [hk]
  · subst q; simp [hkk.2.2.2.2.2 rfl, hk]
 have hfit : Dl p m ⟨pk, k, a.Ring, t, 0⟩ = 0 := by
  rw [WB]
  exact ⟨hre, hlt, h0, by show (A2 p m pk).Kind ≠ 0; rw [ha]; omega, by show CH (A2 p m pk) _ = true; rw [ha]; exact hft⟩
 unfold Ax
 rw [decide_eq_true hfit, Bool.true_and]
 show H3 m (A2 p m pk) _ = true
 rw [ha]
 unfold H3
 simp only
 cases q : GR (CP m a.Ring) a
 · rcases hn q with ⟨q1, q2, q3⟩ | ⟨q1, q2, q3⟩
   · subst q2
     rw [if_neg (by omega), if_neg (by omega), if_neg (by omega), if_neg (by omega), if_pos rfl]
     unfold GR at q
     rw [if_pos q1] at q
     simp only [Bool.or_eq_false_iff] at q
     simp [Ca, q.1, q.2, q3]
   · subst q2
     rw [if_neg (by omega), if_neg (by omega), if_neg (by omega), if_neg (by omega), if_neg (by omega)]
     unfold GR at q
     rw [if_neg (by omega)] at q
     simp [Ca, q, q3]
 · obtain ⟨_, q2⟩ := hc q
   rcases q2 with ⟨c, q2⟩ | ⟨c, ⟨_, q2⟩ | ⟨_, q2⟩⟩
   · subst q2; rw [if_neg (by omega), if_pos rfl, c]; rfl
   · subst q2; rw [if_pos (by omega), c]; rfl
   · subst q2; rw [if_pos (by omega), c]; rfl
end
end
section
section
variable {p : MP} {b : Int} {m : MS}
theorem Wm (h : Dj p b m) {t : Int} (k : t.toNat < m.AB.length) : 0 ≤ (A2 p m t).Kind ∧ (A2 p m t).Kind ≤ 11 := (h.asked k).1.top
theorem VU {tape : List Int} {pk ck dr : Int} {fire : Bool} {e : TEv} (h : VW p m tape pk ck dr fire = some e) : Ax p m e = true ∧ 0 ≤ pk ∧ pk < m.AB.length := by
 unfold VW at h
 split at h
 · cases h
 rename_i q
 split at h
 · split at h
   · rename_i q2; cases h; exact ⟨q2, by omega, by omega⟩
   · cases h
 · cases h
theorem XQ (h : Dj p b m) {e : TEv} (hm : Ax p m e = true) (hv : CD e.Value) {tape : List Int} {ck dr : Int}
 (h10 : e.Kind = 10 → m.Reads < tape.length ∧ tape.getD m.Reads.toNat 0 = e.Value) (h11 : e.Kind = 11 → m.CF = true ∨ (tape.length : Int) ≤ m.Reads)
 (h8 : e.Kind = 8 → ck = IntKind.u64.wrap (e.Value - m.FD)) (h9 : e.Kind = 9 → dr = e.Value) : VP p m tape e.Thread ck dr (decide (e.Kind = 7)) = some e := by
 obtain ⟨f, _, hk⟩ := Ci hm
 have ff := Mn f.re f.ft
 have re := BX f.re
 have ft := f.ft
 have kr := BW (k := e.Kind)
 have kt := Am (k := e.Kind)
 obtain ⟨th, kd, rg, tk, vl⟩ := e
 simp only at *
 have kv : B1 kd = true ↔ (8 ≤ kd ∧ kd ≤ 10 ∨ kd = 12) := by simp only [B1, decide_eq_true_eq]
 unfold CH at ft
 unfold H3 Ca at hk
 simp only at ft hk
 unfold VP
 simp only
 have e0 : kd = 1 ∨ kd = 2 ∨ kd = 3 ∨ kd = 4 ∨ kd = 5 ∨ kd = 6 ∨ kd = 7 ∨ kd = 8 ∨ kd = 9 ∨ kd = 10 ∨ kd = 11 ∨ kd = 12 ∨ kd = 13 ∨ kd = 14 ∨ kd = 15 := by omega
 have hrg : (1 ≤ kd ∧ kd ≤ 7 ∨ kd = 13) → (A2 p m th).Ring = rg := fun q => ff.rg (kr.2 q)
 have rg0 : ¬(1 ≤ kd ∧ kd ≤ 7 ∨ kd = 13) → rg = 0 := fun q => by rcases re.2.2.2.2.1 with c | c; exact absurd (kr.1 c) q; exact c
 have tk0 : ¬(1 ≤ kd ∧ kd ≤ 4 ∨ kd = 13) → tk = 0 := fun q => by rcases re.2.2.2.2.2.1 with c | c; exact absurd (kt.1 c) q; exact c
 have vl0 : ¬(8 ≤ kd ∧ kd ≤ 10 ∨ kd = 12) → vl = 0 := fun q => by rcases re.2.2.2.2.2.2 with c | c; exact absurd (kv.1 c) q; exact c
 have h1 := ff.f1; have h2 := ff.f2; have h3 := ff.f3; have h4 := ff.f4; have h5 := ff.f5; have h8' := ff.f8; have h9' := ff.f9; have h10' := ff.f10; have h12 := ff.f12; have h13 := ff.f13; have h14 := ff.f14; have h15 := ff.f15
 simp only at h1 h2 h3 h4 h5 h8' h9' h10' h12 h13 h14 h15
 clear ff re kr kt kv
 rcases e0 with q | q | q | q | q | q | q | q | q | q | q | q | q | q | q
 all_goals subst q
 · have a1 := h1 rfl; have a2 := hrg (by omega); have a3 := vl0 (by omega); clear h1 h2 h3 h4 h5 h8' h9' h10' h12 h13 h14 h15
   simp only [Int.reduceEq, or_self, if_false, if_true, Bool.and_eq_true, Bool.not_eq_true', decide_eq_true_eq, a2] at hk
   have : GR (CP m rg) (A2 p m th) = false := by unfold GR; rw [if_pos a1, hk.1.1, hk.2]; rfl
   rw [a2, if_neg (by omega), if_pos (.inl a1), if_neg (by rw [this]; simp), if_pos a1, hk.1.2, a3]
 · have a1 := h2 rfl; have a2 := hrg (by omega); have a3 := vl0 (by omega)
   simp [a1.1, a2, a1.2, a3]
 · have a1 := h3 rfl; have a2 := hrg (by omega); have a3 := vl0 (by omega); clear h1 h2 h3 h4 h5 h8' h9' h10' h12 h13 h14 h15
   simp [Au, a2] at hk
   have : GR (CP m rg) (A2 p m th) = false := by unfold GR; rw [if_neg (by omega)]; exact hk.1
   rw [a2, if_neg (by omega), if_pos (.inr a1), if_neg (by rw [this]; simp), if_neg (by omega), hk.2, a3]
 · have a1 := h4 rfl; have a2 := hrg (by omega); have a3 := vl0 (by omega)
   simp [a1.1, a2, a1.2, a3]
 · have a1 := h5 (by omega); have a2 := hrg (by omega); have a3 := vl0 (by omega); have a4 := tk0 (by omega)
   simp [a2] at hk
   simp at ft
   rw [a2, if_neg (by omega), if_pos a1, if_pos hk.1, if_neg (by rw [hk.2]; simp), if_pos ft.2.2, a3, a4]
 · have a1 := h5 (by omega); have a2 := hrg (by omega); have a3 := vl0 (by omega); have a4 := tk0 (by omega)
   simp [a2] at hk
   rw [a2, if_neg (by omega), if_pos a1, if_pos hk.1, if_pos hk.2, a3, a4]
 · have a1 := h5 (by omega); have a2 := hrg (by omega); have a3 := vl0 (by omega); have a4 := tk0 (by omega)
   simp [a2] at hk
   simp at ft
   rw [a2, if_neg (by omega), if_pos a1, if_pos hk.1, if_neg (by rw [hk.2]; simp), if_neg (by omega), if_pos ⟨ft.2.2, decide_eq_true rfl⟩, a3, a4]
 · have a1 := h8' rfl; have a2 := rg0 (by omega); have a4 := tk0 (by omega); have a5 := h8 rfl
   simp at hk
   have hn := h.n0
   have : IntKind.u64.wrap (m.FD + ck % 1048576) = vl := by
    unfold CD at hv
    rw [a5]
    simp only [IntKind.wrap, IntKind.signed, IntKind.bits, Bool.false_and, Bool.false_eq_true, if_false]
    omega
   simp [a1, this, a2, a4]
 · have a1 := h9' rfl; have a2 := rg0 (by omega); have a4 := tk0 (by omega); have a5 := h9 rfl
   simp [a1, a2, a4, a5]
 · have a1 := h10' (by omega); have a2 := rg0 (by omega); have a4 := tk0 (by omega); have a5 := h10 rfl
   simp at hk
   have : ¬(m.CF = true ∨ (tape.length : Int) ≤ m.Reads) := by rw [hk]; simp; omega
   rw [if_neg (by omega), if_neg (by omega), if_neg (by omega), if_neg (by omega), if_neg (by omega), if_pos a1, if_neg this, a2, a4, a5.2]
 · have a1 := h10' (by omega); have a2 := rg0 (by omega); have a4 := tk0 (by omega); have a3 := vl0 (by omega); have a5 := h11 rfl
   rw [if_neg (by omega), if_neg (by omega), if_neg (by omega), if_neg (by omega), if_neg (by omega), if_pos a1, if_pos a5, a2, a4, a3]
 · have a1 := h12 rfl; have a2 := rg0 (by omega); have a4 := tk0 (by omega)
   simp [a1.1, a1.2, a2, a4]
 · have a1 := h13 rfl; have a2 := hrg (by omega); have a3 := vl0 (by omega)
   simp [Au, a2] at hk
   simp [a1, a2, a3, hk]
 · have a1 := h14 rfl; have a2 := rg0 (by omega); have a4 := tk0 (by omega); have a3 := vl0 (by omega)
   simp [a1, a2, a3, a4]
 · have a1 := h15 rfl; have a2 := rg0 (by omega); have a4 := tk0 (by omega); have a3 := vl0 (by omega)
   simp [a1, a2, a3, a4]
theorem XI (h : Dj p b m) {e : TEv} (hm : Ax p m e = true) (hv : CD e.Value) {tape : List Int} {ck dr : Int}
 (h10 : e.Kind = 10 → m.Reads < tape.length ∧ tape.getD m.Reads.toNat 0 = e.Value) (h11 : e.Kind = 11 → m.CF = true ∨ (tape.length : Int) ≤ m.Reads)
 (h8 : e.Kind = 8 → ck = IntKind.u64.wrap (e.Value - m.FD)) (h9 : e.Kind = 9 → dr = e.Value) : VW p m tape e.Thread ck dr (decide (e.Kind = 7)) = some e := by
 have f := (Ci hm).1
 have := f.lt
 have := f.th
 unfold VW
 rw [if_neg (by omega), XQ h hm hv h10 h11 h8 h9]
 simp only [hm, if_true]
end
end
section
structure EN where
 VF : Int
 Va : Int
 Vi : Int
 Vu : Bool
structure WR where
 Ev : List TEv
 St : MS
 Idle : Int
 VL : Int
def Ve (m : MS) (pk : Int) : Bool := decide (pk < 0 ∨ (m.AB.length : Int) ≤ pk ∨ (KA m pk).Status ≠ 0)
def Vy (p : MP) (tape : List Int) (m : MS) (x : EN) : Option TEv := VW p m tape x.VF x.Va x.Vi x.Vu
def VR (p : MP) (tape : List Int) (r : WR) (x : EN) : WR :=
 match Vy p tape r.St x with
 | some e => { r with Ev := r.Ev ++ [e], St := D2 p r.St e }
 | none => if Ve r.St x.VF = true then { r with Idle := r.Idle + 1 } else { r with VL := r.VL + 1 }
def VH (p : MP) (tape : List Int) (l : List EN) (r : WR) : WR := l.foldl (VR p tape) r
def Vv (m : MS) : WR := ⟨[], m, 0, 0⟩
def HG (p : MP) : List TEv → MS → Option MS
 | [], m => some m
 | e :: l, m => if Ax p m e = true then HG p l (D2 p m e) else none
def XR (m : MS) (e : TEv) : EN := ⟨e.Thread, if e.Kind = 8 then IntKind.u64.wrap (e.Value - m.FD) else 0, if e.Kind = 9 then e.Value else 0, decide (e.Kind = 7)⟩
def XA (p : MP) : List TEv → MS → List EN
 | [], _ => []
 | e :: l, m => XR m e :: XA p l (D2 p m e)
def WO (l : List TEv) : List Int := (l.filter fun e => decide (e.Kind = 10)).map (·.Value)
section
variable {p : MP} {b : Int} {m : MS} {tape : List Int}
theorem WD (r : WR) (x : EN) : ((VR p tape r x).Ev.length : Int) + (VR p tape r x).Idle + (VR p tape r x).VL = r.Ev.length + r.Idle + r.VL + 1 := by
 unfold VR
 split
 · simp only [List.length_append, List.length_singleton]; omega
 · split <;> simp only <;> omega
theorem Vz (l : List EN) : ∀ r : WR, ((VH p tape l r).Ev.length : Int) + (VH p tape l r).Idle + (VH p tape l r).VL = r.Ev.length + r.Idle + r.VL + l.length := by
 induction l with
 | nil => intro r; simp [VH]
 | cons x l ih =>
   intro r
   have := ih (VR p tape r x)
   have := WD (p := p) (tape := tape) r x
   show ((VH p tape l (VR p tape r x)).Ev.length : Int) + (VH p tape l (VR p tape r x)).Idle + (VH p tape l (VR p tape r x)).VL = _
   simp only [List.length_cons]
   omega
theorem all_append (a c : List TEv) : ∀ m, HG p (a ++ c) m = (HG p a m).bind (HG p c) := by
 induction a with
 | nil => intro m; rfl
 | cons e a ih =>
   intro m
   show (if _ then _ else _) = (if _ then _ else _ : Option MS).bind _
   split
   · exact ih _
   · rfl
theorem XG {e : TEv} (h : m.CF = true) : (D2 p m e).CF = true := by
 show (if e.Kind = 11 then true else m.CF) = true
 split
 · rfl
 · exact h
theorem XW (l : List TEv) : ∀ {m m' : MS}, HG p l m = some m' → m.CF = true → WO l = [] := by
 induction l with
 | nil => intros; rfl
 | cons e l ih =>
   intro m m' h he
   simp only [HG] at h
   split at h
   · rename_i q
     have hk : e.Kind ≠ 10 := fun k => by
      have := (Ci q).2.2
      simp [H3, k, he] at this
     have := ih h (XG he)
     unfold WO at *
     rw [List.filter_cons_of_neg (by simp [hk])]
     exact this
   · cases h
theorem XO (l : List TEv) : ∀ {b : Int} {m m' : MS} (pre : List Int) (r : WR), Dj p b m → b + l.length ≤ 2305843009213693952 → (∀ e ∈ l, CD e.Value ∧ CD e.AG) → HG p l m = some m' → r.St = m →
 m.Reads = pre.length → pre.length + l.length < 18446744073709551616 → VH p (pre ++ WO l) (XA p l m) r = { r with Ev := r.Ev ++ l, St := m' } := by
 induction l with
 | nil => intro b m m' pre r _ _ _ h hr _ _; cases h; subst hr; simp [VH, XA]
 | cons e l ih =>
   intro b m m' pre r hI hb hv h hr hrd hlt
   subst hr
   simp only [HG] at h
   split at h
   · rename_i q
     have hve := hv e (List.mem_cons_self ..)
     have ht : WO (e :: l) = if e.Kind = 10 then e.Value :: WO l else WO l := by
      unfold WO
      split
      · rename_i k; rw [List.filter_cons_of_pos (by simp [k])]; rfl
      · rename_i k; rw [List.filter_cons_of_neg (by simp [k])]
     have hoff : Vy p (pre ++ WO (e :: l)) r.St (XR r.St e) = some e := by
      refine XI hI q hve.1 (fun k => ?_) (fun k => ?_) (fun k => by show (if e.Kind = 8 then _ else _ : Int) = _; rw [if_pos k]) fun k => by show (if e.Kind = 9 then _ else _ : Int) = _; rw [if_pos k]
      · rw [ht, if_pos k, hrd]
        refine ⟨by simp only [List.length_append, List.length_cons]; omega, ?_⟩
        rw [Int.toNat_natCast]
        simp [List.getD]
      · by_cases he : r.St.CF = true
        · exact .inl he
        · have : (D2 p r.St e).CF = true := by show (if e.Kind = 11 then true else _) = true; rw [if_pos k]
          have := XW l h this
          rw [ht, if_neg (by omega), this, List.append_nil, hrd]
          exact .inr (Int.le_refl _)
     have hst : VR p (pre ++ WO (e :: l)) r (XR r.St e) = { r with Ev := r.Ev ++ [e], St := D2 p r.St e } := by unfold VR; rw [hoff]
     show VH p _ (XA p l (D2 p r.St e)) (VR p _ r (XR r.St e)) = _
     rw [hst]
     have hd : (RH p r.St e).2 = D2 p r.St e := by rw [GO q]
     have hI2 : Dj p (b + 1) (D2 p r.St e) := by
      rw [← hd]; exact Xc hI (by simp only [List.length_cons] at hb; omega) hve.2.1
     simp only [List.length_cons] at hb hlt
     have hrd2 : (D2 p r.St e).Reads = if e.Kind = 10 then (pre.length : Int) + 1 else pre.length := by
      show (if e.Kind = 10 then IntKind.u64.wrap (r.St.Reads + 1) else r.St.Reads) = _
      rw [hrd]
      split
      · simp only [IntKind.wrap, IntKind.signed, IntKind.bits, Bool.false_and, Bool.false_eq_true, if_false]; omega
      · rfl
     have e1 : pre ++ WO (e :: l) = (if e.Kind = 10 then pre ++ [e.Value] else pre) ++ WO l := by rw [ht]; split <;> simp
     rw [e1]
     rw [ih (b := b + 1) (m := D2 p r.St e) (m' := m') (if e.Kind = 10 then pre ++ [e.Value] else pre) _ hI2 (by omega) (fun x hx => hv x (List.mem_cons_of_mem _ hx)) h rfl (by rw [hrd2]; split <;> simp) (by split <;> (try rw [List.length_append, List.length_singleton]) <;> omega)]
     simp
   · cases h
end
section
variable {p : MP} {b : Int} {m : MS} {tape : List Int}
theorem WC (h : Dj p b m) (hb : b ≤ 2305843009213693952) {pk ck dr : Int} {fire : Bool} {e : TEv} (ha : CD (A2 p m pk).Value) (hdr : CD dr) (ht : ∀ x ∈ tape, CD x)
 (h0 : 0 ≤ pk) (h1 : pk < m.AB.length) (hc : VP p m tape pk ck dr fire = some e) : CD e.AG ∧ CD e.Value := by
 have hlt : pk.toNat < m.AB.length := by omega
 obtain ⟨hq, hn, _, _⟩ := h.asked hlt
 have hr := fun k => IL h hlt rfl k
 unfold VP at hc
 simp only at hc
 have z : CD 0 := CE
 have htail : (A2 p m pk).Kind = 1 ∨ (A2 p m pk).Kind = 2 ∨ (A2 p m pk).Kind = 3 → CD (CP m (A2 p m pk).Ring).Aq := fun k => by
  obtain ⟨r0, r1, _⟩ := hr (by omega)
  have hR := (h.KG r1).1
  have := hR.t0; have := hR.tb
  unfold CD; omega
 have hhd : (A2 p m pk).Kind = 2 → CD (hd (CP m (A2 p m pk).Ring) (A2 p m pk).Reader) := fun k => by
  obtain ⟨r0, r1, r2⟩ := hr (by omega)
  have hR := (h.KG r1).1
  have := hR.rd; have := hR.tb
  have := r2 (.inl k)
  have := hR.h0 _ (List.mem_of_getElem? (Dw (d := 0) (show (A2 p m pk).Reader.toNat < (CP m (A2 p m pk).Ring).AY.length by omega)))
  unfold CD hd; omega
 have htk : (A2 p m pk).Kind = 10 ∨ (A2 p m pk).Kind = 11 → CD (A2 p m pk).AG := fun k => by
  rcases k with k | k
  · have a := hq.kp k
    have := hn.p1 (by omega)
    unfold CD; omega
  · have a := hq.kr k
    have := hn.p1 (by omega)
    unfold CD; omega
 have hw : CD (IntKind.u64.wrap (m.FD + ck % 1048576)) := by
  simp only [CD, IntKind.wrap, IntKind.signed, IntKind.bits, Bool.false_and, Bool.false_eq_true, if_false]; omega
 have hg : CD (tape.getD m.Reads.toNat 0) := by
  rw [List.getD_eq_getElem?_getD]
  cases q : tape[m.Reads.toNat]? with
  | none => exact z
  | some x => exact ht x (List.mem_of_getElem? q)
 have htop := hq.top
 clear hq hn hr h
 generalize A2 p m pk = a at *
 generalize CP m a.Ring = r at *
 generalize IntKind.u64.wrap (m.FD + ck % 1048576) = w at *
 generalize tape.getD m.Reads.toNat 0 = g at *
 generalize hd r a.Reader = q at *
 split at hc
 · cases hc
 split at hc
 · split at hc
   · (repeat' split at hc) <;> cases hc <;> exact ⟨z, z⟩
   · split at hc <;> cases hc
     · exact ⟨htail (by omega), z⟩
     · exact ⟨hhd (by omega), z⟩
 split at hc
 · cases hc; exact ⟨htail (by omega), z⟩
 split at hc
 · cases hc; exact ⟨z, hw⟩
 split at hc
 · cases hc; exact ⟨z, hdr⟩
 split at hc
 · split at hc <;> cases hc
   · exact ⟨z, z⟩
   · exact ⟨z, hg⟩
 split at hc
 · cases hc; exact ⟨z, ha⟩
 split at hc
 · cases hc; exact ⟨z, z⟩
 split at hc
 · cases hc; exact ⟨z, z⟩
 split at hc
 · cases hc; exact ⟨htk (by omega), z⟩
 · cases hc; exact ⟨htk (by omega), z⟩
theorem V0 (h : Dj p b m) (hb : b ≤ 2305843009213693952) {pk ck dr : Int} {fire : Bool} {e : TEv} (ha : CD (A2 p m pk).Value) (hdr : CD dr) (ht : ∀ x ∈ tape, CD x)
 (ho : VW p m tape pk ck dr fire = some e) : CD e.AG ∧ CD e.Value := by
 obtain ⟨_, h0, h1⟩ := VU ho
 have hc : VP p m tape pk ck dr fire = some e := by
  unfold VW at ho
  rw [if_neg (by omega)] at ho
  split at ho
  · rename_i q
    split at ho
    · cases ho; exact q
    · cases ho
  · cases ho
 exact WC h hb ha hdr ht h0 h1 hc
theorem WY {t : Int} (hk : (A2 p m t).Kind = 1) : (A2 p m t).Reader = 0 := by
 unfold A2 Ba at *
 split at hk <;> rename_i q1
 · simp [zA] at hk
 rw [if_neg q1]
 split at hk <;> rename_i q2
 · simp at hk
 rw [if_neg q2]
 split at hk <;> rename_i q3
 · simp at hk
 rw [if_neg q3]
 simp only
 unfold EZ at *
 revert hk
 simp only
 (repeat' split) <;> simp [zA]
theorem Vt {pk ck dr : Int} {fire : Bool} (hk : (A2 p m pk).Kind = 1 ∨ (A2 p m pk).Kind = 2) : VP p m tape pk ck dr fire =
 if GR (CP m (A2 p m pk).Ring) (A2 p m pk) = true then
  (if (CP m (A2 p m pk).Ring).Aw = true then some ⟨pk, 6, (A2 p m pk).Ring, 0, 0⟩ else if (A2 p m pk).Mode = 0 then some ⟨pk, 5, (A2 p m pk).Ring, 0, 0⟩ else if (A2 p m pk).Mode = 2 ∧ fire = true then some ⟨pk, 7, (A2 p m pk).Ring, 0, 0⟩ else none)
 else if (A2 p m pk).Kind = 1 then some ⟨pk, 1, (A2 p m pk).Ring, (CP m (A2 p m pk).Ring).Aq, 0⟩ else some ⟨pk, 3, (A2 p m pk).Ring, hd (CP m (A2 p m pk).Ring) (A2 p m pk).Reader, 0⟩ := by
 unfold VP
 simp only
 rw [if_neg (by omega), if_pos hk]
theorem V6 (h : Dj p b m) (hb : b ≤ 2305843009213693952) {pk ck dr : Int} {fire : Bool} (h0 : 0 ≤ pk) (h1 : pk < m.AB.length) (hk : (A2 p m pk).Kind = 1 ∨ (A2 p m pk).Kind = 2) : VW p m tape pk ck dr fire = VP p m tape pk ck dr fire := by
 unfold VW
 rw [if_neg (by omega)]
 have key : ∀ e, VP p m tape pk ck dr fire = some e → Ax p m e = true := by
  intro e he
  rw [Vt hk] at he
  split at he <;> rename_i q1
  · split at he <;> rename_i q2
    · cases he; exact VT h hb h0 h1 hk (fun _ => ⟨rfl, .inl ⟨q2, rfl⟩⟩) fun q => by rw [q] at q1; cases q1
    · have q2 : (CP m (A2 p m pk).Ring).Aw = false := by simpa using q2
      split at he <;> rename_i q3
      · cases he; exact VT h hb h0 h1 hk (fun _ => ⟨rfl, .inr ⟨q2, .inl ⟨q3, rfl⟩⟩⟩) fun q => by rw [q] at q1; cases q1
      · split at he <;> rename_i q4
        · cases he; exact VT h hb h0 h1 hk (fun _ => ⟨rfl, .inr ⟨q2, .inr ⟨q4.1, rfl⟩⟩⟩) fun q => by rw [q] at q1; cases q1
        · cases he
  · split at he <;> rename_i q2 <;> cases he
    · exact VT h hb h0 h1 hk (fun q => absurd q q1) fun _ => .inl ⟨q2, rfl, rfl⟩
    · exact VT h hb h0 h1 hk (fun q => absurd q q1) fun _ => .inr ⟨by omega, rfl, rfl⟩
 cases hc : VP p m tape pk ck dr fire with
 | none => rfl
 | some e => simp only [key e hc, if_true]
end
end
section

end
section
structure D1 (P : MP) (l : List TEv) (n : Nat) (m : MS) : Prop where
 le : n ≤ l.length
 all : HG P (l.take n) (Eo P) = some m
 bad : ∀ e, l[n]? = some e → Ax P m e = false
section
variable {P : MP} {l : List TEv} {m m0 : MS} {e : TEv} {k : Nat}
theorem JF (h : HG P (l.take k) m0 = some m) (he : l[k]? = some e) (ha : Ax P m e = true) : HG P (l.take (k + 1)) m0 = some (D2 P m e) := by
 rw [List.take_add_one, he, all_append, h]
 show (if _ then _ else _) = _
 rw [if_pos ha]; rfl
theorem Xk {n : Nat} (h : HG P (l.take k) m0 = some m) (he : l[k]? = some e) (ha : Ax P m e = false) (hn : k < n) : HG P (l.take n) m0 = none := by
 have e1 : l.take n = l.take k ++ (l.take n).drop k := by
  have := List.take_append_drop k (l.take n)
  rw [List.take_take, Nat.min_eq_left (by omega)] at this
  exact this.symm
 have hk : k < l.length := (List.getElem?_eq_some_iff.1 he).1
 have e2 : (l.take n).drop k = e :: (l.take n).drop (k + 1) := by
  have h1 : (l.take n)[k]? = some e := by rw [List.getElem?_take_of_lt hn]; exact he
  obtain ⟨h2, h3⟩ := List.getElem?_eq_some_iff.1 h1
  rw [List.drop_eq_getElem_cons h2, h3]
 rw [e1, e2, all_append, h]
 show (if _ then _ else _) = _
 rw [if_neg (by simp [ha])]
end
end
end Go.Proofs.YtlhifcnjnmeknaaGreatDoor
