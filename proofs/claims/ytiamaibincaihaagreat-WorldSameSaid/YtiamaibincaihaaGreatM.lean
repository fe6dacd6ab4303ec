/- Of what a fabric is, plainly: no statement is proved here. -/
import Derived.Test.YtiamaibincaihaaGreatVmC
namespace Go.Proofs.YtiamaibincaihaaGreat
open Go Go.Vm
section
structure TIn where
 Op : Int
 A : Int
 B : Int
 C : Int
 D : Int
 K : Int
structure TRg where
 Kind : Int
 DP : Int
 AR : Int
structure TEv where
 Thread : Int
 Kind : Int
 Ring : Int
 AG : Int
 Value : Int
structure TSo where
 AP : Int
 Value : Int
 Left : Int
end
section
structure MT where
 At : Int
 Phase : Int
 Ring : Int
 Status : Int
 AG : Int
 Ae : Nat → Int
 Seen : List Int
structure MR where
 A0 : Int
 AV : List Int
 As : Bool
 Al : List TSo
structure MS where
 AB : List MT
 AF : List MR
 Ec : Int
 Reads : Int
 BO : Bool
structure MP where
 AF : List TRg
 AB : List (List TIn)
structure MA where
 Kind : Int
 Ring : Int
 Mode : Int
 Reader : Int
 AG : Int
 Value : Int
def zI : TIn := ⟨0, 0, 0, 0, 0, 0⟩
def zS : TSo := ⟨0, 0, 0⟩
def zA : MA := ⟨0, 0, 0, 0, 0, 0⟩
def zT : MT := ⟨0, 0, 0, 0, 0, fun _ => 0, []⟩
def zR : MR := ⟨0, [], false, []⟩
def gI (l : List TIn) (n : Int) : TIn := l.getD n.toNat zI
def ES (g : Nat → Int) (i v : Int) : Nat → Int := fun k => if k = i.toNat then v else g k
def KT (op a b : Int) : Int :=
 if op = 3 then IntKind.u64.wrap (a + b)
 else if op = 4 then IntKind.u64.wrap (a - b)
 else if op = 5 then IntKind.u64.wrap (a * b)
 else if op = 6 then (if b = 0 then 0 else a / b)
 else if op = 7 then (if b = 0 then 0 else a % b)
 else if op = 8 then ((a.toNat &&& b.toNat : Nat) : Int)
 else if op = 9 then ((a.toNat ||| b.toNat : Nat) : Int)
 else if op = 10 then ((a.toNat ^^^ b.toNat : Nat) : Int)
 else if op = 11 then IntKind.u64.wrap (a * 2 ^ (b % 64).toNat)
 else if op = 12 then a / 2 ^ (b % 64).toNat
 else if op = 13 then (if a < b then 1 else 0)
 else (if a = b then 1 else 0)
def EW (i : TIn) (t : MT) : MT :=
 if i.Op = 1 then { t with At := t.At + 1, Ae := ES t.Ae i.A i.K }
 else if i.Op = 2 then { t with At := t.At + 1, Ae := ES t.Ae i.A (t.Ae i.B.toNat) }
 else if i.Op = 15 ∨ (i.Op = 16 ∧ t.Ae i.A.toNat = 0) ∨ (i.Op = 17 ∧ t.Ae i.A.toNat ≠ 0) then { t with At := i.K }
 else if i.Op < 15 then { t with At := t.At + 1, Ae := ES t.Ae i.A (KT i.Op (t.Ae i.B.toNat) (t.Ae i.C.toNat)) }
 else { t with At := t.At + 1 }
def Ed (l : List TIn) : Nat → MT → MT
 | 0, t => t
 | n + 1, t => if t.At < l.length ∧ (gI l t.At).Op ≤ 17 then Ed l n (EW (gI l t.At) t) else t
def FM (l : List TIn) (t : MT) : MA :=
 let i := gI l t.At
 if t.At = l.length then { zA with Kind := 8 }
 else if i.Op ≤ 17 then { zA with Kind := 9 }
 else if i.Op = 18 then ⟨1, i.C, i.D, 0, 0, t.Ae i.A.toNat⟩
 else if i.Op = 19 then ⟨2, i.C, i.D, i.K, 0, 0⟩
 else if i.Op = 20 then ⟨3, i.C, 0, 0, 0, 0⟩
 else if i.Op = 21 then { zA with Kind := 4 }
 else if i.Op = 22 then { zA with Kind := 5 }
 else if i.Op = 23 then { zA with Kind := 6 }
 else if i.Op = 24 then { zA with Kind := 7, Value := t.Ae i.A.toNat }
 else { zA with Kind := 8 }
def CL (l : List TIn) (t : MT) : MT × MA :=
 if t.Status ≠ 0 then (t, zA)
 else if t.Phase = 1 then (t, ⟨10, t.Ring, 0, 0, t.AG, t.Ae (gI l t.At).A.toNat⟩)
 else if t.Phase = 2 then (t, ⟨11, t.Ring, 0, (gI l t.At).K, t.AG, 0⟩)
 else (Ed l 256 t, FM l (Ed l 256 t))
def A1 (k : Int) : Bool := decide (1 ≤ k ∧ k ≤ 4 ∨ k = 13)
def CT (k : Int) : Bool := decide (1 ≤ k ∧ k ≤ 7 ∨ k = 13)
def Co (k : Int) : Bool := decide (8 ≤ k ∧ k ≤ 10 ∨ k = 12)
def Br (e : TEv) : Bool :=
 decide ((1 ≤ e.Kind ∧ e.Kind ≤ 15) ∧ (0 ≤ e.Thread ∧ e.Thread ≤ 7) ∧ (0 ≤ e.Ring ∧ e.Ring ≤ 7) ∧ e.AG < 4611686018427387904 ∧
  (CT e.Kind = true ∨ e.Ring = 0) ∧ (A1 e.Kind = true ∨ e.AG = 0) ∧ (Co e.Kind = true ∨ e.Value = 0))
def EV (k : Int) : Int :=
 if k = 1 then 1 else if k = 2 then 10 else if k = 3 then 2 else if k = 4 then 11 else if k = 8 then 4 else if k = 9 then 5 else if k = 10 then 6 else if k = 11 then 6
 else if k = 12 then 7 else if k = 13 then 3 else if k = 14 then 8 else 9
def CM (a : MA) (e : TEv) : Bool :=
 (!CT e.Kind || decide (a.Ring = e.Ring)) &&
 (if e.Kind = 5 then decide ((a.Kind = 1 ∨ a.Kind = 2) ∧ a.Mode = 0)
  else if e.Kind = 6 then decide (a.Kind = 1 ∨ a.Kind = 2)
  else if e.Kind = 7 then decide ((a.Kind = 1 ∨ a.Kind = 2) ∧ a.Mode = 2)
  else if e.Kind = 2 ∨ e.Kind = 4 then decide (a.Kind = EV e.Kind ∧ a.AG = e.AG)
  else if e.Kind = 12 then decide (a.Kind = 7 ∧ a.Value = e.Value)
  else decide (a.Kind = EV e.Kind))
def BW (i : TIn) (t : MT) (e : TEv) (v : Int) : MT :=
 if e.Kind = 1 then { t with Phase := 1, Ring := e.Ring, AG := e.AG }
 else if e.Kind = 3 then { t with Phase := 2, Ring := e.Ring, AG := e.AG }
 else if e.Kind = 14 then { t with Status := 1 }
 else if e.Kind = 15 then { t with Status := 2 }
 else
  let g :=
   if e.Kind = 2 then ES t.Ae i.B 0
   else if e.Kind = 4 then ES (ES t.Ae i.A v) i.B 0
   else if e.Kind = 5 then ES t.Ae i.B 1
   else if e.Kind = 6 then ES t.Ae i.B 2
   else if e.Kind = 7 then ES t.Ae i.B 3
   else if e.Kind = 8 then ES t.Ae i.A e.Value
   else if e.Kind = 9 then ES t.Ae i.A e.Value
   else if e.Kind = 10 then ES (ES t.Ae i.A e.Value) i.B 0
   else if e.Kind = 11 then ES t.Ae i.B 1
   else t.Ae
  { t with Ae := g, Seen := if e.Kind = 12 then t.Seen ++ [e.Value] else t.Seen, Phase := 0, Ring := 0, AG := 0, At := t.At + 1 }
def hd (r : MR) (j : Int) : Int := r.AV.getD j.toNat 0
def IX (r : MR) : Int := r.Al.length
def Ex (r : MR) : Bool := r.AV.any fun h => decide (IX r ≤ r.A0 - h)
def EX (r : MR) (j : Int) : Bool := decide (hd r j = r.A0)
def HK (r : MR) (t : Int) : Nat := (t % IX r).toNat
def A4 (r : MR) (t : Int) : TSo := r.Al.getD (HK r t) zS
def Dy (x : Int) (j : Int) : Bool := decide (x / 2 ^ j.toNat % 2 = 1)
def Hb (r : MR) (t : Int) : Bool := decide (t < r.A0 ∧ (A4 r t).AP = 2 * t)
def LV (r : MR) (j t : Int) : Bool := decide (t < hd r j ∧ (A4 r t).AP = 2 * t + 1 ∧ Dy (A4 r t).Left j = true)
def DU (r : MR) (a : MA) (e : TEv) : Bool :=
 if e.Kind = 1 then !Ex r && decide (e.AG = r.A0)
 else if e.Kind = 2 then Hb r e.AG
 else if e.Kind = 3 then !EX r a.Reader && decide (e.AG = hd r a.Reader)
 else if e.Kind = 4 then LV r a.Reader e.AG
 else decide (e.AG = r.A0)
def Ov (r : MR) (t v : Int) : MR := { r with Al := r.Al.set (HK r t) ⟨2 * t + 1, v, 2 ^ r.AV.length - 1⟩ }
def Fm (r : MR) (j : Int) : MR := { r with AV := r.AV.set j.toNat (hd r j + 1) }
def LW (x : TSo) (j t c : Int) : TSo := if x.Left - 2 ^ j.toNat = 0 then ⟨2 * (t + c), 0, 0⟩ else { x with Left := x.Left - 2 ^ j.toNat }
def Ri (r : MR) (j t : Int) : MR := { r with Al := r.Al.set (HK r t) (LW (A4 r t) j t (IX r)) }
def CK (r : MR) (a : MA) (e : TEv) : MR :=
 if e.Kind = 1 then { r with A0 := r.A0 + 1 }
 else if e.Kind = 2 then Ov r e.AG a.Value
 else if e.Kind = 3 then Fm r a.Reader
 else if e.Kind = 4 then Ri r a.Reader e.AG
 else if e.Kind = 13 then { r with As := true }
 else r
def K0 (s : MS) (t : Int) : MT := s.AB.getD t.toNat zT
def CS (s : MS) (i : Int) : MR := s.AF.getD i.toNat zR
def CO (p : MP) (t : Int) : List TIn := p.AB.getD t.toNat []
def Ak (p : MP) (s : MS) (t : Int) : MA := (CL (CO p t) (K0 s t)).2
def EE (p : MP) (s : MS) (e : TEv) : Int :=
 if Br e = false then 3
 else if (s.AB.length : Int) ≤ e.Thread then 5
 else if (Ak p s e.Thread).Kind = 0 ∨ CM (Ak p s e.Thread) e = false then 11
 else 0
def CG (r : MR) (a : MA) : Bool := if a.Kind = 1 then r.As || Ex r else EX r a.Reader
def G1 (s : MS) (a : MA) (e : TEv) : Bool :=
 let r := CS s e.Ring
 if e.Kind = 5 ∨ e.Kind = 7 then CG r a && !r.As
 else if e.Kind = 6 then CG r a && r.As
 else if e.Kind = 8 then decide (s.Ec ≤ e.Value ∧ e.Value - s.Ec < 1048576)
 else if e.Kind = 10 then !s.BO
 else if e.Kind = 1 then DU r a e && !r.As
 else !A1 e.Kind || DU r a e
def Bf (p : MP) (s : MS) (e : TEv) : Bool := decide (EE p s e = 0) && G1 s (Ak p s e.Thread) e
def Ai (p : MP) (s : MS) (e : TEv) : MS :=
 let n := CL (CO p e.Thread) (K0 s e.Thread)
 let r := CS s e.Ring
 let v := if e.Kind = 4 then (A4 r e.AG).Value else 0
 { AB := s.AB.set e.Thread.toNat (BW (gI (CO p e.Thread) n.1.At) n.1 e v)
   AF := if A1 e.Kind = true then s.AF.set e.Ring.toNat (CK r n.2 e) else s.AF
   Ec := if e.Kind = 8 then max s.Ec e.Value else s.Ec
   Reads := if e.Kind = 10 then IntKind.u64.wrap (s.Reads + 1) else s.Reads
   BO := if e.Kind = 11 then true else s.BO }
def P5 (p : MP) (s : MS) (e : TEv) : Int × MS :=
 if EE p s e ≠ 0 then (EE p s e, s) else if Bf p s e = false then (11, s) else (0, Ai p s e)
def HE (c : TRg) : MR := ⟨0, List.replicate c.AR.toNat 0, false, (List.range c.DP.toNat).map fun i : Nat => (⟨2 * (i : Int), 0, 0⟩ : TSo)⟩
def CA (p : MP) : MS := ⟨p.AB.map fun _ => zT, p.AF.map HE, 0, 0, false⟩
def B9 (i : TIn) : Bool :=
 let r := fun (x : Int) (m : Int) => decide (0 ≤ x ∧ x ≤ m)
 if i.Op = 1 then r i.A 7 && r i.B 0 && r i.C 0 && r i.D 0
 else if i.Op = 2 ∨ i.Op = 23 then r i.A 7 && r i.B 7 && r i.C 0 && r i.D 0 && r i.K 0
 else if 3 ≤ i.Op ∧ i.Op ≤ 14 then r i.A 7 && r i.B 7 && r i.C 7 && r i.D 0 && r i.K 0
 else if i.Op = 15 then r i.A 0 && r i.B 0 && r i.C 0 && r i.D 0 && r i.K 256
 else if i.Op = 16 ∨ i.Op = 17 then r i.A 7 && r i.B 0 && r i.C 0 && r i.D 0 && r i.K 256
 else if i.Op = 18 then r i.A 7 && r i.B 7 && r i.C 7 && r i.D 2 && r i.K 0
 else if i.Op = 19 then r i.A 7 && r i.B 7 && r i.C 7 && r i.D 2 && r i.K 7
 else if i.Op = 20 then r i.A 0 && r i.B 0 && r i.C 7 && r i.D 0 && r i.K 0
 else if i.Op = 21 ∨ i.Op = 22 ∨ i.Op = 24 then r i.A 7 && r i.B 0 && r i.C 0 && r i.D 0 && r i.K 0
 else if i.Op = 25 then r i.A 0 && r i.B 0 && r i.C 0 && r i.D 0 && r i.K 0
 else false
def BB (c : TRg) : Bool := decide (1 ≤ c.DP ∧ c.DP ≤ 64 ∧ (c.Kind = 1 ∧ c.AR = 1 ∨ c.Kind = 2 ∧ 1 ≤ c.AR ∧ c.AR ≤ 8))
def Dp (rs : List TRg) (i : TIn) (n : Int) : Int :=
 if B9 i = false then 6
 else if 15 ≤ i.Op ∧ i.Op ≤ 17 ∧ n < i.K then 5
 else if 18 ≤ i.Op ∧ i.Op ≤ 20 ∧ (rs.length : Int) ≤ i.C then 7
 else if i.Op = 19 ∧ (rs.getD i.C.toNat ⟨0, 0, 0⟩).AR ≤ i.K then 7
 else 0
structure EZ (p : MP) : Prop where
 t1 : 1 ≤ p.AB.length
 t8 : p.AB.length ≤ 8
 r8 : p.AF.length ≤ 8
 rg : ∀ c ∈ p.AF, BB c = true
 len : ∀ l ∈ p.AB, l.length ≤ 256
 ins : ∀ l ∈ p.AB, ∀ i ∈ l, Dp p.AF i l.length = 0
structure M5 (c : Int) (nr : Nat) (tail : Int) (AD : List Int) (i : Nat) (x : TSo) : Prop where
 s0 : 0 ≤ x.AP
 s1 : x.AP < 9223372036854775808
 Vr : x.AP / 2 % c = i
 free : x.AP % 2 = 0 → x.Value = 0 ∧ x.Left = 0
 held : x.AP % 2 = 1 → 1 ≤ x.Left ∧ x.Left < 2 ^ nr
 Qq : x.AP % 2 = 1 → x.AP / 2 < tail
 Uh : x.AP % 2 = 1 → ∀ (j : Nat) (h : Int), AD[j]? = some h → Dy x.Left (j : Int) = false → x.AP / 2 < h
 TZ : x.AP % 2 = 0 → c ≤ x.AP / 2 → ∀ h ∈ AD, x.AP / 2 - c < h
structure Dt (c : TRg) (b : Int) (r : MR) : Prop where
 cap : (r.Al.length : Int) = c.DP
 rd : (r.AV.length : Int) = c.AR
 t0 : 0 ≤ r.A0
 tb : r.A0 < b
 h0 : ∀ h ∈ r.AV, 0 ≤ h ∧ h ≤ r.A0 ∧ r.A0 - h ≤ c.DP
 sl : ∀ (i : Nat) x, r.Al[i]? = some x → M5 c.DP r.AV.length r.A0 r.AV i x
structure Fw (l : List TIn) (t : MT) : Prop where
 a0 : 0 ≤ t.At
 a1 : t.At ≤ l.length
 st : 0 ≤ t.Status ∧ t.Status ≤ 2
 ph : 0 ≤ t.Phase ∧ t.Phase ≤ 2
 p0 : t.Phase = 0 → t.Ring = 0 ∧ t.AG = 0
 p1 : t.Phase ≠ 0 → t.Status = 0 ∧ t.At < l.length ∧ (gI l t.At).Op = 17 + t.Phase ∧ (gI l t.At).C = t.Ring ∧ 0 ≤ t.AG ∧ t.AG < 4611686018427387904
structure Dd (p : MP) (b : Int) (s : MS) : Prop where
 pi : EZ p
 nt : s.AB.length = p.AB.length
 nr : s.AF.length = p.AF.length
 n0 : 0 ≤ s.Ec
 ri : ∀ (i : Nat) c r, p.AF[i]? = some c → s.AF[i]? = some r → Dt c b r
 ti : ∀ (i : Nat) l t, p.AB[i]? = some l → s.AB[i]? = some t → Fw l t
 p1 : ∀ (i : Nat) t, s.AB[i]? = some t → t.Phase = 1 → t.AG < (CS s t.Ring).A0
 p2 : ∀ (i : Nat) l t, p.AB[i]? = some l → s.AB[i]? = some t → t.Phase = 2 → t.AG < hd (CS s t.Ring) (gI l t.At).K
end
section
theorem GW (n : Nat) : 0 < (2 : Int) ^ n := Int.pow_pos (by decide)
theorem El {α : Type} {l : List α} {i : Nat} {d : α} (h : i < l.length) : l[i]? = some (l.getD i d) := by simp [List.getD, List.getElem?_eq_getElem h]
theorem GJ {α : Type} {l : List α} {i : Nat} {x d : α} (h : i < l.length) : (l.set i x).getD i d = x := by simp [List.getD, h]
theorem getD_set_ne {α : Type} {l : List α} {i j : Nat} {x d : α} (h : i ≠ j) : (l.set i x).getD j d = l.getD j d := by simp [List.getD, List.getElem?_set_ne h]
section
variable {c : TRg} {b b' : Int} {r : MR}
theorem GC (h : BB c = true) : 1 ≤ c.DP ∧ c.DP ≤ 64 ∧ 1 ≤ c.AR ∧ c.AR ≤ 8 := by
 simp only [BB, decide_eq_true_eq] at h; omega
theorem Dt.mono (h : Dt c b r) (k : b ≤ b') : Dt c b' r := { h with tb := by have := h.tb; omega }
theorem M5.mono {cp : Int} {nr : Nat} {tail tail' : Int} {AD heads' : List Int} {i : Nat} {x : TSo} (h : M5 cp nr tail AD i x) (ht : tail ≤ tail')
 (hh : ∀ (j : Nat) (y : Int), heads'[j]? = some y → ∃ z : Int, AD[j]? = some z ∧ z ≤ y) : M5 cp nr tail' heads' i x where
 s0 := h.s0
 s1 := h.s1
 Vr := h.Vr
 free := h.free
 held := h.held
 Qq k := by have := h.Qq k; omega
 Uh k j y hy hb := by
  obtain ⟨z, h1, h2⟩ := hh j y hy
  have := h.Uh k j z h1 hb
  omega
 TZ k k2 y hy := by
  obtain ⟨j, hj⟩ := List.getElem?_of_mem hy
  obtain ⟨z, h1, h2⟩ := hh j y hj
  have := h.TZ k k2 z (List.mem_of_getElem? h1)
  omega
theorem Ow (h : Ex r = false) : ∀ x ∈ r.AV, r.A0 - x < IX r := by
 intro x hx
 simp only [Ex, List.any_eq_false, decide_eq_true_eq] at h
 have := h x hx
 omega
theorem Dt.U2 (h : Dt c b r) (hf : Ex r = false) : Dt c (b + 1) { r with A0 := r.A0 + 1 } where
 cap := h.cap
 rd := h.rd
 t0 := by have := h.t0; show 0 ≤ r.A0 + 1; omega
 tb := by have := h.tb; show r.A0 + 1 < b + 1; omega
 h0 x hx := by
  have h1 := h.h0 x hx
  have h2 := Ow hf x hx
  have h3 := h.cap
  unfold IX at h2
  show 0 ≤ x ∧ x ≤ r.A0 + 1 ∧ r.A0 + 1 - x ≤ c.DP
  omega
 sl i x hx := (h.sl i x hx).mono (by show r.A0 ≤ r.A0 + 1; omega) fun j y hy => ⟨y, hy, Int.le_refl _⟩
theorem LH (h : Dt c b r) (hc : BB c = true) (t : Int) : HK r t < r.Al.length := by
 have h1 := h.cap
 have h2 := GC hc
 unfold HK IX
 have h3 := Int.emod_nonneg t (b := (r.Al.length : Int)) (by omega)
 have h4 := Int.emod_lt_of_pos t (b := (r.Al.length : Int)) (by omega)
 omega
theorem JV (h : Dt c b r) (hc : BB c = true) (t : Int) : r.Al[HK r t]? = some (A4 r t) := El (LH h hc t)
theorem Ss (h : Dt c b r) (hc : BB c = true) (t : Int) : t % c.DP = (HK r t : Int) := by
 have h1 := h.cap
 have h2 := GC hc
 unfold HK IX
 rw [h1]
 have h3 := Int.emod_nonneg t (b := c.DP) (by omega)
 omega
theorem F6 {α : Type} {l : List α} {k i : Nat} {x y : α} (h : (l.set k x)[i]? = some y) (hk : k < l.length) : (i = k ∧ y = x) ∨ (i ≠ k ∧ l[i]? = some y) := by
 by_cases e : k = i
 · subst e
   rw [List.getElem?_set_self hk] at h
   exact .inl ⟨rfl, (Option.some.inj h).symm⟩
 · rw [List.getElem?_set_ne e] at h
   exact .inr ⟨fun k => e k.symm, h⟩
theorem Tk {n j : Nat} (h : j < n) : Dy (2 ^ n - 1) (j : Int) = true := by
 simp only [Dy, decide_eq_true_eq, Int.toNat_natCast]
 obtain ⟨d, rfl⟩ : ∃ d, n = j + (d + 1) := ⟨n - j - 1, by omega⟩
 have h1 : (2 : Int) ^ (j + (d + 1)) - 1 = (2 ^ (d + 1) - 1) * 2 ^ j + (2 ^ j - 1) := by
  rw [Int.pow_add, Int.sub_mul, Int.mul_comm (2 ^ j)]; omega
 have h2 := GW j
 rw [h1, Int.add_comm, Int.add_mul_ediv_right _ _ (by omega), Int.ediv_eq_zero_of_lt (by omega) (by omega)]
 have h3 : (2 : Int) ^ (d + 1) = 2 * 2 ^ d := by rw [Int.pow_succ, Int.mul_comm]
 omega
theorem Dt.put (h : Dt c b r) (hc : BB c = true) {t v : Int} (hf : Hb r t = true) (t0 : 0 ≤ t) (hb : b ≤ 4611686018427387904) : Dt c b (Ov r t v) where
 cap := by have := h.cap; simpa [Ov] using this
 rd := h.rd
 t0 := h.t0
 tb := h.tb
 h0 := h.h0
 sl i x hx := by
  simp only [Hb, decide_eq_true_eq] at hf
  rcases F6 hx (LH h hc t) with ⟨rfl, rfl⟩ | ⟨_, hx⟩
  · have ht : t < r.A0 := hf.1
    have hlt := h.tb
    have hd : (2 * t + 1) / 2 = t := by omega
    have hm : (2 * t + 1) % 2 = 1 := by omega
    have hp := GW r.AV.length
    have hrd := h.rd
    have hr := (GC hc).2.2
    refine ⟨by show 0 ≤ 2 * t + 1; omega, by show 2 * t + 1 < _; omega, by show (2 * t + 1) / 2 % c.DP = _; rw [hd]; exact Ss h hc t, fun k => by exfalso; change (2 * t + 1) % 2 = 0 at k; omega, fun _ => ?_, fun _ => by show (2 * t + 1) / 2 < r.A0; omega,
     fun _ j y hy hb => ?_, fun k => by exfalso; change (2 * t + 1) % 2 = 0 at k; omega⟩
    · show 1 ≤ (2 : Int) ^ r.AV.length - 1 ∧ (2 : Int) ^ r.AV.length - 1 < 2 ^ r.AV.length
      obtain ⟨d, hd⟩ : ∃ d, r.AV.length = d + 1 := ⟨r.AV.length - 1, by omega⟩
      rw [hd, Int.pow_succ]
      have := GW d
      omega
    · have hj : j < r.AV.length := (List.getElem?_eq_some_iff.1 hy).1
      have := Tk hj
      change Dy (2 ^ r.AV.length - 1) (j : Int) = false at hb
      rw [this] at hb
      cases hb
  · exact h.sl i x hx
theorem Dt.take (h : Dt c b r) {j : Int} (hj : (j.toNat) < r.AV.length) (he : EX r j = false) : Dt c b (Fm r j) where
 cap := h.cap
 rd := by have := h.rd; simpa [Fm] using this
 t0 := h.t0
 tb := h.tb
 h0 x hx := by
  simp only [EX, decide_eq_false_iff_not] at he
  obtain ⟨k, hk⟩ := List.getElem?_of_mem hx
  have hd0 : r.AV[j.toNat]? = some (hd r j) := El hj
  have h1 := h.h0 _ (List.mem_of_getElem? hd0)
  rcases F6 hk hj with ⟨rfl, rfl⟩ | ⟨_, hk⟩
  · show 0 ≤ hd r j + 1 ∧ hd r j + 1 ≤ r.A0 ∧ r.A0 - (hd r j + 1) ≤ c.DP
    omega
  · exact h.h0 x (List.mem_of_getElem? hk)
 sl i x hx := by
  have hl : (Fm r j).AV.length = r.AV.length := by simp [Fm]
  rw [hl]
  refine (h.sl i x hx).mono (Int.le_refl _) fun k y hy => ?_
  rcases F6 hy hj with ⟨rfl, rfl⟩ | ⟨_, hk⟩
  · exact ⟨_, El hj, by show hd r j ≤ hd r j + 1; omega⟩
  · exact ⟨y, hk, Int.le_refl _⟩
theorem Dt.close (h : Dt c b r) : Dt c b { r with As := true } where
 cap := h.cap
 rd := h.rd
 t0 := h.t0
 tb := h.tb
 h0 := h.h0
 sl := h.sl
end
theorem SA : ∀ (x : Fin 256) (j k : Fin 8), Dy (x.val : Int) (j.val : Int) = true → Dy ((x.val : Int) - 2 ^ j.val) (k.val : Int) = (Dy (x.val : Int) (k.val : Int) && !decide (k = j)) ∧ (0 : Int) ≤ (x.val : Int) - 2 ^ j.val := by decide +kernel
theorem Lu {x : Int} {j k n : Nat} (h0 : 0 ≤ x) (h1 : x < 2 ^ n) (hn : n ≤ 8) (hj : j < n) (hk : k < n) (hb : Dy x (j : Int) = true) :
 Dy (x - 2 ^ j) (k : Int) = (Dy x (k : Int) && !decide (k = j)) ∧ 0 ≤ x - 2 ^ j := by
 have h2 : (2 : Int) ^ n ≤ 2 ^ 8 := by
  have := Nat.pow_le_pow_right (n := 2) (by decide) hn
  exact_mod_cast this
 have e : ((x.toNat : Nat) : Int) = x := Int.toNat_of_nonneg h0
 have := SA ⟨x.toNat, by omega⟩ ⟨j, by omega⟩ ⟨k, by omega⟩
 simp only [e, Fin.mk.injEq] at this
 exact this hb
theorem SB (k : Int) : Dy 0 k = false := by simp [Dy]
section
variable {c : TRg} {b : Int} {r : MR}
theorem Dt.rel (h : Dt c b r) (hc : BB c = true) {j t : Int} (hj0 : 0 ≤ j) (hj : j.toNat < r.AV.length) (hh : LV r j t = true) (hb : b ≤ 2305843009213693952) : Dt c b (Ri r j t) where
 cap := by have := h.cap; simpa [Ri] using this
 rd := h.rd
 t0 := h.t0
 tb := h.tb
 h0 := h.h0
 sl i x hx := by
  simp only [LV, decide_eq_true_eq] at hh
  obtain ⟨hlt, hst, hbit⟩ := hh
  rcases F6 hx (LH h hc t) with ⟨rfl, rfl⟩ | ⟨_, hx⟩
  · have hS := h.sl _ _ (JV h hc t)
    have hrc := GC hc
    have hrd := h.rd
    have htb := h.tb
    have hcap : IX r = c.DP := h.cap
    have hd0 : r.AV[j.toNat]? = some (hd r j) := El hj
    have hhd := h.h0 _ (List.mem_of_getElem? hd0)
    have hs0 := hS.s0
    have hm : (A4 r t).AP % 2 = 1 := by omega
    have hdv : (A4 r t).AP / 2 = t := by omega
    have hheld := hS.held hm
    have hjn : ((j.toNat : Nat) : Int) = j := Int.toNat_of_nonneg hj0
    have hclr : ∀ k : Nat, k < r.AV.length → Dy ((A4 r t).Left - 2 ^ j.toNat) (k : Int) = (Dy (A4 r t).Left (k : Int) && !decide (k = j.toNat)) ∧ 0 ≤ (A4 r t).Left - 2 ^ j.toNat :=
     fun k hk => Lu (by omega) hheld.2 (by omega) hj hk (by rw [hjn]; exact hbit)
    have hlow : ∀ (k : Nat) (y : Int), r.AV[k]? = some y → Dy ((A4 r t).Left - 2 ^ j.toNat) (k : Int) = false → t < y := by
     intro k y hy hbk
     have hk : k < r.AV.length := (List.getElem?_eq_some_iff.1 hy).1
     rw [(hclr k hk).1] at hbk
     by_cases e : k = j.toNat
     · subst e; rw [hd0] at hy; cases hy; exact hlt
     · simp only [e, decide_false, Bool.not_false, Bool.and_true] at hbk
       have := hS.Uh hm k y hy hbk
       omega
    unfold LW
    split
    · rename_i hz
      rw [hz] at hlow
      rw [hcap]
      have e : 2 * (t + c.DP) / 2 = t + c.DP := by omega
      refine ⟨by show 0 ≤ 2 * (t + c.DP); omega, by show 2 * (t + c.DP) < _; omega, ?_, fun _ => ⟨rfl, rfl⟩, fun k => by exfalso; change 2 * (t + c.DP) % 2 = 1 at k; omega, fun k => by exfalso; change 2 * (t + c.DP) % 2 = 1 at k; omega,
       fun k => by exfalso; change 2 * (t + c.DP) % 2 = 1 at k; omega, fun _ _ y hy => ?_⟩
      · show 2 * (t + c.DP) / 2 % c.DP = _
        rw [e, Int.add_emod_right]
        exact Ss h hc t
      · show 2 * (t + c.DP) / 2 - c.DP < y
        obtain ⟨k, hk⟩ := List.getElem?_of_mem hy
        have := hlow k y hk (SB _)
        omega
    · rename_i hz
      have h2 := (hclr _ hj).2
      have hp := GW j.toNat
      exact ⟨hS.s0, hS.s1, hS.Vr, fun k => by exfalso; change (A4 r t).AP % 2 = 0 at k; omega, fun _ => ⟨by show 1 ≤ (A4 r t).Left - 2 ^ j.toNat; omega, by show (A4 r t).Left - 2 ^ j.toNat < 2 ^ r.AV.length; omega⟩, hS.Qq,
       fun _ k y hy hbk => by show (A4 r t).AP / 2 < y; rw [hdv]; exact hlow k y hy hbk, fun k => by exfalso; change (A4 r t).AP % 2 = 0 at k; omega⟩
  · exact h.sl i x hx
theorem Lh {α : Type} (f : Nat → α) (n i : Nat) (x : α) (h : ((List.range n).map f)[i]? = some x) : i < n ∧ x = f i := by
 simp only [List.getElem?_map, Option.map_eq_some_iff] at h
 obtain ⟨k, hk, rfl⟩ := h
 obtain ⟨h1, h2⟩ := List.getElem?_eq_some_iff.1 hk
 simp at h1 h2
 subst h2
 exact ⟨h1, rfl⟩
theorem Dt.new (hc : BB c = true) (hb : 0 < b) : Dt c b (HE c) where
 cap := by have := GC hc; simp [HE]; omega
 rd := by have := GC hc; simp [HE]; omega
 t0 := Int.le_refl _
 tb := hb
 h0 x hx := by
  have := GC hc
  simp only [HE, List.mem_replicate] at hx
  obtain ⟨_, rfl⟩ := hx
  show (0 : Int) ≤ 0 ∧ (0 : Int) ≤ 0 ∧ (0 : Int) - 0 ≤ c.DP
  omega
 sl i x hx := by
  have hcp := GC hc
  obtain ⟨hi, rfl⟩ := Lh _ _ _ _ hx
  refine ⟨by show 0 ≤ 2 * (i : Int); omega, by show 2 * (i : Int) < _; omega, ?_, fun _ => ⟨rfl, rfl⟩, fun k => by exfalso; change 2 * (i : Int) % 2 = 1 at k; omega, fun k => by exfalso; change 2 * (i : Int) % 2 = 1 at k; omega,
   fun k => by exfalso; change 2 * (i : Int) % 2 = 1 at k; omega, fun _ k => by exfalso; change c.DP ≤ 2 * (i : Int) / 2 at k; omega⟩
  show 2 * (i : Int) / 2 % c.DP = i
  rw [show 2 * (i : Int) / 2 = i by omega]
  exact Int.emod_eq_of_lt (by omega) (by omega)
end
end
section
theorem IQ {l : List TIn} {n : Int} (h0 : 0 ≤ n) (h1 : n < l.length) : gI l n ∈ l := by
 have : n.toNat < l.length := by omega
 exact List.mem_of_getElem? (El this)
theorem BK {i : TIn} (h : B9 i = true) :
 (1 ≤ i.Op ∧ i.Op ≤ 25) ∧ (0 ≤ i.A ∧ i.A ≤ 7) ∧ (0 ≤ i.B ∧ i.B ≤ 7) ∧ (0 ≤ i.C ∧ i.C ≤ 7) ∧ (0 ≤ i.D ∧ i.D ≤ 2) ∧ (i.Op ≠ 1 → 0 ≤ i.K ∧ i.K ≤ 256) ∧ (i.Op = 19 → i.K ≤ 7) := by
 unfold B9 at h
 simp only at h
 repeat' split at h
 all_goals first | (exact absurd h (by decide)) | (simp only [Bool.and_eq_true, decide_eq_true_eq] at h; omega)
theorem G6 {rs : List TRg} {i : TIn} {n : Int} (h : Dp rs i n = 0) :
 B9 i = true ∧ (15 ≤ i.Op ∧ i.Op ≤ 17 → i.K ≤ n) ∧ (18 ≤ i.Op ∧ i.Op ≤ 20 → i.C < rs.length) ∧ (i.Op = 19 → i.K < (rs.getD i.C.toNat ⟨0, 0, 0⟩).AR) := by
 unfold Dp at h
 repeat' split at h
 all_goals first
  | (exfalso; omega)
  | (refine ⟨?_, ?_, ?_, ?_⟩
     · cases e : B9 i
       · exact absurd e ‹_›
       · rfl
     all_goals (intro hh; omega))
def Hj (rs : List TRg) (l : List TIn) : Prop := ∀ i ∈ l, Dp rs i l.length = 0
section
variable {rs : List TRg} {l : List TIn} {t : MT}
structure Kept (t u : MT) : Prop where
 ph : u.Phase = t.Phase
 rg : u.Ring = t.Ring
 st : u.Status = t.Status
 tk : u.AG = t.AG
 sn : u.Seen = t.Seen
theorem Kept.refl (t : MT) : Kept t t := ⟨rfl, rfl, rfl, rfl, rfl⟩
theorem Kept.trans {t u v : MT} (a : Kept t u) (b : Kept u v) : Kept t v := ⟨b.ph.trans a.ph, b.rg.trans a.rg, b.st.trans a.st, b.tk.trans a.tk, b.sn.trans a.sn⟩
theorem Rt (i : TIn) (t : MT) : Kept t (EW i t) := by
 unfold EW
 repeat' split
 all_goals exact ⟨rfl, rfl, rfl, rfl, rfl⟩
theorem NH {i : TIn} {t : MT} {n : Int} (h0 : 0 ≤ t.At) (h1 : t.At < n) (hk : i.Op ≠ 1 → 0 ≤ i.K) (hj : 15 ≤ i.Op ∧ i.Op ≤ 17 → i.K ≤ n) : 0 ≤ (EW i t).At ∧ (EW i t).At ≤ n := by
 unfold EW
 repeat' split
 all_goals (simp only; omega)
theorem Hl (hc : Hj rs l) : ∀ (n : Nat) (t : MT), 0 ≤ t.At → t.At ≤ l.length → Kept t (Ed l n t) ∧ 0 ≤ (Ed l n t).At ∧ (Ed l n t).At ≤ l.length
 | 0, t, h0, h1 => ⟨Kept.refl t, h0, h1⟩
 | n + 1, t, h0, h1 => by
   unfold Ed
   split
   · rename_i h
     have hm := IQ h0 h.1
     have hf := G6 (hc _ hm)
     have hr := BK hf.1
     have hs := NH (i := gI l t.At) h0 h.1 (fun k => (hr.2.2.2.2.2.1 k).1) hf.2.1
     obtain ⟨k1, k2⟩ := Hl hc n (EW (gI l t.At) t) hs.1 hs.2
     exact ⟨(Rt _ _).trans k1, k2⟩
   · exact ⟨Kept.refl t, h0, h1⟩
theorem Fw.kept {t u : MT} (h : Fw l t) (hp : t.Phase = 0) (k : Kept t u) (h0 : 0 ≤ u.At) (h1 : u.At ≤ l.length) : Fw l u where
 a0 := h0
 a1 := h1
 st := by rw [k.st]; exact h.st
 ph := by rw [k.ph]; exact h.ph
 p0 _ := by rw [k.rg, k.tk]; exact h.p0 hp
 p1 q := by rw [k.ph] at q; exact absurd hp q
theorem Ml (hc : Hj rs l) (h : Fw l t) : Kept t (CL l t).1 ∧ Fw l (CL l t).1 := by
 unfold CL
 repeat' split
 · exact ⟨Kept.refl t, h⟩
 · exact ⟨Kept.refl t, h⟩
 · exact ⟨Kept.refl t, h⟩
 · have hp : t.Phase = 0 := by have := h.ph; omega
   obtain ⟨k1, k2, k3⟩ := Hl hc 256 t h.a0 h.a1
   exact ⟨k1, h.kept hp k1 k2 k3⟩
structure RD (l : List TIn) (t n : MT) (a : MA) : Prop where
 run : a.Kind ≠ 0 → t.Status = 0
 k1 : a.Kind = 1 → n.Phase = 0 ∧ n.At < l.length ∧ (gI l n.At).Op = 18 ∧ a.Ring = (gI l n.At).C
 k2 : a.Kind = 2 → n.Phase = 0 ∧ n.At < l.length ∧ (gI l n.At).Op = 19 ∧ a.Ring = (gI l n.At).C ∧ a.Reader = (gI l n.At).K
 k3 : a.Kind = 3 → n.Phase = 0 ∧ n.At < l.length ∧ (gI l n.At).Op = 20 ∧ a.Ring = (gI l n.At).C
 kn : 4 ≤ a.Kind ∧ a.Kind ≤ 7 → n.Phase = 0 ∧ n.At < l.length
 kh : a.Kind = 8 ∨ a.Kind = 9 → n.Phase = 0
 kp : a.Kind = 10 → n.Phase = 1 ∧ n.At < l.length ∧ a.Ring = n.Ring ∧ a.AG = n.AG
 kr : a.Kind = 11 → n.Phase = 2 ∧ n.At < l.length ∧ a.Ring = n.Ring ∧ a.AG = n.AG ∧ a.Reader = (gI l n.At).K
 ks : a.Kind = 7 → n.Phase = 0
 top : 0 ≤ a.Kind ∧ a.Kind ≤ 11
theorem PH (hc : Hj rs l) (h : Fw l t) : RD l t (CL l t).1 (CL l t).2 := by
 unfold CL
 split
 · refine ⟨fun k => absurd rfl k, ?_, ?_, ?_, ?_, ?_, ?_, ?_, ?_, ?_⟩ <;> simp [zA]
 rename_i hs
 have hs : t.Status = 0 := by omega
 split
 · rename_i hp
   have := h.p1 (by omega)
   refine ⟨fun _ => hs, ?_, ?_, ?_, ?_, ?_, ?_, ?_, ?_, ?_⟩ <;> simp [hp]
   exact this.2.1
 split
 · rename_i hp
   have := h.p1 (by omega)
   refine ⟨fun _ => hs, ?_, ?_, ?_, ?_, ?_, ?_, ?_, ?_, ?_⟩ <;> simp [hp]
   exact this.2.1
 have hp : t.Phase = 0 := by have := h.ph; omega
 obtain ⟨k1, k2, k3⟩ := Hl hc 256 t h.a0 h.a1
 generalize Ed l 256 t = n at k1 k2 k3
 have hn : n.Phase = 0 := by rw [k1.ph, hp]
 simp only [FM]
 repeat' split
 all_goals (refine ⟨fun _ => hs, ?_, ?_, ?_, ?_, ?_, ?_, ?_, ?_, ?_⟩ <;> simp [zA, hn] <;> omega)
end
end
section
theorem B7 {e : TEv} (h : Br e = true) : (1 ≤ e.Kind ∧ e.Kind ≤ 15) ∧ (0 ≤ e.Thread ∧ e.Thread ≤ 7) ∧ (0 ≤ e.Ring ∧ e.Ring ≤ 7) ∧ e.AG < 4611686018427387904 ∧
 (CT e.Kind = true ∨ e.Ring = 0) ∧ (A1 e.Kind = true ∨ e.AG = 0) ∧ (Co e.Kind = true ∨ e.Value = 0) := by
 simpa only [Br, decide_eq_true_eq] using h
theorem Bs {k : Int} : CT k = true ↔ (1 ≤ k ∧ k ≤ 7 ∨ k = 13) := by simp only [CT, decide_eq_true_eq]
theorem Aw {k : Int} : A1 k = true ↔ (1 ≤ k ∧ k ≤ 4 ∨ k = 13) := by simp only [A1, decide_eq_true_eq]
structure Uv (a : MA) (e : TEv) : Prop where
 rg : CT e.Kind = true → a.Ring = e.Ring
 f1 : e.Kind = 1 → a.Kind = 1
 f2 : e.Kind = 2 → a.Kind = 10 ∧ a.AG = e.AG
 f3 : e.Kind = 3 → a.Kind = 2
 f4 : e.Kind = 4 → a.Kind = 11 ∧ a.AG = e.AG
 f5 : 5 ≤ e.Kind ∧ e.Kind ≤ 7 → a.Kind = 1 ∨ a.Kind = 2
 f8 : e.Kind = 8 → a.Kind = 4
 f9 : e.Kind = 9 → a.Kind = 5
 f10 : e.Kind = 10 ∨ e.Kind = 11 → a.Kind = 6
 f12 : e.Kind = 12 → a.Kind = 7 ∧ a.Value = e.Value
 f13 : e.Kind = 13 → a.Kind = 3
 f14 : e.Kind = 14 → a.Kind = 8
 f15 : e.Kind = 15 → a.Kind = 9
theorem O3 {a : MA} {e : TEv} (hr : Br e = true) (h : CM a e = true) : Uv a e := by
 have hk := (B7 hr).1
 simp only [CM, Bool.and_eq_true, Bool.or_eq_true, Bool.not_eq_true', decide_eq_true_eq] at h
 obtain ⟨h1, h2⟩ := h
 have h1 : CT e.Kind = true → a.Ring = e.Ring := fun k => by
  rcases h1 with h1 | h1
  · rw [h1] at k; cases k
  · exact h1
 have hd : e.Kind = 1 ∨ e.Kind = 2 ∨ e.Kind = 3 ∨ e.Kind = 4 ∨ e.Kind = 5 ∨ e.Kind = 6 ∨ e.Kind = 7 ∨ e.Kind = 8 ∨ e.Kind = 9 ∨ e.Kind = 10 ∨ e.Kind = 11 ∨ e.Kind = 12 ∨ e.Kind = 13 ∨ e.Kind = 14 ∨ e.Kind = 15 := by omega
 rcases hd with q | q | q | q | q | q | q | q | q | q | q | q | q | q | q
 all_goals (simp [q, EV] at h2; refine ⟨h1, ?_, ?_, ?_, ?_, ?_, ?_, ?_, ?_, ?_, ?_, ?_, ?_⟩ <;> intro hh <;> omega)
section
variable {l : List TIn} {t n : MT} {a : MA} {e : TEv} {v : Int}
theorem WC (i : TIn) (h : e.Kind = 1) : BW i n e v = { n with Phase := 1, Ring := e.Ring, AG := e.AG } := by unfold BW; rw [if_pos h]
theorem WB (i : TIn) (h : e.Kind = 3) : BW i n e v = { n with Phase := 2, Ring := e.Ring, AG := e.AG } := by unfold BW; rw [if_neg (by omega), if_pos h]
theorem Tn (i : TIn) (h : e.Kind = 14) : BW i n e v = { n with Status := 1 } := by unfold BW; rw [if_neg (by omega), if_neg (by omega), if_pos h]
theorem Tm (i : TIn) (h : e.Kind = 15) : BW i n e v = { n with Status := 2 } := by unfold BW; rw [if_neg (by omega), if_neg (by omega), if_neg (by omega), if_pos h]
theorem bTe (i : TIn) (h1 : e.Kind ≠ 1) (h3 : e.Kind ≠ 3) (h14 : e.Kind ≠ 14) (h15 : e.Kind ≠ 15) :
 (BW i n e v).At = n.At + 1 ∧ (BW i n e v).Phase = 0 ∧ (BW i n e v).Ring = 0 ∧ (BW i n e v).AG = 0 ∧ (BW i n e v).Status = n.Status ∧
   (BW i n e v).Seen = (if e.Kind = 12 then n.Seen ++ [e.Value] else n.Seen) := by
 unfold BW
 rw [if_neg h1, if_neg h3, if_neg h14, if_neg h15]
 exact ⟨rfl, rfl, rfl, rfl, rfl, rfl⟩
theorem QP (hr : Br e = true) (h0 : 0 ≤ e.AG) (hq : RD l t n a) (hn : Fw l n) (hst : n.Status = t.Status) (ha : a.Kind ≠ 0) (hf : Uv a e) : Fw l (BW (gI l n.At) n e v) := by
 have hk := B7 hr
 have hrun : n.Status = 0 := hst.trans (hq.run ha)
 have hkr := Bs (k := e.Kind)
 by_cases he : e.Kind = 1
 · rw [WC _ he]
   have h1 := hq.k1 (hf.f1 he)
   have h2 := hf.rg (hkr.2 (by omega))
   exact ⟨hn.a0, hn.a1, hn.st, by simp, by simp, fun _ => ⟨hrun, h1.2.1, by rw [h1.2.2.1]; rfl, by rw [← h1.2.2.2, h2], h0, hk.2.2.2.1⟩⟩
 by_cases he3 : e.Kind = 3
 · rw [WB _ he3]
   have h1 := hq.k2 (hf.f3 he3)
   have h2 := hf.rg (hkr.2 (by omega))
   exact ⟨hn.a0, hn.a1, hn.st, by simp, by simp, fun _ => ⟨hrun, h1.2.1, by rw [h1.2.2.1]; rfl, by rw [← h1.2.2.2.1, h2], h0, hk.2.2.2.1⟩⟩
 by_cases he14 : e.Kind = 14
 · rw [Tn _ he14]
   have h1 := hq.kh (.inl (hf.f14 he14))
   exact ⟨hn.a0, hn.a1, by simp, hn.ph, hn.p0, fun k => absurd h1 k⟩
 by_cases he15 : e.Kind = 15
 · rw [Tm _ he15]
   have h1 := hq.kh (.inr (hf.f15 he15))
   exact ⟨hn.a0, hn.a1, by simp, hn.ph, hn.p0, fun k => absurd h1 k⟩
 have KA : n.At < l.length := by
  have b2 := hf.f2; have b4 := hf.f4; have b5 := hf.f5; have b8 := hf.f8; have b9 := hf.f9; have b10 := hf.f10; have b12 := hf.f12; have b13 := hf.f13
  have hd : e.Kind = 2 ∨ e.Kind = 4 ∨ (5 ≤ e.Kind ∧ e.Kind ≤ 7) ∨ (8 ≤ e.Kind ∧ e.Kind ≤ 12) ∨ e.Kind = 13 := by omega
  rcases hd with h | h | h | h | h
  · exact (hq.kp (b2 h).1).2.1
  · exact (hq.kr (b4 h).1).2.1
  · rcases b5 h with q | q
    · exact (hq.k1 q).2.1
    · exact (hq.k2 q).2.1
  · refine (hq.kn ?_).2
    have : e.Kind = 8 ∨ e.Kind = 9 ∨ (e.Kind = 10 ∨ e.Kind = 11) ∨ e.Kind = 12 := by omega
    rcases this with q | q | q | q
    · have := b8 q; omega
    · have := b9 q; omega
    · have := b10 q; omega
    · have := b12 q; omega
  · exact (hq.k3 (b13 h)).2.1
 have := hn.a0
 obtain ⟨e1, e2, e3, e4, e5, _⟩ := bTe (v := v) (n := n) (gI l n.At) he he3 he14 he15
 exact ⟨by rw [e1]; omega, by rw [e1]; omega, by rw [e5]; exact hn.st, by rw [e2]; simp, fun _ => ⟨e3, e4⟩, fun k => absurd e2 k⟩
theorem ON {c : TRg} {b : Int} {r : MR} (h : Dt c b r) (hc : BB c = true) (hb : b ≤ 2305843009213693952) (h0 : 0 ≤ e.AG) (hrd : a.Kind = 2 ∨ a.Kind = 11 → 0 ≤ a.Reader ∧ a.Reader < c.AR)
 (hf : Uv a e) (ht : DU r a e = true) : Dt c (b + 1) (CK r a e) := by
 unfold CK
 unfold DU at ht
 have hl := h.rd
 split
 · rename_i he
   rw [if_pos he] at ht
   simp only [Bool.and_eq_true, Bool.not_eq_true', decide_eq_true_eq] at ht
   exact h.U2 ht.1
 rename_i h1
 rw [if_neg h1] at ht
 split
 · rename_i he
   rw [if_pos he] at ht
   exact (h.put hc ht h0 (by omega)).mono (by omega)
 rename_i h2
 rw [if_neg h2] at ht
 split
 · rename_i he
   rw [if_pos he] at ht
   simp only [Bool.and_eq_true, Bool.not_eq_true', decide_eq_true_eq] at ht
   have := hrd (.inl (hf.f3 he))
   exact (h.take (by omega) ht.1).mono (by omega)
 rename_i h3
 rw [if_neg h3] at ht
 split
 · rename_i he
   rw [if_pos he] at ht
   have := hrd (.inr (hf.f4 he).1)
   exact (h.rel hc this.1 (by omega) ht hb).mono (by omega)
 split
 · exact h.close.mono (by omega)
 · exact h.mono (by omega)
theorem K8 (r : MR) (a : MA) (e : TEv) : r.A0 ≤ (CK r a e).A0 ∧ (e.Kind = 1 → (CK r a e).A0 = r.A0 + 1) ∧ (e.Kind ≠ 1 → (CK r a e).A0 = r.A0) := by
 unfold CK
 repeat' split
 all_goals (refine ⟨?_, fun h => ?_, fun h => ?_⟩ <;> (try simp [Ov, Fm, Ri]) <;> (try omega))
theorem T3 {r : MR} {j k : Int} : hd r k ≤ hd (Fm r j) k := by
 simp only [hd, Fm]
 by_cases e : j.toNat = k.toNat
 · by_cases h : j.toNat < r.AV.length
   · rw [← e, GJ h]; omega
   · rw [List.set_eq_of_length_le (by omega)]; omega
 · rw [getD_set_ne e]; omega
theorem Sm (r : MR) (a : MA) (e : TEv) (k : Int) : hd r k ≤ hd (CK r a e) k := by
 unfold CK
 split
 · exact Int.le_refl _
 split
 · exact Int.le_refl _
 split
 · exact T3
 split
 · exact Int.le_refl _
 split <;> exact Int.le_refl _
end
end
section
section
variable {p : MP} {b : Int} {s : MS} {e : TEv}
structure Dh (p : MP) (s : MS) (e : TEv) : Prop where
 re : Br e = true
 lt : e.Thread.toNat < s.AB.length
 th : 0 ≤ e.Thread
 a0 : (Ak p s e.Thread).Kind ≠ 0
 ft : CM (Ak p s e.Thread) e = true
theorem fitting (h : EE p s e = 0) : Dh p s e := by
 unfold EE at h
 split at h
 · omega
 rename_i h1
 split at h
 · omega
 rename_i h2
 split at h
 · omega
 rename_i h3
 have hr : Br e = true := by cases q : Br e <;> simp_all
 have hk := B7 hr
 refine ⟨hr, by omega, hk.2.1.1, fun q => h3 (.inl q), ?_⟩
 cases q : CM (Ak p s e.Thread) e
 · exact absurd (.inr q) h3
 · rfl
theorem KC : EE p s e = 0 ↔ Dh p s e := by
 refine ⟨fitting, fun h => ?_⟩
 have := h.lt
 have := h.th
 unfold EE
 rw [if_neg (by rw [h.re]; simp), if_neg (by omega), if_neg (by rw [h.ft]; simp [h.a0])]
theorem Qw (h : Dd p b s) {i : Nat} {l : List TIn} (hl : p.AB[i]? = some l) : Hj p.AF l := h.pi.ins l (List.mem_of_getElem? hl)
theorem VA {t : Int} (h : t.toNat < s.AB.length) : s.AB[t.toNat]? = some (K0 s t) := El h
theorem Kl (h : Dd p b s) {t : Int} (k : t.toNat < s.AB.length) : p.AB[t.toNat]? = some (CO p t) := El (by rw [← h.nt]; exact k)
theorem VE {i : Int} (h : i.toNat < s.AF.length) : s.AF[i.toNat]? = some (CS s i) := El h
def Lr (p : MP) (i : Int) : TRg := p.AF.getD i.toNat ⟨0, 0, 0⟩
theorem QM {i : Int} (h : i.toNat < p.AF.length) : p.AF[i.toNat]? = some (Lr p i) := El h
theorem Dd.K7 (h : Dd p b s) {i : Int} (k : i.toNat < p.AF.length) : Dt (Lr p i) b (CS s i) ∧ BB (Lr p i) = true :=
 ⟨h.ri _ _ _ (QM k) (VE (by rw [h.nr]; exact k)), h.pi.rg _ (List.mem_of_getElem? (QM k))⟩
theorem Dd.KO (h : Dd p b s) {t : Int} (k : t.toNat < s.AB.length) : Fw (CO p t) (K0 s t) := h.ti _ _ _ (Kl h k) (VA k)
theorem Dd.asked (h : Dd p b s) {t : Int} (k : t.toNat < s.AB.length) :
 RD (CO p t) (K0 s t) (CL (CO p t) (K0 s t)).1 (Ak p s t) ∧ Fw (CO p t) (CL (CO p t) (K0 s t)).1 ∧ Kept (K0 s t) (CL (CO p t) (K0 s t)).1 ∧ Hj p.AF (CO p t) := by
 have hc := Qw h (Kl h k)
 have hk := Ml hc (h.KO k)
 exact ⟨PH hc (h.KO k), hk.2, hk.1, hc⟩
theorem Gh (h : Dd p b s) {t : Int} (k : t.toNat < s.AB.length) {a : MA} (ha : a = Ak p s t) (hk : a.Kind = 1 ∨ a.Kind = 2 ∨ a.Kind = 3 ∨ a.Kind = 10 ∨ a.Kind = 11) :
 0 ≤ a.Ring ∧ a.Ring.toNat < p.AF.length ∧ (a.Kind = 2 ∨ a.Kind = 11 → 0 ≤ a.Reader ∧ a.Reader < (Lr p a.Ring).AR) := by
 obtain ⟨hq, hn, _, hc⟩ := h.asked k
 rw [← ha] at hq
 generalize (CL (CO p t) (K0 s t)).1 = n at hq hn
 generalize CO p t = l at hq hn hc
 have key : ∀ {i : TIn}, i ∈ l → 18 ≤ i.Op ∧ i.Op ≤ 20 → 0 ≤ i.C ∧ i.C.toNat < p.AF.length ∧ (i.Op = 19 → 0 ≤ i.K ∧ i.K < (Lr p i.C).AR) := by
  intro i hi ho
  have h1 := G6 (hc i hi)
  have h2 := BK h1.1
  have h3 := h1.2.2.1 ho
  exact ⟨by omega, by omega, fun q => ⟨(h2.2.2.2.2.2.1 (by omega)).1, h1.2.2.2 q⟩⟩
 have a0 := hn.a0
 rcases hk with q | q | q | q | q
 · obtain ⟨_, h1, h2, h3⟩ := hq.k1 q
   have := key (IQ a0 h1) (by omega)
   rw [h3]
   exact ⟨this.1, this.2.1, by omega⟩
 · obtain ⟨_, h1, h2, h3, h4⟩ := hq.k2 q
   have := key (IQ a0 h1) (by omega)
   rw [h3, h4]
   exact ⟨this.1, this.2.1, fun _ => this.2.2 h2⟩
 · obtain ⟨_, h1, h2, h3⟩ := hq.k3 q
   have := key (IQ a0 h1) (by omega)
   rw [h3]
   exact ⟨this.1, this.2.1, by omega⟩
 · obtain ⟨h0, h1, h2, h3⟩ := hq.kp q
   obtain ⟨_, _, h4, h5, _⟩ := hn.p1 (by omega)
   have := key (IQ a0 h1) (by omega)
   rw [h2, ← h5]
   exact ⟨this.1, this.2.1, by omega⟩
 · obtain ⟨h0, h1, h2, h3, h6⟩ := hq.kr q
   obtain ⟨_, _, h4, h5, _⟩ := hn.p1 (by omega)
   have := key (IQ a0 h1) (by omega)
   rw [h2, ← h5, h6]
   exact ⟨this.1, this.2.1, fun _ => this.2.2 (by omega)⟩
theorem I5 (h : Dd p b s) (f : Dh p s e) (hk : CT e.Kind = true) :
 0 ≤ e.Ring ∧ e.Ring.toNat < p.AF.length ∧ ((Ak p s e.Thread).Kind = 2 ∨ (Ak p s e.Thread).Kind = 11 → 0 ≤ (Ak p s e.Thread).Reader ∧ (Ak p s e.Thread).Reader < (Lr p e.Ring).AR) := by
 have hf := O3 f.re f.ft
 have hr := hf.rg hk
 rw [← hr]
 refine Gh h f.lt rfl ?_
 rw [Bs] at hk
 have h1 := hf.f1; have h2 := hf.f2; have h3 := hf.f3; have h4 := hf.f4; have h5 := hf.f5; have h13 := hf.f13
 omega
end
end
section
section
variable {p : MP} {b : Int} {s : MS} {e : TEv}
theorem Qa {rs : List MR} {i : Nat} {r : MR} (k : i < rs.length) (j : Int) : (rs.set i r).getD j.toNat zR = if j.toNat = i then r else rs.getD j.toNat zR := by
 by_cases q : i = j.toNat
 · rw [if_pos q.symm, ← q, GJ k]
 · rw [if_neg (Ne.symm q), getD_set_ne q]
theorem Lv (h : Dd p b s) (f : Dh p s e) (i : Int) : (CS s i).A0 ≤ (CS (Ai p s e) i).A0 ∧ ∀ k, hd (CS s i) k ≤ hd (CS (Ai p s e) i) k := by
 unfold CS Ai
 simp only
 split
 · rename_i q
   have hk : CT e.Kind = true := by rw [Bs]; rw [Aw] at q; omega
   have hr := I5 h f hk
   rw [Qa (by rw [h.nr]; exact hr.2.1)]
   split
   · rename_i q2
     rw [q2]
     exact ⟨(K8 _ _ _).1, fun k => Sm _ _ _ _⟩
   · exact ⟨Int.le_refl _, fun _ => Int.le_refl _⟩
 · exact ⟨Int.le_refl _, fun _ => Int.le_refl _⟩
theorem HH (h : Dd p b s) (f : Dh p s e) (q : A1 e.Kind = true) : CS (Ai p s e) e.Ring = CK (CS s e.Ring) (Ak p s e.Thread) e := by
 have hk : CT e.Kind = true := by rw [Bs]; rw [Aw] at q; omega
 have hr := I5 h f hk
 unfold CS Ai
 simp only
 rw [if_pos q, Qa (by rw [h.nr]; exact hr.2.1), if_pos rfl]
 rfl
theorem IP (h : Dd p b s) (hb : b ≤ 2305843009213693952) (he0 : 0 ≤ e.AG) (f : Dh p s e) (ht : A1 e.Kind = true → DU (CS s e.Ring) (Ak p s e.Thread) e = true) :
 Dd p (b + 1) (Ai p s e) := by
 obtain ⟨hq, hn, hkp, hc⟩ := h.asked f.lt
 have hf := O3 f.re f.ft
 have hrg : A1 e.Kind = true → 0 ≤ e.Ring ∧ e.Ring.toNat < p.AF.length ∧ _ := fun q => I5 h f (by rw [Bs]; rw [Aw] at q; omega)
 have hT : Fw (CO p e.Thread) (BW (gI (CO p e.Thread) (CL (CO p e.Thread) (K0 s e.Thread)).1.At) (CL (CO p e.Thread) (K0 s e.Thread)).1 e (if e.Kind = 4 then (A4 (CS s e.Ring) e.AG).Value else 0)) :=
  QP f.re he0 hq hn hkp.st f.a0 hf
 refine ⟨h.pi, by simp [Ai, h.nt], ?_, ?_, ?_, ?_, ?_, ?_⟩
 · unfold Ai; simp only; split <;> simp [h.nr]
 · have := h.n0
   unfold Ai; simp only; split
   · omega
   · exact this
 · intro i c r hi hr
   unfold Ai at hr
   simp only at hr
   split at hr
   · rename_i q
     obtain ⟨r0, r1, r2⟩ := hrg q
     rcases F6 hr (by rw [h.nr]; exact r1) with ⟨rfl, rfl⟩ | ⟨_, hr⟩
     · have := h.K7 r1
       rw [QM r1] at hi
       cases hi
       exact ON this.1 this.2 hb he0 r2 hf (ht q)
     · exact (h.ri i c r hi hr).mono (by omega)
   · exact (h.ri i c r hi hr).mono (by omega)
 · intro i l t hl hi
   rcases F6 (by simpa [Ai] using hi) f.lt with ⟨rfl, rfl⟩ | ⟨_, hi⟩
   · rw [Kl h f.lt] at hl
     cases hl
     exact hT
   · exact h.ti i l t hl hi
 · intro i t hi hp
   rcases F6 (by simpa [Ai] using hi) f.lt with ⟨rfl, rfl⟩ | ⟨_, hi⟩
   · by_cases he : e.Kind = 1
     · rw [WC _ he] at hp ⊢
       have q : A1 e.Kind = true := by rw [Aw]; omega
       have h1 := ht q
       show e.AG < (CS (Ai p s e) e.Ring).A0
       rw [HH h f q, (K8 _ _ _).2.1 he]
       simp only [DU, he, if_true, Bool.and_eq_true, decide_eq_true_eq] at h1
       omega
     by_cases he3 : e.Kind = 3
     · rw [WB _ he3] at hp; simp at hp
     by_cases he14 : e.Kind = 14
     · rw [Tn _ he14] at hp
       have := hq.kh (.inl (hf.f14 he14))
       simp only at hp; omega
     by_cases he15 : e.Kind = 15
     · rw [Tm _ he15] at hp
       have := hq.kh (.inr (hf.f15 he15))
       simp only at hp; omega
     · rw [(bTe _ he he3 he14 he15).2.1] at hp; omega
   · have := h.p1 i t hi hp
     have := (Lv h f t.Ring).1
     omega
 · intro i l t hl hi hp
   rcases F6 (by simpa [Ai] using hi) f.lt with ⟨rfl, rfl⟩ | ⟨_, hi⟩
   · rw [Kl h f.lt] at hl
     cases hl
     by_cases he : e.Kind = 1
     · rw [WC _ he] at hp; simp at hp
     by_cases he3 : e.Kind = 3
     · rw [WB _ he3] at hp ⊢
       have q : A1 e.Kind = true := by rw [Aw]; omega
       have h1 := ht q
       obtain ⟨r0, r1, r2⟩ := hrg q
       have hk2 := hq.k2 (hf.f3 he3)
       show e.AG < hd (CS (Ai p s e) e.Ring) (gI (CO p e.Thread) (CL (CO p e.Thread) (K0 s e.Thread)).1.At).K
       rw [HH h f q, ← hk2.2.2.2.2]
       unfold DU at h1
       rw [if_neg he, if_neg (by omega), if_pos he3] at h1
       simp only [Bool.and_eq_true, Bool.not_eq_true', decide_eq_true_eq] at h1
       have hR := (h.K7 r1).1
       have hrd := r2 (.inl (hf.f3 he3))
       have hl := hR.rd
       have : CK (CS s e.Ring) (Ak p s e.Thread) e = Fm (CS s e.Ring) (Ak p s e.Thread).Reader := by unfold CK; rw [if_neg he, if_neg (by omega), if_pos he3]
       rw [this]
       have : hd (Fm (CS s e.Ring) (Ak p s e.Thread).Reader) (Ak p s e.Thread).Reader = hd (CS s e.Ring) (Ak p s e.Thread).Reader + 1 := by
        unfold hd Fm
        rw [GJ (by omega)]
        rfl
       rw [this]
       have := h1.2
       omega
     by_cases he14 : e.Kind = 14
     · rw [Tn _ he14] at hp
       have := hq.kh (.inl (hf.f14 he14))
       simp only at hp; omega
     by_cases he15 : e.Kind = 15
     · rw [Tm _ he15] at hp
       have := hq.kh (.inr (hf.f15 he15))
       simp only at hp; omega
     · rw [(bTe _ he he3 he14 he15).2.1] at hp; omega
   · have := h.p2 i l t hl hi hp
     have := (Lv h f t.Ring).2 (gI l t.At).K
     omega
theorem Dd.mono {b' : Int} (h : Dd p b s) (k : b ≤ b') : Dd p b' s := { h with ri := fun i c r hi hr => (h.ri i c r hi hr).mono k }
theorem LU (hk : G1 s (Ak p s e.Thread) e = true) (hr : Br e = true) (q : A1 e.Kind = true) : DU (CS s e.Ring) (Ak p s e.Thread) e = true := by
 have h1 := (Aw (k := e.Kind)).1 q
 unfold G1 at hk
 simp only at hk
 rw [if_neg (by omega), if_neg (by omega), if_neg (by omega), if_neg (by omega)] at hk
 split at hk
 · simp only [Bool.and_eq_true] at hk; exact hk.1
 · simpa [q] using hk
theorem VW (h : Dd p b s) (hb : b ≤ 2305843009213693952) (he0 : 0 ≤ e.AG) : Dd p (b + 1) (P5 p s e).2 := by
 unfold P5
 split
 · exact h.mono (by omega)
 split
 · exact h.mono (by omega)
 · rename_i h1 h2
   have f : Dh p s e := fitting (by omega)
   refine IP h hb he0 f fun q => LU (p := p) ?_ f.re q
   cases hm : Bf p s e
   · exact absurd hm h2
   · simp only [Bf, Bool.and_eq_true] at hm; exact hm.2
theorem Ql (h : EZ p) : Dd p 1 (CA p) where
 pi := h
 nt := by simp [CA]
 nr := by simp [CA]
 n0 := Int.le_refl _
 ri i c r hi hr := by
  simp only [CA, List.getElem?_map, hi, Option.map_some, Option.some.injEq] at hr
  subst hr
  exact Dt.new (h.rg c (List.mem_of_getElem? hi)) (by decide)
 ti i l t hl hi := by
  simp only [CA, List.getElem?_map, hl, Option.map_some, Option.some.injEq] at hi
  subst hi
  exact ⟨by decide, by simp [zT], by decide, by decide, fun _ => ⟨rfl, rfl⟩, fun k => absurd rfl k⟩
 p1 i t hi hp := by
  simp only [CA, List.getElem?_map, Option.map_eq_some_iff] at hi
  obtain ⟨_, _, rfl⟩ := hi
  simp [zT] at hp
 p2 i l t hl hi hp := by
  simp only [CA, List.getElem?_map, Option.map_eq_some_iff] at hi
  obtain ⟨_, _, rfl⟩ := hi
  simp [zT] at hp
end
end
section
def B0 (z : Int) : Prop := 0 ≤ z ∧ z < 18446744073709551616
theorem Cq : B0 0 := by unfold B0; decide
def L6 (op : Int) (a b : Nat) : Nat := if op = 8 then a &&& b else if op = 9 then a ||| b else a ^^^ b
def Vo (op : Int) (x y : Nat) : Prop := op = 8 ∧ x + y = 2 ∨ op = 9 ∧ 0 < x + y ∨ op = 10 ∧ x + y = 1
instance (op : Int) (x y : Nat) : Decidable (Vo op x y) := by unfold Vo; infer_instance
theorem UM (op : Int) (ho : op = 8 ∨ op = 9 ∨ op = 10) (a b k : Nat) : L6 op a b / 2 ^ k % 2 = if Vo op (a / 2 ^ k % 2) (b / 2 ^ k % 2) then 1 else 0 := by
 have e : ∀ n : Nat, n / 2 ^ k % 2 = (n.testBit k).toNat := fun n => (Nat.toNat_testBit n k).symm
 rw [e, e a, e b]
 rcases ho with h | h | h <;> subst h
 · show ((a &&& b).testBit k).toNat = _
   rw [Nat.testBit_and]; cases a.testBit k <;> cases b.testBit k <;> decide
 · show ((a ||| b).testBit k).toNat = _
   rw [Nat.testBit_or]; cases a.testBit k <;> cases b.testBit k <;> decide
 · show ((a ^^^ b).testBit k).toNat = _
   rw [Nat.testBit_xor]; cases a.testBit k <;> cases b.testBit k <;> decide
theorem mod_pow_succ (n k : Nat) : n % 2 ^ (k + 1) = n % 2 ^ k + 2 ^ k * (n / 2 ^ k % 2) := Nat.mod_mul
theorem VK (op : Int) {a b : Nat} (ha : a < 2 ^ 64) (hb : b < 2 ^ 64) : L6 op a b < 2 ^ 64 := by
 unfold L6
 split
 · exact Nat.and_lt_two_pow _ hb
 · split
   · exact Nat.or_lt_two_pow ha hb
   · exact Nat.xor_lt_two_pow ha hb
theorem UN {op a b : Int} (ho : op = 8 ∨ op = 9 ∨ op = 10) : KT op a b = (L6 op a.toNat b.toNat : Nat) := by
 rcases ho with h | h | h <;> subst h <;> rfl
theorem Sz (op : Int) (ho : op = 8 ∨ op = 9 ∨ op = 10) (a b k : Nat) :
 L6 op a b % 2 ^ (k + 1) = if Vo op (a / 2 ^ k % 2) (b / 2 ^ k % 2) then L6 op a b % 2 ^ k + 2 ^ k else L6 op a b % 2 ^ k := by
 rw [mod_pow_succ, UM op ho]
 split <;> simp
theorem Ma (a : Int) (k : Nat) : IntKind.u64.wrap (IntKind.u64.wrap (a * 2 ^ k) * 2) = IntKind.u64.wrap (a * 2 ^ (k + 1)) := by
 rw [Int.pow_succ, ← Int.mul_assoc]
 generalize a * 2 ^ k = z
 simp only [IntKind.wrap, IntKind.signed, IntKind.bits, Bool.false_and, Bool.false_eq_true, if_false]
 omega
theorem Nq (a : Int) (k : Nat) (h : 0 ≤ a) : a / 2 ^ k / 2 = a / 2 ^ (k + 1) := by
 rw [Int.pow_succ, Int.ediv_ediv_of_nonneg (Int.le_of_lt (Int.pow_pos (by decide)))]
def Ki (l : List Int) (n : Int) : Prop := n ∈ l ∧ ∀ x ∈ l, n ≤ x
theorem J6 {r : MR} {n : Int} (h : Ki r.AV n) : Ex r = true ↔ IX r ≤ r.A0 - n := by
 simp only [Ex, List.any_eq_true, decide_eq_true_eq]
 refine ⟨fun ⟨x, hx, hh⟩ => ?_, fun hh => ⟨n, h.1, hh⟩⟩
 have := h.2 x hx
 omega
theorem P7 : ∀ (x : Fin 256) (j : Fin 8), Dy (x.val : Int) (j.val : Int) = true → Vm.bits .andNot IntKind.i64 (x.val : Int) (shl IntKind.i64 1 (j.val : Int)) = (x.val : Int) - 2 ^ j.val := by decide +kernel
end
section
section
variable {p : MP} {s : MS} {e : TEv}
theorem Dr (h : Bf p s e = true) : Dh p s e ∧ EE p s e = 0 ∧ G1 s (Ak p s e.Thread) e = true := by
 simp only [Bf, Bool.and_eq_true, decide_eq_true_eq] at h
 exact ⟨fitting h.1, h.1, h.2⟩
theorem IZ (h : Bf p s e = true) : P5 p s e = (0, Ai p s e) := by
 have := (Dr h).2.1
 unfold P5
 rw [if_neg (by omega), if_neg (by rw [h]; simp)]
theorem VG (h : Bf p s e = false) : (P5 p s e).1 ≠ 0 ∧ (P5 p s e).2 = s := by
 unfold P5
 by_cases h0 : EE p s e ≠ 0
 · rw [if_pos h0]; exact ⟨h0, rfl⟩
 · rw [if_neg h0, if_pos h]; exact ⟨by show (11 : Int) ≠ 0; decide, rfl⟩
end
end
section
section
variable {p : MP} {s : MS} {e : TEv}
theorem Cz (q : A1 e.Kind = true) : CT e.Kind = true := by rw [Bs]; rw [Aw] at q; omega
theorem Vg (hm : Bf p s e = true) : (Ai p s e).Ec ≤ s.Ec + 1048576 := by
 obtain ⟨f, _, hk⟩ := Dr hm
 show (if e.Kind = 8 then max s.Ec e.Value else s.Ec) ≤ _
 split
 · rename_i q
   unfold G1 at hk
   simp only at hk
   rw [if_neg (by omega), if_neg (by omega), if_pos q] at hk
   have := of_decide_eq_true hk
   omega
 · omega
end
end
section
def BH (p : MP) (m : MS) (tape : List Int) (pk ck dr : Int) (fire : Bool) : Option TEv :=
 let a := Ak p m pk
 let r := CS m a.Ring
 if a.Kind = 0 then none
 else if a.Kind = 1 ∨ a.Kind = 2 then
  (if CG r a = true then
    (if r.As = true then some ⟨pk, 6, a.Ring, 0, 0⟩ else if a.Mode = 0 then some ⟨pk, 5, a.Ring, 0, 0⟩ else if a.Mode = 2 ∧ fire = true then some ⟨pk, 7, a.Ring, 0, 0⟩ else none)
  else if a.Kind = 1 then some ⟨pk, 1, a.Ring, r.A0, 0⟩ else some ⟨pk, 3, a.Ring, hd r a.Reader, 0⟩)
 else if a.Kind = 3 then some ⟨pk, 13, a.Ring, r.A0, 0⟩
 else if a.Kind = 4 then some ⟨pk, 8, 0, 0, IntKind.u64.wrap (m.Ec + ck % 1048576)⟩
 else if a.Kind = 5 then some ⟨pk, 9, 0, 0, dr⟩
 else if a.Kind = 6 then (if m.BO = true ∨ (tape.length : Int) ≤ m.Reads then some ⟨pk, 11, 0, 0, 0⟩ else some ⟨pk, 10, 0, 0, tape.getD m.Reads.toNat 0⟩)
 else if a.Kind = 7 then some ⟨pk, 12, 0, 0, a.Value⟩
 else if a.Kind = 8 then some ⟨pk, 14, 0, 0, 0⟩
 else if a.Kind = 9 then some ⟨pk, 15, 0, 0, 0⟩
 else if a.Kind = 10 then some ⟨pk, 2, a.Ring, a.AG, 0⟩
 else some ⟨pk, 4, a.Ring, a.AG, 0⟩
def B3 (p : MP) (m : MS) (tape : List Int) (pk ck dr : Int) (fire : Bool) : Option TEv :=
 if pk < 0 ∨ (m.AB.length : Int) ≤ pk then none
 else match BH p m tape pk ck dr fire with
  | some e => if Bf p m e = true then some e else none
  | none => none
section
variable {p : MP} {b : Int} {m : MS}
theorem DW (h : Dd p b m) (hb : b ≤ 2305843009213693952) {pk : Int} (h0 : 0 ≤ pk) (h1 : pk < m.AB.length) (hk : (Ak p m pk).Kind = 1 ∨ (Ak p m pk).Kind = 2) {k t : Int}
 (hc : CG (CS m (Ak p m pk).Ring) (Ak p m pk) = true → t = 0 ∧ ((CS m (Ak p m pk).Ring).As = true ∧ k = 6 ∨ (CS m (Ak p m pk).Ring).As = false ∧ ((Ak p m pk).Mode = 0 ∧ k = 5 ∨ (Ak p m pk).Mode = 2 ∧ k = 7)))
 (hn : CG (CS m (Ak p m pk).Ring) (Ak p m pk) = false → ((Ak p m pk).Kind = 1 ∧ k = 1 ∧ t = (CS m (Ak p m pk).Ring).A0 ∨ (Ak p m pk).Kind = 2 ∧ k = 3 ∧ t = hd (CS m (Ak p m pk).Ring) (Ak p m pk).Reader)) :
 Bf p m ⟨pk, k, (Ak p m pk).Ring, t, 0⟩ = true := by
 have hlt : pk.toNat < m.AB.length := by omega
 have h8 : m.AB.length ≤ 8 := by rw [h.nt]; exact h.pi.t8
 have hr8 := h.pi.r8
 obtain ⟨r0, r1, r2⟩ := Gh h hlt rfl (by omega : (Ak p m pk).Kind = 1 ∨ (Ak p m pk).Kind = 2 ∨ (Ak p m pk).Kind = 3 ∨ (Ak p m pk).Kind = 10 ∨ (Ak p m pk).Kind = 11)
 have hR := (h.K7 r1).1
 have htb := hR.tb
 have ht0 := hR.t0
 generalize ha : Ak p m pk = a at *
 have hkk : (1 ≤ k ∧ k ≤ 7) ∧ (k = 1 ∨ k = 3 ∨ k = 5 ∨ k = 6 ∨ k = 7) ∧ ((k = 1 → a.Kind = 1) ∧ (k = 3 → a.Kind = 2) ∧ (k = 5 → a.Mode = 0) ∧ (k = 7 → a.Mode = 2)) := by
  cases q : CG (CS m a.Ring) a
  · have := hn q; omega
  · have := hc q; omega
 have hhd : a.Kind = 2 → 0 ≤ hd (CS m a.Ring) a.Reader ∧ hd (CS m a.Ring) a.Reader ≤ (CS m a.Ring).A0 := fun q => by
  have := r2 (.inl q)
  have hl := hR.rd
  have := hR.h0 _ (List.mem_of_getElem? (El (d := 0) (show a.Reader.toNat < (CS m a.Ring).AV.length by omega)))
  unfold hd
  omega
 have ht : 0 ≤ t ∧ t < 4611686018427387904 ∧ (k ≠ 1 → k ≠ 3 → t = 0) := by
  cases q : CG (CS m a.Ring) a
  · rcases hn q with ⟨q1, q2, q3⟩ | ⟨q1, q2, q3⟩
    · omega
    · have := hhd q1; omega
  · have := hc q; omega
 have hre : Br ⟨pk, k, a.Ring, t, 0⟩ = true := by
  simp only [Br, decide_eq_true_eq]
  refine ⟨by omega, by omega, by omega, by omega, .inl (Bs.2 (by omega)), ?_, by simp⟩
  by_cases q : k = 1 ∨ k = 3
  · exact .inl (Aw.2 (by omega))
  · exact .inr (ht.2.2 (by omega) (by omega))
 have hft : CM a ⟨pk, k, a.Ring, t, 0⟩ = true := by
  simp only [CM, Bool.and_eq_true]
  refine ⟨by simp, ?_⟩
  rcases hkk.2.1 with q | q | q | q | q
  · subst q; simp [EV, hkk.2.2.1 rfl]
  · subst q; simp [EV, hkk.2.2.2.1 rfl]
  · subst q; simp [hkk.2.2.2.2.1 rfl, hk]
  · subst q; simp [hk]
  · subst q; simp [hkk.2.2.2.2.2 rfl, hk]
 have hfit : EE p m ⟨pk, k, a.Ring, t, 0⟩ = 0 := by
  rw [KC]
  exact ⟨hre, hlt, h0, by show (Ak p m pk).Kind ≠ 0; rw [ha]; omega, by show CM (Ak p m pk) _ = true; rw [ha]; exact hft⟩
 unfold Bf
 rw [decide_eq_true hfit, Bool.true_and]
 show G1 m (Ak p m pk) _ = true
 rw [ha]
 unfold G1
 simp only
 cases q : CG (CS m a.Ring) a
 · rcases hn q with ⟨q1, q2, q3⟩ | ⟨q1, q2, q3⟩
   · subst q2
     rw [if_neg (by omega), if_neg (by omega), if_neg (by omega), if_neg (by omega), if_pos rfl]
     unfold CG at q
     rw [if_pos q1] at q
     simp only [Bool.or_eq_false_iff] at q
     simp [DU, q.1, q.2, q3]
   · subst q2
     rw [if_neg (by omega), if_neg (by omega), if_neg (by omega), if_neg (by omega), if_neg (by omega)]
     unfold CG at q
     rw [if_neg (by omega)] at q
     simp [DU, q, q3]
 · obtain ⟨_, q2⟩ := hc q
   rcases q2 with ⟨c, q2⟩ | ⟨c, ⟨_, q2⟩ | ⟨_, q2⟩⟩
   · subst q2; rw [if_neg (by omega), if_pos rfl, c]; rfl
   · subst q2; rw [if_pos (by omega), c]; rfl
   · subst q2; rw [if_pos (by omega), c]; rfl
end
end
section
section
variable {p : MP} {b : Int} {m : MS}
theorem To {t : Int} (hk : 4 ≤ (Ak p m t).Kind ∧ (Ak p m t).Kind ≤ 9) : (Ak p m t).Ring = 0 := by
 unfold Ak CL at *
 split at hk <;> rename_i q1
 · simp [zA] at hk
 rw [if_neg q1]
 split at hk <;> rename_i q2
 · simp at hk
 rw [if_neg q2]
 split at hk <;> rename_i q3
 · simp at hk
 rw [if_neg q3]
 simp only
 unfold FM at *
 revert hk
 simp only
 (repeat' split) <;> simp [zA] <;> omega
theorem Q0 (h : Dd p b m) {t : Int} (k : t.toNat < m.AB.length) : 0 ≤ (Ak p m t).Kind ∧ (Ak p m t).Kind ≤ 11 := (h.asked k).1.top
theorem DZ {tape : List Int} {pk ck dr : Int} {fire : Bool} {e : TEv} (h : B3 p m tape pk ck dr fire = some e) : Bf p m e = true ∧ 0 ≤ pk ∧ pk < m.AB.length := by
 unfold B3 at h
 split at h
 · cases h
 rename_i q
 split at h
 · split at h
   · rename_i q2; cases h; exact ⟨q2, by omega, by omega⟩
   · cases h
 · cases h
theorem Rh (h : Dd p b m) {e : TEv} (hm : Bf p m e = true) (hv : B0 e.Value) {tape : List Int} {ck dr : Int}
 (h10 : e.Kind = 10 → m.Reads < tape.length ∧ tape.getD m.Reads.toNat 0 = e.Value) (h11 : e.Kind = 11 → m.BO = true ∨ (tape.length : Int) ≤ m.Reads)
 (h8 : e.Kind = 8 → ck = IntKind.u64.wrap (e.Value - m.Ec)) (h9 : e.Kind = 9 → dr = e.Value) : BH p m tape e.Thread ck dr (decide (e.Kind = 7)) = some e := by
 obtain ⟨f, _, hk⟩ := Dr hm
 have ff := O3 f.re f.ft
 have re := B7 f.re
 have ft := f.ft
 have kr := Bs (k := e.Kind)
 have kt := Aw (k := e.Kind)
 obtain ⟨th, kd, rg, tk, vl⟩ := e
 simp only at *
 have kv : Co kd = true ↔ (8 ≤ kd ∧ kd ≤ 10 ∨ kd = 12) := by simp only [Co, decide_eq_true_eq]
 unfold CM at ft
 unfold G1 DU at hk
 simp only at ft hk
 unfold BH
 simp only
 have e0 : kd = 1 ∨ kd = 2 ∨ kd = 3 ∨ kd = 4 ∨ kd = 5 ∨ kd = 6 ∨ kd = 7 ∨ kd = 8 ∨ kd = 9 ∨ kd = 10 ∨ kd = 11 ∨ kd = 12 ∨ kd = 13 ∨ kd = 14 ∨ kd = 15 := by omega
 have hrg : (1 ≤ kd ∧ kd ≤ 7 ∨ kd = 13) → (Ak p m th).Ring = rg := fun q => ff.rg (kr.2 q)
 have rg0 : ¬(1 ≤ kd ∧ kd ≤ 7 ∨ kd = 13) → rg = 0 := fun q => by rcases re.2.2.2.2.1 with c | c; exact absurd (kr.1 c) q; exact c
 have tk0 : ¬(1 ≤ kd ∧ kd ≤ 4 ∨ kd = 13) → tk = 0 := fun q => by rcases re.2.2.2.2.2.1 with c | c; exact absurd (kt.1 c) q; exact c
 have vl0 : ¬(8 ≤ kd ∧ kd ≤ 10 ∨ kd = 12) → vl = 0 := fun q => by rcases re.2.2.2.2.2.2 with c | c; exact absurd (kv.1 c) q; exact c
 have h1 := ff.f1; have h2 := ff.f2; have h3 := ff.f3; have h4 := ff.f4; have h5 := ff.f5; have h8' := ff.f8; have h9' := ff.f9; have h10' := ff.f10; have h12 := ff.f12; have h13 := ff.f13; have h14 := ff.f14; have h15 := ff.f15
 simp only at h1 h2 h3 h4 h5 h8' h9' h10' h12 h13 h14 h15
 clear ff re kr kt kv
 rcases e0 with q | q | q | q | q | q | q | q | q | q | q | q | q | q | q
 all_goals subst q
 · have a1 := h1 rfl; have a2 := hrg (by omega); have a3 := vl0 (by omega); clear h1 h2 h3 h4 h5 h8' h9' h10' h12 h13 h14 h15
   simp only [Int.reduceEq, or_self, if_false, if_true, Bool.and_eq_true, Bool.not_eq_true', decide_eq_true_eq, a2] at hk
   have : CG (CS m rg) (Ak p m th) = false := by unfold CG; rw [if_pos a1, hk.1.1, hk.2]; rfl
   rw [a2, if_neg (by omega), if_pos (.inl a1), if_neg (by rw [this]; simp), if_pos a1, hk.1.2, a3]
 · have a1 := h2 rfl; have a2 := hrg (by omega); have a3 := vl0 (by omega)
   simp [a1.1, a2, a1.2, a3]
 · have a1 := h3 rfl; have a2 := hrg (by omega); have a3 := vl0 (by omega); clear h1 h2 h3 h4 h5 h8' h9' h10' h12 h13 h14 h15
   simp [A1, a2] at hk
   have : CG (CS m rg) (Ak p m th) = false := by unfold CG; rw [if_neg (by omega)]; exact hk.1
   rw [a2, if_neg (by omega), if_pos (.inr a1), if_neg (by rw [this]; simp), if_neg (by omega), hk.2, a3]
 · have a1 := h4 rfl; have a2 := hrg (by omega); have a3 := vl0 (by omega)
   simp [a1.1, a2, a1.2, a3]
 · have a1 := h5 (by omega); have a2 := hrg (by omega); have a3 := vl0 (by omega); have a4 := tk0 (by omega)
   simp [a2] at hk
   simp at ft
   rw [a2, if_neg (by omega), if_pos a1, if_pos hk.1, if_neg (by rw [hk.2]; simp), if_pos ft.2.2, a3, a4]
 · have a1 := h5 (by omega); have a2 := hrg (by omega); have a3 := vl0 (by omega); have a4 := tk0 (by omega)
   simp [a2] at hk
   rw [a2, if_neg (by omega), if_pos a1, if_pos hk.1, if_pos hk.2, a3, a4]
 · have a1 := h5 (by omega); have a2 := hrg (by omega); have a3 := vl0 (by omega); have a4 := tk0 (by omega)
   simp [a2] at hk
   simp at ft
   rw [a2, if_neg (by omega), if_pos a1, if_pos hk.1, if_neg (by rw [hk.2]; simp), if_neg (by omega), if_pos ⟨ft.2.2, decide_eq_true rfl⟩, a3, a4]
 · have a1 := h8' rfl; have a2 := rg0 (by omega); have a4 := tk0 (by omega); have a5 := h8 rfl
   simp at hk
   have hn := h.n0
   have : IntKind.u64.wrap (m.Ec + ck % 1048576) = vl := by
    unfold B0 at hv
    rw [a5]
    simp only [IntKind.wrap, IntKind.signed, IntKind.bits, Bool.false_and, Bool.false_eq_true, if_false]
    omega
   simp [a1, this, a2, a4]
 · have a1 := h9' rfl; have a2 := rg0 (by omega); have a4 := tk0 (by omega); have a5 := h9 rfl
   simp [a1, a2, a4, a5]
 · have a1 := h10' (by omega); have a2 := rg0 (by omega); have a4 := tk0 (by omega); have a5 := h10 rfl
   simp at hk
   have : ¬(m.BO = true ∨ (tape.length : Int) ≤ m.Reads) := by rw [hk]; simp; omega
   rw [if_neg (by omega), if_neg (by omega), if_neg (by omega), if_neg (by omega), if_neg (by omega), if_pos a1, if_neg this, a2, a4, a5.2]
 · have a1 := h10' (by omega); have a2 := rg0 (by omega); have a4 := tk0 (by omega); have a3 := vl0 (by omega); have a5 := h11 rfl
   rw [if_neg (by omega), if_neg (by omega), if_neg (by omega), if_neg (by omega), if_neg (by omega), if_pos a1, if_pos a5, a2, a4, a3]
 · have a1 := h12 rfl; have a2 := rg0 (by omega); have a4 := tk0 (by omega)
   simp [a1.1, a1.2, a2, a4]
 · have a1 := h13 rfl; have a2 := hrg (by omega); have a3 := vl0 (by omega)
   simp [A1, a2] at hk
   simp [a1, a2, a3, hk]
 · have a1 := h14 rfl; have a2 := rg0 (by omega); have a4 := tk0 (by omega); have a3 := vl0 (by omega)
   simp [a1, a2, a3, a4]
 · have a1 := h15 rfl; have a2 := rg0 (by omega); have a4 := tk0 (by omega); have a3 := vl0 (by omega)
   simp [a1, a2, a3, a4]
theorem P3 (h : Dd p b m) {e : TEv} (hm : Bf p m e = true) (hv : B0 e.Value) {tape : List Int} {ck dr : Int}
 (h10 : e.Kind = 10 → m.Reads < tape.length ∧ tape.getD m.Reads.toNat 0 = e.Value) (h11 : e.Kind = 11 → m.BO = true ∨ (tape.length : Int) ≤ m.Reads)
 (h8 : e.Kind = 8 → ck = IntKind.u64.wrap (e.Value - m.Ec)) (h9 : e.Kind = 9 → dr = e.Value) : B3 p m tape e.Thread ck dr (decide (e.Kind = 7)) = some e := by
 have f := (Dr hm).1
 have := f.lt
 have := f.th
 unfold B3
 rw [if_neg (by omega), Rh h hm hv h10 h11 h8 h9]
 simp only [hm, if_true]
theorem VN (h : Dd p b m) {tape : List Int} {pk ck dr : Int} {fire : Bool} (hi : pk < 0 ∨ (m.AB.length : Int) ≤ pk ∨ (K0 m pk).Status ≠ 0) : B3 p m tape pk ck dr fire = none := by
 unfold B3
 split
 · rfl
 rename_i q
 have hs : (K0 m pk).Status ≠ 0 := by omega
 have : (Ak p m pk).Kind = 0 := by unfold Ak CL; rw [if_pos hs]; rfl
 have : BH p m tape pk ck dr fire = none := by unfold BH; simp only; rw [if_pos this]
 rw [this]
theorem H7 (h : Dd p b m) {pk k v : Int} (h0 : 0 ≤ pk) (h1 : pk < m.AB.length) (hk : (Ak p m pk).Kind = 4 ∧ k = 8 ∧ m.Ec ≤ v ∧ v - m.Ec < 1048576 ∨ (Ak p m pk).Kind = 5 ∧ k = 9) :
 Bf p m ⟨pk, k, 0, 0, v⟩ = true := by
 have h8 : m.AB.length ≤ 8 := by rw [h.nt]; exact h.pi.t8
 have hfit : EE p m ⟨pk, k, 0, 0, v⟩ = 0 := by
  rw [KC]
  refine ⟨?_, by show pk.toNat < _; omega, h0, by show (Ak p m pk).Kind ≠ 0; omega, ?_⟩
  · simp only [Br, decide_eq_true_eq]
    refine ⟨by omega, by omega, by omega, by omega, by simp, by simp, .inl ?_⟩
    simp only [Co, decide_eq_true_eq]; omega
  · show CM (Ak p m pk) _ = true
    rcases hk with q | q
    · simp [CM, q.2.1, CT, EV, q.1]
    · simp [CM, q.2, CT, EV, q.1]
 unfold Bf
 rw [decide_eq_true hfit, Bool.true_and]
 show G1 m (Ak p m pk) _ = true
 rcases hk with q | q
 · simp [G1, q.2.1]; omega
 · simp [G1, q.2, A1]
theorem Ux (h : Dd p b m) (hb : b ≤ 2305843009213693952) (hn : m.Ec < 18446744073709551616) (hs : ∀ t : Int, 0 ≤ t → t < m.AB.length → B3 p m [] t 0 0 true = none) (pk ck dr : Int) (fire : Bool) :
 B3 p m [] pk ck dr fire = none := by
 by_cases q : pk < 0 ∨ (m.AB.length : Int) ≤ pk
 · unfold B3; rw [if_pos q]
 have h0 : 0 ≤ pk := by omega
 have h1 : pk < m.AB.length := by omega
 have hs := hs pk h0 h1
 unfold B3 at hs ⊢
 rw [if_neg q] at hs ⊢
 have n4 : (Ak p m pk).Kind ≠ 4 := fun k => by
  have hn0 := h.n0
  have e1 : BH p m [] pk 0 0 true = some ⟨pk, 8, 0, 0, m.Ec⟩ := by
   have : IntKind.u64.wrap (m.Ec + 0 % 1048576) = m.Ec := by
    simp only [IntKind.wrap, IntKind.signed, IntKind.bits, Bool.false_and, Bool.false_eq_true, if_false]; omega
   unfold BH; simp only; rw [if_neg (by omega), if_neg (by omega), if_neg (by omega), if_pos k, this]
  rw [e1] at hs
  simp only [H7 h h0 h1 (.inl ⟨k, rfl, Int.le_refl _, by omega⟩), if_true] at hs
  cases hs
 have n5 : (Ak p m pk).Kind ≠ 5 := fun k => by
  have e1 : BH p m [] pk 0 0 true = some ⟨pk, 9, 0, 0, 0⟩ := by
   unfold BH; simp only; rw [if_neg (by omega), if_neg (by omega), if_neg (by omega), if_neg (by omega), if_pos k]
  rw [e1] at hs
  simp only [H7 h h0 h1 (.inr ⟨k, rfl⟩), if_true] at hs
  cases hs
 by_cases k : (Ak p m pk).Kind = 1 ∨ (Ak p m pk).Kind = 2
 · by_cases hno : CG (CS m (Ak p m pk).Ring) (Ak p m pk) = true
   · by_cases hc : (CS m (Ak p m pk).Ring).As = true
     · have e1 : ∀ x y z, BH p m [] pk x y z = some ⟨pk, 6, (Ak p m pk).Ring, 0, 0⟩ := fun x y z => by
        unfold BH; simp only; rw [if_neg (by omega), if_pos k, if_pos hno, if_pos hc]
       rw [e1] at hs ⊢; exact hs
     · by_cases h2 : (Ak p m pk).Mode = 0
       · have e1 : ∀ x y z, BH p m [] pk x y z = some ⟨pk, 5, (Ak p m pk).Ring, 0, 0⟩ := fun x y z => by
          unfold BH; simp only; rw [if_neg (by omega), if_pos k, if_pos hno, if_neg hc, if_pos h2]
         rw [e1] at hs ⊢; exact hs
       · by_cases h3 : (Ak p m pk).Mode = 2
         · have e1 : BH p m [] pk 0 0 true = some ⟨pk, 7, (Ak p m pk).Ring, 0, 0⟩ := by
            unfold BH; simp only; rw [if_neg (by omega), if_pos k, if_pos hno, if_neg hc, if_neg h2, if_pos ⟨h3, by simp⟩]
           rw [e1] at hs
           have := DW h hb h0 h1 k (k := 7) (t := 0) (fun _ => ⟨rfl, .inr ⟨by simpa using hc, .inr ⟨h3, rfl⟩⟩⟩) (fun q => by rw [hno] at q; cases q)
           simp only [this, if_true] at hs
           cases hs
         · have e1 : ∀ x y z, BH p m [] pk x y z = none := fun x y z => by
            unfold BH; simp only; rw [if_neg (by omega), if_pos k, if_pos hno, if_neg hc, if_neg h2, if_neg (fun q => h3 q.1)]
           rw [e1]
   · have e1 : ∀ x y z, BH p m [] pk x y z = BH p m [] pk 0 0 true := fun x y z => by
      unfold BH; simp only; simp only [if_neg hno, if_pos k]
     rw [e1]; exact hs
 · have e1 : BH p m [] pk ck dr fire = BH p m [] pk 0 0 true := by
    unfold BH; simp only
    simp only [if_neg k, if_neg n4, if_neg n5]
   rw [e1]; exact hs
end
end
section
structure EN where
 Bj : Int
 Du : Int
 Gj : Int
 Hh : Bool
structure WR where
 Ev : List TEv
 St : MS
 Idle : Int
 Bd : Int
def HF (m : MS) (pk : Int) : Bool := decide (pk < 0 ∨ (m.AB.length : Int) ≤ pk ∨ (K0 m pk).Status ≠ 0)
def H0 (p : MP) (tape : List Int) (m : MS) (x : EN) : Option TEv := B3 p m tape x.Bj x.Du x.Gj x.Hh
def CV (p : MP) (tape : List Int) (r : WR) (x : EN) : WR :=
 match H0 p tape r.St x with
 | some e => { r with Ev := r.Ev ++ [e], St := Ai p r.St e }
 | none => if HF r.St x.Bj = true then { r with Idle := r.Idle + 1 } else { r with Bd := r.Bd + 1 }
def Be (p : MP) (tape : List Int) (l : List EN) (r : WR) : WR := l.foldl (CV p tape) r
def Gk (m : MS) : WR := ⟨[], m, 0, 0⟩
def Jn (p : MP) : List TEv → MS → Option MS
 | [], m => some m
 | e :: l, m => if Bf p m e = true then Jn p l (Ai p m e) else none
def WW (m : MS) (e : TEv) : EN := ⟨e.Thread, if e.Kind = 8 then IntKind.u64.wrap (e.Value - m.Ec) else 0, if e.Kind = 9 then e.Value else 0, decide (e.Kind = 7)⟩
def UY (p : MP) : List TEv → MS → List EN
 | [], _ => []
 | e :: l, m => WW m e :: UY p l (Ai p m e)
def Ha (l : List TEv) : List Int := (l.filter fun e => decide (e.Kind = 10)).map (·.Value)
section
variable {p : MP} {b : Int} {m : MS} {tape : List Int}
theorem Pg (r : WR) (x : EN) : ((CV p tape r x).Ev.length : Int) + (CV p tape r x).Idle + (CV p tape r x).Bd = r.Ev.length + r.Idle + r.Bd + 1 := by
 unfold CV
 split
 · simp only [List.length_append, List.length_singleton]; omega
 · split <;> simp only <;> omega
theorem JY (l : List EN) : ∀ r : WR, ((Be p tape l r).Ev.length : Int) + (Be p tape l r).Idle + (Be p tape l r).Bd = r.Ev.length + r.Idle + r.Bd + l.length := by
 induction l with
 | nil => intro r; simp [Be]
 | cons x l ih =>
   intro r
   have := ih (CV p tape r x)
   have := Pg (p := p) (tape := tape) r x
   show ((Be p tape l (CV p tape r x)).Ev.length : Int) + (Be p tape l (CV p tape r x)).Idle + (Be p tape l (CV p tape r x)).Bd = _
   simp only [List.length_cons]
   omega
theorem all_append (a c : List TEv) : ∀ m, Jn p (a ++ c) m = (Jn p a m).bind (Jn p c) := by
 induction a with
 | nil => intro m; rfl
 | cons e a ih =>
   intro m
   show (if _ then _ else _) = (if _ then _ else _ : Option MS).bind _
   split
   · exact ih _
   · rfl
theorem SZ (r : WR) (x : EN) {m0 : MS} (h : Jn p r.Ev m0 = some r.St) : Jn p (CV p tape r x).Ev m0 = some (CV p tape r x).St := by
 unfold CV
 split
 · rename_i e he
   simp only
   rw [all_append, h]
   have := (DZ he).1
   simp only [Option.bind_some, Jn, this, if_true]
 · split <;> exact h
theorem SC (l : List EN) : ∀ (r : WR) {m0 : MS}, Jn p r.Ev m0 = some r.St → Jn p (Be p tape l r).Ev m0 = some (Be p tape l r).St := by
 induction l with
 | nil => intro r m0 h; exact h
 | cons x l ih => intro r m0 h; exact ih _ (SZ r x h)
theorem VC (l : List EN) : ∀ r : WR, ∃ t, (Be p tape l r).Ev = r.Ev ++ t := by
 induction l with
 | nil => intro r; exact ⟨[], by simp [Be]⟩
 | cons x l ih =>
   intro r
   obtain ⟨t, ht⟩ := ih (CV p tape r x)
   have : ∃ t, (CV p tape r x).Ev = r.Ev ++ t := by
    unfold CV
    split
    · exact ⟨_, rfl⟩
    · split <;> exact ⟨[], by simp⟩
   obtain ⟨t', ht'⟩ := this
   exact ⟨t' ++ t, by show (Be p tape l (CV p tape r x)).Ev = _; rw [ht, ht', List.append_assoc]⟩
theorem PC {e : TEv} (h : m.BO = true) : (Ai p m e).BO = true := by
 show (if e.Kind = 11 then true else m.BO) = true
 split
 · rfl
 · exact h
theorem S3 (l : List TEv) : ∀ {m m' : MS}, Jn p l m = some m' → m.BO = true → Ha l = [] := by
 induction l with
 | nil => intros; rfl
 | cons e l ih =>
   intro m m' h he
   simp only [Jn] at h
   split at h
   · rename_i q
     have hk : e.Kind ≠ 10 := fun k => by
      have := (Dr q).2.2
      simp [G1, k, he] at this
     have := ih h (PC he)
     unfold Ha at *
     rw [List.filter_cons_of_neg (by simp [hk])]
     exact this
   · cases h
theorem Vp (l : List TEv) : ∀ {b : Int} {m m' : MS} (pre : List Int) (r : WR), Dd p b m → b + l.length ≤ 2305843009213693952 → (∀ e ∈ l, B0 e.Value ∧ B0 e.AG) → Jn p l m = some m' → r.St = m →
 m.Reads = pre.length → pre.length + l.length < 18446744073709551616 → Be p (pre ++ Ha l) (UY p l m) r = { r with Ev := r.Ev ++ l, St := m' } := by
 induction l with
 | nil => intro b m m' pre r _ _ _ h hr _ _; cases h; subst hr; simp [Be, UY]
 | cons e l ih =>
   intro b m m' pre r hI hb hv h hr hrd hlt
   subst hr
   simp only [Jn] at h
   split at h
   · rename_i q
     have hve := hv e (List.mem_cons_self ..)
     have ht : Ha (e :: l) = if e.Kind = 10 then e.Value :: Ha l else Ha l := by
      unfold Ha
      split
      · rename_i k; rw [List.filter_cons_of_pos (by simp [k])]; rfl
      · rename_i k; rw [List.filter_cons_of_neg (by simp [k])]
     have hoff : H0 p (pre ++ Ha (e :: l)) r.St (WW r.St e) = some e := by
      refine P3 hI q hve.1 (fun k => ?_) (fun k => ?_) (fun k => by show (if e.Kind = 8 then _ else _ : Int) = _; rw [if_pos k]) fun k => by show (if e.Kind = 9 then _ else _ : Int) = _; rw [if_pos k]
      · rw [ht, if_pos k, hrd]
        refine ⟨by simp only [List.length_append, List.length_cons]; omega, ?_⟩
        rw [Int.toNat_natCast]
        simp [List.getD]
      · by_cases he : r.St.BO = true
        · exact .inl he
        · have : (Ai p r.St e).BO = true := by show (if e.Kind = 11 then true else _) = true; rw [if_pos k]
          have := S3 l h this
          rw [ht, if_neg (by omega), this, List.append_nil, hrd]
          exact .inr (Int.le_refl _)
     have hst : CV p (pre ++ Ha (e :: l)) r (WW r.St e) = { r with Ev := r.Ev ++ [e], St := Ai p r.St e } := by unfold CV; rw [hoff]
     show Be p _ (UY p l (Ai p r.St e)) (CV p _ r (WW r.St e)) = _
     rw [hst]
     have hd : (P5 p r.St e).2 = Ai p r.St e := by rw [IZ q]
     have hI2 : Dd p (b + 1) (Ai p r.St e) := by
      rw [← hd]; exact VW hI (by simp only [List.length_cons] at hb; omega) hve.2.1
     simp only [List.length_cons] at hb hlt
     have hrd2 : (Ai p r.St e).Reads = if e.Kind = 10 then (pre.length : Int) + 1 else pre.length := by
      show (if e.Kind = 10 then IntKind.u64.wrap (r.St.Reads + 1) else r.St.Reads) = _
      rw [hrd]
      split
      · simp only [IntKind.wrap, IntKind.signed, IntKind.bits, Bool.false_and, Bool.false_eq_true, if_false]; omega
      · rfl
     have e1 : pre ++ Ha (e :: l) = (if e.Kind = 10 then pre ++ [e.Value] else pre) ++ Ha l := by rw [ht]; split <;> simp
     rw [e1]
     rw [ih (b := b + 1) (m := Ai p r.St e) (m' := m') (if e.Kind = 10 then pre ++ [e.Value] else pre) _ hI2 (by omega) (fun x hx => hv x (List.mem_cons_of_mem _ hx)) h rfl (by rw [hrd2]; split <;> simp) (by split <;> (try rw [List.length_append, List.length_singleton]) <;> omega)]
     simp
   · cases h
end
section
variable {p : MP} {b : Int} {m : MS} {tape : List Int}
theorem Ls (h : Dd p b m) (hb : b ≤ 2305843009213693952) {pk ck dr : Int} {fire : Bool} {e : TEv} (ha : B0 (Ak p m pk).Value) (hdr : B0 dr) (ht : ∀ x ∈ tape, B0 x)
 (h0 : 0 ≤ pk) (h1 : pk < m.AB.length) (hc : BH p m tape pk ck dr fire = some e) : B0 e.AG ∧ B0 e.Value := by
 have hlt : pk.toNat < m.AB.length := by omega
 obtain ⟨hq, hn, _, _⟩ := h.asked hlt
 have hr := fun k => Gh h hlt rfl k
 unfold BH at hc
 simp only at hc
 have z : B0 0 := Cq
 have htail : (Ak p m pk).Kind = 1 ∨ (Ak p m pk).Kind = 2 ∨ (Ak p m pk).Kind = 3 → B0 (CS m (Ak p m pk).Ring).A0 := fun k => by
  obtain ⟨r0, r1, _⟩ := hr (by omega)
  have hR := (h.K7 r1).1
  have := hR.t0; have := hR.tb
  unfold B0; omega
 have hhd : (Ak p m pk).Kind = 2 → B0 (hd (CS m (Ak p m pk).Ring) (Ak p m pk).Reader) := fun k => by
  obtain ⟨r0, r1, r2⟩ := hr (by omega)
  have hR := (h.K7 r1).1
  have := hR.rd; have := hR.tb
  have := r2 (.inl k)
  have := hR.h0 _ (List.mem_of_getElem? (El (d := 0) (show (Ak p m pk).Reader.toNat < (CS m (Ak p m pk).Ring).AV.length by omega)))
  unfold B0 hd; omega
 have htk : (Ak p m pk).Kind = 10 ∨ (Ak p m pk).Kind = 11 → B0 (Ak p m pk).AG := fun k => by
  rcases k with k | k
  · have a := hq.kp k
    have := hn.p1 (by omega)
    unfold B0; omega
  · have a := hq.kr k
    have := hn.p1 (by omega)
    unfold B0; omega
 have hw : B0 (IntKind.u64.wrap (m.Ec + ck % 1048576)) := by
  simp only [B0, IntKind.wrap, IntKind.signed, IntKind.bits, Bool.false_and, Bool.false_eq_true, if_false]; omega
 have hg : B0 (tape.getD m.Reads.toNat 0) := by
  rw [List.getD_eq_getElem?_getD]
  cases q : tape[m.Reads.toNat]? with
  | none => exact z
  | some x => exact ht x (List.mem_of_getElem? q)
 have htop := hq.top
 clear hq hn hr h
 generalize Ak p m pk = a at *
 generalize CS m a.Ring = r at *
 generalize IntKind.u64.wrap (m.Ec + ck % 1048576) = w at *
 generalize tape.getD m.Reads.toNat 0 = g at *
 generalize hd r a.Reader = q at *
 split at hc
 · cases hc
 split at hc
 · split at hc
   · (repeat' split at hc) <;> cases hc <;> exact ⟨z, z⟩
   · split at hc <;> cases hc
     · exact ⟨htail (by omega), z⟩
     · exact ⟨hhd (by omega), z⟩
 split at hc
 · cases hc; exact ⟨htail (by omega), z⟩
 split at hc
 · cases hc; exact ⟨z, hw⟩
 split at hc
 · cases hc; exact ⟨z, hdr⟩
 split at hc
 · split at hc <;> cases hc
   · exact ⟨z, z⟩
   · exact ⟨z, hg⟩
 split at hc
 · cases hc; exact ⟨z, ha⟩
 split at hc
 · cases hc; exact ⟨z, z⟩
 split at hc
 · cases hc; exact ⟨z, z⟩
 split at hc
 · cases hc; exact ⟨htk (by omega), z⟩
 · cases hc; exact ⟨htk (by omega), z⟩
theorem Jh (h : Dd p b m) (hb : b ≤ 2305843009213693952) {pk ck dr : Int} {fire : Bool} {e : TEv} (ha : B0 (Ak p m pk).Value) (hdr : B0 dr) (ht : ∀ x ∈ tape, B0 x)
 (ho : B3 p m tape pk ck dr fire = some e) : B0 e.AG ∧ B0 e.Value := by
 obtain ⟨_, h0, h1⟩ := DZ ho
 have hc : BH p m tape pk ck dr fire = some e := by
  unfold B3 at ho
  rw [if_neg (by omega)] at ho
  split at ho
  · rename_i q
    split at ho
    · cases ho; exact q
    · cases ho
  · cases ho
 exact Ls h hb ha hdr ht h0 h1 hc
theorem Tp {t : Int} (hk : (Ak p m t).Kind = 1) : (Ak p m t).Reader = 0 := by
 unfold Ak CL at *
 split at hk <;> rename_i q1
 · simp [zA] at hk
 rw [if_neg q1]
 split at hk <;> rename_i q2
 · simp at hk
 rw [if_neg q2]
 split at hk <;> rename_i q3
 · simp at hk
 rw [if_neg q3]
 simp only
 unfold FM at *
 revert hk
 simp only
 (repeat' split) <;> simp [zA]
theorem IY {pk ck dr : Int} {fire : Bool} (hk : (Ak p m pk).Kind = 1 ∨ (Ak p m pk).Kind = 2) : BH p m tape pk ck dr fire =
 if CG (CS m (Ak p m pk).Ring) (Ak p m pk) = true then
  (if (CS m (Ak p m pk).Ring).As = true then some ⟨pk, 6, (Ak p m pk).Ring, 0, 0⟩ else if (Ak p m pk).Mode = 0 then some ⟨pk, 5, (Ak p m pk).Ring, 0, 0⟩ else if (Ak p m pk).Mode = 2 ∧ fire = true then some ⟨pk, 7, (Ak p m pk).Ring, 0, 0⟩ else none)
 else if (Ak p m pk).Kind = 1 then some ⟨pk, 1, (Ak p m pk).Ring, (CS m (Ak p m pk).Ring).A0, 0⟩ else some ⟨pk, 3, (Ak p m pk).Ring, hd (CS m (Ak p m pk).Ring) (Ak p m pk).Reader, 0⟩ := by
 unfold BH
 simp only
 rw [if_neg (by omega), if_pos hk]
theorem OO (h : Dd p b m) (hb : b ≤ 2305843009213693952) {pk ck dr : Int} {fire : Bool} (h0 : 0 ≤ pk) (h1 : pk < m.AB.length) (hk : (Ak p m pk).Kind = 1 ∨ (Ak p m pk).Kind = 2) : B3 p m tape pk ck dr fire = BH p m tape pk ck dr fire := by
 unfold B3
 rw [if_neg (by omega)]
 have key : ∀ e, BH p m tape pk ck dr fire = some e → Bf p m e = true := by
  intro e he
  rw [IY hk] at he
  split at he <;> rename_i q1
  · split at he <;> rename_i q2
    · cases he; exact DW h hb h0 h1 hk (fun _ => ⟨rfl, .inl ⟨q2, rfl⟩⟩) fun q => by rw [q] at q1; cases q1
    · have q2 : (CS m (Ak p m pk).Ring).As = false := by simpa using q2
      split at he <;> rename_i q3
      · cases he; exact DW h hb h0 h1 hk (fun _ => ⟨rfl, .inr ⟨q2, .inl ⟨q3, rfl⟩⟩⟩) fun q => by rw [q] at q1; cases q1
      · split at he <;> rename_i q4
        · cases he; exact DW h hb h0 h1 hk (fun _ => ⟨rfl, .inr ⟨q2, .inr ⟨q4.1, rfl⟩⟩⟩) fun q => by rw [q] at q1; cases q1
        · cases he
  · split at he <;> rename_i q2 <;> cases he
    · exact DW h hb h0 h1 hk (fun q => absurd q q1) fun _ => .inl ⟨q2, rfl, rfl⟩
    · exact DW h hb h0 h1 hk (fun q => absurd q q1) fun _ => .inr ⟨by omega, rfl, rfl⟩
 cases hc : BH p m tape pk ck dr fire with
 | none => rfl
 | some e => simp only [key e hc, if_true]
end
end
end Go.Proofs.YtiamaibincaihaaGreat
