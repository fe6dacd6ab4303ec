/- Of what a fabric is, plainly: no statement is proved here. -/
import Derived.Test.YtiamaibincaihaaGreatVmC
namespace Go.Proofs.YtiamaibincaihaaGreat
open Go Go.Vm
section
structure TIn where
 Op : Int
 A : Int
 B : Int
 C : Int
 D : Int
 K : Int
structure TRg where
 Kind : Int
 Ee : Int
 Aa : Int
structure TEv where
 Thread : Int
 Kind : Int
 Ring : Int
 AG : Int
 Value : Int
structure TSo where
 AQ : Int
 Value : Int
 Left : Int
end
section
structure MT where
 At : Int
 Phase : Int
 Ring : Int
 Status : Int
 AG : Int
 Ao : Nat → Int
 Seen : List Int
structure MR where
 A6 : Int
 Aj : List Int
 Bj : Bool
 A4 : List TSo
structure MS where
 AB : List MT
 AF : List MR
 ED : Int
 Reads : Int
 Bt : Bool
structure MP where
 AF : List TRg
 AB : List (List TIn)
structure MA where
 Kind : Int
 Ring : Int
 Mode : Int
 Reader : Int
 AG : Int
 Value : Int
def zI : TIn := ⟨0, 0, 0, 0, 0, 0⟩
def zS : TSo := ⟨0, 0, 0⟩
def zA : MA := ⟨0, 0, 0, 0, 0, 0⟩
def zT : MT := ⟨0, 0, 0, 0, 0, fun _ => 0, []⟩
def zR : MR := ⟨0, [], false, []⟩
def gI (l : List TIn) (n : Int) : TIn := l.getD n.toNat zI
def D1 (g : Nat → Int) (i v : Int) : Nat → Int := fun k => if k = i.toNat then v else g k
def Nz (op a b : Int) : Int :=
 if op = 3 then IntKind.u64.wrap (a + b)
 else if op = 4 then IntKind.u64.wrap (a - b)
 else if op = 5 then IntKind.u64.wrap (a * b)
 else if op = 6 then (if b = 0 then 0 else a / b)
 else if op = 7 then (if b = 0 then 0 else a % b)
 else if op = 8 then ((a.toNat &&& b.toNat : Nat) : Int)
 else if op = 9 then ((a.toNat ||| b.toNat : Nat) : Int)
 else if op = 10 then ((a.toNat ^^^ b.toNat : Nat) : Int)
 else if op = 11 then IntKind.u64.wrap (a * 2 ^ (b % 64).toNat)
 else if op = 12 then a / 2 ^ (b % 64).toNat
 else if op = 13 then (if a < b then 1 else 0)
 else (if a = b then 1 else 0)
def ES (i : TIn) (t : MT) : MT :=
 if i.Op = 1 then { t with At := t.At + 1, Ao := D1 t.Ao i.A i.K }
 else if i.Op = 2 then { t with At := t.At + 1, Ao := D1 t.Ao i.A (t.Ao i.B.toNat) }
 else if i.Op = 15 ∨ (i.Op = 16 ∧ t.Ao i.A.toNat = 0) ∨ (i.Op = 17 ∧ t.Ao i.A.toNat ≠ 0) then { t with At := i.K }
 else if i.Op < 15 then { t with At := t.At + 1, Ao := D1 t.Ao i.A (Nz i.Op (t.Ao i.B.toNat) (t.Ao i.C.toNat)) }
 else { t with At := t.At + 1 }
def FE (l : List TIn) : Nat → MT → MT
 | 0, t => t
 | n + 1, t => if t.At < l.length ∧ (gI l t.At).Op ≤ 17 then FE l n (ES (gI l t.At) t) else t
def Gy (l : List TIn) (t : MT) : MA :=
 let i := gI l t.At
 if t.At = l.length then { zA with Kind := 8 }
 else if i.Op ≤ 17 then { zA with Kind := 9 }
 else if i.Op = 18 then ⟨1, i.C, i.D, 0, 0, t.Ao i.A.toNat⟩
 else if i.Op = 19 then ⟨2, i.C, i.D, i.K, 0, 0⟩
 else if i.Op = 20 then ⟨3, i.C, 0, 0, 0, 0⟩
 else if i.Op = 21 then { zA with Kind := 4 }
 else if i.Op = 22 then { zA with Kind := 5 }
 else if i.Op = 23 then { zA with Kind := 6 }
 else if i.Op = 24 then { zA with Kind := 7, Value := t.Ao i.A.toNat }
 else { zA with Kind := 8 }
def CZ (l : List TIn) (t : MT) : MT × MA :=
 if t.Status ≠ 0 then (t, zA)
 else if t.Phase = 1 then (t, ⟨10, t.Ring, 0, 0, t.AG, t.Ao (gI l t.At).A.toNat⟩)
 else if t.Phase = 2 then (t, ⟨11, t.Ring, 0, (gI l t.At).K, t.AG, 0⟩)
 else (FE l 256 t, Gy l (FE l 256 t))
def BK (k : Int) : Bool := decide (1 ≤ k ∧ k ≤ 4 ∨ k = 13)
def DE (k : Int) : Bool := decide (1 ≤ k ∧ k ≤ 7 ∨ k = 13)
def ET (k : Int) : Bool := decide (8 ≤ k ∧ k ≤ 10 ∨ k = 12)
def Bu (e : TEv) : Bool :=
 decide ((1 ≤ e.Kind ∧ e.Kind ≤ 15) ∧ (0 ≤ e.Thread ∧ e.Thread ≤ 7) ∧ (0 ≤ e.Ring ∧ e.Ring ≤ 7) ∧ e.AG < 4611686018427387904 ∧
  (DE e.Kind = true ∨ e.Ring = 0) ∧ (BK e.Kind = true ∨ e.AG = 0) ∧ (ET e.Kind = true ∨ e.Value = 0))
def Es (k : Int) : Int :=
 if k = 1 then 1 else if k = 2 then 10 else if k = 3 then 2 else if k = 4 then 11 else if k = 8 then 4 else if k = 9 then 5 else if k = 10 then 6 else if k = 11 then 6
 else if k = 12 then 7 else if k = 13 then 3 else if k = 14 then 8 else 9
def Cp (a : MA) (e : TEv) : Bool :=
 (!DE e.Kind || decide (a.Ring = e.Ring)) &&
 (if e.Kind = 5 then decide ((a.Kind = 1 ∨ a.Kind = 2) ∧ a.Mode = 0)
  else if e.Kind = 6 then decide (a.Kind = 1 ∨ a.Kind = 2)
  else if e.Kind = 7 then decide ((a.Kind = 1 ∨ a.Kind = 2) ∧ a.Mode = 2)
  else if e.Kind = 2 ∨ e.Kind = 4 then decide (a.Kind = Es e.Kind ∧ a.AG = e.AG)
  else if e.Kind = 12 then decide (a.Kind = 7 ∧ a.Value = e.Value)
  else decide (a.Kind = Es e.Kind))
def BX (i : TIn) (t : MT) (e : TEv) (v : Int) : MT :=
 if e.Kind = 1 then { t with Phase := 1, Ring := e.Ring, AG := e.AG }
 else if e.Kind = 3 then { t with Phase := 2, Ring := e.Ring, AG := e.AG }
 else if e.Kind = 14 then { t with Status := 1 }
 else if e.Kind = 15 then { t with Status := 2 }
 else
  let g :=
   if e.Kind = 2 then D1 t.Ao i.B 0
   else if e.Kind = 4 then D1 (D1 t.Ao i.A v) i.B 0
   else if e.Kind = 5 then D1 t.Ao i.B 1
   else if e.Kind = 6 then D1 t.Ao i.B 2
   else if e.Kind = 7 then D1 t.Ao i.B 3
   else if e.Kind = 8 then D1 t.Ao i.A e.Value
   else if e.Kind = 9 then D1 t.Ao i.A e.Value
   else if e.Kind = 10 then D1 (D1 t.Ao i.A e.Value) i.B 0
   else if e.Kind = 11 then D1 t.Ao i.B 1
   else t.Ao
  { t with Ao := g, Seen := if e.Kind = 12 then t.Seen ++ [e.Value] else t.Seen, Phase := 0, Ring := 0, AG := 0, At := t.At + 1 }
def hd (r : MR) (j : Int) : Int := r.Aj.getD j.toNat 0
def Jh (r : MR) : Int := r.A4.length
def Fz (r : MR) : Bool := r.Aj.any fun h => decide (Jh r ≤ r.A6 - h)
def GP (r : MR) (j : Int) : Bool := decide (hd r j = r.A6)
def JY (r : MR) (t : Int) : Nat := (t % Jh r).toNat
def BM (r : MR) (t : Int) : TSo := r.A4.getD (JY r t) zS
def E2 (x : Int) (j : Int) : Bool := decide (x / 2 ^ j.toNat % 2 = 1)
def Kf (r : MR) (t : Int) : Bool := decide (t < r.A6 ∧ (BM r t).AQ = 2 * t)
def PB (r : MR) (j t : Int) : Bool := decide (t < hd r j ∧ (BM r t).AQ = 2 * t + 1 ∧ E2 (BM r t).Left j = true)
def Dv (r : MR) (a : MA) (e : TEv) : Bool :=
 if e.Kind = 1 then !Fz r && decide (e.AG = r.A6)
 else if e.Kind = 2 then Kf r e.AG
 else if e.Kind = 3 then !GP r a.Reader && decide (e.AG = hd r a.Reader)
 else if e.Kind = 4 then PB r a.Reader e.AG
 else decide (e.AG = r.A6)
def Qw (r : MR) (t v : Int) : MR := { r with A4 := r.A4.set (JY r t) ⟨2 * t + 1, v, 2 ^ r.Aj.length - 1⟩ }
def Fy (r : MR) (j : Int) : MR := { r with Aj := r.Aj.set j.toNat (hd r j + 1) }
def Qx (x : TSo) (j t c : Int) : TSo := if x.Left - 2 ^ j.toNat = 0 then ⟨2 * (t + c), 0, 0⟩ else { x with Left := x.Left - 2 ^ j.toNat }
def SO (r : MR) (j t : Int) : MR := { r with A4 := r.A4.set (JY r t) (Qx (BM r t) j t (Jh r)) }
def Cn (r : MR) (a : MA) (e : TEv) : MR :=
 if e.Kind = 1 then { r with A6 := r.A6 + 1 }
 else if e.Kind = 2 then Qw r e.AG a.Value
 else if e.Kind = 3 then Fy r a.Reader
 else if e.Kind = 4 then SO r a.Reader e.AG
 else if e.Kind = 13 then { r with Bj := true }
 else r
def M9 (s : MS) (t : Int) : MT := s.AB.getD t.toNat zT
def Cf (s : MS) (i : Int) : MR := s.AF.getD i.toNat zR
def CL (p : MP) (t : Int) : List TIn := p.AB.getD t.toNat []
def Al (p : MP) (s : MS) (t : Int) : MA := (CZ (CL p t) (M9 s t)).2
def Ex (p : MP) (s : MS) (e : TEv) : Int :=
 if Bu e = false then 3
 else if (s.AB.length : Int) ≤ e.Thread then 5
 else if (Al p s e.Thread).Kind = 0 ∨ Cp (Al p s e.Thread) e = false then 11
 else 0
def Co (r : MR) (a : MA) : Bool := if a.Kind = 1 then r.Bj || Fz r else GP r a.Reader
def Iu (s : MS) (a : MA) (e : TEv) : Bool :=
 let r := Cf s e.Ring
 if e.Kind = 5 ∨ e.Kind = 7 then Co r a && !r.Bj
 else if e.Kind = 6 then Co r a && r.Bj
 else if e.Kind = 8 then decide (s.ED ≤ e.Value ∧ e.Value - s.ED < 1048576)
 else if e.Kind = 10 then !s.Bt
 else if e.Kind = 1 then Dv r a e && !r.Bj
 else !BK e.Kind || Dv r a e
def BZ (p : MP) (s : MS) (e : TEv) : Bool := decide (Ex p s e = 0) && Iu s (Al p s e.Thread) e
def Ah (p : MP) (s : MS) (e : TEv) : MS :=
 let n := CZ (CL p e.Thread) (M9 s e.Thread)
 let r := Cf s e.Ring
 let v := if e.Kind = 4 then (BM r e.AG).Value else 0
 { AB := s.AB.set e.Thread.toNat (BX (gI (CL p e.Thread) n.1.At) n.1 e v)
   AF := if BK e.Kind = true then s.AF.set e.Ring.toNat (Cn r n.2 e) else s.AF
   ED := if e.Kind = 8 then max s.ED e.Value else s.ED
   Reads := if e.Kind = 10 then IntKind.u64.wrap (s.Reads + 1) else s.Reads
   Bt := if e.Kind = 11 then true else s.Bt }
def Rd (p : MP) (s : MS) (e : TEv) : Int × MS :=
 if Ex p s e ≠ 0 then (Ex p s e, s) else if BZ p s e = false then (11, s) else (0, Ah p s e)
def JG (c : TRg) : MR := ⟨0, List.replicate c.Aa.toNat 0, false, (List.range c.Ee.toNat).map fun i : Nat => (⟨2 * (i : Int), 0, 0⟩ : TSo)⟩
def Cr (p : MP) : MS := ⟨p.AB.map fun _ => zT, p.AF.map JG, 0, 0, false⟩
def Bp (i : TIn) : Bool :=
 let r := fun (x : Int) (m : Int) => decide (0 ≤ x ∧ x ≤ m)
 if i.Op = 1 then r i.A 7 && r i.B 0 && r i.C 0 && r i.D 0
 else if i.Op = 2 ∨ i.Op = 23 then r i.A 7 && r i.B 7 && r i.C 0 && r i.D 0 && r i.K 0
 else if 3 ≤ i.Op ∧ i.Op ≤ 14 then r i.A 7 && r i.B 7 && r i.C 7 && r i.D 0 && r i.K 0
 else if i.Op = 15 then r i.A 0 && r i.B 0 && r i.C 0 && r i.D 0 && r i.K 256
 else if i.Op = 16 ∨ i.Op = 17 then r i.A 7 && r i.B 0 && r i.C 0 && r i.D 0 && r i.K 256
 else if i.Op = 18 then r i.A 7 && r i.B 7 && r i.C 7 && r i.D 2 && r i.K 0
 else if i.Op = 19 then r i.A 7 && r i.B 7 && r i.C 7 && r i.D 2 && r i.K 7
 else if i.Op = 20 then r i.A 0 && r i.B 0 && r i.C 7 && r i.D 0 && r i.K 0
 else if i.Op = 21 ∨ i.Op = 22 ∨ i.Op = 24 then r i.A 7 && r i.B 0 && r i.C 0 && r i.D 0 && r i.K 0
 else if i.Op = 25 then r i.A 0 && r i.B 0 && r i.C 0 && r i.D 0 && r i.K 0
 else false
def A7 (c : TRg) : Bool := decide (1 ≤ c.Ee ∧ c.Ee ≤ 64 ∧ (c.Kind = 1 ∧ c.Aa = 1 ∨ c.Kind = 2 ∧ 1 ≤ c.Aa ∧ c.Aa ≤ 8))
def DL (rs : List TRg) (i : TIn) (n : Int) : Int :=
 if Bp i = false then 6
 else if 15 ≤ i.Op ∧ i.Op ≤ 17 ∧ n < i.K then 5
 else if 18 ≤ i.Op ∧ i.Op ≤ 20 ∧ (rs.length : Int) ≤ i.C then 7
 else if i.Op = 19 ∧ (rs.getD i.C.toNat ⟨0, 0, 0⟩).Aa ≤ i.K then 7
 else 0
structure EC (p : MP) : Prop where
 t1 : 1 ≤ p.AB.length
 t8 : p.AB.length ≤ 8
 r8 : p.AF.length ≤ 8
 rg : ∀ c ∈ p.AF, A7 c = true
 len : ∀ l ∈ p.AB, l.length ≤ 256
 ins : ∀ l ∈ p.AB, ∀ i ∈ l, DL p.AF i l.length = 0
structure OT (c : Int) (nr : Nat) (tail : Int) (AD : List Int) (i : Nat) (x : TSo) : Prop where
 s0 : 0 ≤ x.AQ
 s1 : x.AQ < 9223372036854775808
 U4 : x.AQ / 2 % c = i
 free : x.AQ % 2 = 0 → x.Value = 0 ∧ x.Left = 0
 held : x.AQ % 2 = 1 → 1 ≤ x.Left ∧ x.Left < 2 ^ nr
 P5 : x.AQ % 2 = 1 → x.AQ / 2 < tail
 Tv : x.AQ % 2 = 1 → ∀ (j : Nat) (h : Int), AD[j]? = some h → E2 x.Left (j : Int) = false → x.AQ / 2 < h
 Sn : x.AQ % 2 = 0 → c ≤ x.AQ / 2 → ∀ h ∈ AD, x.AQ / 2 - c < h
structure Dt (c : TRg) (b : Int) (r : MR) : Prop where
 cap : (r.A4.length : Int) = c.Ee
 rd : (r.Aj.length : Int) = c.Aa
 t0 : 0 ≤ r.A6
 tb : r.A6 < b
 h0 : ∀ h ∈ r.Aj, 0 ≤ h ∧ h ≤ r.A6 ∧ r.A6 - h ≤ c.Ee
 sl : ∀ (i : Nat) x, r.A4[i]? = some x → OT c.Ee r.Aj.length r.A6 r.Aj i x
structure E3 (l : List TIn) (t : MT) : Prop where
 a0 : 0 ≤ t.At
 a1 : t.At ≤ l.length
 st : 0 ≤ t.Status ∧ t.Status ≤ 2
 ph : 0 ≤ t.Phase ∧ t.Phase ≤ 2
 p0 : t.Phase = 0 → t.Ring = 0 ∧ t.AG = 0
 p1 : t.Phase ≠ 0 → t.Status = 0 ∧ t.At < l.length ∧ (gI l t.At).Op = 17 + t.Phase ∧ (gI l t.At).C = t.Ring ∧ 0 ≤ t.AG ∧ t.AG < 4611686018427387904
structure DD (p : MP) (b : Int) (s : MS) : Prop where
 pi : EC p
 nt : s.AB.length = p.AB.length
 nr : s.AF.length = p.AF.length
 n0 : 0 ≤ s.ED
 ri : ∀ (i : Nat) c r, p.AF[i]? = some c → s.AF[i]? = some r → Dt c b r
 ti : ∀ (i : Nat) l t, p.AB[i]? = some l → s.AB[i]? = some t → E3 l t
 p1 : ∀ (i : Nat) t, s.AB[i]? = some t → t.Phase = 1 → t.AG < (Cf s t.Ring).A6
 p2 : ∀ (i : Nat) l t, p.AB[i]? = some l → s.AB[i]? = some t → t.Phase = 2 → t.AG < hd (Cf s t.Ring) (gI l t.At).K
end
section
theorem Gt (n : Nat) : 0 < (2 : Int) ^ n := Int.pow_pos (by decide)
theorem D5 {α : Type} {l : List α} {i : Nat} {d : α} (h : i < l.length) : l[i]? = some (l.getD i d) := by simp [List.getD, List.getElem?_eq_getElem h]
theorem Fh {α : Type} {l : List α} {i : Nat} {x d : α} (h : i < l.length) : (l.set i x).getD i d = x := by simp [List.getD, h]
theorem getD_set_ne {α : Type} {l : List α} {i j : Nat} {x d : α} (h : i ≠ j) : (l.set i x).getD j d = l.getD j d := by simp [List.getD, List.getElem?_set_ne h]
section
variable {c : TRg} {b b' : Int} {r : MR}
theorem Fa (h : A7 c = true) : 1 ≤ c.Ee ∧ c.Ee ≤ 64 ∧ 1 ≤ c.Aa ∧ c.Aa ≤ 8 := by
 simp only [A7, decide_eq_true_eq] at h; omega
theorem Dt.mono (h : Dt c b r) (k : b ≤ b') : Dt c b' r := { h with tb := by have := h.tb; omega }
theorem OT.mono {cp : Int} {nr : Nat} {tail tail' : Int} {AD heads' : List Int} {i : Nat} {x : TSo} (h : OT cp nr tail AD i x) (ht : tail ≤ tail')
 (hh : ∀ (j : Nat) (y : Int), heads'[j]? = some y → ∃ z : Int, AD[j]? = some z ∧ z ≤ y) : OT cp nr tail' heads' i x where
 s0 := h.s0
 s1 := h.s1
 U4 := h.U4
 free := h.free
 held := h.held
 P5 k := by have := h.P5 k; omega
 Tv k j y hy hb := by
  obtain ⟨z, h1, h2⟩ := hh j y hy
  have := h.Tv k j z h1 hb
  omega
 Sn k k2 y hy := by
  obtain ⟨j, hj⟩ := List.getElem?_of_mem hy
  obtain ⟨z, h1, h2⟩ := hh j y hj
  have := h.Sn k k2 z (List.mem_of_getElem? h1)
  omega
theorem Nx (h : Fz r = false) : ∀ x ∈ r.Aj, r.A6 - x < Jh r := by
 intro x hx
 simp only [Fz, List.any_eq_false, decide_eq_true_eq] at h
 have := h x hx
 omega
theorem Dt.UJ (h : Dt c b r) (hf : Fz r = false) : Dt c (b + 1) { r with A6 := r.A6 + 1 } where
 cap := h.cap
 rd := h.rd
 t0 := by have := h.t0; show 0 ≤ r.A6 + 1; omega
 tb := by have := h.tb; show r.A6 + 1 < b + 1; omega
 h0 x hx := by
  have h1 := h.h0 x hx
  have h2 := Nx hf x hx
  have h3 := h.cap
  unfold Jh at h2
  show 0 ≤ x ∧ x ≤ r.A6 + 1 ∧ r.A6 + 1 - x ≤ c.Ee
  omega
 sl i x hx := (h.sl i x hx).mono (by show r.A6 ≤ r.A6 + 1; omega) fun j y hy => ⟨y, hy, Int.le_refl _⟩
theorem Mb (h : Dt c b r) (hc : A7 c = true) (t : Int) : JY r t < r.A4.length := by
 have h1 := h.cap
 have h2 := Fa hc
 unfold JY Jh
 have h3 := Int.emod_nonneg t (b := (r.A4.length : Int)) (by omega)
 have h4 := Int.emod_lt_of_pos t (b := (r.A4.length : Int)) (by omega)
 omega
theorem LZ (h : Dt c b r) (hc : A7 c = true) (t : Int) : r.A4[JY r t]? = some (BM r t) := D5 (Mb h hc t)
theorem R9 (h : Dt c b r) (hc : A7 c = true) (t : Int) : t % c.Ee = (JY r t : Int) := by
 have h1 := h.cap
 have h2 := Fa hc
 unfold JY Jh
 rw [h1]
 have h3 := Int.emod_nonneg t (b := c.Ee) (by omega)
 omega
theorem FU {α : Type} {l : List α} {k i : Nat} {x y : α} (h : (l.set k x)[i]? = some y) (hk : k < l.length) : (i = k ∧ y = x) ∨ (i ≠ k ∧ l[i]? = some y) := by
 by_cases e : k = i
 · subst e
   rw [List.getElem?_set_self hk] at h
   exact .inl ⟨rfl, (Option.some.inj h).symm⟩
 · rw [List.getElem?_set_ne e] at h
   exact .inr ⟨fun k => e k.symm, h⟩
theorem S0 {n j : Nat} (h : j < n) : E2 (2 ^ n - 1) (j : Int) = true := by
 simp only [E2, decide_eq_true_eq, Int.toNat_natCast]
 obtain ⟨d, rfl⟩ : ∃ d, n = j + (d + 1) := ⟨n - j - 1, by omega⟩
 have h1 : (2 : Int) ^ (j + (d + 1)) - 1 = (2 ^ (d + 1) - 1) * 2 ^ j + (2 ^ j - 1) := by
  rw [Int.pow_add, Int.sub_mul, Int.mul_comm (2 ^ j)]; omega
 have h2 := Gt j
 rw [h1, Int.add_comm, Int.add_mul_ediv_right _ _ (by omega), Int.ediv_eq_zero_of_lt (by omega) (by omega)]
 have h3 : (2 : Int) ^ (d + 1) = 2 * 2 ^ d := by rw [Int.pow_succ, Int.mul_comm]
 omega
theorem Dt.put (h : Dt c b r) (hc : A7 c = true) {t v : Int} (hf : Kf r t = true) (t0 : 0 ≤ t) (hb : b ≤ 4611686018427387904) : Dt c b (Qw r t v) where
 cap := by have := h.cap; simpa [Qw] using this
 rd := h.rd
 t0 := h.t0
 tb := h.tb
 h0 := h.h0
 sl i x hx := by
  simp only [Kf, decide_eq_true_eq] at hf
  rcases FU hx (Mb h hc t) with ⟨rfl, rfl⟩ | ⟨_, hx⟩
  · have ht : t < r.A6 := hf.1
    have hlt := h.tb
    have hd : (2 * t + 1) / 2 = t := by omega
    have hm : (2 * t + 1) % 2 = 1 := by omega
    have hp := Gt r.Aj.length
    have hrd := h.rd
    have hr := (Fa hc).2.2
    refine ⟨by show 0 ≤ 2 * t + 1; omega, by show 2 * t + 1 < _; omega, by show (2 * t + 1) / 2 % c.Ee = _; rw [hd]; exact R9 h hc t, fun k => by exfalso; change (2 * t + 1) % 2 = 0 at k; omega, fun _ => ?_, fun _ => by show (2 * t + 1) / 2 < r.A6; omega,
     fun _ j y hy hb => ?_, fun k => by exfalso; change (2 * t + 1) % 2 = 0 at k; omega⟩
    · show 1 ≤ (2 : Int) ^ r.Aj.length - 1 ∧ (2 : Int) ^ r.Aj.length - 1 < 2 ^ r.Aj.length
      obtain ⟨d, hd⟩ : ∃ d, r.Aj.length = d + 1 := ⟨r.Aj.length - 1, by omega⟩
      rw [hd, Int.pow_succ]
      have := Gt d
      omega
    · have hj : j < r.Aj.length := (List.getElem?_eq_some_iff.1 hy).1
      have := S0 hj
      change E2 (2 ^ r.Aj.length - 1) (j : Int) = false at hb
      rw [this] at hb
      cases hb
  · exact h.sl i x hx
theorem Dt.take (h : Dt c b r) {j : Int} (hj : (j.toNat) < r.Aj.length) (he : GP r j = false) : Dt c b (Fy r j) where
 cap := h.cap
 rd := by have := h.rd; simpa [Fy] using this
 t0 := h.t0
 tb := h.tb
 h0 x hx := by
  simp only [GP, decide_eq_false_iff_not] at he
  obtain ⟨k, hk⟩ := List.getElem?_of_mem hx
  have hd0 : r.Aj[j.toNat]? = some (hd r j) := D5 hj
  have h1 := h.h0 _ (List.mem_of_getElem? hd0)
  rcases FU hk hj with ⟨rfl, rfl⟩ | ⟨_, hk⟩
  · show 0 ≤ hd r j + 1 ∧ hd r j + 1 ≤ r.A6 ∧ r.A6 - (hd r j + 1) ≤ c.Ee
    omega
  · exact h.h0 x (List.mem_of_getElem? hk)
 sl i x hx := by
  have hl : (Fy r j).Aj.length = r.Aj.length := by simp [Fy]
  rw [hl]
  refine (h.sl i x hx).mono (Int.le_refl _) fun k y hy => ?_
  rcases FU hy hj with ⟨rfl, rfl⟩ | ⟨_, hk⟩
  · exact ⟨_, D5 hj, by show hd r j ≤ hd r j + 1; omega⟩
  · exact ⟨y, hk, Int.le_refl _⟩
theorem Dt.close (h : Dt c b r) : Dt c b { r with Bj := true } where
 cap := h.cap
 rd := h.rd
 t0 := h.t0
 tb := h.tb
 h0 := h.h0
 sl := h.sl
end
theorem RR : ∀ (x : Fin 256) (j k : Fin 8), E2 (x.val : Int) (j.val : Int) = true → E2 ((x.val : Int) - 2 ^ j.val) (k.val : Int) = (E2 (x.val : Int) (k.val : Int) && !decide (k = j)) ∧ (0 : Int) ≤ (x.val : Int) - 2 ^ j.val := by decide +kernel
theorem Kz {x : Int} {j k n : Nat} (h0 : 0 ≤ x) (h1 : x < 2 ^ n) (hn : n ≤ 8) (hj : j < n) (hk : k < n) (hb : E2 x (j : Int) = true) :
 E2 (x - 2 ^ j) (k : Int) = (E2 x (k : Int) && !decide (k = j)) ∧ 0 ≤ x - 2 ^ j := by
 have h2 : (2 : Int) ^ n ≤ 2 ^ 8 := by
  have := Nat.pow_le_pow_right (n := 2) (by decide) hn
  exact_mod_cast this
 have e : ((x.toNat : Nat) : Int) = x := Int.toNat_of_nonneg h0
 have := RR ⟨x.toNat, by omega⟩ ⟨j, by omega⟩ ⟨k, by omega⟩
 simp only [e, Fin.mk.injEq] at this
 exact this hb
theorem RS (k : Int) : E2 0 k = false := by simp [E2]
section
variable {c : TRg} {b : Int} {r : MR}
theorem Dt.rel (h : Dt c b r) (hc : A7 c = true) {j t : Int} (hj0 : 0 ≤ j) (hj : j.toNat < r.Aj.length) (hh : PB r j t = true) (hb : b ≤ 2305843009213693952) : Dt c b (SO r j t) where
 cap := by have := h.cap; simpa [SO] using this
 rd := h.rd
 t0 := h.t0
 tb := h.tb
 h0 := h.h0
 sl i x hx := by
  simp only [PB, decide_eq_true_eq] at hh
  obtain ⟨hlt, hst, hbit⟩ := hh
  rcases FU hx (Mb h hc t) with ⟨rfl, rfl⟩ | ⟨_, hx⟩
  · have hS := h.sl _ _ (LZ h hc t)
    have hrc := Fa hc
    have hrd := h.rd
    have htb := h.tb
    have hcap : Jh r = c.Ee := h.cap
    have hd0 : r.Aj[j.toNat]? = some (hd r j) := D5 hj
    have hhd := h.h0 _ (List.mem_of_getElem? hd0)
    have hs0 := hS.s0
    have hm : (BM r t).AQ % 2 = 1 := by omega
    have hdv : (BM r t).AQ / 2 = t := by omega
    have hheld := hS.held hm
    have hjn : ((j.toNat : Nat) : Int) = j := Int.toNat_of_nonneg hj0
    have hclr : ∀ k : Nat, k < r.Aj.length → E2 ((BM r t).Left - 2 ^ j.toNat) (k : Int) = (E2 (BM r t).Left (k : Int) && !decide (k = j.toNat)) ∧ 0 ≤ (BM r t).Left - 2 ^ j.toNat :=
     fun k hk => Kz (by omega) hheld.2 (by omega) hj hk (by rw [hjn]; exact hbit)
    have hlow : ∀ (k : Nat) (y : Int), r.Aj[k]? = some y → E2 ((BM r t).Left - 2 ^ j.toNat) (k : Int) = false → t < y := by
     intro k y hy hbk
     have hk : k < r.Aj.length := (List.getElem?_eq_some_iff.1 hy).1
     rw [(hclr k hk).1] at hbk
     by_cases e : k = j.toNat
     · subst e; rw [hd0] at hy; cases hy; exact hlt
     · simp only [e, decide_false, Bool.not_false, Bool.and_true] at hbk
       have := hS.Tv hm k y hy hbk
       omega
    unfold Qx
    split
    · rename_i hz
      rw [hz] at hlow
      rw [hcap]
      have e : 2 * (t + c.Ee) / 2 = t + c.Ee := by omega
      refine ⟨by show 0 ≤ 2 * (t + c.Ee); omega, by show 2 * (t + c.Ee) < _; omega, ?_, fun _ => ⟨rfl, rfl⟩, fun k => by exfalso; change 2 * (t + c.Ee) % 2 = 1 at k; omega, fun k => by exfalso; change 2 * (t + c.Ee) % 2 = 1 at k; omega,
       fun k => by exfalso; change 2 * (t + c.Ee) % 2 = 1 at k; omega, fun _ _ y hy => ?_⟩
      · show 2 * (t + c.Ee) / 2 % c.Ee = _
        rw [e, Int.add_emod_right]
        exact R9 h hc t
      · show 2 * (t + c.Ee) / 2 - c.Ee < y
        obtain ⟨k, hk⟩ := List.getElem?_of_mem hy
        have := hlow k y hk (RS _)
        omega
    · rename_i hz
      have h2 := (hclr _ hj).2
      have hp := Gt j.toNat
      exact ⟨hS.s0, hS.s1, hS.U4, fun k => by exfalso; change (BM r t).AQ % 2 = 0 at k; omega, fun _ => ⟨by show 1 ≤ (BM r t).Left - 2 ^ j.toNat; omega, by show (BM r t).Left - 2 ^ j.toNat < 2 ^ r.Aj.length; omega⟩, hS.P5,
       fun _ k y hy hbk => by show (BM r t).AQ / 2 < y; rw [hdv]; exact hlow k y hy hbk, fun k => by exfalso; change (BM r t).AQ % 2 = 0 at k; omega⟩
  · exact h.sl i x hx
theorem Kn {α : Type} (f : Nat → α) (n i : Nat) (x : α) (h : ((List.range n).map f)[i]? = some x) : i < n ∧ x = f i := by
 simp only [List.getElem?_map, Option.map_eq_some_iff] at h
 obtain ⟨k, hk, rfl⟩ := h
 obtain ⟨h1, h2⟩ := List.getElem?_eq_some_iff.1 hk
 simp at h1 h2
 subst h2
 exact ⟨h1, rfl⟩
theorem Dt.new (hc : A7 c = true) (hb : 0 < b) : Dt c b (JG c) where
 cap := by have := Fa hc; simp [JG]; omega
 rd := by have := Fa hc; simp [JG]; omega
 t0 := Int.le_refl _
 tb := hb
 h0 x hx := by
  have := Fa hc
  simp only [JG, List.mem_replicate] at hx
  obtain ⟨_, rfl⟩ := hx
  show (0 : Int) ≤ 0 ∧ (0 : Int) ≤ 0 ∧ (0 : Int) - 0 ≤ c.Ee
  omega
 sl i x hx := by
  have hcp := Fa hc
  obtain ⟨hi, rfl⟩ := Kn _ _ _ _ hx
  refine ⟨by show 0 ≤ 2 * (i : Int); omega, by show 2 * (i : Int) < _; omega, ?_, fun _ => ⟨rfl, rfl⟩, fun k => by exfalso; change 2 * (i : Int) % 2 = 1 at k; omega, fun k => by exfalso; change 2 * (i : Int) % 2 = 1 at k; omega,
   fun k => by exfalso; change 2 * (i : Int) % 2 = 1 at k; omega, fun _ k => by exfalso; change c.Ee ≤ 2 * (i : Int) / 2 at k; omega⟩
  show 2 * (i : Int) / 2 % c.Ee = i
  rw [show 2 * (i : Int) / 2 = i by omega]
  exact Int.emod_eq_of_lt (by omega) (by omega)
end
end
section
theorem Hd {l : List TIn} {n : Int} (h0 : 0 ≤ n) (h1 : n < l.length) : gI l n ∈ l := by
 have : n.toNat < l.length := by omega
 exact List.mem_of_getElem? (D5 this)
theorem Be {i : TIn} (h : Bp i = true) :
 (1 ≤ i.Op ∧ i.Op ≤ 25) ∧ (0 ≤ i.A ∧ i.A ≤ 7) ∧ (0 ≤ i.B ∧ i.B ≤ 7) ∧ (0 ≤ i.C ∧ i.C ≤ 7) ∧ (0 ≤ i.D ∧ i.D ≤ 2) ∧ (i.Op ≠ 1 → 0 ≤ i.K ∧ i.K ≤ 256) ∧ (i.Op = 19 → i.K ≤ 7) := by
 unfold Bp at h
 simp only at h
 repeat' split at h
 all_goals first | (exact absurd h (by decide)) | (simp only [Bool.and_eq_true, decide_eq_true_eq] at h; omega)
theorem E0 {rs : List TRg} {i : TIn} {n : Int} (h : DL rs i n = 0) :
 Bp i = true ∧ (15 ≤ i.Op ∧ i.Op ≤ 17 → i.K ≤ n) ∧ (18 ≤ i.Op ∧ i.Op ≤ 20 → i.C < rs.length) ∧ (i.Op = 19 → i.K < (rs.getD i.C.toNat ⟨0, 0, 0⟩).Aa) := by
 unfold DL at h
 repeat' split at h
 all_goals first
  | (exfalso; omega)
  | (refine ⟨?_, ?_, ?_, ?_⟩
     · cases e : Bp i
       · exact absurd e ‹_›
       · rfl
     all_goals (intro hh; omega))
def G8 (rs : List TRg) (l : List TIn) : Prop := ∀ i ∈ l, DL rs i l.length = 0
section
variable {rs : List TRg} {l : List TIn} {t : MT}
structure Kept (t u : MT) : Prop where
 ph : u.Phase = t.Phase
 rg : u.Ring = t.Ring
 st : u.Status = t.Status
 tk : u.AG = t.AG
 sn : u.Seen = t.Seen
theorem Kept.refl (t : MT) : Kept t t := ⟨rfl, rfl, rfl, rfl, rfl⟩
theorem Kept.trans {t u v : MT} (a : Kept t u) (b : Kept u v) : Kept t v := ⟨b.ph.trans a.ph, b.rg.trans a.rg, b.st.trans a.st, b.tk.trans a.tk, b.sn.trans a.sn⟩
theorem Q8 (i : TIn) (t : MT) : Kept t (ES i t) := by
 unfold ES
 repeat' split
 all_goals exact ⟨rfl, rfl, rfl, rfl, rfl⟩
theorem Pj {i : TIn} {t : MT} {n : Int} (h0 : 0 ≤ t.At) (h1 : t.At < n) (hk : i.Op ≠ 1 → 0 ≤ i.K) (hj : 15 ≤ i.Op ∧ i.Op ≤ 17 → i.K ≤ n) : 0 ≤ (ES i t).At ∧ (ES i t).At ≤ n := by
 unfold ES
 repeat' split
 all_goals (simp only; omega)
theorem HA (hc : G8 rs l) : ∀ (n : Nat) (t : MT), 0 ≤ t.At → t.At ≤ l.length → Kept t (FE l n t) ∧ 0 ≤ (FE l n t).At ∧ (FE l n t).At ≤ l.length
 | 0, t, h0, h1 => ⟨Kept.refl t, h0, h1⟩
 | n + 1, t, h0, h1 => by
   unfold FE
   split
   · rename_i h
     have hm := Hd h0 h.1
     have hf := E0 (hc _ hm)
     have hr := Be hf.1
     have hs := Pj (i := gI l t.At) h0 h.1 (fun k => (hr.2.2.2.2.2.1 k).1) hf.2.1
     obtain ⟨k1, k2⟩ := HA hc n (ES (gI l t.At) t) hs.1 hs.2
     exact ⟨(Q8 _ _).trans k1, k2⟩
   · exact ⟨Kept.refl t, h0, h1⟩
theorem E3.kept {t u : MT} (h : E3 l t) (hp : t.Phase = 0) (k : Kept t u) (h0 : 0 ≤ u.At) (h1 : u.At ≤ l.length) : E3 l u where
 a0 := h0
 a1 := h1
 st := by rw [k.st]; exact h.st
 ph := by rw [k.ph]; exact h.ph
 p0 _ := by rw [k.rg, k.tk]; exact h.p0 hp
 p1 q := by rw [k.ph] at q; exact absurd hp q
theorem Lk (hc : G8 rs l) (h : E3 l t) : Kept t (CZ l t).1 ∧ E3 l (CZ l t).1 := by
 unfold CZ
 repeat' split
 · exact ⟨Kept.refl t, h⟩
 · exact ⟨Kept.refl t, h⟩
 · exact ⟨Kept.refl t, h⟩
 · have hp : t.Phase = 0 := by have := h.ph; omega
   obtain ⟨k1, k2, k3⟩ := HA hc 256 t h.a0 h.a1
   exact ⟨k1, h.kept hp k1 k2 k3⟩
structure QO (l : List TIn) (t n : MT) (a : MA) : Prop where
 run : a.Kind ≠ 0 → t.Status = 0
 k1 : a.Kind = 1 → n.Phase = 0 ∧ n.At < l.length ∧ (gI l n.At).Op = 18 ∧ a.Ring = (gI l n.At).C
 k2 : a.Kind = 2 → n.Phase = 0 ∧ n.At < l.length ∧ (gI l n.At).Op = 19 ∧ a.Ring = (gI l n.At).C ∧ a.Reader = (gI l n.At).K
 k3 : a.Kind = 3 → n.Phase = 0 ∧ n.At < l.length ∧ (gI l n.At).Op = 20 ∧ a.Ring = (gI l n.At).C
 kn : 4 ≤ a.Kind ∧ a.Kind ≤ 7 → n.Phase = 0 ∧ n.At < l.length
 kh : a.Kind = 8 ∨ a.Kind = 9 → n.Phase = 0
 kp : a.Kind = 10 → n.Phase = 1 ∧ n.At < l.length ∧ a.Ring = n.Ring ∧ a.AG = n.AG
 kr : a.Kind = 11 → n.Phase = 2 ∧ n.At < l.length ∧ a.Ring = n.Ring ∧ a.AG = n.AG ∧ a.Reader = (gI l n.At).K
 ks : a.Kind = 7 → n.Phase = 0
 top : 0 ≤ a.Kind ∧ a.Kind ≤ 11
theorem OO (hc : G8 rs l) (h : E3 l t) : QO l t (CZ l t).1 (CZ l t).2 := by
 unfold CZ
 split
 · refine ⟨fun k => absurd rfl k, ?_, ?_, ?_, ?_, ?_, ?_, ?_, ?_, ?_⟩ <;> simp [zA]
 rename_i hs
 have hs : t.Status = 0 := by omega
 split
 · rename_i hp
   have := h.p1 (by omega)
   refine ⟨fun _ => hs, ?_, ?_, ?_, ?_, ?_, ?_, ?_, ?_, ?_⟩ <;> simp [hp]
   exact this.2.1
 split
 · rename_i hp
   have := h.p1 (by omega)
   refine ⟨fun _ => hs, ?_, ?_, ?_, ?_, ?_, ?_, ?_, ?_, ?_⟩ <;> simp [hp]
   exact this.2.1
 have hp : t.Phase = 0 := by have := h.ph; omega
 obtain ⟨k1, k2, k3⟩ := HA hc 256 t h.a0 h.a1
 generalize FE l 256 t = n at k1 k2 k3
 have hn : n.Phase = 0 := by rw [k1.ph, hp]
 simp only [Gy]
 repeat' split
 all_goals (refine ⟨fun _ => hs, ?_, ?_, ?_, ?_, ?_, ?_, ?_, ?_, ?_⟩ <;> simp [zA, hn] <;> omega)
end
end
section
theorem CW {e : TEv} (h : Bu e = true) : (1 ≤ e.Kind ∧ e.Kind ≤ 15) ∧ (0 ≤ e.Thread ∧ e.Thread ≤ 7) ∧ (0 ≤ e.Ring ∧ e.Ring ≤ 7) ∧ e.AG < 4611686018427387904 ∧
 (DE e.Kind = true ∨ e.Ring = 0) ∧ (BK e.Kind = true ∨ e.AG = 0) ∧ (ET e.Kind = true ∨ e.Value = 0) := by
 simpa only [Bu, decide_eq_true_eq] using h
theorem CT {k : Int} : DE k = true ↔ (1 ≤ k ∧ k ≤ 7 ∨ k = 13) := by simp only [DE, decide_eq_true_eq]
theorem BE {k : Int} : BK k = true ↔ (1 ≤ k ∧ k ≤ 4 ∨ k = 13) := by simp only [BK, decide_eq_true_eq]
structure UD (a : MA) (e : TEv) : Prop where
 rg : DE e.Kind = true → a.Ring = e.Ring
 f1 : e.Kind = 1 → a.Kind = 1
 f2 : e.Kind = 2 → a.Kind = 10 ∧ a.AG = e.AG
 f3 : e.Kind = 3 → a.Kind = 2
 f4 : e.Kind = 4 → a.Kind = 11 ∧ a.AG = e.AG
 f5 : 5 ≤ e.Kind ∧ e.Kind ≤ 7 → a.Kind = 1 ∨ a.Kind = 2
 f8 : e.Kind = 8 → a.Kind = 4
 f9 : e.Kind = 9 → a.Kind = 5
 f10 : e.Kind = 10 ∨ e.Kind = 11 → a.Kind = 6
 f12 : e.Kind = 12 → a.Kind = 7 ∧ a.Value = e.Value
 f13 : e.Kind = 13 → a.Kind = 3
 f14 : e.Kind = 14 → a.Kind = 8
 f15 : e.Kind = 15 → a.Kind = 9
theorem RJ {a : MA} {e : TEv} (hr : Bu e = true) (h : Cp a e = true) : UD a e := by
 have hk := (CW hr).1
 simp only [Cp, Bool.and_eq_true, Bool.or_eq_true, Bool.not_eq_true', decide_eq_true_eq] at h
 obtain ⟨h1, h2⟩ := h
 have h1 : DE e.Kind = true → a.Ring = e.Ring := fun k => by
  rcases h1 with h1 | h1
  · rw [h1] at k; cases k
  · exact h1
 have hd : e.Kind = 1 ∨ e.Kind = 2 ∨ e.Kind = 3 ∨ e.Kind = 4 ∨ e.Kind = 5 ∨ e.Kind = 6 ∨ e.Kind = 7 ∨ e.Kind = 8 ∨ e.Kind = 9 ∨ e.Kind = 10 ∨ e.Kind = 11 ∨ e.Kind = 12 ∨ e.Kind = 13 ∨ e.Kind = 14 ∨ e.Kind = 15 := by omega
 rcases hd with q | q | q | q | q | q | q | q | q | q | q | q | q | q | q
 all_goals (simp [q, Es] at h2; refine ⟨h1, ?_, ?_, ?_, ?_, ?_, ?_, ?_, ?_, ?_, ?_, ?_, ?_⟩ <;> intro hh <;> omega)
section
variable {l : List TIn} {t n : MT} {a : MA} {e : TEv} {v : Int}
theorem bT1 (i : TIn) (h : e.Kind = 1) : BX i n e v = { n with Phase := 1, Ring := e.Ring, AG := e.AG } := by unfold BX; rw [if_pos h]
theorem bT3 (i : TIn) (h : e.Kind = 3) : BX i n e v = { n with Phase := 2, Ring := e.Ring, AG := e.AG } := by unfold BX; rw [if_neg (by omega), if_pos h]
theorem T6 (i : TIn) (h : e.Kind = 14) : BX i n e v = { n with Status := 1 } := by unfold BX; rw [if_neg (by omega), if_neg (by omega), if_pos h]
theorem T5 (i : TIn) (h : e.Kind = 15) : BX i n e v = { n with Status := 2 } := by unfold BX; rw [if_neg (by omega), if_neg (by omega), if_neg (by omega), if_pos h]
theorem bTe (i : TIn) (h1 : e.Kind ≠ 1) (h3 : e.Kind ≠ 3) (h14 : e.Kind ≠ 14) (h15 : e.Kind ≠ 15) :
 (BX i n e v).At = n.At + 1 ∧ (BX i n e v).Phase = 0 ∧ (BX i n e v).Ring = 0 ∧ (BX i n e v).AG = 0 ∧ (BX i n e v).Status = n.Status ∧
   (BX i n e v).Seen = (if e.Kind = 12 then n.Seen ++ [e.Value] else n.Seen) := by
 unfold BX
 rw [if_neg h1, if_neg h3, if_neg h14, if_neg h15]
 exact ⟨rfl, rfl, rfl, rfl, rfl, rfl⟩
theorem PZ (hr : Bu e = true) (h0 : 0 ≤ e.AG) (hq : QO l t n a) (hn : E3 l n) (hst : n.Status = t.Status) (ha : a.Kind ≠ 0) (hf : UD a e) : E3 l (BX (gI l n.At) n e v) := by
 have hk := CW hr
 have hrun : n.Status = 0 := hst.trans (hq.run ha)
 have hkr := CT (k := e.Kind)
 by_cases he : e.Kind = 1
 · rw [bT1 _ he]
   have h1 := hq.k1 (hf.f1 he)
   have h2 := hf.rg (hkr.2 (by omega))
   exact ⟨hn.a0, hn.a1, hn.st, by simp, by simp, fun _ => ⟨hrun, h1.2.1, by rw [h1.2.2.1]; rfl, by rw [← h1.2.2.2, h2], h0, hk.2.2.2.1⟩⟩
 by_cases he3 : e.Kind = 3
 · rw [bT3 _ he3]
   have h1 := hq.k2 (hf.f3 he3)
   have h2 := hf.rg (hkr.2 (by omega))
   exact ⟨hn.a0, hn.a1, hn.st, by simp, by simp, fun _ => ⟨hrun, h1.2.1, by rw [h1.2.2.1]; rfl, by rw [← h1.2.2.2.1, h2], h0, hk.2.2.2.1⟩⟩
 by_cases he14 : e.Kind = 14
 · rw [T6 _ he14]
   have h1 := hq.kh (.inl (hf.f14 he14))
   exact ⟨hn.a0, hn.a1, by simp, hn.ph, hn.p0, fun k => absurd h1 k⟩
 by_cases he15 : e.Kind = 15
 · rw [T5 _ he15]
   have h1 := hq.kh (.inr (hf.f15 he15))
   exact ⟨hn.a0, hn.a1, by simp, hn.ph, hn.p0, fun k => absurd h1 k⟩
 have Ob : n.At < l.length := by
  have b2 := hf.f2; have b4 := hf.f4; have b5 := hf.f5; have b8 := hf.f8; have b9 := hf.f9; have b10 := hf.f10; have b12 := hf.f12; have b13 := hf.f13
  have hd : e.Kind = 2 ∨ e.Kind = 4 ∨ (5 ≤ e.Kind ∧ e.Kind ≤ 7) ∨ (8 ≤ e.Kind ∧ e.Kind ≤ 12) ∨ e.Kind = 13 := by omega
  rcases hd with h | h | h | h | h
  · exact (hq.kp (b2 h).1).2.1
  · exact (hq.kr (b4 h).1).2.1
  · rcases b5 h with q | q
    · exact (hq.k1 q).2.1
    · exact (hq.k2 q).2.1
  · refine (hq.kn ?_).2
    have : e.Kind = 8 ∨ e.Kind = 9 ∨ (e.Kind = 10 ∨ e.Kind = 11) ∨ e.Kind = 12 := by omega
    rcases this with q | q | q | q
    · have := b8 q; omega
    · have := b9 q; omega
    · have := b10 q; omega
    · have := b12 q; omega
  · exact (hq.k3 (b13 h)).2.1
 have := hn.a0
 obtain ⟨e1, e2, e3, e4, e5, _⟩ := bTe (v := v) (n := n) (gI l n.At) he he3 he14 he15
 exact ⟨by rw [e1]; omega, by rw [e1]; omega, by rw [e5]; exact hn.st, by rw [e2]; simp, fun _ => ⟨e3, e4⟩, fun k => absurd e2 k⟩
theorem Rm {c : TRg} {b : Int} {r : MR} (h : Dt c b r) (hc : A7 c = true) (hb : b ≤ 2305843009213693952) (h0 : 0 ≤ e.AG) (hrd : a.Kind = 2 ∨ a.Kind = 11 → 0 ≤ a.Reader ∧ a.Reader < c.Aa)
 (hf : UD a e) (ht : Dv r a e = true) : Dt c (b + 1) (Cn r a e) := by
 unfold Cn
 unfold Dv at ht
 have hl := h.rd
 split
 · rename_i he
   rw [if_pos he] at ht
   simp only [Bool.and_eq_true, Bool.not_eq_true', decide_eq_true_eq] at ht
   exact h.UJ ht.1
 rename_i h1
 rw [if_neg h1] at ht
 split
 · rename_i he
   rw [if_pos he] at ht
   exact (h.put hc ht h0 (by omega)).mono (by omega)
 rename_i h2
 rw [if_neg h2] at ht
 split
 · rename_i he
   rw [if_pos he] at ht
   simp only [Bool.and_eq_true, Bool.not_eq_true', decide_eq_true_eq] at ht
   have := hrd (.inl (hf.f3 he))
   exact (h.take (by omega) ht.1).mono (by omega)
 rename_i h3
 rw [if_neg h3] at ht
 split
 · rename_i he
   rw [if_pos he] at ht
   have := hrd (.inr (hf.f4 he).1)
   exact (h.rel hc this.1 (by omega) ht hb).mono (by omega)
 split
 · exact h.close.mono (by omega)
 · exact h.mono (by omega)
theorem KJ (r : MR) (a : MA) (e : TEv) : r.A6 ≤ (Cn r a e).A6 ∧ (e.Kind = 1 → (Cn r a e).A6 = r.A6 + 1) ∧ (e.Kind ≠ 1 → (Cn r a e).A6 = r.A6) := by
 unfold Cn
 repeat' split
 all_goals (refine ⟨?_, fun h => ?_, fun h => ?_⟩ <;> (try simp [Qw, Fy, SO]) <;> (try omega))
theorem TI {r : MR} {j k : Int} : hd r k ≤ hd (Fy r j) k := by
 simp only [hd, Fy]
 by_cases e : j.toNat = k.toNat
 · by_cases h : j.toNat < r.Aj.length
   · rw [← e, Fh h]; omega
   · rw [List.set_eq_of_length_le (by omega)]; omega
 · rw [getD_set_ne e]; omega
theorem R3 (r : MR) (a : MA) (e : TEv) (k : Int) : hd r k ≤ hd (Cn r a e) k := by
 unfold Cn
 split
 · exact Int.le_refl _
 split
 · exact Int.le_refl _
 split
 · exact TI
 split
 · exact Int.le_refl _
 split <;> exact Int.le_refl _
end
end
section
section
variable {p : MP} {b : Int} {s : MS} {e : TEv}
structure Dn (p : MP) (s : MS) (e : TEv) : Prop where
 re : Bu e = true
 lt : e.Thread.toNat < s.AB.length
 th : 0 ≤ e.Thread
 a0 : (Al p s e.Thread).Kind ≠ 0
 ft : Cp (Al p s e.Thread) e = true
theorem fitting (h : Ex p s e = 0) : Dn p s e := by
 unfold Ex at h
 split at h
 · omega
 rename_i h1
 split at h
 · omega
 rename_i h2
 split at h
 · omega
 rename_i h3
 have hr : Bu e = true := by cases q : Bu e <;> simp_all
 have hk := CW hr
 refine ⟨hr, by omega, hk.2.1.1, fun q => h3 (.inl q), ?_⟩
 cases q : Cp (Al p s e.Thread) e
 · exact absurd (.inr q) h3
 · rfl
theorem JK : Ex p s e = 0 ↔ Dn p s e := by
 refine ⟨fitting, fun h => ?_⟩
 have := h.lt
 have := h.th
 unfold Ex
 rw [if_neg (by rw [h.re]; simp), if_neg (by omega), if_neg (by rw [h.ft]; simp [h.a0])]
theorem QB (h : DD p b s) {i : Nat} {l : List TIn} (hl : p.AB[i]? = some l) : G8 p.AF l := h.pi.ins l (List.mem_of_getElem? hl)
theorem Rn {t : Int} (h : t.toNat < s.AB.length) : s.AB[t.toNat]? = some (M9 s t) := D5 h
theorem Jv (h : DD p b s) {t : Int} (k : t.toNat < s.AB.length) : p.AB[t.toNat]? = some (CL p t) := D5 (by rw [← h.nt]; exact k)
theorem UQ {i : Int} (h : i.toNat < s.AF.length) : s.AF[i.toNat]? = some (Cf s i) := D5 h
def Kw (p : MP) (i : Int) : TRg := p.AF.getD i.toNat ⟨0, 0, 0⟩
theorem PV {i : Int} (h : i.toNat < p.AF.length) : p.AF[i.toNat]? = some (Kw p i) := D5 h
theorem DD.LM (h : DD p b s) {i : Int} (k : i.toNat < p.AF.length) : Dt (Kw p i) b (Cf s i) ∧ A7 (Kw p i) = true :=
 ⟨h.ri _ _ _ (PV k) (UQ (by rw [h.nr]; exact k)), h.pi.rg _ (List.mem_of_getElem? (PV k))⟩
theorem DD.MI (h : DD p b s) {t : Int} (k : t.toNat < s.AB.length) : E3 (CL p t) (M9 s t) := h.ti _ _ _ (Jv h k) (Rn k)
theorem DD.asked (h : DD p b s) {t : Int} (k : t.toNat < s.AB.length) :
 QO (CL p t) (M9 s t) (CZ (CL p t) (M9 s t)).1 (Al p s t) ∧ E3 (CL p t) (CZ (CL p t) (M9 s t)).1 ∧ Kept (M9 s t) (CZ (CL p t) (M9 s t)).1 ∧ G8 p.AF (CL p t) := by
 have hc := QB h (Jv h k)
 have hk := Lk hc (h.MI k)
 exact ⟨OO hc (h.MI k), hk.2, hk.1, hc⟩
theorem G4 (h : DD p b s) {t : Int} (k : t.toNat < s.AB.length) {a : MA} (ha : a = Al p s t) (hk : a.Kind = 1 ∨ a.Kind = 2 ∨ a.Kind = 3 ∨ a.Kind = 10 ∨ a.Kind = 11) :
 0 ≤ a.Ring ∧ a.Ring.toNat < p.AF.length ∧ (a.Kind = 2 ∨ a.Kind = 11 → 0 ≤ a.Reader ∧ a.Reader < (Kw p a.Ring).Aa) := by
 obtain ⟨hq, hn, _, hc⟩ := h.asked k
 rw [← ha] at hq
 generalize (CZ (CL p t) (M9 s t)).1 = n at hq hn
 generalize CL p t = l at hq hn hc
 have key : ∀ {i : TIn}, i ∈ l → 18 ≤ i.Op ∧ i.Op ≤ 20 → 0 ≤ i.C ∧ i.C.toNat < p.AF.length ∧ (i.Op = 19 → 0 ≤ i.K ∧ i.K < (Kw p i.C).Aa) := by
  intro i hi ho
  have h1 := E0 (hc i hi)
  have h2 := Be h1.1
  have h3 := h1.2.2.1 ho
  exact ⟨by omega, by omega, fun q => ⟨(h2.2.2.2.2.2.1 (by omega)).1, h1.2.2.2 q⟩⟩
 have a0 := hn.a0
 rcases hk with q | q | q | q | q
 · obtain ⟨_, h1, h2, h3⟩ := hq.k1 q
   have := key (Hd a0 h1) (by omega)
   rw [h3]
   exact ⟨this.1, this.2.1, by omega⟩
 · obtain ⟨_, h1, h2, h3, h4⟩ := hq.k2 q
   have := key (Hd a0 h1) (by omega)
   rw [h3, h4]
   exact ⟨this.1, this.2.1, fun _ => this.2.2 h2⟩
 · obtain ⟨_, h1, h2, h3⟩ := hq.k3 q
   have := key (Hd a0 h1) (by omega)
   rw [h3]
   exact ⟨this.1, this.2.1, by omega⟩
 · obtain ⟨h0, h1, h2, h3⟩ := hq.kp q
   obtain ⟨_, _, h4, h5, _⟩ := hn.p1 (by omega)
   have := key (Hd a0 h1) (by omega)
   rw [h2, ← h5]
   exact ⟨this.1, this.2.1, by omega⟩
 · obtain ⟨h0, h1, h2, h3, h6⟩ := hq.kr q
   obtain ⟨_, _, h4, h5, _⟩ := hn.p1 (by omega)
   have := key (Hd a0 h1) (by omega)
   rw [h2, ← h5, h6]
   exact ⟨this.1, this.2.1, fun _ => this.2.2 (by omega)⟩
theorem H8 (h : DD p b s) (f : Dn p s e) (hk : DE e.Kind = true) :
 0 ≤ e.Ring ∧ e.Ring.toNat < p.AF.length ∧ ((Al p s e.Thread).Kind = 2 ∨ (Al p s e.Thread).Kind = 11 → 0 ≤ (Al p s e.Thread).Reader ∧ (Al p s e.Thread).Reader < (Kw p e.Ring).Aa) := by
 have hf := RJ f.re f.ft
 have hr := hf.rg hk
 rw [← hr]
 refine G4 h f.lt rfl ?_
 rw [CT] at hk
 have h1 := hf.f1; have h2 := hf.f2; have h3 := hf.f3; have h4 := hf.f4; have h5 := hf.f5; have h13 := hf.f13
 omega
end
end
section
section
variable {p : MP} {b : Int} {s : MS} {e : TEv}
theorem Po {rs : List MR} {i : Nat} {r : MR} (k : i < rs.length) (j : Int) : (rs.set i r).getD j.toNat zR = if j.toNat = i then r else rs.getD j.toNat zR := by
 by_cases q : i = j.toNat
 · rw [if_pos q.symm, ← q, Fh k]
 · rw [if_neg (Ne.symm q), getD_set_ne q]
theorem K0 (h : DD p b s) (f : Dn p s e) (i : Int) : (Cf s i).A6 ≤ (Cf (Ah p s e) i).A6 ∧ ∀ k, hd (Cf s i) k ≤ hd (Cf (Ah p s e) i) k := by
 unfold Cf Ah
 simp only
 split
 · rename_i q
   have hk : DE e.Kind = true := by rw [CT]; rw [BE] at q; omega
   have hr := H8 h f hk
   rw [Po (by rw [h.nr]; exact hr.2.1)]
   split
   · rename_i q2
     rw [q2]
     exact ⟨(KJ _ _ _).1, fun k => R3 _ _ _ _⟩
   · exact ⟨Int.le_refl _, fun _ => Int.le_refl _⟩
 · exact ⟨Int.le_refl _, fun _ => Int.le_refl _⟩
theorem Gb (h : DD p b s) (f : Dn p s e) (q : BK e.Kind = true) : Cf (Ah p s e) e.Ring = Cn (Cf s e.Ring) (Al p s e.Thread) e := by
 have hk : DE e.Kind = true := by rw [CT]; rw [BE] at q; omega
 have hr := H8 h f hk
 unfold Cf Ah
 simp only
 rw [if_pos q, Po (by rw [h.nr]; exact hr.2.1), if_pos rfl]
 rfl
theorem Kk (h : DD p b s) (hb : b ≤ 2305843009213693952) (he0 : 0 ≤ e.AG) (f : Dn p s e) (ht : BK e.Kind = true → Dv (Cf s e.Ring) (Al p s e.Thread) e = true) :
 DD p (b + 1) (Ah p s e) := by
 obtain ⟨hq, hn, hkp, hc⟩ := h.asked f.lt
 have hf := RJ f.re f.ft
 have hrg : BK e.Kind = true → 0 ≤ e.Ring ∧ e.Ring.toNat < p.AF.length ∧ _ := fun q => H8 h f (by rw [CT]; rw [BE] at q; omega)
 have hT : E3 (CL p e.Thread) (BX (gI (CL p e.Thread) (CZ (CL p e.Thread) (M9 s e.Thread)).1.At) (CZ (CL p e.Thread) (M9 s e.Thread)).1 e (if e.Kind = 4 then (BM (Cf s e.Ring) e.AG).Value else 0)) :=
  PZ f.re he0 hq hn hkp.st f.a0 hf
 refine ⟨h.pi, by simp [Ah, h.nt], ?_, ?_, ?_, ?_, ?_, ?_⟩
 · unfold Ah; simp only; split <;> simp [h.nr]
 · have := h.n0
   unfold Ah; simp only; split
   · omega
   · exact this
 · intro i c r hi hr
   unfold Ah at hr
   simp only at hr
   split at hr
   · rename_i q
     obtain ⟨r0, r1, r2⟩ := hrg q
     rcases FU hr (by rw [h.nr]; exact r1) with ⟨rfl, rfl⟩ | ⟨_, hr⟩
     · have := h.LM r1
       rw [PV r1] at hi
       cases hi
       exact Rm this.1 this.2 hb he0 r2 hf (ht q)
     · exact (h.ri i c r hi hr).mono (by omega)
   · exact (h.ri i c r hi hr).mono (by omega)
 · intro i l t hl hi
   rcases FU (by simpa [Ah] using hi) f.lt with ⟨rfl, rfl⟩ | ⟨_, hi⟩
   · rw [Jv h f.lt] at hl
     cases hl
     exact hT
   · exact h.ti i l t hl hi
 · intro i t hi hp
   rcases FU (by simpa [Ah] using hi) f.lt with ⟨rfl, rfl⟩ | ⟨_, hi⟩
   · by_cases he : e.Kind = 1
     · rw [bT1 _ he] at hp ⊢
       have q : BK e.Kind = true := by rw [BE]; omega
       have h1 := ht q
       show e.AG < (Cf (Ah p s e) e.Ring).A6
       rw [Gb h f q, (KJ _ _ _).2.1 he]
       simp only [Dv, he, if_true, Bool.and_eq_true, decide_eq_true_eq] at h1
       omega
     by_cases he3 : e.Kind = 3
     · rw [bT3 _ he3] at hp; simp at hp
     by_cases he14 : e.Kind = 14
     · rw [T6 _ he14] at hp
       have := hq.kh (.inl (hf.f14 he14))
       simp only at hp; omega
     by_cases he15 : e.Kind = 15
     · rw [T5 _ he15] at hp
       have := hq.kh (.inr (hf.f15 he15))
       simp only at hp; omega
     · rw [(bTe _ he he3 he14 he15).2.1] at hp; omega
   · have := h.p1 i t hi hp
     have := (K0 h f t.Ring).1
     omega
 · intro i l t hl hi hp
   rcases FU (by simpa [Ah] using hi) f.lt with ⟨rfl, rfl⟩ | ⟨_, hi⟩
   · rw [Jv h f.lt] at hl
     cases hl
     by_cases he : e.Kind = 1
     · rw [bT1 _ he] at hp; simp at hp
     by_cases he3 : e.Kind = 3
     · rw [bT3 _ he3] at hp ⊢
       have q : BK e.Kind = true := by rw [BE]; omega
       have h1 := ht q
       obtain ⟨r0, r1, r2⟩ := hrg q
       have hk2 := hq.k2 (hf.f3 he3)
       show e.AG < hd (Cf (Ah p s e) e.Ring) (gI (CL p e.Thread) (CZ (CL p e.Thread) (M9 s e.Thread)).1.At).K
       rw [Gb h f q, ← hk2.2.2.2.2]
       unfold Dv at h1
       rw [if_neg he, if_neg (by omega), if_pos he3] at h1
       simp only [Bool.and_eq_true, Bool.not_eq_true', decide_eq_true_eq] at h1
       have hR := (h.LM r1).1
       have hrd := r2 (.inl (hf.f3 he3))
       have hl := hR.rd
       have : Cn (Cf s e.Ring) (Al p s e.Thread) e = Fy (Cf s e.Ring) (Al p s e.Thread).Reader := by unfold Cn; rw [if_neg he, if_neg (by omega), if_pos he3]
       rw [this]
       have : hd (Fy (Cf s e.Ring) (Al p s e.Thread).Reader) (Al p s e.Thread).Reader = hd (Cf s e.Ring) (Al p s e.Thread).Reader + 1 := by
        unfold hd Fy
        rw [Fh (by omega)]
        rfl
       rw [this]
       have := h1.2
       omega
     by_cases he14 : e.Kind = 14
     · rw [T6 _ he14] at hp
       have := hq.kh (.inl (hf.f14 he14))
       simp only at hp; omega
     by_cases he15 : e.Kind = 15
     · rw [T5 _ he15] at hp
       have := hq.kh (.inr (hf.f15 he15))
       simp only at hp; omega
     · rw [(bTe _ he he3 he14 he15).2.1] at hp; omega
   · have := h.p2 i l t hl hi hp
     have := (K0 h f t.Ring).2 (gI l t.At).K
     omega
theorem DD.mono {b' : Int} (h : DD p b s) (k : b ≤ b') : DD p b' s := { h with ri := fun i c r hi hr => (h.ri i c r hi hr).mono k }
theorem Nu (hk : Iu s (Al p s e.Thread) e = true) (hr : Bu e = true) (q : BK e.Kind = true) : Dv (Cf s e.Ring) (Al p s e.Thread) e = true := by
 have h1 := (BE (k := e.Kind)).1 q
 unfold Iu at hk
 simp only at hk
 rw [if_neg (by omega), if_neg (by omega), if_neg (by omega), if_neg (by omega)] at hk
 split at hk
 · simp only [Bool.and_eq_true] at hk; exact hk.1
 · simpa [q] using hk
theorem Uk (h : DD p b s) (hb : b ≤ 2305843009213693952) (he0 : 0 ≤ e.AG) : DD p (b + 1) (Rd p s e).2 := by
 unfold Rd
 split
 · exact h.mono (by omega)
 split
 · exact h.mono (by omega)
 · rename_i h1 h2
   have f : Dn p s e := fitting (by omega)
   refine Kk h hb he0 f fun q => Nu (p := p) ?_ f.re q
   cases hm : BZ p s e
   · exact absurd hm h2
   · simp only [BZ, Bool.and_eq_true] at hm; exact hm.2
theorem Tq (h : EC p) : DD p 1 (Cr p) where
 pi := h
 nt := by simp [Cr]
 nr := by simp [Cr]
 n0 := Int.le_refl _
 ri i c r hi hr := by
  simp only [Cr, List.getElem?_map, hi, Option.map_some, Option.some.injEq] at hr
  subst hr
  exact Dt.new (h.rg c (List.mem_of_getElem? hi)) (by decide)
 ti i l t hl hi := by
  simp only [Cr, List.getElem?_map, hl, Option.map_some, Option.some.injEq] at hi
  subst hi
  exact ⟨by decide, by simp [zT], by decide, by decide, fun _ => ⟨rfl, rfl⟩, fun k => absurd rfl k⟩
 p1 i t hi hp := by
  simp only [Cr, List.getElem?_map, Option.map_eq_some_iff] at hi
  obtain ⟨_, _, rfl⟩ := hi
  simp [zT] at hp
 p2 i l t hl hi hp := by
  simp only [Cr, List.getElem?_map, Option.map_eq_some_iff] at hi
  obtain ⟨_, _, rfl⟩ := hi
  simp [zT] at hp
end
end
section
def CD (z : Int) : Prop := 0 ≤ z ∧ z < 18446744073709551616
theorem DN : CD 0 := by unfold CD; decide
def opB (op : Int) (x y : Nat) : Prop := op = 8 ∧ x + y = 2 ∨ op = 9 ∧ 0 < x + y ∨ op = 10 ∧ x + y = 1
instance (op : Int) (x y : Nat) : Decidable (opB op x y) := by unfold opB; infer_instance
def P1 (l : List Int) (n : Int) : Prop := n ∈ l ∧ ∀ x ∈ l, n ≤ x
theorem Nw {r : MR} {n : Int} (h : P1 r.Aj n) : Fz r = true ↔ Jh r ≤ r.A6 - n := by
 simp only [Fz, List.any_eq_true, decide_eq_true_eq]
 refine ⟨fun ⟨x, hx, hh⟩ => ?_, fun hh => ⟨n, h.1, hh⟩⟩
 have := h.2 x hx
 omega
theorem PE : ∀ (x : Fin 256) (j : Fin 8), E2 (x.val : Int) (j.val : Int) = true → Vm.bits .andNot IntKind.i64 (x.val : Int) (shl IntKind.i64 1 (j.val : Int)) = (x.val : Int) - 2 ^ j.val := by decide +kernel
end
section
section
variable {p : MP} {s : MS} {e : TEv}
theorem Dx (h : BZ p s e = true) : Dn p s e ∧ Ex p s e = 0 ∧ Iu s (Al p s e.Thread) e = true := by
 simp only [BZ, Bool.and_eq_true, decide_eq_true_eq] at h
 exact ⟨fitting h.1, h.1, h.2⟩
theorem K6 (h : BZ p s e = true) : Rd p s e = (0, Ah p s e) := by
 have := (Dx h).2.1
 unfold Rd
 rw [if_neg (by omega), if_neg (by rw [h]; simp)]
theorem US (h : BZ p s e = false) : (Rd p s e).1 ≠ 0 ∧ (Rd p s e).2 = s := by
 unfold Rd
 by_cases h0 : Ex p s e ≠ 0
 · rw [if_pos h0]; exact ⟨h0, rfl⟩
 · rw [if_neg h0, if_pos h]; exact ⟨by show (11 : Int) ≠ 0; decide, rfl⟩
end
end
section
section
variable {p : MP} {s : MS} {e : TEv}
theorem I9 (q : BK e.Kind = true) : DE e.Kind = true := by rw [CT]; rw [BE] at q; omega
theorem PY (hm : BZ p s e = true) : (Ah p s e).ED ≤ s.ED + 1048576 := by
 obtain ⟨f, _, hk⟩ := Dx hm
 show (if e.Kind = 8 then max s.ED e.Value else s.ED) ≤ _
 split
 · rename_i q
   unfold Iu at hk
   simp only at hk
   rw [if_neg (by omega), if_neg (by omega), if_pos q] at hk
   have := of_decide_eq_true hk
   omega
 · omega
end
end
section
def BW (p : MP) (m : MS) (tape : List Int) (pk ck dr : Int) (fire : Bool) : Option TEv :=
 let a := Al p m pk
 let r := Cf m a.Ring
 if a.Kind = 0 then none
 else if a.Kind = 1 ∨ a.Kind = 2 then
  (if Co r a = true then
    (if r.Bj = true then some ⟨pk, 6, a.Ring, 0, 0⟩ else if a.Mode = 0 then some ⟨pk, 5, a.Ring, 0, 0⟩ else if a.Mode = 2 ∧ fire = true then some ⟨pk, 7, a.Ring, 0, 0⟩ else none)
  else if a.Kind = 1 then some ⟨pk, 1, a.Ring, r.A6, 0⟩ else some ⟨pk, 3, a.Ring, hd r a.Reader, 0⟩)
 else if a.Kind = 3 then some ⟨pk, 13, a.Ring, r.A6, 0⟩
 else if a.Kind = 4 then some ⟨pk, 8, 0, 0, IntKind.u64.wrap (m.ED + ck % 1048576)⟩
 else if a.Kind = 5 then some ⟨pk, 9, 0, 0, dr⟩
 else if a.Kind = 6 then (if m.Bt = true ∨ (tape.length : Int) ≤ m.Reads then some ⟨pk, 11, 0, 0, 0⟩ else some ⟨pk, 10, 0, 0, tape.getD m.Reads.toNat 0⟩)
 else if a.Kind = 7 then some ⟨pk, 12, 0, 0, a.Value⟩
 else if a.Kind = 8 then some ⟨pk, 14, 0, 0, 0⟩
 else if a.Kind = 9 then some ⟨pk, 15, 0, 0, 0⟩
 else if a.Kind = 10 then some ⟨pk, 2, a.Ring, a.AG, 0⟩
 else some ⟨pk, 4, a.Ring, a.AG, 0⟩
def Ch (p : MP) (m : MS) (tape : List Int) (pk ck dr : Int) (fire : Bool) : Option TEv :=
 if pk < 0 ∨ (m.AB.length : Int) ≤ pk then none
 else match BW p m tape pk ck dr fire with
  | some e => if BZ p m e = true then some e else none
  | none => none
section
variable {p : MP} {b : Int} {m : MS}
theorem C5 (h : DD p b m) (hb : b ≤ 2305843009213693952) {pk : Int} (h0 : 0 ≤ pk) (h1 : pk < m.AB.length) (hk : (Al p m pk).Kind = 1 ∨ (Al p m pk).Kind = 2) {k t : Int}
 (hc : Co (Cf m (Al p m pk).Ring) (Al p m pk) = true → t = 0 ∧ ((Cf m (Al p m pk).Ring).Bj = true ∧ k = 6 ∨ (Cf m (Al p m pk).Ring).Bj = false ∧ ((Al p m pk).Mode = 0 ∧ k = 5 ∨ (Al p m pk).Mode = 2 ∧ k = 7)))
 (hn : Co (Cf m (Al p m pk).Ring) (Al p m pk) = false → ((Al p m pk).Kind = 1 ∧ k = 1 ∧ t = (Cf m (Al p m pk).Ring).A6 ∨ (Al p m pk).Kind = 2 ∧ k = 3 ∧ t = hd (Cf m (Al p m pk).Ring) (Al p m pk).Reader)) :
 BZ p m ⟨pk, k, (Al p m pk).Ring, t, 0⟩ = true := by
 have hlt : pk.toNat < m.AB.length := by omega
 have h8 : m.AB.length ≤ 8 := by rw [h.nt]; exact h.pi.t8
 have hr8 := h.pi.r8
 obtain ⟨r0, r1, r2⟩ := G4 h hlt rfl (by omega : (Al p m pk).Kind = 1 ∨ (Al p m pk).Kind = 2 ∨ (Al p m pk).Kind = 3 ∨ (Al p m pk).Kind = 10 ∨ (Al p m pk).Kind = 11)
 have hR := (h.LM r1).1
 have htb := hR.tb
 have ht0 := hR.t0
 generalize ha : Al p m pk = a at *
 have hkk : (1 ≤ k ∧ k ≤ 7) ∧ (k = 1 ∨ k = 3 ∨ k = 5 ∨ k = 6 ∨ k = 7) ∧ ((k = 1 → a.Kind = 1) ∧ (k = 3 → a.Kind = 2) ∧ (k = 5 → a.Mode = 0) ∧ (k = 7 → a.Mode = 2)) := by
  cases q : Co (Cf m a.Ring) a
  · have := hn q; omega
  · have := hc q; omega
 have hhd : a.Kind = 2 → 0 ≤ hd (Cf m a.Ring) a.Reader ∧ hd (Cf m a.Ring) a.Reader ≤ (Cf m a.Ring).A6 := fun q => by
  have := r2 (.inl q)
  have hl := hR.rd
  have := hR.h0 _ (List.mem_of_getElem? (D5 (d := 0) (show a.Reader.toNat < (Cf m a.Ring).Aj.length by omega)))
  unfold hd
  omega
 have ht : 0 ≤ t ∧ t < 4611686018427387904 ∧ (k ≠ 1 → k ≠ 3 → t = 0) := by
  cases q : Co (Cf m a.Ring) a
  · rcases hn q with ⟨q1, q2, q3⟩ | ⟨q1, q2, q3⟩
    · omega
    · have := hhd q1; omega
  · have := hc q; omega
 have hre : Bu ⟨pk, k, a.Ring, t, 0⟩ = true := by
  simp only [Bu, decide_eq_true_eq]
  refine ⟨by omega, by omega, by omega, by omega, .inl (CT.2 (by omega)), ?_, by simp⟩
  by_cases q : k = 1 ∨ k = 3
  · exact .inl (BE.2 (by omega))
  · exact .inr (ht.2.2 (by omega) (by omega))
 have hft : Cp a ⟨pk, k, a.Ring, t, 0⟩ = true := by
  simp only [Cp, Bool.and_eq_true]
  refine ⟨by simp, ?_⟩
  rcases hkk.2.1 with q | q | q | q | q
  · subst q; simp [Es, hkk.2.2.1 rfl]
  · subst q; simp [Es, hkk.2.2.2.1 rfl]
  · subst q; simp [hkk.2.2.2.2.1 rfl, hk]
  · subst q; simp [hk]
  · subst q; simp [hkk.2.2.2.2.2 rfl, hk]
 have hfit : Ex p m ⟨pk, k, a.Ring, t, 0⟩ = 0 := by
  rw [JK]
  exact ⟨hre, hlt, h0, by show (Al p m pk).Kind ≠ 0; rw [ha]; omega, by show Cp (Al p m pk) _ = true; rw [ha]; exact hft⟩
 unfold BZ
 rw [decide_eq_true hfit, Bool.true_and]
 show Iu m (Al p m pk) _ = true
 rw [ha]
 unfold Iu
 simp only
 cases q : Co (Cf m a.Ring) a
 · rcases hn q with ⟨q1, q2, q3⟩ | ⟨q1, q2, q3⟩
   · subst q2
     rw [if_neg (by omega), if_neg (by omega), if_neg (by omega), if_neg (by omega), if_pos rfl]
     unfold Co at q
     rw [if_pos q1] at q
     simp only [Bool.or_eq_false_iff] at q
     simp [Dv, q.1, q.2, q3]
   · subst q2
     rw [if_neg (by omega), if_neg (by omega), if_neg (by omega), if_neg (by omega), if_neg (by omega)]
     unfold Co at q
     rw [if_neg (by omega)] at q
     simp [Dv, q, q3]
 · obtain ⟨_, q2⟩ := hc q
   rcases q2 with ⟨c, q2⟩ | ⟨c, ⟨_, q2⟩ | ⟨_, q2⟩⟩
   · subst q2; rw [if_neg (by omega), if_pos rfl, c]; rfl
   · subst q2; rw [if_pos (by omega), c]; rfl
   · subst q2; rw [if_pos (by omega), c]; rfl
end
end
section
section
variable {p : MP} {b : Int} {m : MS}
theorem T7 (h : DD p b m) {t : Int} (k : t.toNat < m.AB.length) : 0 ≤ (Al p m t).Kind ∧ (Al p m t).Kind ≤ 11 := (h.asked k).1.top
theorem C9 {tape : List Int} {pk ck dr : Int} {fire : Bool} {e : TEv} (h : Ch p m tape pk ck dr fire = some e) : BZ p m e = true ∧ 0 ≤ pk ∧ pk < m.AB.length := by
 unfold Ch at h
 split at h
 · cases h
 rename_i q
 split at h
 · split at h
   · rename_i q2; cases h; exact ⟨q2, by omega, by omega⟩
   · cases h
 · cases h
theorem Qt (h : DD p b m) {e : TEv} (hm : BZ p m e = true) (hv : CD e.Value) {tape : List Int} {ck dr : Int}
 (h10 : e.Kind = 10 → m.Reads < tape.length ∧ tape.getD m.Reads.toNat 0 = e.Value) (h11 : e.Kind = 11 → m.Bt = true ∨ (tape.length : Int) ≤ m.Reads)
 (h8 : e.Kind = 8 → ck = IntKind.u64.wrap (e.Value - m.ED)) (h9 : e.Kind = 9 → dr = e.Value) : BW p m tape e.Thread ck dr (decide (e.Kind = 7)) = some e := by
 obtain ⟨f, _, hk⟩ := Dx hm
 have ff := RJ f.re f.ft
 have re := CW f.re
 have ft := f.ft
 have kr := CT (k := e.Kind)
 have kt := BE (k := e.Kind)
 obtain ⟨th, kd, rg, tk, vl⟩ := e
 simp only at *
 have kv : ET kd = true ↔ (8 ≤ kd ∧ kd ≤ 10 ∨ kd = 12) := by simp only [ET, decide_eq_true_eq]
 unfold Cp at ft
 unfold Iu Dv at hk
 simp only at ft hk
 unfold BW
 simp only
 have e0 : kd = 1 ∨ kd = 2 ∨ kd = 3 ∨ kd = 4 ∨ kd = 5 ∨ kd = 6 ∨ kd = 7 ∨ kd = 8 ∨ kd = 9 ∨ kd = 10 ∨ kd = 11 ∨ kd = 12 ∨ kd = 13 ∨ kd = 14 ∨ kd = 15 := by omega
 have hrg : (1 ≤ kd ∧ kd ≤ 7 ∨ kd = 13) → (Al p m th).Ring = rg := fun q => ff.rg (kr.2 q)
 have rg0 : ¬(1 ≤ kd ∧ kd ≤ 7 ∨ kd = 13) → rg = 0 := fun q => by rcases re.2.2.2.2.1 with c | c; exact absurd (kr.1 c) q; exact c
 have tk0 : ¬(1 ≤ kd ∧ kd ≤ 4 ∨ kd = 13) → tk = 0 := fun q => by rcases re.2.2.2.2.2.1 with c | c; exact absurd (kt.1 c) q; exact c
 have vl0 : ¬(8 ≤ kd ∧ kd ≤ 10 ∨ kd = 12) → vl = 0 := fun q => by rcases re.2.2.2.2.2.2 with c | c; exact absurd (kv.1 c) q; exact c
 have h1 := ff.f1; have h2 := ff.f2; have h3 := ff.f3; have h4 := ff.f4; have h5 := ff.f5; have h8' := ff.f8; have h9' := ff.f9; have h10' := ff.f10; have h12 := ff.f12; have h13 := ff.f13; have h14 := ff.f14; have h15 := ff.f15
 simp only at h1 h2 h3 h4 h5 h8' h9' h10' h12 h13 h14 h15
 clear ff re kr kt kv
 rcases e0 with q | q | q | q | q | q | q | q | q | q | q | q | q | q | q
 all_goals subst q
 · have a1 := h1 rfl; have a2 := hrg (by omega); have a3 := vl0 (by omega); clear h1 h2 h3 h4 h5 h8' h9' h10' h12 h13 h14 h15
   simp only [Int.reduceEq, or_self, if_false, if_true, Bool.and_eq_true, Bool.not_eq_true', decide_eq_true_eq, a2] at hk
   have : Co (Cf m rg) (Al p m th) = false := by unfold Co; rw [if_pos a1, hk.1.1, hk.2]; rfl
   rw [a2, if_neg (by omega), if_pos (.inl a1), if_neg (by rw [this]; simp), if_pos a1, hk.1.2, a3]
 · have a1 := h2 rfl; have a2 := hrg (by omega); have a3 := vl0 (by omega)
   simp [a1.1, a2, a1.2, a3]
 · have a1 := h3 rfl; have a2 := hrg (by omega); have a3 := vl0 (by omega); clear h1 h2 h3 h4 h5 h8' h9' h10' h12 h13 h14 h15
   simp [BK, a2] at hk
   have : Co (Cf m rg) (Al p m th) = false := by unfold Co; rw [if_neg (by omega)]; exact hk.1
   rw [a2, if_neg (by omega), if_pos (.inr a1), if_neg (by rw [this]; simp), if_neg (by omega), hk.2, a3]
 · have a1 := h4 rfl; have a2 := hrg (by omega); have a3 := vl0 (by omega)
   simp [a1.1, a2, a1.2, a3]
 · have a1 := h5 (by omega); have a2 := hrg (by omega); have a3 := vl0 (by omega); have a4 := tk0 (by omega)
   simp [a2] at hk
   simp at ft
   rw [a2, if_neg (by omega), if_pos a1, if_pos hk.1, if_neg (by rw [hk.2]; simp), if_pos ft.2.2, a3, a4]
 · have a1 := h5 (by omega); have a2 := hrg (by omega); have a3 := vl0 (by omega); have a4 := tk0 (by omega)
   simp [a2] at hk
   rw [a2, if_neg (by omega), if_pos a1, if_pos hk.1, if_pos hk.2, a3, a4]
 · have a1 := h5 (by omega); have a2 := hrg (by omega); have a3 := vl0 (by omega); have a4 := tk0 (by omega)
   simp [a2] at hk
   simp at ft
   rw [a2, if_neg (by omega), if_pos a1, if_pos hk.1, if_neg (by rw [hk.2]; simp), if_neg (by omega), if_pos ⟨ft.2.2, decide_eq_true rfl⟩, a3, a4]
 · have a1 := h8' rfl; have a2 := rg0 (by omega); have a4 := tk0 (by omega); have a5 := h8 rfl
   simp at hk
   have hn := h.n0
   have : IntKind.u64.wrap (m.ED + ck % 1048576) = vl := by
    unfold CD at hv
    rw [a5]
    simp only [IntKind.wrap, IntKind.signed, IntKind.bits, Bool.false_and, Bool.false_eq_true, if_false]
    omega
   simp [a1, this, a2, a4]
 · have a1 := h9' rfl; have a2 := rg0 (by omega); have a4 := tk0 (by omega); have a5 := h9 rfl
   simp [a1, a2, a4, a5]
 · have a1 := h10' (by omega); have a2 := rg0 (by omega); have a4 := tk0 (by omega); have a5 := h10 rfl
   simp at hk
   have : ¬(m.Bt = true ∨ (tape.length : Int) ≤ m.Reads) := by rw [hk]; simp; omega
   rw [if_neg (by omega), if_neg (by omega), if_neg (by omega), if_neg (by omega), if_neg (by omega), if_pos a1, if_neg this, a2, a4, a5.2]
 · have a1 := h10' (by omega); have a2 := rg0 (by omega); have a4 := tk0 (by omega); have a3 := vl0 (by omega); have a5 := h11 rfl
   rw [if_neg (by omega), if_neg (by omega), if_neg (by omega), if_neg (by omega), if_neg (by omega), if_pos a1, if_pos a5, a2, a4, a3]
 · have a1 := h12 rfl; have a2 := rg0 (by omega); have a4 := tk0 (by omega)
   simp [a1.1, a1.2, a2, a4]
 · have a1 := h13 rfl; have a2 := hrg (by omega); have a3 := vl0 (by omega)
   simp [BK, a2] at hk
   simp [a1, a2, a3, hk]
 · have a1 := h14 rfl; have a2 := rg0 (by omega); have a4 := tk0 (by omega); have a3 := vl0 (by omega)
   simp [a1, a2, a3, a4]
 · have a1 := h15 rfl; have a2 := rg0 (by omega); have a4 := tk0 (by omega); have a3 := vl0 (by omega)
   simp [a1, a2, a3, a4]
theorem O9 (h : DD p b m) {e : TEv} (hm : BZ p m e = true) (hv : CD e.Value) {tape : List Int} {ck dr : Int}
 (h10 : e.Kind = 10 → m.Reads < tape.length ∧ tape.getD m.Reads.toNat 0 = e.Value) (h11 : e.Kind = 11 → m.Bt = true ∨ (tape.length : Int) ≤ m.Reads)
 (h8 : e.Kind = 8 → ck = IntKind.u64.wrap (e.Value - m.ED)) (h9 : e.Kind = 9 → dr = e.Value) : Ch p m tape e.Thread ck dr (decide (e.Kind = 7)) = some e := by
 have f := (Dx hm).1
 have := f.lt
 have := f.th
 unfold Ch
 rw [if_neg (by omega), Qt h hm hv h10 h11 h8 h9]
 simp only [hm, if_true]
theorem HO (h : DD p b m) {pk k v : Int} (h0 : 0 ≤ pk) (h1 : pk < m.AB.length) (hk : (Al p m pk).Kind = 4 ∧ k = 8 ∧ m.ED ≤ v ∧ v - m.ED < 1048576 ∨ (Al p m pk).Kind = 5 ∧ k = 9) :
 BZ p m ⟨pk, k, 0, 0, v⟩ = true := by
 have h8 : m.AB.length ≤ 8 := by rw [h.nt]; exact h.pi.t8
 have hfit : Ex p m ⟨pk, k, 0, 0, v⟩ = 0 := by
  rw [JK]
  refine ⟨?_, by show pk.toNat < _; omega, h0, by show (Al p m pk).Kind ≠ 0; omega, ?_⟩
  · simp only [Bu, decide_eq_true_eq]
    refine ⟨by omega, by omega, by omega, by omega, by simp, by simp, .inl ?_⟩
    simp only [ET, decide_eq_true_eq]; omega
  · show Cp (Al p m pk) _ = true
    rcases hk with q | q
    · simp [Cp, q.2.1, DE, Es, q.1]
    · simp [Cp, q.2, DE, Es, q.1]
 unfold BZ
 rw [decide_eq_true hfit, Bool.true_and]
 show Iu m (Al p m pk) _ = true
 rcases hk with q | q
 · simp [Iu, q.2.1]; omega
 · simp [Iu, q.2, BK]
theorem UG (h : DD p b m) (hb : b ≤ 2305843009213693952) (hn : m.ED < 18446744073709551616) (hs : ∀ t : Int, 0 ≤ t → t < m.AB.length → Ch p m [] t 0 0 true = none) (pk ck dr : Int) (fire : Bool) :
 Ch p m [] pk ck dr fire = none := by
 by_cases q : pk < 0 ∨ (m.AB.length : Int) ≤ pk
 · unfold Ch; rw [if_pos q]
 have h0 : 0 ≤ pk := by omega
 have h1 : pk < m.AB.length := by omega
 have hs := hs pk h0 h1
 unfold Ch at hs ⊢
 rw [if_neg q] at hs ⊢
 have n4 : (Al p m pk).Kind ≠ 4 := fun k => by
  have hn0 := h.n0
  have e1 : BW p m [] pk 0 0 true = some ⟨pk, 8, 0, 0, m.ED⟩ := by
   have : IntKind.u64.wrap (m.ED + 0 % 1048576) = m.ED := by
    simp only [IntKind.wrap, IntKind.signed, IntKind.bits, Bool.false_and, Bool.false_eq_true, if_false]; omega
   unfold BW; simp only; rw [if_neg (by omega), if_neg (by omega), if_neg (by omega), if_pos k, this]
  rw [e1] at hs
  simp only [HO h h0 h1 (.inl ⟨k, rfl, Int.le_refl _, by omega⟩), if_true] at hs
  cases hs
 have n5 : (Al p m pk).Kind ≠ 5 := fun k => by
  have e1 : BW p m [] pk 0 0 true = some ⟨pk, 9, 0, 0, 0⟩ := by
   unfold BW; simp only; rw [if_neg (by omega), if_neg (by omega), if_neg (by omega), if_neg (by omega), if_pos k]
  rw [e1] at hs
  simp only [HO h h0 h1 (.inr ⟨k, rfl⟩), if_true] at hs
  cases hs
 by_cases k : (Al p m pk).Kind = 1 ∨ (Al p m pk).Kind = 2
 · by_cases hno : Co (Cf m (Al p m pk).Ring) (Al p m pk) = true
   · by_cases hc : (Cf m (Al p m pk).Ring).Bj = true
     · have e1 : ∀ x y z, BW p m [] pk x y z = some ⟨pk, 6, (Al p m pk).Ring, 0, 0⟩ := fun x y z => by
        unfold BW; simp only; rw [if_neg (by omega), if_pos k, if_pos hno, if_pos hc]
       rw [e1] at hs ⊢; exact hs
     · by_cases h2 : (Al p m pk).Mode = 0
       · have e1 : ∀ x y z, BW p m [] pk x y z = some ⟨pk, 5, (Al p m pk).Ring, 0, 0⟩ := fun x y z => by
          unfold BW; simp only; rw [if_neg (by omega), if_pos k, if_pos hno, if_neg hc, if_pos h2]
         rw [e1] at hs ⊢; exact hs
       · by_cases h3 : (Al p m pk).Mode = 2
         · have e1 : BW p m [] pk 0 0 true = some ⟨pk, 7, (Al p m pk).Ring, 0, 0⟩ := by
            unfold BW; simp only; rw [if_neg (by omega), if_pos k, if_pos hno, if_neg hc, if_neg h2, if_pos ⟨h3, by simp⟩]
           rw [e1] at hs
           have := C5 h hb h0 h1 k (k := 7) (t := 0) (fun _ => ⟨rfl, .inr ⟨by simpa using hc, .inr ⟨h3, rfl⟩⟩⟩) (fun q => by rw [hno] at q; cases q)
           simp only [this, if_true] at hs
           cases hs
         · have e1 : ∀ x y z, BW p m [] pk x y z = none := fun x y z => by
            unfold BW; simp only; rw [if_neg (by omega), if_pos k, if_pos hno, if_neg hc, if_neg h2, if_neg (fun q => h3 q.1)]
           rw [e1]
   · have e1 : ∀ x y z, BW p m [] pk x y z = BW p m [] pk 0 0 true := fun x y z => by
      unfold BW; simp only; simp only [if_neg hno, if_pos k]
     rw [e1]; exact hs
 · have e1 : BW p m [] pk ck dr fire = BW p m [] pk 0 0 true := by
    unfold BW; simp only
    simp only [if_neg k, if_neg n4, if_neg n5]
   rw [e1]; exact hs
end
end
section
structure EN where
 Bz : Int
 Df : Int
 GY : Int
 G6 : Bool
structure WR where
 Ev : List TEv
 St : MS
 Idle : Int
 Ck : Int
def H2 (m : MS) (pk : Int) : Bool := decide (pk < 0 ∨ (m.AB.length : Int) ≤ pk ∨ (M9 m pk).Status ≠ 0)
def JZ (p : MP) (tape : List Int) (m : MS) (x : EN) : Option TEv := Ch p m tape x.Bz x.Df x.GY x.G6
def Bm (p : MP) (tape : List Int) (r : WR) (x : EN) : WR :=
 match JZ p tape r.St x with
 | some e => { r with Ev := r.Ev ++ [e], St := Ah p r.St e }
 | none => if H2 r.St x.Bz = true then { r with Idle := r.Idle + 1 } else { r with Ck := r.Ck + 1 }
def BP (p : MP) (tape : List Int) (l : List EN) (r : WR) : WR := l.foldl (Bm p tape) r
def IW (m : MS) : WR := ⟨[], m, 0, 0⟩
def Iv (p : MP) : List TEv → MS → Option MS
 | [], m => some m
 | e :: l, m => if BZ p m e = true then Iv p l (Ah p m e) else none
def mEn (m : MS) (e : TEv) : EN := ⟨e.Thread, if e.Kind = 8 then IntKind.u64.wrap (e.Value - m.ED) else 0, if e.Kind = 9 then e.Value else 0, decide (e.Kind = 7)⟩
def Tk (p : MP) : List TEv → MS → List EN
 | [], _ => []
 | e :: l, m => mEn m e :: Tk p l (Ah p m e)
def Gw (l : List TEv) : List Int := (l.filter fun e => decide (e.Kind = 10)).map (·.Value)
section
variable {p : MP} {b : Int} {m : MS} {tape : List Int}
theorem Ol (r : WR) (x : EN) : ((Bm p tape r x).Ev.length : Int) + (Bm p tape r x).Idle + (Bm p tape r x).Ck = r.Ev.length + r.Idle + r.Ck + 1 := by
 unfold Bm
 split
 · simp only [List.length_append, List.length_singleton]; omega
 · split <;> simp only <;> omega
theorem Ih (l : List EN) : ∀ r : WR, ((BP p tape l r).Ev.length : Int) + (BP p tape l r).Idle + (BP p tape l r).Ck = r.Ev.length + r.Idle + r.Ck + l.length := by
 induction l with
 | nil => intro r; simp [BP]
 | cons x l ih =>
   intro r
   have := ih (Bm p tape r x)
   have := Ol (p := p) (tape := tape) r x
   show ((BP p tape l (Bm p tape r x)).Ev.length : Int) + (BP p tape l (Bm p tape r x)).Idle + (BP p tape l (Bm p tape r x)).Ck = _
   simp only [List.length_cons]
   omega
theorem all_append (a c : List TEv) : ∀ m, Iv p (a ++ c) m = (Iv p a m).bind (Iv p c) := by
 induction a with
 | nil => intro m; rfl
 | cons e a ih =>
   intro m
   show (if _ then _ else _) = (if _ then _ else _ : Option MS).bind _
   split
   · exact ih _
   · rfl
theorem Rt (r : WR) (x : EN) {m0 : MS} (h : Iv p r.Ev m0 = some r.St) : Iv p (Bm p tape r x).Ev m0 = some (Bm p tape r x).St := by
 unfold Bm
 split
 · rename_i e he
   simp only
   rw [all_append, h]
   have := (C9 he).1
   simp only [Option.bind_some, Iv, this, if_true]
 · split <;> exact h
theorem run_all (l : List EN) : ∀ (r : WR) {m0 : MS}, Iv p r.Ev m0 = some r.St → Iv p (BP p tape l r).Ev m0 = some (BP p tape l r).St := by
 induction l with
 | nil => intro r m0 h; exact h
 | cons x l ih => intro r m0 h; exact ih _ (Rt r x h)
theorem Oy (l : List EN) : ∀ r : WR, ∃ t, (BP p tape l r).Ev = r.Ev ++ t := by
 induction l with
 | nil => intro r; exact ⟨[], by simp [BP]⟩
 | cons x l ih =>
   intro r
   obtain ⟨t, ht⟩ := ih (Bm p tape r x)
   have : ∃ t, (Bm p tape r x).Ev = r.Ev ++ t := by
    unfold Bm
    split
    · exact ⟨_, rfl⟩
    · split <;> exact ⟨[], by simp⟩
   obtain ⟨t', ht'⟩ := this
   exact ⟨t' ++ t, by show (BP p tape l (Bm p tape r x)).Ev = _; rw [ht, ht', List.append_assoc]⟩
theorem OH {e : TEv} (h : m.Bt = true) : (Ah p m e).Bt = true := by
 show (if e.Kind = 11 then true else m.Bt) = true
 split
 · rfl
 · exact h
theorem SH (l : List TEv) : ∀ {m m' : MS}, Iv p l m = some m' → m.Bt = true → Gw l = [] := by
 induction l with
 | nil => intros; rfl
 | cons e l ih =>
   intro m m' h he
   simp only [Iv] at h
   split at h
   · rename_i q
     have hk : e.Kind ≠ 10 := fun k => by
      have := (Dx q).2.2
      simp [Iu, k, he] at this
     have := ih h (OH he)
     unfold Gw at *
     rw [List.filter_cons_of_neg (by simp [hk])]
     exact this
   · cases h
theorem U1 (l : List TEv) : ∀ {b : Int} {m m' : MS} (pre : List Int) (r : WR), DD p b m → b + l.length ≤ 2305843009213693952 → (∀ e ∈ l, CD e.Value ∧ CD e.AG) → Iv p l m = some m' → r.St = m →
 m.Reads = pre.length → pre.length + l.length < 18446744073709551616 → BP p (pre ++ Gw l) (Tk p l m) r = { r with Ev := r.Ev ++ l, St := m' } := by
 induction l with
 | nil => intro b m m' pre r _ _ _ h hr _ _; cases h; subst hr; simp [BP, Tk]
 | cons e l ih =>
   intro b m m' pre r hI hb hv h hr hrd hlt
   subst hr
   simp only [Iv] at h
   split at h
   · rename_i q
     have hve := hv e (List.mem_cons_self ..)
     have ht : Gw (e :: l) = if e.Kind = 10 then e.Value :: Gw l else Gw l := by
      unfold Gw
      split
      · rename_i k; rw [List.filter_cons_of_pos (by simp [k])]; rfl
      · rename_i k; rw [List.filter_cons_of_neg (by simp [k])]
     have hoff : JZ p (pre ++ Gw (e :: l)) r.St (mEn r.St e) = some e := by
      refine O9 hI q hve.1 (fun k => ?_) (fun k => ?_) (fun k => by show (if e.Kind = 8 then _ else _ : Int) = _; rw [if_pos k]) fun k => by show (if e.Kind = 9 then _ else _ : Int) = _; rw [if_pos k]
      · rw [ht, if_pos k, hrd]
        refine ⟨by simp only [List.length_append, List.length_cons]; omega, ?_⟩
        rw [Int.toNat_natCast]
        simp [List.getD]
      · by_cases he : r.St.Bt = true
        · exact .inl he
        · have : (Ah p r.St e).Bt = true := by show (if e.Kind = 11 then true else _) = true; rw [if_pos k]
          have := SH l h this
          rw [ht, if_neg (by omega), this, List.append_nil, hrd]
          exact .inr (Int.le_refl _)
     have hst : Bm p (pre ++ Gw (e :: l)) r (mEn r.St e) = { r with Ev := r.Ev ++ [e], St := Ah p r.St e } := by unfold Bm; rw [hoff]
     show BP p _ (Tk p l (Ah p r.St e)) (Bm p _ r (mEn r.St e)) = _
     rw [hst]
     have hd : (Rd p r.St e).2 = Ah p r.St e := by rw [K6 q]
     have hI2 : DD p (b + 1) (Ah p r.St e) := by
      rw [← hd]; exact Uk hI (by simp only [List.length_cons] at hb; omega) hve.2.1
     simp only [List.length_cons] at hb hlt
     have hrd2 : (Ah p r.St e).Reads = if e.Kind = 10 then (pre.length : Int) + 1 else pre.length := by
      show (if e.Kind = 10 then IntKind.u64.wrap (r.St.Reads + 1) else r.St.Reads) = _
      rw [hrd]
      split
      · simp only [IntKind.wrap, IntKind.signed, IntKind.bits, Bool.false_and, Bool.false_eq_true, if_false]; omega
      · rfl
     have e1 : pre ++ Gw (e :: l) = (if e.Kind = 10 then pre ++ [e.Value] else pre) ++ Gw l := by rw [ht]; split <;> simp
     rw [e1]
     rw [ih (b := b + 1) (m := Ah p r.St e) (m' := m') (if e.Kind = 10 then pre ++ [e.Value] else pre) _ hI2 (by omega) (fun x hx => hv x (List.mem_cons_of_mem _ hx)) h rfl (by rw [hrd2]; split <;> simp) (by split <;> (try rw [List.length_append, List.length_singleton]) <;> omega)]
     simp
   · cases h
end
section
variable {p : MP} {b : Int} {m : MS} {tape : List Int}
theorem OJ (h : DD p b m) (hb : b ≤ 2305843009213693952) {pk ck dr : Int} {fire : Bool} {e : TEv} (ha : CD (Al p m pk).Value) (hdr : CD dr) (ht : ∀ x ∈ tape, CD x)
 (h0 : 0 ≤ pk) (h1 : pk < m.AB.length) (hc : BW p m tape pk ck dr fire = some e) : CD e.AG ∧ CD e.Value := by
 have hlt : pk.toNat < m.AB.length := by omega
 obtain ⟨hq, hn, _, _⟩ := h.asked hlt
 have hr := fun k => G4 h hlt rfl k
 unfold BW at hc
 simp only at hc
 have z : CD 0 := DN
 have htail : (Al p m pk).Kind = 1 ∨ (Al p m pk).Kind = 2 ∨ (Al p m pk).Kind = 3 → CD (Cf m (Al p m pk).Ring).A6 := fun k => by
  obtain ⟨r0, r1, _⟩ := hr (by omega)
  have hR := (h.LM r1).1
  have := hR.t0; have := hR.tb
  unfold CD; omega
 have hhd : (Al p m pk).Kind = 2 → CD (hd (Cf m (Al p m pk).Ring) (Al p m pk).Reader) := fun k => by
  obtain ⟨r0, r1, r2⟩ := hr (by omega)
  have hR := (h.LM r1).1
  have := hR.rd; have := hR.tb
  have := r2 (.inl k)
  have := hR.h0 _ (List.mem_of_getElem? (D5 (d := 0) (show (Al p m pk).Reader.toNat < (Cf m (Al p m pk).Ring).Aj.length by omega)))
  unfold CD hd; omega
 have htk : (Al p m pk).Kind = 10 ∨ (Al p m pk).Kind = 11 → CD (Al p m pk).AG := fun k => by
  rcases k with k | k
  · have a := hq.kp k
    have := hn.p1 (by omega)
    unfold CD; omega
  · have a := hq.kr k
    have := hn.p1 (by omega)
    unfold CD; omega
 have hw : CD (IntKind.u64.wrap (m.ED + ck % 1048576)) := by
  simp only [CD, IntKind.wrap, IntKind.signed, IntKind.bits, Bool.false_and, Bool.false_eq_true, if_false]; omega
 have hg : CD (tape.getD m.Reads.toNat 0) := by
  rw [List.getD_eq_getElem?_getD]
  cases q : tape[m.Reads.toNat]? with
  | none => exact z
  | some x => exact ht x (List.mem_of_getElem? q)
 have htop := hq.top
 clear hq hn hr h
 generalize Al p m pk = a at *
 generalize Cf m a.Ring = r at *
 generalize IntKind.u64.wrap (m.ED + ck % 1048576) = w at *
 generalize tape.getD m.Reads.toNat 0 = g at *
 generalize hd r a.Reader = q at *
 split at hc
 · cases hc
 split at hc
 · split at hc
   · (repeat' split at hc) <;> cases hc <;> exact ⟨z, z⟩
   · split at hc <;> cases hc
     · exact ⟨htail (by omega), z⟩
     · exact ⟨hhd (by omega), z⟩
 split at hc
 · cases hc; exact ⟨htail (by omega), z⟩
 split at hc
 · cases hc; exact ⟨z, hw⟩
 split at hc
 · cases hc; exact ⟨z, hdr⟩
 split at hc
 · split at hc <;> cases hc
   · exact ⟨z, z⟩
   · exact ⟨z, hg⟩
 split at hc
 · cases hc; exact ⟨z, ha⟩
 split at hc
 · cases hc; exact ⟨z, z⟩
 split at hc
 · cases hc; exact ⟨z, z⟩
 split at hc
 · cases hc; exact ⟨htk (by omega), z⟩
 · cases hc; exact ⟨htk (by omega), z⟩
theorem Li (h : DD p b m) (hb : b ≤ 2305843009213693952) {pk ck dr : Int} {fire : Bool} {e : TEv} (ha : CD (Al p m pk).Value) (hdr : CD dr) (ht : ∀ x ∈ tape, CD x)
 (ho : Ch p m tape pk ck dr fire = some e) : CD e.AG ∧ CD e.Value := by
 obtain ⟨_, h0, h1⟩ := C9 ho
 have hc : BW p m tape pk ck dr fire = some e := by
  unfold Ch at ho
  rw [if_neg (by omega)] at ho
  split at ho
  · rename_i q
    split at ho
    · cases ho; exact q
    · cases ho
  · cases ho
 exact OJ h hb ha hdr ht h0 h1 hc
theorem S2 {t : Int} (hk : (Al p m t).Kind = 1) : (Al p m t).Reader = 0 := by
 unfold Al CZ at *
 split at hk <;> rename_i q1
 · simp [zA] at hk
 rw [if_neg q1]
 split at hk <;> rename_i q2
 · simp at hk
 rw [if_neg q2]
 split at hk <;> rename_i q3
 · simp at hk
 rw [if_neg q3]
 simp only
 unfold Gy at *
 revert hk
 simp only
 (repeat' split) <;> simp [zA]
theorem Kx {pk ck dr : Int} {fire : Bool} (hk : (Al p m pk).Kind = 1 ∨ (Al p m pk).Kind = 2) : BW p m tape pk ck dr fire =
 if Co (Cf m (Al p m pk).Ring) (Al p m pk) = true then
  (if (Cf m (Al p m pk).Ring).Bj = true then some ⟨pk, 6, (Al p m pk).Ring, 0, 0⟩ else if (Al p m pk).Mode = 0 then some ⟨pk, 5, (Al p m pk).Ring, 0, 0⟩ else if (Al p m pk).Mode = 2 ∧ fire = true then some ⟨pk, 7, (Al p m pk).Ring, 0, 0⟩ else none)
 else if (Al p m pk).Kind = 1 then some ⟨pk, 1, (Al p m pk).Ring, (Cf m (Al p m pk).Ring).A6, 0⟩ else some ⟨pk, 3, (Al p m pk).Ring, hd (Cf m (Al p m pk).Ring) (Al p m pk).Reader, 0⟩ := by
 unfold BW
 simp only
 rw [if_neg (by omega), if_pos hk]
theorem NQ (h : DD p b m) (hb : b ≤ 2305843009213693952) {pk ck dr : Int} {fire : Bool} (h0 : 0 ≤ pk) (h1 : pk < m.AB.length) (hk : (Al p m pk).Kind = 1 ∨ (Al p m pk).Kind = 2) : Ch p m tape pk ck dr fire = BW p m tape pk ck dr fire := by
 unfold Ch
 rw [if_neg (by omega)]
 have key : ∀ e, BW p m tape pk ck dr fire = some e → BZ p m e = true := by
  intro e he
  rw [Kx hk] at he
  split at he <;> rename_i q1
  · split at he <;> rename_i q2
    · cases he; exact C5 h hb h0 h1 hk (fun _ => ⟨rfl, .inl ⟨q2, rfl⟩⟩) fun q => by rw [q] at q1; cases q1
    · have q2 : (Cf m (Al p m pk).Ring).Bj = false := by simpa using q2
      split at he <;> rename_i q3
      · cases he; exact C5 h hb h0 h1 hk (fun _ => ⟨rfl, .inr ⟨q2, .inl ⟨q3, rfl⟩⟩⟩) fun q => by rw [q] at q1; cases q1
      · split at he <;> rename_i q4
        · cases he; exact C5 h hb h0 h1 hk (fun _ => ⟨rfl, .inr ⟨q2, .inr ⟨q4.1, rfl⟩⟩⟩) fun q => by rw [q] at q1; cases q1
        · cases he
  · split at he <;> rename_i q2 <;> cases he
    · exact C5 h hb h0 h1 hk (fun q => absurd q q1) fun _ => .inl ⟨q2, rfl, rfl⟩
    · exact C5 h hb h0 h1 hk (fun q => absurd q q1) fun _ => .inr ⟨by omega, rfl, rfl⟩
 cases hc : BW p m tape pk ck dr fire with
 | none => rfl
 | some e => simp only [key e hc, if_true]
end
end
end Go.Proofs.YtiamaibincaihaaGreat
