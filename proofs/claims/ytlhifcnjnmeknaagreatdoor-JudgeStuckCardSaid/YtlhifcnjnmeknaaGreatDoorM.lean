/- Of what a fabric is, plainly: no statement is proved here. -/
import Derived.Test.YtlhifcnjnmeknaaGreatDoorVmC
namespace Go.Proofs.YtlhifcnjnmeknaaGreatDoor
open Go Go.Vm
section
structure TIn where
 Op : Int
 A : Int
 B : Int
 C : Int
 D : Int
 K : Int
structure TRg where
 Kind : Int
 Cf : Int
 AQ : Int
structure TEv where
 Thread : Int
 Kind : Int
 Ring : Int
 AG : Int
 Value : Int
structure TSo where
 AO : Int
 Value : Int
 Left : Int
end
section
structure MT where
 At : Int
 Phase : Int
 Ring : Int
 Status : Int
 AG : Int
 Af : Nat → Int
 Seen : List Int
structure MR where
 Au : Int
 AY : List Int
 Aw : Bool
 Am : List TSo
structure MS where
 AB : List MT
 AJ : List MR
 Gz : Int
 Reads : Int
 CB : Bool
structure MP where
 AJ : List TRg
 AB : List (List TIn)
structure MA where
 Kind : Int
 Ring : Int
 Mode : Int
 Reader : Int
 AG : Int
 Value : Int
def zI : TIn := ⟨0, 0, 0, 0, 0, 0⟩
def zS : TSo := ⟨0, 0, 0⟩
def zA : MA := ⟨0, 0, 0, 0, 0, 0⟩
def zT : MT := ⟨0, 0, 0, 0, 0, fun _ => 0, []⟩
def zR : MR := ⟨0, [], false, []⟩
def gI (l : List TIn) (n : Int) : TIn := l.getD n.toNat zI
def DU (g : Nat → Int) (i v : Int) : Nat → Int := fun k => if k = i.toNat then v else g k
def JN (op a b : Int) : Int :=
 if op = 3 then IntKind.u64.wrap (a + b)
 else if op = 4 then IntKind.u64.wrap (a - b)
 else if op = 5 then IntKind.u64.wrap (a * b)
 else if op = 6 then (if b = 0 then 0 else a / b)
 else if op = 7 then (if b = 0 then 0 else a % b)
 else if op = 8 then ((a.toNat &&& b.toNat : Nat) : Int)
 else if op = 9 then ((a.toNat ||| b.toNat : Nat) : Int)
 else if op = 10 then ((a.toNat ^^^ b.toNat : Nat) : Int)
 else if op = 11 then IntKind.u64.wrap (a * 2 ^ (b % 64).toNat)
 else if op = 12 then a / 2 ^ (b % 64).toNat
 else if op = 13 then (if a < b then 1 else 0)
 else (if a = b then 1 else 0)
def DW (i : TIn) (t : MT) : MT :=
 if i.Op = 1 then { t with At := t.At + 1, Af := DU t.Af i.A i.K }
 else if i.Op = 2 then { t with At := t.At + 1, Af := DU t.Af i.A (t.Af i.B.toNat) }
 else if i.Op = 15 ∨ (i.Op = 16 ∧ t.Af i.A.toNat = 0) ∨ (i.Op = 17 ∧ t.Af i.A.toNat ≠ 0) then { t with At := i.K }
 else if i.Op < 15 then { t with At := t.At + 1, Af := DU t.Af i.A (JN i.Op (t.Af i.B.toNat) (t.Af i.C.toNat)) }
 else { t with At := t.At + 1 }
def Dc (l : List TIn) : Nat → MT → MT
 | 0, t => t
 | n + 1, t => if t.At < l.length ∧ (gI l t.At).Op ≤ 17 then Dc l n (DW (gI l t.At) t) else t
def Ek (l : List TIn) (t : MT) : MA :=
 let i := gI l t.At
 if t.At = l.length then { zA with Kind := 8 }
 else if i.Op ≤ 17 then { zA with Kind := 9 }
 else if i.Op = 18 then ⟨1, i.C, i.D, 0, 0, t.Af i.A.toNat⟩
 else if i.Op = 19 then ⟨2, i.C, i.D, i.K, 0, 0⟩
 else if i.Op = 20 then ⟨3, i.C, 0, 0, 0, 0⟩
 else if i.Op = 21 then { zA with Kind := 4 }
 else if i.Op = 22 then { zA with Kind := 5 }
 else if i.Op = 23 then { zA with Kind := 6 }
 else if i.Op = 24 then { zA with Kind := 7, Value := t.Af i.A.toNat }
 else { zA with Kind := 8 }
def B0 (l : List TIn) (t : MT) : MT × MA :=
 if t.Status ≠ 0 then (t, zA)
 else if t.Phase = 1 then (t, ⟨10, t.Ring, 0, 0, t.AG, t.Af (gI l t.At).A.toNat⟩)
 else if t.Phase = 2 then (t, ⟨11, t.Ring, 0, (gI l t.At).K, t.AG, 0⟩)
 else (Dc l 256 t, Ek l (Dc l 256 t))
def As (k : Int) : Bool := decide (1 ≤ k ∧ k ≤ 4 ∨ k = 13)
def B1 (k : Int) : Bool := decide (1 ≤ k ∧ k ≤ 7 ∨ k = 13)
def CR (k : Int) : Bool := decide (8 ≤ k ∧ k ≤ 10 ∨ k = 12)
def Ba (e : TEv) : Bool :=
 decide ((1 ≤ e.Kind ∧ e.Kind ≤ 15) ∧ (0 ≤ e.Thread ∧ e.Thread ≤ 7) ∧ (0 ≤ e.Ring ∧ e.Ring ≤ 7) ∧ e.AG < 4611686018427387904 ∧
  (B1 e.Kind = true ∨ e.Ring = 0) ∧ (As e.Kind = true ∨ e.AG = 0) ∧ (CR e.Kind = true ∨ e.Value = 0))
def Ei (k : Int) : Int :=
 if k = 1 then 1 else if k = 2 then 10 else if k = 3 then 2 else if k = 4 then 11 else if k = 8 then 4 else if k = 9 then 5 else if k = 10 then 6 else if k = 11 then 6
 else if k = 12 then 7 else if k = 13 then 3 else if k = 14 then 8 else 9
def Cd (a : MA) (e : TEv) : Bool :=
 (!B1 e.Kind || decide (a.Ring = e.Ring)) &&
 (if e.Kind = 5 then decide ((a.Kind = 1 ∨ a.Kind = 2) ∧ a.Mode = 0)
  else if e.Kind = 6 then decide (a.Kind = 1 ∨ a.Kind = 2)
  else if e.Kind = 7 then decide ((a.Kind = 1 ∨ a.Kind = 2) ∧ a.Mode = 2)
  else if e.Kind = 2 ∨ e.Kind = 4 then decide (a.Kind = Ei e.Kind ∧ a.AG = e.AG)
  else if e.Kind = 12 then decide (a.Kind = 7 ∧ a.Value = e.Value)
  else decide (a.Kind = Ei e.Kind))
def BG (i : TIn) (t : MT) (e : TEv) (v : Int) : MT :=
 if e.Kind = 1 then { t with Phase := 1, Ring := e.Ring, AG := e.AG }
 else if e.Kind = 3 then { t with Phase := 2, Ring := e.Ring, AG := e.AG }
 else if e.Kind = 14 then { t with Status := 1 }
 else if e.Kind = 15 then { t with Status := 2 }
 else
  let g :=
   if e.Kind = 2 then DU t.Af i.B 0
   else if e.Kind = 4 then DU (DU t.Af i.A v) i.B 0
   else if e.Kind = 5 then DU t.Af i.B 1
   else if e.Kind = 6 then DU t.Af i.B 2
   else if e.Kind = 7 then DU t.Af i.B 3
   else if e.Kind = 8 then DU t.Af i.A e.Value
   else if e.Kind = 9 then DU t.Af i.A e.Value
   else if e.Kind = 10 then DU (DU t.Af i.A e.Value) i.B 0
   else if e.Kind = 11 then DU t.Af i.B 1
   else t.Af
  { t with Af := g, Seen := if e.Kind = 12 then t.Seen ++ [e.Value] else t.Seen, Phase := 0, Ring := 0, AG := 0, At := t.At + 1 }
def hd (r : MR) (j : Int) : Int := r.AY.getD j.toNat 0
def HO (r : MR) : Int := r.Am.length
def Dt (r : MR) : Bool := r.AY.any fun h => decide (HO r ≤ r.Au - h)
def DX (r : MR) (j : Int) : Bool := decide (hd r j = r.Au)
def GD (r : MR) (t : Int) : Nat := (t % HO r).toNat
def Av (r : MR) (t : Int) : TSo := r.Am.getD (GD r t) zS
def C9 (x : Int) (j : Int) : Bool := decide (x / 2 ^ j.toNat % 2 = 1)
def GV (r : MR) (t : Int) : Bool := decide (t < r.Au ∧ (Av r t).AO = 2 * t)
def KE (r : MR) (j t : Int) : Bool := decide (t < hd r j ∧ (Av r t).AO = 2 * t + 1 ∧ C9 (Av r t).Left j = true)
def DA (r : MR) (a : MA) (e : TEv) : Bool :=
 if e.Kind = 1 then !Dt r && decide (e.AG = r.Au)
 else if e.Kind = 2 then GV r e.AG
 else if e.Kind = 3 then !DX r a.Reader && decide (e.AG = hd r a.Reader)
 else if e.Kind = 4 then KE r a.Reader e.AG
 else decide (e.AG = r.Au)
def NM (r : MR) (t v : Int) : MR := { r with Am := r.Am.set (GD r t) ⟨2 * t + 1, v, 2 ^ r.AY.length - 1⟩ }
def Ej (r : MR) (j : Int) : MR := { r with AY := r.AY.set j.toNat (hd r j + 1) }
def KF (x : TSo) (j t c : Int) : TSo := if x.Left - 2 ^ j.toNat = 0 then ⟨2 * (t + c), 0, 0⟩ else { x with Left := x.Left - 2 ^ j.toNat }
def QA (r : MR) (j t : Int) : MR := { r with Am := r.Am.set (GD r t) (KF (Av r t) j t (HO r)) }
def Bm (r : MR) (a : MA) (e : TEv) : MR :=
 if e.Kind = 1 then { r with Au := r.Au + 1 }
 else if e.Kind = 2 then NM r e.AG a.Value
 else if e.Kind = 3 then Ej r a.Reader
 else if e.Kind = 4 then QA r a.Reader e.AG
 else if e.Kind = 13 then { r with Aw := true }
 else r
def Mg (s : MS) (t : Int) : MT := s.AB.getD t.toNat zT
def DP (s : MS) (i : Int) : MR := s.AJ.getD i.toNat zR
def Bo (p : MP) (t : Int) : List TIn := p.AB.getD t.toNat []
def Bv (p : MP) (s : MS) (t : Int) : MA := (B0 (Bo p t) (Mg s t)).2
def EH (p : MP) (s : MS) (e : TEv) : Int :=
 if Ba e = false then 3
 else if (s.AB.length : Int) ≤ e.Thread then 5
 else if (Bv p s e.Thread).Kind = 0 ∨ Cd (Bv p s e.Thread) e = false then 11
 else 0
def F8 (r : MR) (a : MA) : Bool := if a.Kind = 1 then r.Aw || Dt r else DX r a.Reader
def KD (s : MS) (a : MA) (e : TEv) : Bool :=
 let r := DP s e.Ring
 if e.Kind = 5 ∨ e.Kind = 7 then F8 r a && !r.Aw
 else if e.Kind = 6 then F8 r a && r.Aw
 else if e.Kind = 8 then decide (s.Gz ≤ e.Value ∧ e.Value - s.Gz < 1048576)
 else if e.Kind = 10 then !s.CB
 else if e.Kind = 1 then DA r a e && !r.Aw
 else !As e.Kind || DA r a e
def BU (p : MP) (s : MS) (e : TEv) : Bool := decide (EH p s e = 0) && KD s (Bv p s e.Thread) e
def An (p : MP) (s : MS) (e : TEv) : MS :=
 let n := B0 (Bo p e.Thread) (Mg s e.Thread)
 let r := DP s e.Ring
 let v := if e.Kind = 4 then (Av r e.AG).Value else 0
 { AB := s.AB.set e.Thread.toNat (BG (gI (Bo p e.Thread) n.1.At) n.1 e v)
   AJ := if As e.Kind = true then s.AJ.set e.Ring.toNat (Bm r n.2 e) else s.AJ
   Gz := if e.Kind = 8 then max s.Gz e.Value else s.Gz
   Reads := if e.Kind = 10 then IntKind.u64.wrap (s.Reads + 1) else s.Reads
   CB := if e.Kind = 11 then true else s.CB }
def Qg (p : MP) (s : MS) (e : TEv) : Int × MS :=
 if EH p s e ≠ 0 then (EH p s e, s) else if BU p s e = false then (11, s) else (0, An p s e)
def F9 (c : TRg) : MR := ⟨0, List.replicate c.AQ.toNat 0, false, (List.range c.Cf.toNat).map fun i : Nat => (⟨2 * (i : Int), 0, 0⟩ : TSo)⟩
def FF (p : MP) : MS := ⟨p.AB.map fun _ => zT, p.AJ.map F9, 0, 0, false⟩
def Bd (i : TIn) : Bool :=
 let r := fun (x : Int) (m : Int) => decide (0 ≤ x ∧ x ≤ m)
 if i.Op = 1 then r i.A 7 && r i.B 0 && r i.C 0 && r i.D 0
 else if i.Op = 2 ∨ i.Op = 23 then r i.A 7 && r i.B 7 && r i.C 0 && r i.D 0 && r i.K 0
 else if 3 ≤ i.Op ∧ i.Op ≤ 14 then r i.A 7 && r i.B 7 && r i.C 7 && r i.D 0 && r i.K 0
 else if i.Op = 15 then r i.A 0 && r i.B 0 && r i.C 0 && r i.D 0 && r i.K 256
 else if i.Op = 16 ∨ i.Op = 17 then r i.A 7 && r i.B 0 && r i.C 0 && r i.D 0 && r i.K 256
 else if i.Op = 18 then r i.A 7 && r i.B 7 && r i.C 7 && r i.D 2 && r i.K 0
 else if i.Op = 19 then r i.A 7 && r i.B 7 && r i.C 7 && r i.D 2 && r i.K 7
 else if i.Op = 20 then r i.A 0 && r i.B 0 && r i.C 7 && r i.D 0 && r i.K 0
 else if i.Op = 21 ∨ i.Op = 22 ∨ i.Op = 24 then r i.A 7 && r i.B 0 && r i.C 0 && r i.D 0 && r i.K 0
 else if i.Op = 25 then r i.A 0 && r i.B 0 && r i.C 0 && r i.D 0 && r i.K 0
 else false
def Ay (c : TRg) : Bool := decide (1 ≤ c.Cf ∧ c.Cf ≤ 64 ∧ (c.Kind = 1 ∧ c.AQ = 1 ∨ c.Kind = 2 ∧ 1 ≤ c.AQ ∧ c.AQ ≤ 8))
def Cx (rs : List TRg) (i : TIn) (n : Int) : Int :=
 if Bd i = false then 6
 else if 15 ≤ i.Op ∧ i.Op ≤ 17 ∧ n < i.K then 5
 else if 18 ≤ i.Op ∧ i.Op ≤ 20 ∧ (rs.length : Int) ≤ i.C then 7
 else if i.Op = 19 ∧ (rs.getD i.C.toNat ⟨0, 0, 0⟩).AQ ≤ i.K then 7
 else 0
structure De (p : MP) : Prop where
 t1 : 1 ≤ p.AB.length
 t8 : p.AB.length ≤ 8
 r8 : p.AJ.length ≤ 8
 rg : ∀ c ∈ p.AJ, Ay c = true
 len : ∀ l ∈ p.AB, l.length ≤ 256
 ins : ∀ l ∈ p.AB, ∀ i ∈ l, Cx p.AJ i l.length = 0
structure Lc (c : Int) (nr : Nat) (tail : Int) (AD : List Int) (i : Nat) (x : TSo) : Prop where
 s0 : 0 ≤ x.AO
 s1 : x.AO < 9223372036854775808
 T8 : x.AO / 2 % c = i
 free : x.AO % 2 = 0 → x.Value = 0 ∧ x.Left = 0
 held : x.AO % 2 = 1 → 1 ≤ x.Left ∧ x.Left < 2 ^ nr
 PG : x.AO % 2 = 1 → x.AO / 2 < tail
 Sy : x.AO % 2 = 1 → ∀ (j : Nat) (h : Int), AD[j]? = some h → C9 x.Left (j : Int) = false → x.AO / 2 < h
 Rm : x.AO % 2 = 0 → c ≤ x.AO / 2 → ∀ h ∈ AD, x.AO / 2 - c < h
structure Cz (c : TRg) (b : Int) (r : MR) : Prop where
 cap : (r.Am.length : Int) = c.Cf
 rd : (r.AY.length : Int) = c.AQ
 t0 : 0 ≤ r.Au
 tb : r.Au < b
 h0 : ∀ h ∈ r.AY, 0 ≤ h ∧ h ≤ r.Au ∧ r.Au - h ≤ c.Cf
 sl : ∀ (i : Nat) x, r.Am[i]? = some x → Lc c.Cf r.AY.length r.Au r.AY i x
structure Et (l : List TIn) (t : MT) : Prop where
 a0 : 0 ≤ t.At
 a1 : t.At ≤ l.length
 st : 0 ≤ t.Status ∧ t.Status ≤ 2
 ph : 0 ≤ t.Phase ∧ t.Phase ≤ 2
 p0 : t.Phase = 0 → t.Ring = 0 ∧ t.AG = 0
 p1 : t.Phase ≠ 0 → t.Status = 0 ∧ t.At < l.length ∧ (gI l t.At).Op = 17 + t.Phase ∧ (gI l t.At).C = t.Ring ∧ 0 ≤ t.AG ∧ t.AG < 4611686018427387904
structure Eu (p : MP) (b : Int) (s : MS) : Prop where
 pi : De p
 nt : s.AB.length = p.AB.length
 nr : s.AJ.length = p.AJ.length
 n0 : 0 ≤ s.Gz
 ri : ∀ (i : Nat) c r, p.AJ[i]? = some c → s.AJ[i]? = some r → Cz c b r
 ti : ∀ (i : Nat) l t, p.AB[i]? = some l → s.AB[i]? = some t → Et l t
 p1 : ∀ (i : Nat) t, s.AB[i]? = some t → t.Phase = 1 → t.AG < (DP s t.Ring).Au
 p2 : ∀ (i : Nat) l t, p.AB[i]? = some l → s.AB[i]? = some t → t.Phase = 2 → t.AG < hd (DP s t.Ring) (gI l t.At).K
end
section
theorem FR (n : Nat) : 0 < (2 : Int) ^ n := Int.pow_pos (by decide)
theorem EY {α : Type} {l : List α} {i : Nat} {d : α} (h : i < l.length) : l[i]? = some (l.getD i d) := by simp [List.getD, List.getElem?_eq_getElem h]
theorem FG {α : Type} {l : List α} {i : Nat} {x d : α} (h : i < l.length) : (l.set i x).getD i d = x := by simp [List.getD, h]
theorem getD_set_ne {α : Type} {l : List α} {i j : Nat} {x d : α} (h : i ≠ j) : (l.set i x).getD j d = l.getD j d := by simp [List.getD, List.getElem?_set_ne h]
section
variable {c : TRg} {b b' : Int} {r : MR}
theorem E8 (h : Ay c = true) : 1 ≤ c.Cf ∧ c.Cf ≤ 64 ∧ 1 ≤ c.AQ ∧ c.AQ ≤ 8 := by
 simp only [Ay, decide_eq_true_eq] at h; omega
theorem Cz.mono (h : Cz c b r) (k : b ≤ b') : Cz c b' r := { h with tb := by have := h.tb; omega }
theorem Lc.mono {cp : Int} {nr : Nat} {tail tail' : Int} {AD heads' : List Int} {i : Nat} {x : TSo} (h : Lc cp nr tail AD i x) (ht : tail ≤ tail')
 (hh : ∀ (j : Nat) (y : Int), heads'[j]? = some y → ∃ z : Int, AD[j]? = some z ∧ z ≤ y) : Lc cp nr tail' heads' i x where
 s0 := h.s0
 s1 := h.s1
 T8 := h.T8
 free := h.free
 held := h.held
 PG k := by have := h.PG k; omega
 Sy k j y hy hb := by
  obtain ⟨z, h1, h2⟩ := hh j y hy
  have := h.Sy k j z h1 hb
  omega
 Rm k k2 y hy := by
  obtain ⟨j, hj⟩ := List.getElem?_of_mem hy
  obtain ⟨z, h1, h2⟩ := hh j y hj
  have := h.Rm k k2 z (List.mem_of_getElem? h1)
  omega
theorem NN (h : Dt r = false) : ∀ x ∈ r.AY, r.Au - x < HO r := by
 intro x hx
 simp only [Dt, List.any_eq_false, decide_eq_true_eq] at h
 have := h x hx
 omega
theorem Cz.TN (h : Cz c b r) (hf : Dt r = false) : Cz c (b + 1) { r with Au := r.Au + 1 } where
 cap := h.cap
 rd := h.rd
 t0 := by have := h.t0; show 0 ≤ r.Au + 1; omega
 tb := by have := h.tb; show r.Au + 1 < b + 1; omega
 h0 x hx := by
  have h1 := h.h0 x hx
  have h2 := NN hf x hx
  have h3 := h.cap
  unfold HO at h2
  show 0 ≤ x ∧ x ≤ r.Au + 1 ∧ r.Au + 1 - x ≤ c.Cf
  omega
 sl i x hx := (h.sl i x hx).mono (by show r.Au ≤ r.Au + 1; omega) fun j y hy => ⟨y, hy, Int.le_refl _⟩
theorem J1 (h : Cz c b r) (hc : Ay c = true) (t : Int) : GD r t < r.Am.length := by
 have h1 := h.cap
 have h2 := E8 hc
 unfold GD HO
 have h3 := Int.emod_nonneg t (b := (r.Am.length : Int)) (by omega)
 have h4 := Int.emod_lt_of_pos t (b := (r.Am.length : Int)) (by omega)
 omega
theorem IE (h : Cz c b r) (hc : Ay c = true) (t : Int) : r.Am[GD r t]? = some (Av r t) := EY (J1 h hc t)
theorem RD (h : Cz c b r) (hc : Ay c = true) (t : Int) : t % c.Cf = (GD r t : Int) := by
 have h1 := h.cap
 have h2 := E8 hc
 unfold GD HO
 rw [h1]
 have h3 := Int.emod_nonneg t (b := c.Cf) (by omega)
 omega
theorem E0 {α : Type} {l : List α} {k i : Nat} {x y : α} (h : (l.set k x)[i]? = some y) (hk : k < l.length) : (i = k ∧ y = x) ∨ (i ≠ k ∧ l[i]? = some y) := by
 by_cases e : k = i
 · subst e
   rw [List.getElem?_set_self hk] at h
   exact .inl ⟨rfl, (Option.some.inj h).symm⟩
 · rw [List.getElem?_set_ne e] at h
   exact .inr ⟨fun k => e k.symm, h⟩
theorem Rz {n j : Nat} (h : j < n) : C9 (2 ^ n - 1) (j : Int) = true := by
 simp only [C9, decide_eq_true_eq, Int.toNat_natCast]
 obtain ⟨d, rfl⟩ : ∃ d, n = j + (d + 1) := ⟨n - j - 1, by omega⟩
 have h1 : (2 : Int) ^ (j + (d + 1)) - 1 = (2 ^ (d + 1) - 1) * 2 ^ j + (2 ^ j - 1) := by
  rw [Int.pow_add, Int.sub_mul, Int.mul_comm (2 ^ j)]; omega
 have h2 := FR j
 rw [h1, Int.add_comm, Int.add_mul_ediv_right _ _ (by omega), Int.ediv_eq_zero_of_lt (by omega) (by omega)]
 have h3 : (2 : Int) ^ (d + 1) = 2 * 2 ^ d := by rw [Int.pow_succ, Int.mul_comm]
 omega
theorem Cz.put (h : Cz c b r) (hc : Ay c = true) {t v : Int} (hf : GV r t = true) (t0 : 0 ≤ t) (hb : b ≤ 4611686018427387904) : Cz c b (NM r t v) where
 cap := by have := h.cap; simpa [NM] using this
 rd := h.rd
 t0 := h.t0
 tb := h.tb
 h0 := h.h0
 sl i x hx := by
  simp only [GV, decide_eq_true_eq] at hf
  rcases E0 hx (J1 h hc t) with ⟨rfl, rfl⟩ | ⟨_, hx⟩
  · have ht : t < r.Au := hf.1
    have hlt := h.tb
    have hd : (2 * t + 1) / 2 = t := by omega
    have hm : (2 * t + 1) % 2 = 1 := by omega
    have hp := FR r.AY.length
    have hrd := h.rd
    have hr := (E8 hc).2.2
    refine ⟨by show 0 ≤ 2 * t + 1; omega, by show 2 * t + 1 < _; omega, by show (2 * t + 1) / 2 % c.Cf = _; rw [hd]; exact RD h hc t, fun k => by exfalso; change (2 * t + 1) % 2 = 0 at k; omega, fun _ => ?_, fun _ => by show (2 * t + 1) / 2 < r.Au; omega,
     fun _ j y hy hb => ?_, fun k => by exfalso; change (2 * t + 1) % 2 = 0 at k; omega⟩
    · show 1 ≤ (2 : Int) ^ r.AY.length - 1 ∧ (2 : Int) ^ r.AY.length - 1 < 2 ^ r.AY.length
      obtain ⟨d, hd⟩ : ∃ d, r.AY.length = d + 1 := ⟨r.AY.length - 1, by omega⟩
      rw [hd, Int.pow_succ]
      have := FR d
      omega
    · have hj : j < r.AY.length := (List.getElem?_eq_some_iff.1 hy).1
      have := Rz hj
      change C9 (2 ^ r.AY.length - 1) (j : Int) = false at hb
      rw [this] at hb
      cases hb
  · exact h.sl i x hx
theorem Cz.take (h : Cz c b r) {j : Int} (hj : (j.toNat) < r.AY.length) (he : DX r j = false) : Cz c b (Ej r j) where
 cap := h.cap
 rd := by have := h.rd; simpa [Ej] using this
 t0 := h.t0
 tb := h.tb
 h0 x hx := by
  simp only [DX, decide_eq_false_iff_not] at he
  obtain ⟨k, hk⟩ := List.getElem?_of_mem hx
  have hd0 : r.AY[j.toNat]? = some (hd r j) := EY hj
  have h1 := h.h0 _ (List.mem_of_getElem? hd0)
  rcases E0 hk hj with ⟨rfl, rfl⟩ | ⟨_, hk⟩
  · show 0 ≤ hd r j + 1 ∧ hd r j + 1 ≤ r.Au ∧ r.Au - (hd r j + 1) ≤ c.Cf
    omega
  · exact h.h0 x (List.mem_of_getElem? hk)
 sl i x hx := by
  have hl : (Ej r j).AY.length = r.AY.length := by simp [Ej]
  rw [hl]
  refine (h.sl i x hx).mono (Int.le_refl _) fun k y hy => ?_
  rcases E0 hy hj with ⟨rfl, rfl⟩ | ⟨_, hk⟩
  · exact ⟨_, EY hj, by show hd r j ≤ hd r j + 1; omega⟩
  · exact ⟨y, hk, Int.le_refl _⟩
theorem Cz.close (h : Cz c b r) : Cz c b { r with Aw := true } where
 cap := h.cap
 rd := h.rd
 t0 := h.t0
 tb := h.tb
 h0 := h.h0
 sl := h.sl
end
theorem QY : ∀ (x : Fin 256) (j k : Fin 8), C9 (x.val : Int) (j.val : Int) = true → C9 ((x.val : Int) - 2 ^ j.val) (k.val : Int) = (C9 (x.val : Int) (k.val : Int) && !decide (k = j)) ∧ (0 : Int) ≤ (x.val : Int) - 2 ^ j.val := by decide +kernel
theorem Kc {x : Int} {j k n : Nat} (h0 : 0 ≤ x) (h1 : x < 2 ^ n) (hn : n ≤ 8) (hj : j < n) (hk : k < n) (hb : C9 x (j : Int) = true) :
 C9 (x - 2 ^ j) (k : Int) = (C9 x (k : Int) && !decide (k = j)) ∧ 0 ≤ x - 2 ^ j := by
 have h2 : (2 : Int) ^ n ≤ 2 ^ 8 := by
  have := Nat.pow_le_pow_right (n := 2) (by decide) hn
  exact_mod_cast this
 have e : ((x.toNat : Nat) : Int) = x := Int.toNat_of_nonneg h0
 have := QY ⟨x.toNat, by omega⟩ ⟨j, by omega⟩ ⟨k, by omega⟩
 simp only [e, Fin.mk.injEq] at this
 exact this hb
theorem QZ (k : Int) : C9 0 k = false := by simp [C9]
section
variable {c : TRg} {b : Int} {r : MR}
theorem Cz.rel (h : Cz c b r) (hc : Ay c = true) {j t : Int} (hj0 : 0 ≤ j) (hj : j.toNat < r.AY.length) (hh : KE r j t = true) (hb : b ≤ 2305843009213693952) : Cz c b (QA r j t) where
 cap := by have := h.cap; simpa [QA] using this
 rd := h.rd
 t0 := h.t0
 tb := h.tb
 h0 := h.h0
 sl i x hx := by
  simp only [KE, decide_eq_true_eq] at hh
  obtain ⟨hlt, hst, hbit⟩ := hh
  rcases E0 hx (J1 h hc t) with ⟨rfl, rfl⟩ | ⟨_, hx⟩
  · have hS := h.sl _ _ (IE h hc t)
    have hrc := E8 hc
    have hrd := h.rd
    have htb := h.tb
    have hcap : HO r = c.Cf := h.cap
    have hd0 : r.AY[j.toNat]? = some (hd r j) := EY hj
    have hhd := h.h0 _ (List.mem_of_getElem? hd0)
    have hs0 := hS.s0
    have hm : (Av r t).AO % 2 = 1 := by omega
    have hdv : (Av r t).AO / 2 = t := by omega
    have hheld := hS.held hm
    have hjn : ((j.toNat : Nat) : Int) = j := Int.toNat_of_nonneg hj0
    have hclr : ∀ k : Nat, k < r.AY.length → C9 ((Av r t).Left - 2 ^ j.toNat) (k : Int) = (C9 (Av r t).Left (k : Int) && !decide (k = j.toNat)) ∧ 0 ≤ (Av r t).Left - 2 ^ j.toNat :=
     fun k hk => Kc (by omega) hheld.2 (by omega) hj hk (by rw [hjn]; exact hbit)
    have hlow : ∀ (k : Nat) (y : Int), r.AY[k]? = some y → C9 ((Av r t).Left - 2 ^ j.toNat) (k : Int) = false → t < y := by
     intro k y hy hbk
     have hk : k < r.AY.length := (List.getElem?_eq_some_iff.1 hy).1
     rw [(hclr k hk).1] at hbk
     by_cases e : k = j.toNat
     · subst e; rw [hd0] at hy; cases hy; exact hlt
     · simp only [e, decide_false, Bool.not_false, Bool.and_true] at hbk
       have := hS.Sy hm k y hy hbk
       omega
    unfold KF
    split
    · rename_i hz
      rw [hz] at hlow
      rw [hcap]
      have e : 2 * (t + c.Cf) / 2 = t + c.Cf := by omega
      refine ⟨by show 0 ≤ 2 * (t + c.Cf); omega, by show 2 * (t + c.Cf) < _; omega, ?_, fun _ => ⟨rfl, rfl⟩, fun k => by exfalso; change 2 * (t + c.Cf) % 2 = 1 at k; omega, fun k => by exfalso; change 2 * (t + c.Cf) % 2 = 1 at k; omega,
       fun k => by exfalso; change 2 * (t + c.Cf) % 2 = 1 at k; omega, fun _ _ y hy => ?_⟩
      · show 2 * (t + c.Cf) / 2 % c.Cf = _
        rw [e, Int.add_emod_right]
        exact RD h hc t
      · show 2 * (t + c.Cf) / 2 - c.Cf < y
        obtain ⟨k, hk⟩ := List.getElem?_of_mem hy
        have := hlow k y hk (QZ _)
        omega
    · rename_i hz
      have h2 := (hclr _ hj).2
      have hp := FR j.toNat
      exact ⟨hS.s0, hS.s1, hS.T8, fun k => by exfalso; change (Av r t).AO % 2 = 0 at k; omega, fun _ => ⟨by show 1 ≤ (Av r t).Left - 2 ^ j.toNat; omega, by show (Av r t).Left - 2 ^ j.toNat < 2 ^ r.AY.length; omega⟩, hS.PG,
       fun _ k y hy hbk => by show (Av r t).AO / 2 < y; rw [hdv]; exact hlow k y hy hbk, fun k => by exfalso; change (Av r t).AO % 2 = 0 at k; omega⟩
  · exact h.sl i x hx
theorem KR {α : Type} (f : Nat → α) (n i : Nat) (x : α) (h : ((List.range n).map f)[i]? = some x) : i < n ∧ x = f i := by
 simp only [List.getElem?_map, Option.map_eq_some_iff] at h
 obtain ⟨k, hk, rfl⟩ := h
 obtain ⟨h1, h2⟩ := List.getElem?_eq_some_iff.1 hk
 simp at h1 h2
 subst h2
 exact ⟨h1, rfl⟩
theorem Cz.new (hc : Ay c = true) (hb : 0 < b) : Cz c b (F9 c) where
 cap := by have := E8 hc; simp [F9]; omega
 rd := by have := E8 hc; simp [F9]; omega
 t0 := Int.le_refl _
 tb := hb
 h0 x hx := by
  have := E8 hc
  simp only [F9, List.mem_replicate] at hx
  obtain ⟨_, rfl⟩ := hx
  show (0 : Int) ≤ 0 ∧ (0 : Int) ≤ 0 ∧ (0 : Int) - 0 ≤ c.Cf
  omega
 sl i x hx := by
  have hcp := E8 hc
  obtain ⟨hi, rfl⟩ := KR _ _ _ _ hx
  refine ⟨by show 0 ≤ 2 * (i : Int); omega, by show 2 * (i : Int) < _; omega, ?_, fun _ => ⟨rfl, rfl⟩, fun k => by exfalso; change 2 * (i : Int) % 2 = 1 at k; omega, fun k => by exfalso; change 2 * (i : Int) % 2 = 1 at k; omega,
   fun k => by exfalso; change 2 * (i : Int) % 2 = 1 at k; omega, fun _ k => by exfalso; change c.Cf ≤ 2 * (i : Int) / 2 at k; omega⟩
  show 2 * (i : Int) / 2 % c.Cf = i
  rw [show 2 * (i : Int) / 2 = i by omega]
  exact Int.emod_eq_of_lt (by omega) (by omega)
end
end
section
theorem HL {l : List TIn} {n : Int} (h0 : 0 ≤ n) (h1 : n < l.length) : gI l n ∈ l := by
 have : n.toNat < l.length := by omega
 exact List.mem_of_getElem? (EY this)
theorem A5 {i : TIn} (h : Bd i = true) :
 (1 ≤ i.Op ∧ i.Op ≤ 25) ∧ (0 ≤ i.A ∧ i.A ≤ 7) ∧ (0 ≤ i.B ∧ i.B ≤ 7) ∧ (0 ≤ i.C ∧ i.C ≤ 7) ∧ (0 ≤ i.D ∧ i.D ≤ 2) ∧ (i.Op ≠ 1 → 0 ≤ i.K ∧ i.K ≤ 256) ∧ (i.Op = 19 → i.K ≤ 7) := by
 unfold Bd at h
 simp only at h
 repeat' split at h
 all_goals first | (exact absurd h (by decide)) | (simp only [Bool.and_eq_true, decide_eq_true_eq] at h; omega)
theorem Fz {rs : List TRg} {i : TIn} {n : Int} (h : Cx rs i n = 0) :
 Bd i = true ∧ (15 ≤ i.Op ∧ i.Op ≤ 17 → i.K ≤ n) ∧ (18 ≤ i.Op ∧ i.Op ≤ 20 → i.C < rs.length) ∧ (i.Op = 19 → i.K < (rs.getD i.C.toNat ⟨0, 0, 0⟩).AQ) := by
 unfold Cx at h
 repeat' split at h
 all_goals first
  | (exfalso; omega)
  | (refine ⟨?_, ?_, ?_, ?_⟩
     · cases e : Bd i
       · exact absurd e ‹_›
       · rfl
     all_goals (intro hh; omega))
def Ge (rs : List TRg) (l : List TIn) : Prop := ∀ i ∈ l, Cx rs i l.length = 0
section
variable {rs : List TRg} {l : List TIn} {t : MT}
structure Kept (t u : MT) : Prop where
 ph : u.Phase = t.Phase
 rg : u.Ring = t.Ring
 st : u.Status = t.Status
 tk : u.AG = t.AG
 sn : u.Seen = t.Seen
theorem Kept.refl (t : MT) : Kept t t := ⟨rfl, rfl, rfl, rfl, rfl⟩
theorem Kept.trans {t u v : MT} (a : Kept t u) (b : Kept u v) : Kept t v := ⟨b.ph.trans a.ph, b.rg.trans a.rg, b.st.trans a.st, b.tk.trans a.tk, b.sn.trans a.sn⟩
theorem QJ (i : TIn) (t : MT) : Kept t (DW i t) := by
 unfold DW
 repeat' split
 all_goals exact ⟨rfl, rfl, rfl, rfl, rfl⟩
theorem Lp {i : TIn} {t : MT} {n : Int} (h0 : 0 ≤ t.At) (h1 : t.At < n) (hk : i.Op ≠ 1 → 0 ≤ i.K) (hj : 15 ≤ i.Op ∧ i.Op ≤ 17 → i.K ≤ n) : 0 ≤ (DW i t).At ∧ (DW i t).At ≤ n := by
 unfold DW
 repeat' split
 all_goals (simp only; omega)
theorem Gj (hc : Ge rs l) : ∀ (n : Nat) (t : MT), 0 ≤ t.At → t.At ≤ l.length → Kept t (Dc l n t) ∧ 0 ≤ (Dc l n t).At ∧ (Dc l n t).At ≤ l.length
 | 0, t, h0, h1 => ⟨Kept.refl t, h0, h1⟩
 | n + 1, t, h0, h1 => by
   unfold Dc
   split
   · rename_i h
     have hm := HL h0 h.1
     have hf := Fz (hc _ hm)
     have hr := A5 hf.1
     have hs := Lp (i := gI l t.At) h0 h.1 (fun k => (hr.2.2.2.2.2.1 k).1) hf.2.1
     obtain ⟨k1, k2⟩ := Gj hc n (DW (gI l t.At) t) hs.1 hs.2
     exact ⟨(QJ _ _).trans k1, k2⟩
   · exact ⟨Kept.refl t, h0, h1⟩
theorem Et.kept {t u : MT} (h : Et l t) (hp : t.Phase = 0) (k : Kept t u) (h0 : 0 ≤ u.At) (h1 : u.At ≤ l.length) : Et l u where
 a0 := h0
 a1 := h1
 st := by rw [k.st]; exact h.st
 ph := by rw [k.ph]; exact h.ph
 p0 _ := by rw [k.rg, k.tk]; exact h.p0 hp
 p1 q := by rw [k.ph] at q; exact absurd hp q
theorem LK (hc : Ge rs l) (h : Et l t) : Kept t (B0 l t).1 ∧ Et l (B0 l t).1 := by
 unfold B0
 repeat' split
 · exact ⟨Kept.refl t, h⟩
 · exact ⟨Kept.refl t, h⟩
 · exact ⟨Kept.refl t, h⟩
 · have hp : t.Phase = 0 := by have := h.ph; omega
   obtain ⟨k1, k2, k3⟩ := Gj hc 256 t h.a0 h.a1
   exact ⟨k1, h.kept hp k1 k2 k3⟩
structure PZ (l : List TIn) (t n : MT) (a : MA) : Prop where
 run : a.Kind ≠ 0 → t.Status = 0
 k1 : a.Kind = 1 → n.Phase = 0 ∧ n.At < l.length ∧ (gI l n.At).Op = 18 ∧ a.Ring = (gI l n.At).C
 k2 : a.Kind = 2 → n.Phase = 0 ∧ n.At < l.length ∧ (gI l n.At).Op = 19 ∧ a.Ring = (gI l n.At).C ∧ a.Reader = (gI l n.At).K
 k3 : a.Kind = 3 → n.Phase = 0 ∧ n.At < l.length ∧ (gI l n.At).Op = 20 ∧ a.Ring = (gI l n.At).C
 kn : 4 ≤ a.Kind ∧ a.Kind ≤ 7 → n.Phase = 0 ∧ n.At < l.length
 kh : a.Kind = 8 ∨ a.Kind = 9 → n.Phase = 0
 kp : a.Kind = 10 → n.Phase = 1 ∧ n.At < l.length ∧ a.Ring = n.Ring ∧ a.AG = n.AG
 kr : a.Kind = 11 → n.Phase = 2 ∧ n.At < l.length ∧ a.Ring = n.Ring ∧ a.AG = n.AG ∧ a.Reader = (gI l n.At).K
 ks : a.Kind = 7 → n.Phase = 0
 top : 0 ≤ a.Kind ∧ a.Kind ≤ 11
theorem Nl (hc : Ge rs l) (h : Et l t) : PZ l t (B0 l t).1 (B0 l t).2 := by
 unfold B0
 split
 · refine ⟨fun k => absurd rfl k, ?_, ?_, ?_, ?_, ?_, ?_, ?_, ?_, ?_⟩ <;> simp [zA]
 rename_i hs
 have hs : t.Status = 0 := by omega
 split
 · rename_i hp
   have := h.p1 (by omega)
   refine ⟨fun _ => hs, ?_, ?_, ?_, ?_, ?_, ?_, ?_, ?_, ?_⟩ <;> simp [hp]
   exact this.2.1
 split
 · rename_i hp
   have := h.p1 (by omega)
   refine ⟨fun _ => hs, ?_, ?_, ?_, ?_, ?_, ?_, ?_, ?_, ?_⟩ <;> simp [hp]
   exact this.2.1
 have hp : t.Phase = 0 := by have := h.ph; omega
 obtain ⟨k1, k2, k3⟩ := Gj hc 256 t h.a0 h.a1
 generalize Dc l 256 t = n at k1 k2 k3
 have hn : n.Phase = 0 := by rw [k1.ph, hp]
 simp only [Ek]
 repeat' split
 all_goals (refine ⟨fun _ => hs, ?_, ?_, ?_, ?_, ?_, ?_, ?_, ?_, ?_⟩ <;> simp [zA, hn] <;> omega)
end
end
section
theorem Bj {e : TEv} (h : Ba e = true) : (1 ≤ e.Kind ∧ e.Kind ≤ 15) ∧ (0 ≤ e.Thread ∧ e.Thread ≤ 7) ∧ (0 ≤ e.Ring ∧ e.Ring ≤ 7) ∧ e.AG < 4611686018427387904 ∧
 (B1 e.Kind = true ∨ e.Ring = 0) ∧ (As e.Kind = true ∨ e.AG = 0) ∧ (CR e.Kind = true ∨ e.Value = 0) := by
 simpa only [Ba, decide_eq_true_eq] using h
theorem Bb {k : Int} : B1 k = true ↔ (1 ≤ k ∧ k ≤ 7 ∨ k = 13) := by simp only [B1, decide_eq_true_eq]
theorem Ap {k : Int} : As k = true ↔ (1 ≤ k ∧ k ≤ 4 ∨ k = 13) := by simp only [As, decide_eq_true_eq]
structure TF (a : MA) (e : TEv) : Prop where
 rg : B1 e.Kind = true → a.Ring = e.Ring
 f1 : e.Kind = 1 → a.Kind = 1
 f2 : e.Kind = 2 → a.Kind = 10 ∧ a.AG = e.AG
 f3 : e.Kind = 3 → a.Kind = 2
 f4 : e.Kind = 4 → a.Kind = 11 ∧ a.AG = e.AG
 f5 : 5 ≤ e.Kind ∧ e.Kind ≤ 7 → a.Kind = 1 ∨ a.Kind = 2
 f8 : e.Kind = 8 → a.Kind = 4
 f9 : e.Kind = 9 → a.Kind = 5
 f10 : e.Kind = 10 ∨ e.Kind = 11 → a.Kind = 6
 f12 : e.Kind = 12 → a.Kind = 7 ∧ a.Value = e.Value
 f13 : e.Kind = 13 → a.Kind = 3
 f14 : e.Kind = 14 → a.Kind = 8
 f15 : e.Kind = 15 → a.Kind = 9
theorem Oi {a : MA} {e : TEv} (hr : Ba e = true) (h : Cd a e = true) : TF a e := by
 have hk := (Bj hr).1
 simp only [Cd, Bool.and_eq_true, Bool.or_eq_true, Bool.not_eq_true', decide_eq_true_eq] at h
 obtain ⟨h1, h2⟩ := h
 have h1 : B1 e.Kind = true → a.Ring = e.Ring := fun k => by
  rcases h1 with h1 | h1
  · rw [h1] at k; cases k
  · exact h1
 have hd : e.Kind = 1 ∨ e.Kind = 2 ∨ e.Kind = 3 ∨ e.Kind = 4 ∨ e.Kind = 5 ∨ e.Kind = 6 ∨ e.Kind = 7 ∨ e.Kind = 8 ∨ e.Kind = 9 ∨ e.Kind = 10 ∨ e.Kind = 11 ∨ e.Kind = 12 ∨ e.Kind = 13 ∨ e.Kind = 14 ∨ e.Kind = 15 := by omega
 rcases hd with q | q | q | q | q | q | q | q | q | q | q | q | q | q | q
 all_goals (simp [q, Ei] at h2; refine ⟨h1, ?_, ?_, ?_, ?_, ?_, ?_, ?_, ?_, ?_, ?_, ?_, ?_⟩ <;> intro hh <;> omega)
section
variable {l : List TIn} {t n : MT} {a : MA} {e : TEv} {v : Int}
theorem UQ (i : TIn) (h : e.Kind = 1) : BG i n e v = { n with Phase := 1, Ring := e.Ring, AG := e.AG } := by unfold BG; rw [if_pos h]
theorem UP (i : TIn) (h : e.Kind = 3) : BG i n e v = { n with Phase := 2, Ring := e.Ring, AG := e.AG } := by unfold BG; rw [if_neg (by omega), if_pos h]
theorem R2 (i : TIn) (h : e.Kind = 14) : BG i n e v = { n with Status := 1 } := by unfold BG; rw [if_neg (by omega), if_neg (by omega), if_pos h]
theorem R1 (i : TIn) (h : e.Kind = 15) : BG i n e v = { n with Status := 2 } := by unfold BG; rw [if_neg (by omega), if_neg (by omega), if_neg (by omega), if_pos h]
theorem bTe (i : TIn) (h1 : e.Kind ≠ 1) (h3 : e.Kind ≠ 3) (h14 : e.Kind ≠ 14) (h15 : e.Kind ≠ 15) :
 (BG i n e v).At = n.At + 1 ∧ (BG i n e v).Phase = 0 ∧ (BG i n e v).Ring = 0 ∧ (BG i n e v).AG = 0 ∧ (BG i n e v).Status = n.Status ∧
   (BG i n e v).Seen = (if e.Kind = 12 then n.Seen ++ [e.Value] else n.Seen) := by
 unfold BG
 rw [if_neg h1, if_neg h3, if_neg h14, if_neg h15]
 exact ⟨rfl, rfl, rfl, rfl, rfl, rfl⟩
theorem Ov (hr : Ba e = true) (h0 : 0 ≤ e.AG) (hq : PZ l t n a) (hn : Et l n) (hst : n.Status = t.Status) (ha : a.Kind ≠ 0) (hf : TF a e) : Et l (BG (gI l n.At) n e v) := by
 have hk := Bj hr
 have hrun : n.Status = 0 := hst.trans (hq.run ha)
 have hkr := Bb (k := e.Kind)
 by_cases he : e.Kind = 1
 · rw [UQ _ he]
   have h1 := hq.k1 (hf.f1 he)
   have h2 := hf.rg (hkr.2 (by omega))
   exact ⟨hn.a0, hn.a1, hn.st, by simp, by simp, fun _ => ⟨hrun, h1.2.1, by rw [h1.2.2.1]; rfl, by rw [← h1.2.2.2, h2], h0, hk.2.2.2.1⟩⟩
 by_cases he3 : e.Kind = 3
 · rw [UP _ he3]
   have h1 := hq.k2 (hf.f3 he3)
   have h2 := hf.rg (hkr.2 (by omega))
   exact ⟨hn.a0, hn.a1, hn.st, by simp, by simp, fun _ => ⟨hrun, h1.2.1, by rw [h1.2.2.1]; rfl, by rw [← h1.2.2.2.1, h2], h0, hk.2.2.2.1⟩⟩
 by_cases he14 : e.Kind = 14
 · rw [R2 _ he14]
   have h1 := hq.kh (.inl (hf.f14 he14))
   exact ⟨hn.a0, hn.a1, by simp, hn.ph, hn.p0, fun k => absurd h1 k⟩
 by_cases he15 : e.Kind = 15
 · rw [R1 _ he15]
   have h1 := hq.kh (.inr (hf.f15 he15))
   exact ⟨hn.a0, hn.a1, by simp, hn.ph, hn.p0, fun k => absurd h1 k⟩
 have I7 : n.At < l.length := by
  have b2 := hf.f2; have b4 := hf.f4; have b5 := hf.f5; have b8 := hf.f8; have b9 := hf.f9; have b10 := hf.f10; have b12 := hf.f12; have b13 := hf.f13
  have hd : e.Kind = 2 ∨ e.Kind = 4 ∨ (5 ≤ e.Kind ∧ e.Kind ≤ 7) ∨ (8 ≤ e.Kind ∧ e.Kind ≤ 12) ∨ e.Kind = 13 := by omega
  rcases hd with h | h | h | h | h
  · exact (hq.kp (b2 h).1).2.1
  · exact (hq.kr (b4 h).1).2.1
  · rcases b5 h with q | q
    · exact (hq.k1 q).2.1
    · exact (hq.k2 q).2.1
  · refine (hq.kn ?_).2
    have : e.Kind = 8 ∨ e.Kind = 9 ∨ (e.Kind = 10 ∨ e.Kind = 11) ∨ e.Kind = 12 := by omega
    rcases this with q | q | q | q
    · have := b8 q; omega
    · have := b9 q; omega
    · have := b10 q; omega
    · have := b12 q; omega
  · exact (hq.k3 (b13 h)).2.1
 have := hn.a0
 obtain ⟨e1, e2, e3, e4, e5, _⟩ := bTe (v := v) (n := n) (gI l n.At) he he3 he14 he15
 exact ⟨by rw [e1]; omega, by rw [e1]; omega, by rw [e5]; exact hn.st, by rw [e2]; simp, fun _ => ⟨e3, e4⟩, fun k => absurd e2 k⟩
theorem Mt {c : TRg} {b : Int} {r : MR} (h : Cz c b r) (hc : Ay c = true) (hb : b ≤ 2305843009213693952) (h0 : 0 ≤ e.AG) (hrd : a.Kind = 2 ∨ a.Kind = 11 → 0 ≤ a.Reader ∧ a.Reader < c.AQ)
 (hf : TF a e) (ht : DA r a e = true) : Cz c (b + 1) (Bm r a e) := by
 unfold Bm
 unfold DA at ht
 have hl := h.rd
 split
 · rename_i he
   rw [if_pos he] at ht
   simp only [Bool.and_eq_true, Bool.not_eq_true', decide_eq_true_eq] at ht
   exact h.TN ht.1
 rename_i h1
 rw [if_neg h1] at ht
 split
 · rename_i he
   rw [if_pos he] at ht
   exact (h.put hc ht h0 (by omega)).mono (by omega)
 rename_i h2
 rw [if_neg h2] at ht
 split
 · rename_i he
   rw [if_pos he] at ht
   simp only [Bool.and_eq_true, Bool.not_eq_true', decide_eq_true_eq] at ht
   have := hrd (.inl (hf.f3 he))
   exact (h.take (by omega) ht.1).mono (by omega)
 rename_i h3
 rw [if_neg h3] at ht
 split
 · rename_i he
   rw [if_pos he] at ht
   have := hrd (.inr (hf.f4 he).1)
   exact (h.rel hc this.1 (by omega) ht hb).mono (by omega)
 split
 · exact h.close.mono (by omega)
 · exact h.mono (by omega)
theorem Jt (r : MR) (a : MA) (e : TEv) : r.Au ≤ (Bm r a e).Au ∧ (e.Kind = 1 → (Bm r a e).Au = r.Au + 1) ∧ (e.Kind ≠ 1 → (Bm r a e).Au = r.Au) := by
 unfold Bm
 repeat' split
 all_goals (refine ⟨?_, fun h => ?_, fun h => ?_⟩ <;> (try simp [NM, Ej, QA]) <;> (try omega))
theorem SK {r : MR} {j k : Int} : hd r k ≤ hd (Ej r j) k := by
 simp only [hd, Ej]
 by_cases e : j.toNat = k.toNat
 · by_cases h : j.toNat < r.AY.length
   · rw [← e, FG h]; omega
   · rw [List.set_eq_of_length_le (by omega)]; omega
 · rw [getD_set_ne e]; omega
theorem Q4 (r : MR) (a : MA) (e : TEv) (k : Int) : hd r k ≤ hd (Bm r a e) k := by
 unfold Bm
 split
 · exact Int.le_refl _
 split
 · exact Int.le_refl _
 split
 · exact SK
 split
 · exact Int.le_refl _
 split <;> exact Int.le_refl _
end
end
section
section
variable {p : MP} {b : Int} {s : MS} {e : TEv}
structure DT (p : MP) (s : MS) (e : TEv) : Prop where
 re : Ba e = true
 lt : e.Thread.toNat < s.AB.length
 th : 0 ≤ e.Thread
 a0 : (Bv p s e.Thread).Kind ≠ 0
 ft : Cd (Bv p s e.Thread) e = true
theorem fitting (h : EH p s e = 0) : DT p s e := by
 unfold EH at h
 split at h
 · omega
 rename_i h1
 split at h
 · omega
 rename_i h2
 split at h
 · omega
 rename_i h3
 have hr : Ba e = true := by cases q : Ba e <;> simp_all
 have hk := Bj hr
 refine ⟨hr, by omega, hk.2.1.1, fun q => h3 (.inl q), ?_⟩
 cases q : Cd (Bv p s e.Thread) e
 · exact absurd (.inr q) h3
 · rfl
theorem PM (h : Eu p b s) {i : Nat} {l : List TIn} (hl : p.AB[i]? = some l) : Ge p.AJ l := h.pi.ins l (List.mem_of_getElem? hl)
theorem TW {t : Int} (h : t.toNat < s.AB.length) : s.AB[t.toNat]? = some (Mg s t) := EY h
theorem Je (h : Eu p b s) {t : Int} (k : t.toNat < s.AB.length) : p.AB[t.toNat]? = some (Bo p t) := EY (by rw [← h.nt]; exact k)
theorem TZ {i : Int} (h : i.toNat < s.AJ.length) : s.AJ[i.toNat]? = some (DP s i) := EY h
def KZ (p : MP) (i : Int) : TRg := p.AJ.getD i.toNat ⟨0, 0, 0⟩
theorem Oq {i : Int} (h : i.toNat < p.AJ.length) : p.AJ[i.toNat]? = some (KZ p i) := EY h
theorem Eu.OP (h : Eu p b s) {i : Int} (k : i.toNat < p.AJ.length) : Cz (KZ p i) b (DP s i) ∧ Ay (KZ p i) = true :=
 ⟨h.ri _ _ _ (Oq k) (TZ (by rw [h.nr]; exact k)), h.pi.rg _ (List.mem_of_getElem? (Oq k))⟩
theorem Eu.JI (h : Eu p b s) {t : Int} (k : t.toNat < s.AB.length) : Et (Bo p t) (Mg s t) := h.ti _ _ _ (Je h k) (TW k)
theorem Eu.asked (h : Eu p b s) {t : Int} (k : t.toNat < s.AB.length) :
 PZ (Bo p t) (Mg s t) (B0 (Bo p t) (Mg s t)).1 (Bv p s t) ∧ Et (Bo p t) (B0 (Bo p t) (Mg s t)).1 ∧ Kept (Mg s t) (B0 (Bo p t) (Mg s t)).1 ∧ Ge p.AJ (Bo p t) := by
 have hc := PM h (Je h k)
 have hk := LK hc (h.JI k)
 exact ⟨Nl hc (h.JI k), hk.2, hk.1, hc⟩
theorem R4 (h : Eu p b s) {t : Int} (k : t.toNat < s.AB.length) {a : MA} (ha : a = Bv p s t) (hk : a.Kind = 1 ∨ a.Kind = 2 ∨ a.Kind = 3 ∨ a.Kind = 10 ∨ a.Kind = 11) :
 0 ≤ a.Ring ∧ a.Ring.toNat < p.AJ.length ∧ (a.Kind = 2 ∨ a.Kind = 11 → 0 ≤ a.Reader ∧ a.Reader < (KZ p a.Ring).AQ) := by
 obtain ⟨hq, hn, _, hc⟩ := h.asked k
 rw [← ha] at hq
 generalize (B0 (Bo p t) (Mg s t)).1 = n at hq hn
 generalize Bo p t = l at hq hn hc
 have key : ∀ {i : TIn}, i ∈ l → 18 ≤ i.Op ∧ i.Op ≤ 20 → 0 ≤ i.C ∧ i.C.toNat < p.AJ.length ∧ (i.Op = 19 → 0 ≤ i.K ∧ i.K < (KZ p i.C).AQ) := by
  intro i hi ho
  have h1 := Fz (hc i hi)
  have h2 := A5 h1.1
  have h3 := h1.2.2.1 ho
  exact ⟨by omega, by omega, fun q => ⟨(h2.2.2.2.2.2.1 (by omega)).1, h1.2.2.2 q⟩⟩
 have a0 := hn.a0
 rcases hk with q | q | q | q | q
 · obtain ⟨_, h1, h2, h3⟩ := hq.k1 q
   have := key (HL a0 h1) (by omega)
   rw [h3]
   exact ⟨this.1, this.2.1, by omega⟩
 · obtain ⟨_, h1, h2, h3, h4⟩ := hq.k2 q
   have := key (HL a0 h1) (by omega)
   rw [h3, h4]
   exact ⟨this.1, this.2.1, fun _ => this.2.2 h2⟩
 · obtain ⟨_, h1, h2, h3⟩ := hq.k3 q
   have := key (HL a0 h1) (by omega)
   rw [h3]
   exact ⟨this.1, this.2.1, by omega⟩
 · obtain ⟨h0, h1, h2, h3⟩ := hq.kp q
   obtain ⟨_, _, h4, h5, _⟩ := hn.p1 (by omega)
   have := key (HL a0 h1) (by omega)
   rw [h2, ← h5]
   exact ⟨this.1, this.2.1, by omega⟩
 · obtain ⟨h0, h1, h2, h3, h6⟩ := hq.kr q
   obtain ⟨_, _, h4, h5, _⟩ := hn.p1 (by omega)
   have := key (HL a0 h1) (by omega)
   rw [h2, ← h5, h6]
   exact ⟨this.1, this.2.1, fun _ => this.2.2 (by omega)⟩
theorem Hn (h : Eu p b s) (f : DT p s e) (hk : B1 e.Kind = true) :
 0 ≤ e.Ring ∧ e.Ring.toNat < p.AJ.length ∧ ((Bv p s e.Thread).Kind = 2 ∨ (Bv p s e.Thread).Kind = 11 → 0 ≤ (Bv p s e.Thread).Reader ∧ (Bv p s e.Thread).Reader < (KZ p e.Ring).AQ) := by
 have hf := Oi f.re f.ft
 have hr := hf.rg hk
 rw [← hr]
 refine R4 h f.lt rfl ?_
 rw [Bb] at hk
 have h1 := hf.f1; have h2 := hf.f2; have h3 := hf.f3; have h4 := hf.f4; have h5 := hf.f5; have h13 := hf.f13
 omega
end
end
section
section
variable {p : MP} {b : Int} {s : MS} {e : TEv}
theorem O5 {rs : List MR} {i : Nat} {r : MR} (k : i < rs.length) (j : Int) : (rs.set i r).getD j.toNat zR = if j.toNat = i then r else rs.getD j.toNat zR := by
 by_cases q : i = j.toNat
 · rw [if_pos q.symm, ← q, FG k]
 · rw [if_neg (Ne.symm q), getD_set_ne q]
theorem Kd (h : Eu p b s) (f : DT p s e) (i : Int) : (DP s i).Au ≤ (DP (An p s e) i).Au ∧ ∀ k, hd (DP s i) k ≤ hd (DP (An p s e) i) k := by
 unfold DP An
 simp only
 split
 · rename_i q
   have hk : B1 e.Kind = true := by rw [Bb]; rw [Ap] at q; omega
   have hr := Hn h f hk
   rw [O5 (by rw [h.nr]; exact hr.2.1)]
   split
   · rename_i q2
     rw [q2]
     exact ⟨(Jt _ _ _).1, fun k => Q4 _ _ _ _⟩
   · exact ⟨Int.le_refl _, fun _ => Int.le_refl _⟩
 · exact ⟨Int.le_refl _, fun _ => Int.le_refl _⟩
theorem GC (h : Eu p b s) (f : DT p s e) (q : As e.Kind = true) : DP (An p s e) e.Ring = Bm (DP s e.Ring) (Bv p s e.Thread) e := by
 have hk : B1 e.Kind = true := by rw [Bb]; rw [Ap] at q; omega
 have hr := Hn h f hk
 unfold DP An
 simp only
 rw [if_pos q, O5 (by rw [h.nr]; exact hr.2.1), if_pos rfl]
 rfl
theorem KO (h : Eu p b s) (hb : b ≤ 2305843009213693952) (he0 : 0 ≤ e.AG) (f : DT p s e) (ht : As e.Kind = true → DA (DP s e.Ring) (Bv p s e.Thread) e = true) :
 Eu p (b + 1) (An p s e) := by
 obtain ⟨hq, hn, hkp, hc⟩ := h.asked f.lt
 have hf := Oi f.re f.ft
 have hrg : As e.Kind = true → 0 ≤ e.Ring ∧ e.Ring.toNat < p.AJ.length ∧ _ := fun q => Hn h f (by rw [Bb]; rw [Ap] at q; omega)
 have hT : Et (Bo p e.Thread) (BG (gI (Bo p e.Thread) (B0 (Bo p e.Thread) (Mg s e.Thread)).1.At) (B0 (Bo p e.Thread) (Mg s e.Thread)).1 e (if e.Kind = 4 then (Av (DP s e.Ring) e.AG).Value else 0)) :=
  Ov f.re he0 hq hn hkp.st f.a0 hf
 refine ⟨h.pi, by simp [An, h.nt], ?_, ?_, ?_, ?_, ?_, ?_⟩
 · unfold An; simp only; split <;> simp [h.nr]
 · have := h.n0
   unfold An; simp only; split
   · omega
   · exact this
 · intro i c r hi hr
   unfold An at hr
   simp only at hr
   split at hr
   · rename_i q
     obtain ⟨r0, r1, r2⟩ := hrg q
     rcases E0 hr (by rw [h.nr]; exact r1) with ⟨rfl, rfl⟩ | ⟨_, hr⟩
     · have := h.OP r1
       rw [Oq r1] at hi
       cases hi
       exact Mt this.1 this.2 hb he0 r2 hf (ht q)
     · exact (h.ri i c r hi hr).mono (by omega)
   · exact (h.ri i c r hi hr).mono (by omega)
 · intro i l t hl hi
   rcases E0 (by simpa [An] using hi) f.lt with ⟨rfl, rfl⟩ | ⟨_, hi⟩
   · rw [Je h f.lt] at hl
     cases hl
     exact hT
   · exact h.ti i l t hl hi
 · intro i t hi hp
   rcases E0 (by simpa [An] using hi) f.lt with ⟨rfl, rfl⟩ | ⟨_, hi⟩
   · by_cases he : e.Kind = 1
     · rw [UQ _ he] at hp ⊢
       have q : As e.Kind = true := by rw [Ap]; omega
       have h1 := ht q
       show e.AG < (DP (An p s e) e.Ring).Au
       rw [GC h f q, (Jt _ _ _).2.1 he]
       simp only [DA, he, if_true, Bool.and_eq_true, decide_eq_true_eq] at h1
       omega
     by_cases he3 : e.Kind = 3
     · rw [UP _ he3] at hp; simp at hp
     by_cases he14 : e.Kind = 14
     · rw [R2 _ he14] at hp
       have := hq.kh (.inl (hf.f14 he14))
       simp only at hp; omega
     by_cases he15 : e.Kind = 15
     · rw [R1 _ he15] at hp
       have := hq.kh (.inr (hf.f15 he15))
       simp only at hp; omega
     · rw [(bTe _ he he3 he14 he15).2.1] at hp; omega
   · have := h.p1 i t hi hp
     have := (Kd h f t.Ring).1
     omega
 · intro i l t hl hi hp
   rcases E0 (by simpa [An] using hi) f.lt with ⟨rfl, rfl⟩ | ⟨_, hi⟩
   · rw [Je h f.lt] at hl
     cases hl
     by_cases he : e.Kind = 1
     · rw [UQ _ he] at hp; simp at hp
     by_cases he3 : e.Kind = 3
     · rw [UP _ he3] at hp ⊢
       have q : As e.Kind = true := by rw [Ap]; omega
       have h1 := ht q
       obtain ⟨r0, r1, r2⟩ := hrg q
       have hk2 := hq.k2 (hf.f3 he3)
       show e.AG < hd (DP (An p s e) e.Ring) (gI (Bo p e.Thread) (B0 (Bo p e.Thread) (Mg s e.Thread)).1.At).K
       rw [GC h f q, ← hk2.2.2.2.2]
       unfold DA at h1
       rw [if_neg he, if_neg (by omega), if_pos he3] at h1
       simp only [Bool.and_eq_true, Bool.not_eq_true', decide_eq_true_eq] at h1
       have hR := (h.OP r1).1
       have hrd := r2 (.inl (hf.f3 he3))
       have hl := hR.rd
       have : Bm (DP s e.Ring) (Bv p s e.Thread) e = Ej (DP s e.Ring) (Bv p s e.Thread).Reader := by unfold Bm; rw [if_neg he, if_neg (by omega), if_pos he3]
       rw [this]
       have : hd (Ej (DP s e.Ring) (Bv p s e.Thread).Reader) (Bv p s e.Thread).Reader = hd (DP s e.Ring) (Bv p s e.Thread).Reader + 1 := by
        unfold hd Ej
        rw [FG (by omega)]
        rfl
       rw [this]
       have := h1.2
       omega
     by_cases he14 : e.Kind = 14
     · rw [R2 _ he14] at hp
       have := hq.kh (.inl (hf.f14 he14))
       simp only at hp; omega
     by_cases he15 : e.Kind = 15
     · rw [R1 _ he15] at hp
       have := hq.kh (.inr (hf.f15 he15))
       simp only at hp; omega
     · rw [(bTe _ he he3 he14 he15).2.1] at hp; omega
   · have := h.p2 i l t hl hi hp
     have := (Kd h f t.Ring).2 (gI l t.At).K
     omega
theorem Eu.mono {b' : Int} (h : Eu p b s) (k : b ≤ b') : Eu p b' s := { h with ri := fun i c r hi hr => (h.ri i c r hi hr).mono k }
theorem NK (hk : KD s (Bv p s e.Thread) e = true) (hr : Ba e = true) (q : As e.Kind = true) : DA (DP s e.Ring) (Bv p s e.Thread) e = true := by
 have h1 := (Ap (k := e.Kind)).1 q
 unfold KD at hk
 simp only at hk
 rw [if_neg (by omega), if_neg (by omega), if_neg (by omega), if_neg (by omega)] at hk
 split at hk
 · simp only [Bool.and_eq_true] at hk; exact hk.1
 · simpa [q] using hk
theorem PD (h : De p) : Eu p 1 (FF p) where
 pi := h
 nt := by simp [FF]
 nr := by simp [FF]
 n0 := Int.le_refl _
 ri i c r hi hr := by
  simp only [FF, List.getElem?_map, hi, Option.map_some, Option.some.injEq] at hr
  subst hr
  exact Cz.new (h.rg c (List.mem_of_getElem? hi)) (by decide)
 ti i l t hl hi := by
  simp only [FF, List.getElem?_map, hl, Option.map_some, Option.some.injEq] at hi
  subst hi
  exact ⟨by decide, by simp [zT], by decide, by decide, fun _ => ⟨rfl, rfl⟩, fun k => absurd rfl k⟩
 p1 i t hi hp := by
  simp only [FF, List.getElem?_map, Option.map_eq_some_iff] at hi
  obtain ⟨_, _, rfl⟩ := hi
  simp [zT] at hp
 p2 i l t hl hi hp := by
  simp only [FF, List.getElem?_map, Option.map_eq_some_iff] at hi
  obtain ⟨_, _, rfl⟩ := hi
  simp [zT] at hp
end
end
section
def CK (z : Int) : Prop := 0 ≤ z ∧ z < 18446744073709551616
theorem CA : CK 0 := by unfold CK; decide
def Km (op : Int) (a b : Nat) : Nat := if op = 8 then a &&& b else if op = 9 then a ||| b else a ^^^ b
def T6 (op : Int) (x y : Nat) : Prop := op = 8 ∧ x + y = 2 ∨ op = 9 ∧ 0 < x + y ∨ op = 10 ∧ x + y = 1
instance (op : Int) (x y : Nat) : Decidable (T6 op x y) := by unfold T6; infer_instance
theorem Se (op : Int) (ho : op = 8 ∨ op = 9 ∨ op = 10) (a b k : Nat) : Km op a b / 2 ^ k % 2 = if T6 op (a / 2 ^ k % 2) (b / 2 ^ k % 2) then 1 else 0 := by
 have e : ∀ n : Nat, n / 2 ^ k % 2 = (n.testBit k).toNat := fun n => (Nat.toNat_testBit n k).symm
 rw [e, e a, e b]
 rcases ho with h | h | h <;> subst h
 · show ((a &&& b).testBit k).toNat = _
   rw [Nat.testBit_and]; cases a.testBit k <;> cases b.testBit k <;> decide
 · show ((a ||| b).testBit k).toNat = _
   rw [Nat.testBit_or]; cases a.testBit k <;> cases b.testBit k <;> decide
 · show ((a ^^^ b).testBit k).toNat = _
   rw [Nat.testBit_xor]; cases a.testBit k <;> cases b.testBit k <;> decide
theorem mod_pow_succ (n k : Nat) : n % 2 ^ (k + 1) = n % 2 ^ k + 2 ^ k * (n / 2 ^ k % 2) := Nat.mod_mul
theorem Ti (op : Int) {a b : Nat} (ha : a < 2 ^ 64) (hb : b < 2 ^ 64) : Km op a b < 2 ^ 64 := by
 unfold Km
 split
 · exact Nat.and_lt_two_pow _ hb
 · split
   · exact Nat.or_lt_two_pow ha hb
   · exact Nat.xor_lt_two_pow ha hb
theorem Sf {op a b : Int} (ho : op = 8 ∨ op = 9 ∨ op = 10) : JN op a b = (Km op a.toNat b.toNat : Nat) := by
 rcases ho with h | h | h <;> subst h <;> rfl
theorem RI (op : Int) (ho : op = 8 ∨ op = 9 ∨ op = 10) (a b k : Nat) :
 Km op a b % 2 ^ (k + 1) = if T6 op (a / 2 ^ k % 2) (b / 2 ^ k % 2) then Km op a b % 2 ^ k + 2 ^ k else Km op a b % 2 ^ k := by
 rw [mod_pow_succ, Se op ho]
 split <;> simp
theorem K8 (a : Int) (k : Nat) : IntKind.u64.wrap (IntKind.u64.wrap (a * 2 ^ k) * 2) = IntKind.u64.wrap (a * 2 ^ (k + 1)) := by
 rw [Int.pow_succ, ← Int.mul_assoc]
 generalize a * 2 ^ k = z
 simp only [IntKind.wrap, IntKind.signed, IntKind.bits, Bool.false_and, Bool.false_eq_true, if_false]
 omega
theorem MJ (a : Int) (k : Nat) (h : 0 ≤ a) : a / 2 ^ k / 2 = a / 2 ^ (k + 1) := by
 rw [Int.pow_succ, Int.ediv_ediv_of_nonneg (Int.le_of_lt (Int.pow_pos (by decide)))]
def Ja (l : List Int) (n : Int) : Prop := n ∈ l ∧ ∀ x ∈ l, n ≤ x
theorem I2 {r : MR} {n : Int} (h : Ja r.AY n) : Dt r = true ↔ HO r ≤ r.Au - n := by
 simp only [Dt, List.any_eq_true, decide_eq_true_eq]
 refine ⟨fun ⟨x, hx, hh⟩ => ?_, fun hh => ⟨n, h.1, hh⟩⟩
 have := h.2 x hx
 omega
theorem OX : ∀ (x : Fin 256) (j : Fin 8), C9 (x.val : Int) (j.val : Int) = true → Vm.bits .andNot IntKind.i64 (x.val : Int) (shl IntKind.i64 1 (j.val : Int)) = (x.val : Int) - 2 ^ j.val := by decide +kernel
end
section
section
variable {p : MP} {s : MS} {e : TEv}
theorem Gc (h : BU p s e = true) : DT p s e ∧ EH p s e = 0 ∧ KD s (Bv p s e.Thread) e = true := by
 simp only [BU, Bool.and_eq_true, decide_eq_true_eq] at h
 exact ⟨fitting h.1, h.1, h.2⟩
theorem HP (h : BU p s e = true) : Qg p s e = (0, An p s e) := by
 have := (Gc h).2.1
 unfold Qg
 rw [if_neg (by omega), if_neg (by rw [h]; simp)]
theorem Jx (h : BU p s e = false) : (Qg p s e).1 ≠ 0 ∧ (Qg p s e).2 = s := by
 unfold Qg
 by_cases h0 : EH p s e ≠ 0
 · rw [if_pos h0]; exact ⟨h0, rfl⟩
 · rw [if_neg h0, if_pos h]; exact ⟨by show (11 : Int) ≠ 0; decide, rfl⟩
theorem Jd : (Qg p s e).1 = 0 ↔ BU p s e = true := by
 cases h : BU p s e
 · exact ⟨fun k => absurd k (Jx h).1, fun k => by cases k⟩
 · exact ⟨fun _ => rfl, fun _ => by rw [HP h]⟩
end
end
section
section
variable {p : MP} {b : Int} {s : MS} {e : TEv}
theorem CF (q : As e.Kind = true) : B1 e.Kind = true := by rw [Bb]; rw [Ap] at q; omega
theorem VW (h : Eu p b s) {i j : Int} (hi : i.toNat < p.AJ.length) (hj : j.toNat < (DP s i).AY.length) : hd (DP s i) j ≤ (DP s i).Au :=
 ((h.OP hi).1.h0 _ (List.mem_of_getElem? (EY (d := 0) hj))).2.1
theorem U6 (h : Eu p b s) (hm : BU p s e = true) :
 (e.Kind = 1 → e.AG = (DP s e.Ring).Au ∧ (DP s e.Ring).Aw = false) ∧ (e.Kind = 2 → e.AG < (DP s e.Ring).Au) ∧
   (e.Kind = 3 → e.AG < (DP s e.Ring).Au ∧ 0 ≤ (Bv p s e.Thread).Reader) ∧ (e.Kind = 13 → e.AG = (DP s e.Ring).Au) := by
 obtain ⟨f, _, hk⟩ := Gc hm
 have ht := fun q => NK (p := p) hk f.re q
 have hf := Oi f.re f.ft
 have hq := Ap (k := e.Kind)
 refine ⟨fun q => ?_, fun q => ?_, fun q => ?_, fun q => ?_⟩
 · have h1 := ht (hq.2 (by omega))
   unfold KD at hk
   unfold DA at h1
   simp only at hk
   rw [if_neg (by omega), if_neg (by omega), if_neg (by omega), if_neg (by omega), if_pos q] at hk
   rw [if_pos q] at h1
   simp only [Bool.and_eq_true, Bool.not_eq_true', decide_eq_true_eq] at hk h1
   exact ⟨h1.2, hk.2⟩
 · have h1 := ht (hq.2 (by omega))
   unfold DA at h1
   rw [if_neg (by omega), if_pos q] at h1
   simp only [GV, decide_eq_true_eq] at h1
   exact h1.1
 · have h1 := ht (hq.2 (by omega))
   unfold DA at h1
   rw [if_neg (by omega), if_neg (by omega), if_pos q] at h1
   simp only [Bool.and_eq_true, Bool.not_eq_true', decide_eq_true_eq, DX, decide_eq_false_iff_not] at h1
   have hr := Hn h f (by rw [Bb]; omega)
   have hrd := hr.2.2 (.inl (hf.f3 q))
   have hR := (h.OP hr.2.1).1.rd
   have := VW h hr.2.1 (j := (Bv p s e.Thread).Reader) (by omega)
   exact ⟨by omega, hrd.1⟩
 · have h1 := ht (hq.2 (by omega))
   unfold DA at h1
   rw [if_neg (by omega), if_neg (by omega), if_neg (by omega), if_neg (by omega)] at h1
   exact of_decide_eq_true h1
theorem U5 (hm : BU p s e = true) : (An p s e).Gz ≤ s.Gz + 1048576 := by
 obtain ⟨f, _, hk⟩ := Gc hm
 show (if e.Kind = 8 then max s.Gz e.Value else s.Gz) ≤ _
 split
 · rename_i q
   unfold KD at hk
   simp only at hk
   rw [if_neg (by omega), if_neg (by omega), if_pos q] at hk
   have := of_decide_eq_true hk
   omega
 · omega
end
end
section

end
section

end
section
def KI (p : MP) : List TEv → MS → Option MS
 | [], m => some m
 | e :: l, m => if BU p m e = true then KI p l (An p m e) else none
section
variable {p : MP} {m : MS}
theorem all_append (a c : List TEv) : ∀ m, KI p (a ++ c) m = (KI p a m).bind (KI p c) := by
 induction a with
 | nil => intro m; rfl
 | cons e a ih =>
   intro m
   show (if _ then _ else _) = (if _ then _ else _ : Option MS).bind _
   split
   · exact ih _
   · rfl
end
end
section
def UY (p : MP) (s : MS) (t k : Int) : TEv :=
 ⟨t, k, if B1 k = true then (Bv p s t).Ring else 0,
   if k = 2 ∨ k = 4 then (Bv p s t).AG else if k = 1 ∨ k = 13 then (DP s (Bv p s t).Ring).Au else if k = 3 ∧ (Bv p s t).Kind = 2 then hd (DP s (Bv p s t).Ring) (Bv p s t).Reader else 0,
   if k = 8 then s.Gz else if k = 12 then (Bv p s t).Value else 0⟩
section
variable {p : MP} {b : Int} {s : MS}
theorem Uw {t k r c v v' : Int} (h8 : k = 8 → s.Gz ≤ v' ∧ v' - s.Gz < 1048576) (h9 : k ≠ 8 → k ≠ 9 → k ≠ 10 → v' = v) (h : BU p s ⟨t, k, r, c, v⟩ = true) : BU p s ⟨t, k, r, c, v'⟩ = true := by
 by_cases q : k = 8 ∨ k = 9 ∨ k = 10
 · have hv : CR k = true := by simp only [CR, decide_eq_true_eq]; omega
   have e1 : Ba ⟨t, k, r, c, v'⟩ = Ba ⟨t, k, r, c, v⟩ := by simp only [Ba, hv, true_or]
   have e2 : ∀ a, Cd a ⟨t, k, r, c, v'⟩ = Cd a ⟨t, k, r, c, v⟩ := fun a => by
    simp only [Cd]
    rw [if_neg (show ¬ k = 12 by omega), if_neg (show ¬ k = 12 by omega)]
   have e3 : EH p s ⟨t, k, r, c, v'⟩ = EH p s ⟨t, k, r, c, v⟩ := by simp only [EH, e1, e2]
   unfold BU at h ⊢
   rw [e3]
   simp only [Bool.and_eq_true] at h ⊢
   refine ⟨h.1, ?_⟩
   have h2 := h.2
   unfold KD at h2 ⊢
   simp only at h2 ⊢
   rw [if_neg (by omega), if_neg (by omega)] at h2 ⊢
   by_cases e : k = 8
   · rw [if_pos e]; exact decide_eq_true (h8 e)
   · rw [if_neg e] at h2 ⊢
     by_cases e' : k = 10
     · rw [if_pos e'] at h2 ⊢; exact h2
     · have hk : As k = false := by simp only [As, decide_eq_false_iff_not]; omega
       rw [if_neg e', if_neg (by omega), hk]; rfl
 · rw [h9 (by omega) (by omega) (by omega)]; exact h
theorem VM {e : TEv} (h : Eu p b s) (hm : BU p s e = true) : BU p s (UY p s e.Thread e.Kind) = true := by
 obtain ⟨f, h1, hk⟩ := Gc hm
 have hr := Bj f.re
 have hf := Oi f.re f.ft
 obtain ⟨m1, m2, m3, m13⟩ := U6 h hm
 have ht := fun q => NK (p := p) hk f.re q
 have hq := Ap (k := e.Kind)
 have hg := Bb (k := e.Kind)
 have hrg : (if B1 e.Kind = true then (Bv p s e.Thread).Ring else 0) = e.Ring := by
  split
  · rename_i q; exact hf.rg q
  · rename_i q; rcases hr.2.2.2.2.1 with w | w
    · exact absurd w q
    · exact w.symm
 have htk : (if e.Kind = 2 ∨ e.Kind = 4 then (Bv p s e.Thread).AG else if e.Kind = 1 ∨ e.Kind = 13 then (DP s (Bv p s e.Thread).Ring).Au else if e.Kind = 3 ∧ (Bv p s e.Thread).Kind = 2 then hd (DP s (Bv p s e.Thread).Ring) (Bv p s e.Thread).Reader else 0) = e.AG := by
  have hrr : As e.Kind = true → (Bv p s e.Thread).Ring = e.Ring := fun q => hf.rg (CF q)
  split
  · rename_i q
    rcases q with q | q
    · exact (hf.f2 q).2
    · exact (hf.f4 q).2
  · split
    · rename_i q
      rw [hrr (hq.2 (by omega))]
      rcases q with q | q
      · exact (m1 q).1.symm
      · exact (m13 q).symm
    · split
      · rename_i q
        rw [hrr (hq.2 (by omega))]
        have h2 := ht (hq.2 (by omega))
        unfold DA at h2
        rw [if_neg (by omega), if_neg (by omega), if_pos q.1] at h2
        simp only [Bool.and_eq_true, decide_eq_true_eq] at h2
        exact h2.2.symm
      · rename_i q2 q3 q
        have : As e.Kind ≠ true := fun w => by
         have := hq.1 w
         have := fun w => hf.f3 w
         omega
        exact ((hr.2.2.2.2.2.1).resolve_left this).symm
 unfold UY
 rw [hrg, htk]
 obtain ⟨et, ek, er, ec, ev⟩ := e
 refine Uw (v := ev) (fun q => ?_) (fun q8 q9 q10 => ?_) hm
 · simp only at q
   simp only [if_pos q]
   omega
 · simp only at q8 q9 q10
   simp only [if_neg q8]
   split
   · rename_i q; exact (hf.f12 q).2
   · rename_i q
     have : CR ek ≠ true := fun w => by simp only [CR, decide_eq_true_eq] at w; omega
     exact ((hr.2.2.2.2.2.2).resolve_left this).symm
end
end
section
structure Fe (P : MP) (l : List TEv) (n : Nat) (m : MS) : Prop where
 le : n ≤ l.length
 all : KI P (l.take n) (FF P) = some m
 bad : ∀ e, l[n]? = some e → BU P m e = false
section
variable {P : MP} {l : List TEv} {m m0 : MS} {e : TEv} {k : Nat}
theorem La (h : KI P (l.take k) m0 = some m) (he : l[k]? = some e) (ha : BU P m e = true) : KI P (l.take (k + 1)) m0 = some (An P m e) := by
 rw [List.take_add_one, he, all_append, h]
 show (if _ then _ else _) = _
 rw [if_pos ha]; rfl
theorem Qd {n : Nat} (h : KI P (l.take k) m0 = some m) (he : l[k]? = some e) (ha : BU P m e = false) (hn : k < n) : KI P (l.take n) m0 = none := by
 have e1 : l.take n = l.take k ++ (l.take n).drop k := by
  have := List.take_append_drop k (l.take n)
  rw [List.take_take, Nat.min_eq_left (by omega)] at this
  exact this.symm
 have hk : k < l.length := (List.getElem?_eq_some_iff.1 he).1
 have e2 : (l.take n).drop k = e :: (l.take n).drop (k + 1) := by
  have h1 : (l.take n)[k]? = some e := by rw [List.getElem?_take_of_lt hn]; exact he
  obtain ⟨h2, h3⟩ := List.getElem?_eq_some_iff.1 h1
  rw [List.drop_eq_getElem_cons h2, h3]
 rw [e1, e2, all_append, h]
 show (if _ then _ else _) = _
 rw [if_neg (by simp [ha])]
theorem Fe.uniq {n n' : Nat} {m' : MS} (h : Fe P l n m) (h' : Fe P l n' m') : n = n' ∧ m = m' := by
 have key : ∀ {n n' : Nat} {m m' : MS}, Fe P l n m → Fe P l n' m' → ¬ n < n' := fun {n n' m m'} h h' q => by
  have h1 : n < l.length := by have := h'.le; omega
  have h2 := h.bad _ (List.getElem?_eq_getElem h1)
  have := Qd h.all (List.getElem?_eq_getElem h1) h2 q
  rw [h'.all] at this
  cases this
 obtain rfl : n = n' := by have := key h h'; have := key h' h; omega
 refine ⟨rfl, ?_⟩
 have := h.all
 rw [h'.all] at this
 exact (Option.some.inj this).symm
end
end
end Go.Proofs.YtlhifcnjnmeknaaGreatDoor
