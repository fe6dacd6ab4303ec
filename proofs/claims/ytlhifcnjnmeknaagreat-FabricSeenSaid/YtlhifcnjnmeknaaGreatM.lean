/- Of what a fabric is, plainly: no statement is proved here. -/
import Derived.Test.YtlhifcnjnmeknaaGreatVmC
namespace Go.Proofs.YtlhifcnjnmeknaaGreat
open Go Go.Vm
section
structure TIn where
 Op : Int
 A : Int
 B : Int
 C : Int
 D : Int
 K : Int
structure TRg where
 Kind : Int
 Dn : Int
 AX : Int
structure TEv where
 Thread : Int
 Kind : Int
 Ring : Int
 AJ : Int
 Value : Int
structure TSo where
 AQ : Int
 Value : Int
 Left : Int
end
section
structure MT where
 At : Int
 Phase : Int
 Ring : Int
 Status : Int
 AJ : Int
 Ao : Nat → Int
 Seen : List Int
structure MR where
 A4 : Int
 An : List Int
 B4 : Bool
 Aw : List TSo
structure MS where
 AD : List MT
 AK : List MR
 Mj : Int
 Reads : Int
 FE : Bool
structure MP where
 AK : List TRg
 AD : List (List TIn)
structure MA where
 Kind : Int
 Ring : Int
 Mode : Int
 Reader : Int
 AJ : Int
 Value : Int
def zI : TIn := ⟨0, 0, 0, 0, 0, 0⟩
def zS : TSo := ⟨0, 0, 0⟩
def zA : MA := ⟨0, 0, 0, 0, 0, 0⟩
def zT : MT := ⟨0, 0, 0, 0, 0, fun _ => 0, []⟩
def zR : MR := ⟨0, [], false, []⟩
def gI (l : List TIn) (n : Int) : TIn := l.getD n.toNat zI
def DF (g : Nat → Int) (i v : Int) : Nat → Int := fun k => if k = i.toNat then v else g k
def MF (op a b : Int) : Int :=
 if op = 3 then IntKind.u64.wrap (a + b)
 else if op = 4 then IntKind.u64.wrap (a - b)
 else if op = 5 then IntKind.u64.wrap (a * b)
 else if op = 6 then (if b = 0 then 0 else a / b)
 else if op = 7 then (if b = 0 then 0 else a % b)
 else if op = 8 then ((a.toNat &&& b.toNat : Nat) : Int)
 else if op = 9 then ((a.toNat ||| b.toNat : Nat) : Int)
 else if op = 10 then ((a.toNat ^^^ b.toNat : Nat) : Int)
 else if op = 11 then IntKind.u64.wrap (a * 2 ^ (b % 64).toNat)
 else if op = 12 then a / 2 ^ (b % 64).toNat
 else if op = 13 then (if a < b then 1 else 0)
 else (if a = b then 1 else 0)
def Db (i : TIn) (t : MT) : MT :=
 if i.Op = 1 then { t with At := t.At + 1, Ao := DF t.Ao i.A i.K }
 else if i.Op = 2 then { t with At := t.At + 1, Ao := DF t.Ao i.A (t.Ao i.B.toNat) }
 else if i.Op = 15 ∨ (i.Op = 16 ∧ t.Ao i.A.toNat = 0) ∨ (i.Op = 17 ∧ t.Ao i.A.toNat ≠ 0) then { t with At := i.K }
 else if i.Op < 15 then { t with At := t.At + 1, Ao := DF t.Ao i.A (MF i.Op (t.Ao i.B.toNat) (t.Ao i.C.toNat)) }
 else { t with At := t.At + 1 }
def ER (l : List TIn) : Nat → MT → MT
 | 0, t => t
 | n + 1, t => if t.At < l.length ∧ (gI l t.At).Op ≤ 17 then ER l n (Db (gI l t.At) t) else t
def GQ (l : List TIn) (t : MT) : MA :=
 let i := gI l t.At
 if t.At = l.length then { zA with Kind := 8 }
 else if i.Op ≤ 17 then { zA with Kind := 9 }
 else if i.Op = 18 then ⟨1, i.C, i.D, 0, 0, t.Ao i.A.toNat⟩
 else if i.Op = 19 then ⟨2, i.C, i.D, i.K, 0, 0⟩
 else if i.Op = 20 then ⟨3, i.C, 0, 0, 0, 0⟩
 else if i.Op = 21 then { zA with Kind := 4 }
 else if i.Op = 22 then { zA with Kind := 5 }
 else if i.Op = 23 then { zA with Kind := 6 }
 else if i.Op = 24 then { zA with Kind := 7, Value := t.Ao i.A.toNat }
 else { zA with Kind := 8 }
def Bp (l : List TIn) (t : MT) : MT × MA :=
 if t.Status ≠ 0 then (t, zA)
 else if t.Phase = 1 then (t, ⟨10, t.Ring, 0, 0, t.AJ, t.Ao (gI l t.At).A.toNat⟩)
 else if t.Phase = 2 then (t, ⟨11, t.Ring, 0, (gI l t.At).K, t.AJ, 0⟩)
 else (ER l 256 t, GQ l (ER l 256 t))
def BB (k : Int) : Bool := decide (1 ≤ k ∧ k ≤ 4 ∨ k = 13)
def Cn (k : Int) : Bool := decide (1 ≤ k ∧ k ≤ 7 ∨ k = 13)
def Er (k : Int) : Bool := decide (8 ≤ k ∧ k ≤ 10 ∨ k = 12)
def Bt (e : TEv) : Bool :=
 decide ((1 ≤ e.Kind ∧ e.Kind ≤ 15) ∧ (0 ≤ e.Thread ∧ e.Thread ≤ 7) ∧ (0 ≤ e.Ring ∧ e.Ring ≤ 7) ∧ e.AJ < 4611686018427387904 ∧
  (Cn e.Kind = true ∨ e.Ring = 0) ∧ (BB e.Kind = true ∨ e.AJ = 0) ∧ (Er e.Kind = true ∨ e.Value = 0))
def Fs (k : Int) : Int :=
 if k = 1 then 1 else if k = 2 then 10 else if k = 3 then 2 else if k = 4 then 11 else if k = 8 then 4 else if k = 9 then 5 else if k = 10 then 6 else if k = 11 then 6
 else if k = 12 then 7 else if k = 13 then 3 else if k = 14 then 8 else 9
def Dc (a : MA) (e : TEv) : Bool :=
 (!Cn e.Kind || decide (a.Ring = e.Ring)) &&
 (if e.Kind = 5 then decide ((a.Kind = 1 ∨ a.Kind = 2) ∧ a.Mode = 0)
  else if e.Kind = 6 then decide (a.Kind = 1 ∨ a.Kind = 2)
  else if e.Kind = 7 then decide ((a.Kind = 1 ∨ a.Kind = 2) ∧ a.Mode = 2)
  else if e.Kind = 2 ∨ e.Kind = 4 then decide (a.Kind = Fs e.Kind ∧ a.AJ = e.AJ)
  else if e.Kind = 12 then decide (a.Kind = 7 ∧ a.Value = e.Value)
  else decide (a.Kind = Fs e.Kind))
def A8 (i : TIn) (t : MT) (e : TEv) (v : Int) : MT :=
 if e.Kind = 1 then { t with Phase := 1, Ring := e.Ring, AJ := e.AJ }
 else if e.Kind = 3 then { t with Phase := 2, Ring := e.Ring, AJ := e.AJ }
 else if e.Kind = 14 then { t with Status := 1 }
 else if e.Kind = 15 then { t with Status := 2 }
 else
  let g :=
   if e.Kind = 2 then DF t.Ao i.B 0
   else if e.Kind = 4 then DF (DF t.Ao i.A v) i.B 0
   else if e.Kind = 5 then DF t.Ao i.B 1
   else if e.Kind = 6 then DF t.Ao i.B 2
   else if e.Kind = 7 then DF t.Ao i.B 3
   else if e.Kind = 8 then DF t.Ao i.A e.Value
   else if e.Kind = 9 then DF t.Ao i.A e.Value
   else if e.Kind = 10 then DF (DF t.Ao i.A e.Value) i.B 0
   else if e.Kind = 11 then DF t.Ao i.B 1
   else t.Ao
  { t with Ao := g, Seen := if e.Kind = 12 then t.Seen ++ [e.Value] else t.Seen, Phase := 0, Ring := 0, AJ := 0, At := t.At + 1 }
def hd (r : MR) (j : Int) : Int := r.An.getD j.toNat 0
def IV (r : MR) : Int := r.Aw.length
def E5 (r : MR) : Bool := r.An.any fun h => decide (IV r ≤ r.A4 - h)
def FO (r : MR) (j : Int) : Bool := decide (hd r j = r.A4)
def IP (r : MR) (t : Int) : Nat := (t % IV r).toNat
def A2 (r : MR) (t : Int) : TSo := r.Aw.getD (IP r t) zS
def EE (x : Int) (j : Int) : Bool := decide (x / 2 ^ j.toNat % 2 = 1)
def JM (r : MR) (t : Int) : Bool := decide (t < r.A4 ∧ (A2 r t).AQ = 2 * t)
def NF (r : MR) (j t : Int) : Bool := decide (t < hd r j ∧ (A2 r t).AQ = 2 * t + 1 ∧ EE (A2 r t).Left j = true)
def Ds (r : MR) (a : MA) (e : TEv) : Bool :=
 if e.Kind = 1 then !E5 r && decide (e.AJ = r.A4)
 else if e.Kind = 2 then JM r e.AJ
 else if e.Kind = 3 then !FO r a.Reader && decide (e.AJ = hd r a.Reader)
 else if e.Kind = 4 then NF r a.Reader e.AJ
 else decide (e.AJ = r.A4)
def Ox (r : MR) (t v : Int) : MR := { r with Aw := r.Aw.set (IP r t) ⟨2 * t + 1, v, 2 ^ r.An.length - 1⟩ }
def E4 (r : MR) (j : Int) : MR := { r with An := r.An.set j.toNat (hd r j + 1) }
def Oy (x : TSo) (j t c : Int) : TSo := if x.Left - 2 ^ j.toNat = 0 then ⟨2 * (t + c), 0, 0⟩ else { x with Left := x.Left - 2 ^ j.toNat }
def QM (r : MR) (j t : Int) : MR := { r with Aw := r.Aw.set (IP r t) (Oy (A2 r t) j t (IV r)) }
def B9 (r : MR) (a : MA) (e : TEv) : MR :=
 if e.Kind = 1 then { r with A4 := r.A4 + 1 }
 else if e.Kind = 2 then Ox r e.AJ a.Value
 else if e.Kind = 3 then E4 r a.Reader
 else if e.Kind = 4 then QM r a.Reader e.AJ
 else if e.Kind = 13 then { r with B4 := true }
 else r
def GL (s : MS) (t : Int) : MT := s.AD.getD t.toNat zT
def EH (s : MS) (i : Int) : MR := s.AK.getD i.toNat zR
def BV (p : MP) (t : Int) : List TIn := p.AD.getD t.toNat []
def CC (p : MP) (s : MS) (t : Int) : MA := (Bp (BV p t) (GL s t)).2
def FY (p : MP) (s : MS) (e : TEv) : Int :=
 if Bt e = false then 3
 else if (s.AD.length : Int) ≤ e.Thread then 5
 else if (CC p s e.Thread).Kind = 0 ∨ Dc (CC p s e.Thread) e = false then 11
 else 0
def H4 (r : MR) (a : MA) : Bool := if a.Kind = 1 then r.B4 || E5 r else FO r a.Reader
def QN (s : MS) (a : MA) (e : TEv) : Bool :=
 let r := EH s e.Ring
 if e.Kind = 5 ∨ e.Kind = 7 then H4 r a && !r.B4
 else if e.Kind = 6 then H4 r a && r.B4
 else if e.Kind = 8 then decide (s.Mj ≤ e.Value ∧ e.Value - s.Mj < 1048576)
 else if e.Kind = 10 then !s.FE
 else if e.Kind = 1 then Ds r a e && !r.B4
 else !BB e.Kind || Ds r a e
def CN (p : MP) (s : MS) (e : TEv) : Bool := decide (FY p s e = 0) && QN s (CC p s e.Thread) e
def Ai (p : MP) (s : MS) (e : TEv) : MS :=
 let n := Bp (BV p e.Thread) (GL s e.Thread)
 let r := EH s e.Ring
 let v := if e.Kind = 4 then (A2 r e.AJ).Value else 0
 { AD := s.AD.set e.Thread.toNat (A8 (gI (BV p e.Thread) n.1.At) n.1 e v)
   AK := if BB e.Kind = true then s.AK.set e.Ring.toNat (B9 r n.2 e) else s.AK
   Mj := if e.Kind = 8 then max s.Mj e.Value else s.Mj
   Reads := if e.Kind = 10 then IntKind.u64.wrap (s.Reads + 1) else s.Reads
   FE := if e.Kind = 11 then true else s.FE }
def Rb (p : MP) (s : MS) (e : TEv) : Int × MS :=
 if FY p s e ≠ 0 then (FY p s e, s) else if CN p s e = false then (11, s) else (0, Ai p s e)
def H5 (c : TRg) : MR := ⟨0, List.replicate c.AX.toNat 0, false, (List.range c.Dn.toNat).map fun i : Nat => (⟨2 * (i : Int), 0, 0⟩ : TSo)⟩
def GN (p : MP) : MS := ⟨p.AD.map fun _ => zT, p.AK.map H5, 0, 0, false⟩
def BO (i : TIn) : Bool :=
 let r := fun (x : Int) (m : Int) => decide (0 ≤ x ∧ x ≤ m)
 if i.Op = 1 then r i.A 7 && r i.B 0 && r i.C 0 && r i.D 0
 else if i.Op = 2 ∨ i.Op = 23 then r i.A 7 && r i.B 7 && r i.C 0 && r i.D 0 && r i.K 0
 else if 3 ≤ i.Op ∧ i.Op ≤ 14 then r i.A 7 && r i.B 7 && r i.C 7 && r i.D 0 && r i.K 0
 else if i.Op = 15 then r i.A 0 && r i.B 0 && r i.C 0 && r i.D 0 && r i.K 256
 else if i.Op = 16 ∨ i.Op = 17 then r i.A 7 && r i.B 0 && r i.C 0 && r i.D 0 && r i.K 256
 else if i.Op = 18 then r i.A 7 && r i.B 7 && r i.C 7 && r i.D 2 && r i.K 0
 else if i.Op = 19 then r i.A 7 && r i.B 7 && r i.C 7 && r i.D 2 && r i.K 7
 else if i.Op = 20 then r i.A 0 && r i.B 0 && r i.C 7 && r i.D 0 && r i.K 0
 else if i.Op = 21 ∨ i.Op = 22 ∨ i.Op = 24 then r i.A 7 && r i.B 0 && r i.C 0 && r i.D 0 && r i.K 0
 else if i.Op = 25 then r i.A 0 && r i.B 0 && r i.C 0 && r i.D 0 && r i.K 0
 else false
def As (c : TRg) : Bool := decide (1 ≤ c.Dn ∧ c.Dn ≤ 64 ∧ (c.Kind = 1 ∧ c.AX = 1 ∨ c.Kind = 2 ∧ 1 ≤ c.AX ∧ c.AX ≤ 8))
def Ci (rs : List TRg) (i : TIn) (n : Int) : Int :=
 if BO i = false then 6
 else if 15 ≤ i.Op ∧ i.Op ≤ 17 ∧ n < i.K then 5
 else if 18 ≤ i.Op ∧ i.Op ≤ 20 ∧ (rs.length : Int) ≤ i.C then 7
 else if i.Op = 19 ∧ (rs.getD i.C.toNat ⟨0, 0, 0⟩).AX ≤ i.K then 7
 else 0
structure FD (p : MP) : Prop where
 t1 : 1 ≤ p.AD.length
 t8 : p.AD.length ≤ 8
 r8 : p.AK.length ≤ 8
 rg : ∀ c ∈ p.AK, As c = true
 len : ∀ l ∈ p.AD, l.length ≤ 256
 ins : ∀ l ∈ p.AD, ∀ i ∈ l, Ci p.AK i l.length = 0
structure Mh (c : Int) (nr : Nat) (tail : Int) (AB : List Int) (i : Nat) (x : TSo) : Prop where
 s0 : 0 ≤ x.AQ
 s1 : x.AQ < 9223372036854775808
 Sv : x.AQ / 2 % c = i
 free : x.AQ % 2 = 0 → x.Value = 0 ∧ x.Left = 0
 held : x.AQ % 2 = 1 → 1 ≤ x.Left ∧ x.Left < 2 ^ nr
 N1 : x.AQ % 2 = 1 → x.AQ / 2 < tail
 Rk : x.AQ % 2 = 1 → ∀ (j : Nat) (h : Int), AB[j]? = some h → EE x.Left (j : Int) = false → x.AQ / 2 < h
 Qg : x.AQ % 2 = 0 → c ≤ x.AQ / 2 → ∀ h ∈ AB, x.AQ / 2 - c < h
structure C8 (c : TRg) (b : Int) (r : MR) : Prop where
 cap : (r.Aw.length : Int) = c.Dn
 rd : (r.An.length : Int) = c.AX
 t0 : 0 ≤ r.A4
 tb : r.A4 < b
 h0 : ∀ h ∈ r.An, 0 ≤ h ∧ h ≤ r.A4 ∧ r.A4 - h ≤ c.Dn
 sl : ∀ (i : Nat) x, r.Aw[i]? = some x → Mh c.Dn r.An.length r.A4 r.An i x
structure Ew (l : List TIn) (t : MT) : Prop where
 a0 : 0 ≤ t.At
 a1 : t.At ≤ l.length
 st : 0 ≤ t.Status ∧ t.Status ≤ 2
 ph : 0 ≤ t.Phase ∧ t.Phase ≤ 2
 p0 : t.Phase = 0 → t.Ring = 0 ∧ t.AJ = 0
 p1 : t.Phase ≠ 0 → t.Status = 0 ∧ t.At < l.length ∧ (gI l t.At).Op = 17 + t.Phase ∧ (gI l t.At).C = t.Ring ∧ 0 ≤ t.AJ ∧ t.AJ < 4611686018427387904
structure D4 (p : MP) (b : Int) (s : MS) : Prop where
 pi : FD p
 nt : s.AD.length = p.AD.length
 nr : s.AK.length = p.AK.length
 n0 : 0 ≤ s.Mj
 ri : ∀ (i : Nat) c r, p.AK[i]? = some c → s.AK[i]? = some r → C8 c b r
 ti : ∀ (i : Nat) l t, p.AD[i]? = some l → s.AD[i]? = some t → Ew l t
 p1 : ∀ (i : Nat) t, s.AD[i]? = some t → t.Phase = 1 → t.AJ < (EH s t.Ring).A4
 p2 : ∀ (i : Nat) l t, p.AD[i]? = some l → s.AD[i]? = some t → t.Phase = 2 → t.AJ < hd (EH s t.Ring) (gI l t.At).K
end
section
theorem Fo (n : Nat) : 0 < (2 : Int) ^ n := Int.pow_pos (by decide)
theorem EB {α : Type} {l : List α} {i : Nat} {d : α} (h : i < l.length) : l[i]? = some (l.getD i d) := by simp [List.getD, List.getElem?_eq_getElem h]
theorem Dl {α : Type} {l : List α} {i : Nat} {x d : α} (h : i < l.length) : (l.set i x).getD i d = x := by simp [List.getD, h]
theorem getD_set_ne {α : Type} {l : List α} {i j : Nat} {x d : α} (h : i ≠ j) : (l.set i x).getD j d = l.getD j d := by simp [List.getD, List.getElem?_set_ne h]
section
variable {c : TRg} {b b' : Int} {r : MR}
theorem Ej (h : As c = true) : 1 ≤ c.Dn ∧ c.Dn ≤ 64 ∧ 1 ≤ c.AX ∧ c.AX ≤ 8 := by
 simp only [As, decide_eq_true_eq] at h; omega
theorem C8.mono (h : C8 c b r) (k : b ≤ b') : C8 c b' r := { h with tb := by have := h.tb; omega }
theorem Mh.mono {cp : Int} {nr : Nat} {tail tail' : Int} {AB heads' : List Int} {i : Nat} {x : TSo} (h : Mh cp nr tail AB i x) (ht : tail ≤ tail')
 (hh : ∀ (j : Nat) (y : Int), heads'[j]? = some y → ∃ z : Int, AB[j]? = some z ∧ z ≤ y) : Mh cp nr tail' heads' i x where
 s0 := h.s0
 s1 := h.s1
 Sv := h.Sv
 free := h.free
 held := h.held
 N1 k := by have := h.N1 k; omega
 Rk k j y hy hb := by
  obtain ⟨z, h1, h2⟩ := hh j y hy
  have := h.Rk k j z h1 hb
  omega
 Qg k k2 y hy := by
  obtain ⟨j, hj⟩ := List.getElem?_of_mem hy
  obtain ⟨z, h1, h2⟩ := hh j y hj
  have := h.Qg k k2 z (List.mem_of_getElem? h1)
  omega
theorem MD (h : E5 r = false) : ∀ x ∈ r.An, r.A4 - x < IV r := by
 intro x hx
 simp only [E5, List.any_eq_false, decide_eq_true_eq] at h
 have := h x hx
 omega
theorem C8.R6 (h : C8 c b r) (hf : E5 r = false) : C8 c (b + 1) { r with A4 := r.A4 + 1 } where
 cap := h.cap
 rd := h.rd
 t0 := by have := h.t0; show 0 ≤ r.A4 + 1; omega
 tb := by have := h.tb; show r.A4 + 1 < b + 1; omega
 h0 x hx := by
  have h1 := h.h0 x hx
  have h2 := MD hf x hx
  have h3 := h.cap
  unfold IV at h2
  show 0 ≤ x ∧ x ≤ r.A4 + 1 ∧ r.A4 + 1 - x ≤ c.Dn
  omega
 sl i x hx := (h.sl i x hx).mono (by show r.A4 ≤ r.A4 + 1; omega) fun j y hy => ⟨y, hy, Int.le_refl _⟩
theorem Kw (h : C8 c b r) (hc : As c = true) (t : Int) : IP r t < r.Aw.length := by
 have h1 := h.cap
 have h2 := Ej hc
 unfold IP IV
 have h3 := Int.emod_nonneg t (b := (r.Aw.length : Int)) (by omega)
 have h4 := Int.emod_lt_of_pos t (b := (r.Aw.length : Int)) (by omega)
 omega
theorem KE (h : C8 c b r) (hc : As c = true) (t : Int) : r.Aw[IP r t]? = some (A2 r t) := EB (Kw h hc t)
theorem P9 (h : C8 c b r) (hc : As c = true) (t : Int) : t % c.Dn = (IP r t : Int) := by
 have h1 := h.cap
 have h2 := Ej hc
 unfold IP IV
 rw [h1]
 have h3 := Int.emod_nonneg t (b := c.Dn) (by omega)
 omega
theorem Eb {α : Type} {l : List α} {k i : Nat} {x y : α} (h : (l.set k x)[i]? = some y) (hk : k < l.length) : (i = k ∧ y = x) ∨ (i ≠ k ∧ l[i]? = some y) := by
 by_cases e : k = i
 · subst e
   rw [List.getElem?_set_self hk] at h
   exact .inl ⟨rfl, (Option.some.inj h).symm⟩
 · rw [List.getElem?_set_ne e] at h
   exact .inr ⟨fun k => e k.symm, h⟩
theorem Qs {n j : Nat} (h : j < n) : EE (2 ^ n - 1) (j : Int) = true := by
 simp only [EE, decide_eq_true_eq, Int.toNat_natCast]
 obtain ⟨d, rfl⟩ : ∃ d, n = j + (d + 1) := ⟨n - j - 1, by omega⟩
 have h1 : (2 : Int) ^ (j + (d + 1)) - 1 = (2 ^ (d + 1) - 1) * 2 ^ j + (2 ^ j - 1) := by
  rw [Int.pow_add, Int.sub_mul, Int.mul_comm (2 ^ j)]; omega
 have h2 := Fo j
 rw [h1, Int.add_comm, Int.add_mul_ediv_right _ _ (by omega), Int.ediv_eq_zero_of_lt (by omega) (by omega)]
 have h3 : (2 : Int) ^ (d + 1) = 2 * 2 ^ d := by rw [Int.pow_succ, Int.mul_comm]
 omega
theorem C8.put (h : C8 c b r) (hc : As c = true) {t v : Int} (hf : JM r t = true) (t0 : 0 ≤ t) (hb : b ≤ 4611686018427387904) : C8 c b (Ox r t v) where
 cap := by have := h.cap; simpa [Ox] using this
 rd := h.rd
 t0 := h.t0
 tb := h.tb
 h0 := h.h0
 sl i x hx := by
  simp only [JM, decide_eq_true_eq] at hf
  rcases Eb hx (Kw h hc t) with ⟨rfl, rfl⟩ | ⟨_, hx⟩
  · have ht : t < r.A4 := hf.1
    have hlt := h.tb
    have hd : (2 * t + 1) / 2 = t := by omega
    have hm : (2 * t + 1) % 2 = 1 := by omega
    have hp := Fo r.An.length
    have hrd := h.rd
    have hr := (Ej hc).2.2
    refine ⟨by show 0 ≤ 2 * t + 1; omega, by show 2 * t + 1 < _; omega, by show (2 * t + 1) / 2 % c.Dn = _; rw [hd]; exact P9 h hc t, fun k => by exfalso; change (2 * t + 1) % 2 = 0 at k; omega, fun _ => ?_, fun _ => by show (2 * t + 1) / 2 < r.A4; omega,
     fun _ j y hy hb => ?_, fun k => by exfalso; change (2 * t + 1) % 2 = 0 at k; omega⟩
    · show 1 ≤ (2 : Int) ^ r.An.length - 1 ∧ (2 : Int) ^ r.An.length - 1 < 2 ^ r.An.length
      obtain ⟨d, hd⟩ : ∃ d, r.An.length = d + 1 := ⟨r.An.length - 1, by omega⟩
      rw [hd, Int.pow_succ]
      have := Fo d
      omega
    · have hj : j < r.An.length := (List.getElem?_eq_some_iff.1 hy).1
      have := Qs hj
      change EE (2 ^ r.An.length - 1) (j : Int) = false at hb
      rw [this] at hb
      cases hb
  · exact h.sl i x hx
theorem C8.take (h : C8 c b r) {j : Int} (hj : (j.toNat) < r.An.length) (he : FO r j = false) : C8 c b (E4 r j) where
 cap := h.cap
 rd := by have := h.rd; simpa [E4] using this
 t0 := h.t0
 tb := h.tb
 h0 x hx := by
  simp only [FO, decide_eq_false_iff_not] at he
  obtain ⟨k, hk⟩ := List.getElem?_of_mem hx
  have hd0 : r.An[j.toNat]? = some (hd r j) := EB hj
  have h1 := h.h0 _ (List.mem_of_getElem? hd0)
  rcases Eb hk hj with ⟨rfl, rfl⟩ | ⟨_, hk⟩
  · show 0 ≤ hd r j + 1 ∧ hd r j + 1 ≤ r.A4 ∧ r.A4 - (hd r j + 1) ≤ c.Dn
    omega
  · exact h.h0 x (List.mem_of_getElem? hk)
 sl i x hx := by
  have hl : (E4 r j).An.length = r.An.length := by simp [E4]
  rw [hl]
  refine (h.sl i x hx).mono (Int.le_refl _) fun k y hy => ?_
  rcases Eb hy hj with ⟨rfl, rfl⟩ | ⟨_, hk⟩
  · exact ⟨_, EB hj, by show hd r j ≤ hd r j + 1; omega⟩
  · exact ⟨y, hk, Int.le_refl _⟩
theorem C8.close (h : C8 c b r) : C8 c b { r with B4 := true } where
 cap := h.cap
 rd := h.rd
 t0 := h.t0
 tb := h.tb
 h0 := h.h0
 sl := h.sl
end
theorem PN : ∀ (x : Fin 256) (j k : Fin 8), EE (x.val : Int) (j.val : Int) = true → EE ((x.val : Int) - 2 ^ j.val) (k.val : Int) = (EE (x.val : Int) (k.val : Int) && !decide (k = j)) ∧ (0 : Int) ≤ (x.val : Int) - 2 ^ j.val := by decide +kernel
theorem Jf {x : Int} {j k n : Nat} (h0 : 0 ≤ x) (h1 : x < 2 ^ n) (hn : n ≤ 8) (hj : j < n) (hk : k < n) (hb : EE x (j : Int) = true) :
 EE (x - 2 ^ j) (k : Int) = (EE x (k : Int) && !decide (k = j)) ∧ 0 ≤ x - 2 ^ j := by
 have h2 : (2 : Int) ^ n ≤ 2 ^ 8 := by
  have := Nat.pow_le_pow_right (n := 2) (by decide) hn
  exact_mod_cast this
 have e : ((x.toNat : Nat) : Int) = x := Int.toNat_of_nonneg h0
 have := PN ⟨x.toNat, by omega⟩ ⟨j, by omega⟩ ⟨k, by omega⟩
 simp only [e, Fin.mk.injEq] at this
 exact this hb
theorem PO (k : Int) : EE 0 k = false := by simp [EE]
section
variable {c : TRg} {b : Int} {r : MR}
theorem C8.rel (h : C8 c b r) (hc : As c = true) {j t : Int} (hj0 : 0 ≤ j) (hj : j.toNat < r.An.length) (hh : NF r j t = true) (hb : b ≤ 2305843009213693952) : C8 c b (QM r j t) where
 cap := by have := h.cap; simpa [QM] using this
 rd := h.rd
 t0 := h.t0
 tb := h.tb
 h0 := h.h0
 sl i x hx := by
  simp only [NF, decide_eq_true_eq] at hh
  obtain ⟨hlt, hst, hbit⟩ := hh
  rcases Eb hx (Kw h hc t) with ⟨rfl, rfl⟩ | ⟨_, hx⟩
  · have hS := h.sl _ _ (KE h hc t)
    have hrc := Ej hc
    have hrd := h.rd
    have htb := h.tb
    have hcap : IV r = c.Dn := h.cap
    have hd0 : r.An[j.toNat]? = some (hd r j) := EB hj
    have hhd := h.h0 _ (List.mem_of_getElem? hd0)
    have hs0 := hS.s0
    have hm : (A2 r t).AQ % 2 = 1 := by omega
    have hdv : (A2 r t).AQ / 2 = t := by omega
    have hheld := hS.held hm
    have hjn : ((j.toNat : Nat) : Int) = j := Int.toNat_of_nonneg hj0
    have hclr : ∀ k : Nat, k < r.An.length → EE ((A2 r t).Left - 2 ^ j.toNat) (k : Int) = (EE (A2 r t).Left (k : Int) && !decide (k = j.toNat)) ∧ 0 ≤ (A2 r t).Left - 2 ^ j.toNat :=
     fun k hk => Jf (by omega) hheld.2 (by omega) hj hk (by rw [hjn]; exact hbit)
    have hlow : ∀ (k : Nat) (y : Int), r.An[k]? = some y → EE ((A2 r t).Left - 2 ^ j.toNat) (k : Int) = false → t < y := by
     intro k y hy hbk
     have hk : k < r.An.length := (List.getElem?_eq_some_iff.1 hy).1
     rw [(hclr k hk).1] at hbk
     by_cases e : k = j.toNat
     · subst e; rw [hd0] at hy; cases hy; exact hlt
     · simp only [e, decide_false, Bool.not_false, Bool.and_true] at hbk
       have := hS.Rk hm k y hy hbk
       omega
    unfold Oy
    split
    · rename_i hz
      rw [hz] at hlow
      rw [hcap]
      have e : 2 * (t + c.Dn) / 2 = t + c.Dn := by omega
      refine ⟨by show 0 ≤ 2 * (t + c.Dn); omega, by show 2 * (t + c.Dn) < _; omega, ?_, fun _ => ⟨rfl, rfl⟩, fun k => by exfalso; change 2 * (t + c.Dn) % 2 = 1 at k; omega, fun k => by exfalso; change 2 * (t + c.Dn) % 2 = 1 at k; omega,
       fun k => by exfalso; change 2 * (t + c.Dn) % 2 = 1 at k; omega, fun _ _ y hy => ?_⟩
      · show 2 * (t + c.Dn) / 2 % c.Dn = _
        rw [e, Int.add_emod_right]
        exact P9 h hc t
      · show 2 * (t + c.Dn) / 2 - c.Dn < y
        obtain ⟨k, hk⟩ := List.getElem?_of_mem hy
        have := hlow k y hk (PO _)
        omega
    · rename_i hz
      have h2 := (hclr _ hj).2
      have hp := Fo j.toNat
      exact ⟨hS.s0, hS.s1, hS.Sv, fun k => by exfalso; change (A2 r t).AQ % 2 = 0 at k; omega, fun _ => ⟨by show 1 ≤ (A2 r t).Left - 2 ^ j.toNat; omega, by show (A2 r t).Left - 2 ^ j.toNat < 2 ^ r.An.length; omega⟩, hS.N1,
       fun _ k y hy hbk => by show (A2 r t).AQ / 2 < y; rw [hdv]; exact hlow k y hy hbk, fun k => by exfalso; change (A2 r t).AQ % 2 = 0 at k; omega⟩
  · exact h.sl i x hx
theorem JT {α : Type} (f : Nat → α) (n i : Nat) (x : α) (h : ((List.range n).map f)[i]? = some x) : i < n ∧ x = f i := by
 simp only [List.getElem?_map, Option.map_eq_some_iff] at h
 obtain ⟨k, hk, rfl⟩ := h
 obtain ⟨h1, h2⟩ := List.getElem?_eq_some_iff.1 hk
 simp at h1 h2
 subst h2
 exact ⟨h1, rfl⟩
theorem C8.new (hc : As c = true) (hb : 0 < b) : C8 c b (H5 c) where
 cap := by have := Ej hc; simp [H5]; omega
 rd := by have := Ej hc; simp [H5]; omega
 t0 := Int.le_refl _
 tb := hb
 h0 x hx := by
  have := Ej hc
  simp only [H5, List.mem_replicate] at hx
  obtain ⟨_, rfl⟩ := hx
  show (0 : Int) ≤ 0 ∧ (0 : Int) ≤ 0 ∧ (0 : Int) - 0 ≤ c.Dn
  omega
 sl i x hx := by
  have hcp := Ej hc
  obtain ⟨hi, rfl⟩ := JT _ _ _ _ hx
  refine ⟨by show 0 ≤ 2 * (i : Int); omega, by show 2 * (i : Int) < _; omega, ?_, fun _ => ⟨rfl, rfl⟩, fun k => by exfalso; change 2 * (i : Int) % 2 = 1 at k; omega, fun k => by exfalso; change 2 * (i : Int) % 2 = 1 at k; omega,
   fun k => by exfalso; change 2 * (i : Int) % 2 = 1 at k; omega, fun _ k => by exfalso; change c.Dn ≤ 2 * (i : Int) / 2 at k; omega⟩
  show 2 * (i : Int) / 2 % c.Dn = i
  rw [show 2 * (i : Int) / 2 = i by omega]
  exact Int.emod_eq_of_lt (by omega) (by omega)
end
end
section
theorem Gd {l : List TIn} {n : Int} (h0 : 0 ≤ n) (h1 : n < l.length) : gI l n ∈ l := by
 have : n.toNat < l.length := by omega
 exact List.mem_of_getElem? (EB this)
theorem BM {i : TIn} (h : BO i = true) :
 (1 ≤ i.Op ∧ i.Op ≤ 25) ∧ (0 ≤ i.A ∧ i.A ≤ 7) ∧ (0 ≤ i.B ∧ i.B ≤ 7) ∧ (0 ≤ i.C ∧ i.C ≤ 7) ∧ (0 ≤ i.D ∧ i.D ≤ 2) ∧ (i.Op ≠ 1 → 0 ≤ i.K ∧ i.K ≤ 256) ∧ (i.Op = 19 → i.K ≤ 7) := by
 unfold BO at h
 simp only at h
 repeat' split at h
 all_goals first | (exact absurd h (by decide)) | (simp only [Bool.and_eq_true, decide_eq_true_eq] at h; omega)
theorem FT {rs : List TRg} {i : TIn} {n : Int} (h : Ci rs i n = 0) :
 BO i = true ∧ (15 ≤ i.Op ∧ i.Op ≤ 17 → i.K ≤ n) ∧ (18 ≤ i.Op ∧ i.Op ≤ 20 → i.C < rs.length) ∧ (i.Op = 19 → i.K < (rs.getD i.C.toNat ⟨0, 0, 0⟩).AX) := by
 unfold Ci at h
 repeat' split at h
 all_goals first
  | (exfalso; omega)
  | (refine ⟨?_, ?_, ?_, ?_⟩
     · cases e : BO i
       · exact absurd e ‹_›
       · rfl
     all_goals (intro hh; omega))
def F5 (rs : List TRg) (l : List TIn) : Prop := ∀ i ∈ l, Ci rs i l.length = 0
section
variable {rs : List TRg} {l : List TIn} {t : MT}
structure Kept (t u : MT) : Prop where
 ph : u.Phase = t.Phase
 rg : u.Ring = t.Ring
 st : u.Status = t.Status
 tk : u.AJ = t.AJ
 sn : u.Seen = t.Seen
theorem Kept.refl (t : MT) : Kept t t := ⟨rfl, rfl, rfl, rfl, rfl⟩
theorem Kept.trans {t u v : MT} (a : Kept t u) (b : Kept u v) : Kept t v := ⟨b.ph.trans a.ph, b.rg.trans a.rg, b.st.trans a.st, b.tk.trans a.tk, b.sn.trans a.sn⟩
theorem O7 (i : TIn) (t : MT) : Kept t (Db i t) := by
 unfold Db
 repeat' split
 all_goals exact ⟨rfl, rfl, rfl, rfl, rfl⟩
theorem Ni {i : TIn} {t : MT} {n : Int} (h0 : 0 ≤ t.At) (h1 : t.At < n) (hk : i.Op ≠ 1 → 0 ≤ i.K) (hj : 15 ≤ i.Op ∧ i.Op ≤ 17 → i.K ≤ n) : 0 ≤ (Db i t).At ∧ (Db i t).At ≤ n := by
 unfold Db
 repeat' split
 all_goals (simp only; omega)
theorem F7 (hc : F5 rs l) : ∀ (n : Nat) (t : MT), 0 ≤ t.At → t.At ≤ l.length → Kept t (ER l n t) ∧ 0 ≤ (ER l n t).At ∧ (ER l n t).At ≤ l.length
 | 0, t, h0, h1 => ⟨Kept.refl t, h0, h1⟩
 | n + 1, t, h0, h1 => by
   unfold ER
   split
   · rename_i h
     have hm := Gd h0 h.1
     have hf := FT (hc _ hm)
     have hr := BM hf.1
     have hs := Ni (i := gI l t.At) h0 h.1 (fun k => (hr.2.2.2.2.2.1 k).1) hf.2.1
     obtain ⟨k1, k2⟩ := F7 hc n (Db (gI l t.At) t) hs.1 hs.2
     exact ⟨(O7 _ _).trans k1, k2⟩
   · exact ⟨Kept.refl t, h0, h1⟩
theorem Ew.kept {t u : MT} (h : Ew l t) (hp : t.Phase = 0) (k : Kept t u) (h0 : 0 ≤ u.At) (h1 : u.At ≤ l.length) : Ew l u where
 a0 := h0
 a1 := h1
 st := by rw [k.st]; exact h.st
 ph := by rw [k.ph]; exact h.ph
 p0 _ := by rw [k.rg, k.tk]; exact h.p0 hp
 p1 q := by rw [k.ph] at q; exact absurd hp q
theorem KN (hc : F5 rs l) (h : Ew l t) : Kept t (Bp l t).1 ∧ Ew l (Bp l t).1 := by
 unfold Bp
 repeat' split
 · exact ⟨Kept.refl t, h⟩
 · exact ⟨Kept.refl t, h⟩
 · exact ⟨Kept.refl t, h⟩
 · have hp : t.Phase = 0 := by have := h.ph; omega
   obtain ⟨k1, k2, k3⟩ := F7 hc 256 t h.a0 h.a1
   exact ⟨k1, h.kept hp k1 k2 k3⟩
structure OL (l : List TIn) (t n : MT) (a : MA) : Prop where
 run : a.Kind ≠ 0 → t.Status = 0
 k1 : a.Kind = 1 → n.Phase = 0 ∧ n.At < l.length ∧ (gI l n.At).Op = 18 ∧ a.Ring = (gI l n.At).C
 k2 : a.Kind = 2 → n.Phase = 0 ∧ n.At < l.length ∧ (gI l n.At).Op = 19 ∧ a.Ring = (gI l n.At).C ∧ a.Reader = (gI l n.At).K
 k3 : a.Kind = 3 → n.Phase = 0 ∧ n.At < l.length ∧ (gI l n.At).Op = 20 ∧ a.Ring = (gI l n.At).C
 kn : 4 ≤ a.Kind ∧ a.Kind ≤ 7 → n.Phase = 0 ∧ n.At < l.length
 kh : a.Kind = 8 ∨ a.Kind = 9 → n.Phase = 0
 kp : a.Kind = 10 → n.Phase = 1 ∧ n.At < l.length ∧ a.Ring = n.Ring ∧ a.AJ = n.AJ
 kr : a.Kind = 11 → n.Phase = 2 ∧ n.At < l.length ∧ a.Ring = n.Ring ∧ a.AJ = n.AJ ∧ a.Reader = (gI l n.At).K
 ks : a.Kind = 7 → n.Phase = 0
 top : 0 ≤ a.Kind ∧ a.Kind ≤ 11
theorem Md (hc : F5 rs l) (h : Ew l t) : OL l t (Bp l t).1 (Bp l t).2 := by
 unfold Bp
 split
 · refine ⟨fun k => absurd rfl k, ?_, ?_, ?_, ?_, ?_, ?_, ?_, ?_, ?_⟩ <;> simp [zA]
 rename_i hs
 have hs : t.Status = 0 := by omega
 split
 · rename_i hp
   have := h.p1 (by omega)
   refine ⟨fun _ => hs, ?_, ?_, ?_, ?_, ?_, ?_, ?_, ?_, ?_⟩ <;> simp [hp]
   exact this.2.1
 split
 · rename_i hp
   have := h.p1 (by omega)
   refine ⟨fun _ => hs, ?_, ?_, ?_, ?_, ?_, ?_, ?_, ?_, ?_⟩ <;> simp [hp]
   exact this.2.1
 have hp : t.Phase = 0 := by have := h.ph; omega
 obtain ⟨k1, k2, k3⟩ := F7 hc 256 t h.a0 h.a1
 generalize ER l 256 t = n at k1 k2 k3
 have hn : n.Phase = 0 := by rw [k1.ph, hp]
 simp only [GQ]
 repeat' split
 all_goals (refine ⟨fun _ => hs, ?_, ?_, ?_, ?_, ?_, ?_, ?_, ?_, ?_⟩ <;> simp [zA, hn] <;> omega)
end
end
section
theorem Bw {e : TEv} (h : Bt e = true) : (1 ≤ e.Kind ∧ e.Kind ≤ 15) ∧ (0 ≤ e.Thread ∧ e.Thread ≤ 7) ∧ (0 ≤ e.Ring ∧ e.Ring ≤ 7) ∧ e.AJ < 4611686018427387904 ∧
 (Cn e.Kind = true ∨ e.Ring = 0) ∧ (BB e.Kind = true ∨ e.AJ = 0) ∧ (Er e.Kind = true ∨ e.Value = 0) := by
 simpa only [Bt, decide_eq_true_eq] using h
theorem CT {k : Int} : Cn k = true ↔ (1 ≤ k ∧ k ≤ 7 ∨ k = 13) := by simp only [Cn, decide_eq_true_eq]
theorem A9 {k : Int} : BB k = true ↔ (1 ≤ k ∧ k ≤ 4 ∨ k = 13) := by simp only [BB, decide_eq_true_eq]
structure R1 (a : MA) (e : TEv) : Prop where
 rg : Cn e.Kind = true → a.Ring = e.Ring
 f1 : e.Kind = 1 → a.Kind = 1
 f2 : e.Kind = 2 → a.Kind = 10 ∧ a.AJ = e.AJ
 f3 : e.Kind = 3 → a.Kind = 2
 f4 : e.Kind = 4 → a.Kind = 11 ∧ a.AJ = e.AJ
 f5 : 5 ≤ e.Kind ∧ e.Kind ≤ 7 → a.Kind = 1 ∨ a.Kind = 2
 f8 : e.Kind = 8 → a.Kind = 4
 f9 : e.Kind = 9 → a.Kind = 5
 f10 : e.Kind = 10 ∨ e.Kind = 11 → a.Kind = 6
 f12 : e.Kind = 12 → a.Kind = 7 ∧ a.Value = e.Value
 f13 : e.Kind = 13 → a.Kind = 3
 f14 : e.Kind = 14 → a.Kind = 8
 f15 : e.Kind = 15 → a.Kind = 9
theorem Qf {a : MA} {e : TEv} (hr : Bt e = true) (h : Dc a e = true) : R1 a e := by
 have hk := (Bw hr).1
 simp only [Dc, Bool.and_eq_true, Bool.or_eq_true, Bool.not_eq_true', decide_eq_true_eq] at h
 obtain ⟨h1, h2⟩ := h
 have h1 : Cn e.Kind = true → a.Ring = e.Ring := fun k => by
  rcases h1 with h1 | h1
  · rw [h1] at k; cases k
  · exact h1
 have hd : e.Kind = 1 ∨ e.Kind = 2 ∨ e.Kind = 3 ∨ e.Kind = 4 ∨ e.Kind = 5 ∨ e.Kind = 6 ∨ e.Kind = 7 ∨ e.Kind = 8 ∨ e.Kind = 9 ∨ e.Kind = 10 ∨ e.Kind = 11 ∨ e.Kind = 12 ∨ e.Kind = 13 ∨ e.Kind = 14 ∨ e.Kind = 15 := by omega
 rcases hd with q | q | q | q | q | q | q | q | q | q | q | q | q | q | q
 all_goals (simp [q, Fs] at h2; refine ⟨h1, ?_, ?_, ?_, ?_, ?_, ?_, ?_, ?_, ?_, ?_, ?_, ?_⟩ <;> intro hh <;> omega)
section
variable {l : List TIn} {t n : MT} {a : MA} {e : TEv} {v : Int}
theorem Su (i : TIn) (h : e.Kind = 1) : A8 i n e v = { n with Phase := 1, Ring := e.Ring, AJ := e.AJ } := by unfold A8; rw [if_pos h]
theorem Ss (i : TIn) (h : e.Kind = 3) : A8 i n e v = { n with Phase := 2, Ring := e.Ring, AJ := e.AJ } := by unfold A8; rw [if_neg (by omega), if_pos h]
theorem PR (i : TIn) (h : e.Kind = 14) : A8 i n e v = { n with Status := 1 } := by unfold A8; rw [if_neg (by omega), if_neg (by omega), if_pos h]
theorem PQ (i : TIn) (h : e.Kind = 15) : A8 i n e v = { n with Status := 2 } := by unfold A8; rw [if_neg (by omega), if_neg (by omega), if_neg (by omega), if_pos h]
theorem S9 (i : TIn) (h1 : e.Kind ≠ 1) (h3 : e.Kind ≠ 3) (h14 : e.Kind ≠ 14) (h15 : e.Kind ≠ 15) :
 (A8 i n e v).At = n.At + 1 ∧ (A8 i n e v).Phase = 0 ∧ (A8 i n e v).Ring = 0 ∧ (A8 i n e v).AJ = 0 ∧ (A8 i n e v).Status = n.Status ∧
   (A8 i n e v).Seen = (if e.Kind = 12 then n.Seen ++ [e.Value] else n.Seen) := by
 unfold A8
 rw [if_neg h1, if_neg h3, if_neg h14, if_neg h15]
 exact ⟨rfl, rfl, rfl, rfl, rfl, rfl⟩
theorem Na (hr : Bt e = true) (h0 : 0 ≤ e.AJ) (hq : OL l t n a) (hn : Ew l n) (hst : n.Status = t.Status) (ha : a.Kind ≠ 0) (hf : R1 a e) : Ew l (A8 (gI l n.At) n e v) := by
 have hk := Bw hr
 have hrun : n.Status = 0 := hst.trans (hq.run ha)
 have hkr := CT (k := e.Kind)
 by_cases he : e.Kind = 1
 · rw [Su _ he]
   have h1 := hq.k1 (hf.f1 he)
   have h2 := hf.rg (hkr.2 (by omega))
   exact ⟨hn.a0, hn.a1, hn.st, by simp, by simp, fun _ => ⟨hrun, h1.2.1, by rw [h1.2.2.1]; rfl, by rw [← h1.2.2.2, h2], h0, hk.2.2.2.1⟩⟩
 by_cases he3 : e.Kind = 3
 · rw [Ss _ he3]
   have h1 := hq.k2 (hf.f3 he3)
   have h2 := hf.rg (hkr.2 (by omega))
   exact ⟨hn.a0, hn.a1, hn.st, by simp, by simp, fun _ => ⟨hrun, h1.2.1, by rw [h1.2.2.1]; rfl, by rw [← h1.2.2.2.1, h2], h0, hk.2.2.2.1⟩⟩
 by_cases he14 : e.Kind = 14
 · rw [PR _ he14]
   have h1 := hq.kh (.inl (hf.f14 he14))
   exact ⟨hn.a0, hn.a1, by simp, hn.ph, hn.p0, fun k => absurd h1 k⟩
 by_cases he15 : e.Kind = 15
 · rw [PQ _ he15]
   have h1 := hq.kh (.inr (hf.f15 he15))
   exact ⟨hn.a0, hn.a1, by simp, hn.ph, hn.p0, fun k => absurd h1 k⟩
 have Mp : n.At < l.length := by
  have b2 := hf.f2; have b4 := hf.f4; have b5 := hf.f5; have b8 := hf.f8; have b9 := hf.f9; have b10 := hf.f10; have b12 := hf.f12; have b13 := hf.f13
  have hd : e.Kind = 2 ∨ e.Kind = 4 ∨ (5 ≤ e.Kind ∧ e.Kind ≤ 7) ∨ (8 ≤ e.Kind ∧ e.Kind ≤ 12) ∨ e.Kind = 13 := by omega
  rcases hd with h | h | h | h | h
  · exact (hq.kp (b2 h).1).2.1
  · exact (hq.kr (b4 h).1).2.1
  · rcases b5 h with q | q
    · exact (hq.k1 q).2.1
    · exact (hq.k2 q).2.1
  · refine (hq.kn ?_).2
    have : e.Kind = 8 ∨ e.Kind = 9 ∨ (e.Kind = 10 ∨ e.Kind = 11) ∨ e.Kind = 12 := by omega
    rcases this with q | q | q | q
    · have := b8 q; omega
    · have := b9 q; omega
    · have := b10 q; omega
    · have := b12 q; omega
  · exact (hq.k3 (b13 h)).2.1
 have := hn.a0
 obtain ⟨e1, e2, e3, e4, e5, _⟩ := S9 (v := v) (n := n) (gI l n.At) he he3 he14 he15
 exact ⟨by rw [e1]; omega, by rw [e1]; omega, by rw [e5]; exact hn.st, by rw [e2]; simp, fun _ => ⟨e3, e4⟩, fun k => absurd e2 k⟩
theorem Pj {c : TRg} {b : Int} {r : MR} (h : C8 c b r) (hc : As c = true) (hb : b ≤ 2305843009213693952) (h0 : 0 ≤ e.AJ) (hrd : a.Kind = 2 ∨ a.Kind = 11 → 0 ≤ a.Reader ∧ a.Reader < c.AX)
 (hf : R1 a e) (ht : Ds r a e = true) : C8 c (b + 1) (B9 r a e) := by
 unfold B9
 unfold Ds at ht
 have hl := h.rd
 split
 · rename_i he
   rw [if_pos he] at ht
   simp only [Bool.and_eq_true, Bool.not_eq_true', decide_eq_true_eq] at ht
   exact h.R6 ht.1
 rename_i h1
 rw [if_neg h1] at ht
 split
 · rename_i he
   rw [if_pos he] at ht
   exact (h.put hc ht h0 (by omega)).mono (by omega)
 rename_i h2
 rw [if_neg h2] at ht
 split
 · rename_i he
   rw [if_pos he] at ht
   simp only [Bool.and_eq_true, Bool.not_eq_true', decide_eq_true_eq] at ht
   have := hrd (.inl (hf.f3 he))
   exact (h.take (by omega) ht.1).mono (by omega)
 rename_i h3
 rw [if_neg h3] at ht
 split
 · rename_i he
   rw [if_pos he] at ht
   have := hrd (.inr (hf.f4 he).1)
   exact (h.rel hc this.1 (by omega) ht hb).mono (by omega)
 split
 · exact h.close.mono (by omega)
 · exact h.mono (by omega)
theorem I2 (r : MR) (a : MA) (e : TEv) : r.A4 ≤ (B9 r a e).A4 ∧ (e.Kind = 1 → (B9 r a e).A4 = r.A4 + 1) ∧ (e.Kind ≠ 1 → (B9 r a e).A4 = r.A4) := by
 unfold B9
 repeat' split
 all_goals (refine ⟨?_, fun h => ?_, fun h => ?_⟩ <;> (try simp [Ox, E4, QM]) <;> (try omega))
theorem Q8 {r : MR} {j k : Int} : hd r k ≤ hd (E4 r j) k := by
 simp only [hd, E4]
 by_cases e : j.toNat = k.toNat
 · by_cases h : j.toNat < r.An.length
   · rw [← e, Dl h]; omega
   · rw [List.set_eq_of_length_le (by omega)]; omega
 · rw [getD_set_ne e]; omega
theorem P3 (r : MR) (a : MA) (e : TEv) (k : Int) : hd r k ≤ hd (B9 r a e) k := by
 unfold B9
 split
 · exact Int.le_refl _
 split
 · exact Int.le_refl _
 split
 · exact Q8
 split
 · exact Int.le_refl _
 split <;> exact Int.le_refl _
end
end
section
section
variable {p : MP} {b : Int} {s : MS} {e : TEv}
structure CZ (p : MP) (s : MS) (e : TEv) : Prop where
 re : Bt e = true
 lt : e.Thread.toNat < s.AD.length
 th : 0 ≤ e.Thread
 a0 : (CC p s e.Thread).Kind ≠ 0
 ft : Dc (CC p s e.Thread) e = true
theorem fitting (h : FY p s e = 0) : CZ p s e := by
 unfold FY at h
 split at h
 · omega
 rename_i h1
 split at h
 · omega
 rename_i h2
 split at h
 · omega
 rename_i h3
 have hr : Bt e = true := by cases q : Bt e <;> simp_all
 have hk := Bw hr
 refine ⟨hr, by omega, hk.2.1.1, fun q => h3 (.inl q), ?_⟩
 cases q : Dc (CC p s e.Thread) e
 · exact absurd (.inr q) h3
 · rfl
theorem N7 (h : D4 p b s) {i : Nat} {l : List TIn} (hl : p.AD[i]? = some l) : F5 p.AK l := h.pi.ins l (List.mem_of_getElem? hl)
theorem SB {t : Int} (h : t.toNat < s.AD.length) : s.AD[t.toNat]? = some (GL s t) := EB h
theorem Ih (h : D4 p b s) {t : Int} (k : t.toNat < s.AD.length) : p.AD[t.toNat]? = some (BV p t) := EB (by rw [← h.nt]; exact k)
theorem SF {i : Int} (h : i.toNat < s.AK.length) : s.AK[i.toNat]? = some (EH s i) := EB h
def Jd (p : MP) (i : Int) : TRg := p.AK.getD i.toNat ⟨0, 0, 0⟩
theorem NX {i : Int} (h : i.toNat < p.AK.length) : p.AK[i.toNat]? = some (Jd p i) := EB h
theorem D4.SG (h : D4 p b s) {i : Int} (k : i.toNat < p.AK.length) : C8 (Jd p i) b (EH s i) ∧ As (Jd p i) = true :=
 ⟨h.ri _ _ _ (NX k) (SF (by rw [h.nr]; exact k)), h.pi.rg _ (List.mem_of_getElem? (NX k))⟩
theorem D4.Lk (h : D4 p b s) {t : Int} (k : t.toNat < s.AD.length) : Ew (BV p t) (GL s t) := h.ti _ _ _ (Ih h k) (SB k)
theorem D4.asked (h : D4 p b s) {t : Int} (k : t.toNat < s.AD.length) :
 OL (BV p t) (GL s t) (Bp (BV p t) (GL s t)).1 (CC p s t) ∧ Ew (BV p t) (Bp (BV p t) (GL s t)).1 ∧ Kept (GL s t) (Bp (BV p t) (GL s t)).1 ∧ F5 p.AK (BV p t) := by
 have hc := N7 h (Ih h k)
 have hk := KN hc (h.Lk k)
 exact ⟨Md hc (h.Lk k), hk.2, hk.1, hc⟩
theorem Qu (h : D4 p b s) {t : Int} (k : t.toNat < s.AD.length) {a : MA} (ha : a = CC p s t) (hk : a.Kind = 1 ∨ a.Kind = 2 ∨ a.Kind = 3 ∨ a.Kind = 10 ∨ a.Kind = 11) :
 0 ≤ a.Ring ∧ a.Ring.toNat < p.AK.length ∧ (a.Kind = 2 ∨ a.Kind = 11 → 0 ≤ a.Reader ∧ a.Reader < (Jd p a.Ring).AX) := by
 obtain ⟨hq, hn, _, hc⟩ := h.asked k
 rw [← ha] at hq
 generalize (Bp (BV p t) (GL s t)).1 = n at hq hn
 generalize BV p t = l at hq hn hc
 have key : ∀ {i : TIn}, i ∈ l → 18 ≤ i.Op ∧ i.Op ≤ 20 → 0 ≤ i.C ∧ i.C.toNat < p.AK.length ∧ (i.Op = 19 → 0 ≤ i.K ∧ i.K < (Jd p i.C).AX) := by
  intro i hi ho
  have h1 := FT (hc i hi)
  have h2 := BM h1.1
  have h3 := h1.2.2.1 ho
  exact ⟨by omega, by omega, fun q => ⟨(h2.2.2.2.2.2.1 (by omega)).1, h1.2.2.2 q⟩⟩
 have a0 := hn.a0
 rcases hk with q | q | q | q | q
 · obtain ⟨_, h1, h2, h3⟩ := hq.k1 q
   have := key (Gd a0 h1) (by omega)
   rw [h3]
   exact ⟨this.1, this.2.1, by omega⟩
 · obtain ⟨_, h1, h2, h3, h4⟩ := hq.k2 q
   have := key (Gd a0 h1) (by omega)
   rw [h3, h4]
   exact ⟨this.1, this.2.1, fun _ => this.2.2 h2⟩
 · obtain ⟨_, h1, h2, h3⟩ := hq.k3 q
   have := key (Gd a0 h1) (by omega)
   rw [h3]
   exact ⟨this.1, this.2.1, by omega⟩
 · obtain ⟨h0, h1, h2, h3⟩ := hq.kp q
   obtain ⟨_, _, h4, h5, _⟩ := hn.p1 (by omega)
   have := key (Gd a0 h1) (by omega)
   rw [h2, ← h5]
   exact ⟨this.1, this.2.1, by omega⟩
 · obtain ⟨h0, h1, h2, h3, h6⟩ := hq.kr q
   obtain ⟨_, _, h4, h5, _⟩ := hn.p1 (by omega)
   have := key (Gd a0 h1) (by omega)
   rw [h2, ← h5, h6]
   exact ⟨this.1, this.2.1, fun _ => this.2.2 (by omega)⟩
theorem G7 (h : D4 p b s) (f : CZ p s e) (hk : Cn e.Kind = true) :
 0 ≤ e.Ring ∧ e.Ring.toNat < p.AK.length ∧ ((CC p s e.Thread).Kind = 2 ∨ (CC p s e.Thread).Kind = 11 → 0 ≤ (CC p s e.Thread).Reader ∧ (CC p s e.Thread).Reader < (Jd p e.Ring).AX) := by
 have hf := Qf f.re f.ft
 have hr := hf.rg hk
 rw [← hr]
 refine Qu h f.lt rfl ?_
 rw [CT] at hk
 have h1 := hf.f1; have h2 := hf.f2; have h3 := hf.f3; have h4 := hf.f4; have h5 := hf.f5; have h13 := hf.f13
 omega
end
end
section
section
variable {p : MP} {b : Int} {s : MS} {e : TEv}
theorem Nm {rs : List MR} {i : Nat} {r : MR} (k : i < rs.length) (j : Int) : (rs.set i r).getD j.toNat zR = if j.toNat = i then r else rs.getD j.toNat zR := by
 by_cases q : i = j.toNat
 · rw [if_pos q.symm, ← q, Dl k]
 · rw [if_neg (Ne.symm q), getD_set_ne q]
theorem Jh (h : D4 p b s) (f : CZ p s e) (i : Int) : (EH s i).A4 ≤ (EH (Ai p s e) i).A4 ∧ ∀ k, hd (EH s i) k ≤ hd (EH (Ai p s e) i) k := by
 unfold EH Ai
 simp only
 split
 · rename_i q
   have hk : Cn e.Kind = true := by rw [CT]; rw [A9] at q; omega
   have hr := G7 h f hk
   rw [Nm (by rw [h.nr]; exact hr.2.1)]
   split
   · rename_i q2
     rw [q2]
     exact ⟨(I2 _ _ _).1, fun k => P3 _ _ _ _⟩
   · exact ⟨Int.le_refl _, fun _ => Int.le_refl _⟩
 · exact ⟨Int.le_refl _, fun _ => Int.le_refl _⟩
theorem Fa (h : D4 p b s) (f : CZ p s e) (q : BB e.Kind = true) : EH (Ai p s e) e.Ring = B9 (EH s e.Ring) (CC p s e.Thread) e := by
 have hk : Cn e.Kind = true := by rw [CT]; rw [A9] at q; omega
 have hr := G7 h f hk
 unfold EH Ai
 simp only
 rw [if_pos q, Nm (by rw [h.nr]; exact hr.2.1), if_pos rfl]
 rfl
theorem NN (h : D4 p b s) (hb : b ≤ 2305843009213693952) (he0 : 0 ≤ e.AJ) (f : CZ p s e) (ht : BB e.Kind = true → Ds (EH s e.Ring) (CC p s e.Thread) e = true) :
 D4 p (b + 1) (Ai p s e) := by
 obtain ⟨hq, hn, hkp, hc⟩ := h.asked f.lt
 have hf := Qf f.re f.ft
 have hrg : BB e.Kind = true → 0 ≤ e.Ring ∧ e.Ring.toNat < p.AK.length ∧ _ := fun q => G7 h f (by rw [CT]; rw [A9] at q; omega)
 have hT : Ew (BV p e.Thread) (A8 (gI (BV p e.Thread) (Bp (BV p e.Thread) (GL s e.Thread)).1.At) (Bp (BV p e.Thread) (GL s e.Thread)).1 e (if e.Kind = 4 then (A2 (EH s e.Ring) e.AJ).Value else 0)) :=
  Na f.re he0 hq hn hkp.st f.a0 hf
 refine ⟨h.pi, by simp [Ai, h.nt], ?_, ?_, ?_, ?_, ?_, ?_⟩
 · unfold Ai; simp only; split <;> simp [h.nr]
 · have := h.n0
   unfold Ai; simp only; split
   · omega
   · exact this
 · intro i c r hi hr
   unfold Ai at hr
   simp only at hr
   split at hr
   · rename_i q
     obtain ⟨r0, r1, r2⟩ := hrg q
     rcases Eb hr (by rw [h.nr]; exact r1) with ⟨rfl, rfl⟩ | ⟨_, hr⟩
     · have := h.SG r1
       rw [NX r1] at hi
       cases hi
       exact Pj this.1 this.2 hb he0 r2 hf (ht q)
     · exact (h.ri i c r hi hr).mono (by omega)
   · exact (h.ri i c r hi hr).mono (by omega)
 · intro i l t hl hi
   rcases Eb (by simpa [Ai] using hi) f.lt with ⟨rfl, rfl⟩ | ⟨_, hi⟩
   · rw [Ih h f.lt] at hl
     cases hl
     exact hT
   · exact h.ti i l t hl hi
 · intro i t hi hp
   rcases Eb (by simpa [Ai] using hi) f.lt with ⟨rfl, rfl⟩ | ⟨_, hi⟩
   · by_cases he : e.Kind = 1
     · rw [Su _ he] at hp ⊢
       have q : BB e.Kind = true := by rw [A9]; omega
       have h1 := ht q
       show e.AJ < (EH (Ai p s e) e.Ring).A4
       rw [Fa h f q, (I2 _ _ _).2.1 he]
       simp only [Ds, he, if_true, Bool.and_eq_true, decide_eq_true_eq] at h1
       omega
     by_cases he3 : e.Kind = 3
     · rw [Ss _ he3] at hp; simp at hp
     by_cases he14 : e.Kind = 14
     · rw [PR _ he14] at hp
       have := hq.kh (.inl (hf.f14 he14))
       simp only at hp; omega
     by_cases he15 : e.Kind = 15
     · rw [PQ _ he15] at hp
       have := hq.kh (.inr (hf.f15 he15))
       simp only at hp; omega
     · rw [(S9 _ he he3 he14 he15).2.1] at hp; omega
   · have := h.p1 i t hi hp
     have := (Jh h f t.Ring).1
     omega
 · intro i l t hl hi hp
   rcases Eb (by simpa [Ai] using hi) f.lt with ⟨rfl, rfl⟩ | ⟨_, hi⟩
   · rw [Ih h f.lt] at hl
     cases hl
     by_cases he : e.Kind = 1
     · rw [Su _ he] at hp; simp at hp
     by_cases he3 : e.Kind = 3
     · rw [Ss _ he3] at hp ⊢
       have q : BB e.Kind = true := by rw [A9]; omega
       have h1 := ht q
       obtain ⟨r0, r1, r2⟩ := hrg q
       have hk2 := hq.k2 (hf.f3 he3)
       show e.AJ < hd (EH (Ai p s e) e.Ring) (gI (BV p e.Thread) (Bp (BV p e.Thread) (GL s e.Thread)).1.At).K
       rw [Fa h f q, ← hk2.2.2.2.2]
       unfold Ds at h1
       rw [if_neg he, if_neg (by omega), if_pos he3] at h1
       simp only [Bool.and_eq_true, Bool.not_eq_true', decide_eq_true_eq] at h1
       have hR := (h.SG r1).1
       have hrd := r2 (.inl (hf.f3 he3))
       have hl := hR.rd
       have : B9 (EH s e.Ring) (CC p s e.Thread) e = E4 (EH s e.Ring) (CC p s e.Thread).Reader := by unfold B9; rw [if_neg he, if_neg (by omega), if_pos he3]
       rw [this]
       have : hd (E4 (EH s e.Ring) (CC p s e.Thread).Reader) (CC p s e.Thread).Reader = hd (EH s e.Ring) (CC p s e.Thread).Reader + 1 := by
        unfold hd E4
        rw [Dl (by omega)]
        rfl
       rw [this]
       have := h1.2
       omega
     by_cases he14 : e.Kind = 14
     · rw [PR _ he14] at hp
       have := hq.kh (.inl (hf.f14 he14))
       simp only at hp; omega
     by_cases he15 : e.Kind = 15
     · rw [PQ _ he15] at hp
       have := hq.kh (.inr (hf.f15 he15))
       simp only at hp; omega
     · rw [(S9 _ he he3 he14 he15).2.1] at hp; omega
   · have := h.p2 i l t hl hi hp
     have := (Jh h f t.Ring).2 (gI l t.At).K
     omega
theorem D4.mono {b' : Int} (h : D4 p b s) (k : b ≤ b') : D4 p b' s := { h with ri := fun i c r hi hr => (h.ri i c r hi hr).mono k }
theorem QK (hk : QN s (CC p s e.Thread) e = true) (_hr : Bt e = true) (q : BB e.Kind = true) : Ds (EH s e.Ring) (CC p s e.Thread) e = true := by
 have h1 := (A9 (k := e.Kind)).1 q
 unfold QN at hk
 simp only at hk
 rw [if_neg (by omega), if_neg (by omega), if_neg (by omega), if_neg (by omega)] at hk
 split at hk
 · simp only [Bool.and_eq_true] at hk; exact hk.1
 · simpa [q] using hk
theorem Rf (h : FD p) : D4 p 1 (GN p) where
 pi := h
 nt := by simp [GN]
 nr := by simp [GN]
 n0 := Int.le_refl _
 ri i c r hi hr := by
  simp only [GN, List.getElem?_map, hi, Option.map_some, Option.some.injEq] at hr
  subst hr
  exact C8.new (h.rg c (List.mem_of_getElem? hi)) (by decide)
 ti i l t hl hi := by
  simp only [GN, List.getElem?_map, hl, Option.map_some, Option.some.injEq] at hi
  subst hi
  exact ⟨by decide, by simp [zT], by decide, by decide, fun _ => ⟨rfl, rfl⟩, fun k => absurd rfl k⟩
 p1 i t hi hp := by
  simp only [GN, List.getElem?_map, Option.map_eq_some_iff] at hi
  obtain ⟨_, _, rfl⟩ := hi
  simp [zT] at hp
 p2 i l t hl hi hp := by
  simp only [GN, List.getElem?_map, Option.map_eq_some_iff] at hi
  obtain ⟨_, _, rfl⟩ := hi
  simp [zT] at hp
end
end
section
def Ck (z : Int) : Prop := 0 ≤ z ∧ z < 18446744073709551616
theorem Co : Ck 0 := by unfold Ck; decide
def opB (op : Int) (x y : Nat) : Prop := op = 8 ∧ x + y = 2 ∨ op = 9 ∧ 0 < x + y ∨ op = 10 ∧ x + y = 1
instance (op : Int) (x y : Nat) : Decidable (opB op x y) := by unfold opB; infer_instance
def Nw (l : List Int) (n : Int) : Prop := n ∈ l ∧ ∀ x ∈ l, n ≤ x
theorem MC {r : MR} {n : Int} (h : Nw r.An n) : E5 r = true ↔ IV r ≤ r.A4 - n := by
 simp only [E5, List.any_eq_true, decide_eq_true_eq]
 refine ⟨fun ⟨x, hx, hh⟩ => ?_, fun hh => ⟨n, h.1, hh⟩⟩
 have := h.2 x hx
 omega
theorem NI : ∀ (x : Fin 256) (j : Fin 8), EE (x.val : Int) (j.val : Int) = true → Vm.bits .andNot IntKind.i64 (x.val : Int) (shl IntKind.i64 1 (j.val : Int)) = (x.val : Int) - 2 ^ j.val := by decide +kernel
end
section
section
variable {p : MP} {s : MS} {e : TEv}
theorem F0 (h : CN p s e = true) : CZ p s e ∧ FY p s e = 0 ∧ QN s (CC p s e.Thread) e = true := by
 simp only [CN, Bool.and_eq_true, decide_eq_true_eq] at h
 exact ⟨fitting h.1, h.1, h.2⟩
theorem Jm (h : CN p s e = true) : Rb p s e = (0, Ai p s e) := by
 have := (F0 h).2.1
 unfold Rb
 rw [if_neg (by omega), if_neg (by rw [h]; simp)]
theorem I6 (h : CN p s e = false) : (Rb p s e).1 ≠ 0 ∧ (Rb p s e).2 = s := by
 unfold Rb
 by_cases h0 : FY p s e ≠ 0
 · rw [if_pos h0]; exact ⟨h0, rfl⟩
 · rw [if_neg h0, if_pos h]; exact ⟨by show (11 : Int) ≠ 0; decide, rfl⟩
theorem N6 : (Rb p s e).1 = 0 ↔ CN p s e = true := by
 cases h : CN p s e
 · exact ⟨fun k => absurd k (I6 h).1, fun k => by cases k⟩
 · exact ⟨fun _ => rfl, fun _ => by rw [Jm h]⟩
end
end
section
theorem getD_set_neN {α : Type} {l : List α} {i j : Nat} {x d : α} (h : i ≠ j) : (l.set i x).getD j d = l.getD j d := by simp [List.getD, List.getElem?_set_ne h]
section
variable {p : MP} {b : Int} {s : MS} {e : TEv}
theorem Hw (q : BB e.Kind = true) : Cn e.Kind = true := by rw [CT]; rw [A9] at q; omega
theorem Jg (f : CZ p s e) {t : Int} (h0 : 0 ≤ t) : GL (Ai p s e) t = if t = e.Thread then
 A8 (gI (BV p e.Thread) (Bp (BV p e.Thread) (GL s e.Thread)).1.At) (Bp (BV p e.Thread) (GL s e.Thread)).1 e (if e.Kind = 4 then (A2 (EH s e.Ring) e.AJ).Value else 0) else GL s t := by
 have := f.th
 have := f.lt
 unfold GL Ai
 simp only
 by_cases q : t = e.Thread
 · subst q; rw [Dl (by assumption), if_pos rfl]; rfl
 · rw [if_neg q, getD_set_neN (by omega)]
theorem Mb (h : D4 p b s) (f : CZ p s e) {t : Int} (h0 : 0 ≤ t) : (GL (Ai p s e) t).Seen = if t = e.Thread ∧ e.Kind = 12 then (GL s t).Seen ++ [e.Value] else (GL s t).Seen := by
 have hkp := (h.asked f.lt).2.2.1
 rw [Jg f h0]
 by_cases q : t = e.Thread
 · rw [if_pos q]
   subst q
   by_cases h1 : e.Kind = 1
   · rw [Su _ h1, if_neg (by omega)]; exact hkp.sn
   by_cases h3 : e.Kind = 3
   · rw [Ss _ h3, if_neg (by omega)]; exact hkp.sn
   by_cases h14 : e.Kind = 14
   · rw [PR _ h14, if_neg (by omega)]; exact hkp.sn
   by_cases h15 : e.Kind = 15
   · rw [PQ _ h15, if_neg (by omega)]; exact hkp.sn
   rw [(S9 _ h1 h3 h14 h15).2.2.2.2.2, hkp.sn]
   simp
 · rw [if_neg q, if_neg fun k => q k.1]
theorem KB (h : D4 p b s) (f : CZ p s e) {t : Int} (h0 : 0 ≤ t) : (GL (Ai p s e) t).Status = if t = e.Thread then (if e.Kind = 14 then 1 else if e.Kind = 15 then 2 else 0) else (GL s t).Status := by
 obtain ⟨hq, _, hkp, _⟩ := h.asked f.lt
 have hs : (Bp (BV p e.Thread) (GL s e.Thread)).1.Status = 0 := hkp.st.trans (hq.run f.a0)
 rw [Jg f h0]
 by_cases q : t = e.Thread
 · rw [if_pos q, if_pos q]
   by_cases h1 : e.Kind = 1
   · rw [Su _ h1, if_neg (by omega), if_neg (by omega)]; exact hs
   by_cases h3 : e.Kind = 3
   · rw [Ss _ h3, if_neg (by omega), if_neg (by omega)]; exact hs
   by_cases h14 : e.Kind = 14
   · rw [PR _ h14, if_pos h14]
   by_cases h15 : e.Kind = 15
   · rw [PQ _ h15, if_neg h14, if_pos h15]
   rw [(S9 _ h1 h3 h14 h15).2.2.2.2.1, if_neg h14, if_neg h15]; exact hs
 · rw [if_neg q, if_neg q]
theorem Qe (h : D4 p b s) (f : CZ p s e) : (GL s e.Thread).Status = 0 := (h.asked f.lt).1.run f.a0
end
end
end Go.Proofs.YtlhifcnjnmeknaaGreat
