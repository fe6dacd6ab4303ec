/- Of what a fabric is, plainly: no statement is proved here. -/
import Derived.Test.YtiplcdhnjennfaaGreatVmC
namespace Go.Proofs.YtiplcdhnjennfaaGreat
open Go Go.Vm
section
structure TIn where
  Op : Int
  A : Int
  B : Int
  C : Int
  D : Int
  K : Int
structure TRg where
  Kind : Int
  Cap : Int
  Readers : Int
structure TEv where
  Thread : Int
  Kind : Int
  Ring : Int
  Ticket : Int
  Value : Int
structure TSo where
  Stamp : Int
  Value : Int
  Left : Int
end
section
structure MT where
  At : Int
  Phase : Int
  Ring : Int
  Status : Int
  Ticket : Int
  Regs : Nat → Int
  Seen : List Int
structure MR where
  Tail : Int
  Heads : List Int
  Closed : Bool
  Slots : List TSo
structure MS where
  Threads : List MT
  Rings : List MR
  Now : Int
  Reads : Int
  Ended : Bool
structure MP where
  Rings : List TRg
  Threads : List (List TIn)
structure MA where
  Kind : Int
  Ring : Int
  Mode : Int
  Reader : Int
  Ticket : Int
  Value : Int
def zI : TIn := ⟨0, 0, 0, 0, 0, 0⟩
def zS : TSo := ⟨0, 0, 0⟩
def zA : MA := ⟨0, 0, 0, 0, 0, 0⟩
def zT : MT := ⟨0, 0, 0, 0, 0, fun _ => 0, []⟩
def zR : MR := ⟨0, [], false, []⟩
def gI (l : List TIn) (n : Int) : TIn := l.getD n.toNat zI
def setR (g : Nat → Int) (i v : Int) : Nat → Int := fun k => if k = i.toNat then v else g k
def mAlu (op a b : Int) : Int :=
  if op = 3 then IntKind.u64.wrap (a + b)
  else if op = 4 then IntKind.u64.wrap (a - b)
  else if op = 5 then IntKind.u64.wrap (a * b)
  else if op = 6 then (if b = 0 then 0 else a / b)
  else if op = 7 then (if b = 0 then 0 else a % b)
  else if op = 8 then ((a.toNat &&& b.toNat : Nat) : Int)
  else if op = 9 then ((a.toNat ||| b.toNat : Nat) : Int)
  else if op = 10 then ((a.toNat ^^^ b.toNat : Nat) : Int)
  else if op = 11 then IntKind.u64.wrap (a * 2 ^ (b % 64).toNat)
  else if op = 12 then a / 2 ^ (b % 64).toNat
  else if op = 13 then (if a < b then 1 else 0)
  else (if a = b then 1 else 0)
def mStepI (i : TIn) (t : MT) : MT :=
  if i.Op = 1 then { t with At := t.At + 1, Regs := setR t.Regs i.A i.K }
  else if i.Op = 2 then { t with At := t.At + 1, Regs := setR t.Regs i.A (t.Regs i.B.toNat) }
  else if i.Op = 15 ∨ (i.Op = 16 ∧ t.Regs i.A.toNat = 0) ∨ (i.Op = 17 ∧ t.Regs i.A.toNat ≠ 0) then { t with At := i.K }
  else if i.Op < 15 then { t with At := t.At + 1, Regs := setR t.Regs i.A (mAlu i.Op (t.Regs i.B.toNat) (t.Regs i.C.toNat)) }
  else { t with At := t.At + 1 }
def mRun (l : List TIn) : Nat → MT → MT
  | 0, t => t
  | n + 1, t => if t.At < l.length ∧ (gI l t.At).Op ≤ 17 then mRun l n (mStepI (gI l t.At) t) else t
def mAskI (l : List TIn) (t : MT) : MA :=
  let i := gI l t.At
  if t.At = l.length then { zA with Kind := 8 }
  else if i.Op ≤ 17 then { zA with Kind := 9 }
  else if i.Op = 18 then ⟨1, i.C, i.D, 0, 0, t.Regs i.A.toNat⟩
  else if i.Op = 19 then ⟨2, i.C, i.D, i.K, 0, 0⟩
  else if i.Op = 20 then ⟨3, i.C, 0, 0, 0, 0⟩
  else if i.Op = 21 then { zA with Kind := 4 }
  else if i.Op = 22 then { zA with Kind := 5 }
  else if i.Op = 23 then { zA with Kind := 6 }
  else if i.Op = 24 then { zA with Kind := 7, Value := t.Regs i.A.toNat }
  else { zA with Kind := 8 }
def mNext (l : List TIn) (t : MT) : MT × MA :=
  if t.Status ≠ 0 then (t, zA)
  else if t.Phase = 1 then (t, ⟨10, t.Ring, 0, 0, t.Ticket, t.Regs (gI l t.At).A.toNat⟩)
  else if t.Phase = 2 then (t, ⟨11, t.Ring, 0, (gI l t.At).K, t.Ticket, 0⟩)
  else (mRun l 256 t, mAskI l (mRun l 256 t))
def kTicket (k : Int) : Bool := decide (1 ≤ k ∧ k ≤ 4 ∨ k = 13)
def kRing (k : Int) : Bool := decide (1 ≤ k ∧ k ≤ 7 ∨ k = 13)
def kValue (k : Int) : Bool := decide (8 ≤ k ∧ k ≤ 10 ∨ k = 12)
def mRightE (e : TEv) : Bool :=
  decide ((1 ≤ e.Kind ∧ e.Kind ≤ 15) ∧ (0 ≤ e.Thread ∧ e.Thread ≤ 7) ∧ (0 ≤ e.Ring ∧ e.Ring ≤ 7) ∧ e.Ticket < 4611686018427387904 ∧
    (kRing e.Kind = true ∨ e.Ring = 0) ∧ (kTicket e.Kind = true ∨ e.Ticket = 0) ∧ (kValue e.Kind = true ∨ e.Value = 0))
def mWants (k : Int) : Int :=
  if k = 1 then 1 else if k = 2 then 10 else if k = 3 then 2 else if k = 4 then 11 else if k = 8 then 4 else if k = 9 then 5 else if k = 10 then 6 else if k = 11 then 6
  else if k = 12 then 7 else if k = 13 then 3 else if k = 14 then 8 else 9
def mFitsA (a : MA) (e : TEv) : Bool :=
  (!kRing e.Kind || decide (a.Ring = e.Ring)) &&
  (if e.Kind = 5 then decide ((a.Kind = 1 ∨ a.Kind = 2) ∧ a.Mode = 0)
   else if e.Kind = 6 then decide (a.Kind = 1 ∨ a.Kind = 2)
   else if e.Kind = 7 then decide ((a.Kind = 1 ∨ a.Kind = 2) ∧ a.Mode = 2)
   else if e.Kind = 2 ∨ e.Kind = 4 then decide (a.Kind = mWants e.Kind ∧ a.Ticket = e.Ticket)
   else if e.Kind = 12 then decide (a.Kind = 7 ∧ a.Value = e.Value)
   else decide (a.Kind = mWants e.Kind))
def mBehindT (i : TIn) (t : MT) (e : TEv) (v : Int) : MT :=
  if e.Kind = 1 then { t with Phase := 1, Ring := e.Ring, Ticket := e.Ticket }
  else if e.Kind = 3 then { t with Phase := 2, Ring := e.Ring, Ticket := e.Ticket }
  else if e.Kind = 14 then { t with Status := 1 }
  else if e.Kind = 15 then { t with Status := 2 }
  else
    let g :=
      if e.Kind = 2 then setR t.Regs i.B 0
      else if e.Kind = 4 then setR (setR t.Regs i.A v) i.B 0
      else if e.Kind = 5 then setR t.Regs i.B 1
      else if e.Kind = 6 then setR t.Regs i.B 2
      else if e.Kind = 7 then setR t.Regs i.B 3
      else if e.Kind = 8 then setR t.Regs i.A e.Value
      else if e.Kind = 9 then setR t.Regs i.A e.Value
      else if e.Kind = 10 then setR (setR t.Regs i.A e.Value) i.B 0
      else if e.Kind = 11 then setR t.Regs i.B 1
      else t.Regs
    { t with Regs := g, Seen := if e.Kind = 12 then t.Seen ++ [e.Value] else t.Seen, Phase := 0, Ring := 0, Ticket := 0, At := t.At + 1 }
def hd (r : MR) (j : Int) : Int := r.Heads.getD j.toNat 0
def capR (r : MR) : Int := r.Slots.length
def mFull (r : MR) : Bool := r.Heads.any fun h => decide (capR r ≤ r.Tail - h)
def mEmpty (r : MR) (j : Int) : Bool := decide (hd r j = r.Tail)
def plc (r : MR) (t : Int) : Nat := (t % capR r).toNat
def slotAt (r : MR) (t : Int) : TSo := r.Slots.getD (plc r t) zS
def bitI (x : Int) (j : Int) : Bool := decide (x / 2 ^ j.toNat % 2 = 1)
def mFree (r : MR) (t : Int) : Bool := decide (t < r.Tail ∧ (slotAt r t).Stamp = 2 * t)
def mHas (r : MR) (j t : Int) : Bool := decide (t < hd r j ∧ (slotAt r t).Stamp = 2 * t + 1 ∧ bitI (slotAt r t).Left j = true)
def mTurn (r : MR) (a : MA) (e : TEv) : Bool :=
  if e.Kind = 1 then !mFull r && decide (e.Ticket = r.Tail)
  else if e.Kind = 2 then mFree r e.Ticket
  else if e.Kind = 3 then !mEmpty r a.Reader && decide (e.Ticket = hd r a.Reader)
  else if e.Kind = 4 then mHas r a.Reader e.Ticket
  else decide (e.Ticket = r.Tail)
def mPut (r : MR) (t v : Int) : MR := { r with Slots := r.Slots.set (plc r t) ⟨2 * t + 1, v, 2 ^ r.Heads.length - 1⟩ }
def mTake (r : MR) (j : Int) : MR := { r with Heads := r.Heads.set j.toNat (hd r j + 1) }
def mGot (x : TSo) (j t c : Int) : TSo := if x.Left - 2 ^ j.toNat = 0 then ⟨2 * (t + c), 0, 0⟩ else { x with Left := x.Left - 2 ^ j.toNat }
def mRel (r : MR) (j t : Int) : MR := { r with Slots := r.Slots.set (plc r t) (mGot (slotAt r t) j t (capR r)) }
def mRingB (r : MR) (a : MA) (e : TEv) : MR :=
  if e.Kind = 1 then { r with Tail := r.Tail + 1 }
  else if e.Kind = 2 then mPut r e.Ticket a.Value
  else if e.Kind = 3 then mTake r a.Reader
  else if e.Kind = 4 then mRel r a.Reader e.Ticket
  else if e.Kind = 13 then { r with Closed := true }
  else r
def thr (s : MS) (t : Int) : MT := s.Threads.getD t.toNat zT
def rng (s : MS) (i : Int) : MR := s.Rings.getD i.toNat zR
def codeOf (p : MP) (t : Int) : List TIn := p.Threads.getD t.toNat []
def mAsk (p : MP) (s : MS) (t : Int) : MA := (mNext (codeOf p t) (thr s t)).2
def mFits (p : MP) (s : MS) (e : TEv) : Int :=
  if mRightE e = false then 3
  else if (s.Threads.length : Int) ≤ e.Thread then 5
  else if (mAsk p s e.Thread).Kind = 0 ∨ mFitsA (mAsk p s e.Thread) e = false then 11
  else 0
def mNone (r : MR) (a : MA) : Bool := if a.Kind = 1 then r.Closed || mFull r else mEmpty r a.Reader
def mMay (s : MS) (a : MA) (e : TEv) : Bool :=
  let r := rng s e.Ring
  if e.Kind = 5 ∨ e.Kind = 7 then mNone r a && !r.Closed
  else if e.Kind = 6 then mNone r a && r.Closed
  else if e.Kind = 8 then decide (s.Now ≤ e.Value ∧ e.Value - s.Now < 1048576)
  else if e.Kind = 10 then !s.Ended
  else if e.Kind = 1 then mTurn r a e && !r.Closed
  else !kTicket e.Kind || mTurn r a e
def mAllowed (p : MP) (s : MS) (e : TEv) : Bool := decide (mFits p s e = 0) && mMay s (mAsk p s e.Thread) e
def mBehind (p : MP) (s : MS) (e : TEv) : MS :=
  let n := mNext (codeOf p e.Thread) (thr s e.Thread)
  let r := rng s e.Ring
  let v := if e.Kind = 4 then (slotAt r e.Ticket).Value else 0
  { Threads := s.Threads.set e.Thread.toNat (mBehindT (gI (codeOf p e.Thread) n.1.At) n.1 e v)
    Rings := if kTicket e.Kind = true then s.Rings.set e.Ring.toNat (mRingB r n.2 e) else s.Rings
    Now := if e.Kind = 8 then max s.Now e.Value else s.Now
    Reads := if e.Kind = 10 then IntKind.u64.wrap (s.Reads + 1) else s.Reads
    Ended := if e.Kind = 11 then true else s.Ended }
def mDo (p : MP) (s : MS) (e : TEv) : Int × MS :=
  if mFits p s e ≠ 0 then (mFits p s e, s) else if mAllowed p s e = false then (11, s) else (0, mBehind p s e)
def mFeed (p : MP) (s : MS) (e : TEv) : Int × MS :=
  if mFits p s e ≠ 0 then (mFits p s e, s)
  else if kTicket e.Kind = true ∧ mTurn (rng s e.Ring) (mAsk p s e.Thread) e = false then (8, s) else (0, mBehind p s e)
def mNewR (c : TRg) : MR := ⟨0, List.replicate c.Readers.toNat 0, false, (List.range c.Cap.toNat).map fun i : Nat => (⟨2 * (i : Int), 0, 0⟩ : TSo)⟩
def mNew (p : MP) : MS := ⟨p.Threads.map fun _ => zT, p.Rings.map mNewR, 0, 0, false⟩
def rightI (i : TIn) : Bool :=
  let r := fun (x : Int) (m : Int) => decide (0 ≤ x ∧ x ≤ m)
  if i.Op = 1 then r i.A 7 && r i.B 0 && r i.C 0 && r i.D 0
  else if i.Op = 2 ∨ i.Op = 23 then r i.A 7 && r i.B 7 && r i.C 0 && r i.D 0 && r i.K 0
  else if 3 ≤ i.Op ∧ i.Op ≤ 14 then r i.A 7 && r i.B 7 && r i.C 7 && r i.D 0 && r i.K 0
  else if i.Op = 15 then r i.A 0 && r i.B 0 && r i.C 0 && r i.D 0 && r i.K 256
  else if i.Op = 16 ∨ i.Op = 17 then r i.A 7 && r i.B 0 && r i.C 0 && r i.D 0 && r i.K 256
  else if i.Op = 18 then r i.A 7 && r i.B 7 && r i.C 7 && r i.D 2 && r i.K 0
  else if i.Op = 19 then r i.A 7 && r i.B 7 && r i.C 7 && r i.D 2 && r i.K 7
  else if i.Op = 20 then r i.A 0 && r i.B 0 && r i.C 7 && r i.D 0 && r i.K 0
  else if i.Op = 21 ∨ i.Op = 22 ∨ i.Op = 24 then r i.A 7 && r i.B 0 && r i.C 0 && r i.D 0 && r i.K 0
  else if i.Op = 25 then r i.A 0 && r i.B 0 && r i.C 0 && r i.D 0 && r i.K 0
  else false
def rightRg (c : TRg) : Bool := decide (1 ≤ c.Cap ∧ c.Cap ≤ 64 ∧ (c.Kind = 1 ∧ c.Readers = 1 ∨ c.Kind = 2 ∧ 1 ≤ c.Readers ∧ c.Readers ≤ 8))
def instrE (rs : List TRg) (i : TIn) (n : Int) : Int :=
  if rightI i = false then 6
  else if 15 ≤ i.Op ∧ i.Op ≤ 17 ∧ n < i.K then 5
  else if 18 ≤ i.Op ∧ i.Op ≤ 20 ∧ (rs.length : Int) ≤ i.C then 7
  else if i.Op = 19 ∧ (rs.getD i.C.toNat ⟨0, 0, 0⟩).Readers ≤ i.K then 7
  else 0
structure PInv (p : MP) : Prop where
  t1 : 1 ≤ p.Threads.length
  t8 : p.Threads.length ≤ 8
  r8 : p.Rings.length ≤ 8
  rg : ∀ c ∈ p.Rings, rightRg c = true
  len : ∀ l ∈ p.Threads, l.length ≤ 256
  ins : ∀ l ∈ p.Threads, ∀ i ∈ l, instrE p.Rings i l.length = 0
structure SlInv (c : Int) (nr : Nat) (tail : Int) (heads : List Int) (i : Nat) (x : TSo) : Prop where
  s0 : 0 ≤ x.Stamp
  s1 : x.Stamp < 9223372036854775808
  at0 : x.Stamp / 2 % c = i
  free : x.Stamp % 2 = 0 → x.Value = 0 ∧ x.Left = 0
  held : x.Stamp % 2 = 1 → 1 ≤ x.Left ∧ x.Left < 2 ^ nr
  hTail : x.Stamp % 2 = 1 → x.Stamp / 2 < tail
  hBit : x.Stamp % 2 = 1 → ∀ (j : Nat) (h : Int), heads[j]? = some h → bitI x.Left (j : Int) = false → x.Stamp / 2 < h
  fHead : x.Stamp % 2 = 0 → c ≤ x.Stamp / 2 → ∀ h ∈ heads, x.Stamp / 2 - c < h
structure RInv (c : TRg) (b : Int) (r : MR) : Prop where
  cap : (r.Slots.length : Int) = c.Cap
  rd : (r.Heads.length : Int) = c.Readers
  t0 : 0 ≤ r.Tail
  tb : r.Tail < b
  h0 : ∀ h ∈ r.Heads, 0 ≤ h ∧ h ≤ r.Tail ∧ r.Tail - h ≤ c.Cap
  sl : ∀ (i : Nat) x, r.Slots[i]? = some x → SlInv c.Cap r.Heads.length r.Tail r.Heads i x
structure TInv (l : List TIn) (t : MT) : Prop where
  a0 : 0 ≤ t.At
  a1 : t.At ≤ l.length
  st : 0 ≤ t.Status ∧ t.Status ≤ 2
  ph : 0 ≤ t.Phase ∧ t.Phase ≤ 2
  p0 : t.Phase = 0 → t.Ring = 0 ∧ t.Ticket = 0
  p1 : t.Phase ≠ 0 → t.Status = 0 ∧ t.At < l.length ∧ (gI l t.At).Op = 17 + t.Phase ∧ (gI l t.At).C = t.Ring ∧ 0 ≤ t.Ticket ∧ t.Ticket < 4611686018427387904
structure FInv (p : MP) (b : Int) (s : MS) : Prop where
  pi : PInv p
  nt : s.Threads.length = p.Threads.length
  nr : s.Rings.length = p.Rings.length
  n0 : 0 ≤ s.Now
  ri : ∀ (i : Nat) c r, p.Rings[i]? = some c → s.Rings[i]? = some r → RInv c b r
  ti : ∀ (i : Nat) l t, p.Threads[i]? = some l → s.Threads[i]? = some t → TInv l t
  p1 : ∀ (i : Nat) t, s.Threads[i]? = some t → t.Phase = 1 → t.Ticket < (rng s t.Ring).Tail
  p2 : ∀ (i : Nat) l t, p.Threads[i]? = some l → s.Threads[i]? = some t → t.Phase = 2 → t.Ticket < hd (rng s t.Ring) (gI l t.At).K
end
section
theorem pow2_pos (n : Nat) : 0 < (2 : Int) ^ n := Int.pow_pos (by decide)
theorem getD_in {α : Type} {l : List α} {i : Nat} {d : α} (h : i < l.length) : l[i]? = some (l.getD i d) := by simp [List.getD, List.getElem?_eq_getElem h]
theorem getD_set_same {α : Type} {l : List α} {i : Nat} {x d : α} (h : i < l.length) : (l.set i x).getD i d = x := by simp [List.getD, h]
theorem getD_set_ne {α : Type} {l : List α} {i j : Nat} {x d : α} (h : i ≠ j) : (l.set i x).getD j d = l.getD j d := by simp [List.getD, List.getElem?_set_ne h]
section
variable {c : TRg} {b b' : Int} {r : MR}
theorem rg_cap (h : rightRg c = true) : 1 ≤ c.Cap ∧ c.Cap ≤ 64 ∧ 1 ≤ c.Readers ∧ c.Readers ≤ 8 := by
  simp only [rightRg, decide_eq_true_eq] at h; omega
theorem RInv.mono (h : RInv c b r) (k : b ≤ b') : RInv c b' r := { h with tb := by have := h.tb; omega }
theorem SlInv.mono {cp : Int} {nr : Nat} {tail tail' : Int} {heads heads' : List Int} {i : Nat} {x : TSo} (h : SlInv cp nr tail heads i x) (ht : tail ≤ tail')
    (hh : ∀ (j : Nat) (y : Int), heads'[j]? = some y → ∃ z : Int, heads[j]? = some z ∧ z ≤ y) : SlInv cp nr tail' heads' i x where
  s0 := h.s0
  s1 := h.s1
  at0 := h.at0
  free := h.free
  held := h.held
  hTail k := by have := h.hTail k; omega
  hBit k j y hy hb := by
    obtain ⟨z, h1, h2⟩ := hh j y hy
    have := h.hBit k j z h1 hb
    omega
  fHead k k2 y hy := by
    obtain ⟨j, hj⟩ := List.getElem?_of_mem hy
    obtain ⟨z, h1, h2⟩ := hh j y hj
    have := h.fHead k k2 z (List.mem_of_getElem? h1)
    omega
theorem mFull_false (h : mFull r = false) : ∀ x ∈ r.Heads, r.Tail - x < capR r := by
  intro x hx
  simp only [mFull, List.any_eq_false, decide_eq_true_eq] at h
  have := h x hx
  omega
theorem RInv.claim (h : RInv c b r) (hf : mFull r = false) : RInv c (b + 1) { r with Tail := r.Tail + 1 } where
  cap := h.cap
  rd := h.rd
  t0 := by have := h.t0; show 0 ≤ r.Tail + 1; omega
  tb := by have := h.tb; show r.Tail + 1 < b + 1; omega
  h0 x hx := by
    have h1 := h.h0 x hx
    have h2 := mFull_false hf x hx
    have h3 := h.cap
    unfold capR at h2
    show 0 ≤ x ∧ x ≤ r.Tail + 1 ∧ r.Tail + 1 - x ≤ c.Cap
    omega
  sl i x hx := (h.sl i x hx).mono (by show r.Tail ≤ r.Tail + 1; omega) fun j y hy => ⟨y, hy, Int.le_refl _⟩
theorem plc_lt (h : RInv c b r) (hc : rightRg c = true) (t : Int) : plc r t < r.Slots.length := by
  have h1 := h.cap
  have h2 := rg_cap hc
  unfold plc capR
  have h3 := Int.emod_nonneg t (b := (r.Slots.length : Int)) (by omega)
  have h4 := Int.emod_lt_of_pos t (b := (r.Slots.length : Int)) (by omega)
  omega
theorem slotAt_in (h : RInv c b r) (hc : rightRg c = true) (t : Int) : r.Slots[plc r t]? = some (slotAt r t) := getD_in (plc_lt h hc t)
theorem plc_eq (h : RInv c b r) (hc : rightRg c = true) (t : Int) : t % c.Cap = (plc r t : Int) := by
  have h1 := h.cap
  have h2 := rg_cap hc
  unfold plc capR
  rw [h1]
  have h3 := Int.emod_nonneg t (b := c.Cap) (by omega)
  omega
theorem set_get {α : Type} {l : List α} {k i : Nat} {x y : α} (h : (l.set k x)[i]? = some y) (hk : k < l.length) : (i = k ∧ y = x) ∨ (i ≠ k ∧ l[i]? = some y) := by
  by_cases e : k = i
  · subst e
    rw [List.getElem?_set_self hk] at h
    exact .inl ⟨rfl, (Option.some.inj h).symm⟩
  · rw [List.getElem?_set_ne e] at h
    exact .inr ⟨fun k => e k.symm, h⟩
theorem bitI_all {n j : Nat} (h : j < n) : bitI (2 ^ n - 1) (j : Int) = true := by
  simp only [bitI, decide_eq_true_eq, Int.toNat_natCast]
  obtain ⟨d, rfl⟩ : ∃ d, n = j + (d + 1) := ⟨n - j - 1, by omega⟩
  have h1 : (2 : Int) ^ (j + (d + 1)) - 1 = (2 ^ (d + 1) - 1) * 2 ^ j + (2 ^ j - 1) := by
    rw [Int.pow_add, Int.sub_mul, Int.mul_comm (2 ^ j)]; omega
  have h2 := pow2_pos j
  rw [h1, Int.add_comm, Int.add_mul_ediv_right _ _ (by omega), Int.ediv_eq_zero_of_lt (by omega) (by omega)]
  have h3 : (2 : Int) ^ (d + 1) = 2 * 2 ^ d := by rw [Int.pow_succ, Int.mul_comm]
  omega
theorem RInv.put (h : RInv c b r) (hc : rightRg c = true) {t v : Int} (hf : mFree r t = true) (t0 : 0 ≤ t) (hb : b ≤ 4611686018427387904) : RInv c b (mPut r t v) where
  cap := by have := h.cap; simpa [mPut] using this
  rd := h.rd
  t0 := h.t0
  tb := h.tb
  h0 := h.h0
  sl i x hx := by
    simp only [mFree, decide_eq_true_eq] at hf
    rcases set_get hx (plc_lt h hc t) with ⟨rfl, rfl⟩ | ⟨_, hx⟩
    · have ht : t < r.Tail := hf.1
      have hlt := h.tb
      have hd : (2 * t + 1) / 2 = t := by omega
      have hm : (2 * t + 1) % 2 = 1 := by omega
      have hp := pow2_pos r.Heads.length
      have hrd := h.rd
      have hr := (rg_cap hc).2.2
      refine ⟨by show 0 ≤ 2 * t + 1; omega, by show 2 * t + 1 < _; omega, by show (2 * t + 1) / 2 % c.Cap = _; rw [hd]; exact plc_eq h hc t, fun k => by exfalso; change (2 * t + 1) % 2 = 0 at k; omega, fun _ => ?_, fun _ => by show (2 * t + 1) / 2 < r.Tail; omega,
        fun _ j y hy hb => ?_, fun k => by exfalso; change (2 * t + 1) % 2 = 0 at k; omega⟩
      · show 1 ≤ (2 : Int) ^ r.Heads.length - 1 ∧ (2 : Int) ^ r.Heads.length - 1 < 2 ^ r.Heads.length
        obtain ⟨d, hd⟩ : ∃ d, r.Heads.length = d + 1 := ⟨r.Heads.length - 1, by omega⟩
        rw [hd, Int.pow_succ]
        have := pow2_pos d
        omega
      · have hj : j < r.Heads.length := (List.getElem?_eq_some_iff.1 hy).1
        have := bitI_all hj
        change bitI (2 ^ r.Heads.length - 1) (j : Int) = false at hb
        rw [this] at hb
        cases hb
    · exact h.sl i x hx
theorem RInv.take (h : RInv c b r) {j : Int} (hj : (j.toNat) < r.Heads.length) (he : mEmpty r j = false) : RInv c b (mTake r j) where
  cap := h.cap
  rd := by have := h.rd; simpa [mTake] using this
  t0 := h.t0
  tb := h.tb
  h0 x hx := by
    simp only [mEmpty, decide_eq_false_iff_not] at he
    obtain ⟨k, hk⟩ := List.getElem?_of_mem hx
    have hd0 : r.Heads[j.toNat]? = some (hd r j) := getD_in hj
    have h1 := h.h0 _ (List.mem_of_getElem? hd0)
    rcases set_get hk hj with ⟨rfl, rfl⟩ | ⟨_, hk⟩
    · show 0 ≤ hd r j + 1 ∧ hd r j + 1 ≤ r.Tail ∧ r.Tail - (hd r j + 1) ≤ c.Cap
      omega
    · exact h.h0 x (List.mem_of_getElem? hk)
  sl i x hx := by
    have hl : (mTake r j).Heads.length = r.Heads.length := by simp [mTake]
    rw [hl]
    refine (h.sl i x hx).mono (Int.le_refl _) fun k y hy => ?_
    rcases set_get hy hj with ⟨rfl, rfl⟩ | ⟨_, hk⟩
    · exact ⟨_, getD_in hj, by show hd r j ≤ hd r j + 1; omega⟩
    · exact ⟨y, hk, Int.le_refl _⟩
theorem RInv.close (h : RInv c b r) : RInv c b { r with Closed := true } where
  cap := h.cap
  rd := h.rd
  t0 := h.t0
  tb := h.tb
  h0 := h.h0
  sl := h.sl
end
theorem bit_clear : ∀ (x : Fin 256) (j k : Fin 8), bitI (x.val : Int) (j.val : Int) = true → bitI ((x.val : Int) - 2 ^ j.val) (k.val : Int) = (bitI (x.val : Int) (k.val : Int) && !decide (k = j)) ∧ (0 : Int) ≤ (x.val : Int) - 2 ^ j.val := by decide +kernel
theorem bit_clear' {x : Int} {j k n : Nat} (h0 : 0 ≤ x) (h1 : x < 2 ^ n) (hn : n ≤ 8) (hj : j < n) (hk : k < n) (hb : bitI x (j : Int) = true) :
    bitI (x - 2 ^ j) (k : Int) = (bitI x (k : Int) && !decide (k = j)) ∧ 0 ≤ x - 2 ^ j := by
  have h2 : (2 : Int) ^ n ≤ 2 ^ 8 := by
    have := Nat.pow_le_pow_right (n := 2) (by decide) hn
    exact_mod_cast this
  have e : ((x.toNat : Nat) : Int) = x := Int.toNat_of_nonneg h0
  have := bit_clear ⟨x.toNat, by omega⟩ ⟨j, by omega⟩ ⟨k, by omega⟩
  simp only [e, Fin.mk.injEq] at this
  exact this hb
theorem bitI_zero (k : Int) : bitI 0 k = false := by simp [bitI]
section
variable {c : TRg} {b : Int} {r : MR}
theorem RInv.rel (h : RInv c b r) (hc : rightRg c = true) {j t : Int} (hj0 : 0 ≤ j) (hj : j.toNat < r.Heads.length) (hh : mHas r j t = true) (hb : b ≤ 2305843009213693952) : RInv c b (mRel r j t) where
  cap := by have := h.cap; simpa [mRel] using this
  rd := h.rd
  t0 := h.t0
  tb := h.tb
  h0 := h.h0
  sl i x hx := by
    simp only [mHas, decide_eq_true_eq] at hh
    obtain ⟨hlt, hst, hbit⟩ := hh
    rcases set_get hx (plc_lt h hc t) with ⟨rfl, rfl⟩ | ⟨_, hx⟩
    · have hS := h.sl _ _ (slotAt_in h hc t)
      have hrc := rg_cap hc
      have hrd := h.rd
      have htb := h.tb
      have hcap : capR r = c.Cap := h.cap
      have hd0 : r.Heads[j.toNat]? = some (hd r j) := getD_in hj
      have hhd := h.h0 _ (List.mem_of_getElem? hd0)
      have hs0 := hS.s0
      have hm : (slotAt r t).Stamp % 2 = 1 := by omega
      have hdv : (slotAt r t).Stamp / 2 = t := by omega
      have hheld := hS.held hm
      have hjn : ((j.toNat : Nat) : Int) = j := Int.toNat_of_nonneg hj0
      have hclr : ∀ k : Nat, k < r.Heads.length → bitI ((slotAt r t).Left - 2 ^ j.toNat) (k : Int) = (bitI (slotAt r t).Left (k : Int) && !decide (k = j.toNat)) ∧ 0 ≤ (slotAt r t).Left - 2 ^ j.toNat :=
        fun k hk => bit_clear' (by omega) hheld.2 (by omega) hj hk (by rw [hjn]; exact hbit)
      have hlow : ∀ (k : Nat) (y : Int), r.Heads[k]? = some y → bitI ((slotAt r t).Left - 2 ^ j.toNat) (k : Int) = false → t < y := by
        intro k y hy hbk
        have hk : k < r.Heads.length := (List.getElem?_eq_some_iff.1 hy).1
        rw [(hclr k hk).1] at hbk
        by_cases e : k = j.toNat
        · subst e; rw [hd0] at hy; cases hy; exact hlt
        · simp only [e, decide_false, Bool.not_false, Bool.and_true] at hbk
          have := hS.hBit hm k y hy hbk
          omega
      unfold mGot
      split
      · rename_i hz
        rw [hz] at hlow
        rw [hcap]
        have e : 2 * (t + c.Cap) / 2 = t + c.Cap := by omega
        refine ⟨by show 0 ≤ 2 * (t + c.Cap); omega, by show 2 * (t + c.Cap) < _; omega, ?_, fun _ => ⟨rfl, rfl⟩, fun k => by exfalso; change 2 * (t + c.Cap) % 2 = 1 at k; omega, fun k => by exfalso; change 2 * (t + c.Cap) % 2 = 1 at k; omega,
          fun k => by exfalso; change 2 * (t + c.Cap) % 2 = 1 at k; omega, fun _ _ y hy => ?_⟩
        · show 2 * (t + c.Cap) / 2 % c.Cap = _
          rw [e, Int.add_emod_right]
          exact plc_eq h hc t
        · show 2 * (t + c.Cap) / 2 - c.Cap < y
          obtain ⟨k, hk⟩ := List.getElem?_of_mem hy
          have := hlow k y hk (bitI_zero _)
          omega
      · rename_i hz
        have h2 := (hclr _ hj).2
        have hp := pow2_pos j.toNat
        exact ⟨hS.s0, hS.s1, hS.at0, fun k => by exfalso; change (slotAt r t).Stamp % 2 = 0 at k; omega, fun _ => ⟨by show 1 ≤ (slotAt r t).Left - 2 ^ j.toNat; omega, by show (slotAt r t).Left - 2 ^ j.toNat < 2 ^ r.Heads.length; omega⟩, hS.hTail,
          fun _ k y hy hbk => by show (slotAt r t).Stamp / 2 < y; rw [hdv]; exact hlow k y hy hbk, fun k => by exfalso; change (slotAt r t).Stamp % 2 = 0 at k; omega⟩
    · exact h.sl i x hx
theorem getD_map_range {α : Type} (f : Nat → α) (n i : Nat) (x : α) (h : ((List.range n).map f)[i]? = some x) : i < n ∧ x = f i := by
  simp only [List.getElem?_map, Option.map_eq_some_iff] at h
  obtain ⟨k, hk, rfl⟩ := h
  obtain ⟨h1, h2⟩ := List.getElem?_eq_some_iff.1 hk
  simp at h1 h2
  subst h2
  exact ⟨h1, rfl⟩
theorem RInv.new (hc : rightRg c = true) (hb : 0 < b) : RInv c b (mNewR c) where
  cap := by have := rg_cap hc; simp [mNewR]; omega
  rd := by have := rg_cap hc; simp [mNewR]; omega
  t0 := Int.le_refl _
  tb := hb
  h0 x hx := by
    have := rg_cap hc
    simp only [mNewR, List.mem_replicate] at hx
    obtain ⟨_, rfl⟩ := hx
    show (0 : Int) ≤ 0 ∧ (0 : Int) ≤ 0 ∧ (0 : Int) - 0 ≤ c.Cap
    omega
  sl i x hx := by
    have hcp := rg_cap hc
    obtain ⟨hi, rfl⟩ := getD_map_range _ _ _ _ hx
    refine ⟨by show 0 ≤ 2 * (i : Int); omega, by show 2 * (i : Int) < _; omega, ?_, fun _ => ⟨rfl, rfl⟩, fun k => by exfalso; change 2 * (i : Int) % 2 = 1 at k; omega, fun k => by exfalso; change 2 * (i : Int) % 2 = 1 at k; omega,
      fun k => by exfalso; change 2 * (i : Int) % 2 = 1 at k; omega, fun _ k => by exfalso; change c.Cap ≤ 2 * (i : Int) / 2 at k; omega⟩
    show 2 * (i : Int) / 2 % c.Cap = i
    rw [show 2 * (i : Int) / 2 = i by omega]
    exact Int.emod_eq_of_lt (by omega) (by omega)
end
end
section
theorem gI_mem {l : List TIn} {n : Int} (h0 : 0 ≤ n) (h1 : n < l.length) : gI l n ∈ l := by
  have : n.toNat < l.length := by omega
  exact List.mem_of_getElem? (getD_in this)
theorem rightI_facts {i : TIn} (h : rightI i = true) :
    (1 ≤ i.Op ∧ i.Op ≤ 25) ∧ (0 ≤ i.A ∧ i.A ≤ 7) ∧ (0 ≤ i.B ∧ i.B ≤ 7) ∧ (0 ≤ i.C ∧ i.C ≤ 7) ∧ (0 ≤ i.D ∧ i.D ≤ 2) ∧ (i.Op ≠ 1 → 0 ≤ i.K ∧ i.K ≤ 256) ∧ (i.Op = 19 → i.K ≤ 7) := by
  unfold rightI at h
  simp only at h
  repeat' split at h
  all_goals first | (exact absurd h (by decide)) | (simp only [Bool.and_eq_true, decide_eq_true_eq] at h; omega)
theorem instrE_facts {rs : List TRg} {i : TIn} {n : Int} (h : instrE rs i n = 0) :
    rightI i = true ∧ (15 ≤ i.Op ∧ i.Op ≤ 17 → i.K ≤ n) ∧ (18 ≤ i.Op ∧ i.Op ≤ 20 → i.C < rs.length) ∧ (i.Op = 19 → i.K < (rs.getD i.C.toNat ⟨0, 0, 0⟩).Readers) := by
  unfold instrE at h
  repeat' split at h
  all_goals first
    | (exfalso; omega)
    | (refine ⟨?_, ?_, ?_, ?_⟩
       · cases e : rightI i
         · exact absurd e ‹_›
         · rfl
       all_goals (intro hh; omega))
def CodeIn (rs : List TRg) (l : List TIn) : Prop := ∀ i ∈ l, instrE rs i l.length = 0
section
variable {rs : List TRg} {l : List TIn} {t : MT}
structure Kept (t u : MT) : Prop where
  ph : u.Phase = t.Phase
  rg : u.Ring = t.Ring
  st : u.Status = t.Status
  tk : u.Ticket = t.Ticket
  sn : u.Seen = t.Seen
theorem Kept.refl (t : MT) : Kept t t := ⟨rfl, rfl, rfl, rfl, rfl⟩
theorem Kept.trans {t u v : MT} (a : Kept t u) (b : Kept u v) : Kept t v := ⟨b.ph.trans a.ph, b.rg.trans a.rg, b.st.trans a.st, b.tk.trans a.tk, b.sn.trans a.sn⟩
theorem kept_step (i : TIn) (t : MT) : Kept t (mStepI i t) := by
  unfold mStepI
  repeat' split
  all_goals exact ⟨rfl, rfl, rfl, rfl, rfl⟩
theorem step_at {i : TIn} {t : MT} {n : Int} (h0 : 0 ≤ t.At) (h1 : t.At < n) (hk : i.Op ≠ 1 → 0 ≤ i.K) (hj : 15 ≤ i.Op ∧ i.Op ≤ 17 → i.K ≤ n) : 0 ≤ (mStepI i t).At ∧ (mStepI i t).At ≤ n := by
  unfold mStepI
  repeat' split
  all_goals (simp only; omega)
theorem run_keeps (hc : CodeIn rs l) : ∀ (n : Nat) (t : MT), 0 ≤ t.At → t.At ≤ l.length → Kept t (mRun l n t) ∧ 0 ≤ (mRun l n t).At ∧ (mRun l n t).At ≤ l.length
  | 0, t, h0, h1 => ⟨Kept.refl t, h0, h1⟩
  | n + 1, t, h0, h1 => by
    unfold mRun
    split
    · rename_i h
      have hm := gI_mem h0 h.1
      have hf := instrE_facts (hc _ hm)
      have hr := rightI_facts hf.1
      have hs := step_at (i := gI l t.At) h0 h.1 (fun k => (hr.2.2.2.2.2.1 k).1) hf.2.1
      obtain ⟨k1, k2⟩ := run_keeps hc n (mStepI (gI l t.At) t) hs.1 hs.2
      exact ⟨(kept_step _ _).trans k1, k2⟩
    · exact ⟨Kept.refl t, h0, h1⟩
theorem TInv.kept {t u : MT} (h : TInv l t) (hp : t.Phase = 0) (k : Kept t u) (h0 : 0 ≤ u.At) (h1 : u.At ≤ l.length) : TInv l u where
  a0 := h0
  a1 := h1
  st := by rw [k.st]; exact h.st
  ph := by rw [k.ph]; exact h.ph
  p0 _ := by rw [k.rg, k.tk]; exact h.p0 hp
  p1 q := by rw [k.ph] at q; exact absurd hp q
theorem next_kept (hc : CodeIn rs l) (h : TInv l t) : Kept t (mNext l t).1 ∧ TInv l (mNext l t).1 := by
  unfold mNext
  repeat' split
  · exact ⟨Kept.refl t, h⟩
  · exact ⟨Kept.refl t, h⟩
  · exact ⟨Kept.refl t, h⟩
  · have hp : t.Phase = 0 := by have := h.ph; omega
    obtain ⟨k1, k2, k3⟩ := run_keeps hc 256 t h.a0 h.a1
    exact ⟨k1, h.kept hp k1 k2 k3⟩
structure Asked (l : List TIn) (t n : MT) (a : MA) : Prop where
  run : a.Kind ≠ 0 → t.Status = 0
  k1 : a.Kind = 1 → n.Phase = 0 ∧ n.At < l.length ∧ (gI l n.At).Op = 18 ∧ a.Ring = (gI l n.At).C
  k2 : a.Kind = 2 → n.Phase = 0 ∧ n.At < l.length ∧ (gI l n.At).Op = 19 ∧ a.Ring = (gI l n.At).C ∧ a.Reader = (gI l n.At).K
  k3 : a.Kind = 3 → n.Phase = 0 ∧ n.At < l.length ∧ (gI l n.At).Op = 20 ∧ a.Ring = (gI l n.At).C
  kn : 4 ≤ a.Kind ∧ a.Kind ≤ 7 → n.Phase = 0 ∧ n.At < l.length
  kh : a.Kind = 8 ∨ a.Kind = 9 → n.Phase = 0
  kp : a.Kind = 10 → n.Phase = 1 ∧ n.At < l.length ∧ a.Ring = n.Ring ∧ a.Ticket = n.Ticket
  kr : a.Kind = 11 → n.Phase = 2 ∧ n.At < l.length ∧ a.Ring = n.Ring ∧ a.Ticket = n.Ticket ∧ a.Reader = (gI l n.At).K
  ks : a.Kind = 7 → n.Phase = 0
  top : 0 ≤ a.Kind ∧ a.Kind ≤ 11
theorem asked_of (hc : CodeIn rs l) (h : TInv l t) : Asked l t (mNext l t).1 (mNext l t).2 := by
  unfold mNext
  split
  · refine ⟨fun k => absurd rfl k, ?_, ?_, ?_, ?_, ?_, ?_, ?_, ?_, ?_⟩ <;> simp [zA]
  rename_i hs
  have hs : t.Status = 0 := by omega
  split
  · rename_i hp
    have := h.p1 (by omega)
    refine ⟨fun _ => hs, ?_, ?_, ?_, ?_, ?_, ?_, ?_, ?_, ?_⟩ <;> simp [hp]
    exact this.2.1
  split
  · rename_i hp
    have := h.p1 (by omega)
    refine ⟨fun _ => hs, ?_, ?_, ?_, ?_, ?_, ?_, ?_, ?_, ?_⟩ <;> simp [hp]
    exact this.2.1
  have hp : t.Phase = 0 := by have := h.ph; omega
  obtain ⟨k1, k2, k3⟩ := run_keeps hc 256 t h.a0 h.a1
  generalize mRun l 256 t = n at k1 k2 k3
  have hn : n.Phase = 0 := by rw [k1.ph, hp]
  simp only [mAskI]
  repeat' split
  all_goals (refine ⟨fun _ => hs, ?_, ?_, ?_, ?_, ?_, ?_, ?_, ?_, ?_⟩ <;> simp [zA, hn] <;> omega)
end
end
section
theorem rightE_facts {e : TEv} (h : mRightE e = true) : (1 ≤ e.Kind ∧ e.Kind ≤ 15) ∧ (0 ≤ e.Thread ∧ e.Thread ≤ 7) ∧ (0 ≤ e.Ring ∧ e.Ring ≤ 7) ∧ e.Ticket < 4611686018427387904 ∧
    (kRing e.Kind = true ∨ e.Ring = 0) ∧ (kTicket e.Kind = true ∨ e.Ticket = 0) ∧ (kValue e.Kind = true ∨ e.Value = 0) := by
  simpa only [mRightE, decide_eq_true_eq] using h
theorem kRing_iff {k : Int} : kRing k = true ↔ (1 ≤ k ∧ k ≤ 7 ∨ k = 13) := by simp only [kRing, decide_eq_true_eq]
theorem kTicket_iff {k : Int} : kTicket k = true ↔ (1 ≤ k ∧ k ≤ 4 ∨ k = 13) := by simp only [kTicket, decide_eq_true_eq]
structure FitF (a : MA) (e : TEv) : Prop where
  rg : kRing e.Kind = true → a.Ring = e.Ring
  f1 : e.Kind = 1 → a.Kind = 1
  f2 : e.Kind = 2 → a.Kind = 10 ∧ a.Ticket = e.Ticket
  f3 : e.Kind = 3 → a.Kind = 2
  f4 : e.Kind = 4 → a.Kind = 11 ∧ a.Ticket = e.Ticket
  f5 : 5 ≤ e.Kind ∧ e.Kind ≤ 7 → a.Kind = 1 ∨ a.Kind = 2
  f8 : e.Kind = 8 → a.Kind = 4
  f9 : e.Kind = 9 → a.Kind = 5
  f10 : e.Kind = 10 ∨ e.Kind = 11 → a.Kind = 6
  f12 : e.Kind = 12 → a.Kind = 7 ∧ a.Value = e.Value
  f13 : e.Kind = 13 → a.Kind = 3
  f14 : e.Kind = 14 → a.Kind = 8
  f15 : e.Kind = 15 → a.Kind = 9
theorem fitF {a : MA} {e : TEv} (hr : mRightE e = true) (h : mFitsA a e = true) : FitF a e := by
  have hk := (rightE_facts hr).1
  simp only [mFitsA, Bool.and_eq_true, Bool.or_eq_true, Bool.not_eq_true', decide_eq_true_eq] at h
  obtain ⟨h1, h2⟩ := h
  have h1 : kRing e.Kind = true → a.Ring = e.Ring := fun k => by
    rcases h1 with h1 | h1
    · rw [h1] at k; cases k
    · exact h1
  have hd : e.Kind = 1 ∨ e.Kind = 2 ∨ e.Kind = 3 ∨ e.Kind = 4 ∨ e.Kind = 5 ∨ e.Kind = 6 ∨ e.Kind = 7 ∨ e.Kind = 8 ∨ e.Kind = 9 ∨ e.Kind = 10 ∨ e.Kind = 11 ∨ e.Kind = 12 ∨ e.Kind = 13 ∨ e.Kind = 14 ∨ e.Kind = 15 := by omega
  rcases hd with q | q | q | q | q | q | q | q | q | q | q | q | q | q | q
  all_goals (simp [q, mWants] at h2; refine ⟨h1, ?_, ?_, ?_, ?_, ?_, ?_, ?_, ?_, ?_, ?_, ?_, ?_⟩ <;> intro hh <;> omega)
section
variable {l : List TIn} {t n : MT} {a : MA} {e : TEv} {v : Int}
theorem bT1 (i : TIn) (h : e.Kind = 1) : mBehindT i n e v = { n with Phase := 1, Ring := e.Ring, Ticket := e.Ticket } := by unfold mBehindT; rw [if_pos h]
theorem bT3 (i : TIn) (h : e.Kind = 3) : mBehindT i n e v = { n with Phase := 2, Ring := e.Ring, Ticket := e.Ticket } := by unfold mBehindT; rw [if_neg (by omega), if_pos h]
theorem bT14 (i : TIn) (h : e.Kind = 14) : mBehindT i n e v = { n with Status := 1 } := by unfold mBehindT; rw [if_neg (by omega), if_neg (by omega), if_pos h]
theorem bT15 (i : TIn) (h : e.Kind = 15) : mBehindT i n e v = { n with Status := 2 } := by unfold mBehindT; rw [if_neg (by omega), if_neg (by omega), if_neg (by omega), if_pos h]
theorem bTe (i : TIn) (h1 : e.Kind ≠ 1) (h3 : e.Kind ≠ 3) (h14 : e.Kind ≠ 14) (h15 : e.Kind ≠ 15) :
    (mBehindT i n e v).At = n.At + 1 ∧ (mBehindT i n e v).Phase = 0 ∧ (mBehindT i n e v).Ring = 0 ∧ (mBehindT i n e v).Ticket = 0 ∧ (mBehindT i n e v).Status = n.Status ∧
      (mBehindT i n e v).Seen = (if e.Kind = 12 then n.Seen ++ [e.Value] else n.Seen) := by
  unfold mBehindT
  rw [if_neg h1, if_neg h3, if_neg h14, if_neg h15]
  exact ⟨rfl, rfl, rfl, rfl, rfl, rfl⟩
theorem behind_inv (hr : mRightE e = true) (h0 : 0 ≤ e.Ticket) (hq : Asked l t n a) (hn : TInv l n) (hst : n.Status = t.Status) (ha : a.Kind ≠ 0) (hf : FitF a e) : TInv l (mBehindT (gI l n.At) n e v) := by
  have hk := rightE_facts hr
  have hrun : n.Status = 0 := hst.trans (hq.run ha)
  have hkr := kRing_iff (k := e.Kind)
  by_cases he : e.Kind = 1
  · rw [bT1 _ he]
    have h1 := hq.k1 (hf.f1 he)
    have h2 := hf.rg (hkr.2 (by omega))
    exact ⟨hn.a0, hn.a1, hn.st, by simp, by simp, fun _ => ⟨hrun, h1.2.1, by rw [h1.2.2.1]; rfl, by rw [← h1.2.2.2, h2], h0, hk.2.2.2.1⟩⟩
  by_cases he3 : e.Kind = 3
  · rw [bT3 _ he3]
    have h1 := hq.k2 (hf.f3 he3)
    have h2 := hf.rg (hkr.2 (by omega))
    exact ⟨hn.a0, hn.a1, hn.st, by simp, by simp, fun _ => ⟨hrun, h1.2.1, by rw [h1.2.2.1]; rfl, by rw [← h1.2.2.2.1, h2], h0, hk.2.2.2.1⟩⟩
  by_cases he14 : e.Kind = 14
  · rw [bT14 _ he14]
    have h1 := hq.kh (.inl (hf.f14 he14))
    exact ⟨hn.a0, hn.a1, by simp, hn.ph, hn.p0, fun k => absurd h1 k⟩
  by_cases he15 : e.Kind = 15
  · rw [bT15 _ he15]
    have h1 := hq.kh (.inr (hf.f15 he15))
    exact ⟨hn.a0, hn.a1, by simp, hn.ph, hn.p0, fun k => absurd h1 k⟩
  have hat : n.At < l.length := by
    have b2 := hf.f2; have b4 := hf.f4; have b5 := hf.f5; have b8 := hf.f8; have b9 := hf.f9; have b10 := hf.f10; have b12 := hf.f12; have b13 := hf.f13
    have hd : e.Kind = 2 ∨ e.Kind = 4 ∨ (5 ≤ e.Kind ∧ e.Kind ≤ 7) ∨ (8 ≤ e.Kind ∧ e.Kind ≤ 12) ∨ e.Kind = 13 := by omega
    rcases hd with h | h | h | h | h
    · exact (hq.kp (b2 h).1).2.1
    · exact (hq.kr (b4 h).1).2.1
    · rcases b5 h with q | q
      · exact (hq.k1 q).2.1
      · exact (hq.k2 q).2.1
    · refine (hq.kn ?_).2
      have : e.Kind = 8 ∨ e.Kind = 9 ∨ (e.Kind = 10 ∨ e.Kind = 11) ∨ e.Kind = 12 := by omega
      rcases this with q | q | q | q
      · have := b8 q; omega
      · have := b9 q; omega
      · have := b10 q; omega
      · have := b12 q; omega
    · exact (hq.k3 (b13 h)).2.1
  have := hn.a0
  obtain ⟨e1, e2, e3, e4, e5, _⟩ := bTe (v := v) (n := n) (gI l n.At) he he3 he14 he15
  exact ⟨by rw [e1]; omega, by rw [e1]; omega, by rw [e5]; exact hn.st, by rw [e2]; simp, fun _ => ⟨e3, e4⟩, fun k => absurd e2 k⟩
theorem turn_inv {c : TRg} {b : Int} {r : MR} (h : RInv c b r) (hc : rightRg c = true) (hb : b ≤ 2305843009213693952) (h0 : 0 ≤ e.Ticket) (hrd : a.Kind = 2 ∨ a.Kind = 11 → 0 ≤ a.Reader ∧ a.Reader < c.Readers)
    (hf : FitF a e) (ht : mTurn r a e = true) : RInv c (b + 1) (mRingB r a e) := by
  unfold mRingB
  unfold mTurn at ht
  have hl := h.rd
  split
  · rename_i he
    rw [if_pos he] at ht
    simp only [Bool.and_eq_true, Bool.not_eq_true', decide_eq_true_eq] at ht
    exact h.claim ht.1
  rename_i h1
  rw [if_neg h1] at ht
  split
  · rename_i he
    rw [if_pos he] at ht
    exact (h.put hc ht h0 (by omega)).mono (by omega)
  rename_i h2
  rw [if_neg h2] at ht
  split
  · rename_i he
    rw [if_pos he] at ht
    simp only [Bool.and_eq_true, Bool.not_eq_true', decide_eq_true_eq] at ht
    have := hrd (.inl (hf.f3 he))
    exact (h.take (by omega) ht.1).mono (by omega)
  rename_i h3
  rw [if_neg h3] at ht
  split
  · rename_i he
    rw [if_pos he] at ht
    have := hrd (.inr (hf.f4 he).1)
    exact (h.rel hc this.1 (by omega) ht hb).mono (by omega)
  split
  · exact h.close.mono (by omega)
  · exact h.mono (by omega)
theorem ringB_tail (r : MR) (a : MA) (e : TEv) : r.Tail ≤ (mRingB r a e).Tail ∧ (e.Kind = 1 → (mRingB r a e).Tail = r.Tail + 1) ∧ (e.Kind ≠ 1 → (mRingB r a e).Tail = r.Tail) := by
  unfold mRingB
  repeat' split
  all_goals (refine ⟨?_, fun h => ?_, fun h => ?_⟩ <;> (try simp [mPut, mTake, mRel]) <;> (try omega))
theorem take_hd {r : MR} {j k : Int} : hd r k ≤ hd (mTake r j) k := by
  simp only [hd, mTake]
  by_cases e : j.toNat = k.toNat
  · by_cases h : j.toNat < r.Heads.length
    · rw [← e, getD_set_same h]; omega
    · rw [List.set_eq_of_length_le (by omega)]; omega
  · rw [getD_set_ne e]; omega
theorem ringB_hd (r : MR) (a : MA) (e : TEv) (k : Int) : hd r k ≤ hd (mRingB r a e) k := by
  unfold mRingB
  split
  · exact Int.le_refl _
  split
  · exact Int.le_refl _
  split
  · exact take_hd
  split
  · exact Int.le_refl _
  split <;> exact Int.le_refl _
end
end
section
section
variable {p : MP} {b : Int} {s : MS} {e : TEv}
structure Fitting (p : MP) (s : MS) (e : TEv) : Prop where
  re : mRightE e = true
  lt : e.Thread.toNat < s.Threads.length
  th : 0 ≤ e.Thread
  a0 : (mAsk p s e.Thread).Kind ≠ 0
  ft : mFitsA (mAsk p s e.Thread) e = true
theorem fitting (h : mFits p s e = 0) : Fitting p s e := by
  unfold mFits at h
  split at h
  · omega
  rename_i h1
  split at h
  · omega
  rename_i h2
  split at h
  · omega
  rename_i h3
  have hr : mRightE e = true := by cases q : mRightE e <;> simp_all
  have hk := rightE_facts hr
  refine ⟨hr, by omega, hk.2.1.1, fun q => h3 (.inl q), ?_⟩
  cases q : mFitsA (mAsk p s e.Thread) e
  · exact absurd (.inr q) h3
  · rfl
theorem code_in (h : FInv p b s) {i : Nat} {l : List TIn} (hl : p.Threads[i]? = some l) : CodeIn p.Rings l := h.pi.ins l (List.mem_of_getElem? hl)
theorem thr_in {t : Int} (h : t.toNat < s.Threads.length) : s.Threads[t.toNat]? = some (thr s t) := getD_in h
theorem code_at (h : FInv p b s) {t : Int} (k : t.toNat < s.Threads.length) : p.Threads[t.toNat]? = some (codeOf p t) := getD_in (by rw [← h.nt]; exact k)
theorem rng_in {i : Int} (h : i.toNat < s.Rings.length) : s.Rings[i.toNat]? = some (rng s i) := getD_in h
def cfgOf (p : MP) (i : Int) : TRg := p.Rings.getD i.toNat ⟨0, 0, 0⟩
theorem cfg_in {i : Int} (h : i.toNat < p.Rings.length) : p.Rings[i.toNat]? = some (cfgOf p i) := getD_in h
theorem FInv.rinv (h : FInv p b s) {i : Int} (k : i.toNat < p.Rings.length) : RInv (cfgOf p i) b (rng s i) ∧ rightRg (cfgOf p i) = true :=
  ⟨h.ri _ _ _ (cfg_in k) (rng_in (by rw [h.nr]; exact k)), h.pi.rg _ (List.mem_of_getElem? (cfg_in k))⟩
theorem FInv.tinv (h : FInv p b s) {t : Int} (k : t.toNat < s.Threads.length) : TInv (codeOf p t) (thr s t) := h.ti _ _ _ (code_at h k) (thr_in k)
theorem FInv.asked (h : FInv p b s) {t : Int} (k : t.toNat < s.Threads.length) :
    Asked (codeOf p t) (thr s t) (mNext (codeOf p t) (thr s t)).1 (mAsk p s t) ∧ TInv (codeOf p t) (mNext (codeOf p t) (thr s t)).1 ∧ Kept (thr s t) (mNext (codeOf p t) (thr s t)).1 ∧ CodeIn p.Rings (codeOf p t) := by
  have hc := code_in h (code_at h k)
  have hk := next_kept hc (h.tinv k)
  exact ⟨asked_of hc (h.tinv k), hk.2, hk.1, hc⟩
theorem ask_ring (h : FInv p b s) {t : Int} (k : t.toNat < s.Threads.length) {a : MA} (ha : a = mAsk p s t) (hk : a.Kind = 1 ∨ a.Kind = 2 ∨ a.Kind = 3 ∨ a.Kind = 10 ∨ a.Kind = 11) :
    0 ≤ a.Ring ∧ a.Ring.toNat < p.Rings.length ∧ (a.Kind = 2 ∨ a.Kind = 11 → 0 ≤ a.Reader ∧ a.Reader < (cfgOf p a.Ring).Readers) := by
  obtain ⟨hq, hn, _, hc⟩ := h.asked k
  rw [← ha] at hq
  generalize (mNext (codeOf p t) (thr s t)).1 = n at hq hn
  generalize codeOf p t = l at hq hn hc
  have key : ∀ {i : TIn}, i ∈ l → 18 ≤ i.Op ∧ i.Op ≤ 20 → 0 ≤ i.C ∧ i.C.toNat < p.Rings.length ∧ (i.Op = 19 → 0 ≤ i.K ∧ i.K < (cfgOf p i.C).Readers) := by
    intro i hi ho
    have h1 := instrE_facts (hc i hi)
    have h2 := rightI_facts h1.1
    have h3 := h1.2.2.1 ho
    exact ⟨by omega, by omega, fun q => ⟨(h2.2.2.2.2.2.1 (by omega)).1, h1.2.2.2 q⟩⟩
  have a0 := hn.a0
  rcases hk with q | q | q | q | q
  · obtain ⟨_, h1, h2, h3⟩ := hq.k1 q
    have := key (gI_mem a0 h1) (by omega)
    rw [h3]
    exact ⟨this.1, this.2.1, by omega⟩
  · obtain ⟨_, h1, h2, h3, h4⟩ := hq.k2 q
    have := key (gI_mem a0 h1) (by omega)
    rw [h3, h4]
    exact ⟨this.1, this.2.1, fun _ => this.2.2 h2⟩
  · obtain ⟨_, h1, h2, h3⟩ := hq.k3 q
    have := key (gI_mem a0 h1) (by omega)
    rw [h3]
    exact ⟨this.1, this.2.1, by omega⟩
  · obtain ⟨h0, h1, h2, h3⟩ := hq.kp q
    obtain ⟨_, _, h4, h5, _⟩ := hn.p1 (by omega)
    have := key (gI_mem a0 h1) (by omega)
    rw [h2, ← h5]
    exact ⟨this.1, this.2.1, by omega⟩
  · obtain ⟨h0, h1, h2, h3, h6⟩ := hq.kr q
    obtain ⟨_, _, h4, h5, _⟩ := hn.p1 (by omega)
    have := key (gI_mem a0 h1) (by omega)
    rw [h2, ← h5, h6]
    exact ⟨this.1, this.2.1, fun _ => this.2.2 (by omega)⟩
theorem fit_ring (h : FInv p b s) (f : Fitting p s e) (hk : kRing e.Kind = true) :
    0 ≤ e.Ring ∧ e.Ring.toNat < p.Rings.length ∧ ((mAsk p s e.Thread).Kind = 2 ∨ (mAsk p s e.Thread).Kind = 11 → 0 ≤ (mAsk p s e.Thread).Reader ∧ (mAsk p s e.Thread).Reader < (cfgOf p e.Ring).Readers) := by
  have hf := fitF f.re f.ft
  have hr := hf.rg hk
  rw [← hr]
  refine ask_ring h f.lt rfl ?_
  rw [kRing_iff] at hk
  have h1 := hf.f1; have h2 := hf.f2; have h3 := hf.f3; have h4 := hf.f4; have h5 := hf.f5; have h13 := hf.f13
  omega
end
end
section
section
variable {p : MP} {b : Int} {s : MS} {e : TEv}
theorem rng_set {rs : List MR} {i : Nat} {r : MR} (k : i < rs.length) (j : Int) : (rs.set i r).getD j.toNat zR = if j.toNat = i then r else rs.getD j.toNat zR := by
  by_cases q : i = j.toNat
  · rw [if_pos q.symm, ← q, getD_set_same k]
  · rw [if_neg (Ne.symm q), getD_set_ne q]
theorem behind_rng (h : FInv p b s) (f : Fitting p s e) (i : Int) : (rng s i).Tail ≤ (rng (mBehind p s e) i).Tail ∧ ∀ k, hd (rng s i) k ≤ hd (rng (mBehind p s e) i) k := by
  unfold rng mBehind
  simp only
  split
  · rename_i q
    have hk : kRing e.Kind = true := by rw [kRing_iff]; rw [kTicket_iff] at q; omega
    have hr := fit_ring h f hk
    rw [rng_set (by rw [h.nr]; exact hr.2.1)]
    split
    · rename_i q2
      rw [q2]
      exact ⟨(ringB_tail _ _ _).1, fun k => ringB_hd _ _ _ _⟩
    · exact ⟨Int.le_refl _, fun _ => Int.le_refl _⟩
  · exact ⟨Int.le_refl _, fun _ => Int.le_refl _⟩
theorem behind_rng_same (h : FInv p b s) (f : Fitting p s e) (q : kTicket e.Kind = true) : rng (mBehind p s e) e.Ring = mRingB (rng s e.Ring) (mAsk p s e.Thread) e := by
  have hk : kRing e.Kind = true := by rw [kRing_iff]; rw [kTicket_iff] at q; omega
  have hr := fit_ring h f hk
  unfold rng mBehind
  simp only
  rw [if_pos q, rng_set (by rw [h.nr]; exact hr.2.1), if_pos rfl]
  rfl
theorem inv_behind (h : FInv p b s) (hb : b ≤ 2305843009213693952) (he0 : 0 ≤ e.Ticket) (f : Fitting p s e) (ht : kTicket e.Kind = true → mTurn (rng s e.Ring) (mAsk p s e.Thread) e = true) :
    FInv p (b + 1) (mBehind p s e) := by
  obtain ⟨hq, hn, hkp, hc⟩ := h.asked f.lt
  have hf := fitF f.re f.ft
  have hrg : kTicket e.Kind = true → 0 ≤ e.Ring ∧ e.Ring.toNat < p.Rings.length ∧ _ := fun q => fit_ring h f (by rw [kRing_iff]; rw [kTicket_iff] at q; omega)
  have hT : TInv (codeOf p e.Thread) (mBehindT (gI (codeOf p e.Thread) (mNext (codeOf p e.Thread) (thr s e.Thread)).1.At) (mNext (codeOf p e.Thread) (thr s e.Thread)).1 e (if e.Kind = 4 then (slotAt (rng s e.Ring) e.Ticket).Value else 0)) :=
    behind_inv f.re he0 hq hn hkp.st f.a0 hf
  refine ⟨h.pi, by simp [mBehind, h.nt], ?_, ?_, ?_, ?_, ?_, ?_⟩
  · unfold mBehind; simp only; split <;> simp [h.nr]
  · have := h.n0
    unfold mBehind; simp only; split
    · omega
    · exact this
  · intro i c r hi hr
    unfold mBehind at hr
    simp only at hr
    split at hr
    · rename_i q
      obtain ⟨r0, r1, r2⟩ := hrg q
      rcases set_get hr (by rw [h.nr]; exact r1) with ⟨rfl, rfl⟩ | ⟨_, hr⟩
      · have := h.rinv r1
        rw [cfg_in r1] at hi
        cases hi
        exact turn_inv this.1 this.2 hb he0 r2 hf (ht q)
      · exact (h.ri i c r hi hr).mono (by omega)
    · exact (h.ri i c r hi hr).mono (by omega)
  · intro i l t hl hi
    rcases set_get (by simpa [mBehind] using hi) f.lt with ⟨rfl, rfl⟩ | ⟨_, hi⟩
    · rw [code_at h f.lt] at hl
      cases hl
      exact hT
    · exact h.ti i l t hl hi
  · intro i t hi hp
    rcases set_get (by simpa [mBehind] using hi) f.lt with ⟨rfl, rfl⟩ | ⟨_, hi⟩
    · by_cases he : e.Kind = 1
      · rw [bT1 _ he] at hp ⊢
        have q : kTicket e.Kind = true := by rw [kTicket_iff]; omega
        have h1 := ht q
        show e.Ticket < (rng (mBehind p s e) e.Ring).Tail
        rw [behind_rng_same h f q, (ringB_tail _ _ _).2.1 he]
        simp only [mTurn, he, if_true, Bool.and_eq_true, decide_eq_true_eq] at h1
        omega
      by_cases he3 : e.Kind = 3
      · rw [bT3 _ he3] at hp; simp at hp
      by_cases he14 : e.Kind = 14
      · rw [bT14 _ he14] at hp
        have := hq.kh (.inl (hf.f14 he14))
        simp only at hp; omega
      by_cases he15 : e.Kind = 15
      · rw [bT15 _ he15] at hp
        have := hq.kh (.inr (hf.f15 he15))
        simp only at hp; omega
      · rw [(bTe _ he he3 he14 he15).2.1] at hp; omega
    · have := h.p1 i t hi hp
      have := (behind_rng h f t.Ring).1
      omega
  · intro i l t hl hi hp
    rcases set_get (by simpa [mBehind] using hi) f.lt with ⟨rfl, rfl⟩ | ⟨_, hi⟩
    · rw [code_at h f.lt] at hl
      cases hl
      by_cases he : e.Kind = 1
      · rw [bT1 _ he] at hp; simp at hp
      by_cases he3 : e.Kind = 3
      · rw [bT3 _ he3] at hp ⊢
        have q : kTicket e.Kind = true := by rw [kTicket_iff]; omega
        have h1 := ht q
        obtain ⟨r0, r1, r2⟩ := hrg q
        have hk2 := hq.k2 (hf.f3 he3)
        show e.Ticket < hd (rng (mBehind p s e) e.Ring) (gI (codeOf p e.Thread) (mNext (codeOf p e.Thread) (thr s e.Thread)).1.At).K
        rw [behind_rng_same h f q, ← hk2.2.2.2.2]
        unfold mTurn at h1
        rw [if_neg he, if_neg (by omega), if_pos he3] at h1
        simp only [Bool.and_eq_true, Bool.not_eq_true', decide_eq_true_eq] at h1
        have hR := (h.rinv r1).1
        have hrd := r2 (.inl (hf.f3 he3))
        have hl := hR.rd
        have : mRingB (rng s e.Ring) (mAsk p s e.Thread) e = mTake (rng s e.Ring) (mAsk p s e.Thread).Reader := by unfold mRingB; rw [if_neg he, if_neg (by omega), if_pos he3]
        rw [this]
        have : hd (mTake (rng s e.Ring) (mAsk p s e.Thread).Reader) (mAsk p s e.Thread).Reader = hd (rng s e.Ring) (mAsk p s e.Thread).Reader + 1 := by
          unfold hd mTake
          rw [getD_set_same (by omega)]
          rfl
        rw [this]
        have := h1.2
        omega
      by_cases he14 : e.Kind = 14
      · rw [bT14 _ he14] at hp
        have := hq.kh (.inl (hf.f14 he14))
        simp only at hp; omega
      by_cases he15 : e.Kind = 15
      · rw [bT15 _ he15] at hp
        have := hq.kh (.inr (hf.f15 he15))
        simp only at hp; omega
      · rw [(bTe _ he he3 he14 he15).2.1] at hp; omega
    · have := h.p2 i l t hl hi hp
      have := (behind_rng h f t.Ring).2 (gI l t.At).K
      omega
theorem FInv.mono {b' : Int} (h : FInv p b s) (k : b ≤ b') : FInv p b' s := { h with ri := fun i c r hi hr => (h.ri i c r hi hr).mono k }
theorem may_turn (hk : mMay s (mAsk p s e.Thread) e = true) (_hr : mRightE e = true) (q : kTicket e.Kind = true) : mTurn (rng s e.Ring) (mAsk p s e.Thread) e = true := by
  have h1 := (kTicket_iff (k := e.Kind)).1 q
  unfold mMay at hk
  simp only at hk
  rw [if_neg (by omega), if_neg (by omega), if_neg (by omega), if_neg (by omega)] at hk
  split at hk
  · simp only [Bool.and_eq_true] at hk; exact hk.1
  · simpa [q] using hk
theorem inv_new (h : PInv p) : FInv p 1 (mNew p) where
  pi := h
  nt := by simp [mNew]
  nr := by simp [mNew]
  n0 := Int.le_refl _
  ri i c r hi hr := by
    simp only [mNew, List.getElem?_map, hi, Option.map_some, Option.some.injEq] at hr
    subst hr
    exact RInv.new (h.rg c (List.mem_of_getElem? hi)) (by decide)
  ti i l t hl hi := by
    simp only [mNew, List.getElem?_map, hl, Option.map_some, Option.some.injEq] at hi
    subst hi
    exact ⟨by decide, by simp [zT], by decide, by decide, fun _ => ⟨rfl, rfl⟩, fun k => absurd rfl k⟩
  p1 i t hi hp := by
    simp only [mNew, List.getElem?_map, Option.map_eq_some_iff] at hi
    obtain ⟨_, _, rfl⟩ := hi
    simp [zT] at hp
  p2 i l t hl hi hp := by
    simp only [mNew, List.getElem?_map, Option.map_eq_some_iff] at hi
    obtain ⟨_, _, rfl⟩ := hi
    simp [zT] at hp
end
end
section
def U64 (z : Int) : Prop := 0 ≤ z ∧ z < 18446744073709551616
theorem U64_0 : U64 0 := by unfold U64; decide
def opN (op : Int) (a b : Nat) : Nat := if op = 8 then a &&& b else if op = 9 then a ||| b else a ^^^ b
def opB (op : Int) (x y : Nat) : Prop := op = 8 ∧ x + y = 2 ∨ op = 9 ∧ 0 < x + y ∨ op = 10 ∧ x + y = 1
instance (op : Int) (x y : Nat) : Decidable (opB op x y) := by unfold opB; infer_instance
theorem opN_bit (op : Int) (ho : op = 8 ∨ op = 9 ∨ op = 10) (a b k : Nat) : opN op a b / 2 ^ k % 2 = if opB op (a / 2 ^ k % 2) (b / 2 ^ k % 2) then 1 else 0 := by
  have e : ∀ n : Nat, n / 2 ^ k % 2 = (n.testBit k).toNat := fun n => (Nat.toNat_testBit n k).symm
  rw [e, e a, e b]
  rcases ho with h | h | h <;> subst h
  · show ((a &&& b).testBit k).toNat = _
    rw [Nat.testBit_and]; cases a.testBit k <;> cases b.testBit k <;> decide
  · show ((a ||| b).testBit k).toNat = _
    rw [Nat.testBit_or]; cases a.testBit k <;> cases b.testBit k <;> decide
  · show ((a ^^^ b).testBit k).toNat = _
    rw [Nat.testBit_xor]; cases a.testBit k <;> cases b.testBit k <;> decide
theorem mod_pow_succ (n k : Nat) : n % 2 ^ (k + 1) = n % 2 ^ k + 2 ^ k * (n / 2 ^ k % 2) := Nat.mod_mul
theorem opN_lt (op : Int) {a b : Nat} (ha : a < 2 ^ 64) (hb : b < 2 ^ 64) : opN op a b < 2 ^ 64 := by
  unfold opN
  split
  · exact Nat.and_lt_two_pow _ hb
  · split
    · exact Nat.or_lt_two_pow ha hb
    · exact Nat.xor_lt_two_pow ha hb
theorem opN_alu {op a b : Int} (ho : op = 8 ∨ op = 9 ∨ op = 10) : mAlu op a b = (opN op a.toNat b.toNat : Nat) := by
  rcases ho with h | h | h <;> subst h <;> rfl
theorem opN_step (op : Int) (ho : op = 8 ∨ op = 9 ∨ op = 10) (a b k : Nat) :
    opN op a b % 2 ^ (k + 1) = if opB op (a / 2 ^ k % 2) (b / 2 ^ k % 2) then opN op a b % 2 ^ k + 2 ^ k else opN op a b % 2 ^ k := by
  rw [mod_pow_succ, opN_bit op ho]
  split <;> simp
theorem wrap_mul2 (a : Int) (k : Nat) : IntKind.u64.wrap (IntKind.u64.wrap (a * 2 ^ k) * 2) = IntKind.u64.wrap (a * 2 ^ (k + 1)) := by
  rw [Int.pow_succ, ← Int.mul_assoc]
  generalize a * 2 ^ k = z
  simp only [IntKind.wrap, IntKind.signed, IntKind.bits, Bool.false_and, Bool.false_eq_true, if_false]
  omega
theorem div_pow_succ (a : Int) (k : Nat) (_h : 0 ≤ a) : a / 2 ^ k / 2 = a / 2 ^ (k + 1) := by
  rw [Int.pow_succ, Int.ediv_ediv_of_nonneg (Int.le_of_lt (Int.pow_pos (by decide)))]
def isLeast (l : List Int) (n : Int) : Prop := n ∈ l ∧ ∀ x ∈ l, n ≤ x
theorem mFull_least {r : MR} {n : Int} (h : isLeast r.Heads n) : mFull r = true ↔ capR r ≤ r.Tail - n := by
  simp only [mFull, List.any_eq_true, decide_eq_true_eq]
  refine ⟨fun ⟨x, hx, hh⟩ => ?_, fun hh => ⟨n, h.1, hh⟩⟩
  have := h.2 x hx
  omega
theorem left_clear : ∀ (x : Fin 256) (j : Fin 8), bitI (x.val : Int) (j.val : Int) = true → Vm.bits .andNot IntKind.i64 (x.val : Int) (shl IntKind.i64 1 (j.val : Int)) = (x.val : Int) - 2 ^ j.val := by decide +kernel
end
section
section
variable {p : MP} {b : Int} {s : MS} {e : TEv}
theorem allowed_fit (h : mAllowed p s e = true) : Fitting p s e ∧ mFits p s e = 0 ∧ mMay s (mAsk p s e.Thread) e = true := by
  simp only [mAllowed, Bool.and_eq_true, decide_eq_true_eq] at h
  exact ⟨fitting h.1, h.1, h.2⟩
theorem allowed_do (h : mAllowed p s e = true) : mDo p s e = (0, mBehind p s e) := by
  have := (allowed_fit h).2.1
  unfold mDo
  rw [if_neg (by omega), if_neg (by rw [h]; simp)]
theorem allowed_feed (h : mAllowed p s e = true) : mFeed p s e = (0, mBehind p s e) := by
  obtain ⟨f, h0, hm⟩ := allowed_fit h
  unfold mFeed
  rw [if_neg (by omega), if_neg]
  rintro ⟨q, ht⟩
  rw [may_turn (p := p) hm f.re q] at ht
  cases ht
theorem refused_do (h : mAllowed p s e = false) : (mDo p s e).1 ≠ 0 ∧ (mDo p s e).2 = s := by
  unfold mDo
  by_cases h0 : mFits p s e ≠ 0
  · rw [if_pos h0]; exact ⟨h0, rfl⟩
  · rw [if_neg h0, if_pos h]; exact ⟨by show (11 : Int) ≠ 0; decide, rfl⟩
theorem do_zero : (mDo p s e).1 = 0 ↔ mAllowed p s e = true := by
  cases h : mAllowed p s e
  · exact ⟨fun k => absurd k (refused_do h).1, fun k => by cases k⟩
  · exact ⟨fun _ => rfl, fun _ => by rw [allowed_do h]⟩
def isP (i : Int) (t : MT) : Bool := decide (t.Phase = 1 ∧ t.Ring = i)
def cntP (s : MS) (i : Int) : Nat := s.Threads.countP (isP i)
def one (c : Prop) [Decidable c] : Nat := if c then 1 else 0
theorem phase_of (h : FInv p b s) (f : Fitting p s e) :
    ((e.Kind = 2 → (thr s e.Thread).Phase = 1 ∧ (thr s e.Thread).Ring = e.Ring) ∧ (e.Kind ≠ 2 → (thr s e.Thread).Phase ≠ 1)) := by
  obtain ⟨hq, hn, hkp, hc⟩ := h.asked f.lt
  have hf := fitF f.re f.ft
  have hk := (rightE_facts f.re).1
  rw [← hkp.ph, ← hkp.rg]
  refine ⟨fun q => ?_, fun q => ?_⟩
  · have h2 := hf.f2 q
    obtain ⟨k1, _, k3, _⟩ := hq.kp h2.1
    exact ⟨k1, by rw [← k3]; exact hf.rg (by rw [kRing_iff]; omega)⟩
  · have h1 := hf.f1; have h3 := hf.f3; have h4 := hf.f4; have h5 := hf.f5; have h8 := hf.f8; have h9 := hf.f9; have h10 := hf.f10; have h12 := hf.f12; have h13 := hf.f13; have h14 := hf.f14; have h15 := hf.f15
    have k1 := hq.k1; have k2 := hq.k2; have k3 := hq.k3; have kn := hq.kn; have kh := hq.kh; have kr := hq.kr
    have : (mAsk p s e.Thread).Kind = 1 ∨ (mAsk p s e.Thread).Kind = 2 ∨ (mAsk p s e.Thread).Kind = 3 ∨ (4 ≤ (mAsk p s e.Thread).Kind ∧ (mAsk p s e.Thread).Kind ≤ 7) ∨ ((mAsk p s e.Thread).Kind = 8 ∨ (mAsk p s e.Thread).Kind = 9) ∨ (mAsk p s e.Thread).Kind = 11 := by omega
    rcases this with q | q | q | q | q | q
    · have := (k1 q).1; omega
    · have := (k2 q).1; omega
    · have := (k3 q).1; omega
    · have := (kn q).1; omega
    · have := kh q; omega
    · have := (kr q).1; omega
theorem phase_behind (h : FInv p b s) (f : Fitting p s e) {i : TIn} {v : Int} {n : MT} (hn : n.Phase = (thr s e.Thread).Phase) :
    (e.Kind = 1 → (mBehindT i n e v).Phase = 1 ∧ (mBehindT i n e v).Ring = e.Ring) ∧ (e.Kind ≠ 1 → (mBehindT i n e v).Phase ≠ 1) := by
  refine ⟨fun q => by rw [bT1 _ q]; exact ⟨rfl, rfl⟩, fun q => ?_⟩
  by_cases h3 : e.Kind = 3
  · rw [bT3 _ h3]; simp
  by_cases h14 : e.Kind = 14
  · rw [bT14 _ h14]; show n.Phase ≠ 1; rw [hn]; exact (phase_of h f).2 (by omega)
  by_cases h15 : e.Kind = 15
  · rw [bT15 _ h15]; show n.Phase ≠ 1; rw [hn]; exact (phase_of h f).2 (by omega)
  · rw [(bTe _ q h3 h14 h15).2.1]; simp
theorem behind_cnt (h : FInv p b s) (f : Fitting p s e) (i : Int) : cntP (mBehind p s e) i + one (e.Kind = 2 ∧ i = e.Ring) = cntP s i + one (e.Kind = 1 ∧ i = e.Ring) := by
  have hkp := (h.asked f.lt).2.2.1
  have hb := phase_of h f
  have ha := phase_behind h f (i := gI (codeOf p e.Thread) (mNext (codeOf p e.Thread) (thr s e.Thread)).1.At) (v := if e.Kind = 4 then (slotAt (rng s e.Ring) e.Ticket).Value else 0) hkp.ph
  have hl := f.lt
  have hx : s.Threads[e.Thread.toNat] = thr s e.Thread := by unfold thr; simp [List.getD, List.getElem?_eq_getElem hl]
  unfold cntP
  show List.countP (isP i) (s.Threads.set e.Thread.toNat _) + _ = _
  rw [List.countP_set hl]
  have hle := List.boole_getElem_le_countP (p := isP i) (l := s.Threads) hl
  rw [hx] at hle ⊢
  have e1 : (isP i (thr s e.Thread) = true) ↔ (e.Kind = 2 ∧ i = e.Ring) := by
    simp only [isP, decide_eq_true_eq]
    refine ⟨fun q => ?_, fun q => ?_⟩
    · have : e.Kind = 2 := Classical.byContradiction fun k => hb.2 k q.1
      exact ⟨this, by rw [← q.2, (hb.1 this).2]⟩
    · have := hb.1 q.1; exact ⟨this.1, by rw [this.2, q.2]⟩
  have e2 : (isP i (mBehindT (gI (codeOf p e.Thread) (mNext (codeOf p e.Thread) (thr s e.Thread)).1.At) (mNext (codeOf p e.Thread) (thr s e.Thread)).1 e (if e.Kind = 4 then (slotAt (rng s e.Ring) e.Ticket).Value else 0)) = true) ↔ (e.Kind = 1 ∧ i = e.Ring) := by
    simp only [isP, decide_eq_true_eq]
    refine ⟨fun q => ?_, fun q => ?_⟩
    · have : e.Kind = 1 := Classical.byContradiction fun k => ha.2 k q.1
      exact ⟨this, by rw [← q.2, (ha.1 this).2]⟩
    · have := ha.1 q.1; exact ⟨this.1, by rw [this.2, q.2]⟩
  simp only [e1, one] at hle ⊢
  simp only [e2]
  omega
end
end
section
section
variable {p : MP} {b : Int} {s : MS} {e : TEv}
theorem ticket_ring (q : kTicket e.Kind = true) : kRing e.Kind = true := by rw [kRing_iff]; rw [kTicket_iff] at q; omega
theorem behind_at (h : FInv p b s) (f : Fitting p s e) {i : Int} (h0 : 0 ≤ i) :
    rng (mBehind p s e) i = if kTicket e.Kind = true ∧ i = e.Ring then mRingB (rng s i) (mAsk p s e.Thread) e else rng s i := by
  by_cases q : kTicket e.Kind = true
  · have hr := fit_ring h f (ticket_ring q)
    by_cases hi : i = e.Ring
    · subst hi; rw [if_pos ⟨q, rfl⟩]; exact behind_rng_same h f q
    · rw [if_neg fun k => hi k.2]
      unfold rng mBehind
      simp only
      rw [if_pos q, rng_set (by rw [h.nr]; exact hr.2.1), if_neg (by omega)]
  · rw [if_neg fun k => q k.1]
    unfold rng mBehind
    simp only
    rw [if_neg q]
theorem ringB_closed (r : MR) (a : MA) (e : TEv) : (mRingB r a e).Closed = if e.Kind = 13 then true else r.Closed := by
  unfold mRingB
  by_cases h : e.Kind = 13
  · rw [if_neg (by omega), if_neg (by omega), if_neg (by omega), if_neg (by omega), if_pos h, if_pos h]
  · rw [if_neg h, if_neg h]
    repeat' split
    all_goals rfl
theorem behind_tail (h : FInv p b s) (f : Fitting p s e) {i : Int} (h0 : 0 ≤ i) : (rng (mBehind p s e) i).Tail = (rng s i).Tail + one (e.Kind = 1 ∧ i = e.Ring) := by
  rw [behind_at h f h0]
  unfold one
  have ht := ringB_tail (rng s i) (mAsk p s e.Thread) e
  by_cases q : kTicket e.Kind = true ∧ i = e.Ring
  · rw [if_pos q]
    by_cases k : e.Kind = 1
    · rw [ht.2.1 k, if_pos ⟨k, q.2⟩]; rfl
    · rw [ht.2.2 k, if_neg fun z => k z.1]; simp
  · rw [if_neg q, if_neg fun z => q ⟨by rw [kTicket_iff]; omega, z.2⟩]; simp
theorem behind_closed (h : FInv p b s) (f : Fitting p s e) {i : Int} (h0 : 0 ≤ i) : (rng (mBehind p s e) i).Closed = if e.Kind = 13 ∧ i = e.Ring then true else (rng s i).Closed := by
  rw [behind_at h f h0]
  by_cases q : kTicket e.Kind = true ∧ i = e.Ring
  · rw [if_pos q, ringB_closed]
    by_cases k : e.Kind = 13
    · rw [if_pos k, if_pos ⟨k, q.2⟩]
    · rw [if_neg k, if_neg fun z => k z.1]
  · rw [if_neg q, if_neg fun z => q ⟨by rw [kTicket_iff]; omega, z.2⟩]
theorem hd_le (h : FInv p b s) {i j : Int} (hi : i.toNat < p.Rings.length) (hj : j.toNat < (rng s i).Heads.length) : hd (rng s i) j ≤ (rng s i).Tail :=
  ((h.rinv hi).1.h0 _ (List.mem_of_getElem? (getD_in (d := 0) hj))).2.1
theorem may_facts (h : FInv p b s) (hm : mAllowed p s e = true) :
    (e.Kind = 1 → e.Ticket = (rng s e.Ring).Tail ∧ (rng s e.Ring).Closed = false) ∧ (e.Kind = 2 → e.Ticket < (rng s e.Ring).Tail) ∧
      (e.Kind = 3 → e.Ticket < (rng s e.Ring).Tail ∧ 0 ≤ (mAsk p s e.Thread).Reader) ∧ (e.Kind = 13 → e.Ticket = (rng s e.Ring).Tail) := by
  obtain ⟨f, _, hk⟩ := allowed_fit hm
  have ht := fun q => may_turn (p := p) hk f.re q
  have hf := fitF f.re f.ft
  have hq := kTicket_iff (k := e.Kind)
  refine ⟨fun q => ?_, fun q => ?_, fun q => ?_, fun q => ?_⟩
  · have h1 := ht (hq.2 (by omega))
    unfold mMay at hk
    unfold mTurn at h1
    simp only at hk
    rw [if_neg (by omega), if_neg (by omega), if_neg (by omega), if_neg (by omega), if_pos q] at hk
    rw [if_pos q] at h1
    simp only [Bool.and_eq_true, Bool.not_eq_true', decide_eq_true_eq] at hk h1
    exact ⟨h1.2, hk.2⟩
  · have h1 := ht (hq.2 (by omega))
    unfold mTurn at h1
    rw [if_neg (by omega), if_pos q] at h1
    simp only [mFree, decide_eq_true_eq] at h1
    exact h1.1
  · have h1 := ht (hq.2 (by omega))
    unfold mTurn at h1
    rw [if_neg (by omega), if_neg (by omega), if_pos q] at h1
    simp only [Bool.and_eq_true, Bool.not_eq_true', decide_eq_true_eq, mEmpty, decide_eq_false_iff_not] at h1
    have hr := fit_ring h f (by rw [kRing_iff]; omega)
    have hrd := hr.2.2 (.inl (hf.f3 q))
    have hR := (h.rinv hr.2.1).1.rd
    have := hd_le h hr.2.1 (j := (mAsk p s e.Thread).Reader) (by omega)
    exact ⟨by omega, hrd.1⟩
  · have h1 := ht (hq.2 (by omega))
    unfold mTurn at h1
    rw [if_neg (by omega), if_neg (by omega), if_neg (by omega), if_neg (by omega)] at h1
    exact of_decide_eq_true h1
theorem behind_now (hm : mAllowed p s e = true) : (mBehind p s e).Now ≤ s.Now + 1048576 := by
  obtain ⟨f, _, hk⟩ := allowed_fit hm
  show (if e.Kind = 8 then max s.Now e.Value else s.Now) ≤ _
  split
  · rename_i q
    unfold mMay at hk
    simp only at hk
    rw [if_neg (by omega), if_neg (by omega), if_pos q] at hk
    have := of_decide_eq_true hk
    omega
  · omega
end
end
end Go.Proofs.YtiplcdhnjennfaaGreat
