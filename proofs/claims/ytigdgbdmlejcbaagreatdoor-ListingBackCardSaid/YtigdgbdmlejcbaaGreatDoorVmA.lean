/- Of an abstract machine over the model, part A: no statement is proved here. -/
import GoSem.Dispatch
import GoSem.Machine.Frame
import Derived.Below
import Derived.Laws.AppendOwn
import Derived.Laws.Entries
import Derived.Laws.Cells
import Derived.ChangeKeysEq
import Derived.Laws.Strings
import Derived.Laws.IdiomCopy
import Derived.Laws.Append
import Derived.Deep.Upon
section
namespace Go.Vm
inductive Id where
  | par (i : Nat)
  | loc (t j : Nat)
  deriving DecidableEq
def Id.same : Id → Id → Bool
  | .par i, .par j => Nat.beq i j
  | .loc t i, .loc u j => cond (Nat.beq t u) (Nat.beq i j) false
  | _, _ => false
inductive Sel where
  | fld (j d : Nat)
  | idx (s n i : Nat)
inductive V where
  | undef
  | int (k : IntKind) (n : Int)
  | bool (b : Bool)
  | str (s : ByteArray)
  | nilp
  | ptr (id : Id) (path : List Sel)
  | vp (x : V)
  | sl (tok : Option TypeId) (s : Nat) (nil : Bool) (n : Nat) (get : Nat → V)
  | own (id : Id) (path : List Sel) (s N off len : Nat)
  | unit
  | cons (x r : V)
  | arr (s n : Nat) (get : Nat → V)
  | tup (x : V)
  | fn (f : FuncId) (caps : V)
  | nilf
  | iface (t : TypeId) (x : V)
  | nili
  | obox (nil : Bool) (x : V)
  | osl (e : TypeId) (s : Nat) (nil : Bool) (n : Nat) (get : Nat → V)
  | lent (id : Id) (e : TypeId) (s : Nat) (nil : Bool) (n : Nat)
instance : Inhabited V := ⟨.undef⟩
namespace V
def size : V → Nat
  | .unit => 0
  | .cons x r => x.size + r.size
  | .arr s n _ => n * s
  | _ => 1
def agg : V → Bool
  | .unit | .cons _ _ | .arr _ _ _ => true
  | _ => false
def one : V → Bool
  | .undef | .tup _ => false
  | _ => true
def nth : V → Nat → Option V
  | .cons x _, 0 => some x
  | .cons _ r, j + 1 => r.nth j
  | _, _ => none
def setNth : V → Nat → V → Option V
  | .cons _ r, 0, y => some (.cons y r)
  | .cons x r, j + 1, y => (r.setNth j y).map (.cons x)
  | _, _, _ => none
def fldOff : V → Nat → Nat
  | .cons x r, j + 1 => x.size + r.fldOff j
  | _, _ => 0
def demote : V → V
  | .sl _ s nil n get => .sl none s nil n get
  | .cons x r => .cons x.demote r.demote
  | .arr s n get => .arr s n fun i => (get i).demote
  | .tup x => .tup x.demote
  | .fn f c => .fn f c.demote
  | .iface t x => .iface t x.demote
  | .obox _ _ => .undef
  | .osl _ _ _ _ _ => .undef
  | .lent id _ s _ n => .own id [] s n 0 n
  | x => x
def hasTok : V → Bool
  | .sl (some _) _ _ _ _ => true
  | .cons x r => x.hasTok || r.hasTok
  | .arr _ _ _ | .obox _ _ | .osl _ _ _ _ _ | .lent _ _ _ _ _ => true
  | .tup x => x.hasTok
  | .fn _ c => c.hasTok
  | .iface _ x => x.hasTok
  | _ => false
def owns : V → Bool
  | .sl (some _) _ _ _ _ => true
  | .cons x r => x.owns || r.owns
  | .arr _ n get => (List.range n).any fun i => (get i).owns
  | .obox _ _ | .osl _ _ _ _ _ | .lent _ _ _ _ _ => true
  | .tup x => x.owns
  | _ => false
def closed : V → Bool
  | .ptr _ _ | .own _ _ _ _ _ _ | .lent _ _ _ _ _ => false
  | .cons x r => x.closed && r.closed
  | .tup x => x.closed
  | .fn _ c => c.closed
  | .iface _ x => x.closed
  | .arr _ n get => (List.range n).all fun i => (get i).closed
  | _ => true
def nav : V → List Sel → Option V
  | x, [] => some x
  | x, .fld j d :: p => cond (Nat.beq (x.fldOff j) d) (match x.nth j with | some y => nav y p | none => none) none
  | .arr s _ get, .idx s' _ i :: p => cond (Nat.beq s s') (nav (get i) p) none
  | _, .idx _ _ _ :: _ => none
def fit : V → List Sel → Bool
  | _, [] => true
  | x, .fld j _ :: p => match x.nth j with | some y => fit y p | none => false
  | .arr _ n get, .idx _ n' i :: p => Nat.beq n n' && fit (get i) p
  | _, .idx _ _ _ :: _ => false
def mixT (b : Bool) : Option TypeId → Option TypeId → Option TypeId
  | none, none => none
  | some e, some e' => cond (Nat.beq e e') (some e) (cond b (some e) (some e'))
  | t, t' => cond b t t'
theorem mixT_eq (b : Bool) (t t' : Option TypeId) : mixT b t t' = cond b t t' := by
  cases t <;> cases t' <;> (try rfl)
  · cases b <;> rfl
  · rename_i e e'
    simp only [mixT]
    cases h : Nat.beq e e'
    · rfl
    · obtain rfl := Nat.eq_of_beq_eq_true h
      cases b <;> rfl
def mix (b : Bool) : V → V → V
  | .int k n, y => match y with
    | .int k' m => cond (decide (k = k')) (.int k (cond b n m)) (cond b (.int k n) y)
    | _ => cond b (.int k n) y
  | .bool x, y => match y with
    | .bool z => .bool (cond b x z)
    | _ => cond b (.bool x) y
  | .str x, y => match y with
    | .str z => .str (cond b x z)
    | _ => cond b (.str x) y
  | .unit, y => match y with
    | .unit => .unit
    | _ => cond b .unit y
  | .undef, y => match y with
    | .undef => .undef
    | _ => cond b .undef y
  | .nilp, y => match y with
    | .nilp => .nilp
    | _ => cond b .nilp y
  | .nilf, y => match y with
    | .nilf => .nilf
    | _ => cond b .nilf y
  | .nili, y => match y with
    | .nili => .nili
    | _ => cond b .nili y
  | .vp x, y => match y with
    | .vp z => .vp (mix b x z)
    | _ => cond b (.vp x) y
  | .fn f c, y => match y with
    | .fn g d => .fn (cond b f g) (mix b c d)
    | _ => cond b (.fn f c) y
  | .cons x r, y => match y with
    | .cons x' r' => .cons (mix b x x') (mix b r r')
    | _ => cond b (.cons x r) y
  | .sl tok s nil n get, y => match y with
    | .sl tok' s' nil' n' get' => cond (Nat.beq s s')
        (.sl (mixT b tok tok') s (cond b nil nil') (cond b n n') fun i => mix b (get i) (get' i)) (cond b (.sl tok s nil n get) y)
    | _ => cond b (.sl tok s nil n get) y
  | .arr s n get, y => match y with
    | .arr s' n' get' => cond (Nat.beq s s' && Nat.beq n n') (.arr s n fun i => mix b (get i) (get' i)) (cond b (.arr s n get) y)
    | _ => cond b (.arr s n get) y
  | .obox m x, y => match y with
    | .obox m' x' => .obox (cond b m m') (mix b x x')
    | _ => cond b (.obox m x) y
  | .osl e s nil n get, y => match y with
    | .osl e' s' nil' n' get' => cond (Nat.beq e e' && Nat.beq s s') (.osl e s (cond b nil nil') (cond b n n') fun i => mix b (get i) (get' i)) (cond b (.osl e s nil n get) y)
    | _ => cond b (.osl e s nil n get) y
  | x, y => cond b x y
theorem mix_eq (b : Bool) : ∀ x y : V, mix b x y = cond b x y := by
  intro x
  induction x with
  | sl tok s nil n get ih =>
    intro y
    cases y <;> (try rfl)
    rename_i tok' s' nil' n' get'
    simp only [mix]
    by_cases h : Nat.beq s s' = true
    · obtain rfl := Nat.eq_of_beq_eq_true h
      rw [h, mixT_eq]
      have : (fun i => mix b (get i) (get' i)) = fun i => cond b (get i) (get' i) := funext fun i => ih i _
      rw [this]
      cases b <;> rfl
    · rw [Bool.not_eq_true] at h; rw [h]; rfl
  | arr s n get ih =>
    intro y
    cases y <;> (try rfl)
    rename_i s' n' get'
    simp only [mix]
    by_cases h : (Nat.beq s s' && Nat.beq n n') = true
    · have h2 := h
      simp only [Bool.and_eq_true] at h2
      obtain rfl := Nat.eq_of_beq_eq_true h2.1
      obtain rfl := Nat.eq_of_beq_eq_true h2.2
      rw [h]
      have : (fun i => mix b (get i) (get' i)) = fun i => cond b (get i) (get' i) := funext fun i => ih i _
      rw [this]
      cases b <;> rfl
    · rw [Bool.not_eq_true] at h; rw [h]; rfl
  | vp x ih => intro y; cases y <;> (try rfl); simp only [mix, ih]; cases b <;> rfl
  | fn f c ih => intro y; cases y <;> (try rfl); simp only [mix, ih]; cases b <;> rfl
  | obox m x ih => intro y; cases y <;> (try rfl); simp only [mix, ih]; cases b <;> rfl
  | osl e s nil n get ih =>
    intro y
    cases y <;> (try rfl)
    rename_i e' s' nil' n' get'
    simp only [mix]
    by_cases h : (Nat.beq e e' && Nat.beq s s') = true
    · have h2 := h
      simp only [Bool.and_eq_true] at h2
      obtain rfl := Nat.eq_of_beq_eq_true h2.1
      obtain rfl := Nat.eq_of_beq_eq_true h2.2
      rw [h]
      have : (fun i => mix b (get i) (get' i)) = fun i => cond b (get i) (get' i) := funext fun i => ih i _
      rw [this]
      cases b <;> rfl
    · rw [Bool.not_eq_true] at h; rw [h]; rfl
  | cons x r ihx ihr => intro y; cases y <;> (try rfl); simp only [mix, ihx, ihr]; cases b <;> rfl
  | int k n =>
    intro y
    cases y <;> (try rfl)
    rename_i k' m
    simp only [mix]
    by_cases h : k = k'
    · subst h; simp only [decide_true, cond_true]; cases b <;> rfl
    · simp only [h, decide_false, cond_false]
  | bool => intro y; cases y <;> (try rfl); cases b <;> rfl
  | str => intro y; cases y <;> (try rfl); cases b <;> rfl
  | unit => intro y; cases y <;> (try rfl); cases b <;> rfl
  | undef => intro y; cases y <;> (try rfl); cases b <;> rfl
  | nilp => intro y; cases y <;> (try rfl); cases b <;> rfl
  | nilf => intro y; cases y <;> (try rfl); cases b <;> rfl
  | nili => intro y; cases y <;> (try rfl); cases b <;> rfl
  | _ => intro y; rfl
def put : V → List Sel → V → Option V
  | x, [], y => cond (Nat.beq x.size y.size) (some y) none
  | x, .fld j d :: p, y => cond (Nat.beq (x.fldOff j) d) (match x.nth j with
      | some z => match put z p y with
        | some z' => x.setNth j z'
        | none => none
      | none => none) none
  | .arr s n get, .idx s' _ i :: p, y => cond (Nat.beq s s') (match put (get i) p y with
      | some z => some (.arr s n fun j => mix (Nat.beq j i) z (get j))
      | none => none) none
  | _, .idx _ _ _ :: _, _ => none
def ofList (l : List V) : V := l.foldr .cons .unit
end V
def inb (i : Int) (n : Nat) : Bool := decide (0 ≤ i) && decide (i < (n : Int))
def upto (i : Int) (n : Nat) : Bool := decide (0 ≤ i) && decide (i ≤ (n : Int))
def bt (s : ByteArray) (i : Nat) : Int := if h : i < s.size then ((s[i]'h).toNat : Int) else 0
def ilt (a b : Int) : Bool := decide (a < b)
def ile (a b : Int) : Bool := decide (a ≤ b)
def ieq (a b : Int) : Bool := a == b
def seq (a b : ByteArray) : Bool := a.toList == b.toList
def room (n bytes : Nat) : Bool := decide (n * bytes ≤ 140737488351232)
def bits (op : BinOp) (k : IntKind) (x y : Int) : Int :=
  let a := BitVec.ofInt k.bits x
  let b := BitVec.ofInt k.bits y
  match op with
  | .and => k.wrap (a &&& b).toNat
  | .or => k.wrap (a ||| b).toNat
  | .xor => k.wrap (a ^^^ b).toNat
  | _ => k.wrap (a &&& ~~~b).toNat
def shl (k : IntKind) (x y : Int) : Int := k.wrap (x * 2 ^ (min y.toNat k.bits))
def shr (k : IntKind) (x y : Int) : Int := x.fdiv (2 ^ (min y.toNat k.bits))
def numOf : V → Int
  | .int _ n => n
  | _ => 0
def bytesOf (n : Nat) (get : Nat → Int) : ByteArray := ⟨((List.range n).map fun i => UInt8.ofNat (get i).toNat).toArray⟩
def constV : Value → V
  | .int k n => .int k n
  | .bool b => .bool b
  | .string s => .str s
  | .slice none 0 0 => .sl none 0 true 0 fun _ => .undef
  | .pointer none => .nilp
  | .nilFunc => .nilf
  | .nilIface => .nili
  | _ => .undef
def zeroSl : Option V → Option TypeInfo → V
  | some z, some i => .sl none i.size true 0 fun _ => z
  | _, _ => .sl none 0 true 0 fun _ => .undef
def tokZ : Option TypeDesc → V → V
  | some (.slice e), .sl none s true 0 g => .sl (some e) s true 0 g
  | _, z => z
def zeroV (P : Program) : Nat → TypeId → Option V
  | 0, _ => none
  | d + 1, t => match P.underlying t with
    | some (.int k) => some (.int k 0)
    | some .bool => some (.bool false)
    | some .string => some (.str ⟨#[]⟩)
    | some (.slice e) => some (zeroSl (zeroV P d e) (P.info? e))
    | some (.pointer e) => match zeroV P d e with
      | some z => some (.obox true z)
      | none => some .nilp
    | some (.interface _) => some .nili
    | some (.func _ _ _) => some .nilf
    | some (.array n e) => match zeroV P d e, P.info? e with
      | some z, some i => cond (Nat.beq z.size i.size) (some (.arr i.size n fun _ => tokZ (P.underlying e) z)) none
      | _, _ => none
    | some (.struct fs) => (fs.toList.foldr (fun f acc => match zeroV P d f.type, acc with
        | some z, some r => some (.cons z r)
        | _, _ => none) (some .unit))
    | _ => none
structure St where
  tm : Nat → V
  H : Id → Option V
def upd {α : Type} (f : Nat → α) (t : Nat) (x : α) : Nat → α := fun u => cond (Nat.beq u t) x (f u)
def updH (H : Id → Option V) (i : Id) (x : Option V) : Id → Option V := fun j => cond (j.same i) x (H j)
structure Eff where
  need : Bool := true
  side : Option Prop := none
  res : V
  tgt : Option (Id × Option V) := none
  new : Option (Id × V) := none
  take : List Nat := []
def evalV (tm : Nat → V) : Operand → V
  | .tmp t => tm t
  | .const v => constV v
  | .func f => .fn f .unit
  | .global _ => .undef
def slotOf : Operand → List Nat
  | .tmp t => [t]
  | _ => []
def aggDesc : TypeDesc → Bool
  | .struct _ | .array _ _ => true
  | _ => false
def infoOf (P : Program) (t : TypeId) : Option (Bool × Nat) :=
  match P.underlying t, P.info? t with
  | some d, some i => some (aggDesc d, i.size)
  | _, _ => none
def fits (P : Program) (t : TypeId) (x : V) : Bool :=
  match infoOf P t with
  | some (a, n) => x.one && ((x.agg == a) && Nat.beq x.size n)
  | none => false
end Go.Vm
end
section
namespace Go.Vm
def flat0 : V → List Value
  | .int k n => [.int k n]
  | .bool b => [.bool b]
  | .str s => [.string s]
  | .nilp => [.pointer none]
  | .obox true _ => [.pointer none]
  | .nili => [.nilIface]
  | .nilf => [.nilFunc]
  | .sl _ _ true _ _ => [.slice none 0 0]
  | .cons x r => flat0 x ++ flat0 r
  | .arr _ n get => (List.range n).flatMap fun i => flat0 (get i)
  | _ => []
def same0 : Value → Value → Bool
  | .int k n, .int k' n' => k == k' && n == n'
  | .bool b, .bool b' => b == b'
  | .string s, .string s' => decide (s = s')
  | .pointer none, .pointer none | .nilIface, .nilIface | .nilFunc, .nilFunc | .slice none 0 0, .slice none 0 0 => true
  | _, _ => false
def sameL : List Value → List Value → Bool
  | [], [] => true
  | x :: l, y :: r => same0 x y && sameL l r
  | _, _ => false
def zeroOf (P : Program) (t : TypeId) : Option V :=
  match zeroV P 8 t, (P.info? t).bind (·.zero) with
  | some z, some v => cond (sameL (flat0 z) v.cells.toList && fits P t z) (some z) none
  | _, _ => none
def elemOf (P : Program) (t : TypeId) : Option (TypeId × TypeInfo) :=
  match P.underlying t with
  | some (.slice e) => (P.info? e).map (e, ·)
  | _ => none
def pureV (v : V) : Bool := v.closed
def copyOf (v : V) : V := cond v.hasTok v.demote v
def takeOf (x : Operand) (v : V) : List Nat := cond v.owns (slotOf x) []
def arith (op : BinOp) (k : IntKind) (a b : Int) : Option Eff :=
  match op with
  | .add => some { res := .int k (k.wrap (a + b)) }
  | .sub => some { res := .int k (k.wrap (a - b)) }
  | .mul => some { res := .int k (k.wrap (a * b)) }
  | .quo => some { need := !(ieq b 0), res := .int k (k.wrap (a.tdiv b)) }
  | .rem => some { need := !(ieq b 0), res := .int k (a.tmod b) }
  | .and | .or | .xor | .andNot => some { res := .int k (bits op k a b) }
  | .eql => some { res := .bool (ieq a b) }
  | .neq => some { res := .bool (!(ieq a b)) }
  | .lss => some { res := .bool (ilt a b) }
  | .leq => some { res := .bool (ile a b) }
  | .gtr => some { res := .bool (ilt b a) }
  | .geq => some { res := .bool (ile b a) }
  | _ => none
def strs (op : BinOp) (a b : ByteArray) : Option Eff :=
  match op with
  | .add => some { need := decide (a.size + b.size ≤ 9223372036854775807), res := .str (a ++ b) }
  | .eql => some { res := .bool (seq a b) }
  | .neq => some { res := .bool (!(seq a b)) }
  | _ => none
def eqFields (P : Program) (eq : TypeId → V → V → Option Bool) : List Field → Nat → V → V → Option Bool
  | [], _, .unit, .unit => some true
  | f :: fs, off, .cons x r, .cons y q => cond (Nat.beq f.offset off && (f.name != "_" && (fits P f.type x && fits P f.type y)))
      (match eq f.type x y, eqFields P eq fs (off + x.size) r q with
        | some a, some b => some (a && b)
        | _, _ => none) none
  | _, _, _, _ => none
def eqElems (eq : V → V → Option Bool) (g h : Nat → V) : Nat → Nat → Option Bool
  | 0, _ => some true
  | m + 1, i => match eq (g i) (h i), eqElems eq g h m (i + 1) with
    | some a, some b => some (a && b)
    | _, _ => none
def eqT (P : Program) : Nat → TypeId → V → V → Option Bool
  | 0, _, _, _ => none
  | d + 1, t, x, y => match P.underlying t with
    | some .bool => match x, y with
      | .bool a, .bool b => some (a == b)
      | _, _ => none
    | some (.int _) => match x, y with
      | .int k a, .int k' b => cond (k == k') (some (ieq a b)) none
      | _, _ => none
    | some .string => match x, y with
      | .str a, .str b => some (a == b)
      | _, _ => none
    | some (.pointer _) => match x, y with
      | .nilp, .nilp => some true
      | .nilp, .obox nil _ | .obox nil _, .nilp => some nil
      | .nilp, .ptr _ _ | .ptr _ _, .nilp | .nilp, .vp _ | .vp _, .nilp => some false
      | _, _ => none
    | some (.interface _) => match x, y with
      | .nili, .iface _ _ | .iface _ _, .nili => some false
      | _, _ => none
    | some (.slice _) => match x, y with
      | .sl _ _ nil _ _, .sl _ _ true _ _ => some nil
      | .osl _ _ nil _ _, .sl _ _ true _ _ => some nil
      | .lent _ _ _ nil _, .sl _ _ true _ _ => some nil
      | _, _ => none
    | some (.struct fs) => cond (P.stoodInHeld t) none (eqFields P (eqT P d) fs.toList 0 x y)
    | some (.array n e) => match x, y with
      | .arr s n' g, .arr s' n'' h => cond (Nat.beq n n' && (Nat.beq n n'' && (Nat.beq s s' && (match P.info? e with | some i => Nat.beq i.size s | none => false)))) (eqElems (fun a b => cond (fits P e a && fits P e b) (eqT P d e a b) none) g h n 0) none
      | _, _ => none
    | _ => none
def nilOk (P : Program) (t : TypeId) (x : V) : Bool := !x.agg || !(P.eqGuardType P.depth t)
def binV (P : Program) (op : BinOp) (t : TypeId) (x y : V) (nilConst : Bool) : Option Eff :=
  match op, x, y with
  | .shl, .int k a, .int _ b => some { need := ile 0 b, res := .int k (shl k a b) }
  | .shr, .int k a, .int _ b => some { need := ile 0 b, res := .int k (shr k a b) }
  | _, .int k a, .int k' b => cond (k == k') (arith op k a b) none
  | _, .str a, .str b => strs op a b
  | .eql, .nili, .nili => match P.underlying t with
    | some (.interface _) => cond nilConst (some { res := .bool true }) none
    | _ => none
  | .neq, .nili, .nili => match P.underlying t with
    | some (.interface _) => cond nilConst (some { res := .bool false }) none
    | _ => none
  | .eql, .own _ _ _ _ _ len, .sl _ _ true _ _ => match P.underlying t with
    | some (.slice _) => some { need := Nat.blt 0 len, res := .bool false }
    | _ => none
  | .eql, x, y => cond (nilOk P t x) ((eqT P 6 t x y).map fun b => { res := .bool b }) none
  | .neq, x, y => cond (nilOk P t x) ((eqT P 6 t x y).map fun b => { res := .bool (!b) }) none
  | _, _, _ => none
def isConst : Operand → Bool
  | .const _ => true
  | _ => false
def bounds (n : Nat) (lo hi mx : Option V) : Option (Bool × Nat × Nat × Option Nat) :=
  match lo, hi, mx with
  | none, none, none => some (true, 0, n, none)
  | some (.int _ l), none, none => some (upto l n, l.toNat, n, none)
  | none, some (.int _ h), none => some (upto h n, 0, h.toNat, none)
  | some (.int _ l), some (.int _ h), none => some (upto h n && upto l h.toNat, l.toNat, h.toNat, none)
  | none, some (.int _ h), some (.int _ m) => some (upto m n && upto h m.toNat, 0, h.toNat, some m.toNat)
  | some (.int _ l), some (.int _ h), some (.int _ m) => some (upto m n && upto h m.toNat && upto l h.toNat, l.toNat, h.toNat, some m.toNat)
  | _, _, _ => none
def sliceV (P : Program) (t : TypeId) (x : V) (lo hi mx : Option V) : Option Eff :=
  match P.underlying t, x with
  | some .string, .str s => match bounds s.size lo hi mx with
    | some (ok, l, h, none) => some { need := ok, res := .str (s.extract l h) }
    | _ => none
  | some (.slice e), .sl _ s nil n get => match bounds n lo hi mx, P.info? e with
    | some (ok, l, h, none), some i => cond (Nat.beq i.size s || nil) (some { need := ok, res := .sl none s nil (h - l) fun j => get (l + j) }) none
    | some (ok, l, h, some m), some i => cond (Nat.beq i.size s || nil) (some { need := ok && Nat.beq m h, res := .sl (cond nil none (some e)) s nil (h - l) fun j => get (l + j) }) none
    | _, _ => none
  | some (.slice e), .own id p s N off len => match bounds len lo hi mx, P.info? e with
    | some (ok, l, h, none), some i => cond (Nat.beq i.size s) (some { need := ok, res := .own id p s N (off + l) (h - l) }) none
    | _, _ => none
  | some (.array n e), .ptr id p => match bounds n lo hi mx, P.info? e with
    | some (ok, l, h, none), some i => cond (Nat.ble n 4294967296) (some { need := ok, res := .own id p i.size n l (h - l) }) none
    | _, _ => none
  | some (.array n e), .vp (.arr s n' get) => match bounds n lo hi mx, P.info? e with
    | some (ok, l, h, none), some i => cond (Nat.ble n 4294967296 && (Nat.beq i.size s && Nat.beq n n')) (some { need := ok, res := .sl none s false (h - l) fun j => get (l + j) }) none
    | _, _ => none
  | _, _ => none
def nodupB : List Nat → Bool
  | [] => true
  | x :: l => !(l.any (Nat.beq x)) && nodupB l
def addedV (s : Nat) (H : Id → Option V) : V → Option (Nat × (Nat → V) × Option Id × Option (Bool × Prop))
  | .sl _ s' nil m get => cond (Nat.beq s s' || nil) (some (m, get, none, none)) none
  | .str b => cond (Nat.beq s 1) (some (b.size, fun i => .int .u8 (bt b i), none, none)) none
  | .own id p s' N off len => cond (Nat.beq s s') (match H id with
    | some c => match V.nav c p with
      | some (.arr s'' N' get) => cond (Nat.beq s' s'') (some (len, fun i => (get (off + i)).demote, some id, some (V.fit c p && Nat.beq N N', ∀ i, i < len → (get (off + i)).closed = true))) none
      | _ => none
    | none => none) none
  | _ => none
def joinV (e : TypeId) (sz n m : Nat) (nil : Bool) (get add : Nat → V) : V :=
  .sl (some e) sz (cond (Nat.beq m 0) nil false) (n + m) fun j => V.mix (Nat.blt j n) (get j) (add (j - n))
def appendV (P : Program) (t : TypeId) (H : Id → Option V) (x y : V) (from_ : List Nat) : Option Eff :=
  match elemOf P t with
  | none => none
  | some (e, i) =>
    match addedV i.size H y with
    | none => none
    | some (m, add, id, side) =>
      match x with
      | .sl tok s nil n get =>
        cond ((match i.zero with | some z => Nat.beq z.cells.size i.size | none => false) && (Nat.blt 0 i.size && (Nat.blt 0 i.bytes && ((Nat.beq s i.size && (match tok with | some e' => Nat.beq e e' | none => false)) || nil))))
          (some { need := (match side with | some (b, _) => b | none => true) && room (n + m) i.bytes, side := side.map (·.2),
                  res := joinV e i.size n m nil get add,
                  tgt := id.map (·, none), take := from_ }) none
      | _ => none
def addedO (s : Nat) (H : Id → Option V) : V → Option (Nat × (Nat → V) × Option Id × Option (Bool × Prop))
  | .osl _ s' _ m get => cond (Nat.beq s s') (some (m, get, none, none)) none
  | y => addedV s H y
def appendO (P : Program) (t : TypeId) (H : Id → Option V) (e s : Nat) (nil : Bool) (n : Nat) (get : Nat → V) (y : V) (tk : List Nat) : Option Eff :=
  match elemOf P t with
  | none => none
  | some (e', i) =>
    match addedO i.size H y with
    | none => none
    | some (m, add, id, side) =>
      cond ((match i.zero with | some z => Nat.beq z.cells.size i.size | none => false) && (Nat.blt 0 i.size && (Nat.blt 0 i.bytes && (Nat.beq s i.size && (Nat.beq e e' && nodupB tk)))))
        (some { need := (match side with | some (b, _) => b | none => true) && room (n + m) i.bytes, side := side.map (·.2),
                res := .osl e s (cond (Nat.beq m 0) nil false) (n + m) fun j => V.mix (Nat.blt j n) (get j) (add (j - n)),
                tgt := id.map (·, none), take := tk }) none
def lenV (P : Program) (t : TypeId) (x : V) : Option Nat :=
  match P.underlying t with
  | some .string => match x with
    | .str s => some s.size
    | _ => none
  | some (.slice _) => match x with
    | .sl _ _ _ n _ => some n
    | .own _ _ _ _ _ len => some len
    | .osl _ _ _ n _ => some n
    | .lent _ _ _ _ n => some n
    | _ => none
  | some (.array n _) => some n
  | some (.pointer a) => match P.underlying a with
    | some (.array n _) => some n
    | _ => none
  | _ => none
def imin (x y : Int) : Int := cond (ilt y x) y x
def imax (x y : Int) : Int := cond (ilt x y) y x
def foldInt (f : Int → Int → Int) : V → List V → Option V
  | .int k a, [] => some (.int k a)
  | .int k a, .int k' b :: l => cond (k == k') (foldInt f (.int k (f a b)) l) none
  | _, _ => none
def builtinV (P : Program) (H : Id → Option V) (c : Call) (b : Builtin) (args : List V) : Option Eff :=
  match b, args with
  | .len, [x] => match c.argTypes[0]? with
    | some t => match lenV P t x with
      | some n => some { res := .int .i64 (n : Int) }
      | none => none
    | none => none
  | .append, [x, y] => cond (match c.argTypes.toList with | [_, u] => (match P.underlying u with | some (.int _) => false | none => false | _ => true) | _ => false)
      (match x with
      | .osl e s nil n get => appendO P (c.argTypes.getD 0 0) H e s nil n get y (match c.args.toList with | [a, b] => takeOf a x ++ takeOf b y | _ => [])
      | x => appendV P (c.argTypes.getD 0 0) H x y (match c.args.toList with | [a, _] => takeOf a x | _ => [])) none
  | .min, x :: l => (foldInt imin x l).map fun v => { res := v }
  | .max, x :: l => (foldInt imax x l).map fun v => { res := v }
  | _, _ => none
def buildS (P : Program) (fs : Array Field) (z : V) : List (Nat × V) → Option V
  | [] => some z
  | (j, v) :: l => match fs[j]?, z.nth j with
    | some f, some y => cond (Nat.beq (z.fldOff j) f.offset && (Nat.beq v.size y.size && fits P f.type v))
        (match z.setNth j v with | some z' => buildS P fs z' l | none => none) none
    | _, _ => none
def buildA (P : Program) (e : TypeId) (s n : Nat) (get : Nat → V) : List (Nat × V) → Option V
  | [] => some (.arr s n get)
  | (j, v) :: l => cond (Nat.blt j n && (Nat.beq v.size s && fits P e v)) (buildA P e s n (fun i => cond (Nat.beq i j) v (get i)) l) none
def buildV (P : Program) (t : TypeId) (ps : List (Nat × V)) : Option V :=
  match P.underlying t, zeroOf P t with
  | some (.struct fs), some z => cond (fs.toList.all fun f => (P.info? f.type).isSome) (buildS P fs z ps) none
  | some (.array _ e), some (.arr s n get) => match P.info? e with
    | some i => cond (Nat.beq i.size s) (buildA P e s n get ps) none
    | none => none
  | _, _ => none
def partGet (z : V) : List (Nat × V) → Nat → V
  | [], _ => z
  | [(_, x)], _ => x
  | (i, x) :: vs, j => V.mix (Nat.beq j i) x (partGet z vs j)
def partsOk : Nat → List (Nat × V) → Bool
  | _, [] => true
  | j, (i, _) :: l => Nat.beq i j && partsOk (j + 1) l
def fixN (P : Program) (e : TypeId) : V → V
  | .sl none 0 true 0 g => match zeroOf P e with
    | some (.sl none s true 0 g') => tokZ (P.underlying e) (.sl none s true 0 g')
    | _ => .sl none 0 true 0 g
  | x => x
def buildO (P : Program) (e : TypeId) (i : TypeInfo) (len : Nat) (vs : List (Nat × V)) (tk : List Nat) : Option Eff :=
  cond (i.zero.isSome && (Nat.beq vs.length len && (partsOk 0 vs && ((vs.all fun p => fits P e p.2) && (nodupB tk && (Nat.ble (len * i.size) 16777216 && Nat.ble len 16777216))))))
    (some { res := .osl e i.size false len (partGet ((zeroOf P e).getD .undef) vs), take := tk }) none
def openV (H : Id → Option V) (c : V) (id : Id) (p : List Sel) (d : Nat) (need : Bool) (ref res z : V) : Option Eff :=
  match H (.loc d 0), c.put p ref with
  | none, some c' => some { need := need, res := res, tgt := some (id, some c'), new := some (.loc d 0, z) }
  | _, _ => none
def makeV (m d : Nat) (e : TypeId) (need : Bool) (sz n : Nat) (z : V) : Option Eff :=
  match m with
  | 0 => some { need := need, res := .lent (.loc d 0) e sz false n, new := some (.loc d 0, .arr sz n fun _ => z) }
  | 1 => some { need := need, res := .osl e sz false n fun _ => z }
  | _ => cond (pureV z) (some { need := need, res := .sl (some e) sz false n fun _ => z.demote }) none
def opW (P : Program) (pol : Nat → Nat) (kn : Nat → Option Bool) (o : Oper) (s : St) : Option Eff :=
  let ev := evalV s.tm
  let dst := o.dst.getD 0
  match o.op with
  | .move x => cond (Nat.beq (pol dst) 1) (some { res := ev x, take := takeOf x (ev x) }) (some { res := copyOf (ev x) })
  | .assign x => some { res := ev x, take := takeOf x (ev x) }
  | .pick (.tmp c) a b => match kn c with
    | some true => some { res := copyOf (ev a) }
    | some false => some { res := copyOf (ev b) }
    | none => match s.tm c, ev a, ev b with
      | .bool d, .bool x, .bool y => some { res := .bool (cond d x y) }
      | .bool d, .int k x, .int k' y => cond (k == k') (some { res := .int k (cond d x y) }) none
      | _, _, _ => none
  | .alloc e => match zeroOf P e, s.H (.loc dst 0) with
    | some z, none => some { res := .ptr (.loc dst 0) [], new := some (.loc dst 0, z) }
    | _, _ => none
  | .box e x => cond (Nat.beq (pol dst) 3) (cond (fits P e (ev x) && (ev x).closed) (some { res := .vp (ev x).demote }) none) (match s.H (.loc dst 0) with
    | none => cond (fits P e (ev x)) (some { res := .ptr (.loc dst 0) [], new := some (.loc dst 0, ev x), take := takeOf x (ev x) }) none
    | _ => none)
  | .build t ps => cond (nodupB (ps.toList.flatMap fun p => takeOf p.2 (ev p.2))) ((buildV P t (ps.toList.map fun p => (p.1, ev p.2))).map fun v =>
        { res := v, take := ps.toList.flatMap fun p => takeOf p.2 (ev p.2) }) none
  | .buildSlice t len ps => match elemOf P t with
    | some (e, i) => cond (Nat.beq (pol dst) 1) (buildO P e i len (ps.toList.map fun p => (p.1, fixN P e (ev p.2))) (ps.toList.flatMap fun p => takeOf p.2 (ev p.2))) <|
      let vs := ps.toList.map fun p => (p.1, copyOf (ev p.2))
      cond (i.zero.isSome && (Nat.beq vs.length len && (partsOk 0 vs && ((((ps.toList.map fun p => (p.1, ev p.2)).all fun p => p.2.closed) && vs.all fun p => fits P e p.2) && (Nat.ble (len * i.size) 16777216 && Nat.ble len 16777216)))))
        (some { res := .sl (some e) i.size false len (partGet ((zeroOf P e).getD .undef) vs) }) none
    | none => none
  | .load t a => match ev a with
    | .ptr id p => match s.H id with
      | some c => match c.nav p with
        | some x => cond (fits P t x) (cond (Nat.beq (pol dst) 1 && x.hasTok) (match c.put p x.demote with
            | some c' => some { need := c.fit p, res := x, tgt := some (id, some c') }
            | none => none) (match x with
            | .obox nil z => openV s.H c id p dst (c.fit p && !nil) (.ptr (.loc dst 0) []) (.ptr (.loc dst 0) []) z
            | .osl e sz nil n get => openV s.H c id p dst (c.fit p) (.lent (.loc dst 0) e sz nil n) (.own (.loc dst 0) [] sz n 0 n) (.arr sz n get)
            | x => some { need := c.fit p, res := copyOf x, tgt := some (id, none) })) none
        | none => none
      | none => none
    | .vp x => cond (fits P t x) (some { res := x }) none
    | _ => none
  | .store t a x => match ev a with
    | .ptr id p => match s.H id with
      | some c => cond (fits P t (ev x) && (match c.nav p with | some _ => true | none => false)) (match c.put p (ev x) with
          | some c' => some { need := c.fit p, res := .undef, tgt := some (id, some c'), take := takeOf x (ev x) }
          | none => none) none
      | none => none
    | _ => none
  | .nilCheck x => match ev x with
    | .ptr id p => some { res := .ptr id p }
    | .vp x => some { res := .vp x }
    | .fn f c => some { res := .fn f c }
    | _ => none
  | .binOp op t x y _ => binV P op t (ev x) (ev y) (isConst x || isConst y)
  | .unOp .not _ x => match ev x with
    | .bool b => some { res := .bool (!b) }
    | _ => none
  | .unOp .neg _ x => match ev x with
    | .int k n => some { res := .int k (k.wrap (0 - n)) }
    | _ => none
  | .convert src dst x => match P.underlying src, P.underlying dst, ev x with
    | some (.int _), some (.int k), .int _ n => some { res := .int k (k.wrap n) }
    | some .string, some .string, .str b => some { res := .str b }
    | some (.slice e), some .string, .sl _ _ _ n get => match P.underlying e with
      | some (.int .u8) => some { side := some (∀ i, i < n → ∃ m, get i = .int .u8 m), res := .str (bytesOf n fun i => numOf (get i)) }
      | _ => none
    | _, _, _ => none
  | .makeInterface t x => match P.underlying t with
    | some (.interface _) => none
    | some _ => cond (copyOf (ev x)).one (some { res := .iface t (copyOf (ev x)) }) none
    | none => none
  | .makeFunc (.func f) first cap => cond (first.isEmpty && cap.toList.all fun x => !(ev x).agg && (copyOf (ev x)).one) (some { res := .fn f (.ofList (cap.toList.map fun x => copyOf (ev x))) }) none
  | .makeSlice t l c => match elemOf P t, ev l, ev c, s.H (.loc dst 0) with
    | some (e, i), .int _ l, .int _ c, none => match zeroOf P e with
      | some z => makeV (pol dst) dst e (upto l c.toNat && ile 0 c && room c.toNat i.bytes && decide (c ≤ 9223372036854775807)) i.size l.toNat z
      | none => none
    | _, _, _, _ => none
  | .slice t x lo hi mx => sliceV P t (ev x) (lo.map ev) (hi.map ev) (mx.map ev)
  | .fieldAddr t x j => match P.underlying t with
    | some (.struct fs) => match fs[j]? with
      | some f => match P.info? f.type with
        | some i => cond (Nat.beq i.size 0) none (match ev x with
          | .ptr id p => some { res := .ptr id (p ++ [.fld j f.offset]) }
          | .vp y => cond (Nat.beq (y.fldOff j) f.offset) (match y.nth j with
            | some z => some { res := .vp z }
            | none => none) none
          | _ => none)
        | none => none
      | none => none
    | _ => none
  | .field t x j => match P.underlying t with
    | some (.struct fs) => match fs[j]? with
      | some f => match (ev x).nth j with
        | some z => cond (Nat.beq ((ev x).fldOff j) f.offset && fits P f.type z) (some { res := copyOf z }) none
        | none => none
      | none => none
    | _ => none
  | .indexAddr t x ix => match P.underlying t, ev x, ev ix with
    | some (.array n e), .ptr id p, .int _ i => match P.info? e with
      | some f => some { need := inb i n, res := .ptr id (p ++ [.idx f.size n i.toNat]) }
      | none => none
    | some (.array n e), .vp (.arr s n' get), .int _ i => match P.info? e with
      | some f => cond (Nat.beq f.size s && Nat.beq n n') (some { need := inb i n, res := .vp (get i.toNat) }) none
      | none => none
    | some (.slice e), .sl _ s _ n get, .int _ i => match P.info? e with
      | some f => cond (Nat.beq f.size s) (some { need := inb i n, res := .vp (get i.toNat) }) none
      | none => none
    | some (.slice e), .own id p s N off len, .int _ i => match P.info? e with
      | some f => cond (Nat.beq f.size s) (some { need := inb i len, res := .ptr id (p ++ [.idx s N (off + i.toNat)]) }) none
      | none => none
    | _, _, _ => none
  | .index t x ix => match P.underlying t, ev x, ev ix with
    | some (.array n e), .arr s n' get, .int _ i => match P.info? e with
      | some f => cond (Nat.beq f.size s && Nat.beq n n' && fits P e (get i.toNat)) (some { need := inb i n, res := copyOf (get i.toNat) }) none
      | none => none
    | some .string, .str b, .int _ i => some { need := inb i b.size, res := .int .u8 (bt b i.toNat) }
    | _, _, _ => none
  | .extract x j => match ev x with
    | .tup y => match y.nth j with
      | some z => cond z.owns (some { res := z, take := slotOf x }) (some { res := z.demote })
      | none => none
    | _ => none
  | .call c => match c.callee with
    | .builtin b => builtinV P s.H c b (c.args.toList.map ev)
    | _ => none
  | _ => none
def takes (tm : Nat → V) : List Nat → Nat → V
  | [] => tm
  | t :: l => takes (upd tm t (tm t).demote) l
def applyE (o : Oper) (s : St) (e : Eff) : St :=
  let tm := takes s.tm e.take
  { tm := match o.dst with | some d => upd tm d e.res | none => tm
    H := match e.tgt, e.new with
      | some (id, some c), none => updH s.H id (some c)
      | some (id, some c), some (id', c') => updH (updH s.H id (some c)) id' (some c')
      | _, some (id, c) => updH s.H id (some c)
      | _, _ => s.H }
end Go.Vm
end
section
namespace Go.Vm
open Go
abbrev Foot := Nat → Nat → Prop
def none_ : Foot := fun _ _ => False
def Foot.Sub (f g : Foot) : Prop := ∀ b o, f b o → g b o
def Foot.Off (f g : Foot) : Prop := ∀ b o, f b o → ¬ g b o
def Foot.or (f g : Foot) : Foot := fun b o => f b o ∨ g b o
theorem Foot.Sub.refl (f : Foot) : f.Sub f := fun _ _ h => h
theorem Foot.Sub.trans {f g h : Foot} (a : f.Sub g) (b : g.Sub h) : f.Sub h := fun x y k => b x y (a x y k)
theorem Foot.none_sub (f : Foot) : none_.Sub f := fun _ _ h => h.elim
theorem Foot.Off.symm {f g : Foot} (h : f.Off g) : g.Off f := fun b o hg hf => h b o hf hg
theorem Foot.none_off (f : Foot) : none_.Off f := fun _ _ h => h.elim
theorem Foot.off_none (f : Foot) : f.Off none_ := fun _ _ _ h => h
theorem Foot.Off.mono {f g f' g' : Foot} (h : f.Off g) (a : f'.Sub f) (b : g'.Sub g) : f'.Off g' := fun x y hf hg => h x y (a x y hf) (b x y hg)
abbrev Names := Id → Option (Nat × Nat)
def noNames : Names := fun _ => none
def Names.Le (r s : Names) : Prop := ∀ i a, r i = some a → s i = some a
def selOff : Sel → Nat
  | .fld _ d => d
  | .idx s _ i => i * s
def pathOff : List Sel → Nat
  | [] => 0
  | s :: p => selOff s + pathOff p
def selOk : Sel → Prop
  | .fld _ _ => True
  | .idx _ n i => i < n
def pathOk (p : List Sel) : Prop := ∀ s ∈ p, selOk s
def Reads (w : World) (g o : Nat) (xs : List Value) : Prop := ∀ (j : Nat) (u : Value), xs[j]? = some u → w.cell? ⟨g, o + j, none⟩ = some u
def Spare (w : World) (fp : Foot) (e : TypeId) (s n : Nat) (g o c : Nat) : Prop :=
  c = n ∨ (o = 0 ∧ ∃ cur : Array Value, w.heap[g]? = some (.cells cur e (0, 0)) ∧ cur.size = c * s ∧ ∀ k, n * s ≤ k → k < c * s → fp g k)
structure Region (w : World) (fp : Foot) (g o : Nat) (xs : List Value) : Prop where
  reads : Reads w g o xs
  free : ∀ j, j < xs.length → w.frozen? ⟨g, o + j, none⟩ = false
  own : ∀ j, j < xs.length → fp g (o + j)
def regionFoot (g o n : Nat) : Foot := fun b k => b = g ∧ o ≤ k ∧ k < o + n
def spareFoot (g o s n c : Nat) : Foot := regionFoot g (o + n * s) ((c - n) * s)
def RelT (F : Foot) (w : World) : Names → V → List Value → Foot → Prop
  | _, .undef, cs, _ => ∃ v, cs = [v] ∧ v.oneCell' = true
  | _, .int k n, cs, _ => cs = [.int k n]
  | _, .bool b, cs, _ => cs = [.bool b]
  | _, .str s, cs, _ => cs = [.string s]
  | _, .nilp, cs, _ => cs = [.pointer none]
  | ρ, .ptr id p, cs, _ => ∃ g o, ρ id = some (g, o) ∧ pathOk p ∧ cs = [.pointer (some ⟨g, o + pathOff p, none⟩)]
  | _, .vp x, cs, _ => ∃ g o xs, cs = [.pointer (some ⟨g, o, none⟩)] ∧ RelT F w noNames x xs none_ ∧ Reads w g o xs ∧ ∀ j, j < xs.length → F g (o + j)
  | _, .sl tok s nil n get, cs, fp => ∃ A c, cs = [.slice A n c] ∧ n ≤ c ∧ c ≤ maxLen ∧ (nil = true → A = none ∧ n = 0 ∧ c = 0) ∧
      (nil = false → ∃ g o q, A = some ⟨g, o, q⟩ ∧ (q = none ∨ c = 0) ∧ (∀ e, tok = some e → Spare w fp e s n g o c) ∧
        ∀ i, i < n → ∃ xs, xs.length = s ∧ RelT F w noNames (get i) xs none_ ∧ Reads w g (o + i * s) xs ∧ ∀ j, j < s → F g (o + i * s + j))
  | ρ, .own id p s N off len, cs, _ => ∃ g o c A, ρ id = some (g, o) ∧ pathOk p ∧ cs = [.slice A len c] ∧ len ≤ c ∧ c ≤ maxLen ∧ off + len ≤ N ∧
      (0 < len → A = some ⟨g, o + pathOff p + off * s, none⟩)
  | _, .unit, cs, _ => cs = []
  | ρ, .cons x r, cs, fp => ∃ a b fa fb, cs = a ++ b ∧ RelT F w ρ x a fa ∧ RelT F w ρ r b fb ∧ fa.Sub fp ∧ fb.Sub fp ∧ fa.Off fb
  | ρ, .arr s n get, cs, fp => ∃ (f : Nat → List Value) (fs : Nat → Foot), (∀ i, i < n → (f i).length = s ∧ RelT F w ρ (get i) (f i) (fs i) ∧ (fs i).Sub fp) ∧
      (∀ i j, i < n → j < n → i ≠ j → (fs i).Off (fs j)) ∧ cs = (List.range n).flatMap f
  | _, .tup _, _, _ => False
  | ρ, .fn f caps, cs, _ => ∃ xs, cs = [.func (.func f) #[] xs.toArray] ∧ RelT F w ρ caps xs none_
  | _, .nilf, cs, _ => cs = [.nilFunc]
  | ρ, .iface t x, cs, _ => ∃ xs v, cs = [.iface t v] ∧ RelT F w ρ x xs none_ ∧ (x.agg = true → v = .agg xs.toArray) ∧ (x.agg = false → xs = [v])
  | _, .nili, cs, _ => cs = [.nilIface]
  | ρ, .obox nil x, cs, fp => ∃ A, cs = [.pointer A] ∧ (nil = true → A = none) ∧
      (nil = false → ∃ g o xs f, A = some ⟨g, o, none⟩ ∧ RelT F w ρ x xs f ∧ Region w fp g o xs ∧ f.Sub fp ∧ f.Off (regionFoot g o xs.length))
  | ρ, .osl e s nil n get, cs, fp => ∃ A c, cs = [.slice A n c] ∧ n ≤ c ∧ c ≤ maxLen ∧ (nil = true → A = none ∧ n = 0 ∧ c = 0) ∧
      (nil = false → ∃ g o, A = some ⟨g, o, none⟩ ∧ Spare w (spareFoot g o s n c) e s n g o c ∧ (regionFoot g o (c * s)).Sub fp ∧
        ∃ (xs : List Value) (f : Nat → List Value) (fs : Nat → Foot), xs = (List.range n).flatMap f ∧ Region w fp g o xs ∧
          (∀ i, i < n → (f i).length = s ∧ RelT F w ρ (get i) (f i) (fs i) ∧ (fs i).Sub fp ∧ (fs i).Off (regionFoot g o (c * s))) ∧
          ∀ i j, i < n → j < n → i ≠ j → (fs i).Off (fs j))
  | ρ, .lent id e s nil n, cs, fp => ∃ g o A c, ρ id = some (g, o) ∧ cs = [.slice A n c] ∧ n ≤ c ∧ c ≤ maxLen ∧ (nil = true → A = none ∧ n = 0 ∧ c = 0) ∧
      (nil = false → A = some ⟨g, o, none⟩ ∧ Spare w (spareFoot g o s n c) e s n g o c ∧ (spareFoot g o s n c).Sub fp)
def RelR (F : Foot) (w : World) (ρ : Names) (at_ : Nat × Nat) (x : V) (fp : Foot) : Prop :=
  ∃ xs f, RelT F w ρ x xs f ∧ Region w fp at_.1 at_.2 xs ∧ f.Sub fp ∧ f.Off (regionFoot at_.1 at_.2 xs.length)
def alike : Obj → Obj → Prop
  | .cells c e f, .cells c' e' f' => c'.size = c.size ∧ e' = e ∧ f' = f
  | .cells _ _ _, _ => False
  | o, o' => o' = o
structure Ext (w w' : World) : Prop where
  os : w'.os = w.os
  tape : w'.tape = w.tape
  output : w'.output = w.output
  size : w.heap.size ≤ w'.heap.size
  shape : ∀ (g : Nat) (o : Obj), w.heap[g]? = some o → ∃ o' : Obj, w'.heap[g]? = some o' ∧ alike o o'
theorem alike.refl (o : Obj) : alike o o := by cases o <;> simp [alike]
theorem alike.trans {a b c : Obj} (h : alike a b) (k : alike b c) : alike a c := by
  cases a <;> cases b <;> simp_all [alike] <;> cases c <;> simp_all
theorem Ext.refl (w : World) : Ext w w := ⟨rfl, rfl, rfl, Nat.le_refl _, fun _ o h => ⟨o, h, alike.refl o⟩⟩
theorem Ext.trans {a b c : World} (h : Ext a b) (k : Ext b c) : Ext a c :=
  ⟨k.os.trans h.os, k.tape.trans h.tape, k.output.trans h.output, Nat.le_trans h.size k.size, fun g o ho =>
    let ⟨o', h1, h2⟩ := h.shape g o ho; let ⟨o'', k1, k2⟩ := k.shape g o' h1; ⟨o'', k1, h2.trans k2⟩⟩
theorem Ext.frozen {w w' : World} (h : Ext w w') {a : Addr} {v : Value} (hc : w.cell? a = some v) : w'.frozen? a = w.frozen? a := by
  unfold World.cell? at hc
  unfold World.frozen?
  split at hc
  · rename_i c e f hg
    obtain ⟨o', h1, h2⟩ := h.shape _ _ hg
    cases o' <;> simp [alike] at h2
    obtain ⟨_, rfl, rfl⟩ := h2
    rw [hg, h1]
  · cases hc
def Same (w w' : World) (f : Foot) : Prop := ∀ g o, f g o → w'.cell? ⟨g, o, none⟩ = w.cell? ⟨g, o, none⟩
theorem Reads.keep {w w' : World} {F : Foot} {g o : Nat} {xs : List Value} (h : Reads w g o xs) (hs : Same w w' F) (hF : ∀ j, j < xs.length → F g (o + j)) : Reads w' g o xs := by
  intro j u hu
  rw [hs _ _ (hF j (List.getElem?_eq_some_iff.1 hu).1)]
  exact h j u hu
theorem Spare.keep {w w' : World} {fp fp' : Foot} {e : TypeId} {s n g o c : Nat} (h : Spare w fp e s n g o c) (hx : Ext w w') (hf : fp.Sub fp') : Spare w' fp' e s n g o c := by
  rcases h with h | ⟨ho, cur, hg, hc, hk⟩
  · exact .inl h
  · obtain ⟨o', h1, h2⟩ := hx.shape _ _ hg
    cases o' <;> simp [alike] at h2
    obtain ⟨h3, rfl, rfl⟩ := h2
    exact .inr ⟨ho, _, h1, by omega, fun k a b => hf _ _ (hk k a b)⟩
theorem Region.keep {w w' : World} {fp fp' : Foot} {g o : Nat} {xs : List Value} (h : Region w fp g o xs) (hx : Ext w w') (hs : Same w w' fp) (hf : fp.Sub fp') : Region w' fp' g o xs where
  reads := h.reads.keep hs h.own
  free j hj := by
    rw [hx.frozen (h.reads j _ (List.getElem?_eq_getElem hj))]
    exact h.free j hj
  own j hj := hf _ _ (h.own j hj)
theorem RelT.keep {F F' : Foot} {w w' : World} (hx : Ext w w') (hF : F.Sub F') (hs : Same w w' F) :
    ∀ (x : V) {ρ ρ' : Names} (_ : ρ.Le ρ') {cs : List Value} {fp fp' : Foot} (_ : Same w w' fp) (_ : fp.Sub fp') (_ : RelT F w ρ x cs fp), RelT F' w' ρ' x cs fp' := by
  have hn : Same w w' none_ := fun _ _ h => h.elim
  intro x
  induction x with
  | undef | int | bool | str | nilp | unit | nilf | nili => intro ρ ρ' _ cs fp fp' _ _ h; simpa [RelT] using h
  | tup => intro ρ ρ' _ cs fp fp' _ _ h; simp [RelT] at h
  | ptr id p => intro ρ ρ' hr cs fp fp' _ _ h; simp only [RelT] at h ⊢; obtain ⟨g, o, h1, h2⟩ := h; exact ⟨g, o, hr _ _ h1, h2⟩
  | own id p s N off len => intro ρ ρ' hr cs fp fp' _ _ h; simp only [RelT] at h ⊢; obtain ⟨g, o, c, A, h1, h2⟩ := h; exact ⟨g, o, c, A, hr _ _ h1, h2⟩
  | vp x ih =>
    intro ρ ρ' _ cs fp fp' _ _ h
    simp only [RelT] at h ⊢
    obtain ⟨g, o, xs, h1, h2, h3, h4⟩ := h
    exact ⟨g, o, xs, h1, ih (fun _ _ h => h) hn (Foot.Sub.refl _) h2, h3.keep hs h4, fun j hj => hF _ _ (h4 j hj)⟩
  | sl tok s nil n get ih =>
    intro ρ ρ' _ cs fp fp' _ hfp h
    simp only [RelT] at h ⊢
    obtain ⟨A, c, h1, h2, h3, h4, h5⟩ := h
    refine ⟨A, c, h1, h2, h3, h4, fun hni => ?_⟩
    obtain ⟨g, o, q, h6, hq, h7, h8⟩ := h5 hni
    refine ⟨g, o, q, h6, hq, fun e he => (h7 e he).keep hx hfp, fun i hi => ?_⟩
    obtain ⟨xs, k1, k2, k3, k4⟩ := h8 i hi
    exact ⟨xs, k1, ih i (fun _ _ h => h) hn (Foot.Sub.refl _) k2, k3.keep hs (fun j hj => k4 j (by omega)), fun j hj => hF _ _ (k4 j hj)⟩
  | cons x r ihx ihr =>
    intro ρ ρ' hr cs fp fp' hsf hfp h
    simp only [RelT] at h ⊢
    obtain ⟨a, b, fa, fb, h1, h2, h3, h4, h5, h6⟩ := h
    exact ⟨a, b, fa, fb, h1, ihx hr (fun g o hg => hsf g o (h4 g o hg)) (Foot.Sub.refl _) h2, ihr hr (fun g o hg => hsf g o (h5 g o hg)) (Foot.Sub.refl _) h3, h4.trans hfp, h5.trans hfp, h6⟩
  | arr s n get ih =>
    intro ρ ρ' hr cs fp fp' hsf hfp h
    simp only [RelT] at h ⊢
    obtain ⟨f, fs, h1, h2, h3⟩ := h
    exact ⟨f, fs, fun i hi => ⟨(h1 i hi).1, ih i hr (fun g o hg => hsf g o ((h1 i hi).2.2 g o hg)) (Foot.Sub.refl _) (h1 i hi).2.1, (h1 i hi).2.2.trans hfp⟩, h2, h3⟩
  | fn f caps ih =>
    intro ρ ρ' hr cs fp fp' _ _ h
    simp only [RelT] at h ⊢
    obtain ⟨xs, h1, h2⟩ := h
    exact ⟨xs, h1, ih hr hn (Foot.Sub.refl _) h2⟩
  | iface t x ih =>
    intro ρ ρ' hr cs fp fp' _ _ h
    simp only [RelT] at h ⊢
    obtain ⟨xs, v, h1, h2, h3, h4⟩ := h
    exact ⟨xs, v, h1, ih hr hn (Foot.Sub.refl _) h2, h3, h4⟩
  | obox nil x ih =>
    intro ρ ρ' hr cs fp fp' hsf hfp h
    simp only [RelT] at h ⊢
    obtain ⟨A, h1, h2, h3⟩ := h
    refine ⟨A, h1, h2, fun hni => ?_⟩
    obtain ⟨g, o, xs, f, k1, k2, k3, k4, k5⟩ := h3 hni
    exact ⟨g, o, xs, f, k1, ih hr (fun g o hg => hsf g o (k4 g o hg)) (Foot.Sub.refl _) k2, k3.keep hx hsf hfp, k4.trans hfp, k5⟩
  | osl e s nil n get ih =>
    intro ρ ρ' hr cs fp fp' hsf hfp h
    simp only [RelT] at h ⊢
    obtain ⟨A, c, h1, h2, h3, h4, h5⟩ := h
    refine ⟨A, c, h1, h2, h3, h4, fun hni => ?_⟩
    obtain ⟨g, o, k1, k2, k3, xs, f, fs, k4, k5, k6, k7⟩ := h5 hni
    exact ⟨g, o, k1, k2.keep hx (Foot.Sub.refl _), k3.trans hfp, xs, f, fs, k4, k5.keep hx hsf hfp, fun i hi => ⟨(k6 i hi).1, ih i hr (fun g o hg => hsf g o ((k6 i hi).2.2.1 g o hg)) (Foot.Sub.refl _) (k6 i hi).2.1, (k6 i hi).2.2.1.trans hfp, (k6 i hi).2.2.2⟩, k7⟩
  | lent id e s nil n =>
    intro ρ ρ' hr cs fp fp' _ hfp h
    simp only [RelT] at h ⊢
    obtain ⟨g, o, A, c, h1, h2, h3, h4, h5, h6⟩ := h
    exact ⟨g, o, A, c, hr _ _ h1, h2, h3, h4, h5, fun hni => ⟨(h6 hni).1, (h6 hni).2.1.keep hx (Foot.Sub.refl _), (h6 hni).2.2.trans hfp⟩⟩
theorem RelT.mono {F : Foot} {w : World} {ρ : Names} {x : V} {cs : List Value} {fp fp' : Foot} (h : RelT F w ρ x cs fp) (hf : fp.Sub fp') : RelT F w ρ x cs fp' :=
  RelT.keep (Ext.refl w) (Foot.Sub.refl _) (fun _ _ _ => rfl) x (fun _ _ h => h) (fun _ _ _ => rfl) hf h
theorem RelR.keep {F F' : Foot} {w w' : World} (hx : Ext w w') (hF : F.Sub F') (hs : Same w w' F)
    (x : V) {ρ ρ' : Names} (hr : ρ.Le ρ') {a : Nat × Nat} {fp fp' : Foot} (hsf : Same w w' fp) (hfp : fp.Sub fp') (h : RelR F w ρ a x fp) : RelR F' w' ρ' a x fp' := by
  obtain ⟨xs, f, h1, h2, h3, h4⟩ := h
  exact ⟨xs, f, h1.keep hx hF hs x hr (fun g o hg => hsf g o (h3 g o hg)) (Foot.Sub.refl _), h2.keep hx hsf hfp, h3.trans hfp, h4⟩
theorem flatMap_length {s : Nat} {f : Nat → List Value} : ∀ n, (∀ i, i < n → (f i).length = s) → ((List.range n).flatMap f).length = n * s := by
  intro n
  induction n with
  | zero => intro _; simp
  | succ n ih =>
    intro h
    rw [List.range_succ, List.flatMap_append, List.length_append, ih (fun i hi => h i (by omega))]
    simp [h n (by omega), Nat.succ_mul]
theorem RelT.length {F : Foot} {w : World} {ρ : Names} : ∀ {x : V} {cs : List Value} {fp : Foot}, RelT F w ρ x cs fp → cs.length = x.size := by
  intro x
  induction x with
  | undef => intro cs fp h; simp only [RelT] at h; obtain ⟨v, rfl, _⟩ := h; simp [V.size]
  | int | bool | str | nilp | unit | nilf | nili => intro cs fp h; simp only [RelT] at h; simp [h, V.size]
  | tup => intro cs fp h; simp [RelT] at h
  | ptr id p => intro cs fp h; simp only [RelT] at h; obtain ⟨g, o, _, _, rfl⟩ := h; simp [V.size]
  | own => intro cs fp h; simp only [RelT] at h; obtain ⟨g, o, c, A, _, _, rfl, _⟩ := h; simp [V.size]
  | vp x ih => intro cs fp h; simp only [RelT] at h; obtain ⟨g, o, xs, rfl, _⟩ := h; simp [V.size]
  | sl => intro cs fp h; simp only [RelT] at h; obtain ⟨A, c, rfl, _⟩ := h; simp [V.size]
  | cons x r ihx ihr =>
    intro cs fp h
    simp only [RelT] at h
    obtain ⟨a, b, fa, fb, rfl, h2, h3, _⟩ := h
    simp [V.size, ihx h2, ihr h3]
  | arr s n get ih =>
    intro cs fp h
    simp only [RelT] at h
    obtain ⟨f, fs, h1, _, rfl⟩ := h
    rw [flatMap_length n (fun i hi => (h1 i hi).1)]
    rfl
  | fn => intro cs fp h; simp only [RelT] at h; obtain ⟨xs, rfl, _⟩ := h; simp [V.size]
  | iface => intro cs fp h; simp only [RelT] at h; obtain ⟨xs, v, rfl, _⟩ := h; simp [V.size]
  | obox => intro cs fp h; simp only [RelT] at h; obtain ⟨A, rfl, _⟩ := h; simp [V.size]
  | osl => intro cs fp h; simp only [RelT] at h; obtain ⟨A, c, rfl, _⟩ := h; simp [V.size]
  | lent => intro cs fp h; simp only [RelT] at h; obtain ⟨g, o, A, c, _, rfl, _⟩ := h; simp [V.size]
theorem V.demote_agg (x : V) : x.demote.agg = x.agg := by cases x <;> rfl
theorem V.demote_size (x : V) : x.demote.size = x.size := by
  induction x with
  | cons x r hx hr => simp [V.demote, V.size, hx, hr]
  | _ => rfl
theorem RelT.demote {F : Foot} {w : World} : ∀ (x : V) {ρ : Names} {cs : List Value} {fp : Foot}, RelT F w ρ x cs fp → RelT F w ρ x.demote cs none_ := by
  intro x
  induction x with
  | undef | int | bool | str | nilp | unit | nilf | nili | ptr | own | vp => intro ρ cs fp h; simpa [RelT, V.demote] using h
  | tup => intro ρ cs fp h; simp [RelT] at h
  | obox nil x _ => intro ρ cs fp h; simp only [RelT, V.demote] at h ⊢; obtain ⟨A, rfl, _⟩ := h; exact ⟨_, rfl, rfl⟩
  | osl => intro ρ cs fp h; simp only [RelT, V.demote] at h ⊢; obtain ⟨A, c, rfl, _⟩ := h; exact ⟨_, rfl, rfl⟩
  | lent id e s nil n =>
    intro ρ cs fp h
    simp only [RelT, V.demote] at h ⊢
    obtain ⟨g, o, A, c, h1, h2, h3, h4, h5, h6⟩ := h
    refine ⟨g, o, c, A, h1, (fun _ hq => by simp at hq), h2, h3, h4, by omega, fun hn => ?_⟩
    cases nil with
    | true => have := (h5 rfl).2.1; omega
    | false => rw [(h6 rfl).1]; simp [pathOff]
  | sl tok s nil n get ih =>
    intro ρ cs fp h
    simp only [RelT, V.demote] at h ⊢
    obtain ⟨A, c, h1, h2, h3, h4, h5⟩ := h
    refine ⟨A, c, h1, h2, h3, h4, fun hn => ?_⟩
    obtain ⟨g, o, q, h6, hq, _, h8⟩ := h5 hn
    exact ⟨g, o, q, h6, hq, (fun e he => by cases he), h8⟩
  | cons x r hx hr =>
    intro ρ cs fp h
    simp only [RelT, V.demote] at h ⊢
    obtain ⟨a, b, fa, fb, h1, h2, h3, _⟩ := h
    exact ⟨a, b, none_, none_, h1, hx h2, hr h3, Foot.none_sub _, Foot.none_sub _, Foot.none_off _⟩
  | arr s n get ih =>
    intro ρ cs fp h
    simp only [RelT, V.demote] at h ⊢
    obtain ⟨f, fs, h1, _, h3⟩ := h
    exact ⟨f, fun _ => none_, fun i hi => ⟨(h1 i hi).1, ih i (h1 i hi).2.1, Foot.none_sub _⟩, fun _ _ _ _ _ => Foot.none_off _, h3⟩
  | fn f caps ih =>
    intro ρ cs fp h
    simp only [RelT, V.demote] at h ⊢
    obtain ⟨xs, h1, h2⟩ := h
    exact ⟨xs, h1, ih h2⟩
  | iface t x ih =>
    intro ρ cs fp h
    simp only [RelT, V.demote] at h ⊢
    obtain ⟨xs, v, h1, h2, h3, h4⟩ := h
    exact ⟨xs, v, h1, ih h2, by rw [V.demote_agg]; exact h3, by rw [V.demote_agg]; exact h4⟩
end Go.Vm
end
section
namespace Go.Vm
open Go
def Rel1 (F : Foot) (w : World) (ρ : Names) (x : V) (v : Value) (fp : Foot) : Prop :=
  (x.agg = true → ∃ cs, v = .agg cs.toArray ∧ RelT F w ρ x cs fp) ∧ (x.agg = false → RelT F w ρ x [v] fp)
def RelL (F : Foot) (w : World) (ρ : Names) : V → List Value → Foot → Prop
  | .unit, vs, _ => vs = []
  | .cons x r, vs, fp => ∃ v vs' fa fb, vs = v :: vs' ∧ Rel1 F w ρ x v fa ∧ RelL F w ρ r vs' fb ∧ fa.Sub fp ∧ fb.Sub fp ∧ fa.Off fb
  | _, _, _ => False
def RelV (F : Foot) (w : World) (ρ : Names) (x : V) (v : Value) (fp : Foot) : Prop :=
  match x with
  | .undef => True
  | .tup y => ∃ vs, v = .tuple vs.toArray ∧ RelL F w ρ y vs fp
  | x => Rel1 F w ρ x v fp
section
variable {F F' : Foot} {w w' : World} {ρ ρ' : Names}
theorem Rel1.keep (hx : Ext w w') (hF : F.Sub F') (hs : Same w w' F) (hr : ρ.Le ρ') {x : V} {v : Value} {fp fp' : Foot} (hsf : Same w w' fp) (hf : fp.Sub fp') (h : Rel1 F w ρ x v fp) : Rel1 F' w' ρ' x v fp' :=
  ⟨fun ha => let ⟨cs, h1, h2⟩ := h.1 ha; ⟨cs, h1, h2.keep hx hF hs x hr hsf hf⟩, fun ha => (h.2 ha).keep hx hF hs x hr hsf hf⟩
theorem RelL.keep (hx : Ext w w') (hF : F.Sub F') (hs : Same w w' F) (hr : ρ.Le ρ') : ∀ {x : V} {vs : List Value} {fp fp' : Foot}, Same w w' fp → fp.Sub fp' → RelL F w ρ x vs fp → RelL F' w' ρ' x vs fp' := by
  intro x
  induction x with
  | cons x r _ ih =>
    intro vs fp fp' hsf hf h
    simp only [RelL] at h ⊢
    obtain ⟨v, vs', fa, fb, h1, h2, h3, h4, h5, h6⟩ := h
    exact ⟨v, vs', fa, fb, h1, h2.keep hx hF hs hr (fun g o hg => hsf g o (h4 g o hg)) (Foot.Sub.refl _), ih (fun g o hg => hsf g o (h5 g o hg)) (Foot.Sub.refl _) h3, h4.trans hf, h5.trans hf, h6⟩
  | _ => intro vs fp fp' _ hf h; exact h
theorem RelV.keep (hx : Ext w w') (hF : F.Sub F') (hs : Same w w' F) (hr : ρ.Le ρ') {x : V} {v : Value} {fp fp' : Foot} (hsf : Same w w' fp) (hf : fp.Sub fp') (h : RelV F w ρ x v fp) : RelV F' w' ρ' x v fp' := by
  cases x with
  | undef => trivial
  | tup y => obtain ⟨vs, h1, h2⟩ := h; exact ⟨vs, h1, h2.keep hx hF hs hr hsf hf⟩
  | _ => exact Rel1.keep hx hF hs hr hsf hf h
theorem Rel1.mono {x : V} {v : Value} {fp fp' : Foot} (h : Rel1 F w ρ x v fp) (hf : fp.Sub fp') : Rel1 F w ρ x v fp' :=
  h.keep (Ext.refl w) (Foot.Sub.refl _) (fun _ _ _ => rfl) (fun _ _ h => h) (fun _ _ _ => rfl) hf
theorem RelV.mono {x : V} {v : Value} {fp fp' : Foot} (h : RelV F w ρ x v fp) (hf : fp.Sub fp') : RelV F w ρ x v fp' :=
  h.keep (Ext.refl w) (Foot.Sub.refl _) (fun _ _ _ => rfl) (fun _ _ h => h) (fun _ _ _ => rfl) hf
theorem Rel1.demote {x : V} {v : Value} {fp : Foot} (h : Rel1 F w ρ x v fp) : Rel1 F w ρ x.demote v none_ :=
  ⟨fun ha => let ⟨cs, h1, h2⟩ := h.1 (by rwa [V.demote_agg] at ha); ⟨cs, h1, h2.demote⟩, fun ha => (h.2 (by rwa [V.demote_agg] at ha)).demote⟩
theorem RelL.demote : ∀ {x : V} {vs : List Value} {fp : Foot}, RelL F w ρ x vs fp → RelL F w ρ x.demote vs none_ := by
  intro x
  induction x with
  | cons x r _ ih =>
    intro vs fp h
    simp only [RelL, V.demote] at h ⊢
    obtain ⟨v, vs', fa, fb, h1, h2, h3, _⟩ := h
    exact ⟨v, vs', none_, none_, h1, h2.demote, ih h3, Foot.none_sub _, Foot.none_sub _, Foot.none_off _⟩
  | _ => intro vs fp h; exact h
theorem RelV.demote {x : V} {v : Value} {fp : Foot} (h : RelV F w ρ x v fp) : RelV F w ρ x.demote v none_ := by
  cases x with
  | undef => simp [RelV, V.demote]
  | tup y => simp only [RelV, V.demote] at h ⊢; obtain ⟨vs, h1, h2⟩ := h; exact ⟨vs, h1, h2.demote⟩
  | obox => simp [RelV, V.demote]
  | osl => simp [RelV, V.demote]
  | _ => simp only [RelV] at h; exact Rel1.demote h
theorem RelV.one {x : V} {v : Value} {fp : Foot} (h : RelV F w ρ x v fp) (ho : x.one = true) : Rel1 F w ρ x v fp := by
  cases x <;> simp_all [RelV, V.one]
theorem Rel1.val {x : V} {v : Value} {fp : Foot} (h : Rel1 F w ρ x v fp) (ho : x.one = true) : RelV F w ρ x v fp := by
  cases x <;> simp_all [RelV, V.one]
theorem RelT.unowned : ∀ {x : V} {ρ : Names} {cs : List Value} {fp : Foot}, x.owns = false → RelT F w ρ x cs fp → RelT F w ρ x cs none_ := by
  intro x
  induction x with
  | sl tok s nil n get _ =>
    intro ρ cs fp h k
    cases tok with
    | some e => simp [V.owns] at h
    | none =>
      simp only [RelT] at k ⊢
      obtain ⟨A, c, h1, h2, h3, h4, h5⟩ := k
      refine ⟨A, c, h1, h2, h3, h4, fun hn => ?_⟩
      obtain ⟨g, o, q, k1, k2, _, k4⟩ := h5 hn
      exact ⟨g, o, q, k1, k2, nofun, k4⟩
  | cons x r hx hr =>
    intro ρ cs fp h k
    simp only [V.owns, Bool.or_eq_false_iff] at h
    simp only [RelT] at k ⊢
    obtain ⟨a, b, fa, fb, h1, h2, h3, _⟩ := k
    exact ⟨a, b, none_, none_, h1, hx h.1 h2, hr h.2 h3, Foot.none_sub _, Foot.none_sub _, Foot.none_off _⟩
  | arr s n get ih =>
    intro ρ cs fp h k
    simp only [V.owns, List.any_eq_false, List.mem_range, Bool.not_eq_true] at h
    simp only [RelT] at k ⊢
    obtain ⟨f, fs, h1, _, h3⟩ := k
    exact ⟨f, fun _ => none_, fun i hi => ⟨(h1 i hi).1, ih i (h i hi) (h1 i hi).2.1, Foot.none_sub _⟩, fun _ _ _ _ _ => Foot.none_off _, h3⟩
  | obox => intro ρ cs fp h; simp [V.owns] at h
  | osl => intro ρ cs fp h; simp [V.owns] at h
  | lent => intro ρ cs fp h; simp [V.owns] at h
  | _ => intro ρ cs fp _ k; first | (simp only [RelT] at k; done) | (simpa only [RelT] using k)
theorem Rel1.unowned {x : V} {v : Value} {fp : Foot} (h : x.owns = false) (k : Rel1 F w ρ x v fp) : Rel1 F w ρ x v none_ :=
  ⟨fun ha => let ⟨cs, h1, h2⟩ := k.1 ha; ⟨cs, h1, h2.unowned h⟩, fun ha => (k.2 ha).unowned h⟩
theorem RelL.unowned : ∀ {x : V} {vs : List Value} {fp : Foot}, x.owns = false → RelL F w ρ x vs fp → RelL F w ρ x vs none_ := by
  intro x
  induction x with
  | cons x r _ ih =>
    intro vs fp h k
    simp only [V.owns, Bool.or_eq_false_iff] at h
    simp only [RelL] at k ⊢
    obtain ⟨v, vs', fa, fb, h1, h2, h3, _⟩ := k
    exact ⟨v, vs', none_, none_, h1, h2.unowned h.1, ih h.2 h3, Foot.none_sub _, Foot.none_sub _, Foot.none_off _⟩
  | _ => intro vs fp _ k; first | (simp only [RelL] at k; done) | (simpa only [RelL] using k)
theorem RelV.unowned {x : V} {v : Value} {fp : Foot} (k : RelV F w ρ x v fp) (h : x.owns = false) : RelV F w ρ x v none_ := by
  cases x with
  | undef => trivial
  | tup y => obtain ⟨vs, h1, h2⟩ := k; exact ⟨vs, h1, h2.unowned h⟩
  | _ => exact Rel1.unowned h k
theorem hasTok_demote {x : V} (h : x.hasTok = false) : x.demote = x := by
  induction x with
  | sl tok => cases tok <;> simp_all [V.hasTok, V.demote]
  | cons x r hx hr => simp [V.hasTok] at h; simp [V.demote, hx h.1, hr h.2]
  | arr | obox | osl | lent => simp [V.hasTok] at h
  | tup x ih => simp [V.hasTok] at h; simp [V.demote, ih h]
  | fn f c ih => simp [V.hasTok] at h; simp [V.demote, ih h]
  | iface t x ih => simp [V.hasTok] at h; simp [V.demote, ih h]
  | _ => rfl
theorem copyOf_eq (x : V) : copyOf x = x.demote := by
  unfold copyOf
  cases h : x.hasTok
  · rw [cond_false, hasTok_demote h]
  · rfl
end
structure Ctx where
  w : World
  F : Foot
  fp : Foot
  par : Nat → Option (Nat × Nat)
def Ctx.New (Γ : Ctx) : Foot := fun g o => Γ.w.heap.size ≤ g ∨ Γ.fp g o
structure Mem (Γ : Ctx) (w : World) (F : Foot) : Prop where
  ext : Ext Γ.w w
  sub : Γ.F.Sub F
  fresh : ∀ g o, F g o → Γ.F g o ∨ Γ.New g o
  keep : ∀ g o, ¬ Γ.New g o → w.cell? ⟨g, o, none⟩ = Γ.w.cell? ⟨g, o, none⟩
  live : ∀ g o, F g o → g < w.heap.size
inductive Ix where
  | t (n : Nat)
  | b (i : Id)
abbrev Fam := Ix → Foot
structure Stand (Γ : Ctx) (F : Foot) (w : World) (ρ : Names) (fam : Fam) (s : St) (tm : Array Value) : Prop where
  tm : ∀ t, RelV F w ρ (s.tm t) (tm.getD t Go.undef) (fam (.t t))
  nm : ∀ id, s.H id = none ↔ ρ id = none
  bl : ∀ id x r, s.H id = some x → ρ id = some r → RelR F w ρ r x (fam (.b id))
  off : ∀ i j, i ≠ j → (fam i).Off (fam j)
  offF : ∀ i, (fam i).Off F
  new : ∀ i, (fam i).Sub Γ.New
  lt : ∀ i g o, fam i g o → g < w.heap.size
  pn : ∀ i, ρ (.par i) = Γ.par i
def Conc (Γ : Ctx) (s : St) (a : Act) (w : World) : Prop :=
  a.defers = [] ∧ ∃ F ρ fam, Mem Γ w F ∧ Stand Γ F w ρ fam s a.tmps
theorem upd_same {α : Type} (f : Nat → α) (t : Nat) (x : α) : upd f t x t = x := by simp [upd]
theorem upd_ne {α : Type} (f : Nat → α) {t u : Nat} (x : α) (h : u ≠ t) : upd f t x u = f u := by
  have : Nat.beq u t = false := by
    cases hb : Nat.beq u t
    · rfl
    · exact absurd (Nat.eq_of_beq_eq_true hb) h
  simp [upd, this]
theorem Id.same_iff (i j : Id) : i.same j = true ↔ i = j := by
  cases i <;> cases j <;> simp [Id.same]
theorem updH_same (H : Id → Option V) (i : Id) (x : Option V) : updH H i x i = x := by
  have : i.same i = true := (Id.same_iff i i).2 rfl
  simp [updH, this]
theorem updH_ne (H : Id → Option V) {i j : Id} (x : Option V) (h : j ≠ i) : updH H i x j = H j := by
  have : j.same i = false := by
    cases hh : j.same i
    · rfl
    · exact absurd ((Id.same_iff j i).1 hh) h
  simp [updH, this]
theorem getD_set (tm : Array Value) (d : Nat) (v : Value) (t : Nat) (hd : d < tm.size) : (tm.setIfInBounds d v).getD t Go.undef = if t = d then v else tm.getD t Go.undef := by
  by_cases h : t = d
  · subst h; simp [Array.getD, hd]
  · simp only [h, if_false, Array.getD_eq_getD_getElem?, Array.getElem?_setIfInBounds, Ne.symm h]
theorem takes_get {F : Foot} {w : World} {ρ : Names} (val : Nat → Value) (f : Nat → Foot) : ∀ (l : List Nat) (tm : Nat → V), (∀ t, RelV F w ρ (tm t) (val t) (f t)) →
    ∀ t, RelV F w ρ (takes tm l t) (val t) (if t ∈ l then none_ else f t) := by
  intro l
  induction l generalizing f with
  | nil => intro tm h t; simpa [takes] using h t
  | cons u l ih =>
    intro tm h t
    have h' : ∀ t, RelV F w ρ (upd tm u (tm u).demote t) (val t) (if t = u then none_ else f t) := by
      intro t
      by_cases e : t = u
      · subst e; rw [upd_same, if_pos rfl]; exact (h t).demote
      · rw [upd_ne _ _ e, if_neg e]; exact h t
    have := ih _ _ h' t
    refine this.mono ?_
    by_cases e : t = u
    · subst e; simp only [List.mem_cons, true_or, if_true]; split <;> exact Foot.none_sub _
    · by_cases hl : t ∈ l
      · simp [hl]; exact Foot.none_sub _
      · simp [hl, e]; exact Foot.Sub.refl _
def sumT (fam : Fam) (l : List Nat) : Foot := fun g o => ∃ t ∈ l, fam (.t t) g o
open Classical in
noncomputable def famPut (fam : Fam) (l : List Nat) (d : Option Nat) (fr : Foot) : Fam
  | .t u => if some u = d then fr else if u ∈ l then none_ else fam (.t u)
  | .b i => fam (.b i)
theorem Stand.val {Γ : Ctx} {F : Foot} {w : World} {ρ : Names} {fam : Fam} {s : St} {a : Act} (h : Stand Γ F w ρ fam s a.tmps) (l : List Nat) (d : Nat) (hd : d < a.tmps.size)
    {res : V} {v : Value} {fr : Foot} (hv : RelV F w ρ res v fr) (hfr : fr.Sub (sumT fam l)) :
    Stand Γ F w ρ (famPut fam l (some d) fr) { tm := upd (takes s.tm l) d res, H := s.H } (a.put (some d) v).tmps := by
  have hsub : ∀ t, (famPut fam l (some d) fr (.t t)).Sub (fun g o => if t = d then fr g o else fam (.t t) g o) := by
    intro t g o hg
    simp only [famPut] at hg
    by_cases e : t = d
    · subst e; simpa using hg
    · have : ¬ (some t = some d) := by simpa using e
      simp only [this, if_false] at hg
      simp only [e, if_false]
      split at hg
      · exact hg.elim
      · exact hg
  have inl : ∀ {i : Ix} {g o}, famPut fam l (some d) fr i g o → ∃ j, fam j g o ∧ (i = j ∨ (i = .t d ∧ ∃ t ∈ l, j = .t t)) := by
    intro i g o hg
    cases i with
    | b i => exact ⟨.b i, hg, .inl rfl⟩
    | t u =>
      simp only [famPut] at hg
      by_cases e : u = d
      · subst e
        simp only [if_true] at hg
        obtain ⟨t, ht, hto⟩ := hfr g o hg
        exact ⟨.t t, hto, .inr ⟨rfl, t, ht, rfl⟩⟩
      · have : ¬ (some u = some d) := by simpa using e
        simp only [this, if_false] at hg
        split at hg
        · exact hg.elim
        · exact ⟨.t u, hg, .inl rfl⟩
  refine ⟨fun t => ?_, h.nm, fun id x r h1 h2 => h.bl id x r h1 h2, ?_, ?_, ?_, ?_, h.pn⟩
  · show RelV F w ρ (upd (takes s.tm l) d res t) ((a.tmps.setIfInBounds d v).getD t Go.undef) _
    rw [getD_set _ _ _ _ hd]
    by_cases e : t = d
    · subst e
      rw [upd_same, if_pos rfl]
      simp only [famPut, if_true]
      exact hv
    · rw [upd_ne _ _ e, if_neg e]
      have := takes_get (F := F) (w := w) (ρ := ρ) (fun t => a.tmps.getD t Go.undef) (fun t => fam (.t t)) l s.tm h.tm t
      have hne : ¬ (some t = some d) := by simpa using e
      simp only [famPut, hne, if_false]
      exact this
  · intro i j hij g o hi hj
    obtain ⟨i', hi', ei⟩ := inl hi
    obtain ⟨j', hj', ej⟩ := inl hj
    by_cases e : i' = j'
    · subst e
      rcases ei with rfl | ⟨rfl, t, ht, rfl⟩
      · rcases ej with rfl | ⟨rfl, u, hu, e⟩
        · exact hij rfl
        · subst e
          simp only [famPut] at hi
          by_cases e : u = d
          · exact hij (by rw [e])
          · have : ¬ (some u = some d) := by simpa using e
            simp only [this, if_false, hu, if_true] at hi
            exact hi
      · rcases ej with rfl | ⟨rfl, u, hu, e⟩
        · simp only [famPut] at hj
          by_cases e : t = d
          · exact hij (by rw [e])
          · have : ¬ (some t = some d) := by simpa using e
            simp only [this, if_false, ht, if_true] at hj
            exact hj
        · exact hij rfl
    · exact h.off i' j' e g o hi' hj'
  · intro i g o hi
    obtain ⟨i', hi', _⟩ := inl hi
    exact h.offF i' g o hi'
  · intro i g o hi
    obtain ⟨i', hi', _⟩ := inl hi
    exact h.new i' g o hi'
  · intro i g o hi
    obtain ⟨i', hi', _⟩ := inl hi
    exact h.lt i' g o hi'
theorem Stand.keep {Γ : Ctx} {F F' : Foot} {w w' : World} {ρ : Names} {fam : Fam} {s : St} {tm : Array Value} (h : Stand Γ F w ρ fam s tm) (hx : Ext w w') (hF : F.Sub F')
    (hs : Same w w' F) (hb : ∀ i, Same w w' (fam i)) (hoff : ∀ i, (fam i).Off F') : Stand Γ F' w' ρ fam s tm where
  tm t := (h.tm t).keep hx hF hs (fun _ _ h => h) (hb _) (Foot.Sub.refl _)
  nm := h.nm
  bl id x r h1 h2 := (h.bl id x r h1 h2).keep hx hF hs x (fun _ _ h => h) (hb (.b id)) (Foot.Sub.refl _)
  off := h.off
  offF := hoff
  new := h.new
  lt i g o hi := Nat.lt_of_lt_of_le (h.lt i g o hi) hx.size
  pn := h.pn
end Go.Vm
end
section
namespace Go.Vm
open Go
section inv
variable {F : Foot} {w : World} {ρ : Names} {v : Value} {fp : Foot}
theorem inv_int {k : IntKind} {n : Int} (h : RelV F w ρ (.int k n) v fp) : v = .int k n := by simpa [RelV, Rel1, RelT, V.agg] using h
theorem inv_bool {b : Bool} (h : RelV F w ρ (.bool b) v fp) : v = .bool b := by simpa [RelV, Rel1, RelT, V.agg] using h
theorem inv_str {s : ByteArray} (h : RelV F w ρ (.str s) v fp) : v = .string s := by simpa [RelV, Rel1, RelT, V.agg] using h
theorem inv_nili (h : RelV F w ρ .nili v fp) : v = .nilIface := by simpa [RelV, Rel1, RelT, V.agg] using h
theorem inv_ptr {id : Id} {p : List Sel} (h : RelV F w ρ (.ptr id p) v fp) : ∃ g o, ρ id = some (g, o) ∧ pathOk p ∧ v = .pointer (some ⟨g, o + pathOff p, none⟩) := by
  simpa [RelV, Rel1, RelT, V.agg] using h
theorem inv_vp {x : V} (h : RelV F w ρ (.vp x) v fp) : ∃ g o xs, v = .pointer (some ⟨g, o, none⟩) ∧ RelT F w noNames x xs none_ ∧ Reads w g o xs ∧ ∀ j, j < xs.length → F g (o + j) := by
  simpa [RelV, Rel1, RelT, V.agg] using h
theorem inv_sl {tok : Option TypeId} {s n : Nat} {nil : Bool} {get : Nat → V} (h : RelV F w ρ (.sl tok s nil n get) v fp) : ∃ A c, v = .slice A n c ∧ n ≤ c ∧ c ≤ maxLen ∧ (nil = true → A = none ∧ n = 0 ∧ c = 0) ∧
      (nil = false → ∃ g o q, A = some ⟨g, o, q⟩ ∧ (q = none ∨ c = 0) ∧ (∀ e, tok = some e → Spare w fp e s n g o c) ∧
        ∀ i, i < n → ∃ xs, xs.length = s ∧ RelT F w noNames (get i) xs none_ ∧ Reads w g (o + i * s) xs ∧ ∀ j, j < s → F g (o + i * s + j)) := by
  have h' := h.2 rfl
  simp only [RelT] at h'
  obtain ⟨A, c, h1, h2⟩ := h'
  exact ⟨A, c, by simpa using h1, h2⟩
theorem inv_own {id : Id} {p : List Sel} {s N off len : Nat} (h : RelV F w ρ (.own id p s N off len) v fp) : ∃ g o c A, ρ id = some (g, o) ∧ pathOk p ∧ v = .slice A len c ∧ len ≤ c ∧ c ≤ maxLen ∧ off + len ≤ N ∧
      (0 < len → A = some ⟨g, o + pathOff p + off * s, none⟩) := by
  simpa [RelV, Rel1, RelT, V.agg] using h
theorem inv_lent {id : Id} {e : TypeId} {s n : Nat} {nil : Bool} (h : RelV F w ρ (.lent id e s nil n) v fp) : ∃ g o A c, ρ id = some (g, o) ∧ v = .slice A n c ∧ n ≤ c ∧ c ≤ maxLen ∧ (nil = true → A = none ∧ n = 0 ∧ c = 0) ∧
      (nil = false → A = some ⟨g, o, none⟩ ∧ Spare w (spareFoot g o s n c) e s n g o c ∧ (spareFoot g o s n c).Sub fp) := by
  have h' : RelT F w ρ (.lent id e s nil n) [v] fp := by simpa [RelV, Rel1, V.agg] using h
  simp only [RelT] at h'
  obtain ⟨g, o, A, c, h1, h2, h3⟩ := h'
  exact ⟨g, o, A, c, h1, by simpa using h2, h3⟩
theorem inv_osl {e : TypeId} {s n : Nat} {nil : Bool} {get : Nat → V} (h : RelV F w ρ (.osl e s nil n get) v fp) : ∃ A c, v = .slice A n c ∧ n ≤ c ∧ c ≤ maxLen ∧ RelT F w ρ (.osl e s nil n get) [v] fp := by
  have h' : RelT F w ρ (.osl e s nil n get) [v] fp := by simpa [RelV, Rel1, V.agg] using h
  have h0 := h'
  simp only [RelT] at h'
  obtain ⟨A, c, h1, h2, h3, _⟩ := h'
  exact ⟨A, c, by simpa using h1, h2, h3, h0⟩
theorem inv_fn {f : FuncId} {c : V} (h : RelV F w ρ (.fn f c) v fp) : ∃ xs, v = .func (.func f) #[] xs.toArray ∧ RelT F w ρ c xs none_ := by
  simpa [RelV, Rel1, RelT, V.agg] using h
theorem inv_agg {x : V} (h : RelV F w ρ x v fp) (ha : x.agg = true) : ∃ cs, v = .agg cs.toArray ∧ RelT F w ρ x cs fp := by
  cases x <;> simp [V.agg] at ha <;> exact h.1 rfl
theorem inv_leaf {x : V} (h : RelV F w ρ x v fp) (ha : x.agg = false) (ho : x.one = true) : RelT F w ρ x [v] fp := (h.one ho).2 ha
theorem rel_one {x : V} {cs : List Value} (h : RelT F w ρ x cs fp) (ho : x.one = false) : x = .undef := by
  cases x <;> simp_all [V.one, RelT]
theorem Rel1.unknown {x : V} (h : Rel1 F w ρ x v fp) (ho : x.one = false) : x = .undef :=
  rel_one (h.2 (by cases x <;> simp_all [V.one, V.agg])) ho
end inv
section
variable {P : Program} {F : Foot} {w : World} {ρ : Names}
theorem val_int (k : IntKind) (n : Int) : RelV F w ρ (.int k n) (.int k n) none_ := ⟨nofun, fun _ => rfl⟩
theorem val_bool (b : Bool) : RelV F w ρ (.bool b) (.bool b) none_ := ⟨nofun, fun _ => rfl⟩
theorem val_str (s : ByteArray) : RelV F w ρ (.str s) (.string s) none_ := ⟨nofun, fun _ => rfl⟩
theorem val_leaf {x : V} {v : Value} {fp : Foot} (h : RelT F w ρ x [v] fp) (ha : x.agg = false) (ho : x.one = true) : RelV F w ρ x v fp :=
  Rel1.val ⟨(fun h' => by rw [ha] at h'; cases h'), fun _ => h⟩ ho
theorem val_agg {x : V} {cs : List Value} {fp : Foot} (h : RelT F w ρ x cs fp) (ha : x.agg = true) : RelV F w ρ x (.agg cs.toArray) fp :=
  Rel1.val ⟨fun _ => ⟨cs, rfl, h⟩, fun h' => by rw [ha] at h'; cases h'⟩ (by cases x <;> simp_all [V.agg, V.one])
theorem constV_rel (v : Value) : RelV F w ρ (constV v) v none_ := by
  unfold constV
  split <;> first
    | exact val_int _ _
    | exact val_bool _
    | exact val_str _
    | trivial
    | exact ⟨nofun, fun _ => ⟨none, 0, rfl, Nat.le_refl _, Nat.zero_le _, fun _ => ⟨rfl, rfl, rfl⟩, nofun⟩⟩
    | exact ⟨nofun, fun _ => rfl⟩
def opFoot (fam : Fam) : Operand → Foot
  | .tmp t => fam (.t t)
  | _ => none_
theorem evalV_rel {Γ : Ctx} {fam : Fam} {s : St} {a : Act} (h : Stand Γ F w ρ fam s a.tmps) (x : Operand) : RelV F w ρ (evalV s.tm x) (a.eval x) (opFoot fam x) := by
  cases x with
  | tmp t => exact h.tm t
  | const v => exact constV_rel v
  | global g => trivial
  | func f => exact ⟨nofun, fun _ => ⟨[], rfl, rfl⟩⟩
def ValOK (P : Program) (F : Foot) (w : World) (ρ : Names) (fam : Fam) (a : Act) (o : Oper) (e : Eff) : Prop :=
  ∃ v fr, (execOp a.eval o).run P w = .ok (.value v) w ∧ RelV F w ρ e.res v fr ∧ fr.Sub (sumT fam e.take)
theorem takeOf_sub {fam : Fam} {x : Operand} {v : V} {val : Value} {ρ : Names} (h : RelV F w ρ v val (opFoot fam x)) : ∃ fr, RelV F w ρ v val fr ∧ fr.Sub (sumT fam (takeOf x v)) := by
  unfold takeOf
  cases hv : v.owns
  · exact ⟨none_, h.unowned hv, Foot.none_sub _⟩
  · refine ⟨opFoot fam x, h, ?_⟩
    cases x with
    | tmp t => exact fun g o hg => ⟨t, by simp [slotOf], hg⟩
    | _ => exact Foot.none_sub _
variable {Γ : Ctx} {fam : Fam} {s : St} {a : Act} {o : Oper} (hs : Stand Γ F w ρ fam s a.tmps)
include hs
theorem sound_take {x : Operand} {e : Eff} (ho : o.op = .move x ∨ o.op = .assign x) (he : e = { res := evalV s.tm x, take := takeOf x (evalV s.tm x) }) : ValOK P F w ρ fam a o e := by
  obtain ⟨fr, h1, h2⟩ := takeOf_sub (evalV_rel hs x)
  subst he
  refine ⟨a.eval x, fr, ?_, h1, h2⟩
  rcases ho with ho | ho <;> simp [execOp, ho]
theorem sound_copy {x : Operand} {e : Eff} (ho : o.op = .move x) (he : e = { res := copyOf (evalV s.tm x) }) : ValOK P F w ρ fam a o e := by
  subst he
  refine ⟨a.eval x, none_, by simp [execOp, ho], ?_, Foot.none_sub _⟩
  rw [copyOf_eq]
  exact (evalV_rel hs x).demote
def KnOK (kn : Nat → Option Bool) (tm : Nat → V) : Prop := ∀ t b, kn t = some b → tm t = .bool b
theorem sound_pick {kn : Nat → Option Bool} (hk : KnOK kn s.tm) {pol : Nat → Nat} {c : Nat} {x y : Operand} {e : Eff} (ho : o.op = .pick (.tmp c) x y) (h : opW P pol kn o s = some e) : ValOK P F w ρ fam a o e := by
  simp only [opW, ho] at h
  have hc := evalV_rel hs (.tmp c)
  simp only [evalV] at hc
  have hcopy : ∀ z : Operand, RelV F w ρ (copyOf (evalV s.tm z)) (a.eval z) none_ := fun z => by rw [copyOf_eq]; exact (evalV_rel hs z).demote
  split at h
  · rename_i hkc
    obtain rfl := Option.some.inj h
    rw [hk _ _ hkc] at hc
    exact ⟨a.eval x, none_, by simp [execOp, ho, inv_bool hc, asBool], hcopy x, Foot.none_sub _⟩
  · rename_i hkc
    obtain rfl := Option.some.inj h
    rw [hk _ _ hkc] at hc
    exact ⟨a.eval y, none_, by simp [execOp, ho, inv_bool hc, asBool], hcopy y, Foot.none_sub _⟩
  · have hx := evalV_rel hs x
    have hy := evalV_rel hs y
    split at h
    · rename_i d p q e1 e2 e3
      obtain rfl := Option.some.inj h
      rw [e1] at hc; rw [e2] at hx; rw [e3] at hy
      refine ⟨.bool (cond d p q), none_, ?_, val_bool _, Foot.none_sub _⟩
      cases d <;> simp [execOp, ho, inv_bool hc, inv_bool hx, inv_bool hy, asBool]
    · rename_i d k p k' q e1 e2 e3
      rw [e1] at hc; rw [e2] at hx; rw [e3] at hy
      cases hkk : k == k' <;> rw [hkk] at h <;> simp at h
      obtain rfl := h
      obtain rfl : k = k' := by simpa using hkk
      refine ⟨.int k (cond d p q), none_, ?_, val_int _ _, Foot.none_sub _⟩
      cases d <;> simp [execOp, ho, inv_bool hc, inv_int hx, inv_int hy, asBool]
    · cases h
theorem sound_nilCheck {kn : Nat → Option Bool} {pol : Nat → Nat} {x : Operand} {e : Eff} (ho : o.op = .nilCheck x) (h : opW P pol kn o s = some e) : ValOK P F w ρ fam a o e := by
  simp only [opW, ho] at h
  have hx := evalV_rel hs x
  split at h <;> (try cases h)
  · rename_i id p e1
    rw [e1] at hx
    obtain ⟨g, of, h1, h2, h3⟩ := inv_ptr hx
    rw [h3] at hx
    exact ⟨_, none_, by simp [execOp, ho, h3], hx.demote, Foot.none_sub _⟩
  · rename_i y e1
    rw [e1] at hx
    obtain ⟨g, of, xs, h1, h2⟩ := inv_vp hx
    rw [h1] at hx
    exact ⟨_, none_, by simp [execOp, ho, h1], hx.demote, Foot.none_sub _⟩
  · rename_i f c e1
    rw [e1] at hx
    obtain ⟨xs, h1, h2⟩ := inv_fn hx
    rw [h1] at hx
    exact ⟨_, none_, by simp [execOp, ho, h1], ⟨nofun, fun _ => ⟨xs, rfl, h2⟩⟩, Foot.none_sub _⟩
end
end Go.Vm
end
section
namespace Go.Vm
open Go
theorem Foot.sub_left (f g : Foot) : f.Sub (f.or g) := fun _ _ h => .inl h
theorem Foot.sub_right (f g : Foot) : g.Sub (f.or g) := fun _ _ h => .inr h
theorem Foot.or_sub {f g h : Foot} (a : f.Sub h) (b : g.Sub h) : (f.or g).Sub h := fun x y k => k.elim (a x y) (b x y)
theorem Foot.or_off {f g h : Foot} (a : f.Off h) (b : g.Off h) : (f.or g).Off h := fun x y k => k.elim (a x y) (b x y)
structure Later (F : Foot) (w : World) (ρ : Names) (F' : Foot) (w' : World) (ρ' : Names) : Prop where
  ext : Ext w w'
  sub : F.Sub F'
  same : Same w w' F
  le : ρ.Le ρ'
theorem Later.refl (F : Foot) (w : World) (ρ : Names) : Later F w ρ F w ρ := ⟨Ext.refl w, Foot.Sub.refl F, fun _ _ _ => rfl, fun _ _ h => h⟩
theorem RelT.later {F F' : Foot} {w w' : World} {ρ ρ' : Names} (L : Later F w ρ F' w' ρ') {x : V} {cs : List Value} {fp : Foot} (hsf : Same w w' fp) (h : RelT F w ρ x cs fp) : RelT F' w' ρ' x cs fp :=
  h.keep L.ext L.sub L.same x L.le hsf (Foot.Sub.refl _)
structure Part (F : Foot) (w : World) (ρ : Names) (cs : List Value) (fp : Foot) (at_ : Nat) (z : V) (re : V → V → Prop) where
  pre : List Value
  zs : List Value
  post : List Value
  f1 : Foot
  f2 : Foot
  eq : cs = pre ++ zs ++ post
  len : pre.length = at_
  rel : RelT F w ρ z zs f1
  off : f1.Off f2
  sub1 : f1.Sub fp
  sub2 : f2.Sub fp
  put : ∀ {F' : Foot} {w' : World} {ρ' : Names}, Later F w ρ F' w' ρ' → Same w w' f2 → ∀ z' zs' f', RelT F' w' ρ' z' zs' f' → z'.size = z.size → f'.Off f2 → ∃ x', re z' x' ∧ ∀ fp', f'.Sub fp' → f2.Sub fp' → RelT F' w' ρ' x' (pre ++ zs' ++ post) fp'
theorem nth_part {F : Foot} {w : World} {ρ : Names} : ∀ (x : V) (j : Nat) {z : V} {cs : List Value} {fp : Foot}, RelT F w ρ x cs fp → x.nth j = some z →
    Nonempty (Part F w ρ cs fp (x.fldOff j) z fun z' x' => x.setNth j z' = some x') := by
  intro x
  induction x with
  | cons y r _ ihr =>
    intro j z cs fp h hz
    simp only [RelT] at h
    obtain ⟨a, b, fa, fb, h1, h2, h3, h4, h5, h6⟩ := h
    cases j with
    | zero =>
      simp only [V.nth, Option.some.injEq] at hz
      subst hz
      refine ⟨{ pre := [], zs := a, post := b, f1 := fa, f2 := fb, eq := by simpa using h1, len := rfl, rel := h2, off := h6, sub1 := h4, sub2 := h5, put := ?_ }⟩
      intro F' w' ρ' L hS z' zs' f' hr _ ho
      exact ⟨_, rfl, fun fp' k1 k2 => ⟨zs', b, f', fb, by simp, hr, h3.later L hS, k1, k2, ho⟩⟩
    | succ j =>
      simp only [V.nth] at hz
      obtain ⟨p⟩ := ihr j h3 hz
      refine ⟨{ pre := a ++ p.pre, zs := p.zs, post := p.post, f1 := p.f1, f2 := fa.or p.f2, eq := h1.trans ((congrArg (a ++ ·) p.eq).trans (by simp)), len := ?_, rel := p.rel,
                off := ?_, sub1 := p.sub1.trans h5, sub2 := Foot.or_sub h4 (p.sub2.trans h5), put := ?_ }⟩
      · rw [List.length_append, h2.length, p.len]; rfl
      · exact (Foot.or_off (h6.mono (Foot.Sub.refl _) p.sub1) p.off.symm).symm
      · intro F' w' ρ' L hS z' zs' f' hr hsz ho
        obtain ⟨x', hx', hrel⟩ := p.put L (fun g o hg => hS g o (.inr hg)) z' zs' f' hr hsz (ho.mono (Foot.Sub.refl _) (Foot.sub_right _ _))
        refine ⟨.cons y x', by simp only [V.setNth, hx', Option.map_some], fun fp' k1 k2 => ?_⟩
        refine ⟨a, p.pre ++ zs' ++ p.post, fa, f'.or p.f2, by simp, h2.later L (fun g o hg => hS g o (.inl hg)), hrel _ (Foot.sub_left _ _) (Foot.sub_right _ _), (Foot.sub_left _ _).trans k2, Foot.or_sub k1 ((Foot.sub_right _ _).trans k2), ?_⟩
        refine (Foot.or_off ?_ ?_).symm
        · exact ho.mono (Foot.Sub.refl _) (Foot.sub_left _ _)
        · exact (h6.mono (Foot.Sub.refl _) p.sub2).symm
  | _ => intro j z cs fp h hz; simp [V.nth] at hz
theorem flatMap_split (f : Nat → List Value) {i n : Nat} (h : i < n) : (List.range n).flatMap f = (List.range i).flatMap f ++ f i ++ (List.range' (i + 1) (n - (i + 1))).flatMap f := by
  have : List.range n = List.range i ++ [i] ++ List.range' (i + 1) (n - (i + 1)) := by
    have e : n = i + (1 + (n - (i + 1))) := by omega
    conv => lhs; rw [e, List.range_eq_range', ← List.range'_append_1, ← List.range'_append_1]
    simp [List.range_eq_range', Nat.zero_add]
  rw [this, List.flatMap_append, List.flatMap_append]
  simp
theorem flatMap_congr' {f g : Nat → List Value} {l : List Nat} (h : ∀ i ∈ l, f i = g i) : l.flatMap f = l.flatMap g := by
  induction l with
  | nil => rfl
  | cons a l ih => rw [List.flatMap_cons, List.flatMap_cons, h a (by simp), ih (fun i hi => h i (by simp [hi]))]
theorem arr_part {F : Foot} {w : World} {ρ : Names} {s n i : Nat} {get : Nat → V} (hi : i < n) {cs : List Value} {fp : Foot} (h : RelT F w ρ (.arr s n get) cs fp) :
    Nonempty (Part F w ρ cs fp (i * s) (get i) fun z' x' => x' = .arr s n fun j => cond (Nat.beq j i) z' (get j)) := by
  simp only [RelT] at h
  obtain ⟨f, fs, h1, h2, h3⟩ := h
  refine ⟨{ pre := (List.range i).flatMap f, zs := f i, post := (List.range' (i + 1) (n - (i + 1))).flatMap f, f1 := fs i, f2 := fun g o => ∃ j, j < n ∧ j ≠ i ∧ fs j g o,
            eq := by rw [h3, flatMap_split f hi], len := flatMap_length i (fun j hj => (h1 j (by omega)).1), rel := (h1 i hi).2.1, off := ?_, sub1 := (h1 i hi).2.2, sub2 := ?_, put := ?_ }⟩
  · rintro g o k ⟨j, hj, hne, hk⟩
    exact h2 i j hi hj (Ne.symm hne) g o k hk
  · rintro g o ⟨j, hj, _, hk⟩
    exact (h1 j hj).2.2 g o hk
  · intro F' w' ρ' L hS z' zs' f' hr hsz ho
    refine ⟨_, rfl, fun fp' k1 k2 => ?_⟩
    have hl : zs'.length = s := by rw [hr.length, hsz, ← (h1 i hi).2.1.length, (h1 i hi).1]
    have beq_i : Nat.beq i i = true := by simp
    have beq_ne : ∀ {j}, j ≠ i → Nat.beq j i = false := fun {j} hne => by
      cases hb : Nat.beq j i
      · rfl
      · exact absurd (Nat.eq_of_beq_eq_true hb) hne
    refine ⟨fun j => if j = i then zs' else f j, fun j => if j = i then f' else fs j, fun j hj => ?_, fun j k hj hk hjk => ?_, ?_⟩
    · by_cases e : j = i
      · subst e; simp only [if_true, beq_i, cond_true]; exact ⟨hl, hr, k1⟩
      · simp only [e, if_false, beq_ne e, cond_false]
        exact ⟨(h1 j hj).1, (h1 j hj).2.1.later L (fun g o hg => hS g o ⟨j, hj, e, hg⟩), fun g o hg => k2 g o ⟨j, hj, e, hg⟩⟩
    · by_cases e : j = i
      · subst e
        have : k ≠ j := Ne.symm hjk
        simp only [if_true, this, if_false]
        exact fun g o a b => ho g o a ⟨k, hk, this, b⟩
      · by_cases e' : k = i
        · subst e'
          simp only [if_true, e, if_false]
          exact fun g o a b => ho g o b ⟨j, hj, e, a⟩
        · simp only [e, e', if_false]
          exact h2 j k hj hk hjk
    · rw [flatMap_split _ hi]
      simp only [if_true]
      congr 1
      · congr 1
        exact flatMap_congr' fun j hj => by
          have : j ≠ i := by have := List.mem_range.1 hj; omega
          simp [this]
      · exact flatMap_congr' fun j hj => by
          have : j ≠ i := by have := List.mem_range'_1.1 hj; omega
          simp [this]
theorem pathOk_cons {s : Sel} {p : List Sel} (h : pathOk (s :: p)) : selOk s ∧ pathOk p := ⟨h s (by simp), fun t ht => h t (by simp [ht])⟩
theorem nav_part {F : Foot} {w : World} {ρ : Names} : ∀ (p : List Sel) (x : V) {y : V} {cs : List Value} {fp : Foot}, pathOk p → x.fit p = true → RelT F w ρ x cs fp → x.nav p = some y →
    Nonempty (Part F w ρ cs fp (pathOff p) y fun y' x' => x.put p y' = some x') := by
  intro p
  induction p with
  | nil =>
    intro x y cs fp _ _ h hy
    simp only [V.nav, Option.some.injEq] at hy
    subst hy
    refine ⟨{ pre := [], zs := cs, post := [], f1 := fp, f2 := none_, eq := by simp, len := rfl, rel := h, off := Foot.off_none _, sub1 := Foot.Sub.refl _, sub2 := Foot.none_sub _, put := ?_ }⟩
    intro F' w' ρ' _ _ z' zs' f' hr hsz _
    refine ⟨z', by simp [V.put, hsz], fun fp' k1 _ => by simpa using hr.mono k1⟩
  | cons s p ih =>
    intro x y cs fp hp hft h hy
    obtain ⟨hs, hp⟩ := pathOk_cons hp
    have step : ∀ (at_ : Nat) (z : V) (re : V → V → Prop), Nonempty (Part F w ρ cs fp at_ z re) → z.fit p = true → z.nav p = some y → selOff s = at_ →
        (∀ y' z' x', z.put p y' = some z' → re z' x' → z'.size = z.size → x.put (s :: p) y' = some x') →
        Nonempty (Part F w ρ cs fp (pathOff (s :: p)) y fun y' x' => x.put (s :: p) y' = some x') := by
      rintro at_ z re ⟨q⟩ hzf hz hat hput
      obtain ⟨r⟩ := ih z hp hzf q.rel hz
      refine ⟨{ pre := q.pre ++ r.pre, zs := r.zs, post := r.post ++ q.post, f1 := r.f1, f2 := r.f2.or q.f2, eq := q.eq.trans ((congrArg (fun z => q.pre ++ z ++ q.post) r.eq).trans (by simp)), len := ?_, rel := r.rel,
                off := ?_, sub1 := r.sub1.trans q.sub1, sub2 := Foot.or_sub (r.sub2.trans q.sub1) q.sub2, put := ?_ }⟩
      · rw [List.length_append, q.len, r.len, ← hat]; rfl
      · exact (Foot.or_off r.off.symm (q.off.symm.mono (Foot.Sub.refl _) r.sub1)).symm
      · intro F' w' ρ' L hS y' ys' f' hr hsz ho
        obtain ⟨z', hz', hrel⟩ := r.put L (fun g o hg => hS g o (.inl hg)) y' ys' f' hr hsz (ho.mono (Foot.Sub.refl _) (Foot.sub_left _ _))
        have hzrel := hrel (f'.or r.f2) (Foot.sub_left _ _) (Foot.sub_right _ _)
        have hlen : z'.size = z.size := by
          have e1 := q.rel.length
          have e2 := congrArg List.length r.eq
          have e3 := hzrel.length
          simp only [List.length_append] at e2 e3
          have e4 := hr.length
          have e5 := r.rel.length
          omega
        obtain ⟨x', hx', hxrel⟩ := q.put L (fun g o hg => hS g o (.inr hg)) z' _ _ hzrel hlen (Foot.or_off (ho.mono (Foot.Sub.refl _) (Foot.sub_right _ _)) (q.off.mono r.sub2 (Foot.Sub.refl _)))
        refine ⟨x', hput y' z' x' hz' hx' hlen, fun fp' k1 k2 => ?_⟩
        have := hxrel fp' (Foot.or_sub k1 ((Foot.sub_left _ _).trans k2)) ((Foot.sub_right _ _).trans k2)
        simpa using this
    cases s with
    | fld j d =>
      simp only [V.nav] at hy
      cases hd : Nat.beq (x.fldOff j) d
      · rw [hd] at hy; cases hy
      · rw [hd, cond_true] at hy
        cases hn : x.nth j with
        | none => rw [hn] at hy; cases hy
        | some z =>
          rw [hn] at hy
          refine step _ z _ (nth_part x j h hn) (by simpa only [V.fit, hn] using hft) hy (by simp only [selOff]; exact (Nat.eq_of_beq_eq_true hd).symm) ?_
          intro y' z' x' h1 h2 _
          simp only [V.put, hd, cond_true, hn, h1, h2]
    | idx s' n' i =>
      cases x with
      | arr s n get =>
        simp only [V.nav] at hy
        cases hb : Nat.beq s s'
        · rw [hb] at hy; cases hy
        · rw [hb, cond_true] at hy
          simp only [V.fit, Bool.and_eq_true] at hft
          obtain rfl := Nat.eq_of_beq_eq_true hb
          obtain rfl := Nat.eq_of_beq_eq_true hft.1
          refine step _ _ _ (arr_part (i := i) hs h) hft.2 hy rfl ?_
          intro y' z' x' h1 h2 _
          simp only [V.put, hb, cond_true, h1, h2, V.mix_eq]
      | _ => simp [V.nav] at hy
theorem Reads.part {w : World} {g o : Nat} {a b c : List Value} (h : Reads w g o (a ++ b ++ c)) : Reads w g (o + a.length) b := by
  intro j u hu
  rw [Nat.add_assoc]
  have hj := (List.getElem?_eq_some_iff.1 hu).1
  refine h (a.length + j) u ?_
  rw [List.append_assoc, List.getElem?_append_right (by omega), Nat.add_sub_cancel_left, List.getElem?_append_left hj]
  exact hu
end Go.Vm
end
section
namespace Go.Vm
open Go
theorem pathOff_append (p q : List Sel) : pathOff (p ++ q) = pathOff p + pathOff q := by
  induction p with
  | nil => simp [pathOff]
  | cons s p ih => simp [pathOff, ih, Nat.add_assoc]
theorem pathOk_append {p q : List Sel} (h : pathOk p) (k : pathOk q) : pathOk (p ++ q) := fun s hs => by
  rcases List.mem_append.1 hs with hs | hs
  · exact h s hs
  · exact k s hs
theorem pathOk_one {s : Sel} (h : selOk s) : pathOk [s] := fun t ht => by
  obtain rfl := List.mem_singleton.1 ht
  exact h
theorem add_addr (g o n : Nat) : (⟨g, o, none⟩ : Addr).add n = ⟨g, o + n, none⟩ := by
  unfold Addr.add
  split
  · rename_i h; subst h; rfl
  · rfl
theorem rti {P : Program} {w : World} {t : TypeId} {i : TypeInfo} (h : P.info? t = some i) : (typeInfo t).run P w = .ok i w := run_typeInfo w h
theorem cond_some {α : Type} {b : Bool} {x : Option α} {y : α} (h : cond b x none = some y) : b = true ∧ x = some y := by
  cases b
  · cases h
  · exact ⟨rfl, h⟩
section
variable {P : Program} {F : Foot} {w : World} {ρ : Names}
variable {Γ : Ctx} {fam : Fam} {s : St} {a : Act} {o : Oper} {kn : Nat → Option Bool} {pol : Nat → Nat} {e : Eff}
theorem val_ptr {id : Id} {p : List Sel} {g of : Nat} (h : ρ id = some (g, of)) (hp : pathOk p) : RelV F w ρ (.ptr id p) (.pointer (some ⟨g, of + pathOff p, none⟩)) none_ :=
  ⟨nofun, fun _ => ⟨g, of, h, hp, rfl⟩⟩
theorem val_vp {x : V} {xs : List Value} {g of : Nat} (h : RelT F w noNames x xs none_) (hr : Reads w g of xs) (hF : ∀ j, j < xs.length → F g (of + j)) : RelV F w ρ (.vp x) (.pointer (some ⟨g, of, none⟩)) none_ :=
  ⟨nofun, fun _ => ⟨g, of, xs, rfl, h, hr, hF⟩⟩
theorem noName {x : V} : ∀ {cs : List Value} {fp : Foot}, RelT F w noNames x cs fp → RelT F w ρ x cs fp :=
  fun h => RelT.keep (Ext.refl w) (Foot.Sub.refl _) (fun _ _ _ => rfl) x (fun _ _ h => by cases h) (fun _ _ _ => rfl) (Foot.Sub.refl _) h
theorem sound_fieldAddr (hs : Stand Γ F w ρ fam s a.tmps) {t : TypeId} {x : Operand} {j : Nat} (ho : o.op = .fieldAddr t x j) (h : opW P pol kn o s = some e) : ValOK P F w ρ fam a o e := by
  simp only [opW, ho] at h
  have hx := evalV_rel hs x
  split at h <;> (try cases h)
  rename_i fs hu
  split at h <;> (try cases h)
  rename_i f hf
  split at h <;> (try cases h)
  rename_i i hi
  cases hz : Nat.beq i.size 0
  · rw [hz, cond_false] at h
    have hz' : i.size ≠ 0 := fun e => by rw [e] at hz; cases hz
    have hrun : ∀ g of, a.eval x = .pointer (some ⟨g, of, none⟩) → (execOp a.eval o).run P w = .ok (.value (.pointer (some ⟨g, of + f.offset, none⟩))) w := by
      intro g of hv
      simp [execOp, ho, hv, Instr.fieldAt, run_underlying hu, hf, Instr.sureAddr, fieldPlace, Go.sizeOf, rti hi, hz', add_addr]
    split at h <;> (try cases h)
    · rename_i id p hev
      rw [hev] at hx
      obtain ⟨g, of, h1, h2, h3⟩ := inv_ptr hx
      refine ⟨_, none_, hrun g _ h3, ?_, Foot.none_sub _⟩
      have := val_ptr (F := F) (w := w) (p := p ++ [.fld j f.offset]) h1 (pathOk_append h2 (pathOk_one (s := .fld j f.offset) trivial))
      rw [pathOff_append] at this
      simpa [pathOff, selOff, Nat.add_assoc] using this
    · rename_i y hev
      rw [hev] at hx
      obtain ⟨g, of, xs, h1, h2, h3, h4⟩ := inv_vp hx
      obtain ⟨hb, h⟩ := cond_some h
      have hb := Nat.eq_of_beq_eq_true hb
      split at h <;> (try cases h)
      rename_i z hn
      obtain ⟨q⟩ := nth_part y j h2 hn
      have hxs := q.eq
      have hz2 : RelT F w noNames z q.zs none_ := q.rel.mono (fun g o hg => q.sub1 g o hg)
      refine ⟨_, none_, hrun g _ h1, ?_, Foot.none_sub _⟩
      rw [hxs] at h3
      have hl := q.len
      rw [← hb, ← hl]
      refine val_vp hz2 h3.part fun k hk => ?_
      have := h4 (q.pre.length + k) (by have := congrArg List.length hxs; simp only [List.length_append] at this; omega)
      rwa [← Nat.add_assoc] at this
  · rw [hz] at h; cases h
theorem fits_agg {t : TypeId} {x : V} (h : fits P t x = true) : ∃ d i, P.underlying t = some d ∧ P.info? t = some i ∧ i.size = x.size ∧ aggDesc d = x.agg ∧ x.one = true := by
  unfold fits infoOf at h
  split at h
  · rename_i a n heq
    split at heq
    · rename_i d i h1 h2
      simp only [Option.some.injEq, Prod.mk.injEq] at heq
      obtain ⟨rfl, rfl⟩ := heq
      simp only [Bool.and_eq_true, beq_iff_eq] at h
      exact ⟨d, i, h1, h2, (Nat.eq_of_beq_eq_true h.2.2).symm, h.2.1.symm, h.1⟩
    · cases heq
  · cases h
theorem run_aggDesc {t : TypeId} {d : TypeDesc} (hu : P.underlying t = some d) : (isAgg t).run P w = .ok (aggDesc d) w := by
  unfold isAgg
  simp only [Sem.run_bind, run_underlying hu, Result.andThen_ok]
  cases d <;> rfl
theorem run_loadVar_part {t : TypeId} {x : V} (hf : fits P t x = true) {g of : Nat} {xs : List Value} {fp : Foot} (hx : RelT F w ρ x xs fp) (hr : Reads w g of xs) :
    ∃ v, (loadVar t ⟨g, of, none⟩).run P w = .ok v w ∧ RelV F w ρ x v fp := by
  obtain ⟨d, i, h1, h2, h3, h4, hone⟩ := fits_agg hf
  have hl := hx.length
  unfold loadVar
  simp only [Sem.run_bind, run_aggDesc h1, Result.andThen_ok, h4]
  cases ha : x.agg
  · have hsz : x.size = 1 := by cases x <;> simp_all [V.agg, V.size]
    obtain ⟨v, rfl⟩ : ∃ v, xs = [v] := List.length_eq_one_iff.1 (hl.trans hsz)
    refine ⟨v, ?_, val_leaf hx ha hone⟩
    have hc := hr 0 v rfl
    simp only [Nat.add_zero] at hc
    simp [load, Sem.run, hc]
  · refine ⟨.agg xs.toArray, ?_, val_agg hx ha⟩
    have hc : ∀ j v, xs[j]? = some v → w.cell? ((⟨g, of, none⟩ : Addr).add j) = some v := fun j v hj => by rw [add_addr]; exact hr j v hj
    have := run_loadCells_list (P := P) (w := w) ⟨g, of, none⟩ xs hc
    simp [Go.sizeOf, rti h2, h3, ← hl, this]
theorem loadVar_leaf {t : TypeId} {x : V} (hf : fits P t x = true) {g of : Nat} {xs : List Value} {fp : Foot} (hx : RelT F w ρ x xs fp) (hr : Reads w g of xs) (ha : x.agg = false) {v : Value}
    (hv : (loadVar t ⟨g, of, none⟩).run P w = .ok v w) : xs = [v] := by
  obtain ⟨d, i, h1, h2, h3, h4, hone⟩ := fits_agg hf
  have hl := hx.length
  unfold loadVar at hv
  simp only [Sem.run_bind, run_aggDesc h1, Result.andThen_ok, h4, ha] at hv
  have hsz : x.size = 1 := by cases x <;> simp_all [V.agg, V.size]
  obtain ⟨u, rfl⟩ : ∃ v, xs = [v] := List.length_eq_one_iff.1 (hl.trans hsz)
  have hc := hr 0 u rfl
  simp only [Nat.add_zero] at hc
  simp [load, Sem.run, hc] at hv
  rw [hv]
theorem sound_loadVp (hs : Stand Γ F w ρ fam s a.tmps) {t : TypeId} {x : Operand} {y : V} (ho : o.op = .load t x) (hev : evalV s.tm x = .vp y) (hf : fits P t y = true) (he : e = { res := y }) : ValOK P F w ρ fam a o e := by
  subst he
  have hx := evalV_rel hs x
  rw [hev] at hx
  obtain ⟨g, of, xs, h1, h2, h3, h4⟩ := inv_vp hx
  obtain ⟨v, hv, hrel⟩ := run_loadVar_part (ρ := ρ) hf (noName h2) h3
  refine ⟨v, none_, ?_, hrel, Foot.none_sub _⟩
  simp [execOp, ho, h1, Instr.loadAt, Instr.sureAddr, hv]
theorem inb_iff (i : Int) (n : Nat) : inb i n = true ↔ 0 ≤ i ∧ i < (n : Int) := by simp [inb]
theorem upto_iff (i : Int) (n : Nat) : upto i n = true ↔ 0 ≤ i ∧ i ≤ (n : Int) := by simp [upto]
theorem sound_indexAddr (hs : Stand Γ F w ρ fam s a.tmps) {t : TypeId} {x ix : Operand} (ho : o.op = .indexAddr t x ix) (h : opW P pol kn o s = some e) (hn : e.need = true) : ValOK P F w ρ fam a o e := by
  simp only [opW, ho] at h
  have hx := evalV_rel hs x
  have hi := evalV_rel hs ix
  split at h <;> (try cases h)
  · rename_i n el id p k i hu hev hei
    rw [hev] at hx; rw [hei] at hi
    split at h <;> (try cases h)
    rename_i f hf
    simp only [inb_iff] at hn
    obtain ⟨g, of, h1, h2, h3⟩ := inv_ptr hx
    have hi' := inv_int hi
    refine ⟨_, none_, ?_, val_ptr h1 (pathOk_append h2 (pathOk_one (s := .idx f.size n i.toNat) (by simp only [selOk]; omega))), Foot.none_sub _⟩
    rw [pathOff_append]
    simp [execOp, ho, h3, hi', Instr.indexAt, asIntOf, run_underlying hu, Instr.sureAddr, hn, Go.sizeOf, rti hf, add_addr, pathOff, selOff, Nat.add_assoc]
  · rename_i n el s' n' get k i hu hev hei
    rw [hev] at hx; rw [hei] at hi
    split at h <;> (try cases h)
    rename_i f hf
    obtain ⟨hb, h⟩ := cond_some h
    obtain rfl := Option.some.inj h
    simp only [Bool.and_eq_true] at hb
    have hb1 := Nat.eq_of_beq_eq_true hb.1
    obtain rfl := Nat.eq_of_beq_eq_true hb.2
    simp only [inb_iff] at hn
    obtain ⟨g, of, xs, h1, h2, h3, h4⟩ := inv_vp hx
    have hi' := inv_int hi
    obtain ⟨q⟩ := arr_part (i := i.toNat) (by omega) h2
    have hxs := q.eq
    rw [hxs] at h3
    have hl := q.len
    have hz2 : RelT F w noNames (get i.toNat) q.zs none_ := q.rel.mono (fun g o hg => q.sub1 g o hg)
    have hres : RelV F w ρ (.vp (get i.toNat)) (.pointer (some ⟨g, of + q.pre.length, none⟩)) none_ := by
      refine val_vp hz2 h3.part fun j hj => ?_
      have := h4 (q.pre.length + j) (by have := congrArg List.length hxs; simp only [List.length_append] at this; omega)
      rwa [← Nat.add_assoc] at this
    refine ⟨_, none_, ?_, hres, Foot.none_sub _⟩
    rw [hl]
    simp [execOp, ho, h1, hi', Instr.indexAt, asIntOf, run_underlying hu, Instr.sureAddr, hn, Go.sizeOf, rti hf, add_addr, hb1]
  · rename_i el tok s' nil n get k i hu hev hei
    rw [hev] at hx; rw [hei] at hi
    split at h <;> (try cases h)
    rename_i f hf
    obtain ⟨hb, h⟩ := cond_some h
    obtain rfl := Option.some.inj h
    have hb1 := Nat.eq_of_beq_eq_true hb
    simp only [inb_iff] at hn
    obtain ⟨A, c, h1, h2, h3, h4, h5⟩ := inv_sl hx
    have hi' := inv_int hi
    cases nil with
    | true => obtain ⟨_, rfl, _⟩ := h4 rfl; omega
    | false =>
      obtain ⟨g, of, q, rfl, hq, _, h7⟩ := h5 rfl
      obtain rfl : q = none := hq.resolve_right fun h => by omega
      obtain ⟨xs, k1, k2, k3, k4⟩ := h7 i.toNat (by omega)
      refine ⟨_, none_, ?_, val_vp (ρ := ρ) k2 k3 (by rw [k1]; exact k4), Foot.none_sub _⟩
      simp [execOp, ho, h1, hi', Instr.indexAt, asIntOf, run_underlying hu, hn, Go.sizeOf, rti hf, add_addr, hb1]
  · rename_i el id p s' N off len k i hu hev hei
    rw [hev] at hx; rw [hei] at hi
    split at h <;> (try cases h)
    rename_i f hf
    obtain ⟨hb, h⟩ := cond_some h
    obtain rfl := Option.some.inj h
    have hb1 := Nat.eq_of_beq_eq_true hb
    simp only [inb_iff] at hn
    obtain ⟨g, of, c, A, h1, h2, h3, h4, h5, h6, h7⟩ := inv_own hx
    obtain rfl := h7 (by omega)
    have hi' := inv_int hi
    refine ⟨_, none_, ?_, val_ptr h1 (pathOk_append h2 (pathOk_one (s := .idx s' N (off + i.toNat)) (by simp only [selOk]; omega))), Foot.none_sub _⟩
    rw [pathOff_append]
    simp [execOp, ho, h3, hi', Instr.indexAt, asIntOf, run_underlying hu, hn, Go.sizeOf, rti hf, add_addr, hb1, pathOff, selOff, Nat.add_mul, Nat.add_assoc]
theorem sound_extract (hs : Stand Γ F w ρ fam s a.tmps) {x : Operand} {j : Nat} (ho : o.op = .extract x j) (h : opW P pol kn o s = some e) : ValOK P F w ρ fam a o e := by
  simp only [opW, ho] at h
  have hx := evalV_rel hs x
  split at h <;> (try cases h)
  rename_i y hev
  split at h <;> (try cases h)
  rename_i z hz
  rw [hev] at hx
  obtain ⟨vs, hv, hl⟩ := hx
  have key : ∀ (y : V) (j : Nat) (vs : List Value) (fp : Foot), RelL F w ρ y vs fp → y.nth j = some z → ∃ v f, vs[j]? = some v ∧ Rel1 F w ρ z v f ∧ f.Sub fp := by
    intro y
    induction y with
    | cons y r _ ih =>
      intro j vs fp h hz
      simp only [RelL] at h
      obtain ⟨v, vs', fa, fb, rfl, h2, h3, h4, h5, _⟩ := h
      cases j with
      | zero => simp only [V.nth, Option.some.injEq] at hz; subst hz; exact ⟨v, fa, rfl, h2, h4⟩
      | succ j => obtain ⟨v', f, k1, k2, k3⟩ := ih j vs' fb h3 hz; exact ⟨v', f, by simpa using k1, k2, k3.trans h5⟩
    | _ => intro j vs fp h hz; simp [V.nth] at hz
  obtain ⟨v, f, k1, k2, k3⟩ := key y j vs _ hl hz
  have hrun : (execOp a.eval o).run P w = .ok (.value v) w := by simp [execOp, ho, hv, Instr.extract, k1]
  have hrel : RelV F w ρ z v (opFoot fam x) := by
    cases hone : z.one
    · rw [k2.unknown hone]; trivial
    · exact Rel1.val (k2.mono k3) hone
  cases ho : z.owns
  · rw [ho, cond_false] at h
    cases h
    exact ⟨v, none_, hrun, hrel.demote, Foot.none_sub _⟩
  · rw [ho, cond_true] at h
    cases h
    obtain ⟨fr, k4, k5⟩ := takeOf_sub (fam := fam) (x := x) hrel
    refine ⟨v, fr, hrun, k4, ?_⟩
    unfold takeOf at k5
    rw [ho, cond_true] at k5
    exact k5
end
end Go.Vm
end
section
namespace Go.Vm
open Go
section
variable {P : Program} {F : Foot} {w : World} {ρ : Names}
variable {Γ : Ctx} {fam : Fam} {s : St} {a : Act} {o : Oper} {kn : Nat → Option Bool} {pol : Nat → Nat} {e : Eff}
theorem val_ok {v : Value} (hr : (execOp a.eval o).run P w = .ok (.value v) w) (hv : RelV F w ρ e.res v none_) : ValOK P F w ρ fam a o e :=
  ⟨v, none_, hr, hv, Foot.none_sub _⟩
theorem run_arith {op : BinOp} {k : IntKind} {x y : Int} (h : arith op k x y = some e) (hn : e.need = true) :
    ∃ v, (∀ t, (binOp op t (.int k x) (.int k y)).run P w = .ok v w) ∧ RelV F w ρ e.res v none_ := by
  unfold arith at h
  have hb : ∀ (b : Bool), (!b) = true → b = false := by intro b; cases b <;> simp
  cases op <;> simp only [reduceCtorEq, Option.some.injEq] at h <;> subst h
  case add => exact ⟨_, fun t => by simp [binOp, Op.intArith], val_int _ _⟩
  case sub => exact ⟨_, fun t => by simp [binOp, Op.intArith], val_int _ _⟩
  case mul => exact ⟨_, fun t => by simp [binOp, Op.intArith], val_int _ _⟩
  case quo =>
    have hy : y ≠ 0 := by simpa [ieq] using hb _ hn
    exact ⟨_, fun t => by simp [binOp, Op.intDiv, hy], val_int _ _⟩
  case rem =>
    have hy : y ≠ 0 := by simpa [ieq] using hb _ hn
    exact ⟨_, fun t => by simp [binOp, Op.intDiv, hy], val_int _ _⟩
  case and => exact ⟨_, fun t => by simp [binOp, Op.intBits, bits], val_int _ _⟩
  case or => exact ⟨_, fun t => by simp [binOp, Op.intBits, bits], val_int _ _⟩
  case xor => exact ⟨_, fun t => by simp [binOp, Op.intBits, bits], val_int _ _⟩
  case andNot => exact ⟨_, fun t => by simp [binOp, Op.intBits, bits], val_int _ _⟩
  case eql => exact ⟨_, fun t => by simp [binOp, Op.intCmp, ieq], val_bool _⟩
  case neq => exact ⟨_, fun t => by simp [binOp, Op.intCmp, ieq]; rfl, val_bool _⟩
  case lss => exact ⟨_, fun t => by simp [binOp, Op.intCmp, ilt], val_bool _⟩
  case leq => exact ⟨_, fun t => by simp [binOp, Op.intCmp, ile], val_bool _⟩
  case gtr => exact ⟨_, fun t => by simp [binOp, Op.intCmp, ilt], val_bool _⟩
  case geq => exact ⟨_, fun t => by simp [binOp, Op.intCmp, ile], val_bool _⟩
theorem run_strs {op : BinOp} {x y : ByteArray} (h : strs op x y = some e) (hn : e.need = true) :
    ∃ v, (∀ t, (binOp op t (.string x) (.string y)).run P w = .ok v w) ∧ RelV F w ρ e.res v none_ := by
  unfold strs at h
  cases op <;> simp at h <;> subst h
  · simp only [decide_eq_true_eq] at hn
    refine ⟨_, fun t => ?_, val_str _⟩
    have : ¬ (((x.size + y.size : Nat) : Int) > IntKind.i64.max) := by
      simp only [IntKind.max, IntKind.signed, IntKind.bits]; omega
    simp only [binOp, Op.stringOp, this, if_false]
    rfl
  · exact ⟨_, fun t => by simp [binOp, Op.stringOp, seq], val_bool _⟩
  · exact ⟨_, fun t => by simp [binOp, Op.stringOp, seq], val_bool _⟩
theorem run_guard_other {op : BinOp} (h1 : op ≠ .eql) (h2 : op ≠ .neq) (t : TypeId) (x y : Operand) (u v : Value) : (eqGuard op t x y u v).run P w = .ok () w := by
  cases op <;> first | contradiction | (simp [eqGuard]; done)
theorem run_guard_leaf (op : BinOp) (t : TypeId) (x y : Operand) {u v : Value} (h1 : ∀ c, u ≠ .agg c) (h2 : u ≠ .nilIface ∨ v ≠ .nilIface) : (eqGuard op t x y u v).run P w = .ok () w := by
  by_cases e1 : op = .eql
  · subst e1
    cases u <;> cases v <;> simp_all [eqGuard]
  · by_cases e2 : op = .neq
    · subst e2
      cases u <;> cases v <;> simp_all [eqGuard]
    · exact run_guard_other e1 e2 t x y u v
theorem run_guard_agg (op : BinOp) (t : TypeId) (x y : Operand) {c d : Array Value} (h : P.eqGuardType P.depth t = false) : (eqGuard op t x y (.agg c) (.agg d)).run P w = .ok () w := by
  by_cases e1 : op = .eql
  · subst e1; simp [eqGuard, h]
  · by_cases e2 : op = .neq
    · subst e2; simp [eqGuard, h]
    · exact run_guard_other e1 e2 t x y _ _
theorem run_guard_const (op : BinOp) (t : TypeId) (x y : Operand) (h : (isConst x || isConst y) = true) : (eqGuard op t x y .nilIface .nilIface).run P w = .ok () w := by
  by_cases e1 : op = .eql
  · subst e1; cases x <;> cases y <;> simp_all [eqGuard, isConst]
  · by_cases e2 : op = .neq
    · subst e2; cases x <;> cases y <;> simp_all [eqGuard, isConst]
    · exact run_guard_other e1 e2 t x y _ _
theorem extract_mid (a b c : List Value) (n : Nat) (hn : n = b.length) : (a ++ b ++ c).toArray.extract a.length (a.length + n) = b.toArray := by
  subst hn
  apply Array.toList_inj.1
  simp [List.append_assoc]
theorem run_part {t : TypeId} {x : V} (hf : fits P t x = true) {a b c : List Value} {fp : Foot} (hx : RelT F w ρ x b fp) :
    ∃ v, (part t (a ++ b ++ c).toArray a.length).run P w = .ok v w ∧ Rel1 F w ρ x v fp := by
  obtain ⟨d, i, h1, h2, h3, h4, _⟩ := fits_agg hf
  have hl := hx.length
  unfold part
  simp only [Sem.run_bind, run_aggDesc h1, Result.andThen_ok, h4]
  cases ha : x.agg
  · have hsz : x.size = 1 := by cases x <;> simp_all [V.agg, V.size]
    obtain ⟨v, rfl⟩ : ∃ v, b = [v] := List.length_eq_one_iff.1 (hl.trans hsz)
    refine ⟨v, ?_, (fun h => by rw [ha] at h; cases h), fun _ => hx⟩
    have : (a ++ [v] ++ c).toArray[a.length]? = some v := by simp
    simp [this]
  · refine ⟨.agg b.toArray, ?_, (fun _ => ⟨b, rfl, hx⟩), fun h => by rw [ha] at h; cases h⟩
    simp only [if_true, Go.sizeOf, Sem.run_bind, rti h2, Result.andThen_ok, Sem.run_pure]
    rw [extract_mid a b c i.size (by rw [h3, hl])]
def EqOK (P : Program) (F : Foot) (w : World) (ρ : Names) (d : Nat) (eq : TypeId → V → V → Option Bool) : Prop :=
  ∀ t x y b v u fx fy, eq t x y = some b → Rel1 F w ρ x v fx → Rel1 F w ρ y u fy → (Op.equalIn d t v u).run P w = .ok b w
def fieldLoop (d : Nat) (cx cy : Array Value) (fs : List Field) : Sem (Option Bool × Unit) :=
  forIn fs (none, ()) fun f _ =>
    if f.name ≠ "_" then do
      let l ← part f.type cx f.offset
      let m ← part f.type cy f.offset
      let r ← Op.equalIn d f.type l m
      if (!r) = true then pure (ForInStep.done (some false, ())) else pure (ForInStep.yield (none, ()))
    else pure (ForInStep.yield (none, ()))
def elemLoop (d el s : Nat) (cx cy : Array Value) (is : List Nat) : Sem (Option Bool × Unit) :=
  forIn is (none, ()) fun i _ => do
    let l ← part el cx (i * s)
    let m ← part el cy (i * s)
    let r ← Op.equalIn d el l m
    if (!r) = true then pure (ForInStep.done (some false, ())) else pure (ForInStep.yield (none, ()))
theorem fields_ok {d : Nat} {eq : TypeId → V → V → Option Bool} (he : EqOK P F w ρ d eq) : ∀ (fs : List Field) (off : Nat) (x y : V) (b : Bool) (px cx py cy : List Value) (fx fy : Foot),
    eqFields P eq fs off x y = some b → RelT F w ρ x cx fx → RelT F w ρ y cy fy → px.length = off → py.length = off →
    (fieldLoop d (px ++ cx).toArray (py ++ cy).toArray fs).run P w = .ok (cond b (none, ()) (some false, ())) w := by
  intro fs
  induction fs with
  | nil =>
    intro off x y b px cx py cy fx fy h _ _ _ _
    cases x <;> cases y <;> simp [eqFields] at h
    subst h
    simp [fieldLoop]
  | cons f fs ih =>
    intro off x y b px cx py cy fx fy h hx hy hpx hpy
    cases x <;> cases y <;> simp only [eqFields, reduceCtorEq] at h
    rename_i x r y q
    obtain ⟨hb, h⟩ := cond_some h
    simp only [Bool.and_eq_true, bne_iff_ne, ne_eq] at hb
    obtain ⟨ho, hn, hfx, hfy⟩ := hb
    have ho := Nat.eq_of_beq_eq_true ho
    split at h <;> (try cases h)
    rename_i b1 b2 h1 h2
    simp only [RelT] at hx hy
    obtain ⟨a1, a2, fa, fb, rfl, k1, k2, _⟩ := hx
    obtain ⟨c1, c2, fc, fd, rfl, m1, m2, _⟩ := hy
    obtain ⟨v, hv, hrv⟩ := run_part (ρ := ρ) hfx (a := px) (c := a2) k1
    obtain ⟨u, hu, hru⟩ := run_part (ρ := ρ) hfy (a := py) (c := c2) m1
    have hq := he _ _ _ _ _ _ _ _ h1 hrv hru
    have hlen : c1.length = a1.length := by
      obtain ⟨_, i1, _, z2, z3, _⟩ := fits_agg hfx
      obtain ⟨_, i2, _, y2, y3, _⟩ := fits_agg hfy
      rw [k1.length, m1.length, ← z3, ← y3]
      rw [z2] at y2
      obtain rfl := Option.some.inj y2
      rfl
    have hrest := ih (off + x.size) r q b2 (px ++ a1) a2 (py ++ c1) c2 _ _ h2 k2 m2 (by rw [List.length_append, hpx, k1.length]) (by rw [List.length_append, hpy, hlen, k1.length])
    have e1 : px ++ (a1 ++ a2) = px ++ a1 ++ a2 := by simp
    have e2 : py ++ (c1 ++ c2) = py ++ c1 ++ c2 := by simp
    unfold fieldLoop at hrest ⊢
    rw [List.forIn_cons]
    simp only [e1, e2, ne_eq, hn, not_false_eq_true, if_true, ho, Sem.run_bind]
    rw [← hpx, hv]
    simp only [Result.andThen_ok, Sem.run_bind]
    rw [hpx, ← hpy, hu]
    simp only [Result.andThen_ok, Sem.run_bind, hq]
    cases b1
    · simp
    · simp only [Bool.not_true, Bool.false_eq_true, if_false, Sem.run_pure, Result.andThen_ok, Bool.true_and]
      exact hrest
theorem elems_ok {d : Nat} {el s : Nat} {eq : V → V → Option Bool} {g h : Nat → V} {f f' : Nat → List Value} {n : Nat} {fs fs' : Nat → Foot} {i0 : TypeInfo} (hi0 : P.info? el = some i0) (hs0 : i0.size = s)
    (he : ∀ x y b v u fx fy, eq x y = some b → Rel1 F w ρ x v fx → Rel1 F w ρ y u fy → (Op.equalIn d el v u).run P w = .ok b w)
    (hfit : ∀ x y b, eq x y = some b → fits P el x = true ∧ fits P el y = true)
    (hf : ∀ i, i < n → (f i).length = s ∧ RelT F w ρ (g i) (f i) (fs i)) (hf' : ∀ i, i < n → (f' i).length = s ∧ RelT F w ρ (h i) (f' i) (fs' i)) :
    ∀ (m i : Nat) (b : Bool), i + m = n → eqElems eq g h m i = some b →
    (elemLoop d el s ((List.range n).flatMap f).toArray ((List.range n).flatMap f').toArray (List.range' i m)).run P w = .ok (cond b (none, ()) (some false, ())) w := by
  intro m
  induction m with
  | zero => intro i b _ h; simp [eqElems] at h; subst h; simp [elemLoop]
  | succ m ih =>
    intro i b hn h
    simp only [eqElems] at h
    split at h <;> (try cases h)
    rename_i b1 b2 h1 h2
    have hi : i < n := by omega
    obtain ⟨q1, q2⟩ := hfit _ _ _ h1
    obtain ⟨v, hv, hrv⟩ := run_part (ρ := ρ) q1 (a := (List.range i).flatMap f) (c := (List.range' (i + 1) (n - (i + 1))).flatMap f) (hf i hi).2
    obtain ⟨u, hu, hru⟩ := run_part (ρ := ρ) q2 (a := (List.range i).flatMap f') (c := (List.range' (i + 1) (n - (i + 1))).flatMap f') (hf' i hi).2
    rw [← flatMap_split f hi, flatMap_length i (fun j hj => (hf j (by omega)).1)] at hv
    rw [← flatMap_split f' hi, flatMap_length i (fun j hj => (hf' j (by omega)).1)] at hu
    have hq := he _ _ _ _ _ _ _ h1 hrv hru
    have hrest := ih (i + 1) b2 (by omega) h2
    unfold elemLoop at hrest ⊢
    rw [List.range'_succ, List.forIn_cons]
    simp only [Sem.run_bind, hv, hu, hq, Result.andThen_ok]
    cases b1
    · simp
    · simp only [Bool.not_true, Bool.false_eq_true, if_false, Sem.run_pure, Result.andThen_ok, Bool.true_and]
      exact hrest
theorem eqFields_agg {eq : TypeId → V → V → Option Bool} {fs : List Field} {off : Nat} {x y : V} {b : Bool} (h : eqFields P eq fs off x y = some b) : x.agg = true ∧ y.agg = true := by
  cases fs with
  | nil => cases x <;> cases y <;> first | exact ⟨rfl, rfl⟩ | (simp [eqFields] at h)
  | cons f l => cases x <;> cases y <;> first | exact ⟨rfl, rfl⟩ | (simp [eqFields] at h)
theorem eq_ptr {D : Nat} {t el : TypeId} {x y : V} {b : Bool} {v u : Value} {fx fy : Foot} (hty : P.underlying t = some (.pointer el)) (h : (match x, y with
      | .nilp, .nilp => some true
      | .nilp, .obox nil _ | .obox nil _, .nilp => some nil
      | .nilp, .ptr _ _ | .ptr _ _, .nilp | .nilp, .vp _ | .vp _, .nilp => some false
      | _, _ => none) = some b) (hv : Rel1 F w ρ x v fx) (hu : Rel1 F w ρ y u fy) : (Op.equalIn (D + 1) t v u).run P w = .ok b w := by
  have leaf : ∀ {x : V} {v : Value} {fx : Foot}, Rel1 F w ρ x v fx → x.agg = false → RelT F w ρ x [v] fx := fun h ha => h.2 ha
  have hnil : ∀ {v : Value} {f : Foot}, Rel1 F w ρ .nilp v f → v = .pointer none := fun h => by simpa [RelT] using leaf h rfl
  have hp : ∀ {v : Value} {f : Foot} {id p}, Rel1 F w ρ (.ptr id p) v f → ∃ a, v = .pointer (some a) := fun h => by
    have := leaf h rfl; simp [RelT] at this; obtain ⟨g, o, _, _, rfl⟩ := this; exact ⟨_, rfl⟩
  have hvp : ∀ {v : Value} {f : Foot} {x}, Rel1 F w ρ (.vp x) v f → ∃ a, v = .pointer (some a) := fun h => by
    have := leaf h rfl; simp [RelT] at this; obtain ⟨g, o, rfl, _⟩ := this; exact ⟨_, rfl⟩
  have hox : ∀ {v : Value} {f : Foot} {n x}, Rel1 F w ρ (.obox n x) v f → (n = true → v = .pointer none) ∧ (n = false → ∃ a, v = .pointer (some a)) := fun h => by
    have := leaf h rfl; simp only [RelT] at this; obtain ⟨A, h1, h2, h3⟩ := this
    obtain rfl := by simpa using h1
    exact ⟨fun e => by rw [h2 e], fun e => by obtain ⟨g, o, xs, f, rfl, _⟩ := h3 e; exact ⟨_, rfl⟩⟩
  split at h <;> (try cases h)
  · obtain rfl := hnil hv; obtain rfl := hnil hu; simp [Op.equalIn, run_underlying hty]
  · obtain rfl := hnil hv
    cases b with
    | true => obtain rfl := (hox hu).1 rfl; simp [Op.equalIn, run_underlying hty]
    | false => obtain ⟨a, rfl⟩ := (hox hu).2 rfl; simp [Op.equalIn, run_underlying hty]
  · obtain rfl := hnil hu
    cases b with
    | true => obtain rfl := (hox hv).1 rfl; simp [Op.equalIn, run_underlying hty]
    | false => obtain ⟨a, rfl⟩ := (hox hv).2 rfl; simp [Op.equalIn, run_underlying hty]
  · obtain rfl := hnil hv; obtain ⟨a, rfl⟩ := hp hu; simp [Op.equalIn, run_underlying hty]
  · obtain rfl := hnil hu; obtain ⟨a, rfl⟩ := hp hv; simp [Op.equalIn, run_underlying hty]
  · obtain rfl := hnil hv; obtain ⟨a, rfl⟩ := hvp hu; simp [Op.equalIn, run_underlying hty]
  · obtain rfl := hnil hu; obtain ⟨a, rfl⟩ := hvp hv; simp [Op.equalIn, run_underlying hty]
theorem eq_slice {D : Nat} {t el : TypeId} {x y : V} {b : Bool} {v u : Value} {fx fy : Foot} (hty : P.underlying t = some (.slice el)) (h : (match x, y with
      | .sl _ _ nil _ _, .sl _ _ true _ _ => some nil
      | .osl _ _ nil _ _, .sl _ _ true _ _ => some nil
      | .lent _ _ _ nil _, .sl _ _ true _ _ => some nil
      | _, _ => none) = some b) (hv : Rel1 F w ρ x v fx) (hu : Rel1 F w ρ y u fy) : (Op.equalIn (D + 1) t v u).run P w = .ok b w := by
  have leaf : ∀ {x : V} {v : Value} {fx : Foot}, Rel1 F w ρ x v fx → x.agg = false → RelT F w ρ x [v] fx := fun h ha => h.2 ha
  have hnil : ∀ {v : Value} {f : Foot} {tok s n get}, Rel1 F w ρ (.sl tok s true n get) v f → v = .slice none 0 0 := fun h => by
    have := leaf h rfl; simp only [RelT] at this
    obtain ⟨A, c, h1, _, _, h4, _⟩ := this
    obtain ⟨rfl, rfl, rfl⟩ := h4 trivial
    simpa using h1
  split at h <;> (try cases h)
  · obtain rfl := hnil hu
    cases b with
    | true => obtain rfl := hnil hv; simp [Op.equalIn, run_underlying hty]
    | false =>
      have := leaf hv rfl
      simp only [RelT] at this
      obtain ⟨A, c, h1, _, _, _, h5⟩ := this
      obtain ⟨g, o, q, rfl, _⟩ := h5 trivial
      obtain rfl : v = _ := by simpa using h1
      simp [Op.equalIn, run_underlying hty]
  · obtain rfl := hnil hu
    have := leaf hv rfl
    simp only [RelT] at this
    obtain ⟨A, c, h1, _, _, h4, h5⟩ := this
    obtain rfl : v = _ := by simpa using h1
    cases b with
    | true => obtain ⟨rfl, _, rfl⟩ := h4 rfl; simp [Op.equalIn, run_underlying hty]
    | false => obtain ⟨g, o, rfl, _⟩ := h5 rfl; simp [Op.equalIn, run_underlying hty]
  · obtain rfl := hnil hu
    have := leaf hv rfl
    simp only [RelT] at this
    obtain ⟨g, o, A, c, _, h1, _, _, h4, h5⟩ := this
    obtain rfl : v = _ := by simpa using h1
    cases b with
    | true => obtain ⟨rfl, _, rfl⟩ := h4 rfl; simp [Op.equalIn, run_underlying hty]
    | false => obtain ⟨rfl, _⟩ := h5 rfl; simp [Op.equalIn, run_underlying hty]
theorem eqT_ok : ∀ (d D : Nat), d ≤ D → EqOK P F w ρ D (eqT P d) := by
  intro d
  induction d with
  | zero => intro D _ t x y b v u fx fy h; simp [eqT] at h
  | succ d ih =>
    intro D hD t x y b v u fx fy h hv hu
    obtain ⟨D, rfl⟩ : ∃ D', D = D' + 1 := ⟨D - 1, by omega⟩
    have leaf : ∀ {x : V} {v : Value} {fx : Foot}, Rel1 F w ρ x v fx → x.agg = false → RelT F w ρ x [v] fx := fun h ha => h.2 ha
    simp only [eqT] at h
    split at h <;> (try cases h)
    · rename_i hty
      split at h <;> (try cases h)
      obtain rfl : v = _ := by simpa [RelT] using leaf hv rfl
      obtain rfl : u = _ := by simpa [RelT] using leaf hu rfl
      simp [Op.equalIn, run_underlying hty]
    · rename_i k0 hty
      split at h <;> (try cases h)
      rename_i k a k' b'
      obtain ⟨hk, h⟩ := cond_some h
      obtain rfl := Option.some.inj h
      obtain rfl : k = k' := by simpa using hk
      obtain rfl : v = _ := by simpa [RelT] using leaf hv rfl
      obtain rfl : u = _ := by simpa [RelT] using leaf hu rfl
      simp [Op.equalIn, run_underlying hty, ieq]
    · rename_i hty
      split at h <;> (try cases h)
      obtain rfl : v = _ := by simpa [RelT] using leaf hv rfl
      obtain rfl : u = _ := by simpa [RelT] using leaf hu rfl
      simp [Op.equalIn, run_underlying hty]
    · rename_i el hty; exact eq_ptr hty h hv hu
    · rename_i ms hty
      have hnil : ∀ {v : Value} {f : Foot}, Rel1 F w ρ .nili v f → v = .nilIface := fun h => by simpa [RelT] using leaf h rfl
      have hp : ∀ {v : Value} {f : Foot} {t x}, Rel1 F w ρ (.iface t x) v f → ∃ a, v = .iface t a := fun h => by
        have := leaf h rfl; simp [RelT] at this; obtain ⟨xs, y, rfl, _⟩ := this; exact ⟨_, rfl⟩
      split at h <;> (try cases h)
      · obtain rfl := hnil hv; obtain ⟨a, rfl⟩ := hp hu; simp [Op.equalIn, run_underlying hty]
      · obtain rfl := hnil hu; obtain ⟨a, rfl⟩ := hp hv; simp [Op.equalIn, run_underlying hty]
    · rename_i el hty; exact eq_slice hty h hv hu
    · rename_i fs hty
      cases hst : P.stoodInHeld t
      · rw [hst, cond_false] at h
        have hax := eqFields_agg h
        obtain ⟨cx, rfl, hx⟩ := hv.1 hax.1
        obtain ⟨cy, rfl, hy⟩ := hu.1 hax.2
        have := fields_ok (ih D (by omega)) fs.toList 0 x y b [] cx [] cy fx fy h hx hy rfl rfl
        simp only [List.nil_append] at this
        unfold Op.equalIn
        simp only [Sem.run_bind, run_underlying hty, Result.andThen_ok, run_program, hst, Bool.false_eq_true, if_false]
        unfold fieldLoop at this
        rw [← Array.forIn_toList, this]
        cases b <;> rfl
      · rw [hst] at h; cases h
    · rename_i n el hty
      split at h <;> (try cases h)
      rename_i s n' g s' n'' g'
      obtain ⟨hb, h⟩ := cond_some h
      simp only [Bool.and_eq_true] at hb
      obtain ⟨h1, h2, h3, h4⟩ := hb
      split at h4 <;> (try cases h4)
      rename_i i0 hi0
      have hs0 := Nat.eq_of_beq_eq_true h4
      obtain rfl := Nat.eq_of_beq_eq_true h1
      obtain rfl := Nat.eq_of_beq_eq_true h2
      obtain rfl := Nat.eq_of_beq_eq_true h3
      obtain ⟨cx, rfl, hx⟩ := hv.1 rfl
      obtain ⟨cy, rfl, hy⟩ := hu.1 rfl
      simp only [RelT] at hx hy
      obtain ⟨f, fs, k1, _, rfl⟩ := hx
      obtain ⟨f', fs', m1, _, rfl⟩ := hy
      have := elems_ok (n := n) (eq := fun a b => cond (fits P el a && fits P el b) (eqT P d el a b) none) hi0 hs0
        (fun x y b v u fx fy h hv hu => ih D (by omega) el x y b v u fx fy (cond_some h).2 hv hu)
        (fun x y b h => by have := (cond_some h).1; simpa using this) (fun i hi => ⟨(k1 i hi).1, (k1 i hi).2.1⟩) (fun i hi => ⟨(m1 i hi).1, (m1 i hi).2.1⟩) n 0 b (by omega) (cond_some h).2
      unfold Op.equalIn
      simp only [Sem.run_bind, run_underlying hty, Result.andThen_ok, Go.sizeOf, rti hi0, Sem.run_pure, hs0]
      rw [Std.Legacy.Range.forIn_eq_forIn_range']
      simp only [Std.Legacy.Range.size, Nat.sub_zero, Nat.add_sub_cancel, Nat.div_one]
      unfold elemLoop at this
      rw [this]
      cases b <;> rfl
end
end Go.Vm
end
section
namespace Go.Vm
open Go
section
variable {P : Program} {F : Foot} {w : World} {ρ : Names}
variable {Γ : Ctx} {fam : Fam} {s : St} {a : Act} {o : Oper} {kn : Nat → Option Bool} {pol : Nat → Nat} {e : Eff}
theorem one_of_eqT {d : Nat} {t : TypeId} {x y : V} {b : Bool} (h : eqT P d t x y = some b) : x.one = true ∧ y.one = true ∧ x.agg = y.agg ∧ (x = .nili → y ≠ .nili) ∧
    (∀ k n, x = .int k n → ∃ k' n', y = .int k' n') ∧ ∀ c, x = .str c → ∃ c', y = .str c' := by
  cases d with
  | zero => simp [eqT] at h
  | succ d =>
    simp only [eqT] at h
    split at h <;> (try cases h)
    all_goals first
      | (split at h <;> first | (cases h; done) | (refine ⟨rfl, rfl, rfl, ?_, ?_, ?_⟩ <;> simp; done))
      | skip
    rename_i fs _
    cases hst : P.stoodInHeld t
    · rw [hst, cond_false] at h
      have := eqFields_agg h
      refine ⟨?_, ?_, by rw [this.1, this.2], (fun e => by rw [e] at this; simp [V.agg] at this), (fun k n e => by rw [e] at this; simp [V.agg] at this), fun c e => by rw [e] at this; simp [V.agg] at this⟩
      · cases x <;> simp_all [V.agg, V.one]
      · cases y <;> simp_all [V.agg, V.one]
    · rw [hst] at h; cases h
def plain : Value → Bool
  | .int _ _ | .float _ _ | .complex _ _ _ | .string _ => false
  | _ => true
theorem plain_of {x : V} {v : Value} {fx : Foot} (h : Rel1 F w ρ x v fx) (h0 : x.one = true) (h1 : ∀ k n, x ≠ .int k n) (h2 : ∀ c, x ≠ .str c) : plain v = true := by
  cases x with
  | undef => simp [V.one] at h0
  | tup => simp [V.one] at h0
  | int k n => exact absurd rfl (h1 k n)
  | str c => exact absurd rfl (h2 c)
  | unit => obtain ⟨cs, rfl, _⟩ := h.1 rfl; rfl
  | cons => obtain ⟨cs, rfl, _⟩ := h.1 rfl; rfl
  | arr => obtain ⟨cs, rfl, _⟩ := h.1 rfl; rfl
  | bool b => obtain rfl : v = _ := by simpa [RelT] using h.2 rfl
              rfl
  | nilp => obtain rfl : v = _ := by simpa [RelT] using h.2 rfl
            rfl
  | nilf => obtain rfl : v = _ := by simpa [RelT] using h.2 rfl
            rfl
  | nili => obtain rfl : v = _ := by simpa [RelT] using h.2 rfl
            rfl
  | ptr => have := h.2 rfl; simp only [RelT] at this; obtain ⟨g, o, _, _, h1⟩ := this; obtain rfl : v = _ := by simpa using h1
           rfl
  | own => have := h.2 rfl; simp only [RelT] at this; obtain ⟨g, o, c, A, _, _, h1, _⟩ := this; obtain rfl : v = _ := by simpa using h1
           rfl
  | vp => have := h.2 rfl; simp only [RelT] at this; obtain ⟨g, o, xs, h1, _⟩ := this; obtain rfl : v = _ := by simpa using h1
          rfl
  | sl => have := h.2 rfl; simp only [RelT] at this; obtain ⟨A, c, h1, _⟩ := this; obtain rfl : v = _ := by simpa using h1
          rfl
  | fn => have := h.2 rfl; simp only [RelT] at this; obtain ⟨xs, h1, _⟩ := this; obtain rfl : v = _ := by simpa using h1
          rfl
  | iface => have := h.2 rfl; simp only [RelT] at this; obtain ⟨xs, y, h1, _⟩ := this; obtain rfl : v = _ := by simpa using h1
             rfl
  | obox => have := h.2 rfl; simp only [RelT] at this; obtain ⟨A, h1, _⟩ := this; obtain rfl : v = _ := by simpa using h1
            rfl
  | osl => have := h.2 rfl; simp only [RelT] at this; obtain ⟨A, c, h1, _⟩ := this; obtain rfl : v = _ := by simpa using h1
           rfl
  | lent => have := h.2 rfl; simp only [RelT] at this; obtain ⟨g, o, A, c, _, h1, _⟩ := this; obtain rfl : v = _ := by simpa using h1
            rfl
theorem shape_of {x : V} {v : Value} {fx : Foot} (h : Rel1 F w ρ x v fx) (h0 : x.one = true) (ha : x.agg = false) : (∀ c, v ≠ .agg c) ∧ (v = .nilIface → x = .nili) := by
  have hr := h.2 ha
  cases x with
  | undef => simp [V.one] at h0
  | tup => simp [V.one] at h0
  | unit => simp [V.agg] at ha
  | cons => simp [V.agg] at ha
  | arr => simp [V.agg] at ha
  | int | str | bool | nilp | nilf => obtain rfl : v = _ := by simpa [RelT] using hr
                                      exact ⟨nofun, nofun⟩
  | nili => obtain rfl : v = _ := by simpa [RelT] using hr
            exact ⟨nofun, fun _ => rfl⟩
  | ptr => simp only [RelT] at hr; obtain ⟨g, o, _, _, h1⟩ := hr; obtain rfl : v = _ := by simpa using h1
           exact ⟨nofun, nofun⟩
  | own => simp only [RelT] at hr; obtain ⟨g, o, c, A, _, _, h1, _⟩ := hr; obtain rfl : v = _ := by simpa using h1
           exact ⟨nofun, nofun⟩
  | vp => simp only [RelT] at hr; obtain ⟨g, o, xs, h1, _⟩ := hr; obtain rfl : v = _ := by simpa using h1
          exact ⟨nofun, nofun⟩
  | sl => simp only [RelT] at hr; obtain ⟨A, c, h1, _⟩ := hr; obtain rfl : v = _ := by simpa using h1
          exact ⟨nofun, nofun⟩
  | fn => simp only [RelT] at hr; obtain ⟨xs, h1, _⟩ := hr; obtain rfl : v = _ := by simpa using h1
          exact ⟨nofun, nofun⟩
  | iface => simp only [RelT] at hr; obtain ⟨xs, y, h1, _⟩ := hr; obtain rfl : v = _ := by simpa using h1
             exact ⟨nofun, nofun⟩
  | obox => simp only [RelT] at hr; obtain ⟨A, h1, _⟩ := hr; obtain rfl : v = _ := by simpa using h1
            exact ⟨nofun, nofun⟩
  | osl => simp only [RelT] at hr; obtain ⟨A, c, h1, _⟩ := hr; obtain rfl : v = _ := by simpa using h1
           exact ⟨nofun, nofun⟩
  | lent => simp only [RelT] at hr; obtain ⟨g, o, A, c, _, h1, _⟩ := hr; obtain rfl : v = _ := by simpa using h1
            exact ⟨nofun, nofun⟩
theorem run_eql_plain {t : TypeId} {v u : Value} {b : Bool} (hp : plain v = true) (hE : (Op.equal t v u).run P w = .ok b w) :
    (binOp .eql t v u).run P w = .ok (.bool b) w ∧ (binOp .neq t v u).run P w = .ok (.bool (!b)) w := by
  cases v <;> simp [plain] at hp <;> exact ⟨by simp [binOp, hE], by simp [binOp, hE]⟩
theorem equal_ok {t : TypeId} {x y : V} {b : Bool} {v u : Value} {fx fy : Foot} (h : eqT P 6 t x y = some b) (hv : Rel1 F w ρ x v fx) (hu : Rel1 F w ρ y u fy) : (Op.equal t v u).run P w = .ok b w :=
  eqT_ok (P := P) 6 10000 (by omega) t x y b v u fx fy h hv hu
theorem equalIn_nil (d : Nat) {t : TypeId} {ms : Array (String × TypeId)} (hu : P.underlying t = some (.interface ms)) : (Op.equalIn (d + 1) t .nilIface .nilIface).run P w = .ok true w := by
  simp [Op.equalIn, run_underlying hu]
theorem equal_nil {t : TypeId} {ms : Array (String × TypeId)} (hu : P.underlying t = some (.interface ms)) : (Op.equal t .nilIface .nilIface).run P w = .ok true w := equalIn_nil 9999 hu
theorem eq_own (D : Nat) {t el : TypeId} {q : Addr} {n c : Nat} (hty : P.underlying t = some (.slice el)) : (Op.equalIn (D + 1) t (.slice (some q) n c) (.slice none 0 0)).run P w = .ok false w := by
  simp [Op.equalIn, run_underlying hty]
theorem sound_binOp (hs : Stand Γ F w ρ fam s a.tmps) {op : BinOp} {t ty : TypeId} {x y : Operand} (ho : o.op = .binOp op t x y ty) (h : opW P pol kn o s = some e) (hn : e.need = true) : ValOK P F w ρ fam a o e := by
  simp only [opW, ho] at h
  have hx := evalV_rel hs x
  have hy := evalV_rel hs y
  have fin : ∀ v, (eqGuard op t x y (a.eval x) (a.eval y)).run P w = .ok () w → (binOp op t (a.eval x) (a.eval y)).run P w = .ok v w → RelV F w ρ e.res v none_ → ValOK P F w ρ fam a o e :=
    fun v h1 h2 h3 => val_ok (by simp [execOp, ho, h1, h2]) h3
  generalize hX : evalV s.tm x = X at h hx
  generalize hY : evalV s.tm y = Y at h hy
  unfold binV at h
  split at h
  · rename_i k n k' n'
    obtain rfl := Option.some.inj h
    simp only [ile, decide_eq_true_eq] at hn
    rw [inv_int hx, inv_int hy] at fin
    refine fin (.int k (shl k n n')) (run_guard_other (op := .shl) (by decide) (by decide) ..) ?_ (val_int _ _)
    have : ¬ n' < 0 := by omega
    simp [binOp, Op.shift, this, shl]
  · rename_i k n k' n'
    obtain rfl := Option.some.inj h
    simp only [ile, decide_eq_true_eq] at hn
    rw [inv_int hx, inv_int hy] at fin
    refine fin (.int k (shr k n n')) (run_guard_other (op := .shr) (by decide) (by decide) ..) ?_ (val_int _ _)
    have : ¬ n' < 0 := by omega
    simp [binOp, Op.shift, this, shr]
  · rename_i k n k' n' _ _
    obtain ⟨hk, h'⟩ := cond_some h
    obtain rfl : k = k' := by simpa using hk
    rw [inv_int hx, inv_int hy] at fin
    obtain ⟨v, h1, h2⟩ := run_arith (F := F) (w := w) (ρ := ρ) (P := P) h' hn
    exact fin v (run_guard_leaf op t x y (by simp) (by simp)) (h1 t) h2
  · rename_i p q _ _
    rw [inv_str hx, inv_str hy] at fin
    obtain ⟨v, h1, h2⟩ := run_strs (F := F) (w := w) (ρ := ρ) (P := P) h hn
    exact fin v (run_guard_leaf op t x y (by simp) (by simp)) (h1 t) h2
  · split at h <;> (try cases h)
    rename_i ms hu
    obtain ⟨hc, h⟩ := cond_some h
    obtain rfl := Option.some.inj h
    rw [inv_nili hx, inv_nili hy] at fin
    refine fin (.bool true) (run_guard_const _ t x y hc) ?_ (val_bool _)
    exact (run_eql_plain rfl (equal_nil hu)).1
  · split at h <;> (try cases h)
    rename_i ms hu
    obtain ⟨hc, h⟩ := cond_some h
    obtain rfl := Option.some.inj h
    rw [inv_nili hx, inv_nili hy] at fin
    refine fin (.bool false) (run_guard_const _ t x y hc) ?_ (val_bool _)
    exact (run_eql_plain (b := true) rfl (equal_nil hu)).2
  · rename_i id p sz N off len tok s' n get
    split at h <;> (try cases h)
    rename_i el hu
    obtain ⟨g, o, c, A, _, _, h3, _, _, _, h7⟩ := inv_own hx
    obtain rfl := h7 (by simpa using hn)
    have hnil : a.eval y = .slice none 0 0 := by
      have := hy.one rfl |>.2 rfl
      simp only [RelT] at this
      obtain ⟨A, c, h1, _, _, h4, _⟩ := this
      obtain ⟨rfl, rfl, rfl⟩ := h4 trivial
      simpa using h1
    have hg := run_guard_leaf (P := P) (w := w) .eql t x y (u := a.eval x) (v := a.eval y) (by rw [h3]; simp) (by rw [h3]; simp)
    have hE : (Op.equal t (a.eval x) (a.eval y)).run P w = .ok false w := by
      rw [h3, hnil]; exact eq_own 9999 hu
    exact fin (.bool false) hg (run_eql_plain (by rw [h3]; rfl) hE).1 (val_bool _)
  all_goals try (simp only [reduceCtorEq] at h; done)
  all_goals
    obtain ⟨hnil, h⟩ := cond_some h
    simp only [Option.map_eq_some_iff] at h
    obtain ⟨b, hb, rfl⟩ := h
    obtain ⟨h1, h2, h3, h4, h5, h6⟩ := one_of_eqT hb
    have r1 := hx.one h1
    have r2 := hy.one h2
    have hE : (Op.equal t (a.eval x) (a.eval y)).run P w = .ok b w := equal_ok hb r1 r2
    have hint : ∀ k n, X ≠ .int k n := by
      intro k n hk
      obtain ⟨k', n', rfl⟩ := h5 k n hk
      subst hk
      simp_all
    have hstr : ∀ c, X ≠ .str c := by
      intro c hk
      obtain ⟨c', rfl⟩ := h6 c hk
      subst hk
      simp_all
    have hp := run_eql_plain (plain_of r1 h1 hint hstr) hE
    have hg : ∀ op, (eqGuard op t x y (a.eval x) (a.eval y)).run P w = .ok () w := by
      intro op
      cases ha : X.agg
      · have hb' := h3 ▸ ha
        refine run_guard_leaf op t x y (shape_of r1 h1 ha).1 ?_
        by_cases e1 : a.eval x = .nilIface
        · right
          intro e2
          exact h4 ((shape_of r1 h1 ha).2 e1) ((shape_of r2 h2 hb').2 e2)
        · exact .inl e1
      · obtain ⟨c1, e1, _⟩ := r1.1 ha
        obtain ⟨c2, e2, _⟩ := r2.1 (h3 ▸ ha)
        rw [e1, e2]
        refine run_guard_agg op t x y ?_
        simp only [nilOk, ha, Bool.not_true, Bool.false_or, Bool.not_eq_true'] at hnil
        exact hnil
    first
      | exact fin (.bool b) (hg _) hp.1 (val_bool _)
      | exact fin (.bool (!b)) (hg _) hp.2 (val_bool _)
end
end Go.Vm
end
section
namespace Go.Vm
open Go
section
variable {P : Program} {F : Foot} {w : World} {ρ : Names}
variable {Γ : Ctx} {fam : Fam} {s : St} {a : Act} {o : Oper} {kn : Nat → Option Bool} {pol : Nat → Nat} {e : Eff}
theorem copy_rel {x : V} {v : Value} {fp : Foot} (h : RelV F w ρ x v fp) : RelV F w ρ (copyOf x) v none_ := by
  rw [copyOf_eq]; exact h.demote
theorem sound_unOp (hs : Stand Γ F w ρ fam s a.tmps) {op : UnOp} {t : TypeId} {x : Operand} (ho : o.op = .unOp op t x) (h : opW P pol kn o s = some e) : ValOK P F w ρ fam a o e := by
  have hx := evalV_rel hs x
  cases op
  case neg =>
    simp only [opW, ho] at h
    split at h <;> (try cases h)
    rename_i k n hev
    rw [hev] at hx
    exact val_ok (v := .int k (k.wrap (0 - n))) (by simp [execOp, ho, inv_int hx, Op.unary, Op.intArith]) (val_int _ _)
  case not =>
    simp only [opW, ho] at h
    split at h <;> (try cases h)
    rename_i b hev
    rw [hev] at hx
    exact val_ok (v := .bool (!b)) (by simp [execOp, ho, inv_bool hx, Op.unary]) (val_bool _)
  all_goals simp [opW, ho] at h
theorem bytes_fold : ∀ (xs : List Value) (f : Nat → Int) (i : Nat) (acc : ByteArray), (∀ j, j < xs.length → xs[j]? = some (.int .u8 (f (i + j)))) →
    (forIn xs acc (fun c s => (match c with
      | .int .u8 n => pure (ForInStep.yield (s.push (UInt8.ofNat n.toNat)))
      | _ => do
        stuck "bytesToString: byte expected"
        pure (ForInStep.yield s) : Sem (ForInStep ByteArray)))).run P w = .ok ⟨acc.data ++ ((List.range' i xs.length).map fun j => UInt8.ofNat (f j).toNat).toArray⟩ w := by
  intro xs
  induction xs with
  | nil => intro f i acc _; simp
  | cons x xs ih =>
    intro f i acc h
    have h0 := h 0 (by simp)
    simp only [List.getElem?_cons_zero, Option.some.injEq, Nat.add_zero] at h0
    subst h0
    rw [List.forIn_cons]
    simp only [Sem.run_bind, Sem.run_pure, Result.andThen_ok]
    rw [ih f (i + 1) _ (fun j hj => by have := h (j + 1) (by simpa using hj); rw [List.getElem?_cons_succ] at this; rw [this, Nat.add_assoc, Nat.add_comm 1 j])]
    simp [List.range'_succ, ByteArray.push]
theorem flat_ints {n : Nat} {get : Nat → V} {f : Nat → Int} {g o : Nat}
    (h : ∀ i, i < n → ∃ xs, xs.length = 1 ∧ RelT F w noNames (get i) xs none_ ∧ Reads w g (o + i * 1) xs ∧ ∀ j, j < 1 → F g (o + i * 1 + j)) (hg : ∀ i, i < n → ∃ m, get i = .int .u8 m ∧ f i = m) :
    ∀ j v, ((List.range n).map fun i => Value.int .u8 (f i))[j]? = some v → w.cell? ((⟨g, o, none⟩ : Addr).add j) = some v := by
  intro j v hj
  have hlt : j < n := by
    have := (List.getElem?_eq_some_iff.1 hj).1
    simpa using this
  obtain ⟨xs, _, h2, h3, _⟩ := h j hlt
  obtain ⟨m, k1, k2⟩ := hg j hlt
  rw [k1] at h2
  simp only [RelT] at h2
  subst h2
  have := h3 0 _ rfl
  rw [add_addr]
  simp [hlt] at hj
  subst hj
  simpa [k2] using this
theorem sound_makeInterface (hs : Stand Γ F w ρ fam s a.tmps) {t : TypeId} {x : Operand} (ho : o.op = .makeInterface t x) (h : opW P pol kn o s = some e) : ValOK P F w ρ fam a o e := by
  simp only [opW, ho] at h
  have hx := copy_rel (evalV_rel hs x)
  split at h
  · cases h
  · rename_i d hnot hu
    obtain ⟨hone, h⟩ := cond_some h
    obtain rfl := Option.some.inj h
    refine val_ok (v := .iface t (a.eval x)) ?_ ?_
    · simp only [execOp, ho, Instr.makeInterface, Sem.run_bind, run_underlying hu, Result.andThen_ok, Sem.run_pure]
    · have h1 := hx.one hone
      refine ⟨nofun, fun _ => ?_⟩
      cases ha : (copyOf (evalV s.tm x)).agg
      · exact ⟨[a.eval x], a.eval x, rfl, h1.2 ha, (fun h => by rw [ha] at h; cases h), fun _ => rfl⟩
      · obtain ⟨cs, h2, h3⟩ := h1.1 ha
        exact ⟨cs, a.eval x, rfl, h3, fun _ => h2, fun h => by rw [ha] at h; cases h⟩
  · cases h
theorem sound_field (hs : Stand Γ F w ρ fam s a.tmps) {t : TypeId} {x : Operand} {j : Nat} (ho : o.op = .field t x j) (h : opW P pol kn o s = some e) : ValOK P F w ρ fam a o e := by
  simp only [opW, ho] at h
  have hx := evalV_rel hs x
  split at h <;> (try cases h)
  rename_i fs hu
  split at h <;> (try cases h)
  rename_i f hf
  split at h <;> (try cases h)
  rename_i z hz
  obtain ⟨hb, h⟩ := cond_some h
  obtain rfl := Option.some.inj h
  simp only [Bool.and_eq_true] at hb
  have hoff := Nat.eq_of_beq_eq_true hb.1
  have hagg : (evalV s.tm x).agg = true := by cases hv : evalV s.tm x <;> simp_all [V.nth, V.agg]
  obtain ⟨cs, hv, hr⟩ := inv_agg hx hagg
  obtain ⟨q⟩ := nth_part _ j hr hz
  obtain ⟨v, h1, h2⟩ := run_part (ρ := ρ) (P := P) hb.2 (a := q.pre) (c := q.post) q.rel
  have hcs : q.pre ++ q.zs ++ q.post = cs := q.eq.symm
  rw [hcs, q.len, hoff] at h1
  refine val_ok (v := v) ?_ ?_
  · simp [execOp, ho, hv, Instr.field, run_underlying hu, hf, asAgg, h1]
  · rw [copyOf_eq]
    cases hone : z.one
    · show RelV F w ρ z.demote v none_
      rw [h2.unknown hone]; trivial
    · exact (h2.val hone).demote
theorem sound_index (hs : Stand Γ F w ρ fam s a.tmps) {t : TypeId} {x ix : Operand} (ho : o.op = .index t x ix) (h : opW P pol kn o s = some e) (hn : e.need = true) : ValOK P F w ρ fam a o e := by
  simp only [opW, ho] at h
  have hx := evalV_rel hs x
  have hi := evalV_rel hs ix
  split at h <;> (try cases h)
  · rename_i n el s' n' get k i hu hev hei
    rw [hev] at hx; rw [hei] at hi
    split at h <;> (try cases h)
    rename_i f hf
    obtain ⟨hb, h⟩ := cond_some h
    obtain rfl := Option.some.inj h
    simp only [Bool.and_eq_true] at hb
    obtain ⟨⟨hb1, hb2⟩, hb3⟩ := hb
    have hb1 := Nat.eq_of_beq_eq_true hb1
    obtain rfl := Nat.eq_of_beq_eq_true hb2
    simp only [inb_iff] at hn
    obtain ⟨cs, hv, hr⟩ := inv_agg hx rfl
    have hi' := inv_int hi
    obtain ⟨q⟩ := arr_part (i := i.toNat) (by omega) hr
    obtain ⟨v, h1, h2⟩ := run_part (ρ := ρ) (P := P) hb3 (a := q.pre) (c := q.post) q.rel
    have hcs : q.pre ++ q.zs ++ q.post = cs := q.eq.symm
    rw [hcs, q.len] at h1
    refine val_ok (v := v) ?_ ?_
    · simp [execOp, ho, hv, hi', Instr.index, asIntOf, run_underlying hu, hn, Go.sizeOf, rti hf, hb1, h1]
    · rw [copyOf_eq]
      cases hone : (get i.toNat).one
      · have hun := rel_one q.rel hone
        show RelV F w ρ (get i.toNat).demote v none_
        rw [hun]
        trivial
      · exact (h2.val hone).demote
  · rename_i b k i hu hev hei
    rw [hev] at hx; rw [hei] at hi
    simp only [inb_iff] at hn
    have hlt : i.toNat < b.size := by omega
    refine val_ok (v := .int .u8 (bt b i.toNat)) ?_ (val_int _ _)
    have hb : b[i.toNat]? = some b[i.toNat] := getElem?_pos b i.toNat hlt
    simp [execOp, ho, inv_str hx, inv_int hi, Instr.index, asIntOf, run_underlying hu, hn, hb, bt, hlt]
theorem sound_makeFunc (hs : Stand Γ F w ρ fam s a.tmps) {fn : Fn} {first cap : Array Operand} (ho : o.op = .makeFunc fn first cap) (h : opW P pol kn o s = some e) : ValOK P F w ρ fam a o e := by
  cases fn <;> simp only [opW, ho] at h <;> (try cases h)
  rename_i f
  obtain ⟨hb, h⟩ := cond_some h
  obtain rfl := Option.some.inj h
  simp only [Bool.and_eq_true, List.all_eq_true, Bool.not_eq_true'] at hb
  have hc := hb.2
  have hfirst : first = #[] := by simpa using hb.1
  subst hfirst
  refine val_ok (v := .func (.func f) #[] (cap.map a.eval)) (by simp [execOp, ho, Instr.makeFunc]) ?_
  have key : ∀ l : List Operand, (∀ x ∈ l, (evalV s.tm x).agg = false ∧ (copyOf (evalV s.tm x)).one = true) → RelT F w ρ (.ofList (l.map fun x => copyOf (evalV s.tm x))) (l.map a.eval) none_ := by
    intro l
    induction l with
    | nil => intro _; simp [V.ofList, RelT]
    | cons x l ih =>
      intro hl
      obtain ⟨h1, h2⟩ := hl x (by simp)
      refine ⟨[a.eval x], l.map a.eval, none_, none_, rfl, ?_, ih (fun y hy => hl y (by simp [hy])), Foot.none_sub _, Foot.none_sub _, Foot.none_off _⟩
      have := copy_rel (evalV_rel hs x)
      refine inv_leaf this ?_ ?_
      · show (copyOf (evalV s.tm x)).agg = false
        rw [copyOf_eq, V.demote_agg]; exact h1
      · show (copyOf (evalV s.tm x)).one = true
        exact h2
  refine ⟨nofun, fun _ => ⟨cap.toList.map a.eval, ?_, key _ hc⟩⟩
  rw [← Array.toList_map, Array.toArray_toList]
end
end Go.Vm
end
section
namespace Go.Vm
open Go
section
variable {P : Program} {F : Foot} {w : World} {ρ : Names}
variable {Γ : Ctx} {fam : Fam} {s : St} {a : Act} {o : Oper} {kn : Nat → Option Bool} {pol : Nat → Nat} {e : Eff}
theorem run_sliceBound {k : IntKind} {i : Int} {y : Nat} {c : BoundsCode} (h : 0 ≤ i ∧ i ≤ (y : Int)) : (Instr.sliceBound (.int k i) y c).run P w = .ok i.toNat w := by
  simp [Instr.sliceBound, asIntOf, h]
theorem run_bounds (hs : Stand Γ F w ρ fam s a.tmps) {isS : Bool} {n c l u : Nat} {om : Option Nat} (hnc : n ≤ c) (lo hi mx : Option Operand)
    (h : bounds n (lo.map (evalV s.tm)) (hi.map (evalV s.tm)) (mx.map (evalV s.tm)) = some (true, l, u, om)) :
    (Instr.sliceBounds isS n c (lo.map a.eval) (hi.map a.eval) (mx.map a.eval)).run P w = .ok (l, u, om.getD c) w ∧ l ≤ u ∧ u ≤ n ∧ (∀ m, om = some m → u ≤ m ∧ m ≤ n) := by
  have rel : ∀ (x : Option Operand) {k i}, x.map (evalV s.tm) = some (.int k i) → x.map a.eval = some (.int k i) := fun x k i hx => by
    cases x with
    | none => cases hx
    | some x =>
      simp only [Option.map_some, Option.some.injEq] at hx ⊢
      have := evalV_rel hs x
      rw [hx] at this
      exact inv_int this
  have rno : ∀ (x : Option Operand), x.map (evalV s.tm) = none → x.map a.eval = none := fun x hx => by
    cases x with
    | none => rfl
    | some x => cases hx
  unfold bounds at h
  split at h
  · rename_i e1 e2 e3
    rw [rno _ e1, rno _ e2, rno _ e3]
    simp only [Option.some.injEq, Prod.mk.injEq, true_and] at h
    obtain ⟨rfl, rfl, rfl⟩ := h
    exact ⟨by simp [Instr.sliceBounds], by omega, by omega, nofun⟩
  · rename_i k i e1 e2 e3
    rw [rel _ e1, rno _ e2, rno _ e3]
    simp only [Option.some.injEq, Prod.mk.injEq, upto_iff] at h
    obtain ⟨h1, rfl, rfl, rfl⟩ := h
    exact ⟨by simp [Instr.sliceBounds, run_sliceBound (P := P) (w := w) (y := n) (i := i) ⟨h1.1, by omega⟩], by omega, by omega, nofun⟩
  · rename_i k i e1 e2 e3
    rw [rno _ e1, rel _ e2, rno _ e3]
    simp only [Option.some.injEq, Prod.mk.injEq, upto_iff] at h
    obtain ⟨h1, rfl, rfl, rfl⟩ := h
    exact ⟨by simp [Instr.sliceBounds, run_sliceBound (P := P) (w := w) (y := c) (i := i) ⟨h1.1, by omega⟩], by omega, by omega, nofun⟩
  · rename_i k i k' i' e1 e2 e3
    rw [rel _ e1, rel _ e2, rno _ e3]
    simp only [Option.some.injEq, Prod.mk.injEq, Bool.and_eq_true, upto_iff] at h
    obtain ⟨⟨h1, h2⟩, rfl, rfl, rfl⟩ := h
    exact ⟨by simp [Instr.sliceBounds, run_sliceBound (P := P) (w := w) (y := c) (i := i') ⟨h1.1, by omega⟩, run_sliceBound (P := P) (w := w) (y := i'.toNat) (i := i) ⟨h2.1, by omega⟩], by omega, by omega, nofun⟩
  · rename_i k i k' i' e1 e2 e3
    rw [rno _ e1, rel _ e2, rel _ e3]
    simp only [Option.some.injEq, Prod.mk.injEq, Bool.and_eq_true, upto_iff] at h
    obtain ⟨⟨h1, h2⟩, rfl, rfl, rfl⟩ := h
    exact ⟨by simp [Instr.sliceBounds, run_sliceBound (P := P) (w := w) (y := c) (i := i') ⟨h1.1, by omega⟩, run_sliceBound (P := P) (w := w) (y := i'.toNat) (i := i) ⟨h2.1, by omega⟩],
      by omega, by omega, fun m hm => by cases hm; omega⟩
  · rename_i k i k' i' k'' i'' e1 e2 e3
    rw [rel _ e1, rel _ e2, rel _ e3]
    simp only [Option.some.injEq, Prod.mk.injEq, Bool.and_eq_true, upto_iff] at h
    obtain ⟨⟨⟨h1, h2⟩, h3⟩, rfl, rfl, rfl⟩ := h
    exact ⟨by simp [Instr.sliceBounds, run_sliceBound (P := P) (w := w) (y := c) (i := i'') ⟨h1.1, by omega⟩, run_sliceBound (P := P) (w := w) (y := i''.toNat) (i := i') ⟨h2.1, by omega⟩,
      run_sliceBound (P := P) (w := w) (y := i'.toNat) (i := i) ⟨h3.1, by omega⟩], by omega, by omega, fun m hm => by cases hm; omega⟩
  · cases h
theorem arr_elems {s n : Nat} {get : Nat → V} {cs : List Value} {fp : Foot} {g o : Nat} (h : RelT F w noNames (.arr s n get) cs fp) (hr : Reads w g o cs) (hF : ∀ j, j < cs.length → F g (o + j)) (hfp : fp.Sub none_) :
    ∀ i, i < n → ∃ xs, xs.length = s ∧ RelT F w noNames (get i) xs none_ ∧ Reads w g (o + i * s) xs ∧ ∀ j, j < s → F g (o + i * s + j) := by
  intro i hi
  obtain ⟨q⟩ := arr_part hi h
  have hcs := q.eq
  have hl := q.len
  have hz := q.rel.length
  have hlen : q.zs.length = s := by
    simp only [RelT] at h
    obtain ⟨f, fs, h1, _, _⟩ := h
    rw [hz, ← (h1 i hi).2.1.length, (h1 i hi).1]
  have hsz := congrArg List.length hcs
  simp only [List.length_append] at hsz
  refine ⟨q.zs, hlen, q.rel.mono (q.sub1.trans hfp), ?_, fun j hj => ?_⟩
  · rw [hcs] at hr
    intro j u hu
    have := hr.part j u hu
    rwa [hl] at this
  · have := hF (i * s + j) (by omega)
    rwa [← Nat.add_assoc] at this
theorem sub_slice {tok : Option TypeId} {s0 n c l u m : Nat} {nil : Bool} {get : Nat → V} {A : Option Addr} (hl : l ≤ u) (hu : u ≤ n) (hum : u ≤ m) (hmc : m ≤ c) (hc : c ≤ maxLen)
    (hnil : nil = true → A = none ∧ c = 0) (hel : nil = false → ∃ g o q, A = some ⟨g, o, q⟩ ∧ (q = none ∨ c = 0) ∧ ∀ i, i < n → ∃ xs, xs.length = s0 ∧ RelT F w noNames (get i) xs none_ ∧ Reads w g (o + i * s0) xs ∧ ∀ j, j < s0 → F g (o + i * s0 + j))
    (htok : ∀ e, tok = some e → nil = false → m = u) :
    RelV F w ρ (.sl tok s0 nil (u - l) fun j => get (l + j)) (.slice (if m = l then A else A.map (·.add (l * s0))) (u - l) (m - l)) none_ := by
  refine ⟨nofun, fun _ => ⟨_, _, rfl, by omega, by omega, fun hn => ?_, fun hn => ?_⟩⟩
  · obtain ⟨rfl, rfl⟩ := hnil hn
    refine ⟨?_, by omega, by omega⟩
    split <;> rfl
  · obtain ⟨g, o, q, rfl, hq, h1⟩ := hel hn
    refine ⟨g, if m = l then o else o + l * s0, q, ?_, hq.imp id fun h => by omega, fun e he => .inl (by have := htok e he hn; omega), fun i hi => ?_⟩
    · split
      · rfl
      · obtain rfl : q = none := hq.resolve_right (by omega)
        simp [add_addr]
    · have : m ≠ l := by omega
      obtain ⟨xs, k1, k2, k3, k4⟩ := h1 (l + i) (by omega)
      simp only [this, if_false]
      have e : o + l * s0 + i * s0 = o + (l + i) * s0 := by rw [Nat.add_mul, Nat.add_assoc]
      rw [e]
      exact ⟨xs, k1, k2, k3, k4⟩
theorem bounds_none {n l u : Nat} {ok : Bool} {lo hi : Option V} {mx : Option Operand} {f : Operand → V} (h : bounds n lo hi (mx.map f) = some (ok, l, u, none)) : mx = none := by
  cases mx with
  | none => rfl
  | some x => unfold bounds at h; split at h <;> simp_all
theorem sound_slice (hs : Stand Γ F w ρ fam s a.tmps) {t : TypeId} {x : Operand} {lo hi mx : Option Operand} (ho : o.op = .slice t x lo hi mx) (h : opW P pol kn o s = some e) (hn : e.need = true) : ValOK P F w ρ fam a o e := by
  simp only [opW, ho] at h
  have hx := evalV_rel hs x
  generalize hX : evalV s.tm x = X at h hx
  unfold sliceV at h
  split at h <;> (try cases h)
  · rename_i b hu
    split at h <;> (try cases h)
    rename_i ok l u hb
    simp only at hn
    subst hn
    have hmx : mx = none := bounds_none hb
    obtain ⟨h1, h2, h3, _⟩ := run_bounds (P := P) (isS := false) hs (Nat.le_refl b.size) lo hi mx hb
    subst hmx
    simp only [Option.map_none] at h1
    refine val_ok (v := .string (b.extract l u)) ?_ (val_str _)
    simp [execOp, ho, inv_str hx, Instr.sliceAt, run_underlying hu, Instr.slice, h1]
  · rename_i el tok s0 nil n get hu
    obtain ⟨A, c, k1, k2, k3, k4, k5⟩ := inv_sl hx
    have hel : nil = false → ∃ g o q, A = some ⟨g, o, q⟩ ∧ (q = none ∨ c = 0) ∧ ∀ i, i < n → ∃ xs, xs.length = s0 ∧ RelT F w noNames (get i) xs none_ ∧ Reads w g (o + i * s0) xs ∧ ∀ j, j < s0 → F g (o + i * s0 + j) := fun hn =>
      let ⟨g, o, q, m1, mq, _, m3⟩ := k5 hn; ⟨g, o, q, m1, mq, m3⟩
    split at h <;> (try cases h)
    · rename_i ok l u i hb hinf
      obtain ⟨hsz, h⟩ := cond_some h
      obtain rfl := Option.some.inj h
      simp only at hn
      subst hn
      obtain ⟨h1, h2, h3, _⟩ := run_bounds (P := P) (isS := true) hs k2 lo hi mx hb
      simp only [Option.getD_none] at h1
      refine val_ok (v := .slice (if c = l then A else A.map (·.add (l * s0))) (u - l) (c - l)) ?_ (sub_slice h2 h3 (by omega) (Nat.le_refl _) k3 (fun hn => ⟨(k4 hn).1, (k4 hn).2.2⟩) hel (fun _ h => by cases h))
      have hA : (if c = l then A else A.map (·.add (l * i.size))) = if c = l then A else A.map (·.add (l * s0)) := by
        simp only [Bool.or_eq_true] at hsz
        rcases hsz with hsz | hsz
        · rw [Nat.eq_of_beq_eq_true hsz]
        · obtain ⟨rfl, _⟩ := k4 hsz; split <;> rfl
      simp only [execOp, ho, k1, Instr.sliceAt, Instr.slice, Sem.run_bind, run_underlying hu, Result.andThen_ok, h1, Go.sizeOf, rti hinf, Sem.run_pure, hA]
    · rename_i ok l u m i hb hinf
      obtain ⟨hsz, h⟩ := cond_some h
      obtain rfl := Option.some.inj h
      simp only [Bool.and_eq_true] at hn
      obtain ⟨hok, hmu⟩ := hn
      subst hok
      obtain rfl := Nat.eq_of_beq_eq_true hmu
      obtain ⟨h1, h2, h3, h4⟩ := run_bounds (P := P) (isS := true) hs k2 lo hi mx hb
      simp only [Option.getD_some] at h1
      refine val_ok (v := .slice (if m = l then A else A.map (·.add (l * s0))) (m - l) (m - l)) ?_ (sub_slice h2 h3 (Nat.le_refl _) (by omega) k3 (fun hn => ⟨(k4 hn).1, (k4 hn).2.2⟩) hel (fun _ _ _ => rfl))
      have hA : (if m = l then A else A.map (·.add (l * i.size))) = if m = l then A else A.map (·.add (l * s0)) := by
        simp only [Bool.or_eq_true] at hsz
        rcases hsz with hsz | hsz
        · rw [Nat.eq_of_beq_eq_true hsz]
        · obtain ⟨rfl, _⟩ := k4 hsz; split <;> rfl
      simp only [execOp, ho, k1, Instr.sliceAt, Instr.slice, Sem.run_bind, run_underlying hu, Result.andThen_ok, h1, Go.sizeOf, rti hinf, Sem.run_pure, hA]
  · rename_i el id p s0 N off len hu
    obtain ⟨g, of, c, A, k1, k2, k3, k4, k5, k6, k7⟩ := inv_own hx
    split at h <;> (try cases h)
    rename_i ok l u i hb hinf
    obtain ⟨hsz, h⟩ := cond_some h
    obtain rfl := Option.some.inj h
    simp only at hn
    subst hn
    obtain ⟨h1, h2, h3, _⟩ := run_bounds (P := P) (isS := true) hs k4 lo hi mx hb
    simp only [Option.getD_none] at h1
    have hsz := Nat.eq_of_beq_eq_true hsz
    refine val_ok (v := .slice (if c = l then A else A.map (·.add (l * s0))) (u - l) (c - l)) ?_ ⟨nofun, fun _ => ⟨g, of, c - l, _, k1, k2, rfl, by omega, by omega, by omega, fun hlt => ?_⟩⟩
    · have hA : (if c = l then A else A.map (·.add (l * i.size))) = (if c = l then A else A.map (·.add (l * s0))) := by
        rw [hsz]
      simp only [execOp, ho, k3, Instr.sliceAt, Instr.slice, Sem.run_bind, run_underlying hu, Result.andThen_ok, h1, Go.sizeOf, rti hinf, Sem.run_pure, hA]
    · have hcl : c ≠ l := by omega
      rw [if_neg hcl, k7 (by omega), Option.map_some, add_addr, Nat.add_mul]
      simp only [Nat.add_assoc]
  · rename_i n el id p hu
    obtain ⟨g, of, k1, k2, k3⟩ := inv_ptr hx
    split at h <;> (try cases h)
    rename_i ok l u i hb hinf
    obtain ⟨hle, h⟩ := cond_some h
    obtain rfl := Option.some.inj h
    simp only at hn
    subst hn
    obtain ⟨h1, h2, h3, _⟩ := run_bounds (P := P) (isS := false) hs (Nat.le_refl n) lo hi mx hb
    simp only [Option.getD_none] at h1
    have hbig : n ≤ maxLen := by have := Nat.le_of_ble_eq_true hle; unfold maxLen; omega
    · refine val_ok (v := .slice (some (if n = l then ⟨g, of + pathOff p, none⟩ else (⟨g, of + pathOff p, none⟩ : Addr).add (l * i.size))) (u - l) (n - l)) ?_ ⟨nofun, fun _ => ⟨g, of, n - l, _, k1, k2, rfl, by omega, by omega, by omega, fun hlt => ?_⟩⟩
      · simp only [execOp, ho, k3, Instr.sliceAt, Sem.run_bind, run_underlying hu, Result.andThen_ok, h1, Go.sizeOf, rti hinf, Sem.run_pure, Instr.sureAddr]
      · have hcl : n ≠ l := by omega
        rw [if_neg hcl, add_addr]
  · rename_i n el s0 n' get hu
    obtain ⟨g, of, xs, k1, k2, k3, k4⟩ := inv_vp hx
    split at h <;> (try cases h)
    rename_i ok l u i hb hinf
    obtain ⟨hsz, h⟩ := cond_some h
    obtain rfl := Option.some.inj h
    simp only [Bool.and_eq_true] at hsz
    simp only at hn
    subst hn
    have hsz1 := Nat.eq_of_beq_eq_true hsz.2.1
    obtain rfl := Nat.eq_of_beq_eq_true hsz.2.2
    have hbig : n ≤ maxLen := by have := Nat.le_of_ble_eq_true hsz.1; unfold maxLen; omega
    obtain ⟨h1, h2, h3, _⟩ := run_bounds (P := P) (isS := false) hs (Nat.le_refl n) lo hi mx hb
    simp only [Option.getD_none] at h1
    · have := sub_slice (ρ := ρ) (tok := none) (s0 := s0) (nil := false) (get := get) (A := some ⟨g, of, none⟩) (m := n) (c := n) h2 h3 (by omega) (Nat.le_refl _) hbig (nofun) (fun _ => ⟨g, of, none, rfl, .inl rfl, arr_elems k2 k3 k4 (Foot.Sub.refl _)⟩) (fun _ h => by cases h)
      refine val_ok (v := .slice (if n = l then some ⟨g, of, none⟩ else (some (⟨g, of, none⟩ : Addr)).map (·.add (l * s0))) (u - l) (n - l)) ?_ this
      have hA : (some (if n = l then (⟨g, of, none⟩ : Addr) else (⟨g, of, none⟩ : Addr).add (l * i.size))) = if n = l then some ⟨g, of, none⟩ else (some (⟨g, of, none⟩ : Addr)).map (·.add (l * s0)) := by
        rw [hsz1]; split <;> rfl
      simp only [execOp, ho, k1, Instr.sliceAt, Sem.run_bind, run_underlying hu, Result.andThen_ok, h1, Go.sizeOf, rti hinf, Sem.run_pure, Instr.sureAddr, hA]
theorem sound_convert (hs : Stand Γ F w ρ fam s a.tmps) {src dst : TypeId} {x : Operand} (ho : o.op = .convert src dst x) (h : opW P pol kn o s = some e) (hside : ∀ p, e.side = some p → p) : ValOK P F w ρ fam a o e := by
  simp only [opW, ho] at h
  have hx := evalV_rel hs x
  split at h <;> (try cases h)
  · rename_i k k' k2 n hu1 hu2 hev
    rw [hev] at hx
    exact val_ok (v := .int k' (k'.wrap n)) (by simp [execOp, ho, inv_int hx, convert, run_underlying hu1, run_underlying hu2, Conv.intToInt]) (val_int _ _)
  · rename_i b hu1 hu2 hev
    rw [hev] at hx
    exact val_ok (v := .string b) (by simp [execOp, ho, inv_str hx, convert, run_underlying hu1, run_underlying hu2]) (val_str _)
  · rename_i el tok s0 nil n get hu1 hu2 hev
    rw [hev] at hx
    split at h <;> (try cases h)
    rename_i hu3
    obtain ⟨A, c, k1, k2, k3, k4, k5⟩ := inv_sl hx
    have hb := hside _ rfl
    refine val_ok (v := .string (bytesOf n fun i => numOf (get i))) ?_ (val_str _)
    cases nil with
    | true =>
      obtain ⟨rfl, rfl, rfl⟩ := k4 rfl
      simp [execOp, ho, k1, convert, run_underlying hu1, run_underlying hu2, run_underlying hu3, Conv.bytesToString, bytesOf]
      rfl
    | false =>
      obtain ⟨g, o', q, rfl, hq, _, h1⟩ := k5 rfl
      have hs1 : n = 0 ∨ s0 = 1 := by
        by_cases h0 : n = 0
        · exact .inl h0
        · obtain ⟨xs, m1, m2, _⟩ := h1 0 (by omega)
          obtain ⟨m, hm⟩ := hb 0 (by omega)
          have := m2.length
          rw [hm] at this
          simp only [V.size] at this
          exact .inr (by omega)
      have hn0 : q = none ∨ n = 0 := hq.imp id fun h => by omega
      have hload : (loadCells ⟨g, o', q⟩ n).run P w = .ok ((List.range n).map fun i => Value.int .u8 (numOf (get i))).toArray w := by
        rcases hs1 with rfl | rfl
        · simp [loadCells, loadCellsFrom]
        rcases hn0 with rfl | rfl
        · have := run_loadCells_list (P := P) (w := w) ⟨g, o', none⟩ _ (flat_ints (f := fun i => numOf (get i)) h1 fun i hi => by obtain ⟨m, hm⟩ := hb i hi; exact ⟨m, hm, by rw [hm]; rfl⟩)
          simpa using this
        · simp [loadCells, loadCellsFrom]
      have hfold := bytes_fold (P := P) (w := w) ((List.range n).map fun i => Value.int .u8 (numOf (get i))) (fun i => numOf (get i)) 0 ByteArray.empty (fun j hj => by simp at hj; simp [hj])
      simp only [execOp, ho, k1, convert, Sem.run_bind, run_underlying hu1, run_underlying hu2, run_underlying hu3, Result.andThen_ok, Conv.bytesToString, hload]
      rw [List.forIn_toArray]
      refine Eq.trans (congrArg (fun (r : Result ByteArray) => (r.andThen fun a w' => Sem.run P (pure (Value.string a)) w').andThen fun a w' => Sem.run P (pure (Next.value a)) w') hfold) ?_
      simp [bytesOf, List.range_eq_range']
end
end Go.Vm
end
section
namespace Go.Vm
open Go
section
variable {P : Program} {F : Foot} {w : World} {ρ : Names}
variable {Γ : Ctx} {fam : Fam} {s : St} {a : Act} {o : Oper} {kn : Nat → Option Bool} {pol : Nat → Nat} {e : Eff}
theorem run_len {t : TypeId} {x : V} {v : Value} {fp : Foot} {n : Nat} (hx : RelV F w ρ x v fp) (h : lenV P t x = some n) (ty : TypeId) (ts : Array TypeId) (ht : ts[0]? = some t) :
    (Builtin.len_ ts ty #[v]).run P w = .ok (.int .i64 n) w := by
  unfold lenV at h
  unfold Builtin.len_
  split at h <;> (try cases h)
  · rename_i hu
    split at h <;> (try cases h)
    obtain rfl := inv_str hx
    simp only [ht, List.getElem?_toArray, List.getElem?_cons_zero, Sem.run_bind, run_underlying hu, Result.andThen_ok, goInt, Sem.run_pure]
  · rename_i el hu
    split at h <;> (try cases h)
    · obtain ⟨A, c, rfl, _⟩ := inv_sl hx
      simp only [ht, List.getElem?_toArray, List.getElem?_cons_zero, Sem.run_bind, run_underlying hu, Result.andThen_ok, goInt, Sem.run_pure]
    · obtain ⟨g, o, c, A, _, _, rfl, _⟩ := inv_own hx
      simp only [ht, List.getElem?_toArray, List.getElem?_cons_zero, Sem.run_bind, run_underlying hu, Result.andThen_ok, goInt, Sem.run_pure]
    · obtain ⟨A, c, rfl, _⟩ := inv_osl hx
      simp only [ht, List.getElem?_toArray, List.getElem?_cons_zero, Sem.run_bind, run_underlying hu, Result.andThen_ok, goInt, Sem.run_pure]
    · obtain ⟨g, o, A, c, _, rfl, _⟩ := inv_lent hx
      simp only [ht, List.getElem?_toArray, List.getElem?_cons_zero, Sem.run_bind, run_underlying hu, Result.andThen_ok, goInt, Sem.run_pure]
  · rename_i el hu
    simp only [ht, List.getElem?_toArray, List.getElem?_cons_zero, Sem.run_bind, run_underlying hu, Result.andThen_ok, goInt, Sem.run_pure]
  · rename_i a hu
    split at h <;> (try cases h)
    rename_i el hu2
    simp only [ht, List.getElem?_toArray, List.getElem?_cons_zero, Sem.run_bind, run_underlying hu, run_underlying hu2, Result.andThen_ok, goInt, Sem.run_pure]
theorem foldInt_ok (f : Int → Int → Int) (m : Value → Value → Sem Value) (hm : ∀ k x k' y, (m (.int k x) (.int k' y)).run P w = .ok (.int k (f x y)) w) : ∀ (l : List V) (vs : List Value) (x : V) (v : Value) (r : V),
    foldInt f x l = some r → RelV F w ρ x v none_ → (∀ j : Nat, ∀ u y, l[j]? = some y → vs[j]? = some u → RelV F w ρ y u none_) → l.length = vs.length → ∃ u, (vs.foldlM m v).run P w = .ok u w ∧ RelV F w ρ r u none_ := by
  intro l
  induction l with
  | nil =>
    intro vs x v r h hx _ hl
    obtain rfl : vs = [] := List.eq_nil_of_length_eq_zero hl.symm
    cases x <;> simp [foldInt] at h
    subst h
    exact ⟨v, by simp, hx⟩
  | cons y l ih =>
    intro vs x v r h hx hall hl
    cases vs with
    | nil => simp at hl
    | cons u vs =>
      have hy := hall 0 u y rfl rfl
      cases x <;> cases y <;> simp only [foldInt, reduceCtorEq] at h
      rename_i k p k' q
      obtain ⟨hk, h⟩ := cond_some h
      obtain ⟨u', h1, h2⟩ := ih vs _ (.int k (f p q)) r h (val_int _ _) (fun j u y h1 h2 => hall (j + 1) u y (by simpa using h1) (by simpa using h2)) (by simpa using hl)
      refine ⟨u', ?_, h2⟩
      rw [List.foldlM_cons, inv_int hx, inv_int hy]
      simp only [Sem.run_bind, hm, Result.andThen_ok, h1]
theorem sound_builtin (hs : Stand Γ F w ρ fam s a.tmps) {c : Call} {b : Builtin} (ho : o.op = .call c) (hc : c.callee = .builtin b) (hb : b ≠ .append) (h : opW P pol kn o s = some e) : ValOK P F w ρ fam a o e := by
  simp only [opW, ho, hc] at h
  have hex : ∀ v, (Go.builtin b c.argTypes o.type (c.args.map fun | .const _ => true | _ => false) (c.args.map a.eval)).run P w = .ok (.value v) w → (execOp a.eval o).run P w = .ok (.value v) w := by
    intro v hv
    simp only [execOp, ho, resolve, hc, Sem.run_bind, Sem.run_pure, Result.andThen_ok, invoke]
    exact hv
  have hargs : c.args.map a.eval = (c.args.toList.map a.eval).toArray := by rw [← Array.toList_map, Array.toArray_toList]
  have hrel : ∀ (l : List Operand) (j : Nat) (u : Value) (y : V), (l.map (evalV s.tm))[j]? = some y → (l.map a.eval)[j]? = some u → RelV F w ρ (copyOf y) u none_ := by
    intro l j u y h1 h2
    simp only [List.getElem?_map, Option.map_eq_some_iff] at h1 h2
    obtain ⟨x, hx, rfl⟩ := h1
    obtain ⟨x', hx', rfl⟩ := h2
    rw [hx] at hx'
    obtain rfl := Option.some.inj hx'
    exact copy_rel (evalV_rel hs x)
  rw [hargs] at hex
  generalize hl : c.args.toList = l at h hex
  have hrel := hrel l
  have hmin : ∀ k x k' y, (Builtin.min2 (.int k x) (.int k' y)).run P w = .ok (.int k (imin x y)) w := by
    intro k x k' y
    by_cases hlt : y < x <;> simp [Builtin.min2, imin, ilt, hlt]
  have hmax : ∀ k x k' y, (Builtin.max2 (.int k x) (.int k' y)).run P w = .ok (.int k (imax x y)) w := by
    intro k x k' y
    by_cases hlt : x < y <;> simp [Builtin.max2, imax, ilt, hlt]
  unfold builtinV at h
  split at h
  · rename_i x hl'
    split at h <;> (try cases h)
    rename_i t0 hts
    split at h <;> (try cases h)
    rename_i n hn
    obtain ⟨p, rfl⟩ : ∃ p, l = [p] := by
      cases l with
      | nil => simp at hl'
      | cons p q => cases q with
        | nil => exact ⟨p, rfl⟩
        | cons => simp at hl'
    simp only [List.map_cons, List.map_nil, List.cons.injEq, and_true] at hl'
    have hx := evalV_rel hs p
    rw [hl'] at hx
    · refine val_ok (hex (.int .i64 n) ?_) (val_int _ _)
      have := run_len (P := P) hx hn o.type c.argTypes hts
      simp [Go.builtin, this]
  · exact absurd rfl hb
  · rename_i x xs hl'
    simp only [Option.map_eq_some_iff] at h
    obtain ⟨r, hr, rfl⟩ := h
    cases l with
    | nil => simp at hl'
    | cons p q =>
      simp only [List.map_cons, List.cons.injEq] at hl'
      obtain ⟨rfl, rfl⟩ := hl'
      have hint : ∀ (x : V) (l : List V) r, foldInt imin x l = some r → copyOf x = x ∧ ∀ j : Nat, ∀ y, l[j]? = some y → copyOf y = y := by
        intro x l
        induction l generalizing x with
        | nil => intro r h; cases x <;> simp [foldInt] at h; exact ⟨rfl, fun j y h => by simp at h⟩
        | cons z l ih =>
          intro r h
          cases x <;> cases z <;> simp only [foldInt, reduceCtorEq] at h
          obtain ⟨_, h⟩ := cond_some h
          refine ⟨rfl, fun j y hy => ?_⟩
          cases j with
          | zero => simp at hy; subst hy; rfl
          | succ j => exact (ih _ r h).2 j y (by simpa using hy)
      obtain ⟨i1, i2⟩ := hint _ _ _ hr
      obtain ⟨u, h1, h2⟩ := foldInt_ok (P := P) imin Builtin.min2 hmin (q.map (evalV s.tm)) (q.map a.eval) _ (a.eval p) r hr (i1 ▸ hrel 0 _ _ rfl rfl)
        (fun j u y k1 k2 => i2 j y k1 ▸ hrel (j + 1) u y (by simpa using k1) (by simpa using k2)) (by simp)
      exact val_ok (hex u (by simp [Go.builtin, Builtin.min_, h1])) h2
  · rename_i x xs hl'
    simp only [Option.map_eq_some_iff] at h
    obtain ⟨r, hr, rfl⟩ := h
    cases l with
    | nil => simp at hl'
    | cons p q =>
      simp only [List.map_cons, List.cons.injEq] at hl'
      obtain ⟨rfl, rfl⟩ := hl'
      have hint : ∀ (x : V) (l : List V) r, foldInt imax x l = some r → copyOf x = x ∧ ∀ j : Nat, ∀ y, l[j]? = some y → copyOf y = y := by
        intro x l
        induction l generalizing x with
        | nil => intro r h; cases x <;> simp [foldInt] at h; exact ⟨rfl, fun j y h => by simp at h⟩
        | cons z l ih =>
          intro r h
          cases x <;> cases z <;> simp only [foldInt, reduceCtorEq] at h
          obtain ⟨_, h⟩ := cond_some h
          refine ⟨rfl, fun j y hy => ?_⟩
          cases j with
          | zero => simp at hy; subst hy; rfl
          | succ j => exact (ih _ r h).2 j y (by simpa using hy)
      obtain ⟨i1, i2⟩ := hint _ _ _ hr
      obtain ⟨u, h1, h2⟩ := foldInt_ok (P := P) imax Builtin.max2 hmax (q.map (evalV s.tm)) (q.map a.eval) _ (a.eval p) r hr (i1 ▸ hrel 0 _ _ rfl rfl)
        (fun j u y k1 k2 => i2 j y k1 ▸ hrel (j + 1) u y (by simpa using k1) (by simpa using k2)) (by simp)
      exact val_ok (hex u (by simp [Go.builtin, Builtin.max_, h1])) h2
  · cases h
theorem fields_zero {z : TypeId → Option V} {F : Foot} {w : World} {ρ : Names} (hz : ∀ t v, z t = some v → RelT F w ρ v (flat0 v) none_) : ∀ (fs : List Field) {x : V},
    fs.foldr (fun f acc => match z f.type, acc with | some z, some r => some (.cons z r) | _, _ => none) (some V.unit) = some x → RelT F w ρ x (flat0 x) none_ := by
  intro fs
  induction fs with
  | nil => intro x h; simp only [List.foldr_nil, Option.some.injEq] at h; subst h; simp [RelT, flat0]
  | cons f fs ih =>
    intro x h
    simp only [List.foldr_cons] at h
    split at h <;> (try cases h)
    rename_i y r h1 h2
    exact ⟨flat0 y, flat0 r, none_, none_, rfl, hz _ _ h1, ih h2, Foot.none_sub _, Foot.none_sub _, Foot.none_off _⟩
theorem tokZ_rel {u : Option TypeDesc} {z : V} {f : Foot} (h : RelT F w ρ z (flat0 z) f) : RelT F w ρ (tokZ u z) (flat0 (tokZ u z)) f := by
  unfold tokZ
  split
  · obtain ⟨A, c, h1, h2, h3, h4, _⟩ := h
    exact ⟨A, c, h1, h2, h3, h4, nofun⟩
  · exact h
theorem tokZ_size {u : Option TypeDesc} {z : V} : (tokZ u z).size = z.size := by
  unfold tokZ
  split <;> rfl
theorem zeroV_rel : ∀ (d : Nat) (t : TypeId) {x : V}, zeroV P d t = some x → RelT F w ρ x (flat0 x) none_ := by
  intro d
  induction d with
  | zero => intro t x h; simp [zeroV] at h
  | succ d ih =>
    intro t x h
    simp only [zeroV] at h
    split at h <;> (try cases h)
    · rfl
    · rfl
    · rfl
    · unfold zeroSl
      split <;> exact ⟨none, 0, rfl, Nat.le_refl _, Nat.zero_le _, fun _ => ⟨rfl, rfl, rfl⟩, nofun⟩
    · split at h <;> cases h
      · exact ⟨none, rfl, fun _ => rfl, nofun⟩
      · rfl
    · rfl
    · rfl
    · split at h <;> (try cases h)
      rename_i nn el hu x1 x2 z i h1 h2
      obtain ⟨hsz, h⟩ := cond_some h
      obtain rfl := Option.some.inj h
      have := tokZ_rel (u := P.underlying el) (ih _ h1)
      exact ⟨fun _ => flat0 (tokZ (P.underlying el) z), fun _ => none_, fun j hj => ⟨by rw [this.length, tokZ_size]; exact Nat.eq_of_beq_eq_true hsz, this, Foot.none_sub _⟩, fun _ _ _ _ _ => Foot.none_off _, rfl⟩
    · rename_i fs hu
      exact fields_zero (fun t v h => ih t h) fs.toList h
theorem same0_eq {x y : Value} (h : same0 x y = true) : x = y := by
  unfold same0 at h
  split at h <;> simp_all
theorem sameL_eq : ∀ {l r : List Value}, sameL l r = true → l = r := by
  intro l
  induction l with
  | nil => intro r h; cases r <;> simp_all [sameL]
  | cons x l ih =>
    intro r h
    cases r with
    | nil => simp [sameL] at h
    | cons y r =>
      simp only [sameL, Bool.and_eq_true] at h
      rw [same0_eq h.1, ih h.2]
theorem zeroOf_rel {t : TypeId} {z : V} (h : zeroOf P t = some z) : ∃ i v, P.info? t = some i ∧ i.zero = some v ∧ RelT F w ρ z v.cells.toList none_ ∧ fits P t z = true := by
  unfold zeroOf at h
  split at h <;> (try cases h)
  rename_i z' v h1 h2
  obtain ⟨hc, h⟩ := cond_some h
  obtain rfl := Option.some.inj h
  simp only [Bool.and_eq_true] at hc
  obtain ⟨i, hi, hv⟩ := Option.bind_eq_some_iff.1 h2
  refine ⟨i, v, hi, hv, ?_, hc.2⟩
  rw [← sameL_eq hc.1]
  exact zeroV_rel 8 t h1
theorem run_zeroValue {t : TypeId} {i : TypeInfo} {v : Value} (hi : P.info? t = some i) (hv : i.zero = some v) : (zeroValue t).run P w = .ok v w := by
  unfold zeroValue
  simp only [Sem.run_bind, rti hi, Result.andThen_ok, hv, Sem.run_pure]
end
end Go.Vm
end
section
namespace Go.Vm
open Go
section
variable {P : Program} {F : Foot} {w : World} {ρ : Names}
variable {Γ : Ctx} {fam : Fam} {s : St} {a : Act} {o : Oper} {kn : Nat → Option Bool} {pol : Nat → Nat} {e : Eff}
theorem fold_set : ∀ (b : List Value) (k : Nat) (pre mid post : List Value), mid.length = b.length →
    (b.zipIdx k).foldl (fun (cs : Array Value) (x : Value × Nat) => cs.setIfInBounds (pre.length + x.2 - k) x.1) (pre ++ mid ++ post).toArray = (pre ++ b ++ post).toArray := by
  intro b
  induction b with
  | nil => intro k pre mid post h; obtain rfl : mid = [] := List.eq_nil_of_length_eq_zero h; simp
  | cons x b ih =>
    intro k pre mid post h
    cases mid with
    | nil => simp at h
    | cons y mid =>
      simp only [List.zipIdx_cons, List.foldl_cons]
      have e1 : (pre ++ y :: mid ++ post).toArray.setIfInBounds (pre.length + k - k) x = ((pre ++ [x]) ++ mid ++ post).toArray := by
        rw [Nat.add_sub_cancel]
        apply Array.toList_inj.1
        simp
      rw [e1]
      have := ih (k + 1) (pre ++ [x]) mid post (by simpa using h)
      simp only [List.length_append, List.length_singleton] at this
      have e2 : ∀ (n : Nat), pre.length + 1 + n - (k + 1) = pre.length + n - k := by intro n; omega
      simp only [e2] at this
      rw [this]
      simp
theorem fill_one {place : Nat → Option (Nat × Nat)} {i off size : Nat} (hp : place i = some (off, size)) {v : Value} {pre mid post : List Value} (hpre : pre.length = off) (hmid : mid.length = size) (hv : v.cells.size = size) (rest : List (Nat × Value)) :
    Instr.fill place (pre ++ mid ++ post).toArray ((i, v) :: rest) = Instr.fill place (pre ++ v.cells.toList ++ post).toArray rest := by
  have h1 : ¬ (v.cells.size ≠ size ∨ off + v.cells.size > (pre ++ mid ++ post).toArray.size) := by
    simp only [List.size_toArray, List.length_append]; omega
  have hf := fold_set v.cells.toList 0 pre mid post (hmid.trans (hv.symm.trans (by simp)))
  have hf2 : v.cells.zipIdx.foldl (fun cs (c, j) => cs.setIfInBounds (off + j) c) (pre ++ mid ++ post).toArray = (pre ++ v.cells.toList ++ post).toArray := by
    rw [← hf, ← Array.foldl_toList]
    simp [hpre]
  simp only [Instr.fill, hp]
  have h2 : (decide (v.cells.size ≠ size) || decide (off + v.cells.size > (pre ++ mid ++ post).toArray.size)) = false := by
    simp only [Bool.or_eq_false_iff, decide_eq_false_iff_not]
    exact ⟨fun h => h1 (.inl h), fun h => h1 (.inr h)⟩
  simp only [Bool.or_eq_true, decide_eq_true_eq, h1, if_false]
  rw [hf2]
theorem cells_of {x : V} {v : Value} {fp : Foot} (h : Rel1 F w ρ x v fp) (hne : ∀ c, x.agg = false → v ≠ .agg c) : RelT F w ρ x v.cells.toList fp := by
  cases ha : x.agg
  · have := h.2 ha
    have hc : v.cells = #[v] := by
      cases v <;> first | rfl | (exact absurd rfl (hne _ ha))
    rw [hc]
    exact this
  · obtain ⟨cs, rfl, hr⟩ := h.1 ha
    exact hr
theorem leaf_ne {x : V} {v : Value} {fp : Foot} (h : Rel1 F w ρ x v fp) : ∀ c, x.agg = false → v ≠ .agg c := by
  intro c ha
  cases hone : x.one
  · have := rel_one (h.2 ha) hone
    subst this
    have hr := h.2 rfl
    simp only [RelT] at hr
    obtain ⟨u, h1, h2⟩ := hr
    simp only [List.cons.injEq, and_true] at h1
    subst h1
    rintro rfl
    simp [Value.oneCell'] at h2
  · exact (shape_of h hone ha).1 c
theorem sumT_off {Γ : Ctx} {fam : Fam} {s : St} {tm : Array Value} (h : Stand Γ F w ρ fam s tm) {l r : List Nat} (hd : ∀ x ∈ l, x ∉ r) : (sumT fam l).Off (sumT fam r) := by
  rintro g o ⟨x, hx, h1⟩ ⟨y, hy, h2⟩
  refine h.off (.t x) (.t y) (fun e => ?_) g o h1 h2
  cases e
  exact hd x hx hy
theorem nodupB_ok : ∀ {l : List Nat}, nodupB l = true → l.Nodup := by
  intro l
  induction l with
  | nil => intro _; exact List.nodup_nil
  | cons x l ih =>
    intro h
    simp only [nodupB, Bool.and_eq_true, Bool.not_eq_true', List.any_eq_false] at h
    refine List.nodup_cons.2 ⟨fun hm => ?_, ih h.2⟩
    have := h.1 x hm
    simp at this
theorem parts_ok (hs : Stand Γ F w ρ fam s a.tmps) (place : Nat → Option (Nat × Nat)) (re : V → List (Nat × V) → Option V) (good : V → Prop)
    (hnil : ∀ z, good z → re z [] = some z)
    (hcons : ∀ z j v l x, good z → re z ((j, v) :: l) = some x → ∃ z' off size, place j = some (off, size) ∧ v.size = size ∧ v.one = true ∧ re z' l = some x ∧ good z' ∧
      ∀ cs fz, RelT F w ρ z cs fz → ∃ pre mid post f2, cs = pre ++ mid ++ post ∧ pre.length = off ∧ mid.length = size ∧ f2.Sub fz ∧
        ∀ vs f', RelT F w ρ v vs f' → f'.Off f2 → ∀ fp', f'.Sub fp' → f2.Sub fp' → RelT F w ρ z' (pre ++ vs ++ post) fp') :
    ∀ (ps : List (Nat × Operand)) (L : List Nat) (z : V) (cs : List Value) (x : V), good z → (L ++ ps.flatMap fun p => takeOf p.2 (evalV s.tm p.2)).Nodup → RelT F w ρ z cs (sumT fam L) →
      re z (ps.map fun p => (p.1, evalV s.tm p.2)) = some x → ∃ cs', Instr.fill place cs.toArray (ps.map fun p => (p.1, a.eval p.2)) = some cs'.toArray ∧ RelT F w ρ x cs' (sumT fam (L ++ ps.flatMap fun p => takeOf p.2 (evalV s.tm p.2))) ∧ good x := by
  intro ps
  induction ps with
  | nil =>
    intro L z cs x hg _ hz hx
    rw [List.map_nil, hnil z hg] at hx
    obtain rfl := Option.some.inj hx
    exact ⟨cs, rfl, by simpa using hz, hg⟩
  | cons p ps ih =>
    intro L z cs x hg hnd hz hx
    rw [List.map_cons] at hx
    obtain ⟨z', off, size, h1, h2, h3, h4, h5, h6⟩ := hcons _ _ _ _ _ hg hx
    obtain ⟨pre, mid, post, f2, k1, k2, k3, k4, k5⟩ := h6 cs _ hz
    obtain ⟨fr, m1, m2⟩ := takeOf_sub (fam := fam) (evalV_rel hs p.2)
    have hr := cells_of (m1.one h3) (leaf_ne (m1.one h3))
    rw [List.flatMap_cons] at hnd
    have hoff : fr.Off f2 := by
      refine (sumT_off hs ?_).mono m2 k4
      intro t ht hL
      have := List.nodup_append.1 hnd
      exact this.2.2 t hL t (by simp [ht]) rfl
    have hsub : (sumT fam L).Sub (sumT fam (L ++ takeOf p.2 (evalV s.tm p.2))) := fun g o ⟨t, ht, h⟩ => ⟨t, by simp [ht], h⟩
    have hsub2 : (sumT fam (takeOf p.2 (evalV s.tm p.2))).Sub (sumT fam (L ++ takeOf p.2 (evalV s.tm p.2))) := fun g o ⟨t, ht, h⟩ => ⟨t, by simp [ht], h⟩
    have hnew := k5 _ _ hr hoff _ (m2.trans hsub2) (k4.trans hsub)
    obtain ⟨cs', n1, n2, n3⟩ := ih (L ++ takeOf p.2 (evalV s.tm p.2)) z' _ x h5 (by rw [List.append_assoc]; exact hnd) hnew h4
    refine ⟨cs', ?_, ?_, n3⟩
    · rw [List.map_cons, k1, fill_one h1 k2 k3 (by have := hr.length; rw [Array.length_toList] at this; omega)]
      exact n1
    · rw [List.flatMap_cons, ← List.append_assoc]
      exact n2
theorem mapM_ok {α β : Type} (f : α → Sem β) (g : α → β) : ∀ (l : List α), (∀ x ∈ l, (f x).run P w = .ok (g x) w) → (l.mapM f).run P w = .ok (l.map g) w := by
  intro l
  induction l with
  | nil => intro _; simp
  | cons x l ih =>
    intro h
    rw [List.mapM_cons]
    simp only [Sem.run_bind, h x (by simp), Result.andThen_ok, ih (fun y hy => h y (by simp [hy])), Sem.run_pure, List.map_cons]
theorem sound_build (hs : Stand Γ F w ρ fam s a.tmps) {t : TypeId} {ps : Array (Nat × Operand)} (ho : o.op = .build t ps) (h : opW P pol kn o s = some e) : ValOK P F w ρ fam a o e := by
  simp only [opW, ho] at h
  obtain ⟨hnd, h⟩ := cond_some h
  have hnd := nodupB_ok hnd
  simp only [Option.map_eq_some_iff] at h
  obtain ⟨x, hx, rfl⟩ := h
  have hex : (ps.map fun p => (p.1, a.eval p.2)).toList = ps.toList.map fun p => (p.1, a.eval p.2) := by simp
  unfold buildV at hx
  split at hx <;> (try cases hx)
  · rename_i fs z hu hz
    obtain ⟨hall, hx⟩ := cond_some hx
    simp only [List.all_eq_true] at hall
    obtain ⟨i, v, hi, hv, hrz, hfit⟩ := zeroOf_rel (F := F) (w := w) (ρ := ρ) hz
    let sz : Field → Nat := fun f => ((P.info? f.type).map (·.size)).getD 0
    have hplaces : (fs.mapM (m := Sem) fun f => do pure (f.offset, ← Go.sizeOf f.type)).run P w = .ok (fs.map fun f => (f.offset, sz f)) w := by
      rw [Array.mapM_eq_mapM_toList]
      have := mapM_ok (P := P) (w := w) (fun f : Field => (do pure (f.offset, ← Go.sizeOf f.type) : Sem (Nat × Nat))) (fun f => (f.offset, sz f)) fs.toList (fun f hf => by
        have := hall f hf
        cases hinfo : P.info? f.type with
        | none => rw [hinfo] at this; cases this
        | some i => simp [Go.sizeOf, rti hinfo, sz, hinfo])
      rw [Sem.run_map, this, Result.andThen_ok, ← Array.toList_map, Array.toArray_toList]
    have hzagg : z.agg = true := by
      obtain ⟨d, i', e1, _, _, e2, _⟩ := fits_agg hfit
      rw [hu] at e1
      obtain rfl := Option.some.inj e1
      exact e2.symm
    obtain ⟨cs', h1, h2, h3⟩ := parts_ok hs (fun i => (fs.map fun f => (f.offset, sz f))[i]?) (buildS P fs) (fun z => z.agg = true) (fun z _ => rfl) (by
      intro z j v l x _ hb
      simp only [buildS] at hb
      split at hb <;> (try cases hb)
      rename_i f y hf hy
      obtain ⟨hc, hb⟩ := cond_some hb
      simp only [Bool.and_eq_true] at hc
      obtain ⟨c1, c2, c3⟩ := hc
      have c1 := Nat.eq_of_beq_eq_true c1
      have c2 := Nat.eq_of_beq_eq_true c2
      split at hb <;> (try cases hb)
      rename_i z' hz'
      obtain ⟨_, i', _, d1, d2, _, d3⟩ := fits_agg c3
      refine ⟨z', f.offset, sz f, by simp [hf], by simp [sz, d1, d2], d3, hb, ?_, fun cs fz hrel => ?_⟩
      · cases z <;> cases j <;> simp [V.setNth] at hz' <;> first | (subst hz'; rfl) | (obtain ⟨_, _, rfl⟩ := hz'; rfl)
      obtain ⟨q⟩ := nth_part z j hrel hy
      refine ⟨q.pre, q.zs, q.post, q.f2, q.eq, by rw [q.len, c1], by rw [q.rel.length, ← c2]; simp [sz, d1, d2], q.sub2, fun vs f' hv' ho' fp' s1 s2 => ?_⟩
      obtain ⟨x', e1, e2⟩ := q.put (Later.refl _ _ _) (fun _ _ _ => rfl) v vs f' hv' c2 ho'
      rw [hz'] at e1
      obtain rfl := Option.some.inj e1
      exact e2 fp' s1 s2) ps.toList [] z _ x hzagg (by simpa using hnd) (hrz.mono (Foot.none_sub _)) hx
    refine ⟨.agg cs'.toArray, _, ?_, val_agg h2 h3, by simpa using Foot.Sub.refl _⟩
    rw [Array.toArray_toList] at h1
    simp only [execOp, ho, Instr.build, Sem.run_bind, run_zeroValue hi hv, Result.andThen_ok, run_underlying hu, hplaces, hex, h1, Sem.run_pure]
  · rename_i n el s0 n0 get hu hz
    split at hx <;> (try cases hx)
    rename_i i hi
    obtain ⟨hsz, hx⟩ := cond_some hx
    have hsz := Nat.eq_of_beq_eq_true hsz
    obtain ⟨iz, v, hiz, hv, hrz, hfit⟩ := zeroOf_rel (F := F) (w := w) (ρ := ρ) hz
    obtain ⟨cs', h1, h2, get', rfl⟩ := parts_ok hs (fun j => some (j * s0, s0)) (fun z ps => match z with | .arr s1 n1 g => buildA P el s1 n1 g ps | _ => none) (fun z => ∃ g, z = .arr s0 n0 g) (by rintro z ⟨g, rfl⟩; rfl) (by
      rintro z j v l x ⟨g, rfl⟩ hb
      simp only [buildA] at hb
      obtain ⟨hc, hb⟩ := cond_some hb
      simp only [Bool.and_eq_true] at hc
      obtain ⟨c1, c2, c3⟩ := hc
      have c2 := Nat.eq_of_beq_eq_true c2
      have c1 : j < n0 := by simpa [Nat.blt_eq] using c1
      obtain ⟨_, i', _, d1, d2, _, d3⟩ := fits_agg c3
      refine ⟨.arr s0 n0 (fun i => cond (Nat.beq i j) v (g i)), j * s0, s0, rfl, c2, d3, hb, ⟨_, rfl⟩, fun cs fz hrel => ?_⟩
      obtain ⟨q⟩ := arr_part c1 hrel
      have hgs : (g j).size = s0 := by
        simp only [RelT] at hrel
        obtain ⟨f, fs, k1, _, _⟩ := hrel
        rw [← (k1 j c1).2.1.length, (k1 j c1).1]
      refine ⟨q.pre, q.zs, q.post, q.f2, q.eq, q.len, by rw [q.rel.length, hgs], q.sub2, fun vs f' hv' ho' fp' s1 s2 => ?_⟩
      obtain ⟨x', rfl, e2⟩ := q.put (Later.refl _ _ _) (fun _ _ _ => rfl) v vs f' hv' (by rw [c2, hgs]) ho'
      exact e2 fp' s1 s2) ps.toList [] _ _ x ⟨get, rfl⟩ (by simpa using hnd) (hrz.mono (Foot.none_sub _)) hx
    refine ⟨.agg cs'.toArray, _, ?_, val_agg h2 rfl, by simpa using Foot.Sub.refl _⟩
    rw [Array.toArray_toList] at h1
    simp only [execOp, ho, Instr.build, Sem.run_bind, run_zeroValue hiz hv, Result.andThen_ok, run_underlying hu, Go.sizeOf, rti hi, Sem.run_pure, hsz, hex, h1]
end
end Go.Vm
end
section
namespace Go.Vm
open Go
theorem alloc_size (w : World) (o : Obj) : (w.alloc o).heap.size = w.heap.size + 1 := Array.size_push ..
theorem Ext.alloc (w : World) (o : Obj) : Ext w (w.alloc o) :=
  ⟨rfl, rfl, rfl, by rw [alloc_size]; omega, fun g x h => ⟨x, by
    have hlt := (Array.getElem?_eq_some_iff.1 h).1
    rw [heap_alloc_old w o g hlt]; exact h, alike.refl x⟩⟩
theorem Ext.drew (w : World) : Ext w w.drew := ⟨rfl, rfl, rfl, Nat.le_refl _, fun g x h => ⟨x, h, alike.refl x⟩⟩
theorem cell_alloc (w : World) (o : Obj) {g k : Nat} (h : g < w.heap.size) : (w.alloc o).cell? ⟨g, k, none⟩ = w.cell? ⟨g, k, none⟩ :=
  World.cell?_of_block (heap_alloc_old w o g h)
theorem cell_new (w : World) (cells : Array Value) (e : TypeId) (f : Nat × Nat) (k : Nat) : (w.alloc (.cells cells e f)).cell? ⟨w.heap.size, k, none⟩ = cells[k]? := by
  unfold World.cell?
  rw [heap_alloc_new]
  simp
def Names.with (ρ : Names) (i : Id) (a : Nat × Nat) : Names := fun j => cond (j.same i) (some a) (ρ j)
theorem Names.with_same (ρ : Names) (i : Id) (a : Nat × Nat) : ρ.with i a i = some a := by
  have : i.same i = true := (Id.same_iff i i).2 rfl
  simp [Names.with, this]
theorem Names.with_ne (ρ : Names) {i j : Id} (a : Nat × Nat) (h : j ≠ i) : ρ.with i a j = ρ j := by
  have : j.same i = false := by
    cases hh : j.same i
    · rfl
    · exact absurd ((Id.same_iff j i).1 hh) h
  simp [Names.with, this]
theorem Names.le_with {ρ : Names} {i : Id} (a : Nat × Nat) (h : ρ i = none) : ρ.Le (ρ.with i a) := by
  intro j b hj
  have : j ≠ i := fun e => by rw [e, h] at hj; cases hj
  rwa [Names.with_ne _ _ this]
section
variable {P : Program} {Γ : Ctx} {F : Foot} {w : World} {ρ : Names} {fam : Fam} {s : St} {a : Act}
open Classical in
noncomputable def famNew (fam : Fam) (l : List Nat) (id : Id) (fr : Foot) : Fam
  | .t u => if u ∈ l then none_ else fam (.t u)
  | .b i => if i = id then fr else fam (.b i)
theorem Stand.alloc (hm : Mem Γ w F) (h : Stand Γ F w ρ fam s a.tmps) (l : List Nat) {id : Id} (hid : s.H id = none) (hloc : ∀ i, .par i ≠ id) {x : V} {cells : Array Value} {el : TypeId} {fr : Foot}
    (hx : RelT F w ρ x cells.toList fr) (hfr : fr.Sub (sumT fam l)) :
    Mem Γ (w.alloc (.cells cells el)) F ∧
    Stand Γ F (w.alloc (.cells cells el)) (ρ.with id (w.heap.size, 0)) (famNew fam l id fun g o => fr g o ∨ regionFoot w.heap.size 0 cells.size g o) { tm := takes s.tm l, H := updH s.H id (some x) } a.tmps ∧
    ρ.Le (ρ.with id (w.heap.size, 0)) := by
  have hE := Ext.alloc w (.cells cells el)
  have hr : ρ id = none := (h.nm id).1 hid
  have hle := Names.le_with (w.heap.size, 0) hr
  have hsF : Same w (w.alloc (.cells cells el)) F := fun g o hg => cell_alloc w _ (hm.live g o hg)
  have hsB : ∀ i, Same w (w.alloc (.cells cells el)) (fam i) := fun i g o hg => cell_alloc w _ (h.lt i g o hg)
  refine ⟨⟨hm.ext.trans hE, hm.sub, hm.fresh, fun g o hn => ?_, fun g o hg => Nat.lt_of_lt_of_le (hm.live g o hg) hE.size⟩, ?_, hle⟩
  · by_cases hlt : g < w.heap.size
    · rw [cell_alloc w _ hlt]; exact hm.keep g o hn
    · exact absurd (Or.inl (Nat.le_trans hm.ext.size (by omega))) hn
  have inl : ∀ {i : Ix} {g o}, famNew fam l id (fun g o => fr g o ∨ regionFoot w.heap.size 0 cells.size g o) i g o →
      (∃ j, fam j g o ∧ (i = j ∨ (i = .b id ∧ ∃ t ∈ l, j = .t t)) ∧ (∀ t ∈ l, i ≠ .t t)) ∨ (g = w.heap.size ∧ i = .b id) := by
    intro i g o hg
    cases i with
    | t u =>
      simp only [famNew] at hg
      split at hg
      · exact hg.elim
      · rename_i hu
        exact .inl ⟨.t u, hg, .inl rfl, fun t ht e => by cases e; exact hu ht⟩
    | b i =>
      simp only [famNew] at hg
      split at hg
      · rename_i e
        subst e
        rcases hg with hg | hg
        · obtain ⟨t, ht, hto⟩ := hfr g o hg
          exact .inl ⟨.t t, hto, .inr ⟨rfl, t, ht, rfl⟩, fun t _ e => by cases e⟩
        · exact .inr ⟨hg.1, rfl⟩
      · exact .inl ⟨.b i, hg, .inl rfl, fun t _ e => by cases e⟩
  refine ⟨fun t => ?_, fun i => ?_, fun i y r h1 h2 => ?_, fun i j hij g o hi hj => ?_, fun i g o hi hF => ?_, fun i g o hi => ?_, fun i g o hi => ?_, fun i => (Names.with_ne _ _ (hloc i)).trans (h.pn i)⟩
  · have h1 := takes_get (F := F) (w := w) (ρ := ρ) (fun t => a.tmps.getD t Go.undef) (fun t => fam (.t t)) l s.tm h.tm t
    refine h1.keep hE (Foot.Sub.refl _) hsF hle (fun g o hg => ?_) (Foot.Sub.refl _)
    simp only [famNew] at hg
    split at hg
    · exact hg.elim
    · exact hsB _ g o hg
  · show updH s.H id (some x) i = none ↔ _
    by_cases e : i = id
    · subst e; rw [updH_same, Names.with_same]; simp
    · rw [updH_ne _ _ e, Names.with_ne _ _ e]; exact h.nm i
  · have h1 : updH s.H id (some x) i = some y := h1
    by_cases e : i = id
    · subst e
      rw [updH_same] at h1
      obtain rfl := Option.some.inj h1
      rw [Names.with_same] at h2
      obtain rfl := Option.some.inj h2
      simp only [famNew, if_true]
      have hrel := hx.keep hE (Foot.Sub.refl _) hsF x hle (fun g o hg => let ⟨t, _, ht⟩ := hfr g o hg; hsB _ g o ht) (Foot.Sub.refl _)
      have hreg : Region (w.alloc (.cells cells el)) (fun g o => fr g o ∨ regionFoot w.heap.size 0 cells.size g o) w.heap.size 0 cells.toList := by
        refine ⟨fun j u hu => ?_, fun j hj => ?_, fun j hj => ?_⟩
        · rw [Nat.zero_add, cell_new]; simpa using hu
        · unfold World.frozen?; rw [heap_alloc_new]; simp
        · rw [Array.length_toList] at hj
          exact .inr ⟨rfl, Nat.zero_le _, by omega⟩
      have : RelR F (w.alloc (.cells cells el)) (ρ.with i (w.heap.size, 0)) (w.heap.size, 0) x (fun g o => fr g o ∨ regionFoot w.heap.size 0 cells.size g o) := by
        have hb : ∃ xs f, RelT F (w.alloc (.cells cells el)) (ρ.with i (w.heap.size, 0)) x xs f ∧ Region (w.alloc (.cells cells el)) (fun g o => fr g o ∨ regionFoot w.heap.size 0 cells.size g o) w.heap.size 0 xs ∧
            f.Sub (fun g o => fr g o ∨ regionFoot w.heap.size 0 cells.size g o) ∧ f.Off (regionFoot w.heap.size 0 xs.length) := by
          refine ⟨cells.toList, fr, hrel, hreg, fun g o h => .inl h, fun g o h1 h2 => ?_⟩
          obtain ⟨t, ht, hto⟩ := hfr g o h1
          have := h.lt _ g o hto
          have := h2.1
          omega
        exact hb
      exact this
    · rw [updH_ne _ _ e] at h1
      rw [Names.with_ne _ _ e] at h2
      simp only [famNew, e, if_false]
      exact (h.bl i y r h1 h2).keep hE (Foot.Sub.refl _) hsF y hle (hsB _) (Foot.Sub.refl _)
  · rcases inl hi with ⟨i', hi', ei, ni⟩ | ⟨hg, rfl⟩
    · rcases inl hj with ⟨j', hj', ej, nj⟩ | ⟨hg, rfl⟩
      · by_cases e : i' = j'
        · subst e
          rcases ei with rfl | ⟨rfl, t, ht, rfl⟩
          · rcases ej with rfl | ⟨rfl, u, hu, rfl⟩
            · exact hij rfl
            · exact ni u hu rfl
          · rcases ej with rfl | ⟨rfl, u, hu, e⟩
            · exact nj t ht rfl
            · exact hij rfl
        · exact h.off i' j' e g o hi' hj'
      · have := h.lt _ _ _ hi'; omega
    · rcases inl hj with ⟨j', hj', ej, nj⟩ | ⟨_, rfl⟩
      · have := h.lt _ _ _ hj'; omega
      · exact hij rfl
  · rcases inl hi with ⟨i', hi', _⟩ | ⟨hg, _⟩
    · exact h.offF i' g o hi' hF
    · have := hm.live g o hF; omega
  · rcases inl hi with ⟨i', hi', _⟩ | ⟨hg, _⟩
    · exact h.new i' g o hi'
    · exact .inl (by have := hm.ext.size; omega)
  · have hsz : (w.alloc (.cells cells el)).heap.size = w.heap.size + 1 := alloc_size _ _
    rcases inl hi with ⟨i', hi', _⟩ | ⟨hg, _⟩
    · have := h.lt _ _ _ hi'; omega
    · omega
end
end Go.Vm
end
section
namespace Go.Vm
open Go
section
variable {F : Foot} {w : World} {ρ : Names}
theorem RelT.names {ρ' : Names} (hr : ρ.Le ρ') {x : V} {cs : List Value} {fp : Foot} (h : RelT F w ρ x cs fp) : RelT F w ρ' x cs fp :=
  h.keep (Ext.refl w) (Foot.Sub.refl _) (fun _ _ _ => rfl) x hr (fun _ _ _ => rfl) (Foot.Sub.refl _)
theorem RelR.names {ρ' : Names} (hr : ρ.Le ρ') {x : V} {a : Nat × Nat} {fp : Foot} (h : RelR F w ρ a x fp) : RelR F w ρ' a x fp :=
  h.keep (Ext.refl w) (Foot.Sub.refl _) (fun _ _ _ => rfl) x hr (fun _ _ _ => rfl) (Foot.Sub.refl _)
theorem RelV.names {ρ' : Names} (hr : ρ.Le ρ') {x : V} {v : Value} {fp : Foot} (h : RelV F w ρ x v fp) : RelV F w ρ' x v fp :=
  h.keep (Ext.refl w) (Foot.Sub.refl _) (fun _ _ _ => rfl) hr (fun _ _ _ => rfl) (Foot.Sub.refl _)
theorem obox_open {id : Id} (hid : ρ id = none) {x : V} {cs : List Value} {fp : Foot} (h : RelT F w ρ (.obox false x) cs fp) :
    ∃ r, RelR F w (ρ.with id r) r x fp ∧ RelT F w (ρ.with id r) (.ptr id []) cs none_ := by
  simp only [RelT] at h
  obtain ⟨A, rfl, _, h3⟩ := h
  obtain ⟨g, o, xs, f, rfl, k2, k3, k4, k5⟩ := h3 trivial
  refine ⟨(g, o), ⟨xs, f, k2.names (Names.le_with _ hid), k3, k4, k5⟩, ?_⟩
  simp only [RelT]
  exact ⟨g, o, Names.with_same _ _ _, fun _ h => by simp at h, by simp [pathOff]⟩
theorem obox_close {id : Id} {r : Nat × Nat} (hr : ρ id = some r) {x : V} {cs : List Value} {fp f : Foot} (h : RelT F w ρ (.ptr id []) cs f) (hx : RelR F w ρ r x fp) : RelT F w ρ (.obox false x) cs fp := by
  simp only [RelT] at h ⊢
  obtain ⟨g, o, h1, _, rfl⟩ := h
  rw [hr] at h1
  obtain rfl := Option.some.inj h1
  obtain ⟨xs, f, k1, k2, k3, k4⟩ := hx
  exact ⟨_, rfl, nofun, fun _ => ⟨g, o, xs, f, by simp [pathOff], k1, k2, k3, k4⟩⟩
theorem spare_off {g o s n c : Nat} : (regionFoot g o (n * s)).Off (spareFoot g o s n c) := by
  rintro b k ⟨_, _, h1⟩ ⟨_, h2, _⟩
  omega
theorem spare_sub {g o s n c : Nat} (h : n ≤ c) : (spareFoot g o s n c).Sub (regionFoot g o (c * s)) := by
  rintro b k ⟨h1, h2, h3⟩
  refine ⟨h1, by omega, ?_⟩
  have : n * s + (c - n) * s = c * s := by rw [← Nat.add_mul]; congr 1; omega
  omega
theorem region_split {g o s n c : Nat} (h : n ≤ c) {b k : Nat} (hk : regionFoot g o (c * s) b k) : regionFoot g o (n * s) b k ∨ spareFoot g o s n c b k := by
  obtain ⟨h1, h2, h3⟩ := hk
  have : n * s + (c - n) * s = c * s := by rw [← Nat.add_mul]; congr 1; omega
  by_cases h4 : k < o + n * s
  · exact .inl ⟨h1, h2, h4⟩
  · exact .inr ⟨h1, by omega, by omega⟩
theorem osl_open {id : Id} (hid : ρ id = none) {e : TypeId} {s n : Nat} {nil : Bool} {get : Nat → V} {cs : List Value} {fp : Foot} (h : RelT F w ρ (.osl e s nil n get) cs fp) :
    ∃ r fe fs, fe.Off fs ∧ fe.Sub fp ∧ fs.Sub fp ∧ RelR F w (ρ.with id r) r (.arr s n get) fe ∧ RelT F w (ρ.with id r) (.lent id e s nil n) cs fs := by
  simp only [RelT] at h
  obtain ⟨A, c, rfl, h2, h3, h4, h5⟩ := h
  cases hn : nil with
  | true =>
    obtain ⟨rfl, rfl, rfl⟩ := h4 hn
    refine ⟨(0, 0), none_, none_, Foot.none_off _, Foot.none_sub _, Foot.none_sub _, ⟨[], none_, ?_, ?_, Foot.none_sub _, Foot.none_off _⟩, ?_⟩
    · simp only [RelT]
      exact ⟨fun _ => [], fun _ => none_, fun i hi => by omega, fun i j hi => by omega, rfl⟩
    · exact ⟨fun j u hu => by simp at hu, fun j hj => by simp at hj, fun j hj => by simp at hj⟩
    · simp only [RelT]
      exact ⟨0, 0, none, 0, Names.with_same _ _ _, rfl, h2, h3, by simp, nofun⟩
  | false =>
    obtain ⟨g, o, rfl, k2, k3, xs, f, fs, k4, k5, k6, k7⟩ := h5 hn
    have hlen : xs.length = n * s := by rw [k4]; exact flatMap_length n fun i hi => (k6 i hi).1
    refine ⟨(g, o), fun b k => regionFoot g o (n * s) b k ∨ ∃ i, i < n ∧ fs i b k, spareFoot g o s n c, ?_, ?_, (spare_sub h2).trans k3, ⟨xs, fun b k => ∃ i, i < n ∧ fs i b k, ?_, ?_, fun _ _ h => .inr h, ?_⟩, ?_⟩
    · rintro b k (h | ⟨i, hi, h⟩) h'
      · exact spare_off b k h h'
      · exact (k6 i hi).2.2.2 b k h (spare_sub h2 b k h')
    · rintro b k (⟨e1, e2, e3⟩ | ⟨i, hi, h⟩)
      · exact k3 b k ⟨e1, e2, Nat.lt_of_lt_of_le e3 (Nat.add_le_add_left (Nat.mul_le_mul_right s h2) o)⟩
      · exact (k6 i hi).2.2.1 b k h
    · simp only [RelT]
      exact ⟨f, fs, fun i hi => ⟨(k6 i hi).1, (k6 i hi).2.1.names (Names.le_with _ hid), fun b k h => ⟨i, hi, h⟩⟩, k7, k4⟩
    · exact ⟨k5.reads, k5.free, fun j hj => .inl ⟨rfl, by omega, by omega⟩⟩
    · rintro b k ⟨i, hi, h⟩ ⟨e1, e2, e3⟩
      rw [hlen] at e3
      exact (k6 i hi).2.2.2 b k h ⟨e1, e2, Nat.lt_of_lt_of_le e3 (Nat.add_le_add_left (Nat.mul_le_mul_right s h2) o)⟩
    · simp only [RelT]
      exact ⟨g, o, _, c, Names.with_same _ _ _, rfl, h2, h3, nofun, fun _ => ⟨rfl, k2, Foot.Sub.refl _⟩⟩
theorem osl_close {id : Id} {r : Nat × Nat} (hr : ρ id = some r) {e : TypeId} {s n : Nat} {nil : Bool} {get : Nat → V} {cs : List Value} {fe fs : Foot} (h : RelT F w ρ (.lent id e s nil n) cs fs) (hx : RelR F w ρ r (.arr s n get) fe) (hoff : fe.Off fs) :
    RelT F w ρ (.osl e s nil n get) cs (fe.or fs) := by
  simp only [RelT] at h ⊢
  obtain ⟨g, o, A, c, h1, rfl, h2, h3, h4, h5⟩ := h
  refine ⟨A, c, rfl, h2, h3, h4, fun hn => ?_⟩
  obtain ⟨rfl, k1, k2⟩ := h5 hn
  rw [hr] at h1
  obtain rfl := Option.some.inj h1
  obtain ⟨xs, f, m1, m2, m3, m4⟩ := hx
  simp only [RelT] at m1
  obtain ⟨f', fs', p1, p2, p3⟩ := m1
  have hlen : xs.length = n * s := by rw [p3]; exact flatMap_length n fun i hi => (p1 i hi).1
  refine ⟨g, o, rfl, k1, fun b k hk => ?_, xs, f', fs', p3, ⟨m2.reads, m2.free, fun j hj => .inl (m2.own j hj)⟩, fun i hi => ⟨(p1 i hi).1, (p1 i hi).2.1, fun b k h => .inl (m3 b k ((p1 i hi).2.2 b k h)), fun b k h hk => ?_⟩, p2⟩
  · rcases region_split h2 hk with hk | hk
    · obtain ⟨e1, e2, e3⟩ := hk
      subst e1
      have := m2.own (k - o) (by omega)
      simp only [Nat.add_sub_cancel' e2] at this
      exact .inl this
    · exact .inr (k2 b k hk)
  · have h' := (p1 i hi).2.2 b k h
    rcases region_split h2 hk with hk | hk
    · obtain ⟨e1, e2, e3⟩ := hk
      exact m4 b k h' ⟨e1, e2, by omega⟩
    · exact hoff b k (m3 b k h') (k2 b k hk)
end
structure FamLe (fam fam' : Fam) (G : Ix → Ix → Prop) : Prop where
  sub : ∀ i g o, fam' i g o → ∃ j, G i j ∧ fam j g o
  off : ∀ i i' j, i ≠ i' → G i j → G i' j → (fam' i).Off (fam' i')
theorem Stand.re {Γ : Ctx} {F : Foot} {w : World} {ρ ρ' : Names} {fam fam' : Fam} {s s' : St} {vs vs' : Array Value} (h : Stand Γ F w ρ fam s vs) {G : Ix → Ix → Prop} (hG : FamLe fam fam' G)
    (htm : ∀ t, RelV F w ρ' (s'.tm t) (vs'.getD t Go.undef) (fam' (.t t))) (hnm : ∀ id, s'.H id = none ↔ ρ' id = none) (hbl : ∀ id x r, s'.H id = some x → ρ' id = some r → RelR F w ρ' r x (fam' (.b id)))
    (hpn : ∀ i, ρ' (.par i) = Γ.par i) : Stand Γ F w ρ' fam' s' vs' where
  tm := htm
  nm := hnm
  bl := hbl
  off i i' hne g o h1 h2 := by
    obtain ⟨j, k1, k2⟩ := hG.sub i g o h1
    obtain ⟨j', k1', k2'⟩ := hG.sub i' g o h2
    by_cases e : j = j'
    · subst e; exact hG.off i i' j hne k1 k1' g o h1 h2
    · exact h.off j j' e g o k2 k2'
  offF i g o h1 h2 := let ⟨j, _, k2⟩ := hG.sub i g o h1; h.offF j g o k2 h2
  new i g o h1 := let ⟨j, _, k2⟩ := hG.sub i g o h1; h.new j g o k2
  lt i g o h1 := let ⟨j, _, k2⟩ := hG.sub i g o h1; h.lt j g o k2
  pn := hpn
open Classical in
theorem Stand.split {Γ : Ctx} {F : Foot} {w : World} {ρ : Names} {fam : Fam} {s : St} {vs : Array Value} (h : Stand Γ F w ρ fam s vs) {id id2 : Id} {r r2 : Nat × Nat} {c' z : V} {fr fn : Foot}
    (hr : ρ id = some r) (hid : s.H id2 = none) (hloc : ∀ i, .par i ≠ id2) (h1 : RelR F w (ρ.with id2 r2) r c' fr) (h2 : RelR F w (ρ.with id2 r2) r2 z fn)
    (hs1 : fr.Sub (fam (.b id))) (hs2 : fn.Sub (fam (.b id))) (hoff : fr.Off fn) :
    Stand Γ F w (ρ.with id2 r2) (fun i => if i = .b id2 then fn else if i = .b id then fr else fam i) { tm := s.tm, H := updH (updH s.H id (some c')) id2 (some z) } vs := by
  have hr2 : ρ id2 = none := (h.nm id2).1 hid
  have hne : id ≠ id2 := by rintro rfl; rw [hr2] at hr; cases hr
  have hle := Names.le_with r2 hr2
  refine h.re (G := fun i j => j = if i = .b id2 then .b id else i) ⟨fun i g o hi => ?_, fun i i' j hii hj hj' => ?_⟩ (fun t => ?_) (fun i => ?_) (fun i x r' hx hr' => ?_) (fun i => (Names.with_ne _ _ (hloc i)).trans (h.pn i))
  · by_cases e : i = .b id2
    · simp only [e, if_true] at hi ⊢; exact ⟨_, rfl, hs2 g o hi⟩
    · by_cases e' : i = .b id
      · have : ¬ (Ix.b id = Ix.b id2) := fun h => hne (by cases h; rfl)
        simp only [e', this, if_false, if_true] at hi ⊢; exact ⟨_, rfl, hs1 g o hi⟩
      · simp only [e, e', if_false] at hi ⊢; exact ⟨_, rfl, hi⟩
  · subst hj
    by_cases e : i = .b id2
    · have e' : ¬ (i' = .b id2) := fun h => hii (e.trans h.symm)
      simp only [e, e', if_true, if_false] at hj' ⊢
      subst hj'
      simp only [if_true]
      exact hoff.symm
    · by_cases e' : i' = .b id2
      · simp only [e, e', if_true, if_false] at hj' ⊢
        subst hj'
        simp only [if_true]
        exact hoff
      · simp only [e, e', if_false] at hj'
        exact absurd hj' hii
  · exact ((h.tm t).names hle).mono (by simp only [reduceCtorEq, if_false]; exact Foot.Sub.refl _)
  · show updH (updH s.H id (some c')) id2 (some z) i = none ↔ _
    by_cases e : i = id2
    · subst e; rw [updH_same, Names.with_same]; simp
    · rw [updH_ne _ _ e, Names.with_ne _ _ e]
      by_cases e' : i = id
      · subst e'; rw [updH_same, hr]; simp
      · rw [updH_ne _ _ e']; exact h.nm i
  · by_cases e : i = id2
    · subst e
      have hx : updH (updH s.H id (some c')) i (some z) i = some x := hx
      rw [updH_same] at hx
      obtain rfl := Option.some.inj hx
      rw [Names.with_same] at hr'
      obtain rfl := Option.some.inj hr'
      simp only [if_true]
      exact h2
    · have hx : updH (updH s.H id (some c')) id2 (some z) i = some x := hx
      rw [updH_ne _ _ e] at hx
      rw [Names.with_ne _ _ e] at hr'
      have e2 : ¬ (Ix.b i = Ix.b id2) := fun h => e (by cases h; rfl)
      by_cases e' : i = id
      · subst e'
        rw [updH_same] at hx
        obtain rfl := Option.some.inj hx
        rw [hr] at hr'
        obtain rfl := Option.some.inj hr'
        simp only [e2, if_false, if_true]
        exact h1
      · rw [updH_ne _ _ e'] at hx
        have e3 : ¬ (Ix.b i = Ix.b id) := fun h => e' (by cases h; rfl)
        simp only [e2, e3, if_false]
        exact (h.bl i x r' hx hr').names hle
open Classical in
theorem Stand.splitT {Γ : Ctx} {F : Foot} {w : World} {ρ : Names} {fam : Fam} {s : St} {vs : Array Value} (h : Stand Γ F w ρ fam s vs) {t : Nat} {id2 : Id} {r2 : Nat × Nat} {ref z : V} {fe fs : Foot}
    (hid : s.H id2 = none) (hloc : ∀ i, .par i ≠ id2) (h1 : RelV F w (ρ.with id2 r2) ref (vs.getD t Go.undef) fs) (h2 : RelR F w (ρ.with id2 r2) r2 z fe)
    (hs1 : fs.Sub (fam (.t t))) (hs2 : fe.Sub (fam (.t t))) (hoff : fe.Off fs) :
    Stand Γ F w (ρ.with id2 r2) (fun i => if i = .b id2 then fe else if i = .t t then fs else fam i) { tm := upd s.tm t ref, H := updH s.H id2 (some z) } vs := by
  have hr2 : ρ id2 = none := (h.nm id2).1 hid
  have hle := Names.le_with r2 hr2
  refine h.re (G := fun i j => j = if i = .b id2 then .t t else i) ⟨fun i g o hi => ?_, fun i i' j hii hj hj' => ?_⟩ (fun u => ?_) (fun i => ?_) (fun i x r' hx hr' => ?_) (fun i => (Names.with_ne _ _ (hloc i)).trans (h.pn i))
  · by_cases e : i = .b id2
    · simp only [e, if_true] at hi ⊢; exact ⟨_, rfl, hs2 g o hi⟩
    · by_cases e' : i = .t t
      · simp only [e', reduceCtorEq, if_false, if_true] at hi ⊢; exact ⟨_, rfl, hs1 g o hi⟩
      · simp only [e, e', if_false] at hi ⊢; exact ⟨_, rfl, hi⟩
  · subst hj
    by_cases e : i = .b id2
    · have e' : ¬ (i' = .b id2) := fun h => hii (e.trans h.symm)
      simp only [e, e', if_true, if_false] at hj' ⊢
      subst hj'
      simp only [if_true]
      exact hoff
    · by_cases e' : i' = .b id2
      · simp only [e, e', if_true, if_false] at hj' ⊢
        subst hj'
        simp only [if_true]
        exact hoff.symm
      · simp only [e, e', if_false] at hj'
        exact absurd hj' hii
  · show RelV F w (ρ.with id2 r2) (upd s.tm t ref u) _ _
    by_cases e : u = t
    · subst e; rw [upd_same]; exact h1.mono (by simp only [reduceCtorEq, if_false, if_true]; exact Foot.Sub.refl _)
    · rw [upd_ne _ _ e]
      have e' : ¬ (Ix.t u = Ix.t t) := fun h => e (by cases h; rfl)
      exact ((h.tm u).names hle).mono (by simp only [reduceCtorEq, e', if_false]; exact Foot.Sub.refl _)
  · show updH s.H id2 (some z) i = none ↔ _
    by_cases e : i = id2
    · subst e; rw [updH_same, Names.with_same]; simp
    · rw [updH_ne _ _ e, Names.with_ne _ _ e]; exact h.nm i
  · have hx : updH s.H id2 (some z) i = some x := hx
    by_cases e : i = id2
    · subst e
      rw [updH_same] at hx
      obtain rfl := Option.some.inj hx
      rw [Names.with_same] at hr'
      obtain rfl := Option.some.inj hr'
      simp only [if_true]
      exact h2
    · rw [updH_ne _ _ e] at hx
      rw [Names.with_ne _ _ e] at hr'
      have e2 : ¬ (Ix.b i = Ix.b id2) := fun h => e (by cases h; rfl)
      simp only [e2, reduceCtorEq, if_false]
      exact (h.bl i x r' hx hr').names hle
end Go.Vm
end
section
namespace Go.Vm
open Go
def OpOK (P : Program) (Γ : Ctx) (s : St) (a : Act) (w : World) (o : Oper) (e : Eff) : Prop :=
  ∃ nx v w', (execOp a.eval o).run P w = .ok nx w' ∧ (nx = .value v ∨ (nx = .skip ∧ v = Go.undef)) ∧
    ∃ F ρ fam, Mem Γ w' F ∧ Stand Γ F w' ρ fam (applyE o s e) (a.put o.dst v).tmps
section
variable {P : Program} {Γ : Ctx} {F : Foot} {w : World} {ρ : Names} {fam : Fam} {s : St} {a : Act} {o : Oper} {kn : Nat → Option Bool} {pol : Nat → Nat} {e : Eff}
theorem takes_nil (tm : Nat → V) : takes tm [] = tm := rfl
theorem Stand.drop (h : Stand Γ F w ρ fam s a.tmps) (l : List Nat) : Stand Γ F w ρ (famPut fam l none none_) { tm := takes s.tm l, H := s.H } a.tmps := by
  have inl : ∀ {i : Ix} {g o}, famPut fam l none none_ i g o → fam i g o := by
    intro i g o hg
    cases i with
    | b i => exact hg
    | t u =>
      simp only [famPut, reduceCtorEq, if_false] at hg
      split at hg
      · exact hg.elim
      · exact hg
  refine ⟨fun t => ?_, h.nm, fun id x r h1 h2 => h.bl id x r h1 h2, fun i j hij g o hi hj => h.off i j hij g o (inl hi) (inl hj), fun i g o hi => h.offF i g o (inl hi), fun i g o hi => h.new i g o (inl hi), fun i g o hi => h.lt i g o (inl hi), h.pn⟩
  have := takes_get (F := F) (w := w) (ρ := ρ) (fun t => a.tmps.getD t Go.undef) (fun t => fam (.t t)) l s.tm h.tm t
  refine this.mono ?_
  simp only [famPut, reduceCtorEq, if_false]
  exact Foot.Sub.refl _
def dstOk (n : Nat) (o : Oper) : Bool := match o.dst with | some d => Nat.blt d n | none => true
theorem dstOk_lt {n d : Nat} (h : dstOk n o = true) (hd : o.dst = some d) : d < n := by
  simp only [dstOk, hd] at h
  simpa [Nat.blt_eq] using h
theorem ValOK.op (hm : Mem Γ w F) (hs : Stand Γ F w ρ fam s a.tmps) (hd : dstOk a.tmps.size o = true) (h : ValOK P F w ρ fam a o e) (ht : ∀ id c, e.tgt ≠ some (id, some c)) (hn : e.new = none) : OpOK P Γ s a w o e := by
  obtain ⟨v, fr, h1, h2, h3⟩ := h
  have hH : (applyE o s e).H = s.H := by
    unfold applyE
    simp only [hn]
    split <;> simp_all
  cases hdst : o.dst with
  | none =>
    have := hs.drop e.take
    have e1 : applyE o s e = { tm := takes s.tm e.take, H := s.H } := by
      have : (applyE o s e).tm = takes s.tm e.take := by simp [applyE, hdst]
      rw [← this, ← hH]
    rw [← e1] at this
    have e2 : (a.put o.dst v).tmps = a.tmps := by rw [hdst]; rfl
    rw [← e2] at this
    exact ⟨_, v, w, h1, .inl rfl, F, ρ, _, hm, this⟩
  | some d =>
    have := hs.val e.take d (dstOk_lt hd hdst) h2 h3
    have e1 : applyE o s e = { tm := upd (takes s.tm e.take) d e.res, H := s.H } := by
      have : (applyE o s e).tm = upd (takes s.tm e.take) d e.res := by simp [applyE, hdst]
      rw [← this, ← hH]
    rw [← e1, ← hdst] at this
    exact ⟨_, v, w, h1, .inl rfl, F, ρ, _, hm, this⟩
theorem OpOK.of {v : Value} {w' : World} {F' : Foot} {ρ' : Names} {fam' : Fam} {st : St} {tm : Array Value} (hrun : (execOp a.eval o).run P w = .ok (.value v) w') (hm : Mem Γ w' F')
    (hs : Stand Γ F' w' ρ' fam' st tm) (e1 : applyE o s e = st) (e2 : (a.put o.dst v).tmps = tm) : OpOK P Γ s a w o e :=
  ⟨_, v, w', hrun, .inl rfl, F', ρ', fam', hm, by rw [e1, e2]; exact hs⟩
theorem OpOK.of_skip {w' : World} {F' : Foot} {ρ' : Names} {fam' : Fam} {st : St} {tm : Array Value} (hrun : (execOp a.eval o).run P w = .ok .skip w') (hm : Mem Γ w' F')
    (hs : Stand Γ F' w' ρ' fam' st tm) (e1 : applyE o s e = st) (e2 : (a.put o.dst Go.undef).tmps = tm) : OpOK P Γ s a w o e :=
  ⟨_, Go.undef, w', hrun, .inr ⟨rfl, rfl⟩, F', ρ', fam', hm, by rw [e1, e2]; exact hs⟩
theorem newVar_run {t : TypeId} {v : Value} : (newVar t v).run P w = .ok ⟨w.heap.size, 0, none⟩ (w.alloc (.cells v.cells t)) := by
  rfl
theorem sound_new (hm : Mem Γ w F) (hs : Stand Γ F w ρ fam s a.tmps) (hd : dstOk a.tmps.size o = true) {d : Nat} (hdst : o.dst = some d) {x : V} {v : Value} {t : TypeId} {l : List Nat} {fr : Foot}
    (hid : s.H (.loc d 0) = none) (hx : RelT F w ρ x v.cells.toList fr) (hfr : fr.Sub (sumT fam l))
    (hrun : (execOp a.eval o).run P w = .ok (.value (.pointer (some ⟨w.heap.size, 0, none⟩))) (w.alloc (.cells v.cells t)))
    (he : e = { res := .ptr (.loc d 0) [], new := some (.loc d 0, x), take := l }) : OpOK P Γ s a w o e := by
  subst he
  obtain ⟨h1, h2, _⟩ := hs.alloc hm l (id := .loc d 0) hid (fun _ => nofun) (el := t) hx hfr
  have := Stand.val (a := a) h2 [] d (dstOk_lt hd hdst) (val_ptr (p := []) (Names.with_same ρ (.loc d 0) (w.heap.size, 0)) (fun _ h => by simp at h)) (Foot.none_sub _)
  simp only [pathOff, Nat.add_zero, takes_nil] at this
  exact .of hrun h1 this (by simp only [applyE, hdst]) (by rw [hdst])
theorem sound_alloc (hm : Mem Γ w F) (hs : Stand Γ F w ρ fam s a.tmps) (hd : dstOk a.tmps.size o = true) {t : TypeId} (ho : o.op = .alloc t) (h : opW P pol kn o s = some e) (hdst : o.dst.isSome = true) : OpOK P Γ s a w o e := by
  obtain ⟨d, hdst⟩ := Option.isSome_iff_exists.1 hdst
  simp only [opW, ho, hdst, Option.getD_some] at h
  split at h <;> (try cases h)
  rename_i z hz hH
  obtain ⟨i, v, hi, hv, hr, _⟩ := zeroOf_rel (F := F) (w := w) (ρ := ρ) hz
  refine sound_new (t := t) hm hs hd hdst hH hr (Foot.none_sub (sumT fam [])) ?_ rfl
  simp only [execOp, ho, Instr.alloc, Sem.run_bind, run_zeroValue hi hv, Result.andThen_ok, newVar_run, Sem.run_pure]
theorem block_part {c y : V} {r : Nat × Nat} {fp : Foot} {p : List Sel} (hc : RelR F w ρ r c fp) (hone : y.one = true) (hy : c.nav p = some y) :
    ∃ xs f, RelT F w ρ c xs f ∧ Region w fp r.1 r.2 xs ∧ f.Sub fp ∧ f.Off (regionFoot r.1 r.2 xs.length) := hc
theorem Stand.block (hm : Mem Γ w F) (h : Stand Γ F w ρ fam s a.tmps) {w' : World} (hE : Ext w w') (l : List Nat) {id : Id} {c' : V} {r : Nat × Nat} (hr : ρ id = some r) {fr : Foot}
    (hch : ∀ g o, ¬ fam (.b id) g o → w'.cell? ⟨g, o, none⟩ = w.cell? ⟨g, o, none⟩)
    (hfr : fr.Sub (fun g o => fam (.b id) g o ∨ sumT fam l g o)) (hrel : RelR F w' ρ r c' fr) :
    Mem Γ w' F ∧ Stand Γ F w' ρ (famNew fam l id fr) { tm := takes s.tm l, H := updH s.H id (some c') } a.tmps := by
  have hsF : Same w w' F := fun g o hg => hch g o fun hb => h.offF _ g o hb hg
  have hsI : ∀ i, i ≠ .b id → Same w w' (fam i) := fun i hi g o hg => hch g o fun hb => h.off i (.b id) hi g o hg hb
  have inl : ∀ {i : Ix} {g o}, famNew fam l id fr i g o → ∃ j, fam j g o ∧ (i = j ∨ (i = .b id ∧ ∃ t ∈ l, j = .t t)) ∧ (∀ t ∈ l, i ≠ .t t) := by
    intro i g o hg
    cases i with
    | t u =>
      simp only [famNew] at hg
      split at hg
      · exact hg.elim
      · rename_i hu
        exact ⟨.t u, hg, .inl rfl, fun t ht e => by cases e; exact hu ht⟩
    | b i =>
      simp only [famNew] at hg
      split at hg
      · rename_i e
        subst e
        rcases hfr g o hg with hg | ⟨t, ht, hto⟩
        · exact ⟨.b i, hg, .inl rfl, fun t _ e => by cases e⟩
        · exact ⟨.t t, hto, .inr ⟨rfl, t, ht, rfl⟩, fun t _ e => by cases e⟩
      · exact ⟨.b i, hg, .inl rfl, fun t _ e => by cases e⟩
  refine ⟨⟨hm.ext.trans hE, hm.sub, hm.fresh, fun g o hn => ?_, fun g o hg => Nat.lt_of_lt_of_le (hm.live g o hg) hE.size⟩,
    fun t => ?_, fun i => ?_, fun i y r' h1 h2 => ?_, fun i j hij g o hi hj => ?_, fun i g o hi => ?_, fun i g o hi => ?_, fun i g o hi => ?_, h.pn⟩
  · rw [hch g o fun hb => hn (h.new _ g o hb)]; exact hm.keep g o hn
  · have h1 := takes_get (F := F) (w := w) (ρ := ρ) (fun t => a.tmps.getD t Go.undef) (fun t => fam (.t t)) l s.tm h.tm t
    refine h1.keep hE (Foot.Sub.refl _) hsF (fun _ _ h => h) (fun g o hg => ?_) (Foot.Sub.refl _)
    simp only [famNew] at hg
    split at hg
    · exact hg.elim
    · exact hsI (.t t) nofun g o hg
  · show updH s.H id (some c') i = none ↔ _
    by_cases e : i = id
    · subst e; rw [updH_same, hr]; simp
    · rw [updH_ne _ _ e]; exact h.nm i
  · have h1 : updH s.H id (some c') i = some y := h1
    by_cases e : i = id
    · subst e
      rw [updH_same] at h1
      obtain rfl := Option.some.inj h1
      rw [hr] at h2
      obtain rfl := Option.some.inj h2
      simp only [famNew, if_true]
      exact hrel
    · rw [updH_ne _ _ e] at h1
      simp only [famNew, e, if_false]
      exact (h.bl i y r' h1 h2).keep hE (Foot.Sub.refl _) hsF y (fun _ _ h => h) (hsI _ (fun h => e (by cases h; rfl))) (Foot.Sub.refl _)
  · obtain ⟨i', hi', ei, ni⟩ := inl hi
    obtain ⟨j', hj', ej, nj⟩ := inl hj
    by_cases e : i' = j'
    · subst e
      rcases ei with rfl | ⟨rfl, t, ht, rfl⟩
      · rcases ej with rfl | ⟨rfl, u, hu, rfl⟩
        · exact hij rfl
        · exact ni u hu rfl
      · rcases ej with rfl | ⟨rfl, u, hu, e⟩
        · exact nj t ht rfl
        · exact hij rfl
    · exact h.off i' j' e g o hi' hj'
  · obtain ⟨i', hi', _⟩ := inl hi
    exact h.offF i' g o hi'
  · obtain ⟨i', hi', _⟩ := inl hi
    exact h.new i' g o hi'
  · obtain ⟨i', hi', _⟩ := inl hi
    exact Nat.lt_of_lt_of_le (h.lt i' g o hi') hE.size
open Classical in
theorem Stand.put (h : Stand Γ F w ρ fam s a.tmps) (d : Nat) (hd : d < a.tmps.size) {res : V} {v : Value} {fr : Foot} (hv : RelV F w ρ res v fr)
    (hoff : ∀ i, i ≠ .t d → fr.Off (fam i)) (hF : fr.Off F) (hnew : fr.Sub Γ.New) (hlt : ∀ g o, fr g o → g < w.heap.size) :
    Stand Γ F w ρ (fun i => if i = .t d then fr else fam i) { tm := upd s.tm d res, H := s.H } (a.put (some d) v).tmps := by
  refine ⟨fun t => ?_, h.nm, fun id x r h1 h2 => by simpa using h.bl id x r h1 h2, fun i j hij => ?_, fun i => ?_, fun i => ?_, fun i g o hi => ?_, h.pn⟩
  · show RelV F w ρ (upd s.tm d res t) ((a.tmps.setIfInBounds d v).getD t Go.undef) _
    rw [getD_set _ _ _ _ hd]
    by_cases e : t = d
    · subst e; rw [upd_same, if_pos rfl]; simpa using hv
    · rw [upd_ne _ _ e, if_neg e]
      have : ¬ (Ix.t t = Ix.t d) := fun h => e (by cases h; rfl)
      simpa [this] using h.tm t
  · by_cases e : i = .t d
    · subst e
      have : j ≠ .t d := Ne.symm hij
      simp only [if_true, this, if_false]
      exact hoff j this
    · by_cases e' : j = .t d
      · subst e'
        simp only [e, if_false, if_true]
        exact (hoff i e).symm
      · simp only [e, e', if_false]
        exact h.off i j hij
  · by_cases e : i = .t d
    · simp only [e, if_true]; exact hF
    · simp only [e, if_false]; exact h.offF i
  · by_cases e : i = .t d
    · simp only [e, if_true]; exact hnew
    · simp only [e, if_false]; exact h.new i
  · by_cases e : i = .t d
    · simp only [e, if_true] at hi; exact hlt g o hi
    · simp only [e, if_false] at hi; exact h.lt i g o hi
theorem relR_of {c : V} {r : Nat × Nat} {fp f : Foot} {xs : List Value} (h1 : RelT F w ρ c xs f) (h2 : Region w fp r.1 r.2 xs) (h3 : f.Sub fp) (h4 : f.Off (regionFoot r.1 r.2 xs.length)) : RelR F w ρ r c fp :=
  ⟨xs, f, h1, h2, h3, h4⟩
theorem sound_load (hm : Mem Γ w F) (hs : Stand Γ F w ρ fam s a.tmps) (hd : dstOk a.tmps.size o = true) {t : TypeId} {x : Operand} (ho : o.op = .load t x) (h : opW P pol kn o s = some e) (hn : e.need = true) (hdst : o.dst.isSome = true) : OpOK P Γ s a w o e := by
  obtain ⟨d, hdst⟩ := Option.isSome_iff_exists.1 hdst
  have h0 := h
  simp only [opW, ho, hdst, Option.getD_some] at h
  have hx := evalV_rel hs x
  split at h <;> (try cases h)
  · rename_i id p hev
    rw [hev] at hx
    split at h <;> (try cases h)
    rename_i c hc
    split at h <;> (try cases h)
    rename_i y hy
    obtain ⟨hf, h⟩ := cond_some h
    obtain ⟨g, of, k1, k2, k3⟩ := inv_ptr hx
    obtain ⟨_, i, _, _, _, _, hone⟩ := fits_agg hf
    obtain ⟨xs, f, m1, m2, m3, m4⟩ := block_part (hs.bl id c (g, of) hc k1) hone hy
    have hft : c.fit p = true := by
      cases hpol : (Nat.beq (pol d) 1 && y.hasTok)
      · rw [hpol, cond_false] at h
        split at h
        · unfold openV at h
          split at h <;> (try cases h)
          simp only [Bool.and_eq_true] at hn
          exact hn.1
        · unfold openV at h
          split at h <;> (try cases h)
          exact hn
        · obtain rfl := Option.some.inj h; exact hn
      · rw [hpol, cond_true] at h; split at h <;> (try cases h); exact hn
    obtain ⟨q⟩ := nav_part p c k2 hft m1 hy
    have hreads : Reads w g (of + pathOff p) q.zs := by
      have hr := m2.reads
      have hxs := q.eq
      rw [hxs] at hr
      intro j u hu
      have := hr.part j u hu
      rwa [q.len] at this
    obtain ⟨v, n1, n2⟩ := run_loadVar_part (P := P) (ρ := ρ) hf q.rel hreads
    have hrun : (execOp a.eval o).run P w = .ok (.value v) w := by
      simp only [execOp, ho, k3, Instr.loadAt, Instr.sureAddr, Sem.run_bind, Sem.run_pure, Result.andThen_ok, n1]
    cases hpol : (Nat.beq (pol d) 1 && y.hasTok)
    · rw [hpol, cond_false] at h
      have opened : ∀ (r2 : Nat × Nat) (ref res z : V) (c' : V) (fe fs : Foot), s.H (.loc d 0) = none → c.put p ref = some c' → RelT F w (ρ.with (.loc d 0) r2) ref q.zs fs → RelR F w (ρ.with (.loc d 0) r2) r2 z fe →
          RelV F w (ρ.with (.loc d 0) r2) res v none_ → fe.Sub q.f1 → fs.Sub q.f1 → fe.Off fs → ref.size = y.size → ∀ b, OpOK P Γ s a w o { need := b, res := res, tgt := some (id, some c'), new := some (.loc d 0, z) } := by
        intro r2 ref res z c' fe fs hH hput href hz hres hfe hfs hoff hsz b
        have hle := Names.le_with r2 ((hs.nm _).1 hH)
        obtain ⟨c2, e1, e2⟩ := q.put (F' := F) (w' := w) (ρ' := ρ.with (.loc d 0) r2) ⟨Ext.refl w, Foot.Sub.refl _, fun _ _ _ => rfl, hle⟩ (fun _ _ _ => rfl) ref q.zs fs href hsz (q.off.mono hfs (Foot.Sub.refl _))
        rw [hput] at e1
        obtain rfl := Option.some.inj e1
        have hxs := q.eq
        let fr : Foot := fun g' o' => regionFoot g of xs.length g' o' ∨ (fs.or q.f2) g' o'
        have hrel2 : RelT F w (ρ.with (.loc d 0) r2) c' xs (fs.or q.f2) := by
          have := e2 (fs.or q.f2) (Foot.sub_left _ _) (Foot.sub_right _ _)
          rw [← hxs] at this
          exact this
        have hsub : (fs.or q.f2).Sub f := Foot.or_sub (hfs.trans q.sub1) q.sub2
        have hreg : Region w fr g of xs := ⟨m2.reads, m2.free, fun j hj => .inl ⟨rfl, by omega, by omega⟩⟩
        have hR : RelR F w (ρ.with (.loc d 0) r2) (g, of) c' fr := relR_of hrel2 hreg (fun _ _ h => .inr h) (m4.mono hsub (Foot.Sub.refl _))
        have hregs : (regionFoot g of xs.length).Sub (fam (.b id)) := by
          rintro g' o' ⟨rfl, h1, h2⟩
          have := m2.own (o' - of) (by omega)
          rwa [Nat.add_sub_cancel' h1] at this
        have s2 := hs.split (fr := fr) (fn := fe) k1 hH nofun hR hz (fun g' o' h => h.elim (hregs g' o') fun h => m3 g' o' (hsub g' o' h)) (fun g' o' h => m3 g' o' (q.sub1 g' o' (hfe g' o' h))) (by
          rintro g' o' (h | h | h) h'
          · exact m4 g' o' (q.sub1 g' o' (hfe g' o' h')) h
          · exact hoff g' o' h' h
          · exact q.off g' o' (hfe g' o' h') h)
        have s3 := Stand.val (a := a) s2 [] d (dstOk_lt hd hdst) hres (Foot.none_sub _)
        exact .of hrun hm s3 (by simp only [applyE, hdst, takes_nil]) (by rw [hdst])
      cases y with
      | obox nil z =>
        simp only at h
        unfold openV at h
        split at h <;> (try cases h)
        rename_i c' hH hput
        simp only [Bool.and_eq_true, Bool.not_eq_true'] at hn
        obtain ⟨_, rfl⟩ := hn
        obtain ⟨r2, j1, j2⟩ := obox_open ((hs.nm _).1 hH) q.rel
        have hv : RelV F w (ρ.with (.loc d 0) r2) (.ptr (.loc d 0) []) v none_ := by
          have : q.zs = [v] := loadVar_leaf hf q.rel hreads rfl n1
          rw [this] at j2
          exact val_leaf j2 rfl rfl
        exact opened r2 _ _ z c' q.f1 none_ hH hput j2 j1 hv (Foot.Sub.refl _) (Foot.none_sub _) (Foot.off_none _) rfl _
      | osl e0 sz nil n get =>
        simp only at h
        unfold openV at h
        split at h <;> (try cases h)
        rename_i c' hH hput
        obtain ⟨r2, fe, fs, j1, j2, j3, j4, j5⟩ := osl_open ((hs.nm _).1 hH) q.rel
        have hv : RelV F w (ρ.with (.loc d 0) r2) (.own (.loc d 0) [] sz n 0 n) v none_ := by
          have : q.zs = [v] := loadVar_leaf hf q.rel hreads rfl n1
          rw [this] at j5
          exact val_leaf j5.demote rfl rfl
        exact opened r2 _ _ _ c' fe fs hH hput j5 j4 hv j2 j3 j1 rfl _
      | _ =>
        obtain rfl := Option.some.inj h
        exact ValOK.op hm hs hd ⟨v, none_, hrun, copy_rel n2, Foot.none_sub _⟩ (fun id c h => by simp at h) rfl
    · rw [hpol, cond_true] at h
      split at h <;> (try cases h)
      rename_i c' hc'
      obtain ⟨c2, e1, e2⟩ := q.put (Later.refl _ _ _) (fun _ _ _ => rfl) y.demote q.zs none_ q.rel.demote (V.demote_size y) (Foot.none_off _)
      rw [hc'] at e1
      obtain rfl := Option.some.inj e1
      have hxs := q.eq
      let fr : Foot := fun g' o' => regionFoot g of xs.length g' o' ∨ q.f2 g' o'
      have hrel2 : RelT F w ρ c' xs q.f2 := by
        have := e2 q.f2 (Foot.none_sub _) (Foot.Sub.refl _)
        rw [← hxs] at this
        exact this
      have hf2 : q.f2.Sub f := q.sub2
      have hreg : Region w fr g of xs := ⟨m2.reads, m2.free, fun j hj => .inl ⟨rfl, by omega, by omega⟩⟩
      have hR : RelR F w ρ (g, of) c' fr := relR_of hrel2 hreg (fun _ _ h => .inr h) (m4.mono hf2 (Foot.Sub.refl _))
      have hregs : (regionFoot g of xs.length).Sub (fam (.b id)) := by
        rintro g' o' ⟨rfl, h1, h2⟩
        have := m2.own (o' - of) (by omega)
        rwa [Nat.add_sub_cancel' h1] at this
      have hfrsub : fr.Sub (fun g o => fam (.b id) g o ∨ sumT fam [] g o) := by
        rintro g' o' (h | h)
        · exact .inl (hregs g' o' h)
        · exact .inl (m3 g' o' (hf2 g' o' h))
      obtain ⟨s1, s2⟩ := hs.block hm (Ext.refl w) [] k1 (fun _ _ _ => rfl) hfrsub hR
      have hq1 : q.f1.Sub (fam (.b id)) := q.sub1.trans m3
      have s3 := s2.put d (dstOk_lt hd hdst) n2 (fun i hi g' o' h1 h2 => by
          cases i with
          | t u =>
            simp only [famNew, List.not_mem_nil, if_false] at h2
            exact hs.off (.t u) (.b id) (by simp) g' o' h2 (hq1 g' o' h1)
          | b i =>
            simp only [famNew] at h2
            split at h2
            · rcases h2 with h2 | h2
              · exact m4 g' o' (q.sub1 g' o' h1) h2
              · exact q.off g' o' h1 h2
            · rename_i hne
              exact hs.off (.b i) (.b id) (fun e => hne (by cases e; rfl)) g' o' h2 (hq1 g' o' h1))
        (fun g' o' h1 h2 => hs.offF _ g' o' (hq1 g' o' h1) h2) (fun g' o' h1 => hs.new _ g' o' (hq1 g' o' h1)) (fun g' o' h1 => hs.lt _ g' o' (hq1 g' o' h1))
      exact .of hrun s1 s3 (by simp only [applyE, hdst, takes_nil]) (by rw [hdst])
  · rename_i y hev
    obtain ⟨hf, h⟩ := cond_some h
    obtain rfl := Option.some.inj h
    exact ValOK.op hm hs hd (sound_loadVp hs ho hev hf rfl) (fun id c h => by simp at h) rfl
theorem put_nav : ∀ {p : List Sel} {c y c' : V}, c.put p y = some c' → ∃ y', c.nav p = some y' ∧ y'.size = y.size := by
  intro p
  induction p with
  | nil =>
    intro c y c' h
    simp only [V.put] at h
    obtain ⟨hb, _⟩ := cond_some h
    exact ⟨c, rfl, Nat.eq_of_beq_eq_true hb⟩
  | cons s p ih =>
    intro c y c' h
    cases s with
    | fld j d =>
      simp only [V.put] at h
      obtain ⟨hb, h⟩ := cond_some h
      simp only [V.nav, hb, cond_true]
      cases hn : c.nth j with
      | none => rw [hn] at h; cases h
      | some z =>
        rw [hn] at h
        simp only at h
        cases hp : z.put p y with
        | none => rw [hp] at h; cases h
        | some z' => exact ih hp
    | idx s' n' i =>
      cases c with
      | arr s n get =>
        simp only [V.put] at h
        obtain ⟨hb, h⟩ := cond_some h
        simp only [V.nav, hb, cond_true]
        cases hp : (get i).put p y with
        | none => rw [hp] at h; cases h
        | some z' => exact ih hp
      | _ => simp [V.put] at h
theorem ext_setCells (b : Nat) : ∀ (vs : List Value) (o : Nat) (w : World), Ext w (w.setCells b o vs) := by
  intro vs
  induction vs with
  | nil => intro o w; exact Ext.refl w
  | cons v vs ih =>
    intro o w
    rw [World.setCells]
    refine Ext.trans ?_ (ih (o + 1) _)
    refine ⟨rfl, rfl, rfl, ?_, fun g x hx => ?_⟩
    · simp [World.setCell]
    · simp only [World.setCell, Array.getElem?_modify]
      split
      · rw [hx]
        cases x <;> simp [alike]
      · exact ⟨x, hx, alike.refl x⟩
theorem oneCells {x : V} : ∀ {cs : List Value} {fp : Foot} {ρ : Names}, RelT F w ρ x cs fp → ∀ v ∈ cs, v.oneCell' = true := by
  induction x with
  | undef => intro cs fp ρ h v hv; simp only [RelT] at h; obtain ⟨u, rfl, hu⟩ := h; simp at hv; rw [hv]; exact hu
  | int | bool | str | nilp | unit | nilf | nili => intro cs fp ρ h v hv; simp only [RelT] at h; subst h; simp at hv <;> (subst hv; rfl)
  | tup => intro cs fp ρ h; simp [RelT] at h
  | obox => intro cs fp ρ h v hv; simp only [RelT] at h; obtain ⟨A, rfl, _⟩ := h; simp at hv; subst hv; rfl
  | osl => intro cs fp ρ h v hv; simp only [RelT] at h; obtain ⟨A, c, rfl, _⟩ := h; simp at hv; subst hv; rfl
  | lent => intro cs fp ρ h v hv; simp only [RelT] at h; obtain ⟨g, o, A, c, _, rfl, _⟩ := h; simp at hv; subst hv; rfl
  | ptr id p => intro cs fp ρ h v hv; simp only [RelT] at h; obtain ⟨g, o, _, _, rfl⟩ := h; simp at hv; subst hv; rfl
  | own => intro cs fp ρ h v hv; simp only [RelT] at h; obtain ⟨g, o, c, A, _, _, rfl, _⟩ := h; simp at hv; subst hv; rfl
  | vp x ih => intro cs fp ρ h v hv; simp only [RelT] at h; obtain ⟨g, o, xs, rfl, _⟩ := h; simp at hv; subst hv; rfl
  | sl => intro cs fp ρ h v hv; simp only [RelT] at h; obtain ⟨A, c, rfl, _⟩ := h; simp at hv; subst hv; rfl
  | fn => intro cs fp ρ h v hv; simp only [RelT] at h; obtain ⟨xs, rfl, _⟩ := h; simp at hv; subst hv; rfl
  | iface => intro cs fp ρ h v hv; simp only [RelT] at h; obtain ⟨xs, y, rfl, _⟩ := h; simp at hv; subst hv; rfl
  | cons x r ihx ihr =>
    intro cs fp ρ h v hv
    simp only [RelT] at h
    obtain ⟨a, b, fa, fb, rfl, h2, h3, _⟩ := h
    rcases List.mem_append.1 hv with hv | hv
    · exact ihx h2 v hv
    · exact ihr h3 v hv
  | arr s n get ih =>
    intro cs fp ρ h v hv
    simp only [RelT] at h
    obtain ⟨f, fs, h1, _, rfl⟩ := h
    obtain ⟨i, hi, hv⟩ := List.mem_flatMap.1 hv
    exact ih i (h1 i (List.mem_range.1 hi)).2.1 v hv
theorem sound_store (hm : Mem Γ w F) (hs : Stand Γ F w ρ fam s a.tmps) (hd : dstOk a.tmps.size o = true) {t : TypeId} {x y : Operand} (ho : o.op = .store t x y) (h : opW P pol kn o s = some e) (hn : e.need = true) (hdst : o.dst = none) : OpOK P Γ s a w o e := by
  simp only [opW, ho] at h
  have hx := evalV_rel hs x
  split at h <;> (try cases h)
  rename_i id p hev
  rw [hev] at hx
  split at h <;> (try cases h)
  rename_i c hc
  obtain ⟨hfz, h⟩ := cond_some h
  simp only [Bool.and_eq_true] at hfz
  obtain ⟨hf, hzone⟩ := hfz
  split at h <;> (try cases h)
  rename_i c' hc'
  obtain ⟨g, of, k1, k2, k3⟩ := inv_ptr hx
  obtain ⟨dd, i, hu1, hu2, hsz, _, hone⟩ := fits_agg hf
  obtain ⟨fr, m1, m2⟩ := takeOf_sub (fam := fam) (evalV_rel hs y)
  have hr := cells_of (m1.one hone) (leaf_ne (m1.one hone))
  have hnav : ∃ y', c.nav p = some y' ∧ y'.size = (evalV s.tm y).size := put_nav hc'
  obtain ⟨y', hy', hysz⟩ := hnav
  obtain ⟨xs, f, n1, n2, n3, n4⟩ : ∃ xs f, RelT F w ρ c xs f ∧ Region w (fam (.b id)) g of xs ∧ f.Sub (fam (.b id)) ∧ f.Off (regionFoot g of xs.length) := by
    exact hs.bl id c (g, of) hc k1
  obtain ⟨q⟩ := nav_part p c k2 hn n1 hy'
  have hxs := q.eq
  have hfr_off : fr.Off (fam (.b id)) := by
    intro g' o' h1 h2
    obtain ⟨t', ht', h3⟩ := m2 g' o' h1
    exact hs.off (.t t') (.b id) (by simp) g' o' h3 h2
  obtain ⟨c2, e1, e2⟩ := q.put (Later.refl _ _ _) (fun _ _ _ => rfl) (evalV s.tm y) _ fr hr hysz.symm (hfr_off.mono (Foot.Sub.refl _) (q.sub2.trans n3))
  rw [hc'] at e1
  obtain rfl := Option.some.inj e1
  have hlen : (a.eval y).cells.toList.length = q.zs.length := by rw [hr.length, q.rel.length, hysz]
  have hcell : ∀ j, j < (a.eval y).cells.toList.length → (w.cell? ⟨g, of + pathOff p + 0 + j, none⟩).isSome = true ∧ w.frozen? ⟨g, of + pathOff p + 0 + j, none⟩ = false ∧ fam (.b id) g (of + pathOff p + j) := by
    intro j hj
    have hlt : pathOff p + j < xs.length := by
      have := congrArg List.length hxs
      simp only [List.length_append] at this
      have := q.len
      omega
    have h1 := n2.reads (pathOff p + j) _ (List.getElem?_eq_getElem hlt)
    have h2 := n2.free (pathOff p + j) hlt
    have h3 := n2.own (pathOff p + j) hlt
    rw [← Nat.add_assoc] at h1 h2 h3
    exact ⟨by rw [Nat.add_zero, h1]; rfl, by rw [Nat.add_zero]; exact h2, h3⟩
  have hst := run_storeCells_cells (P := P) g (of + pathOff p) (a.eval y).cells.toList 0 w (fun j hj => (hcell j hj).1) (fun j hj => (hcell j hj).2.1) (oneCells hr)
  rw [Nat.add_zero] at hst
  have hszz : (a.eval y).cells.size = i.size := by
    have := hr.length
    rw [Array.length_toList] at this
    omega
  have hrun : (execOp a.eval o).run P w = .ok .skip (w.setCells g (of + pathOff p) (a.eval y).cells.toList) := by
    simp only [execOp, ho, k3, Instr.storeAt, Instr.sureAddr, Sem.run_bind, Sem.run_pure, Result.andThen_ok, storeVar, Go.sizeOf, rti hu2, hszz, ne_eq, not_true_eq_false, if_false, hst]
  have hE := ext_setCells g (a.eval y).cells.toList (of + pathOff p) w
  have hch : ∀ g' o', ¬ fam (.b id) g' o' → (w.setCells g (of + pathOff p) (a.eval y).cells.toList).cell? ⟨g', o', none⟩ = w.cell? ⟨g', o', none⟩ := by
    intro g' o' hn
    refine World.cell?_setCells_out g _ _ w _ fun hb _ => ?_
    simp only at hb ⊢
    subst hb
    by_cases h1 : o' < of + pathOff p
    · exact .inl h1
    · right
      by_cases h2 : of + pathOff p + (a.eval y).cells.toList.length ≤ o'
      · exact h2
      · exfalso
        apply hn
        have := (hcell (o' - (of + pathOff p)) (by omega)).2.2
        rwa [Nat.add_sub_cancel' (by omega)] at this
  let fr2 : Foot := fun g' o' => regionFoot g of xs.length g' o' ∨ (fr.or q.f2) g' o'
  have hlx := congrArg List.length hxs
  simp only [List.length_append] at hlx
  have hlq := q.len
  have hrel0 := e2 (fr.or q.f2) (Foot.sub_left _ _) (Foot.sub_right _ _)
  have hsF : Same w (w.setCells g (of + pathOff p) (a.eval y).cells.toList) F := fun g' o' hg => hch g' o' fun hb => hs.offF _ g' o' hb hg
  have hout : ∀ g' o', ¬ regionFoot g of xs.length g' o' → (w.setCells g (of + pathOff p) (a.eval y).cells.toList).cell? ⟨g', o', none⟩ = w.cell? ⟨g', o', none⟩ := by
    intro g' o' hn
    refine World.cell?_setCells_out g _ _ w _ fun hb _ => ?_
    simp only at hb ⊢
    subst hb
    by_cases h1 : o' < of + pathOff p
    · exact .inl h1
    · exact .inr (Nat.le_of_not_lt fun h2 => hn ⟨rfl, by omega, by omega⟩)
  have hrel1 := hrel0.keep hE (Foot.Sub.refl _) hsF c' (fun _ _ h => h) (fun g' o' h => hout g' o' fun hb => by
    rcases h with h | h
    · obtain ⟨e1, e2, e3⟩ := hb
      subst e1
      have := n2.own (o' - of) (by omega)
      rw [Nat.add_sub_cancel' e2] at this
      exact hfr_off _ _ h this
    · exact n4 _ _ (q.sub2 _ _ h) hb) (Foot.Sub.refl _)
  have hlen2 : (q.pre ++ (a.eval y).cells.toList ++ q.post).length = xs.length := by simp only [List.length_append]; omega
  have hreg : Region (w.setCells g (of + pathOff p) (a.eval y).cells.toList) fr2 g of (q.pre ++ (a.eval y).cells.toList ++ q.post) := by
    refine ⟨fun j u hu => ?_, fun j hj => ?_, fun j hj => .inl ⟨rfl, by omega, by omega⟩⟩
    · have hj := (List.getElem?_eq_some_iff.1 hu).1
      by_cases h1 : j < q.pre.length
      · rw [World.cell?_setCells_out g _ _ w _ (fun _ _ => .inl (by simp only; omega))]
        rw [List.append_assoc, List.getElem?_append_left h1] at hu
        refine n2.reads j u ?_
        rw [hxs, List.append_assoc, List.getElem?_append_left h1]
        exact hu
      · by_cases h2 : j < q.pre.length + (a.eval y).cells.toList.length
        · rw [List.getElem?_append_left (by rw [List.length_append]; exact h2), List.getElem?_append_right (by omega)] at hu
          have hin := World.cell?_setCells_in g (a.eval y).cells.toList (of + pathOff p) w (fun j hj => by have := (hcell j hj).1; rwa [Nat.add_zero] at this) (j - q.pre.length) (by omega)
          have e : of + pathOff p + (j - q.pre.length) = of + j := by omega
          rw [e] at hin
          rw [hin]
          rw [List.getElem?_eq_getElem (by omega)] at hu
          exact hu
        · rw [World.cell?_setCells_out g _ _ w _ (fun _ _ => .inr (by simp only; omega))]
          rw [List.getElem?_append_right (by rw [List.length_append]; omega)] at hu
          refine n2.reads j u ?_
          rw [hxs, List.getElem?_append_right (by rw [List.length_append]; omega)]
          rw [List.length_append] at hu ⊢
          rw [← hu]
          congr 1
          omega
    · rw [World.frozen?_setCells]
      exact n2.free j (by omega)
  have hR : RelR F (w.setCells g (of + pathOff p) (a.eval y).cells.toList) ρ (g, of) c' fr2 := by
    refine relR_of hrel1 hreg (fun _ _ h => .inr h) ?_
    rw [hlen2]
    refine Foot.or_off (fun g' o' h1 h2 => ?_) (n4.mono q.sub2 (Foot.Sub.refl _))
    obtain ⟨h3, h4, h5⟩ := h2
    subst h3
    have := n2.own (o' - of) (by omega)
    rw [Nat.add_sub_cancel' h4] at this
    exact hfr_off _ _ h1 this
  have hregs : (regionFoot g of xs.length).Sub (fam (.b id)) := by
    rintro g' o' ⟨rfl, h1, h2⟩
    have := n2.own (o' - of) (by omega)
    rwa [Nat.add_sub_cancel' h1] at this
  have hfrsub : fr2.Sub (fun g o => fam (.b id) g o ∨ sumT fam (takeOf y (evalV s.tm y)) g o) := by
    rintro g' o' (h | h | h)
    · exact .inl (hregs g' o' h)
    · exact .inr (m2 g' o' h)
    · exact .inl (n3 g' o' (q.sub2 g' o' h))
  obtain ⟨s1, s2⟩ := hs.block hm hE (takeOf y (evalV s.tm y)) k1 hch hfrsub hR
  exact .of_skip hrun s1 s2 (by simp only [applyE, hdst]) (by rw [hdst]; rfl)
end
end Go.Vm
end
