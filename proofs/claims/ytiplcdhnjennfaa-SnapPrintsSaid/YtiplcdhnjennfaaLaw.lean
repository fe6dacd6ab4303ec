/- The law SnapPrints holds for every input: it returns true, and the input reads as it did. No condition. -/
import Derived.Test.YtiplcdhnjennfaaGC
import Derived.Test.YtiplcdhnjennfaaRows
namespace Go.Proofs.Ytiplcdhnjennfaa
open Go Go.Vm Go.Proofs
set_option maxRecDepth 100000
open Go.ChangeShapes Go.WideShapes Go.ChangeAt Go.RowKit
theorem fin_true {P : Program} {R : Type} {t e : TT P R} {r : R} : (TT.ite true t e).Fin r ↔ t.Fin r := by simp [TT.Fin]
theorem fin_false {P : Program} {R : Type} {t e : TT P R} {r : R} : (TT.ite false t e).Fin r ↔ e.Fin r := by simp [TT.Fin]
theorem fin_need_true {P : Program} {R : Type} {t : TT P R} {r : R} : (TT.need true t).Fin r ↔ t.Fin r := by simp [TT.Fin]

/-! slices.Equal of numbers, of slots; the references' own -/
def eqI (a b : Sl Int) : Bool := ieq (a.n : Int) (b.n : Int) && allF (fun i => ieq (a.get i) (b.get i)) a.n 0
def sameSlot (a b : TApi_Slot) : Bool := ieq a.Stamp b.Stamp && (ieq a.Value b.Value && (ieq a.Left b.Left && true))
def eqS (a b : Sl TApi_Slot) : Bool := ieq (a.n : Int) (b.n : Int) && allF (fun i => sameSlot (a.get i) (b.get i)) a.n 0

theorem ieq_nat {a b : Nat} : ieq (a : Int) (b : Int) = true ↔ a = b := by simp [ieq]; omega

theorem l_f44_4 (a b : Sl Int) (h : a.n ≤ maxLen) (hn : a.n = b.n) {k : Nat} (hk : k ≤ a.n) : D_f44_4.rel ⟨a, b, a.n, k⟩ (allF (fun i => ieq (a.get i) (b.get i)) a.n k) := by
  refine loop_rel (fun k => (⟨a, b, a.n, k⟩ : X_f44_4)) (allF (fun i => ieq (a.get i) (b.get i)) a.n) a.n (fun D => ?_) (fun D k hk hD => ?_) hk
  · simp only [tt_f44_4, ilt_nat, Nat.lt_irrefl, decide_false, fin_false, allF_end]
    rfl
  · simp only [tt_f44_4, ilt_nat, hk, decide_true, fin_true, inb_nat hk, inb_nat (hn ▸ hk), fin_need_true, Int.toNat_natCast, next64 hk h, allF_step hk]
    cases hp : ieq (a.get k) (b.get k)
    · simp only [Bool.not_false, fin_true, Bool.false_and]; rfl
    · simp only [Bool.not_true, fin_false, Bool.true_and]; exact hD
theorem r_f44 (a b : Sl Int) (h : a.n ≤ maxLen) : D_f44.rel (a, b) (eqI a b) := by
  show (tt_f44 (a, b)).Fin _
  simp only [tt_f44, eqI]
  cases hn : ieq (a.n : Int) (b.n : Int)
  · simp only [Bool.not_false, fin_true, Bool.false_and]; rfl
  · simp only [Bool.not_true, fin_false, Bool.true_and]
    exact l_f44_4 a b h (ieq_nat.1 hn) (Nat.zero_le _)

theorem l_f61_4 (a b : Sl Int) (h : a.n ≤ maxLen) (hn : a.n = b.n) {k : Nat} (hk : k ≤ a.n) : D_f61_4.rel ⟨a, b, k⟩ (allF (fun i => ieq (a.get i) (b.get i)) a.n k) := by
  refine loop_rel (fun k => (⟨a, b, k⟩ : X_f61_4)) (allF (fun i => ieq (a.get i) (b.get i)) a.n) a.n (fun D => ?_) (fun D k hk hD => ?_) hk
  · simp only [tt_f61_4, ilt_nat, Nat.lt_irrefl, decide_false, fin_false, allF_end]
    rfl
  · simp only [tt_f61_4, ilt_nat, hk, decide_true, fin_true, inb_nat hk, inb_nat (hn ▸ hk), fin_need_true, Int.toNat_natCast, next64 hk h, allF_step hk]
    cases hp : ieq (a.get k) (b.get k)
    · simp only [Bool.not_false, fin_true, Bool.false_and]; rfl
    · simp only [Bool.not_true, fin_false, Bool.true_and]; exact hD
theorem r_f61 (a b : Sl Int) (h : a.n ≤ maxLen) : D_f61.rel (a, b) (eqI a b) := by
  show (tt_f61 (a, b)).Fin _
  simp only [tt_f61, eqI]
  cases hn : ieq (a.n : Int) (b.n : Int)
  · simp only [Bool.not_false, fin_true, Bool.false_and]; rfl
  · simp only [Bool.not_true, fin_false, Bool.true_and]
    exact l_f61_4 a b h (ieq_nat.1 hn) (Nat.zero_le _)

theorem l_f45_4 (a b : Sl TApi_Slot) (h : a.n ≤ maxLen) (hn : a.n = b.n) {k : Nat} (hk : k ≤ a.n) : D_f45_4.rel ⟨a, b, a.n, k⟩ (allF (fun i => sameSlot (a.get i) (b.get i)) a.n k) := by
  refine loop_rel (fun k => (⟨a, b, a.n, k⟩ : X_f45_4)) (allF (fun i => sameSlot (a.get i) (b.get i)) a.n) a.n (fun D => ?_) (fun D k hk hD => ?_) hk
  · simp only [tt_f45_4, ilt_nat, Nat.lt_irrefl, decide_false, fin_false, allF_end]
    rfl
  · simp only [tt_f45_4, ilt_nat, hk, decide_true, fin_true, inb_nat hk, inb_nat (hn ▸ hk), fin_need_true, Int.toNat_natCast, next64 hk h, allF_step hk]
    change (TT.ite (!(sameSlot (a.get k) (b.get k))) _ _).Fin _
    cases hp : sameSlot (a.get k) (b.get k)
    · simp only [Bool.not_false, fin_true, Bool.false_and]; rfl
    · simp only [Bool.not_true, fin_false, Bool.true_and]; exact hD
theorem r_f45 (a b : Sl TApi_Slot) (h : a.n ≤ maxLen) : D_f45.rel (a, b) (eqS a b) := by
  show (tt_f45 (a, b)).Fin _
  simp only [tt_f45, eqS]
  cases hn : ieq (a.n : Int) (b.n : Int)
  · simp only [Bool.not_false, fin_true, Bool.false_and]; rfl
  · simp only [Bool.not_true, fin_false, Bool.true_and]
    exact l_f45_4 a b h (ieq_nat.1 hn) (Nat.zero_le _)

theorem l_f62_4 (a b : Sl TApi_Slot) (h : a.n ≤ maxLen) (hn : a.n = b.n) {k : Nat} (hk : k ≤ a.n) : D_f62_4.rel ⟨a, b, k⟩ (allF (fun i => sameSlot (a.get i) (b.get i)) a.n k) := by
  refine loop_rel (fun k => (⟨a, b, k⟩ : X_f62_4)) (allF (fun i => sameSlot (a.get i) (b.get i)) a.n) a.n (fun D => ?_) (fun D k hk hD => ?_) hk
  · simp only [tt_f62_4, ilt_nat, Nat.lt_irrefl, decide_false, fin_false, allF_end]
    rfl
  · simp only [tt_f62_4, ilt_nat, hk, decide_true, fin_true, inb_nat hk, inb_nat (hn ▸ hk), fin_need_true, Int.toNat_natCast, next64 hk h, allF_step hk]
    change (TT.ite (!(sameSlot (a.get k) (b.get k))) _ _).Fin _
    cases hp : sameSlot (a.get k) (b.get k)
    · simp only [Bool.not_false, fin_true, Bool.false_and]; rfl
    · simp only [Bool.not_true, fin_false, Bool.true_and]; exact hD
theorem r_f62 (a b : Sl TApi_Slot) (h : a.n ≤ maxLen) : D_f62.rel (a, b) (eqS a b) := by
  show (tt_f62 (a, b)).Fin _
  simp only [tt_f62, eqS]
  cases hn : ieq (a.n : Int) (b.n : Int)
  · simp only [Bool.not_false, fin_true, Bool.false_and]; rfl
  · simp only [Bool.not_true, fin_false, Bool.true_and]
    exact l_f62_4 a b h (ieq_nat.1 hn) (Nat.zero_le _)

/-! threads, rings -/
def rE (a b : Nat → Int) : Bool := ((Go.Vm.ieq (a (0 : Nat)) (b (0 : Nat))) && ((Go.Vm.ieq (a ((0 : Nat) + (1 : Nat))) (b ((0 : Nat) + (1 : Nat)))) && ((Go.Vm.ieq (a (((0 : Nat) + (1 : Nat)) + (1 : Nat))) (b (((0 : Nat) + (1 : Nat)) + (1 : Nat)))) && ((Go.Vm.ieq (a ((((0 : Nat) + (1 : Nat)) + (1 : Nat)) + (1 : Nat))) (b ((((0 : Nat) + (1 : Nat)) + (1 : Nat)) + (1 : Nat)))) && ((Go.Vm.ieq (a (((((0 : Nat) + (1 : Nat)) + (1 : Nat)) + (1 : Nat)) + (1 : Nat))) (b (((((0 : Nat) + (1 : Nat)) + (1 : Nat)) + (1 : Nat)) + (1 : Nat)))) && ((Go.Vm.ieq (a ((((((0 : Nat) + (1 : Nat)) + (1 : Nat)) + (1 : Nat)) + (1 : Nat)) + (1 : Nat))) (b ((((((0 : Nat) + (1 : Nat)) + (1 : Nat)) + (1 : Nat)) + (1 : Nat)) + (1 : Nat)))) && ((Go.Vm.ieq (a (((((((0 : Nat) + (1 : Nat)) + (1 : Nat)) + (1 : Nat)) + (1 : Nat)) + (1 : Nat)) + (1 : Nat))) (b (((((((0 : Nat) + (1 : Nat)) + (1 : Nat)) + (1 : Nat)) + (1 : Nat)) + (1 : Nat)) + (1 : Nat)))) && ((Go.Vm.ieq (a ((((((((0 : Nat) + (1 : Nat)) + (1 : Nat)) + (1 : Nat)) + (1 : Nat)) + (1 : Nat)) + (1 : Nat)) + (1 : Nat))) (b ((((((((0 : Nat) + (1 : Nat)) + (1 : Nat)) + (1 : Nat)) + (1 : Nat)) + (1 : Nat)) + (1 : Nat)) + (1 : Nat)))) && true))))))))
def sameT (a b : TApi_ThreadState) : Bool := ieq a.At b.At && (ieq a.Phase b.Phase && (ieq a.Ring b.Ring && (ieq a.Status b.Status && (ieq a.Ticket b.Ticket && (rE a.Regs b.Regs && eqI a.Seen b.Seen)))))
def sameR (a b : TApi_RingState) : Bool := ieq a.Tail b.Tail && ((a.Closed == b.Closed) && (eqI a.Heads b.Heads && eqS a.Slots b.Slots))
def okT (t : TApi_ThreadState) : Prop := t.Seen.n ≤ maxLen
def okR (r : TApi_RingState) : Prop := r.Heads.n ≤ maxLen ∧ r.Slots.n ≤ maxLen
structure okS (s : TApi_State) : Prop where
  t : s.Threads.n ≤ maxLen
  r : s.Rings.n ≤ maxLen
  ts : ∀ i, i < s.Threads.n → okT (s.Threads.get i)
  rs : ∀ i, i < s.Rings.n → okR (s.Rings.get i)

theorem r_f22 (a b : TApi_ThreadState) (h : okT a) : D_f22.rel (a, b) (sameT a b) := by
  show (tt_f22 (a, b)).Fin _
  simp only [tt_f22, sameT]
  cases ieq a.At b.At
  · simp only [fin_false, Bool.false_and]; rfl
  cases ieq a.Phase b.Phase
  · simp only [fin_true, fin_false, Bool.false_and, Bool.true_and]; rfl
  cases ieq a.Ring b.Ring
  · simp only [fin_true, fin_false, Bool.false_and, Bool.true_and]; rfl
  cases ieq a.Status b.Status
  · simp only [fin_true, fin_false, Bool.false_and, Bool.true_and]; rfl
  cases ieq a.Ticket b.Ticket
  · simp only [fin_true, fin_false, Bool.false_and, Bool.true_and]; rfl
  simp only [fin_true, Bool.true_and]
  change (TT.ite (rE a.Regs b.Regs) _ _).Fin _
  cases rE a.Regs b.Regs
  · simp only [fin_false, Bool.false_and]; rfl
  · simp only [fin_true, Bool.true_and]; exact fin_call _ (r_f44 _ _ h) rfl
theorem r_f46 (a b : TApi_ThreadState) (h : okT a) : D_f46.rel (a, b) (sameT a b) := by
  show (tt_f46 (a, b)).Fin _
  simp only [tt_f46, sameT]
  cases ieq a.At b.At
  · simp only [fin_false, Bool.false_and]; rfl
  cases ieq a.Phase b.Phase
  · simp only [fin_true, fin_false, Bool.false_and, Bool.true_and]; rfl
  cases ieq a.Ring b.Ring
  · simp only [fin_true, fin_false, Bool.false_and, Bool.true_and]; rfl
  cases ieq a.Status b.Status
  · simp only [fin_true, fin_false, Bool.false_and, Bool.true_and]; rfl
  cases ieq a.Ticket b.Ticket
  · simp only [fin_true, fin_false, Bool.false_and, Bool.true_and]; rfl
  simp only [fin_true, Bool.true_and]
  change (TT.ite (rE a.Regs b.Regs) _ _).Fin _
  cases rE a.Regs b.Regs
  · simp only [fin_false, Bool.false_and]; rfl
  · simp only [fin_true, Bool.true_and]; exact fin_call _ (r_f61 _ _ h) rfl

theorem r_f24 (a b : TApi_RingState) (h : okR a) : D_f24.rel (a, b) (sameR a b) := by
  show (tt_f24 (a, b)).Fin _
  simp only [tt_f24, sameR]
  cases ieq a.Tail b.Tail
  · simp only [fin_false, Bool.false_and]; rfl
  cases a.Closed == b.Closed
  · simp only [fin_true, fin_false, Bool.false_and, Bool.true_and]; rfl
  simp only [fin_true, Bool.true_and]
  refine fin_call _ (r_f44 _ _ h.1) ?_
  cases eqI a.Heads b.Heads
  · simp only [fin_false, Bool.false_and]; rfl
  · simp only [fin_true, Bool.true_and]; exact fin_call _ (r_f45 _ _ h.2) rfl

theorem l_f47_4 (a b : TApi_RingState) (h : a.Heads.n ≤ maxLen) (hn : a.Heads.n = b.Heads.n) {k : Nat} (hk : k ≤ a.Heads.n) : D_f47_4.rel ⟨a, b, k⟩ (allF (fun i => ieq (a.Heads.get i) (b.Heads.get i)) a.Heads.n k) := by
  refine loop_rel (fun k => (⟨a, b, k⟩ : X_f47_4)) (allF (fun i => ieq (a.Heads.get i) (b.Heads.get i)) a.Heads.n) a.Heads.n (fun D => ?_) (fun D k hk hD => ?_) hk
  · simp only [tt_f47_4, ilt_nat, Nat.lt_irrefl, decide_false, fin_false, allF_end]
    rfl
  · simp only [tt_f47_4, ilt_nat, hk, decide_true, fin_true, inb_nat hk, inb_nat (hn ▸ hk), fin_need_true, Int.toNat_natCast, next64 hk h, allF_step hk]
    cases hp : ieq (a.Heads.get k) (b.Heads.get k)
    · simp only [Bool.not_false, fin_true, Bool.false_and]; rfl
    · simp only [Bool.not_true, fin_false, Bool.true_and]; exact hD
theorem r_f47 (a b : TApi_RingState) (h : okR a) : D_f47.rel (a, b) (sameR a b) := by
  show (tt_f47 (a, b)).Fin _
  simp only [tt_f47, sameR]
  cases ieq a.Tail b.Tail
  · simp only [Bool.not_false, fin_true, Bool.false_and]; rfl
  cases a.Closed == b.Closed
  · simp only [Bool.not_false, Bool.not_true, fin_false, fin_true, Bool.false_and, Bool.true_and]; rfl
  simp only [Bool.not_true, fin_false, Bool.true_and]
  cases hn : ieq (a.Heads.n : Int) (b.Heads.n : Int)
  · simp only [Bool.not_false, fin_true, eqI, hn, Bool.false_and]; rfl
  simp only [Bool.not_true, fin_false]
  refine fin_call _ (r_f62 _ _ h.2) ?_
  cases eqS a.Slots b.Slots
  · simp only [Bool.not_false, fin_true, Bool.and_false]; rfl
  · simp only [Bool.not_true, fin_false, Bool.and_true, eqI, hn, Bool.true_and]
    exact l_f47_4 a b h.1 (ieq_nat.1 hn) (Nat.zero_le _)

def sameTs (a b : Sl TApi_ThreadState) : Bool := ieq (a.n : Int) (b.n : Int) && allF (fun i => sameT (a.get i) (b.get i)) a.n 0
def sameRs (a b : Sl TApi_RingState) : Bool := ieq (a.n : Int) (b.n : Int) && allF (fun i => sameR (a.get i) (b.get i)) a.n 0
def same (s t : TApi_State) : Bool := sameTs s.Threads t.Threads && (sameRs s.Rings t.Rings && (ieq s.Now t.Now && (ieq s.Reads t.Reads && (s.Ended == t.Ended))))

theorem l_f21v0_4 (a b : Sl TApi_ThreadState) (h : a.n ≤ maxLen) (hn : a.n = b.n) (ho : ∀ i, i < a.n → okT (a.get i)) {k : Nat} (hk : k ≤ a.n) : D_f21v0_4.rel ⟨b, a, a.n, k⟩ (allF (fun i => sameT (a.get i) (b.get i)) a.n k) := by
  refine loop_rel (fun k => (⟨b, a, a.n, k⟩ : X_f21v0_4)) (allF (fun i => sameT (a.get i) (b.get i)) a.n) a.n (fun D => ?_) (fun D k hk hD => ?_) hk
  · simp only [tt_f21v0_4, ilt_nat, Nat.lt_irrefl, decide_false, fin_false, allF_end]
    rfl
  · simp only [tt_f21v0_4, ilt_nat, hk, decide_true, fin_true, inb_nat hk, inb_nat (hn ▸ hk), fin_need_true, Int.toNat_natCast, next64 hk h, allF_step hk]
    refine fin_call _ (r_f22 _ _ (ho k hk)) ?_
    cases sameT (a.get k) (b.get k)
    · simp only [Bool.not_false, fin_true, Bool.false_and]; rfl
    · simp only [Bool.not_true, fin_false, Bool.true_and]; exact hD
theorem r_f21v0 (a b : Sl TApi_ThreadState) (h : a.n ≤ maxLen) (ho : ∀ i, i < a.n → okT (a.get i)) : D_f21v0.rel (a, b) (sameTs a b) := by
  show (tt_f21v0 (a, b)).Fin _
  simp only [tt_f21v0, sameTs]
  cases hn : ieq (a.n : Int) (b.n : Int)
  · simp only [Bool.not_false, fin_true, Bool.false_and]; rfl
  · simp only [Bool.not_true, fin_false, Bool.true_and]
    exact l_f21v0_4 a b h (ieq_nat.1 hn) ho (Nat.zero_le _)

theorem l_f23v0_4 (a b : Sl TApi_RingState) (h : a.n ≤ maxLen) (hn : a.n = b.n) (ho : ∀ i, i < a.n → okR (a.get i)) {k : Nat} (hk : k ≤ a.n) : D_f23v0_4.rel ⟨b, a, a.n, k⟩ (allF (fun i => sameR (a.get i) (b.get i)) a.n k) := by
  refine loop_rel (fun k => (⟨b, a, a.n, k⟩ : X_f23v0_4)) (allF (fun i => sameR (a.get i) (b.get i)) a.n) a.n (fun D => ?_) (fun D k hk hD => ?_) hk
  · simp only [tt_f23v0_4, ilt_nat, Nat.lt_irrefl, decide_false, fin_false, allF_end]
    rfl
  · simp only [tt_f23v0_4, ilt_nat, hk, decide_true, fin_true, inb_nat hk, inb_nat (hn ▸ hk), fin_need_true, Int.toNat_natCast, next64 hk h, allF_step hk]
    refine fin_call _ (r_f24 _ _ (ho k hk)) ?_
    cases sameR (a.get k) (b.get k)
    · simp only [Bool.not_false, fin_true, Bool.false_and]; rfl
    · simp only [Bool.not_true, fin_false, Bool.true_and]; exact hD
theorem r_f23v0 (a b : Sl TApi_RingState) (h : a.n ≤ maxLen) (ho : ∀ i, i < a.n → okR (a.get i)) : D_f23v0.rel (a, b) (sameRs a b) := by
  show (tt_f23v0 (a, b)).Fin _
  simp only [tt_f23v0, sameRs]
  cases hn : ieq (a.n : Int) (b.n : Int)
  · simp only [Bool.not_false, fin_true, Bool.false_and]; rfl
  · simp only [Bool.not_true, fin_false, Bool.true_and]
    exact l_f23v0_4 a b h (ieq_nat.1 hn) ho (Nat.zero_le _)

theorem r_f8 (s t : TApi_State) (h : okS s) : D_f8.rel (s, t) (same s t) := by
  show (tt_f8 (s, t)).Fin _
  simp only [tt_f8, same]
  refine fin_call _ (r_f21v0 _ _ h.t h.ts) ?_
  cases sameTs s.Threads t.Threads
  · simp only [fin_false, Bool.false_and]; rfl
  simp only [fin_true, Bool.true_and]
  refine fin_call _ (r_f23v0 _ _ h.r h.rs) ?_
  cases sameRs s.Rings t.Rings
  · simp only [fin_false, Bool.false_and]; rfl
  cases ieq s.Now t.Now
  · simp only [fin_true, fin_false, Bool.false_and, Bool.true_and]; rfl
  cases ieq s.Reads t.Reads
  · simp only [fin_true, fin_false, Bool.false_and, Bool.true_and]; rfl
  simp only [fin_true, Bool.true_and]
  rfl

theorem l_f25_9 (s t : TApi_State) (h : okS s) (hn : s.Rings.n = t.Rings.n) {k : Nat} (hk : k ≤ s.Rings.n) : D_f25_9.rel ⟨s, t, k⟩ (allF (fun i => sameR (s.Rings.get i) (t.Rings.get i)) s.Rings.n k) := by
  refine loop_rel (fun k => (⟨s, t, k⟩ : X_f25_9)) (allF (fun i => sameR (s.Rings.get i) (t.Rings.get i)) s.Rings.n) s.Rings.n (fun D => ?_) (fun D k hk hD => ?_) hk
  · simp only [tt_f25_9, ilt_nat, Nat.lt_irrefl, decide_false, fin_false, allF_end]
    rfl
  · simp only [tt_f25_9, ilt_nat, hk, decide_true, fin_true, inb_nat hk, inb_nat (hn ▸ hk), fin_need_true, Int.toNat_natCast, next64 hk h.r, allF_step hk]
    refine fin_call _ (r_f47 _ _ (h.rs k hk)) ?_
    cases sameR (s.Rings.get k) (t.Rings.get k)
    · simp only [Bool.not_false, fin_true, Bool.false_and]; rfl
    · simp only [Bool.not_true, fin_false, Bool.true_and]; exact hD
theorem l_f25_4 (s t : TApi_State) (h : okS s) (hn : s.Threads.n = t.Threads.n) (hn2 : s.Rings.n = t.Rings.n) {k : Nat} (hk : k ≤ s.Threads.n) :
    D_f25_4.rel ⟨s, t, k⟩ (allF (fun i => sameT (s.Threads.get i) (t.Threads.get i)) s.Threads.n k && allF (fun i => sameR (s.Rings.get i) (t.Rings.get i)) s.Rings.n 0) := by
  refine loop_rel (fun k => (⟨s, t, k⟩ : X_f25_4)) (fun k => allF (fun i => sameT (s.Threads.get i) (t.Threads.get i)) s.Threads.n k && allF (fun i => sameR (s.Rings.get i) (t.Rings.get i)) s.Rings.n 0) s.Threads.n (fun D => ?_) (fun D k hk hD => ?_) hk
  · simp only [tt_f25_4, ilt_nat, Nat.lt_irrefl, decide_false, fin_false, allF_end, Bool.true_and]
    exact l_f25_9 s t h hn2 (Nat.zero_le _)
  · simp only [tt_f25_4, ilt_nat, hk, decide_true, fin_true, inb_nat hk, inb_nat (hn ▸ hk), fin_need_true, Int.toNat_natCast, next64 hk h.t, allF_step hk]
    refine fin_call _ (r_f46 _ _ (h.ts k hk)) ?_
    cases sameT (s.Threads.get k) (t.Threads.get k)
    · simp only [Bool.not_false, fin_true, Bool.false_and]; rfl
    · simp only [Bool.not_true, fin_false, Bool.true_and]; exact hD
theorem r_f25 (s t : TApi_State) (h : okS s) : D_f25.rel (s, t) (same s t) := by
  show (tt_f25 (s, t)).Fin _
  simp only [tt_f25, same, sameTs, sameRs]
  cases hn : ieq (s.Threads.n : Int) (t.Threads.n : Int)
  · simp only [Bool.not_false, fin_true, Bool.false_and]; rfl
  cases hn2 : ieq (s.Rings.n : Int) (t.Rings.n : Int)
  · simp only [Bool.not_false, Bool.not_true, fin_false, fin_true, Bool.false_and, Bool.and_false]; rfl
  cases ieq s.Now t.Now
  · simp only [Bool.not_false, Bool.not_true, fin_false, fin_true, Bool.false_and, Bool.and_false]; rfl
  cases ieq s.Reads t.Reads
  · simp only [Bool.not_false, Bool.not_true, fin_false, fin_true, Bool.false_and, Bool.and_false, Bool.true_and]; rfl
  cases s.Ended == t.Ended
  · simp only [Bool.not_false, Bool.not_true, fin_false, fin_true, Bool.and_false, Bool.true_and]; rfl
  simp only [Bool.not_true, fin_false, Bool.true_and, Bool.and_true]
  exact l_f25_4 s t h (ieq_nat.1 hn) (ieq_nat.1 hn2) (Nat.zero_le _)
theorem r_f9 (s t : TApi_State) (h : okS s) : D_f9.rel (s, t) (same s t) := by
  show (tt_f9 (s, t)).Fin _
  exact fin_call _ (r_f25 s t h) rfl

theorem ieq_self (a : Int) : ieq a a = true := by simp [ieq]
theorem eqI_self (a : Sl Int) : eqI a a = true := by simp [eqI, ieq_self, allF_iff]
theorem eqS_self (a : Sl TApi_Slot) : eqS a a = true := by simp [eqS, sameSlot, ieq_self, allF_iff]
theorem sameT_self (a : TApi_ThreadState) : sameT a a = true := by simp [sameT, rE, ieq_self, eqI_self]
theorem sameR_self (a : TApi_RingState) : sameR a a = true := by simp [sameR, ieq_self, eqI_self, eqS_self]
theorem same_self (s : TApi_State) : same s s = true := by simp [same, sameTs, sameRs, ieq_self, sameT_self, sameR_self, allF_iff]
/-! few -/
def fewT (t : TApi_ThreadState) : Bool := !decide (100 < t.Seen.n)
def fewR (r : TApi_RingState) : Bool := !decide (20 < r.Heads.n) && !decide (80 < r.Slots.n)
def few (s : TApi_State) : Bool := !decide (10 < s.Threads.n) && (!decide (10 < s.Rings.n) && (allF (fun i => fewT (s.Threads.get i)) s.Threads.n 0 && allF (fun i => fewR (s.Rings.get i)) s.Rings.n 0))


theorem l_f6_9 (s : TApi_State) (h : okS s) {k : Nat} (hk : k ≤ s.Rings.n) : D_f6_9.rel ⟨s, k⟩ (allF (fun i => fewR (s.Rings.get i)) s.Rings.n k) := by
  refine loop_rel (fun k => (⟨s, k⟩ : X_f6_9)) (allF (fun i => fewR (s.Rings.get i)) s.Rings.n) s.Rings.n (fun D => ?_) (fun D k hk hD => ?_) hk
  · simp only [tt_f6_9, ilt_nat, Nat.lt_irrefl, decide_false, fin_false, allF_end]
    rfl
  · simp only [tt_f6_9, ilt_nat, hk, decide_true, fin_true, inb_nat hk, fin_need_true, Int.toNat_natCast, allF_step hk, fewR]
    rw [show ilt (20 : Int) (((s.Rings.get k).Heads.n : Nat) : Int) = decide (20 < (s.Rings.get k).Heads.n) from by simp [ilt]; omega]
    rw [show ilt (80 : Int) (((s.Rings.get k).Slots.n : Nat) : Int) = decide (80 < (s.Rings.get k).Slots.n) from by simp [ilt]; omega]
    cases decide (20 < (s.Rings.get k).Heads.n)
    · cases decide (80 < (s.Rings.get k).Slots.n)
      · simp only [Bool.not_false, fin_false, fin_need_true, Bool.true_and]
        show D.rel _ _
        simp only [next64 hk h.r]
        exact hD
      · simp only [Bool.not_true, fin_true, fin_false, fin_need_true, Bool.false_and, Bool.and_false]; rfl
    · simp only [Bool.not_true, fin_true, Bool.false_and]; rfl
theorem l_f6_4 (s : TApi_State) (h : okS s) {k : Nat} (hk : k ≤ s.Threads.n) : D_f6_4.rel ⟨s, k⟩ (allF (fun i => fewT (s.Threads.get i)) s.Threads.n k && allF (fun i => fewR (s.Rings.get i)) s.Rings.n 0) := by
  refine loop_rel (fun k => (⟨s, k⟩ : X_f6_4)) (fun k => allF (fun i => fewT (s.Threads.get i)) s.Threads.n k && allF (fun i => fewR (s.Rings.get i)) s.Rings.n 0) s.Threads.n (fun D => ?_) (fun D k hk hD => ?_) hk
  · simp only [tt_f6_4, ilt_nat, Nat.lt_irrefl, decide_false, fin_false, allF_end, Bool.true_and]
    exact l_f6_9 s h (Nat.zero_le _)
  · simp only [tt_f6_4, ilt_nat, hk, decide_true, fin_true, inb_nat hk, fin_need_true, Int.toNat_natCast, next64 hk h.t, allF_step hk, fewT]
    rw [show ilt (100 : Int) (((s.Threads.get k).Seen.n : Nat) : Int) = decide (100 < (s.Threads.get k).Seen.n) from by simp [ilt]; omega]
    cases decide (100 < (s.Threads.get k).Seen.n)
    · simp only [Bool.not_false, fin_false, Bool.true_and]; exact hD
    · simp only [Bool.not_true, fin_true, Bool.false_and]; rfl
theorem r_f6 (s : TApi_State) (h : okS s) : D_f6.rel s (few s) := by
  show (tt_f6 s).Fin _
  simp only [tt_f6, few]
  rw [show ilt (10 : Int) ((s.Threads.n : Nat) : Int) = decide (10 < s.Threads.n) from by simp [ilt]; omega]
  rw [show ilt (10 : Int) ((s.Rings.n : Nat) : Int) = decide (10 < s.Rings.n) from by simp [ilt]; omega]
  cases decide (10 < s.Threads.n)
  · cases decide (10 < s.Rings.n)
    · simp only [Bool.not_false, fin_false, Bool.true_and]
      exact l_f6_4 s h (Nat.zero_le _)
    · simp only [Bool.not_true, Bool.not_false, fin_true, fin_false, Bool.false_and, Bool.and_false]; rfl
  · simp only [Bool.not_true, fin_true, Bool.false_and]; rfl

/-! small -/
def smallI (l : Sl Int) : Bool := allF (fun i => ile 0 (l.get i) && ile (l.get i) 65535) l.n 0
def minU (g : Nat → Int) : Nat → Int
  | 0 => g 0
  | k + 1 => imin (minU g k) (g (k + 1))
def maxU (g : Nat → Int) : Nat → Int
  | 0 => g 0
  | k + 1 => imax (maxU g k) (g (k + 1))
theorem imin_le (x y z : Int) : z ≤ imin x y ↔ z ≤ x ∧ z ≤ y := by
  unfold imin ilt
  by_cases h : y < x <;> simp [h] <;> omega
theorem le_imax (x y z : Int) : imax x y ≤ z ↔ x ≤ z ∧ y ≤ z := by
  unfold imax ilt
  by_cases h : x < y <;> simp [h] <;> omega
theorem le_minU (g : Nat → Int) (z : Int) (k : Nat) : z ≤ minU g k ↔ ∀ i, i ≤ k → z ≤ g i := by
  induction k with
  | zero => exact ⟨fun h i hi => by obtain rfl : i = 0 := by omega
                                    exact h, fun h => h 0 (Nat.le_refl _)⟩
  | succ k ih =>
    simp only [minU, imin_le, ih]
    refine ⟨fun h i hi => ?_, fun h => ⟨fun i hi => h i (by omega), h _ (Nat.le_refl _)⟩⟩
    by_cases e : i = k + 1
    · subst e; exact h.2
    · exact h.1 i (by omega)
theorem maxU_le (g : Nat → Int) (z : Int) (k : Nat) : maxU g k ≤ z ↔ ∀ i, i ≤ k → g i ≤ z := by
  induction k with
  | zero => exact ⟨fun h i hi => by obtain rfl : i = 0 := by omega
                                    exact h, fun h => h 0 (Nat.le_refl _)⟩
  | succ k ih =>
    simp only [maxU, le_imax, ih]
    refine ⟨fun h i hi => ?_, fun h => ⟨fun i hi => h i (by omega), h _ (Nat.le_refl _)⟩⟩
    by_cases e : i = k + 1
    · subst e; exact h.2
    · exact h.1 i (by omega)

theorem l_f58_5 (x : Sl Int) (h : x.n ≤ maxLen) {m : Nat} (hm : m + 1 = x.n) {k : Nat} (hk : k ≤ m) : D_f58_5.rel ⟨x, minU x.get k, ((k + 1 : Nat) : Int)⟩ (minU x.get m) := by
  refine loop_rel (fun k => (⟨x, minU x.get k, ((k + 1 : Nat) : Int)⟩ : X_f58_5)) (fun _ => minU x.get m) m (fun D => ?_) (fun D k hk hD => ?_) hk
  · simp only [tt_f58_5, ilt_nat, show ¬ (m + 1 < x.n) by omega, decide_false, fin_false]
    rfl
  · simp only [tt_f58_5, ilt_nat, show k + 1 < x.n by omega, decide_true, fin_true, inb_nat (show k + 1 < x.n by omega), fin_need_true, Int.toNat_natCast, next64 (show k + 1 < x.n by omega) h]
    exact hD
theorem r_f58 (x : Sl Int) (h : x.n ≤ maxLen) {m : Nat} (hm : m + 1 = x.n) : D_f58.rel x (minU x.get m) := by
  show (tt_f58 x).Fin _
  simp only [tt_f58]
  rw [show ilt ((x.n : Nat) : Int) 1 = false from by simp [ilt]; omega]
  simp only [fin_false]
  show (tt_f58_3 ⟨x⟩).Fin _
  simp only [tt_f58_3]
  refine fin_need (by rw [inb_iff]; omega) ?_
  exact l_f58_5 x h hm (Nat.zero_le _)
theorem l_f59_5 (x : Sl Int) (h : x.n ≤ maxLen) {m : Nat} (hm : m + 1 = x.n) {k : Nat} (hk : k ≤ m) : D_f59_5.rel ⟨x, maxU x.get k, ((k + 1 : Nat) : Int)⟩ (maxU x.get m) := by
  refine loop_rel (fun k => (⟨x, maxU x.get k, ((k + 1 : Nat) : Int)⟩ : X_f59_5)) (fun _ => maxU x.get m) m (fun D => ?_) (fun D k hk hD => ?_) hk
  · simp only [tt_f59_5, ilt_nat, show ¬ (m + 1 < x.n) by omega, decide_false, fin_false]
    rfl
  · simp only [tt_f59_5, ilt_nat, show k + 1 < x.n by omega, decide_true, fin_true, inb_nat (show k + 1 < x.n by omega), fin_need_true, Int.toNat_natCast, next64 (show k + 1 < x.n by omega) h]
    exact hD
theorem r_f59 (x : Sl Int) (h : x.n ≤ maxLen) {m : Nat} (hm : m + 1 = x.n) : D_f59.rel x (maxU x.get m) := by
  show (tt_f59 x).Fin _
  simp only [tt_f59]
  rw [show ilt ((x.n : Nat) : Int) 1 = false from by simp [ilt]; omega]
  simp only [fin_false]
  show (tt_f59_3 ⟨x⟩).Fin _
  simp only [tt_f59_3]
  refine fin_need (by rw [inb_iff]; omega) ?_
  exact l_f59_5 x h hm (Nat.zero_le _)
theorem ile_iff {a b : Int} : ile a b = true ↔ a ≤ b := by simp [ile]
theorem r_f38 (x : Sl Int) (h : x.n ≤ maxLen) (h0 : 0 < x.n) : D_f38.rel x (smallI x) := by
  obtain ⟨m, hm⟩ : ∃ m, m + 1 = x.n := ⟨x.n - 1, by omega⟩
  have key : smallI x = (ile 0 (minU x.get m) && ile (maxU x.get m) 65535) := by
    rw [Bool.eq_iff_iff, smallI, allF_iff, Bool.and_eq_true, ile_iff, ile_iff, le_minU, maxU_le]
    simp only [Bool.and_eq_true, ile_iff]
    exact ⟨fun k => ⟨fun i hi => (k i (by omega)).1, fun i hi => (k i (by omega)).2⟩, fun k i hi => ⟨k.1 i (by omega), k.2 i (by omega)⟩⟩
  show (tt_f38 x).Fin _
  simp only [tt_f38, key]
  refine fin_call _ (r_f58 x h hm) ?_
  cases ile 0 (minU x.get m)
  · simp only [fin_false, Bool.false_and]; rfl
  · simp only [fin_true, Bool.true_and]
    exact fin_call _ (r_f59 x h hm) rfl

theorem l_f26_2 (x : Sl Int) (h : x.n ≤ maxLen) {k : Nat} (hk : k ≤ x.n) : D_f26_2.rel ⟨x, k⟩ (allF (fun i => ile 0 (x.get i) && ile (x.get i) 65535) x.n k) := by
  refine loop_rel (fun k => (⟨x, k⟩ : X_f26_2)) (allF (fun i => ile 0 (x.get i) && ile (x.get i) 65535) x.n) x.n (fun D => ?_) (fun D k hk hD => ?_) hk
  · simp only [tt_f26_2, ilt_nat, Nat.lt_irrefl, decide_false, fin_false, allF_end]
    rfl
  · simp only [tt_f26_2, ilt_nat, hk, decide_true, fin_true, inb_nat hk, fin_need_true, Int.toNat_natCast, allF_step hk]
    rw [show ilt (x.get k) 0 = !ile 0 (x.get k) from by by_cases e : 0 ≤ x.get k <;> simp [ilt, ile, e] <;> omega]
    rw [show ilt 65535 (x.get k) = !ile (x.get k) 65535 from by by_cases e : x.get k ≤ 65535 <;> simp [ilt, ile, e] <;> omega]
    cases ile 0 (x.get k)
    · simp only [Bool.not_false, fin_true, Bool.false_and]; rfl
    · cases ile (x.get k) 65535
      · simp only [Bool.not_false, Bool.not_true, fin_false, fin_true, fin_need_true, Bool.false_and, Bool.and_false]; rfl
      · simp only [Bool.not_true, fin_false, fin_need_true, Bool.true_and]
        show D.rel _ _
        simp only [next64 hk h]
        exact hD
theorem r_f26 (x : Sl Int) (h : x.n ≤ maxLen) : D_f26.rel x (smallI x) := by
  show (tt_f26 x).Fin _
  simp only [tt_f26]
  exact l_f26_2 x h (Nat.zero_le _)

/-! written -/
def small4 (t : TApi_ThreadState) : Sl Int := ⟨false, 4, fun i2 => (cond (Nat.beq i2 (0 : Nat)) t.At (cond (Nat.beq i2 (1 : Nat)) t.Phase (cond (Nat.beq i2 (2 : Nat)) t.Ring t.Status)))⟩
def small1 (x : TApi_Slot) : Sl Int := ⟨false, 1, fun _ => x.Left⟩
def wrS (l : Sl TApi_Slot) : Bool := allF (fun i => smallI (small1 (l.get i))) l.n 0
def wrT (t : TApi_ThreadState) : Bool := !decide (65536 < t.Seen.n) && smallI (small4 t)
def wrR (r : TApi_RingState) : Bool := !decide (8 < r.Heads.n) && (!decide (64 < r.Slots.n) && wrS r.Slots)
def wr (s : TApi_State) : Bool := !decide (8 < s.Threads.n) && (!decide (8 < s.Rings.n) && (allF (fun i => wrT (s.Threads.get i)) s.Threads.n 0 && allF (fun i => wrR (s.Rings.get i)) s.Rings.n 0))

theorem r_f40 (x : TApi_Slot) : D_f40.rel x (!smallI (small1 x)) := by
  show (tt_f40 x).Fin _
  exact fin_call _ (r_f38 (small1 x) (by show 1 ≤ maxLen; decide) (by show 0 < 1; decide)) rfl
/-- The first that is so, from 'k' on; else -1. -/
def firstF (p : Nat → Bool) : Nat → Nat → Int
  | 0, _ => -1
  | d + 1, k => cond (p k) (k : Int) (firstF p d (k + 1))
theorem firstF_step {p : Nat → Bool} {n k : Nat} (h : k < n) : firstF p (n - k) k = cond (p k) (k : Int) (firstF p (n - (k + 1)) (k + 1)) := by
  obtain ⟨d, hd⟩ : ∃ d, n - k = d + 1 := ⟨n - k - 1, by omega⟩
  have : n - (k + 1) = d := by omega
  rw [hd, this]
  rfl
theorem firstF_all {p : Nat → Bool} {n : Nat} : ∀ {d k : Nat}, k + d = n → ile 0 (firstF p d k) = !allF (fun i => !p i) n k := by
  intro d
  induction d with
  | zero => intro k h; obtain rfl : k = n := by omega
            rw [allF_end]; simp [firstF, ile]
  | succ d ih =>
    intro k h
    rw [allF_step (by omega)]
    simp only [firstF]
    cases p k
    · simp only [cond_false, Bool.not_false, Bool.true_and]; exact ih (by omega)
    · simp only [cond_true, Bool.not_true, Bool.false_and, Bool.not_false, ile]; simp

theorem l_f60_2 (l : Sl TApi_Slot) (h : l.n ≤ maxLen) {k : Nat} (hk : k ≤ l.n) : D_f60v0_2.rel ⟨l, l.n, k⟩ (firstF (fun i => !smallI (small1 (l.get i))) (l.n - k) k) := by
  refine loop_rel (fun k => (⟨l, l.n, k⟩ : X_f60v0_2)) (fun k => firstF (fun i => !smallI (small1 (l.get i))) (l.n - k) k) l.n (fun D => ?_) (fun D k hk hD => ?_) hk
  · simp only [tt_f60v0_2, ilt_nat, Nat.lt_irrefl, decide_false, fin_false, Nat.sub_self, firstF]
    rfl
  · simp only [tt_f60v0_2, ilt_nat, hk, decide_true, fin_true, inb_nat hk, fin_need_true, Int.toNat_natCast, next64 hk h, firstF_step hk]
    refine fin_call _ (r_f40 _) ?_
    cases smallI (small1 (l.get k))
    · simp only [Bool.not_false, fin_true, cond_true]; rfl
    · simp only [Bool.not_true, fin_false, cond_false]; exact hD
theorem r_f39 (l : Sl TApi_Slot) (h : l.n ≤ maxLen) : D_f39v0.rel l (!wrS l) := by
  show (tt_f39v0 l).Fin _
  have : wrS l = allF (fun i => !!smallI (small1 (l.get i))) l.n 0 := by unfold wrS; congr 1; funext i; simp
  rw [this, ← firstF_all (p := fun i => !smallI (small1 (l.get i))) (d := l.n) (k := 0) (by omega)]
  exact fin_call _ (l_f60_2 l h (Nat.zero_le _)) rfl

theorem l_f15_10 (l : Sl TApi_RingState) (h : l.n ≤ maxLen) (ho : ∀ i, i < l.n → okR (l.get i)) {k : Nat} (hk : k ≤ l.n) : D_f15_10.rel ⟨l, l.n, k⟩ (allF (fun i => wrR (l.get i)) l.n k) := by
  refine loop_rel (fun k => (⟨l, l.n, k⟩ : X_f15_10)) (allF (fun i => wrR (l.get i)) l.n) l.n (fun D => ?_) (fun D k hk hD => ?_) hk
  · simp only [tt_f15_10, ilt_nat, Nat.lt_irrefl, decide_false, fin_false, allF_end]
    rfl
  · simp only [tt_f15_10, ilt_nat, hk, decide_true, fin_true, inb_nat hk, fin_need_true, Int.toNat_natCast, allF_step hk]
    rw [show ilt (8 : Int) (((l.get k).Heads.n : Nat) : Int) = decide (8 < (l.get k).Heads.n) from by simp [ilt]; omega]
    rw [show ilt (64 : Int) (((l.get k).Slots.n : Nat) : Int) = decide (64 < (l.get k).Slots.n) from by simp [ilt]; omega]
    rw [show wrR (l.get k) = (!decide (8 < (l.get k).Heads.n) && (!decide (64 < (l.get k).Slots.n) && wrS (l.get k).Slots)) from rfl]
    cases decide (8 < (l.get k).Heads.n)
    · cases decide (64 < (l.get k).Slots.n)
      · simp only [Bool.not_false, fin_false, Bool.true_and]
        refine fin_call _ (r_f39 _ (ho k hk).2) ?_
        cases wrS (l.get k).Slots
        · simp only [Bool.not_false, fin_true, Bool.false_and]; rfl
        · simp only [Bool.not_true, fin_false, Bool.true_and]
          show D.rel _ _
          simp only [next64 hk h]
          exact hD
      · simp only [Bool.not_true, Bool.not_false, fin_true, fin_false, Bool.false_and, Bool.and_false]; rfl
    · simp only [Bool.not_true, fin_true, Bool.false_and]; rfl
theorem l_f15_4 (s : TApi_State) (h : okS s) {k : Nat} (hk : k ≤ s.Threads.n) : D_f15_4.rel ⟨s, s.Threads, s.Threads.n, k⟩ (allF (fun i => wrT (s.Threads.get i)) s.Threads.n k && allF (fun i => wrR (s.Rings.get i)) s.Rings.n 0) := by
  refine loop_rel (fun k => (⟨s, s.Threads, s.Threads.n, k⟩ : X_f15_4)) (fun k => allF (fun i => wrT (s.Threads.get i)) s.Threads.n k && allF (fun i => wrR (s.Rings.get i)) s.Rings.n 0) s.Threads.n (fun D => ?_) (fun D k hk hD => ?_) hk
  · simp only [tt_f15_4, ilt_nat, Nat.lt_irrefl, decide_false, fin_false, allF_end, Bool.true_and]
    exact l_f15_10 s.Rings h.r h.rs (Nat.zero_le _)
  · simp only [tt_f15_4, ilt_nat, hk, decide_true, fin_true, inb_nat hk, fin_need_true, Int.toNat_natCast, allF_step hk]
    rw [show ilt (65536 : Int) (((s.Threads.get k).Seen.n : Nat) : Int) = decide (65536 < (s.Threads.get k).Seen.n) from by simp [ilt]; omega]
    rw [show wrT (s.Threads.get k) = (!decide (65536 < (s.Threads.get k).Seen.n) && smallI (small4 (s.Threads.get k))) from rfl]
    cases decide (65536 < (s.Threads.get k).Seen.n)
    · simp only [Bool.not_false, fin_false, Bool.true_and]
      refine fin_call _ (r_f38 (small4 (s.Threads.get k)) (by show 4 ≤ maxLen; decide) (by show 0 < 4; decide)) ?_
      cases smallI (small4 (s.Threads.get k))
      · simp only [Bool.not_false, fin_true, Bool.false_and]; rfl
      · simp only [Bool.not_true, fin_false, Bool.true_and]
        show D.rel _ _
        simp only [next64 hk h.t]
        exact hD
    · simp only [Bool.not_true, fin_true, Bool.false_and]; rfl
theorem r_f15 (s : TApi_State) (h : okS s) : D_f15.rel s (wr s) := by
  show (tt_f15 s).Fin _
  simp only [tt_f15, wr]
  rw [show ilt (8 : Int) ((s.Threads.n : Nat) : Int) = decide (8 < s.Threads.n) from by simp [ilt]; omega]
  rw [show ilt (8 : Int) ((s.Rings.n : Nat) : Int) = decide (8 < s.Rings.n) from by simp [ilt]; omega]
  cases decide (8 < s.Threads.n)
  · cases decide (8 < s.Rings.n)
    · simp only [Bool.not_false, fin_false, Bool.true_and]
      exact l_f15_4 s h (Nat.zero_le _)
    · simp only [Bool.not_true, Bool.not_false, fin_true, fin_false, Bool.false_and, Bool.and_false]; rfl
  · simp only [Bool.not_true, fin_true, Bool.false_and]; rfl

/-! rondeauref22.Written -/
theorem l_f10_16 (s : TApi_State) (i : Int) (m : TApi_RingState) (h : m.Slots.n ≤ maxLen) (D0 : Dyn X_f10_10 R_f10) (y : Bool) (hD : D0.rel ⟨s, IntKind.i64.wrap (i + 1)⟩ y) {k : Nat} (hk : k ≤ m.Slots.n) :
    (D_f10_16 D0).rel ⟨s, i, k, m⟩ (allF (fun i => smallI (small1 (m.Slots.get i))) m.Slots.n k && y) := by
  refine loop_rel (fun k => (⟨s, i, k, m⟩ : X_f10_16)) (fun k => allF (fun i => smallI (small1 (m.Slots.get i))) m.Slots.n k && y) m.Slots.n (fun D => ?_) (fun D k hk hD => ?_) hk
  · simp only [tt_f10_16, ilt_nat, Nat.lt_irrefl, decide_false, fin_false, allF_end, Bool.true_and]
    exact hD
  · simp only [tt_f10_16, ilt_nat, hk, decide_true, fin_true, inb_nat hk, fin_need_true, Int.toNat_natCast, next64 hk h, allF_step hk]
    refine fin_call _ (r_f26 (small1 (m.Slots.get k)) (by show 1 ≤ maxLen; decide)) ?_
    cases smallI (small1 (m.Slots.get k))
    · simp only [Bool.not_false, fin_true, Bool.false_and]; rfl
    · simp only [Bool.not_true, fin_false, Bool.true_and]; exact hD
theorem l_f10_10 (s : TApi_State) (h : okS s) {k : Nat} (hk : k ≤ s.Rings.n) : D_f10_10.rel ⟨s, k⟩ (allF (fun i => wrR (s.Rings.get i)) s.Rings.n k) := by
  refine loop_rel (fun k => (⟨s, k⟩ : X_f10_10)) (allF (fun i => wrR (s.Rings.get i)) s.Rings.n) s.Rings.n (fun D => ?_) (fun D k hk hD => ?_) hk
  · simp only [tt_f10_10, ilt_nat, Nat.lt_irrefl, decide_false, fin_false, allF_end]
    rfl
  · simp only [tt_f10_10, ilt_nat, hk, decide_true, fin_true, inb_nat hk, fin_need_true, Int.toNat_natCast, allF_step hk]
    rw [show ilt (8 : Int) (((s.Rings.get k).Heads.n : Nat) : Int) = decide (8 < (s.Rings.get k).Heads.n) from by simp [ilt]; omega]
    rw [show ilt (64 : Int) (((s.Rings.get k).Slots.n : Nat) : Int) = decide (64 < (s.Rings.get k).Slots.n) from by simp [ilt]; omega]
    rw [show wrR (s.Rings.get k) = (!decide (8 < (s.Rings.get k).Heads.n) && (!decide (64 < (s.Rings.get k).Slots.n) && wrS (s.Rings.get k).Slots)) from rfl]
    cases decide (8 < (s.Rings.get k).Heads.n)
    · cases decide (64 < (s.Rings.get k).Slots.n)
      · simp only [Bool.not_false, fin_false, Bool.true_and]
        exact l_f10_16 s k (s.Rings.get k) (h.rs k hk).2 D _ (by rw [next64 hk h.r]; exact hD) (Nat.zero_le _)
      · simp only [Bool.not_true, Bool.not_false, fin_true, fin_false, Bool.false_and, Bool.and_false]; rfl
    · simp only [Bool.not_true, fin_true, Bool.false_and]; rfl
theorem l_f10_4 (s : TApi_State) (h : okS s) {k : Nat} (hk : k ≤ s.Threads.n) : D_f10_4.rel ⟨s, k⟩ (allF (fun i => wrT (s.Threads.get i)) s.Threads.n k && allF (fun i => wrR (s.Rings.get i)) s.Rings.n 0) := by
  refine loop_rel (fun k => (⟨s, k⟩ : X_f10_4)) (fun k => allF (fun i => wrT (s.Threads.get i)) s.Threads.n k && allF (fun i => wrR (s.Rings.get i)) s.Rings.n 0) s.Threads.n (fun D => ?_) (fun D k hk hD => ?_) hk
  · simp only [tt_f10_4, ilt_nat, Nat.lt_irrefl, decide_false, fin_false, allF_end, Bool.true_and]
    exact l_f10_10 s h (Nat.zero_le _)
  · simp only [tt_f10_4, ilt_nat, hk, decide_true, fin_true, inb_nat hk, fin_need_true, Int.toNat_natCast, allF_step hk]
    rw [show ilt (65536 : Int) (((s.Threads.get k).Seen.n : Nat) : Int) = decide (65536 < (s.Threads.get k).Seen.n) from by simp [ilt]; omega]
    rw [show wrT (s.Threads.get k) = (!decide (65536 < (s.Threads.get k).Seen.n) && smallI (small4 (s.Threads.get k))) from rfl]
    cases decide (65536 < (s.Threads.get k).Seen.n)
    · simp only [Bool.not_false, fin_false, Bool.true_and]
      refine fin_call _ (r_f26 (small4 (s.Threads.get k)) (by show 4 ≤ maxLen; decide)) ?_
      cases smallI (small4 (s.Threads.get k))
      · simp only [Bool.not_false, fin_true, Bool.false_and]; rfl
      · simp only [Bool.not_true, fin_false, Bool.true_and]
        show D.rel _ _
        simp only [next64 hk h.t]
        exact hD
    · simp only [Bool.not_true, fin_true, Bool.false_and]; rfl
theorem r_f10 (s : TApi_State) (h : okS s) : D_f10.rel s (wr s) := by
  show (tt_f10 s).Fin _
  simp only [tt_f10, wr]
  rw [show ilt (8 : Int) ((s.Threads.n : Nat) : Int) = decide (8 < s.Threads.n) from by simp [ilt]; omega]
  rw [show ilt (8 : Int) ((s.Rings.n : Nat) : Int) = decide (8 < s.Rings.n) from by simp [ilt]; omega]
  cases decide (8 < s.Threads.n)
  · cases decide (8 < s.Rings.n)
    · simp only [Bool.not_false, fin_false, Bool.true_and]
      exact l_f10_4 s h (Nat.zero_le _)
    · simp only [Bool.not_true, Bool.not_false, fin_true, fin_false, Bool.false_and, Bool.and_false]; rfl
  · simp only [Bool.not_true, fin_true, Bool.false_and]; rfl
/-! numbers in bytes -/
def vr : Nat → Nat → Nat
  | 0, _ => 0
  | f + 1, m => if m < 128 then 0 else vr f (m / 128) + 1
theorem vr_le : ∀ (f m : Nat), vr f m ≤ f
  | 0, _ => Nat.le_refl _
  | f + 1, m => by
    unfold vr
    split
    · omega
    · have := vr_le f (m / 128); omega
theorem vr_lt : ∀ (f m k : Nat), k < vr f m → 128 ≤ m / 128 ^ k
  | 0, _, _, h => by simp [vr] at h
  | f + 1, m, k, h => by
    unfold vr at h
    split at h
    · omega
    · cases k with
      | zero => simp; omega
      | succ k =>
        have := vr_lt f (m / 128) k (by omega)
        rwa [Nat.div_div_eq_div_mul, Nat.mul_comm, ← Nat.pow_succ] at this
theorem vr_end : ∀ (f m : Nat), m < 128 ^ (f + 1) → m / 128 ^ vr f m < 128
  | 0, m, h => by simpa [vr] using h
  | f + 1, m, h => by
    unfold vr
    split
    · simpa using ‹m < 128›
    · have h2 : m / 128 < 128 ^ (f + 1) := by
        rw [Nat.div_lt_iff_lt_mul (by decide)]
        rwa [Nat.pow_succ] at h
      have := vr_end f (m / 128) h2
      rwa [Nat.div_div_eq_div_mul, Nat.mul_comm, ← Nat.pow_succ] at this

theorem ile128_f {q : Nat} (h : q < 128) : ile 128 (q : Int) = false := by simp [ile]; omega
theorem ile128_t {q : Nat} (h : 128 ≤ q) : ile 128 (q : Int) = true := by simp [ile]; omega
theorem ilt127_f {q : Nat} (h : q < 128) : ilt 127 (q : Int) = false := by simp [ilt]; omega
theorem ilt127_t {q : Nat} (h : 128 ≤ q) : ilt 127 (q : Int) = true := by simp [ilt]; omega
theorem wrapu8_of {q : Nat} (h : q < 256) : IntKind.u8.wrap (q : Int) = (q : Int) := by rw [wrapu8]; omega

/-- A number's bytes. -/
def numN (m : Nat) : ByteArray := bytesOf (vr 9 m + 1) fun i => cond (Nat.blt i (vr 9 m)) (((m / 128 ^ i) % 128 + 128 : Nat) : Int) ((m / 128 ^ vr 9 m : Nat) : Int)
def numI (z : Int) : ByteArray := numN z.toNat
theorem numI_size (z : Int) : (numI z).size ≤ 10 := by
  unfold numI numN
  rw [bytesOf_size]
  have := vr_le 9 z.toNat
  omega

/-- Bytes put one by one. -/
def slv (v : Nat → Int) : Nat → Sl Int
  | 0 => ⟨false, 0, fun _ => 0⟩
  | k + 1 => ⟨cond (Nat.beq 1 0) (slv v k).nil false, (slv v k).n + 1, fun i => cond (Nat.blt i (slv v k).n) ((slv v k).get i) (v k)⟩
theorem slv_n (v : Nat → Int) : ∀ k, (slv v k).n = k
  | 0 => rfl
  | k + 1 => by simp [slv, slv_n v k]
theorem slv_get (v : Nat → Int) : ∀ (k i : Nat), i < k → (slv v k).get i = v i
  | k + 1, i, h => by
    simp only [slv, slv_n]
    by_cases hi : i < k
    · rw [blt_true' hi, cond_true, slv_get v k i hi]
    · rw [blt_false' hi, cond_false]
      congr 1
      omega

theorem or_byte (m : Nat) : Vm.bits .or .u8 (IntKind.u8.wrap (m : Int)) 128 = ((m % 128 + 128 : Nat) : Int) := by
  have h : ∀ b : Fin 256, Vm.bits .or .u8 ((b.val : Nat) : Int) 128 = ((b.val % 128 + 128 : Nat) : Int) := by decide +kernel
  have h2 := h ⟨m % 256, Nat.mod_lt _ (by decide)⟩
  rw [wrapu8]
  simp only at h2
  have e : ((m : Int) % 256) = ((m % 256 : Nat) : Int) := by omega
  rw [e, h2]
  congr 2
  omega
theorem add_byte (m : Nat) : IntKind.u8.wrap (IntKind.u8.wrap (Int.tmod (m : Int) 128) + 128) = ((m % 128 + 128 : Nat) : Int) := by
  have e : Int.tmod (m : Int) 128 = ((m % 128 : Nat) : Int) := by rw [Int.tmod_eq_emod_of_nonneg (by omega)]; omega
  rw [e, wrapu8, wrapu8]
  omega
theorem shr7 (m : Nat) : shr .u64 (m : Int) 7 = ((m / 128 : Nat) : Int) := by
  show (m : Int).fdiv (2 ^ 7) = _
  rw [Int.fdiv_eq_ediv_of_nonneg _ (by decide)]
  omega
theorem div_next (m k : Nat) : m / 128 ^ k / 128 = m / 128 ^ (k + 1) := by rw [Nat.div_div_eq_div_mul, ← Nat.pow_succ]

theorem num_end {v : Nat → Int} {m : Nat} (hm : m < 128 ^ 10) (hv : ∀ k, v k = (((m / 128 ^ k) % 128 + 128 : Nat) : Int)) :
    bytesOf ((slv v (vr 9 m)).n + 1) (fun i => cond (Nat.blt i (slv v (vr 9 m)).n) ((slv v (vr 9 m)).get i) (IntKind.u8.wrap ((m / 128 ^ vr 9 m : Nat) : Int))) = numN m := by
  unfold numN
  rw [slv_n]
  refine bytesOf_congr fun i hi => ?_
  by_cases h : i < vr 9 m
  · rw [blt_true' h, cond_true, cond_true, slv_get _ _ _ h, hv]
  · rw [blt_false' h, cond_false, cond_false]
    exact wrapu8_of (Nat.lt_trans (vr_end 9 m hm) (by decide))

theorem room_of {n : Nat} (h : n ≤ 140737488351232) : (true && room n 1) = true := by simp [room]; omega

def v42 (m k : Nat) : Int := Vm.bits .or .u8 (IntKind.u8.wrap ((m / 128 ^ k : Nat) : Int)) 128
def v48 (m k : Nat) : Int := IntKind.u8.wrap (IntKind.u8.wrap (Int.tmod ((m / 128 ^ k : Nat) : Int) 128) + 128)

theorem l_f42_2 (m : Nat) (hm : m < 128 ^ 10) {k : Nat} (hk : k ≤ vr 9 m) : D_f42_2.rel ⟨((m / 128 ^ k : Nat) : Int), slv (v42 m) k⟩ (numN m) := by
  refine loop_rel (fun k => (⟨((m / 128 ^ k : Nat) : Int), slv (v42 m) k⟩ : X_f42_2)) (fun _ => numN m) (vr 9 m) (fun D => ?_) (fun D k hk hD => ?_) hk
  · simp only [tt_f42_2]
    have h1 := vr_end 9 m hm
    rw [ile128_f h1, fin_false]
    show (tt_f42_5 _).Fin _
    simp only [tt_f42_5]
    refine fin_need (room_of (by rw [slv_n]; have := vr_le 9 m; omega)) ?_
    show bytesOf _ _ = _
    exact num_end hm fun k => or_byte _
  · simp only [tt_f42_2]
    have h1 := vr_lt 9 m k hk
    rw [ile128_t h1, fin_true]
    refine fin_need (room_of (by rw [slv_n]; have := vr_le 9 m; omega)) ?_
    have hD' : D.rel ⟨shr .u64 ((m / 128 ^ k : Nat) : Int) 7, slv (v42 m) (k + 1)⟩ (numN m) := by rw [shr7, div_next]; exact hD
    exact hD'
theorem r_f42 {z : Int} (h0 : 0 ≤ z) (h1 : z < 18446744073709551616) : D_f42.rel z (numI z) := by
  show (tt_f42 z).Fin _
  have := l_f42_2 z.toNat (by omega) (Nat.zero_le _)
  simp only [Nat.pow_zero, Nat.div_one, Int.toNat_of_nonneg h0] at this
  exact this
theorem l_f48_2 (m : Nat) (hm : m < 18446744073709551616) {k : Nat} (hk : k ≤ vr 9 m) : D_f48_2.rel ⟨((m / 128 ^ k : Nat) : Int), slv (v48 m) k⟩ (numN m) := by
  refine loop_rel (fun k => (⟨((m / 128 ^ k : Nat) : Int), slv (v48 m) k⟩ : X_f48_2)) (fun _ => numN m) (vr 9 m) (fun D => ?_) (fun D k hk hD => ?_) hk
  · simp only [tt_f48_2]
    have h1 := vr_end 9 m (by omega)
    rw [ilt127_f h1, fin_false]
    show (tt_f48_5 _).Fin _
    simp only [tt_f48_5]
    refine fin_need (room_of (by rw [slv_n]; have := vr_le 9 m; omega)) ?_
    show bytesOf _ _ = _
    exact num_end (by omega) fun k => add_byte _
  · simp only [tt_f48_2]
    have h1 := vr_lt 9 m k hk
    rw [ilt127_t h1, fin_true]
    refine fin_need (room_of (by rw [slv_n]; have := vr_le 9 m; omega)) ?_
    have e : IntKind.u64.wrap (Int.tdiv ((m / 128 ^ k : Nat) : Int) 128) = ((m / 128 ^ (k + 1) : Nat) : Int) := by
      rw [← div_next]
      have h2 : m / 128 ^ k ≤ m := Nat.div_le_self _ _
      generalize m / 128 ^ k = q at h2
      have : Int.tdiv (q : Int) 128 = ((q / 128 : Nat) : Int) := by rw [Int.tdiv_eq_ediv_of_nonneg (by omega)]; omega
      rw [this]
      exact wrapu64 (by omega) (by omega)
    have hD' : D.rel ⟨IntKind.u64.wrap (Int.tdiv ((m / 128 ^ k : Nat) : Int) 128), slv (v48 m) (k + 1)⟩ (numN m) := by rw [e]; exact hD
    exact hD'
theorem r_f48 {z : Int} (h0 : 0 ≤ z) (h1 : z < 18446744073709551616) : D_f48.rel z (numI z) := by
  show (tt_f48 z).Fin _
  have := l_f48_2 z.toNat (by omega) (Nat.zero_le _)
  simp only [Nat.pow_zero, Nat.div_one, Int.toNat_of_nonneg h0] at this
  exact this
theorem r_f27 {z : Int} (h0 : 0 ≤ z) (h1 : z < 18446744073709551616) : D_f27.rel z (numI z) := by
  show (tt_f27 z).Fin _
  exact fin_call _ (r_f48 h0 h1) rfl
def U (z : Int) : Prop := 0 ≤ z ∧ z < 18446744073709551616
theorem U_wrap (z : Int) : U (IntKind.u64.wrap z) := wf_wrap64 z
theorem U_nat {n : Nat} (h : n ≤ maxLen) : U (n : Int) := by unfold maxLen at h; exact ⟨by omega, by omega⟩
theorem wrap_nat {n : Nat} (h : n ≤ maxLen) : IntKind.u64.wrap (n : Int) = n := wrapu64 (U_nat h).1 (U_nat h).2

theorem putS_n (w : Sl Int) (s : ByteArray) : (putS w s).n = w.n + s.size := rfl
theorem putA_n (w : Sl Int) (f : Nat → ByteArray) (k : Nat) : (putA w f k).n = w.n + (cat f k).size := by
  rw [← bs_size, bs_putA, ByteArray.size_append, bs_size]
theorem cat10 (f : Nat → Int) (k : Nat) : (cat (fun i => numI (f i)) k).size ≤ k * 10 := cat_size k fun _ _ => numI_size _

theorem r_f41 (w : Sl Int) (s : ByteArray) (h : w.n + s.size ≤ 140737488351232) : D_f41.rel (s, ⟨w⟩) ⟨putS w s⟩ := by
  show (tt_f41 (s, ⟨w⟩)).Fin _
  simp only [tt_f41]
  exact fin_need (room_of h) rfl

theorem l_f16_1 (l : Sl Int) (w : Sl Int) (h : l.n ≤ maxLen) (hu : ∀ i, i < l.n → U (l.get i)) (hw : w.n + l.n * 10 ≤ 140737488351232) {k : Nat} (hk : k ≤ l.n) :
    D_f16_1.rel ⟨l, l.n, k, ⟨⟨putA w (fun i => numI (l.get i)) k⟩⟩⟩ ⟨⟨putA w (fun i => numI (l.get i)) l.n⟩⟩ := by
  refine loop_rel (fun k => (⟨l, l.n, k, ⟨⟨putA w (fun i => numI (l.get i)) k⟩⟩⟩ : X_f16_1)) (fun _ => (⟨⟨putA w (fun i => numI (l.get i)) l.n⟩⟩ : TSnap_writer)) l.n (fun D => ?_) (fun D k hk hD => ?_) hk
  · simp only [tt_f16_1, ilt_nat, Nat.lt_irrefl, decide_false, fin_false]
    rfl
  · simp only [tt_f16_1, ilt_nat, hk, decide_true, fin_true, inb_nat hk, fin_need_true, Int.toNat_natCast, next64 hk h]
    refine fin_call _ (r_f42 (hu k hk).1 (hu k hk).2) (fin_call _ (r_f41 _ _ ?_) hD)
    rw [putA_n]
    have h1 := cat10 l.get k
    have h2 := numI_size (l.get k)
    have h3 : (k + 1) * 10 ≤ l.n * 10 := Nat.mul_le_mul_right _ hk
    omega
theorem r_f16 (l : Sl Int) (w : Sl Int) (h : l.n ≤ maxLen) (hu : ∀ i, i < l.n → U (l.get i)) (hw : w.n + l.n * 10 ≤ 140737488351232) :
    D_f16.rel (l, ⟨⟨w⟩⟩) ⟨⟨putA w (fun i => numI (l.get i)) l.n⟩⟩ := by
  show (tt_f16 _).Fin _
  simp only [tt_f16]
  exact l_f16_1 l w h hu hw (Nat.zero_le _)

theorem r_f20 (w : Sl Int) : D_f20.rel ⟨w⟩ (bs w, ⟨w⟩) := by
  show (tt_f20 ⟨w⟩).Fin _
  simp only [tt_f20]
  rfl

def nilS : Sl Int := ⟨true, 0, fun _ => 0⟩
def plist (l : Sl Int) : ByteArray := numI l.n ++ cat (fun i => numI (l.get i)) l.n
theorem plist_size (l : Sl Int) : (plist l).size ≤ (l.n + 1) * 10 := by
  unfold plist
  have h1 := cat10 l.get l.n
  have h2 := numI_size l.n
  rw [ByteArray.size_append]
  omega
theorem bs_nil : bs nilS = ⟨#[]⟩ := rfl
theorem nil_app (b : ByteArray) : (⟨#[]⟩ : ByteArray) ++ b = b := by apply ByteArray.ext; simp

theorem l_f43_4 (l w : Sl Int) (h : l.n ≤ maxLen) (hu : ∀ i, i < l.n → U (l.get i)) (hw : w.n + l.n * 10 ≤ 140737488351232) {k : Nat} (hk : k ≤ l.n) :
    D_f43_4.rel ⟨l, l.n, k, ⟨putA w (fun i => numI (l.get i)) k⟩⟩ (bs w ++ cat (fun i => numI (l.get i)) l.n) := by
  refine loop_rel (fun k => (⟨l, l.n, k, ⟨putA w (fun i => numI (l.get i)) k⟩⟩ : X_f43_4)) (fun _ => bs w ++ cat (fun i => numI (l.get i)) l.n) l.n (fun D => ?_) (fun D k hk hD => ?_) hk
  · simp only [tt_f43_4, ilt_nat, Nat.lt_irrefl, decide_false, fin_false]
    refine fin_call _ (r_f20 _) ?_
    show bs _ = _
    rw [bs_putA]
  · simp only [tt_f43_4, ilt_nat, hk, decide_true, fin_true, inb_nat hk, fin_need_true, Int.toNat_natCast, next64 hk h]
    refine fin_call _ (r_f42 (hu k hk).1 (hu k hk).2) (fin_call _ (r_f41 _ _ ?_) hD)
    rw [putA_n]
    have h1 := cat10 l.get k
    have h2 := numI_size (l.get k)
    have h3 : (k + 1) * 10 ≤ l.n * 10 := Nat.mul_le_mul_right _ hk
    omega
theorem r_f43 (l : Sl Int) (h : l.n ≤ 1000) (hu : ∀ i, i < l.n → U (l.get i)) : D_f43.rel l (plist l) := by
  have hm : l.n ≤ maxLen := by unfold maxLen; omega
  show (tt_f43 l).Fin _
  simp only [tt_f43, wrap_nat hm]
  refine fin_call _ (r_f42 (U_nat hm).1 (U_nat hm).2) (fin_call _ (r_f41 nilS _ ?_) ?_)
  · have := numI_size l.n
    show 0 + _ ≤ _
    omega
  · have := l_f43_4 l (putS nilS (numI l.n)) hm hu (by rw [putS_n]; have := numI_size l.n; show 0 + _ + _ ≤ _; omega) (Nat.zero_le _)
    rw [bs_putS, bs_nil, nil_app] at this
    exact this

/-! threads -/
structure okV (t : TApi_ThreadState) : Prop where
  ticket : U t.Ticket
  regs : ∀ i, i < 8 → U (t.Regs i)
  seen : ∀ i, i < t.Seen.n → U (t.Seen.get i)
def five (t : TApi_ThreadState) : Sl Int := ⟨false, 5, fun i1 => (cond (Nat.beq i1 (0 : Nat)) (IntKind.u64.wrap t.At) (cond (Nat.beq i1 (1 : Nat)) (IntKind.u64.wrap t.Phase) (cond (Nat.beq i1 (2 : Nat)) (IntKind.u64.wrap t.Ring) (cond (Nat.beq i1 (3 : Nat)) (IntKind.u64.wrap t.Status) t.Ticket))))⟩
def eight (t : TApi_ThreadState) : Sl Int := ⟨false, 8, fun i2 => t.Regs (0 + i2)⟩
def wT (w : Sl Int) (t : TApi_ThreadState) : Sl Int := putS (putA (putA w (fun i => numI ((five t).get i)) 5) (fun i => numI ((eight t).get i)) 8) (plist t.Seen)
def thr (t : TApi_ThreadState) : ByteArray := cat (fun i => numI ((five t).get i)) 5 ++ (cat (fun i => numI ((eight t).get i)) 8 ++ plist t.Seen)
theorem bs_wT (w : Sl Int) (t : TApi_ThreadState) : bs (wT w t) = bs w ++ thr t := by
  simp only [wT, thr, bs_putS, bs_putA, ByteArray.append_assoc]
theorem thr_size (t : TApi_ThreadState) : (thr t).size ≤ t.Seen.n * 10 + 140 := by
  unfold thr
  have h1 := cat10 (five t).get 5
  have h2 := cat10 (eight t).get 8
  have h3 := plist_size t.Seen
  simp only [ByteArray.size_append]
  omega
theorem U_cond {b : Bool} {x y : Int} (h1 : U x) (h2 : U y) : U (cond b x y) := by cases b <;> assumption
theorem r_f17 (t : TApi_ThreadState) (w : Sl Int) (hv : okV t) (hs : t.Seen.n ≤ 100) (hw : w.n ≤ 1000000000) : D_f17.rel (t, ⟨⟨w⟩⟩) ⟨⟨wT w t⟩⟩ := by
  show (tt_f17 _).Fin _
  simp only [tt_f17]
  have h1 := cat10 (five t).get 5
  have h2 := cat10 (eight t).get 8
  have h3 := plist_size t.Seen
  refine fin_call _ (r_f16 (five t) w (by show 5 ≤ maxLen; decide) (fun i _ => ?_) (by show w.n + 5 * 10 ≤ _; omega)) ?_
  · exact U_cond (U_wrap _) (U_cond (U_wrap _) (U_cond (U_wrap _) (U_cond (U_wrap _) hv.ticket)))
  refine fin_call _ (r_f16 (eight t) _ (by show 8 ≤ maxLen; decide) (fun i hi => by have := hv.regs i hi; simpa [eight] using this) ?_) ?_
  · show (putA w _ 5).n + 8 * 10 ≤ _
    rw [putA_n]
    omega
  refine fin_call _ (r_f43 t.Seen (by omega) hv.seen) (fin_call _ (r_f41 _ _ ?_) rfl)
  show (putA (putA w (fun i => numI ((five t).get i)) 5) (fun i => numI ((eight t).get i)) 8).n + _ ≤ _
  rw [putA_n, putA_n]
  omega

/-! rings -/
def is1 (b : Bool) : Int := cond b 1 0
theorem r_f19 (b : Bool) : D_f19.rel b (is1 b) := by
  show (tt_f19 b).Fin _
  cases b <;> simp only [tt_f19, fin_true, fin_false] <;> rfl
theorem U_is (b : Bool) : U (is1 b) := by cases b <;> exact ⟨by decide, by decide⟩
structure okW (r : TApi_RingState) : Prop where
  tail : U r.Tail
  heads : ∀ i, i < r.Heads.n → U (r.Heads.get i)
  slots : ∀ i, i < r.Slots.n → U (r.Slots.get i).Stamp ∧ U (r.Slots.get i).Value
def three (x : TApi_Slot) : Sl Int := ⟨false, 3, fun i2 => (cond (Nat.beq i2 (0 : Nat)) x.Stamp (cond (Nat.beq i2 (1 : Nat)) x.Value (IntKind.u64.wrap x.Left)))⟩
def one (z : Int) : Sl Int := ⟨false, 1, fun _ => z⟩
def two (r : TApi_RingState) : Sl Int := ⟨false, 2, fun i => cond (Nat.beq i 0) (is1 r.Closed) (IntKind.u64.wrap ((r.Slots.n : Nat) : Int))⟩
def itW (g : Sl Int → Nat → Sl Int) (w : Sl Int) : Nat → Sl Int
  | 0 => w
  | k + 1 => g (itW g w k) k
theorem bs_itW {g : Sl Int → Nat → Sl Int} {h : Nat → ByteArray} (hg : ∀ w i, bs (g w i) = bs w ++ h i) (w : Sl Int) (k : Nat) : bs (itW g w k) = bs w ++ cat h k := by
  induction k with
  | zero => apply ByteArray.ext; simp [itW, cat]
  | succ k ih => simp only [itW, cat, hg, ih, ByteArray.append_assoc]
theorem itW_n {g : Sl Int → Nat → Sl Int} {h : Nat → ByteArray} (hg : ∀ w i, bs (g w i) = bs w ++ h i) (w : Sl Int) (k : Nat) : (itW g w k).n = w.n + (cat h k).size := by
  rw [← bs_size, bs_itW hg, ByteArray.size_append, bs_size]
def wS (l : Sl TApi_Slot) (w : Sl Int) (i : Nat) : Sl Int := putA w (fun j => numI ((three (l.get i)).get j)) 3
def slt (x : TApi_Slot) : ByteArray := cat (fun j => numI ((three x).get j)) 3
theorem bs_wS (l : Sl TApi_Slot) (w : Sl Int) (i : Nat) : bs (wS l w i) = bs w ++ slt (l.get i) := bs_putA _ _ _
theorem slt_size (x : TApi_Slot) : (slt x).size ≤ 30 := cat10 (three x).get 3
def wR0 (w : Sl Int) (r : TApi_RingState) : Sl Int := putA (putS (putA w (fun i => numI ((one r.Tail).get i)) 1) (plist r.Heads)) (fun i => numI ((two r).get i)) 2
def wR (w : Sl Int) (r : TApi_RingState) : Sl Int := itW (wS r.Slots) (wR0 w r) r.Slots.n
def rng0 (r : TApi_RingState) : ByteArray := cat (fun i => numI ((one r.Tail).get i)) 1 ++ (plist r.Heads ++ cat (fun i => numI ((two r).get i)) 2)
def rng (r : TApi_RingState) : ByteArray := rng0 r ++ cat (fun i => slt (r.Slots.get i)) r.Slots.n
theorem bs_wR0 (w : Sl Int) (r : TApi_RingState) : bs (wR0 w r) = bs w ++ rng0 r := by
  simp only [wR0, rng0, bs_putS, bs_putA, ByteArray.append_assoc]
theorem bs_wR (w : Sl Int) (r : TApi_RingState) : bs (wR w r) = bs w ++ rng r := by
  simp only [wR, rng, bs_itW (h := fun i => slt (r.Slots.get i)) (bs_wS r.Slots), bs_wR0, ByteArray.append_assoc]
theorem rng0_size (r : TApi_RingState) : (rng0 r).size ≤ r.Heads.n * 10 + 40 := by
  unfold rng0
  have h1 := cat10 (one r.Tail).get 1
  have h2 := cat10 (two r).get 2
  have h3 := plist_size r.Heads
  simp only [ByteArray.size_append]
  omega
theorem slts_size (r : TApi_RingState) (k : Nat) : (cat (fun i => slt (r.Slots.get i)) k).size ≤ k * 30 := cat_size k fun _ _ => slt_size _
theorem rng_size (r : TApi_RingState) : (rng r).size ≤ r.Heads.n * 10 + r.Slots.n * 30 + 40 := by
  unfold rng
  have h1 := rng0_size r
  have h2 := slts_size r r.Slots.n
  rw [ByteArray.size_append]
  omega

theorem l_f18_5 (r : TApi_RingState) (w : Sl Int) (hv : okW r) (hs : r.Slots.n ≤ 80) (hw : w.n ≤ 2000000000) {k : Nat} (hk : k ≤ r.Slots.n) :
    D_f18_5.rel ⟨r.Slots, r.Slots.n, k, ⟨⟨itW (wS r.Slots) w k⟩⟩⟩ ⟨⟨itW (wS r.Slots) w r.Slots.n⟩⟩ := by
  refine loop_rel (fun k => (⟨r.Slots, r.Slots.n, k, ⟨⟨itW (wS r.Slots) w k⟩⟩⟩ : X_f18_5)) (fun _ => (⟨⟨itW (wS r.Slots) w r.Slots.n⟩⟩ : TSnap_writer)) r.Slots.n (fun D => ?_) (fun D k hk hD => ?_) hk
  · simp only [tt_f18_5, ilt_nat, Nat.lt_irrefl, decide_false, fin_false]
    rfl
  · simp only [tt_f18_5, ilt_nat, hk, decide_true, fin_true, inb_nat hk, fin_need_true, Int.toNat_natCast, next64 hk (show r.Slots.n ≤ maxLen by unfold maxLen; omega)]
    refine fin_call _ (r_f16 (three (r.Slots.get k)) (itW (wS r.Slots) w k) (by show 3 ≤ maxLen; decide) (fun i _ => ?_) ?_) hD
    · exact U_cond (hv.slots k hk).1 (U_cond (hv.slots k hk).2 (U_wrap _))
    · show _ + 3 * 10 ≤ _
      rw [itW_n (h := fun i => slt (r.Slots.get i)) (bs_wS r.Slots)]
      have := slts_size r k
      omega
theorem r_f18 (r : TApi_RingState) (w : Sl Int) (hv : okW r) (hh : r.Heads.n ≤ 20) (hs : r.Slots.n ≤ 80) (hw : w.n ≤ 1000000000) : D_f18.rel (r, ⟨⟨w⟩⟩) ⟨⟨wR w r⟩⟩ := by
  show (tt_f18 _).Fin _
  simp only [tt_f18]
  have h1 := cat10 (one r.Tail).get 1
  have h2 := cat10 (two r).get 2
  have h3 := plist_size r.Heads
  refine fin_call _ (r_f16 (one r.Tail) w (by show 1 ≤ maxLen; decide) (fun i _ => hv.tail) (by show w.n + 1 * 10 ≤ _; omega)) ?_
  refine fin_call _ (r_f43 r.Heads (by omega) hv.heads) (fin_call _ (r_f41 _ _ ?_) ?_)
  · show (putA w (fun i => numI ((one r.Tail).get i)) 1).n + _ ≤ _
    rw [putA_n]
    omega
  refine fin_call _ (r_f19 _) (fin_call _ (r_f16 (two r) _ (by show 2 ≤ maxLen; decide) (fun i _ => U_cond (U_is _) (U_wrap _)) ?_) ?_)
  · show (putS (putA w (fun i => numI ((one r.Tail).get i)) 1) (plist r.Heads)).n + 2 * 10 ≤ _
    rw [putS_n, putA_n]
    omega
  · refine l_f18_5 r (wR0 w r) hv hs ?_ (Nat.zero_le _)
    rw [← bs_size, bs_wR0, ByteArray.size_append, bs_size]
    have := rng0_size r
    omega
/-! snap.Print -/
structure okP (s : TApi_State) : Prop where
  q : okS s
  t : ∀ i, i < s.Threads.n → okV (s.Threads.get i)
  r : ∀ i, i < s.Rings.n → okW (s.Rings.get i)
  now : U s.Now
  reads : U s.Reads
theorem few_iff {s : TApi_State} : few s = true ↔ s.Threads.n ≤ 10 ∧ s.Rings.n ≤ 10 ∧ (∀ i, i < s.Threads.n → (s.Threads.get i).Seen.n ≤ 100) ∧ ∀ i, i < s.Rings.n → (s.Rings.get i).Heads.n ≤ 20 ∧ (s.Rings.get i).Slots.n ≤ 80 := by
  simp only [few, fewT, fewR, Bool.and_eq_true, allF_iff, Bool.not_eq_true', decide_eq_false_iff_not, Nat.not_lt]

def last (s : TApi_State) : Sl Int := ⟨false, 3, fun i2 => (cond (Nat.beq i2 (0 : Nat)) s.Now (cond (Nat.beq i2 (1 : Nat)) s.Reads (is1 s.Ended)))⟩
def wTh (s : TApi_State) (w : Sl Int) (i : Nat) : Sl Int := wT w (s.Threads.get i)
def wRg (s : TApi_State) (w : Sl Int) (i : Nat) : Sl Int := wR w (s.Rings.get i)
theorem bs_wTh (s : TApi_State) (w : Sl Int) (i : Nat) : bs (wTh s w i) = bs w ++ thr (s.Threads.get i) := bs_wT _ _
theorem bs_wRg (s : TApi_State) (w : Sl Int) (i : Nat) : bs (wRg s w i) = bs w ++ rng (s.Rings.get i) := bs_wR _ _
def w1 (w : Sl Int) (n : Nat) : Sl Int := putA w (fun i => numI ((one (IntKind.u64.wrap (n : Int))).get i)) 1
def b1 (n : Nat) : ByteArray := cat (fun i => numI ((one (IntKind.u64.wrap (n : Int))).get i)) 1
theorem bs_w1 (w : Sl Int) (n : Nat) : bs (w1 w n) = bs w ++ b1 n := bs_putA _ _ _
theorem b1_size (n : Nat) : (b1 n).size ≤ 10 := cat10 _ 1
def thrs (s : TApi_State) (k : Nat) : ByteArray := cat (fun i => thr (s.Threads.get i)) k
def rngs (s : TApi_State) (k : Nat) : ByteArray := cat (fun i => rng (s.Rings.get i)) k
def printed (s : TApi_State) : ByteArray := b1 s.Threads.n ++ (thrs s s.Threads.n ++ (b1 s.Rings.n ++ (rngs s s.Rings.n ++ cat (fun i => numI ((last s).get i)) 3)))
theorem thrs_size {s : TApi_State} (hf : few s = true) {k : Nat} (hk : k ≤ s.Threads.n) : (thrs s k).size ≤ k * 1140 := by
  refine cat_size k fun i hi => ?_
  have h1 := thr_size (s.Threads.get i)
  have h2 := (few_iff.1 hf).2.2.1 i (by omega)
  omega
theorem rngs_size {s : TApi_State} (hf : few s = true) {k : Nat} (hk : k ≤ s.Rings.n) : (rngs s k).size ≤ k * 2640 := by
  refine cat_size k fun i hi => ?_
  have h1 := rng_size (s.Rings.get i)
  have h2 := (few_iff.1 hf).2.2.2 i (by omega)
  omega

theorem l_f7_16 (s : TApi_State) (w : Sl Int) (h : okP s) (hw : w.n ≤ 1000000000) : D_f7_16.rel ⟨s, ⟨⟨w⟩⟩⟩ (bs w ++ cat (fun i => numI ((last s).get i)) 3, 0) := by
  show (tt_f7_16 _).Fin _
  simp only [tt_f7_16]
  refine fin_call _ (r_f19 _) (fin_call _ (r_f16 (last s) w (by show 3 ≤ maxLen; decide) (fun i _ => U_cond h.now (U_cond h.reads (U_is _))) (by show w.n + 3 * 10 ≤ _; omega)) (fin_call _ (r_f20 _) ?_))
  show (bs _, (0 : Int)) = _
  rw [bs_putA]
  rfl
theorem l_f7_12 (s : TApi_State) (w : Sl Int) (h : okP s) (hf : few s = true) (hw : w.n ≤ 1000000) {k : Nat} (hk : k ≤ s.Rings.n) :
    D_f7_12.rel ⟨s, s.Rings, s.Rings.n, k, ⟨⟨itW (wRg s) w k⟩⟩⟩ (bs w ++ (rngs s s.Rings.n ++ cat (fun i => numI ((last s).get i)) 3), 0) := by
  have hsz := (few_iff.1 hf).2.1
  refine loop_rel (fun k => (⟨s, s.Rings, s.Rings.n, k, ⟨⟨itW (wRg s) w k⟩⟩⟩ : X_f7_12)) (fun _ => (bs w ++ (rngs s s.Rings.n ++ cat (fun i => numI ((last s).get i)) 3), (0 : Int))) s.Rings.n (fun D => ?_) (fun D k hk hD => ?_) hk
  · simp only [tt_f7_12, ilt_nat, Nat.lt_irrefl, decide_false, fin_false]
    have hn := itW_n (h := fun i => rng (s.Rings.get i)) (bs_wRg s) w s.Rings.n
    have h1 := rngs_size hf (Nat.le_refl s.Rings.n)
    have := l_f7_16 s (itW (wRg s) w s.Rings.n) h (by unfold rngs at h1; omega)
    rw [bs_itW (h := fun i => rng (s.Rings.get i)) (bs_wRg s), ByteArray.append_assoc] at this
    exact this
  · simp only [tt_f7_12, ilt_nat, hk, decide_true, fin_true, inb_nat hk, fin_need_true, Int.toNat_natCast, next64 hk h.q.r]
    have hn := itW_n (h := fun i => rng (s.Rings.get i)) (bs_wRg s) w k
    have h1 := rngs_size hf (Nat.le_of_lt hk)
    have h2 := (few_iff.1 hf).2.2.2 k hk
    exact fin_call _ (r_f18 (s.Rings.get k) (itW (wRg s) w k) (h.r k hk) h2.1 h2.2 (by unfold rngs at h1; omega)) hD
theorem l_f7_10 (s : TApi_State) (w : Sl Int) (h : okP s) (hf : few s = true) (hw : w.n ≤ 100000) :
    D_f7_10.rel ⟨s, ⟨⟨w⟩⟩⟩ (bs w ++ (b1 s.Rings.n ++ (rngs s s.Rings.n ++ cat (fun i => numI ((last s).get i)) 3)), 0) := by
  show (tt_f7_10 _).Fin _
  simp only [tt_f7_10]
  refine fin_call _ (r_f16 (one (IntKind.u64.wrap (s.Rings.n : Int))) w (by show 1 ≤ maxLen; decide) (fun i _ => U_wrap _) (by show w.n + 1 * 10 ≤ _; omega)) ?_
  have h1 := b1_size s.Rings.n
  have := l_f7_12 s (w1 w s.Rings.n) h hf (by rw [← bs_size, bs_w1, ByteArray.size_append, bs_size]; omega) (Nat.zero_le _)
  rw [bs_w1, ByteArray.append_assoc] at this
  exact this
theorem l_f7_6 (s : TApi_State) (w : Sl Int) (h : okP s) (hf : few s = true) (hw : w.n ≤ 1000) {k : Nat} (hk : k ≤ s.Threads.n) :
    D_f7_6.rel ⟨s, s.Threads, s.Threads.n, k, ⟨⟨itW (wTh s) w k⟩⟩⟩ (bs w ++ (thrs s s.Threads.n ++ (b1 s.Rings.n ++ (rngs s s.Rings.n ++ cat (fun i => numI ((last s).get i)) 3))), 0) := by
  have hsz := (few_iff.1 hf).1
  refine loop_rel (fun k => (⟨s, s.Threads, s.Threads.n, k, ⟨⟨itW (wTh s) w k⟩⟩⟩ : X_f7_6)) (fun _ => (bs w ++ (thrs s s.Threads.n ++ (b1 s.Rings.n ++ (rngs s s.Rings.n ++ cat (fun i => numI ((last s).get i)) 3))), (0 : Int))) s.Threads.n (fun D => ?_) (fun D k hk hD => ?_) hk
  · simp only [tt_f7_6, ilt_nat, Nat.lt_irrefl, decide_false, fin_false]
    have hn := itW_n (h := fun i => thr (s.Threads.get i)) (bs_wTh s) w s.Threads.n
    have h1 := thrs_size hf (Nat.le_refl s.Threads.n)
    have := l_f7_10 s (itW (wTh s) w s.Threads.n) h hf (by unfold thrs at h1; omega)
    rw [bs_itW (h := fun i => thr (s.Threads.get i)) (bs_wTh s), ByteArray.append_assoc] at this
    exact this
  · simp only [tt_f7_6, ilt_nat, hk, decide_true, fin_true, inb_nat hk, fin_need_true, Int.toNat_natCast, next64 hk h.q.t]
    have hn := itW_n (h := fun i => thr (s.Threads.get i)) (bs_wTh s) w k
    have h1 := thrs_size hf (Nat.le_of_lt hk)
    exact fin_call _ (r_f17 (s.Threads.get k) (itW (wTh s) w k) (h.t k hk) ((few_iff.1 hf).2.2.1 k hk) (by unfold thrs at h1; omega)) hD
theorem r_f7 (s : TApi_State) (h : okP s) (hf : few s = true) : D_f7.rel s (cond (wr s) (printed s, 0) (⟨#[]⟩, 1)) := by
  show (tt_f7 s).Fin _
  simp only [tt_f7]
  refine fin_call _ (r_f15 s h.q) ?_
  cases wr s
  · simp only [Bool.not_false, fin_true, cond_false]; rfl
  simp only [Bool.not_true, fin_false, cond_true]
  refine fin_call _ (r_f16 (one (IntKind.u64.wrap (s.Threads.n : Int))) nilS (by show 1 ≤ maxLen; decide) (fun i _ => U_wrap _) (by show 0 + 1 * 10 ≤ _; omega)) ?_
  have h1 := b1_size s.Threads.n
  have := l_f7_6 s (w1 nilS s.Threads.n) h hf (by rw [← bs_size, bs_w1, ByteArray.size_append, bs_size]; show 0 + _ ≤ _; omega) (Nat.zero_le _)
  rw [bs_w1, bs_nil, nil_app] at this
  exact this

/-! rondeauref22.Print -/
theorem sz {a b : ByteArray} (h : a.size + b.size ≤ 9223372036854775807) : decide ((a.size + b.size) ≤ (9223372036854775807 : Nat)) = true := decide_eq_true h
theorem r_f29 (b : Bool) : D_f29.rel b (numI (is1 b)) := by
  show (tt_f29 b).Fin _
  cases b <;> simp only [tt_f29, fin_true, fin_false] <;> exact fin_call _ (r_f27 (by decide) (by decide)) rfl
theorem l_f28_3 (l : Sl Int) (h : l.n ≤ 1000) (hu : ∀ i, i < l.n → U (l.get i)) {k : Nat} (hk : k ≤ l.n) : D_f28_3.rel ⟨l, numI l.n ++ cat (fun i => numI (l.get i)) k, k⟩ (plist l) := by
  have hm : l.n ≤ maxLen := by unfold maxLen; omega
  refine loop_rel (fun k => (⟨l, numI l.n ++ cat (fun i => numI (l.get i)) k, k⟩ : X_f28_3)) (fun _ => plist l) l.n (fun D => ?_) (fun D k hk hD => ?_) hk
  · simp only [tt_f28_3, ilt_nat, Nat.lt_irrefl, decide_false, fin_false]
    rfl
  · simp only [tt_f28_3, ilt_nat, hk, decide_true, fin_true, inb_nat hk, fin_need_true, Int.toNat_natCast, next64 hk hm]
    refine fin_call _ (r_f48 (hu k hk).1 (hu k hk).2) (fin_need (sz ?_) ?_)
    · have h1 := cat10 l.get k
      have h2 := numI_size (l.get k)
      have h3 := numI_size l.n
      rw [ByteArray.size_append]
      omega
    · rw [ByteArray.append_assoc]; exact hD
theorem r_f28 (l : Sl Int) (h : l.n ≤ 1000) (hu : ∀ i, i < l.n → U (l.get i)) : D_f28.rel l (plist l) := by
  have hm : l.n ≤ maxLen := by unfold maxLen; omega
  show (tt_f28 l).Fin _
  simp only [tt_f28, wrap_nat hm]
  refine fin_call _ (r_f48 (U_nat hm).1 (U_nat hm).2) ?_
  have := l_f28_3 l h hu (Nat.zero_le _)
  have e : numI l.n ++ cat (fun i => numI (l.get i)) 0 = numI l.n := by apply ByteArray.ext; simp [cat]
  rw [e] at this
  exact this

theorem thr_eq (t : TApi_ThreadState) : thr t = ((((numI (IntKind.u64.wrap t.At) ++ numI (IntKind.u64.wrap t.Phase)) ++ numI (IntKind.u64.wrap t.Ring)) ++ numI (IntKind.u64.wrap t.Status)) ++ numI t.Ticket) ++ (cat (fun i => numI (t.Regs i)) 8 ++ plist t.Seen) := by
  have h : cat (fun i => numI ((eight t).get i)) 8 = cat (fun i => numI (t.Regs i)) 8 := cat_congr fun i _ => by show numI (t.Regs (0 + i)) = _; rw [Nat.zero_add]
  unfold thr
  rw [h]
  congr 1
theorem slt_eq (x : TApi_Slot) : slt x = (numI x.Stamp ++ numI x.Value) ++ numI (IntKind.u64.wrap x.Left) := by
  show ((ByteArray.mk #[] ++ _) ++ _) ++ _ = _
  rw [nil_app]
  rfl
theorem rng0_eq (r : TApi_RingState) : rng0 r = ((numI r.Tail ++ plist r.Heads) ++ numI (is1 r.Closed)) ++ numI (IntKind.u64.wrap ((r.Slots.n : Nat) : Int)) := by
  unfold rng0
  show (ByteArray.mk #[] ++ _) ++ (_ ++ ((ByteArray.mk #[] ++ _) ++ _)) = _
  rw [nil_app, nil_app]
  simp only [ByteArray.append_assoc]
  rfl
theorem b1_eq (n : Nat) : b1 n = numI (IntKind.u64.wrap (n : Int)) := by
  show ByteArray.mk #[] ++ _ = _
  rw [nil_app]
  rfl
theorem last_eq (s : TApi_State) : cat (fun i => numI ((last s).get i)) 3 = (numI s.Now ++ numI s.Reads) ++ numI (is1 s.Ended) := by
  show ((ByteArray.mk #[] ++ _) ++ _) ++ _ = _
  rw [nil_app]
  rfl

theorem l_f11_22 (s : TApi_State) (o : ByteArray) (h : okP s) (ho : o.size ≤ 1000000000) : D_f11_22.rel ⟨s, o⟩ (o ++ cat (fun i => numI ((last s).get i)) 3) := by
  show (tt_f11_22 _).Fin _
  simp only [tt_f11_22]
  have h1 := numI_size s.Now
  have h2 := numI_size s.Reads
  have h3 := numI_size (is1 s.Ended)
  refine fin_call _ (r_f27 h.now.1 h.now.2) (fin_need (sz (by omega)) (fin_call _ (r_f27 h.reads.1 h.reads.2) (fin_need (sz (by rw [ByteArray.size_append]; omega)) (fin_call _ (r_f29 _) (fin_need (sz (by simp only [ByteArray.size_append]; omega)) ?_)))))
  show _ = _
  rw [last_eq]
  simp only [ByteArray.append_assoc]
theorem l_f11_19 (s : TApi_State) (i : Int) (r : TApi_RingState) (o : ByteArray) (hv : okW r) (hs : r.Slots.n ≤ 80) (ho : o.size ≤ 100000000) (D0 : Dyn X_f11_14 R_f11) (y : ByteArray)
    (hD : D0.rel ⟨s, o ++ cat (fun i => slt (r.Slots.get i)) r.Slots.n, IntKind.i64.wrap (i + 1)⟩ y) {k : Nat} (hk : k ≤ r.Slots.n) :
    (D_f11_19 D0).rel ⟨s, o ++ cat (fun i => slt (r.Slots.get i)) k, i, k, r⟩ y := by
  refine loop_rel (fun k => (⟨s, o ++ cat (fun i => slt (r.Slots.get i)) k, i, k, r⟩ : X_f11_19)) (fun _ => y) r.Slots.n (fun D => ?_) (fun D k hk hD => ?_) hk
  · simp only [tt_f11_19, ilt_nat, Nat.lt_irrefl, decide_false, fin_false]
    exact hD
  · simp only [tt_f11_19, ilt_nat, hk, decide_true, fin_true, inb_nat hk, fin_need_true, Int.toNat_natCast, next64 hk (show r.Slots.n ≤ maxLen by unfold maxLen; omega)]
    have h1 := numI_size (r.Slots.get k).Stamp
    have h2 := numI_size (r.Slots.get k).Value
    have h3 := numI_size (IntKind.u64.wrap (r.Slots.get k).Left)
    have h4 := slts_size r k
    refine fin_call _ (r_f27 (hv.slots k hk).1.1 (hv.slots k hk).1.2) (fin_need rfl (fin_call _ (r_f27 (hv.slots k hk).2.1 (hv.slots k hk).2.2) (fin_need (sz (by omega)) (fin_need rfl (fin_call _ (r_f27 (U_wrap _).1 (U_wrap _).2) (fin_need (sz (by simp only [ByteArray.size_append]; omega))
      (fin_need (sz (by simp only [ByteArray.size_append]; omega)) ?_)))))))
    rw [ByteArray.append_assoc, ← slt_eq]
    exact hD
theorem app_nil (o : ByteArray) : o ++ ⟨#[]⟩ = o := by apply ByteArray.ext; simp
theorem l_f11_14 (s : TApi_State) (o : ByteArray) (h : okP s) (hf : few s = true) (ho : o.size ≤ 1000000) {k : Nat} (hk : k ≤ s.Rings.n) :
    D_f11_14.rel ⟨s, o ++ rngs s k, k⟩ (o ++ (rngs s s.Rings.n ++ cat (fun i => numI ((last s).get i)) 3)) := by
  have hsz := (few_iff.1 hf).2.1
  refine loop_rel (fun k => (⟨s, o ++ rngs s k, k⟩ : X_f11_14)) (fun _ => o ++ (rngs s s.Rings.n ++ cat (fun i => numI ((last s).get i)) 3)) s.Rings.n (fun D => ?_) (fun D k hk hD => ?_) hk
  · simp only [tt_f11_14, ilt_nat, Nat.lt_irrefl, decide_false, fin_false]
    have h1 := rngs_size hf (Nat.le_refl s.Rings.n)
    have := l_f11_22 s (o ++ rngs s s.Rings.n) h (by rw [ByteArray.size_append]; omega)
    rw [ByteArray.append_assoc] at this
    exact this
  · simp only [tt_f11_14, ilt_nat, hk, decide_true, fin_true, inb_nat hk, fin_need_true, Int.toNat_natCast]
    have h0 := rngs_size hf (Nat.le_of_lt hk)
    have h5 := (few_iff.1 hf).2.2.2 k hk
    have h1 := numI_size (s.Rings.get k).Tail
    have h2 := plist_size (s.Rings.get k).Heads
    have h3 := numI_size (is1 (s.Rings.get k).Closed)
    have h4 := numI_size (IntKind.u64.wrap (((s.Rings.get k).Slots.n : Nat) : Int))
    refine fin_call _ (r_f27 (h.r k hk).tail.1 (h.r k hk).tail.2) (fin_call _ (r_f28 _ (by omega) (h.r k hk).heads) (fin_need (sz (by omega)) (fin_call _ (r_f29 _) (fin_need (sz (by simp only [ByteArray.size_append]; omega))
      (fin_call _ (r_f27 (U_wrap _).1 (U_wrap _).2) (fin_need (sz (by simp only [ByteArray.size_append]; omega)) (fin_need (sz (by simp only [ByteArray.size_append]; omega)) ?_)))))))
    rw [← rng0_eq]
    have := l_f11_19 s k (s.Rings.get k) ((o ++ rngs s k) ++ rng0 (s.Rings.get k)) (h.r k hk) h5.2 (by have := rng0_size (s.Rings.get k); simp only [ByteArray.size_append]; omega) D (o ++ (rngs s s.Rings.n ++ cat (fun i => numI ((last s).get i)) 3))
      (by
        rw [next64 hk h.q.r]
        have e : (o ++ rngs s k) ++ rng0 (s.Rings.get k) ++ cat (fun i => slt ((s.Rings.get k).Slots.get i)) (s.Rings.get k).Slots.n = o ++ rngs s (k + 1) := by
          simp only [rngs, cat, rng, ByteArray.append_assoc]
        rw [e]
        exact hD) (Nat.zero_le _)
    rw [show cat (fun i => slt ((s.Rings.get k).Slots.get i)) 0 = ⟨#[]⟩ from rfl, app_nil] at this
    exact this
theorem l_f11_12 (s : TApi_State) (o : ByteArray) (h : okP s) (hf : few s = true) (ho : o.size ≤ 100000) :
    D_f11_12.rel ⟨s, o⟩ (o ++ (b1 s.Rings.n ++ (rngs s s.Rings.n ++ cat (fun i => numI ((last s).get i)) 3))) := by
  show (tt_f11_12 _).Fin _
  simp only [tt_f11_12]
  have h1 := numI_size (IntKind.u64.wrap ((s.Rings.n : Nat) : Int))
  refine fin_call _ (r_f27 (U_wrap _).1 (U_wrap _).2) (fin_need (sz (by omega)) ?_)
  have := l_f11_14 s (o ++ numI (IntKind.u64.wrap ((s.Rings.n : Nat) : Int))) h hf (by rw [ByteArray.size_append]; omega) (Nat.zero_le _)
  rw [show rngs s 0 = ⟨#[]⟩ from rfl, app_nil, ByteArray.append_assoc] at this
  rw [b1_eq]
  exact this
theorem l_f11_8 (s : TApi_State) (i : Int) (t : TApi_ThreadState) (o : ByteArray) (hv : okV t) (hs : t.Seen.n ≤ 100) (ho : o.size ≤ 100000000) (D0 : Dyn X_f11_3 R_f11) (y : ByteArray)
    (hD : D0.rel ⟨s, (o ++ cat (fun i => numI (t.Regs i)) 8) ++ plist t.Seen, IntKind.i64.wrap (i + 1)⟩ y) {k : Nat} (hk : k ≤ 8) :
    (D_f11_8 D0).rel ⟨s, o ++ cat (fun i => numI (t.Regs i)) k, i, k, t⟩ y := by
  refine loop_rel (fun k => (⟨s, o ++ cat (fun i => numI (t.Regs i)) k, i, k, t⟩ : X_f11_8)) (fun _ => y) 8 (fun D => ?_) (fun D k hk hD => ?_) hk
  · simp only [tt_f11_8]
    rw [show ilt ((8 : Nat) : Int) 8 = false from by decide, fin_false]
    show (tt_f11_11 _ _).Fin _
    simp only [tt_f11_11]
    have h1 := cat10 t.Regs 8
    have h2 := plist_size t.Seen
    exact fin_call _ (r_f28 _ (by omega) hv.seen) (fin_need (sz (by simp only [ByteArray.size_append]; omega)) hD)
  · simp only [tt_f11_8]
    rw [show ilt (k : Int) 8 = true from by simp [ilt]; omega, fin_true]
    have h1 := cat10 t.Regs k
    have h2 := numI_size (t.Regs k)
    refine fin_need (by rw [inb_iff]; omega) ?_
    simp only [Int.toNat_natCast, next64 hk (show 8 ≤ maxLen by decide)]
    refine fin_call _ (r_f27 (hv.regs k hk).1 (hv.regs k hk).2) (fin_need (sz (by simp only [ByteArray.size_append]; omega)) ?_)
    rw [ByteArray.append_assoc]
    exact hD
theorem l_f11_3 (s : TApi_State) (o : ByteArray) (h : okP s) (hf : few s = true) (ho : o.size ≤ 1000) {k : Nat} (hk : k ≤ s.Threads.n) :
    D_f11_3.rel ⟨s, o ++ thrs s k, k⟩ (o ++ (thrs s s.Threads.n ++ (b1 s.Rings.n ++ (rngs s s.Rings.n ++ cat (fun i => numI ((last s).get i)) 3)))) := by
  have hsz := (few_iff.1 hf).1
  refine loop_rel (fun k => (⟨s, o ++ thrs s k, k⟩ : X_f11_3)) (fun _ => o ++ (thrs s s.Threads.n ++ (b1 s.Rings.n ++ (rngs s s.Rings.n ++ cat (fun i => numI ((last s).get i)) 3)))) s.Threads.n (fun D => ?_) (fun D k hk hD => ?_) hk
  · simp only [tt_f11_3, ilt_nat, Nat.lt_irrefl, decide_false, fin_false]
    have h1 := thrs_size hf (Nat.le_refl s.Threads.n)
    have := l_f11_12 s (o ++ thrs s s.Threads.n) h hf (by rw [ByteArray.size_append]; omega)
    rw [ByteArray.append_assoc] at this
    exact this
  · simp only [tt_f11_3, ilt_nat, hk, decide_true, fin_true, inb_nat hk, fin_need_true, Int.toNat_natCast]
    have h0 := thrs_size hf (Nat.le_of_lt hk)
    have h5 := (few_iff.1 hf).2.2.1 k hk
    have h1 := numI_size (IntKind.u64.wrap (s.Threads.get k).At)
    have h2 := numI_size (IntKind.u64.wrap (s.Threads.get k).Phase)
    have h3 := numI_size (IntKind.u64.wrap (s.Threads.get k).Ring)
    have h4 := numI_size (IntKind.u64.wrap (s.Threads.get k).Status)
    have h6 := numI_size (s.Threads.get k).Ticket
    refine fin_call _ (r_f27 (U_wrap _).1 (U_wrap _).2) (fin_call _ (r_f27 (U_wrap _).1 (U_wrap _).2) (fin_need (sz (by omega)) (fin_call _ (r_f27 (U_wrap _).1 (U_wrap _).2) (fin_need (sz (by simp only [ByteArray.size_append]; omega))
      (fin_call _ (r_f27 (U_wrap _).1 (U_wrap _).2) (fin_need (sz (by simp only [ByteArray.size_append]; omega)) (fin_call _ (r_f27 (h.t k hk).ticket.1 (h.t k hk).ticket.2) (fin_need (sz (by simp only [ByteArray.size_append]; omega)) (fin_need (sz (by simp only [ByteArray.size_append]; omega)) ?_)))))))))
    have := l_f11_8 s k (s.Threads.get k) ((o ++ thrs s k) ++ ((((numI (IntKind.u64.wrap (s.Threads.get k).At) ++ numI (IntKind.u64.wrap (s.Threads.get k).Phase)) ++ numI (IntKind.u64.wrap (s.Threads.get k).Ring)) ++ numI (IntKind.u64.wrap (s.Threads.get k).Status)) ++ numI (s.Threads.get k).Ticket)) (h.t k hk) h5
      (by simp only [ByteArray.size_append]; omega) D (o ++ (thrs s s.Threads.n ++ (b1 s.Rings.n ++ (rngs s s.Rings.n ++ cat (fun i => numI ((last s).get i)) 3))))
      (by
        rw [next64 hk h.q.t]
        have e : ((o ++ thrs s k) ++ ((((numI (IntKind.u64.wrap (s.Threads.get k).At) ++ numI (IntKind.u64.wrap (s.Threads.get k).Phase)) ++ numI (IntKind.u64.wrap (s.Threads.get k).Ring)) ++ numI (IntKind.u64.wrap (s.Threads.get k).Status)) ++ numI (s.Threads.get k).Ticket) ++ cat (fun i => numI ((s.Threads.get k).Regs i)) 8) ++ plist (s.Threads.get k).Seen = o ++ thrs s (k + 1) := by
          simp only [thrs, cat.eq_2, thr_eq]
          simp only [ByteArray.append_assoc]
        rw [e]
        exact hD) (Nat.zero_le _)
    rw [show cat (fun i => numI ((s.Threads.get k).Regs i)) 0 = ⟨#[]⟩ from rfl, app_nil] at this
    exact this
theorem r_f11 (s : TApi_State) (h : okP s) (hf : few s = true) : D_f11.rel s (printed s) := by
  show (tt_f11 s).Fin _
  simp only [tt_f11]
  have h1 := numI_size (IntKind.u64.wrap ((s.Threads.n : Nat) : Int))
  refine fin_call _ (r_f27 (U_wrap _).1 (U_wrap _).2) ?_
  have := l_f11_3 s (numI (IntKind.u64.wrap ((s.Threads.n : Nat) : Int))) h hf (by omega) (Nat.zero_le _)
  rw [show thrs s 0 = ⟨#[]⟩ from rfl, app_nil] at this
  rw [printed, b1_eq s.Threads.n]
  exact this

/-! the law -/
theorem awake_ev : D_f5.ev 100 PUnit.unit = some true := by kernel_rfl
theorem awake_rel : D_f5.rel PUnit.unit true := D_f5.evOK 100 _ _ awake_ev
theorem r_f3 (s t : TApi_State) (hs : okP s) (ht : okP t) : D_f3.rel (s, t) true := by
  show (tt_f3 (s, t)).Fin _
  simp only [tt_f3]
  refine fin_call _ awake_rel ?_
  simp only [Bool.not_true, fin_false]
  refine fin_call _ (r_f6 s hs.q) ?_
  cases hf : few s
  · simp only [Bool.not_false, fin_true]
    exact fin_call _ awake_rel rfl
  simp only [Bool.not_true, fin_false]
  refine fin_call _ (r_f6 t ht.q) ?_
  cases few t
  · simp only [Bool.not_false, fin_true]
    exact fin_call _ awake_rel rfl
  simp only [Bool.not_true, fin_false]
  show (tt_f3_3 ⟨s, t⟩).Fin _
  simp only [tt_f3_3]
  refine fin_call _ (r_f7 s hs hf) (fin_call _ (r_f8 s t hs.q) (fin_call _ (r_f9 s t hs.q) ?_))
  rw [show (same s t == same s t) = true from by simp]
  simp only [Bool.not_true, fin_false]
  refine fin_call _ (r_f8 s s hs.q) ?_
  rw [same_self]
  simp only [Bool.not_true, fin_false]
  show (tt_f3_6 ⟨s, _, _⟩).Fin _
  simp only [tt_f3_6]
  refine fin_call _ (r_f10 s hs.q) ?_
  cases wr s
  · simp only [Bool.not_false, fin_true, cond_false]
    rw [show Go.Vm.seq (ByteArray.mk #[]) (ByteArray.mk #[]) = true from seq_iff.2 rfl, fin_true]
    rfl
  · simp only [Bool.not_true, fin_false, cond_true]
    refine fin_call _ (r_f11 s hs hf) ?_
    rw [seq_iff.2 rfl, fin_true]
    rfl
def ok_TApi_ThreadState (x : TApi_ThreadState) : Prop := (fun n => (Lit.int .i64 n).wf = true) x.At ∧ (fun n => (Lit.int .i64 n).wf = true) x.Phase ∧ (fun n => (Lit.int .i64 n).wf = true) x.Ring ∧ (fun n => (Lit.int .i64 n).wf = true) x.Status ∧ (fun n => (Lit.int .u64 n).wf = true) x.Ticket ∧ (fun g => ∀ i, i < 8 → (fun n => (Lit.int .u64 n).wf = true) (g i)) x.Regs ∧ (okSl (fun n => (Lit.int .u64 n).wf = true)) x.Seen ∧ True
noncomputable def fl_TApi_ThreadState_0 : Field := (flds Try.prog 40).toList.getD 0 default
noncomputable def fl_TApi_ThreadState_1 : Field := (flds Try.prog 40).toList.getD 1 default
noncomputable def fl_TApi_ThreadState_2 : Field := (flds Try.prog 40).toList.getD 2 default
noncomputable def fl_TApi_ThreadState_3 : Field := (flds Try.prog 40).toList.getD 3 default
noncomputable def fl_TApi_ThreadState_4 : Field := (flds Try.prog 40).toList.getD 4 default
noncomputable def fl_TApi_ThreadState_5 : Field := (flds Try.prog 40).toList.getD 5 default
noncomputable def fl_TApi_ThreadState_6 : Field := (flds Try.prog 40).toList.getD 6 default
theorem op_TApi_ThreadState : Opens Try.prog 40 e_TApi_ThreadState ok_TApi_ThreadState :=
  Opens.map (opens_struct (fs := flds Try.prog 40) (l := fl_TApi_ThreadState_0 :: fl_TApi_ThreadState_1 :: fl_TApi_ThreadState_2 :: fl_TApi_ThreadState_3 :: fl_TApi_ThreadState_4 :: fl_TApi_ThreadState_5 :: fl_TApi_ThreadState_6 :: []) (by kernel_rfl) (by kernel_rfl) (by kernel_rfl)
    (opens_cons (u := 3) (s := 1) (by kernel_rfl) (by kernel_rfl) (by kernel_rfl) (opens_int (k := .i64) (by kernel_rfl)) (opens_cons (u := 3) (s := 1) (by kernel_rfl) (by kernel_rfl) (by kernel_rfl) (opens_int (k := .i64) (by kernel_rfl)) (opens_cons (u := 3) (s := 1) (by kernel_rfl) (by kernel_rfl) (by kernel_rfl) (opens_int (k := .i64) (by kernel_rfl)) (opens_cons (u := 3) (s := 1) (by kernel_rfl) (by kernel_rfl) (by kernel_rfl) (opens_int (k := .i64) (by kernel_rfl)) (opens_cons (u := 24) (s := 1) (by kernel_rfl) (by kernel_rfl) (by kernel_rfl) (opens_int (k := .u64) (by kernel_rfl)) (opens_cons (u := 37) (s := 8) (by kernel_rfl) (by kernel_rfl) (by kernel_rfl) (opens_arr (e := 24) (n := 8) (s := 1) (dI .undef) (by kernel_rfl) (by kernel_rfl) (by kernel_rfl) (opens_int (k := .u64) (by kernel_rfl))) (opens_cons (u := 38) (s := 1) (by kernel_rfl) (by kernel_rfl) (by kernel_rfl) (opens_slice (e := 24) (s := 1) (dI .undef) (by kernel_rfl) (by kernel_rfl) (by decide) (opens_int (k := .u64) (by kernel_rfl))) opens_nil)))))))) (fun x => ⟨x.1, x.2.1, x.2.2.1, x.2.2.2.1, x.2.2.2.2.1, x.2.2.2.2.2.1, x.2.2.2.2.2.2.1⟩) (fun _ => rfl) (fun _ h => h)

def ok_TApi_Slot (x : TApi_Slot) : Prop := (fun n => (Lit.int .u64 n).wf = true) x.Stamp ∧ (fun n => (Lit.int .u64 n).wf = true) x.Value ∧ (fun n => (Lit.int .i64 n).wf = true) x.Left ∧ True
noncomputable def fl_TApi_Slot_0 : Field := (flds Try.prog 72).toList.getD 0 default
noncomputable def fl_TApi_Slot_1 : Field := (flds Try.prog 72).toList.getD 1 default
noncomputable def fl_TApi_Slot_2 : Field := (flds Try.prog 72).toList.getD 2 default
theorem op_TApi_Slot : Opens Try.prog 72 e_TApi_Slot ok_TApi_Slot :=
  Opens.map (opens_struct (fs := flds Try.prog 72) (l := fl_TApi_Slot_0 :: fl_TApi_Slot_1 :: fl_TApi_Slot_2 :: []) (by kernel_rfl) (by kernel_rfl) (by kernel_rfl)
    (opens_cons (u := 24) (s := 1) (by kernel_rfl) (by kernel_rfl) (by kernel_rfl) (opens_int (k := .u64) (by kernel_rfl)) (opens_cons (u := 24) (s := 1) (by kernel_rfl) (by kernel_rfl) (by kernel_rfl) (opens_int (k := .u64) (by kernel_rfl)) (opens_cons (u := 3) (s := 1) (by kernel_rfl) (by kernel_rfl) (by kernel_rfl) (opens_int (k := .i64) (by kernel_rfl)) opens_nil)))) (fun x => ⟨x.1, x.2.1, x.2.2.1⟩) (fun _ => rfl) (fun _ h => h)

def ok_TApi_RingState (x : TApi_RingState) : Prop := (fun n => (Lit.int .u64 n).wf = true) x.Tail ∧ (okSl (fun n => (Lit.int .u64 n).wf = true)) x.Heads ∧ (fun _ => True) x.Closed ∧ (okSl ok_TApi_Slot) x.Slots ∧ True
noncomputable def fl_TApi_RingState_0 : Field := (flds Try.prog 54).toList.getD 0 default
noncomputable def fl_TApi_RingState_1 : Field := (flds Try.prog 54).toList.getD 1 default
noncomputable def fl_TApi_RingState_2 : Field := (flds Try.prog 54).toList.getD 2 default
noncomputable def fl_TApi_RingState_3 : Field := (flds Try.prog 54).toList.getD 3 default
theorem op_TApi_RingState : Opens Try.prog 54 e_TApi_RingState ok_TApi_RingState :=
  Opens.map (opens_struct (fs := flds Try.prog 54) (l := fl_TApi_RingState_0 :: fl_TApi_RingState_1 :: fl_TApi_RingState_2 :: fl_TApi_RingState_3 :: []) (by kernel_rfl) (by kernel_rfl) (by kernel_rfl)
    (opens_cons (u := 24) (s := 1) (by kernel_rfl) (by kernel_rfl) (by kernel_rfl) (opens_int (k := .u64) (by kernel_rfl)) (opens_cons (u := 38) (s := 1) (by kernel_rfl) (by kernel_rfl) (by kernel_rfl) (opens_slice (e := 24) (s := 1) (dI .undef) (by kernel_rfl) (by kernel_rfl) (by decide) (opens_int (k := .u64) (by kernel_rfl))) (opens_cons (u := 4) (s := 1) (by kernel_rfl) (by kernel_rfl) (by kernel_rfl) (opens_bool (by kernel_rfl)) (opens_cons (u := 52) (s := 1) (by kernel_rfl) (by kernel_rfl) (by kernel_rfl) (opens_slice (e := 72) (s := 3) (d_TApi_Slot .undef) (by kernel_rfl) (by kernel_rfl) (by decide) (op_TApi_Slot)) opens_nil))))) (fun x => ⟨x.1, x.2.1, x.2.2.1, x.2.2.2.1⟩) (fun _ => rfl) (fun _ h => h)

def ok_TApi_State (x : TApi_State) : Prop := (okSl ok_TApi_ThreadState) x.Threads ∧ (okSl ok_TApi_RingState) x.Rings ∧ (fun n => (Lit.int .u64 n).wf = true) x.Now ∧ (fun n => (Lit.int .u64 n).wf = true) x.Reads ∧ (fun _ => True) x.Ended ∧ True
noncomputable def fl_TApi_State_0 : Field := (flds Try.prog 26).toList.getD 0 default
noncomputable def fl_TApi_State_1 : Field := (flds Try.prog 26).toList.getD 1 default
noncomputable def fl_TApi_State_2 : Field := (flds Try.prog 26).toList.getD 2 default
noncomputable def fl_TApi_State_3 : Field := (flds Try.prog 26).toList.getD 3 default
noncomputable def fl_TApi_State_4 : Field := (flds Try.prog 26).toList.getD 4 default
theorem op_TApi_State : Opens Try.prog 26 e_TApi_State ok_TApi_State :=
  Opens.map (opens_struct (fs := flds Try.prog 26) (l := fl_TApi_State_0 :: fl_TApi_State_1 :: fl_TApi_State_2 :: fl_TApi_State_3 :: fl_TApi_State_4 :: []) (by kernel_rfl) (by kernel_rfl) (by kernel_rfl)
    (opens_cons (u := 22) (s := 1) (by kernel_rfl) (by kernel_rfl) (by kernel_rfl) (opens_slice (e := 40) (s := 14) (d_TApi_ThreadState .undef) (by kernel_rfl) (by kernel_rfl) (by decide) (op_TApi_ThreadState)) (opens_cons (u := 23) (s := 1) (by kernel_rfl) (by kernel_rfl) (by kernel_rfl) (opens_slice (e := 54) (s := 4) (d_TApi_RingState .undef) (by kernel_rfl) (by kernel_rfl) (by decide) (op_TApi_RingState)) (opens_cons (u := 24) (s := 1) (by kernel_rfl) (by kernel_rfl) (by kernel_rfl) (opens_int (k := .u64) (by kernel_rfl)) (opens_cons (u := 24) (s := 1) (by kernel_rfl) (by kernel_rfl) (by kernel_rfl) (opens_int (k := .u64) (by kernel_rfl)) (opens_cons (u := 4) (s := 1) (by kernel_rfl) (by kernel_rfl) (by kernel_rfl) (opens_bool (by kernel_rfl)) opens_nil)))))) (fun x => ⟨x.1, x.2.1, x.2.2.1, x.2.2.2.1, x.2.2.2.2.1⟩) (fun _ => rfl) (fun _ h => h)

theorem okP_of {s : TApi_State} (h : ok_TApi_State s) : okP s := by
  obtain ⟨h1, h2, h3, h4, _, _⟩ := h
  refine ⟨⟨h1.2.1, h2.2.1, fun i hi => ?_, fun i hi => ?_⟩, fun i hi => ?_, fun i hi => ?_, wf_u64 h3, wf_u64 h4⟩
  · obtain ⟨_, _, _, _, _, _, k, _⟩ := h1.2.2 i hi
    exact k.2.1
  · obtain ⟨_, k1, _, k2, _⟩ := h2.2.2 i hi
    exact ⟨k1.2.1, k2.2.1⟩
  · obtain ⟨_, _, _, _, k1, k2, k3, _⟩ := h1.2.2 i hi
    exact ⟨wf_u64 k1, fun j hj => wf_u64 (k2 j hj), fun j hj => wf_u64 (k3.2.2 j hj)⟩
  · obtain ⟨k1, k2, _, k3, _⟩ := h2.2.2 i hi
    exact ⟨wf_u64 k1, fun j hj => wf_u64 (k2.2.2 j hj), fun j hj => ⟨wf_u64 (k3.2.2 j hj).1, wf_u64 (k3.2.2 j hj).2.1⟩⟩

theorem given_State : Given Try.prog 26 e_TApi_State ok_TApi_State :=
  given_struct (fs := flds Try.prog 26) (by kernel_rfl) op_TApi_State (fun _ => rfl) (fun _ => rfl)


theorem Try.own : ownKnob Try.prog.godebug = none := by kernel_rfl
theorem Try.laidOut : laidOutB Try.prog = true := by kernel_rfl
theorem Try.rowed : mapsRowed Try.prog = true := by kernel_rfl
theorem Try.full : ∀ t e, t < Try.prog.types.size → Try.prog.underlying t = some (.slice e) → 0 < Try.prog.cellsOf e := slices_full_of Try.prog (by kernel_rfl)

def zeroState : Value := .agg #[.slice none 0 0, .slice none 0 0, .int .u64 0, .int .u64 0, .bool false]

theorem snapPrints_lifted (os : Os) (started : os.Started) (H : Type) (enc : TypeId × Value → H) :
    ReturnsInHanded {} Try.checked os 3 .any (Rows.snapPrintsSpec.pre6 enc Try.prog Try.f3 Rows.snapPrintsRow.domain false) (Rows.snapPrintsSpec.post enc Try.prog Try.f3 false true false false) := by
  refine lifted (tb := 4) (C := Try.checked) Try.own started (by kernel_rfl) Try.func3
    (ChangeSpec.witness6 (enc := enc) (C := Try.checked) false ⟨#[], #[zeroState, zeroState], []⟩ 8 (by kernel_rfl) (by kernel_rfl) (by kernel_rfl) (by kernel_rfl)) Try.laidOut Try.rowed Try.full
    (by kernel_rfl) rfl rfl (by kernel_rfl) ?_ ?_
  · intro ds hl
    match ds, hl with
    | [_, _], _ => rfl
  · intro W base args ds ps hval hA
    rw [Try.params3] at hA hval
    obtain ⟨v0, v1, d0, d1, p0, p1, rfl, rfl, rfl, h0, h1⟩ := trodAll_two hA
    obtain ⟨a, ha, ra⟩ := given_State H enc W base v0 d0 p0 (hval 0 26 v0 rfl rfl) h0
    obtain ⟨b, hb, rb⟩ := given_State H enc W base v1 d1 p1 (hval 1 26 v1 rfl rfl) h1
    refine calls_bool (ct_f3 (a, b) true (r_f3 a b (okP_of ha) (okP_of hb))) (fun j x v hx hv => ?_) rfl
    match j, hx, hv with
    | 0, hx, hv => simp at hx hv; subst hx hv; exact ra
    | 1, hx, hv => simp at hx hv; subst hx hv; exact rb

theorem snapPrints_holds : Rows.SnapPrintsSaid :=
  OpenClaim.holds_of_wide 3 Try.f3 rfl rfl rfl rfl rfl rfl rfl ⟨rfl, rfl, rfl, rfl, rfl⟩ rfl rfl rfl rfl rfl (by kernel_rfl) Try.func3 (by kernel_rfl)
    (of_decide_eq_true (by kernel_rfl)) (by unfold Func.isWrapper; first | (rw [if_pos (by decide +kernel)]; kernel_rfl) | (rw [if_neg (by decide +kernel)]; exact ⟨rfl, rfl⟩))
    (fun os started H enc _ => snapPrints_lifted os started H enc)
end Go.Proofs.Ytiplcdhnjennfaa
