/- What functions of the program come to, part A: no statement is proved here. -/
import Derived.Test.YtiplcdhnjennfaaGreatM
import Derived.Test.YtiplcdhnjennfaaGreatProg
import Derived.KernelRfl
namespace Go.Proofs.YtiplcdhnjennfaaGreat
open Go Go.Vm Go.Proofs
set_option maxRecDepth 100000
theorem mixed_ok : Tryz.prog.follows .mixedOrders = true := by kernel_rfl

abbrev Dsl_i64 : Type := (Sl Int)
def esl_i64 : Dsl_i64 → V := (eSl none 1 (V.int .i64))
def dsl_i64 : V → Dsl_i64 := (dSl dI)
def hsl_i64 : Sh := (.sl none 1 (V.int .i64 0))


/-! slices.Min[[]int,int] (slices_Min_int) -/
abbrev X_slices_Min_int : Type := (Sl Int)
abbrev R_slices_Min_int : Type := Int
noncomputable def J_slices_Min_int : Job Tryz.prog :=
  job Tryz.prog Tryz.f175 25 [] [] [] [] [.any] [] [] R_slices_Min_int [] fun y => [(V.int .i64) y]
noncomputable def S_slices_Min_int : LabS :=
  lab0 Tryz.f175 1 0 X_slices_Min_int (fun x => [esl_i64 x]) fun l => (dsl_i64 (at_ l 0))
structure X_slices_Min_int_3 where
  x_0 : (Sl Int)
noncomputable def S_slices_Min_int_3 : LabS :=
  labAt Tryz.f175 3 [(0, hsl_i64)] [] [] X_slices_Min_int_3 (fun x => [esl_i64 x.x_0]) fun l => ⟨dsl_i64 (at_ l 0)⟩
structure X_slices_Min_int_5 where
  x_0 : (Sl Int)
  m_3 : Int
  i_4 : Int
noncomputable def S_slices_Min_int_5 : LabS :=
  labAt Tryz.f175 5 [(0, hsl_i64), (3, .any), (4, .any)] [] [] X_slices_Min_int_5 (fun x => [esl_i64 x.x_0, (V.int .i64) x.m_3, (V.int .i64) x.i_4]) fun l => ⟨dsl_i64 (at_ l 0), dI (at_ l 1), dI (at_ l 2)⟩
noncomputable def tt_slices_Min_int_5 (D_slices_Min_int_5 : Dyn X_slices_Min_int_5 R_slices_Min_int) (x : X_slices_Min_int_5) : TT Tryz.prog R_slices_Min_int :=
 (.ite (ilt x.i_4 ((x.x_0.n : Nat) : Int))
  (.need (inb x.i_4 x.x_0.n) <|
  (.jump S_slices_Min_int_5 D_slices_Min_int_5 (X_slices_Min_int_5.mk x.x_0 (imin x.m_3 (x.x_0.get (Int.toNat x.i_4))) (IntKind.i64.wrap (x.i_4 + 1))))
  )
  (.ret x.m_3)
 )
theorem sd_slices_Min_int_5 (D_slices_Min_int_5 : Dyn X_slices_Min_int_5 R_slices_Min_int) (x : X_slices_Min_int_5) : (tt_slices_Min_int_5 D_slices_Min_int_5 x).Sides :=
  (TT.s_ite (TT.s_need TT.s_jump) TT.s_ret)

noncomputable def D_slices_Min_int_5 : Dyn X_slices_Min_int_5 R_slices_Min_int := Dyn.loop tt_slices_Min_int_5
theorem ok_slices_Min_int_5 : LabOK J_slices_Min_int S_slices_Min_int_5 D_slices_Min_int_5 :=
  loop_ok fun D_slices_Min_int_5 h_5 => lab_ok mixed_ok (labs_cons2 h_5 rfl labs_nil) 4000 (fun x => by kernel_rfl) (sd_slices_Min_int_5 D_slices_Min_int_5)
noncomputable def tt_slices_Min_int_3 (x : X_slices_Min_int_3) : TT Tryz.prog R_slices_Min_int :=
 (.need (inb 0 x.x_0.n) <|
 (.jump S_slices_Min_int_5 D_slices_Min_int_5 (X_slices_Min_int_5.mk x.x_0 (x.x_0.get (Int.toNat 0)) 1))
 )
theorem sd_slices_Min_int_3 (x : X_slices_Min_int_3) : (tt_slices_Min_int_3 x).Sides :=
  (TT.s_need TT.s_jump)

noncomputable def D_slices_Min_int_3 : Dyn X_slices_Min_int_3 R_slices_Min_int := .of tt_slices_Min_int_3
theorem ok_slices_Min_int_3 : LabOK J_slices_Min_int S_slices_Min_int_3 D_slices_Min_int_3 :=
  lab_ok mixed_ok (labs_cons2 ok_slices_Min_int_5 rfl labs_nil) 4000 (fun x => by kernel_rfl) sd_slices_Min_int_3
noncomputable def tt_slices_Min_int (x : X_slices_Min_int) : TT Tryz.prog R_slices_Min_int :=
 (.ite (ilt ((x.n : Nat) : Int) 1)
  .fail
  (.jump S_slices_Min_int_3 D_slices_Min_int_3 (X_slices_Min_int_3.mk x))
 )
theorem sd_slices_Min_int (x : X_slices_Min_int) : (tt_slices_Min_int x).Sides :=
  (TT.s_ite TT.s_fail TT.s_jump)

noncomputable def D_slices_Min_int : Dyn X_slices_Min_int R_slices_Min_int := .of tt_slices_Min_int
noncomputable def con_slices_Min_int : Con Tryz.prog :=
  mkCon 175 J_slices_Min_int S_slices_Min_int D_slices_Min_int D_slices_Min_int (fun _ _ h => h) 1 0 [hsl_i64] (by kernel_rfl) (by kernel_rfl) (by kernel_rfl) (lab_ok mixed_ok (labs_cons2 ok_slices_Min_int_5 rfl (labs_cons2 ok_slices_Min_int_3 rfl labs_nil)) 4000 (fun x => by kernel_rfl) sd_slices_Min_int) rfl rfl (fun _ => rfl) (by kernel_rfl) rfl (fun _ => rfl) (fun x y _ => by kernel_rfl)

/-! slices.Max[[]int,int] (slices_Max_int) -/
abbrev X_slices_Max_int : Type := (Sl Int)
abbrev R_slices_Max_int : Type := Int
noncomputable def J_slices_Max_int : Job Tryz.prog :=
  job Tryz.prog Tryz.f176 25 [] [] [] [] [.any] [] [] R_slices_Max_int [] fun y => [(V.int .i64) y]
noncomputable def S_slices_Max_int : LabS :=
  lab0 Tryz.f176 1 0 X_slices_Max_int (fun x => [esl_i64 x]) fun l => (dsl_i64 (at_ l 0))
structure X_slices_Max_int_3 where
  x_0 : (Sl Int)
noncomputable def S_slices_Max_int_3 : LabS :=
  labAt Tryz.f176 3 [(0, hsl_i64)] [] [] X_slices_Max_int_3 (fun x => [esl_i64 x.x_0]) fun l => ⟨dsl_i64 (at_ l 0)⟩
structure X_slices_Max_int_5 where
  x_0 : (Sl Int)
  m_3 : Int
  i_4 : Int
noncomputable def S_slices_Max_int_5 : LabS :=
  labAt Tryz.f176 5 [(0, hsl_i64), (3, .any), (4, .any)] [] [] X_slices_Max_int_5 (fun x => [esl_i64 x.x_0, (V.int .i64) x.m_3, (V.int .i64) x.i_4]) fun l => ⟨dsl_i64 (at_ l 0), dI (at_ l 1), dI (at_ l 2)⟩
noncomputable def tt_slices_Max_int_5 (D_slices_Max_int_5 : Dyn X_slices_Max_int_5 R_slices_Max_int) (x : X_slices_Max_int_5) : TT Tryz.prog R_slices_Max_int :=
 (.ite (ilt x.i_4 ((x.x_0.n : Nat) : Int))
  (.need (inb x.i_4 x.x_0.n) <|
  (.jump S_slices_Max_int_5 D_slices_Max_int_5 (X_slices_Max_int_5.mk x.x_0 (imax x.m_3 (x.x_0.get (Int.toNat x.i_4))) (IntKind.i64.wrap (x.i_4 + 1))))
  )
  (.ret x.m_3)
 )
theorem sd_slices_Max_int_5 (D_slices_Max_int_5 : Dyn X_slices_Max_int_5 R_slices_Max_int) (x : X_slices_Max_int_5) : (tt_slices_Max_int_5 D_slices_Max_int_5 x).Sides :=
  (TT.s_ite (TT.s_need TT.s_jump) TT.s_ret)

noncomputable def D_slices_Max_int_5 : Dyn X_slices_Max_int_5 R_slices_Max_int := Dyn.loop tt_slices_Max_int_5
theorem ok_slices_Max_int_5 : LabOK J_slices_Max_int S_slices_Max_int_5 D_slices_Max_int_5 :=
  loop_ok fun D_slices_Max_int_5 h_5 => lab_ok mixed_ok (labs_cons2 h_5 rfl labs_nil) 4000 (fun x => by kernel_rfl) (sd_slices_Max_int_5 D_slices_Max_int_5)
noncomputable def tt_slices_Max_int_3 (x : X_slices_Max_int_3) : TT Tryz.prog R_slices_Max_int :=
 (.need (inb 0 x.x_0.n) <|
 (.jump S_slices_Max_int_5 D_slices_Max_int_5 (X_slices_Max_int_5.mk x.x_0 (x.x_0.get (Int.toNat 0)) 1))
 )
theorem sd_slices_Max_int_3 (x : X_slices_Max_int_3) : (tt_slices_Max_int_3 x).Sides :=
  (TT.s_need TT.s_jump)

noncomputable def D_slices_Max_int_3 : Dyn X_slices_Max_int_3 R_slices_Max_int := .of tt_slices_Max_int_3
theorem ok_slices_Max_int_3 : LabOK J_slices_Max_int S_slices_Max_int_3 D_slices_Max_int_3 :=
  lab_ok mixed_ok (labs_cons2 ok_slices_Max_int_5 rfl labs_nil) 4000 (fun x => by kernel_rfl) sd_slices_Max_int_3
noncomputable def tt_slices_Max_int (x : X_slices_Max_int) : TT Tryz.prog R_slices_Max_int :=
 (.ite (ilt ((x.n : Nat) : Int) 1)
  .fail
  (.jump S_slices_Max_int_3 D_slices_Max_int_3 (X_slices_Max_int_3.mk x))
 )
theorem sd_slices_Max_int (x : X_slices_Max_int) : (tt_slices_Max_int x).Sides :=
  (TT.s_ite TT.s_fail TT.s_jump)

noncomputable def D_slices_Max_int : Dyn X_slices_Max_int R_slices_Max_int := .of tt_slices_Max_int
noncomputable def con_slices_Max_int : Con Tryz.prog :=
  mkCon 176 J_slices_Max_int S_slices_Max_int D_slices_Max_int D_slices_Max_int (fun _ _ h => h) 1 0 [hsl_i64] (by kernel_rfl) (by kernel_rfl) (by kernel_rfl) (lab_ok mixed_ok (labs_cons2 ok_slices_Max_int_5 rfl (labs_cons2 ok_slices_Max_int_3 rfl labs_nil)) 4000 (fun x => by kernel_rfl) sd_slices_Max_int) rfl rfl (fun _ => rfl) (by kernel_rfl) rfl (fun _ => rfl) (fun x y _ => by kernel_rfl)

/-! snap.small (snap_small) -/
abbrev X_snap_small : Type := (Sl Int)
abbrev R_snap_small : Type := Bool
noncomputable def J_snap_small : Job Tryz.prog :=
  job Tryz.prog Tryz.f131 11 [(7, 1)] [] [] [] [.any] [] [con_slices_Max_int, con_slices_Min_int] R_snap_small [] fun y => [V.bool y]
noncomputable def S_snap_small : LabS :=
  lab0 Tryz.f131 1 0 X_snap_small (fun x => [esl_i64 x]) fun l => (dsl_i64 (at_ l 0))
noncomputable def tt_snap_small (x : X_snap_small) : TT Tryz.prog R_snap_small :=
 (.call con_slices_Min_int x fun (y1 : R_slices_Min_int) =>
 (.ite (ile 0 y1)
  (.call con_slices_Max_int x fun (y2 : R_slices_Max_int) =>
  (.ret (ile y2 65535))
  )
  (.ret false)
 )
 )
theorem sd_snap_small (x : X_snap_small) : (tt_snap_small x).Sides :=
  (TT.s_call fun _ => (TT.s_ite (TT.s_call fun _ => TT.s_ret) TT.s_ret))

noncomputable def D_snap_small : Dyn X_snap_small R_snap_small := .of tt_snap_small
noncomputable def con_snap_small : Con Tryz.prog :=
  mkCon 131 J_snap_small S_snap_small D_snap_small D_snap_small (fun _ _ h => h) 1 0 [hsl_i64] (by kernel_rfl) (by kernel_rfl) (by kernel_rfl) (lab_ok mixed_ok labs_nil 4000 (fun x => by kernel_rfl) sd_snap_small) rfl rfl (fun _ => rfl) (by kernel_rfl) rfl (fun _ => rfl) (fun x y _ => by kernel_rfl)

def d_TApi_Slot (v : V) : TApi_Slot :=
  ⟨dI (fd v 0), dI (fd v 1), dI (fd v 2)⟩

def e_TApi_Slot (x : TApi_Slot) : V :=
  V.cons ((V.int .u64) x.Stamp) (V.cons ((V.int .u64) x.Value) (V.cons ((V.int .i64) x.Left) (V.unit)))

theorem nu_e_TApi_Slot (x : TApi_Slot) : (e_TApi_Slot x).NoU := ⟨trivial, trivial, trivial, trivial⟩

/-! snap.written$1 (snap_written_1) -/
abbrev X_snap_written_1 : Type := TApi_Slot
abbrev R_snap_written_1 : Type := Bool
noncomputable def J_snap_written_1 : Job Tryz.prog :=
  job Tryz.prog Tryz.f133 8 [(1, 3)] [] [] [] [.any] [] [con_snap_small] R_snap_written_1 [] fun y => [V.bool y]
noncomputable def S_snap_written_1 : LabS :=
  lab0 Tryz.f133 1 0 X_snap_written_1 (fun x => [e_TApi_Slot x]) fun l => (d_TApi_Slot (at_ l 0))
noncomputable def tt_snap_written_1 (x : X_snap_written_1) : TT Tryz.prog R_snap_written_1 :=
 (.call con_snap_small (Sl.mk false 1 (fun _i1 => x.Left)) fun (y1 : R_snap_small) =>
 (.ret (!y1))
 )
theorem sd_snap_written_1 (x : X_snap_written_1) : (tt_snap_written_1 x).Sides :=
  (TT.s_call fun _ => TT.s_ret)

noncomputable def D_snap_written_1 : Dyn X_snap_written_1 R_snap_written_1 := .of tt_snap_written_1
noncomputable def con_snap_written_1 : Con Tryz.prog :=
  mkCon 133 J_snap_written_1 S_snap_written_1 D_snap_written_1 D_snap_written_1 (fun _ _ h => h) 1 0 [.any] (by kernel_rfl) (by kernel_rfl) (by kernel_rfl) (lab_ok mixed_ok labs_nil 4000 (fun x => by kernel_rfl) sd_snap_written_1) rfl rfl (fun _ => rfl) (by kernel_rfl) rfl (fun _ => rfl) (fun x y _ => by kernel_rfl)

abbrev Dsl_u64 : Type := (Sl Int)
def esl_u64 : Dsl_u64 → V := (eSl none 1 (V.int .u64))
def dsl_u64 : V → Dsl_u64 := (dSl dI)
def hsl_u64 : Sh := (.sl none 1 (V.int .u64 0))

structure TApi_ThreadState where
  At : Int
  Phase : Int
  Ring : Int
  Status : Int
  Ticket : Int
  Regs : (Nat → Int)
  Seen : (Sl Int)

def d_TApi_ThreadState (v : V) : TApi_ThreadState :=
  ⟨dI (fd v 0), dI (fd v 1), dI (fd v 2), dI (fd v 3), dI (fd v 4), (dArr dI) (fd v 5), dsl_u64 (fd v 6)⟩

def e_TApi_ThreadState (x : TApi_ThreadState) : V :=
  V.cons ((V.int .i64) x.At) (V.cons ((V.int .i64) x.Phase) (V.cons ((V.int .i64) x.Ring) (V.cons ((V.int .i64) x.Status) (V.cons ((V.int .u64) x.Ticket) (V.cons ((eArr 1 8 (V.int .u64)) x.Regs) (V.cons (esl_u64 x.Seen) (V.unit)))))))

theorem nu_e_TApi_ThreadState (x : TApi_ThreadState) : (e_TApi_ThreadState x).NoU := ⟨trivial, trivial, trivial, trivial, trivial, (fun _ _ => trivial : ∀ y, ((eArr 1 8 (V.int .u64)) y).NoU) x.Regs, trivial, trivial⟩

def sh_TApi_ThreadState : Sh := (.cons .any (.cons .any (.cons .any (.cons .any (.cons .any (.cons .any (.cons hsl_u64 .any)))))))

abbrev Dsl_TApi_ThreadState : Type := (Sl TApi_ThreadState)
def esl_TApi_ThreadState : Dsl_TApi_ThreadState → V := (eSl none 14 e_TApi_ThreadState)
def dsl_TApi_ThreadState : V → Dsl_TApi_ThreadState := (dSl d_TApi_ThreadState)
def hsl_TApi_ThreadState : Sh := (.sl none 14 (e_TApi_ThreadState (d_TApi_ThreadState .undef)))

abbrev Dsl_TApi_Slot : Type := (Sl TApi_Slot)
def esl_TApi_Slot : Dsl_TApi_Slot → V := (eSl none 3 e_TApi_Slot)
def dsl_TApi_Slot : V → Dsl_TApi_Slot := (dSl d_TApi_Slot)
def hsl_TApi_Slot : Sh := (.sl none 3 (e_TApi_Slot (d_TApi_Slot .undef)))

structure TApi_RingState where
  Tail : Int
  Heads : (Sl Int)
  Closed : Bool
  Slots : (Sl TApi_Slot)

def d_TApi_RingState (v : V) : TApi_RingState :=
  ⟨dI (fd v 0), dsl_u64 (fd v 1), dB (fd v 2), dsl_TApi_Slot (fd v 3)⟩

def e_TApi_RingState (x : TApi_RingState) : V :=
  V.cons ((V.int .u64) x.Tail) (V.cons (esl_u64 x.Heads) (V.cons (V.bool x.Closed) (V.cons (esl_TApi_Slot x.Slots) (V.unit))))

theorem nu_e_TApi_RingState (x : TApi_RingState) : (e_TApi_RingState x).NoU := ⟨trivial, trivial, trivial, trivial, trivial⟩

def sh_TApi_RingState : Sh := (.cons .any (.cons hsl_u64 (.cons .any (.cons hsl_TApi_Slot .any))))

abbrev Dsl_TApi_RingState : Type := (Sl TApi_RingState)
def esl_TApi_RingState : Dsl_TApi_RingState → V := (eSl none 4 e_TApi_RingState)
def dsl_TApi_RingState : V → Dsl_TApi_RingState := (dSl d_TApi_RingState)
def hsl_TApi_RingState : Sh := (.sl none 4 (e_TApi_RingState (d_TApi_RingState .undef)))

structure TApi_State where
  Threads : (Sl TApi_ThreadState)
  Rings : (Sl TApi_RingState)
  Now : Int
  Reads : Int
  Ended : Bool

def d_TApi_State (v : V) : TApi_State :=
  ⟨dsl_TApi_ThreadState (fd v 0), dsl_TApi_RingState (fd v 1), dI (fd v 2), dI (fd v 3), dB (fd v 4)⟩

def e_TApi_State (x : TApi_State) : V :=
  V.cons (esl_TApi_ThreadState x.Threads) (V.cons (esl_TApi_RingState x.Rings) (V.cons ((V.int .u64) x.Now) (V.cons ((V.int .u64) x.Reads) (V.cons (V.bool x.Ended) (V.unit)))))

theorem nu_e_TApi_State (x : TApi_State) : (e_TApi_State x).NoU := ⟨trivial, trivial, trivial, trivial, trivial, trivial⟩

def sh_TApi_State : Sh := (.cons hsl_TApi_ThreadState (.cons hsl_TApi_RingState .any))

/-! slices.IndexFunc[[]api.Slot,api.Slot] (slices_IndexFunc_api_Slot__snap_written_1) -/
abbrev X_slices_IndexFunc_api_Slot__snap_written_1 : Type := (Sl TApi_Slot)
abbrev R_slices_IndexFunc_api_Slot__snap_written_1 : Type := Int
noncomputable def J_slices_IndexFunc_api_Slot__snap_written_1 : Job Tryz.prog :=
  job Tryz.prog Tryz.f177 19 [] [] [] [] [.any] [] [con_snap_written_1] R_slices_IndexFunc_api_Slot__snap_written_1 [] fun y => [(V.int .i64) y]
noncomputable def S_slices_IndexFunc_api_Slot__snap_written_1 : LabS :=
  lab0 Tryz.f177 2 0 X_slices_IndexFunc_api_Slot__snap_written_1 (fun x => [esl_TApi_Slot x, (V.fn 133 V.unit)]) fun l => (dsl_TApi_Slot (at_ l 0))
structure X_slices_IndexFunc_api_Slot__snap_written_1_2 where
  s_0 : (Sl TApi_Slot)
  q_7 : Int
  q_8 : Int
noncomputable def S_slices_IndexFunc_api_Slot__snap_written_1_2 : LabS :=
  labAt Tryz.f177 2 [(0, hsl_TApi_Slot), (1, .any), (7, .any), (8, .any)] [] [] X_slices_IndexFunc_api_Slot__snap_written_1_2 (fun x => [esl_TApi_Slot x.s_0, (V.fn 133 V.unit), (V.int .i64) x.q_7, (V.int .i64) x.q_8]) fun l => ⟨dsl_TApi_Slot (at_ l 0), dI (at_ l 2), dI (at_ l 3)⟩
noncomputable def tt_slices_IndexFunc_api_Slot__snap_written_1_2 (D_slices_IndexFunc_api_Slot__snap_written_1_2 : Dyn X_slices_IndexFunc_api_Slot__snap_written_1_2 R_slices_IndexFunc_api_Slot__snap_written_1) (x : X_slices_IndexFunc_api_Slot__snap_written_1_2) : TT Tryz.prog R_slices_IndexFunc_api_Slot__snap_written_1 :=
 (.ite (ilt x.q_8 x.q_7)
  (.need (inb x.q_8 x.s_0.n) <|
  (.call con_snap_written_1 (x.s_0.get (Int.toNat x.q_8)) fun (y2 : R_snap_written_1) =>
  (.ite y2
   (.ret x.q_8)
   (.jump S_slices_IndexFunc_api_Slot__snap_written_1_2 D_slices_IndexFunc_api_Slot__snap_written_1_2 (X_slices_IndexFunc_api_Slot__snap_written_1_2.mk x.s_0 x.q_7 (IntKind.i64.wrap (x.q_8 + 1))))
  )
  )
  )
  (.ret (-(1 : Int)))
 )
theorem sd_slices_IndexFunc_api_Slot__snap_written_1_2 (D_slices_IndexFunc_api_Slot__snap_written_1_2 : Dyn X_slices_IndexFunc_api_Slot__snap_written_1_2 R_slices_IndexFunc_api_Slot__snap_written_1) (x : X_slices_IndexFunc_api_Slot__snap_written_1_2) : (tt_slices_IndexFunc_api_Slot__snap_written_1_2 D_slices_IndexFunc_api_Slot__snap_written_1_2 x).Sides :=
  (TT.s_ite (TT.s_need (TT.s_call fun _ => (TT.s_ite TT.s_ret TT.s_jump))) TT.s_ret)

noncomputable def D_slices_IndexFunc_api_Slot__snap_written_1_2 : Dyn X_slices_IndexFunc_api_Slot__snap_written_1_2 R_slices_IndexFunc_api_Slot__snap_written_1 := Dyn.loop tt_slices_IndexFunc_api_Slot__snap_written_1_2
theorem ok_slices_IndexFunc_api_Slot__snap_written_1_2 : LabOK J_slices_IndexFunc_api_Slot__snap_written_1 S_slices_IndexFunc_api_Slot__snap_written_1_2 D_slices_IndexFunc_api_Slot__snap_written_1_2 :=
  loop_ok fun D_slices_IndexFunc_api_Slot__snap_written_1_2 h_2 => lab_ok mixed_ok (labs_cons2 h_2 rfl labs_nil) 4000 (fun x => by kernel_rfl) (sd_slices_IndexFunc_api_Slot__snap_written_1_2 D_slices_IndexFunc_api_Slot__snap_written_1_2)
noncomputable def tt_slices_IndexFunc_api_Slot__snap_written_1 (x : X_slices_IndexFunc_api_Slot__snap_written_1) : TT Tryz.prog R_slices_IndexFunc_api_Slot__snap_written_1 :=
 (.jump S_slices_IndexFunc_api_Slot__snap_written_1_2 D_slices_IndexFunc_api_Slot__snap_written_1_2 (X_slices_IndexFunc_api_Slot__snap_written_1_2.mk x ((x.n : Nat) : Int) 0))
theorem sd_slices_IndexFunc_api_Slot__snap_written_1 (x : X_slices_IndexFunc_api_Slot__snap_written_1) : (tt_slices_IndexFunc_api_Slot__snap_written_1 x).Sides :=
  TT.s_jump

noncomputable def D_slices_IndexFunc_api_Slot__snap_written_1 : Dyn X_slices_IndexFunc_api_Slot__snap_written_1 R_slices_IndexFunc_api_Slot__snap_written_1 := .of tt_slices_IndexFunc_api_Slot__snap_written_1
noncomputable def con_slices_IndexFunc_api_Slot__snap_written_1 : Con Tryz.prog :=
  mkCon 177 J_slices_IndexFunc_api_Slot__snap_written_1 S_slices_IndexFunc_api_Slot__snap_written_1 D_slices_IndexFunc_api_Slot__snap_written_1 D_slices_IndexFunc_api_Slot__snap_written_1 (fun _ _ h => h) 2 0 [hsl_TApi_Slot, .any] (by kernel_rfl) (by kernel_rfl) (by kernel_rfl) (lab_ok mixed_ok (labs_cons2 ok_slices_IndexFunc_api_Slot__snap_written_1_2 rfl labs_nil) 4000 (fun x => by kernel_rfl) sd_slices_IndexFunc_api_Slot__snap_written_1) rfl rfl (fun _ => rfl) (by kernel_rfl) rfl (fun _ => rfl) (fun x y _ => by kernel_rfl)

/-! slices.ContainsFunc[[]api.Slot,api.Slot] (slices_ContainsFunc_api_Slot__snap_written_1) -/
abbrev X_slices_ContainsFunc_api_Slot__snap_written_1 : Type := (Sl TApi_Slot)
abbrev R_slices_ContainsFunc_api_Slot__snap_written_1 : Type := Bool
noncomputable def J_slices_ContainsFunc_api_Slot__snap_written_1 : Job Tryz.prog :=
  job Tryz.prog Tryz.f132 9 [(5, 1)] [] [] [] [.any] [] [con_slices_IndexFunc_api_Slot__snap_written_1] R_slices_ContainsFunc_api_Slot__snap_written_1 [] fun y => [V.bool y]
noncomputable def S_slices_ContainsFunc_api_Slot__snap_written_1 : LabS :=
  lab0 Tryz.f132 2 0 X_slices_ContainsFunc_api_Slot__snap_written_1 (fun x => [esl_TApi_Slot x, (V.fn 133 V.unit)]) fun l => (dsl_TApi_Slot (at_ l 0))
noncomputable def tt_slices_ContainsFunc_api_Slot__snap_written_1 (x : X_slices_ContainsFunc_api_Slot__snap_written_1) : TT Tryz.prog R_slices_ContainsFunc_api_Slot__snap_written_1 :=
 (.call con_slices_IndexFunc_api_Slot__snap_written_1 x fun (y1 : R_slices_IndexFunc_api_Slot__snap_written_1) =>
 (.ret (ile 0 y1))
 )
theorem sd_slices_ContainsFunc_api_Slot__snap_written_1 (x : X_slices_ContainsFunc_api_Slot__snap_written_1) : (tt_slices_ContainsFunc_api_Slot__snap_written_1 x).Sides :=
  (TT.s_call fun _ => TT.s_ret)

noncomputable def D_slices_ContainsFunc_api_Slot__snap_written_1 : Dyn X_slices_ContainsFunc_api_Slot__snap_written_1 R_slices_ContainsFunc_api_Slot__snap_written_1 := .of tt_slices_ContainsFunc_api_Slot__snap_written_1
noncomputable def con_slices_ContainsFunc_api_Slot__snap_written_1 : Con Tryz.prog :=
  mkCon 132 J_slices_ContainsFunc_api_Slot__snap_written_1 S_slices_ContainsFunc_api_Slot__snap_written_1 D_slices_ContainsFunc_api_Slot__snap_written_1 D_slices_ContainsFunc_api_Slot__snap_written_1 (fun _ _ h => h) 2 0 [hsl_TApi_Slot, .any] (by kernel_rfl) (by kernel_rfl) (by kernel_rfl) (lab_ok mixed_ok labs_nil 4000 (fun x => by kernel_rfl) sd_slices_ContainsFunc_api_Slot__snap_written_1) rfl rfl (fun _ => rfl) (by kernel_rfl) rfl (fun _ => rfl) (fun x y _ => by kernel_rfl)

/-! snap.written (snap_written) -/
abbrev X_snap_written : Type := TApi_State
abbrev R_snap_written : Type := Bool
noncomputable def J_snap_written : Job Tryz.prog :=
  job Tryz.prog Tryz.f79 65 [(1, 3)] [] [] [] [.any] [] [con_slices_ContainsFunc_api_Slot__snap_written_1, con_snap_small] R_snap_written [] fun y => [V.bool y]
noncomputable def S_snap_written : LabS :=
  lab0 Tryz.f79 1 0 X_snap_written (fun x => [e_TApi_State x]) fun l => (d_TApi_State (at_ l 0))
structure X_snap_written_3 where
  s_1 : TApi_State
noncomputable def S_snap_written_3 : LabS :=
  labAt Tryz.f79 3 [(1, .any)] [] [] X_snap_written_3 (fun x => [(eVp e_TApi_State) x.s_1]) fun l => ⟨(dVp d_TApi_State) (at_ l 0)⟩
structure X_snap_written_4 where
  s_1 : TApi_State
  q_18 : (Sl TApi_ThreadState)
  q_19 : Int
  q_20 : Int
noncomputable def S_snap_written_4 : LabS :=
  labAt Tryz.f79 4 [(1, .any), (18, hsl_TApi_ThreadState), (19, .any), (20, .any)] [] [] X_snap_written_4 (fun x => [(eVp e_TApi_State) x.s_1, esl_TApi_ThreadState x.q_18, (V.int .i64) x.q_19, (V.int .i64) x.q_20]) fun l => ⟨(dVp d_TApi_State) (at_ l 0), dsl_TApi_ThreadState (at_ l 1), dI (at_ l 2), dI (at_ l 3)⟩
structure X_snap_written_8 where
  s_1 : TApi_State
  q_18 : (Sl TApi_ThreadState)
  q_19 : Int
  q_20 : Int
noncomputable def S_snap_written_8 : LabS :=
  labAt Tryz.f79 8 [(1, .any), (18, hsl_TApi_ThreadState), (19, .any), (20, .any)] [] [] X_snap_written_8 (fun x => [(eVp e_TApi_State) x.s_1, esl_TApi_ThreadState x.q_18, (V.int .i64) x.q_19, (V.int .i64) x.q_20]) fun l => ⟨(dVp d_TApi_State) (at_ l 0), dsl_TApi_ThreadState (at_ l 1), dI (at_ l 2), dI (at_ l 3)⟩
structure X_snap_written_9 where
  s_1 : TApi_State
noncomputable def S_snap_written_9 : LabS :=
  labAt Tryz.f79 9 [(1, .any)] [] [] X_snap_written_9 (fun x => [(eVp e_TApi_State) x.s_1]) fun l => ⟨(dVp d_TApi_State) (at_ l 0)⟩
structure X_snap_written_10 where
  q_43 : (Sl TApi_RingState)
  q_44 : Int
  q_45 : Int
noncomputable def S_snap_written_10 : LabS :=
  labAt Tryz.f79 10 [(43, hsl_TApi_RingState), (44, .any), (45, .any)] [] [] X_snap_written_10 (fun x => [esl_TApi_RingState x.q_43, (V.int .i64) x.q_44, (V.int .i64) x.q_45]) fun l => ⟨dsl_TApi_RingState (at_ l 0), dI (at_ l 1), dI (at_ l 2)⟩
structure X_snap_written_14 where
  q_43 : (Sl TApi_RingState)
  q_44 : Int
  q_45 : Int
noncomputable def S_snap_written_14 : LabS :=
  labAt Tryz.f79 14 [(43, hsl_TApi_RingState), (44, .any), (45, .any)] [] [] X_snap_written_14 (fun x => [esl_TApi_RingState x.q_43, (V.int .i64) x.q_44, (V.int .i64) x.q_45]) fun l => ⟨dsl_TApi_RingState (at_ l 0), dI (at_ l 1), dI (at_ l 2)⟩
noncomputable def tt_snap_written_14 (D_snap_written_10 : Dyn X_snap_written_10 R_snap_written) (x : X_snap_written_14) : TT Tryz.prog R_snap_written :=
 (.jump S_snap_written_10 D_snap_written_10 (X_snap_written_10.mk x.q_43 x.q_44 (IntKind.i64.wrap (x.q_45 + 1))))
theorem sd_snap_written_14 (D_snap_written_10 : Dyn X_snap_written_10 R_snap_written) (x : X_snap_written_14) : (tt_snap_written_14 D_snap_written_10 x).Sides :=
  TT.s_jump

noncomputable def D_snap_written_14 (D_snap_written_10 : Dyn X_snap_written_10 R_snap_written) : Dyn X_snap_written_14 R_snap_written := .of (tt_snap_written_14 D_snap_written_10)
theorem ok_snap_written_14 (D_snap_written_10 : Dyn X_snap_written_10 R_snap_written) (h_10 : LabOK J_snap_written S_snap_written_10 D_snap_written_10) : LabOK J_snap_written S_snap_written_14 (D_snap_written_14 D_snap_written_10) :=
  lab_ok mixed_ok (labs_cons2 h_10 rfl labs_nil) 4000 (fun x => by kernel_rfl) (sd_snap_written_14 D_snap_written_10)
noncomputable def tt_snap_written_10 (D_snap_written_10 : Dyn X_snap_written_10 R_snap_written) (x : X_snap_written_10) : TT Tryz.prog R_snap_written :=
 (.ite (ilt x.q_45 x.q_44)
  (.need (inb x.q_45 x.q_43.n) <|
  (.ite (ilt 8 (((x.q_43.get (Int.toNat x.q_45)).Heads.n : Nat) : Int))
   (.ret false)
   (.ite (ilt 64 (((x.q_43.get (Int.toNat x.q_45)).Slots.n : Nat) : Int))
    (.ret false)
    (.call con_slices_ContainsFunc_api_Slot__snap_written_1 (x.q_43.get (Int.toNat x.q_45)).Slots fun (y2 : R_slices_ContainsFunc_api_Slot__snap_written_1) =>
    (.ite y2
     (.ret false)
     (.jump S_snap_written_14 (D_snap_written_14 D_snap_written_10) (X_snap_written_14.mk x.q_43 x.q_44 x.q_45))
    )
    )
   )
  )
  )
  (.ret true)
 )
theorem sd_snap_written_10 (D_snap_written_10 : Dyn X_snap_written_10 R_snap_written) (x : X_snap_written_10) : (tt_snap_written_10 D_snap_written_10 x).Sides :=
  (TT.s_ite (TT.s_need (TT.s_ite TT.s_ret (TT.s_ite TT.s_ret (TT.s_call fun _ => (TT.s_ite TT.s_ret TT.s_jump))))) TT.s_ret)

noncomputable def D_snap_written_10 : Dyn X_snap_written_10 R_snap_written := Dyn.loop tt_snap_written_10
theorem ok_snap_written_10 : LabOK J_snap_written S_snap_written_10 D_snap_written_10 :=
  loop_ok fun D_snap_written_10 h_10 => lab_ok mixed_ok (labs_cons2 h_10 rfl (labs_cons2 (ok_snap_written_14 D_snap_written_10 h_10) rfl labs_nil)) 4000 (fun x => by kernel_rfl) (sd_snap_written_10 D_snap_written_10)
noncomputable def tt_snap_written_9 (x : X_snap_written_9) : TT Tryz.prog R_snap_written :=
 (.jump S_snap_written_10 D_snap_written_10 (X_snap_written_10.mk x.s_1.Rings ((x.s_1.Rings.n : Nat) : Int) 0))
theorem sd_snap_written_9 (x : X_snap_written_9) : (tt_snap_written_9 x).Sides :=
  TT.s_jump

noncomputable def D_snap_written_9 : Dyn X_snap_written_9 R_snap_written := .of tt_snap_written_9
theorem ok_snap_written_9 : LabOK J_snap_written S_snap_written_9 D_snap_written_9 :=
  lab_ok mixed_ok (labs_cons2 ok_snap_written_10 rfl labs_nil) 4000 (fun x => by kernel_rfl) sd_snap_written_9
noncomputable def tt_snap_written_8 (D_snap_written_4 : Dyn X_snap_written_4 R_snap_written) (x : X_snap_written_8) : TT Tryz.prog R_snap_written :=
 (.jump S_snap_written_4 D_snap_written_4 (X_snap_written_4.mk x.s_1 x.q_18 x.q_19 (IntKind.i64.wrap (x.q_20 + 1))))
theorem sd_snap_written_8 (D_snap_written_4 : Dyn X_snap_written_4 R_snap_written) (x : X_snap_written_8) : (tt_snap_written_8 D_snap_written_4 x).Sides :=
  TT.s_jump

noncomputable def D_snap_written_8 (D_snap_written_4 : Dyn X_snap_written_4 R_snap_written) : Dyn X_snap_written_8 R_snap_written := .of (tt_snap_written_8 D_snap_written_4)
theorem ok_snap_written_8 (D_snap_written_4 : Dyn X_snap_written_4 R_snap_written) (h_4 : LabOK J_snap_written S_snap_written_4 D_snap_written_4) : LabOK J_snap_written S_snap_written_8 (D_snap_written_8 D_snap_written_4) :=
  lab_ok mixed_ok (labs_cons2 h_4 rfl (labs_cons2 ok_snap_written_10 rfl (labs_cons2 ok_snap_written_9 rfl labs_nil))) 4000 (fun x => by kernel_rfl) (sd_snap_written_8 D_snap_written_4)
noncomputable def tt_snap_written_4 (D_snap_written_4 : Dyn X_snap_written_4 R_snap_written) (x : X_snap_written_4) : TT Tryz.prog R_snap_written :=
 (.ite (ilt x.q_20 x.q_19)
  (.need (inb x.q_20 x.q_18.n) <|
  (.ite (ilt 65536 (((x.q_18.get (Int.toNat x.q_20)).Seen.n : Nat) : Int))
   (.ret false)
   (.call con_snap_small (Sl.mk false 4 (fun i2 => (cond (Nat.beq i2 0) (x.q_18.get (Int.toNat x.q_20)).At (cond (Nat.beq i2 1) (x.q_18.get (Int.toNat x.q_20)).Phase (cond (Nat.beq i2 2) (x.q_18.get (Int.toNat x.q_20)).Ring (x.q_18.get (Int.toNat x.q_20)).Status))))) fun (y2 : R_snap_small) =>
   (.ite (!y2)
    (.ret false)
    (.jump S_snap_written_8 (D_snap_written_8 D_snap_written_4) (X_snap_written_8.mk x.s_1 x.q_18 x.q_19 x.q_20))
   )
   )
  )
  )
  (.jump S_snap_written_9 D_snap_written_9 (X_snap_written_9.mk x.s_1))
 )
theorem sd_snap_written_4 (D_snap_written_4 : Dyn X_snap_written_4 R_snap_written) (x : X_snap_written_4) : (tt_snap_written_4 D_snap_written_4 x).Sides :=
  (TT.s_ite (TT.s_need (TT.s_ite TT.s_ret (TT.s_call fun _ => (TT.s_ite TT.s_ret TT.s_jump)))) TT.s_jump)

noncomputable def D_snap_written_4 : Dyn X_snap_written_4 R_snap_written := Dyn.loop tt_snap_written_4
theorem ok_snap_written_4 : LabOK J_snap_written S_snap_written_4 D_snap_written_4 :=
  loop_ok fun D_snap_written_4 h_4 => lab_ok mixed_ok (labs_cons2 h_4 rfl (labs_cons2 ok_snap_written_10 rfl (labs_cons2 ok_snap_written_9 rfl (labs_cons2 (ok_snap_written_8 D_snap_written_4 h_4) rfl labs_nil)))) 4000 (fun x => by kernel_rfl) (sd_snap_written_4 D_snap_written_4)
noncomputable def tt_snap_written_3 (x : X_snap_written_3) : TT Tryz.prog R_snap_written :=
 (.jump S_snap_written_4 D_snap_written_4 (X_snap_written_4.mk x.s_1 x.s_1.Threads ((x.s_1.Threads.n : Nat) : Int) 0))
theorem sd_snap_written_3 (x : X_snap_written_3) : (tt_snap_written_3 x).Sides :=
  TT.s_jump

noncomputable def D_snap_written_3 : Dyn X_snap_written_3 R_snap_written := .of tt_snap_written_3
theorem ok_snap_written_3 : LabOK J_snap_written S_snap_written_3 D_snap_written_3 :=
  lab_ok mixed_ok (labs_cons2 ok_snap_written_10 rfl (labs_cons2 ok_snap_written_9 rfl (labs_cons2 ok_snap_written_4 rfl labs_nil))) 4000 (fun x => by kernel_rfl) sd_snap_written_3
noncomputable def tt_snap_written (x : X_snap_written) : TT Tryz.prog R_snap_written :=
 (.ite (ilt 8 ((x.Threads.n : Nat) : Int))
  (.ret false)
  (.ite (ilt 8 ((x.Rings.n : Nat) : Int))
   (.ret false)
   (.jump S_snap_written_3 D_snap_written_3 (X_snap_written_3.mk x))
  )
 )
theorem sd_snap_written (x : X_snap_written) : (tt_snap_written x).Sides :=
  (TT.s_ite TT.s_ret (TT.s_ite TT.s_ret TT.s_jump))

noncomputable def D_snap_written : Dyn X_snap_written R_snap_written := .of tt_snap_written
noncomputable def con_snap_written : Con Tryz.prog :=
  mkCon 79 J_snap_written S_snap_written D_snap_written D_snap_written (fun _ _ h => h) 1 0 [sh_TApi_State] (by kernel_rfl) (by kernel_rfl) (by kernel_rfl) (lab_ok mixed_ok (labs_cons2 ok_snap_written_10 rfl (labs_cons2 ok_snap_written_9 rfl (labs_cons2 ok_snap_written_4 rfl (labs_cons2 ok_snap_written_3 rfl labs_nil)))) 4000 (fun x => by kernel_rfl) sd_snap_written) rfl rfl (fun _ => rfl) (by kernel_rfl) rfl (fun _ => rfl) (fun x y _ => by kernel_rfl)

abbrev DslA_u8 : Type := (Sl Int)
def eslA_u8 : DslA_u8 → V := (eSl (some 5) 1 (V.int .u8))
def dslA_u8 : V → DslA_u8 := (dSl dI)
def hslA_u8 : Sh := (.sl (some 5) 1 (V.int .u8 0))

/-! varint.Print (varint_Print) -/
abbrev X_varint_Print : Type := Int
abbrev R_varint_Print : Type := ByteArray
noncomputable def J_varint_Print : Job Tryz.prog :=
  job Tryz.prog Tryz.f135 21 [(4, 2), (9, 1), (15, 1)] [] [] [] [.any] [] [] R_varint_Print [] fun y => [V.str y]
noncomputable def S_varint_Print : LabS :=
  lab0 Tryz.f135 1 0 X_varint_Print (fun x => [(V.int .u64) x]) fun l => (dI (at_ l 0))
structure X_varint_Print_2 where
  n_0 : Int
  b_3 : (Sl Int)
noncomputable def S_varint_Print_2 : LabS :=
  labAt Tryz.f135 2 [(0, .any), (3, hslA_u8)] [] [] X_varint_Print_2 (fun x => [(V.int .u64) x.n_0, eslA_u8 x.b_3]) fun l => ⟨dI (at_ l 0), dslA_u8 (at_ l 1)⟩
structure X_varint_Print_5 where
  n_0 : Int
  b_3 : (Sl Int)
noncomputable def S_varint_Print_5 : LabS :=
  labAt Tryz.f135 5 [(0, .any), (3, hslA_u8)] [] [] X_varint_Print_5 (fun x => [(V.int .u64) x.n_0, eslA_u8 x.b_3]) fun l => ⟨dI (at_ l 0), dslA_u8 (at_ l 1)⟩
noncomputable def tt_varint_Print_5 (x : X_varint_Print_5) : TT Tryz.prog R_varint_Print :=
 (.need (true && (room (x.b_3.n + 1) 1)) <|
 (.side (∀ i1 : Nat, ((i1 < (x.b_3.n + 1)) → (∃ m2 : Int, ((cond (decide ((IntKind.u8 = IntKind.u8))) (V.int IntKind.u8 (cond (Nat.blt i1 x.b_3.n) (x.b_3.get i1) (IntKind.u8.wrap x.n_0))) (cond (Nat.blt i1 x.b_3.n) (V.int IntKind.u8 (x.b_3.get i1)) (cond false (cond (Nat.beq 17 17) (V.int IntKind.u8 (IntKind.u8.wrap x.n_0)) (cond (Nat.beq 17 16) (cond false (cond (Nat.beq 0 15) (cond (Nat.beq 3 0) (V.int IntKind.u64 x.n_0) (cond (Nat.beq 3 3) (V.sl (Option.some 5) 1 x.b_3.nil x.b_3.n (fun i3 => (V.int IntKind.u8 (x.b_3.get i3)))) V.undef)) (cond (Nat.beq 0 3) (V.sl Option.none 1 x.b_3.nil x.b_3.n (fun i3 => (V.int IntKind.u8 (x.b_3.get i3)))) (cond (Nat.beq 0 0) (V.int IntKind.u64 x.n_0) (cond (Nat.beq 0 3) (V.sl (Option.some 5) 1 x.b_3.nil x.b_3.n (fun i3 => (V.int IntKind.u8 (x.b_3.get i3)))) V.undef)))) (cond (Nat.beq 0 15) (cond (Nat.beq 3 0) (V.int IntKind.u64 x.n_0) (cond (Nat.beq 3 3) (V.sl (Option.some 5) 1 x.b_3.nil x.b_3.n (fun i3 => (V.int IntKind.u8 (x.b_3.get i3)))) V.undef)) (cond (Nat.beq 0 3) (V.sl Option.none 1 x.b_3.nil x.b_3.n (fun i3 => (V.int IntKind.u8 (x.b_3.get i3)))) (cond (Nat.beq 0 0) (V.int IntKind.u64 x.n_0) (cond (Nat.beq 0 3) (V.sl (Option.some 5) 1 x.b_3.nil x.b_3.n (fun i3 => (V.int IntKind.u8 (x.b_3.get i3)))) V.undef))))) (cond (Nat.beq 17 15) (cond (Nat.beq 3 0) (V.int IntKind.u64 x.n_0) (cond (Nat.beq 3 3) (V.sl (Option.some 5) 1 x.b_3.nil x.b_3.n (fun i3 => (V.int IntKind.u8 (x.b_3.get i3)))) V.undef)) (cond (Nat.beq 17 3) (V.sl Option.none 1 x.b_3.nil x.b_3.n (fun i3 => (V.int IntKind.u8 (x.b_3.get i3)))) (cond (Nat.beq 17 0) (V.int IntKind.u64 x.n_0) (cond (Nat.beq 17 3) (V.sl (Option.some 5) 1 x.b_3.nil x.b_3.n (fun i3 => (V.int IntKind.u8 (x.b_3.get i3)))) V.undef)))))) (cond (Nat.beq 17 17) (V.int IntKind.u8 (IntKind.u8.wrap x.n_0)) (cond (Nat.beq 17 16) (cond false (cond (Nat.beq 0 15) (cond (Nat.beq 3 0) (V.int IntKind.u64 x.n_0) (cond (Nat.beq 3 3) (V.sl (Option.some 5) 1 x.b_3.nil x.b_3.n (fun i3 => (V.int IntKind.u8 (x.b_3.get i3)))) V.undef)) (cond (Nat.beq 0 3) (V.sl Option.none 1 x.b_3.nil x.b_3.n (fun i3 => (V.int IntKind.u8 (x.b_3.get i3)))) (cond (Nat.beq 0 0) (V.int IntKind.u64 x.n_0) (cond (Nat.beq 0 3) (V.sl (Option.some 5) 1 x.b_3.nil x.b_3.n (fun i3 => (V.int IntKind.u8 (x.b_3.get i3)))) V.undef)))) (cond (Nat.beq 0 15) (cond (Nat.beq 3 0) (V.int IntKind.u64 x.n_0) (cond (Nat.beq 3 3) (V.sl (Option.some 5) 1 x.b_3.nil x.b_3.n (fun i3 => (V.int IntKind.u8 (x.b_3.get i3)))) V.undef)) (cond (Nat.beq 0 3) (V.sl Option.none 1 x.b_3.nil x.b_3.n (fun i3 => (V.int IntKind.u8 (x.b_3.get i3)))) (cond (Nat.beq 0 0) (V.int IntKind.u64 x.n_0) (cond (Nat.beq 0 3) (V.sl (Option.some 5) 1 x.b_3.nil x.b_3.n (fun i3 => (V.int IntKind.u8 (x.b_3.get i3)))) V.undef))))) (cond (Nat.beq 17 15) (cond (Nat.beq 3 0) (V.int IntKind.u64 x.n_0) (cond (Nat.beq 3 3) (V.sl (Option.some 5) 1 x.b_3.nil x.b_3.n (fun i3 => (V.int IntKind.u8 (x.b_3.get i3)))) V.undef)) (cond (Nat.beq 17 3) (V.sl Option.none 1 x.b_3.nil x.b_3.n (fun i3 => (V.int IntKind.u8 (x.b_3.get i3)))) (cond (Nat.beq 17 0) (V.int IntKind.u64 x.n_0) (cond (Nat.beq 17 3) (V.sl (Option.some 5) 1 x.b_3.nil x.b_3.n (fun i3 => (V.int IntKind.u8 (x.b_3.get i3)))) V.undef))))))))) = (V.int IntKind.u8 m2))))) <|
 (.ret (bytesOf (x.b_3.n + 1) (fun i1 => (cond (Nat.blt i1 x.b_3.n) (x.b_3.get i1) (IntKind.u8.wrap x.n_0)))))
 )
 )
theorem sd_varint_Print_5 (x : X_varint_Print_5) : (tt_varint_Print_5 x).Sides :=
  (TT.s_need (TT.s_side (fun _ _ => ⟨_, rfl⟩) TT.s_ret))

noncomputable def D_varint_Print_5 : Dyn X_varint_Print_5 R_varint_Print := .of tt_varint_Print_5
theorem ok_varint_Print_5 : LabOK J_varint_Print S_varint_Print_5 D_varint_Print_5 :=
  lab_ok mixed_ok labs_nil 4000 (fun x => by kernel_rfl) sd_varint_Print_5
noncomputable def tt_varint_Print_2 (D_varint_Print_2 : Dyn X_varint_Print_2 R_varint_Print) (x : X_varint_Print_2) : TT Tryz.prog R_varint_Print :=
 (.ite (ile 128 x.n_0)
  (.need (true && (room (x.b_3.n + 1) 1)) <|
  (.jump S_varint_Print_2 D_varint_Print_2 (X_varint_Print_2.mk (shr IntKind.u64 x.n_0 7) (Sl.mk (cond (Nat.beq 1 0) x.b_3.nil false) (x.b_3.n + 1) (fun i2 => (cond (Nat.blt i2 x.b_3.n) (x.b_3.get i2) (Vm.bits .or IntKind.u8 (IntKind.u8.wrap x.n_0) 128))))))
  )
  (.jump S_varint_Print_5 D_varint_Print_5 (X_varint_Print_5.mk x.n_0 x.b_3))
 )
theorem sd_varint_Print_2 (D_varint_Print_2 : Dyn X_varint_Print_2 R_varint_Print) (x : X_varint_Print_2) : (tt_varint_Print_2 D_varint_Print_2 x).Sides :=
  (TT.s_ite (TT.s_need TT.s_jump) TT.s_jump)

noncomputable def D_varint_Print_2 : Dyn X_varint_Print_2 R_varint_Print := Dyn.loop tt_varint_Print_2
theorem ok_varint_Print_2 : LabOK J_varint_Print S_varint_Print_2 D_varint_Print_2 :=
  loop_ok fun D_varint_Print_2 h_2 => lab_ok mixed_ok (labs_cons2 h_2 rfl (labs_cons2 ok_varint_Print_5 rfl labs_nil)) 4000 (fun x => by kernel_rfl) (sd_varint_Print_2 D_varint_Print_2)
noncomputable def tt_varint_Print (x : X_varint_Print) : TT Tryz.prog R_varint_Print :=
 (.jump S_varint_Print_2 D_varint_Print_2 (X_varint_Print_2.mk x (Sl.mk false 0 (fun _i1 => (0 : Int)))))
theorem sd_varint_Print (x : X_varint_Print) : (tt_varint_Print x).Sides :=
  TT.s_jump

noncomputable def D_varint_Print : Dyn X_varint_Print R_varint_Print := .of tt_varint_Print
noncomputable def con_varint_Print : Con Tryz.prog :=
  mkCon 135 J_varint_Print S_varint_Print D_varint_Print D_varint_Print (fun _ _ h => h) 1 0 [.any] (by kernel_rfl) (by kernel_rfl) (by kernel_rfl) (lab_ok mixed_ok (labs_cons2 ok_varint_Print_5 rfl (labs_cons2 ok_varint_Print_2 rfl labs_nil)) 4000 (fun x => by kernel_rfl) sd_varint_Print) rfl rfl (fun _ => rfl) (by kernel_rfl) rfl (fun _ => rfl) (fun x y _ => by kernel_rfl)

structure TOctet_Writer where
  b : (Sl Int)

def d_TOctet_Writer (v : V) : TOctet_Writer :=
  ⟨dslA_u8 (fd v 0)⟩

def e_TOctet_Writer (x : TOctet_Writer) : V :=
  V.cons (eslA_u8 x.b) (V.unit)

theorem nu_e_TOctet_Writer (x : TOctet_Writer) : (e_TOctet_Writer x).NoU := ⟨trivial, trivial⟩

def sh_TOctet_Writer : Sh := (.cons hslA_u8 .any)

abbrev Dsl_u8 : Type := (Sl Int)
def esl_u8 : Dsl_u8 → V := (eSl none 1 (V.int .u8))
def dsl_u8 : V → Dsl_u8 := (dSl dI)
def hsl_u8 : Sh := (.sl none 1 (V.int .u8 0))

/-! (*octet.Writer).Text (octet_Writer_Text) -/
abbrev X_octet_Writer_Text : Type := ByteArray × TOctet_Writer
abbrev R_octet_Writer_Text : Type := TOctet_Writer
noncomputable def J_octet_Writer_Text : Job Tryz.prog :=
  job Tryz.prog Tryz.f134 15 [(10, 1)] [] [] [] [] [sh_TOctet_Writer] [] R_octet_Writer_Text [] fun y => [V.tup (V.unit), e_TOctet_Writer y]
noncomputable def S_octet_Writer_Text : LabS :=
  lab0 Tryz.f134 2 1 X_octet_Writer_Text (fun x => [(V.ptr (.par 0) []), V.str x.1, e_TOctet_Writer x.2]) fun l => (dS (at_ l 1), d_TOctet_Writer (at_ l 2))
noncomputable def tt_octet_Writer_Text (x : X_octet_Writer_Text) : TT Tryz.prog R_octet_Writer_Text :=
 (.need (true && (room (x.snd.b.n + (ByteArray.size x.fst)) 1)) <|
 (.ret (TOctet_Writer.mk (Sl.mk (cond (Nat.beq (ByteArray.size x.fst) 0) x.snd.b.nil false) (x.snd.b.n + (ByteArray.size x.fst)) (fun i1 => (cond (Nat.blt i1 x.snd.b.n) (x.snd.b.get i1) (bt x.fst (i1 - x.snd.b.n)))))))
 )
theorem sd_octet_Writer_Text (x : X_octet_Writer_Text) : (tt_octet_Writer_Text x).Sides :=
  (TT.s_need TT.s_ret)

noncomputable def D_octet_Writer_Text : Dyn X_octet_Writer_Text R_octet_Writer_Text := .of tt_octet_Writer_Text
noncomputable def con_octet_Writer_Text : Con Tryz.prog :=
  mkCon 134 J_octet_Writer_Text S_octet_Writer_Text D_octet_Writer_Text D_octet_Writer_Text (fun _ _ h => h) 2 1 [.any, .any] (by kernel_rfl) (by kernel_rfl) (by kernel_rfl) (lab_ok mixed_ok labs_nil 4000 (fun x => by kernel_rfl) sd_octet_Writer_Text) rfl rfl (fun _ => rfl) (by kernel_rfl) rfl (fun _ => rfl) (fun x y _ => by kernel_rfl)

structure TSnap_writer where
  Writer : TOctet_Writer

def d_TSnap_writer (v : V) : TSnap_writer :=
  ⟨d_TOctet_Writer (fd v 0)⟩

def e_TSnap_writer (x : TSnap_writer) : V :=
  V.cons (e_TOctet_Writer x.Writer) (V.unit)

theorem nu_e_TSnap_writer (x : TSnap_writer) : (e_TSnap_writer x).NoU := ⟨(nu_e_TOctet_Writer : ∀ y, (e_TOctet_Writer y).NoU) x.Writer, trivial⟩

def sh_TSnap_writer : Sh := (.cons sh_TOctet_Writer .any)

/-! (*snap.writer).numbers (snap_writer_numbers) -/
abbrev X_snap_writer_numbers : Type := (Sl Int) × TSnap_writer
abbrev R_snap_writer_numbers : Type := TSnap_writer
noncomputable def J_snap_writer_numbers : Job Tryz.prog :=
  job Tryz.prog Tryz.f80 19 [(6, 1)] [] [] [] [] [sh_TSnap_writer] [con_octet_Writer_Text, con_varint_Print] R_snap_writer_numbers [] fun y => [V.tup (V.unit), e_TSnap_writer y]
noncomputable def S_snap_writer_numbers : LabS :=
  lab0 Tryz.f80 2 1 X_snap_writer_numbers (fun x => [(V.ptr (.par 0) []), esl_u64 x.1, e_TSnap_writer x.2]) fun l => (dsl_u64 (at_ l 1), d_TSnap_writer (at_ l 2))
structure X_snap_writer_numbers_1 where
  q_6 : (Sl Int)
  q_7 : Int
  q_8 : Int
  o_0 : TSnap_writer
noncomputable def S_snap_writer_numbers_1 : LabS :=
  labAt Tryz.f80 1 [(0, .any), (6, hsl_u64), (7, .any), (8, .any)] [sh_TSnap_writer] [] X_snap_writer_numbers_1 (fun x => [(V.ptr (.par 0) []), esl_u64 x.q_6, (V.int .i64) x.q_7, (V.int .i64) x.q_8, e_TSnap_writer x.o_0]) fun l => ⟨dsl_u64 (at_ l 1), dI (at_ l 2), dI (at_ l 3), d_TSnap_writer (at_ l 4)⟩
noncomputable def tt_snap_writer_numbers_1 (D_snap_writer_numbers_1 : Dyn X_snap_writer_numbers_1 R_snap_writer_numbers) (x : X_snap_writer_numbers_1) : TT Tryz.prog R_snap_writer_numbers :=
 (.ite (ilt x.q_8 x.q_7)
  (.need (inb x.q_8 x.q_6.n) <|
  (.call con_varint_Print (x.q_6.get (Int.toNat x.q_8)) fun (y2 : R_varint_Print) =>
  (.call con_octet_Writer_Text (y2, x.o_0.Writer) fun (y3 : R_octet_Writer_Text) =>
  (.jump S_snap_writer_numbers_1 D_snap_writer_numbers_1 (X_snap_writer_numbers_1.mk x.q_6 x.q_7 (IntKind.i64.wrap (x.q_8 + 1)) (TSnap_writer.mk y3)))
  )
  )
  )
  (.ret (TSnap_writer.mk x.o_0.Writer))
 )
theorem sd_snap_writer_numbers_1 (D_snap_writer_numbers_1 : Dyn X_snap_writer_numbers_1 R_snap_writer_numbers) (x : X_snap_writer_numbers_1) : (tt_snap_writer_numbers_1 D_snap_writer_numbers_1 x).Sides :=
  (TT.s_ite (TT.s_need (TT.s_call fun _ => (TT.s_call fun _ => TT.s_jump))) TT.s_ret)

noncomputable def D_snap_writer_numbers_1 : Dyn X_snap_writer_numbers_1 R_snap_writer_numbers := Dyn.loop tt_snap_writer_numbers_1
theorem ok_snap_writer_numbers_1 : LabOK J_snap_writer_numbers S_snap_writer_numbers_1 D_snap_writer_numbers_1 :=
  loop_ok fun D_snap_writer_numbers_1 h_1 => lab_ok mixed_ok (labs_cons2 h_1 rfl labs_nil) 4000 (fun x => by kernel_rfl) (sd_snap_writer_numbers_1 D_snap_writer_numbers_1)
noncomputable def tt_snap_writer_numbers (x : X_snap_writer_numbers) : TT Tryz.prog R_snap_writer_numbers :=
 (.jump S_snap_writer_numbers_1 D_snap_writer_numbers_1 (X_snap_writer_numbers_1.mk x.fst ((x.fst.n : Nat) : Int) 0 (TSnap_writer.mk x.snd.Writer)))
theorem sd_snap_writer_numbers (x : X_snap_writer_numbers) : (tt_snap_writer_numbers x).Sides :=
  TT.s_jump

noncomputable def D_snap_writer_numbers : Dyn X_snap_writer_numbers R_snap_writer_numbers := .of tt_snap_writer_numbers
noncomputable def con_snap_writer_numbers : Con Tryz.prog :=
  mkCon 80 J_snap_writer_numbers S_snap_writer_numbers D_snap_writer_numbers D_snap_writer_numbers (fun _ _ h => h) 2 1 [.any, hsl_u64] (by kernel_rfl) (by kernel_rfl) (by kernel_rfl) (lab_ok mixed_ok (labs_cons2 ok_snap_writer_numbers_1 rfl labs_nil) 4000 (fun x => by kernel_rfl) sd_snap_writer_numbers) rfl rfl (fun _ => rfl) (by kernel_rfl) rfl (fun _ => rfl) (fun x y _ => by kernel_rfl)

/-! (*octet.Writer).String (octet_Writer_String) -/
abbrev X_octet_Writer_String : Type := TOctet_Writer
abbrev R_octet_Writer_String : Type := ByteArray
abbrev RR_octet_Writer_String : Type := ByteArray × TOctet_Writer
abbrev p_octet_Writer_String (y : RR_octet_Writer_String) : TOctet_Writer := y.2
abbrev w_octet_Writer_String (x : X_octet_Writer_String) : TOctet_Writer := x
noncomputable def J_octet_Writer_String : Job Tryz.prog :=
  job Tryz.prog Tryz.f84 10 [] [] [] [] [.any] [sh_TOctet_Writer] [] RR_octet_Writer_String [] fun y => [V.str y.1, e_TOctet_Writer y.2]
noncomputable def S_octet_Writer_String : LabS :=
  lab0 Tryz.f84 1 1 X_octet_Writer_String (fun x => [(V.ptr (.par 0) []), e_TOctet_Writer x]) fun l => (d_TOctet_Writer (at_ l 1))
noncomputable def tt_octet_Writer_String (x : X_octet_Writer_String) : TT Tryz.prog RR_octet_Writer_String :=
 (.side (∀ i1 : Nat, ((i1 < x.b.n) → (∃ m2 : Int, ((V.int IntKind.u8 (x.b.get i1)) = (V.int IntKind.u8 m2))))) <|
 (.ret ((bytesOf x.b.n x.b.get), x))
 )
theorem sd_octet_Writer_String (x : X_octet_Writer_String) : (tt_octet_Writer_String x).Sides :=
  (TT.s_side (fun _ _ => ⟨_, rfl⟩) TT.s_ret)
theorem roT_octet_Writer_String (x : X_octet_Writer_String) : TT.Ro p_octet_Writer_String (w_octet_Writer_String x) (tt_octet_Writer_String x) :=
  (TT.ro_side (TT.ro_ret rfl))

noncomputable def D_octet_Writer_String : Dyn X_octet_Writer_String R_octet_Writer_String := .ro (.of tt_octet_Writer_String) (fun y => (y.1)) (fun y x => (y, x)) fun x y h => congrArg (fun o => (y.1, o)) (roT_octet_Writer_String x y h)
noncomputable def con_octet_Writer_String : Con Tryz.prog :=
  mkConP 84 J_octet_Writer_String S_octet_Writer_String (.of tt_octet_Writer_String) D_octet_Writer_String (fun y x => (y, x)) (fun _ _ h => h) (fun y => V.str y) 1 1 [.any] (by kernel_rfl) (by kernel_rfl) (by kernel_rfl) (lab_ok mixed_ok labs_nil 4000 (fun x => by kernel_rfl) sd_octet_Writer_String) rfl rfl (fun _ => rfl) (by kernel_rfl) rfl (fun _ _ => rfl) (fun _ => rfl) (fun x => ⟨(nu_e_TOctet_Writer : ∀ y, (e_TOctet_Writer y).NoU) (x), trivial⟩)

/-! varint.PrintList (varint_PrintList) -/
abbrev X_varint_PrintList : Type := (Sl Int)
abbrev R_varint_PrintList : Type := ByteArray
noncomputable def J_varint_PrintList : Job Tryz.prog :=
  job Tryz.prog Tryz.f136 22 [(11, 1)] [] [] [] [.any] [] [con_octet_Writer_String, con_octet_Writer_Text, con_varint_Print] R_varint_PrintList [] fun y => [V.str y]
noncomputable def S_varint_PrintList : LabS :=
  lab0 Tryz.f136 1 0 X_varint_PrintList (fun x => [esl_u64 x]) fun l => (dsl_u64 (at_ l 0))
structure X_varint_PrintList_4 where
  q_11 : (Sl Int)
  q_12 : Int
  q_13 : Int
  m_3 : TOctet_Writer
noncomputable def S_varint_PrintList_4 : LabS :=
  labAt Tryz.f136 4 [(3, .any), (11, hsl_u64), (12, .any), (13, .any)] [] [(.loc 3 0, sh_TOctet_Writer)] X_varint_PrintList_4 (fun x => [(V.ptr (.loc 3 0) []), esl_u64 x.q_11, (V.int .i64) x.q_12, (V.int .i64) x.q_13, e_TOctet_Writer x.m_3]) fun l => ⟨dsl_u64 (at_ l 1), dI (at_ l 2), dI (at_ l 3), d_TOctet_Writer (at_ l 4)⟩
noncomputable def tt_varint_PrintList_4 (D_varint_PrintList_4 : Dyn X_varint_PrintList_4 R_varint_PrintList) (x : X_varint_PrintList_4) : TT Tryz.prog R_varint_PrintList :=
 (.ite (ilt x.q_13 x.q_12)
  (.need (inb x.q_13 x.q_11.n) <|
  (.call con_varint_Print (x.q_11.get (Int.toNat x.q_13)) fun (y2 : R_varint_Print) =>
  (.call con_octet_Writer_Text (y2, x.m_3) fun (y3 : R_octet_Writer_Text) =>
  (.jump S_varint_PrintList_4 D_varint_PrintList_4 (X_varint_PrintList_4.mk x.q_11 x.q_12 (IntKind.i64.wrap (x.q_13 + 1)) y3))
  )
  )
  )
  (.call con_octet_Writer_String x.m_3 fun (y2 : R_octet_Writer_String) =>
  (.ret y2)
  )
 )
theorem sd_varint_PrintList_4 (D_varint_PrintList_4 : Dyn X_varint_PrintList_4 R_varint_PrintList) (x : X_varint_PrintList_4) : (tt_varint_PrintList_4 D_varint_PrintList_4 x).Sides :=
  (TT.s_ite (TT.s_need (TT.s_call fun _ => (TT.s_call fun _ => TT.s_jump))) (TT.s_call fun _ => TT.s_ret))

noncomputable def D_varint_PrintList_4 : Dyn X_varint_PrintList_4 R_varint_PrintList := Dyn.loop tt_varint_PrintList_4
theorem ok_varint_PrintList_4 : LabOK J_varint_PrintList S_varint_PrintList_4 D_varint_PrintList_4 :=
  loop_ok fun D_varint_PrintList_4 h_4 => lab_ok mixed_ok (labs_cons2 h_4 rfl labs_nil) 4000 (fun x => by kernel_rfl) (sd_varint_PrintList_4 D_varint_PrintList_4)
noncomputable def tt_varint_PrintList (x : X_varint_PrintList) : TT Tryz.prog R_varint_PrintList :=
 (.call con_varint_Print (IntKind.u64.wrap ((x.n : Nat) : Int)) fun (y1 : R_varint_Print) =>
 (.call con_octet_Writer_Text (y1, (TOctet_Writer.mk (Sl.mk true 0 (fun _i2 => (0 : Int))))) fun (y2 : R_octet_Writer_Text) =>
 (.jump S_varint_PrintList_4 D_varint_PrintList_4 (X_varint_PrintList_4.mk x ((x.n : Nat) : Int) 0 y2))
 )
 )
theorem sd_varint_PrintList (x : X_varint_PrintList) : (tt_varint_PrintList x).Sides :=
  (TT.s_call fun _ => (TT.s_call fun _ => TT.s_jump))

noncomputable def D_varint_PrintList : Dyn X_varint_PrintList R_varint_PrintList := .of tt_varint_PrintList
noncomputable def con_varint_PrintList : Con Tryz.prog :=
  mkCon 136 J_varint_PrintList S_varint_PrintList D_varint_PrintList D_varint_PrintList (fun _ _ h => h) 1 0 [hsl_u64] (by kernel_rfl) (by kernel_rfl) (by kernel_rfl) (lab_ok mixed_ok (labs_cons2 ok_varint_PrintList_4 rfl labs_nil) 4000 (fun x => by kernel_rfl) sd_varint_PrintList) rfl rfl (fun _ => rfl) (by kernel_rfl) rfl (fun _ => rfl) (fun x y _ => by kernel_rfl)

/-! (*snap.writer).thread (snap_writer_thread) -/
abbrev X_snap_writer_thread : Type := TApi_ThreadState × TSnap_writer
abbrev R_snap_writer_thread : Type := TSnap_writer
noncomputable def J_snap_writer_thread : Job Tryz.prog :=
  job Tryz.prog Tryz.f81 32 [(3, 3)] [] [] [] [] [sh_TSnap_writer] [con_octet_Writer_Text, con_snap_writer_numbers, con_varint_PrintList] R_snap_writer_thread [] fun y => [V.tup (V.unit), e_TSnap_writer y]
noncomputable def S_snap_writer_thread : LabS :=
  lab0 Tryz.f81 2 1 X_snap_writer_thread (fun x => [(V.ptr (.par 0) []), e_TApi_ThreadState x.1, e_TSnap_writer x.2]) fun l => (d_TApi_ThreadState (at_ l 1), d_TSnap_writer (at_ l 2))
noncomputable def tt_snap_writer_thread (x : X_snap_writer_thread) : TT Tryz.prog R_snap_writer_thread :=
 (.call con_snap_writer_numbers ((Sl.mk false 5 (fun i1 => (cond (Nat.beq i1 0) (IntKind.u64.wrap x.fst.At) (cond (Nat.beq i1 1) (IntKind.u64.wrap x.fst.Phase) (cond (Nat.beq i1 2) (IntKind.u64.wrap x.fst.Ring) (cond (Nat.beq i1 3) (IntKind.u64.wrap x.fst.Status) x.fst.Ticket)))))), (TSnap_writer.mk x.snd.Writer)) fun (y1 : R_snap_writer_numbers) =>
 (.call con_snap_writer_numbers ((Sl.mk false 8 (fun i2 => (x.fst.Regs ((0 : Nat) + i2)))), (TSnap_writer.mk y1.Writer)) fun (y2 : R_snap_writer_numbers) =>
 (.call con_varint_PrintList x.fst.Seen fun (y3 : R_varint_PrintList) =>
 (.call con_octet_Writer_Text (y3, y2.Writer) fun (y4 : R_octet_Writer_Text) =>
 (.ret (TSnap_writer.mk y4))
 )
 )
 )
 )
theorem sd_snap_writer_thread (x : X_snap_writer_thread) : (tt_snap_writer_thread x).Sides :=
  (TT.s_call fun _ => (TT.s_call fun _ => (TT.s_call fun _ => (TT.s_call fun _ => TT.s_ret))))

noncomputable def D_snap_writer_thread : Dyn X_snap_writer_thread R_snap_writer_thread := .of tt_snap_writer_thread
noncomputable def con_snap_writer_thread : Con Tryz.prog :=
  mkCon 81 J_snap_writer_thread S_snap_writer_thread D_snap_writer_thread D_snap_writer_thread (fun _ _ h => h) 2 1 [.any, sh_TApi_ThreadState] (by kernel_rfl) (by kernel_rfl) (by kernel_rfl) (lab_ok mixed_ok labs_nil 4000 (fun x => by kernel_rfl) sd_snap_writer_thread) rfl rfl (fun _ => rfl) (by kernel_rfl) rfl (fun _ => rfl) (fun x y _ => by kernel_rfl)

/-! snap.is (snap_is) -/
abbrev X_snap_is : Type := Bool
abbrev R_snap_is : Type := Int
noncomputable def J_snap_is : Job Tryz.prog :=
  job Tryz.prog Tryz.f83 4 [] [] [] [] [.any] [] [] R_snap_is [] fun y => [(V.int .u64) y]
noncomputable def S_snap_is : LabS :=
  lab0 Tryz.f83 1 0 X_snap_is (fun x => [V.bool x]) fun l => (dB (at_ l 0))
noncomputable def tt_snap_is (x : X_snap_is) : TT Tryz.prog R_snap_is :=
 (.ite x
  (.ret 1)
  (.ret 0)
 )
theorem sd_snap_is (x : X_snap_is) : (tt_snap_is x).Sides :=
  (TT.s_ite TT.s_ret TT.s_ret)

noncomputable def D_snap_is : Dyn X_snap_is R_snap_is := .of tt_snap_is
noncomputable def con_snap_is : Con Tryz.prog :=
  mkCon 83 J_snap_is S_snap_is D_snap_is D_snap_is (fun _ _ h => h) 1 0 [.any] (by kernel_rfl) (by kernel_rfl) (by kernel_rfl) (lab_ok mixed_ok labs_nil 4000 (fun x => by kernel_rfl) sd_snap_is) rfl rfl (fun _ => rfl) (by kernel_rfl) rfl (fun _ => rfl) (fun x y _ => by kernel_rfl)

/-! (*snap.writer).ring (snap_writer_ring) -/
abbrev X_snap_writer_ring : Type := TApi_RingState × TSnap_writer
abbrev R_snap_writer_ring : Type := TSnap_writer
noncomputable def J_snap_writer_ring : Job Tryz.prog :=
  job Tryz.prog Tryz.f82 46 [(3, 3)] [] [] [] [] [sh_TSnap_writer] [con_octet_Writer_Text, con_snap_is, con_snap_writer_numbers, con_varint_PrintList] R_snap_writer_ring [] fun y => [V.tup (V.unit), e_TSnap_writer y]
noncomputable def S_snap_writer_ring : LabS :=
  lab0 Tryz.f82 2 1 X_snap_writer_ring (fun x => [(V.ptr (.par 0) []), e_TApi_RingState x.1, e_TSnap_writer x.2]) fun l => (d_TApi_RingState (at_ l 1), d_TSnap_writer (at_ l 2))
structure X_snap_writer_ring_5 where
  q_29 : (Sl TApi_Slot)
  q_30 : Int
  q_31 : Int
  o_0 : TSnap_writer
noncomputable def S_snap_writer_ring_5 : LabS :=
  labAt Tryz.f82 5 [(0, .any), (29, hsl_TApi_Slot), (30, .any), (31, .any)] [sh_TSnap_writer] [] X_snap_writer_ring_5 (fun x => [(V.ptr (.par 0) []), esl_TApi_Slot x.q_29, (V.int .i64) x.q_30, (V.int .i64) x.q_31, e_TSnap_writer x.o_0]) fun l => ⟨dsl_TApi_Slot (at_ l 1), dI (at_ l 2), dI (at_ l 3), d_TSnap_writer (at_ l 4)⟩
noncomputable def tt_snap_writer_ring_5 (D_snap_writer_ring_5 : Dyn X_snap_writer_ring_5 R_snap_writer_ring) (x : X_snap_writer_ring_5) : TT Tryz.prog R_snap_writer_ring :=
 (.ite (ilt x.q_31 x.q_30)
  (.need (inb x.q_31 x.q_29.n) <|
  (.call con_snap_writer_numbers ((Sl.mk false 3 (fun i2 => (cond (Nat.beq i2 0) (x.q_29.get (Int.toNat x.q_31)).Stamp (cond (Nat.beq i2 1) (x.q_29.get (Int.toNat x.q_31)).Value (IntKind.u64.wrap (x.q_29.get (Int.toNat x.q_31)).Left))))), (TSnap_writer.mk x.o_0.Writer)) fun (y2 : R_snap_writer_numbers) =>
  (.jump S_snap_writer_ring_5 D_snap_writer_ring_5 (X_snap_writer_ring_5.mk x.q_29 x.q_30 (IntKind.i64.wrap (x.q_31 + 1)) (TSnap_writer.mk y2.Writer)))
  )
  )
  (.ret (TSnap_writer.mk x.o_0.Writer))
 )
theorem sd_snap_writer_ring_5 (D_snap_writer_ring_5 : Dyn X_snap_writer_ring_5 R_snap_writer_ring) (x : X_snap_writer_ring_5) : (tt_snap_writer_ring_5 D_snap_writer_ring_5 x).Sides :=
  (TT.s_ite (TT.s_need (TT.s_call fun _ => TT.s_jump)) TT.s_ret)

noncomputable def D_snap_writer_ring_5 : Dyn X_snap_writer_ring_5 R_snap_writer_ring := Dyn.loop tt_snap_writer_ring_5
theorem ok_snap_writer_ring_5 : LabOK J_snap_writer_ring S_snap_writer_ring_5 D_snap_writer_ring_5 :=
  loop_ok fun D_snap_writer_ring_5 h_5 => lab_ok mixed_ok (labs_cons2 h_5 rfl labs_nil) 4000 (fun x => by kernel_rfl) (sd_snap_writer_ring_5 D_snap_writer_ring_5)
noncomputable def tt_snap_writer_ring (x : X_snap_writer_ring) : TT Tryz.prog R_snap_writer_ring :=
 (.call con_snap_writer_numbers ((Sl.mk false 1 (fun _i1 => x.fst.Tail)), (TSnap_writer.mk x.snd.Writer)) fun (y1 : R_snap_writer_numbers) =>
 (.call con_varint_PrintList x.fst.Heads fun (y2 : R_varint_PrintList) =>
 (.call con_octet_Writer_Text (y2, y1.Writer) fun (y3 : R_octet_Writer_Text) =>
 (.call con_snap_is x.fst.Closed fun (y4 : R_snap_is) =>
 (.call con_snap_writer_numbers ((Sl.mk false 2 (fun i5 => (cond (Nat.beq i5 0) y4 (IntKind.u64.wrap ((x.fst.Slots.n : Nat) : Int))))), (TSnap_writer.mk y3)) fun (y5 : R_snap_writer_numbers) =>
 (.jump S_snap_writer_ring_5 D_snap_writer_ring_5 (X_snap_writer_ring_5.mk x.fst.Slots ((x.fst.Slots.n : Nat) : Int) 0 (TSnap_writer.mk y5.Writer)))
 )
 )
 )
 )
 )
theorem sd_snap_writer_ring (x : X_snap_writer_ring) : (tt_snap_writer_ring x).Sides :=
  (TT.s_call fun _ => (TT.s_call fun _ => (TT.s_call fun _ => (TT.s_call fun _ => (TT.s_call fun _ => TT.s_jump)))))

noncomputable def D_snap_writer_ring : Dyn X_snap_writer_ring R_snap_writer_ring := .of tt_snap_writer_ring
noncomputable def con_snap_writer_ring : Con Tryz.prog :=
  mkCon 82 J_snap_writer_ring S_snap_writer_ring D_snap_writer_ring D_snap_writer_ring (fun _ _ h => h) 2 1 [.any, sh_TApi_RingState] (by kernel_rfl) (by kernel_rfl) (by kernel_rfl) (lab_ok mixed_ok (labs_cons2 ok_snap_writer_ring_5 rfl labs_nil) 4000 (fun x => by kernel_rfl) sd_snap_writer_ring) rfl rfl (fun _ => rfl) (by kernel_rfl) rfl (fun _ => rfl) (fun x y _ => by kernel_rfl)

/-! snap.Print (snap_Print) -/
abbrev X_snap_Print : Type := TApi_State
abbrev R_snap_Print : Type := ByteArray × Int
noncomputable def J_snap_Print : Job Tryz.prog :=
  job Tryz.prog Tryz.f38 55 [(1, 3)] [] [] [] [.any, .any] [] [con_octet_Writer_String, con_snap_is, con_snap_writer_numbers, con_snap_writer_ring, con_snap_writer_thread, con_snap_written] R_snap_Print [] fun y => [V.tup (V.cons (V.str y.1) (V.cons ((V.int .i64) y.2) (V.unit)))]
noncomputable def S_snap_Print : LabS :=
  lab0 Tryz.f38 1 0 X_snap_Print (fun x => [e_TApi_State x]) fun l => (d_TApi_State (at_ l 0))
structure X_snap_Print_6 where
  s_1 : TApi_State
  q_19 : (Sl TApi_ThreadState)
  q_20 : Int
  q_21 : Int
  m_4 : TSnap_writer
noncomputable def S_snap_Print_6 : LabS :=
  labAt Tryz.f38 6 [(1, .any), (4, .any), (19, hsl_TApi_ThreadState), (20, .any), (21, .any)] [] [(.loc 4 0, sh_TSnap_writer)] X_snap_Print_6 (fun x => [(eVp e_TApi_State) x.s_1, (V.ptr (.loc 4 0) []), esl_TApi_ThreadState x.q_19, (V.int .i64) x.q_20, (V.int .i64) x.q_21, e_TSnap_writer x.m_4]) fun l => ⟨(dVp d_TApi_State) (at_ l 0), dsl_TApi_ThreadState (at_ l 2), dI (at_ l 3), dI (at_ l 4), d_TSnap_writer (at_ l 5)⟩
structure X_snap_Print_10 where
  s_1 : TApi_State
  m_4 : TSnap_writer
noncomputable def S_snap_Print_10 : LabS :=
  labAt Tryz.f38 10 [(1, .any), (4, .any)] [] [(.loc 4 0, sh_TSnap_writer)] X_snap_Print_10 (fun x => [(eVp e_TApi_State) x.s_1, (V.ptr (.loc 4 0) []), e_TSnap_writer x.m_4]) fun l => ⟨(dVp d_TApi_State) (at_ l 0), d_TSnap_writer (at_ l 2)⟩
structure X_snap_Print_12 where
  s_1 : TApi_State
  q_35 : (Sl TApi_RingState)
  q_36 : Int
  q_37 : Int
  m_4 : TSnap_writer
noncomputable def S_snap_Print_12 : LabS :=
  labAt Tryz.f38 12 [(1, .any), (4, .any), (35, hsl_TApi_RingState), (36, .any), (37, .any)] [] [(.loc 4 0, sh_TSnap_writer)] X_snap_Print_12 (fun x => [(eVp e_TApi_State) x.s_1, (V.ptr (.loc 4 0) []), esl_TApi_RingState x.q_35, (V.int .i64) x.q_36, (V.int .i64) x.q_37, e_TSnap_writer x.m_4]) fun l => ⟨(dVp d_TApi_State) (at_ l 0), dsl_TApi_RingState (at_ l 2), dI (at_ l 3), dI (at_ l 4), d_TSnap_writer (at_ l 5)⟩
structure X_snap_Print_16 where
  s_1 : TApi_State
  m_4 : TSnap_writer
noncomputable def S_snap_Print_16 : LabS :=
  labAt Tryz.f38 16 [(1, .any), (4, .any)] [] [(.loc 4 0, sh_TSnap_writer)] X_snap_Print_16 (fun x => [(eVp e_TApi_State) x.s_1, (V.ptr (.loc 4 0) []), e_TSnap_writer x.m_4]) fun l => ⟨(dVp d_TApi_State) (at_ l 0), d_TSnap_writer (at_ l 2)⟩
noncomputable def tt_snap_Print_16 (x : X_snap_Print_16) : TT Tryz.prog R_snap_Print :=
 (.call con_snap_is x.s_1.Ended fun (y1 : R_snap_is) =>
 (.call con_snap_writer_numbers ((Sl.mk false 3 (fun i2 => (cond (Nat.beq i2 0) x.s_1.Now (cond (Nat.beq i2 1) x.s_1.Reads y1)))), (TSnap_writer.mk x.m_4.Writer)) fun (y2 : R_snap_writer_numbers) =>
 (.call con_octet_Writer_String y2.Writer fun (y3 : R_octet_Writer_String) =>
 (.ret (y3, 0))
 )
 )
 )
theorem sd_snap_Print_16 (x : X_snap_Print_16) : (tt_snap_Print_16 x).Sides :=
  (TT.s_call fun _ => (TT.s_call fun _ => (TT.s_call fun _ => TT.s_ret)))

noncomputable def D_snap_Print_16 : Dyn X_snap_Print_16 R_snap_Print := .of tt_snap_Print_16
theorem ok_snap_Print_16 : LabOK J_snap_Print S_snap_Print_16 D_snap_Print_16 :=
  lab_ok mixed_ok labs_nil 4000 (fun x => by kernel_rfl) sd_snap_Print_16
noncomputable def tt_snap_Print_12 (D_snap_Print_12 : Dyn X_snap_Print_12 R_snap_Print) (x : X_snap_Print_12) : TT Tryz.prog R_snap_Print :=
 (.ite (ilt x.q_37 x.q_36)
  (.need (inb x.q_37 x.q_35.n) <|
  (.call con_snap_writer_ring ((x.q_35.get (Int.toNat x.q_37)), (TSnap_writer.mk x.m_4.Writer)) fun (y2 : R_snap_writer_ring) =>
  (.jump S_snap_Print_12 D_snap_Print_12 (X_snap_Print_12.mk x.s_1 x.q_35 x.q_36 (IntKind.i64.wrap (x.q_37 + 1)) (TSnap_writer.mk y2.Writer)))
  )
  )
  (.jump S_snap_Print_16 D_snap_Print_16 (X_snap_Print_16.mk x.s_1 (TSnap_writer.mk x.m_4.Writer)))
 )
theorem sd_snap_Print_12 (D_snap_Print_12 : Dyn X_snap_Print_12 R_snap_Print) (x : X_snap_Print_12) : (tt_snap_Print_12 D_snap_Print_12 x).Sides :=
  (TT.s_ite (TT.s_need (TT.s_call fun _ => TT.s_jump)) TT.s_jump)

noncomputable def D_snap_Print_12 : Dyn X_snap_Print_12 R_snap_Print := Dyn.loop tt_snap_Print_12
theorem ok_snap_Print_12 : LabOK J_snap_Print S_snap_Print_12 D_snap_Print_12 :=
  loop_ok fun D_snap_Print_12 h_12 => lab_ok mixed_ok (labs_cons2 h_12 rfl (labs_cons2 ok_snap_Print_16 rfl labs_nil)) 4000 (fun x => by kernel_rfl) (sd_snap_Print_12 D_snap_Print_12)
noncomputable def tt_snap_Print_10 (x : X_snap_Print_10) : TT Tryz.prog R_snap_Print :=
 (.call con_snap_writer_numbers ((Sl.mk false 1 (fun _i1 => (IntKind.u64.wrap ((x.s_1.Rings.n : Nat) : Int)))), (TSnap_writer.mk x.m_4.Writer)) fun (y1 : R_snap_writer_numbers) =>
 (.jump S_snap_Print_12 D_snap_Print_12 (X_snap_Print_12.mk x.s_1 x.s_1.Rings ((x.s_1.Rings.n : Nat) : Int) 0 (TSnap_writer.mk y1.Writer)))
 )
theorem sd_snap_Print_10 (x : X_snap_Print_10) : (tt_snap_Print_10 x).Sides :=
  (TT.s_call fun _ => TT.s_jump)

noncomputable def D_snap_Print_10 : Dyn X_snap_Print_10 R_snap_Print := .of tt_snap_Print_10
theorem ok_snap_Print_10 : LabOK J_snap_Print S_snap_Print_10 D_snap_Print_10 :=
  lab_ok mixed_ok (labs_cons2 ok_snap_Print_16 rfl (labs_cons2 ok_snap_Print_12 rfl labs_nil)) 4000 (fun x => by kernel_rfl) sd_snap_Print_10
noncomputable def tt_snap_Print_6 (D_snap_Print_6 : Dyn X_snap_Print_6 R_snap_Print) (x : X_snap_Print_6) : TT Tryz.prog R_snap_Print :=
 (.ite (ilt x.q_21 x.q_20)
  (.need (inb x.q_21 x.q_19.n) <|
  (.call con_snap_writer_thread ((x.q_19.get (Int.toNat x.q_21)), (TSnap_writer.mk x.m_4.Writer)) fun (y2 : R_snap_writer_thread) =>
  (.jump S_snap_Print_6 D_snap_Print_6 (X_snap_Print_6.mk x.s_1 x.q_19 x.q_20 (IntKind.i64.wrap (x.q_21 + 1)) (TSnap_writer.mk y2.Writer)))
  )
  )
  (.jump S_snap_Print_10 D_snap_Print_10 (X_snap_Print_10.mk x.s_1 (TSnap_writer.mk x.m_4.Writer)))
 )
theorem sd_snap_Print_6 (D_snap_Print_6 : Dyn X_snap_Print_6 R_snap_Print) (x : X_snap_Print_6) : (tt_snap_Print_6 D_snap_Print_6 x).Sides :=
  (TT.s_ite (TT.s_need (TT.s_call fun _ => TT.s_jump)) TT.s_jump)

noncomputable def D_snap_Print_6 : Dyn X_snap_Print_6 R_snap_Print := Dyn.loop tt_snap_Print_6
theorem ok_snap_Print_6 : LabOK J_snap_Print S_snap_Print_6 D_snap_Print_6 :=
  loop_ok fun D_snap_Print_6 h_6 => lab_ok mixed_ok (labs_cons2 h_6 rfl (labs_cons2 ok_snap_Print_16 rfl (labs_cons2 ok_snap_Print_12 rfl (labs_cons2 ok_snap_Print_10 rfl labs_nil)))) 4000 (fun x => by kernel_rfl) (sd_snap_Print_6 D_snap_Print_6)
noncomputable def tt_snap_Print (x : X_snap_Print) : TT Tryz.prog R_snap_Print :=
 (.call con_snap_written x fun (y1 : R_snap_written) =>
 (.ite (!y1)
  (.ret ((ByteArray.mk #[]), 1))
  (.call con_snap_writer_numbers ((Sl.mk false 1 (fun _i2 => (IntKind.u64.wrap ((x.Threads.n : Nat) : Int)))), (TSnap_writer.mk (TOctet_Writer.mk (Sl.mk true 0 (fun _i2 => (0 : Int)))))) fun (y2 : R_snap_writer_numbers) =>
  (.jump S_snap_Print_6 D_snap_Print_6 (X_snap_Print_6.mk x x.Threads ((x.Threads.n : Nat) : Int) 0 (TSnap_writer.mk y2.Writer)))
  )
 )
 )
theorem sd_snap_Print (x : X_snap_Print) : (tt_snap_Print x).Sides :=
  (TT.s_call fun _ => (TT.s_ite TT.s_ret (TT.s_call fun _ => TT.s_jump)))

noncomputable def D_snap_Print : Dyn X_snap_Print R_snap_Print := .of tt_snap_Print
noncomputable def con_snap_Print : Con Tryz.prog :=
  mkCon 38 J_snap_Print S_snap_Print D_snap_Print D_snap_Print (fun _ _ h => h) 1 0 [sh_TApi_State] (by kernel_rfl) (by kernel_rfl) (by kernel_rfl) (lab_ok mixed_ok (labs_cons2 ok_snap_Print_16 rfl (labs_cons2 ok_snap_Print_12 rfl (labs_cons2 ok_snap_Print_10 rfl (labs_cons2 ok_snap_Print_6 rfl labs_nil)))) 4000 (fun x => by kernel_rfl) sd_snap_Print) rfl rfl (fun _ => rfl) (by kernel_rfl) rfl (fun _ => rfl) (fun x y _ => by kernel_rfl)

structure TOctet_Reader where
  s : ByteArray
  at0 : Int

def d_TOctet_Reader (v : V) : TOctet_Reader :=
  ⟨dS (fd v 0), dI (fd v 1)⟩

def e_TOctet_Reader (x : TOctet_Reader) : V :=
  V.cons (V.str x.s) (V.cons ((V.int .i64) x.at0) (V.unit))

theorem nu_e_TOctet_Reader (x : TOctet_Reader) : (e_TOctet_Reader x).NoU := ⟨trivial, trivial, trivial⟩

abbrev Dbox_TOctet_Reader : Type := (Bx TOctet_Reader)
def ebox_TOctet_Reader : Dbox_TOctet_Reader → V := (eBx e_TOctet_Reader)
def dbox_TOctet_Reader : V → Dbox_TOctet_Reader := (dBx d_TOctet_Reader)
def hbox_TOctet_Reader : Sh := (.box (e_TOctet_Reader (d_TOctet_Reader .undef)))

/-! octet.New (octet_New) -/
abbrev X_octet_New : Type := ByteArray
abbrev R_octet_New : Type := (Bx TOctet_Reader)
noncomputable def J_octet_New : Job Tryz.prog :=
  job Tryz.prog Tryz.f42 6 [] [] [] [.shut 2] [hbox_TOctet_Reader] [] [] R_octet_New [] fun y => [ebox_TOctet_Reader y]
noncomputable def S_octet_New : LabS :=
  lab0 Tryz.f42 1 0 X_octet_New (fun x => [V.str x]) fun l => (dS (at_ l 0))
noncomputable def tt_octet_New (x : X_octet_New) : TT Tryz.prog R_octet_New :=
 (.ret (Bx.mk false (TOctet_Reader.mk x 0)))
theorem sd_octet_New (x : X_octet_New) : (tt_octet_New x).Sides :=
  TT.s_ret

noncomputable def D_octet_New : Dyn X_octet_New R_octet_New := .of tt_octet_New
noncomputable def con_octet_New : Con Tryz.prog :=
  mkCon 42 J_octet_New S_octet_New D_octet_New D_octet_New (fun _ _ h => h) 1 0 [.any] (by kernel_rfl) (by kernel_rfl) (by kernel_rfl) (lab_ok mixed_ok labs_nil 4000 (fun x => by kernel_rfl) sd_octet_New) rfl rfl (fun _ => rfl) (by kernel_rfl) rfl (fun _ => rfl) (fun x y _ => by kernel_rfl)

/-! (*octet.Reader).Left (octet_Reader_Left) -/
abbrev X_octet_Reader_Left : Type := TOctet_Reader
abbrev R_octet_Reader_Left : Type := Int
abbrev RR_octet_Reader_Left : Type := Int × TOctet_Reader
abbrev p_octet_Reader_Left (y : RR_octet_Reader_Left) : TOctet_Reader := y.2
abbrev w_octet_Reader_Left (x : X_octet_Reader_Left) : TOctet_Reader := x
noncomputable def J_octet_Reader_Left : Job Tryz.prog :=
  job Tryz.prog Tryz.f47 15 [] [] [] [] [.any] [.any] [] RR_octet_Reader_Left [] fun y => [(V.int .i64) y.1, e_TOctet_Reader y.2]
noncomputable def S_octet_Reader_Left : LabS :=
  lab0 Tryz.f47 1 1 X_octet_Reader_Left (fun x => [(V.ptr (.par 0) []), e_TOctet_Reader x]) fun l => (d_TOctet_Reader (at_ l 1))
noncomputable def tt_octet_Reader_Left (x : X_octet_Reader_Left) : TT Tryz.prog RR_octet_Reader_Left :=
 (.ret ((IntKind.i64.wrap ((((ByteArray.size x.s) : Nat) : Int) - x.at0)), x))
theorem sd_octet_Reader_Left (x : X_octet_Reader_Left) : (tt_octet_Reader_Left x).Sides :=
  TT.s_ret
theorem roT_octet_Reader_Left (x : X_octet_Reader_Left) : TT.Ro p_octet_Reader_Left (w_octet_Reader_Left x) (tt_octet_Reader_Left x) :=
  (TT.ro_ret rfl)

noncomputable def D_octet_Reader_Left : Dyn X_octet_Reader_Left R_octet_Reader_Left := .ro (.of tt_octet_Reader_Left) (fun y => (y.1)) (fun y x => (y, x)) fun x y h => congrArg (fun o => (y.1, o)) (roT_octet_Reader_Left x y h)
noncomputable def con_octet_Reader_Left : Con Tryz.prog :=
  mkConP 47 J_octet_Reader_Left S_octet_Reader_Left (.of tt_octet_Reader_Left) D_octet_Reader_Left (fun y x => (y, x)) (fun _ _ h => h) (fun y => (V.int .i64) y) 1 1 [.any] (by kernel_rfl) (by kernel_rfl) (by kernel_rfl) (lab_ok mixed_ok labs_nil 4000 (fun x => by kernel_rfl) sd_octet_Reader_Left) rfl rfl (fun _ => rfl) (by kernel_rfl) rfl (fun _ _ => rfl) (fun _ => rfl) (fun x => ⟨(nu_e_TOctet_Reader : ∀ y, (e_TOctet_Reader y).NoU) (x), trivial⟩)

/-! (*octet.Reader).Take (octet_Reader_Take) -/
abbrev X_octet_Reader_Take : Type := Int × TOctet_Reader
abbrev R_octet_Reader_Take : Type := ByteArray × Int × TOctet_Reader
noncomputable def J_octet_Reader_Take : Job Tryz.prog :=
  job Tryz.prog Tryz.f180 42 [] [] [] [] [.any, .any] [.any] [con_octet_Reader_Left] R_octet_Reader_Take [] fun y => [V.tup (V.cons (V.str y.1) (V.cons ((V.int .i64) y.2.1) (V.unit))), e_TOctet_Reader y.2.2]
noncomputable def S_octet_Reader_Take : LabS :=
  lab0 Tryz.f180 2 1 X_octet_Reader_Take (fun x => [(V.ptr (.par 0) []), (V.int .i64) x.1, e_TOctet_Reader x.2]) fun l => (dI (at_ l 1), d_TOctet_Reader (at_ l 2))
noncomputable def tt_octet_Reader_Take (x : X_octet_Reader_Take) : TT Tryz.prog R_octet_Reader_Take :=
 (.ite (ilt x.fst 0)
  (.ret ((ByteArray.mk #[]), (1, x.snd)))
  (.call con_octet_Reader_Left x.snd fun (y1 : R_octet_Reader_Left) =>
  (.ite (ilt y1 x.fst)
   (.ret ((ByteArray.mk #[]), (2, x.snd)))
   (.need ((upto (IntKind.i64.wrap (x.snd.at0 + x.fst)) (ByteArray.size x.snd.s)) && (upto x.snd.at0 (Int.toNat (IntKind.i64.wrap (x.snd.at0 + x.fst))))) <|
   (.ret ((ByteArray.extract x.snd.s (Int.toNat x.snd.at0) (Int.toNat (IntKind.i64.wrap (x.snd.at0 + x.fst)))), (0, (TOctet_Reader.mk x.snd.s (IntKind.i64.wrap (x.snd.at0 + x.fst))))))
   )
  )
  )
 )
theorem sd_octet_Reader_Take (x : X_octet_Reader_Take) : (tt_octet_Reader_Take x).Sides :=
  (TT.s_ite TT.s_ret (TT.s_call fun _ => (TT.s_ite TT.s_ret (TT.s_need TT.s_ret))))

noncomputable def D_octet_Reader_Take : Dyn X_octet_Reader_Take R_octet_Reader_Take := .of tt_octet_Reader_Take
noncomputable def con_octet_Reader_Take : Con Tryz.prog :=
  mkCon 180 J_octet_Reader_Take S_octet_Reader_Take D_octet_Reader_Take D_octet_Reader_Take (fun _ _ h => h) 2 1 [.any, .any] (by kernel_rfl) (by kernel_rfl) (by kernel_rfl) (lab_ok mixed_ok labs_nil 4000 (fun x => by kernel_rfl) sd_octet_Reader_Take) rfl rfl (fun _ => rfl) (by kernel_rfl) rfl (fun _ => rfl) (fun x y _ => by kernel_rfl)

/-! (*octet.Reader).Byte (octet_Reader_Byte) -/
abbrev X_octet_Reader_Byte : Type := TOctet_Reader
abbrev R_octet_Reader_Byte : Type := Int × Int × TOctet_Reader
noncomputable def J_octet_Reader_Byte : Job Tryz.prog :=
  job Tryz.prog Tryz.f143 16 [(6, 1)] [] [] [] [.any, .any] [.any] [con_octet_Reader_Take] R_octet_Reader_Byte [] fun y => [V.tup (V.cons ((V.int .u8) y.1) (V.cons ((V.int .i64) y.2.1) (V.unit))), e_TOctet_Reader y.2.2]
noncomputable def S_octet_Reader_Byte : LabS :=
  lab0 Tryz.f143 1 1 X_octet_Reader_Byte (fun x => [(V.ptr (.par 0) []), e_TOctet_Reader x]) fun l => (d_TOctet_Reader (at_ l 1))
noncomputable def tt_octet_Reader_Byte (x : X_octet_Reader_Byte) : TT Tryz.prog R_octet_Reader_Byte :=
 (.call con_octet_Reader_Take (1, x) fun (y1 : R_octet_Reader_Take) =>
 (.ite (!(ieq y1.snd.fst 0))
  (.ret (0, y1.snd))
  (.need (inb 0 (ByteArray.size y1.fst)) <|
  (.ret ((bt y1.fst (Int.toNat 0)), (0, y1.snd.snd)))
  )
 )
 )
theorem sd_octet_Reader_Byte (x : X_octet_Reader_Byte) : (tt_octet_Reader_Byte x).Sides :=
  (TT.s_call fun _ => (TT.s_ite TT.s_ret (TT.s_need TT.s_ret)))

noncomputable def D_octet_Reader_Byte : Dyn X_octet_Reader_Byte R_octet_Reader_Byte := .of tt_octet_Reader_Byte
noncomputable def con_octet_Reader_Byte : Con Tryz.prog :=
  mkCon 143 J_octet_Reader_Byte S_octet_Reader_Byte D_octet_Reader_Byte D_octet_Reader_Byte (fun _ _ h => h) 1 1 [.any] (by kernel_rfl) (by kernel_rfl) (by kernel_rfl) (lab_ok mixed_ok labs_nil 4000 (fun x => by kernel_rfl) sd_octet_Reader_Byte) rfl rfl (fun _ => rfl) (by kernel_rfl) rfl (fun _ => rfl) (fun x y _ => by kernel_rfl)

/-! varint.Read (varint_Read) -/
abbrev X_varint_Read : Type := TOctet_Reader
abbrev R_varint_Read : Type := Int × Int × TOctet_Reader
noncomputable def J_varint_Read : Job Tryz.prog :=
  job Tryz.prog Tryz.f91 44 [(10, 1)] [] [] [] [.any, .any] [.any] [con_octet_Reader_Byte] R_varint_Read [] fun y => [V.tup (V.cons ((V.int .u64) y.1) (V.cons ((V.int .i64) y.2.1) (V.unit))), e_TOctet_Reader y.2.2]
noncomputable def S_varint_Read : LabS :=
  lab0 Tryz.f91 1 1 X_varint_Read (fun x => [(V.ptr (.par 0) []), e_TOctet_Reader x]) fun l => (d_TOctet_Reader (at_ l 1))
structure X_varint_Read_2 where
  n_2 : Int
  q_7 : Int
  o_0 : TOctet_Reader
noncomputable def S_varint_Read_2 : LabS :=
  labAt Tryz.f91 2 [(0, .any), (2, .any), (7, .any)] [.any] [] X_varint_Read_2 (fun x => [(V.ptr (.par 0) []), (V.int .u64) x.n_2, (V.int .i64) x.q_7, e_TOctet_Reader x.o_0]) fun l => ⟨dI (at_ l 1), dI (at_ l 2), d_TOctet_Reader (at_ l 3)⟩
structure X_varint_Read_10 where
  n_2 : Int
  k_4 : Int
  b_5 : Int
  q_7 : Int
  o_0 : TOctet_Reader
noncomputable def S_varint_Read_10 : LabS :=
  labAt Tryz.f91 10 [(0, .any), (2, .any), (4, .any), (5, .any), (7, .any)] [.any] [] X_varint_Read_10 (fun x => [(V.ptr (.par 0) []), (V.int .u64) x.n_2, (V.int .i64) x.k_4, (V.int .u8) x.b_5, (V.int .i64) x.q_7, e_TOctet_Reader x.o_0]) fun l => ⟨dI (at_ l 1), dI (at_ l 2), dI (at_ l 3), dI (at_ l 4), d_TOctet_Reader (at_ l 5)⟩
structure X_varint_Read_12 where
  n_2 : Int
  q_7 : Int
  o_0 : TOctet_Reader
noncomputable def S_varint_Read_12 : LabS :=
  labAt Tryz.f91 12 [(0, .any), (2, .any), (7, .any)] [.any] [] X_varint_Read_12 (fun x => [(V.ptr (.par 0) []), (V.int .u64) x.n_2, (V.int .i64) x.q_7, e_TOctet_Reader x.o_0]) fun l => ⟨dI (at_ l 1), dI (at_ l 2), d_TOctet_Reader (at_ l 3)⟩
noncomputable def tt_varint_Read_12 (D_varint_Read_2 : Dyn X_varint_Read_2 R_varint_Read) (x : X_varint_Read_12) : TT Tryz.prog R_varint_Read :=
 (.jump S_varint_Read_2 D_varint_Read_2 (X_varint_Read_2.mk x.n_2 (IntKind.i64.wrap (x.q_7 + 1)) x.o_0))
theorem sd_varint_Read_12 (D_varint_Read_2 : Dyn X_varint_Read_2 R_varint_Read) (x : X_varint_Read_12) : (tt_varint_Read_12 D_varint_Read_2 x).Sides :=
  TT.s_jump

noncomputable def D_varint_Read_12 (D_varint_Read_2 : Dyn X_varint_Read_2 R_varint_Read) : Dyn X_varint_Read_12 R_varint_Read := .of (tt_varint_Read_12 D_varint_Read_2)
theorem ok_varint_Read_12 (D_varint_Read_2 : Dyn X_varint_Read_2 R_varint_Read) (h_2 : LabOK J_varint_Read S_varint_Read_2 D_varint_Read_2) : LabOK J_varint_Read S_varint_Read_12 (D_varint_Read_12 D_varint_Read_2) :=
  lab_ok mixed_ok (labs_cons2 h_2 rfl labs_nil) 4000 (fun x => by kernel_rfl) (sd_varint_Read_12 D_varint_Read_2)
noncomputable def tt_varint_Read_10 (D_varint_Read_2 : Dyn X_varint_Read_2 R_varint_Read) (x : X_varint_Read_10) : TT Tryz.prog R_varint_Read :=
 (.need (ile 0 (IntKind.i64.wrap ((7 : Int) * x.k_4))) <|
 (.ite (ilt x.b_5 128)
  (.ret ((Vm.bits .or IntKind.u64 x.n_2 (shl IntKind.u64 (IntKind.u64.wrap (Vm.bits .and IntKind.u8 x.b_5 127)) (IntKind.i64.wrap ((7 : Int) * x.k_4)))), (0, x.o_0)))
  (.jump S_varint_Read_12 (D_varint_Read_12 D_varint_Read_2) (X_varint_Read_12.mk (Vm.bits .or IntKind.u64 x.n_2 (shl IntKind.u64 (IntKind.u64.wrap (Vm.bits .and IntKind.u8 x.b_5 127)) (IntKind.i64.wrap ((7 : Int) * x.k_4)))) x.q_7 x.o_0))
 )
 )
theorem sd_varint_Read_10 (D_varint_Read_2 : Dyn X_varint_Read_2 R_varint_Read) (x : X_varint_Read_10) : (tt_varint_Read_10 D_varint_Read_2 x).Sides :=
  (TT.s_need (TT.s_ite TT.s_ret TT.s_jump))

noncomputable def D_varint_Read_10 (D_varint_Read_2 : Dyn X_varint_Read_2 R_varint_Read) : Dyn X_varint_Read_10 R_varint_Read := .of (tt_varint_Read_10 D_varint_Read_2)
theorem ok_varint_Read_10 (D_varint_Read_2 : Dyn X_varint_Read_2 R_varint_Read) (h_2 : LabOK J_varint_Read S_varint_Read_2 D_varint_Read_2) : LabOK J_varint_Read S_varint_Read_10 (D_varint_Read_10 D_varint_Read_2) :=
  lab_ok mixed_ok (labs_cons2 h_2 rfl (labs_cons2 (ok_varint_Read_12 D_varint_Read_2 h_2) rfl labs_nil)) 4000 (fun x => by kernel_rfl) (sd_varint_Read_10 D_varint_Read_2)
noncomputable def tt_varint_Read_2 (D_varint_Read_2 : Dyn X_varint_Read_2 R_varint_Read) (x : X_varint_Read_2) : TT Tryz.prog R_varint_Read :=
 (.ite (ilt x.q_7 10)
  (.call con_octet_Reader_Byte x.o_0 fun (y2 : R_octet_Reader_Byte) =>
  (.ite (!(ieq y2.snd.fst 0))
   (.ret (0, y2.snd))
   (.ite (ilt 0 x.q_7)
    (.ite (ieq y2.fst 0)
     (.ret (0, (3, y2.snd.snd)))
     (.ite (ieq x.q_7 9)
      (.ite (ilt 1 y2.fst)
       (.ret (0, (3, y2.snd.snd)))
       (.jump S_varint_Read_10 (D_varint_Read_10 D_varint_Read_2) (X_varint_Read_10.mk x.n_2 x.q_7 y2.fst x.q_7 y2.snd.snd))
      )
      (.jump S_varint_Read_10 (D_varint_Read_10 D_varint_Read_2) (X_varint_Read_10.mk x.n_2 x.q_7 y2.fst x.q_7 y2.snd.snd))
     )
    )
    (.ite (ieq x.q_7 9)
     (.ite (ilt 1 y2.fst)
      (.ret (0, (3, y2.snd.snd)))
      (.jump S_varint_Read_10 (D_varint_Read_10 D_varint_Read_2) (X_varint_Read_10.mk x.n_2 x.q_7 y2.fst x.q_7 y2.snd.snd))
     )
     (.jump S_varint_Read_10 (D_varint_Read_10 D_varint_Read_2) (X_varint_Read_10.mk x.n_2 x.q_7 y2.fst x.q_7 y2.snd.snd))
    )
   )
  )
  )
  (.ret (x.n_2, (0, x.o_0)))
 )
theorem sd_varint_Read_2 (D_varint_Read_2 : Dyn X_varint_Read_2 R_varint_Read) (x : X_varint_Read_2) : (tt_varint_Read_2 D_varint_Read_2 x).Sides :=
  (TT.s_ite (TT.s_call fun _ => (TT.s_ite TT.s_ret (TT.s_ite (TT.s_ite TT.s_ret (TT.s_ite (TT.s_ite TT.s_ret TT.s_jump) TT.s_jump)) (TT.s_ite (TT.s_ite TT.s_ret TT.s_jump) TT.s_jump)))) TT.s_ret)

noncomputable def D_varint_Read_2 : Dyn X_varint_Read_2 R_varint_Read := Dyn.loop tt_varint_Read_2
theorem ok_varint_Read_2 : LabOK J_varint_Read S_varint_Read_2 D_varint_Read_2 :=
  loop_ok fun D_varint_Read_2 h_2 => lab_ok mixed_ok (labs_cons2 h_2 rfl (labs_cons2 (ok_varint_Read_12 D_varint_Read_2 h_2) rfl (labs_cons2 (ok_varint_Read_10 D_varint_Read_2 h_2) rfl labs_nil))) 4000 (fun x => by kernel_rfl) (sd_varint_Read_2 D_varint_Read_2)
noncomputable def tt_varint_Read (x : X_varint_Read) : TT Tryz.prog R_varint_Read :=
 (.jump S_varint_Read_2 D_varint_Read_2 (X_varint_Read_2.mk 0 0 x))
theorem sd_varint_Read (x : X_varint_Read) : (tt_varint_Read x).Sides :=
  TT.s_jump

noncomputable def D_varint_Read : Dyn X_varint_Read R_varint_Read := .of tt_varint_Read
noncomputable def con_varint_Read : Con Tryz.prog :=
  mkCon 91 J_varint_Read S_varint_Read D_varint_Read D_varint_Read (fun _ _ h => h) 1 1 [.any] (by kernel_rfl) (by kernel_rfl) (by kernel_rfl) (lab_ok mixed_ok (labs_cons2 ok_varint_Read_2 rfl labs_nil) 4000 (fun x => by kernel_rfl) sd_varint_Read) rfl rfl (fun _ => rfl) (by kernel_rfl) rfl (fun _ => rfl) (fun x y _ => by kernel_rfl)

structure TSnap_reader where
  r : (Bx TOctet_Reader)
  bad : Bool

def d_TSnap_reader (v : V) : TSnap_reader :=
  ⟨dbox_TOctet_Reader (fd v 0), dB (fd v 1)⟩

def e_TSnap_reader (x : TSnap_reader) : V :=
  V.cons (ebox_TOctet_Reader x.r) (V.cons (V.bool x.bad) (V.unit))

theorem nu_e_TSnap_reader (x : TSnap_reader) : (e_TSnap_reader x).NoU := ⟨(fun _ => (nu_e_TOctet_Reader) _ : ∀ y, (ebox_TOctet_Reader y).NoU) x.r, trivial, trivial⟩

def sh_TSnap_reader : Sh := (.cons hbox_TOctet_Reader .any)

/-! (*snap.reader).number (snap_reader_number) -/
abbrev X_snap_reader_number : Type := TSnap_reader
abbrev R_snap_reader_number : Type := Int × TSnap_reader
noncomputable def J_snap_reader_number : Job Tryz.prog :=
  job Tryz.prog Tryz.f46 25 [(5, 1)] [(2, [.close (.loc 9 0)]), (3, [.close (.loc 9 0)])] [] [.close (.loc 9 0)] [.any] [sh_TSnap_reader] [con_varint_Read] R_snap_reader_number [] fun y => [(V.int .u64) y.1, e_TSnap_reader y.2]
noncomputable def S_snap_reader_number : LabS :=
  lab0 Tryz.f46 1 1 X_snap_reader_number (fun x => [(V.ptr (.par 0) []), e_TSnap_reader x]) fun l => (d_TSnap_reader (at_ l 1))
noncomputable def tt_snap_reader_number (x : X_snap_reader_number) : TT Tryz.prog R_snap_reader_number :=
 (.need (true && (!x.r.nil)) <|
 (.call con_varint_Read x.r.x fun (y1 : R_varint_Read) =>
 (.ite x.bad
  (.ret (y1.fst, (TSnap_reader.mk (Bx.mk false y1.snd.snd) true)))
  (.ret (y1.fst, (TSnap_reader.mk (Bx.mk false y1.snd.snd) (!(ieq y1.snd.fst 0)))))
 )
 )
 )
theorem sd_snap_reader_number (x : X_snap_reader_number) : (tt_snap_reader_number x).Sides :=
  (TT.s_need (TT.s_call fun _ => (TT.s_ite TT.s_ret TT.s_ret)))

noncomputable def D_snap_reader_number : Dyn X_snap_reader_number R_snap_reader_number := .of tt_snap_reader_number
noncomputable def con_snap_reader_number : Con Tryz.prog :=
  mkCon 46 J_snap_reader_number S_snap_reader_number D_snap_reader_number D_snap_reader_number (fun _ _ h => h) 1 1 [.any] (by kernel_rfl) (by kernel_rfl) (by kernel_rfl) (lab_ok mixed_ok labs_nil 4000 (fun x => by kernel_rfl) sd_snap_reader_number) rfl rfl (fun _ => rfl) (by kernel_rfl) rfl (fun _ => rfl) (fun x y _ => by kernel_rfl)

/-! (*snap.reader).small (snap_reader_small) -/
abbrev X_snap_reader_small : Type := Int × TSnap_reader
abbrev R_snap_reader_small : Type := Int × TSnap_reader
noncomputable def J_snap_reader_small : Job Tryz.prog :=
  job Tryz.prog Tryz.f43 17 [] [] [] [] [.any] [sh_TSnap_reader] [con_snap_reader_number] R_snap_reader_small [] fun y => [(V.int .i64) y.1, e_TSnap_reader y.2]
noncomputable def S_snap_reader_small : LabS :=
  lab0 Tryz.f43 2 1 X_snap_reader_small (fun x => [(V.ptr (.par 0) []), (V.int .i64) x.1, e_TSnap_reader x.2]) fun l => (dI (at_ l 1), d_TSnap_reader (at_ l 2))
noncomputable def tt_snap_reader_small (x : X_snap_reader_small) : TT Tryz.prog R_snap_reader_small :=
 (.call con_snap_reader_number x.snd fun (y1 : R_snap_reader_number) =>
 (.ite (ilt (IntKind.u64.wrap x.fst) y1.fst)
  (.ret (0, (TSnap_reader.mk y1.snd.r true)))
  (.ret ((IntKind.i64.wrap y1.fst), y1.snd))
 )
 )
theorem sd_snap_reader_small (x : X_snap_reader_small) : (tt_snap_reader_small x).Sides :=
  (TT.s_call fun _ => (TT.s_ite TT.s_ret TT.s_ret))

noncomputable def D_snap_reader_small : Dyn X_snap_reader_small R_snap_reader_small := .of tt_snap_reader_small
noncomputable def con_snap_reader_small : Con Tryz.prog :=
  mkCon 43 J_snap_reader_small S_snap_reader_small D_snap_reader_small D_snap_reader_small (fun _ _ h => h) 2 1 [.any, .any] (by kernel_rfl) (by kernel_rfl) (by kernel_rfl) (lab_ok mixed_ok labs_nil 4000 (fun x => by kernel_rfl) sd_snap_reader_small) rfl rfl (fun _ => rfl) (by kernel_rfl) rfl (fun _ => rfl) (fun x y _ => by kernel_rfl)

abbrev DslA_u64 : Type := (Sl Int)
def eslA_u64 : DslA_u64 → V := (eSl (some 35) 1 (V.int .u64))
def dslA_u64 : V → DslA_u64 := (dSl dI)
def hslA_u64 : Sh := (.sl (some 35) 1 (V.int .u64 0))

/-! varint.ReadList (varint_ReadList) -/
abbrev X_varint_ReadList : Type := Int × TOctet_Reader
abbrev R_varint_ReadList : Type := (Sl Int) × Int × TOctet_Reader
noncomputable def J_varint_ReadList : Job Tryz.prog :=
  job Tryz.prog Tryz.f142 46 [(13, 1), (32, 1), (40, 1), (45, 1)] [] [] [.shut 4] [hsl_u64, .any] [.any] [con_varint_Read] R_varint_ReadList [] fun y => [V.tup (V.cons (esl_u64 y.1) (V.cons ((V.int .i64) y.2.1) (V.unit))), e_TOctet_Reader y.2.2]
noncomputable def S_varint_ReadList : LabS :=
  lab0 Tryz.f142 2 1 X_varint_ReadList (fun x => [(V.ptr (.par 0) []), (V.int .i64) x.1, e_TOctet_Reader x.2]) fun l => (dI (at_ l 1), d_TOctet_Reader (at_ l 2))
structure X_varint_ReadList_6 where
  n_6 : Int
  e_7 : Int
  o_0 : TOctet_Reader
noncomputable def S_varint_ReadList_6 : LabS :=
  labAt Tryz.f142 6 [(0, .any), (6, .any), (7, .any)] [.any] [] X_varint_ReadList_6 (fun x => [(V.ptr (.par 0) []), (V.int .u64) x.n_6, (V.int .i64) x.e_7, e_TOctet_Reader x.o_0]) fun l => ⟨dI (at_ l 1), dI (at_ l 2), d_TOctet_Reader (at_ l 3)⟩
structure X_varint_ReadList_10 where
  l_8 : (Sl Int)
  q_29 : Int
  q_30 : Int
  o_0 : TOctet_Reader
noncomputable def S_varint_ReadList_10 : LabS :=
  labAt Tryz.f142 10 [(0, .any), (8, hslA_u64), (29, .any), (30, .any)] [.any] [] X_varint_ReadList_10 (fun x => [(V.ptr (.par 0) []), eslA_u64 x.l_8, (V.int .u64) x.q_29, (V.int .u64) x.q_30, e_TOctet_Reader x.o_0]) fun l => ⟨dslA_u64 (at_ l 1), dI (at_ l 2), dI (at_ l 3), d_TOctet_Reader (at_ l 4)⟩
noncomputable def tt_varint_ReadList_10 (D_varint_ReadList_10 : Dyn X_varint_ReadList_10 R_varint_ReadList) (x : X_varint_ReadList_10) : TT Tryz.prog R_varint_ReadList :=
 (.ite (ilt x.q_30 x.q_29)
  (.call con_varint_Read x.o_0 fun (y2 : R_varint_Read) =>
  (.ite (!(ieq y2.snd.fst 0))
   (.ret ((Sl.mk true 0 (fun _i3 => (0 : Int))), y2.snd))
   (.need (true && (room (x.l_8.n + 1) 8)) <|
   (.jump S_varint_ReadList_10 D_varint_ReadList_10 (X_varint_ReadList_10.mk (Sl.mk (cond (Nat.beq 1 0) x.l_8.nil false) (x.l_8.n + 1) (fun i3 => (cond (Nat.blt i3 x.l_8.n) (x.l_8.get i3) y2.fst))) x.q_29 (IntKind.u64.wrap (x.q_30 + 1)) y2.snd.snd))
   )
  )
  )
  (.ret (x.l_8, (0, x.o_0)))
 )
theorem sd_varint_ReadList_10 (D_varint_ReadList_10 : Dyn X_varint_ReadList_10 R_varint_ReadList) (x : X_varint_ReadList_10) : (tt_varint_ReadList_10 D_varint_ReadList_10 x).Sides :=
  (TT.s_ite (TT.s_call fun _ => (TT.s_ite TT.s_ret (TT.s_need TT.s_jump))) TT.s_ret)

noncomputable def D_varint_ReadList_10 : Dyn X_varint_ReadList_10 R_varint_ReadList := Dyn.loop tt_varint_ReadList_10
theorem ok_varint_ReadList_10 : LabOK J_varint_ReadList S_varint_ReadList_10 D_varint_ReadList_10 :=
  loop_ok fun D_varint_ReadList_10 h_10 => lab_ok mixed_ok (labs_cons2 h_10 rfl labs_nil) 4000 (fun x => by kernel_rfl) (sd_varint_ReadList_10 D_varint_ReadList_10)
noncomputable def tt_varint_ReadList_6 (x : X_varint_ReadList_6) : TT Tryz.prog R_varint_ReadList :=
 (.ite (!(ieq x.e_7 0))
  (.ret ((Sl.mk true 0 (fun _i1 => (0 : Int))), (x.e_7, x.o_0)))
  (.jump S_varint_ReadList_10 D_varint_ReadList_10 (X_varint_ReadList_10.mk (Sl.mk true 0 (fun _i1 => (0 : Int))) x.n_6 0 x.o_0))
 )
theorem sd_varint_ReadList_6 (x : X_varint_ReadList_6) : (tt_varint_ReadList_6 x).Sides :=
  (TT.s_ite TT.s_ret TT.s_jump)

noncomputable def D_varint_ReadList_6 : Dyn X_varint_ReadList_6 R_varint_ReadList := .of tt_varint_ReadList_6
theorem ok_varint_ReadList_6 : LabOK J_varint_ReadList S_varint_ReadList_6 D_varint_ReadList_6 :=
  lab_ok mixed_ok (labs_cons2 ok_varint_ReadList_10 rfl labs_nil) 4000 (fun x => by kernel_rfl) sd_varint_ReadList_6
noncomputable def tt_varint_ReadList (x : X_varint_ReadList) : TT Tryz.prog R_varint_ReadList :=
 (.ite (ilt x.fst 0)
  (.ret ((Sl.mk true 0 (fun _i1 => (0 : Int))), (1, x.snd)))
  (.call con_varint_Read x.snd fun (y1 : R_varint_Read) =>
  (.ite (ieq y1.snd.fst 0)
   (.ite (ilt (IntKind.u64.wrap x.fst) y1.fst)
    (.jump S_varint_ReadList_6 D_varint_ReadList_6 (X_varint_ReadList_6.mk y1.fst 4 y1.snd.snd))
    (.jump S_varint_ReadList_6 D_varint_ReadList_6 (X_varint_ReadList_6.mk y1.fst y1.snd.fst y1.snd.snd))
   )
   (.jump S_varint_ReadList_6 D_varint_ReadList_6 (X_varint_ReadList_6.mk y1.fst y1.snd.fst y1.snd.snd))
  )
  )
 )
theorem sd_varint_ReadList (x : X_varint_ReadList) : (tt_varint_ReadList x).Sides :=
  (TT.s_ite TT.s_ret (TT.s_call fun _ => (TT.s_ite (TT.s_ite TT.s_jump TT.s_jump) TT.s_jump)))

noncomputable def D_varint_ReadList : Dyn X_varint_ReadList R_varint_ReadList := .of tt_varint_ReadList
noncomputable def con_varint_ReadList : Con Tryz.prog :=
  mkCon 142 J_varint_ReadList S_varint_ReadList D_varint_ReadList D_varint_ReadList (fun _ _ h => h) 2 1 [.any, .any] (by kernel_rfl) (by kernel_rfl) (by kernel_rfl) (lab_ok mixed_ok (labs_cons2 ok_varint_ReadList_10 rfl (labs_cons2 ok_varint_ReadList_6 rfl labs_nil)) 4000 (fun x => by kernel_rfl) sd_varint_ReadList) rfl rfl (fun _ => rfl) (by kernel_rfl) rfl (fun _ => rfl) (fun x y _ => by kernel_rfl)

/-! (*snap.reader).list (snap_reader_list) -/
abbrev X_snap_reader_list : Type := Int × TSnap_reader
abbrev R_snap_reader_list : Type := (Sl Int) × TSnap_reader
noncomputable def J_snap_reader_list : Job Tryz.prog :=
  job Tryz.prog Tryz.f90 28 [(7, 1), (27, 1)] [(2, [.close (.loc 11 0)]), (3, [.close (.loc 11 0)])] [] [.close (.loc 11 0), .shut 4] [hsl_u64] [sh_TSnap_reader] [con_varint_ReadList] R_snap_reader_list [] fun y => [esl_u64 y.1, e_TSnap_reader y.2]
noncomputable def S_snap_reader_list : LabS :=
  lab0 Tryz.f90 2 1 X_snap_reader_list (fun x => [(V.ptr (.par 0) []), (V.int .i64) x.1, e_TSnap_reader x.2]) fun l => (dI (at_ l 1), d_TSnap_reader (at_ l 2))
noncomputable def tt_snap_reader_list (x : X_snap_reader_list) : TT Tryz.prog R_snap_reader_list :=
 (.need (true && (!x.snd.r.nil)) <|
 (.call con_varint_ReadList (x.fst, x.snd.r.x) fun (y1 : R_varint_ReadList) =>
 (.ite x.snd.bad
  (.ret (y1.fst, (TSnap_reader.mk (Bx.mk false y1.snd.snd) true)))
  (.ret (y1.fst, (TSnap_reader.mk (Bx.mk false y1.snd.snd) (!(ieq y1.snd.fst 0)))))
 )
 )
 )
theorem sd_snap_reader_list (x : X_snap_reader_list) : (tt_snap_reader_list x).Sides :=
  (TT.s_need (TT.s_call fun _ => (TT.s_ite TT.s_ret TT.s_ret)))

noncomputable def D_snap_reader_list : Dyn X_snap_reader_list R_snap_reader_list := .of tt_snap_reader_list
noncomputable def con_snap_reader_list : Con Tryz.prog :=
  mkCon 90 J_snap_reader_list S_snap_reader_list D_snap_reader_list D_snap_reader_list (fun _ _ h => h) 2 1 [.any, .any] (by kernel_rfl) (by kernel_rfl) (by kernel_rfl) (lab_ok mixed_ok labs_nil 4000 (fun x => by kernel_rfl) sd_snap_reader_list) rfl rfl (fun _ => rfl) (by kernel_rfl) rfl (fun _ => rfl) (fun x y _ => by kernel_rfl)

/-! (*snap.reader).thread (snap_reader_thread) -/
abbrev X_snap_reader_thread : Type := TSnap_reader
abbrev R_snap_reader_thread : Type := TApi_ThreadState × TSnap_reader
noncomputable def J_snap_reader_thread : Job Tryz.prog :=
  job Tryz.prog Tryz.f44 32 [] [] [] [] [sh_TApi_ThreadState] [sh_TSnap_reader] [con_snap_reader_list, con_snap_reader_number, con_snap_reader_small] R_snap_reader_thread [] fun y => [e_TApi_ThreadState y.1, e_TSnap_reader y.2]
noncomputable def S_snap_reader_thread : LabS :=
  lab0 Tryz.f44 1 1 X_snap_reader_thread (fun x => [(V.ptr (.par 0) []), e_TSnap_reader x]) fun l => (d_TSnap_reader (at_ l 1))
structure X_snap_reader_thread_4 where
  q_19 : Int
  o_0 : TSnap_reader
  m_2 : TApi_ThreadState
noncomputable def S_snap_reader_thread_4 : LabS :=
  labAt Tryz.f44 4 [(0, .any), (2, .any), (19, .any)] [sh_TSnap_reader] [(.loc 2 0, sh_TApi_ThreadState)] X_snap_reader_thread_4 (fun x => [(V.ptr (.par 0) []), (V.ptr (.loc 2 0) []), (V.int .i64) x.q_19, e_TSnap_reader x.o_0, e_TApi_ThreadState x.m_2]) fun l => ⟨dI (at_ l 2), d_TSnap_reader (at_ l 3), d_TApi_ThreadState (at_ l 4)⟩
structure X_snap_reader_thread_8 where
  o_0 : TSnap_reader
  m_2 : TApi_ThreadState
noncomputable def S_snap_reader_thread_8 : LabS :=
  labAt Tryz.f44 8 [(0, .any), (2, .any)] [sh_TSnap_reader] [(.loc 2 0, sh_TApi_ThreadState)] X_snap_reader_thread_8 (fun x => [(V.ptr (.par 0) []), (V.ptr (.loc 2 0) []), e_TSnap_reader x.o_0, e_TApi_ThreadState x.m_2]) fun l => ⟨d_TSnap_reader (at_ l 2), d_TApi_ThreadState (at_ l 3)⟩
noncomputable def tt_snap_reader_thread_8 (x : X_snap_reader_thread_8) : TT Tryz.prog R_snap_reader_thread :=
 (.call con_snap_reader_list (65536, x.o_0) fun (y1 : R_snap_reader_list) =>
 (.ret ((TApi_ThreadState.mk x.m_2.At x.m_2.Phase x.m_2.Ring x.m_2.Status x.m_2.Ticket x.m_2.Regs y1.fst), y1.snd))
 )
theorem sd_snap_reader_thread_8 (x : X_snap_reader_thread_8) : (tt_snap_reader_thread_8 x).Sides :=
  (TT.s_call fun _ => TT.s_ret)

noncomputable def D_snap_reader_thread_8 : Dyn X_snap_reader_thread_8 R_snap_reader_thread := .of tt_snap_reader_thread_8
theorem ok_snap_reader_thread_8 : LabOK J_snap_reader_thread S_snap_reader_thread_8 D_snap_reader_thread_8 :=
  lab_ok mixed_ok labs_nil 4000 (fun x => by kernel_rfl) sd_snap_reader_thread_8
noncomputable def tt_snap_reader_thread_4 (D_snap_reader_thread_4 : Dyn X_snap_reader_thread_4 R_snap_reader_thread) (x : X_snap_reader_thread_4) : TT Tryz.prog R_snap_reader_thread :=
 (.ite (ilt x.q_19 8)
  (.call con_snap_reader_number x.o_0 fun (y2 : R_snap_reader_number) =>
  (.need (inb x.q_19 8) <|
  (.jump S_snap_reader_thread_4 D_snap_reader_thread_4 (X_snap_reader_thread_4.mk (IntKind.i64.wrap (x.q_19 + 1)) y2.snd (TApi_ThreadState.mk x.m_2.At x.m_2.Phase x.m_2.Ring x.m_2.Status x.m_2.Ticket (fun i3 => (cond (Nat.beq i3 (Int.toNat x.q_19)) y2.fst (x.m_2.Regs i3))) x.m_2.Seen)))
  )
  )
  (.jump S_snap_reader_thread_8 D_snap_reader_thread_8 (X_snap_reader_thread_8.mk x.o_0 x.m_2))
 )
theorem sd_snap_reader_thread_4 (D_snap_reader_thread_4 : Dyn X_snap_reader_thread_4 R_snap_reader_thread) (x : X_snap_reader_thread_4) : (tt_snap_reader_thread_4 D_snap_reader_thread_4 x).Sides :=
  (TT.s_ite (TT.s_call fun _ => (TT.s_need TT.s_jump)) TT.s_jump)

noncomputable def D_snap_reader_thread_4 : Dyn X_snap_reader_thread_4 R_snap_reader_thread := Dyn.loop tt_snap_reader_thread_4
theorem ok_snap_reader_thread_4 : LabOK J_snap_reader_thread S_snap_reader_thread_4 D_snap_reader_thread_4 :=
  loop_ok fun D_snap_reader_thread_4 h_4 => lab_ok mixed_ok (labs_cons2 h_4 rfl (labs_cons2 ok_snap_reader_thread_8 rfl labs_nil)) 4000 (fun x => by kernel_rfl) (sd_snap_reader_thread_4 D_snap_reader_thread_4)
noncomputable def tt_snap_reader_thread (x : X_snap_reader_thread) : TT Tryz.prog R_snap_reader_thread :=
 (.call con_snap_reader_small (65535, x) fun (y1 : R_snap_reader_small) =>
 (.call con_snap_reader_small (65535, y1.snd) fun (y2 : R_snap_reader_small) =>
 (.call con_snap_reader_small (65535, y2.snd) fun (y3 : R_snap_reader_small) =>
 (.call con_snap_reader_small (65535, y3.snd) fun (y4 : R_snap_reader_small) =>
 (.call con_snap_reader_number y4.snd fun (y5 : R_snap_reader_number) =>
 (.jump S_snap_reader_thread_4 D_snap_reader_thread_4 (X_snap_reader_thread_4.mk 0 y5.snd (TApi_ThreadState.mk y1.fst y2.fst y3.fst y4.fst y5.fst (fun _i6 => (0 : Int)) (Sl.mk true 0 (fun _i6 => (0 : Int))))))
 )
 )
 )
 )
 )
theorem sd_snap_reader_thread (x : X_snap_reader_thread) : (tt_snap_reader_thread x).Sides :=
  (TT.s_call fun _ => (TT.s_call fun _ => (TT.s_call fun _ => (TT.s_call fun _ => (TT.s_call fun _ => TT.s_jump)))))

noncomputable def D_snap_reader_thread : Dyn X_snap_reader_thread R_snap_reader_thread := .of tt_snap_reader_thread
noncomputable def con_snap_reader_thread : Con Tryz.prog :=
  mkCon 44 J_snap_reader_thread S_snap_reader_thread D_snap_reader_thread D_snap_reader_thread (fun _ _ h => h) 1 1 [.any] (by kernel_rfl) (by kernel_rfl) (by kernel_rfl) (lab_ok mixed_ok (labs_cons2 ok_snap_reader_thread_8 rfl (labs_cons2 ok_snap_reader_thread_4 rfl labs_nil)) 4000 (fun x => by kernel_rfl) sd_snap_reader_thread) rfl rfl (fun _ => rfl) (by kernel_rfl) rfl (fun _ => rfl) (fun x y _ => by kernel_rfl)

abbrev DslA_TApi_Slot : Type := (Sl TApi_Slot)
def eslA_TApi_Slot : DslA_TApi_Slot → V := (eSl (some 150) 3 e_TApi_Slot)
def dslA_TApi_Slot : V → DslA_TApi_Slot := (dSl d_TApi_Slot)
def hslA_TApi_Slot : Sh := (.sl (some 150) 3 (e_TApi_Slot (d_TApi_Slot .undef)))

def e_TApi_RingState_3 (x : TApi_RingState) : V :=
  V.cons ((V.int .u64) x.Tail) (V.cons (esl_u64 x.Heads) (V.cons (V.bool x.Closed) (V.cons (eslA_TApi_Slot x.Slots) (V.unit))))

theorem nu_e_TApi_RingState_3 (x : TApi_RingState) : (e_TApi_RingState_3 x).NoU := ⟨trivial, trivial, trivial, trivial, trivial⟩

def sh_TApi_RingState_3 : Sh := (.cons .any (.cons hsl_u64 (.cons .any (.cons hslA_TApi_Slot .any))))

/-! (*snap.reader).ring (snap_reader_ring) -/
abbrev X_snap_reader_ring : Type := TSnap_reader
abbrev R_snap_reader_ring : Type := TApi_RingState × TSnap_reader
noncomputable def J_snap_reader_ring : Job Tryz.prog :=
  job Tryz.prog Tryz.f45 40 [(28, 1)] [] [] [] [sh_TApi_RingState] [sh_TSnap_reader] [con_snap_reader_list, con_snap_reader_number, con_snap_reader_small] R_snap_reader_ring [] fun y => [e_TApi_RingState y.1, e_TSnap_reader y.2]
noncomputable def S_snap_reader_ring : LabS :=
  lab0 Tryz.f45 1 1 X_snap_reader_ring (fun x => [(V.ptr (.par 0) []), e_TSnap_reader x]) fun l => (d_TSnap_reader (at_ l 1))
structure X_snap_reader_ring_5 where
  n_3 : Int
  o_0 : TSnap_reader
  m_2 : TApi_RingState
noncomputable def S_snap_reader_ring_5 : LabS :=
  labAt Tryz.f45 5 [(0, .any), (2, .any), (3, .any)] [sh_TSnap_reader] [(.loc 2 0, sh_TApi_RingState_3)] X_snap_reader_ring_5 (fun x => [(V.ptr (.par 0) []), (V.ptr (.loc 2 0) []), (V.int .i64) x.n_3, e_TSnap_reader x.o_0, e_TApi_RingState_3 x.m_2]) fun l => ⟨dI (at_ l 2), d_TSnap_reader (at_ l 3), d_TApi_RingState (at_ l 4)⟩
structure X_snap_reader_ring_7 where
  n_3 : Int
  o_0 : TSnap_reader
  m_2 : TApi_RingState
noncomputable def S_snap_reader_ring_7 : LabS :=
  labAt Tryz.f45 7 [(0, .any), (2, .any), (3, .any)] [sh_TSnap_reader] [(.loc 2 0, sh_TApi_RingState_3)] X_snap_reader_ring_7 (fun x => [(V.ptr (.par 0) []), (V.ptr (.loc 2 0) []), (V.int .i64) x.n_3, e_TSnap_reader x.o_0, e_TApi_RingState_3 x.m_2]) fun l => ⟨dI (at_ l 2), d_TSnap_reader (at_ l 3), d_TApi_RingState (at_ l 4)⟩
noncomputable def tt_snap_reader_ring_7 (D_snap_reader_ring_5 : Dyn X_snap_reader_ring_5 R_snap_reader_ring) (x : X_snap_reader_ring_7) : TT Tryz.prog R_snap_reader_ring :=
 (.call con_snap_reader_number x.o_0 fun (y2 : R_snap_reader_number) =>
 (.call con_snap_reader_number y2.snd fun (y3 : R_snap_reader_number) =>
 (.call con_snap_reader_small (65535, y3.snd) fun (y4 : R_snap_reader_small) =>
 (.need (true && (room (x.m_2.Slots.n + 1) 24)) <|
 (.jump S_snap_reader_ring_5 D_snap_reader_ring_5 (X_snap_reader_ring_5.mk (IntKind.i64.wrap (x.n_3 - 1)) y4.snd (TApi_RingState.mk x.m_2.Tail x.m_2.Heads x.m_2.Closed (Sl.mk (cond (Nat.beq 1 0) x.m_2.Slots.nil false) (x.m_2.Slots.n + 1) (fun i5 => (TApi_Slot.mk (cond (Nat.blt i5 x.m_2.Slots.n) (x.m_2.Slots.get i5).Stamp y2.fst) (cond (Nat.blt i5 x.m_2.Slots.n) (x.m_2.Slots.get i5).Value y3.fst) (cond (Nat.blt i5 x.m_2.Slots.n) (x.m_2.Slots.get i5).Left y4.fst)))))))
 )
 )
 )
 )
theorem sd_snap_reader_ring_7 (D_snap_reader_ring_5 : Dyn X_snap_reader_ring_5 R_snap_reader_ring) (x : X_snap_reader_ring_7) : (tt_snap_reader_ring_7 D_snap_reader_ring_5 x).Sides :=
  (TT.s_call fun _ => (TT.s_call fun _ => (TT.s_call fun _ => (TT.s_need TT.s_jump))))

noncomputable def D_snap_reader_ring_7 (D_snap_reader_ring_5 : Dyn X_snap_reader_ring_5 R_snap_reader_ring) : Dyn X_snap_reader_ring_7 R_snap_reader_ring := .of (tt_snap_reader_ring_7 D_snap_reader_ring_5)
theorem ok_snap_reader_ring_7 (D_snap_reader_ring_5 : Dyn X_snap_reader_ring_5 R_snap_reader_ring) (h_5 : LabOK J_snap_reader_ring S_snap_reader_ring_5 D_snap_reader_ring_5) : LabOK J_snap_reader_ring S_snap_reader_ring_7 (D_snap_reader_ring_7 D_snap_reader_ring_5) :=
  lab_ok mixed_ok (labs_cons2 h_5 rfl labs_nil) 4000 (fun x => by kernel_rfl) (sd_snap_reader_ring_7 D_snap_reader_ring_5)
noncomputable def tt_snap_reader_ring_5 (D_snap_reader_ring_5 : Dyn X_snap_reader_ring_5 R_snap_reader_ring) (x : X_snap_reader_ring_5) : TT Tryz.prog R_snap_reader_ring :=
 (.ite (ilt 0 x.n_3)
  (.ite (!x.o_0.bad)
   (.jump S_snap_reader_ring_7 (D_snap_reader_ring_7 D_snap_reader_ring_5) (X_snap_reader_ring_7.mk x.n_3 x.o_0 x.m_2))
   (.ret (x.m_2, x.o_0))
  )
  (.ret (x.m_2, x.o_0))
 )
theorem sd_snap_reader_ring_5 (D_snap_reader_ring_5 : Dyn X_snap_reader_ring_5 R_snap_reader_ring) (x : X_snap_reader_ring_5) : (tt_snap_reader_ring_5 D_snap_reader_ring_5 x).Sides :=
  (TT.s_ite (TT.s_ite TT.s_jump TT.s_ret) TT.s_ret)

noncomputable def D_snap_reader_ring_5 : Dyn X_snap_reader_ring_5 R_snap_reader_ring := Dyn.loop tt_snap_reader_ring_5
theorem ok_snap_reader_ring_5 : LabOK J_snap_reader_ring S_snap_reader_ring_5 D_snap_reader_ring_5 :=
  loop_ok fun D_snap_reader_ring_5 h_5 => lab_ok mixed_ok (labs_cons2 h_5 rfl (labs_cons2 (ok_snap_reader_ring_7 D_snap_reader_ring_5 h_5) rfl labs_nil)) 4000 (fun x => by kernel_rfl) (sd_snap_reader_ring_5 D_snap_reader_ring_5)
noncomputable def tt_snap_reader_ring (x : X_snap_reader_ring) : TT Tryz.prog R_snap_reader_ring :=
 (.call con_snap_reader_number x fun (y1 : R_snap_reader_number) =>
 (.call con_snap_reader_list (8, y1.snd) fun (y2 : R_snap_reader_list) =>
 (.call con_snap_reader_small (1, y2.snd) fun (y3 : R_snap_reader_small) =>
 (.call con_snap_reader_small (64, y3.snd) fun (y4 : R_snap_reader_small) =>
 (.jump S_snap_reader_ring_5 D_snap_reader_ring_5 (X_snap_reader_ring_5.mk y4.fst y4.snd (TApi_RingState.mk y1.fst y2.fst (ieq y3.fst 1) (Sl.mk true 0 (fun _i5 => (TApi_Slot.mk 0 0 0))))))
 )
 )
 )
 )
theorem sd_snap_reader_ring (x : X_snap_reader_ring) : (tt_snap_reader_ring x).Sides :=
  (TT.s_call fun _ => (TT.s_call fun _ => (TT.s_call fun _ => (TT.s_call fun _ => TT.s_jump))))

noncomputable def D_snap_reader_ring : Dyn X_snap_reader_ring R_snap_reader_ring := .of tt_snap_reader_ring
noncomputable def con_snap_reader_ring : Con Tryz.prog :=
  mkCon 45 J_snap_reader_ring S_snap_reader_ring D_snap_reader_ring D_snap_reader_ring (fun _ _ h => h) 1 1 [.any] (by kernel_rfl) (by kernel_rfl) (by kernel_rfl) (lab_ok mixed_ok (labs_cons2 ok_snap_reader_ring_5 rfl labs_nil) 4000 (fun x => by kernel_rfl) sd_snap_reader_ring) rfl rfl (fun _ => rfl) (by kernel_rfl) rfl (fun _ => rfl) (fun x y _ => by kernel_rfl)

abbrev DslA_TApi_ThreadState : Type := (Sl TApi_ThreadState)
def eslA_TApi_ThreadState : DslA_TApi_ThreadState → V := (eSl (some 79) 14 e_TApi_ThreadState)
def dslA_TApi_ThreadState : V → DslA_TApi_ThreadState := (dSl d_TApi_ThreadState)
def hslA_TApi_ThreadState : Sh := (.sl (some 79) 14 (e_TApi_ThreadState (d_TApi_ThreadState .undef)))

abbrev DslA_TApi_RingState : Type := (Sl TApi_RingState)
def eslA_TApi_RingState : DslA_TApi_RingState → V := (eSl (some 93) 4 e_TApi_RingState)
def dslA_TApi_RingState : V → DslA_TApi_RingState := (dSl d_TApi_RingState)
def hslA_TApi_RingState : Sh := (.sl (some 93) 4 (e_TApi_RingState (d_TApi_RingState .undef)))

def e_TApi_State_0_1 (x : TApi_State) : V :=
  V.cons (eslA_TApi_ThreadState x.Threads) (V.cons (eslA_TApi_RingState x.Rings) (V.cons ((V.int .u64) x.Now) (V.cons ((V.int .u64) x.Reads) (V.cons (V.bool x.Ended) (V.unit)))))

theorem nu_e_TApi_State_0_1 (x : TApi_State) : (e_TApi_State_0_1 x).NoU := ⟨trivial, trivial, trivial, trivial, trivial, trivial⟩

def sh_TApi_State_0_1 : Sh := (.cons hslA_TApi_ThreadState (.cons hslA_TApi_RingState .any))

/-! snap.Read (snap_Read) -/
abbrev X_snap_Read : Type := ByteArray
abbrev R_snap_Read : Type := TApi_State × Int
noncomputable def J_snap_Read : Job Tryz.prog :=
  job Tryz.prog Tryz.f14 75 [(25, 1), (45, 1)] [(12, [.close (.loc 69 0)]), (13, [.close (.loc 69 0)])] [] [.close (.loc 69 0)] [sh_TApi_State, .any] [] [con_octet_New, con_octet_Reader_Left, con_snap_reader_number, con_snap_reader_ring, con_snap_reader_small, con_snap_reader_thread] R_snap_Read [] fun y => [V.tup (V.cons (e_TApi_State y.1) (V.cons ((V.int .i64) y.2) (V.unit)))]
noncomputable def S_snap_Read : LabS :=
  lab0 Tryz.f14 1 0 X_snap_Read (fun x => [V.str x]) fun l => (dS (at_ l 0))
structure X_snap_Read_3 where
  n_5 : Int
  m_2 : TApi_State
  m_10 : TSnap_reader
noncomputable def S_snap_Read_3 : LabS :=
  labAt Tryz.f14 3 [(2, .any), (4, .any), (5, .any)] [] [(.loc 2 0, sh_TApi_State_0_1), (.loc 10 0, sh_TSnap_reader)] X_snap_Read_3 (fun x => [(V.ptr (.loc 2 0) []), (V.ptr (.loc 10 0) []), (V.int .i64) x.n_5, e_TApi_State_0_1 x.m_2, e_TSnap_reader x.m_10]) fun l => ⟨dI (at_ l 2), d_TApi_State (at_ l 3), d_TSnap_reader (at_ l 4)⟩
structure X_snap_Read_5 where
  n_5 : Int
  m_2 : TApi_State
  m_10 : TSnap_reader
noncomputable def S_snap_Read_5 : LabS :=
  labAt Tryz.f14 5 [(2, .any), (4, .any), (5, .any)] [] [(.loc 2 0, sh_TApi_State_0_1), (.loc 10 0, sh_TSnap_reader)] X_snap_Read_5 (fun x => [(V.ptr (.loc 2 0) []), (V.ptr (.loc 10 0) []), (V.int .i64) x.n_5, e_TApi_State_0_1 x.m_2, e_TSnap_reader x.m_10]) fun l => ⟨dI (at_ l 2), d_TApi_State (at_ l 3), d_TSnap_reader (at_ l 4)⟩
structure X_snap_Read_6 where
  m_2 : TApi_State
  m_10 : TSnap_reader
noncomputable def S_snap_Read_6 : LabS :=
  labAt Tryz.f14 6 [(2, .any), (4, .any)] [] [(.loc 2 0, sh_TApi_State_0_1), (.loc 10 0, sh_TSnap_reader)] X_snap_Read_6 (fun x => [(V.ptr (.loc 2 0) []), (V.ptr (.loc 10 0) []), e_TApi_State_0_1 x.m_2, e_TSnap_reader x.m_10]) fun l => ⟨d_TApi_State (at_ l 2), d_TSnap_reader (at_ l 3)⟩
structure X_snap_Read_7 where
  n_6 : Int
  m_2 : TApi_State
  m_10 : TSnap_reader
noncomputable def S_snap_Read_7 : LabS :=
  labAt Tryz.f14 7 [(2, .any), (4, .any), (6, .any)] [] [(.loc 2 0, sh_TApi_State_0_1), (.loc 10 0, sh_TSnap_reader)] X_snap_Read_7 (fun x => [(V.ptr (.loc 2 0) []), (V.ptr (.loc 10 0) []), (V.int .i64) x.n_6, e_TApi_State_0_1 x.m_2, e_TSnap_reader x.m_10]) fun l => ⟨dI (at_ l 2), d_TApi_State (at_ l 3), d_TSnap_reader (at_ l 4)⟩
structure X_snap_Read_9 where
  n_6 : Int
  m_2 : TApi_State
  m_10 : TSnap_reader
noncomputable def S_snap_Read_9 : LabS :=
  labAt Tryz.f14 9 [(2, .any), (4, .any), (6, .any)] [] [(.loc 2 0, sh_TApi_State_0_1), (.loc 10 0, sh_TSnap_reader)] X_snap_Read_9 (fun x => [(V.ptr (.loc 2 0) []), (V.ptr (.loc 10 0) []), (V.int .i64) x.n_6, e_TApi_State_0_1 x.m_2, e_TSnap_reader x.m_10]) fun l => ⟨dI (at_ l 2), d_TApi_State (at_ l 3), d_TSnap_reader (at_ l 4)⟩
structure X_snap_Read_10 where
  m_2 : TApi_State
  m_10 : TSnap_reader
noncomputable def S_snap_Read_10 : LabS :=
  labAt Tryz.f14 10 [(2, .any), (4, .any)] [] [(.loc 2 0, sh_TApi_State_0_1), (.loc 10 0, sh_TSnap_reader)] X_snap_Read_10 (fun x => [(V.ptr (.loc 2 0) []), (V.ptr (.loc 10 0) []), e_TApi_State_0_1 x.m_2, e_TSnap_reader x.m_10]) fun l => ⟨d_TApi_State (at_ l 2), d_TSnap_reader (at_ l 3)⟩
noncomputable def tt_snap_Read_10 (x : X_snap_Read_10) : TT Tryz.prog R_snap_Read :=
 (.call con_snap_reader_number x.m_10 fun (y1 : R_snap_reader_number) =>
 (.call con_snap_reader_number y1.snd fun (y2 : R_snap_reader_number) =>
 (.call con_snap_reader_small (1, y2.snd) fun (y3 : R_snap_reader_small) =>
 (.ite y3.snd.bad
  (.ret ((TApi_State.mk (Sl.mk true 0 (fun _i4 => (TApi_ThreadState.mk 0 0 0 0 0 (fun _i5 => (0 : Int)) (Sl.mk true 0 (fun _i5 => (0 : Int)))))) (Sl.mk true 0 (fun _i4 => (TApi_RingState.mk 0 (Sl.mk true 0 (fun _i5 => (0 : Int))) false (Sl.mk true 0 (fun _i5 => (TApi_Slot.mk 0 0 0)))))) 0 0 false), 3))
  (.need (true && (!y3.snd.r.nil)) <|
  (.call con_octet_Reader_Left y3.snd.r.x fun (y4 : R_octet_Reader_Left) =>
  (.ite (ilt 0 y4)
   (.ret ((TApi_State.mk (Sl.mk true 0 (fun _i5 => (TApi_ThreadState.mk 0 0 0 0 0 (fun _i6 => (0 : Int)) (Sl.mk true 0 (fun _i6 => (0 : Int)))))) (Sl.mk true 0 (fun _i5 => (TApi_RingState.mk 0 (Sl.mk true 0 (fun _i6 => (0 : Int))) false (Sl.mk true 0 (fun _i6 => (TApi_Slot.mk 0 0 0)))))) 0 0 false), 3))
   (.ret ((TApi_State.mk x.m_2.Threads x.m_2.Rings y1.fst y2.fst (ieq y3.fst 1)), 0))
  )
  )
  )
 )
 )
 )
 )
theorem sd_snap_Read_10 (x : X_snap_Read_10) : (tt_snap_Read_10 x).Sides :=
  (TT.s_call fun _ => (TT.s_call fun _ => (TT.s_call fun _ => (TT.s_ite TT.s_ret (TT.s_need (TT.s_call fun _ => (TT.s_ite TT.s_ret TT.s_ret)))))))

noncomputable def D_snap_Read_10 : Dyn X_snap_Read_10 R_snap_Read := .of tt_snap_Read_10
theorem ok_snap_Read_10 : LabOK J_snap_Read S_snap_Read_10 D_snap_Read_10 :=
  lab_ok mixed_ok labs_nil 4000 (fun x => by kernel_rfl) sd_snap_Read_10
noncomputable def tt_snap_Read_9 (D_snap_Read_7 : Dyn X_snap_Read_7 R_snap_Read) (x : X_snap_Read_9) : TT Tryz.prog R_snap_Read :=
 (.call con_snap_reader_ring x.m_10 fun (y2 : R_snap_reader_ring) =>
 (.need (true && (room (x.m_2.Rings.n + 1) 64)) <|
 (.jump S_snap_Read_7 D_snap_Read_7 (X_snap_Read_7.mk (IntKind.i64.wrap (x.n_6 - 1)) (TApi_State.mk x.m_2.Threads (Sl.mk (cond (Nat.beq 1 0) x.m_2.Rings.nil false) (x.m_2.Rings.n + 1) (fun i3 => (TApi_RingState.mk (cond (Nat.blt i3 x.m_2.Rings.n) (x.m_2.Rings.get i3).Tail y2.fst.Tail) (Sl.mk (cond (Nat.blt i3 x.m_2.Rings.n) (x.m_2.Rings.get i3).Heads.nil y2.fst.Heads.nil) (cond (Nat.blt i3 x.m_2.Rings.n) (x.m_2.Rings.get i3).Heads.n y2.fst.Heads.n) (fun i4 => (cond (Nat.blt i3 x.m_2.Rings.n) ((x.m_2.Rings.get i3).Heads.get i4) (y2.fst.Heads.get i4)))) (cond (Nat.blt i3 x.m_2.Rings.n) (x.m_2.Rings.get i3).Closed y2.fst.Closed) (Sl.mk (cond (Nat.blt i3 x.m_2.Rings.n) (x.m_2.Rings.get i3).Slots.nil y2.fst.Slots.nil) (cond (Nat.blt i3 x.m_2.Rings.n) (x.m_2.Rings.get i3).Slots.n y2.fst.Slots.n) (fun i4 => (TApi_Slot.mk (cond (Nat.blt i3 x.m_2.Rings.n) ((x.m_2.Rings.get i3).Slots.get i4).Stamp (y2.fst.Slots.get i4).Stamp) (cond (Nat.blt i3 x.m_2.Rings.n) ((x.m_2.Rings.get i3).Slots.get i4).Value (y2.fst.Slots.get i4).Value) (cond (Nat.blt i3 x.m_2.Rings.n) ((x.m_2.Rings.get i3).Slots.get i4).Left (y2.fst.Slots.get i4).Left))))))) x.m_2.Now x.m_2.Reads x.m_2.Ended) y2.snd))
 )
 )
theorem sd_snap_Read_9 (D_snap_Read_7 : Dyn X_snap_Read_7 R_snap_Read) (x : X_snap_Read_9) : (tt_snap_Read_9 D_snap_Read_7 x).Sides :=
  (TT.s_call fun _ => (TT.s_need TT.s_jump))

noncomputable def D_snap_Read_9 (D_snap_Read_7 : Dyn X_snap_Read_7 R_snap_Read) : Dyn X_snap_Read_9 R_snap_Read := .of (tt_snap_Read_9 D_snap_Read_7)
theorem ok_snap_Read_9 (D_snap_Read_7 : Dyn X_snap_Read_7 R_snap_Read) (h_7 : LabOK J_snap_Read S_snap_Read_7 D_snap_Read_7) : LabOK J_snap_Read S_snap_Read_9 (D_snap_Read_9 D_snap_Read_7) :=
  lab_ok mixed_ok (labs_cons2 h_7 rfl (labs_cons2 ok_snap_Read_10 rfl labs_nil)) 4000 (fun x => by kernel_rfl) (sd_snap_Read_9 D_snap_Read_7)
noncomputable def tt_snap_Read_7 (D_snap_Read_7 : Dyn X_snap_Read_7 R_snap_Read) (x : X_snap_Read_7) : TT Tryz.prog R_snap_Read :=
 (.ite (ilt 0 x.n_6)
  (.ite (!x.m_10.bad)
   (.jump S_snap_Read_9 (D_snap_Read_9 D_snap_Read_7) (X_snap_Read_9.mk x.n_6 x.m_2 x.m_10))
   (.jump S_snap_Read_10 D_snap_Read_10 (X_snap_Read_10.mk x.m_2 x.m_10))
  )
  (.jump S_snap_Read_10 D_snap_Read_10 (X_snap_Read_10.mk x.m_2 x.m_10))
 )
theorem sd_snap_Read_7 (D_snap_Read_7 : Dyn X_snap_Read_7 R_snap_Read) (x : X_snap_Read_7) : (tt_snap_Read_7 D_snap_Read_7 x).Sides :=
  (TT.s_ite (TT.s_ite TT.s_jump TT.s_jump) TT.s_jump)

noncomputable def D_snap_Read_7 : Dyn X_snap_Read_7 R_snap_Read := Dyn.loop tt_snap_Read_7
theorem ok_snap_Read_7 : LabOK J_snap_Read S_snap_Read_7 D_snap_Read_7 :=
  loop_ok fun D_snap_Read_7 h_7 => lab_ok mixed_ok (labs_cons2 h_7 rfl (labs_cons2 ok_snap_Read_10 rfl (labs_cons2 (ok_snap_Read_9 D_snap_Read_7 h_7) rfl labs_nil))) 4000 (fun x => by kernel_rfl) (sd_snap_Read_7 D_snap_Read_7)
noncomputable def tt_snap_Read_6 (x : X_snap_Read_6) : TT Tryz.prog R_snap_Read :=
 (.call con_snap_reader_small (8, x.m_10) fun (y1 : R_snap_reader_small) =>
 (.jump S_snap_Read_7 D_snap_Read_7 (X_snap_Read_7.mk y1.fst x.m_2 y1.snd))
 )
theorem sd_snap_Read_6 (x : X_snap_Read_6) : (tt_snap_Read_6 x).Sides :=
  (TT.s_call fun _ => TT.s_jump)

noncomputable def D_snap_Read_6 : Dyn X_snap_Read_6 R_snap_Read := .of tt_snap_Read_6
theorem ok_snap_Read_6 : LabOK J_snap_Read S_snap_Read_6 D_snap_Read_6 :=
  lab_ok mixed_ok (labs_cons2 ok_snap_Read_10 rfl (labs_cons2 ok_snap_Read_7 rfl labs_nil)) 4000 (fun x => by kernel_rfl) sd_snap_Read_6
noncomputable def tt_snap_Read_5 (D_snap_Read_3 : Dyn X_snap_Read_3 R_snap_Read) (x : X_snap_Read_5) : TT Tryz.prog R_snap_Read :=
 (.call con_snap_reader_thread x.m_10 fun (y2 : R_snap_reader_thread) =>
 (.need (true && (room (x.m_2.Threads.n + 1) 128)) <|
 (.jump S_snap_Read_3 D_snap_Read_3 (X_snap_Read_3.mk (IntKind.i64.wrap (x.n_5 - 1)) (TApi_State.mk (Sl.mk (cond (Nat.beq 1 0) x.m_2.Threads.nil false) (x.m_2.Threads.n + 1) (fun i3 => (TApi_ThreadState.mk (cond (Nat.blt i3 x.m_2.Threads.n) (x.m_2.Threads.get i3).At y2.fst.At) (cond (Nat.blt i3 x.m_2.Threads.n) (x.m_2.Threads.get i3).Phase y2.fst.Phase) (cond (Nat.blt i3 x.m_2.Threads.n) (x.m_2.Threads.get i3).Ring y2.fst.Ring) (cond (Nat.blt i3 x.m_2.Threads.n) (x.m_2.Threads.get i3).Status y2.fst.Status) (cond (Nat.blt i3 x.m_2.Threads.n) (x.m_2.Threads.get i3).Ticket y2.fst.Ticket) (fun i4 => (cond (Nat.blt i3 x.m_2.Threads.n) ((x.m_2.Threads.get i3).Regs i4) (y2.fst.Regs i4))) (Sl.mk (cond (Nat.blt i3 x.m_2.Threads.n) (x.m_2.Threads.get i3).Seen.nil y2.fst.Seen.nil) (cond (Nat.blt i3 x.m_2.Threads.n) (x.m_2.Threads.get i3).Seen.n y2.fst.Seen.n) (fun i4 => (cond (Nat.blt i3 x.m_2.Threads.n) ((x.m_2.Threads.get i3).Seen.get i4) (y2.fst.Seen.get i4))))))) x.m_2.Rings x.m_2.Now x.m_2.Reads x.m_2.Ended) y2.snd))
 )
 )
theorem sd_snap_Read_5 (D_snap_Read_3 : Dyn X_snap_Read_3 R_snap_Read) (x : X_snap_Read_5) : (tt_snap_Read_5 D_snap_Read_3 x).Sides :=
  (TT.s_call fun _ => (TT.s_need TT.s_jump))

noncomputable def D_snap_Read_5 (D_snap_Read_3 : Dyn X_snap_Read_3 R_snap_Read) : Dyn X_snap_Read_5 R_snap_Read := .of (tt_snap_Read_5 D_snap_Read_3)
theorem ok_snap_Read_5 (D_snap_Read_3 : Dyn X_snap_Read_3 R_snap_Read) (h_3 : LabOK J_snap_Read S_snap_Read_3 D_snap_Read_3) : LabOK J_snap_Read S_snap_Read_5 (D_snap_Read_5 D_snap_Read_3) :=
  lab_ok mixed_ok (labs_cons2 h_3 rfl (labs_cons2 ok_snap_Read_10 rfl (labs_cons2 ok_snap_Read_7 rfl (labs_cons2 ok_snap_Read_6 rfl labs_nil)))) 4000 (fun x => by kernel_rfl) (sd_snap_Read_5 D_snap_Read_3)
noncomputable def tt_snap_Read_3 (D_snap_Read_3 : Dyn X_snap_Read_3 R_snap_Read) (x : X_snap_Read_3) : TT Tryz.prog R_snap_Read :=
 (.ite (ilt 0 x.n_5)
  (.ite (!x.m_10.bad)
   (.jump S_snap_Read_5 (D_snap_Read_5 D_snap_Read_3) (X_snap_Read_5.mk x.n_5 x.m_2 x.m_10))
   (.jump S_snap_Read_6 D_snap_Read_6 (X_snap_Read_6.mk x.m_2 x.m_10))
  )
  (.jump S_snap_Read_6 D_snap_Read_6 (X_snap_Read_6.mk x.m_2 x.m_10))
 )
theorem sd_snap_Read_3 (D_snap_Read_3 : Dyn X_snap_Read_3 R_snap_Read) (x : X_snap_Read_3) : (tt_snap_Read_3 D_snap_Read_3 x).Sides :=
  (TT.s_ite (TT.s_ite TT.s_jump TT.s_jump) TT.s_jump)

noncomputable def D_snap_Read_3 : Dyn X_snap_Read_3 R_snap_Read := Dyn.loop tt_snap_Read_3
theorem ok_snap_Read_3 : LabOK J_snap_Read S_snap_Read_3 D_snap_Read_3 :=
  loop_ok fun D_snap_Read_3 h_3 => lab_ok mixed_ok (labs_cons2 h_3 rfl (labs_cons2 ok_snap_Read_10 rfl (labs_cons2 ok_snap_Read_7 rfl (labs_cons2 ok_snap_Read_6 rfl (labs_cons2 (ok_snap_Read_5 D_snap_Read_3 h_3) rfl labs_nil))))) 4000 (fun x => by kernel_rfl) (sd_snap_Read_3 D_snap_Read_3)
noncomputable def tt_snap_Read (x : X_snap_Read) : TT Tryz.prog R_snap_Read :=
 (.call con_octet_New x fun (y1 : R_octet_New) =>
 (.call con_snap_reader_small (8, (TSnap_reader.mk y1 false)) fun (y2 : R_snap_reader_small) =>
 (.jump S_snap_Read_3 D_snap_Read_3 (X_snap_Read_3.mk y2.fst (TApi_State.mk (Sl.mk true 0 (fun _i3 => (TApi_ThreadState.mk 0 0 0 0 0 (fun _i4 => (0 : Int)) (Sl.mk true 0 (fun _i4 => (0 : Int)))))) (Sl.mk true 0 (fun _i3 => (TApi_RingState.mk 0 (Sl.mk true 0 (fun _i4 => (0 : Int))) false (Sl.mk true 0 (fun _i4 => (TApi_Slot.mk 0 0 0)))))) 0 0 false) y2.snd))
 )
 )
theorem sd_snap_Read (x : X_snap_Read) : (tt_snap_Read x).Sides :=
  (TT.s_call fun _ => (TT.s_call fun _ => TT.s_jump))

noncomputable def D_snap_Read : Dyn X_snap_Read R_snap_Read := .of tt_snap_Read
noncomputable def con_snap_Read : Con Tryz.prog :=
  mkCon 14 J_snap_Read S_snap_Read D_snap_Read D_snap_Read (fun _ _ h => h) 1 0 [.any] (by kernel_rfl) (by kernel_rfl) (by kernel_rfl) (lab_ok mixed_ok (labs_cons2 ok_snap_Read_10 rfl (labs_cons2 ok_snap_Read_7 rfl (labs_cons2 ok_snap_Read_6 rfl (labs_cons2 ok_snap_Read_3 rfl labs_nil)))) 4000 (fun x => by kernel_rfl) sd_snap_Read) rfl rfl (fun _ => rfl) (by kernel_rfl) rfl (fun _ => rfl) (fun x y _ => by kernel_rfl)

def d_TApi_Ring (v : V) : TApi_Ring :=
  ⟨dI (fd v 0), dI (fd v 1), dI (fd v 2)⟩

def e_TApi_Ring (x : TApi_Ring) : V :=
  V.cons ((V.int .i64) x.Kind) (V.cons ((V.int .i64) x.Cap) (V.cons ((V.int .i64) x.Readers) (V.unit)))

theorem nu_e_TApi_Ring (x : TApi_Ring) : (e_TApi_Ring x).NoU := ⟨trivial, trivial, trivial, trivial⟩

/-! check.ring (check_ring) -/
abbrev X_check_ring : Type := TApi_Ring
abbrev R_check_ring : Type := Bool
noncomputable def J_check_ring : Job Tryz.prog :=
  job Tryz.prog Tryz.f147 34 [(1, 3)] [] [] [] [.any] [] [] R_check_ring [] fun y => [V.bool y]
noncomputable def S_check_ring : LabS :=
  lab0 Tryz.f147 1 0 X_check_ring (fun x => [e_TApi_Ring x]) fun l => (d_TApi_Ring (at_ l 0))
structure X_check_ring_3 where
  r_1 : TApi_Ring
noncomputable def S_check_ring_3 : LabS :=
  labAt Tryz.f147 3 [(1, .any)] [] [] X_check_ring_3 (fun x => [(eVp e_TApi_Ring) x.r_1]) fun l => ⟨(dVp d_TApi_Ring) (at_ l 0)⟩
noncomputable def tt_check_ring_3 (x : X_check_ring_3) : TT Tryz.prog R_check_ring :=
 (.ite (ieq x.r_1.Kind 1)
  (.ite (ieq x.r_1.Readers 1)
   (.ret true)
   (.ite (ieq x.r_1.Kind 2)
    (.ite (ile 1 x.r_1.Readers)
     (.ret (ile x.r_1.Readers 8))
     (.ret false)
    )
    (.ret false)
   )
  )
  (.ite (ieq x.r_1.Kind 2)
   (.ite (ile 1 x.r_1.Readers)
    (.ret (ile x.r_1.Readers 8))
    (.ret false)
   )
   (.ret false)
  )
 )
theorem sd_check_ring_3 (x : X_check_ring_3) : (tt_check_ring_3 x).Sides :=
  (TT.s_ite (TT.s_ite TT.s_ret (TT.s_ite (TT.s_ite TT.s_ret TT.s_ret) TT.s_ret)) (TT.s_ite (TT.s_ite TT.s_ret TT.s_ret) TT.s_ret))

noncomputable def D_check_ring_3 : Dyn X_check_ring_3 R_check_ring := .of tt_check_ring_3
theorem ok_check_ring_3 : LabOK J_check_ring S_check_ring_3 D_check_ring_3 :=
  lab_ok mixed_ok labs_nil 4000 (fun x => by kernel_rfl) sd_check_ring_3
noncomputable def tt_check_ring (x : X_check_ring) : TT Tryz.prog R_check_ring :=
 (.ite (ilt x.Cap 1)
  (.ret false)
  (.ite (ilt 64 x.Cap)
   (.ret false)
   (.jump S_check_ring_3 D_check_ring_3 (X_check_ring_3.mk x))
  )
 )
theorem sd_check_ring (x : X_check_ring) : (tt_check_ring x).Sides :=
  (TT.s_ite TT.s_ret (TT.s_ite TT.s_ret TT.s_jump))

noncomputable def D_check_ring : Dyn X_check_ring R_check_ring := .of tt_check_ring
noncomputable def con_check_ring : Con Tryz.prog :=
  mkCon 147 J_check_ring S_check_ring D_check_ring D_check_ring (fun _ _ h => h) 1 0 [.any] (by kernel_rfl) (by kernel_rfl) (by kernel_rfl) (lab_ok mixed_ok (labs_cons2 ok_check_ring_3 rfl labs_nil) 4000 (fun x => by kernel_rfl) sd_check_ring) rfl rfl (fun _ => rfl) (by kernel_rfl) rfl (fun _ => rfl) (fun x y _ => by kernel_rfl)

/-! code.Plain (code_Plain) -/
abbrev X_code_Plain : Type := Int
abbrev R_code_Plain : Type := Bool
noncomputable def J_code_Plain : Job Tryz.prog :=
  job Tryz.prog Tryz.f189 9 [] [] [] [] [.any] [] [] R_code_Plain [] fun y => [V.bool y]
noncomputable def S_code_Plain : LabS :=
  lab0 Tryz.f189 1 0 X_code_Plain (fun x => [(V.int .i64) x]) fun l => (dI (at_ l 0))
noncomputable def tt_code_Plain (x : X_code_Plain) : TT Tryz.prog R_code_Plain :=
 (.ite (ile 1 x)
  (.ret (ile x 17))
  (.ret false)
 )
theorem sd_code_Plain (x : X_code_Plain) : (tt_code_Plain x).Sides :=
  (TT.s_ite TT.s_ret TT.s_ret)

noncomputable def D_code_Plain : Dyn X_code_Plain R_code_Plain := .of tt_code_Plain
noncomputable def con_code_Plain : Con Tryz.prog :=
  mkCon 189 J_code_Plain S_code_Plain D_code_Plain D_code_Plain (fun _ _ h => h) 1 0 [.any] (by kernel_rfl) (by kernel_rfl) (by kernel_rfl) (lab_ok mixed_ok labs_nil 4000 (fun x => by kernel_rfl) sd_code_Plain) rfl rfl (fun _ => rfl) (by kernel_rfl) rfl (fun _ => rfl) (fun x y _ => by kernel_rfl)

structure TCode_limits where
  a : Int
  b : Int
  c : Int
  d : Int
  k : Int

def d_TCode_limits (v : V) : TCode_limits :=
  ⟨dI (fd v 0), dI (fd v 1), dI (fd v 2), dI (fd v 3), dI (fd v 4)⟩

def e_TCode_limits (x : TCode_limits) : V :=
  V.cons ((V.int .i64) x.a) (V.cons ((V.int .i64) x.b) (V.cons ((V.int .i64) x.c) (V.cons ((V.int .i64) x.d) (V.cons ((V.int .u64) x.k) (V.unit)))))

theorem nu_e_TCode_limits (x : TCode_limits) : (e_TCode_limits x).NoU := ⟨trivial, trivial, trivial, trivial, trivial, trivial⟩

/-! code.limit (code_limit) -/
abbrev X_code_limit : Type := Int
abbrev R_code_limit : Type := TCode_limits × Bool
noncomputable def J_code_limit : Job Tryz.prog :=
  job Tryz.prog Tryz.f198 39 [] [] [] [] [.any, .any] [] [con_code_Plain] R_code_limit [] fun y => [V.tup (V.cons (e_TCode_limits y.1) (V.cons (V.bool y.2) (V.unit)))]
noncomputable def S_code_limit : LabS :=
  lab0 Tryz.f198 1 0 X_code_limit (fun x => [(V.int .i64) x]) fun l => (dI (at_ l 0))
structure X_code_limit_24 where
  op_0 : Int
  m_2 : TCode_limits
noncomputable def S_code_limit_24 : LabS :=
  labAt Tryz.f198 24 [(0, .any), (2, .any)] [] [(.loc 2 0, .any)] X_code_limit_24 (fun x => [(V.int .i64) x.op_0, (V.ptr (.loc 2 0) []), e_TCode_limits x.m_2]) fun l => ⟨dI (at_ l 0), d_TCode_limits (at_ l 2)⟩
noncomputable def tt_code_limit_24 (x : X_code_limit_24) : TT Tryz.prog R_code_limit :=
 (.call con_code_Plain x.op_0 fun (y1 : R_code_Plain) =>
 (.ret ((TCode_limits.mk 7 7 7 0 0), y1))
 )
theorem sd_code_limit_24 (x : X_code_limit_24) : (tt_code_limit_24 x).Sides :=
  (TT.s_call fun _ => TT.s_ret)

noncomputable def D_code_limit_24 : Dyn X_code_limit_24 R_code_limit := .of tt_code_limit_24
theorem ok_code_limit_24 : LabOK J_code_limit S_code_limit_24 D_code_limit_24 :=
  lab_ok mixed_ok labs_nil 4000 (fun x => by kernel_rfl) sd_code_limit_24
noncomputable def tt_code_limit (x : X_code_limit) : TT Tryz.prog R_code_limit :=
 (.ite (ieq x 1)
  (.ret ((TCode_limits.mk 7 0 0 0 18446744073709551615), true))
  (.ite (ieq x 2)
   (.ret ((TCode_limits.mk 7 7 0 0 0), true))
   (.ite (ieq x 23)
    (.ret ((TCode_limits.mk 7 7 0 0 0), true))
    (.ite (ieq x 15)
     (.ret ((TCode_limits.mk 0 0 0 0 256), true))
     (.ite (ieq x 16)
      (.ret ((TCode_limits.mk 7 0 0 0 256), true))
      (.ite (ieq x 17)
       (.ret ((TCode_limits.mk 7 0 0 0 256), true))
       (.ite (ieq x 18)
        (.ret ((TCode_limits.mk 7 7 7 2 0), true))
        (.ite (ieq x 19)
         (.ret ((TCode_limits.mk 7 7 7 2 7), true))
         (.ite (ieq x 20)
          (.ret ((TCode_limits.mk 0 0 7 0 0), true))
          (.ite (ieq x 21)
           (.ret ((TCode_limits.mk 7 0 0 0 0), true))
           (.ite (ieq x 22)
            (.ret ((TCode_limits.mk 7 0 0 0 0), true))
            (.ite (ieq x 24)
             (.ret ((TCode_limits.mk 7 0 0 0 0), true))
             (.ite (ieq x 25)
              (.ret ((TCode_limits.mk 0 0 0 0 0), true))
              (.jump S_code_limit_24 D_code_limit_24 (X_code_limit_24.mk x (TCode_limits.mk 0 0 0 0 0)))
             )
            )
           )
          )
         )
        )
       )
      )
     )
    )
   )
  )
 )
theorem sd_code_limit (x : X_code_limit) : (tt_code_limit x).Sides :=
  (TT.s_ite TT.s_ret (TT.s_ite TT.s_ret (TT.s_ite TT.s_ret (TT.s_ite TT.s_ret (TT.s_ite TT.s_ret (TT.s_ite TT.s_ret (TT.s_ite TT.s_ret (TT.s_ite TT.s_ret (TT.s_ite TT.s_ret (TT.s_ite TT.s_ret (TT.s_ite TT.s_ret (TT.s_ite TT.s_ret (TT.s_ite TT.s_ret TT.s_jump)))))))))))))

noncomputable def D_code_limit : Dyn X_code_limit R_code_limit := .of tt_code_limit
noncomputable def con_code_limit : Con Tryz.prog :=
  mkCon 198 J_code_limit S_code_limit D_code_limit D_code_limit (fun _ _ h => h) 1 0 [.any] (by kernel_rfl) (by kernel_rfl) (by kernel_rfl) (lab_ok mixed_ok (labs_cons2 ok_code_limit_24 rfl labs_nil) 4000 (fun x => by kernel_rfl) sd_code_limit) rfl rfl (fun _ => rfl) (by kernel_rfl) rfl (fun _ => rfl) (fun x y _ => by kernel_rfl)

def d_TApi_Instr (v : V) : TApi_Instr :=
  ⟨dI (fd v 0), dI (fd v 1), dI (fd v 2), dI (fd v 3), dI (fd v 4), dI (fd v 5)⟩

def e_TApi_Instr (x : TApi_Instr) : V :=
  V.cons ((V.int .i64) x.Op) (V.cons ((V.int .i64) x.A) (V.cons ((V.int .i64) x.B) (V.cons ((V.int .i64) x.C) (V.cons ((V.int .i64) x.D) (V.cons ((V.int .u64) x.K) (V.unit))))))

theorem nu_e_TApi_Instr (x : TApi_Instr) : (e_TApi_Instr x).NoU := ⟨trivial, trivial, trivial, trivial, trivial, trivial, trivial⟩

/-! code.Right (code_Right) -/
abbrev X_code_Right : Type := TApi_Instr
abbrev R_code_Right : Type := Bool
noncomputable def J_code_Right : Job Tryz.prog :=
  job Tryz.prog Tryz.f173 67 [(1, 3), (5, 1)] [] [] [] [.any] [] [con_code_limit] R_code_Right [] fun y => [V.bool y]
noncomputable def S_code_Right : LabS :=
  lab0 Tryz.f173 1 0 X_code_Right (fun x => [e_TApi_Instr x]) fun l => (d_TApi_Instr (at_ l 0))
noncomputable def tt_code_Right (x : X_code_Right) : TT Tryz.prog R_code_Right :=
 (.call con_code_limit x.Op fun (y1 : R_code_limit) =>
 (.ite y1.snd
  (.ite (ile 0 x.A)
   (.ite (ile x.A y1.fst.a)
    (.ite (ile 0 x.B)
     (.ite (ile x.B y1.fst.b)
      (.ite (ile 0 x.C)
       (.ite (ile x.C y1.fst.c)
        (.ite (ile 0 x.D)
         (.ite (ile x.D y1.fst.d)
          (.ret (ile x.K y1.fst.k))
          (.ret false)
         )
         (.ret false)
        )
        (.ret false)
       )
       (.ret false)
      )
      (.ret false)
     )
     (.ret false)
    )
    (.ret false)
   )
   (.ret false)
  )
  (.ret false)
 )
 )
theorem sd_code_Right (x : X_code_Right) : (tt_code_Right x).Sides :=
  (TT.s_call fun _ => (TT.s_ite (TT.s_ite (TT.s_ite (TT.s_ite (TT.s_ite (TT.s_ite (TT.s_ite (TT.s_ite (TT.s_ite TT.s_ret TT.s_ret) TT.s_ret) TT.s_ret) TT.s_ret) TT.s_ret) TT.s_ret) TT.s_ret) TT.s_ret) TT.s_ret))

noncomputable def D_code_Right : Dyn X_code_Right R_code_Right := .of tt_code_Right
noncomputable def con_code_Right : Con Tryz.prog :=
  mkCon 173 J_code_Right S_code_Right D_code_Right D_code_Right (fun _ _ h => h) 1 0 [.any] (by kernel_rfl) (by kernel_rfl) (by kernel_rfl) (lab_ok mixed_ok labs_nil 4000 (fun x => by kernel_rfl) sd_code_Right) rfl rfl (fun _ => rfl) (by kernel_rfl) rfl (fun _ => rfl) (fun x y _ => by kernel_rfl)

/-! code.Jumps (code_Jumps) -/
abbrev X_code_Jumps : Type := TApi_Instr
abbrev R_code_Jumps : Type := Bool
noncomputable def J_code_Jumps : Job Tryz.prog :=
  job Tryz.prog Tryz.f174 11 [(1, 3)] [] [] [] [.any] [] [] R_code_Jumps [] fun y => [V.bool y]
noncomputable def S_code_Jumps : LabS :=
  lab0 Tryz.f174 1 0 X_code_Jumps (fun x => [e_TApi_Instr x]) fun l => (d_TApi_Instr (at_ l 0))
noncomputable def tt_code_Jumps (x : X_code_Jumps) : TT Tryz.prog R_code_Jumps :=
 (.ite (ile 15 x.Op)
  (.ret (ile x.Op 17))
  (.ret false)
 )
theorem sd_code_Jumps (x : X_code_Jumps) : (tt_code_Jumps x).Sides :=
  (TT.s_ite TT.s_ret TT.s_ret)

noncomputable def D_code_Jumps : Dyn X_code_Jumps R_code_Jumps := .of tt_code_Jumps
noncomputable def con_code_Jumps : Con Tryz.prog :=
  mkCon 174 J_code_Jumps S_code_Jumps D_code_Jumps D_code_Jumps (fun _ _ h => h) 1 0 [.any] (by kernel_rfl) (by kernel_rfl) (by kernel_rfl) (lab_ok mixed_ok labs_nil 4000 (fun x => by kernel_rfl) sd_code_Jumps) rfl rfl (fun _ => rfl) (by kernel_rfl) rfl (fun _ => rfl) (fun x y _ => by kernel_rfl)

/-! check.rings (check_rings) -/
abbrev X_check_rings : Type := Int
abbrev R_check_rings : Type := Bool
noncomputable def J_check_rings : Job Tryz.prog :=
  job Tryz.prog Tryz.f181 13 [] [] [] [] [.any] [] [] R_check_rings [] fun y => [V.bool y]
noncomputable def S_check_rings : LabS :=
  lab0 Tryz.f181 1 0 X_check_rings (fun x => [(V.int .i64) x]) fun l => (dI (at_ l 0))
noncomputable def tt_check_rings (x : X_check_rings) : TT Tryz.prog R_check_rings :=
 (.ite (ieq x 18)
  (.ret true)
  (.ite (ieq x 19)
   (.ret true)
   (.ret (ieq x 20))
  )
 )
theorem sd_check_rings (x : X_check_rings) : (tt_check_rings x).Sides :=
  (TT.s_ite TT.s_ret (TT.s_ite TT.s_ret TT.s_ret))

noncomputable def D_check_rings : Dyn X_check_rings R_check_rings := .of tt_check_rings
noncomputable def con_check_rings : Con Tryz.prog :=
  mkCon 181 J_check_rings S_check_rings D_check_rings D_check_rings (fun _ _ h => h) 1 0 [.any] (by kernel_rfl) (by kernel_rfl) (by kernel_rfl) (lab_ok mixed_ok labs_nil 4000 (fun x => by kernel_rfl) sd_check_rings) rfl rfl (fun _ => rfl) (by kernel_rfl) rfl (fun _ => rfl) (fun x y _ => by kernel_rfl)

abbrev Dsl_TApi_Ring : Type := (Sl TApi_Ring)
def esl_TApi_Ring : Dsl_TApi_Ring → V := (eSl none 3 e_TApi_Ring)
def dsl_TApi_Ring : V → Dsl_TApi_Ring := (dSl d_TApi_Ring)
def hsl_TApi_Ring : Sh := (.sl none 3 (e_TApi_Ring (d_TApi_Ring .undef)))

abbrev Dsl_TApi_Instr : Type := (Sl TApi_Instr)
def esl_TApi_Instr : Dsl_TApi_Instr → V := (eSl none 6 e_TApi_Instr)
def dsl_TApi_Instr : V → Dsl_TApi_Instr := (dSl d_TApi_Instr)
def hsl_TApi_Instr : Sh := (.sl none 6 (e_TApi_Instr (d_TApi_Instr .undef)))

abbrev Dsl_sl_TApi_Instr : Type := (Sl (Sl TApi_Instr))
def esl_sl_TApi_Instr : Dsl_sl_TApi_Instr → V := (eSl none 1 esl_TApi_Instr)
def dsl_sl_TApi_Instr : V → Dsl_sl_TApi_Instr := (dSl dsl_TApi_Instr)
def hsl_sl_TApi_Instr : Sh := (.sl none 1 (esl_TApi_Instr (dsl_TApi_Instr .undef)))

structure TApi_Program where
  Rings : (Sl TApi_Ring)
  Threads : (Sl (Sl TApi_Instr))

def d_TApi_Program (v : V) : TApi_Program :=
  ⟨dsl_TApi_Ring (fd v 0), dsl_sl_TApi_Instr (fd v 1)⟩

def e_TApi_Program (x : TApi_Program) : V :=
  V.cons (esl_TApi_Ring x.Rings) (V.cons (esl_sl_TApi_Instr x.Threads) (V.unit))

theorem nu_e_TApi_Program (x : TApi_Program) : (e_TApi_Program x).NoU := ⟨trivial, trivial, trivial⟩

def sh_TApi_Program : Sh := (.cons hsl_TApi_Ring (.cons hsl_sl_TApi_Instr .any))

/-! check.instr (check_instr) -/
abbrev X_check_instr : Type := TApi_Program × TApi_Instr × Int
abbrev R_check_instr : Type := Int
noncomputable def J_check_instr : Job Tryz.prog :=
  job Tryz.prog Tryz.f148 50 [(3, 3), (4, 3)] [] [] [] [.any] [] [con_check_rings, con_code_Jumps, con_code_Right] R_check_instr [] fun y => [(V.int .i64) y]
noncomputable def S_check_instr : LabS :=
  lab0 Tryz.f148 3 0 X_check_instr (fun x => [e_TApi_Program x.1, e_TApi_Instr x.2.1, (V.int .i64) x.2.2]) fun l => (d_TApi_Program (at_ l 0), d_TApi_Instr (at_ l 1), dI (at_ l 2))
noncomputable def tt_check_instr (x : X_check_instr) : TT Tryz.prog R_check_instr :=
 (.call con_code_Right x.snd.fst fun (y1 : R_code_Right) =>
 (.ite (!y1)
  (.ret 6)
  (.call con_code_Jumps x.snd.fst fun (y2 : R_code_Jumps) =>
  (.ite y2
   (.ite (ilt (IntKind.u64.wrap x.snd.snd) x.snd.fst.K)
    (.ret 5)
    (.call con_check_rings x.snd.fst.Op fun (y3 : R_check_rings) =>
    (.ite y3
     (.ite (ile ((x.fst.Rings.n : Nat) : Int) x.snd.fst.C)
      (.ret 7)
      (.ite (ieq x.snd.fst.Op 19)
       (.need (inb x.snd.fst.C x.fst.Rings.n) <|
       (.ite (ile (IntKind.u64.wrap (x.fst.Rings.get (Int.toNat x.snd.fst.C)).Readers) x.snd.fst.K)
        (.ret 7)
        (.ret 0)
       )
       )
       (.ret 0)
      )
     )
     (.ite (ieq x.snd.fst.Op 19)
      (.need (inb x.snd.fst.C x.fst.Rings.n) <|
      (.ite (ile (IntKind.u64.wrap (x.fst.Rings.get (Int.toNat x.snd.fst.C)).Readers) x.snd.fst.K)
       (.ret 7)
       (.ret 0)
      )
      )
      (.ret 0)
     )
    )
    )
   )
   (.call con_check_rings x.snd.fst.Op fun (y3 : R_check_rings) =>
   (.ite y3
    (.ite (ile ((x.fst.Rings.n : Nat) : Int) x.snd.fst.C)
     (.ret 7)
     (.ite (ieq x.snd.fst.Op 19)
      (.need (inb x.snd.fst.C x.fst.Rings.n) <|
      (.ite (ile (IntKind.u64.wrap (x.fst.Rings.get (Int.toNat x.snd.fst.C)).Readers) x.snd.fst.K)
       (.ret 7)
       (.ret 0)
      )
      )
      (.ret 0)
     )
    )
    (.ite (ieq x.snd.fst.Op 19)
     (.need (inb x.snd.fst.C x.fst.Rings.n) <|
     (.ite (ile (IntKind.u64.wrap (x.fst.Rings.get (Int.toNat x.snd.fst.C)).Readers) x.snd.fst.K)
      (.ret 7)
      (.ret 0)
     )
     )
     (.ret 0)
    )
   )
   )
  )
  )
 )
 )
theorem sd_check_instr (x : X_check_instr) : (tt_check_instr x).Sides :=
  (TT.s_call fun _ => (TT.s_ite TT.s_ret (TT.s_call fun _ => (TT.s_ite (TT.s_ite TT.s_ret (TT.s_call fun _ => (TT.s_ite (TT.s_ite TT.s_ret (TT.s_ite (TT.s_need (TT.s_ite TT.s_ret TT.s_ret)) TT.s_ret)) (TT.s_ite (TT.s_need (TT.s_ite TT.s_ret TT.s_ret)) TT.s_ret)))) (TT.s_call fun _ => (TT.s_ite (TT.s_ite TT.s_ret (TT.s_ite (TT.s_need (TT.s_ite TT.s_ret TT.s_ret)) TT.s_ret)) (TT.s_ite (TT.s_need (TT.s_ite TT.s_ret TT.s_ret)) TT.s_ret)))))))

noncomputable def D_check_instr : Dyn X_check_instr R_check_instr := .of tt_check_instr
noncomputable def con_check_instr : Con Tryz.prog :=
  mkCon 148 J_check_instr S_check_instr D_check_instr D_check_instr (fun _ _ h => h) 3 0 [sh_TApi_Program, .any, .any] (by kernel_rfl) (by kernel_rfl) (by kernel_rfl) (lab_ok mixed_ok labs_nil 4000 (fun x => by kernel_rfl) sd_check_instr) rfl rfl (fun _ => rfl) (by kernel_rfl) rfl (fun _ => rfl) (fun x y _ => by kernel_rfl)

/-! check.Check (check_Check) -/
abbrev X_check_Check : Type := TApi_Program
abbrev R_check_Check : Type := Int × Int × Int
noncomputable def J_check_Check : Job Tryz.prog :=
  job Tryz.prog Tryz.f99 72 [(1, 3)] [] [] [] [.any, .any, .any] [] [con_check_instr, con_check_ring] R_check_Check [] fun y => [V.tup (V.cons ((V.int .i64) y.1) (V.cons ((V.int .i64) y.2.1) (V.cons ((V.int .i64) y.2.2) (V.unit))))]
noncomputable def S_check_Check : LabS :=
  lab0 Tryz.f99 1 0 X_check_Check (fun x => [e_TApi_Program x]) fun l => (d_TApi_Program (at_ l 0))
structure X_check_Check_4 where
  p_1 : TApi_Program
noncomputable def S_check_Check_4 : LabS :=
  labAt Tryz.f99 4 [(1, .any)] [] [] X_check_Check_4 (fun x => [(eVp e_TApi_Program) x.p_1]) fun l => ⟨(dVp d_TApi_Program) (at_ l 0)⟩
structure X_check_Check_5 where
  p_1 : TApi_Program
  q_29 : (Sl TApi_Ring)
  q_30 : Int
  q_31 : Int
noncomputable def S_check_Check_5 : LabS :=
  labAt Tryz.f99 5 [(1, .any), (29, hsl_TApi_Ring), (30, .any), (31, .any)] [] [] X_check_Check_5 (fun x => [(eVp e_TApi_Program) x.p_1, esl_TApi_Ring x.q_29, (V.int .i64) x.q_30, (V.int .i64) x.q_31]) fun l => ⟨(dVp d_TApi_Program) (at_ l 0), dsl_TApi_Ring (at_ l 1), dI (at_ l 2), dI (at_ l 3)⟩
structure X_check_Check_10 where
  p_1 : TApi_Program
noncomputable def S_check_Check_10 : LabS :=
  labAt Tryz.f99 10 [(1, .any)] [] [] X_check_Check_10 (fun x => [(eVp e_TApi_Program) x.p_1]) fun l => ⟨(dVp d_TApi_Program) (at_ l 0)⟩
structure X_check_Check_11 where
  p_1 : TApi_Program
  q_42 : (Sl (Sl TApi_Instr))
  q_43 : Int
  q_44 : Int
noncomputable def S_check_Check_11 : LabS :=
  labAt Tryz.f99 11 [(1, .any), (42, hsl_sl_TApi_Instr), (43, .any), (44, .any)] [] [] X_check_Check_11 (fun x => [(eVp e_TApi_Program) x.p_1, esl_sl_TApi_Instr x.q_42, (V.int .i64) x.q_43, (V.int .i64) x.q_44]) fun l => ⟨(dVp d_TApi_Program) (at_ l 0), dsl_sl_TApi_Instr (at_ l 1), dI (at_ l 2), dI (at_ l 3)⟩
structure X_check_Check_16 where
  p_1 : TApi_Program
  t_8 : Int
  l_9 : (Sl TApi_Instr)
  q_42 : (Sl (Sl TApi_Instr))
  q_43 : Int
  q_44 : Int
  q_53 : (Sl TApi_Instr)
  q_54 : Int
  q_55 : Int
noncomputable def S_check_Check_16 : LabS :=
  labAt Tryz.f99 16 [(1, .any), (8, .any), (9, hsl_TApi_Instr), (42, hsl_sl_TApi_Instr), (43, .any), (44, .any), (53, hsl_TApi_Instr), (54, .any), (55, .any)] [] [] X_check_Check_16 (fun x => [(eVp e_TApi_Program) x.p_1, (V.int .i64) x.t_8, esl_TApi_Instr x.l_9, esl_sl_TApi_Instr x.q_42, (V.int .i64) x.q_43, (V.int .i64) x.q_44, esl_TApi_Instr x.q_53, (V.int .i64) x.q_54, (V.int .i64) x.q_55]) fun l => ⟨(dVp d_TApi_Program) (at_ l 0), dI (at_ l 1), dsl_TApi_Instr (at_ l 2), dsl_sl_TApi_Instr (at_ l 3), dI (at_ l 4), dI (at_ l 5), dsl_TApi_Instr (at_ l 6), dI (at_ l 7), dI (at_ l 8)⟩
structure X_check_Check_22 where
  p_1 : TApi_Program
  q_42 : (Sl (Sl TApi_Instr))
  q_43 : Int
  q_44 : Int
noncomputable def S_check_Check_22 : LabS :=
  labAt Tryz.f99 22 [(1, .any), (42, hsl_sl_TApi_Instr), (43, .any), (44, .any)] [] [] X_check_Check_22 (fun x => [(eVp e_TApi_Program) x.p_1, esl_sl_TApi_Instr x.q_42, (V.int .i64) x.q_43, (V.int .i64) x.q_44]) fun l => ⟨(dVp d_TApi_Program) (at_ l 0), dsl_sl_TApi_Instr (at_ l 1), dI (at_ l 2), dI (at_ l 3)⟩
noncomputable def tt_check_Check_22 (D_check_Check_11 : Dyn X_check_Check_11 R_check_Check) (x : X_check_Check_22) : TT Tryz.prog R_check_Check :=
 (.jump S_check_Check_11 D_check_Check_11 (X_check_Check_11.mk x.p_1 x.q_42 x.q_43 (IntKind.i64.wrap (x.q_44 + 1))))
theorem sd_check_Check_22 (D_check_Check_11 : Dyn X_check_Check_11 R_check_Check) (x : X_check_Check_22) : (tt_check_Check_22 D_check_Check_11 x).Sides :=
  TT.s_jump

noncomputable def D_check_Check_22 (D_check_Check_11 : Dyn X_check_Check_11 R_check_Check) : Dyn X_check_Check_22 R_check_Check := .of (tt_check_Check_22 D_check_Check_11)
theorem ok_check_Check_22 (D_check_Check_11 : Dyn X_check_Check_11 R_check_Check) (h_11 : LabOK J_check_Check S_check_Check_11 D_check_Check_11) : LabOK J_check_Check S_check_Check_22 (D_check_Check_22 D_check_Check_11) :=
  lab_ok mixed_ok (labs_cons2 h_11 rfl labs_nil) 4000 (fun x => by kernel_rfl) (sd_check_Check_22 D_check_Check_11)
noncomputable def tt_check_Check_16 (D_check_Check_11 : Dyn X_check_Check_11 R_check_Check) (D_check_Check_16 : Dyn X_check_Check_16 R_check_Check) (x : X_check_Check_16) : TT Tryz.prog R_check_Check :=
 (.ite (ilt x.q_55 x.q_54)
  (.need (inb x.q_55 x.q_53.n) <|
  (.call con_check_instr (x.p_1, ((x.q_53.get (Int.toNat x.q_55)), ((x.l_9.n : Nat) : Int))) fun (y3 : R_check_instr) =>
  (.ite (!(ieq y3 0))
   (.ret (x.t_8, (x.q_55, y3)))
   (.jump S_check_Check_16 D_check_Check_16 (X_check_Check_16.mk x.p_1 x.t_8 x.l_9 x.q_42 x.q_43 x.q_44 x.q_53 x.q_54 (IntKind.i64.wrap (x.q_55 + 1))))
  )
  )
  )
  (.jump S_check_Check_22 (D_check_Check_22 D_check_Check_11) (X_check_Check_22.mk x.p_1 x.q_42 x.q_43 x.q_44))
 )
theorem sd_check_Check_16 (D_check_Check_11 : Dyn X_check_Check_11 R_check_Check) (D_check_Check_16 : Dyn X_check_Check_16 R_check_Check) (x : X_check_Check_16) : (tt_check_Check_16 D_check_Check_11 D_check_Check_16 x).Sides :=
  (TT.s_ite (TT.s_need (TT.s_call fun _ => (TT.s_ite TT.s_ret TT.s_jump))) TT.s_jump)

noncomputable def D_check_Check_16 (D_check_Check_11 : Dyn X_check_Check_11 R_check_Check) : Dyn X_check_Check_16 R_check_Check := Dyn.loop (tt_check_Check_16 D_check_Check_11)
theorem ok_check_Check_16 (D_check_Check_11 : Dyn X_check_Check_11 R_check_Check) (h_11 : LabOK J_check_Check S_check_Check_11 D_check_Check_11) : LabOK J_check_Check S_check_Check_16 (D_check_Check_16 D_check_Check_11) :=
  loop_ok fun D_check_Check_16 h_16 => lab_ok mixed_ok (labs_cons2 h_11 rfl (labs_cons2 h_16 rfl (labs_cons2 (ok_check_Check_22 D_check_Check_11 h_11) rfl labs_nil))) 4000 (fun x => by kernel_rfl) (sd_check_Check_16 D_check_Check_11 D_check_Check_16)
noncomputable def tt_check_Check_11 (D_check_Check_11 : Dyn X_check_Check_11 R_check_Check) (x : X_check_Check_11) : TT Tryz.prog R_check_Check :=
 (.ite (ilt x.q_44 x.q_43)
  (.need (inb x.q_44 x.q_42.n) <|
  (.ite (ilt 256 (((x.q_42.get (Int.toNat x.q_44)).n : Nat) : Int))
   (.ret (x.q_44, (256, 4)))
   (.jump S_check_Check_16 (D_check_Check_16 D_check_Check_11) (X_check_Check_16.mk x.p_1 x.q_44 (x.q_42.get (Int.toNat x.q_44)) x.q_42 x.q_43 x.q_44 (x.q_42.get (Int.toNat x.q_44)) (((x.q_42.get (Int.toNat x.q_44)).n : Nat) : Int) 0))
  )
  )
  (.ret (0, (0, 0)))
 )
theorem sd_check_Check_11 (D_check_Check_11 : Dyn X_check_Check_11 R_check_Check) (x : X_check_Check_11) : (tt_check_Check_11 D_check_Check_11 x).Sides :=
  (TT.s_ite (TT.s_need (TT.s_ite TT.s_ret TT.s_jump)) TT.s_ret)

noncomputable def D_check_Check_11 : Dyn X_check_Check_11 R_check_Check := Dyn.loop tt_check_Check_11
theorem ok_check_Check_11 : LabOK J_check_Check S_check_Check_11 D_check_Check_11 :=
  loop_ok fun D_check_Check_11 h_11 => lab_ok mixed_ok (labs_cons2 h_11 rfl (labs_cons2 (ok_check_Check_22 D_check_Check_11 h_11) rfl (labs_cons2 (ok_check_Check_16 D_check_Check_11 h_11) rfl labs_nil))) 4000 (fun x => by kernel_rfl) (sd_check_Check_11 D_check_Check_11)
noncomputable def tt_check_Check_10 (x : X_check_Check_10) : TT Tryz.prog R_check_Check :=
 (.jump S_check_Check_11 D_check_Check_11 (X_check_Check_11.mk x.p_1 x.p_1.Threads ((x.p_1.Threads.n : Nat) : Int) 0))
theorem sd_check_Check_10 (x : X_check_Check_10) : (tt_check_Check_10 x).Sides :=
  TT.s_jump

noncomputable def D_check_Check_10 : Dyn X_check_Check_10 R_check_Check := .of tt_check_Check_10
theorem ok_check_Check_10 : LabOK J_check_Check S_check_Check_10 D_check_Check_10 :=
  lab_ok mixed_ok (labs_cons2 ok_check_Check_11 rfl labs_nil) 4000 (fun x => by kernel_rfl) sd_check_Check_10
noncomputable def tt_check_Check_5 (D_check_Check_5 : Dyn X_check_Check_5 R_check_Check) (x : X_check_Check_5) : TT Tryz.prog R_check_Check :=
 (.ite (ilt x.q_31 x.q_30)
  (.need (inb x.q_31 x.q_29.n) <|
  (.call con_check_ring (x.q_29.get (Int.toNat x.q_31)) fun (y2 : R_check_ring) =>
  (.ite (!y2)
   (.ret ((-(1 : Int)), (x.q_31, 7)))
   (.jump S_check_Check_5 D_check_Check_5 (X_check_Check_5.mk x.p_1 x.q_29 x.q_30 (IntKind.i64.wrap (x.q_31 + 1))))
  )
  )
  )
  (.jump S_check_Check_10 D_check_Check_10 (X_check_Check_10.mk x.p_1))
 )
theorem sd_check_Check_5 (D_check_Check_5 : Dyn X_check_Check_5 R_check_Check) (x : X_check_Check_5) : (tt_check_Check_5 D_check_Check_5 x).Sides :=
  (TT.s_ite (TT.s_need (TT.s_call fun _ => (TT.s_ite TT.s_ret TT.s_jump))) TT.s_jump)

noncomputable def D_check_Check_5 : Dyn X_check_Check_5 R_check_Check := Dyn.loop tt_check_Check_5
theorem ok_check_Check_5 : LabOK J_check_Check S_check_Check_5 D_check_Check_5 :=
  loop_ok fun D_check_Check_5 h_5 => lab_ok mixed_ok (labs_cons2 h_5 rfl (labs_cons2 ok_check_Check_11 rfl (labs_cons2 ok_check_Check_10 rfl labs_nil))) 4000 (fun x => by kernel_rfl) (sd_check_Check_5 D_check_Check_5)
noncomputable def tt_check_Check_4 (x : X_check_Check_4) : TT Tryz.prog R_check_Check :=
 (.jump S_check_Check_5 D_check_Check_5 (X_check_Check_5.mk x.p_1 x.p_1.Rings ((x.p_1.Rings.n : Nat) : Int) 0))
theorem sd_check_Check_4 (x : X_check_Check_4) : (tt_check_Check_4 x).Sides :=
  TT.s_jump

noncomputable def D_check_Check_4 : Dyn X_check_Check_4 R_check_Check := .of tt_check_Check_4
theorem ok_check_Check_4 : LabOK J_check_Check S_check_Check_4 D_check_Check_4 :=
  lab_ok mixed_ok (labs_cons2 ok_check_Check_11 rfl (labs_cons2 ok_check_Check_10 rfl (labs_cons2 ok_check_Check_5 rfl labs_nil))) 4000 (fun x => by kernel_rfl) sd_check_Check_4
noncomputable def tt_check_Check (x : X_check_Check) : TT Tryz.prog R_check_Check :=
 (.ite (ieq ((x.Threads.n : Nat) : Int) 0)
  (.ret (0, (0, 1)))
  (.ite (ilt 8 ((x.Threads.n : Nat) : Int))
   (.ret (0, (0, 1)))
   (.ite (ilt 8 ((x.Rings.n : Nat) : Int))
    (.ret (0, (0, 1)))
    (.jump S_check_Check_4 D_check_Check_4 (X_check_Check_4.mk x))
   )
  )
 )
theorem sd_check_Check (x : X_check_Check) : (tt_check_Check x).Sides :=
  (TT.s_ite TT.s_ret (TT.s_ite TT.s_ret (TT.s_ite TT.s_ret TT.s_jump)))

noncomputable def D_check_Check : Dyn X_check_Check R_check_Check := .of tt_check_Check
noncomputable def con_check_Check : Con Tryz.prog :=
  mkCon 99 J_check_Check S_check_Check D_check_Check D_check_Check (fun _ _ h => h) 1 0 [sh_TApi_Program] (by kernel_rfl) (by kernel_rfl) (by kernel_rfl) (lab_ok mixed_ok (labs_cons2 ok_check_Check_11 rfl (labs_cons2 ok_check_Check_10 rfl (labs_cons2 ok_check_Check_5 rfl (labs_cons2 ok_check_Check_4 rfl labs_nil)))) 4000 (fun x => by kernel_rfl) sd_check_Check) rfl rfl (fun _ => rfl) (by kernel_rfl) rfl (fun _ => rfl) (fun x y _ => by kernel_rfl)

/-! check.Right (check_Right) -/
abbrev X_check_Right : Type := TApi_Program
abbrev R_check_Right : Type := Bool
noncomputable def J_check_Right : Job Tryz.prog :=
  job Tryz.prog Tryz.f57 14 [(1, 3), (6, 1)] [] [] [] [.any] [] [con_check_Check] R_check_Right [] fun y => [V.bool y]
noncomputable def S_check_Right : LabS :=
  lab0 Tryz.f57 1 0 X_check_Right (fun x => [e_TApi_Program x]) fun l => (d_TApi_Program (at_ l 0))
noncomputable def tt_check_Right (x : X_check_Right) : TT Tryz.prog R_check_Right :=
 (.call con_check_Check x fun (y1 : R_check_Check) =>
 (.ret (ieq y1.snd.snd 0))
 )
theorem sd_check_Right (x : X_check_Right) : (tt_check_Right x).Sides :=
  (TT.s_call fun _ => TT.s_ret)

noncomputable def D_check_Right : Dyn X_check_Right R_check_Right := .of tt_check_Right
noncomputable def con_check_Right : Con Tryz.prog :=
  mkCon 57 J_check_Right S_check_Right D_check_Right D_check_Right (fun _ _ h => h) 1 0 [sh_TApi_Program] (by kernel_rfl) (by kernel_rfl) (by kernel_rfl) (lab_ok mixed_ok labs_nil 4000 (fun x => by kernel_rfl) sd_check_Right) rfl rfl (fun _ => rfl) (by kernel_rfl) rfl (fun _ => rfl) (fun x y _ => by kernel_rfl)

/-! slices.Clone[[]api.Ring,api.Ring] (slices_Clone_api_Ring) -/
abbrev X_slices_Clone_api_Ring : Type := (Sl TApi_Ring)
abbrev R_slices_Clone_api_Ring : Type := (Sl TApi_Ring)
noncomputable def J_slices_Clone_api_Ring : Job Tryz.prog :=
  job Tryz.prog Tryz.f100 8 [(6, 1)] [] [] [.shut 2] [hsl_TApi_Ring] [] [] R_slices_Clone_api_Ring [] fun y => [esl_TApi_Ring y]
noncomputable def S_slices_Clone_api_Ring : LabS :=
  lab0 Tryz.f100 1 0 X_slices_Clone_api_Ring (fun x => [esl_TApi_Ring x]) fun l => (dsl_TApi_Ring (at_ l 0))
noncomputable def tt_slices_Clone_api_Ring (x : X_slices_Clone_api_Ring) : TT Tryz.prog R_slices_Clone_api_Ring :=
 (.ite x.nil
  (.ret (Sl.mk true 0 (fun _i1 => (TApi_Ring.mk 0 0 0))))
  (.need (true && (room ((0 : Nat) + x.n) 24)) <|
  (.ret (Sl.mk (cond (Nat.beq x.n 0) false false) ((0 : Nat) + x.n) (fun i1 => (TApi_Ring.mk (cond (Nat.blt i1 0) (0 : Int) (x.get (i1 - 0)).Kind) (cond (Nat.blt i1 0) (0 : Int) (x.get (i1 - 0)).Cap) (cond (Nat.blt i1 0) (0 : Int) (x.get (i1 - 0)).Readers)))))
  )
 )
theorem sd_slices_Clone_api_Ring (x : X_slices_Clone_api_Ring) : (tt_slices_Clone_api_Ring x).Sides :=
  (TT.s_ite TT.s_ret (TT.s_need TT.s_ret))

noncomputable def D_slices_Clone_api_Ring : Dyn X_slices_Clone_api_Ring R_slices_Clone_api_Ring := .of tt_slices_Clone_api_Ring
noncomputable def con_slices_Clone_api_Ring : Con Tryz.prog :=
  mkCon 100 J_slices_Clone_api_Ring S_slices_Clone_api_Ring D_slices_Clone_api_Ring D_slices_Clone_api_Ring (fun _ _ h => h) 1 0 [hsl_TApi_Ring] (by kernel_rfl) (by kernel_rfl) (by kernel_rfl) (lab_ok mixed_ok labs_nil 4000 (fun x => by kernel_rfl) sd_slices_Clone_api_Ring) rfl rfl (fun _ => rfl) (by kernel_rfl) rfl (fun _ => rfl) (fun x y _ => by kernel_rfl)

/-! slices.Clone[[]api.Instr,api.Instr] (slices_Clone_api_Instr) -/
abbrev X_slices_Clone_api_Instr : Type := (Sl TApi_Instr)
abbrev R_slices_Clone_api_Instr : Type := (Sl TApi_Instr)
noncomputable def J_slices_Clone_api_Instr : Job Tryz.prog :=
  job Tryz.prog Tryz.f101 8 [(6, 1)] [] [] [.shut 2] [hsl_TApi_Instr] [] [] R_slices_Clone_api_Instr [] fun y => [esl_TApi_Instr y]
noncomputable def S_slices_Clone_api_Instr : LabS :=
  lab0 Tryz.f101 1 0 X_slices_Clone_api_Instr (fun x => [esl_TApi_Instr x]) fun l => (dsl_TApi_Instr (at_ l 0))
noncomputable def tt_slices_Clone_api_Instr (x : X_slices_Clone_api_Instr) : TT Tryz.prog R_slices_Clone_api_Instr :=
 (.ite x.nil
  (.ret (Sl.mk true 0 (fun _i1 => (TApi_Instr.mk 0 0 0 0 0 0))))
  (.need (true && (room ((0 : Nat) + x.n) 48)) <|
  (.ret (Sl.mk (cond (Nat.beq x.n 0) false false) ((0 : Nat) + x.n) (fun i1 => (TApi_Instr.mk (cond (Nat.blt i1 0) (0 : Int) (x.get (i1 - 0)).Op) (cond (Nat.blt i1 0) (0 : Int) (x.get (i1 - 0)).A) (cond (Nat.blt i1 0) (0 : Int) (x.get (i1 - 0)).B) (cond (Nat.blt i1 0) (0 : Int) (x.get (i1 - 0)).C) (cond (Nat.blt i1 0) (0 : Int) (x.get (i1 - 0)).D) (cond (Nat.blt i1 0) (0 : Int) (x.get (i1 - 0)).K)))))
  )
 )
theorem sd_slices_Clone_api_Instr (x : X_slices_Clone_api_Instr) : (tt_slices_Clone_api_Instr x).Sides :=
  (TT.s_ite TT.s_ret (TT.s_need TT.s_ret))

noncomputable def D_slices_Clone_api_Instr : Dyn X_slices_Clone_api_Instr R_slices_Clone_api_Instr := .of tt_slices_Clone_api_Instr
noncomputable def con_slices_Clone_api_Instr : Con Tryz.prog :=
  mkCon 101 J_slices_Clone_api_Instr S_slices_Clone_api_Instr D_slices_Clone_api_Instr D_slices_Clone_api_Instr (fun _ _ h => h) 1 0 [hsl_TApi_Instr] (by kernel_rfl) (by kernel_rfl) (by kernel_rfl) (lab_ok mixed_ok labs_nil 4000 (fun x => by kernel_rfl) sd_slices_Clone_api_Instr) rfl rfl (fun _ => rfl) (by kernel_rfl) rfl (fun _ => rfl) (fun x y _ => by kernel_rfl)

abbrev DslA_sl_TApi_Instr : Type := (Sl (Sl TApi_Instr))
def eslA_sl_TApi_Instr : DslA_sl_TApi_Instr → V := (eSl (some 82) 1 esl_TApi_Instr)
def dslA_sl_TApi_Instr : V → DslA_sl_TApi_Instr := (dSl dsl_TApi_Instr)
def hslA_sl_TApi_Instr : Sh := (.sl (some 82) 1 (esl_TApi_Instr (dsl_TApi_Instr .undef)))

def e_TApi_Program_1 (x : TApi_Program) : V :=
  V.cons (esl_TApi_Ring x.Rings) (V.cons (eslA_sl_TApi_Instr x.Threads) (V.unit))

theorem nu_e_TApi_Program_1 (x : TApi_Program) : (e_TApi_Program_1 x).NoU := ⟨trivial, trivial, trivial⟩

def sh_TApi_Program_1 : Sh := (.cons hsl_TApi_Ring (.cons hslA_sl_TApi_Instr .any))

/-! fabric.copied (fabric_copied) -/
abbrev X_fabric_copied : Type := TApi_Program
abbrev R_fabric_copied : Type := TApi_Program
noncomputable def J_fabric_copied : Job Tryz.prog :=
  job Tryz.prog Tryz.f58 26 [(1, 3), (18, 1), (19, 1)] [] [] [] [sh_TApi_Program] [] [con_slices_Clone_api_Instr, con_slices_Clone_api_Ring] R_fabric_copied [] fun y => [e_TApi_Program y]
noncomputable def S_fabric_copied : LabS :=
  lab0 Tryz.f58 1 0 X_fabric_copied (fun x => [e_TApi_Program x]) fun l => (d_TApi_Program (at_ l 0))
structure X_fabric_copied_3 where
  q_11 : (Sl (Sl TApi_Instr))
  q_12 : Int
  q_13 : Int
  m_2 : TApi_Program
  m_3 : TApi_Program
noncomputable def S_fabric_copied_3 : LabS :=
  labAt Tryz.f58 3 [(2, .any), (3, .any), (11, hsl_sl_TApi_Instr), (12, .any), (13, .any)] [] [(.loc 2 0, sh_TApi_Program), (.loc 3 0, sh_TApi_Program_1)] X_fabric_copied_3 (fun x => [(V.ptr (.loc 2 0) []), (V.ptr (.loc 3 0) []), esl_sl_TApi_Instr x.q_11, (V.int .i64) x.q_12, (V.int .i64) x.q_13, e_TApi_Program x.m_2, e_TApi_Program_1 x.m_3]) fun l => ⟨dsl_sl_TApi_Instr (at_ l 2), dI (at_ l 3), dI (at_ l 4), d_TApi_Program (at_ l 5), d_TApi_Program (at_ l 6)⟩
noncomputable def tt_fabric_copied_3 (D_fabric_copied_3 : Dyn X_fabric_copied_3 R_fabric_copied) (x : X_fabric_copied_3) : TT Tryz.prog R_fabric_copied :=
 (.ite (ilt x.q_13 x.q_12)
  (.need (inb x.q_13 x.q_11.n) <|
  (.call con_slices_Clone_api_Instr (x.q_11.get (Int.toNat x.q_13)) fun (y2 : R_slices_Clone_api_Instr) =>
  (.need (true && (room (x.m_3.Threads.n + 1) 24)) <|
  (.jump S_fabric_copied_3 D_fabric_copied_3 (X_fabric_copied_3.mk x.q_11 x.q_12 (IntKind.i64.wrap (x.q_13 + 1)) x.m_2 (TApi_Program.mk x.m_3.Rings (Sl.mk (cond (Nat.beq 1 0) x.m_3.Threads.nil false) (x.m_3.Threads.n + 1) (fun i3 => (Sl.mk (cond (Nat.blt i3 x.m_3.Threads.n) (x.m_3.Threads.get i3).nil y2.nil) (cond (Nat.blt i3 x.m_3.Threads.n) (x.m_3.Threads.get i3).n y2.n) (fun i4 => (TApi_Instr.mk (cond (Nat.blt i3 x.m_3.Threads.n) ((x.m_3.Threads.get i3).get i4).Op (y2.get i4).Op) (cond (Nat.blt i3 x.m_3.Threads.n) ((x.m_3.Threads.get i3).get i4).A (y2.get i4).A) (cond (Nat.blt i3 x.m_3.Threads.n) ((x.m_3.Threads.get i3).get i4).B (y2.get i4).B) (cond (Nat.blt i3 x.m_3.Threads.n) ((x.m_3.Threads.get i3).get i4).C (y2.get i4).C) (cond (Nat.blt i3 x.m_3.Threads.n) ((x.m_3.Threads.get i3).get i4).D (y2.get i4).D) (cond (Nat.blt i3 x.m_3.Threads.n) ((x.m_3.Threads.get i3).get i4).K (y2.get i4).K)))))))))
  )
  )
  )
  (.ret x.m_3)
 )
theorem sd_fabric_copied_3 (D_fabric_copied_3 : Dyn X_fabric_copied_3 R_fabric_copied) (x : X_fabric_copied_3) : (tt_fabric_copied_3 D_fabric_copied_3 x).Sides :=
  (TT.s_ite (TT.s_need (TT.s_call fun _ => (TT.s_need TT.s_jump))) TT.s_ret)

noncomputable def D_fabric_copied_3 : Dyn X_fabric_copied_3 R_fabric_copied := Dyn.loop tt_fabric_copied_3
theorem ok_fabric_copied_3 : LabOK J_fabric_copied S_fabric_copied_3 D_fabric_copied_3 :=
  loop_ok fun D_fabric_copied_3 h_3 => lab_ok mixed_ok (labs_cons2 h_3 rfl labs_nil) 4000 (fun x => by kernel_rfl) (sd_fabric_copied_3 D_fabric_copied_3)
noncomputable def tt_fabric_copied (x : X_fabric_copied) : TT Tryz.prog R_fabric_copied :=
 (.call con_slices_Clone_api_Ring x.Rings fun (y1 : R_slices_Clone_api_Ring) =>
 (.jump S_fabric_copied_3 D_fabric_copied_3 (X_fabric_copied_3.mk x.Threads ((x.Threads.n : Nat) : Int) 0 (TApi_Program.mk (Sl.mk true 0 (fun _i2 => (TApi_Ring.mk 0 0 0))) (Sl.mk true 0 (fun _i2 => (Sl.mk true 0 (fun _i3 => (TApi_Instr.mk 0 0 0 0 0 0)))))) (TApi_Program.mk y1 (Sl.mk true 0 (fun _i2 => (Sl.mk true 0 (fun _i3 => (TApi_Instr.mk 0 0 0 0 0 0))))))))
 )
theorem sd_fabric_copied (x : X_fabric_copied) : (tt_fabric_copied x).Sides :=
  (TT.s_call fun _ => TT.s_jump)

noncomputable def D_fabric_copied : Dyn X_fabric_copied R_fabric_copied := .of tt_fabric_copied
noncomputable def con_fabric_copied : Con Tryz.prog :=
  mkCon 58 J_fabric_copied S_fabric_copied D_fabric_copied D_fabric_copied (fun _ _ h => h) 1 0 [sh_TApi_Program] (by kernel_rfl) (by kernel_rfl) (by kernel_rfl) (lab_ok mixed_ok (labs_cons2 ok_fabric_copied_3 rfl labs_nil) 4000 (fun x => by kernel_rfl) sd_fabric_copied) rfl rfl (fun _ => rfl) (by kernel_rfl) rfl (fun _ => rfl) (fun x y _ => by kernel_rfl)

/-! slots.may (slots_may) -/
abbrev X_slots_may : Type := Int × Int
abbrev R_slots_may : Type := Bool
noncomputable def J_slots_may : Job Tryz.prog :=
  job Tryz.prog Tryz.f149 19 [] [] [] [] [.any] [] [] R_slots_may [] fun y => [V.bool y]
noncomputable def S_slots_may : LabS :=
  lab0 Tryz.f149 2 0 X_slots_may (fun x => [(V.int .i64) x.1, (V.int .i64) x.2]) fun l => (dI (at_ l 0), dI (at_ l 1))
noncomputable def tt_slots_may (x : X_slots_may) : TT Tryz.prog R_slots_may :=
 (.ite (ile 1 x.fst)
  (.ite (ile x.fst 64)
   (.ite (ile 1 x.snd)
    (.ret (ile x.snd 8))
    (.ret false)
   )
   (.ret false)
  )
  (.ret false)
 )
theorem sd_slots_may (x : X_slots_may) : (tt_slots_may x).Sides :=
  (TT.s_ite (TT.s_ite (TT.s_ite TT.s_ret TT.s_ret) TT.s_ret) TT.s_ret)

noncomputable def D_slots_may : Dyn X_slots_may R_slots_may := .of tt_slots_may
noncomputable def con_slots_may : Con Tryz.prog :=
  mkCon 149 J_slots_may S_slots_may D_slots_may D_slots_may (fun _ _ h => h) 2 0 [.any, .any] (by kernel_rfl) (by kernel_rfl) (by kernel_rfl) (lab_ok mixed_ok labs_nil 4000 (fun x => by kernel_rfl) sd_slots_may) rfl rfl (fun _ => rfl) (by kernel_rfl) rfl (fun _ => rfl) (fun x y _ => by kernel_rfl)

/-! slots.free (slots_free) -/
abbrev X_slots_free : Type := Int
abbrev R_slots_free : Type := Int
noncomputable def J_slots_free : Job Tryz.prog :=
  job Tryz.prog Tryz.f150 5 [] [] [] [] [.any] [] [] R_slots_free [] fun y => [(V.int .u64) y]
noncomputable def S_slots_free : LabS :=
  lab0 Tryz.f150 1 0 X_slots_free (fun x => [(V.int .u64) x]) fun l => (dI (at_ l 0))
noncomputable def tt_slots_free (x : X_slots_free) : TT Tryz.prog R_slots_free :=
 (.ret (IntKind.u64.wrap ((2 : Int) * x)))
theorem sd_slots_free (x : X_slots_free) : (tt_slots_free x).Sides :=
  TT.s_ret

noncomputable def D_slots_free : Dyn X_slots_free R_slots_free := .of tt_slots_free
noncomputable def con_slots_free : Con Tryz.prog :=
  mkCon 150 J_slots_free S_slots_free D_slots_free D_slots_free (fun _ _ h => h) 1 0 [.any] (by kernel_rfl) (by kernel_rfl) (by kernel_rfl) (lab_ok mixed_ok labs_nil 4000 (fun x => by kernel_rfl) sd_slots_free) rfl rfl (fun _ => rfl) (by kernel_rfl) rfl (fun _ => rfl) (fun x y _ => by kernel_rfl)

abbrev Dosl_TApi_Slot : Type := (Sl TApi_Slot)
def eosl_TApi_Slot : Dosl_TApi_Slot → V := (eOsl 150 3 e_TApi_Slot)
def dosl_TApi_Slot : V → Dosl_TApi_Slot := (dSl d_TApi_Slot)
def hosl_TApi_Slot : Sh := (.osl 150 3 (e_TApi_Slot (d_TApi_Slot .undef)))

structure TSlots_Slots where
  l : (Sl TApi_Slot)
  readers : Int

def d_TSlots_Slots (v : V) : TSlots_Slots :=
  ⟨dosl_TApi_Slot (fd v 0), dI (fd v 1)⟩

def e_TSlots_Slots (x : TSlots_Slots) : V :=
  V.cons (eosl_TApi_Slot x.l) (V.cons ((V.int .i64) x.readers) (V.unit))

theorem nu_e_TSlots_Slots (x : TSlots_Slots) : (e_TSlots_Slots x).NoU := ⟨(fun _ _ => (nu_e_TApi_Slot) _ : ∀ y, (eosl_TApi_Slot y).NoU) x.l, trivial, trivial⟩

def sh_TSlots_Slots : Sh := (.cons hosl_TApi_Slot .any)

abbrev Dbox_TSlots_Slots : Type := (Bx TSlots_Slots)
def ebox_TSlots_Slots : Dbox_TSlots_Slots → V := (eBx e_TSlots_Slots)
def dbox_TSlots_Slots : V → Dbox_TSlots_Slots := (dBx d_TSlots_Slots)
def hbox_TSlots_Slots : Sh := (.box (e_TSlots_Slots (d_TSlots_Slots .undef)))

/-! slots.New (slots_New) -/
abbrev X_slots_New : Type := Int × Int
abbrev R_slots_New : Type := (Bx TSlots_Slots) × Int
noncomputable def J_slots_New : Job Tryz.prog :=
  job Tryz.prog Tryz.f102 37 [(13, 1)] [(5, [.close (.loc 28 0), .close (.loc 20 0)]), (6, [.close (.loc 28 0), .close (.loc 20 0)]), (7, [.close (.loc 28 0), .close (.loc 20 0)]), (8, [.close (.loc 28 0), .close (.loc 20 0)]), (9, [.close (.loc 28 0), .close (.loc 20 0)])] [(7, [.opn (.loc 16 0) [.fld 0 0] 28])] [.close (.loc 28 0), .close (.loc 20 0), .shut 4] [hbox_TSlots_Slots, .any] [] [con_slots_free, con_slots_may] R_slots_New [(0, [⟨.loc 28 0, .loc 16 0, [.fld 0 0], none, none⟩]), (5, [⟨.loc 28 0, .loc 16 0, [.fld 0 0], none, none⟩])] fun y => [V.tup (V.cons (ebox_TSlots_Slots y.1) (V.cons ((V.int .i64) y.2) (V.unit)))]
noncomputable def S_slots_New : LabS :=
  lab0 Tryz.f102 2 0 X_slots_New (fun x => [(V.int .i64) x.1, (V.int .i64) x.2]) fun l => (dI (at_ l 0), dI (at_ l 1))
structure X_slots_New_5 where
  q_21 : Int
  q_22 : Int
  m_16 : TSlots_Slots
noncomputable def S_slots_New_5 : LabS :=
  labAt Tryz.f102 5 [(6, .any), (21, .any), (22, .any)] [] [(.loc 16 0, sh_TSlots_Slots)] X_slots_New_5 (fun x => [(V.ptr (.loc 16 0) []), (V.int .i64) x.q_21, (V.int .i64) x.q_22, e_TSlots_Slots x.m_16]) fun l => ⟨dI (at_ l 1), dI (at_ l 2), d_TSlots_Slots (at_ l 3)⟩
noncomputable def tt_slots_New_5 (D_slots_New_5 : Dyn X_slots_New_5 R_slots_New) (x : X_slots_New_5) : TT Tryz.prog R_slots_New :=
 (.ite (ilt x.q_22 x.q_21)
  (.call con_slots_free (IntKind.u64.wrap x.q_22) fun (y2 : R_slots_free) =>
  (.need (inb x.q_22 x.m_16.l.n) <|
  (.need ((Nat.beq x.m_16.l.n x.m_16.l.n) && true) <|
  (.need ((true && true) && (Nat.beq x.m_16.l.n x.m_16.l.n)) <|
  (.jump S_slots_New_5 D_slots_New_5 (X_slots_New_5.mk x.q_21 (IntKind.i64.wrap (x.q_22 + 1)) (TSlots_Slots.mk (Sl.mk x.m_16.l.nil x.m_16.l.n (fun i3 => (TApi_Slot.mk (cond (Nat.beq i3 ((0 : Nat) + (Int.toNat x.q_22))) y2 (x.m_16.l.get i3).Stamp) (cond (Nat.beq i3 ((0 : Nat) + (Int.toNat x.q_22))) (x.m_16.l.get ((0 : Nat) + (Int.toNat x.q_22))).Value (x.m_16.l.get i3).Value) (cond (Nat.beq i3 ((0 : Nat) + (Int.toNat x.q_22))) (x.m_16.l.get ((0 : Nat) + (Int.toNat x.q_22))).Left (x.m_16.l.get i3).Left)))) x.m_16.readers)))
  )
  )
  )
  )
  (.ret ((Bx.mk false x.m_16), 0))
 )
theorem sd_slots_New_5 (D_slots_New_5 : Dyn X_slots_New_5 R_slots_New) (x : X_slots_New_5) : (tt_slots_New_5 D_slots_New_5 x).Sides :=
  (TT.s_ite (TT.s_call fun _ => (TT.s_need (TT.s_need (TT.s_need TT.s_jump)))) TT.s_ret)

noncomputable def D_slots_New_5 : Dyn X_slots_New_5 R_slots_New := Dyn.loop tt_slots_New_5
theorem ok_slots_New_5 : LabOK J_slots_New S_slots_New_5 D_slots_New_5 :=
  loop_ok fun D_slots_New_5 h_5 => lab_ok mixed_ok (labs_cons2 h_5 rfl labs_nil) 4000 (fun x => by kernel_rfl) (sd_slots_New_5 D_slots_New_5)
noncomputable def tt_slots_New (x : X_slots_New) : TT Tryz.prog R_slots_New :=
 (.call con_slots_may x fun (y1 : R_slots_may) =>
 (.ite (!y1)
  (.ret ((Bx.mk true (TSlots_Slots.mk (Sl.mk true 0 (fun _i2 => (TApi_Slot.mk 0 0 0))) 0)), 1))
  (.need ((((upto x.fst (Int.toNat x.fst)) && (ile 0 x.fst)) && (room (Int.toNat x.fst) 24)) && (decide ((x.fst ≤ (9223372036854775807 : Int))))) <|
  (.need ((true && true) && (Nat.beq (Int.toNat x.fst) (Int.toNat x.fst))) <|
  (.jump S_slots_New_5 D_slots_New_5 (X_slots_New_5.mk (((Int.toNat x.fst) : Nat) : Int) 0 (TSlots_Slots.mk (Sl.mk false (Int.toNat x.fst) (fun _i2 => (TApi_Slot.mk 0 0 0))) x.snd)))
  )
  )
 )
 )
theorem sd_slots_New (x : X_slots_New) : (tt_slots_New x).Sides :=
  (TT.s_call fun _ => (TT.s_ite TT.s_ret (TT.s_need (TT.s_need TT.s_jump))))

noncomputable def D_slots_New : Dyn X_slots_New R_slots_New := .of tt_slots_New
noncomputable def con_slots_New : Con Tryz.prog :=
  mkCon 102 J_slots_New S_slots_New D_slots_New D_slots_New (fun _ _ h => h) 2 0 [.any, .any] (by kernel_rfl) (by kernel_rfl) (by kernel_rfl) (lab_ok mixed_ok (labs_cons2 ok_slots_New_5 rfl labs_nil) 4000 (fun x => by kernel_rfl) sd_slots_New) rfl rfl (fun _ => rfl) (by kernel_rfl) rfl (fun _ => rfl) (fun x y _ => by kernel_rfl)

/-! ring.may (ring_may) -/
abbrev X_ring_may : Type := TApi_Ring
abbrev R_ring_may : Type := Bool
noncomputable def J_ring_may : Job Tryz.prog :=
  job Tryz.prog Tryz.f103 12 [(1, 3)] [] [] [] [.any] [] [] R_ring_may [] fun y => [V.bool y]
noncomputable def S_ring_may : LabS :=
  lab0 Tryz.f103 1 0 X_ring_may (fun x => [e_TApi_Ring x]) fun l => (d_TApi_Ring (at_ l 0))
noncomputable def tt_ring_may (x : X_ring_may) : TT Tryz.prog R_ring_may :=
 (.ite (ieq x.Kind 1)
  (.ret (ieq x.Readers 1))
  (.ite (ieq x.Kind 2)
   (.ret true)
   (.ret false)
  )
 )
theorem sd_ring_may (x : X_ring_may) : (tt_ring_may x).Sides :=
  (TT.s_ite TT.s_ret (TT.s_ite TT.s_ret TT.s_ret))

noncomputable def D_ring_may : Dyn X_ring_may R_ring_may := .of tt_ring_may
noncomputable def con_ring_may : Con Tryz.prog :=
  mkCon 103 J_ring_may S_ring_may D_ring_may D_ring_may (fun _ _ h => h) 1 0 [.any] (by kernel_rfl) (by kernel_rfl) (by kernel_rfl) (lab_ok mixed_ok labs_nil 4000 (fun x => by kernel_rfl) sd_ring_may) rfl rfl (fun _ => rfl) (by kernel_rfl) rfl (fun _ => rfl) (fun x y _ => by kernel_rfl)

abbrev Dosl_u64 : Type := (Sl Int)
def eosl_u64 : Dosl_u64 → V := (eOsl 35 1 (V.int .u64))
def dosl_u64 : V → Dosl_u64 := (dSl dI)
def hosl_u64 : Sh := (.osl 35 1 (V.int .u64 0))

structure TRing_cursors where
  tail : Int
  heads : (Sl Int)

def d_TRing_cursors (v : V) : TRing_cursors :=
  ⟨dI (fd v 0), dosl_u64 (fd v 1)⟩

def e_TRing_cursors (x : TRing_cursors) : V :=
  V.cons ((V.int .u64) x.tail) (V.cons (eosl_u64 x.heads) (V.unit))

theorem nu_e_TRing_cursors (x : TRing_cursors) : (e_TRing_cursors x).NoU := ⟨trivial, (fun _ _ => trivial : ∀ y, (eosl_u64 y).NoU) x.heads, trivial⟩

def sh_TRing_cursors : Sh := (.cons .any (.cons hosl_u64 .any))

structure TRing_Ring where
  cursors : TRing_cursors
  s : (Bx TSlots_Slots)
  most : Int
  closed : Bool

def d_TRing_Ring (v : V) : TRing_Ring :=
  ⟨d_TRing_cursors (fd v 0), dbox_TSlots_Slots (fd v 1), dI (fd v 2), dB (fd v 3)⟩

def e_TRing_Ring (x : TRing_Ring) : V :=
  V.cons (e_TRing_cursors x.cursors) (V.cons (ebox_TSlots_Slots x.s) (V.cons ((V.int .u64) x.most) (V.cons (V.bool x.closed) (V.unit))))

theorem nu_e_TRing_Ring (x : TRing_Ring) : (e_TRing_Ring x).NoU := ⟨(nu_e_TRing_cursors : ∀ y, (e_TRing_cursors y).NoU) x.cursors, (fun _ => (nu_e_TSlots_Slots) _ : ∀ y, (ebox_TSlots_Slots y).NoU) x.s, trivial, trivial, trivial⟩

def sh_TRing_Ring : Sh := (.cons sh_TRing_cursors (.cons hbox_TSlots_Slots .any))

abbrev Dbox_TRing_Ring : Type := (Bx TRing_Ring)
def ebox_TRing_Ring : Dbox_TRing_Ring → V := (eBx e_TRing_Ring)
def dbox_TRing_Ring : V → Dbox_TRing_Ring := (dBx d_TRing_Ring)
def hbox_TRing_Ring : Sh := (.box (e_TRing_Ring (d_TRing_Ring .undef)))

/-! ring.New (ring_New) -/
abbrev X_ring_New : Type := TApi_Ring
abbrev R_ring_New : Type := (Bx TRing_Ring) × Int
noncomputable def J_ring_New : Job Tryz.prog :=
  job Tryz.prog Tryz.f59 31 [(1, 3), (6, 1), (23, 1), (25, 1)] [] [] [.shut 2] [hbox_TRing_Ring, .any] [] [con_ring_may, con_slots_New] R_ring_New [] fun y => [V.tup (V.cons (ebox_TRing_Ring y.1) (V.cons ((V.int .i64) y.2) (V.unit)))]
noncomputable def S_ring_New : LabS :=
  lab0 Tryz.f59 1 0 X_ring_New (fun x => [e_TApi_Ring x]) fun l => (d_TApi_Ring (at_ l 0))
structure X_ring_New_4 where
  r_1 : TApi_Ring
  s_4 : (Bx TSlots_Slots)
noncomputable def S_ring_New_4 : LabS :=
  labAt Tryz.f59 4 [(1, .any), (4, hbox_TSlots_Slots)] [] [] X_ring_New_4 (fun x => [(eVp e_TApi_Ring) x.r_1, ebox_TSlots_Slots x.s_4]) fun l => ⟨(dVp d_TApi_Ring) (at_ l 0), dbox_TSlots_Slots (at_ l 1)⟩
noncomputable def tt_ring_New_4 (x : X_ring_New_4) : TT Tryz.prog R_ring_New :=
 (.need ((((upto x.r_1.Readers (Int.toNat x.r_1.Readers)) && (ile 0 x.r_1.Readers)) && (room (Int.toNat x.r_1.Readers) 8)) && (decide ((x.r_1.Readers ≤ (9223372036854775807 : Int))))) <|
 (.ret ((Bx.mk false (TRing_Ring.mk (TRing_cursors.mk 0 (Sl.mk false (Int.toNat x.r_1.Readers) (fun _i1 => (0 : Int)))) x.s_4 (IntKind.u64.wrap x.r_1.Cap) false)), 0))
 )
theorem sd_ring_New_4 (x : X_ring_New_4) : (tt_ring_New_4 x).Sides :=
  (TT.s_need TT.s_ret)

noncomputable def D_ring_New_4 : Dyn X_ring_New_4 R_ring_New := .of tt_ring_New_4
theorem ok_ring_New_4 : LabOK J_ring_New S_ring_New_4 D_ring_New_4 :=
  lab_ok mixed_ok labs_nil 4000 (fun x => by kernel_rfl) sd_ring_New_4
noncomputable def tt_ring_New (x : X_ring_New) : TT Tryz.prog R_ring_New :=
 (.call con_slots_New (x.Cap, x.Readers) fun (y1 : R_slots_New) =>
 (.ite (!(ieq y1.snd 0))
  (.ret ((Bx.mk true (TRing_Ring.mk (TRing_cursors.mk 0 (Sl.mk true 0 (fun _i2 => (0 : Int)))) (Bx.mk true (TSlots_Slots.mk (Sl.mk true 0 (fun _i2 => (TApi_Slot.mk 0 0 0))) 0)) 0 false)), 1))
  (.call con_ring_may x fun (y2 : R_ring_may) =>
  (.ite (!y2)
   (.ret ((Bx.mk true (TRing_Ring.mk (TRing_cursors.mk 0 (Sl.mk true 0 (fun _i3 => (0 : Int)))) (Bx.mk true (TSlots_Slots.mk (Sl.mk true 0 (fun _i3 => (TApi_Slot.mk 0 0 0))) 0)) 0 false)), 1))
   (.jump S_ring_New_4 D_ring_New_4 (X_ring_New_4.mk x y1.fst))
  )
  )
 )
 )
theorem sd_ring_New (x : X_ring_New) : (tt_ring_New x).Sides :=
  (TT.s_call fun _ => (TT.s_ite TT.s_ret (TT.s_call fun _ => (TT.s_ite TT.s_ret TT.s_jump))))

noncomputable def D_ring_New : Dyn X_ring_New R_ring_New := .of tt_ring_New
noncomputable def con_ring_New : Con Tryz.prog :=
  mkCon 59 J_ring_New S_ring_New D_ring_New D_ring_New (fun _ _ h => h) 1 0 [.any] (by kernel_rfl) (by kernel_rfl) (by kernel_rfl) (lab_ok mixed_ok (labs_cons2 ok_ring_New_4 rfl labs_nil) 4000 (fun x => by kernel_rfl) sd_ring_New) rfl rfl (fun _ => rfl) (by kernel_rfl) rfl (fun _ => rfl) (fun x y _ => by kernel_rfl)

abbrev Dsl_box_TRing_Ring : Type := (Sl (Bx TRing_Ring))
def esl_box_TRing_Ring : Dsl_box_TRing_Ring → V := (eSl none 1 ebox_TRing_Ring)
def dsl_box_TRing_Ring : V → Dsl_box_TRing_Ring := (dSl dbox_TRing_Ring)
def hsl_box_TRing_Ring : Sh := (.sl none 1 (ebox_TRing_Ring (dbox_TRing_Ring .undef)))

abbrev Dosl_TApi_ThreadState : Type := (Sl TApi_ThreadState)
def eosl_TApi_ThreadState : Dosl_TApi_ThreadState → V := (eOsl 79 14 e_TApi_ThreadState)
def dosl_TApi_ThreadState : V → Dosl_TApi_ThreadState := (dSl d_TApi_ThreadState)
def hosl_TApi_ThreadState : Sh := (.osl 79 14 (e_TApi_ThreadState (d_TApi_ThreadState .undef)))

abbrev Dosl_box_TRing_Ring : Type := (Sl (Bx TRing_Ring))
def eosl_box_TRing_Ring : Dosl_box_TRing_Ring → V := (eOsl 69 1 ebox_TRing_Ring)
def dosl_box_TRing_Ring : V → Dosl_box_TRing_Ring := (dSl dbox_TRing_Ring)
def hosl_box_TRing_Ring : Sh := (.osl 69 1 (ebox_TRing_Ring (dbox_TRing_Ring .undef)))

structure TFabric_Fabric where
  p : TApi_Program
  threads : (Sl TApi_ThreadState)
  rings : (Sl (Bx TRing_Ring))
  now : Int
  reads : Int
  ended : Bool

def d_TFabric_Fabric (v : V) : TFabric_Fabric :=
  ⟨d_TApi_Program (fd v 0), dosl_TApi_ThreadState (fd v 1), dosl_box_TRing_Ring (fd v 2), dI (fd v 3), dI (fd v 4), dB (fd v 5)⟩

def e_TFabric_Fabric (x : TFabric_Fabric) : V :=
  V.cons (e_TApi_Program x.p) (V.cons (eosl_TApi_ThreadState x.threads) (V.cons (eosl_box_TRing_Ring x.rings) (V.cons ((V.int .u64) x.now) (V.cons ((V.int .u64) x.reads) (V.cons (V.bool x.ended) (V.unit))))))

theorem nu_e_TFabric_Fabric (x : TFabric_Fabric) : (e_TFabric_Fabric x).NoU := ⟨(nu_e_TApi_Program : ∀ y, (e_TApi_Program y).NoU) x.p, (fun _ _ => (nu_e_TApi_ThreadState) _ : ∀ y, (eosl_TApi_ThreadState y).NoU) x.threads, (fun _ _ => (fun _ => (nu_e_TRing_Ring) _) _ : ∀ y, (eosl_box_TRing_Ring y).NoU) x.rings, trivial, trivial, trivial, trivial⟩

def sh_TFabric_Fabric : Sh := (.cons sh_TApi_Program (.cons hosl_TApi_ThreadState (.cons hosl_box_TRing_Ring .any)))

abbrev Dbox_TFabric_Fabric : Type := (Bx TFabric_Fabric)
def ebox_TFabric_Fabric : Dbox_TFabric_Fabric → V := (eBx e_TFabric_Fabric)
def dbox_TFabric_Fabric : V → Dbox_TFabric_Fabric := (dBx d_TFabric_Fabric)
def hbox_TFabric_Fabric : Sh := (.box (e_TFabric_Fabric (d_TFabric_Fabric .undef)))

def e_TFabric_Fabric_2 (x : TFabric_Fabric) : V :=
  V.cons (e_TApi_Program x.p) (V.cons (eosl_TApi_ThreadState x.threads) (V.cons (eosl_box_TRing_Ring x.rings) (V.cons ((V.int .u64) x.now) (V.cons ((V.int .u64) x.reads) (V.cons (V.bool x.ended) (V.unit))))))

theorem nu_e_TFabric_Fabric_2 (x : TFabric_Fabric) : (e_TFabric_Fabric_2 x).NoU := ⟨(nu_e_TApi_Program : ∀ y, (e_TApi_Program y).NoU) x.p, (fun _ _ => (nu_e_TApi_ThreadState) _ : ∀ y, (eosl_TApi_ThreadState y).NoU) x.threads, (fun _ _ => (fun _ => (nu_e_TRing_Ring) _) _ : ∀ y, (eosl_box_TRing_Ring y).NoU) x.rings, trivial, trivial, trivial, trivial⟩

def sh_TFabric_Fabric_2 : Sh := (.cons sh_TApi_Program (.cons hosl_TApi_ThreadState (.cons hosl_box_TRing_Ring .any)))

/-! fabric.New (fabric_New) -/
abbrev X_fabric_New : Type := TApi_Program
abbrev R_fabric_New : Type := (Bx TFabric_Fabric) × Int
noncomputable def J_fabric_New : Job Tryz.prog :=
  job Tryz.prog Tryz.f20 44 [(1, 3), (17, 1), (27, 1), (36, 1), (37, 1), (38, 1)] [] [] [.shut 2] [hbox_TFabric_Fabric, .any] [] [con_check_Right, con_fabric_copied, con_ring_New] R_fabric_New [] fun y => [V.tup (V.cons (ebox_TFabric_Fabric y.1) (V.cons ((V.int .i64) y.2) (V.unit)))]
noncomputable def S_fabric_New : LabS :=
  lab0 Tryz.f20 1 0 X_fabric_New (fun x => [e_TApi_Program x]) fun l => (d_TApi_Program (at_ l 0))
structure X_fabric_New_5 where
  q_21 : (Sl TApi_Ring)
  q_22 : Int
  q_23 : Int
  m_19 : TFabric_Fabric
noncomputable def S_fabric_New_5 : LabS :=
  labAt Tryz.f20 5 [(4, .any), (21, hsl_TApi_Ring), (22, .any), (23, .any)] [] [(.loc 19 0, sh_TFabric_Fabric_2)] X_fabric_New_5 (fun x => [(V.ptr (.loc 19 0) []), esl_TApi_Ring x.q_21, (V.int .i64) x.q_22, (V.int .i64) x.q_23, e_TFabric_Fabric_2 x.m_19]) fun l => ⟨dsl_TApi_Ring (at_ l 1), dI (at_ l 2), dI (at_ l 3), d_TFabric_Fabric (at_ l 4)⟩
noncomputable def tt_fabric_New_5 (D_fabric_New_5 : Dyn X_fabric_New_5 R_fabric_New) (x : X_fabric_New_5) : TT Tryz.prog R_fabric_New :=
 (.ite (ilt x.q_23 x.q_22)
  (.need (inb x.q_23 x.q_21.n) <|
  (.call con_ring_New (x.q_21.get (Int.toNat x.q_23)) fun (y2 : R_ring_New) =>
  (.need (true && (room (x.m_19.rings.n + 1) 8)) <|
  (.jump S_fabric_New_5 D_fabric_New_5 (X_fabric_New_5.mk x.q_21 x.q_22 (IntKind.i64.wrap (x.q_23 + 1)) (TFabric_Fabric.mk x.m_19.p x.m_19.threads (Sl.mk (cond (Nat.beq 1 0) x.m_19.rings.nil false) (x.m_19.rings.n + 1) (fun i3 => (Bx.mk (cond (Nat.blt i3 x.m_19.rings.n) (x.m_19.rings.get i3).nil y2.fst.nil) (TRing_Ring.mk (TRing_cursors.mk (cond (Nat.blt i3 x.m_19.rings.n) (x.m_19.rings.get i3).x.cursors.tail y2.fst.x.cursors.tail) (Sl.mk (cond (Nat.blt i3 x.m_19.rings.n) (x.m_19.rings.get i3).x.cursors.heads.nil y2.fst.x.cursors.heads.nil) (cond (Nat.blt i3 x.m_19.rings.n) (x.m_19.rings.get i3).x.cursors.heads.n y2.fst.x.cursors.heads.n) (fun i4 => (cond (Nat.blt i3 x.m_19.rings.n) ((x.m_19.rings.get i3).x.cursors.heads.get i4) (y2.fst.x.cursors.heads.get i4))))) (Bx.mk (cond (Nat.blt i3 x.m_19.rings.n) (x.m_19.rings.get i3).x.s.nil y2.fst.x.s.nil) (TSlots_Slots.mk (Sl.mk (cond (Nat.blt i3 x.m_19.rings.n) (x.m_19.rings.get i3).x.s.x.l.nil y2.fst.x.s.x.l.nil) (cond (Nat.blt i3 x.m_19.rings.n) (x.m_19.rings.get i3).x.s.x.l.n y2.fst.x.s.x.l.n) (fun i4 => (TApi_Slot.mk (cond (Nat.blt i3 x.m_19.rings.n) ((x.m_19.rings.get i3).x.s.x.l.get i4).Stamp (y2.fst.x.s.x.l.get i4).Stamp) (cond (Nat.blt i3 x.m_19.rings.n) ((x.m_19.rings.get i3).x.s.x.l.get i4).Value (y2.fst.x.s.x.l.get i4).Value) (cond (Nat.blt i3 x.m_19.rings.n) ((x.m_19.rings.get i3).x.s.x.l.get i4).Left (y2.fst.x.s.x.l.get i4).Left)))) (cond (Nat.blt i3 x.m_19.rings.n) (x.m_19.rings.get i3).x.s.x.readers y2.fst.x.s.x.readers))) (cond (Nat.blt i3 x.m_19.rings.n) (x.m_19.rings.get i3).x.most y2.fst.x.most) (cond (Nat.blt i3 x.m_19.rings.n) (x.m_19.rings.get i3).x.closed y2.fst.x.closed))))) x.m_19.now x.m_19.reads x.m_19.ended)))
  )
  )
  )
  (.ret ((Bx.mk false (TFabric_Fabric.mk x.m_19.p x.m_19.threads x.m_19.rings x.m_19.now x.m_19.reads x.m_19.ended)), 0))
 )
theorem sd_fabric_New_5 (D_fabric_New_5 : Dyn X_fabric_New_5 R_fabric_New) (x : X_fabric_New_5) : (tt_fabric_New_5 D_fabric_New_5 x).Sides :=
  (TT.s_ite (TT.s_need (TT.s_call fun _ => (TT.s_need TT.s_jump))) TT.s_ret)

noncomputable def D_fabric_New_5 : Dyn X_fabric_New_5 R_fabric_New := Dyn.loop tt_fabric_New_5
theorem ok_fabric_New_5 : LabOK J_fabric_New S_fabric_New_5 D_fabric_New_5 :=
  loop_ok fun D_fabric_New_5 h_5 => lab_ok mixed_ok (labs_cons2 h_5 rfl labs_nil) 4000 (fun x => by kernel_rfl) (sd_fabric_New_5 D_fabric_New_5)
noncomputable def tt_fabric_New (x : X_fabric_New) : TT Tryz.prog R_fabric_New :=
 (.call con_check_Right x fun (y1 : R_check_Right) =>
 (.ite (!y1)
  (.ret ((Bx.mk true (TFabric_Fabric.mk (TApi_Program.mk (Sl.mk true 0 (fun _i2 => (TApi_Ring.mk 0 0 0))) (Sl.mk true 0 (fun _i2 => (Sl.mk true 0 (fun _i3 => (TApi_Instr.mk 0 0 0 0 0 0)))))) (Sl.mk true 0 (fun _i2 => (TApi_ThreadState.mk 0 0 0 0 0 (fun _i3 => (0 : Int)) (Sl.mk true 0 (fun _i3 => (0 : Int)))))) (Sl.mk true 0 (fun _i2 => (Bx.mk true (TRing_Ring.mk (TRing_cursors.mk 0 (Sl.mk true 0 (fun _i3 => (0 : Int)))) (Bx.mk true (TSlots_Slots.mk (Sl.mk true 0 (fun _i3 => (TApi_Slot.mk 0 0 0))) 0)) 0 false)))) 0 0 false)), 1))
  (.call con_fabric_copied x fun (y2 : R_fabric_copied) =>
  (.need ((((upto ((x.Threads.n : Nat) : Int) (Int.toNat ((x.Threads.n : Nat) : Int))) && (ile 0 ((x.Threads.n : Nat) : Int))) && (room (Int.toNat ((x.Threads.n : Nat) : Int)) 128)) && (decide ((((x.Threads.n : Nat) : Int) ≤ (9223372036854775807 : Int))))) <|
  (.jump S_fabric_New_5 D_fabric_New_5 (X_fabric_New_5.mk x.Rings ((x.Rings.n : Nat) : Int) 0 (TFabric_Fabric.mk y2 (Sl.mk false (Int.toNat ((x.Threads.n : Nat) : Int)) (fun _i3 => (TApi_ThreadState.mk 0 0 0 0 0 (fun _i4 => (0 : Int)) (Sl.mk true 0 (fun _i4 => (0 : Int)))))) (Sl.mk true 0 (fun _i3 => (Bx.mk true (TRing_Ring.mk (TRing_cursors.mk 0 (Sl.mk true 0 (fun _i4 => (0 : Int)))) (Bx.mk true (TSlots_Slots.mk (Sl.mk true 0 (fun _i4 => (TApi_Slot.mk 0 0 0))) 0)) 0 false)))) 0 0 false)))
  )
  )
 )
 )
theorem sd_fabric_New (x : X_fabric_New) : (tt_fabric_New x).Sides :=
  (TT.s_call fun _ => (TT.s_ite TT.s_ret (TT.s_call fun _ => (TT.s_need TT.s_jump))))

noncomputable def D_fabric_New : Dyn X_fabric_New R_fabric_New := .of tt_fabric_New
noncomputable def con_fabric_New : Con Tryz.prog :=
  mkCon 20 J_fabric_New S_fabric_New D_fabric_New D_fabric_New (fun _ _ h => h) 1 0 [sh_TApi_Program] (by kernel_rfl) (by kernel_rfl) (by kernel_rfl) (lab_ok mixed_ok (labs_cons2 ok_fabric_New_5 rfl labs_nil) 4000 (fun x => by kernel_rfl) sd_fabric_New) rfl rfl (fun _ => rfl) (by kernel_rfl) rfl (fun _ => rfl) (fun x y _ => by kernel_rfl)

/-! slots.right (slots_right) -/
abbrev X_slots_right : Type := Int × Int × Int × TApi_Slot
abbrev R_slots_right : Type := Bool
noncomputable def J_slots_right : Job Tryz.prog :=
  job Tryz.prog Tryz.f169 45 [(7, 3)] [] [] [] [.any] [] [] R_slots_right [] fun y => [V.bool y]
noncomputable def S_slots_right : LabS :=
  lab0 Tryz.f169 4 0 X_slots_right (fun x => [(V.int .i64) x.1, (V.int .i64) x.2.1, (V.int .i64) x.2.2.1, e_TApi_Slot x.2.2.2]) fun l => (dI (at_ l 0), dI (at_ l 1), dI (at_ l 2), d_TApi_Slot (at_ l 3))
structure X_slots_right_3 where
  readers_2 : Int
  x_7 : TApi_Slot
noncomputable def S_slots_right_3 : LabS :=
  labAt Tryz.f169 3 [(2, .any), (7, .any)] [] [] X_slots_right_3 (fun x => [(V.int .i64) x.readers_2, (eVp e_TApi_Slot) x.x_7]) fun l => ⟨dI (at_ l 0), (dVp d_TApi_Slot) (at_ l 1)⟩
noncomputable def tt_slots_right_3 (x : X_slots_right_3) : TT Tryz.prog R_slots_right :=
 (.ite (ieq (Int.tmod x.x_7.Stamp 2) 0)
  (.ite (ieq x.x_7.Value 0)
   (.ret (ieq x.x_7.Left 0))
   (.ret false)
  )
  (.ite (ile 1 x.x_7.Left)
   (.need (ile 0 x.readers_2) <|
   (.ret (ilt x.x_7.Left (shl IntKind.i64 1 x.readers_2)))
   )
   (.ret false)
  )
 )
theorem sd_slots_right_3 (x : X_slots_right_3) : (tt_slots_right_3 x).Sides :=
  (TT.s_ite (TT.s_ite TT.s_ret TT.s_ret) (TT.s_ite (TT.s_need TT.s_ret) TT.s_ret))

noncomputable def D_slots_right_3 : Dyn X_slots_right_3 R_slots_right := .of tt_slots_right_3
theorem ok_slots_right_3 : LabOK J_slots_right S_slots_right_3 D_slots_right_3 :=
  lab_ok mixed_ok labs_nil 4000 (fun x => by kernel_rfl) sd_slots_right_3
noncomputable def tt_slots_right (x : X_slots_right) : TT Tryz.prog R_slots_right :=
 (.ite (ile 9223372036854775808 x.snd.snd.snd.Stamp)
  (.ret false)
  (.need (!(ieq (IntKind.u64.wrap x.snd.fst) 0)) <|
  (.ite (!(ieq (Int.tmod (IntKind.u64.wrap (Int.tdiv x.snd.snd.snd.Stamp 2)) (IntKind.u64.wrap x.snd.fst)) (IntKind.u64.wrap x.fst)))
   (.ret false)
   (.jump S_slots_right_3 D_slots_right_3 (X_slots_right_3.mk x.snd.snd.fst x.snd.snd.snd))
  )
  )
 )
theorem sd_slots_right (x : X_slots_right) : (tt_slots_right x).Sides :=
  (TT.s_ite TT.s_ret (TT.s_need (TT.s_ite TT.s_ret TT.s_jump)))

noncomputable def D_slots_right : Dyn X_slots_right R_slots_right := .of tt_slots_right
noncomputable def con_slots_right : Con Tryz.prog :=
  mkCon 169 J_slots_right S_slots_right D_slots_right D_slots_right (fun _ _ h => h) 4 0 [.any, .any, .any, .any] (by kernel_rfl) (by kernel_rfl) (by kernel_rfl) (lab_ok mixed_ok (labs_cons2 ok_slots_right_3 rfl labs_nil) 4000 (fun x => by kernel_rfl) sd_slots_right) rfl rfl (fun _ => rfl) (by kernel_rfl) rfl (fun _ => rfl) (fun x y _ => by kernel_rfl)

/-! slices.Clone[[]api.Slot,api.Slot] (slices_Clone_api_Slot_w0) -/
abbrev X_slices_Clone_api_Slot_w0 : Type := (Sl TApi_Slot)
abbrev R_slices_Clone_api_Slot_w0 : Type := (Sl TApi_Slot)
noncomputable def J_slices_Clone_api_Slot_w0 : Job Tryz.prog :=
  job Tryz.prog Tryz.f145 8 [(5, 1), (6, 1)] [] [] [.shut 2] [hosl_TApi_Slot] [] [] R_slices_Clone_api_Slot_w0 [] fun y => [eosl_TApi_Slot y]
noncomputable def S_slices_Clone_api_Slot_w0 : LabS :=
  lab0 Tryz.f145 1 0 X_slices_Clone_api_Slot_w0 (fun x => [esl_TApi_Slot x]) fun l => (dsl_TApi_Slot (at_ l 0))
noncomputable def tt_slices_Clone_api_Slot_w0 (x : X_slices_Clone_api_Slot_w0) : TT Tryz.prog R_slices_Clone_api_Slot_w0 :=
 (.ite x.nil
  (.ret (Sl.mk true 0 (fun _i1 => (TApi_Slot.mk 0 0 0))))
  (.need (true && (room ((0 : Nat) + x.n) 24)) <|
  (.ret (Sl.mk (cond (Nat.beq x.n 0) false false) ((0 : Nat) + x.n) (fun i1 => (TApi_Slot.mk (cond (Nat.blt i1 0) (0 : Int) (x.get (i1 - 0)).Stamp) (cond (Nat.blt i1 0) (0 : Int) (x.get (i1 - 0)).Value) (cond (Nat.blt i1 0) (0 : Int) (x.get (i1 - 0)).Left)))))
  )
 )
theorem sd_slices_Clone_api_Slot_w0 (x : X_slices_Clone_api_Slot_w0) : (tt_slices_Clone_api_Slot_w0 x).Sides :=
  (TT.s_ite TT.s_ret (TT.s_need TT.s_ret))

noncomputable def D_slices_Clone_api_Slot_w0 : Dyn X_slices_Clone_api_Slot_w0 R_slices_Clone_api_Slot_w0 := .of tt_slices_Clone_api_Slot_w0
noncomputable def con_slices_Clone_api_Slot_w0 : Con Tryz.prog :=
  mkCon 145 J_slices_Clone_api_Slot_w0 S_slices_Clone_api_Slot_w0 D_slices_Clone_api_Slot_w0 D_slices_Clone_api_Slot_w0 (fun _ _ h => h) 1 0 [hsl_TApi_Slot] (by kernel_rfl) (by kernel_rfl) (by kernel_rfl) (lab_ok mixed_ok labs_nil 4000 (fun x => by kernel_rfl) sd_slices_Clone_api_Slot_w0) rfl rfl (fun _ => rfl) (by kernel_rfl) rfl (fun _ => rfl) (fun x y _ => by kernel_rfl)

/-! slots.Load (slots_Load) -/
abbrev X_slots_Load : Type := Int × Int × (Sl TApi_Slot)
abbrev R_slots_Load : Type := (Bx TSlots_Slots) × Int
noncomputable def J_slots_Load : Job Tryz.prog :=
  job Tryz.prog Tryz.f127 37 [(32, 1)] [] [] [.shut 6] [hbox_TSlots_Slots, .any] [] [con_slices_Clone_api_Slot_w0, con_slots_may, con_slots_right] R_slots_Load [] fun y => [V.tup (V.cons (ebox_TSlots_Slots y.1) (V.cons ((V.int .i64) y.2) (V.unit)))]
noncomputable def S_slots_Load : LabS :=
  lab0 Tryz.f127 3 0 X_slots_Load (fun x => [(V.int .i64) x.1, (V.int .i64) x.2.1, esl_TApi_Slot x.2.2]) fun l => (dI (at_ l 0), dI (at_ l 1), dsl_TApi_Slot (at_ l 2))
structure X_slots_Load_6 where
  places_0 : Int
  readers_1 : Int
  l_2 : (Sl TApi_Slot)
  q_18 : (Sl TApi_Slot)
  q_19 : Int
  q_20 : Int
noncomputable def S_slots_Load_6 : LabS :=
  labAt Tryz.f127 6 [(0, .any), (1, .any), (2, hsl_TApi_Slot), (18, hsl_TApi_Slot), (19, .any), (20, .any)] [] [] X_slots_Load_6 (fun x => [(V.int .i64) x.places_0, (V.int .i64) x.readers_1, esl_TApi_Slot x.l_2, esl_TApi_Slot x.q_18, (V.int .i64) x.q_19, (V.int .i64) x.q_20]) fun l => ⟨dI (at_ l 0), dI (at_ l 1), dsl_TApi_Slot (at_ l 2), dsl_TApi_Slot (at_ l 3), dI (at_ l 4), dI (at_ l 5)⟩
structure X_slots_Load_11 where
  readers_1 : Int
  l_2 : (Sl TApi_Slot)
noncomputable def S_slots_Load_11 : LabS :=
  labAt Tryz.f127 11 [(1, .any), (2, hsl_TApi_Slot)] [] [] X_slots_Load_11 (fun x => [(V.int .i64) x.readers_1, esl_TApi_Slot x.l_2]) fun l => ⟨dI (at_ l 0), dsl_TApi_Slot (at_ l 1)⟩
noncomputable def tt_slots_Load_11 (x : X_slots_Load_11) : TT Tryz.prog R_slots_Load :=
 (.call con_slices_Clone_api_Slot_w0 x.l_2 fun (y1 : R_slices_Clone_api_Slot_w0) =>
 (.ret ((Bx.mk false (TSlots_Slots.mk y1 x.readers_1)), 0))
 )
theorem sd_slots_Load_11 (x : X_slots_Load_11) : (tt_slots_Load_11 x).Sides :=
  (TT.s_call fun _ => TT.s_ret)

noncomputable def D_slots_Load_11 : Dyn X_slots_Load_11 R_slots_Load := .of tt_slots_Load_11
theorem ok_slots_Load_11 : LabOK J_slots_Load S_slots_Load_11 D_slots_Load_11 :=
  lab_ok mixed_ok labs_nil 4000 (fun x => by kernel_rfl) sd_slots_Load_11
noncomputable def tt_slots_Load_6 (D_slots_Load_6 : Dyn X_slots_Load_6 R_slots_Load) (x : X_slots_Load_6) : TT Tryz.prog R_slots_Load :=
 (.ite (ilt x.q_20 x.q_19)
  (.need (inb x.q_20 x.q_18.n) <|
  (.call con_slots_right (x.q_20, (x.places_0, (x.readers_1, (x.q_18.get (Int.toNat x.q_20))))) fun (y2 : R_slots_right) =>
  (.ite (!y2)
   (.ret ((Bx.mk true (TSlots_Slots.mk (Sl.mk true 0 (fun _i3 => (TApi_Slot.mk 0 0 0))) 0)), 3))
   (.jump S_slots_Load_6 D_slots_Load_6 (X_slots_Load_6.mk x.places_0 x.readers_1 x.l_2 x.q_18 x.q_19 (IntKind.i64.wrap (x.q_20 + 1))))
  )
  )
  )
  (.jump S_slots_Load_11 D_slots_Load_11 (X_slots_Load_11.mk x.readers_1 x.l_2))
 )
theorem sd_slots_Load_6 (D_slots_Load_6 : Dyn X_slots_Load_6 R_slots_Load) (x : X_slots_Load_6) : (tt_slots_Load_6 D_slots_Load_6 x).Sides :=
  (TT.s_ite (TT.s_need (TT.s_call fun _ => (TT.s_ite TT.s_ret TT.s_jump))) TT.s_jump)

noncomputable def D_slots_Load_6 : Dyn X_slots_Load_6 R_slots_Load := Dyn.loop tt_slots_Load_6
theorem ok_slots_Load_6 : LabOK J_slots_Load S_slots_Load_6 D_slots_Load_6 :=
  loop_ok fun D_slots_Load_6 h_6 => lab_ok mixed_ok (labs_cons2 h_6 rfl (labs_cons2 ok_slots_Load_11 rfl labs_nil)) 4000 (fun x => by kernel_rfl) (sd_slots_Load_6 D_slots_Load_6)
noncomputable def tt_slots_Load (x : X_slots_Load) : TT Tryz.prog R_slots_Load :=
 (.call con_slots_may (x.fst, x.snd.fst) fun (y1 : R_slots_may) =>
 (.ite (!y1)
  (.ret ((Bx.mk true (TSlots_Slots.mk (Sl.mk true 0 (fun _i2 => (TApi_Slot.mk 0 0 0))) 0)), 1))
  (.ite (!(ieq ((x.snd.snd.n : Nat) : Int) x.fst))
   (.ret ((Bx.mk true (TSlots_Slots.mk (Sl.mk true 0 (fun _i2 => (TApi_Slot.mk 0 0 0))) 0)), 3))
   (.jump S_slots_Load_6 D_slots_Load_6 (X_slots_Load_6.mk x.fst x.snd.fst x.snd.snd x.snd.snd ((x.snd.snd.n : Nat) : Int) 0))
  )
 )
 )
theorem sd_slots_Load (x : X_slots_Load) : (tt_slots_Load x).Sides :=
  (TT.s_call fun _ => (TT.s_ite TT.s_ret (TT.s_ite TT.s_ret TT.s_jump)))

noncomputable def D_slots_Load : Dyn X_slots_Load R_slots_Load := .of tt_slots_Load
noncomputable def con_slots_Load : Con Tryz.prog :=
  mkCon 127 J_slots_Load S_slots_Load D_slots_Load D_slots_Load (fun _ _ h => h) 3 0 [.any, .any, hsl_TApi_Slot] (by kernel_rfl) (by kernel_rfl) (by kernel_rfl) (lab_ok mixed_ok (labs_cons2 ok_slots_Load_11 rfl (labs_cons2 ok_slots_Load_6 rfl labs_nil)) 4000 (fun x => by kernel_rfl) sd_slots_Load) rfl rfl (fun _ => rfl) (by kernel_rfl) rfl (fun _ => rfl) (fun x y _ => by kernel_rfl)

/-! (*ring.Ring).stands (ring_Ring_stands) -/
abbrev X_ring_Ring_stands : Type := TApi_Slot × TRing_Ring
abbrev R_ring_Ring_stands : Type := Bool
abbrev RR_ring_Ring_stands : Type := Bool × TRing_Ring
abbrev p_ring_Ring_stands (y : RR_ring_Ring_stands) : TRing_Ring := y.2
abbrev w_ring_Ring_stands (x : X_ring_Ring_stands) : TRing_Ring := x.2
noncomputable def J_ring_Ring_stands : Job Tryz.prog :=
  job Tryz.prog Tryz.f128 74 [(3, 3)] [(9, [.back (.loc 30 0)]), (11, [.back (.loc 30 0)]), (13, [.back (.loc 30 0)])] [] [.back (.loc 30 0)] [.any] [sh_TRing_Ring] [] RR_ring_Ring_stands [(6, [⟨.loc 30 0, .par 0, [.fld 0 0, .fld 1 1], none, none⟩]), (12, [⟨.loc 30 0, .par 0, [.fld 0 0, .fld 1 1], none, none⟩])] fun y => [V.bool y.1, e_TRing_Ring y.2]
noncomputable def S_ring_Ring_stands : LabS :=
  lab0 Tryz.f128 2 1 X_ring_Ring_stands (fun x => [(V.ptr (.par 0) []), e_TApi_Slot x.1, e_TRing_Ring x.2]) fun l => (d_TApi_Slot (at_ l 1), d_TRing_Ring (at_ l 2))
structure X_ring_Ring_stands_5 where
  x_3 : TApi_Slot
  t_5 : Int
  held_6 : Bool
  o_0 : TRing_Ring
noncomputable def S_ring_Ring_stands_5 : LabS :=
  labAt Tryz.f128 5 [(0, .any), (3, .any), (5, .any), (6, .any)] [sh_TRing_Ring] [] X_ring_Ring_stands_5 (fun x => [(V.ptr (.par 0) []), (eVp e_TApi_Slot) x.x_3, (V.int .u64) x.t_5, V.bool x.held_6, e_TRing_Ring x.o_0]) fun l => ⟨(dVp d_TApi_Slot) (at_ l 1), dI (at_ l 2), dB (at_ l 3), d_TRing_Ring (at_ l 4)⟩
structure X_ring_Ring_stands_6 where
  x_3 : TApi_Slot
  t_5 : Int
  held_6 : Bool
  q_31 : Int
  q_32 : Int
  o_0 : TRing_Ring
noncomputable def S_ring_Ring_stands_6 : LabS :=
  labAt Tryz.f128 6 [(0, .any), (3, .any), (5, .any), (6, .any), (30, .any), (31, .any), (32, .any)] [sh_TRing_Ring] [(.loc 30 0, .any)] X_ring_Ring_stands_6 (fun x => [(V.ptr (.par 0) []), (eVp e_TApi_Slot) x.x_3, (V.int .u64) x.t_5, V.bool x.held_6, (V.own (.loc 30 0) [] 1 x.o_0.cursors.heads.n 0 x.o_0.cursors.heads.n), (V.int .i64) x.q_31, (V.int .i64) x.q_32, V.cons (V.cons ((V.int .u64) x.o_0.cursors.tail) (V.cons (V.lent (.loc 30 0) 35 1 x.o_0.cursors.heads.nil x.o_0.cursors.heads.n) (V.unit))) (V.cons (ebox_TSlots_Slots x.o_0.s) (V.cons ((V.int .u64) x.o_0.most) (V.cons (V.bool x.o_0.closed) (V.unit)))), (V.arr 1 x.o_0.cursors.heads.n fun i => (V.int .u64) (x.o_0.cursors.heads.get i))]) fun l => ⟨(dVp d_TApi_Slot) (at_ l 1), dI (at_ l 2), dB (at_ l 3), dI (at_ l 5), dI (at_ l 6), { d_TRing_Ring (at_ l 7) with cursors.heads := ⟨(dLn (fd (fd (at_ l 7) 0) 1)).nil, (dLn (fd (fd (at_ l 7) 0) 1)).n, (dAr dI (at_ l 8)).get⟩ }⟩
structure X_ring_Ring_stands_12 where
  x_3 : TApi_Slot
  t_5 : Int
  held_6 : Bool
  q_31 : Int
  q_32 : Int
  o_0 : TRing_Ring
noncomputable def S_ring_Ring_stands_12 : LabS :=
  labAt Tryz.f128 12 [(0, .any), (3, .any), (5, .any), (6, .any), (30, .any), (31, .any), (32, .any)] [sh_TRing_Ring] [(.loc 30 0, .any)] X_ring_Ring_stands_12 (fun x => [(V.ptr (.par 0) []), (eVp e_TApi_Slot) x.x_3, (V.int .u64) x.t_5, V.bool x.held_6, (V.own (.loc 30 0) [] 1 x.o_0.cursors.heads.n 0 x.o_0.cursors.heads.n), (V.int .i64) x.q_31, (V.int .i64) x.q_32, V.cons (V.cons ((V.int .u64) x.o_0.cursors.tail) (V.cons (V.lent (.loc 30 0) 35 1 x.o_0.cursors.heads.nil x.o_0.cursors.heads.n) (V.unit))) (V.cons (ebox_TSlots_Slots x.o_0.s) (V.cons ((V.int .u64) x.o_0.most) (V.cons (V.bool x.o_0.closed) (V.unit)))), (V.arr 1 x.o_0.cursors.heads.n fun i => (V.int .u64) (x.o_0.cursors.heads.get i))]) fun l => ⟨(dVp d_TApi_Slot) (at_ l 1), dI (at_ l 2), dB (at_ l 3), dI (at_ l 5), dI (at_ l 6), { d_TRing_Ring (at_ l 7) with cursors.heads := ⟨(dLn (fd (fd (at_ l 7) 0) 1)).nil, (dLn (fd (fd (at_ l 7) 0) 1)).n, (dAr dI (at_ l 8)).get⟩ }⟩
abbrev w_ring_Ring_stands_5 (x : X_ring_Ring_stands_5) : TRing_Ring := (x.o_0)
abbrev w_ring_Ring_stands_6 (x : X_ring_Ring_stands_6) : TRing_Ring := (x.o_0)
abbrev w_ring_Ring_stands_12 (x : X_ring_Ring_stands_12) : TRing_Ring := (x.o_0)
noncomputable def tt_ring_Ring_stands_12 (D_ring_Ring_stands_6 : Dyn X_ring_Ring_stands_6 RR_ring_Ring_stands) (x : X_ring_Ring_stands_12) : TT Tryz.prog RR_ring_Ring_stands :=
 (.jump S_ring_Ring_stands_6 D_ring_Ring_stands_6 (X_ring_Ring_stands_6.mk x.x_3 x.t_5 x.held_6 x.q_31 (IntKind.i64.wrap (x.q_32 + 1)) x.o_0))
theorem sd_ring_Ring_stands_12 (D_ring_Ring_stands_6 : Dyn X_ring_Ring_stands_6 RR_ring_Ring_stands) (x : X_ring_Ring_stands_12) : (tt_ring_Ring_stands_12 D_ring_Ring_stands_6 x).Sides :=
  TT.s_jump
theorem roT_ring_Ring_stands_12 (D_ring_Ring_stands_6 : Dyn X_ring_Ring_stands_6 RR_ring_Ring_stands) (r_ring_Ring_stands_6 : ∀ x y, D_ring_Ring_stands_6.rel x y → p_ring_Ring_stands y = w_ring_Ring_stands_6 x) (x : X_ring_Ring_stands_12) : TT.Ro p_ring_Ring_stands (w_ring_Ring_stands_12 x) (tt_ring_Ring_stands_12 D_ring_Ring_stands_6 x) :=
  (TT.ro_jump (r_ring_Ring_stands_6 _))

noncomputable def D_ring_Ring_stands_12 (D_ring_Ring_stands_6 : Dyn X_ring_Ring_stands_6 RR_ring_Ring_stands) : Dyn X_ring_Ring_stands_12 RR_ring_Ring_stands := .of (tt_ring_Ring_stands_12 D_ring_Ring_stands_6)
theorem ok_ring_Ring_stands_12 (D_ring_Ring_stands_6 : Dyn X_ring_Ring_stands_6 RR_ring_Ring_stands) (h_6 : LabOK J_ring_Ring_stands S_ring_Ring_stands_6 D_ring_Ring_stands_6) : LabOK J_ring_Ring_stands S_ring_Ring_stands_12 (D_ring_Ring_stands_12 D_ring_Ring_stands_6) :=
  lab_ok mixed_ok (labs_cons2 h_6 rfl labs_nil) 4000 (fun x => by kernel_rfl) (sd_ring_Ring_stands_12 D_ring_Ring_stands_6)
theorem ro_ring_Ring_stands_12 (D_ring_Ring_stands_6 : Dyn X_ring_Ring_stands_6 RR_ring_Ring_stands) (r_ring_Ring_stands_6 : ∀ x y, D_ring_Ring_stands_6.rel x y → p_ring_Ring_stands y = w_ring_Ring_stands_6 x) : ∀ x y, (D_ring_Ring_stands_12 D_ring_Ring_stands_6).rel x y → p_ring_Ring_stands y = w_ring_Ring_stands_12 x :=
  roT_ring_Ring_stands_12 D_ring_Ring_stands_6 r_ring_Ring_stands_6
noncomputable def tt_ring_Ring_stands_6 (D_ring_Ring_stands_6 : Dyn X_ring_Ring_stands_6 RR_ring_Ring_stands) (x : X_ring_Ring_stands_6) : TT Tryz.prog RR_ring_Ring_stands :=
 (.ite (ilt x.q_32 x.q_31)
  (.need (inb x.q_32 x.o_0.cursors.heads.n) <|
  (.need ((Nat.beq x.o_0.cursors.heads.n x.o_0.cursors.heads.n) && true) <|
  (.ite x.held_6
   (.need (ile 0 x.q_32) <|
   (.ite (ieq (Vm.bits .and IntKind.i64 (shr IntKind.i64 x.x_3.Left x.q_32) 1) 0)
    (.ite (ile (x.o_0.cursors.heads.get ((0 : Nat) + (Int.toNat x.q_32))) x.t_5)
     (.need ((true && true) && (Nat.beq x.o_0.cursors.heads.n x.o_0.cursors.heads.n)) <|
     (.ret (false, x.o_0))
     )
     (.ite (!x.held_6)
      (.ite (ile x.o_0.most x.t_5)
       (.ite (ile (x.o_0.cursors.heads.get ((0 : Nat) + (Int.toNat x.q_32))) (IntKind.u64.wrap (x.t_5 - x.o_0.most)))
        (.need ((true && true) && (Nat.beq x.o_0.cursors.heads.n x.o_0.cursors.heads.n)) <|
        (.ret (false, x.o_0))
        )
        (.jump S_ring_Ring_stands_12 (D_ring_Ring_stands_12 D_ring_Ring_stands_6) (X_ring_Ring_stands_12.mk x.x_3 x.t_5 x.held_6 x.q_31 x.q_32 x.o_0))
       )
       (.jump S_ring_Ring_stands_12 (D_ring_Ring_stands_12 D_ring_Ring_stands_6) (X_ring_Ring_stands_12.mk x.x_3 x.t_5 x.held_6 x.q_31 x.q_32 x.o_0))
      )
      (.jump S_ring_Ring_stands_12 (D_ring_Ring_stands_12 D_ring_Ring_stands_6) (X_ring_Ring_stands_12.mk x.x_3 x.t_5 x.held_6 x.q_31 x.q_32 x.o_0))
     )
    )
    (.ite (!x.held_6)
     (.ite (ile x.o_0.most x.t_5)
      (.ite (ile (x.o_0.cursors.heads.get ((0 : Nat) + (Int.toNat x.q_32))) (IntKind.u64.wrap (x.t_5 - x.o_0.most)))
       (.need ((true && true) && (Nat.beq x.o_0.cursors.heads.n x.o_0.cursors.heads.n)) <|
       (.ret (false, x.o_0))
       )
       (.jump S_ring_Ring_stands_12 (D_ring_Ring_stands_12 D_ring_Ring_stands_6) (X_ring_Ring_stands_12.mk x.x_3 x.t_5 x.held_6 x.q_31 x.q_32 x.o_0))
      )
      (.jump S_ring_Ring_stands_12 (D_ring_Ring_stands_12 D_ring_Ring_stands_6) (X_ring_Ring_stands_12.mk x.x_3 x.t_5 x.held_6 x.q_31 x.q_32 x.o_0))
     )
     (.jump S_ring_Ring_stands_12 (D_ring_Ring_stands_12 D_ring_Ring_stands_6) (X_ring_Ring_stands_12.mk x.x_3 x.t_5 x.held_6 x.q_31 x.q_32 x.o_0))
    )
   )
   )
   (.ite (!x.held_6)
    (.ite (ile x.o_0.most x.t_5)
     (.ite (ile (x.o_0.cursors.heads.get ((0 : Nat) + (Int.toNat x.q_32))) (IntKind.u64.wrap (x.t_5 - x.o_0.most)))
      (.need ((true && true) && (Nat.beq x.o_0.cursors.heads.n x.o_0.cursors.heads.n)) <|
      (.ret (false, x.o_0))
      )
      (.jump S_ring_Ring_stands_12 (D_ring_Ring_stands_12 D_ring_Ring_stands_6) (X_ring_Ring_stands_12.mk x.x_3 x.t_5 x.held_6 x.q_31 x.q_32 x.o_0))
     )
     (.jump S_ring_Ring_stands_12 (D_ring_Ring_stands_12 D_ring_Ring_stands_6) (X_ring_Ring_stands_12.mk x.x_3 x.t_5 x.held_6 x.q_31 x.q_32 x.o_0))
    )
    (.jump S_ring_Ring_stands_12 (D_ring_Ring_stands_12 D_ring_Ring_stands_6) (X_ring_Ring_stands_12.mk x.x_3 x.t_5 x.held_6 x.q_31 x.q_32 x.o_0))
   )
  )
  )
  )
  (.need ((true && true) && (Nat.beq x.o_0.cursors.heads.n x.o_0.cursors.heads.n)) <|
  (.ret (true, x.o_0))
  )
 )
theorem sd_ring_Ring_stands_6 (D_ring_Ring_stands_6 : Dyn X_ring_Ring_stands_6 RR_ring_Ring_stands) (x : X_ring_Ring_stands_6) : (tt_ring_Ring_stands_6 D_ring_Ring_stands_6 x).Sides :=
  (TT.s_ite (TT.s_need (TT.s_need (TT.s_ite (TT.s_need (TT.s_ite (TT.s_ite (TT.s_need TT.s_ret) (TT.s_ite (TT.s_ite (TT.s_ite (TT.s_need TT.s_ret) TT.s_jump) TT.s_jump) TT.s_jump)) (TT.s_ite (TT.s_ite (TT.s_ite (TT.s_need TT.s_ret) TT.s_jump) TT.s_jump) TT.s_jump))) (TT.s_ite (TT.s_ite (TT.s_ite (TT.s_need TT.s_ret) TT.s_jump) TT.s_jump) TT.s_jump)))) (TT.s_need TT.s_ret))
theorem roT_ring_Ring_stands_6 (D_ring_Ring_stands_6 : Dyn X_ring_Ring_stands_6 RR_ring_Ring_stands) (r_ring_Ring_stands_6 : ∀ x y, D_ring_Ring_stands_6.rel x y → p_ring_Ring_stands y = w_ring_Ring_stands_6 x) (x : X_ring_Ring_stands_6) : TT.Ro p_ring_Ring_stands (w_ring_Ring_stands_6 x) (tt_ring_Ring_stands_6 D_ring_Ring_stands_6 x) :=
  (TT.ro_ite (TT.ro_need (TT.ro_need (TT.ro_ite (TT.ro_need (TT.ro_ite (TT.ro_ite (TT.ro_need (TT.ro_ret rfl)) (TT.ro_ite (TT.ro_ite (TT.ro_ite (TT.ro_need (TT.ro_ret rfl)) (TT.ro_jump (ro_ring_Ring_stands_12 D_ring_Ring_stands_6 r_ring_Ring_stands_6 _))) (TT.ro_jump (ro_ring_Ring_stands_12 D_ring_Ring_stands_6 r_ring_Ring_stands_6 _))) (TT.ro_jump (ro_ring_Ring_stands_12 D_ring_Ring_stands_6 r_ring_Ring_stands_6 _)))) (TT.ro_ite (TT.ro_ite (TT.ro_ite (TT.ro_need (TT.ro_ret rfl)) (TT.ro_jump (ro_ring_Ring_stands_12 D_ring_Ring_stands_6 r_ring_Ring_stands_6 _))) (TT.ro_jump (ro_ring_Ring_stands_12 D_ring_Ring_stands_6 r_ring_Ring_stands_6 _))) (TT.ro_jump (ro_ring_Ring_stands_12 D_ring_Ring_stands_6 r_ring_Ring_stands_6 _))))) (TT.ro_ite (TT.ro_ite (TT.ro_ite (TT.ro_need (TT.ro_ret rfl)) (TT.ro_jump (ro_ring_Ring_stands_12 D_ring_Ring_stands_6 r_ring_Ring_stands_6 _))) (TT.ro_jump (ro_ring_Ring_stands_12 D_ring_Ring_stands_6 r_ring_Ring_stands_6 _))) (TT.ro_jump (ro_ring_Ring_stands_12 D_ring_Ring_stands_6 r_ring_Ring_stands_6 _)))))) (TT.ro_need (TT.ro_ret rfl)))

noncomputable def D_ring_Ring_stands_6 : Dyn X_ring_Ring_stands_6 RR_ring_Ring_stands := Dyn.loop tt_ring_Ring_stands_6
theorem ok_ring_Ring_stands_6 : LabOK J_ring_Ring_stands S_ring_Ring_stands_6 D_ring_Ring_stands_6 :=
  loop_ok fun D_ring_Ring_stands_6 h_6 => lab_ok mixed_ok (labs_cons2 h_6 rfl (labs_cons2 (ok_ring_Ring_stands_12 D_ring_Ring_stands_6 h_6) rfl labs_nil)) 4000 (fun x => by kernel_rfl) (sd_ring_Ring_stands_6 D_ring_Ring_stands_6)
theorem ro_ring_Ring_stands_6 : ∀ x y, D_ring_Ring_stands_6.rel x y → p_ring_Ring_stands y = w_ring_Ring_stands_6 x :=
  loop_ro fun D_ring_Ring_stands_6 r_ring_Ring_stands_6 => roT_ring_Ring_stands_6 D_ring_Ring_stands_6 r_ring_Ring_stands_6
noncomputable def tt_ring_Ring_stands_5 (x : X_ring_Ring_stands_5) : TT Tryz.prog RR_ring_Ring_stands :=
 (.jump S_ring_Ring_stands_6 D_ring_Ring_stands_6 (X_ring_Ring_stands_6.mk x.x_3 x.t_5 x.held_6 ((x.o_0.cursors.heads.n : Nat) : Int) 0 x.o_0))
theorem sd_ring_Ring_stands_5 (x : X_ring_Ring_stands_5) : (tt_ring_Ring_stands_5 x).Sides :=
  TT.s_jump
theorem roT_ring_Ring_stands_5 (x : X_ring_Ring_stands_5) : TT.Ro p_ring_Ring_stands (w_ring_Ring_stands_5 x) (tt_ring_Ring_stands_5 x) :=
  (TT.ro_jump (ro_ring_Ring_stands_6 _))

noncomputable def D_ring_Ring_stands_5 : Dyn X_ring_Ring_stands_5 RR_ring_Ring_stands := .of tt_ring_Ring_stands_5
theorem ok_ring_Ring_stands_5 : LabOK J_ring_Ring_stands S_ring_Ring_stands_5 D_ring_Ring_stands_5 :=
  lab_ok mixed_ok (labs_cons2 ok_ring_Ring_stands_6 rfl labs_nil) 4000 (fun x => by kernel_rfl) sd_ring_Ring_stands_5
theorem ro_ring_Ring_stands_5 : ∀ x y, D_ring_Ring_stands_5.rel x y → p_ring_Ring_stands y = w_ring_Ring_stands_5 x :=
  roT_ring_Ring_stands_5 
noncomputable def tt_ring_Ring_stands (x : X_ring_Ring_stands) : TT Tryz.prog RR_ring_Ring_stands :=
 (.ite (ieq (Int.tmod x.fst.Stamp 2) 1)
  (.ite (ile x.snd.cursors.tail (IntKind.u64.wrap (Int.tdiv x.fst.Stamp 2)))
   (.ret (false, x.snd))
   (.jump S_ring_Ring_stands_5 D_ring_Ring_stands_5 (X_ring_Ring_stands_5.mk x.fst (IntKind.u64.wrap (Int.tdiv x.fst.Stamp 2)) (ieq (Int.tmod x.fst.Stamp 2) 1) x.snd))
  )
  (.jump S_ring_Ring_stands_5 D_ring_Ring_stands_5 (X_ring_Ring_stands_5.mk x.fst (IntKind.u64.wrap (Int.tdiv x.fst.Stamp 2)) (ieq (Int.tmod x.fst.Stamp 2) 1) x.snd))
 )
theorem sd_ring_Ring_stands (x : X_ring_Ring_stands) : (tt_ring_Ring_stands x).Sides :=
  (TT.s_ite (TT.s_ite TT.s_ret TT.s_jump) TT.s_jump)
theorem roT_ring_Ring_stands (x : X_ring_Ring_stands) : TT.Ro p_ring_Ring_stands (w_ring_Ring_stands x) (tt_ring_Ring_stands x) :=
  (TT.ro_ite (TT.ro_ite (TT.ro_ret rfl) (TT.ro_jump (ro_ring_Ring_stands_5 _))) (TT.ro_jump (ro_ring_Ring_stands_5 _)))

noncomputable def D_ring_Ring_stands : Dyn X_ring_Ring_stands R_ring_Ring_stands := .ro (.of tt_ring_Ring_stands) (fun y => (y.1)) (fun y x => (y, x.2)) fun x y h => congrArg (fun o => (y.1, o)) (roT_ring_Ring_stands x y h)
noncomputable def con_ring_Ring_stands : Con Tryz.prog :=
  mkConP 128 J_ring_Ring_stands S_ring_Ring_stands (.of tt_ring_Ring_stands) D_ring_Ring_stands (fun y x => (y, x.2)) (fun _ _ h => h) (fun y => V.bool y) 2 1 [.any, .any] (by kernel_rfl) (by kernel_rfl) (by kernel_rfl) (lab_ok mixed_ok (labs_cons2 ok_ring_Ring_stands_6 rfl (labs_cons2 ok_ring_Ring_stands_5 rfl labs_nil)) 4000 (fun x => by kernel_rfl) sd_ring_Ring_stands) rfl rfl (fun _ => rfl) (by kernel_rfl) rfl (fun _ _ => rfl) (fun _ => rfl) (fun x => ⟨(nu_e_TRing_Ring : ∀ y, (e_TRing_Ring y).NoU) (x.2), trivial⟩)

/-! slices.Clone[[]uint64,uint64] (slices_Clone_uint64_w0) -/
abbrev X_slices_Clone_uint64_w0 : Type := (Sl Int)
abbrev R_slices_Clone_uint64_w0 : Type := (Sl Int)
noncomputable def J_slices_Clone_uint64_w0 : Job Tryz.prog :=
  job Tryz.prog Tryz.f53 8 [(5, 1), (6, 1)] [] [] [.shut 2] [hosl_u64] [] [] R_slices_Clone_uint64_w0 [] fun y => [eosl_u64 y]
noncomputable def S_slices_Clone_uint64_w0 : LabS :=
  lab0 Tryz.f53 1 0 X_slices_Clone_uint64_w0 (fun x => [esl_u64 x]) fun l => (dsl_u64 (at_ l 0))
noncomputable def tt_slices_Clone_uint64_w0 (x : X_slices_Clone_uint64_w0) : TT Tryz.prog R_slices_Clone_uint64_w0 :=
 (.ite x.nil
  (.ret (Sl.mk true 0 (fun _i1 => (0 : Int))))
  (.need (true && (room ((0 : Nat) + x.n) 8)) <|
  (.ret (Sl.mk (cond (Nat.beq x.n 0) false false) ((0 : Nat) + x.n) (fun i1 => (cond (Nat.blt i1 0) (0 : Int) (x.get (i1 - 0))))))
  )
 )
theorem sd_slices_Clone_uint64_w0 (x : X_slices_Clone_uint64_w0) : (tt_slices_Clone_uint64_w0 x).Sides :=
  (TT.s_ite TT.s_ret (TT.s_need TT.s_ret))

noncomputable def D_slices_Clone_uint64_w0 : Dyn X_slices_Clone_uint64_w0 R_slices_Clone_uint64_w0 := .of tt_slices_Clone_uint64_w0
noncomputable def con_slices_Clone_uint64_w0 : Con Tryz.prog :=
  mkCon 53 J_slices_Clone_uint64_w0 S_slices_Clone_uint64_w0 D_slices_Clone_uint64_w0 D_slices_Clone_uint64_w0 (fun _ _ h => h) 1 0 [hsl_u64] (by kernel_rfl) (by kernel_rfl) (by kernel_rfl) (lab_ok mixed_ok labs_nil 4000 (fun x => by kernel_rfl) sd_slices_Clone_uint64_w0) rfl rfl (fun _ => rfl) (by kernel_rfl) rfl (fun _ => rfl) (fun x y _ => by kernel_rfl)
end Go.Proofs.YtiplcdhnjennfaaGreat
