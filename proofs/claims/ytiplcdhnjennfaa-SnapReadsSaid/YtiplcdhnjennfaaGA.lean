/- What functions of the program come to, part A: no statement is proved here. -/
import Derived.Test.YtiplcdhnjennfaaVmC
import Derived.Test.YtiplcdhnjennfaaProg
import Derived.KernelRfl
namespace Go.Proofs.Ytiplcdhnjennfaa
open Go Go.Vm Go.Proofs
set_option maxRecDepth 100000
theorem mixed_ok : Try.prog.follows .mixedOrders = true := by kernel_rfl


/-! slices.Min[[]int,int] -/
abbrev X_f58 : Type := (Sl Int)
abbrev R_f58 : Type := Int
noncomputable def J_f58 : Job Try.prog where
  fn := Try.f58
  nt := 25
  pol := tabN 0 [(16, 1), (18, 1), (24, 1)]
  hint := tabN [] []
  finH := []
  rsh := [.any]
  psh := []
  tab := []
  R := R_f58
  enc := fun y => [(V.int .i64) y]
noncomputable def S_f58 : LabS where
  id := 0
  K := [.code (Try.f58.body.getD .skip)]
  lay := entryLay 1 0
  X := X_f58
  enc := fun x => [(eSl none 1 (V.int .i64)) x]
  dec := fun l => ((dSl dI) (at_ l 0))
structure X_f58_3 where
  x_0 : (Sl Int)
noncomputable def S_f58_3 : LabS where
  id := 3
  K := (kAt 3 (Try.f58.body.getD .skip) []).getD []
  lay := { live := [(0, (.sl none 1 (V.int .i64 0)))], pars := [], locs := [] }
  X := X_f58_3
  enc := fun x => [(eSl none 1 (V.int .i64)) x.x_0]
  dec := fun l => ⟨(dSl dI) (at_ l 0)⟩
structure X_f58_5 where
  x_0 : (Sl Int)
  m_3 : Int
  i_4 : Int
noncomputable def S_f58_5 : LabS where
  id := 5
  K := (kAt 5 (Try.f58.body.getD .skip) []).getD []
  lay := { live := [(0, (.sl none 1 (V.int .i64 0))), (3, .any), (4, .any)], pars := [], locs := [] }
  X := X_f58_5
  enc := fun x => [(eSl none 1 (V.int .i64)) x.x_0, (V.int .i64) x.m_3, (V.int .i64) x.i_4]
  dec := fun l => ⟨(dSl dI) (at_ l 0), dI (at_ l 1), dI (at_ l 2)⟩
noncomputable def tt_f58_5 (D_f58_5 : Dyn X_f58_5 R_f58) (x : X_f58_5) : TT Try.prog R_f58 :=
 (.ite (Go.Vm.ilt x.i_4 ((x.x_0.n : Nat) : Int))
  (.need (Go.Vm.inb x.i_4 x.x_0.n) <|
  (.jump S_f58_5 D_f58_5 (X_f58_5.mk x.x_0 (Go.Vm.imin x.m_3 (x.x_0.get (Int.toNat x.i_4))) (Go.IntKind.wrap Go.IntKind.i64 (x.i_4 + (1 : Int)))))
  )
  (.ret x.m_3)
 )
theorem sd_f58_5 (D_f58_5 : Dyn X_f58_5 R_f58) (x : X_f58_5) : (tt_f58_5 D_f58_5 x).Sides :=
  (TT.s_ite (TT.s_need TT.s_jump) TT.s_ret)

theorem dn_f58_5 (D_f58_5 : Dyn X_f58_5 R_f58) (x : X_f58_5) : J_f58.den [⟨S_f58_5, D_f58_5⟩] S_f58_5 x 4000 = (tt_f58_5 D_f58_5 x).tree J_f58.enc := by kernel_rfl
theorem st_f58_5 (D_f58_5 : Dyn X_f58_5 R_f58) (h_5 : LabOK J_f58 S_f58_5 D_f58_5) : LabOK J_f58 S_f58_5 (.of (tt_f58_5 D_f58_5)) :=
  lab_ok mixed_ok (labs_cons rfl h_5 labs_nil) 4000 (dn_f58_5 D_f58_5) (sd_f58_5 D_f58_5)
noncomputable def D_f58_5 : Dyn X_f58_5 R_f58 := Dyn.loop (tt_f58_5 )
theorem ok_f58_5  : LabOK J_f58 S_f58_5 (D_f58_5 ) :=
  loop_ok fun D h => st_f58_5  D  h
noncomputable def tt_f58_3 (x : X_f58_3) : TT Try.prog R_f58 :=
 (.need (Go.Vm.inb (0 : Int) x.x_0.n) <|
 (.jump S_f58_5 D_f58_5 (X_f58_5.mk x.x_0 (x.x_0.get (Int.toNat (0 : Int))) (1 : Int)))
 )
theorem sd_f58_3 (x : X_f58_3) : (tt_f58_3  x).Sides :=
  (TT.s_need TT.s_jump)

theorem dn_f58_3 (x : X_f58_3) : J_f58.den [⟨S_f58_5, D_f58_5⟩] S_f58_3 x 4000 = (tt_f58_3  x).tree J_f58.enc := by kernel_rfl
theorem st_f58_3  : LabOK J_f58 S_f58_3 (.of tt_f58_3) :=
  lab_ok mixed_ok (labs_cons rfl ok_f58_5 labs_nil) 4000 (dn_f58_3 ) (sd_f58_3 )
noncomputable def D_f58_3 : Dyn X_f58_3 R_f58 := .of (tt_f58_3 )
theorem ok_f58_3  : LabOK J_f58 S_f58_3 (D_f58_3 ) :=
  st_f58_3  
noncomputable def tt_f58 (x : X_f58) : TT Try.prog R_f58 :=
 (.ite (Go.Vm.ilt ((x.n : Nat) : Int) (1 : Int))
  .fail
  (.jump S_f58_3 D_f58_3 (X_f58_3.mk x))
 )
theorem sd_f58 (x : X_f58) : (tt_f58  x).Sides :=
  (TT.s_ite TT.s_fail TT.s_jump)

theorem dn_f58 (x : X_f58) : J_f58.den [⟨S_f58_5, D_f58_5⟩, ⟨S_f58_3, D_f58_3⟩] S_f58 x 4000 = (tt_f58  x).tree J_f58.enc := by kernel_rfl
theorem st_f58  : LabOK J_f58 S_f58 (.of tt_f58) :=
  lab_ok mixed_ok (labs_cons rfl ok_f58_5 (labs_cons rfl ok_f58_3 labs_nil)) 4000 (dn_f58 ) (sd_f58 )
noncomputable def D_f58 : Dyn X_f58 R_f58 := .of tt_f58
theorem ct_f58 (x : X_f58) (y : R_f58) (h : D_f58.rel x y) : OK Try.prog 58 [(eSl none 1 (V.int .i64)) x] [] ((V.int .i64) y) [] :=
  contract (fn := Try.f58) (J := J_f58) (S := S_f58) (D := D_f58) (by kernel_rfl) (code := Try.f58.body.getD .skip) (by kernel_rfl) rfl st_f58 rfl (x := x) (y := y) h rfl rfl rfl rfl rfl (by kernel_rfl)
noncomputable def con_f58 : Con Try.prog where
  f := 58
  fn := Try.f58
  hf := by kernel_rfl
  hb := by kernel_rfl
  hn := by kernel_rfl
  X := X_f58
  Y := R_f58
  args := fun x => [(eSl none 1 (V.int .i64)) x]
  objs := fun x => []
  res := fun y => (V.int .i64) y
  outs := fun y => []
  rel := D_f58.rel
  ev := D_f58.ev
  evOK := D_f58.evOK
  dec := fun l m => ((dSl dI) (at_ l 0))
  ash := [(.sl none 1 (V.int .i64 0))]
  osh := []
  ok := ct_f58

/-! slices.Max[[]int,int] -/
abbrev X_f59 : Type := (Sl Int)
abbrev R_f59 : Type := Int
noncomputable def J_f59 : Job Try.prog where
  fn := Try.f59
  nt := 25
  pol := tabN 0 [(16, 1), (18, 1), (24, 1)]
  hint := tabN [] []
  finH := []
  rsh := [.any]
  psh := []
  tab := []
  R := R_f59
  enc := fun y => [(V.int .i64) y]
noncomputable def S_f59 : LabS where
  id := 0
  K := [.code (Try.f59.body.getD .skip)]
  lay := entryLay 1 0
  X := X_f59
  enc := fun x => [(eSl none 1 (V.int .i64)) x]
  dec := fun l => ((dSl dI) (at_ l 0))
structure X_f59_3 where
  x_0 : (Sl Int)
noncomputable def S_f59_3 : LabS where
  id := 3
  K := (kAt 3 (Try.f59.body.getD .skip) []).getD []
  lay := { live := [(0, (.sl none 1 (V.int .i64 0)))], pars := [], locs := [] }
  X := X_f59_3
  enc := fun x => [(eSl none 1 (V.int .i64)) x.x_0]
  dec := fun l => ⟨(dSl dI) (at_ l 0)⟩
structure X_f59_5 where
  x_0 : (Sl Int)
  m_3 : Int
  i_4 : Int
noncomputable def S_f59_5 : LabS where
  id := 5
  K := (kAt 5 (Try.f59.body.getD .skip) []).getD []
  lay := { live := [(0, (.sl none 1 (V.int .i64 0))), (3, .any), (4, .any)], pars := [], locs := [] }
  X := X_f59_5
  enc := fun x => [(eSl none 1 (V.int .i64)) x.x_0, (V.int .i64) x.m_3, (V.int .i64) x.i_4]
  dec := fun l => ⟨(dSl dI) (at_ l 0), dI (at_ l 1), dI (at_ l 2)⟩
noncomputable def tt_f59_5 (D_f59_5 : Dyn X_f59_5 R_f59) (x : X_f59_5) : TT Try.prog R_f59 :=
 (.ite (Go.Vm.ilt x.i_4 ((x.x_0.n : Nat) : Int))
  (.need (Go.Vm.inb x.i_4 x.x_0.n) <|
  (.jump S_f59_5 D_f59_5 (X_f59_5.mk x.x_0 (Go.Vm.imax x.m_3 (x.x_0.get (Int.toNat x.i_4))) (Go.IntKind.wrap Go.IntKind.i64 (x.i_4 + (1 : Int)))))
  )
  (.ret x.m_3)
 )
theorem sd_f59_5 (D_f59_5 : Dyn X_f59_5 R_f59) (x : X_f59_5) : (tt_f59_5 D_f59_5 x).Sides :=
  (TT.s_ite (TT.s_need TT.s_jump) TT.s_ret)

theorem dn_f59_5 (D_f59_5 : Dyn X_f59_5 R_f59) (x : X_f59_5) : J_f59.den [⟨S_f59_5, D_f59_5⟩] S_f59_5 x 4000 = (tt_f59_5 D_f59_5 x).tree J_f59.enc := by kernel_rfl
theorem st_f59_5 (D_f59_5 : Dyn X_f59_5 R_f59) (h_5 : LabOK J_f59 S_f59_5 D_f59_5) : LabOK J_f59 S_f59_5 (.of (tt_f59_5 D_f59_5)) :=
  lab_ok mixed_ok (labs_cons rfl h_5 labs_nil) 4000 (dn_f59_5 D_f59_5) (sd_f59_5 D_f59_5)
noncomputable def D_f59_5 : Dyn X_f59_5 R_f59 := Dyn.loop (tt_f59_5 )
theorem ok_f59_5  : LabOK J_f59 S_f59_5 (D_f59_5 ) :=
  loop_ok fun D h => st_f59_5  D  h
noncomputable def tt_f59_3 (x : X_f59_3) : TT Try.prog R_f59 :=
 (.need (Go.Vm.inb (0 : Int) x.x_0.n) <|
 (.jump S_f59_5 D_f59_5 (X_f59_5.mk x.x_0 (x.x_0.get (Int.toNat (0 : Int))) (1 : Int)))
 )
theorem sd_f59_3 (x : X_f59_3) : (tt_f59_3  x).Sides :=
  (TT.s_need TT.s_jump)

theorem dn_f59_3 (x : X_f59_3) : J_f59.den [⟨S_f59_5, D_f59_5⟩] S_f59_3 x 4000 = (tt_f59_3  x).tree J_f59.enc := by kernel_rfl
theorem st_f59_3  : LabOK J_f59 S_f59_3 (.of tt_f59_3) :=
  lab_ok mixed_ok (labs_cons rfl ok_f59_5 labs_nil) 4000 (dn_f59_3 ) (sd_f59_3 )
noncomputable def D_f59_3 : Dyn X_f59_3 R_f59 := .of (tt_f59_3 )
theorem ok_f59_3  : LabOK J_f59 S_f59_3 (D_f59_3 ) :=
  st_f59_3  
noncomputable def tt_f59 (x : X_f59) : TT Try.prog R_f59 :=
 (.ite (Go.Vm.ilt ((x.n : Nat) : Int) (1 : Int))
  .fail
  (.jump S_f59_3 D_f59_3 (X_f59_3.mk x))
 )
theorem sd_f59 (x : X_f59) : (tt_f59  x).Sides :=
  (TT.s_ite TT.s_fail TT.s_jump)

theorem dn_f59 (x : X_f59) : J_f59.den [⟨S_f59_5, D_f59_5⟩, ⟨S_f59_3, D_f59_3⟩] S_f59 x 4000 = (tt_f59  x).tree J_f59.enc := by kernel_rfl
theorem st_f59  : LabOK J_f59 S_f59 (.of tt_f59) :=
  lab_ok mixed_ok (labs_cons rfl ok_f59_5 (labs_cons rfl ok_f59_3 labs_nil)) 4000 (dn_f59 ) (sd_f59 )
noncomputable def D_f59 : Dyn X_f59 R_f59 := .of tt_f59
theorem ct_f59 (x : X_f59) (y : R_f59) (h : D_f59.rel x y) : OK Try.prog 59 [(eSl none 1 (V.int .i64)) x] [] ((V.int .i64) y) [] :=
  contract (fn := Try.f59) (J := J_f59) (S := S_f59) (D := D_f59) (by kernel_rfl) (code := Try.f59.body.getD .skip) (by kernel_rfl) rfl st_f59 rfl (x := x) (y := y) h rfl rfl rfl rfl rfl (by kernel_rfl)
noncomputable def con_f59 : Con Try.prog where
  f := 59
  fn := Try.f59
  hf := by kernel_rfl
  hb := by kernel_rfl
  hn := by kernel_rfl
  X := X_f59
  Y := R_f59
  args := fun x => [(eSl none 1 (V.int .i64)) x]
  objs := fun x => []
  res := fun y => (V.int .i64) y
  outs := fun y => []
  rel := D_f59.rel
  ev := D_f59.ev
  evOK := D_f59.evOK
  dec := fun l m => ((dSl dI) (at_ l 0))
  ash := [(.sl none 1 (V.int .i64 0))]
  osh := []
  ok := ct_f59

/-! snap.small -/
abbrev X_f38 : Type := (Sl Int)
abbrev R_f38 : Type := Bool
noncomputable def J_f38 : Job Try.prog where
  fn := Try.f38
  nt := 11
  pol := tabN 0 [(6, 1), (7, 1)]
  hint := tabN [] []
  finH := []
  rsh := [.any]
  psh := []
  tab := [con_f58, con_f59]
  R := R_f38
  enc := fun y => [V.bool y]
noncomputable def S_f38 : LabS where
  id := 0
  K := [.code (Try.f38.body.getD .skip)]
  lay := entryLay 1 0
  X := X_f38
  enc := fun x => [(eSl none 1 (V.int .i64)) x]
  dec := fun l => ((dSl dI) (at_ l 0))
noncomputable def tt_f38 (x : X_f38) : TT Try.prog R_f38 :=
 (.call con_f58 x fun (y1 : R_f58) =>
 (.ite (Go.Vm.ile (0 : Int) y1)
  (.call con_f59 x fun (y2 : R_f59) =>
  (.ret (Go.Vm.ile y2 (65535 : Int)))
  )
  (.ret false)
 )
 )
theorem sd_f38 (x : X_f38) : (tt_f38  x).Sides :=
  (TT.s_call fun _ => (TT.s_ite (TT.s_call fun _ => TT.s_ret) TT.s_ret))

theorem dn_f38 (x : X_f38) : J_f38.den [] S_f38 x 4000 = (tt_f38  x).tree J_f38.enc := by kernel_rfl
theorem st_f38  : LabOK J_f38 S_f38 (.of tt_f38) :=
  lab_ok mixed_ok labs_nil 4000 (dn_f38 ) (sd_f38 )
noncomputable def D_f38 : Dyn X_f38 R_f38 := .of tt_f38
theorem ct_f38 (x : X_f38) (y : R_f38) (h : D_f38.rel x y) : OK Try.prog 38 [(eSl none 1 (V.int .i64)) x] [] (V.bool y) [] :=
  contract (fn := Try.f38) (J := J_f38) (S := S_f38) (D := D_f38) (by kernel_rfl) (code := Try.f38.body.getD .skip) (by kernel_rfl) rfl st_f38 rfl (x := x) (y := y) h rfl rfl rfl rfl rfl (by kernel_rfl)
noncomputable def con_f38 : Con Try.prog where
  f := 38
  fn := Try.f38
  hf := by kernel_rfl
  hb := by kernel_rfl
  hn := by kernel_rfl
  X := X_f38
  Y := R_f38
  args := fun x => [(eSl none 1 (V.int .i64)) x]
  objs := fun x => []
  res := fun y => V.bool y
  outs := fun y => []
  rel := D_f38.rel
  ev := D_f38.ev
  evOK := D_f38.evOK
  dec := fun l m => ((dSl dI) (at_ l 0))
  ash := [(.sl none 1 (V.int .i64 0))]
  osh := []
  ok := ct_f38

structure TApi_Slot where
  Stamp : Int
  Value : Int
  Left : Int

def d_TApi_Slot (v : V) : TApi_Slot :=
  ⟨dI (fd v 0), dI (fd v 1), dI (fd v 2)⟩

def e_TApi_Slot (x : TApi_Slot) : V :=
  V.cons ((V.int .u64) x.Stamp) (V.cons ((V.int .u64) x.Value) (V.cons ((V.int .i64) x.Left) (V.unit)))

/-! snap.written$1 -/
abbrev X_f40 : Type := TApi_Slot
abbrev R_f40 : Type := Bool
noncomputable def J_f40 : Job Try.prog where
  fn := Try.f40
  nt := 8
  pol := tabN 0 [(1, 3)]
  hint := tabN [] []
  finH := []
  rsh := [.any]
  psh := []
  tab := [con_f38]
  R := R_f40
  enc := fun y => [V.bool y]
noncomputable def S_f40 : LabS where
  id := 0
  K := [.code (Try.f40.body.getD .skip)]
  lay := entryLay 1 0
  X := X_f40
  enc := fun x => [e_TApi_Slot x]
  dec := fun l => (d_TApi_Slot (at_ l 0))
noncomputable def tt_f40 (x : X_f40) : TT Try.prog R_f40 :=
 (.call con_f38 (Go.Vm.Sl.mk false (1 : Nat) (fun _i1 => x.Left)) fun (y1 : R_f38) =>
 (.ret (!y1))
 )
theorem sd_f40 (x : X_f40) : (tt_f40  x).Sides :=
  (TT.s_call fun _ => TT.s_ret)

theorem dn_f40 (x : X_f40) : J_f40.den [] S_f40 x 4000 = (tt_f40  x).tree J_f40.enc := by kernel_rfl
theorem st_f40  : LabOK J_f40 S_f40 (.of tt_f40) :=
  lab_ok mixed_ok labs_nil 4000 (dn_f40 ) (sd_f40 )
noncomputable def D_f40 : Dyn X_f40 R_f40 := .of tt_f40
theorem ct_f40 (x : X_f40) (y : R_f40) (h : D_f40.rel x y) : OK Try.prog 40 [e_TApi_Slot x] [] (V.bool y) [] :=
  contract (fn := Try.f40) (J := J_f40) (S := S_f40) (D := D_f40) (by kernel_rfl) (code := Try.f40.body.getD .skip) (by kernel_rfl) rfl st_f40 rfl (x := x) (y := y) h rfl rfl rfl rfl rfl (by kernel_rfl)
noncomputable def con_f40 : Con Try.prog where
  f := 40
  fn := Try.f40
  hf := by kernel_rfl
  hb := by kernel_rfl
  hn := by kernel_rfl
  X := X_f40
  Y := R_f40
  args := fun x => [e_TApi_Slot x]
  objs := fun x => []
  res := fun y => V.bool y
  outs := fun y => []
  rel := D_f40.rel
  ev := D_f40.ev
  evOK := D_f40.evOK
  dec := fun l m => (d_TApi_Slot (at_ l 0))
  ash := [.any]
  osh := []
  ok := ct_f40

structure TApi_ThreadState where
  At : Int
  Phase : Int
  Ring : Int
  Status : Int
  Ticket : Int
  Regs : (Nat → Int)
  Seen : (Sl Int)

def d_TApi_ThreadState (v : V) : TApi_ThreadState :=
  ⟨dI (fd v 0), dI (fd v 1), dI (fd v 2), dI (fd v 3), dI (fd v 4), (dArr dI) (fd v 5), (dSl dI) (fd v 6)⟩

def e_TApi_ThreadState (x : TApi_ThreadState) : V :=
  V.cons ((V.int .i64) x.At) (V.cons ((V.int .i64) x.Phase) (V.cons ((V.int .i64) x.Ring) (V.cons ((V.int .i64) x.Status) (V.cons ((V.int .u64) x.Ticket) (V.cons ((eArr 1 8 (V.int .u64)) x.Regs) (V.cons ((eSl none 1 (V.int .u64)) x.Seen) (V.unit)))))))

def sh_TApi_ThreadState : Sh := (.cons .any (.cons .any (.cons .any (.cons .any (.cons .any (.cons .any (.cons (.sl none 1 (V.int .u64 0)) .any)))))))

structure TApi_RingState where
  Tail : Int
  Heads : (Sl Int)
  Closed : Bool
  Slots : (Sl TApi_Slot)

def d_TApi_RingState (v : V) : TApi_RingState :=
  ⟨dI (fd v 0), (dSl dI) (fd v 1), dB (fd v 2), (dSl d_TApi_Slot) (fd v 3)⟩

def e_TApi_RingState (x : TApi_RingState) : V :=
  V.cons ((V.int .u64) x.Tail) (V.cons ((eSl none 1 (V.int .u64)) x.Heads) (V.cons (V.bool x.Closed) (V.cons ((eSl none 3 e_TApi_Slot) x.Slots) (V.unit))))

def sh_TApi_RingState : Sh := (.cons .any (.cons (.sl none 1 (V.int .u64 0)) (.cons .any (.cons (.sl none 3 (e_TApi_Slot (d_TApi_Slot .undef))) .any))))

structure TApi_State where
  Threads : (Sl TApi_ThreadState)
  Rings : (Sl TApi_RingState)
  Now : Int
  Reads : Int
  Ended : Bool

def d_TApi_State (v : V) : TApi_State :=
  ⟨(dSl d_TApi_ThreadState) (fd v 0), (dSl d_TApi_RingState) (fd v 1), dI (fd v 2), dI (fd v 3), dB (fd v 4)⟩

def e_TApi_State (x : TApi_State) : V :=
  V.cons ((eSl none 14 e_TApi_ThreadState) x.Threads) (V.cons ((eSl none 4 e_TApi_RingState) x.Rings) (V.cons ((V.int .u64) x.Now) (V.cons ((V.int .u64) x.Reads) (V.cons (V.bool x.Ended) (V.unit)))))

def sh_TApi_State : Sh := (.cons (.sl none 14 (e_TApi_ThreadState (d_TApi_ThreadState .undef))) (.cons (.sl none 4 (e_TApi_RingState (d_TApi_RingState .undef))) .any))

/-! slices.IndexFunc[[]api.Slot,api.Slot] (f60v0) -/
abbrev X_f60v0 : Type := (Sl TApi_Slot)
abbrev R_f60v0 : Type := Int
noncomputable def J_f60v0 : Job Try.prog where
  fn := Try.f60
  nt := 19
  pol := tabN 0 [(8, 1), (17, 1)]
  hint := tabN [] []
  finH := []
  rsh := [.any]
  psh := []
  tab := [con_f40]
  R := R_f60v0
  enc := fun y => [(V.int .i64) y]
noncomputable def S_f60v0 : LabS where
  id := 0
  K := [.code (Try.f60.body.getD .skip)]
  lay := entryLay 2 0
  X := X_f60v0
  enc := fun x => [(eSl none 3 e_TApi_Slot) x, (V.fn 40 V.unit)]
  dec := fun l => ((dSl d_TApi_Slot) (at_ l 0))
structure X_f60v0_2 where
  s_0 : (Sl TApi_Slot)
  q_7 : Int
  q_8 : Int
noncomputable def S_f60v0_2 : LabS where
  id := 2
  K := (kAt 2 (Try.f60.body.getD .skip) []).getD []
  lay := { live := [(0, (.sl none 3 (e_TApi_Slot (d_TApi_Slot .undef)))), (1, .any), (7, .any), (8, .any)], pars := [], locs := [] }
  X := X_f60v0_2
  enc := fun x => [(eSl none 3 e_TApi_Slot) x.s_0, (V.fn 40 V.unit), (V.int .i64) x.q_7, (V.int .i64) x.q_8]
  dec := fun l => ⟨(dSl d_TApi_Slot) (at_ l 0), dI (at_ l 2), dI (at_ l 3)⟩
noncomputable def tt_f60v0_2 (D_f60v0_2 : Dyn X_f60v0_2 R_f60v0) (x : X_f60v0_2) : TT Try.prog R_f60v0 :=
 (.ite (Go.Vm.ilt x.q_8 x.q_7)
  (.need (Go.Vm.inb x.q_8 x.s_0.n) <|
  (.call con_f40 (x.s_0.get (Int.toNat x.q_8)) fun (y2 : R_f40) =>
  (.ite y2
   (.ret x.q_8)
   (.jump S_f60v0_2 D_f60v0_2 (X_f60v0_2.mk x.s_0 x.q_7 (Go.IntKind.wrap Go.IntKind.i64 (x.q_8 + (1 : Int)))))
  )
  )
  )
  (.ret (-(1 : Int)))
 )
theorem sd_f60v0_2 (D_f60v0_2 : Dyn X_f60v0_2 R_f60v0) (x : X_f60v0_2) : (tt_f60v0_2 D_f60v0_2 x).Sides :=
  (TT.s_ite (TT.s_need (TT.s_call fun _ => (TT.s_ite TT.s_ret TT.s_jump))) TT.s_ret)

theorem dn_f60v0_2 (D_f60v0_2 : Dyn X_f60v0_2 R_f60v0) (x : X_f60v0_2) : J_f60v0.den [⟨S_f60v0_2, D_f60v0_2⟩] S_f60v0_2 x 4000 = (tt_f60v0_2 D_f60v0_2 x).tree J_f60v0.enc := by kernel_rfl
theorem st_f60v0_2 (D_f60v0_2 : Dyn X_f60v0_2 R_f60v0) (h_2 : LabOK J_f60v0 S_f60v0_2 D_f60v0_2) : LabOK J_f60v0 S_f60v0_2 (.of (tt_f60v0_2 D_f60v0_2)) :=
  lab_ok mixed_ok (labs_cons rfl h_2 labs_nil) 4000 (dn_f60v0_2 D_f60v0_2) (sd_f60v0_2 D_f60v0_2)
noncomputable def D_f60v0_2 : Dyn X_f60v0_2 R_f60v0 := Dyn.loop (tt_f60v0_2 )
theorem ok_f60v0_2  : LabOK J_f60v0 S_f60v0_2 (D_f60v0_2 ) :=
  loop_ok fun D h => st_f60v0_2  D  h
noncomputable def tt_f60v0 (x : X_f60v0) : TT Try.prog R_f60v0 :=
 (.jump S_f60v0_2 D_f60v0_2 (X_f60v0_2.mk x ((x.n : Nat) : Int) (0 : Int)))
theorem sd_f60v0 (x : X_f60v0) : (tt_f60v0  x).Sides :=
  TT.s_jump

theorem dn_f60v0 (x : X_f60v0) : J_f60v0.den [⟨S_f60v0_2, D_f60v0_2⟩] S_f60v0 x 4000 = (tt_f60v0  x).tree J_f60v0.enc := by kernel_rfl
theorem st_f60v0  : LabOK J_f60v0 S_f60v0 (.of tt_f60v0) :=
  lab_ok mixed_ok (labs_cons rfl ok_f60v0_2 labs_nil) 4000 (dn_f60v0 ) (sd_f60v0 )
noncomputable def D_f60v0 : Dyn X_f60v0 R_f60v0 := .of tt_f60v0
theorem ct_f60v0 (x : X_f60v0) (y : R_f60v0) (h : D_f60v0.rel x y) : OK Try.prog 60 [(eSl none 3 e_TApi_Slot) x, (V.fn 40 V.unit)] [] ((V.int .i64) y) [] :=
  contract (fn := Try.f60) (J := J_f60v0) (S := S_f60v0) (D := D_f60v0) (by kernel_rfl) (code := Try.f60.body.getD .skip) (by kernel_rfl) rfl st_f60v0 rfl (x := x) (y := y) h rfl rfl rfl rfl rfl (by kernel_rfl)
noncomputable def con_f60v0 : Con Try.prog where
  f := 60
  fn := Try.f60
  hf := by kernel_rfl
  hb := by kernel_rfl
  hn := by kernel_rfl
  X := X_f60v0
  Y := R_f60v0
  args := fun x => [(eSl none 3 e_TApi_Slot) x, (V.fn 40 V.unit)]
  objs := fun x => []
  res := fun y => (V.int .i64) y
  outs := fun y => []
  rel := D_f60v0.rel
  ev := D_f60v0.ev
  evOK := D_f60v0.evOK
  dec := fun l m => ((dSl d_TApi_Slot) (at_ l 0))
  ash := [(.sl none 3 (e_TApi_Slot (d_TApi_Slot .undef))), .any]
  osh := []
  ok := ct_f60v0

/-! slices.ContainsFunc[[]api.Slot,api.Slot] (f39v0) -/
abbrev X_f39v0 : Type := (Sl TApi_Slot)
abbrev R_f39v0 : Type := Bool
noncomputable def J_f39v0 : Job Try.prog where
  fn := Try.f39
  nt := 9
  pol := tabN 0 [(5, 1), (6, 1)]
  hint := tabN [] []
  finH := []
  rsh := [.any]
  psh := []
  tab := [con_f60v0]
  R := R_f39v0
  enc := fun y => [V.bool y]
noncomputable def S_f39v0 : LabS where
  id := 0
  K := [.code (Try.f39.body.getD .skip)]
  lay := entryLay 2 0
  X := X_f39v0
  enc := fun x => [(eSl none 3 e_TApi_Slot) x, (V.fn 40 V.unit)]
  dec := fun l => ((dSl d_TApi_Slot) (at_ l 0))
noncomputable def tt_f39v0 (x : X_f39v0) : TT Try.prog R_f39v0 :=
 (.call con_f60v0 x fun (y1 : R_f60v0) =>
 (.ret (Go.Vm.ile (0 : Int) y1))
 )
theorem sd_f39v0 (x : X_f39v0) : (tt_f39v0  x).Sides :=
  (TT.s_call fun _ => TT.s_ret)

theorem dn_f39v0 (x : X_f39v0) : J_f39v0.den [] S_f39v0 x 4000 = (tt_f39v0  x).tree J_f39v0.enc := by kernel_rfl
theorem st_f39v0  : LabOK J_f39v0 S_f39v0 (.of tt_f39v0) :=
  lab_ok mixed_ok labs_nil 4000 (dn_f39v0 ) (sd_f39v0 )
noncomputable def D_f39v0 : Dyn X_f39v0 R_f39v0 := .of tt_f39v0
theorem ct_f39v0 (x : X_f39v0) (y : R_f39v0) (h : D_f39v0.rel x y) : OK Try.prog 39 [(eSl none 3 e_TApi_Slot) x, (V.fn 40 V.unit)] [] (V.bool y) [] :=
  contract (fn := Try.f39) (J := J_f39v0) (S := S_f39v0) (D := D_f39v0) (by kernel_rfl) (code := Try.f39.body.getD .skip) (by kernel_rfl) rfl st_f39v0 rfl (x := x) (y := y) h rfl rfl rfl rfl rfl (by kernel_rfl)
noncomputable def con_f39v0 : Con Try.prog where
  f := 39
  fn := Try.f39
  hf := by kernel_rfl
  hb := by kernel_rfl
  hn := by kernel_rfl
  X := X_f39v0
  Y := R_f39v0
  args := fun x => [(eSl none 3 e_TApi_Slot) x, (V.fn 40 V.unit)]
  objs := fun x => []
  res := fun y => V.bool y
  outs := fun y => []
  rel := D_f39v0.rel
  ev := D_f39v0.ev
  evOK := D_f39v0.evOK
  dec := fun l m => ((dSl d_TApi_Slot) (at_ l 0))
  ash := [(.sl none 3 (e_TApi_Slot (d_TApi_Slot .undef))), .any]
  osh := []
  ok := ct_f39v0

/-! snap.written -/
abbrev X_f15 : Type := TApi_State
abbrev R_f15 : Type := Bool
noncomputable def J_f15 : Job Try.prog where
  fn := Try.f15
  nt := 65
  pol := tabN 0 [(1, 3), (11, 1), (20, 1), (28, 1), (45, 1), (53, 1), (59, 1)]
  hint := tabN [] []
  finH := []
  rsh := [.any]
  psh := []
  tab := [con_f38, con_f39v0]
  R := R_f15
  enc := fun y => [V.bool y]
noncomputable def S_f15 : LabS where
  id := 0
  K := [.code (Try.f15.body.getD .skip)]
  lay := entryLay 1 0
  X := X_f15
  enc := fun x => [e_TApi_State x]
  dec := fun l => (d_TApi_State (at_ l 0))
structure X_f15_3 where
  s_1 : TApi_State
noncomputable def S_f15_3 : LabS where
  id := 3
  K := (kAt 3 (Try.f15.body.getD .skip) []).getD []
  lay := { live := [(1, .any)], pars := [], locs := [] }
  X := X_f15_3
  enc := fun x => [(eVp e_TApi_State) x.s_1]
  dec := fun l => ⟨(dVp d_TApi_State) (at_ l 0)⟩
structure X_f15_4 where
  s_1 : TApi_State
  q_18 : (Sl TApi_ThreadState)
  q_19 : Int
  q_20 : Int
noncomputable def S_f15_4 : LabS where
  id := 4
  K := (kAt 4 (Try.f15.body.getD .skip) []).getD []
  lay := { live := [(1, .any), (18, (.sl none 14 (e_TApi_ThreadState (d_TApi_ThreadState .undef)))), (19, .any), (20, .any)], pars := [], locs := [] }
  X := X_f15_4
  enc := fun x => [(eVp e_TApi_State) x.s_1, (eSl none 14 e_TApi_ThreadState) x.q_18, (V.int .i64) x.q_19, (V.int .i64) x.q_20]
  dec := fun l => ⟨(dVp d_TApi_State) (at_ l 0), (dSl d_TApi_ThreadState) (at_ l 1), dI (at_ l 2), dI (at_ l 3)⟩
structure X_f15_8 where
  s_1 : TApi_State
  q_18 : (Sl TApi_ThreadState)
  q_19 : Int
  q_20 : Int
noncomputable def S_f15_8 : LabS where
  id := 8
  K := (kAt 8 (Try.f15.body.getD .skip) []).getD []
  lay := { live := [(1, .any), (18, (.sl none 14 (e_TApi_ThreadState (d_TApi_ThreadState .undef)))), (19, .any), (20, .any)], pars := [], locs := [] }
  X := X_f15_8
  enc := fun x => [(eVp e_TApi_State) x.s_1, (eSl none 14 e_TApi_ThreadState) x.q_18, (V.int .i64) x.q_19, (V.int .i64) x.q_20]
  dec := fun l => ⟨(dVp d_TApi_State) (at_ l 0), (dSl d_TApi_ThreadState) (at_ l 1), dI (at_ l 2), dI (at_ l 3)⟩
structure X_f15_9 where
  s_1 : TApi_State
noncomputable def S_f15_9 : LabS where
  id := 9
  K := (kAt 9 (Try.f15.body.getD .skip) []).getD []
  lay := { live := [(1, .any)], pars := [], locs := [] }
  X := X_f15_9
  enc := fun x => [(eVp e_TApi_State) x.s_1]
  dec := fun l => ⟨(dVp d_TApi_State) (at_ l 0)⟩
structure X_f15_10 where
  q_43 : (Sl TApi_RingState)
  q_44 : Int
  q_45 : Int
noncomputable def S_f15_10 : LabS where
  id := 10
  K := (kAt 10 (Try.f15.body.getD .skip) []).getD []
  lay := { live := [(43, (.sl none 4 (e_TApi_RingState (d_TApi_RingState .undef)))), (44, .any), (45, .any)], pars := [], locs := [] }
  X := X_f15_10
  enc := fun x => [(eSl none 4 e_TApi_RingState) x.q_43, (V.int .i64) x.q_44, (V.int .i64) x.q_45]
  dec := fun l => ⟨(dSl d_TApi_RingState) (at_ l 0), dI (at_ l 1), dI (at_ l 2)⟩
structure X_f15_14 where
  q_43 : (Sl TApi_RingState)
  q_44 : Int
  q_45 : Int
noncomputable def S_f15_14 : LabS where
  id := 14
  K := (kAt 14 (Try.f15.body.getD .skip) []).getD []
  lay := { live := [(43, (.sl none 4 (e_TApi_RingState (d_TApi_RingState .undef)))), (44, .any), (45, .any)], pars := [], locs := [] }
  X := X_f15_14
  enc := fun x => [(eSl none 4 e_TApi_RingState) x.q_43, (V.int .i64) x.q_44, (V.int .i64) x.q_45]
  dec := fun l => ⟨(dSl d_TApi_RingState) (at_ l 0), dI (at_ l 1), dI (at_ l 2)⟩
noncomputable def tt_f15_14 (D_f15_10 : Dyn X_f15_10 R_f15) (x : X_f15_14) : TT Try.prog R_f15 :=
 (.jump S_f15_10 D_f15_10 (X_f15_10.mk x.q_43 x.q_44 (Go.IntKind.wrap Go.IntKind.i64 (x.q_45 + (1 : Int)))))
theorem sd_f15_14 (D_f15_10 : Dyn X_f15_10 R_f15) (x : X_f15_14) : (tt_f15_14 D_f15_10 x).Sides :=
  TT.s_jump

theorem dn_f15_14 (D_f15_10 : Dyn X_f15_10 R_f15) (x : X_f15_14) : J_f15.den [⟨S_f15_10, D_f15_10⟩] S_f15_14 x 4000 = (tt_f15_14 D_f15_10 x).tree J_f15.enc := by kernel_rfl
theorem st_f15_14 (D_f15_10 : Dyn X_f15_10 R_f15) (h_10 : LabOK J_f15 S_f15_10 D_f15_10) : LabOK J_f15 S_f15_14 (.of (tt_f15_14 D_f15_10)) :=
  lab_ok mixed_ok (labs_cons rfl h_10 labs_nil) 4000 (dn_f15_14 D_f15_10) (sd_f15_14 D_f15_10)
noncomputable def D_f15_14 (D_f15_10 : Dyn X_f15_10 R_f15) : Dyn X_f15_14 R_f15 := .of (tt_f15_14 D_f15_10)
theorem ok_f15_14 (D_f15_10 : Dyn X_f15_10 R_f15) (h_10 : LabOK J_f15 S_f15_10 D_f15_10) : LabOK J_f15 S_f15_14 (D_f15_14 D_f15_10) :=
  st_f15_14 D_f15_10 h_10
noncomputable def tt_f15_10 (D_f15_10 : Dyn X_f15_10 R_f15) (x : X_f15_10) : TT Try.prog R_f15 :=
 (.ite (Go.Vm.ilt x.q_45 x.q_44)
  (.need (Go.Vm.inb x.q_45 x.q_43.n) <|
  (.ite (Go.Vm.ilt (8 : Int) (((x.q_43.get (Int.toNat x.q_45)).Heads.n : Nat) : Int))
   (.ret false)
   (.ite (Go.Vm.ilt (64 : Int) (((x.q_43.get (Int.toNat x.q_45)).Slots.n : Nat) : Int))
    (.ret false)
    (.call con_f39v0 (x.q_43.get (Int.toNat x.q_45)).Slots fun (y2 : R_f39v0) =>
    (.ite y2
     (.ret false)
     (.jump S_f15_14 (D_f15_14 D_f15_10) (X_f15_14.mk x.q_43 x.q_44 x.q_45))
    )
    )
   )
  )
  )
  (.ret true)
 )
theorem sd_f15_10 (D_f15_10 : Dyn X_f15_10 R_f15) (x : X_f15_10) : (tt_f15_10 D_f15_10 x).Sides :=
  (TT.s_ite (TT.s_need (TT.s_ite TT.s_ret (TT.s_ite TT.s_ret (TT.s_call fun _ => (TT.s_ite TT.s_ret TT.s_jump))))) TT.s_ret)

theorem dn_f15_10 (D_f15_10 : Dyn X_f15_10 R_f15) (x : X_f15_10) : J_f15.den [⟨S_f15_10, D_f15_10⟩, ⟨S_f15_14, (D_f15_14 D_f15_10)⟩] S_f15_10 x 4000 = (tt_f15_10 D_f15_10 x).tree J_f15.enc := by kernel_rfl
theorem st_f15_10 (D_f15_10 : Dyn X_f15_10 R_f15) (h_10 : LabOK J_f15 S_f15_10 D_f15_10) : LabOK J_f15 S_f15_10 (.of (tt_f15_10 D_f15_10)) :=
  lab_ok mixed_ok (labs_cons rfl h_10 (labs_cons rfl (ok_f15_14 D_f15_10 h_10) labs_nil)) 4000 (dn_f15_10 D_f15_10) (sd_f15_10 D_f15_10)
noncomputable def D_f15_10 : Dyn X_f15_10 R_f15 := Dyn.loop (tt_f15_10 )
theorem ok_f15_10  : LabOK J_f15 S_f15_10 (D_f15_10 ) :=
  loop_ok fun D h => st_f15_10  D  h
noncomputable def tt_f15_9 (x : X_f15_9) : TT Try.prog R_f15 :=
 (.jump S_f15_10 D_f15_10 (X_f15_10.mk x.s_1.Rings ((x.s_1.Rings.n : Nat) : Int) (0 : Int)))
theorem sd_f15_9 (x : X_f15_9) : (tt_f15_9  x).Sides :=
  TT.s_jump

theorem dn_f15_9 (x : X_f15_9) : J_f15.den [⟨S_f15_10, D_f15_10⟩] S_f15_9 x 4000 = (tt_f15_9  x).tree J_f15.enc := by kernel_rfl
theorem st_f15_9  : LabOK J_f15 S_f15_9 (.of tt_f15_9) :=
  lab_ok mixed_ok (labs_cons rfl ok_f15_10 labs_nil) 4000 (dn_f15_9 ) (sd_f15_9 )
noncomputable def D_f15_9 : Dyn X_f15_9 R_f15 := .of (tt_f15_9 )
theorem ok_f15_9  : LabOK J_f15 S_f15_9 (D_f15_9 ) :=
  st_f15_9  
noncomputable def tt_f15_8 (D_f15_4 : Dyn X_f15_4 R_f15) (x : X_f15_8) : TT Try.prog R_f15 :=
 (.jump S_f15_4 D_f15_4 (X_f15_4.mk x.s_1 x.q_18 x.q_19 (Go.IntKind.wrap Go.IntKind.i64 (x.q_20 + (1 : Int)))))
theorem sd_f15_8 (D_f15_4 : Dyn X_f15_4 R_f15) (x : X_f15_8) : (tt_f15_8 D_f15_4 x).Sides :=
  TT.s_jump

theorem dn_f15_8 (D_f15_4 : Dyn X_f15_4 R_f15) (x : X_f15_8) : J_f15.den [⟨S_f15_4, D_f15_4⟩, ⟨S_f15_10, D_f15_10⟩, ⟨S_f15_9, D_f15_9⟩] S_f15_8 x 4000 = (tt_f15_8 D_f15_4 x).tree J_f15.enc := by kernel_rfl
theorem st_f15_8 (D_f15_4 : Dyn X_f15_4 R_f15) (h_4 : LabOK J_f15 S_f15_4 D_f15_4) : LabOK J_f15 S_f15_8 (.of (tt_f15_8 D_f15_4)) :=
  lab_ok mixed_ok (labs_cons rfl h_4 (labs_cons rfl ok_f15_10 (labs_cons rfl ok_f15_9 labs_nil))) 4000 (dn_f15_8 D_f15_4) (sd_f15_8 D_f15_4)
noncomputable def D_f15_8 (D_f15_4 : Dyn X_f15_4 R_f15) : Dyn X_f15_8 R_f15 := .of (tt_f15_8 D_f15_4)
theorem ok_f15_8 (D_f15_4 : Dyn X_f15_4 R_f15) (h_4 : LabOK J_f15 S_f15_4 D_f15_4) : LabOK J_f15 S_f15_8 (D_f15_8 D_f15_4) :=
  st_f15_8 D_f15_4 h_4
noncomputable def tt_f15_4 (D_f15_4 : Dyn X_f15_4 R_f15) (x : X_f15_4) : TT Try.prog R_f15 :=
 (.ite (Go.Vm.ilt x.q_20 x.q_19)
  (.need (Go.Vm.inb x.q_20 x.q_18.n) <|
  (.ite (Go.Vm.ilt (65536 : Int) (((x.q_18.get (Int.toNat x.q_20)).Seen.n : Nat) : Int))
   (.ret false)
   (.call con_f38 (Go.Vm.Sl.mk false (4 : Nat) (fun i2 => (cond (Nat.beq i2 (0 : Nat)) (x.q_18.get (Int.toNat x.q_20)).At (cond (Nat.beq i2 (1 : Nat)) (x.q_18.get (Int.toNat x.q_20)).Phase (cond (Nat.beq i2 (2 : Nat)) (x.q_18.get (Int.toNat x.q_20)).Ring (x.q_18.get (Int.toNat x.q_20)).Status))))) fun (y2 : R_f38) =>
   (.ite (!y2)
    (.ret false)
    (.jump S_f15_8 (D_f15_8 D_f15_4) (X_f15_8.mk x.s_1 x.q_18 x.q_19 x.q_20))
   )
   )
  )
  )
  (.jump S_f15_9 D_f15_9 (X_f15_9.mk x.s_1))
 )
theorem sd_f15_4 (D_f15_4 : Dyn X_f15_4 R_f15) (x : X_f15_4) : (tt_f15_4 D_f15_4 x).Sides :=
  (TT.s_ite (TT.s_need (TT.s_ite TT.s_ret (TT.s_call fun _ => (TT.s_ite TT.s_ret TT.s_jump)))) TT.s_jump)

theorem dn_f15_4 (D_f15_4 : Dyn X_f15_4 R_f15) (x : X_f15_4) : J_f15.den [⟨S_f15_4, D_f15_4⟩, ⟨S_f15_10, D_f15_10⟩, ⟨S_f15_9, D_f15_9⟩, ⟨S_f15_8, (D_f15_8 D_f15_4)⟩] S_f15_4 x 4000 = (tt_f15_4 D_f15_4 x).tree J_f15.enc := by kernel_rfl
theorem st_f15_4 (D_f15_4 : Dyn X_f15_4 R_f15) (h_4 : LabOK J_f15 S_f15_4 D_f15_4) : LabOK J_f15 S_f15_4 (.of (tt_f15_4 D_f15_4)) :=
  lab_ok mixed_ok (labs_cons rfl h_4 (labs_cons rfl ok_f15_10 (labs_cons rfl ok_f15_9 (labs_cons rfl (ok_f15_8 D_f15_4 h_4) labs_nil)))) 4000 (dn_f15_4 D_f15_4) (sd_f15_4 D_f15_4)
noncomputable def D_f15_4 : Dyn X_f15_4 R_f15 := Dyn.loop (tt_f15_4 )
theorem ok_f15_4  : LabOK J_f15 S_f15_4 (D_f15_4 ) :=
  loop_ok fun D h => st_f15_4  D  h
noncomputable def tt_f15_3 (x : X_f15_3) : TT Try.prog R_f15 :=
 (.jump S_f15_4 D_f15_4 (X_f15_4.mk x.s_1 x.s_1.Threads ((x.s_1.Threads.n : Nat) : Int) (0 : Int)))
theorem sd_f15_3 (x : X_f15_3) : (tt_f15_3  x).Sides :=
  TT.s_jump

theorem dn_f15_3 (x : X_f15_3) : J_f15.den [⟨S_f15_10, D_f15_10⟩, ⟨S_f15_9, D_f15_9⟩, ⟨S_f15_4, D_f15_4⟩] S_f15_3 x 4000 = (tt_f15_3  x).tree J_f15.enc := by kernel_rfl
theorem st_f15_3  : LabOK J_f15 S_f15_3 (.of tt_f15_3) :=
  lab_ok mixed_ok (labs_cons rfl ok_f15_10 (labs_cons rfl ok_f15_9 (labs_cons rfl ok_f15_4 labs_nil))) 4000 (dn_f15_3 ) (sd_f15_3 )
noncomputable def D_f15_3 : Dyn X_f15_3 R_f15 := .of (tt_f15_3 )
theorem ok_f15_3  : LabOK J_f15 S_f15_3 (D_f15_3 ) :=
  st_f15_3  
noncomputable def tt_f15 (x : X_f15) : TT Try.prog R_f15 :=
 (.ite (Go.Vm.ilt (8 : Int) ((x.Threads.n : Nat) : Int))
  (.ret false)
  (.ite (Go.Vm.ilt (8 : Int) ((x.Rings.n : Nat) : Int))
   (.ret false)
   (.jump S_f15_3 D_f15_3 (X_f15_3.mk x))
  )
 )
theorem sd_f15 (x : X_f15) : (tt_f15  x).Sides :=
  (TT.s_ite TT.s_ret (TT.s_ite TT.s_ret TT.s_jump))

theorem dn_f15 (x : X_f15) : J_f15.den [⟨S_f15_10, D_f15_10⟩, ⟨S_f15_9, D_f15_9⟩, ⟨S_f15_4, D_f15_4⟩, ⟨S_f15_3, D_f15_3⟩] S_f15 x 4000 = (tt_f15  x).tree J_f15.enc := by kernel_rfl
theorem st_f15  : LabOK J_f15 S_f15 (.of tt_f15) :=
  lab_ok mixed_ok (labs_cons rfl ok_f15_10 (labs_cons rfl ok_f15_9 (labs_cons rfl ok_f15_4 (labs_cons rfl ok_f15_3 labs_nil)))) 4000 (dn_f15 ) (sd_f15 )
noncomputable def D_f15 : Dyn X_f15 R_f15 := .of tt_f15
theorem ct_f15 (x : X_f15) (y : R_f15) (h : D_f15.rel x y) : OK Try.prog 15 [e_TApi_State x] [] (V.bool y) [] :=
  contract (fn := Try.f15) (J := J_f15) (S := S_f15) (D := D_f15) (by kernel_rfl) (code := Try.f15.body.getD .skip) (by kernel_rfl) rfl st_f15 rfl (x := x) (y := y) h rfl rfl rfl rfl rfl (by kernel_rfl)
noncomputable def con_f15 : Con Try.prog where
  f := 15
  fn := Try.f15
  hf := by kernel_rfl
  hb := by kernel_rfl
  hn := by kernel_rfl
  X := X_f15
  Y := R_f15
  args := fun x => [e_TApi_State x]
  objs := fun x => []
  res := fun y => V.bool y
  outs := fun y => []
  rel := D_f15.rel
  ev := D_f15.ev
  evOK := D_f15.evOK
  dec := fun l m => (d_TApi_State (at_ l 0))
  ash := [sh_TApi_State]
  osh := []
  ok := ct_f15

/-! varint.Print -/
abbrev X_f42 : Type := Int
abbrev R_f42 : Type := ByteArray
noncomputable def J_f42 : Job Try.prog where
  fn := Try.f42
  nt := 21
  pol := tabN 0 [(4, 2), (7, 1), (9, 1), (15, 1), (16, 1)]
  hint := tabN [] []
  finH := []
  rsh := [.any]
  psh := []
  tab := []
  R := R_f42
  enc := fun y => [V.str y]
noncomputable def S_f42 : LabS where
  id := 0
  K := [.code (Try.f42.body.getD .skip)]
  lay := entryLay 1 0
  X := X_f42
  enc := fun x => [(V.int .u64) x]
  dec := fun l => (dI (at_ l 0))
structure X_f42_2 where
  n_0 : Int
  b_3 : (Sl Int)
noncomputable def S_f42_2 : LabS where
  id := 2
  K := (kAt 2 (Try.f42.body.getD .skip) []).getD []
  lay := { live := [(0, .any), (3, (.sl (some 5) 1 (V.int .u8 0)))], pars := [], locs := [] }
  X := X_f42_2
  enc := fun x => [(V.int .u64) x.n_0, (eSl (some 5) 1 (V.int .u8)) x.b_3]
  dec := fun l => ⟨dI (at_ l 0), (dSl dI) (at_ l 1)⟩
structure X_f42_5 where
  n_0 : Int
  b_3 : (Sl Int)
noncomputable def S_f42_5 : LabS where
  id := 5
  K := (kAt 5 (Try.f42.body.getD .skip) []).getD []
  lay := { live := [(0, .any), (3, (.sl (some 5) 1 (V.int .u8 0)))], pars := [], locs := [] }
  X := X_f42_5
  enc := fun x => [(V.int .u64) x.n_0, (eSl (some 5) 1 (V.int .u8)) x.b_3]
  dec := fun l => ⟨dI (at_ l 0), (dSl dI) (at_ l 1)⟩
noncomputable def tt_f42_5 (x : X_f42_5) : TT Try.prog R_f42 :=
 (.need (true && (Go.Vm.room (x.b_3.n + (1 : Nat)) (1 : Nat))) <|
 (.side (∀ i1 : Nat, ((i1 < (x.b_3.n + (1 : Nat))) → (∃ m2 : Int, ((cond (decide ((Go.IntKind.u8 = Go.IntKind.u8))) (Go.Vm.V.int Go.IntKind.u8 (cond (Nat.blt i1 x.b_3.n) (x.b_3.get i1) (Go.IntKind.wrap Go.IntKind.u8 x.n_0))) (cond (Nat.blt i1 x.b_3.n) (Go.Vm.V.int Go.IntKind.u8 (x.b_3.get i1)) (cond false (cond (Nat.beq (17 : Nat) (17 : Nat)) (Go.Vm.V.int Go.IntKind.u8 (Go.IntKind.wrap Go.IntKind.u8 x.n_0)) (cond (Nat.beq (17 : Nat) (16 : Nat)) (cond (Nat.beq (0 : Nat) (15 : Nat)) (cond (Nat.beq (3 : Nat) (0 : Nat)) (Go.Vm.V.int Go.IntKind.u64 x.n_0) (cond (Nat.beq (3 : Nat) (3 : Nat)) (Go.Vm.V.sl (Option.some (5 : Nat)) (1 : Nat) x.b_3.nil x.b_3.n (fun i3 => (Go.Vm.V.int Go.IntKind.u8 (x.b_3.get i3)))) Go.Vm.V.undef)) (cond (Nat.beq (0 : Nat) (3 : Nat)) (Go.Vm.V.sl Option.none (1 : Nat) x.b_3.nil x.b_3.n (fun i3 => (Go.Vm.V.int Go.IntKind.u8 (x.b_3.get i3)))) (cond (Nat.beq (0 : Nat) (0 : Nat)) (Go.Vm.V.int Go.IntKind.u64 x.n_0) (cond (Nat.beq (0 : Nat) (3 : Nat)) (Go.Vm.V.sl (Option.some (5 : Nat)) (1 : Nat) x.b_3.nil x.b_3.n (fun i3 => (Go.Vm.V.int Go.IntKind.u8 (x.b_3.get i3)))) Go.Vm.V.undef)))) (cond (Nat.beq (17 : Nat) (15 : Nat)) (cond (Nat.beq (3 : Nat) (0 : Nat)) (Go.Vm.V.int Go.IntKind.u64 x.n_0) (cond (Nat.beq (3 : Nat) (3 : Nat)) (Go.Vm.V.sl (Option.some (5 : Nat)) (1 : Nat) x.b_3.nil x.b_3.n (fun i3 => (Go.Vm.V.int Go.IntKind.u8 (x.b_3.get i3)))) Go.Vm.V.undef)) (cond (Nat.beq (17 : Nat) (3 : Nat)) (Go.Vm.V.sl Option.none (1 : Nat) x.b_3.nil x.b_3.n (fun i3 => (Go.Vm.V.int Go.IntKind.u8 (x.b_3.get i3)))) (cond (Nat.beq (17 : Nat) (0 : Nat)) (Go.Vm.V.int Go.IntKind.u64 x.n_0) (cond (Nat.beq (17 : Nat) (3 : Nat)) (Go.Vm.V.sl (Option.some (5 : Nat)) (1 : Nat) x.b_3.nil x.b_3.n (fun i3 => (Go.Vm.V.int Go.IntKind.u8 (x.b_3.get i3)))) Go.Vm.V.undef)))))) (cond (Nat.beq (17 : Nat) (17 : Nat)) (Go.Vm.V.int Go.IntKind.u8 (Go.IntKind.wrap Go.IntKind.u8 x.n_0)) (cond (Nat.beq (17 : Nat) (16 : Nat)) (cond (Nat.beq (0 : Nat) (15 : Nat)) (cond (Nat.beq (3 : Nat) (0 : Nat)) (Go.Vm.V.int Go.IntKind.u64 x.n_0) (cond (Nat.beq (3 : Nat) (3 : Nat)) (Go.Vm.V.sl (Option.some (5 : Nat)) (1 : Nat) x.b_3.nil x.b_3.n (fun i3 => (Go.Vm.V.int Go.IntKind.u8 (x.b_3.get i3)))) Go.Vm.V.undef)) (cond (Nat.beq (0 : Nat) (3 : Nat)) (Go.Vm.V.sl Option.none (1 : Nat) x.b_3.nil x.b_3.n (fun i3 => (Go.Vm.V.int Go.IntKind.u8 (x.b_3.get i3)))) (cond (Nat.beq (0 : Nat) (0 : Nat)) (Go.Vm.V.int Go.IntKind.u64 x.n_0) (cond (Nat.beq (0 : Nat) (3 : Nat)) (Go.Vm.V.sl (Option.some (5 : Nat)) (1 : Nat) x.b_3.nil x.b_3.n (fun i3 => (Go.Vm.V.int Go.IntKind.u8 (x.b_3.get i3)))) Go.Vm.V.undef)))) (cond (Nat.beq (17 : Nat) (15 : Nat)) (cond (Nat.beq (3 : Nat) (0 : Nat)) (Go.Vm.V.int Go.IntKind.u64 x.n_0) (cond (Nat.beq (3 : Nat) (3 : Nat)) (Go.Vm.V.sl (Option.some (5 : Nat)) (1 : Nat) x.b_3.nil x.b_3.n (fun i3 => (Go.Vm.V.int Go.IntKind.u8 (x.b_3.get i3)))) Go.Vm.V.undef)) (cond (Nat.beq (17 : Nat) (3 : Nat)) (Go.Vm.V.sl Option.none (1 : Nat) x.b_3.nil x.b_3.n (fun i3 => (Go.Vm.V.int Go.IntKind.u8 (x.b_3.get i3)))) (cond (Nat.beq (17 : Nat) (0 : Nat)) (Go.Vm.V.int Go.IntKind.u64 x.n_0) (cond (Nat.beq (17 : Nat) (3 : Nat)) (Go.Vm.V.sl (Option.some (5 : Nat)) (1 : Nat) x.b_3.nil x.b_3.n (fun i3 => (Go.Vm.V.int Go.IntKind.u8 (x.b_3.get i3)))) Go.Vm.V.undef))))))))) = (Go.Vm.V.int Go.IntKind.u8 m2))))) <|
 (.ret (Go.Vm.bytesOf (x.b_3.n + (1 : Nat)) (fun i1 => (cond (Nat.blt i1 x.b_3.n) (x.b_3.get i1) (Go.IntKind.wrap Go.IntKind.u8 x.n_0)))))
 )
 )
theorem sd_f42_5 (x : X_f42_5) : (tt_f42_5  x).Sides :=
  (TT.s_need (TT.s_side (fun _ _ => ⟨_, rfl⟩) TT.s_ret))

theorem dn_f42_5 (x : X_f42_5) : J_f42.den [] S_f42_5 x 4000 = (tt_f42_5  x).tree J_f42.enc := by kernel_rfl
theorem st_f42_5  : LabOK J_f42 S_f42_5 (.of tt_f42_5) :=
  lab_ok mixed_ok labs_nil 4000 (dn_f42_5 ) (sd_f42_5 )
noncomputable def D_f42_5 : Dyn X_f42_5 R_f42 := .of (tt_f42_5 )
theorem ok_f42_5  : LabOK J_f42 S_f42_5 (D_f42_5 ) :=
  st_f42_5  
noncomputable def tt_f42_2 (D_f42_2 : Dyn X_f42_2 R_f42) (x : X_f42_2) : TT Try.prog R_f42 :=
 (.ite (Go.Vm.ile (128 : Int) x.n_0)
  (.need (true && (Go.Vm.room (x.b_3.n + (1 : Nat)) (1 : Nat))) <|
  (.jump S_f42_2 D_f42_2 (X_f42_2.mk (Go.Vm.shr Go.IntKind.u64 x.n_0 (7 : Int)) (Go.Vm.Sl.mk (cond (Nat.beq (1 : Nat) (0 : Nat)) x.b_3.nil false) (x.b_3.n + (1 : Nat)) (fun i2 => (cond (Nat.blt i2 x.b_3.n) (x.b_3.get i2) (Go.Vm.bits Go.BinOp.or Go.IntKind.u8 (Go.IntKind.wrap Go.IntKind.u8 x.n_0) (128 : Int)))))))
  )
  (.jump S_f42_5 D_f42_5 (X_f42_5.mk x.n_0 x.b_3))
 )
theorem sd_f42_2 (D_f42_2 : Dyn X_f42_2 R_f42) (x : X_f42_2) : (tt_f42_2 D_f42_2 x).Sides :=
  (TT.s_ite (TT.s_need TT.s_jump) TT.s_jump)

theorem dn_f42_2 (D_f42_2 : Dyn X_f42_2 R_f42) (x : X_f42_2) : J_f42.den [⟨S_f42_2, D_f42_2⟩, ⟨S_f42_5, D_f42_5⟩] S_f42_2 x 4000 = (tt_f42_2 D_f42_2 x).tree J_f42.enc := by kernel_rfl
theorem st_f42_2 (D_f42_2 : Dyn X_f42_2 R_f42) (h_2 : LabOK J_f42 S_f42_2 D_f42_2) : LabOK J_f42 S_f42_2 (.of (tt_f42_2 D_f42_2)) :=
  lab_ok mixed_ok (labs_cons rfl h_2 (labs_cons rfl ok_f42_5 labs_nil)) 4000 (dn_f42_2 D_f42_2) (sd_f42_2 D_f42_2)
noncomputable def D_f42_2 : Dyn X_f42_2 R_f42 := Dyn.loop (tt_f42_2 )
theorem ok_f42_2  : LabOK J_f42 S_f42_2 (D_f42_2 ) :=
  loop_ok fun D h => st_f42_2  D  h
noncomputable def tt_f42 (x : X_f42) : TT Try.prog R_f42 :=
 (.jump S_f42_2 D_f42_2 (X_f42_2.mk x (Go.Vm.Sl.mk false (0 : Nat) (fun _i1 => (0 : Int)))))
theorem sd_f42 (x : X_f42) : (tt_f42  x).Sides :=
  TT.s_jump

theorem dn_f42 (x : X_f42) : J_f42.den [⟨S_f42_5, D_f42_5⟩, ⟨S_f42_2, D_f42_2⟩] S_f42 x 4000 = (tt_f42  x).tree J_f42.enc := by kernel_rfl
theorem st_f42  : LabOK J_f42 S_f42 (.of tt_f42) :=
  lab_ok mixed_ok (labs_cons rfl ok_f42_5 (labs_cons rfl ok_f42_2 labs_nil)) 4000 (dn_f42 ) (sd_f42 )
noncomputable def D_f42 : Dyn X_f42 R_f42 := .of tt_f42
theorem ct_f42 (x : X_f42) (y : R_f42) (h : D_f42.rel x y) : OK Try.prog 42 [(V.int .u64) x] [] (V.str y) [] :=
  contract (fn := Try.f42) (J := J_f42) (S := S_f42) (D := D_f42) (by kernel_rfl) (code := Try.f42.body.getD .skip) (by kernel_rfl) rfl st_f42 rfl (x := x) (y := y) h rfl rfl rfl rfl rfl (by kernel_rfl)
noncomputable def con_f42 : Con Try.prog where
  f := 42
  fn := Try.f42
  hf := by kernel_rfl
  hb := by kernel_rfl
  hn := by kernel_rfl
  X := X_f42
  Y := R_f42
  args := fun x => [(V.int .u64) x]
  objs := fun x => []
  res := fun y => V.str y
  outs := fun y => []
  rel := D_f42.rel
  ev := D_f42.ev
  evOK := D_f42.evOK
  dec := fun l m => (dI (at_ l 0))
  ash := [.any]
  osh := []
  ok := ct_f42

structure TOctet_Writer where
  b : (Sl Int)

def d_TOctet_Writer (v : V) : TOctet_Writer :=
  ⟨(dSl dI) (fd v 0)⟩

def e_TOctet_Writer (x : TOctet_Writer) : V :=
  V.cons ((eSl (some 5) 1 (V.int .u8)) x.b) (V.unit)

def sh_TOctet_Writer : Sh := (.cons (.sl (some 5) 1 (V.int .u8 0)) .any)

/-! (*octet.Writer).Text -/
abbrev X_f41 : Type := ByteArray × TOctet_Writer
abbrev R_f41 : Type := TOctet_Writer
noncomputable def J_f41 : Job Try.prog where
  fn := Try.f41
  nt := 15
  pol := tabN 0 [(7, 1), (10, 1), (11, 1)]
  hint := tabN [] []
  finH := []
  rsh := []
  psh := [sh_TOctet_Writer]
  tab := []
  R := R_f41
  enc := fun y => [V.tup (V.unit), e_TOctet_Writer y]
noncomputable def S_f41 : LabS where
  id := 0
  K := [.code (Try.f41.body.getD .skip)]
  lay := entryLay 2 1
  X := X_f41
  enc := fun x => [(V.ptr (.par 0) []), V.str x.1, e_TOctet_Writer x.2]
  dec := fun l => (dS (at_ l 1), d_TOctet_Writer (at_ l 2))
noncomputable def tt_f41 (x : X_f41) : TT Try.prog R_f41 :=
 (.need (true && (Go.Vm.room (x.snd.b.n + (ByteArray.size x.fst)) (1 : Nat))) <|
 (.ret (TOctet_Writer.mk (Go.Vm.Sl.mk (cond (Nat.beq (ByteArray.size x.fst) (0 : Nat)) x.snd.b.nil false) (x.snd.b.n + (ByteArray.size x.fst)) (fun i1 => (cond (Nat.blt i1 x.snd.b.n) (x.snd.b.get i1) (Go.Vm.bt x.fst (i1 - x.snd.b.n)))))))
 )
theorem sd_f41 (x : X_f41) : (tt_f41  x).Sides :=
  (TT.s_need TT.s_ret)

theorem dn_f41 (x : X_f41) : J_f41.den [] S_f41 x 4000 = (tt_f41  x).tree J_f41.enc := by kernel_rfl
theorem st_f41  : LabOK J_f41 S_f41 (.of tt_f41) :=
  lab_ok mixed_ok labs_nil 4000 (dn_f41 ) (sd_f41 )
noncomputable def D_f41 : Dyn X_f41 R_f41 := .of tt_f41
theorem ct_f41 (x : X_f41) (y : R_f41) (h : D_f41.rel x y) : OK Try.prog 41 [(V.ptr (.par 0) []), V.str x.1] [e_TOctet_Writer x.2] (V.tup (V.unit)) [e_TOctet_Writer y] :=
  contract (fn := Try.f41) (J := J_f41) (S := S_f41) (D := D_f41) (by kernel_rfl) (code := Try.f41.body.getD .skip) (by kernel_rfl) rfl st_f41 rfl (x := x) (y := y) h rfl rfl rfl rfl rfl (by kernel_rfl)
noncomputable def con_f41 : Con Try.prog where
  f := 41
  fn := Try.f41
  hf := by kernel_rfl
  hb := by kernel_rfl
  hn := by kernel_rfl
  X := X_f41
  Y := R_f41
  args := fun x => [(V.ptr (.par 0) []), V.str x.1]
  objs := fun x => [e_TOctet_Writer x.2]
  res := fun y => V.tup (V.unit)
  outs := fun y => [e_TOctet_Writer y]
  rel := D_f41.rel
  ev := D_f41.ev
  evOK := D_f41.evOK
  dec := fun l m => (dS (at_ l 1), d_TOctet_Writer (at_ m 0))
  ash := [.any, .any]
  osh := [sh_TOctet_Writer]
  ok := ct_f41

structure TSnap_writer where
  Writer : TOctet_Writer

def d_TSnap_writer (v : V) : TSnap_writer :=
  ⟨d_TOctet_Writer (fd v 0)⟩

def e_TSnap_writer (x : TSnap_writer) : V :=
  V.cons (e_TOctet_Writer x.Writer) (V.unit)

def sh_TSnap_writer : Sh := (.cons sh_TOctet_Writer .any)

/-! (*snap.writer).numbers -/
abbrev X_f16 : Type := (Sl Int) × TSnap_writer
abbrev R_f16 : Type := TSnap_writer
noncomputable def J_f16 : Job Try.prog where
  fn := Try.f16
  nt := 19
  pol := tabN 0 [(6, 1), (8, 1), (15, 1)]
  hint := tabN [] []
  finH := []
  rsh := []
  psh := [sh_TSnap_writer]
  tab := [con_f41, con_f42]
  R := R_f16
  enc := fun y => [V.tup (V.unit), e_TSnap_writer y]
noncomputable def S_f16 : LabS where
  id := 0
  K := [.code (Try.f16.body.getD .skip)]
  lay := entryLay 2 1
  X := X_f16
  enc := fun x => [(V.ptr (.par 0) []), (eSl none 1 (V.int .u64)) x.1, e_TSnap_writer x.2]
  dec := fun l => ((dSl dI) (at_ l 1), d_TSnap_writer (at_ l 2))
structure X_f16_1 where
  q_6 : (Sl Int)
  q_7 : Int
  q_8 : Int
  o_0 : TSnap_writer
noncomputable def S_f16_1 : LabS where
  id := 1
  K := (kAt 1 (Try.f16.body.getD .skip) []).getD []
  lay := { live := [(0, .any), (6, (.sl none 1 (V.int .u64 0))), (7, .any), (8, .any)], pars := [sh_TSnap_writer], locs := [] }
  X := X_f16_1
  enc := fun x => [(V.ptr (.par 0) []), (eSl none 1 (V.int .u64)) x.q_6, (V.int .i64) x.q_7, (V.int .i64) x.q_8, e_TSnap_writer x.o_0]
  dec := fun l => ⟨(dSl dI) (at_ l 1), dI (at_ l 2), dI (at_ l 3), d_TSnap_writer (at_ l 4)⟩
noncomputable def tt_f16_1 (D_f16_1 : Dyn X_f16_1 R_f16) (x : X_f16_1) : TT Try.prog R_f16 :=
 (.ite (Go.Vm.ilt x.q_8 x.q_7)
  (.need (Go.Vm.inb x.q_8 x.q_6.n) <|
  (.call con_f42 (x.q_6.get (Int.toNat x.q_8)) fun (y2 : R_f42) =>
  (.call con_f41 (y2, x.o_0.Writer) fun (y3 : R_f41) =>
  (.jump S_f16_1 D_f16_1 (X_f16_1.mk x.q_6 x.q_7 (Go.IntKind.wrap Go.IntKind.i64 (x.q_8 + (1 : Int))) (TSnap_writer.mk y3)))
  )
  )
  )
  (.ret (TSnap_writer.mk x.o_0.Writer))
 )
theorem sd_f16_1 (D_f16_1 : Dyn X_f16_1 R_f16) (x : X_f16_1) : (tt_f16_1 D_f16_1 x).Sides :=
  (TT.s_ite (TT.s_need (TT.s_call fun _ => (TT.s_call fun _ => TT.s_jump))) TT.s_ret)

theorem dn_f16_1 (D_f16_1 : Dyn X_f16_1 R_f16) (x : X_f16_1) : J_f16.den [⟨S_f16_1, D_f16_1⟩] S_f16_1 x 4000 = (tt_f16_1 D_f16_1 x).tree J_f16.enc := by kernel_rfl
theorem st_f16_1 (D_f16_1 : Dyn X_f16_1 R_f16) (h_1 : LabOK J_f16 S_f16_1 D_f16_1) : LabOK J_f16 S_f16_1 (.of (tt_f16_1 D_f16_1)) :=
  lab_ok mixed_ok (labs_cons rfl h_1 labs_nil) 4000 (dn_f16_1 D_f16_1) (sd_f16_1 D_f16_1)
noncomputable def D_f16_1 : Dyn X_f16_1 R_f16 := Dyn.loop (tt_f16_1 )
theorem ok_f16_1  : LabOK J_f16 S_f16_1 (D_f16_1 ) :=
  loop_ok fun D h => st_f16_1  D  h
noncomputable def tt_f16 (x : X_f16) : TT Try.prog R_f16 :=
 (.jump S_f16_1 D_f16_1 (X_f16_1.mk x.fst ((x.fst.n : Nat) : Int) (0 : Int) (TSnap_writer.mk x.snd.Writer)))
theorem sd_f16 (x : X_f16) : (tt_f16  x).Sides :=
  TT.s_jump

theorem dn_f16 (x : X_f16) : J_f16.den [⟨S_f16_1, D_f16_1⟩] S_f16 x 4000 = (tt_f16  x).tree J_f16.enc := by kernel_rfl
theorem st_f16  : LabOK J_f16 S_f16 (.of tt_f16) :=
  lab_ok mixed_ok (labs_cons rfl ok_f16_1 labs_nil) 4000 (dn_f16 ) (sd_f16 )
noncomputable def D_f16 : Dyn X_f16 R_f16 := .of tt_f16
theorem ct_f16 (x : X_f16) (y : R_f16) (h : D_f16.rel x y) : OK Try.prog 16 [(V.ptr (.par 0) []), (eSl none 1 (V.int .u64)) x.1] [e_TSnap_writer x.2] (V.tup (V.unit)) [e_TSnap_writer y] :=
  contract (fn := Try.f16) (J := J_f16) (S := S_f16) (D := D_f16) (by kernel_rfl) (code := Try.f16.body.getD .skip) (by kernel_rfl) rfl st_f16 rfl (x := x) (y := y) h rfl rfl rfl rfl rfl (by kernel_rfl)
noncomputable def con_f16 : Con Try.prog where
  f := 16
  fn := Try.f16
  hf := by kernel_rfl
  hb := by kernel_rfl
  hn := by kernel_rfl
  X := X_f16
  Y := R_f16
  args := fun x => [(V.ptr (.par 0) []), (eSl none 1 (V.int .u64)) x.1]
  objs := fun x => [e_TSnap_writer x.2]
  res := fun y => V.tup (V.unit)
  outs := fun y => [e_TSnap_writer y]
  rel := D_f16.rel
  ev := D_f16.ev
  evOK := D_f16.evOK
  dec := fun l m => ((dSl dI) (at_ l 1), d_TSnap_writer (at_ m 0))
  ash := [.any, (.sl none 1 (V.int .u64 0))]
  osh := [sh_TSnap_writer]
  ok := ct_f16

/-! (*octet.Writer).String -/
abbrev X_f20 : Type := TOctet_Writer
abbrev R_f20 : Type := ByteArray × TOctet_Writer
noncomputable def J_f20 : Job Try.prog where
  fn := Try.f20
  nt := 10
  pol := tabN 0 [(5, 1)]
  hint := tabN [] []
  finH := []
  rsh := [.any]
  psh := [sh_TOctet_Writer]
  tab := []
  R := R_f20
  enc := fun y => [V.str y.1, e_TOctet_Writer y.2]
noncomputable def S_f20 : LabS where
  id := 0
  K := [.code (Try.f20.body.getD .skip)]
  lay := entryLay 1 1
  X := X_f20
  enc := fun x => [(V.ptr (.par 0) []), e_TOctet_Writer x]
  dec := fun l => (d_TOctet_Writer (at_ l 1))
noncomputable def tt_f20 (x : X_f20) : TT Try.prog R_f20 :=
 (.side (∀ i1 : Nat, ((i1 < x.b.n) → (∃ m2 : Int, ((Go.Vm.V.int Go.IntKind.u8 (x.b.get i1)) = (Go.Vm.V.int Go.IntKind.u8 m2))))) <|
 (.ret ((Go.Vm.bytesOf x.b.n x.b.get), x))
 )
theorem sd_f20 (x : X_f20) : (tt_f20  x).Sides :=
  (TT.s_side (fun _ _ => ⟨_, rfl⟩) TT.s_ret)

theorem dn_f20 (x : X_f20) : J_f20.den [] S_f20 x 4000 = (tt_f20  x).tree J_f20.enc := by kernel_rfl
theorem st_f20  : LabOK J_f20 S_f20 (.of tt_f20) :=
  lab_ok mixed_ok labs_nil 4000 (dn_f20 ) (sd_f20 )
noncomputable def D_f20 : Dyn X_f20 R_f20 := .of tt_f20
theorem ct_f20 (x : X_f20) (y : R_f20) (h : D_f20.rel x y) : OK Try.prog 20 [(V.ptr (.par 0) [])] [e_TOctet_Writer x] (V.str y.1) [e_TOctet_Writer y.2] :=
  contract (fn := Try.f20) (J := J_f20) (S := S_f20) (D := D_f20) (by kernel_rfl) (code := Try.f20.body.getD .skip) (by kernel_rfl) rfl st_f20 rfl (x := x) (y := y) h rfl rfl rfl rfl rfl (by kernel_rfl)
noncomputable def con_f20 : Con Try.prog where
  f := 20
  fn := Try.f20
  hf := by kernel_rfl
  hb := by kernel_rfl
  hn := by kernel_rfl
  X := X_f20
  Y := R_f20
  args := fun x => [(V.ptr (.par 0) [])]
  objs := fun x => [e_TOctet_Writer x]
  res := fun y => V.str y.1
  outs := fun y => [e_TOctet_Writer y.2]
  rel := D_f20.rel
  ev := D_f20.ev
  evOK := D_f20.evOK
  dec := fun l m => (d_TOctet_Writer (at_ m 0))
  ash := [.any]
  osh := [sh_TOctet_Writer]
  ok := ct_f20

/-! varint.PrintList -/
abbrev X_f43 : Type := (Sl Int)
abbrev R_f43 : Type := ByteArray
noncomputable def J_f43 : Job Try.prog where
  fn := Try.f43
  nt := 22
  pol := tabN 0 [(11, 1), (13, 1), (17, 1)]
  hint := tabN [] []
  finH := []
  rsh := [.any]
  psh := []
  tab := [con_f20, con_f41, con_f42]
  R := R_f43
  enc := fun y => [V.str y]
noncomputable def S_f43 : LabS where
  id := 0
  K := [.code (Try.f43.body.getD .skip)]
  lay := entryLay 1 0
  X := X_f43
  enc := fun x => [(eSl none 1 (V.int .u64)) x]
  dec := fun l => ((dSl dI) (at_ l 0))
structure X_f43_4 where
  q_11 : (Sl Int)
  q_12 : Int
  q_13 : Int
  m_3 : TOctet_Writer
noncomputable def S_f43_4 : LabS where
  id := 4
  K := (kAt 4 (Try.f43.body.getD .skip) []).getD []
  lay := { live := [(3, .any), (11, (.sl none 1 (V.int .u64 0))), (12, .any), (13, .any)], pars := [], locs := [(.loc 3 0, sh_TOctet_Writer)] }
  X := X_f43_4
  enc := fun x => [(V.ptr (.loc 3 0) []), (eSl none 1 (V.int .u64)) x.q_11, (V.int .i64) x.q_12, (V.int .i64) x.q_13, e_TOctet_Writer x.m_3]
  dec := fun l => ⟨(dSl dI) (at_ l 1), dI (at_ l 2), dI (at_ l 3), d_TOctet_Writer (at_ l 4)⟩
noncomputable def tt_f43_4 (D_f43_4 : Dyn X_f43_4 R_f43) (x : X_f43_4) : TT Try.prog R_f43 :=
 (.ite (Go.Vm.ilt x.q_13 x.q_12)
  (.need (Go.Vm.inb x.q_13 x.q_11.n) <|
  (.call con_f42 (x.q_11.get (Int.toNat x.q_13)) fun (y2 : R_f42) =>
  (.call con_f41 (y2, x.m_3) fun (y3 : R_f41) =>
  (.jump S_f43_4 D_f43_4 (X_f43_4.mk x.q_11 x.q_12 (Go.IntKind.wrap Go.IntKind.i64 (x.q_13 + (1 : Int))) y3))
  )
  )
  )
  (.call con_f20 x.m_3 fun (y2 : R_f20) =>
  (.ret y2.fst)
  )
 )
theorem sd_f43_4 (D_f43_4 : Dyn X_f43_4 R_f43) (x : X_f43_4) : (tt_f43_4 D_f43_4 x).Sides :=
  (TT.s_ite (TT.s_need (TT.s_call fun _ => (TT.s_call fun _ => TT.s_jump))) (TT.s_call fun _ => TT.s_ret))

theorem dn_f43_4 (D_f43_4 : Dyn X_f43_4 R_f43) (x : X_f43_4) : J_f43.den [⟨S_f43_4, D_f43_4⟩] S_f43_4 x 4000 = (tt_f43_4 D_f43_4 x).tree J_f43.enc := by kernel_rfl
theorem st_f43_4 (D_f43_4 : Dyn X_f43_4 R_f43) (h_4 : LabOK J_f43 S_f43_4 D_f43_4) : LabOK J_f43 S_f43_4 (.of (tt_f43_4 D_f43_4)) :=
  lab_ok mixed_ok (labs_cons rfl h_4 labs_nil) 4000 (dn_f43_4 D_f43_4) (sd_f43_4 D_f43_4)
noncomputable def D_f43_4 : Dyn X_f43_4 R_f43 := Dyn.loop (tt_f43_4 )
theorem ok_f43_4  : LabOK J_f43 S_f43_4 (D_f43_4 ) :=
  loop_ok fun D h => st_f43_4  D  h
noncomputable def tt_f43 (x : X_f43) : TT Try.prog R_f43 :=
 (.call con_f42 (Go.IntKind.wrap Go.IntKind.u64 ((x.n : Nat) : Int)) fun (y1 : R_f42) =>
 (.call con_f41 (y1, (TOctet_Writer.mk (Go.Vm.Sl.mk true (0 : Nat) (fun _i2 => (0 : Int))))) fun (y2 : R_f41) =>
 (.jump S_f43_4 D_f43_4 (X_f43_4.mk x ((x.n : Nat) : Int) (0 : Int) y2))
 )
 )
theorem sd_f43 (x : X_f43) : (tt_f43  x).Sides :=
  (TT.s_call fun _ => (TT.s_call fun _ => TT.s_jump))

theorem dn_f43 (x : X_f43) : J_f43.den [⟨S_f43_4, D_f43_4⟩] S_f43 x 4000 = (tt_f43  x).tree J_f43.enc := by kernel_rfl
theorem st_f43  : LabOK J_f43 S_f43 (.of tt_f43) :=
  lab_ok mixed_ok (labs_cons rfl ok_f43_4 labs_nil) 4000 (dn_f43 ) (sd_f43 )
noncomputable def D_f43 : Dyn X_f43 R_f43 := .of tt_f43
theorem ct_f43 (x : X_f43) (y : R_f43) (h : D_f43.rel x y) : OK Try.prog 43 [(eSl none 1 (V.int .u64)) x] [] (V.str y) [] :=
  contract (fn := Try.f43) (J := J_f43) (S := S_f43) (D := D_f43) (by kernel_rfl) (code := Try.f43.body.getD .skip) (by kernel_rfl) rfl st_f43 rfl (x := x) (y := y) h rfl rfl rfl rfl rfl (by kernel_rfl)
noncomputable def con_f43 : Con Try.prog where
  f := 43
  fn := Try.f43
  hf := by kernel_rfl
  hb := by kernel_rfl
  hn := by kernel_rfl
  X := X_f43
  Y := R_f43
  args := fun x => [(eSl none 1 (V.int .u64)) x]
  objs := fun x => []
  res := fun y => V.str y
  outs := fun y => []
  rel := D_f43.rel
  ev := D_f43.ev
  evOK := D_f43.evOK
  dec := fun l m => ((dSl dI) (at_ l 0))
  ash := [(.sl none 1 (V.int .u64 0))]
  osh := []
  ok := ct_f43

/-! (*snap.writer).thread -/
abbrev X_f17 : Type := TApi_ThreadState × TSnap_writer
abbrev R_f17 : Type := TSnap_writer
noncomputable def J_f17 : Job Try.prog where
  fn := Try.f17
  nt := 32
  pol := tabN 0 [(3, 3), (25, 1)]
  hint := tabN [] []
  finH := []
  rsh := []
  psh := [sh_TSnap_writer]
  tab := [con_f16, con_f41, con_f43]
  R := R_f17
  enc := fun y => [V.tup (V.unit), e_TSnap_writer y]
noncomputable def S_f17 : LabS where
  id := 0
  K := [.code (Try.f17.body.getD .skip)]
  lay := entryLay 2 1
  X := X_f17
  enc := fun x => [(V.ptr (.par 0) []), e_TApi_ThreadState x.1, e_TSnap_writer x.2]
  dec := fun l => (d_TApi_ThreadState (at_ l 1), d_TSnap_writer (at_ l 2))
noncomputable def tt_f17 (x : X_f17) : TT Try.prog R_f17 :=
 (.call con_f16 ((Go.Vm.Sl.mk false (5 : Nat) (fun i1 => (cond (Nat.beq i1 (0 : Nat)) (Go.IntKind.wrap Go.IntKind.u64 x.fst.At) (cond (Nat.beq i1 (1 : Nat)) (Go.IntKind.wrap Go.IntKind.u64 x.fst.Phase) (cond (Nat.beq i1 (2 : Nat)) (Go.IntKind.wrap Go.IntKind.u64 x.fst.Ring) (cond (Nat.beq i1 (3 : Nat)) (Go.IntKind.wrap Go.IntKind.u64 x.fst.Status) x.fst.Ticket)))))), (TSnap_writer.mk x.snd.Writer)) fun (y1 : R_f16) =>
 (.call con_f16 ((Go.Vm.Sl.mk false (8 : Nat) (fun i2 => (x.fst.Regs ((0 : Nat) + i2)))), (TSnap_writer.mk y1.Writer)) fun (y2 : R_f16) =>
 (.call con_f43 x.fst.Seen fun (y3 : R_f43) =>
 (.call con_f41 (y3, y2.Writer) fun (y4 : R_f41) =>
 (.ret (TSnap_writer.mk y4))
 )
 )
 )
 )
theorem sd_f17 (x : X_f17) : (tt_f17  x).Sides :=
  (TT.s_call fun _ => (TT.s_call fun _ => (TT.s_call fun _ => (TT.s_call fun _ => TT.s_ret))))

theorem dn_f17 (x : X_f17) : J_f17.den [] S_f17 x 4000 = (tt_f17  x).tree J_f17.enc := by kernel_rfl
theorem st_f17  : LabOK J_f17 S_f17 (.of tt_f17) :=
  lab_ok mixed_ok labs_nil 4000 (dn_f17 ) (sd_f17 )
noncomputable def D_f17 : Dyn X_f17 R_f17 := .of tt_f17
theorem ct_f17 (x : X_f17) (y : R_f17) (h : D_f17.rel x y) : OK Try.prog 17 [(V.ptr (.par 0) []), e_TApi_ThreadState x.1] [e_TSnap_writer x.2] (V.tup (V.unit)) [e_TSnap_writer y] :=
  contract (fn := Try.f17) (J := J_f17) (S := S_f17) (D := D_f17) (by kernel_rfl) (code := Try.f17.body.getD .skip) (by kernel_rfl) rfl st_f17 rfl (x := x) (y := y) h rfl rfl rfl rfl rfl (by kernel_rfl)
noncomputable def con_f17 : Con Try.prog where
  f := 17
  fn := Try.f17
  hf := by kernel_rfl
  hb := by kernel_rfl
  hn := by kernel_rfl
  X := X_f17
  Y := R_f17
  args := fun x => [(V.ptr (.par 0) []), e_TApi_ThreadState x.1]
  objs := fun x => [e_TSnap_writer x.2]
  res := fun y => V.tup (V.unit)
  outs := fun y => [e_TSnap_writer y]
  rel := D_f17.rel
  ev := D_f17.ev
  evOK := D_f17.evOK
  dec := fun l m => (d_TApi_ThreadState (at_ l 1), d_TSnap_writer (at_ m 0))
  ash := [.any, sh_TApi_ThreadState]
  osh := [sh_TSnap_writer]
  ok := ct_f17

/-! snap.is -/
abbrev X_f19 : Type := Bool
abbrev R_f19 : Type := Int
noncomputable def J_f19 : Job Try.prog where
  fn := Try.f19
  nt := 4
  pol := tabN 0 [(3, 1)]
  hint := tabN [] []
  finH := []
  rsh := [.any]
  psh := []
  tab := []
  R := R_f19
  enc := fun y => [(V.int .u64) y]
noncomputable def S_f19 : LabS where
  id := 0
  K := [.code (Try.f19.body.getD .skip)]
  lay := entryLay 1 0
  X := X_f19
  enc := fun x => [V.bool x]
  dec := fun l => (dB (at_ l 0))
noncomputable def tt_f19 (x : X_f19) : TT Try.prog R_f19 :=
 (.ite x
  (.ret (1 : Int))
  (.ret (0 : Int))
 )
theorem sd_f19 (x : X_f19) : (tt_f19  x).Sides :=
  (TT.s_ite TT.s_ret TT.s_ret)

theorem dn_f19 (x : X_f19) : J_f19.den [] S_f19 x 4000 = (tt_f19  x).tree J_f19.enc := by kernel_rfl
theorem st_f19  : LabOK J_f19 S_f19 (.of tt_f19) :=
  lab_ok mixed_ok labs_nil 4000 (dn_f19 ) (sd_f19 )
noncomputable def D_f19 : Dyn X_f19 R_f19 := .of tt_f19
theorem ct_f19 (x : X_f19) (y : R_f19) (h : D_f19.rel x y) : OK Try.prog 19 [V.bool x] [] ((V.int .u64) y) [] :=
  contract (fn := Try.f19) (J := J_f19) (S := S_f19) (D := D_f19) (by kernel_rfl) (code := Try.f19.body.getD .skip) (by kernel_rfl) rfl st_f19 rfl (x := x) (y := y) h rfl rfl rfl rfl rfl (by kernel_rfl)
noncomputable def con_f19 : Con Try.prog where
  f := 19
  fn := Try.f19
  hf := by kernel_rfl
  hb := by kernel_rfl
  hn := by kernel_rfl
  X := X_f19
  Y := R_f19
  args := fun x => [V.bool x]
  objs := fun x => []
  res := fun y => (V.int .u64) y
  outs := fun y => []
  rel := D_f19.rel
  ev := D_f19.ev
  evOK := D_f19.evOK
  dec := fun l m => (dB (at_ l 0))
  ash := [.any]
  osh := []
  ok := ct_f19

/-! (*snap.writer).ring -/
abbrev X_f18 : Type := TApi_RingState × TSnap_writer
abbrev R_f18 : Type := TSnap_writer
noncomputable def J_f18 : Job Try.prog where
  fn := Try.f18
  nt := 46
  pol := tabN 0 [(3, 3), (31, 1)]
  hint := tabN [] []
  finH := []
  rsh := []
  psh := [sh_TSnap_writer]
  tab := [con_f16, con_f19, con_f41, con_f43]
  R := R_f18
  enc := fun y => [V.tup (V.unit), e_TSnap_writer y]
noncomputable def S_f18 : LabS where
  id := 0
  K := [.code (Try.f18.body.getD .skip)]
  lay := entryLay 2 1
  X := X_f18
  enc := fun x => [(V.ptr (.par 0) []), e_TApi_RingState x.1, e_TSnap_writer x.2]
  dec := fun l => (d_TApi_RingState (at_ l 1), d_TSnap_writer (at_ l 2))
structure X_f18_5 where
  q_29 : (Sl TApi_Slot)
  q_30 : Int
  q_31 : Int
  o_0 : TSnap_writer
noncomputable def S_f18_5 : LabS where
  id := 5
  K := (kAt 5 (Try.f18.body.getD .skip) []).getD []
  lay := { live := [(0, .any), (29, (.sl none 3 (e_TApi_Slot (d_TApi_Slot .undef)))), (30, .any), (31, .any)], pars := [sh_TSnap_writer], locs := [] }
  X := X_f18_5
  enc := fun x => [(V.ptr (.par 0) []), (eSl none 3 e_TApi_Slot) x.q_29, (V.int .i64) x.q_30, (V.int .i64) x.q_31, e_TSnap_writer x.o_0]
  dec := fun l => ⟨(dSl d_TApi_Slot) (at_ l 1), dI (at_ l 2), dI (at_ l 3), d_TSnap_writer (at_ l 4)⟩
noncomputable def tt_f18_5 (D_f18_5 : Dyn X_f18_5 R_f18) (x : X_f18_5) : TT Try.prog R_f18 :=
 (.ite (Go.Vm.ilt x.q_31 x.q_30)
  (.need (Go.Vm.inb x.q_31 x.q_29.n) <|
  (.call con_f16 ((Go.Vm.Sl.mk false (3 : Nat) (fun i2 => (cond (Nat.beq i2 (0 : Nat)) (x.q_29.get (Int.toNat x.q_31)).Stamp (cond (Nat.beq i2 (1 : Nat)) (x.q_29.get (Int.toNat x.q_31)).Value (Go.IntKind.wrap Go.IntKind.u64 (x.q_29.get (Int.toNat x.q_31)).Left))))), (TSnap_writer.mk x.o_0.Writer)) fun (y2 : R_f16) =>
  (.jump S_f18_5 D_f18_5 (X_f18_5.mk x.q_29 x.q_30 (Go.IntKind.wrap Go.IntKind.i64 (x.q_31 + (1 : Int))) (TSnap_writer.mk y2.Writer)))
  )
  )
  (.ret (TSnap_writer.mk x.o_0.Writer))
 )
theorem sd_f18_5 (D_f18_5 : Dyn X_f18_5 R_f18) (x : X_f18_5) : (tt_f18_5 D_f18_5 x).Sides :=
  (TT.s_ite (TT.s_need (TT.s_call fun _ => TT.s_jump)) TT.s_ret)

theorem dn_f18_5 (D_f18_5 : Dyn X_f18_5 R_f18) (x : X_f18_5) : J_f18.den [⟨S_f18_5, D_f18_5⟩] S_f18_5 x 4000 = (tt_f18_5 D_f18_5 x).tree J_f18.enc := by kernel_rfl
theorem st_f18_5 (D_f18_5 : Dyn X_f18_5 R_f18) (h_5 : LabOK J_f18 S_f18_5 D_f18_5) : LabOK J_f18 S_f18_5 (.of (tt_f18_5 D_f18_5)) :=
  lab_ok mixed_ok (labs_cons rfl h_5 labs_nil) 4000 (dn_f18_5 D_f18_5) (sd_f18_5 D_f18_5)
noncomputable def D_f18_5 : Dyn X_f18_5 R_f18 := Dyn.loop (tt_f18_5 )
theorem ok_f18_5  : LabOK J_f18 S_f18_5 (D_f18_5 ) :=
  loop_ok fun D h => st_f18_5  D  h
noncomputable def tt_f18 (x : X_f18) : TT Try.prog R_f18 :=
 (.call con_f16 ((Go.Vm.Sl.mk false (1 : Nat) (fun _i1 => x.fst.Tail)), (TSnap_writer.mk x.snd.Writer)) fun (y1 : R_f16) =>
 (.call con_f43 x.fst.Heads fun (y2 : R_f43) =>
 (.call con_f41 (y2, y1.Writer) fun (y3 : R_f41) =>
 (.call con_f19 x.fst.Closed fun (y4 : R_f19) =>
 (.call con_f16 ((Go.Vm.Sl.mk false (2 : Nat) (fun i5 => (cond (Nat.beq i5 (0 : Nat)) y4 (Go.IntKind.wrap Go.IntKind.u64 ((x.fst.Slots.n : Nat) : Int))))), (TSnap_writer.mk y3)) fun (y5 : R_f16) =>
 (.jump S_f18_5 D_f18_5 (X_f18_5.mk x.fst.Slots ((x.fst.Slots.n : Nat) : Int) (0 : Int) (TSnap_writer.mk y5.Writer)))
 )
 )
 )
 )
 )
theorem sd_f18 (x : X_f18) : (tt_f18  x).Sides :=
  (TT.s_call fun _ => (TT.s_call fun _ => (TT.s_call fun _ => (TT.s_call fun _ => (TT.s_call fun _ => TT.s_jump)))))

theorem dn_f18 (x : X_f18) : J_f18.den [⟨S_f18_5, D_f18_5⟩] S_f18 x 4000 = (tt_f18  x).tree J_f18.enc := by kernel_rfl
theorem st_f18  : LabOK J_f18 S_f18 (.of tt_f18) :=
  lab_ok mixed_ok (labs_cons rfl ok_f18_5 labs_nil) 4000 (dn_f18 ) (sd_f18 )
noncomputable def D_f18 : Dyn X_f18 R_f18 := .of tt_f18
theorem ct_f18 (x : X_f18) (y : R_f18) (h : D_f18.rel x y) : OK Try.prog 18 [(V.ptr (.par 0) []), e_TApi_RingState x.1] [e_TSnap_writer x.2] (V.tup (V.unit)) [e_TSnap_writer y] :=
  contract (fn := Try.f18) (J := J_f18) (S := S_f18) (D := D_f18) (by kernel_rfl) (code := Try.f18.body.getD .skip) (by kernel_rfl) rfl st_f18 rfl (x := x) (y := y) h rfl rfl rfl rfl rfl (by kernel_rfl)
noncomputable def con_f18 : Con Try.prog where
  f := 18
  fn := Try.f18
  hf := by kernel_rfl
  hb := by kernel_rfl
  hn := by kernel_rfl
  X := X_f18
  Y := R_f18
  args := fun x => [(V.ptr (.par 0) []), e_TApi_RingState x.1]
  objs := fun x => [e_TSnap_writer x.2]
  res := fun y => V.tup (V.unit)
  outs := fun y => [e_TSnap_writer y]
  rel := D_f18.rel
  ev := D_f18.ev
  evOK := D_f18.evOK
  dec := fun l m => (d_TApi_RingState (at_ l 1), d_TSnap_writer (at_ m 0))
  ash := [.any, sh_TApi_RingState]
  osh := [sh_TSnap_writer]
  ok := ct_f18

/-! snap.Print -/
abbrev X_f7 : Type := TApi_State
abbrev R_f7 : Type := ByteArray × Int
noncomputable def J_f7 : Job Try.prog where
  fn := Try.f7
  nt := 55
  pol := tabN 0 [(1, 3), (21, 1), (37, 1)]
  hint := tabN [] []
  finH := []
  rsh := [.any, .any]
  psh := []
  tab := [con_f15, con_f16, con_f17, con_f18, con_f19, con_f20]
  R := R_f7
  enc := fun y => [V.tup (V.cons (V.str y.1) (V.cons ((V.int .i64) y.2) (V.unit)))]
noncomputable def S_f7 : LabS where
  id := 0
  K := [.code (Try.f7.body.getD .skip)]
  lay := entryLay 1 0
  X := X_f7
  enc := fun x => [e_TApi_State x]
  dec := fun l => (d_TApi_State (at_ l 0))
structure X_f7_6 where
  s_1 : TApi_State
  q_19 : (Sl TApi_ThreadState)
  q_20 : Int
  q_21 : Int
  m_4 : TSnap_writer
noncomputable def S_f7_6 : LabS where
  id := 6
  K := (kAt 6 (Try.f7.body.getD .skip) []).getD []
  lay := { live := [(1, .any), (4, .any), (19, (.sl none 14 (e_TApi_ThreadState (d_TApi_ThreadState .undef)))), (20, .any), (21, .any)], pars := [], locs := [(.loc 4 0, sh_TSnap_writer)] }
  X := X_f7_6
  enc := fun x => [(eVp e_TApi_State) x.s_1, (V.ptr (.loc 4 0) []), (eSl none 14 e_TApi_ThreadState) x.q_19, (V.int .i64) x.q_20, (V.int .i64) x.q_21, e_TSnap_writer x.m_4]
  dec := fun l => ⟨(dVp d_TApi_State) (at_ l 0), (dSl d_TApi_ThreadState) (at_ l 2), dI (at_ l 3), dI (at_ l 4), d_TSnap_writer (at_ l 5)⟩
structure X_f7_10 where
  s_1 : TApi_State
  m_4 : TSnap_writer
noncomputable def S_f7_10 : LabS where
  id := 10
  K := (kAt 10 (Try.f7.body.getD .skip) []).getD []
  lay := { live := [(1, .any), (4, .any)], pars := [], locs := [(.loc 4 0, sh_TSnap_writer)] }
  X := X_f7_10
  enc := fun x => [(eVp e_TApi_State) x.s_1, (V.ptr (.loc 4 0) []), e_TSnap_writer x.m_4]
  dec := fun l => ⟨(dVp d_TApi_State) (at_ l 0), d_TSnap_writer (at_ l 2)⟩
structure X_f7_12 where
  s_1 : TApi_State
  q_35 : (Sl TApi_RingState)
  q_36 : Int
  q_37 : Int
  m_4 : TSnap_writer
noncomputable def S_f7_12 : LabS where
  id := 12
  K := (kAt 12 (Try.f7.body.getD .skip) []).getD []
  lay := { live := [(1, .any), (4, .any), (35, (.sl none 4 (e_TApi_RingState (d_TApi_RingState .undef)))), (36, .any), (37, .any)], pars := [], locs := [(.loc 4 0, sh_TSnap_writer)] }
  X := X_f7_12
  enc := fun x => [(eVp e_TApi_State) x.s_1, (V.ptr (.loc 4 0) []), (eSl none 4 e_TApi_RingState) x.q_35, (V.int .i64) x.q_36, (V.int .i64) x.q_37, e_TSnap_writer x.m_4]
  dec := fun l => ⟨(dVp d_TApi_State) (at_ l 0), (dSl d_TApi_RingState) (at_ l 2), dI (at_ l 3), dI (at_ l 4), d_TSnap_writer (at_ l 5)⟩
structure X_f7_16 where
  s_1 : TApi_State
  m_4 : TSnap_writer
noncomputable def S_f7_16 : LabS where
  id := 16
  K := (kAt 16 (Try.f7.body.getD .skip) []).getD []
  lay := { live := [(1, .any), (4, .any)], pars := [], locs := [(.loc 4 0, sh_TSnap_writer)] }
  X := X_f7_16
  enc := fun x => [(eVp e_TApi_State) x.s_1, (V.ptr (.loc 4 0) []), e_TSnap_writer x.m_4]
  dec := fun l => ⟨(dVp d_TApi_State) (at_ l 0), d_TSnap_writer (at_ l 2)⟩
noncomputable def tt_f7_16 (x : X_f7_16) : TT Try.prog R_f7 :=
 (.call con_f19 x.s_1.Ended fun (y1 : R_f19) =>
 (.call con_f16 ((Go.Vm.Sl.mk false (3 : Nat) (fun i2 => (cond (Nat.beq i2 (0 : Nat)) x.s_1.Now (cond (Nat.beq i2 (1 : Nat)) x.s_1.Reads y1)))), (TSnap_writer.mk x.m_4.Writer)) fun (y2 : R_f16) =>
 (.call con_f20 y2.Writer fun (y3 : R_f20) =>
 (.ret (y3.fst, (0 : Int)))
 )
 )
 )
theorem sd_f7_16 (x : X_f7_16) : (tt_f7_16  x).Sides :=
  (TT.s_call fun _ => (TT.s_call fun _ => (TT.s_call fun _ => TT.s_ret)))

theorem dn_f7_16 (x : X_f7_16) : J_f7.den [] S_f7_16 x 4000 = (tt_f7_16  x).tree J_f7.enc := by kernel_rfl
theorem st_f7_16  : LabOK J_f7 S_f7_16 (.of tt_f7_16) :=
  lab_ok mixed_ok labs_nil 4000 (dn_f7_16 ) (sd_f7_16 )
noncomputable def D_f7_16 : Dyn X_f7_16 R_f7 := .of (tt_f7_16 )
theorem ok_f7_16  : LabOK J_f7 S_f7_16 (D_f7_16 ) :=
  st_f7_16  
noncomputable def tt_f7_12 (D_f7_12 : Dyn X_f7_12 R_f7) (x : X_f7_12) : TT Try.prog R_f7 :=
 (.ite (Go.Vm.ilt x.q_37 x.q_36)
  (.need (Go.Vm.inb x.q_37 x.q_35.n) <|
  (.call con_f18 ((x.q_35.get (Int.toNat x.q_37)), (TSnap_writer.mk x.m_4.Writer)) fun (y2 : R_f18) =>
  (.jump S_f7_12 D_f7_12 (X_f7_12.mk x.s_1 x.q_35 x.q_36 (Go.IntKind.wrap Go.IntKind.i64 (x.q_37 + (1 : Int))) (TSnap_writer.mk y2.Writer)))
  )
  )
  (.jump S_f7_16 D_f7_16 (X_f7_16.mk x.s_1 (TSnap_writer.mk x.m_4.Writer)))
 )
theorem sd_f7_12 (D_f7_12 : Dyn X_f7_12 R_f7) (x : X_f7_12) : (tt_f7_12 D_f7_12 x).Sides :=
  (TT.s_ite (TT.s_need (TT.s_call fun _ => TT.s_jump)) TT.s_jump)

theorem dn_f7_12 (D_f7_12 : Dyn X_f7_12 R_f7) (x : X_f7_12) : J_f7.den [⟨S_f7_12, D_f7_12⟩, ⟨S_f7_16, D_f7_16⟩] S_f7_12 x 4000 = (tt_f7_12 D_f7_12 x).tree J_f7.enc := by kernel_rfl
theorem st_f7_12 (D_f7_12 : Dyn X_f7_12 R_f7) (h_12 : LabOK J_f7 S_f7_12 D_f7_12) : LabOK J_f7 S_f7_12 (.of (tt_f7_12 D_f7_12)) :=
  lab_ok mixed_ok (labs_cons rfl h_12 (labs_cons rfl ok_f7_16 labs_nil)) 4000 (dn_f7_12 D_f7_12) (sd_f7_12 D_f7_12)
noncomputable def D_f7_12 : Dyn X_f7_12 R_f7 := Dyn.loop (tt_f7_12 )
theorem ok_f7_12  : LabOK J_f7 S_f7_12 (D_f7_12 ) :=
  loop_ok fun D h => st_f7_12  D  h
noncomputable def tt_f7_10 (x : X_f7_10) : TT Try.prog R_f7 :=
 (.call con_f16 ((Go.Vm.Sl.mk false (1 : Nat) (fun _i1 => (Go.IntKind.wrap Go.IntKind.u64 ((x.s_1.Rings.n : Nat) : Int)))), (TSnap_writer.mk x.m_4.Writer)) fun (y1 : R_f16) =>
 (.jump S_f7_12 D_f7_12 (X_f7_12.mk x.s_1 x.s_1.Rings ((x.s_1.Rings.n : Nat) : Int) (0 : Int) (TSnap_writer.mk y1.Writer)))
 )
theorem sd_f7_10 (x : X_f7_10) : (tt_f7_10  x).Sides :=
  (TT.s_call fun _ => TT.s_jump)

theorem dn_f7_10 (x : X_f7_10) : J_f7.den [⟨S_f7_16, D_f7_16⟩, ⟨S_f7_12, D_f7_12⟩] S_f7_10 x 4000 = (tt_f7_10  x).tree J_f7.enc := by kernel_rfl
theorem st_f7_10  : LabOK J_f7 S_f7_10 (.of tt_f7_10) :=
  lab_ok mixed_ok (labs_cons rfl ok_f7_16 (labs_cons rfl ok_f7_12 labs_nil)) 4000 (dn_f7_10 ) (sd_f7_10 )
noncomputable def D_f7_10 : Dyn X_f7_10 R_f7 := .of (tt_f7_10 )
theorem ok_f7_10  : LabOK J_f7 S_f7_10 (D_f7_10 ) :=
  st_f7_10  
noncomputable def tt_f7_6 (D_f7_6 : Dyn X_f7_6 R_f7) (x : X_f7_6) : TT Try.prog R_f7 :=
 (.ite (Go.Vm.ilt x.q_21 x.q_20)
  (.need (Go.Vm.inb x.q_21 x.q_19.n) <|
  (.call con_f17 ((x.q_19.get (Int.toNat x.q_21)), (TSnap_writer.mk x.m_4.Writer)) fun (y2 : R_f17) =>
  (.jump S_f7_6 D_f7_6 (X_f7_6.mk x.s_1 x.q_19 x.q_20 (Go.IntKind.wrap Go.IntKind.i64 (x.q_21 + (1 : Int))) (TSnap_writer.mk y2.Writer)))
  )
  )
  (.jump S_f7_10 D_f7_10 (X_f7_10.mk x.s_1 (TSnap_writer.mk x.m_4.Writer)))
 )
theorem sd_f7_6 (D_f7_6 : Dyn X_f7_6 R_f7) (x : X_f7_6) : (tt_f7_6 D_f7_6 x).Sides :=
  (TT.s_ite (TT.s_need (TT.s_call fun _ => TT.s_jump)) TT.s_jump)

theorem dn_f7_6 (D_f7_6 : Dyn X_f7_6 R_f7) (x : X_f7_6) : J_f7.den [⟨S_f7_6, D_f7_6⟩, ⟨S_f7_16, D_f7_16⟩, ⟨S_f7_12, D_f7_12⟩, ⟨S_f7_10, D_f7_10⟩] S_f7_6 x 4000 = (tt_f7_6 D_f7_6 x).tree J_f7.enc := by kernel_rfl
theorem st_f7_6 (D_f7_6 : Dyn X_f7_6 R_f7) (h_6 : LabOK J_f7 S_f7_6 D_f7_6) : LabOK J_f7 S_f7_6 (.of (tt_f7_6 D_f7_6)) :=
  lab_ok mixed_ok (labs_cons rfl h_6 (labs_cons rfl ok_f7_16 (labs_cons rfl ok_f7_12 (labs_cons rfl ok_f7_10 labs_nil)))) 4000 (dn_f7_6 D_f7_6) (sd_f7_6 D_f7_6)
noncomputable def D_f7_6 : Dyn X_f7_6 R_f7 := Dyn.loop (tt_f7_6 )
theorem ok_f7_6  : LabOK J_f7 S_f7_6 (D_f7_6 ) :=
  loop_ok fun D h => st_f7_6  D  h
noncomputable def tt_f7 (x : X_f7) : TT Try.prog R_f7 :=
 (.call con_f15 x fun (y1 : R_f15) =>
 (.ite (!y1)
  (.ret ((ByteArray.mk #[]), (1 : Int)))
  (.call con_f16 ((Go.Vm.Sl.mk false (1 : Nat) (fun _i2 => (Go.IntKind.wrap Go.IntKind.u64 ((x.Threads.n : Nat) : Int)))), (TSnap_writer.mk (TOctet_Writer.mk (Go.Vm.Sl.mk true (0 : Nat) (fun _i2 => (0 : Int)))))) fun (y2 : R_f16) =>
  (.jump S_f7_6 D_f7_6 (X_f7_6.mk x x.Threads ((x.Threads.n : Nat) : Int) (0 : Int) (TSnap_writer.mk y2.Writer)))
  )
 )
 )
theorem sd_f7 (x : X_f7) : (tt_f7  x).Sides :=
  (TT.s_call fun _ => (TT.s_ite TT.s_ret (TT.s_call fun _ => TT.s_jump)))

theorem dn_f7 (x : X_f7) : J_f7.den [⟨S_f7_16, D_f7_16⟩, ⟨S_f7_12, D_f7_12⟩, ⟨S_f7_10, D_f7_10⟩, ⟨S_f7_6, D_f7_6⟩] S_f7 x 4000 = (tt_f7  x).tree J_f7.enc := by kernel_rfl
theorem st_f7  : LabOK J_f7 S_f7 (.of tt_f7) :=
  lab_ok mixed_ok (labs_cons rfl ok_f7_16 (labs_cons rfl ok_f7_12 (labs_cons rfl ok_f7_10 (labs_cons rfl ok_f7_6 labs_nil)))) 4000 (dn_f7 ) (sd_f7 )
noncomputable def D_f7 : Dyn X_f7 R_f7 := .of tt_f7
theorem ct_f7 (x : X_f7) (y : R_f7) (h : D_f7.rel x y) : OK Try.prog 7 [e_TApi_State x] [] (V.tup (V.cons (V.str y.1) (V.cons ((V.int .i64) y.2) (V.unit)))) [] :=
  contract (fn := Try.f7) (J := J_f7) (S := S_f7) (D := D_f7) (by kernel_rfl) (code := Try.f7.body.getD .skip) (by kernel_rfl) rfl st_f7 rfl (x := x) (y := y) h rfl rfl rfl rfl rfl (by kernel_rfl)
noncomputable def con_f7 : Con Try.prog where
  f := 7
  fn := Try.f7
  hf := by kernel_rfl
  hb := by kernel_rfl
  hn := by kernel_rfl
  X := X_f7
  Y := R_f7
  args := fun x => [e_TApi_State x]
  objs := fun x => []
  res := fun y => V.tup (V.cons (V.str y.1) (V.cons ((V.int .i64) y.2) (V.unit)))
  outs := fun y => []
  rel := D_f7.rel
  ev := D_f7.ev
  evOK := D_f7.evOK
  dec := fun l m => (d_TApi_State (at_ l 0))
  ash := [sh_TApi_State]
  osh := []
  ok := ct_f7

structure TOctet_Reader where
  s : ByteArray
  at0 : Int

def d_TOctet_Reader (v : V) : TOctet_Reader :=
  ⟨dS (fd v 0), dI (fd v 1)⟩

def e_TOctet_Reader (x : TOctet_Reader) : V :=
  V.cons (V.str x.s) (V.cons ((V.int .i64) x.at0) (V.unit))

/-! octet.New -/
abbrev X_f30 : Type := ByteArray
abbrev R_f30 : Type := (Bx TOctet_Reader)
noncomputable def J_f30 : Job Try.prog where
  fn := Try.f30
  nt := 6
  pol := tabN 0 [(3, 1)]
  hint := tabN [] []
  finH := [.shut 2]
  rsh := [(.box (e_TOctet_Reader (d_TOctet_Reader .undef)))]
  psh := []
  tab := []
  R := R_f30
  enc := fun y => [(eBx e_TOctet_Reader) y]
noncomputable def S_f30 : LabS where
  id := 0
  K := [.code (Try.f30.body.getD .skip)]
  lay := entryLay 1 0
  X := X_f30
  enc := fun x => [V.str x]
  dec := fun l => (dS (at_ l 0))
noncomputable def tt_f30 (x : X_f30) : TT Try.prog R_f30 :=
 (.ret (Go.Vm.Bx.mk false (TOctet_Reader.mk x (0 : Int))))
theorem sd_f30 (x : X_f30) : (tt_f30  x).Sides :=
  TT.s_ret

theorem dn_f30 (x : X_f30) : J_f30.den [] S_f30 x 4000 = (tt_f30  x).tree J_f30.enc := by kernel_rfl
theorem st_f30  : LabOK J_f30 S_f30 (.of tt_f30) :=
  lab_ok mixed_ok labs_nil 4000 (dn_f30 ) (sd_f30 )
noncomputable def D_f30 : Dyn X_f30 R_f30 := .of tt_f30
theorem ct_f30 (x : X_f30) (y : R_f30) (h : D_f30.rel x y) : OK Try.prog 30 [V.str x] [] ((eBx e_TOctet_Reader) y) [] :=
  contract (fn := Try.f30) (J := J_f30) (S := S_f30) (D := D_f30) (by kernel_rfl) (code := Try.f30.body.getD .skip) (by kernel_rfl) rfl st_f30 rfl (x := x) (y := y) h rfl rfl rfl rfl rfl (by kernel_rfl)
noncomputable def con_f30 : Con Try.prog where
  f := 30
  fn := Try.f30
  hf := by kernel_rfl
  hb := by kernel_rfl
  hn := by kernel_rfl
  X := X_f30
  Y := R_f30
  args := fun x => [V.str x]
  objs := fun x => []
  res := fun y => (eBx e_TOctet_Reader) y
  outs := fun y => []
  rel := D_f30.rel
  ev := D_f30.ev
  evOK := D_f30.evOK
  dec := fun l m => (dS (at_ l 0))
  ash := [.any]
  osh := []
  ok := ct_f30

/-! (*octet.Reader).Left -/
abbrev X_f35 : Type := TOctet_Reader
abbrev R_f35 : Type := Int × TOctet_Reader
noncomputable def J_f35 : Job Try.prog where
  fn := Try.f35
  nt := 15
  pol := tabN 0 [(10, 1)]
  hint := tabN [] []
  finH := []
  rsh := [.any]
  psh := [.any]
  tab := []
  R := R_f35
  enc := fun y => [(V.int .i64) y.1, e_TOctet_Reader y.2]
noncomputable def S_f35 : LabS where
  id := 0
  K := [.code (Try.f35.body.getD .skip)]
  lay := entryLay 1 1
  X := X_f35
  enc := fun x => [(V.ptr (.par 0) []), e_TOctet_Reader x]
  dec := fun l => (d_TOctet_Reader (at_ l 1))
noncomputable def tt_f35 (x : X_f35) : TT Try.prog R_f35 :=
 (.ret ((Go.IntKind.wrap Go.IntKind.i64 ((((ByteArray.size x.s) : Nat) : Int) - x.at0)), x))
theorem sd_f35 (x : X_f35) : (tt_f35  x).Sides :=
  TT.s_ret

theorem dn_f35 (x : X_f35) : J_f35.den [] S_f35 x 4000 = (tt_f35  x).tree J_f35.enc := by kernel_rfl
theorem st_f35  : LabOK J_f35 S_f35 (.of tt_f35) :=
  lab_ok mixed_ok labs_nil 4000 (dn_f35 ) (sd_f35 )
noncomputable def D_f35 : Dyn X_f35 R_f35 := .of tt_f35
theorem ct_f35 (x : X_f35) (y : R_f35) (h : D_f35.rel x y) : OK Try.prog 35 [(V.ptr (.par 0) [])] [e_TOctet_Reader x] ((V.int .i64) y.1) [e_TOctet_Reader y.2] :=
  contract (fn := Try.f35) (J := J_f35) (S := S_f35) (D := D_f35) (by kernel_rfl) (code := Try.f35.body.getD .skip) (by kernel_rfl) rfl st_f35 rfl (x := x) (y := y) h rfl rfl rfl rfl rfl (by kernel_rfl)
noncomputable def con_f35 : Con Try.prog where
  f := 35
  fn := Try.f35
  hf := by kernel_rfl
  hb := by kernel_rfl
  hn := by kernel_rfl
  X := X_f35
  Y := R_f35
  args := fun x => [(V.ptr (.par 0) [])]
  objs := fun x => [e_TOctet_Reader x]
  res := fun y => (V.int .i64) y.1
  outs := fun y => [e_TOctet_Reader y.2]
  rel := D_f35.rel
  ev := D_f35.ev
  evOK := D_f35.evOK
  dec := fun l m => (d_TOctet_Reader (at_ m 0))
  ash := [.any]
  osh := [.any]
  ok := ct_f35

/-! (*octet.Reader).Take -/
abbrev X_f75 : Type := Int × TOctet_Reader
abbrev R_f75 : Type := ByteArray × Int × TOctet_Reader
noncomputable def J_f75 : Job Try.prog where
  fn := Try.f75
  nt := 42
  pol := tabN 0 [(33, 1), (37, 1), (41, 1)]
  hint := tabN [] []
  finH := []
  rsh := [.any, .any]
  psh := [.any]
  tab := [con_f35]
  R := R_f75
  enc := fun y => [V.tup (V.cons (V.str y.1) (V.cons ((V.int .i64) y.2.1) (V.unit))), e_TOctet_Reader y.2.2]
noncomputable def S_f75 : LabS where
  id := 0
  K := [.code (Try.f75.body.getD .skip)]
  lay := entryLay 2 1
  X := X_f75
  enc := fun x => [(V.ptr (.par 0) []), (V.int .i64) x.1, e_TOctet_Reader x.2]
  dec := fun l => (dI (at_ l 1), d_TOctet_Reader (at_ l 2))
noncomputable def tt_f75 (x : X_f75) : TT Try.prog R_f75 :=
 (.ite (Go.Vm.ilt x.fst (0 : Int))
  (.ret ((ByteArray.mk #[]), ((1 : Int), x.snd)))
  (.call con_f35 x.snd fun (y1 : R_f35) =>
  (.ite (Go.Vm.ilt y1.fst x.fst)
   (.ret ((ByteArray.mk #[]), ((2 : Int), y1.snd)))
   (.need ((Go.Vm.upto (Go.IntKind.wrap Go.IntKind.i64 (y1.snd.at0 + x.fst)) (ByteArray.size y1.snd.s)) && (Go.Vm.upto y1.snd.at0 (Int.toNat (Go.IntKind.wrap Go.IntKind.i64 (y1.snd.at0 + x.fst))))) <|
   (.ret ((ByteArray.extract y1.snd.s (Int.toNat y1.snd.at0) (Int.toNat (Go.IntKind.wrap Go.IntKind.i64 (y1.snd.at0 + x.fst)))), ((0 : Int), (TOctet_Reader.mk y1.snd.s (Go.IntKind.wrap Go.IntKind.i64 (y1.snd.at0 + x.fst))))))
   )
  )
  )
 )
theorem sd_f75 (x : X_f75) : (tt_f75  x).Sides :=
  (TT.s_ite TT.s_ret (TT.s_call fun _ => (TT.s_ite TT.s_ret (TT.s_need TT.s_ret))))

theorem dn_f75 (x : X_f75) : J_f75.den [] S_f75 x 4000 = (tt_f75  x).tree J_f75.enc := by kernel_rfl
theorem st_f75  : LabOK J_f75 S_f75 (.of tt_f75) :=
  lab_ok mixed_ok labs_nil 4000 (dn_f75 ) (sd_f75 )
noncomputable def D_f75 : Dyn X_f75 R_f75 := .of tt_f75
theorem ct_f75 (x : X_f75) (y : R_f75) (h : D_f75.rel x y) : OK Try.prog 75 [(V.ptr (.par 0) []), (V.int .i64) x.1] [e_TOctet_Reader x.2] (V.tup (V.cons (V.str y.1) (V.cons ((V.int .i64) y.2.1) (V.unit)))) [e_TOctet_Reader y.2.2] :=
  contract (fn := Try.f75) (J := J_f75) (S := S_f75) (D := D_f75) (by kernel_rfl) (code := Try.f75.body.getD .skip) (by kernel_rfl) rfl st_f75 rfl (x := x) (y := y) h rfl rfl rfl rfl rfl (by kernel_rfl)
noncomputable def con_f75 : Con Try.prog where
  f := 75
  fn := Try.f75
  hf := by kernel_rfl
  hb := by kernel_rfl
  hn := by kernel_rfl
  X := X_f75
  Y := R_f75
  args := fun x => [(V.ptr (.par 0) []), (V.int .i64) x.1]
  objs := fun x => [e_TOctet_Reader x.2]
  res := fun y => V.tup (V.cons (V.str y.1) (V.cons ((V.int .i64) y.2.1) (V.unit)))
  outs := fun y => [e_TOctet_Reader y.2.2]
  rel := D_f75.rel
  ev := D_f75.ev
  evOK := D_f75.evOK
  dec := fun l m => (dI (at_ l 1), d_TOctet_Reader (at_ m 0))
  ash := [.any, .any]
  osh := [.any]
  ok := ct_f75

/-! (*octet.Reader).Byte -/
abbrev X_f64 : Type := TOctet_Reader
abbrev R_f64 : Type := Int × Int × TOctet_Reader
noncomputable def J_f64 : Job Try.prog where
  fn := Try.f64
  nt := 16
  pol := tabN 0 [(6, 1), (7, 1), (13, 1), (14, 1)]
  hint := tabN [] []
  finH := []
  rsh := [.any, .any]
  psh := [.any]
  tab := [con_f75]
  R := R_f64
  enc := fun y => [V.tup (V.cons ((V.int .u8) y.1) (V.cons ((V.int .i64) y.2.1) (V.unit))), e_TOctet_Reader y.2.2]
noncomputable def S_f64 : LabS where
  id := 0
  K := [.code (Try.f64.body.getD .skip)]
  lay := entryLay 1 1
  X := X_f64
  enc := fun x => [(V.ptr (.par 0) []), e_TOctet_Reader x]
  dec := fun l => (d_TOctet_Reader (at_ l 1))
noncomputable def tt_f64 (x : X_f64) : TT Try.prog R_f64 :=
 (.call con_f75 ((1 : Int), x) fun (y1 : R_f75) =>
 (.ite (!(Go.Vm.ieq y1.snd.fst (0 : Int)))
  (.ret ((0 : Int), y1.snd))
  (.need (Go.Vm.inb (0 : Int) (ByteArray.size y1.fst)) <|
  (.ret ((Go.Vm.bt y1.fst (Int.toNat (0 : Int))), ((0 : Int), y1.snd.snd)))
  )
 )
 )
theorem sd_f64 (x : X_f64) : (tt_f64  x).Sides :=
  (TT.s_call fun _ => (TT.s_ite TT.s_ret (TT.s_need TT.s_ret)))

theorem dn_f64 (x : X_f64) : J_f64.den [] S_f64 x 4000 = (tt_f64  x).tree J_f64.enc := by kernel_rfl
theorem st_f64  : LabOK J_f64 S_f64 (.of tt_f64) :=
  lab_ok mixed_ok labs_nil 4000 (dn_f64 ) (sd_f64 )
noncomputable def D_f64 : Dyn X_f64 R_f64 := .of tt_f64
theorem ct_f64 (x : X_f64) (y : R_f64) (h : D_f64.rel x y) : OK Try.prog 64 [(V.ptr (.par 0) [])] [e_TOctet_Reader x] (V.tup (V.cons ((V.int .u8) y.1) (V.cons ((V.int .i64) y.2.1) (V.unit)))) [e_TOctet_Reader y.2.2] :=
  contract (fn := Try.f64) (J := J_f64) (S := S_f64) (D := D_f64) (by kernel_rfl) (code := Try.f64.body.getD .skip) (by kernel_rfl) rfl st_f64 rfl (x := x) (y := y) h rfl rfl rfl rfl rfl (by kernel_rfl)
noncomputable def con_f64 : Con Try.prog where
  f := 64
  fn := Try.f64
  hf := by kernel_rfl
  hb := by kernel_rfl
  hn := by kernel_rfl
  X := X_f64
  Y := R_f64
  args := fun x => [(V.ptr (.par 0) [])]
  objs := fun x => [e_TOctet_Reader x]
  res := fun y => V.tup (V.cons ((V.int .u8) y.1) (V.cons ((V.int .i64) y.2.1) (V.unit)))
  outs := fun y => [e_TOctet_Reader y.2.2]
  rel := D_f64.rel
  ev := D_f64.ev
  evOK := D_f64.evOK
  dec := fun l m => (d_TOctet_Reader (at_ m 0))
  ash := [.any]
  osh := [.any]
  ok := ct_f64

/-! varint.Read -/
abbrev X_f50 : Type := TOctet_Reader
abbrev R_f50 : Type := Int × Int × TOctet_Reader
noncomputable def J_f50 : Job Try.prog where
  fn := Try.f50
  nt := 44
  pol := tabN 0 [(7, 1), (10, 1), (18, 1), (22, 1), (28, 1), (32, 1), (36, 1), (40, 1), (43, 1)]
  hint := tabN [] []
  finH := []
  rsh := [.any, .any]
  psh := [.any]
  tab := [con_f64]
  R := R_f50
  enc := fun y => [V.tup (V.cons ((V.int .u64) y.1) (V.cons ((V.int .i64) y.2.1) (V.unit))), e_TOctet_Reader y.2.2]
noncomputable def S_f50 : LabS where
  id := 0
  K := [.code (Try.f50.body.getD .skip)]
  lay := entryLay 1 1
  X := X_f50
  enc := fun x => [(V.ptr (.par 0) []), e_TOctet_Reader x]
  dec := fun l => (d_TOctet_Reader (at_ l 1))
structure X_f50_2 where
  n_2 : Int
  q_7 : Int
  o_0 : TOctet_Reader
noncomputable def S_f50_2 : LabS where
  id := 2
  K := (kAt 2 (Try.f50.body.getD .skip) []).getD []
  lay := { live := [(0, .any), (2, .any), (7, .any)], pars := [.any], locs := [] }
  X := X_f50_2
  enc := fun x => [(V.ptr (.par 0) []), (V.int .u64) x.n_2, (V.int .i64) x.q_7, e_TOctet_Reader x.o_0]
  dec := fun l => ⟨dI (at_ l 1), dI (at_ l 2), d_TOctet_Reader (at_ l 3)⟩
structure X_f50_10 where
  n_2 : Int
  k_4 : Int
  b_5 : Int
  q_7 : Int
  o_0 : TOctet_Reader
noncomputable def S_f50_10 : LabS where
  id := 10
  K := (kAt 10 (Try.f50.body.getD .skip) []).getD []
  lay := { live := [(0, .any), (2, .any), (4, .any), (5, .any), (7, .any)], pars := [.any], locs := [] }
  X := X_f50_10
  enc := fun x => [(V.ptr (.par 0) []), (V.int .u64) x.n_2, (V.int .i64) x.k_4, (V.int .u8) x.b_5, (V.int .i64) x.q_7, e_TOctet_Reader x.o_0]
  dec := fun l => ⟨dI (at_ l 1), dI (at_ l 2), dI (at_ l 3), dI (at_ l 4), d_TOctet_Reader (at_ l 5)⟩
structure X_f50_12 where
  n_2 : Int
  q_7 : Int
  o_0 : TOctet_Reader
noncomputable def S_f50_12 : LabS where
  id := 12
  K := (kAt 12 (Try.f50.body.getD .skip) []).getD []
  lay := { live := [(0, .any), (2, .any), (7, .any)], pars := [.any], locs := [] }
  X := X_f50_12
  enc := fun x => [(V.ptr (.par 0) []), (V.int .u64) x.n_2, (V.int .i64) x.q_7, e_TOctet_Reader x.o_0]
  dec := fun l => ⟨dI (at_ l 1), dI (at_ l 2), d_TOctet_Reader (at_ l 3)⟩
noncomputable def tt_f50_12 (D_f50_2 : Dyn X_f50_2 R_f50) (x : X_f50_12) : TT Try.prog R_f50 :=
 (.jump S_f50_2 D_f50_2 (X_f50_2.mk x.n_2 (Go.IntKind.wrap Go.IntKind.i64 (x.q_7 + (1 : Int))) x.o_0))
theorem sd_f50_12 (D_f50_2 : Dyn X_f50_2 R_f50) (x : X_f50_12) : (tt_f50_12 D_f50_2 x).Sides :=
  TT.s_jump

theorem dn_f50_12 (D_f50_2 : Dyn X_f50_2 R_f50) (x : X_f50_12) : J_f50.den [⟨S_f50_2, D_f50_2⟩] S_f50_12 x 4000 = (tt_f50_12 D_f50_2 x).tree J_f50.enc := by kernel_rfl
theorem st_f50_12 (D_f50_2 : Dyn X_f50_2 R_f50) (h_2 : LabOK J_f50 S_f50_2 D_f50_2) : LabOK J_f50 S_f50_12 (.of (tt_f50_12 D_f50_2)) :=
  lab_ok mixed_ok (labs_cons rfl h_2 labs_nil) 4000 (dn_f50_12 D_f50_2) (sd_f50_12 D_f50_2)
noncomputable def D_f50_12 (D_f50_2 : Dyn X_f50_2 R_f50) : Dyn X_f50_12 R_f50 := .of (tt_f50_12 D_f50_2)
theorem ok_f50_12 (D_f50_2 : Dyn X_f50_2 R_f50) (h_2 : LabOK J_f50 S_f50_2 D_f50_2) : LabOK J_f50 S_f50_12 (D_f50_12 D_f50_2) :=
  st_f50_12 D_f50_2 h_2
noncomputable def tt_f50_10 (D_f50_2 : Dyn X_f50_2 R_f50) (x : X_f50_10) : TT Try.prog R_f50 :=
 (.need (Go.Vm.ile (0 : Int) (Go.IntKind.wrap Go.IntKind.i64 ((7 : Int) * x.k_4))) <|
 (.ite (Go.Vm.ilt x.b_5 (128 : Int))
  (.ret ((Go.Vm.bits Go.BinOp.or Go.IntKind.u64 x.n_2 (Go.Vm.shl Go.IntKind.u64 (Go.IntKind.wrap Go.IntKind.u64 (Go.Vm.bits Go.BinOp.and Go.IntKind.u8 x.b_5 (127 : Int))) (Go.IntKind.wrap Go.IntKind.i64 ((7 : Int) * x.k_4)))), ((0 : Int), x.o_0)))
  (.jump S_f50_12 (D_f50_12 D_f50_2) (X_f50_12.mk (Go.Vm.bits Go.BinOp.or Go.IntKind.u64 x.n_2 (Go.Vm.shl Go.IntKind.u64 (Go.IntKind.wrap Go.IntKind.u64 (Go.Vm.bits Go.BinOp.and Go.IntKind.u8 x.b_5 (127 : Int))) (Go.IntKind.wrap Go.IntKind.i64 ((7 : Int) * x.k_4)))) x.q_7 x.o_0))
 )
 )
theorem sd_f50_10 (D_f50_2 : Dyn X_f50_2 R_f50) (x : X_f50_10) : (tt_f50_10 D_f50_2 x).Sides :=
  (TT.s_need (TT.s_ite TT.s_ret TT.s_jump))

theorem dn_f50_10 (D_f50_2 : Dyn X_f50_2 R_f50) (x : X_f50_10) : J_f50.den [⟨S_f50_2, D_f50_2⟩, ⟨S_f50_12, (D_f50_12 D_f50_2)⟩] S_f50_10 x 4000 = (tt_f50_10 D_f50_2 x).tree J_f50.enc := by kernel_rfl
theorem st_f50_10 (D_f50_2 : Dyn X_f50_2 R_f50) (h_2 : LabOK J_f50 S_f50_2 D_f50_2) : LabOK J_f50 S_f50_10 (.of (tt_f50_10 D_f50_2)) :=
  lab_ok mixed_ok (labs_cons rfl h_2 (labs_cons rfl (ok_f50_12 D_f50_2 h_2) labs_nil)) 4000 (dn_f50_10 D_f50_2) (sd_f50_10 D_f50_2)
noncomputable def D_f50_10 (D_f50_2 : Dyn X_f50_2 R_f50) : Dyn X_f50_10 R_f50 := .of (tt_f50_10 D_f50_2)
theorem ok_f50_10 (D_f50_2 : Dyn X_f50_2 R_f50) (h_2 : LabOK J_f50 S_f50_2 D_f50_2) : LabOK J_f50 S_f50_10 (D_f50_10 D_f50_2) :=
  st_f50_10 D_f50_2 h_2
noncomputable def tt_f50_2 (D_f50_2 : Dyn X_f50_2 R_f50) (x : X_f50_2) : TT Try.prog R_f50 :=
 (.ite (Go.Vm.ilt x.q_7 (10 : Int))
  (.call con_f64 x.o_0 fun (y2 : R_f64) =>
  (.ite (!(Go.Vm.ieq y2.snd.fst (0 : Int)))
   (.ret ((0 : Int), y2.snd))
   (.ite (Go.Vm.ilt (0 : Int) x.q_7)
    (.ite (Go.Vm.ieq y2.fst (0 : Int))
     (.ret ((0 : Int), ((3 : Int), y2.snd.snd)))
     (.ite (Go.Vm.ieq x.q_7 (9 : Int))
      (.ite (Go.Vm.ilt (1 : Int) y2.fst)
       (.ret ((0 : Int), ((3 : Int), y2.snd.snd)))
       (.jump S_f50_10 (D_f50_10 D_f50_2) (X_f50_10.mk x.n_2 x.q_7 y2.fst x.q_7 y2.snd.snd))
      )
      (.jump S_f50_10 (D_f50_10 D_f50_2) (X_f50_10.mk x.n_2 x.q_7 y2.fst x.q_7 y2.snd.snd))
     )
    )
    (.ite (Go.Vm.ieq x.q_7 (9 : Int))
     (.ite (Go.Vm.ilt (1 : Int) y2.fst)
      (.ret ((0 : Int), ((3 : Int), y2.snd.snd)))
      (.jump S_f50_10 (D_f50_10 D_f50_2) (X_f50_10.mk x.n_2 x.q_7 y2.fst x.q_7 y2.snd.snd))
     )
     (.jump S_f50_10 (D_f50_10 D_f50_2) (X_f50_10.mk x.n_2 x.q_7 y2.fst x.q_7 y2.snd.snd))
    )
   )
  )
  )
  (.ret (x.n_2, ((0 : Int), x.o_0)))
 )
theorem sd_f50_2 (D_f50_2 : Dyn X_f50_2 R_f50) (x : X_f50_2) : (tt_f50_2 D_f50_2 x).Sides :=
  (TT.s_ite (TT.s_call fun _ => (TT.s_ite TT.s_ret (TT.s_ite (TT.s_ite TT.s_ret (TT.s_ite (TT.s_ite TT.s_ret TT.s_jump) TT.s_jump)) (TT.s_ite (TT.s_ite TT.s_ret TT.s_jump) TT.s_jump)))) TT.s_ret)

theorem dn_f50_2 (D_f50_2 : Dyn X_f50_2 R_f50) (x : X_f50_2) : J_f50.den [⟨S_f50_2, D_f50_2⟩, ⟨S_f50_12, (D_f50_12 D_f50_2)⟩, ⟨S_f50_10, (D_f50_10 D_f50_2)⟩] S_f50_2 x 4000 = (tt_f50_2 D_f50_2 x).tree J_f50.enc := by kernel_rfl
theorem st_f50_2 (D_f50_2 : Dyn X_f50_2 R_f50) (h_2 : LabOK J_f50 S_f50_2 D_f50_2) : LabOK J_f50 S_f50_2 (.of (tt_f50_2 D_f50_2)) :=
  lab_ok mixed_ok (labs_cons rfl h_2 (labs_cons rfl (ok_f50_12 D_f50_2 h_2) (labs_cons rfl (ok_f50_10 D_f50_2 h_2) labs_nil))) 4000 (dn_f50_2 D_f50_2) (sd_f50_2 D_f50_2)
noncomputable def D_f50_2 : Dyn X_f50_2 R_f50 := Dyn.loop (tt_f50_2 )
theorem ok_f50_2  : LabOK J_f50 S_f50_2 (D_f50_2 ) :=
  loop_ok fun D h => st_f50_2  D  h
noncomputable def tt_f50 (x : X_f50) : TT Try.prog R_f50 :=
 (.jump S_f50_2 D_f50_2 (X_f50_2.mk (0 : Int) (0 : Int) x))
theorem sd_f50 (x : X_f50) : (tt_f50  x).Sides :=
  TT.s_jump

theorem dn_f50 (x : X_f50) : J_f50.den [⟨S_f50_2, D_f50_2⟩] S_f50 x 4000 = (tt_f50  x).tree J_f50.enc := by kernel_rfl
theorem st_f50  : LabOK J_f50 S_f50 (.of tt_f50) :=
  lab_ok mixed_ok (labs_cons rfl ok_f50_2 labs_nil) 4000 (dn_f50 ) (sd_f50 )
noncomputable def D_f50 : Dyn X_f50 R_f50 := .of tt_f50
theorem ct_f50 (x : X_f50) (y : R_f50) (h : D_f50.rel x y) : OK Try.prog 50 [(V.ptr (.par 0) [])] [e_TOctet_Reader x] (V.tup (V.cons ((V.int .u64) y.1) (V.cons ((V.int .i64) y.2.1) (V.unit)))) [e_TOctet_Reader y.2.2] :=
  contract (fn := Try.f50) (J := J_f50) (S := S_f50) (D := D_f50) (by kernel_rfl) (code := Try.f50.body.getD .skip) (by kernel_rfl) rfl st_f50 rfl (x := x) (y := y) h rfl rfl rfl rfl rfl (by kernel_rfl)
noncomputable def con_f50 : Con Try.prog where
  f := 50
  fn := Try.f50
  hf := by kernel_rfl
  hb := by kernel_rfl
  hn := by kernel_rfl
  X := X_f50
  Y := R_f50
  args := fun x => [(V.ptr (.par 0) [])]
  objs := fun x => [e_TOctet_Reader x]
  res := fun y => V.tup (V.cons ((V.int .u64) y.1) (V.cons ((V.int .i64) y.2.1) (V.unit)))
  outs := fun y => [e_TOctet_Reader y.2.2]
  rel := D_f50.rel
  ev := D_f50.ev
  evOK := D_f50.evOK
  dec := fun l m => (d_TOctet_Reader (at_ m 0))
  ash := [.any]
  osh := [.any]
  ok := ct_f50

structure TSnap_reader where
  r : (Bx TOctet_Reader)
  bad : Bool

def d_TSnap_reader (v : V) : TSnap_reader :=
  ⟨(dBx d_TOctet_Reader) (fd v 0), dB (fd v 1)⟩

def e_TSnap_reader (x : TSnap_reader) : V :=
  V.cons ((eBx e_TOctet_Reader) x.r) (V.cons (V.bool x.bad) (V.unit))

def sh_TSnap_reader : Sh := (.cons (.box (e_TOctet_Reader (d_TOctet_Reader .undef))) .any)

/-! (*snap.reader).number -/
abbrev X_f34 : Type := TSnap_reader
abbrev R_f34 : Type := Int × TSnap_reader
noncomputable def J_f34 : Job Try.prog where
  fn := Try.f34
  nt := 25
  pol := tabN 0 [(5, 1), (14, 1), (18, 1), (19, 1), (24, 1)]
  hint := tabN [] [(0, [.close (.loc 9 0)]), (1, [.close (.loc 9 0)]), (2, [.close (.loc 9 0)]), (3, [.close (.loc 9 0)])]
  finH := [.close (.loc 9 0)]
  rsh := [.any]
  psh := [sh_TSnap_reader]
  tab := [con_f50]
  R := R_f34
  enc := fun y => [(V.int .u64) y.1, e_TSnap_reader y.2]
noncomputable def S_f34 : LabS where
  id := 0
  K := [.code (Try.f34.body.getD .skip)]
  lay := entryLay 1 1
  X := X_f34
  enc := fun x => [(V.ptr (.par 0) []), e_TSnap_reader x]
  dec := fun l => (d_TSnap_reader (at_ l 1))
noncomputable def tt_f34 (x : X_f34) : TT Try.prog R_f34 :=
 (.need (true && (!x.r.nil)) <|
 (.call con_f50 x.r.x fun (y1 : R_f50) =>
 (.ite x.bad
  (.ret (y1.fst, (TSnap_reader.mk (Go.Vm.Bx.mk false y1.snd.snd) true)))
  (.ret (y1.fst, (TSnap_reader.mk (Go.Vm.Bx.mk false y1.snd.snd) (!(Go.Vm.ieq y1.snd.fst (0 : Int))))))
 )
 )
 )
theorem sd_f34 (x : X_f34) : (tt_f34  x).Sides :=
  (TT.s_need (TT.s_call fun _ => (TT.s_ite TT.s_ret TT.s_ret)))

theorem dn_f34 (x : X_f34) : J_f34.den [] S_f34 x 4000 = (tt_f34  x).tree J_f34.enc := by kernel_rfl
theorem st_f34  : LabOK J_f34 S_f34 (.of tt_f34) :=
  lab_ok mixed_ok labs_nil 4000 (dn_f34 ) (sd_f34 )
noncomputable def D_f34 : Dyn X_f34 R_f34 := .of tt_f34
theorem ct_f34 (x : X_f34) (y : R_f34) (h : D_f34.rel x y) : OK Try.prog 34 [(V.ptr (.par 0) [])] [e_TSnap_reader x] ((V.int .u64) y.1) [e_TSnap_reader y.2] :=
  contract (fn := Try.f34) (J := J_f34) (S := S_f34) (D := D_f34) (by kernel_rfl) (code := Try.f34.body.getD .skip) (by kernel_rfl) rfl st_f34 rfl (x := x) (y := y) h rfl rfl rfl rfl rfl (by kernel_rfl)
noncomputable def con_f34 : Con Try.prog where
  f := 34
  fn := Try.f34
  hf := by kernel_rfl
  hb := by kernel_rfl
  hn := by kernel_rfl
  X := X_f34
  Y := R_f34
  args := fun x => [(V.ptr (.par 0) [])]
  objs := fun x => [e_TSnap_reader x]
  res := fun y => (V.int .u64) y.1
  outs := fun y => [e_TSnap_reader y.2]
  rel := D_f34.rel
  ev := D_f34.ev
  evOK := D_f34.evOK
  dec := fun l m => (d_TSnap_reader (at_ m 0))
  ash := [.any]
  osh := [sh_TSnap_reader]
  ok := ct_f34

/-! (*snap.reader).small -/
abbrev X_f31 : Type := Int × TSnap_reader
abbrev R_f31 : Type := Int × TSnap_reader
noncomputable def J_f31 : Job Try.prog where
  fn := Try.f31
  nt := 17
  pol := tabN 0 [(9, 1), (12, 1), (15, 1)]
  hint := tabN [] []
  finH := []
  rsh := [.any]
  psh := [sh_TSnap_reader]
  tab := [con_f34]
  R := R_f31
  enc := fun y => [(V.int .i64) y.1, e_TSnap_reader y.2]
noncomputable def S_f31 : LabS where
  id := 0
  K := [.code (Try.f31.body.getD .skip)]
  lay := entryLay 2 1
  X := X_f31
  enc := fun x => [(V.ptr (.par 0) []), (V.int .i64) x.1, e_TSnap_reader x.2]
  dec := fun l => (dI (at_ l 1), d_TSnap_reader (at_ l 2))
noncomputable def tt_f31 (x : X_f31) : TT Try.prog R_f31 :=
 (.call con_f34 x.snd fun (y1 : R_f34) =>
 (.ite (Go.Vm.ilt (Go.IntKind.wrap Go.IntKind.u64 x.fst) y1.fst)
  (.ret ((0 : Int), (TSnap_reader.mk y1.snd.r true)))
  (.ret ((Go.IntKind.wrap Go.IntKind.i64 y1.fst), y1.snd))
 )
 )
theorem sd_f31 (x : X_f31) : (tt_f31  x).Sides :=
  (TT.s_call fun _ => (TT.s_ite TT.s_ret TT.s_ret))

theorem dn_f31 (x : X_f31) : J_f31.den [] S_f31 x 4000 = (tt_f31  x).tree J_f31.enc := by kernel_rfl
theorem st_f31  : LabOK J_f31 S_f31 (.of tt_f31) :=
  lab_ok mixed_ok labs_nil 4000 (dn_f31 ) (sd_f31 )
noncomputable def D_f31 : Dyn X_f31 R_f31 := .of tt_f31
theorem ct_f31 (x : X_f31) (y : R_f31) (h : D_f31.rel x y) : OK Try.prog 31 [(V.ptr (.par 0) []), (V.int .i64) x.1] [e_TSnap_reader x.2] ((V.int .i64) y.1) [e_TSnap_reader y.2] :=
  contract (fn := Try.f31) (J := J_f31) (S := S_f31) (D := D_f31) (by kernel_rfl) (code := Try.f31.body.getD .skip) (by kernel_rfl) rfl st_f31 rfl (x := x) (y := y) h rfl rfl rfl rfl rfl (by kernel_rfl)
noncomputable def con_f31 : Con Try.prog where
  f := 31
  fn := Try.f31
  hf := by kernel_rfl
  hb := by kernel_rfl
  hn := by kernel_rfl
  X := X_f31
  Y := R_f31
  args := fun x => [(V.ptr (.par 0) []), (V.int .i64) x.1]
  objs := fun x => [e_TSnap_reader x.2]
  res := fun y => (V.int .i64) y.1
  outs := fun y => [e_TSnap_reader y.2]
  rel := D_f31.rel
  ev := D_f31.ev
  evOK := D_f31.evOK
  dec := fun l m => (dI (at_ l 1), d_TSnap_reader (at_ m 0))
  ash := [.any, .any]
  osh := [sh_TSnap_reader]
  ok := ct_f31

/-! varint.ReadList -/
abbrev X_f63 : Type := Int × TOctet_Reader
abbrev R_f63 : Type := (Sl Int) × Int × TOctet_Reader
noncomputable def J_f63 : Job Try.prog where
  fn := Try.f63
  nt := 46
  pol := tabN 0 [(13, 1), (20, 1), (22, 1), (28, 1), (29, 1), (30, 1), (32, 1), (39, 1), (40, 1), (41, 1), (45, 1)]
  hint := tabN [] []
  finH := [.shut 4]
  rsh := [(.sl none 1 (V.int .u64 0)), .any]
  psh := [.any]
  tab := [con_f50]
  R := R_f63
  enc := fun y => [V.tup (V.cons ((eSl none 1 (V.int .u64)) y.1) (V.cons ((V.int .i64) y.2.1) (V.unit))), e_TOctet_Reader y.2.2]
noncomputable def S_f63 : LabS where
  id := 0
  K := [.code (Try.f63.body.getD .skip)]
  lay := entryLay 2 1
  X := X_f63
  enc := fun x => [(V.ptr (.par 0) []), (V.int .i64) x.1, e_TOctet_Reader x.2]
  dec := fun l => (dI (at_ l 1), d_TOctet_Reader (at_ l 2))
structure X_f63_6 where
  n_6 : Int
  e_7 : Int
  o_0 : TOctet_Reader
noncomputable def S_f63_6 : LabS where
  id := 6
  K := (kAt 6 (Try.f63.body.getD .skip) []).getD []
  lay := { live := [(0, .any), (6, .any), (7, .any)], pars := [.any], locs := [] }
  X := X_f63_6
  enc := fun x => [(V.ptr (.par 0) []), (V.int .u64) x.n_6, (V.int .i64) x.e_7, e_TOctet_Reader x.o_0]
  dec := fun l => ⟨dI (at_ l 1), dI (at_ l 2), d_TOctet_Reader (at_ l 3)⟩
structure X_f63_10 where
  l_8 : (Sl Int)
  q_29 : Int
  q_30 : Int
  o_0 : TOctet_Reader
noncomputable def S_f63_10 : LabS where
  id := 10
  K := (kAt 10 (Try.f63.body.getD .skip) []).getD []
  lay := { live := [(0, .any), (8, (.sl (some 24) 1 (V.int .u64 0))), (29, .any), (30, .any)], pars := [.any], locs := [] }
  X := X_f63_10
  enc := fun x => [(V.ptr (.par 0) []), (eSl (some 24) 1 (V.int .u64)) x.l_8, (V.int .u64) x.q_29, (V.int .u64) x.q_30, e_TOctet_Reader x.o_0]
  dec := fun l => ⟨(dSl dI) (at_ l 1), dI (at_ l 2), dI (at_ l 3), d_TOctet_Reader (at_ l 4)⟩
noncomputable def tt_f63_10 (D_f63_10 : Dyn X_f63_10 R_f63) (x : X_f63_10) : TT Try.prog R_f63 :=
 (.ite (Go.Vm.ilt x.q_30 x.q_29)
  (.call con_f50 x.o_0 fun (y2 : R_f50) =>
  (.ite (!(Go.Vm.ieq y2.snd.fst (0 : Int)))
   (.ret ((Go.Vm.Sl.mk true (0 : Nat) (fun _i3 => (0 : Int))), y2.snd))
   (.need (true && (Go.Vm.room (x.l_8.n + (1 : Nat)) (8 : Nat))) <|
   (.jump S_f63_10 D_f63_10 (X_f63_10.mk (Go.Vm.Sl.mk (cond (Nat.beq (1 : Nat) (0 : Nat)) x.l_8.nil false) (x.l_8.n + (1 : Nat)) (fun i3 => (cond (Nat.blt i3 x.l_8.n) (x.l_8.get i3) y2.fst))) x.q_29 (Go.IntKind.wrap Go.IntKind.u64 (x.q_30 + (1 : Int))) y2.snd.snd))
   )
  )
  )
  (.ret (x.l_8, ((0 : Int), x.o_0)))
 )
theorem sd_f63_10 (D_f63_10 : Dyn X_f63_10 R_f63) (x : X_f63_10) : (tt_f63_10 D_f63_10 x).Sides :=
  (TT.s_ite (TT.s_call fun _ => (TT.s_ite TT.s_ret (TT.s_need TT.s_jump))) TT.s_ret)

theorem dn_f63_10 (D_f63_10 : Dyn X_f63_10 R_f63) (x : X_f63_10) : J_f63.den [⟨S_f63_10, D_f63_10⟩] S_f63_10 x 4000 = (tt_f63_10 D_f63_10 x).tree J_f63.enc := by kernel_rfl
theorem st_f63_10 (D_f63_10 : Dyn X_f63_10 R_f63) (h_10 : LabOK J_f63 S_f63_10 D_f63_10) : LabOK J_f63 S_f63_10 (.of (tt_f63_10 D_f63_10)) :=
  lab_ok mixed_ok (labs_cons rfl h_10 labs_nil) 4000 (dn_f63_10 D_f63_10) (sd_f63_10 D_f63_10)
noncomputable def D_f63_10 : Dyn X_f63_10 R_f63 := Dyn.loop (tt_f63_10 )
theorem ok_f63_10  : LabOK J_f63 S_f63_10 (D_f63_10 ) :=
  loop_ok fun D h => st_f63_10  D  h
noncomputable def tt_f63_6 (x : X_f63_6) : TT Try.prog R_f63 :=
 (.ite (!(Go.Vm.ieq x.e_7 (0 : Int)))
  (.ret ((Go.Vm.Sl.mk true (0 : Nat) (fun _i1 => (0 : Int))), (x.e_7, x.o_0)))
  (.jump S_f63_10 D_f63_10 (X_f63_10.mk (Go.Vm.Sl.mk true (0 : Nat) (fun _i1 => (0 : Int))) x.n_6 (0 : Int) x.o_0))
 )
theorem sd_f63_6 (x : X_f63_6) : (tt_f63_6  x).Sides :=
  (TT.s_ite TT.s_ret TT.s_jump)

theorem dn_f63_6 (x : X_f63_6) : J_f63.den [⟨S_f63_10, D_f63_10⟩] S_f63_6 x 4000 = (tt_f63_6  x).tree J_f63.enc := by kernel_rfl
theorem st_f63_6  : LabOK J_f63 S_f63_6 (.of tt_f63_6) :=
  lab_ok mixed_ok (labs_cons rfl ok_f63_10 labs_nil) 4000 (dn_f63_6 ) (sd_f63_6 )
noncomputable def D_f63_6 : Dyn X_f63_6 R_f63 := .of (tt_f63_6 )
theorem ok_f63_6  : LabOK J_f63 S_f63_6 (D_f63_6 ) :=
  st_f63_6  
noncomputable def tt_f63 (x : X_f63) : TT Try.prog R_f63 :=
 (.ite (Go.Vm.ilt x.fst (0 : Int))
  (.ret ((Go.Vm.Sl.mk true (0 : Nat) (fun _i1 => (0 : Int))), ((1 : Int), x.snd)))
  (.call con_f50 x.snd fun (y1 : R_f50) =>
  (.ite (Go.Vm.ieq y1.snd.fst (0 : Int))
   (.ite (Go.Vm.ilt (Go.IntKind.wrap Go.IntKind.u64 x.fst) y1.fst)
    (.jump S_f63_6 D_f63_6 (X_f63_6.mk y1.fst (4 : Int) y1.snd.snd))
    (.jump S_f63_6 D_f63_6 (X_f63_6.mk y1.fst y1.snd.fst y1.snd.snd))
   )
   (.jump S_f63_6 D_f63_6 (X_f63_6.mk y1.fst y1.snd.fst y1.snd.snd))
  )
  )
 )
theorem sd_f63 (x : X_f63) : (tt_f63  x).Sides :=
  (TT.s_ite TT.s_ret (TT.s_call fun _ => (TT.s_ite (TT.s_ite TT.s_jump TT.s_jump) TT.s_jump)))

theorem dn_f63 (x : X_f63) : J_f63.den [⟨S_f63_10, D_f63_10⟩, ⟨S_f63_6, D_f63_6⟩] S_f63 x 4000 = (tt_f63  x).tree J_f63.enc := by kernel_rfl
theorem st_f63  : LabOK J_f63 S_f63 (.of tt_f63) :=
  lab_ok mixed_ok (labs_cons rfl ok_f63_10 (labs_cons rfl ok_f63_6 labs_nil)) 4000 (dn_f63 ) (sd_f63 )
noncomputable def D_f63 : Dyn X_f63 R_f63 := .of tt_f63
theorem ct_f63 (x : X_f63) (y : R_f63) (h : D_f63.rel x y) : OK Try.prog 63 [(V.ptr (.par 0) []), (V.int .i64) x.1] [e_TOctet_Reader x.2] (V.tup (V.cons ((eSl none 1 (V.int .u64)) y.1) (V.cons ((V.int .i64) y.2.1) (V.unit)))) [e_TOctet_Reader y.2.2] :=
  contract (fn := Try.f63) (J := J_f63) (S := S_f63) (D := D_f63) (by kernel_rfl) (code := Try.f63.body.getD .skip) (by kernel_rfl) rfl st_f63 rfl (x := x) (y := y) h rfl rfl rfl rfl rfl (by kernel_rfl)
noncomputable def con_f63 : Con Try.prog where
  f := 63
  fn := Try.f63
  hf := by kernel_rfl
  hb := by kernel_rfl
  hn := by kernel_rfl
  X := X_f63
  Y := R_f63
  args := fun x => [(V.ptr (.par 0) []), (V.int .i64) x.1]
  objs := fun x => [e_TOctet_Reader x.2]
  res := fun y => V.tup (V.cons ((eSl none 1 (V.int .u64)) y.1) (V.cons ((V.int .i64) y.2.1) (V.unit)))
  outs := fun y => [e_TOctet_Reader y.2.2]
  rel := D_f63.rel
  ev := D_f63.ev
  evOK := D_f63.evOK
  dec := fun l m => (dI (at_ l 1), d_TOctet_Reader (at_ m 0))
  ash := [.any, .any]
  osh := [.any]
  ok := ct_f63

/-! (*snap.reader).list -/
abbrev X_f49 : Type := Int × TSnap_reader
abbrev R_f49 : Type := (Sl Int) × TSnap_reader
noncomputable def J_f49 : Job Try.prog where
  fn := Try.f49
  nt := 28
  pol := tabN 0 [(7, 1), (12, 1), (17, 1), (21, 1), (22, 1), (27, 1)]
  hint := tabN [] [(0, [.close (.loc 11 0)]), (1, [.close (.loc 11 0)]), (2, [.close (.loc 11 0)]), (3, [.close (.loc 11 0)])]
  finH := [.close (.loc 11 0), .shut 4]
  rsh := [(.sl none 1 (V.int .u64 0))]
  psh := [sh_TSnap_reader]
  tab := [con_f63]
  R := R_f49
  enc := fun y => [(eSl none 1 (V.int .u64)) y.1, e_TSnap_reader y.2]
noncomputable def S_f49 : LabS where
  id := 0
  K := [.code (Try.f49.body.getD .skip)]
  lay := entryLay 2 1
  X := X_f49
  enc := fun x => [(V.ptr (.par 0) []), (V.int .i64) x.1, e_TSnap_reader x.2]
  dec := fun l => (dI (at_ l 1), d_TSnap_reader (at_ l 2))
noncomputable def tt_f49 (x : X_f49) : TT Try.prog R_f49 :=
 (.need (true && (!x.snd.r.nil)) <|
 (.call con_f63 (x.fst, x.snd.r.x) fun (y1 : R_f63) =>
 (.ite x.snd.bad
  (.ret (y1.fst, (TSnap_reader.mk (Go.Vm.Bx.mk false y1.snd.snd) true)))
  (.ret (y1.fst, (TSnap_reader.mk (Go.Vm.Bx.mk false y1.snd.snd) (!(Go.Vm.ieq y1.snd.fst (0 : Int))))))
 )
 )
 )
theorem sd_f49 (x : X_f49) : (tt_f49  x).Sides :=
  (TT.s_need (TT.s_call fun _ => (TT.s_ite TT.s_ret TT.s_ret)))

theorem dn_f49 (x : X_f49) : J_f49.den [] S_f49 x 4000 = (tt_f49  x).tree J_f49.enc := by kernel_rfl
theorem st_f49  : LabOK J_f49 S_f49 (.of tt_f49) :=
  lab_ok mixed_ok labs_nil 4000 (dn_f49 ) (sd_f49 )
noncomputable def D_f49 : Dyn X_f49 R_f49 := .of tt_f49
theorem ct_f49 (x : X_f49) (y : R_f49) (h : D_f49.rel x y) : OK Try.prog 49 [(V.ptr (.par 0) []), (V.int .i64) x.1] [e_TSnap_reader x.2] ((eSl none 1 (V.int .u64)) y.1) [e_TSnap_reader y.2] :=
  contract (fn := Try.f49) (J := J_f49) (S := S_f49) (D := D_f49) (by kernel_rfl) (code := Try.f49.body.getD .skip) (by kernel_rfl) rfl st_f49 rfl (x := x) (y := y) h rfl rfl rfl rfl rfl (by kernel_rfl)
noncomputable def con_f49 : Con Try.prog where
  f := 49
  fn := Try.f49
  hf := by kernel_rfl
  hb := by kernel_rfl
  hn := by kernel_rfl
  X := X_f49
  Y := R_f49
  args := fun x => [(V.ptr (.par 0) []), (V.int .i64) x.1]
  objs := fun x => [e_TSnap_reader x.2]
  res := fun y => (eSl none 1 (V.int .u64)) y.1
  outs := fun y => [e_TSnap_reader y.2]
  rel := D_f49.rel
  ev := D_f49.ev
  evOK := D_f49.evOK
  dec := fun l m => (dI (at_ l 1), d_TSnap_reader (at_ m 0))
  ash := [.any, .any]
  osh := [sh_TSnap_reader]
  ok := ct_f49

/-! (*snap.reader).thread -/
abbrev X_f32 : Type := TSnap_reader
abbrev R_f32 : Type := TApi_ThreadState × TSnap_reader
noncomputable def J_f32 : Job Try.prog where
  fn := Try.f32
  nt := 32
  pol := tabN 0 [(19, 1), (22, 1), (28, 1)]
  hint := tabN [] []
  finH := []
  rsh := [sh_TApi_ThreadState]
  psh := [sh_TSnap_reader]
  tab := [con_f31, con_f34, con_f49]
  R := R_f32
  enc := fun y => [e_TApi_ThreadState y.1, e_TSnap_reader y.2]
noncomputable def S_f32 : LabS where
  id := 0
  K := [.code (Try.f32.body.getD .skip)]
  lay := entryLay 1 1
  X := X_f32
  enc := fun x => [(V.ptr (.par 0) []), e_TSnap_reader x]
  dec := fun l => (d_TSnap_reader (at_ l 1))
structure X_f32_4 where
  q_19 : Int
  o_0 : TSnap_reader
  m_2 : TApi_ThreadState
noncomputable def S_f32_4 : LabS where
  id := 4
  K := (kAt 4 (Try.f32.body.getD .skip) []).getD []
  lay := { live := [(0, .any), (2, .any), (19, .any)], pars := [sh_TSnap_reader], locs := [(.loc 2 0, sh_TApi_ThreadState)] }
  X := X_f32_4
  enc := fun x => [(V.ptr (.par 0) []), (V.ptr (.loc 2 0) []), (V.int .i64) x.q_19, e_TSnap_reader x.o_0, e_TApi_ThreadState x.m_2]
  dec := fun l => ⟨dI (at_ l 2), d_TSnap_reader (at_ l 3), d_TApi_ThreadState (at_ l 4)⟩
structure X_f32_8 where
  o_0 : TSnap_reader
  m_2 : TApi_ThreadState
noncomputable def S_f32_8 : LabS where
  id := 8
  K := (kAt 8 (Try.f32.body.getD .skip) []).getD []
  lay := { live := [(0, .any), (2, .any)], pars := [sh_TSnap_reader], locs := [(.loc 2 0, sh_TApi_ThreadState)] }
  X := X_f32_8
  enc := fun x => [(V.ptr (.par 0) []), (V.ptr (.loc 2 0) []), e_TSnap_reader x.o_0, e_TApi_ThreadState x.m_2]
  dec := fun l => ⟨d_TSnap_reader (at_ l 2), d_TApi_ThreadState (at_ l 3)⟩
noncomputable def tt_f32_8 (x : X_f32_8) : TT Try.prog R_f32 :=
 (.call con_f49 ((65536 : Int), x.o_0) fun (y1 : R_f49) =>
 (.ret ((TApi_ThreadState.mk x.m_2.At x.m_2.Phase x.m_2.Ring x.m_2.Status x.m_2.Ticket x.m_2.Regs y1.fst), y1.snd))
 )
theorem sd_f32_8 (x : X_f32_8) : (tt_f32_8  x).Sides :=
  (TT.s_call fun _ => TT.s_ret)

theorem dn_f32_8 (x : X_f32_8) : J_f32.den [] S_f32_8 x 4000 = (tt_f32_8  x).tree J_f32.enc := by kernel_rfl
theorem st_f32_8  : LabOK J_f32 S_f32_8 (.of tt_f32_8) :=
  lab_ok mixed_ok labs_nil 4000 (dn_f32_8 ) (sd_f32_8 )
noncomputable def D_f32_8 : Dyn X_f32_8 R_f32 := .of (tt_f32_8 )
theorem ok_f32_8  : LabOK J_f32 S_f32_8 (D_f32_8 ) :=
  st_f32_8  
noncomputable def tt_f32_4 (D_f32_4 : Dyn X_f32_4 R_f32) (x : X_f32_4) : TT Try.prog R_f32 :=
 (.ite (Go.Vm.ilt x.q_19 (8 : Int))
  (.call con_f34 x.o_0 fun (y2 : R_f34) =>
  (.need (Go.Vm.inb x.q_19 (8 : Nat)) <|
  (.jump S_f32_4 D_f32_4 (X_f32_4.mk (Go.IntKind.wrap Go.IntKind.i64 (x.q_19 + (1 : Int))) y2.snd (TApi_ThreadState.mk x.m_2.At x.m_2.Phase x.m_2.Ring x.m_2.Status x.m_2.Ticket (fun i3 => (cond (Nat.beq i3 (Int.toNat x.q_19)) y2.fst (x.m_2.Regs i3))) x.m_2.Seen)))
  )
  )
  (.jump S_f32_8 D_f32_8 (X_f32_8.mk x.o_0 x.m_2))
 )
theorem sd_f32_4 (D_f32_4 : Dyn X_f32_4 R_f32) (x : X_f32_4) : (tt_f32_4 D_f32_4 x).Sides :=
  (TT.s_ite (TT.s_call fun _ => (TT.s_need TT.s_jump)) TT.s_jump)

theorem dn_f32_4 (D_f32_4 : Dyn X_f32_4 R_f32) (x : X_f32_4) : J_f32.den [⟨S_f32_4, D_f32_4⟩, ⟨S_f32_8, D_f32_8⟩] S_f32_4 x 4000 = (tt_f32_4 D_f32_4 x).tree J_f32.enc := by kernel_rfl
theorem st_f32_4 (D_f32_4 : Dyn X_f32_4 R_f32) (h_4 : LabOK J_f32 S_f32_4 D_f32_4) : LabOK J_f32 S_f32_4 (.of (tt_f32_4 D_f32_4)) :=
  lab_ok mixed_ok (labs_cons rfl h_4 (labs_cons rfl ok_f32_8 labs_nil)) 4000 (dn_f32_4 D_f32_4) (sd_f32_4 D_f32_4)
noncomputable def D_f32_4 : Dyn X_f32_4 R_f32 := Dyn.loop (tt_f32_4 )
theorem ok_f32_4  : LabOK J_f32 S_f32_4 (D_f32_4 ) :=
  loop_ok fun D h => st_f32_4  D  h
noncomputable def tt_f32 (x : X_f32) : TT Try.prog R_f32 :=
 (.call con_f31 ((65535 : Int), x) fun (y1 : R_f31) =>
 (.call con_f31 ((65535 : Int), y1.snd) fun (y2 : R_f31) =>
 (.call con_f31 ((65535 : Int), y2.snd) fun (y3 : R_f31) =>
 (.call con_f31 ((65535 : Int), y3.snd) fun (y4 : R_f31) =>
 (.call con_f34 y4.snd fun (y5 : R_f34) =>
 (.jump S_f32_4 D_f32_4 (X_f32_4.mk (0 : Int) y5.snd (TApi_ThreadState.mk y1.fst y2.fst y3.fst y4.fst y5.fst (fun _i6 => (0 : Int)) (Go.Vm.Sl.mk true (0 : Nat) (fun _i6 => (0 : Int))))))
 )
 )
 )
 )
 )
theorem sd_f32 (x : X_f32) : (tt_f32  x).Sides :=
  (TT.s_call fun _ => (TT.s_call fun _ => (TT.s_call fun _ => (TT.s_call fun _ => (TT.s_call fun _ => TT.s_jump)))))

theorem dn_f32 (x : X_f32) : J_f32.den [⟨S_f32_8, D_f32_8⟩, ⟨S_f32_4, D_f32_4⟩] S_f32 x 4000 = (tt_f32  x).tree J_f32.enc := by kernel_rfl
theorem st_f32  : LabOK J_f32 S_f32 (.of tt_f32) :=
  lab_ok mixed_ok (labs_cons rfl ok_f32_8 (labs_cons rfl ok_f32_4 labs_nil)) 4000 (dn_f32 ) (sd_f32 )
noncomputable def D_f32 : Dyn X_f32 R_f32 := .of tt_f32
theorem ct_f32 (x : X_f32) (y : R_f32) (h : D_f32.rel x y) : OK Try.prog 32 [(V.ptr (.par 0) [])] [e_TSnap_reader x] (e_TApi_ThreadState y.1) [e_TSnap_reader y.2] :=
  contract (fn := Try.f32) (J := J_f32) (S := S_f32) (D := D_f32) (by kernel_rfl) (code := Try.f32.body.getD .skip) (by kernel_rfl) rfl st_f32 rfl (x := x) (y := y) h rfl rfl rfl rfl rfl (by kernel_rfl)
noncomputable def con_f32 : Con Try.prog where
  f := 32
  fn := Try.f32
  hf := by kernel_rfl
  hb := by kernel_rfl
  hn := by kernel_rfl
  X := X_f32
  Y := R_f32
  args := fun x => [(V.ptr (.par 0) [])]
  objs := fun x => [e_TSnap_reader x]
  res := fun y => e_TApi_ThreadState y.1
  outs := fun y => [e_TSnap_reader y.2]
  rel := D_f32.rel
  ev := D_f32.ev
  evOK := D_f32.evOK
  dec := fun l m => (d_TSnap_reader (at_ m 0))
  ash := [.any]
  osh := [sh_TSnap_reader]
  ok := ct_f32

def e_TApi_RingState_3 (x : TApi_RingState) : V :=
  V.cons ((V.int .u64) x.Tail) (V.cons ((eSl none 1 (V.int .u64)) x.Heads) (V.cons (V.bool x.Closed) (V.cons ((eSl (some 72) 3 e_TApi_Slot) x.Slots) (V.unit))))

def sh_TApi_RingState_3 : Sh := (.cons .any (.cons (.sl none 1 (V.int .u64 0)) (.cons .any (.cons (.sl (some 72) 3 (e_TApi_Slot (d_TApi_Slot .undef))) .any))))

/-! (*snap.reader).ring -/
abbrev X_f33 : Type := TSnap_reader
abbrev R_f33 : Type := TApi_RingState × TSnap_reader
noncomputable def J_f33 : Job Try.prog where
  fn := Try.f33
  nt := 40
  pol := tabN 0 [(18, 1), (25, 1), (28, 1)]
  hint := tabN [] []
  finH := []
  rsh := [sh_TApi_RingState]
  psh := [sh_TSnap_reader]
  tab := [con_f31, con_f34, con_f49]
  R := R_f33
  enc := fun y => [e_TApi_RingState y.1, e_TSnap_reader y.2]
noncomputable def S_f33 : LabS where
  id := 0
  K := [.code (Try.f33.body.getD .skip)]
  lay := entryLay 1 1
  X := X_f33
  enc := fun x => [(V.ptr (.par 0) []), e_TSnap_reader x]
  dec := fun l => (d_TSnap_reader (at_ l 1))
structure X_f33_5 where
  n_3 : Int
  o_0 : TSnap_reader
  m_2 : TApi_RingState
noncomputable def S_f33_5 : LabS where
  id := 5
  K := (kAt 5 (Try.f33.body.getD .skip) []).getD []
  lay := { live := [(0, .any), (2, .any), (3, .any)], pars := [sh_TSnap_reader], locs := [(.loc 2 0, sh_TApi_RingState_3)] }
  X := X_f33_5
  enc := fun x => [(V.ptr (.par 0) []), (V.ptr (.loc 2 0) []), (V.int .i64) x.n_3, e_TSnap_reader x.o_0, e_TApi_RingState_3 x.m_2]
  dec := fun l => ⟨dI (at_ l 2), d_TSnap_reader (at_ l 3), d_TApi_RingState (at_ l 4)⟩
structure X_f33_7 where
  n_3 : Int
  o_0 : TSnap_reader
  m_2 : TApi_RingState
noncomputable def S_f33_7 : LabS where
  id := 7
  K := (kAt 7 (Try.f33.body.getD .skip) []).getD []
  lay := { live := [(0, .any), (2, .any), (3, .any)], pars := [sh_TSnap_reader], locs := [(.loc 2 0, sh_TApi_RingState_3)] }
  X := X_f33_7
  enc := fun x => [(V.ptr (.par 0) []), (V.ptr (.loc 2 0) []), (V.int .i64) x.n_3, e_TSnap_reader x.o_0, e_TApi_RingState_3 x.m_2]
  dec := fun l => ⟨dI (at_ l 2), d_TSnap_reader (at_ l 3), d_TApi_RingState (at_ l 4)⟩
noncomputable def tt_f33_7 (D_f33_5 : Dyn X_f33_5 R_f33) (x : X_f33_7) : TT Try.prog R_f33 :=
 (.call con_f34 x.o_0 fun (y2 : R_f34) =>
 (.call con_f34 y2.snd fun (y3 : R_f34) =>
 (.call con_f31 ((65535 : Int), y3.snd) fun (y4 : R_f31) =>
 (.need (true && (Go.Vm.room (x.m_2.Slots.n + (1 : Nat)) (24 : Nat))) <|
 (.jump S_f33_5 D_f33_5 (X_f33_5.mk (Go.IntKind.wrap Go.IntKind.i64 (x.n_3 - (1 : Int))) y4.snd (TApi_RingState.mk x.m_2.Tail x.m_2.Heads x.m_2.Closed (Go.Vm.Sl.mk (cond (Nat.beq (1 : Nat) (0 : Nat)) x.m_2.Slots.nil false) (x.m_2.Slots.n + (1 : Nat)) (fun i5 => (TApi_Slot.mk (cond (Nat.blt i5 x.m_2.Slots.n) (x.m_2.Slots.get i5).Stamp y2.fst) (cond (Nat.blt i5 x.m_2.Slots.n) (x.m_2.Slots.get i5).Value y3.fst) (cond (Nat.blt i5 x.m_2.Slots.n) (x.m_2.Slots.get i5).Left y4.fst)))))))
 )
 )
 )
 )
theorem sd_f33_7 (D_f33_5 : Dyn X_f33_5 R_f33) (x : X_f33_7) : (tt_f33_7 D_f33_5 x).Sides :=
  (TT.s_call fun _ => (TT.s_call fun _ => (TT.s_call fun _ => (TT.s_need TT.s_jump))))

theorem dn_f33_7 (D_f33_5 : Dyn X_f33_5 R_f33) (x : X_f33_7) : J_f33.den [⟨S_f33_5, D_f33_5⟩] S_f33_7 x 4000 = (tt_f33_7 D_f33_5 x).tree J_f33.enc := by kernel_rfl
theorem st_f33_7 (D_f33_5 : Dyn X_f33_5 R_f33) (h_5 : LabOK J_f33 S_f33_5 D_f33_5) : LabOK J_f33 S_f33_7 (.of (tt_f33_7 D_f33_5)) :=
  lab_ok mixed_ok (labs_cons rfl h_5 labs_nil) 4000 (dn_f33_7 D_f33_5) (sd_f33_7 D_f33_5)
noncomputable def D_f33_7 (D_f33_5 : Dyn X_f33_5 R_f33) : Dyn X_f33_7 R_f33 := .of (tt_f33_7 D_f33_5)
theorem ok_f33_7 (D_f33_5 : Dyn X_f33_5 R_f33) (h_5 : LabOK J_f33 S_f33_5 D_f33_5) : LabOK J_f33 S_f33_7 (D_f33_7 D_f33_5) :=
  st_f33_7 D_f33_5 h_5
noncomputable def tt_f33_5 (D_f33_5 : Dyn X_f33_5 R_f33) (x : X_f33_5) : TT Try.prog R_f33 :=
 (.ite (Go.Vm.ilt (0 : Int) x.n_3)
  (.ite (!x.o_0.bad)
   (.jump S_f33_7 (D_f33_7 D_f33_5) (X_f33_7.mk x.n_3 x.o_0 x.m_2))
   (.ret (x.m_2, x.o_0))
  )
  (.ret (x.m_2, x.o_0))
 )
theorem sd_f33_5 (D_f33_5 : Dyn X_f33_5 R_f33) (x : X_f33_5) : (tt_f33_5 D_f33_5 x).Sides :=
  (TT.s_ite (TT.s_ite TT.s_jump TT.s_ret) TT.s_ret)

theorem dn_f33_5 (D_f33_5 : Dyn X_f33_5 R_f33) (x : X_f33_5) : J_f33.den [⟨S_f33_5, D_f33_5⟩, ⟨S_f33_7, (D_f33_7 D_f33_5)⟩] S_f33_5 x 4000 = (tt_f33_5 D_f33_5 x).tree J_f33.enc := by kernel_rfl
theorem st_f33_5 (D_f33_5 : Dyn X_f33_5 R_f33) (h_5 : LabOK J_f33 S_f33_5 D_f33_5) : LabOK J_f33 S_f33_5 (.of (tt_f33_5 D_f33_5)) :=
  lab_ok mixed_ok (labs_cons rfl h_5 (labs_cons rfl (ok_f33_7 D_f33_5 h_5) labs_nil)) 4000 (dn_f33_5 D_f33_5) (sd_f33_5 D_f33_5)
noncomputable def D_f33_5 : Dyn X_f33_5 R_f33 := Dyn.loop (tt_f33_5 )
theorem ok_f33_5  : LabOK J_f33 S_f33_5 (D_f33_5 ) :=
  loop_ok fun D h => st_f33_5  D  h
noncomputable def tt_f33 (x : X_f33) : TT Try.prog R_f33 :=
 (.call con_f34 x fun (y1 : R_f34) =>
 (.call con_f49 ((8 : Int), y1.snd) fun (y2 : R_f49) =>
 (.call con_f31 ((1 : Int), y2.snd) fun (y3 : R_f31) =>
 (.call con_f31 ((64 : Int), y3.snd) fun (y4 : R_f31) =>
 (.jump S_f33_5 D_f33_5 (X_f33_5.mk y4.fst y4.snd (TApi_RingState.mk y1.fst y2.fst (Go.Vm.ieq y3.fst (1 : Int)) (Go.Vm.Sl.mk true (0 : Nat) (fun _i5 => (TApi_Slot.mk (0 : Int) (0 : Int) (0 : Int)))))))
 )
 )
 )
 )
theorem sd_f33 (x : X_f33) : (tt_f33  x).Sides :=
  (TT.s_call fun _ => (TT.s_call fun _ => (TT.s_call fun _ => (TT.s_call fun _ => TT.s_jump))))

theorem dn_f33 (x : X_f33) : J_f33.den [⟨S_f33_5, D_f33_5⟩] S_f33 x 4000 = (tt_f33  x).tree J_f33.enc := by kernel_rfl
theorem st_f33  : LabOK J_f33 S_f33 (.of tt_f33) :=
  lab_ok mixed_ok (labs_cons rfl ok_f33_5 labs_nil) 4000 (dn_f33 ) (sd_f33 )
noncomputable def D_f33 : Dyn X_f33 R_f33 := .of tt_f33
theorem ct_f33 (x : X_f33) (y : R_f33) (h : D_f33.rel x y) : OK Try.prog 33 [(V.ptr (.par 0) [])] [e_TSnap_reader x] (e_TApi_RingState y.1) [e_TSnap_reader y.2] :=
  contract (fn := Try.f33) (J := J_f33) (S := S_f33) (D := D_f33) (by kernel_rfl) (code := Try.f33.body.getD .skip) (by kernel_rfl) rfl st_f33 rfl (x := x) (y := y) h rfl rfl rfl rfl rfl (by kernel_rfl)
noncomputable def con_f33 : Con Try.prog where
  f := 33
  fn := Try.f33
  hf := by kernel_rfl
  hb := by kernel_rfl
  hn := by kernel_rfl
  X := X_f33
  Y := R_f33
  args := fun x => [(V.ptr (.par 0) [])]
  objs := fun x => [e_TSnap_reader x]
  res := fun y => e_TApi_RingState y.1
  outs := fun y => [e_TSnap_reader y.2]
  rel := D_f33.rel
  ev := D_f33.ev
  evOK := D_f33.evOK
  dec := fun l m => (d_TSnap_reader (at_ m 0))
  ash := [.any]
  osh := [sh_TSnap_reader]
  ok := ct_f33

def e_TApi_State_0_1 (x : TApi_State) : V :=
  V.cons ((eSl (some 40) 14 e_TApi_ThreadState) x.Threads) (V.cons ((eSl (some 54) 4 e_TApi_RingState) x.Rings) (V.cons ((V.int .u64) x.Now) (V.cons ((V.int .u64) x.Reads) (V.cons (V.bool x.Ended) (V.unit)))))

def sh_TApi_State_0_1 : Sh := (.cons (.sl (some 40) 14 (e_TApi_ThreadState (d_TApi_ThreadState .undef))) (.cons (.sl (some 54) 4 (e_TApi_RingState (d_TApi_RingState .undef))) .any))

/-! snap.Read -/
abbrev X_f12 : Type := ByteArray
abbrev R_f12 : Type := TApi_State × Int
noncomputable def J_f12 : Job Try.prog where
  fn := Try.f12
  nt := 75
  pol := tabN 0 [(7, 1), (15, 1), (22, 1), (25, 1), (35, 1), (42, 1), (45, 1), (65, 1), (66, 1)]
  hint := tabN [] [(0, [.close (.loc 69 0)]), (1, [.close (.loc 69 0)]), (2, [.close (.loc 69 0)]), (3, [.close (.loc 69 0)]), (4, [.close (.loc 69 0)]), (5, [.close (.loc 69 0)]), (6, [.close (.loc 69 0)]), (7, [.close (.loc 69 0)]), (8, [.close (.loc 69 0)]), (9, [.close (.loc 69 0)]), (10, [.close (.loc 69 0)]), (11, [.close (.loc 69 0)]), (12, [.close (.loc 69 0)]), (13, [.close (.loc 69 0)])]
  finH := [.close (.loc 69 0)]
  rsh := [sh_TApi_State, .any]
  psh := []
  tab := [con_f30, con_f31, con_f32, con_f33, con_f34, con_f35]
  R := R_f12
  enc := fun y => [V.tup (V.cons (e_TApi_State y.1) (V.cons ((V.int .i64) y.2) (V.unit)))]
noncomputable def S_f12 : LabS where
  id := 0
  K := [.code (Try.f12.body.getD .skip)]
  lay := entryLay 1 0
  X := X_f12
  enc := fun x => [V.str x]
  dec := fun l => (dS (at_ l 0))
structure X_f12_3 where
  n_5 : Int
  m_2 : TApi_State
  m_10 : TSnap_reader
noncomputable def S_f12_3 : LabS where
  id := 3
  K := (kAt 3 (Try.f12.body.getD .skip) []).getD []
  lay := { live := [(2, .any), (4, .any), (5, .any)], pars := [], locs := [(.loc 2 0, sh_TApi_State_0_1), (.loc 10 0, sh_TSnap_reader)] }
  X := X_f12_3
  enc := fun x => [(V.ptr (.loc 2 0) []), (V.ptr (.loc 10 0) []), (V.int .i64) x.n_5, e_TApi_State_0_1 x.m_2, e_TSnap_reader x.m_10]
  dec := fun l => ⟨dI (at_ l 2), d_TApi_State (at_ l 3), d_TSnap_reader (at_ l 4)⟩
structure X_f12_5 where
  n_5 : Int
  m_2 : TApi_State
  m_10 : TSnap_reader
noncomputable def S_f12_5 : LabS where
  id := 5
  K := (kAt 5 (Try.f12.body.getD .skip) []).getD []
  lay := { live := [(2, .any), (4, .any), (5, .any)], pars := [], locs := [(.loc 2 0, sh_TApi_State_0_1), (.loc 10 0, sh_TSnap_reader)] }
  X := X_f12_5
  enc := fun x => [(V.ptr (.loc 2 0) []), (V.ptr (.loc 10 0) []), (V.int .i64) x.n_5, e_TApi_State_0_1 x.m_2, e_TSnap_reader x.m_10]
  dec := fun l => ⟨dI (at_ l 2), d_TApi_State (at_ l 3), d_TSnap_reader (at_ l 4)⟩
structure X_f12_6 where
  m_2 : TApi_State
  m_10 : TSnap_reader
noncomputable def S_f12_6 : LabS where
  id := 6
  K := (kAt 6 (Try.f12.body.getD .skip) []).getD []
  lay := { live := [(2, .any), (4, .any)], pars := [], locs := [(.loc 2 0, sh_TApi_State_0_1), (.loc 10 0, sh_TSnap_reader)] }
  X := X_f12_6
  enc := fun x => [(V.ptr (.loc 2 0) []), (V.ptr (.loc 10 0) []), e_TApi_State_0_1 x.m_2, e_TSnap_reader x.m_10]
  dec := fun l => ⟨d_TApi_State (at_ l 2), d_TSnap_reader (at_ l 3)⟩
structure X_f12_7 where
  n_6 : Int
  m_2 : TApi_State
  m_10 : TSnap_reader
noncomputable def S_f12_7 : LabS where
  id := 7
  K := (kAt 7 (Try.f12.body.getD .skip) []).getD []
  lay := { live := [(2, .any), (4, .any), (6, .any)], pars := [], locs := [(.loc 2 0, sh_TApi_State_0_1), (.loc 10 0, sh_TSnap_reader)] }
  X := X_f12_7
  enc := fun x => [(V.ptr (.loc 2 0) []), (V.ptr (.loc 10 0) []), (V.int .i64) x.n_6, e_TApi_State_0_1 x.m_2, e_TSnap_reader x.m_10]
  dec := fun l => ⟨dI (at_ l 2), d_TApi_State (at_ l 3), d_TSnap_reader (at_ l 4)⟩
structure X_f12_9 where
  n_6 : Int
  m_2 : TApi_State
  m_10 : TSnap_reader
noncomputable def S_f12_9 : LabS where
  id := 9
  K := (kAt 9 (Try.f12.body.getD .skip) []).getD []
  lay := { live := [(2, .any), (4, .any), (6, .any)], pars := [], locs := [(.loc 2 0, sh_TApi_State_0_1), (.loc 10 0, sh_TSnap_reader)] }
  X := X_f12_9
  enc := fun x => [(V.ptr (.loc 2 0) []), (V.ptr (.loc 10 0) []), (V.int .i64) x.n_6, e_TApi_State_0_1 x.m_2, e_TSnap_reader x.m_10]
  dec := fun l => ⟨dI (at_ l 2), d_TApi_State (at_ l 3), d_TSnap_reader (at_ l 4)⟩
structure X_f12_10 where
  m_2 : TApi_State
  m_10 : TSnap_reader
noncomputable def S_f12_10 : LabS where
  id := 10
  K := (kAt 10 (Try.f12.body.getD .skip) []).getD []
  lay := { live := [(2, .any), (4, .any)], pars := [], locs := [(.loc 2 0, sh_TApi_State_0_1), (.loc 10 0, sh_TSnap_reader)] }
  X := X_f12_10
  enc := fun x => [(V.ptr (.loc 2 0) []), (V.ptr (.loc 10 0) []), e_TApi_State_0_1 x.m_2, e_TSnap_reader x.m_10]
  dec := fun l => ⟨d_TApi_State (at_ l 2), d_TSnap_reader (at_ l 3)⟩
noncomputable def tt_f12_10 (x : X_f12_10) : TT Try.prog R_f12 :=
 (.call con_f34 x.m_10 fun (y1 : R_f34) =>
 (.call con_f34 y1.snd fun (y2 : R_f34) =>
 (.call con_f31 ((1 : Int), y2.snd) fun (y3 : R_f31) =>
 (.ite y3.snd.bad
  (.ret ((TApi_State.mk (Go.Vm.Sl.mk true (0 : Nat) (fun _i4 => (TApi_ThreadState.mk (0 : Int) (0 : Int) (0 : Int) (0 : Int) (0 : Int) (fun _i5 => (0 : Int)) (Go.Vm.Sl.mk true (0 : Nat) (fun _i5 => (0 : Int)))))) (Go.Vm.Sl.mk true (0 : Nat) (fun _i4 => (TApi_RingState.mk (0 : Int) (Go.Vm.Sl.mk true (0 : Nat) (fun _i5 => (0 : Int))) false (Go.Vm.Sl.mk true (0 : Nat) (fun _i5 => (TApi_Slot.mk (0 : Int) (0 : Int) (0 : Int))))))) (0 : Int) (0 : Int) false), (3 : Int)))
  (.need (true && (!y3.snd.r.nil)) <|
  (.call con_f35 y3.snd.r.x fun (y4 : R_f35) =>
  (.ite (Go.Vm.ilt (0 : Int) y4.fst)
   (.ret ((TApi_State.mk (Go.Vm.Sl.mk true (0 : Nat) (fun _i5 => (TApi_ThreadState.mk (0 : Int) (0 : Int) (0 : Int) (0 : Int) (0 : Int) (fun _i6 => (0 : Int)) (Go.Vm.Sl.mk true (0 : Nat) (fun _i6 => (0 : Int)))))) (Go.Vm.Sl.mk true (0 : Nat) (fun _i5 => (TApi_RingState.mk (0 : Int) (Go.Vm.Sl.mk true (0 : Nat) (fun _i6 => (0 : Int))) false (Go.Vm.Sl.mk true (0 : Nat) (fun _i6 => (TApi_Slot.mk (0 : Int) (0 : Int) (0 : Int))))))) (0 : Int) (0 : Int) false), (3 : Int)))
   (.ret ((TApi_State.mk x.m_2.Threads x.m_2.Rings y1.fst y2.fst (Go.Vm.ieq y3.fst (1 : Int))), (0 : Int)))
  )
  )
  )
 )
 )
 )
 )
theorem sd_f12_10 (x : X_f12_10) : (tt_f12_10  x).Sides :=
  (TT.s_call fun _ => (TT.s_call fun _ => (TT.s_call fun _ => (TT.s_ite TT.s_ret (TT.s_need (TT.s_call fun _ => (TT.s_ite TT.s_ret TT.s_ret)))))))

theorem dn_f12_10 (x : X_f12_10) : J_f12.den [] S_f12_10 x 4000 = (tt_f12_10  x).tree J_f12.enc := by kernel_rfl
theorem st_f12_10  : LabOK J_f12 S_f12_10 (.of tt_f12_10) :=
  lab_ok mixed_ok labs_nil 4000 (dn_f12_10 ) (sd_f12_10 )
noncomputable def D_f12_10 : Dyn X_f12_10 R_f12 := .of (tt_f12_10 )
theorem ok_f12_10  : LabOK J_f12 S_f12_10 (D_f12_10 ) :=
  st_f12_10  
noncomputable def tt_f12_9 (D_f12_7 : Dyn X_f12_7 R_f12) (x : X_f12_9) : TT Try.prog R_f12 :=
 (.call con_f33 x.m_10 fun (y2 : R_f33) =>
 (.need (true && (Go.Vm.room (x.m_2.Rings.n + (1 : Nat)) (64 : Nat))) <|
 (.jump S_f12_7 D_f12_7 (X_f12_7.mk (Go.IntKind.wrap Go.IntKind.i64 (x.n_6 - (1 : Int))) (TApi_State.mk x.m_2.Threads (Go.Vm.Sl.mk (cond (Nat.beq (1 : Nat) (0 : Nat)) x.m_2.Rings.nil false) (x.m_2.Rings.n + (1 : Nat)) (fun i3 => (TApi_RingState.mk (cond (Nat.blt i3 x.m_2.Rings.n) (x.m_2.Rings.get i3).Tail y2.fst.Tail) (Go.Vm.Sl.mk (cond (Nat.blt i3 x.m_2.Rings.n) (x.m_2.Rings.get i3).Heads.nil y2.fst.Heads.nil) (cond (Nat.blt i3 x.m_2.Rings.n) (x.m_2.Rings.get i3).Heads.n y2.fst.Heads.n) (fun i4 => (cond (Nat.blt i3 x.m_2.Rings.n) ((x.m_2.Rings.get i3).Heads.get i4) (y2.fst.Heads.get i4)))) (cond (Nat.blt i3 x.m_2.Rings.n) (x.m_2.Rings.get i3).Closed y2.fst.Closed) (Go.Vm.Sl.mk (cond (Nat.blt i3 x.m_2.Rings.n) (x.m_2.Rings.get i3).Slots.nil y2.fst.Slots.nil) (cond (Nat.blt i3 x.m_2.Rings.n) (x.m_2.Rings.get i3).Slots.n y2.fst.Slots.n) (fun i4 => (TApi_Slot.mk (cond (Nat.blt i3 x.m_2.Rings.n) ((x.m_2.Rings.get i3).Slots.get i4).Stamp (y2.fst.Slots.get i4).Stamp) (cond (Nat.blt i3 x.m_2.Rings.n) ((x.m_2.Rings.get i3).Slots.get i4).Value (y2.fst.Slots.get i4).Value) (cond (Nat.blt i3 x.m_2.Rings.n) ((x.m_2.Rings.get i3).Slots.get i4).Left (y2.fst.Slots.get i4).Left))))))) x.m_2.Now x.m_2.Reads x.m_2.Ended) y2.snd))
 )
 )
theorem sd_f12_9 (D_f12_7 : Dyn X_f12_7 R_f12) (x : X_f12_9) : (tt_f12_9 D_f12_7 x).Sides :=
  (TT.s_call fun _ => (TT.s_need TT.s_jump))

theorem dn_f12_9 (D_f12_7 : Dyn X_f12_7 R_f12) (x : X_f12_9) : J_f12.den [⟨S_f12_7, D_f12_7⟩, ⟨S_f12_10, D_f12_10⟩] S_f12_9 x 4000 = (tt_f12_9 D_f12_7 x).tree J_f12.enc := by kernel_rfl
theorem st_f12_9 (D_f12_7 : Dyn X_f12_7 R_f12) (h_7 : LabOK J_f12 S_f12_7 D_f12_7) : LabOK J_f12 S_f12_9 (.of (tt_f12_9 D_f12_7)) :=
  lab_ok mixed_ok (labs_cons rfl h_7 (labs_cons rfl ok_f12_10 labs_nil)) 4000 (dn_f12_9 D_f12_7) (sd_f12_9 D_f12_7)
noncomputable def D_f12_9 (D_f12_7 : Dyn X_f12_7 R_f12) : Dyn X_f12_9 R_f12 := .of (tt_f12_9 D_f12_7)
theorem ok_f12_9 (D_f12_7 : Dyn X_f12_7 R_f12) (h_7 : LabOK J_f12 S_f12_7 D_f12_7) : LabOK J_f12 S_f12_9 (D_f12_9 D_f12_7) :=
  st_f12_9 D_f12_7 h_7
noncomputable def tt_f12_7 (D_f12_7 : Dyn X_f12_7 R_f12) (x : X_f12_7) : TT Try.prog R_f12 :=
 (.ite (Go.Vm.ilt (0 : Int) x.n_6)
  (.ite (!x.m_10.bad)
   (.jump S_f12_9 (D_f12_9 D_f12_7) (X_f12_9.mk x.n_6 x.m_2 x.m_10))
   (.jump S_f12_10 D_f12_10 (X_f12_10.mk x.m_2 x.m_10))
  )
  (.jump S_f12_10 D_f12_10 (X_f12_10.mk x.m_2 x.m_10))
 )
theorem sd_f12_7 (D_f12_7 : Dyn X_f12_7 R_f12) (x : X_f12_7) : (tt_f12_7 D_f12_7 x).Sides :=
  (TT.s_ite (TT.s_ite TT.s_jump TT.s_jump) TT.s_jump)

theorem dn_f12_7 (D_f12_7 : Dyn X_f12_7 R_f12) (x : X_f12_7) : J_f12.den [⟨S_f12_7, D_f12_7⟩, ⟨S_f12_10, D_f12_10⟩, ⟨S_f12_9, (D_f12_9 D_f12_7)⟩] S_f12_7 x 4000 = (tt_f12_7 D_f12_7 x).tree J_f12.enc := by kernel_rfl
theorem st_f12_7 (D_f12_7 : Dyn X_f12_7 R_f12) (h_7 : LabOK J_f12 S_f12_7 D_f12_7) : LabOK J_f12 S_f12_7 (.of (tt_f12_7 D_f12_7)) :=
  lab_ok mixed_ok (labs_cons rfl h_7 (labs_cons rfl ok_f12_10 (labs_cons rfl (ok_f12_9 D_f12_7 h_7) labs_nil))) 4000 (dn_f12_7 D_f12_7) (sd_f12_7 D_f12_7)
noncomputable def D_f12_7 : Dyn X_f12_7 R_f12 := Dyn.loop (tt_f12_7 )
theorem ok_f12_7  : LabOK J_f12 S_f12_7 (D_f12_7 ) :=
  loop_ok fun D h => st_f12_7  D  h
noncomputable def tt_f12_6 (x : X_f12_6) : TT Try.prog R_f12 :=
 (.call con_f31 ((8 : Int), x.m_10) fun (y1 : R_f31) =>
 (.jump S_f12_7 D_f12_7 (X_f12_7.mk y1.fst x.m_2 y1.snd))
 )
theorem sd_f12_6 (x : X_f12_6) : (tt_f12_6  x).Sides :=
  (TT.s_call fun _ => TT.s_jump)

theorem dn_f12_6 (x : X_f12_6) : J_f12.den [⟨S_f12_10, D_f12_10⟩, ⟨S_f12_7, D_f12_7⟩] S_f12_6 x 4000 = (tt_f12_6  x).tree J_f12.enc := by kernel_rfl
theorem st_f12_6  : LabOK J_f12 S_f12_6 (.of tt_f12_6) :=
  lab_ok mixed_ok (labs_cons rfl ok_f12_10 (labs_cons rfl ok_f12_7 labs_nil)) 4000 (dn_f12_6 ) (sd_f12_6 )
noncomputable def D_f12_6 : Dyn X_f12_6 R_f12 := .of (tt_f12_6 )
theorem ok_f12_6  : LabOK J_f12 S_f12_6 (D_f12_6 ) :=
  st_f12_6  
noncomputable def tt_f12_5 (D_f12_3 : Dyn X_f12_3 R_f12) (x : X_f12_5) : TT Try.prog R_f12 :=
 (.call con_f32 x.m_10 fun (y2 : R_f32) =>
 (.need (true && (Go.Vm.room (x.m_2.Threads.n + (1 : Nat)) (128 : Nat))) <|
 (.jump S_f12_3 D_f12_3 (X_f12_3.mk (Go.IntKind.wrap Go.IntKind.i64 (x.n_5 - (1 : Int))) (TApi_State.mk (Go.Vm.Sl.mk (cond (Nat.beq (1 : Nat) (0 : Nat)) x.m_2.Threads.nil false) (x.m_2.Threads.n + (1 : Nat)) (fun i3 => (TApi_ThreadState.mk (cond (Nat.blt i3 x.m_2.Threads.n) (x.m_2.Threads.get i3).At y2.fst.At) (cond (Nat.blt i3 x.m_2.Threads.n) (x.m_2.Threads.get i3).Phase y2.fst.Phase) (cond (Nat.blt i3 x.m_2.Threads.n) (x.m_2.Threads.get i3).Ring y2.fst.Ring) (cond (Nat.blt i3 x.m_2.Threads.n) (x.m_2.Threads.get i3).Status y2.fst.Status) (cond (Nat.blt i3 x.m_2.Threads.n) (x.m_2.Threads.get i3).Ticket y2.fst.Ticket) (fun i4 => (cond (Nat.blt i3 x.m_2.Threads.n) ((x.m_2.Threads.get i3).Regs i4) (y2.fst.Regs i4))) (Go.Vm.Sl.mk (cond (Nat.blt i3 x.m_2.Threads.n) (x.m_2.Threads.get i3).Seen.nil y2.fst.Seen.nil) (cond (Nat.blt i3 x.m_2.Threads.n) (x.m_2.Threads.get i3).Seen.n y2.fst.Seen.n) (fun i4 => (cond (Nat.blt i3 x.m_2.Threads.n) ((x.m_2.Threads.get i3).Seen.get i4) (y2.fst.Seen.get i4))))))) x.m_2.Rings x.m_2.Now x.m_2.Reads x.m_2.Ended) y2.snd))
 )
 )
theorem sd_f12_5 (D_f12_3 : Dyn X_f12_3 R_f12) (x : X_f12_5) : (tt_f12_5 D_f12_3 x).Sides :=
  (TT.s_call fun _ => (TT.s_need TT.s_jump))

theorem dn_f12_5 (D_f12_3 : Dyn X_f12_3 R_f12) (x : X_f12_5) : J_f12.den [⟨S_f12_3, D_f12_3⟩, ⟨S_f12_10, D_f12_10⟩, ⟨S_f12_7, D_f12_7⟩, ⟨S_f12_6, D_f12_6⟩] S_f12_5 x 4000 = (tt_f12_5 D_f12_3 x).tree J_f12.enc := by kernel_rfl
theorem st_f12_5 (D_f12_3 : Dyn X_f12_3 R_f12) (h_3 : LabOK J_f12 S_f12_3 D_f12_3) : LabOK J_f12 S_f12_5 (.of (tt_f12_5 D_f12_3)) :=
  lab_ok mixed_ok (labs_cons rfl h_3 (labs_cons rfl ok_f12_10 (labs_cons rfl ok_f12_7 (labs_cons rfl ok_f12_6 labs_nil)))) 4000 (dn_f12_5 D_f12_3) (sd_f12_5 D_f12_3)
noncomputable def D_f12_5 (D_f12_3 : Dyn X_f12_3 R_f12) : Dyn X_f12_5 R_f12 := .of (tt_f12_5 D_f12_3)
theorem ok_f12_5 (D_f12_3 : Dyn X_f12_3 R_f12) (h_3 : LabOK J_f12 S_f12_3 D_f12_3) : LabOK J_f12 S_f12_5 (D_f12_5 D_f12_3) :=
  st_f12_5 D_f12_3 h_3
noncomputable def tt_f12_3 (D_f12_3 : Dyn X_f12_3 R_f12) (x : X_f12_3) : TT Try.prog R_f12 :=
 (.ite (Go.Vm.ilt (0 : Int) x.n_5)
  (.ite (!x.m_10.bad)
   (.jump S_f12_5 (D_f12_5 D_f12_3) (X_f12_5.mk x.n_5 x.m_2 x.m_10))
   (.jump S_f12_6 D_f12_6 (X_f12_6.mk x.m_2 x.m_10))
  )
  (.jump S_f12_6 D_f12_6 (X_f12_6.mk x.m_2 x.m_10))
 )
theorem sd_f12_3 (D_f12_3 : Dyn X_f12_3 R_f12) (x : X_f12_3) : (tt_f12_3 D_f12_3 x).Sides :=
  (TT.s_ite (TT.s_ite TT.s_jump TT.s_jump) TT.s_jump)

theorem dn_f12_3 (D_f12_3 : Dyn X_f12_3 R_f12) (x : X_f12_3) : J_f12.den [⟨S_f12_3, D_f12_3⟩, ⟨S_f12_10, D_f12_10⟩, ⟨S_f12_7, D_f12_7⟩, ⟨S_f12_6, D_f12_6⟩, ⟨S_f12_5, (D_f12_5 D_f12_3)⟩] S_f12_3 x 4000 = (tt_f12_3 D_f12_3 x).tree J_f12.enc := by kernel_rfl
theorem st_f12_3 (D_f12_3 : Dyn X_f12_3 R_f12) (h_3 : LabOK J_f12 S_f12_3 D_f12_3) : LabOK J_f12 S_f12_3 (.of (tt_f12_3 D_f12_3)) :=
  lab_ok mixed_ok (labs_cons rfl h_3 (labs_cons rfl ok_f12_10 (labs_cons rfl ok_f12_7 (labs_cons rfl ok_f12_6 (labs_cons rfl (ok_f12_5 D_f12_3 h_3) labs_nil))))) 4000 (dn_f12_3 D_f12_3) (sd_f12_3 D_f12_3)
noncomputable def D_f12_3 : Dyn X_f12_3 R_f12 := Dyn.loop (tt_f12_3 )
theorem ok_f12_3  : LabOK J_f12 S_f12_3 (D_f12_3 ) :=
  loop_ok fun D h => st_f12_3  D  h
noncomputable def tt_f12 (x : X_f12) : TT Try.prog R_f12 :=
 (.call con_f30 x fun (y1 : R_f30) =>
 (.call con_f31 ((8 : Int), (TSnap_reader.mk y1 false)) fun (y2 : R_f31) =>
 (.jump S_f12_3 D_f12_3 (X_f12_3.mk y2.fst (TApi_State.mk (Go.Vm.Sl.mk true (0 : Nat) (fun _i3 => (TApi_ThreadState.mk (0 : Int) (0 : Int) (0 : Int) (0 : Int) (0 : Int) (fun _i4 => (0 : Int)) (Go.Vm.Sl.mk true (0 : Nat) (fun _i4 => (0 : Int)))))) (Go.Vm.Sl.mk true (0 : Nat) (fun _i3 => (TApi_RingState.mk (0 : Int) (Go.Vm.Sl.mk true (0 : Nat) (fun _i4 => (0 : Int))) false (Go.Vm.Sl.mk true (0 : Nat) (fun _i4 => (TApi_Slot.mk (0 : Int) (0 : Int) (0 : Int))))))) (0 : Int) (0 : Int) false) y2.snd))
 )
 )
theorem sd_f12 (x : X_f12) : (tt_f12  x).Sides :=
  (TT.s_call fun _ => (TT.s_call fun _ => TT.s_jump))

theorem dn_f12 (x : X_f12) : J_f12.den [⟨S_f12_10, D_f12_10⟩, ⟨S_f12_7, D_f12_7⟩, ⟨S_f12_6, D_f12_6⟩, ⟨S_f12_3, D_f12_3⟩] S_f12 x 4000 = (tt_f12  x).tree J_f12.enc := by kernel_rfl
theorem st_f12  : LabOK J_f12 S_f12 (.of tt_f12) :=
  lab_ok mixed_ok (labs_cons rfl ok_f12_10 (labs_cons rfl ok_f12_7 (labs_cons rfl ok_f12_6 (labs_cons rfl ok_f12_3 labs_nil)))) 4000 (dn_f12 ) (sd_f12 )
noncomputable def D_f12 : Dyn X_f12 R_f12 := .of tt_f12
theorem ct_f12 (x : X_f12) (y : R_f12) (h : D_f12.rel x y) : OK Try.prog 12 [V.str x] [] (V.tup (V.cons (e_TApi_State y.1) (V.cons ((V.int .i64) y.2) (V.unit)))) [] :=
  contract (fn := Try.f12) (J := J_f12) (S := S_f12) (D := D_f12) (by kernel_rfl) (code := Try.f12.body.getD .skip) (by kernel_rfl) rfl st_f12 rfl (x := x) (y := y) h rfl rfl rfl rfl rfl (by kernel_rfl)
noncomputable def con_f12 : Con Try.prog where
  f := 12
  fn := Try.f12
  hf := by kernel_rfl
  hb := by kernel_rfl
  hn := by kernel_rfl
  X := X_f12
  Y := R_f12
  args := fun x => [V.str x]
  objs := fun x => []
  res := fun y => V.tup (V.cons (e_TApi_State y.1) (V.cons ((V.int .i64) y.2) (V.unit)))
  outs := fun y => []
  rel := D_f12.rel
  ev := D_f12.ev
  evOK := D_f12.evOK
  dec := fun l m => (dS (at_ l 0))
  ash := [.any]
  osh := []
  ok := ct_f12

structure TApi_Ring where
  Kind : Int
  Cap : Int
  Readers : Int

def d_TApi_Ring (v : V) : TApi_Ring :=
  ⟨dI (fd v 0), dI (fd v 1), dI (fd v 2)⟩

def e_TApi_Ring (x : TApi_Ring) : V :=
  V.cons ((V.int .i64) x.Kind) (V.cons ((V.int .i64) x.Cap) (V.cons ((V.int .i64) x.Readers) (V.unit)))

/-! check.ring -/
abbrev X_f76 : Type := TApi_Ring
abbrev R_f76 : Type := Bool
noncomputable def J_f76 : Job Try.prog where
  fn := Try.f76
  nt := 34
  pol := tabN 0 [(1, 3), (6, 1), (14, 1), (19, 1), (23, 1), (28, 1)]
  hint := tabN [] []
  finH := []
  rsh := [.any]
  psh := []
  tab := []
  R := R_f76
  enc := fun y => [V.bool y]
noncomputable def S_f76 : LabS where
  id := 0
  K := [.code (Try.f76.body.getD .skip)]
  lay := entryLay 1 0
  X := X_f76
  enc := fun x => [e_TApi_Ring x]
  dec := fun l => (d_TApi_Ring (at_ l 0))
structure X_f76_3 where
  r_1 : TApi_Ring
noncomputable def S_f76_3 : LabS where
  id := 3
  K := (kAt 3 (Try.f76.body.getD .skip) []).getD []
  lay := { live := [(1, .any)], pars := [], locs := [] }
  X := X_f76_3
  enc := fun x => [(eVp e_TApi_Ring) x.r_1]
  dec := fun l => ⟨(dVp d_TApi_Ring) (at_ l 0)⟩
noncomputable def tt_f76_3 (x : X_f76_3) : TT Try.prog R_f76 :=
 (.ite (Go.Vm.ieq x.r_1.Kind (1 : Int))
  (.ite (Go.Vm.ieq x.r_1.Readers (1 : Int))
   .fail
   (.ite (Go.Vm.ieq x.r_1.Kind (2 : Int))
    (.ite (Go.Vm.ile (1 : Int) x.r_1.Readers)
     (.ret (Go.Vm.ile x.r_1.Readers (8 : Int)))
     (.ret false)
    )
    (.ret false)
   )
  )
  (.ite (Go.Vm.ieq x.r_1.Kind (2 : Int))
   (.ite (Go.Vm.ile (1 : Int) x.r_1.Readers)
    (.ret (Go.Vm.ile x.r_1.Readers (8 : Int)))
    (.ret false)
   )
   (.ret false)
  )
 )
theorem sd_f76_3 (x : X_f76_3) : (tt_f76_3  x).Sides :=
  (TT.s_ite (TT.s_ite TT.s_fail (TT.s_ite (TT.s_ite TT.s_ret TT.s_ret) TT.s_ret)) (TT.s_ite (TT.s_ite TT.s_ret TT.s_ret) TT.s_ret))

theorem dn_f76_3 (x : X_f76_3) : J_f76.den [] S_f76_3 x 4000 = (tt_f76_3  x).tree J_f76.enc := by kernel_rfl
theorem st_f76_3  : LabOK J_f76 S_f76_3 (.of tt_f76_3) :=
  lab_ok mixed_ok labs_nil 4000 (dn_f76_3 ) (sd_f76_3 )
noncomputable def D_f76_3 : Dyn X_f76_3 R_f76 := .of (tt_f76_3 )
theorem ok_f76_3  : LabOK J_f76 S_f76_3 (D_f76_3 ) :=
  st_f76_3  
noncomputable def tt_f76 (x : X_f76) : TT Try.prog R_f76 :=
 (.ite (Go.Vm.ilt x.Cap (1 : Int))
  (.ret false)
  (.ite (Go.Vm.ilt (64 : Int) x.Cap)
   (.ret false)
   (.jump S_f76_3 D_f76_3 (X_f76_3.mk x))
  )
 )
theorem sd_f76 (x : X_f76) : (tt_f76  x).Sides :=
  (TT.s_ite TT.s_ret (TT.s_ite TT.s_ret TT.s_jump))

theorem dn_f76 (x : X_f76) : J_f76.den [⟨S_f76_3, D_f76_3⟩] S_f76 x 4000 = (tt_f76  x).tree J_f76.enc := by kernel_rfl
theorem st_f76  : LabOK J_f76 S_f76 (.of tt_f76) :=
  lab_ok mixed_ok (labs_cons rfl ok_f76_3 labs_nil) 4000 (dn_f76 ) (sd_f76 )
noncomputable def D_f76 : Dyn X_f76 R_f76 := .of tt_f76
theorem ct_f76 (x : X_f76) (y : R_f76) (h : D_f76.rel x y) : OK Try.prog 76 [e_TApi_Ring x] [] (V.bool y) [] :=
  contract (fn := Try.f76) (J := J_f76) (S := S_f76) (D := D_f76) (by kernel_rfl) (code := Try.f76.body.getD .skip) (by kernel_rfl) rfl st_f76 rfl (x := x) (y := y) h rfl rfl rfl rfl rfl (by kernel_rfl)
noncomputable def con_f76 : Con Try.prog where
  f := 76
  fn := Try.f76
  hf := by kernel_rfl
  hb := by kernel_rfl
  hn := by kernel_rfl
  X := X_f76
  Y := R_f76
  args := fun x => [e_TApi_Ring x]
  objs := fun x => []
  res := fun y => V.bool y
  outs := fun y => []
  rel := D_f76.rel
  ev := D_f76.ev
  evOK := D_f76.evOK
  dec := fun l m => (d_TApi_Ring (at_ l 0))
  ash := [.any]
  osh := []
  ok := ct_f76

/-! code.Plain -/
abbrev X_f90 : Type := Int
abbrev R_f90 : Type := Bool
noncomputable def J_f90 : Job Try.prog where
  fn := Try.f90
  nt := 9
  pol := tabN 0 [(5, 1), (6, 1)]
  hint := tabN [] []
  finH := []
  rsh := [.any]
  psh := []
  tab := []
  R := R_f90
  enc := fun y => [V.bool y]
noncomputable def S_f90 : LabS where
  id := 0
  K := [.code (Try.f90.body.getD .skip)]
  lay := entryLay 1 0
  X := X_f90
  enc := fun x => [(V.int .i64) x]
  dec := fun l => (dI (at_ l 0))
noncomputable def tt_f90 (x : X_f90) : TT Try.prog R_f90 :=
 (.ite (Go.Vm.ile (1 : Int) x)
  (.ret (Go.Vm.ile x (17 : Int)))
  (.ret false)
 )
theorem sd_f90 (x : X_f90) : (tt_f90  x).Sides :=
  (TT.s_ite TT.s_ret TT.s_ret)

theorem dn_f90 (x : X_f90) : J_f90.den [] S_f90 x 4000 = (tt_f90  x).tree J_f90.enc := by kernel_rfl
theorem st_f90  : LabOK J_f90 S_f90 (.of tt_f90) :=
  lab_ok mixed_ok labs_nil 4000 (dn_f90 ) (sd_f90 )
noncomputable def D_f90 : Dyn X_f90 R_f90 := .of tt_f90
theorem ct_f90 (x : X_f90) (y : R_f90) (h : D_f90.rel x y) : OK Try.prog 90 [(V.int .i64) x] [] (V.bool y) [] :=
  contract (fn := Try.f90) (J := J_f90) (S := S_f90) (D := D_f90) (by kernel_rfl) (code := Try.f90.body.getD .skip) (by kernel_rfl) rfl st_f90 rfl (x := x) (y := y) h rfl rfl rfl rfl rfl (by kernel_rfl)
noncomputable def con_f90 : Con Try.prog where
  f := 90
  fn := Try.f90
  hf := by kernel_rfl
  hb := by kernel_rfl
  hn := by kernel_rfl
  X := X_f90
  Y := R_f90
  args := fun x => [(V.int .i64) x]
  objs := fun x => []
  res := fun y => V.bool y
  outs := fun y => []
  rel := D_f90.rel
  ev := D_f90.ev
  evOK := D_f90.evOK
  dec := fun l m => (dI (at_ l 0))
  ash := [.any]
  osh := []
  ok := ct_f90

structure TCode_limits where
  a : Int
  b : Int
  c : Int
  d : Int
  k : Int

def d_TCode_limits (v : V) : TCode_limits :=
  ⟨dI (fd v 0), dI (fd v 1), dI (fd v 2), dI (fd v 3), dI (fd v 4)⟩

def e_TCode_limits (x : TCode_limits) : V :=
  V.cons ((V.int .i64) x.a) (V.cons ((V.int .i64) x.b) (V.cons ((V.int .i64) x.c) (V.cons ((V.int .i64) x.d) (V.cons ((V.int .u64) x.k) (V.unit)))))

/-! code.limit -/
abbrev X_f89 : Type := Int
abbrev R_f89 : Type := TCode_limits × Bool
noncomputable def J_f89 : Job Try.prog where
  fn := Try.f89
  nt := 39
  pol := tabN 0 [(37, 1)]
  hint := tabN [] []
  finH := []
  rsh := [.any, .any]
  psh := []
  tab := [con_f90]
  R := R_f89
  enc := fun y => [V.tup (V.cons (e_TCode_limits y.1) (V.cons (V.bool y.2) (V.unit)))]
noncomputable def S_f89 : LabS where
  id := 0
  K := [.code (Try.f89.body.getD .skip)]
  lay := entryLay 1 0
  X := X_f89
  enc := fun x => [(V.int .i64) x]
  dec := fun l => (dI (at_ l 0))
structure X_f89_24 where
  op_0 : Int
  m_2 : TCode_limits
noncomputable def S_f89_24 : LabS where
  id := 24
  K := (kAt 24 (Try.f89.body.getD .skip) []).getD []
  lay := { live := [(0, .any), (2, .any)], pars := [], locs := [(.loc 2 0, .any)] }
  X := X_f89_24
  enc := fun x => [(V.int .i64) x.op_0, (V.ptr (.loc 2 0) []), e_TCode_limits x.m_2]
  dec := fun l => ⟨dI (at_ l 0), d_TCode_limits (at_ l 2)⟩
noncomputable def tt_f89_24 (x : X_f89_24) : TT Try.prog R_f89 :=
 (.call con_f90 x.op_0 fun (y1 : R_f90) =>
 (.ret ((TCode_limits.mk (7 : Int) (7 : Int) (7 : Int) (0 : Int) (0 : Int)), y1))
 )
theorem sd_f89_24 (x : X_f89_24) : (tt_f89_24  x).Sides :=
  (TT.s_call fun _ => TT.s_ret)

theorem dn_f89_24 (x : X_f89_24) : J_f89.den [] S_f89_24 x 4000 = (tt_f89_24  x).tree J_f89.enc := by kernel_rfl
theorem st_f89_24  : LabOK J_f89 S_f89_24 (.of tt_f89_24) :=
  lab_ok mixed_ok labs_nil 4000 (dn_f89_24 ) (sd_f89_24 )
noncomputable def D_f89_24 : Dyn X_f89_24 R_f89 := .of (tt_f89_24 )
theorem ok_f89_24  : LabOK J_f89 S_f89_24 (D_f89_24 ) :=
  st_f89_24  
noncomputable def tt_f89 (x : X_f89) : TT Try.prog R_f89 :=
 (.ite (Go.Vm.ieq x (1 : Int))
  (.ret ((TCode_limits.mk (7 : Int) (0 : Int) (0 : Int) (0 : Int) (18446744073709551615 : Int)), true))
  (.ite (Go.Vm.ieq x (2 : Int))
   (.ret ((TCode_limits.mk (7 : Int) (7 : Int) (0 : Int) (0 : Int) (0 : Int)), true))
   (.ite (Go.Vm.ieq x (23 : Int))
    (.ret ((TCode_limits.mk (7 : Int) (7 : Int) (0 : Int) (0 : Int) (0 : Int)), true))
    (.ite (Go.Vm.ieq x (15 : Int))
     (.ret ((TCode_limits.mk (0 : Int) (0 : Int) (0 : Int) (0 : Int) (256 : Int)), true))
     (.ite (Go.Vm.ieq x (16 : Int))
      (.ret ((TCode_limits.mk (7 : Int) (0 : Int) (0 : Int) (0 : Int) (256 : Int)), true))
      (.ite (Go.Vm.ieq x (17 : Int))
       (.ret ((TCode_limits.mk (7 : Int) (0 : Int) (0 : Int) (0 : Int) (256 : Int)), true))
       (.ite (Go.Vm.ieq x (18 : Int))
        (.ret ((TCode_limits.mk (7 : Int) (7 : Int) (7 : Int) (2 : Int) (0 : Int)), true))
        (.ite (Go.Vm.ieq x (19 : Int))
         (.ret ((TCode_limits.mk (7 : Int) (7 : Int) (7 : Int) (2 : Int) (7 : Int)), true))
         (.ite (Go.Vm.ieq x (20 : Int))
          (.ret ((TCode_limits.mk (0 : Int) (0 : Int) (7 : Int) (0 : Int) (0 : Int)), true))
          (.ite (Go.Vm.ieq x (21 : Int))
           (.ret ((TCode_limits.mk (7 : Int) (0 : Int) (0 : Int) (0 : Int) (0 : Int)), true))
           (.ite (Go.Vm.ieq x (22 : Int))
            (.ret ((TCode_limits.mk (7 : Int) (0 : Int) (0 : Int) (0 : Int) (0 : Int)), true))
            (.ite (Go.Vm.ieq x (24 : Int))
             (.ret ((TCode_limits.mk (7 : Int) (0 : Int) (0 : Int) (0 : Int) (0 : Int)), true))
             (.ite (Go.Vm.ieq x (25 : Int))
              (.ret ((TCode_limits.mk (0 : Int) (0 : Int) (0 : Int) (0 : Int) (0 : Int)), true))
              (.jump S_f89_24 D_f89_24 (X_f89_24.mk x (TCode_limits.mk (0 : Int) (0 : Int) (0 : Int) (0 : Int) (0 : Int))))
             )
            )
           )
          )
         )
        )
       )
      )
     )
    )
   )
  )
 )
theorem sd_f89 (x : X_f89) : (tt_f89  x).Sides :=
  (TT.s_ite TT.s_ret (TT.s_ite TT.s_ret (TT.s_ite TT.s_ret (TT.s_ite TT.s_ret (TT.s_ite TT.s_ret (TT.s_ite TT.s_ret (TT.s_ite TT.s_ret (TT.s_ite TT.s_ret (TT.s_ite TT.s_ret (TT.s_ite TT.s_ret (TT.s_ite TT.s_ret (TT.s_ite TT.s_ret (TT.s_ite TT.s_ret TT.s_jump)))))))))))))

theorem dn_f89 (x : X_f89) : J_f89.den [⟨S_f89_24, D_f89_24⟩] S_f89 x 4000 = (tt_f89  x).tree J_f89.enc := by kernel_rfl
theorem st_f89  : LabOK J_f89 S_f89 (.of tt_f89) :=
  lab_ok mixed_ok (labs_cons rfl ok_f89_24 labs_nil) 4000 (dn_f89 ) (sd_f89 )
noncomputable def D_f89 : Dyn X_f89 R_f89 := .of tt_f89
theorem ct_f89 (x : X_f89) (y : R_f89) (h : D_f89.rel x y) : OK Try.prog 89 [(V.int .i64) x] [] (V.tup (V.cons (e_TCode_limits y.1) (V.cons (V.bool y.2) (V.unit)))) [] :=
  contract (fn := Try.f89) (J := J_f89) (S := S_f89) (D := D_f89) (by kernel_rfl) (code := Try.f89.body.getD .skip) (by kernel_rfl) rfl st_f89 rfl (x := x) (y := y) h rfl rfl rfl rfl rfl (by kernel_rfl)
noncomputable def con_f89 : Con Try.prog where
  f := 89
  fn := Try.f89
  hf := by kernel_rfl
  hb := by kernel_rfl
  hn := by kernel_rfl
  X := X_f89
  Y := R_f89
  args := fun x => [(V.int .i64) x]
  objs := fun x => []
  res := fun y => V.tup (V.cons (e_TCode_limits y.1) (V.cons (V.bool y.2) (V.unit)))
  outs := fun y => []
  rel := D_f89.rel
  ev := D_f89.ev
  evOK := D_f89.evOK
  dec := fun l m => (dI (at_ l 0))
  ash := [.any]
  osh := []
  ok := ct_f89

structure TApi_Instr where
  Op : Int
  A : Int
  B : Int
  C : Int
  D : Int
  K : Int

def d_TApi_Instr (v : V) : TApi_Instr :=
  ⟨dI (fd v 0), dI (fd v 1), dI (fd v 2), dI (fd v 3), dI (fd v 4), dI (fd v 5)⟩

def e_TApi_Instr (x : TApi_Instr) : V :=
  V.cons ((V.int .i64) x.Op) (V.cons ((V.int .i64) x.A) (V.cons ((V.int .i64) x.B) (V.cons ((V.int .i64) x.C) (V.cons ((V.int .i64) x.D) (V.cons ((V.int .u64) x.K) (V.unit))))))

/-! code.Right -/
abbrev X_f84 : Type := TApi_Instr
abbrev R_f84 : Type := Bool
noncomputable def J_f84 : Job Try.prog where
  fn := Try.f84
  nt := 67
  pol := tabN 0 [(1, 3), (5, 1), (11, 1), (12, 1), (17, 1), (24, 1), (29, 1), (36, 1), (41, 1), (48, 1), (53, 1), (60, 1)]
  hint := tabN [] []
  finH := []
  rsh := [.any]
  psh := []
  tab := [con_f89]
  R := R_f84
  enc := fun y => [V.bool y]
noncomputable def S_f84 : LabS where
  id := 0
  K := [.code (Try.f84.body.getD .skip)]
  lay := entryLay 1 0
  X := X_f84
  enc := fun x => [e_TApi_Instr x]
  dec := fun l => (d_TApi_Instr (at_ l 0))
noncomputable def tt_f84 (x : X_f84) : TT Try.prog R_f84 :=
 (.call con_f89 x.Op fun (y1 : R_f89) =>
 (.ite y1.snd
  (.ite (Go.Vm.ile (0 : Int) x.A)
   (.ite (Go.Vm.ile x.A y1.fst.a)
    (.ite (Go.Vm.ile (0 : Int) x.B)
     (.ite (Go.Vm.ile x.B y1.fst.b)
      (.ite (Go.Vm.ile (0 : Int) x.C)
       (.ite (Go.Vm.ile x.C y1.fst.c)
        (.ite (Go.Vm.ile (0 : Int) x.D)
         (.ite (Go.Vm.ile x.D y1.fst.d)
          (.ret (Go.Vm.ile x.K y1.fst.k))
          (.ret false)
         )
         (.ret false)
        )
        (.ret false)
       )
       (.ret false)
      )
      (.ret false)
     )
     (.ret false)
    )
    (.ret false)
   )
   (.ret false)
  )
  (.ret false)
 )
 )
theorem sd_f84 (x : X_f84) : (tt_f84  x).Sides :=
  (TT.s_call fun _ => (TT.s_ite (TT.s_ite (TT.s_ite (TT.s_ite (TT.s_ite (TT.s_ite (TT.s_ite (TT.s_ite (TT.s_ite TT.s_ret TT.s_ret) TT.s_ret) TT.s_ret) TT.s_ret) TT.s_ret) TT.s_ret) TT.s_ret) TT.s_ret) TT.s_ret))

theorem dn_f84 (x : X_f84) : J_f84.den [] S_f84 x 4000 = (tt_f84  x).tree J_f84.enc := by kernel_rfl
theorem st_f84  : LabOK J_f84 S_f84 (.of tt_f84) :=
  lab_ok mixed_ok labs_nil 4000 (dn_f84 ) (sd_f84 )
noncomputable def D_f84 : Dyn X_f84 R_f84 := .of tt_f84
theorem ct_f84 (x : X_f84) (y : R_f84) (h : D_f84.rel x y) : OK Try.prog 84 [e_TApi_Instr x] [] (V.bool y) [] :=
  contract (fn := Try.f84) (J := J_f84) (S := S_f84) (D := D_f84) (by kernel_rfl) (code := Try.f84.body.getD .skip) (by kernel_rfl) rfl st_f84 rfl (x := x) (y := y) h rfl rfl rfl rfl rfl (by kernel_rfl)
noncomputable def con_f84 : Con Try.prog where
  f := 84
  fn := Try.f84
  hf := by kernel_rfl
  hb := by kernel_rfl
  hn := by kernel_rfl
  X := X_f84
  Y := R_f84
  args := fun x => [e_TApi_Instr x]
  objs := fun x => []
  res := fun y => V.bool y
  outs := fun y => []
  rel := D_f84.rel
  ev := D_f84.ev
  evOK := D_f84.evOK
  dec := fun l m => (d_TApi_Instr (at_ l 0))
  ash := [.any]
  osh := []
  ok := ct_f84

/-! code.Jumps -/
abbrev X_f85 : Type := TApi_Instr
abbrev R_f85 : Type := Bool
noncomputable def J_f85 : Job Try.prog where
  fn := Try.f85
  nt := 11
  pol := tabN 0 [(1, 3), (6, 1)]
  hint := tabN [] []
  finH := []
  rsh := [.any]
  psh := []
  tab := []
  R := R_f85
  enc := fun y => [V.bool y]
noncomputable def S_f85 : LabS where
  id := 0
  K := [.code (Try.f85.body.getD .skip)]
  lay := entryLay 1 0
  X := X_f85
  enc := fun x => [e_TApi_Instr x]
  dec := fun l => (d_TApi_Instr (at_ l 0))
noncomputable def tt_f85 (x : X_f85) : TT Try.prog R_f85 :=
 (.ite (Go.Vm.ile (15 : Int) x.Op)
  (.ret (Go.Vm.ile x.Op (17 : Int)))
  (.ret false)
 )
theorem sd_f85 (x : X_f85) : (tt_f85  x).Sides :=
  (TT.s_ite TT.s_ret TT.s_ret)

theorem dn_f85 (x : X_f85) : J_f85.den [] S_f85 x 4000 = (tt_f85  x).tree J_f85.enc := by kernel_rfl
theorem st_f85  : LabOK J_f85 S_f85 (.of tt_f85) :=
  lab_ok mixed_ok labs_nil 4000 (dn_f85 ) (sd_f85 )
noncomputable def D_f85 : Dyn X_f85 R_f85 := .of tt_f85
theorem ct_f85 (x : X_f85) (y : R_f85) (h : D_f85.rel x y) : OK Try.prog 85 [e_TApi_Instr x] [] (V.bool y) [] :=
  contract (fn := Try.f85) (J := J_f85) (S := S_f85) (D := D_f85) (by kernel_rfl) (code := Try.f85.body.getD .skip) (by kernel_rfl) rfl st_f85 rfl (x := x) (y := y) h rfl rfl rfl rfl rfl (by kernel_rfl)
noncomputable def con_f85 : Con Try.prog where
  f := 85
  fn := Try.f85
  hf := by kernel_rfl
  hb := by kernel_rfl
  hn := by kernel_rfl
  X := X_f85
  Y := R_f85
  args := fun x => [e_TApi_Instr x]
  objs := fun x => []
  res := fun y => V.bool y
  outs := fun y => []
  rel := D_f85.rel
  ev := D_f85.ev
  evOK := D_f85.evOK
  dec := fun l m => (d_TApi_Instr (at_ l 0))
  ash := [.any]
  osh := []
  ok := ct_f85

/-! check.rings -/
abbrev X_f87 : Type := Int
abbrev R_f87 : Type := Bool
noncomputable def J_f87 : Job Try.prog where
  fn := Try.f87
  nt := 13
  pol := tabN 0 [(5, 1), (9, 1), (10, 1)]
  hint := tabN [] []
  finH := []
  rsh := [.any]
  psh := []
  tab := []
  R := R_f87
  enc := fun y => [V.bool y]
noncomputable def S_f87 : LabS where
  id := 0
  K := [.code (Try.f87.body.getD .skip)]
  lay := entryLay 1 0
  X := X_f87
  enc := fun x => [(V.int .i64) x]
  dec := fun l => (dI (at_ l 0))
noncomputable def tt_f87 (x : X_f87) : TT Try.prog R_f87 :=
 (.ite (Go.Vm.ieq x (18 : Int))
  (.ret true)
  (.ite (Go.Vm.ieq x (19 : Int))
   (.ret true)
   (.ret (Go.Vm.ieq x (20 : Int)))
  )
 )
theorem sd_f87 (x : X_f87) : (tt_f87  x).Sides :=
  (TT.s_ite TT.s_ret (TT.s_ite TT.s_ret TT.s_ret))

theorem dn_f87 (x : X_f87) : J_f87.den [] S_f87 x 4000 = (tt_f87  x).tree J_f87.enc := by kernel_rfl
theorem st_f87  : LabOK J_f87 S_f87 (.of tt_f87) :=
  lab_ok mixed_ok labs_nil 4000 (dn_f87 ) (sd_f87 )
noncomputable def D_f87 : Dyn X_f87 R_f87 := .of tt_f87
theorem ct_f87 (x : X_f87) (y : R_f87) (h : D_f87.rel x y) : OK Try.prog 87 [(V.int .i64) x] [] (V.bool y) [] :=
  contract (fn := Try.f87) (J := J_f87) (S := S_f87) (D := D_f87) (by kernel_rfl) (code := Try.f87.body.getD .skip) (by kernel_rfl) rfl st_f87 rfl (x := x) (y := y) h rfl rfl rfl rfl rfl (by kernel_rfl)
noncomputable def con_f87 : Con Try.prog where
  f := 87
  fn := Try.f87
  hf := by kernel_rfl
  hb := by kernel_rfl
  hn := by kernel_rfl
  X := X_f87
  Y := R_f87
  args := fun x => [(V.int .i64) x]
  objs := fun x => []
  res := fun y => V.bool y
  outs := fun y => []
  rel := D_f87.rel
  ev := D_f87.ev
  evOK := D_f87.evOK
  dec := fun l m => (dI (at_ l 0))
  ash := [.any]
  osh := []
  ok := ct_f87

structure TApi_Program where
  Rings : (Sl TApi_Ring)
  Threads : (Sl (Sl TApi_Instr))

def d_TApi_Program (v : V) : TApi_Program :=
  ⟨(dSl d_TApi_Ring) (fd v 0), (dSl (dSl d_TApi_Instr)) (fd v 1)⟩

def e_TApi_Program (x : TApi_Program) : V :=
  V.cons ((eSl none 3 e_TApi_Ring) x.Rings) (V.cons ((eSl none 1 (eSl none 6 e_TApi_Instr)) x.Threads) (V.unit))

def sh_TApi_Program : Sh := (.cons (.sl none 3 (e_TApi_Ring (d_TApi_Ring .undef))) (.cons (.sl none 1 ((eSl none 6 e_TApi_Instr) ((dSl d_TApi_Instr) .undef))) .any))

/-! check.instr -/
abbrev X_f77 : Type := TApi_Program × TApi_Instr × Int
abbrev R_f77 : Type := Int
noncomputable def J_f77 : Job Try.prog where
  fn := Try.f77
  nt := 50
  pol := tabN 0 [(3, 3), (4, 3), (14, 1), (17, 1), (25, 1), (37, 1)]
  hint := tabN [] []
  finH := []
  rsh := [.any]
  psh := []
  tab := [con_f84, con_f85, con_f87]
  R := R_f77
  enc := fun y => [(V.int .i64) y]
noncomputable def S_f77 : LabS where
  id := 0
  K := [.code (Try.f77.body.getD .skip)]
  lay := entryLay 3 0
  X := X_f77
  enc := fun x => [e_TApi_Program x.1, e_TApi_Instr x.2.1, (V.int .i64) x.2.2]
  dec := fun l => (d_TApi_Program (at_ l 0), d_TApi_Instr (at_ l 1), dI (at_ l 2))
noncomputable def tt_f77 (x : X_f77) : TT Try.prog R_f77 :=
 (.call con_f84 x.snd.fst fun (y1 : R_f84) =>
 (.ite (!y1)
  (.ret (6 : Int))
  (.call con_f85 x.snd.fst fun (y2 : R_f85) =>
  (.ite y2
   (.ite (Go.Vm.ilt (Go.IntKind.wrap Go.IntKind.u64 x.snd.snd) x.snd.fst.K)
    (.ret (5 : Int))
    (.call con_f87 x.snd.fst.Op fun (y3 : R_f87) =>
    (.ite y3
     (.ite (Go.Vm.ile ((x.fst.Rings.n : Nat) : Int) x.snd.fst.C)
      (.ret (7 : Int))
      (.ite (Go.Vm.ieq x.snd.fst.Op (19 : Int))
       (.need (Go.Vm.inb x.snd.fst.C x.fst.Rings.n) <|
       (.ite (Go.Vm.ile (Go.IntKind.wrap Go.IntKind.u64 (x.fst.Rings.get (Int.toNat x.snd.fst.C)).Readers) x.snd.fst.K)
        (.ret (7 : Int))
        (.ret (0 : Int))
       )
       )
       (.ret (0 : Int))
      )
     )
     (.ite (Go.Vm.ieq x.snd.fst.Op (19 : Int))
      (.need (Go.Vm.inb x.snd.fst.C x.fst.Rings.n) <|
      (.ite (Go.Vm.ile (Go.IntKind.wrap Go.IntKind.u64 (x.fst.Rings.get (Int.toNat x.snd.fst.C)).Readers) x.snd.fst.K)
       (.ret (7 : Int))
       (.ret (0 : Int))
      )
      )
      (.ret (0 : Int))
     )
    )
    )
   )
   (.call con_f87 x.snd.fst.Op fun (y3 : R_f87) =>
   (.ite y3
    (.ite (Go.Vm.ile ((x.fst.Rings.n : Nat) : Int) x.snd.fst.C)
     (.ret (7 : Int))
     (.ite (Go.Vm.ieq x.snd.fst.Op (19 : Int))
      (.need (Go.Vm.inb x.snd.fst.C x.fst.Rings.n) <|
      (.ite (Go.Vm.ile (Go.IntKind.wrap Go.IntKind.u64 (x.fst.Rings.get (Int.toNat x.snd.fst.C)).Readers) x.snd.fst.K)
       (.ret (7 : Int))
       (.ret (0 : Int))
      )
      )
      (.ret (0 : Int))
     )
    )
    (.ite (Go.Vm.ieq x.snd.fst.Op (19 : Int))
     (.need (Go.Vm.inb x.snd.fst.C x.fst.Rings.n) <|
     (.ite (Go.Vm.ile (Go.IntKind.wrap Go.IntKind.u64 (x.fst.Rings.get (Int.toNat x.snd.fst.C)).Readers) x.snd.fst.K)
      (.ret (7 : Int))
      (.ret (0 : Int))
     )
     )
     (.ret (0 : Int))
    )
   )
   )
  )
  )
 )
 )
theorem sd_f77 (x : X_f77) : (tt_f77  x).Sides :=
  (TT.s_call fun _ => (TT.s_ite TT.s_ret (TT.s_call fun _ => (TT.s_ite (TT.s_ite TT.s_ret (TT.s_call fun _ => (TT.s_ite (TT.s_ite TT.s_ret (TT.s_ite (TT.s_need (TT.s_ite TT.s_ret TT.s_ret)) TT.s_ret)) (TT.s_ite (TT.s_need (TT.s_ite TT.s_ret TT.s_ret)) TT.s_ret)))) (TT.s_call fun _ => (TT.s_ite (TT.s_ite TT.s_ret (TT.s_ite (TT.s_need (TT.s_ite TT.s_ret TT.s_ret)) TT.s_ret)) (TT.s_ite (TT.s_need (TT.s_ite TT.s_ret TT.s_ret)) TT.s_ret)))))))

theorem dn_f77 (x : X_f77) : J_f77.den [] S_f77 x 4000 = (tt_f77  x).tree J_f77.enc := by kernel_rfl
theorem st_f77  : LabOK J_f77 S_f77 (.of tt_f77) :=
  lab_ok mixed_ok labs_nil 4000 (dn_f77 ) (sd_f77 )
noncomputable def D_f77 : Dyn X_f77 R_f77 := .of tt_f77
theorem ct_f77 (x : X_f77) (y : R_f77) (h : D_f77.rel x y) : OK Try.prog 77 [e_TApi_Program x.1, e_TApi_Instr x.2.1, (V.int .i64) x.2.2] [] ((V.int .i64) y) [] :=
  contract (fn := Try.f77) (J := J_f77) (S := S_f77) (D := D_f77) (by kernel_rfl) (code := Try.f77.body.getD .skip) (by kernel_rfl) rfl st_f77 rfl (x := x) (y := y) h rfl rfl rfl rfl rfl (by kernel_rfl)
noncomputable def con_f77 : Con Try.prog where
  f := 77
  fn := Try.f77
  hf := by kernel_rfl
  hb := by kernel_rfl
  hn := by kernel_rfl
  X := X_f77
  Y := R_f77
  args := fun x => [e_TApi_Program x.1, e_TApi_Instr x.2.1, (V.int .i64) x.2.2]
  objs := fun x => []
  res := fun y => (V.int .i64) y
  outs := fun y => []
  rel := D_f77.rel
  ev := D_f77.ev
  evOK := D_f77.evOK
  dec := fun l m => (d_TApi_Program (at_ l 0), d_TApi_Instr (at_ l 1), dI (at_ l 2))
  ash := [sh_TApi_Program, .any, .any]
  osh := []
  ok := ct_f77

/-! check.Check -/
abbrev X_f65 : Type := TApi_Program
abbrev R_f65 : Type := Int × Int × Int
noncomputable def J_f65 : Job Try.prog where
  fn := Try.f65
  nt := 72
  pol := tabN 0 [(1, 3), (18, 1), (19, 1), (22, 1), (31, 1), (39, 1), (44, 1), (52, 1), (55, 1), (67, 1), (68, 1), (69, 1)]
  hint := tabN [] []
  finH := []
  rsh := [.any, .any, .any]
  psh := []
  tab := [con_f76, con_f77]
  R := R_f65
  enc := fun y => [V.tup (V.cons ((V.int .i64) y.1) (V.cons ((V.int .i64) y.2.1) (V.cons ((V.int .i64) y.2.2) (V.unit))))]
noncomputable def S_f65 : LabS where
  id := 0
  K := [.code (Try.f65.body.getD .skip)]
  lay := entryLay 1 0
  X := X_f65
  enc := fun x => [e_TApi_Program x]
  dec := fun l => (d_TApi_Program (at_ l 0))
structure X_f65_4 where
  p_1 : TApi_Program
noncomputable def S_f65_4 : LabS where
  id := 4
  K := (kAt 4 (Try.f65.body.getD .skip) []).getD []
  lay := { live := [(1, .any)], pars := [], locs := [] }
  X := X_f65_4
  enc := fun x => [(eVp e_TApi_Program) x.p_1]
  dec := fun l => ⟨(dVp d_TApi_Program) (at_ l 0)⟩
structure X_f65_5 where
  p_1 : TApi_Program
  q_29 : (Sl TApi_Ring)
  q_30 : Int
  q_31 : Int
noncomputable def S_f65_5 : LabS where
  id := 5
  K := (kAt 5 (Try.f65.body.getD .skip) []).getD []
  lay := { live := [(1, .any), (29, (.sl none 3 (e_TApi_Ring (d_TApi_Ring .undef)))), (30, .any), (31, .any)], pars := [], locs := [] }
  X := X_f65_5
  enc := fun x => [(eVp e_TApi_Program) x.p_1, (eSl none 3 e_TApi_Ring) x.q_29, (V.int .i64) x.q_30, (V.int .i64) x.q_31]
  dec := fun l => ⟨(dVp d_TApi_Program) (at_ l 0), (dSl d_TApi_Ring) (at_ l 1), dI (at_ l 2), dI (at_ l 3)⟩
structure X_f65_10 where
  p_1 : TApi_Program
noncomputable def S_f65_10 : LabS where
  id := 10
  K := (kAt 10 (Try.f65.body.getD .skip) []).getD []
  lay := { live := [(1, .any)], pars := [], locs := [] }
  X := X_f65_10
  enc := fun x => [(eVp e_TApi_Program) x.p_1]
  dec := fun l => ⟨(dVp d_TApi_Program) (at_ l 0)⟩
structure X_f65_11 where
  p_1 : TApi_Program
  q_42 : (Sl (Sl TApi_Instr))
  q_43 : Int
  q_44 : Int
noncomputable def S_f65_11 : LabS where
  id := 11
  K := (kAt 11 (Try.f65.body.getD .skip) []).getD []
  lay := { live := [(1, .any), (42, (.sl none 1 ((eSl none 6 e_TApi_Instr) ((dSl d_TApi_Instr) .undef)))), (43, .any), (44, .any)], pars := [], locs := [] }
  X := X_f65_11
  enc := fun x => [(eVp e_TApi_Program) x.p_1, (eSl none 1 (eSl none 6 e_TApi_Instr)) x.q_42, (V.int .i64) x.q_43, (V.int .i64) x.q_44]
  dec := fun l => ⟨(dVp d_TApi_Program) (at_ l 0), (dSl (dSl d_TApi_Instr)) (at_ l 1), dI (at_ l 2), dI (at_ l 3)⟩
structure X_f65_16 where
  p_1 : TApi_Program
  t_8 : Int
  l_9 : (Sl TApi_Instr)
  q_42 : (Sl (Sl TApi_Instr))
  q_43 : Int
  q_44 : Int
  q_53 : (Sl TApi_Instr)
  q_54 : Int
  q_55 : Int
noncomputable def S_f65_16 : LabS where
  id := 16
  K := (kAt 16 (Try.f65.body.getD .skip) []).getD []
  lay := { live := [(1, .any), (8, .any), (9, (.sl none 6 (e_TApi_Instr (d_TApi_Instr .undef)))), (42, (.sl none 1 ((eSl none 6 e_TApi_Instr) ((dSl d_TApi_Instr) .undef)))), (43, .any), (44, .any), (53, (.sl none 6 (e_TApi_Instr (d_TApi_Instr .undef)))), (54, .any), (55, .any)], pars := [], locs := [] }
  X := X_f65_16
  enc := fun x => [(eVp e_TApi_Program) x.p_1, (V.int .i64) x.t_8, (eSl none 6 e_TApi_Instr) x.l_9, (eSl none 1 (eSl none 6 e_TApi_Instr)) x.q_42, (V.int .i64) x.q_43, (V.int .i64) x.q_44, (eSl none 6 e_TApi_Instr) x.q_53, (V.int .i64) x.q_54, (V.int .i64) x.q_55]
  dec := fun l => ⟨(dVp d_TApi_Program) (at_ l 0), dI (at_ l 1), (dSl d_TApi_Instr) (at_ l 2), (dSl (dSl d_TApi_Instr)) (at_ l 3), dI (at_ l 4), dI (at_ l 5), (dSl d_TApi_Instr) (at_ l 6), dI (at_ l 7), dI (at_ l 8)⟩
structure X_f65_22 where
  p_1 : TApi_Program
  q_42 : (Sl (Sl TApi_Instr))
  q_43 : Int
  q_44 : Int
noncomputable def S_f65_22 : LabS where
  id := 22
  K := (kAt 22 (Try.f65.body.getD .skip) []).getD []
  lay := { live := [(1, .any), (42, (.sl none 1 ((eSl none 6 e_TApi_Instr) ((dSl d_TApi_Instr) .undef)))), (43, .any), (44, .any)], pars := [], locs := [] }
  X := X_f65_22
  enc := fun x => [(eVp e_TApi_Program) x.p_1, (eSl none 1 (eSl none 6 e_TApi_Instr)) x.q_42, (V.int .i64) x.q_43, (V.int .i64) x.q_44]
  dec := fun l => ⟨(dVp d_TApi_Program) (at_ l 0), (dSl (dSl d_TApi_Instr)) (at_ l 1), dI (at_ l 2), dI (at_ l 3)⟩
noncomputable def tt_f65_22 (D_f65_11 : Dyn X_f65_11 R_f65) (x : X_f65_22) : TT Try.prog R_f65 :=
 (.jump S_f65_11 D_f65_11 (X_f65_11.mk x.p_1 x.q_42 x.q_43 (Go.IntKind.wrap Go.IntKind.i64 (x.q_44 + (1 : Int)))))
theorem sd_f65_22 (D_f65_11 : Dyn X_f65_11 R_f65) (x : X_f65_22) : (tt_f65_22 D_f65_11 x).Sides :=
  TT.s_jump

theorem dn_f65_22 (D_f65_11 : Dyn X_f65_11 R_f65) (x : X_f65_22) : J_f65.den [⟨S_f65_11, D_f65_11⟩] S_f65_22 x 4000 = (tt_f65_22 D_f65_11 x).tree J_f65.enc := by kernel_rfl
theorem st_f65_22 (D_f65_11 : Dyn X_f65_11 R_f65) (h_11 : LabOK J_f65 S_f65_11 D_f65_11) : LabOK J_f65 S_f65_22 (.of (tt_f65_22 D_f65_11)) :=
  lab_ok mixed_ok (labs_cons rfl h_11 labs_nil) 4000 (dn_f65_22 D_f65_11) (sd_f65_22 D_f65_11)
noncomputable def D_f65_22 (D_f65_11 : Dyn X_f65_11 R_f65) : Dyn X_f65_22 R_f65 := .of (tt_f65_22 D_f65_11)
theorem ok_f65_22 (D_f65_11 : Dyn X_f65_11 R_f65) (h_11 : LabOK J_f65 S_f65_11 D_f65_11) : LabOK J_f65 S_f65_22 (D_f65_22 D_f65_11) :=
  st_f65_22 D_f65_11 h_11
noncomputable def tt_f65_16 (D_f65_11 : Dyn X_f65_11 R_f65) (D_f65_16 : Dyn X_f65_16 R_f65) (x : X_f65_16) : TT Try.prog R_f65 :=
 (.ite (Go.Vm.ilt x.q_55 x.q_54)
  (.need (Go.Vm.inb x.q_55 x.q_53.n) <|
  (.call con_f77 (x.p_1, ((x.q_53.get (Int.toNat x.q_55)), ((x.l_9.n : Nat) : Int))) fun (y3 : R_f77) =>
  (.ite (!(Go.Vm.ieq y3 (0 : Int)))
   (.ret (x.t_8, (x.q_55, y3)))
   (.jump S_f65_16 D_f65_16 (X_f65_16.mk x.p_1 x.t_8 x.l_9 x.q_42 x.q_43 x.q_44 x.q_53 x.q_54 (Go.IntKind.wrap Go.IntKind.i64 (x.q_55 + (1 : Int)))))
  )
  )
  )
  (.jump S_f65_22 (D_f65_22 D_f65_11) (X_f65_22.mk x.p_1 x.q_42 x.q_43 x.q_44))
 )
theorem sd_f65_16 (D_f65_11 : Dyn X_f65_11 R_f65) (D_f65_16 : Dyn X_f65_16 R_f65) (x : X_f65_16) : (tt_f65_16 D_f65_11 D_f65_16 x).Sides :=
  (TT.s_ite (TT.s_need (TT.s_call fun _ => (TT.s_ite TT.s_ret TT.s_jump))) TT.s_jump)

theorem dn_f65_16 (D_f65_11 : Dyn X_f65_11 R_f65) (D_f65_16 : Dyn X_f65_16 R_f65) (x : X_f65_16) : J_f65.den [⟨S_f65_11, D_f65_11⟩, ⟨S_f65_16, D_f65_16⟩, ⟨S_f65_22, (D_f65_22 D_f65_11)⟩] S_f65_16 x 4000 = (tt_f65_16 D_f65_11 D_f65_16 x).tree J_f65.enc := by kernel_rfl
theorem st_f65_16 (D_f65_11 : Dyn X_f65_11 R_f65) (D_f65_16 : Dyn X_f65_16 R_f65) (h_11 : LabOK J_f65 S_f65_11 D_f65_11) (h_16 : LabOK J_f65 S_f65_16 D_f65_16) : LabOK J_f65 S_f65_16 (.of (tt_f65_16 D_f65_11 D_f65_16)) :=
  lab_ok mixed_ok (labs_cons rfl h_11 (labs_cons rfl h_16 (labs_cons rfl (ok_f65_22 D_f65_11 h_11) labs_nil))) 4000 (dn_f65_16 D_f65_11 D_f65_16) (sd_f65_16 D_f65_11 D_f65_16)
noncomputable def D_f65_16 (D_f65_11 : Dyn X_f65_11 R_f65) : Dyn X_f65_16 R_f65 := Dyn.loop (tt_f65_16 D_f65_11)
theorem ok_f65_16 (D_f65_11 : Dyn X_f65_11 R_f65) (h_11 : LabOK J_f65 S_f65_11 D_f65_11) : LabOK J_f65 S_f65_16 (D_f65_16 D_f65_11) :=
  loop_ok fun D h => st_f65_16 D_f65_11 D h_11 h
noncomputable def tt_f65_11 (D_f65_11 : Dyn X_f65_11 R_f65) (x : X_f65_11) : TT Try.prog R_f65 :=
 (.ite (Go.Vm.ilt x.q_44 x.q_43)
  (.need (Go.Vm.inb x.q_44 x.q_42.n) <|
  (.ite (Go.Vm.ilt (256 : Int) (((x.q_42.get (Int.toNat x.q_44)).n : Nat) : Int))
   (.ret (x.q_44, ((256 : Int), (4 : Int))))
   (.jump S_f65_16 (D_f65_16 D_f65_11) (X_f65_16.mk x.p_1 x.q_44 (x.q_42.get (Int.toNat x.q_44)) x.q_42 x.q_43 x.q_44 (x.q_42.get (Int.toNat x.q_44)) (((x.q_42.get (Int.toNat x.q_44)).n : Nat) : Int) (0 : Int)))
  )
  )
  (.ret ((0 : Int), ((0 : Int), (0 : Int))))
 )
theorem sd_f65_11 (D_f65_11 : Dyn X_f65_11 R_f65) (x : X_f65_11) : (tt_f65_11 D_f65_11 x).Sides :=
  (TT.s_ite (TT.s_need (TT.s_ite TT.s_ret TT.s_jump)) TT.s_ret)

theorem dn_f65_11 (D_f65_11 : Dyn X_f65_11 R_f65) (x : X_f65_11) : J_f65.den [⟨S_f65_11, D_f65_11⟩, ⟨S_f65_22, (D_f65_22 D_f65_11)⟩, ⟨S_f65_16, (D_f65_16 D_f65_11)⟩] S_f65_11 x 4000 = (tt_f65_11 D_f65_11 x).tree J_f65.enc := by kernel_rfl
theorem st_f65_11 (D_f65_11 : Dyn X_f65_11 R_f65) (h_11 : LabOK J_f65 S_f65_11 D_f65_11) : LabOK J_f65 S_f65_11 (.of (tt_f65_11 D_f65_11)) :=
  lab_ok mixed_ok (labs_cons rfl h_11 (labs_cons rfl (ok_f65_22 D_f65_11 h_11) (labs_cons rfl (ok_f65_16 D_f65_11 h_11) labs_nil))) 4000 (dn_f65_11 D_f65_11) (sd_f65_11 D_f65_11)
noncomputable def D_f65_11 : Dyn X_f65_11 R_f65 := Dyn.loop (tt_f65_11 )
theorem ok_f65_11  : LabOK J_f65 S_f65_11 (D_f65_11 ) :=
  loop_ok fun D h => st_f65_11  D  h
noncomputable def tt_f65_10 (x : X_f65_10) : TT Try.prog R_f65 :=
 (.jump S_f65_11 D_f65_11 (X_f65_11.mk x.p_1 x.p_1.Threads ((x.p_1.Threads.n : Nat) : Int) (0 : Int)))
theorem sd_f65_10 (x : X_f65_10) : (tt_f65_10  x).Sides :=
  TT.s_jump

theorem dn_f65_10 (x : X_f65_10) : J_f65.den [⟨S_f65_11, D_f65_11⟩] S_f65_10 x 4000 = (tt_f65_10  x).tree J_f65.enc := by kernel_rfl
theorem st_f65_10  : LabOK J_f65 S_f65_10 (.of tt_f65_10) :=
  lab_ok mixed_ok (labs_cons rfl ok_f65_11 labs_nil) 4000 (dn_f65_10 ) (sd_f65_10 )
noncomputable def D_f65_10 : Dyn X_f65_10 R_f65 := .of (tt_f65_10 )
theorem ok_f65_10  : LabOK J_f65 S_f65_10 (D_f65_10 ) :=
  st_f65_10  
noncomputable def tt_f65_5 (D_f65_5 : Dyn X_f65_5 R_f65) (x : X_f65_5) : TT Try.prog R_f65 :=
 (.ite (Go.Vm.ilt x.q_31 x.q_30)
  (.need (Go.Vm.inb x.q_31 x.q_29.n) <|
  (.call con_f76 (x.q_29.get (Int.toNat x.q_31)) fun (y2 : R_f76) =>
  (.ite (!y2)
   (.ret ((-(1 : Int)), (x.q_31, (7 : Int))))
   (.jump S_f65_5 D_f65_5 (X_f65_5.mk x.p_1 x.q_29 x.q_30 (Go.IntKind.wrap Go.IntKind.i64 (x.q_31 + (1 : Int)))))
  )
  )
  )
  (.jump S_f65_10 D_f65_10 (X_f65_10.mk x.p_1))
 )
theorem sd_f65_5 (D_f65_5 : Dyn X_f65_5 R_f65) (x : X_f65_5) : (tt_f65_5 D_f65_5 x).Sides :=
  (TT.s_ite (TT.s_need (TT.s_call fun _ => (TT.s_ite TT.s_ret TT.s_jump))) TT.s_jump)

theorem dn_f65_5 (D_f65_5 : Dyn X_f65_5 R_f65) (x : X_f65_5) : J_f65.den [⟨S_f65_5, D_f65_5⟩, ⟨S_f65_11, D_f65_11⟩, ⟨S_f65_10, D_f65_10⟩] S_f65_5 x 4000 = (tt_f65_5 D_f65_5 x).tree J_f65.enc := by kernel_rfl
theorem st_f65_5 (D_f65_5 : Dyn X_f65_5 R_f65) (h_5 : LabOK J_f65 S_f65_5 D_f65_5) : LabOK J_f65 S_f65_5 (.of (tt_f65_5 D_f65_5)) :=
  lab_ok mixed_ok (labs_cons rfl h_5 (labs_cons rfl ok_f65_11 (labs_cons rfl ok_f65_10 labs_nil))) 4000 (dn_f65_5 D_f65_5) (sd_f65_5 D_f65_5)
noncomputable def D_f65_5 : Dyn X_f65_5 R_f65 := Dyn.loop (tt_f65_5 )
theorem ok_f65_5  : LabOK J_f65 S_f65_5 (D_f65_5 ) :=
  loop_ok fun D h => st_f65_5  D  h
noncomputable def tt_f65_4 (x : X_f65_4) : TT Try.prog R_f65 :=
 (.jump S_f65_5 D_f65_5 (X_f65_5.mk x.p_1 x.p_1.Rings ((x.p_1.Rings.n : Nat) : Int) (0 : Int)))
theorem sd_f65_4 (x : X_f65_4) : (tt_f65_4  x).Sides :=
  TT.s_jump

theorem dn_f65_4 (x : X_f65_4) : J_f65.den [⟨S_f65_11, D_f65_11⟩, ⟨S_f65_10, D_f65_10⟩, ⟨S_f65_5, D_f65_5⟩] S_f65_4 x 4000 = (tt_f65_4  x).tree J_f65.enc := by kernel_rfl
theorem st_f65_4  : LabOK J_f65 S_f65_4 (.of tt_f65_4) :=
  lab_ok mixed_ok (labs_cons rfl ok_f65_11 (labs_cons rfl ok_f65_10 (labs_cons rfl ok_f65_5 labs_nil))) 4000 (dn_f65_4 ) (sd_f65_4 )
noncomputable def D_f65_4 : Dyn X_f65_4 R_f65 := .of (tt_f65_4 )
theorem ok_f65_4  : LabOK J_f65 S_f65_4 (D_f65_4 ) :=
  st_f65_4  
noncomputable def tt_f65 (x : X_f65) : TT Try.prog R_f65 :=
 (.ite (Go.Vm.ieq ((x.Threads.n : Nat) : Int) (0 : Int))
  (.ret ((0 : Int), ((0 : Int), (1 : Int))))
  (.ite (Go.Vm.ilt (8 : Int) ((x.Threads.n : Nat) : Int))
   (.ret ((0 : Int), ((0 : Int), (1 : Int))))
   (.ite (Go.Vm.ilt (8 : Int) ((x.Rings.n : Nat) : Int))
    (.ret ((0 : Int), ((0 : Int), (1 : Int))))
    (.jump S_f65_4 D_f65_4 (X_f65_4.mk x))
   )
  )
 )
theorem sd_f65 (x : X_f65) : (tt_f65  x).Sides :=
  (TT.s_ite TT.s_ret (TT.s_ite TT.s_ret (TT.s_ite TT.s_ret TT.s_jump)))

theorem dn_f65 (x : X_f65) : J_f65.den [⟨S_f65_11, D_f65_11⟩, ⟨S_f65_10, D_f65_10⟩, ⟨S_f65_5, D_f65_5⟩, ⟨S_f65_4, D_f65_4⟩] S_f65 x 4000 = (tt_f65  x).tree J_f65.enc := by kernel_rfl
theorem st_f65  : LabOK J_f65 S_f65 (.of tt_f65) :=
  lab_ok mixed_ok (labs_cons rfl ok_f65_11 (labs_cons rfl ok_f65_10 (labs_cons rfl ok_f65_5 (labs_cons rfl ok_f65_4 labs_nil)))) 4000 (dn_f65 ) (sd_f65 )
noncomputable def D_f65 : Dyn X_f65 R_f65 := .of tt_f65
theorem ct_f65 (x : X_f65) (y : R_f65) (h : D_f65.rel x y) : OK Try.prog 65 [e_TApi_Program x] [] (V.tup (V.cons ((V.int .i64) y.1) (V.cons ((V.int .i64) y.2.1) (V.cons ((V.int .i64) y.2.2) (V.unit))))) [] :=
  contract (fn := Try.f65) (J := J_f65) (S := S_f65) (D := D_f65) (by kernel_rfl) (code := Try.f65.body.getD .skip) (by kernel_rfl) rfl st_f65 rfl (x := x) (y := y) h rfl rfl rfl rfl rfl (by kernel_rfl)
noncomputable def con_f65 : Con Try.prog where
  f := 65
  fn := Try.f65
  hf := by kernel_rfl
  hb := by kernel_rfl
  hn := by kernel_rfl
  X := X_f65
  Y := R_f65
  args := fun x => [e_TApi_Program x]
  objs := fun x => []
  res := fun y => V.tup (V.cons ((V.int .i64) y.1) (V.cons ((V.int .i64) y.2.1) (V.cons ((V.int .i64) y.2.2) (V.unit))))
  outs := fun y => []
  rel := D_f65.rel
  ev := D_f65.ev
  evOK := D_f65.evOK
  dec := fun l m => (d_TApi_Program (at_ l 0))
  ash := [sh_TApi_Program]
  osh := []
  ok := ct_f65

/-! check.Right -/
abbrev X_f51 : Type := TApi_Program
abbrev R_f51 : Type := Bool
noncomputable def J_f51 : Job Try.prog where
  fn := Try.f51
  nt := 14
  pol := tabN 0 [(1, 3), (6, 1), (12, 1)]
  hint := tabN [] []
  finH := []
  rsh := [.any]
  psh := []
  tab := [con_f65]
  R := R_f51
  enc := fun y => [V.bool y]
noncomputable def S_f51 : LabS where
  id := 0
  K := [.code (Try.f51.body.getD .skip)]
  lay := entryLay 1 0
  X := X_f51
  enc := fun x => [e_TApi_Program x]
  dec := fun l => (d_TApi_Program (at_ l 0))
noncomputable def tt_f51 (x : X_f51) : TT Try.prog R_f51 :=
 (.call con_f65 x fun (y1 : R_f65) =>
 (.ret (Go.Vm.ieq y1.snd.snd (0 : Int)))
 )
theorem sd_f51 (x : X_f51) : (tt_f51  x).Sides :=
  (TT.s_call fun _ => TT.s_ret)

theorem dn_f51 (x : X_f51) : J_f51.den [] S_f51 x 4000 = (tt_f51  x).tree J_f51.enc := by kernel_rfl
theorem st_f51  : LabOK J_f51 S_f51 (.of tt_f51) :=
  lab_ok mixed_ok labs_nil 4000 (dn_f51 ) (sd_f51 )
noncomputable def D_f51 : Dyn X_f51 R_f51 := .of tt_f51
theorem ct_f51 (x : X_f51) (y : R_f51) (h : D_f51.rel x y) : OK Try.prog 51 [e_TApi_Program x] [] (V.bool y) [] :=
  contract (fn := Try.f51) (J := J_f51) (S := S_f51) (D := D_f51) (by kernel_rfl) (code := Try.f51.body.getD .skip) (by kernel_rfl) rfl st_f51 rfl (x := x) (y := y) h rfl rfl rfl rfl rfl (by kernel_rfl)
noncomputable def con_f51 : Con Try.prog where
  f := 51
  fn := Try.f51
  hf := by kernel_rfl
  hb := by kernel_rfl
  hn := by kernel_rfl
  X := X_f51
  Y := R_f51
  args := fun x => [e_TApi_Program x]
  objs := fun x => []
  res := fun y => V.bool y
  outs := fun y => []
  rel := D_f51.rel
  ev := D_f51.ev
  evOK := D_f51.evOK
  dec := fun l m => (d_TApi_Program (at_ l 0))
  ash := [sh_TApi_Program]
  osh := []
  ok := ct_f51

/-! slices.Clone[[]api.Ring,api.Ring] -/
abbrev X_f66 : Type := (Sl TApi_Ring)
abbrev R_f66 : Type := (Sl TApi_Ring)
noncomputable def J_f66 : Job Try.prog where
  fn := Try.f66
  nt := 8
  pol := tabN 0 [(6, 1)]
  hint := tabN [] []
  finH := [.shut 2]
  rsh := [(.sl none 3 (e_TApi_Ring (d_TApi_Ring .undef)))]
  psh := []
  tab := []
  R := R_f66
  enc := fun y => [(eSl none 3 e_TApi_Ring) y]
noncomputable def S_f66 : LabS where
  id := 0
  K := [.code (Try.f66.body.getD .skip)]
  lay := entryLay 1 0
  X := X_f66
  enc := fun x => [(eSl none 3 e_TApi_Ring) x]
  dec := fun l => ((dSl d_TApi_Ring) (at_ l 0))
noncomputable def tt_f66 (x : X_f66) : TT Try.prog R_f66 :=
 (.ite x.nil
  (.ret (Go.Vm.Sl.mk true (0 : Nat) (fun _i1 => (TApi_Ring.mk (0 : Int) (0 : Int) (0 : Int)))))
  (.need (true && (Go.Vm.room ((0 : Nat) + x.n) (24 : Nat))) <|
  (.ret (Go.Vm.Sl.mk (cond (Nat.beq x.n (0 : Nat)) false false) ((0 : Nat) + x.n) (fun i1 => (TApi_Ring.mk (cond (Nat.blt i1 (0 : Nat)) (0 : Int) (x.get (i1 - (0 : Nat))).Kind) (cond (Nat.blt i1 (0 : Nat)) (0 : Int) (x.get (i1 - (0 : Nat))).Cap) (cond (Nat.blt i1 (0 : Nat)) (0 : Int) (x.get (i1 - (0 : Nat))).Readers)))))
  )
 )
theorem sd_f66 (x : X_f66) : (tt_f66  x).Sides :=
  (TT.s_ite TT.s_ret (TT.s_need TT.s_ret))

theorem dn_f66 (x : X_f66) : J_f66.den [] S_f66 x 4000 = (tt_f66  x).tree J_f66.enc := by kernel_rfl
theorem st_f66  : LabOK J_f66 S_f66 (.of tt_f66) :=
  lab_ok mixed_ok labs_nil 4000 (dn_f66 ) (sd_f66 )
noncomputable def D_f66 : Dyn X_f66 R_f66 := .of tt_f66
theorem ct_f66 (x : X_f66) (y : R_f66) (h : D_f66.rel x y) : OK Try.prog 66 [(eSl none 3 e_TApi_Ring) x] [] ((eSl none 3 e_TApi_Ring) y) [] :=
  contract (fn := Try.f66) (J := J_f66) (S := S_f66) (D := D_f66) (by kernel_rfl) (code := Try.f66.body.getD .skip) (by kernel_rfl) rfl st_f66 rfl (x := x) (y := y) h rfl rfl rfl rfl rfl (by kernel_rfl)
noncomputable def con_f66 : Con Try.prog where
  f := 66
  fn := Try.f66
  hf := by kernel_rfl
  hb := by kernel_rfl
  hn := by kernel_rfl
  X := X_f66
  Y := R_f66
  args := fun x => [(eSl none 3 e_TApi_Ring) x]
  objs := fun x => []
  res := fun y => (eSl none 3 e_TApi_Ring) y
  outs := fun y => []
  rel := D_f66.rel
  ev := D_f66.ev
  evOK := D_f66.evOK
  dec := fun l m => ((dSl d_TApi_Ring) (at_ l 0))
  ash := [(.sl none 3 (e_TApi_Ring (d_TApi_Ring .undef)))]
  osh := []
  ok := ct_f66

/-! slices.Clone[[]api.Instr,api.Instr] -/
abbrev X_f67 : Type := (Sl TApi_Instr)
abbrev R_f67 : Type := (Sl TApi_Instr)
noncomputable def J_f67 : Job Try.prog where
  fn := Try.f67
  nt := 8
  pol := tabN 0 [(6, 1)]
  hint := tabN [] []
  finH := [.shut 2]
  rsh := [(.sl none 6 (e_TApi_Instr (d_TApi_Instr .undef)))]
  psh := []
  tab := []
  R := R_f67
  enc := fun y => [(eSl none 6 e_TApi_Instr) y]
noncomputable def S_f67 : LabS where
  id := 0
  K := [.code (Try.f67.body.getD .skip)]
  lay := entryLay 1 0
  X := X_f67
  enc := fun x => [(eSl none 6 e_TApi_Instr) x]
  dec := fun l => ((dSl d_TApi_Instr) (at_ l 0))
noncomputable def tt_f67 (x : X_f67) : TT Try.prog R_f67 :=
 (.ite x.nil
  (.ret (Go.Vm.Sl.mk true (0 : Nat) (fun _i1 => (TApi_Instr.mk (0 : Int) (0 : Int) (0 : Int) (0 : Int) (0 : Int) (0 : Int)))))
  (.need (true && (Go.Vm.room ((0 : Nat) + x.n) (48 : Nat))) <|
  (.ret (Go.Vm.Sl.mk (cond (Nat.beq x.n (0 : Nat)) false false) ((0 : Nat) + x.n) (fun i1 => (TApi_Instr.mk (cond (Nat.blt i1 (0 : Nat)) (0 : Int) (x.get (i1 - (0 : Nat))).Op) (cond (Nat.blt i1 (0 : Nat)) (0 : Int) (x.get (i1 - (0 : Nat))).A) (cond (Nat.blt i1 (0 : Nat)) (0 : Int) (x.get (i1 - (0 : Nat))).B) (cond (Nat.blt i1 (0 : Nat)) (0 : Int) (x.get (i1 - (0 : Nat))).C) (cond (Nat.blt i1 (0 : Nat)) (0 : Int) (x.get (i1 - (0 : Nat))).D) (cond (Nat.blt i1 (0 : Nat)) (0 : Int) (x.get (i1 - (0 : Nat))).K)))))
  )
 )
theorem sd_f67 (x : X_f67) : (tt_f67  x).Sides :=
  (TT.s_ite TT.s_ret (TT.s_need TT.s_ret))

theorem dn_f67 (x : X_f67) : J_f67.den [] S_f67 x 4000 = (tt_f67  x).tree J_f67.enc := by kernel_rfl
theorem st_f67  : LabOK J_f67 S_f67 (.of tt_f67) :=
  lab_ok mixed_ok labs_nil 4000 (dn_f67 ) (sd_f67 )
noncomputable def D_f67 : Dyn X_f67 R_f67 := .of tt_f67
theorem ct_f67 (x : X_f67) (y : R_f67) (h : D_f67.rel x y) : OK Try.prog 67 [(eSl none 6 e_TApi_Instr) x] [] ((eSl none 6 e_TApi_Instr) y) [] :=
  contract (fn := Try.f67) (J := J_f67) (S := S_f67) (D := D_f67) (by kernel_rfl) (code := Try.f67.body.getD .skip) (by kernel_rfl) rfl st_f67 rfl (x := x) (y := y) h rfl rfl rfl rfl rfl (by kernel_rfl)
noncomputable def con_f67 : Con Try.prog where
  f := 67
  fn := Try.f67
  hf := by kernel_rfl
  hb := by kernel_rfl
  hn := by kernel_rfl
  X := X_f67
  Y := R_f67
  args := fun x => [(eSl none 6 e_TApi_Instr) x]
  objs := fun x => []
  res := fun y => (eSl none 6 e_TApi_Instr) y
  outs := fun y => []
  rel := D_f67.rel
  ev := D_f67.ev
  evOK := D_f67.evOK
  dec := fun l m => ((dSl d_TApi_Instr) (at_ l 0))
  ash := [(.sl none 6 (e_TApi_Instr (d_TApi_Instr .undef)))]
  osh := []
  ok := ct_f67

def e_TApi_Program_1 (x : TApi_Program) : V :=
  V.cons ((eSl none 3 e_TApi_Ring) x.Rings) (V.cons ((eSl (some 43) 1 (eSl none 6 e_TApi_Instr)) x.Threads) (V.unit))

def sh_TApi_Program_1 : Sh := (.cons (.sl none 3 (e_TApi_Ring (d_TApi_Ring .undef))) (.cons (.sl (some 43) 1 ((eSl none 6 e_TApi_Instr) ((dSl d_TApi_Instr) .undef))) .any))

/-! fabric.copied -/
abbrev X_f52 : Type := TApi_Program
abbrev R_f52 : Type := TApi_Program
noncomputable def J_f52 : Job Try.prog where
  fn := Try.f52
  nt := 26
  pol := tabN 0 [(1, 3), (13, 1), (18, 1), (19, 1)]
  hint := tabN [] []
  finH := []
  rsh := [sh_TApi_Program]
  psh := []
  tab := [con_f66, con_f67]
  R := R_f52
  enc := fun y => [e_TApi_Program y]
noncomputable def S_f52 : LabS where
  id := 0
  K := [.code (Try.f52.body.getD .skip)]
  lay := entryLay 1 0
  X := X_f52
  enc := fun x => [e_TApi_Program x]
  dec := fun l => (d_TApi_Program (at_ l 0))
structure X_f52_3 where
  q_11 : (Sl (Sl TApi_Instr))
  q_12 : Int
  q_13 : Int
  m_2 : TApi_Program
  m_3 : TApi_Program
noncomputable def S_f52_3 : LabS where
  id := 3
  K := (kAt 3 (Try.f52.body.getD .skip) []).getD []
  lay := { live := [(2, .any), (3, .any), (11, (.sl none 1 ((eSl none 6 e_TApi_Instr) ((dSl d_TApi_Instr) .undef)))), (12, .any), (13, .any)], pars := [], locs := [(.loc 2 0, sh_TApi_Program), (.loc 3 0, sh_TApi_Program_1)] }
  X := X_f52_3
  enc := fun x => [(V.ptr (.loc 2 0) []), (V.ptr (.loc 3 0) []), (eSl none 1 (eSl none 6 e_TApi_Instr)) x.q_11, (V.int .i64) x.q_12, (V.int .i64) x.q_13, e_TApi_Program x.m_2, e_TApi_Program_1 x.m_3]
  dec := fun l => ⟨(dSl (dSl d_TApi_Instr)) (at_ l 2), dI (at_ l 3), dI (at_ l 4), d_TApi_Program (at_ l 5), d_TApi_Program (at_ l 6)⟩
noncomputable def tt_f52_3 (D_f52_3 : Dyn X_f52_3 R_f52) (x : X_f52_3) : TT Try.prog R_f52 :=
 (.ite (Go.Vm.ilt x.q_13 x.q_12)
  (.need (Go.Vm.inb x.q_13 x.q_11.n) <|
  (.call con_f67 (x.q_11.get (Int.toNat x.q_13)) fun (y2 : R_f67) =>
  (.need (true && (Go.Vm.room (x.m_3.Threads.n + (1 : Nat)) (24 : Nat))) <|
  (.jump S_f52_3 D_f52_3 (X_f52_3.mk x.q_11 x.q_12 (Go.IntKind.wrap Go.IntKind.i64 (x.q_13 + (1 : Int))) x.m_2 (TApi_Program.mk x.m_3.Rings (Go.Vm.Sl.mk (cond (Nat.beq (1 : Nat) (0 : Nat)) x.m_3.Threads.nil false) (x.m_3.Threads.n + (1 : Nat)) (fun i3 => (Go.Vm.Sl.mk (cond (Nat.blt i3 x.m_3.Threads.n) (x.m_3.Threads.get i3).nil y2.nil) (cond (Nat.blt i3 x.m_3.Threads.n) (x.m_3.Threads.get i3).n y2.n) (fun i4 => (TApi_Instr.mk (cond (Nat.blt i3 x.m_3.Threads.n) ((x.m_3.Threads.get i3).get i4).Op (y2.get i4).Op) (cond (Nat.blt i3 x.m_3.Threads.n) ((x.m_3.Threads.get i3).get i4).A (y2.get i4).A) (cond (Nat.blt i3 x.m_3.Threads.n) ((x.m_3.Threads.get i3).get i4).B (y2.get i4).B) (cond (Nat.blt i3 x.m_3.Threads.n) ((x.m_3.Threads.get i3).get i4).C (y2.get i4).C) (cond (Nat.blt i3 x.m_3.Threads.n) ((x.m_3.Threads.get i3).get i4).D (y2.get i4).D) (cond (Nat.blt i3 x.m_3.Threads.n) ((x.m_3.Threads.get i3).get i4).K (y2.get i4).K)))))))))
  )
  )
  )
  (.ret x.m_3)
 )
theorem sd_f52_3 (D_f52_3 : Dyn X_f52_3 R_f52) (x : X_f52_3) : (tt_f52_3 D_f52_3 x).Sides :=
  (TT.s_ite (TT.s_need (TT.s_call fun _ => (TT.s_need TT.s_jump))) TT.s_ret)

theorem dn_f52_3 (D_f52_3 : Dyn X_f52_3 R_f52) (x : X_f52_3) : J_f52.den [⟨S_f52_3, D_f52_3⟩] S_f52_3 x 4000 = (tt_f52_3 D_f52_3 x).tree J_f52.enc := by kernel_rfl
theorem st_f52_3 (D_f52_3 : Dyn X_f52_3 R_f52) (h_3 : LabOK J_f52 S_f52_3 D_f52_3) : LabOK J_f52 S_f52_3 (.of (tt_f52_3 D_f52_3)) :=
  lab_ok mixed_ok (labs_cons rfl h_3 labs_nil) 4000 (dn_f52_3 D_f52_3) (sd_f52_3 D_f52_3)
noncomputable def D_f52_3 : Dyn X_f52_3 R_f52 := Dyn.loop (tt_f52_3 )
theorem ok_f52_3  : LabOK J_f52 S_f52_3 (D_f52_3 ) :=
  loop_ok fun D h => st_f52_3  D  h
noncomputable def tt_f52 (x : X_f52) : TT Try.prog R_f52 :=
 (.call con_f66 x.Rings fun (y1 : R_f66) =>
 (.jump S_f52_3 D_f52_3 (X_f52_3.mk x.Threads ((x.Threads.n : Nat) : Int) (0 : Int) (TApi_Program.mk (Go.Vm.Sl.mk true (0 : Nat) (fun _i2 => (TApi_Ring.mk (0 : Int) (0 : Int) (0 : Int)))) (Go.Vm.Sl.mk true (0 : Nat) (fun _i2 => (Go.Vm.Sl.mk true (0 : Nat) (fun _i3 => (TApi_Instr.mk (0 : Int) (0 : Int) (0 : Int) (0 : Int) (0 : Int) (0 : Int))))))) (TApi_Program.mk y1 (Go.Vm.Sl.mk true (0 : Nat) (fun _i2 => (Go.Vm.Sl.mk true (0 : Nat) (fun _i3 => (TApi_Instr.mk (0 : Int) (0 : Int) (0 : Int) (0 : Int) (0 : Int) (0 : Int)))))))))
 )
theorem sd_f52 (x : X_f52) : (tt_f52  x).Sides :=
  (TT.s_call fun _ => TT.s_jump)

theorem dn_f52 (x : X_f52) : J_f52.den [⟨S_f52_3, D_f52_3⟩] S_f52 x 4000 = (tt_f52  x).tree J_f52.enc := by kernel_rfl
theorem st_f52  : LabOK J_f52 S_f52 (.of tt_f52) :=
  lab_ok mixed_ok (labs_cons rfl ok_f52_3 labs_nil) 4000 (dn_f52 ) (sd_f52 )
noncomputable def D_f52 : Dyn X_f52 R_f52 := .of tt_f52
theorem ct_f52 (x : X_f52) (y : R_f52) (h : D_f52.rel x y) : OK Try.prog 52 [e_TApi_Program x] [] (e_TApi_Program y) [] :=
  contract (fn := Try.f52) (J := J_f52) (S := S_f52) (D := D_f52) (by kernel_rfl) (code := Try.f52.body.getD .skip) (by kernel_rfl) rfl st_f52 rfl (x := x) (y := y) h rfl rfl rfl rfl rfl (by kernel_rfl)
noncomputable def con_f52 : Con Try.prog where
  f := 52
  fn := Try.f52
  hf := by kernel_rfl
  hb := by kernel_rfl
  hn := by kernel_rfl
  X := X_f52
  Y := R_f52
  args := fun x => [e_TApi_Program x]
  objs := fun x => []
  res := fun y => e_TApi_Program y
  outs := fun y => []
  rel := D_f52.rel
  ev := D_f52.ev
  evOK := D_f52.evOK
  dec := fun l m => (d_TApi_Program (at_ l 0))
  ash := [sh_TApi_Program]
  osh := []
  ok := ct_f52

/-! slots.may -/
abbrev X_f78 : Type := Int × Int
abbrev R_f78 : Type := Bool
noncomputable def J_f78 : Job Try.prog where
  fn := Try.f78
  nt := 19
  pol := tabN 0 [(7, 1), (8, 1), (11, 1), (15, 1), (16, 1)]
  hint := tabN [] []
  finH := []
  rsh := [.any]
  psh := []
  tab := []
  R := R_f78
  enc := fun y => [V.bool y]
noncomputable def S_f78 : LabS where
  id := 0
  K := [.code (Try.f78.body.getD .skip)]
  lay := entryLay 2 0
  X := X_f78
  enc := fun x => [(V.int .i64) x.1, (V.int .i64) x.2]
  dec := fun l => (dI (at_ l 0), dI (at_ l 1))
noncomputable def tt_f78 (x : X_f78) : TT Try.prog R_f78 :=
 (.ite (Go.Vm.ile (1 : Int) x.fst)
  (.ite (Go.Vm.ile x.fst (64 : Int))
   (.ite (Go.Vm.ile (1 : Int) x.snd)
    (.ret (Go.Vm.ile x.snd (8 : Int)))
    (.ret false)
   )
   (.ret false)
  )
  (.ret false)
 )
theorem sd_f78 (x : X_f78) : (tt_f78  x).Sides :=
  (TT.s_ite (TT.s_ite (TT.s_ite TT.s_ret TT.s_ret) TT.s_ret) TT.s_ret)

theorem dn_f78 (x : X_f78) : J_f78.den [] S_f78 x 4000 = (tt_f78  x).tree J_f78.enc := by kernel_rfl
theorem st_f78  : LabOK J_f78 S_f78 (.of tt_f78) :=
  lab_ok mixed_ok labs_nil 4000 (dn_f78 ) (sd_f78 )
noncomputable def D_f78 : Dyn X_f78 R_f78 := .of tt_f78
theorem ct_f78 (x : X_f78) (y : R_f78) (h : D_f78.rel x y) : OK Try.prog 78 [(V.int .i64) x.1, (V.int .i64) x.2] [] (V.bool y) [] :=
  contract (fn := Try.f78) (J := J_f78) (S := S_f78) (D := D_f78) (by kernel_rfl) (code := Try.f78.body.getD .skip) (by kernel_rfl) rfl st_f78 rfl (x := x) (y := y) h rfl rfl rfl rfl rfl (by kernel_rfl)
noncomputable def con_f78 : Con Try.prog where
  f := 78
  fn := Try.f78
  hf := by kernel_rfl
  hb := by kernel_rfl
  hn := by kernel_rfl
  X := X_f78
  Y := R_f78
  args := fun x => [(V.int .i64) x.1, (V.int .i64) x.2]
  objs := fun x => []
  res := fun y => V.bool y
  outs := fun y => []
  rel := D_f78.rel
  ev := D_f78.ev
  evOK := D_f78.evOK
  dec := fun l m => (dI (at_ l 0), dI (at_ l 1))
  ash := [.any, .any]
  osh := []
  ok := ct_f78

/-! slots.free -/
abbrev X_f79 : Type := Int
abbrev R_f79 : Type := Int
noncomputable def J_f79 : Job Try.prog where
  fn := Try.f79
  nt := 5
  pol := tabN 0 [(3, 1)]
  hint := tabN [] []
  finH := []
  rsh := [.any]
  psh := []
  tab := []
  R := R_f79
  enc := fun y => [(V.int .u64) y]
noncomputable def S_f79 : LabS where
  id := 0
  K := [.code (Try.f79.body.getD .skip)]
  lay := entryLay 1 0
  X := X_f79
  enc := fun x => [(V.int .u64) x]
  dec := fun l => (dI (at_ l 0))
noncomputable def tt_f79 (x : X_f79) : TT Try.prog R_f79 :=
 (.ret (Go.IntKind.wrap Go.IntKind.u64 ((2 : Int) * x)))
theorem sd_f79 (x : X_f79) : (tt_f79  x).Sides :=
  TT.s_ret

theorem dn_f79 (x : X_f79) : J_f79.den [] S_f79 x 4000 = (tt_f79  x).tree J_f79.enc := by kernel_rfl
theorem st_f79  : LabOK J_f79 S_f79 (.of tt_f79) :=
  lab_ok mixed_ok labs_nil 4000 (dn_f79 ) (sd_f79 )
noncomputable def D_f79 : Dyn X_f79 R_f79 := .of tt_f79
theorem ct_f79 (x : X_f79) (y : R_f79) (h : D_f79.rel x y) : OK Try.prog 79 [(V.int .u64) x] [] ((V.int .u64) y) [] :=
  contract (fn := Try.f79) (J := J_f79) (S := S_f79) (D := D_f79) (by kernel_rfl) (code := Try.f79.body.getD .skip) (by kernel_rfl) rfl st_f79 rfl (x := x) (y := y) h rfl rfl rfl rfl rfl (by kernel_rfl)
noncomputable def con_f79 : Con Try.prog where
  f := 79
  fn := Try.f79
  hf := by kernel_rfl
  hb := by kernel_rfl
  hn := by kernel_rfl
  X := X_f79
  Y := R_f79
  args := fun x => [(V.int .u64) x]
  objs := fun x => []
  res := fun y => (V.int .u64) y
  outs := fun y => []
  rel := D_f79.rel
  ev := D_f79.ev
  evOK := D_f79.evOK
  dec := fun l m => (dI (at_ l 0))
  ash := [.any]
  osh := []
  ok := ct_f79

structure TSlots_Slots where
  l : (Sl TApi_Slot)
  readers : Int

def d_TSlots_Slots (v : V) : TSlots_Slots :=
  ⟨(dSl d_TApi_Slot) (fd v 0), dI (fd v 1)⟩

def e_TSlots_Slots (x : TSlots_Slots) : V :=
  V.cons ((eOsl 72 3 e_TApi_Slot) x.l) (V.cons ((V.int .i64) x.readers) (V.unit))

def sh_TSlots_Slots : Sh := (.cons (.osl 72 3 (e_TApi_Slot (d_TApi_Slot .undef))) .any)

/-! slots.New -/
abbrev X_f68 : Type := Int × Int
abbrev R_f68 : Type := (Bx TSlots_Slots) × Int
noncomputable def J_f68 : Job Try.prog where
  fn := Try.f68
  nt := 37
  pol := tabN 0 [(12, 1), (13, 1), (14, 1), (22, 1), (30, 1), (36, 1)]
  hint := tabN [] [(0, [.close (.loc 28 0), .close (.loc 20 0)]), (1, [.close (.loc 28 0), .close (.loc 20 0)]), (2, [.close (.loc 28 0), .close (.loc 20 0)]), (3, [.close (.loc 28 0), .close (.loc 20 0)]), (4, [.close (.loc 28 0), .close (.loc 20 0)]), (5, [.close (.loc 28 0), .close (.loc 20 0)]), (6, [.close (.loc 28 0), .close (.loc 20 0)]), (7, [.close (.loc 28 0), .close (.loc 20 0)]), (8, [.close (.loc 28 0), .close (.loc 20 0)]), (9, [.close (.loc 28 0), .close (.loc 20 0)])]
  finH := [.close (.loc 28 0), .close (.loc 20 0), .shut 4]
  rsh := [(.box (e_TSlots_Slots (d_TSlots_Slots .undef))), .any]
  psh := []
  tab := [con_f78, con_f79]
  R := R_f68
  enc := fun y => [V.tup (V.cons ((eBx e_TSlots_Slots) y.1) (V.cons ((V.int .i64) y.2) (V.unit)))]
noncomputable def S_f68 : LabS where
  id := 0
  K := [.code (Try.f68.body.getD .skip)]
  lay := entryLay 2 0
  X := X_f68
  enc := fun x => [(V.int .i64) x.1, (V.int .i64) x.2]
  dec := fun l => (dI (at_ l 0), dI (at_ l 1))
structure X_f68_5 where
  q_21 : Int
  q_22 : Int
  m_16 : TSlots_Slots
noncomputable def S_f68_5 : LabS where
  id := 5
  K := (kAt 5 (Try.f68.body.getD .skip) []).getD []
  lay := { live := [(6, .any), (21, .any), (22, .any)], pars := [], locs := [(.loc 16 0, sh_TSlots_Slots)] }
  X := X_f68_5
  enc := fun x => [(V.ptr (.loc 16 0) []), (V.int .i64) x.q_21, (V.int .i64) x.q_22, e_TSlots_Slots x.m_16]
  dec := fun l => ⟨dI (at_ l 1), dI (at_ l 2), d_TSlots_Slots (at_ l 3)⟩
noncomputable def tt_f68_5 (D_f68_5 : Dyn X_f68_5 R_f68) (x : X_f68_5) : TT Try.prog R_f68 :=
 (.ite (Go.Vm.ilt x.q_22 x.q_21)
  (.call con_f79 (Go.IntKind.wrap Go.IntKind.u64 x.q_22) fun (y2 : R_f79) =>
  (.need (Go.Vm.inb x.q_22 x.m_16.l.n) <|
  (.need ((Nat.beq x.m_16.l.n x.m_16.l.n) && true) <|
  (.need ((true && true) && (Nat.beq x.m_16.l.n x.m_16.l.n)) <|
  (.jump S_f68_5 D_f68_5 (X_f68_5.mk x.q_21 (Go.IntKind.wrap Go.IntKind.i64 (x.q_22 + (1 : Int))) (TSlots_Slots.mk (Go.Vm.Sl.mk x.m_16.l.nil x.m_16.l.n (fun i3 => (TApi_Slot.mk (cond (Nat.beq i3 ((0 : Nat) + (Int.toNat x.q_22))) y2 (x.m_16.l.get i3).Stamp) (cond (Nat.beq i3 ((0 : Nat) + (Int.toNat x.q_22))) (x.m_16.l.get ((0 : Nat) + (Int.toNat x.q_22))).Value (x.m_16.l.get i3).Value) (cond (Nat.beq i3 ((0 : Nat) + (Int.toNat x.q_22))) (x.m_16.l.get ((0 : Nat) + (Int.toNat x.q_22))).Left (x.m_16.l.get i3).Left)))) x.m_16.readers)))
  )
  )
  )
  )
  (.ret ((Go.Vm.Bx.mk false x.m_16), (0 : Int)))
 )
theorem sd_f68_5 (D_f68_5 : Dyn X_f68_5 R_f68) (x : X_f68_5) : (tt_f68_5 D_f68_5 x).Sides :=
  (TT.s_ite (TT.s_call fun _ => (TT.s_need (TT.s_need (TT.s_need TT.s_jump)))) TT.s_ret)

theorem dn_f68_5 (D_f68_5 : Dyn X_f68_5 R_f68) (x : X_f68_5) : J_f68.den [⟨S_f68_5, D_f68_5⟩] S_f68_5 x 4000 = (tt_f68_5 D_f68_5 x).tree J_f68.enc := by kernel_rfl
theorem st_f68_5 (D_f68_5 : Dyn X_f68_5 R_f68) (h_5 : LabOK J_f68 S_f68_5 D_f68_5) : LabOK J_f68 S_f68_5 (.of (tt_f68_5 D_f68_5)) :=
  lab_ok mixed_ok (labs_cons rfl h_5 labs_nil) 4000 (dn_f68_5 D_f68_5) (sd_f68_5 D_f68_5)
noncomputable def D_f68_5 : Dyn X_f68_5 R_f68 := Dyn.loop (tt_f68_5 )
theorem ok_f68_5  : LabOK J_f68 S_f68_5 (D_f68_5 ) :=
  loop_ok fun D h => st_f68_5  D  h
noncomputable def tt_f68 (x : X_f68) : TT Try.prog R_f68 :=
 (.call con_f78 x fun (y1 : R_f78) =>
 (.ite (!y1)
  (.ret ((Go.Vm.Bx.mk true (TSlots_Slots.mk (Go.Vm.Sl.mk true (0 : Nat) (fun _i2 => (TApi_Slot.mk (0 : Int) (0 : Int) (0 : Int)))) (0 : Int))), (1 : Int)))
  (.need ((((Go.Vm.upto x.fst (Int.toNat x.fst)) && (Go.Vm.ile (0 : Int) x.fst)) && (Go.Vm.room (Int.toNat x.fst) (24 : Nat))) && (decide ((x.fst ≤ (9223372036854775807 : Int))))) <|
  (.need ((true && true) && (Nat.beq (Int.toNat x.fst) (Int.toNat x.fst))) <|
  (.jump S_f68_5 D_f68_5 (X_f68_5.mk (((Int.toNat x.fst) : Nat) : Int) (0 : Int) (TSlots_Slots.mk (Go.Vm.Sl.mk false (Int.toNat x.fst) (fun _i2 => (TApi_Slot.mk (0 : Int) (0 : Int) (0 : Int)))) x.snd)))
  )
  )
 )
 )
theorem sd_f68 (x : X_f68) : (tt_f68  x).Sides :=
  (TT.s_call fun _ => (TT.s_ite TT.s_ret (TT.s_need (TT.s_need TT.s_jump))))

theorem dn_f68 (x : X_f68) : J_f68.den [⟨S_f68_5, D_f68_5⟩] S_f68 x 4000 = (tt_f68  x).tree J_f68.enc := by kernel_rfl
theorem st_f68  : LabOK J_f68 S_f68 (.of tt_f68) :=
  lab_ok mixed_ok (labs_cons rfl ok_f68_5 labs_nil) 4000 (dn_f68 ) (sd_f68 )
noncomputable def D_f68 : Dyn X_f68 R_f68 := .of tt_f68
theorem ct_f68 (x : X_f68) (y : R_f68) (h : D_f68.rel x y) : OK Try.prog 68 [(V.int .i64) x.1, (V.int .i64) x.2] [] (V.tup (V.cons ((eBx e_TSlots_Slots) y.1) (V.cons ((V.int .i64) y.2) (V.unit)))) [] :=
  contract (fn := Try.f68) (J := J_f68) (S := S_f68) (D := D_f68) (by kernel_rfl) (code := Try.f68.body.getD .skip) (by kernel_rfl) rfl st_f68 rfl (x := x) (y := y) h rfl rfl rfl rfl rfl (by kernel_rfl)
noncomputable def con_f68 : Con Try.prog where
  f := 68
  fn := Try.f68
  hf := by kernel_rfl
  hb := by kernel_rfl
  hn := by kernel_rfl
  X := X_f68
  Y := R_f68
  args := fun x => [(V.int .i64) x.1, (V.int .i64) x.2]
  objs := fun x => []
  res := fun y => V.tup (V.cons ((eBx e_TSlots_Slots) y.1) (V.cons ((V.int .i64) y.2) (V.unit)))
  outs := fun y => []
  rel := D_f68.rel
  ev := D_f68.ev
  evOK := D_f68.evOK
  dec := fun l m => (dI (at_ l 0), dI (at_ l 1))
  ash := [.any, .any]
  osh := []
  ok := ct_f68

/-! ring.may -/
abbrev X_f69 : Type := TApi_Ring
abbrev R_f69 : Type := Bool
noncomputable def J_f69 : Job Try.prog where
  fn := Try.f69
  nt := 12
  pol := tabN 0 [(1, 3)]
  hint := tabN [] []
  finH := []
  rsh := [.any]
  psh := []
  tab := []
  R := R_f69
  enc := fun y => [V.bool y]
noncomputable def S_f69 : LabS where
  id := 0
  K := [.code (Try.f69.body.getD .skip)]
  lay := entryLay 1 0
  X := X_f69
  enc := fun x => [e_TApi_Ring x]
  dec := fun l => (d_TApi_Ring (at_ l 0))
noncomputable def tt_f69 (x : X_f69) : TT Try.prog R_f69 :=
 (.ite (Go.Vm.ieq x.Kind (1 : Int))
  (.ret (Go.Vm.ieq x.Readers (1 : Int)))
  (.ite (Go.Vm.ieq x.Kind (2 : Int))
   (.ret true)
   (.ret false)
  )
 )
theorem sd_f69 (x : X_f69) : (tt_f69  x).Sides :=
  (TT.s_ite TT.s_ret (TT.s_ite TT.s_ret TT.s_ret))

theorem dn_f69 (x : X_f69) : J_f69.den [] S_f69 x 4000 = (tt_f69  x).tree J_f69.enc := by kernel_rfl
theorem st_f69  : LabOK J_f69 S_f69 (.of tt_f69) :=
  lab_ok mixed_ok labs_nil 4000 (dn_f69 ) (sd_f69 )
noncomputable def D_f69 : Dyn X_f69 R_f69 := .of tt_f69
theorem ct_f69 (x : X_f69) (y : R_f69) (h : D_f69.rel x y) : OK Try.prog 69 [e_TApi_Ring x] [] (V.bool y) [] :=
  contract (fn := Try.f69) (J := J_f69) (S := S_f69) (D := D_f69) (by kernel_rfl) (code := Try.f69.body.getD .skip) (by kernel_rfl) rfl st_f69 rfl (x := x) (y := y) h rfl rfl rfl rfl rfl (by kernel_rfl)
noncomputable def con_f69 : Con Try.prog where
  f := 69
  fn := Try.f69
  hf := by kernel_rfl
  hb := by kernel_rfl
  hn := by kernel_rfl
  X := X_f69
  Y := R_f69
  args := fun x => [e_TApi_Ring x]
  objs := fun x => []
  res := fun y => V.bool y
  outs := fun y => []
  rel := D_f69.rel
  ev := D_f69.ev
  evOK := D_f69.evOK
  dec := fun l m => (d_TApi_Ring (at_ l 0))
  ash := [.any]
  osh := []
  ok := ct_f69

structure TRing_cursors where
  tail : Int
  heads : (Sl Int)

def d_TRing_cursors (v : V) : TRing_cursors :=
  ⟨dI (fd v 0), (dSl dI) (fd v 1)⟩

def e_TRing_cursors (x : TRing_cursors) : V :=
  V.cons ((V.int .u64) x.tail) (V.cons ((eOsl 24 1 (V.int .u64)) x.heads) (V.unit))

def sh_TRing_cursors : Sh := (.cons .any (.cons (.osl 24 1 (V.int .u64 0)) .any))

structure TRing_Ring where
  cursors : TRing_cursors
  s : (Bx TSlots_Slots)
  most : Int
  closed : Bool

def d_TRing_Ring (v : V) : TRing_Ring :=
  ⟨d_TRing_cursors (fd v 0), (dBx d_TSlots_Slots) (fd v 1), dI (fd v 2), dB (fd v 3)⟩

def e_TRing_Ring (x : TRing_Ring) : V :=
  V.cons (e_TRing_cursors x.cursors) (V.cons ((eBx e_TSlots_Slots) x.s) (V.cons ((V.int .u64) x.most) (V.cons (V.bool x.closed) (V.unit))))

def sh_TRing_Ring : Sh := (.cons sh_TRing_cursors (.cons (.box (e_TSlots_Slots (d_TSlots_Slots .undef))) .any))

/-! ring.New -/
abbrev X_f53 : Type := TApi_Ring
abbrev R_f53 : Type := (Bx TRing_Ring) × Int
noncomputable def J_f53 : Job Try.prog where
  fn := Try.f53
  nt := 31
  pol := tabN 0 [(1, 3), (6, 1), (14, 1), (16, 1), (23, 1), (25, 1)]
  hint := tabN [] []
  finH := [.shut 2]
  rsh := [(.box (e_TRing_Ring (d_TRing_Ring .undef))), .any]
  psh := []
  tab := [con_f68, con_f69]
  R := R_f53
  enc := fun y => [V.tup (V.cons ((eBx e_TRing_Ring) y.1) (V.cons ((V.int .i64) y.2) (V.unit)))]
noncomputable def S_f53 : LabS where
  id := 0
  K := [.code (Try.f53.body.getD .skip)]
  lay := entryLay 1 0
  X := X_f53
  enc := fun x => [e_TApi_Ring x]
  dec := fun l => (d_TApi_Ring (at_ l 0))
structure X_f53_4 where
  r_1 : TApi_Ring
  s_4 : (Bx TSlots_Slots)
noncomputable def S_f53_4 : LabS where
  id := 4
  K := (kAt 4 (Try.f53.body.getD .skip) []).getD []
  lay := { live := [(1, .any), (4, (.box (e_TSlots_Slots (d_TSlots_Slots .undef))))], pars := [], locs := [] }
  X := X_f53_4
  enc := fun x => [(eVp e_TApi_Ring) x.r_1, (eBx e_TSlots_Slots) x.s_4]
  dec := fun l => ⟨(dVp d_TApi_Ring) (at_ l 0), (dBx d_TSlots_Slots) (at_ l 1)⟩
noncomputable def tt_f53_4 (x : X_f53_4) : TT Try.prog R_f53 :=
 (.need ((((Go.Vm.upto x.r_1.Readers (Int.toNat x.r_1.Readers)) && (Go.Vm.ile (0 : Int) x.r_1.Readers)) && (Go.Vm.room (Int.toNat x.r_1.Readers) (8 : Nat))) && (decide ((x.r_1.Readers ≤ (9223372036854775807 : Int))))) <|
 (.ret ((Go.Vm.Bx.mk false (TRing_Ring.mk (TRing_cursors.mk (0 : Int) (Go.Vm.Sl.mk false (Int.toNat x.r_1.Readers) (fun _i1 => (0 : Int)))) x.s_4 (Go.IntKind.wrap Go.IntKind.u64 x.r_1.Cap) false)), (0 : Int)))
 )
theorem sd_f53_4 (x : X_f53_4) : (tt_f53_4  x).Sides :=
  (TT.s_need TT.s_ret)

theorem dn_f53_4 (x : X_f53_4) : J_f53.den [] S_f53_4 x 4000 = (tt_f53_4  x).tree J_f53.enc := by kernel_rfl
theorem st_f53_4  : LabOK J_f53 S_f53_4 (.of tt_f53_4) :=
  lab_ok mixed_ok labs_nil 4000 (dn_f53_4 ) (sd_f53_4 )
noncomputable def D_f53_4 : Dyn X_f53_4 R_f53 := .of (tt_f53_4 )
theorem ok_f53_4  : LabOK J_f53 S_f53_4 (D_f53_4 ) :=
  st_f53_4  
noncomputable def tt_f53 (x : X_f53) : TT Try.prog R_f53 :=
 (.call con_f68 (x.Cap, x.Readers) fun (y1 : R_f68) =>
 (.ite (!(Go.Vm.ieq y1.snd (0 : Int)))
  (.ret ((Go.Vm.Bx.mk true (TRing_Ring.mk (TRing_cursors.mk (0 : Int) (Go.Vm.Sl.mk true (0 : Nat) (fun _i2 => (0 : Int)))) (Go.Vm.Bx.mk true (TSlots_Slots.mk (Go.Vm.Sl.mk true (0 : Nat) (fun _i2 => (TApi_Slot.mk (0 : Int) (0 : Int) (0 : Int)))) (0 : Int))) (0 : Int) false)), (1 : Int)))
  (.call con_f69 x fun (y2 : R_f69) =>
  (.ite (!y2)
   (.ret ((Go.Vm.Bx.mk true (TRing_Ring.mk (TRing_cursors.mk (0 : Int) (Go.Vm.Sl.mk true (0 : Nat) (fun _i3 => (0 : Int)))) (Go.Vm.Bx.mk true (TSlots_Slots.mk (Go.Vm.Sl.mk true (0 : Nat) (fun _i3 => (TApi_Slot.mk (0 : Int) (0 : Int) (0 : Int)))) (0 : Int))) (0 : Int) false)), (1 : Int)))
   (.jump S_f53_4 D_f53_4 (X_f53_4.mk x y1.fst))
  )
  )
 )
 )
theorem sd_f53 (x : X_f53) : (tt_f53  x).Sides :=
  (TT.s_call fun _ => (TT.s_ite TT.s_ret (TT.s_call fun _ => (TT.s_ite TT.s_ret TT.s_jump))))

theorem dn_f53 (x : X_f53) : J_f53.den [⟨S_f53_4, D_f53_4⟩] S_f53 x 4000 = (tt_f53  x).tree J_f53.enc := by kernel_rfl
theorem st_f53  : LabOK J_f53 S_f53 (.of tt_f53) :=
  lab_ok mixed_ok (labs_cons rfl ok_f53_4 labs_nil) 4000 (dn_f53 ) (sd_f53 )
noncomputable def D_f53 : Dyn X_f53 R_f53 := .of tt_f53
theorem ct_f53 (x : X_f53) (y : R_f53) (h : D_f53.rel x y) : OK Try.prog 53 [e_TApi_Ring x] [] (V.tup (V.cons ((eBx e_TRing_Ring) y.1) (V.cons ((V.int .i64) y.2) (V.unit)))) [] :=
  contract (fn := Try.f53) (J := J_f53) (S := S_f53) (D := D_f53) (by kernel_rfl) (code := Try.f53.body.getD .skip) (by kernel_rfl) rfl st_f53 rfl (x := x) (y := y) h rfl rfl rfl rfl rfl (by kernel_rfl)
noncomputable def con_f53 : Con Try.prog where
  f := 53
  fn := Try.f53
  hf := by kernel_rfl
  hb := by kernel_rfl
  hn := by kernel_rfl
  X := X_f53
  Y := R_f53
  args := fun x => [e_TApi_Ring x]
  objs := fun x => []
  res := fun y => V.tup (V.cons ((eBx e_TRing_Ring) y.1) (V.cons ((V.int .i64) y.2) (V.unit)))
  outs := fun y => []
  rel := D_f53.rel
  ev := D_f53.ev
  evOK := D_f53.evOK
  dec := fun l m => (d_TApi_Ring (at_ l 0))
  ash := [.any]
  osh := []
  ok := ct_f53

structure TFabric_Fabric where
  p : TApi_Program
  threads : (Sl TApi_ThreadState)
  rings : (Sl (Bx TRing_Ring))
  now : Int
  reads : Int
  ended : Bool

def d_TFabric_Fabric (v : V) : TFabric_Fabric :=
  ⟨d_TApi_Program (fd v 0), (dSl d_TApi_ThreadState) (fd v 1), (dSl (dBx d_TRing_Ring)) (fd v 2), dI (fd v 3), dI (fd v 4), dB (fd v 5)⟩

def e_TFabric_Fabric (x : TFabric_Fabric) : V :=
  V.cons (e_TApi_Program x.p) (V.cons ((eOsl 40 14 e_TApi_ThreadState) x.threads) (V.cons ((eOsl 107 1 (eBx e_TRing_Ring)) x.rings) (V.cons ((V.int .u64) x.now) (V.cons ((V.int .u64) x.reads) (V.cons (V.bool x.ended) (V.unit))))))

def sh_TFabric_Fabric : Sh := (.cons sh_TApi_Program (.cons (.osl 40 14 (e_TApi_ThreadState (d_TApi_ThreadState .undef))) (.cons (.osl 107 1 ((eBx e_TRing_Ring) ((dBx d_TRing_Ring) .undef))) .any)))

def e_TFabric_Fabric_2 (x : TFabric_Fabric) : V :=
  V.cons (e_TApi_Program x.p) (V.cons ((eOsl 40 14 e_TApi_ThreadState) x.threads) (V.cons ((eOsl 107 1 (eBx e_TRing_Ring)) x.rings) (V.cons ((V.int .u64) x.now) (V.cons ((V.int .u64) x.reads) (V.cons (V.bool x.ended) (V.unit))))))

def sh_TFabric_Fabric_2 : Sh := (.cons sh_TApi_Program (.cons (.osl 40 14 (e_TApi_ThreadState (d_TApi_ThreadState .undef))) (.cons (.osl 107 1 ((eBx e_TRing_Ring) ((dBx d_TRing_Ring) .undef))) .any)))
end Go.Proofs.Ytiplcdhnjennfaa
