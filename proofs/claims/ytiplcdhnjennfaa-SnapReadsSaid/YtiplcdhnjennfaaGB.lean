/- What functions of the program come to, part B: no statement is proved here. -/
import Derived.Test.YtiplcdhnjennfaaGA
namespace Go.Proofs.Ytiplcdhnjennfaa
open Go Go.Vm Go.Proofs
set_option maxRecDepth 100000
/-! fabric.New -/
abbrev X_f36 : Type := TApi_Program
abbrev R_f36 : Type := (Bx TFabric_Fabric) × Int
noncomputable def J_f36 : Job Try.prog where
  fn := Try.f36
  nt := 44
  pol := tabN 0 [(1, 3), (17, 1), (23, 1), (27, 1), (36, 1), (37, 1), (38, 1), (43, 1)]
  hint := tabN [] []
  finH := [.shut 2]
  rsh := [(.box (e_TFabric_Fabric (d_TFabric_Fabric .undef))), .any]
  psh := []
  tab := [con_f51, con_f52, con_f53]
  R := R_f36
  enc := fun y => [V.tup (V.cons ((eBx e_TFabric_Fabric) y.1) (V.cons ((V.int .i64) y.2) (V.unit)))]
noncomputable def S_f36 : LabS where
  id := 0
  K := [.code (Try.f36.body.getD .skip)]
  lay := entryLay 1 0
  X := X_f36
  enc := fun x => [e_TApi_Program x]
  dec := fun l => (d_TApi_Program (at_ l 0))
structure X_f36_5 where
  q_21 : (Sl TApi_Ring)
  q_22 : Int
  q_23 : Int
  m_19 : TFabric_Fabric
noncomputable def S_f36_5 : LabS where
  id := 5
  K := (kAt 5 (Try.f36.body.getD .skip) []).getD []
  lay := { live := [(4, .any), (21, (.sl none 3 (e_TApi_Ring (d_TApi_Ring .undef)))), (22, .any), (23, .any)], pars := [], locs := [(.loc 19 0, sh_TFabric_Fabric_2)] }
  X := X_f36_5
  enc := fun x => [(V.ptr (.loc 19 0) []), (eSl none 3 e_TApi_Ring) x.q_21, (V.int .i64) x.q_22, (V.int .i64) x.q_23, e_TFabric_Fabric_2 x.m_19]
  dec := fun l => ⟨(dSl d_TApi_Ring) (at_ l 1), dI (at_ l 2), dI (at_ l 3), d_TFabric_Fabric (at_ l 4)⟩
noncomputable def tt_f36_5 (_D_f36_5 : Dyn X_f36_5 R_f36) (x : X_f36_5) : TT Try.prog R_f36 :=
 (.ite (Go.Vm.ilt x.q_23 x.q_22)
  (.need (Go.Vm.inb x.q_23 x.q_21.n) <|
  (.call con_f53 (x.q_21.get (Int.toNat x.q_23)) fun (_y2 : R_f53) =>
  (.need (true && (Go.Vm.room (x.m_19.rings.n + (1 : Nat)) (8 : Nat))) <|
  .fail
  )
  )
  )
  (.ret ((Go.Vm.Bx.mk false (TFabric_Fabric.mk x.m_19.p x.m_19.threads x.m_19.rings x.m_19.now x.m_19.reads x.m_19.ended)), (0 : Int)))
 )
theorem sd_f36_5 (D_f36_5 : Dyn X_f36_5 R_f36) (x : X_f36_5) : (tt_f36_5 D_f36_5 x).Sides :=
  (TT.s_ite (TT.s_need (TT.s_call fun _ => (TT.s_need TT.s_fail))) TT.s_ret)

theorem dn_f36_5 (D_f36_5 : Dyn X_f36_5 R_f36) (x : X_f36_5) : J_f36.den [⟨S_f36_5, D_f36_5⟩] S_f36_5 x 4000 = (tt_f36_5 D_f36_5 x).tree J_f36.enc := by kernel_rfl
theorem st_f36_5 (D_f36_5 : Dyn X_f36_5 R_f36) (h_5 : LabOK J_f36 S_f36_5 D_f36_5) : LabOK J_f36 S_f36_5 (.of (tt_f36_5 D_f36_5)) :=
  lab_ok mixed_ok (labs_cons rfl h_5 labs_nil) 4000 (dn_f36_5 D_f36_5) (sd_f36_5 D_f36_5)
noncomputable def D_f36_5 : Dyn X_f36_5 R_f36 := Dyn.loop (tt_f36_5 )
theorem ok_f36_5  : LabOK J_f36 S_f36_5 (D_f36_5 ) :=
  loop_ok fun D h => st_f36_5  D  h
noncomputable def tt_f36 (x : X_f36) : TT Try.prog R_f36 :=
 (.call con_f51 x fun (y1 : R_f51) =>
 (.ite (!y1)
  (.ret ((Go.Vm.Bx.mk true (TFabric_Fabric.mk (TApi_Program.mk (Go.Vm.Sl.mk true (0 : Nat) (fun _i2 => (TApi_Ring.mk (0 : Int) (0 : Int) (0 : Int)))) (Go.Vm.Sl.mk true (0 : Nat) (fun _i2 => (Go.Vm.Sl.mk true (0 : Nat) (fun _i3 => (TApi_Instr.mk (0 : Int) (0 : Int) (0 : Int) (0 : Int) (0 : Int) (0 : Int))))))) (Go.Vm.Sl.mk true (0 : Nat) (fun _i2 => (TApi_ThreadState.mk (0 : Int) (0 : Int) (0 : Int) (0 : Int) (0 : Int) (fun _i3 => (0 : Int)) (Go.Vm.Sl.mk true (0 : Nat) (fun _i3 => (0 : Int)))))) (Go.Vm.Sl.mk true (0 : Nat) (fun _i2 => (Go.Vm.Bx.mk true (TRing_Ring.mk (TRing_cursors.mk (0 : Int) (Go.Vm.Sl.mk true (0 : Nat) (fun _i3 => (0 : Int)))) (Go.Vm.Bx.mk true (TSlots_Slots.mk (Go.Vm.Sl.mk true (0 : Nat) (fun _i3 => (TApi_Slot.mk (0 : Int) (0 : Int) (0 : Int)))) (0 : Int))) (0 : Int) false)))) (0 : Int) (0 : Int) false)), (1 : Int)))
  (.call con_f52 x fun (y2 : R_f52) =>
  (.need ((((Go.Vm.upto ((x.Threads.n : Nat) : Int) (Int.toNat ((x.Threads.n : Nat) : Int))) && (Go.Vm.ile (0 : Int) ((x.Threads.n : Nat) : Int))) && (Go.Vm.room (Int.toNat ((x.Threads.n : Nat) : Int)) (128 : Nat))) && (decide ((((x.Threads.n : Nat) : Int) ≤ (9223372036854775807 : Int))))) <|
  (.jump S_f36_5 D_f36_5 (X_f36_5.mk x.Rings ((x.Rings.n : Nat) : Int) (0 : Int) (TFabric_Fabric.mk y2 (Go.Vm.Sl.mk false (Int.toNat ((x.Threads.n : Nat) : Int)) (fun _i3 => (TApi_ThreadState.mk (0 : Int) (0 : Int) (0 : Int) (0 : Int) (0 : Int) (fun _i4 => (0 : Int)) (Go.Vm.Sl.mk true (0 : Nat) (fun _i4 => (0 : Int)))))) (Go.Vm.Sl.mk true (0 : Nat) (fun _i3 => (Go.Vm.Bx.mk true (TRing_Ring.mk (TRing_cursors.mk (0 : Int) (Go.Vm.Sl.mk true (0 : Nat) (fun _i4 => (0 : Int)))) (Go.Vm.Bx.mk true (TSlots_Slots.mk (Go.Vm.Sl.mk true (0 : Nat) (fun _i4 => (TApi_Slot.mk (0 : Int) (0 : Int) (0 : Int)))) (0 : Int))) (0 : Int) false)))) (0 : Int) (0 : Int) false)))
  )
  )
 )
 )
theorem sd_f36 (x : X_f36) : (tt_f36  x).Sides :=
  (TT.s_call fun _ => (TT.s_ite TT.s_ret (TT.s_call fun _ => (TT.s_need TT.s_jump))))

theorem dn_f36 (x : X_f36) : J_f36.den [⟨S_f36_5, D_f36_5⟩] S_f36 x 4000 = (tt_f36  x).tree J_f36.enc := by kernel_rfl
theorem st_f36  : LabOK J_f36 S_f36 (.of tt_f36) :=
  lab_ok mixed_ok (labs_cons rfl ok_f36_5 labs_nil) 4000 (dn_f36 ) (sd_f36 )
noncomputable def D_f36 : Dyn X_f36 R_f36 := .of tt_f36
theorem ct_f36 (x : X_f36) (y : R_f36) (h : D_f36.rel x y) : OK Try.prog 36 [e_TApi_Program x] [] (V.tup (V.cons ((eBx e_TFabric_Fabric) y.1) (V.cons ((V.int .i64) y.2) (V.unit)))) [] :=
  contract (fn := Try.f36) (J := J_f36) (S := S_f36) (D := D_f36) (by kernel_rfl) (code := Try.f36.body.getD .skip) (by kernel_rfl) rfl st_f36 rfl (x := x) (y := y) h rfl rfl rfl rfl rfl (by kernel_rfl)
noncomputable def con_f36 : Con Try.prog where
  f := 36
  fn := Try.f36
  hf := by kernel_rfl
  hb := by kernel_rfl
  hn := by kernel_rfl
  X := X_f36
  Y := R_f36
  args := fun x => [e_TApi_Program x]
  objs := fun x => []
  res := fun y => V.tup (V.cons ((eBx e_TFabric_Fabric) y.1) (V.cons ((V.int .i64) y.2) (V.unit)))
  outs := fun y => []
  rel := D_f36.rel
  ev := D_f36.ev
  evOK := D_f36.evOK
  dec := fun l m => (d_TApi_Program (at_ l 0))
  ash := [sh_TApi_Program]
  osh := []
  ok := ct_f36

/-! slots.right -/
abbrev X_f80 : Type := Int × Int × Int × TApi_Slot
abbrev R_f80 : Type := Bool
noncomputable def J_f80 : Job Try.prog where
  fn := Try.f80
  nt := 45
  pol := tabN 0 [(7, 3), (12, 1), (16, 1), (19, 1), (30, 1), (38, 1), (41, 1)]
  hint := tabN [] []
  finH := []
  rsh := [.any]
  psh := []
  tab := []
  R := R_f80
  enc := fun y => [V.bool y]
noncomputable def S_f80 : LabS where
  id := 0
  K := [.code (Try.f80.body.getD .skip)]
  lay := entryLay 4 0
  X := X_f80
  enc := fun x => [(V.int .i64) x.1, (V.int .i64) x.2.1, (V.int .i64) x.2.2.1, e_TApi_Slot x.2.2.2]
  dec := fun l => (dI (at_ l 0), dI (at_ l 1), dI (at_ l 2), d_TApi_Slot (at_ l 3))
structure X_f80_3 where
  readers_2 : Int
  x_7 : TApi_Slot
noncomputable def S_f80_3 : LabS where
  id := 3
  K := (kAt 3 (Try.f80.body.getD .skip) []).getD []
  lay := { live := [(2, .any), (7, .any)], pars := [], locs := [] }
  X := X_f80_3
  enc := fun x => [(V.int .i64) x.readers_2, (eVp e_TApi_Slot) x.x_7]
  dec := fun l => ⟨dI (at_ l 0), (dVp d_TApi_Slot) (at_ l 1)⟩
noncomputable def tt_f80_3 (x : X_f80_3) : TT Try.prog R_f80 :=
 (.ite (Go.Vm.ieq (Int.tmod x.x_7.Stamp (2 : Int)) (0 : Int))
  (.ite (Go.Vm.ieq x.x_7.Value (0 : Int))
   (.ret (Go.Vm.ieq x.x_7.Left (0 : Int)))
   (.ret false)
  )
  (.ite (Go.Vm.ile (1 : Int) x.x_7.Left)
   (.need (Go.Vm.ile (0 : Int) x.readers_2) <|
   (.ret (Go.Vm.ilt x.x_7.Left (Go.Vm.shl Go.IntKind.i64 (1 : Int) x.readers_2)))
   )
   (.ret false)
  )
 )
theorem sd_f80_3 (x : X_f80_3) : (tt_f80_3  x).Sides :=
  (TT.s_ite (TT.s_ite TT.s_ret TT.s_ret) (TT.s_ite (TT.s_need TT.s_ret) TT.s_ret))

theorem dn_f80_3 (x : X_f80_3) : J_f80.den [] S_f80_3 x 4000 = (tt_f80_3  x).tree J_f80.enc := by kernel_rfl
theorem st_f80_3  : LabOK J_f80 S_f80_3 (.of tt_f80_3) :=
  lab_ok mixed_ok labs_nil 4000 (dn_f80_3 ) (sd_f80_3 )
noncomputable def D_f80_3 : Dyn X_f80_3 R_f80 := .of (tt_f80_3 )
theorem ok_f80_3  : LabOK J_f80 S_f80_3 (D_f80_3 ) :=
  st_f80_3  
noncomputable def tt_f80 (x : X_f80) : TT Try.prog R_f80 :=
 (.ite (Go.Vm.ile (9223372036854775808 : Int) x.snd.snd.snd.Stamp)
  (.ret false)
  (.need (!(Go.Vm.ieq (Go.IntKind.wrap Go.IntKind.u64 x.snd.fst) (0 : Int))) <|
  (.ite (!(Go.Vm.ieq (Int.tmod (Go.IntKind.wrap Go.IntKind.u64 (Int.tdiv x.snd.snd.snd.Stamp (2 : Int))) (Go.IntKind.wrap Go.IntKind.u64 x.snd.fst)) (Go.IntKind.wrap Go.IntKind.u64 x.fst)))
   (.ret false)
   (.jump S_f80_3 D_f80_3 (X_f80_3.mk x.snd.snd.fst x.snd.snd.snd))
  )
  )
 )
theorem sd_f80 (x : X_f80) : (tt_f80  x).Sides :=
  (TT.s_ite TT.s_ret (TT.s_need (TT.s_ite TT.s_ret TT.s_jump)))

theorem dn_f80 (x : X_f80) : J_f80.den [⟨S_f80_3, D_f80_3⟩] S_f80 x 4000 = (tt_f80  x).tree J_f80.enc := by kernel_rfl
theorem st_f80  : LabOK J_f80 S_f80 (.of tt_f80) :=
  lab_ok mixed_ok (labs_cons rfl ok_f80_3 labs_nil) 4000 (dn_f80 ) (sd_f80 )
noncomputable def D_f80 : Dyn X_f80 R_f80 := .of tt_f80
theorem ct_f80 (x : X_f80) (y : R_f80) (h : D_f80.rel x y) : OK Try.prog 80 [(V.int .i64) x.1, (V.int .i64) x.2.1, (V.int .i64) x.2.2.1, e_TApi_Slot x.2.2.2] [] (V.bool y) [] :=
  contract (fn := Try.f80) (J := J_f80) (S := S_f80) (D := D_f80) (by kernel_rfl) (code := Try.f80.body.getD .skip) (by kernel_rfl) rfl st_f80 rfl (x := x) (y := y) h rfl rfl rfl rfl rfl (by kernel_rfl)
noncomputable def con_f80 : Con Try.prog where
  f := 80
  fn := Try.f80
  hf := by kernel_rfl
  hb := by kernel_rfl
  hn := by kernel_rfl
  X := X_f80
  Y := R_f80
  args := fun x => [(V.int .i64) x.1, (V.int .i64) x.2.1, (V.int .i64) x.2.2.1, e_TApi_Slot x.2.2.2]
  objs := fun x => []
  res := fun y => V.bool y
  outs := fun y => []
  rel := D_f80.rel
  ev := D_f80.ev
  evOK := D_f80.evOK
  dec := fun l m => (dI (at_ l 0), dI (at_ l 1), dI (at_ l 2), d_TApi_Slot (at_ l 3))
  ash := [.any, .any, .any, .any]
  osh := []
  ok := ct_f80

/-! slices.Clone[[]api.Slot,api.Slot] (f81v0) -/
abbrev X_f81v0 : Type := (Sl TApi_Slot)
abbrev R_f81v0 : Type := (Sl TApi_Slot)
noncomputable def J_f81v0 : Job Try.prog where
  fn := Try.f81
  nt := 8
  pol := tabN 0 [(5, 1), (6, 1)]
  hint := tabN [] []
  finH := [.shut 2]
  rsh := [(.osl 72 3 (e_TApi_Slot (d_TApi_Slot .undef)))]
  psh := []
  tab := []
  R := R_f81v0
  enc := fun y => [(eOsl 72 3 e_TApi_Slot) y]
noncomputable def S_f81v0 : LabS where
  id := 0
  K := [.code (Try.f81.body.getD .skip)]
  lay := entryLay 1 0
  X := X_f81v0
  enc := fun x => [(eSl none 3 e_TApi_Slot) x]
  dec := fun l => ((dSl d_TApi_Slot) (at_ l 0))
noncomputable def tt_f81v0 (x : X_f81v0) : TT Try.prog R_f81v0 :=
 (.ite x.nil
  (.ret (Go.Vm.Sl.mk true (0 : Nat) (fun _i1 => (TApi_Slot.mk (0 : Int) (0 : Int) (0 : Int)))))
  (.need (true && (Go.Vm.room ((0 : Nat) + x.n) (24 : Nat))) <|
  (.ret (Go.Vm.Sl.mk (cond (Nat.beq x.n (0 : Nat)) false false) ((0 : Nat) + x.n) (fun i1 => (TApi_Slot.mk (cond (Nat.blt i1 (0 : Nat)) (0 : Int) (x.get (i1 - (0 : Nat))).Stamp) (cond (Nat.blt i1 (0 : Nat)) (0 : Int) (x.get (i1 - (0 : Nat))).Value) (cond (Nat.blt i1 (0 : Nat)) (0 : Int) (x.get (i1 - (0 : Nat))).Left)))))
  )
 )
theorem sd_f81v0 (x : X_f81v0) : (tt_f81v0  x).Sides :=
  (TT.s_ite TT.s_ret (TT.s_need TT.s_ret))

theorem dn_f81v0 (x : X_f81v0) : J_f81v0.den [] S_f81v0 x 4000 = (tt_f81v0  x).tree J_f81v0.enc := by kernel_rfl
theorem st_f81v0  : LabOK J_f81v0 S_f81v0 (.of tt_f81v0) :=
  lab_ok mixed_ok labs_nil 4000 (dn_f81v0 ) (sd_f81v0 )
noncomputable def D_f81v0 : Dyn X_f81v0 R_f81v0 := .of tt_f81v0
theorem ct_f81v0 (x : X_f81v0) (y : R_f81v0) (h : D_f81v0.rel x y) : OK Try.prog 81 [(eSl none 3 e_TApi_Slot) x] [] ((eOsl 72 3 e_TApi_Slot) y) [] :=
  contract (fn := Try.f81) (J := J_f81v0) (S := S_f81v0) (D := D_f81v0) (by kernel_rfl) (code := Try.f81.body.getD .skip) (by kernel_rfl) rfl st_f81v0 rfl (x := x) (y := y) h rfl rfl rfl rfl rfl (by kernel_rfl)
noncomputable def con_f81v0 : Con Try.prog where
  f := 81
  fn := Try.f81
  hf := by kernel_rfl
  hb := by kernel_rfl
  hn := by kernel_rfl
  X := X_f81v0
  Y := R_f81v0
  args := fun x => [(eSl none 3 e_TApi_Slot) x]
  objs := fun x => []
  res := fun y => (eOsl 72 3 e_TApi_Slot) y
  outs := fun y => []
  rel := D_f81v0.rel
  ev := D_f81v0.ev
  evOK := D_f81v0.evOK
  dec := fun l m => ((dSl d_TApi_Slot) (at_ l 0))
  ash := [(.sl none 3 (e_TApi_Slot (d_TApi_Slot .undef)))]
  osh := []
  ok := ct_f81v0

/-! slots.Load -/
abbrev X_f70 : Type := Int × Int × (Sl TApi_Slot)
abbrev R_f70 : Type := (Bx TSlots_Slots) × Int
noncomputable def J_f70 : Job Try.prog where
  fn := Try.f70
  nt := 37
  pol := tabN 0 [(20, 1), (25, 1), (32, 1), (34, 1)]
  hint := tabN [] []
  finH := [.shut 6]
  rsh := [(.box (e_TSlots_Slots (d_TSlots_Slots .undef))), .any]
  psh := []
  tab := [con_f78, con_f80, con_f81v0]
  R := R_f70
  enc := fun y => [V.tup (V.cons ((eBx e_TSlots_Slots) y.1) (V.cons ((V.int .i64) y.2) (V.unit)))]
noncomputable def S_f70 : LabS where
  id := 0
  K := [.code (Try.f70.body.getD .skip)]
  lay := entryLay 3 0
  X := X_f70
  enc := fun x => [(V.int .i64) x.1, (V.int .i64) x.2.1, (eSl none 3 e_TApi_Slot) x.2.2]
  dec := fun l => (dI (at_ l 0), dI (at_ l 1), (dSl d_TApi_Slot) (at_ l 2))
structure X_f70_6 where
  places_0 : Int
  readers_1 : Int
  l_2 : (Sl TApi_Slot)
  q_18 : (Sl TApi_Slot)
  q_19 : Int
  q_20 : Int
noncomputable def S_f70_6 : LabS where
  id := 6
  K := (kAt 6 (Try.f70.body.getD .skip) []).getD []
  lay := { live := [(0, .any), (1, .any), (2, (.sl none 3 (e_TApi_Slot (d_TApi_Slot .undef)))), (18, (.sl none 3 (e_TApi_Slot (d_TApi_Slot .undef)))), (19, .any), (20, .any)], pars := [], locs := [] }
  X := X_f70_6
  enc := fun x => [(V.int .i64) x.places_0, (V.int .i64) x.readers_1, (eSl none 3 e_TApi_Slot) x.l_2, (eSl none 3 e_TApi_Slot) x.q_18, (V.int .i64) x.q_19, (V.int .i64) x.q_20]
  dec := fun l => ⟨dI (at_ l 0), dI (at_ l 1), (dSl d_TApi_Slot) (at_ l 2), (dSl d_TApi_Slot) (at_ l 3), dI (at_ l 4), dI (at_ l 5)⟩
structure X_f70_11 where
  readers_1 : Int
  l_2 : (Sl TApi_Slot)
noncomputable def S_f70_11 : LabS where
  id := 11
  K := (kAt 11 (Try.f70.body.getD .skip) []).getD []
  lay := { live := [(1, .any), (2, (.sl none 3 (e_TApi_Slot (d_TApi_Slot .undef))))], pars := [], locs := [] }
  X := X_f70_11
  enc := fun x => [(V.int .i64) x.readers_1, (eSl none 3 e_TApi_Slot) x.l_2]
  dec := fun l => ⟨dI (at_ l 0), (dSl d_TApi_Slot) (at_ l 1)⟩
noncomputable def tt_f70_11 (x : X_f70_11) : TT Try.prog R_f70 :=
 (.call con_f81v0 x.l_2 fun (y1 : R_f81v0) =>
 (.ret ((Go.Vm.Bx.mk false (TSlots_Slots.mk y1 x.readers_1)), (0 : Int)))
 )
theorem sd_f70_11 (x : X_f70_11) : (tt_f70_11  x).Sides :=
  (TT.s_call fun _ => TT.s_ret)

theorem dn_f70_11 (x : X_f70_11) : J_f70.den [] S_f70_11 x 4000 = (tt_f70_11  x).tree J_f70.enc := by kernel_rfl
theorem st_f70_11  : LabOK J_f70 S_f70_11 (.of tt_f70_11) :=
  lab_ok mixed_ok labs_nil 4000 (dn_f70_11 ) (sd_f70_11 )
noncomputable def D_f70_11 : Dyn X_f70_11 R_f70 := .of (tt_f70_11 )
theorem ok_f70_11  : LabOK J_f70 S_f70_11 (D_f70_11 ) :=
  st_f70_11  
noncomputable def tt_f70_6 (D_f70_6 : Dyn X_f70_6 R_f70) (x : X_f70_6) : TT Try.prog R_f70 :=
 (.ite (Go.Vm.ilt x.q_20 x.q_19)
  (.need (Go.Vm.inb x.q_20 x.q_18.n) <|
  (.call con_f80 (x.q_20, (x.places_0, (x.readers_1, (x.q_18.get (Int.toNat x.q_20))))) fun (y2 : R_f80) =>
  (.ite (!y2)
   (.ret ((Go.Vm.Bx.mk true (TSlots_Slots.mk (Go.Vm.Sl.mk true (0 : Nat) (fun _i3 => (TApi_Slot.mk (0 : Int) (0 : Int) (0 : Int)))) (0 : Int))), (3 : Int)))
   (.jump S_f70_6 D_f70_6 (X_f70_6.mk x.places_0 x.readers_1 x.l_2 x.q_18 x.q_19 (Go.IntKind.wrap Go.IntKind.i64 (x.q_20 + (1 : Int)))))
  )
  )
  )
  (.jump S_f70_11 D_f70_11 (X_f70_11.mk x.readers_1 x.l_2))
 )
theorem sd_f70_6 (D_f70_6 : Dyn X_f70_6 R_f70) (x : X_f70_6) : (tt_f70_6 D_f70_6 x).Sides :=
  (TT.s_ite (TT.s_need (TT.s_call fun _ => (TT.s_ite TT.s_ret TT.s_jump))) TT.s_jump)

theorem dn_f70_6 (D_f70_6 : Dyn X_f70_6 R_f70) (x : X_f70_6) : J_f70.den [⟨S_f70_6, D_f70_6⟩, ⟨S_f70_11, D_f70_11⟩] S_f70_6 x 4000 = (tt_f70_6 D_f70_6 x).tree J_f70.enc := by kernel_rfl
theorem st_f70_6 (D_f70_6 : Dyn X_f70_6 R_f70) (h_6 : LabOK J_f70 S_f70_6 D_f70_6) : LabOK J_f70 S_f70_6 (.of (tt_f70_6 D_f70_6)) :=
  lab_ok mixed_ok (labs_cons rfl h_6 (labs_cons rfl ok_f70_11 labs_nil)) 4000 (dn_f70_6 D_f70_6) (sd_f70_6 D_f70_6)
noncomputable def D_f70_6 : Dyn X_f70_6 R_f70 := Dyn.loop (tt_f70_6 )
theorem ok_f70_6  : LabOK J_f70 S_f70_6 (D_f70_6 ) :=
  loop_ok fun D h => st_f70_6  D  h
noncomputable def tt_f70 (x : X_f70) : TT Try.prog R_f70 :=
 (.call con_f78 (x.fst, x.snd.fst) fun (y1 : R_f78) =>
 (.ite (!y1)
  (.ret ((Go.Vm.Bx.mk true (TSlots_Slots.mk (Go.Vm.Sl.mk true (0 : Nat) (fun _i2 => (TApi_Slot.mk (0 : Int) (0 : Int) (0 : Int)))) (0 : Int))), (1 : Int)))
  (.ite (!(Go.Vm.ieq ((x.snd.snd.n : Nat) : Int) x.fst))
   (.ret ((Go.Vm.Bx.mk true (TSlots_Slots.mk (Go.Vm.Sl.mk true (0 : Nat) (fun _i2 => (TApi_Slot.mk (0 : Int) (0 : Int) (0 : Int)))) (0 : Int))), (3 : Int)))
   (.jump S_f70_6 D_f70_6 (X_f70_6.mk x.fst x.snd.fst x.snd.snd x.snd.snd ((x.snd.snd.n : Nat) : Int) (0 : Int)))
  )
 )
 )
theorem sd_f70 (x : X_f70) : (tt_f70  x).Sides :=
  (TT.s_call fun _ => (TT.s_ite TT.s_ret (TT.s_ite TT.s_ret TT.s_jump)))

theorem dn_f70 (x : X_f70) : J_f70.den [⟨S_f70_11, D_f70_11⟩, ⟨S_f70_6, D_f70_6⟩] S_f70 x 4000 = (tt_f70  x).tree J_f70.enc := by kernel_rfl
theorem st_f70  : LabOK J_f70 S_f70 (.of tt_f70) :=
  lab_ok mixed_ok (labs_cons rfl ok_f70_11 (labs_cons rfl ok_f70_6 labs_nil)) 4000 (dn_f70 ) (sd_f70 )
noncomputable def D_f70 : Dyn X_f70 R_f70 := .of tt_f70
theorem ct_f70 (x : X_f70) (y : R_f70) (h : D_f70.rel x y) : OK Try.prog 70 [(V.int .i64) x.1, (V.int .i64) x.2.1, (eSl none 3 e_TApi_Slot) x.2.2] [] (V.tup (V.cons ((eBx e_TSlots_Slots) y.1) (V.cons ((V.int .i64) y.2) (V.unit)))) [] :=
  contract (fn := Try.f70) (J := J_f70) (S := S_f70) (D := D_f70) (by kernel_rfl) (code := Try.f70.body.getD .skip) (by kernel_rfl) rfl st_f70 rfl (x := x) (y := y) h rfl rfl rfl rfl rfl (by kernel_rfl)
noncomputable def con_f70 : Con Try.prog where
  f := 70
  fn := Try.f70
  hf := by kernel_rfl
  hb := by kernel_rfl
  hn := by kernel_rfl
  X := X_f70
  Y := R_f70
  args := fun x => [(V.int .i64) x.1, (V.int .i64) x.2.1, (eSl none 3 e_TApi_Slot) x.2.2]
  objs := fun x => []
  res := fun y => V.tup (V.cons ((eBx e_TSlots_Slots) y.1) (V.cons ((V.int .i64) y.2) (V.unit)))
  outs := fun y => []
  rel := D_f70.rel
  ev := D_f70.ev
  evOK := D_f70.evOK
  dec := fun l m => (dI (at_ l 0), dI (at_ l 1), (dSl d_TApi_Slot) (at_ l 2))
  ash := [.any, .any, (.sl none 3 (e_TApi_Slot (d_TApi_Slot .undef)))]
  osh := []
  ok := ct_f70

/-! (*ring.Ring).stands -/
abbrev X_f71 : Type := TApi_Slot × TRing_Ring
abbrev R_f71 : Type := Bool × TRing_Ring
noncomputable def J_f71 : Job Try.prog where
  fn := Try.f71
  nt := 74
  pol := tabN 0 [(3, 3), (17, 1), (32, 1), (39, 1), (42, 1), (47, 1), (55, 1), (63, 1), (64, 1)]
  hint := tabN [] [(0, [.close (.loc 30 0)]), (1, [.close (.loc 30 0)]), (2, [.close (.loc 30 0)]), (3, [.close (.loc 30 0)]), (4, [.close (.loc 30 0)]), (5, [.close (.loc 30 0)]), (9, [.close (.loc 30 0)]), (11, [.close (.loc 30 0)]), (13, [.close (.loc 30 0)])]
  finH := [.close (.loc 30 0)]
  rsh := [.any]
  psh := [sh_TRing_Ring]
  tab := []
  R := R_f71
  enc := fun y => [V.bool y.1, e_TRing_Ring y.2]
noncomputable def S_f71 : LabS where
  id := 0
  K := [.code (Try.f71.body.getD .skip)]
  lay := entryLay 2 1
  X := X_f71
  enc := fun x => [(V.ptr (.par 0) []), e_TApi_Slot x.1, e_TRing_Ring x.2]
  dec := fun l => (d_TApi_Slot (at_ l 1), d_TRing_Ring (at_ l 2))
structure X_f71_5 where
  x_3 : TApi_Slot
  t_5 : Int
  held_6 : Bool
  o_0 : TRing_Ring
noncomputable def S_f71_5 : LabS where
  id := 5
  K := (kAt 5 (Try.f71.body.getD .skip) []).getD []
  lay := { live := [(0, .any), (3, .any), (5, .any), (6, .any)], pars := [sh_TRing_Ring], locs := [] }
  X := X_f71_5
  enc := fun x => [(V.ptr (.par 0) []), (eVp e_TApi_Slot) x.x_3, (V.int .u64) x.t_5, V.bool x.held_6, e_TRing_Ring x.o_0]
  dec := fun l => ⟨(dVp d_TApi_Slot) (at_ l 1), dI (at_ l 2), dB (at_ l 3), d_TRing_Ring (at_ l 4)⟩
structure X_f71_6 where
  x_3 : TApi_Slot
  t_5 : Int
  held_6 : Bool
  q_31 : Int
  q_32 : Int
  o_0 : TRing_Ring
noncomputable def S_f71_6 : LabS where
  id := 6
  K := (kAt 6 (Try.f71.body.getD .skip) []).getD []
  lay := { live := [(0, .any), (3, .any), (5, .any), (6, .any), (30, .any), (31, .any), (32, .any)], pars := [sh_TRing_Ring], locs := [(.loc 30 0, .any)] }
  X := X_f71_6
  enc := fun x => [(V.ptr (.par 0) []), (eVp e_TApi_Slot) x.x_3, (V.int .u64) x.t_5, V.bool x.held_6, (V.own (.loc 30 0) [] 1 x.o_0.cursors.heads.n 0 x.o_0.cursors.heads.n), (V.int .i64) x.q_31, (V.int .i64) x.q_32, V.cons (V.cons ((V.int .u64) x.o_0.cursors.tail) (V.cons (V.lent (.loc 30 0) 24 1 x.o_0.cursors.heads.nil x.o_0.cursors.heads.n) (V.unit))) (V.cons ((eBx e_TSlots_Slots) x.o_0.s) (V.cons ((V.int .u64) x.o_0.most) (V.cons (V.bool x.o_0.closed) (V.unit)))), (V.arr 1 x.o_0.cursors.heads.n fun i => (V.int .u64) (x.o_0.cursors.heads.get i))]
  dec := fun l => ⟨(dVp d_TApi_Slot) (at_ l 1), dI (at_ l 2), dB (at_ l 3), dI (at_ l 5), dI (at_ l 6), { d_TRing_Ring (at_ l 7) with cursors.heads := ⟨(dLn (fd (fd (at_ l 7) 0) 1)).nil, (dLn (fd (fd (at_ l 7) 0) 1)).n, (dAr dI (at_ l 8)).get⟩ }⟩
structure X_f71_12 where
  x_3 : TApi_Slot
  t_5 : Int
  held_6 : Bool
  q_31 : Int
  q_32 : Int
  o_0 : TRing_Ring
noncomputable def S_f71_12 : LabS where
  id := 12
  K := (kAt 12 (Try.f71.body.getD .skip) []).getD []
  lay := { live := [(0, .any), (3, .any), (5, .any), (6, .any), (30, .any), (31, .any), (32, .any)], pars := [sh_TRing_Ring], locs := [(.loc 30 0, .any)] }
  X := X_f71_12
  enc := fun x => [(V.ptr (.par 0) []), (eVp e_TApi_Slot) x.x_3, (V.int .u64) x.t_5, V.bool x.held_6, (V.own (.loc 30 0) [] 1 x.o_0.cursors.heads.n 0 x.o_0.cursors.heads.n), (V.int .i64) x.q_31, (V.int .i64) x.q_32, V.cons (V.cons ((V.int .u64) x.o_0.cursors.tail) (V.cons (V.lent (.loc 30 0) 24 1 x.o_0.cursors.heads.nil x.o_0.cursors.heads.n) (V.unit))) (V.cons ((eBx e_TSlots_Slots) x.o_0.s) (V.cons ((V.int .u64) x.o_0.most) (V.cons (V.bool x.o_0.closed) (V.unit)))), (V.arr 1 x.o_0.cursors.heads.n fun i => (V.int .u64) (x.o_0.cursors.heads.get i))]
  dec := fun l => ⟨(dVp d_TApi_Slot) (at_ l 1), dI (at_ l 2), dB (at_ l 3), dI (at_ l 5), dI (at_ l 6), { d_TRing_Ring (at_ l 7) with cursors.heads := ⟨(dLn (fd (fd (at_ l 7) 0) 1)).nil, (dLn (fd (fd (at_ l 7) 0) 1)).n, (dAr dI (at_ l 8)).get⟩ }⟩
noncomputable def tt_f71_12 (D_f71_6 : Dyn X_f71_6 R_f71) (x : X_f71_12) : TT Try.prog R_f71 :=
 (.jump S_f71_6 D_f71_6 (X_f71_6.mk x.x_3 x.t_5 x.held_6 x.q_31 (Go.IntKind.wrap Go.IntKind.i64 (x.q_32 + (1 : Int))) x.o_0))
theorem sd_f71_12 (D_f71_6 : Dyn X_f71_6 R_f71) (x : X_f71_12) : (tt_f71_12 D_f71_6 x).Sides :=
  TT.s_jump

theorem dn_f71_12 (D_f71_6 : Dyn X_f71_6 R_f71) (x : X_f71_12) : J_f71.den [⟨S_f71_6, D_f71_6⟩] S_f71_12 x 4000 = (tt_f71_12 D_f71_6 x).tree J_f71.enc := by kernel_rfl
theorem st_f71_12 (D_f71_6 : Dyn X_f71_6 R_f71) (h_6 : LabOK J_f71 S_f71_6 D_f71_6) : LabOK J_f71 S_f71_12 (.of (tt_f71_12 D_f71_6)) :=
  lab_ok mixed_ok (labs_cons rfl h_6 labs_nil) 4000 (dn_f71_12 D_f71_6) (sd_f71_12 D_f71_6)
noncomputable def D_f71_12 (D_f71_6 : Dyn X_f71_6 R_f71) : Dyn X_f71_12 R_f71 := .of (tt_f71_12 D_f71_6)
theorem ok_f71_12 (D_f71_6 : Dyn X_f71_6 R_f71) (h_6 : LabOK J_f71 S_f71_6 D_f71_6) : LabOK J_f71 S_f71_12 (D_f71_12 D_f71_6) :=
  st_f71_12 D_f71_6 h_6
noncomputable def tt_f71_6 (D_f71_6 : Dyn X_f71_6 R_f71) (x : X_f71_6) : TT Try.prog R_f71 :=
 (.need (Go.Vm.ilt x.q_32 x.q_31) <|
 (.need (Go.Vm.inb x.q_32 x.o_0.cursors.heads.n) <|
 (.need ((Nat.beq x.o_0.cursors.heads.n x.o_0.cursors.heads.n) && true) <|
 (.ite x.held_6
  (.need (Go.Vm.ile (0 : Int) x.q_32) <|
  (.ite (Go.Vm.ieq (Go.Vm.bits Go.BinOp.and Go.IntKind.i64 (Go.Vm.shr Go.IntKind.i64 x.x_3.Left x.q_32) (1 : Int)) (0 : Int))
   (.ite (Go.Vm.ile (x.o_0.cursors.heads.get ((0 : Nat) + (Int.toNat x.q_32))) x.t_5)
    .fail
    (.ite (!x.held_6)
     (.ite (Go.Vm.ile x.o_0.most x.t_5)
      (.ite (Go.Vm.ile (x.o_0.cursors.heads.get ((0 : Nat) + (Int.toNat x.q_32))) (Go.IntKind.wrap Go.IntKind.u64 (x.t_5 - x.o_0.most)))
       .fail
       (.jump S_f71_12 (D_f71_12 D_f71_6) (X_f71_12.mk x.x_3 x.t_5 x.held_6 x.q_31 x.q_32 x.o_0))
      )
      (.jump S_f71_12 (D_f71_12 D_f71_6) (X_f71_12.mk x.x_3 x.t_5 x.held_6 x.q_31 x.q_32 x.o_0))
     )
     (.jump S_f71_12 (D_f71_12 D_f71_6) (X_f71_12.mk x.x_3 x.t_5 x.held_6 x.q_31 x.q_32 x.o_0))
    )
   )
   (.ite (!x.held_6)
    (.ite (Go.Vm.ile x.o_0.most x.t_5)
     (.ite (Go.Vm.ile (x.o_0.cursors.heads.get ((0 : Nat) + (Int.toNat x.q_32))) (Go.IntKind.wrap Go.IntKind.u64 (x.t_5 - x.o_0.most)))
      .fail
      (.jump S_f71_12 (D_f71_12 D_f71_6) (X_f71_12.mk x.x_3 x.t_5 x.held_6 x.q_31 x.q_32 x.o_0))
     )
     (.jump S_f71_12 (D_f71_12 D_f71_6) (X_f71_12.mk x.x_3 x.t_5 x.held_6 x.q_31 x.q_32 x.o_0))
    )
    (.jump S_f71_12 (D_f71_12 D_f71_6) (X_f71_12.mk x.x_3 x.t_5 x.held_6 x.q_31 x.q_32 x.o_0))
   )
  )
  )
  (.ite (!x.held_6)
   (.ite (Go.Vm.ile x.o_0.most x.t_5)
    (.ite (Go.Vm.ile (x.o_0.cursors.heads.get ((0 : Nat) + (Int.toNat x.q_32))) (Go.IntKind.wrap Go.IntKind.u64 (x.t_5 - x.o_0.most)))
     .fail
     (.jump S_f71_12 (D_f71_12 D_f71_6) (X_f71_12.mk x.x_3 x.t_5 x.held_6 x.q_31 x.q_32 x.o_0))
    )
    (.jump S_f71_12 (D_f71_12 D_f71_6) (X_f71_12.mk x.x_3 x.t_5 x.held_6 x.q_31 x.q_32 x.o_0))
   )
   (.jump S_f71_12 (D_f71_12 D_f71_6) (X_f71_12.mk x.x_3 x.t_5 x.held_6 x.q_31 x.q_32 x.o_0))
  )
 )
 )
 )
 )
theorem sd_f71_6 (D_f71_6 : Dyn X_f71_6 R_f71) (x : X_f71_6) : (tt_f71_6 D_f71_6 x).Sides :=
  (TT.s_need (TT.s_need (TT.s_need (TT.s_ite (TT.s_need (TT.s_ite (TT.s_ite TT.s_fail (TT.s_ite (TT.s_ite (TT.s_ite TT.s_fail TT.s_jump) TT.s_jump) TT.s_jump)) (TT.s_ite (TT.s_ite (TT.s_ite TT.s_fail TT.s_jump) TT.s_jump) TT.s_jump))) (TT.s_ite (TT.s_ite (TT.s_ite TT.s_fail TT.s_jump) TT.s_jump) TT.s_jump)))))

theorem dn_f71_6 (D_f71_6 : Dyn X_f71_6 R_f71) (x : X_f71_6) : J_f71.den [⟨S_f71_6, D_f71_6⟩, ⟨S_f71_12, (D_f71_12 D_f71_6)⟩] S_f71_6 x 4000 = (tt_f71_6 D_f71_6 x).tree J_f71.enc := by kernel_rfl
theorem st_f71_6 (D_f71_6 : Dyn X_f71_6 R_f71) (h_6 : LabOK J_f71 S_f71_6 D_f71_6) : LabOK J_f71 S_f71_6 (.of (tt_f71_6 D_f71_6)) :=
  lab_ok mixed_ok (labs_cons rfl h_6 (labs_cons rfl (ok_f71_12 D_f71_6 h_6) labs_nil)) 4000 (dn_f71_6 D_f71_6) (sd_f71_6 D_f71_6)
noncomputable def D_f71_6 : Dyn X_f71_6 R_f71 := Dyn.loop (tt_f71_6 )
theorem ok_f71_6  : LabOK J_f71 S_f71_6 (D_f71_6 ) :=
  loop_ok fun D h => st_f71_6  D  h
noncomputable def tt_f71_5 (x : X_f71_5) : TT Try.prog R_f71 :=
 (.jump S_f71_6 D_f71_6 (X_f71_6.mk x.x_3 x.t_5 x.held_6 ((x.o_0.cursors.heads.n : Nat) : Int) (0 : Int) x.o_0))
theorem sd_f71_5 (x : X_f71_5) : (tt_f71_5  x).Sides :=
  TT.s_jump

theorem dn_f71_5 (x : X_f71_5) : J_f71.den [⟨S_f71_6, D_f71_6⟩] S_f71_5 x 4000 = (tt_f71_5  x).tree J_f71.enc := by kernel_rfl
theorem st_f71_5  : LabOK J_f71 S_f71_5 (.of tt_f71_5) :=
  lab_ok mixed_ok (labs_cons rfl ok_f71_6 labs_nil) 4000 (dn_f71_5 ) (sd_f71_5 )
noncomputable def D_f71_5 : Dyn X_f71_5 R_f71 := .of (tt_f71_5 )
theorem ok_f71_5  : LabOK J_f71 S_f71_5 (D_f71_5 ) :=
  st_f71_5  
noncomputable def tt_f71 (x : X_f71) : TT Try.prog R_f71 :=
 (.ite (Go.Vm.ieq (Int.tmod x.fst.Stamp (2 : Int)) (1 : Int))
  (.ite (Go.Vm.ile x.snd.cursors.tail (Go.IntKind.wrap Go.IntKind.u64 (Int.tdiv x.fst.Stamp (2 : Int))))
   (.ret (false, x.snd))
   (.jump S_f71_5 D_f71_5 (X_f71_5.mk x.fst (Go.IntKind.wrap Go.IntKind.u64 (Int.tdiv x.fst.Stamp (2 : Int))) (Go.Vm.ieq (Int.tmod x.fst.Stamp (2 : Int)) (1 : Int)) x.snd))
  )
  (.jump S_f71_5 D_f71_5 (X_f71_5.mk x.fst (Go.IntKind.wrap Go.IntKind.u64 (Int.tdiv x.fst.Stamp (2 : Int))) (Go.Vm.ieq (Int.tmod x.fst.Stamp (2 : Int)) (1 : Int)) x.snd))
 )
theorem sd_f71 (x : X_f71) : (tt_f71  x).Sides :=
  (TT.s_ite (TT.s_ite TT.s_ret TT.s_jump) TT.s_jump)

theorem dn_f71 (x : X_f71) : J_f71.den [⟨S_f71_6, D_f71_6⟩, ⟨S_f71_5, D_f71_5⟩] S_f71 x 4000 = (tt_f71  x).tree J_f71.enc := by kernel_rfl
theorem st_f71  : LabOK J_f71 S_f71 (.of tt_f71) :=
  lab_ok mixed_ok (labs_cons rfl ok_f71_6 (labs_cons rfl ok_f71_5 labs_nil)) 4000 (dn_f71 ) (sd_f71 )
noncomputable def D_f71 : Dyn X_f71 R_f71 := .of tt_f71
theorem ct_f71 (x : X_f71) (y : R_f71) (h : D_f71.rel x y) : OK Try.prog 71 [(V.ptr (.par 0) []), e_TApi_Slot x.1] [e_TRing_Ring x.2] (V.bool y.1) [e_TRing_Ring y.2] :=
  contract (fn := Try.f71) (J := J_f71) (S := S_f71) (D := D_f71) (by kernel_rfl) (code := Try.f71.body.getD .skip) (by kernel_rfl) rfl st_f71 rfl (x := x) (y := y) h rfl rfl rfl rfl rfl (by kernel_rfl)
noncomputable def con_f71 : Con Try.prog where
  f := 71
  fn := Try.f71
  hf := by kernel_rfl
  hb := by kernel_rfl
  hn := by kernel_rfl
  X := X_f71
  Y := R_f71
  args := fun x => [(V.ptr (.par 0) []), e_TApi_Slot x.1]
  objs := fun x => [e_TRing_Ring x.2]
  res := fun y => V.bool y.1
  outs := fun y => [e_TRing_Ring y.2]
  rel := D_f71.rel
  ev := D_f71.ev
  evOK := D_f71.evOK
  dec := fun l m => (d_TApi_Slot (at_ l 1), d_TRing_Ring (at_ m 0))
  ash := [.any, .any]
  osh := [sh_TRing_Ring]
  ok := ct_f71

/-! slices.Clone[[]uint64,uint64] (f55v0) -/
abbrev X_f55v0 : Type := (Sl Int)
abbrev R_f55v0 : Type := (Sl Int)
noncomputable def J_f55v0 : Job Try.prog where
  fn := Try.f55
  nt := 8
  pol := tabN 0 [(5, 1), (6, 1)]
  hint := tabN [] []
  finH := [.shut 2]
  rsh := [(.osl 24 1 (V.int .u64 0))]
  psh := []
  tab := []
  R := R_f55v0
  enc := fun y => [(eOsl 24 1 (V.int .u64)) y]
noncomputable def S_f55v0 : LabS where
  id := 0
  K := [.code (Try.f55.body.getD .skip)]
  lay := entryLay 1 0
  X := X_f55v0
  enc := fun x => [(eSl none 1 (V.int .u64)) x]
  dec := fun l => ((dSl dI) (at_ l 0))
noncomputable def tt_f55v0 (x : X_f55v0) : TT Try.prog R_f55v0 :=
 (.ite x.nil
  (.ret (Go.Vm.Sl.mk true (0 : Nat) (fun _i1 => (0 : Int))))
  (.need (true && (Go.Vm.room ((0 : Nat) + x.n) (8 : Nat))) <|
  (.ret (Go.Vm.Sl.mk (cond (Nat.beq x.n (0 : Nat)) false false) ((0 : Nat) + x.n) (fun i1 => (cond (Nat.blt i1 (0 : Nat)) (0 : Int) (x.get (i1 - (0 : Nat)))))))
  )
 )
theorem sd_f55v0 (x : X_f55v0) : (tt_f55v0  x).Sides :=
  (TT.s_ite TT.s_ret (TT.s_need TT.s_ret))

theorem dn_f55v0 (x : X_f55v0) : J_f55v0.den [] S_f55v0 x 4000 = (tt_f55v0  x).tree J_f55v0.enc := by kernel_rfl
theorem st_f55v0  : LabOK J_f55v0 S_f55v0 (.of tt_f55v0) :=
  lab_ok mixed_ok labs_nil 4000 (dn_f55v0 ) (sd_f55v0 )
noncomputable def D_f55v0 : Dyn X_f55v0 R_f55v0 := .of tt_f55v0
theorem ct_f55v0 (x : X_f55v0) (y : R_f55v0) (h : D_f55v0.rel x y) : OK Try.prog 55 [(eSl none 1 (V.int .u64)) x] [] ((eOsl 24 1 (V.int .u64)) y) [] :=
  contract (fn := Try.f55) (J := J_f55v0) (S := S_f55v0) (D := D_f55v0) (by kernel_rfl) (code := Try.f55.body.getD .skip) (by kernel_rfl) rfl st_f55v0 rfl (x := x) (y := y) h rfl rfl rfl rfl rfl (by kernel_rfl)
noncomputable def con_f55v0 : Con Try.prog where
  f := 55
  fn := Try.f55
  hf := by kernel_rfl
  hb := by kernel_rfl
  hn := by kernel_rfl
  X := X_f55v0
  Y := R_f55v0
  args := fun x => [(eSl none 1 (V.int .u64)) x]
  objs := fun x => []
  res := fun y => (eOsl 24 1 (V.int .u64)) y
  outs := fun y => []
  rel := D_f55v0.rel
  ev := D_f55v0.ev
  evOK := D_f55v0.evOK
  dec := fun l m => ((dSl dI) (at_ l 0))
  ash := [(.sl none 1 (V.int .u64 0))]
  osh := []
  ok := ct_f55v0

/-! ring.Load -/
abbrev X_f54 : Type := TApi_Ring × TApi_RingState
abbrev R_f54 : Type := (Bx TRing_Ring) × Int
noncomputable def J_f54 : Job Try.prog where
  fn := Try.f54
  nt := 113
  pol := tabN 0 [(2, 3), (3, 3), (13, 1), (20, 1), (21, 1), (31, 1), (33, 1), (41, 1), (57, 1), (74, 1), (85, 1), (91, 1), (103, 1), (112, 1)]
  hint := tabN [] [(0, [.close (.loc 72 0)]), (1, [.close (.loc 72 0)]), (2, [.close (.loc 72 0)]), (3, [.close (.loc 72 0)]), (4, [.close (.loc 72 0)]), (5, [.close (.loc 72 0)]), (6, [.close (.loc 72 0)]), (7, [.close (.loc 72 0), .open_ 6]), (8, [.close (.loc 72 0)]), (12, [.close (.loc 72 0)]), (14, [.close (.loc 72 0)]), (15, [.close (.loc 72 0)]), (16, [.close (.loc 72 0)]), (17, [.close (.loc 72 0)]), (18, [.close (.loc 72 0)]), (19, [.close (.loc 72 0)]), (20, [.close (.loc 72 0)])]
  finH := [.close (.loc 72 0), .shut 4]
  rsh := [(.box (e_TRing_Ring (d_TRing_Ring .undef))), .any]
  psh := []
  tab := [con_f53, con_f55v0, con_f70, con_f71]
  R := R_f54
  enc := fun y => [V.tup (V.cons ((eBx e_TRing_Ring) y.1) (V.cons ((V.int .i64) y.2) (V.unit)))]
noncomputable def S_f54 : LabS where
  id := 0
  K := [.code (Try.f54.body.getD .skip)]
  lay := entryLay 2 0
  X := X_f54
  enc := fun x => [e_TApi_Ring x.1, e_TApi_RingState x.2]
  dec := fun l => (d_TApi_Ring (at_ l 0), d_TApi_RingState (at_ l 1))
structure X_f54_7 where
  s_3 : TApi_RingState
  l_8 : (Bx TSlots_Slots)
  n_6 : TRing_Ring
noncomputable def S_f54_7 : LabS where
  id := 7
  K := (kAt 7 (Try.f54.body.getD .skip) []).getD []
  lay := { live := [(3, .any), (6, .any), (8, (.box (e_TSlots_Slots (d_TSlots_Slots .undef))))], pars := [], locs := [(.loc 6 1, sh_TRing_Ring)] }
  X := X_f54_7
  enc := fun x => [(eVp e_TApi_RingState) x.s_3, (V.ptr (.loc 6 1) []), (eBx e_TSlots_Slots) x.l_8, e_TRing_Ring x.n_6]
  dec := fun l => ⟨(dVp d_TApi_RingState) (at_ l 0), (dBx d_TSlots_Slots) (at_ l 2), d_TRing_Ring (at_ l 3)⟩
structure X_f54_9 where
  s_3 : TApi_RingState
  q_73 : Int
  q_74 : Int
  n_6 : TRing_Ring
noncomputable def S_f54_9 : LabS where
  id := 9
  K := (kAt 9 (Try.f54.body.getD .skip) []).getD []
  lay := { live := [(3, .any), (6, .any), (72, .any), (73, .any), (74, .any)], pars := [], locs := [(.loc 6 1, sh_TRing_Ring), (.loc 72 0, .any)] }
  X := X_f54_9
  enc := fun x => [(eVp e_TApi_RingState) x.s_3, (V.ptr (.loc 6 1) []), (V.own (.loc 72 0) [] 1 x.n_6.cursors.heads.n 0 x.n_6.cursors.heads.n), (V.int .i64) x.q_73, (V.int .i64) x.q_74, V.cons (V.cons ((V.int .u64) x.n_6.cursors.tail) (V.cons (V.lent (.loc 72 0) 24 1 x.n_6.cursors.heads.nil x.n_6.cursors.heads.n) (V.unit))) (V.cons ((eBx e_TSlots_Slots) x.n_6.s) (V.cons ((V.int .u64) x.n_6.most) (V.cons (V.bool x.n_6.closed) (V.unit)))), (V.arr 1 x.n_6.cursors.heads.n fun i => (V.int .u64) (x.n_6.cursors.heads.get i))]
  dec := fun l => ⟨(dVp d_TApi_RingState) (at_ l 0), dI (at_ l 3), dI (at_ l 4), { d_TRing_Ring (at_ l 5) with cursors.heads := ⟨(dLn (fd (fd (at_ l 5) 0) 1)).nil, (dLn (fd (fd (at_ l 5) 0) 1)).n, (dAr dI (at_ l 6)).get⟩ }⟩
structure X_f54_13 where
  s_3 : TApi_RingState
  q_73 : Int
  q_74 : Int
  n_6 : TRing_Ring
noncomputable def S_f54_13 : LabS where
  id := 13
  K := (kAt 13 (Try.f54.body.getD .skip) []).getD []
  lay := { live := [(3, .any), (6, .any), (72, .any), (73, .any), (74, .any)], pars := [], locs := [(.loc 6 1, sh_TRing_Ring), (.loc 72 0, .any)] }
  X := X_f54_13
  enc := fun x => [(eVp e_TApi_RingState) x.s_3, (V.ptr (.loc 6 1) []), (V.own (.loc 72 0) [] 1 x.n_6.cursors.heads.n 0 x.n_6.cursors.heads.n), (V.int .i64) x.q_73, (V.int .i64) x.q_74, V.cons (V.cons ((V.int .u64) x.n_6.cursors.tail) (V.cons (V.lent (.loc 72 0) 24 1 x.n_6.cursors.heads.nil x.n_6.cursors.heads.n) (V.unit))) (V.cons ((eBx e_TSlots_Slots) x.n_6.s) (V.cons ((V.int .u64) x.n_6.most) (V.cons (V.bool x.n_6.closed) (V.unit)))), (V.arr 1 x.n_6.cursors.heads.n fun i => (V.int .u64) (x.n_6.cursors.heads.get i))]
  dec := fun l => ⟨(dVp d_TApi_RingState) (at_ l 0), dI (at_ l 3), dI (at_ l 4), { d_TRing_Ring (at_ l 5) with cursors.heads := ⟨(dLn (fd (fd (at_ l 5) 0) 1)).nil, (dLn (fd (fd (at_ l 5) 0) 1)).n, (dAr dI (at_ l 6)).get⟩ }⟩
structure X_f54_14 where
  s_3 : TApi_RingState
  n_6 : TRing_Ring
noncomputable def S_f54_14 : LabS where
  id := 14
  K := (kAt 14 (Try.f54.body.getD .skip) []).getD []
  lay := { live := [(3, .any), (6, .any)], pars := [], locs := [(.loc 6 1, sh_TRing_Ring)] }
  X := X_f54_14
  enc := fun x => [(eVp e_TApi_RingState) x.s_3, (V.ptr (.loc 6 1) []), e_TRing_Ring x.n_6]
  dec := fun l => ⟨(dVp d_TApi_RingState) (at_ l 0), d_TRing_Ring (at_ l 2)⟩
structure X_f54_15 where
  q_101 : (Sl TApi_Slot)
  q_102 : Int
  q_103 : Int
  n_6 : TRing_Ring
noncomputable def S_f54_15 : LabS where
  id := 15
  K := (kAt 15 (Try.f54.body.getD .skip) []).getD []
  lay := { live := [(6, .any), (101, (.sl none 3 (e_TApi_Slot (d_TApi_Slot .undef)))), (102, .any), (103, .any)], pars := [], locs := [(.loc 6 1, sh_TRing_Ring)] }
  X := X_f54_15
  enc := fun x => [(V.ptr (.loc 6 1) []), (eSl none 3 e_TApi_Slot) x.q_101, (V.int .i64) x.q_102, (V.int .i64) x.q_103, e_TRing_Ring x.n_6]
  dec := fun l => ⟨(dSl d_TApi_Slot) (at_ l 1), dI (at_ l 2), dI (at_ l 3), d_TRing_Ring (at_ l 4)⟩
noncomputable def tt_f54_15 (D_f54_15 : Dyn X_f54_15 R_f54) (x : X_f54_15) : TT Try.prog R_f54 :=
 (.ite (Go.Vm.ilt x.q_103 x.q_102)
  (.need (Go.Vm.inb x.q_103 x.q_101.n) <|
  (.call con_f71 ((x.q_101.get (Int.toNat x.q_103)), x.n_6) fun (y2 : R_f71) =>
  (.ite (!y2.fst)
   (.ret ((Go.Vm.Bx.mk true (TRing_Ring.mk (TRing_cursors.mk (0 : Int) (Go.Vm.Sl.mk true (0 : Nat) (fun _i3 => (0 : Int)))) (Go.Vm.Bx.mk true (TSlots_Slots.mk (Go.Vm.Sl.mk true (0 : Nat) (fun _i3 => (TApi_Slot.mk (0 : Int) (0 : Int) (0 : Int)))) (0 : Int))) (0 : Int) false)), (3 : Int)))
   (.jump S_f54_15 D_f54_15 (X_f54_15.mk x.q_101 x.q_102 (Go.IntKind.wrap Go.IntKind.i64 (x.q_103 + (1 : Int))) y2.snd))
  )
  )
  )
  (.ret ((Go.Vm.Bx.mk false x.n_6), (0 : Int)))
 )
theorem sd_f54_15 (D_f54_15 : Dyn X_f54_15 R_f54) (x : X_f54_15) : (tt_f54_15 D_f54_15 x).Sides :=
  (TT.s_ite (TT.s_need (TT.s_call fun _ => (TT.s_ite TT.s_ret TT.s_jump))) TT.s_ret)

theorem dn_f54_15 (D_f54_15 : Dyn X_f54_15 R_f54) (x : X_f54_15) : J_f54.den [⟨S_f54_15, D_f54_15⟩] S_f54_15 x 4000 = (tt_f54_15 D_f54_15 x).tree J_f54.enc := by kernel_rfl
theorem st_f54_15 (D_f54_15 : Dyn X_f54_15 R_f54) (h_15 : LabOK J_f54 S_f54_15 D_f54_15) : LabOK J_f54 S_f54_15 (.of (tt_f54_15 D_f54_15)) :=
  lab_ok mixed_ok (labs_cons rfl h_15 labs_nil) 4000 (dn_f54_15 D_f54_15) (sd_f54_15 D_f54_15)
noncomputable def D_f54_15 : Dyn X_f54_15 R_f54 := Dyn.loop (tt_f54_15 )
theorem ok_f54_15  : LabOK J_f54 S_f54_15 (D_f54_15 ) :=
  loop_ok fun D h => st_f54_15  D  h
noncomputable def tt_f54_14 (x : X_f54_14) : TT Try.prog R_f54 :=
 (.jump S_f54_15 D_f54_15 (X_f54_15.mk x.s_3.Slots ((x.s_3.Slots.n : Nat) : Int) (0 : Int) x.n_6))
theorem sd_f54_14 (x : X_f54_14) : (tt_f54_14  x).Sides :=
  TT.s_jump

theorem dn_f54_14 (x : X_f54_14) : J_f54.den [⟨S_f54_15, D_f54_15⟩] S_f54_14 x 4000 = (tt_f54_14  x).tree J_f54.enc := by kernel_rfl
theorem st_f54_14  : LabOK J_f54 S_f54_14 (.of tt_f54_14) :=
  lab_ok mixed_ok (labs_cons rfl ok_f54_15 labs_nil) 4000 (dn_f54_14 ) (sd_f54_14 )
noncomputable def D_f54_14 : Dyn X_f54_14 R_f54 := .of (tt_f54_14 )
theorem ok_f54_14  : LabOK J_f54 S_f54_14 (D_f54_14 ) :=
  st_f54_14  
noncomputable def tt_f54_13 (D_f54_9 : Dyn X_f54_9 R_f54) (x : X_f54_13) : TT Try.prog R_f54 :=
 (.jump S_f54_9 D_f54_9 (X_f54_9.mk x.s_3 x.q_73 (Go.IntKind.wrap Go.IntKind.i64 (x.q_74 + (1 : Int))) x.n_6))
theorem sd_f54_13 (D_f54_9 : Dyn X_f54_9 R_f54) (x : X_f54_13) : (tt_f54_13 D_f54_9 x).Sides :=
  TT.s_jump

theorem dn_f54_13 (D_f54_9 : Dyn X_f54_9 R_f54) (x : X_f54_13) : J_f54.den [⟨S_f54_9, D_f54_9⟩, ⟨S_f54_15, D_f54_15⟩, ⟨S_f54_14, D_f54_14⟩] S_f54_13 x 4000 = (tt_f54_13 D_f54_9 x).tree J_f54.enc := by kernel_rfl
theorem st_f54_13 (D_f54_9 : Dyn X_f54_9 R_f54) (h_9 : LabOK J_f54 S_f54_9 D_f54_9) : LabOK J_f54 S_f54_13 (.of (tt_f54_13 D_f54_9)) :=
  lab_ok mixed_ok (labs_cons rfl h_9 (labs_cons rfl ok_f54_15 (labs_cons rfl ok_f54_14 labs_nil))) 4000 (dn_f54_13 D_f54_9) (sd_f54_13 D_f54_9)
noncomputable def D_f54_13 (D_f54_9 : Dyn X_f54_9 R_f54) : Dyn X_f54_13 R_f54 := .of (tt_f54_13 D_f54_9)
theorem ok_f54_13 (D_f54_9 : Dyn X_f54_9 R_f54) (h_9 : LabOK J_f54 S_f54_9 D_f54_9) : LabOK J_f54 S_f54_13 (D_f54_13 D_f54_9) :=
  st_f54_13 D_f54_9 h_9
noncomputable def tt_f54_9 (D_f54_9 : Dyn X_f54_9 R_f54) (x : X_f54_9) : TT Try.prog R_f54 :=
 (.need (Go.Vm.ilt x.q_74 x.q_73) <|
 (.need (Go.Vm.inb x.q_74 x.n_6.cursors.heads.n) <|
 (.need ((Nat.beq x.n_6.cursors.heads.n x.n_6.cursors.heads.n) && true) <|
 (.ite (Go.Vm.ilt x.n_6.cursors.tail (x.n_6.cursors.heads.get ((0 : Nat) + (Int.toNat x.q_74))))
  .fail
  (.ite (Go.Vm.ilt x.n_6.most (Go.IntKind.wrap Go.IntKind.u64 (x.n_6.cursors.tail - (x.n_6.cursors.heads.get ((0 : Nat) + (Int.toNat x.q_74))))))
   .fail
   (.jump S_f54_13 (D_f54_13 D_f54_9) (X_f54_13.mk x.s_3 x.q_73 x.q_74 x.n_6))
  )
 )
 )
 )
 )
theorem sd_f54_9 (D_f54_9 : Dyn X_f54_9 R_f54) (x : X_f54_9) : (tt_f54_9 D_f54_9 x).Sides :=
  (TT.s_need (TT.s_need (TT.s_need (TT.s_ite TT.s_fail (TT.s_ite TT.s_fail TT.s_jump)))))

theorem dn_f54_9 (D_f54_9 : Dyn X_f54_9 R_f54) (x : X_f54_9) : J_f54.den [⟨S_f54_9, D_f54_9⟩, ⟨S_f54_15, D_f54_15⟩, ⟨S_f54_14, D_f54_14⟩, ⟨S_f54_13, (D_f54_13 D_f54_9)⟩] S_f54_9 x 4000 = (tt_f54_9 D_f54_9 x).tree J_f54.enc := by kernel_rfl
theorem st_f54_9 (D_f54_9 : Dyn X_f54_9 R_f54) (h_9 : LabOK J_f54 S_f54_9 D_f54_9) : LabOK J_f54 S_f54_9 (.of (tt_f54_9 D_f54_9)) :=
  lab_ok mixed_ok (labs_cons rfl h_9 (labs_cons rfl ok_f54_15 (labs_cons rfl ok_f54_14 (labs_cons rfl (ok_f54_13 D_f54_9 h_9) labs_nil)))) 4000 (dn_f54_9 D_f54_9) (sd_f54_9 D_f54_9)
noncomputable def D_f54_9 : Dyn X_f54_9 R_f54 := Dyn.loop (tt_f54_9 )
theorem ok_f54_9  : LabOK J_f54 S_f54_9 (D_f54_9 ) :=
  loop_ok fun D h => st_f54_9  D  h
noncomputable def tt_f54_7 (x : X_f54_7) : TT Try.prog R_f54 :=
 (.call con_f55v0 x.s_3.Heads fun (y1 : R_f55v0) =>
 (.jump S_f54_9 D_f54_9 (X_f54_9.mk x.s_3 ((y1.n : Nat) : Int) (0 : Int) (TRing_Ring.mk (TRing_cursors.mk x.s_3.Tail y1) x.l_8 x.n_6.most x.s_3.Closed)))
 )
theorem sd_f54_7 (x : X_f54_7) : (tt_f54_7  x).Sides :=
  (TT.s_call fun _ => TT.s_jump)

theorem dn_f54_7 (x : X_f54_7) : J_f54.den [⟨S_f54_15, D_f54_15⟩, ⟨S_f54_14, D_f54_14⟩, ⟨S_f54_9, D_f54_9⟩] S_f54_7 x 4000 = (tt_f54_7  x).tree J_f54.enc := by kernel_rfl
theorem st_f54_7  : LabOK J_f54 S_f54_7 (.of tt_f54_7) :=
  lab_ok mixed_ok (labs_cons rfl ok_f54_15 (labs_cons rfl ok_f54_14 (labs_cons rfl ok_f54_9 labs_nil))) 4000 (dn_f54_7 ) (sd_f54_7 )
noncomputable def D_f54_7 : Dyn X_f54_7 R_f54 := .of (tt_f54_7 )
theorem ok_f54_7  : LabOK J_f54 S_f54_7 (D_f54_7 ) :=
  st_f54_7  
noncomputable def tt_f54 (x : X_f54) : TT Try.prog R_f54 :=
 (.call con_f53 x.fst fun (y1 : R_f53) =>
 (.ite (!(Go.Vm.ieq y1.snd (0 : Int)))
  (.ret ((Go.Vm.Bx.mk true (TRing_Ring.mk (TRing_cursors.mk (0 : Int) (Go.Vm.Sl.mk true (0 : Nat) (fun _i2 => (0 : Int)))) (Go.Vm.Bx.mk true (TSlots_Slots.mk (Go.Vm.Sl.mk true (0 : Nat) (fun _i2 => (TApi_Slot.mk (0 : Int) (0 : Int) (0 : Int)))) (0 : Int))) (0 : Int) false)), y1.snd))
  (.call con_f70 (x.fst.Cap, (x.fst.Readers, x.snd.Slots)) fun (y2 : R_f70) =>
  (.ite (!(Go.Vm.ieq y2.snd (0 : Int)))
   (.ret ((Go.Vm.Bx.mk true (TRing_Ring.mk (TRing_cursors.mk (0 : Int) (Go.Vm.Sl.mk true (0 : Nat) (fun _i3 => (0 : Int)))) (Go.Vm.Bx.mk true (TSlots_Slots.mk (Go.Vm.Sl.mk true (0 : Nat) (fun _i3 => (TApi_Slot.mk (0 : Int) (0 : Int) (0 : Int)))) (0 : Int))) (0 : Int) false)), (3 : Int)))
   (.ite (!(Go.Vm.ieq ((x.snd.Heads.n : Nat) : Int) x.fst.Readers))
    (.ret ((Go.Vm.Bx.mk true (TRing_Ring.mk (TRing_cursors.mk (0 : Int) (Go.Vm.Sl.mk true (0 : Nat) (fun _i3 => (0 : Int)))) (Go.Vm.Bx.mk true (TSlots_Slots.mk (Go.Vm.Sl.mk true (0 : Nat) (fun _i3 => (TApi_Slot.mk (0 : Int) (0 : Int) (0 : Int)))) (0 : Int))) (0 : Int) false)), (3 : Int)))
    (.ite (Go.Vm.ile (4611686018427387904 : Int) x.snd.Tail)
     (.ret ((Go.Vm.Bx.mk true (TRing_Ring.mk (TRing_cursors.mk (0 : Int) (Go.Vm.Sl.mk true (0 : Nat) (fun _i3 => (0 : Int)))) (Go.Vm.Bx.mk true (TSlots_Slots.mk (Go.Vm.Sl.mk true (0 : Nat) (fun _i3 => (TApi_Slot.mk (0 : Int) (0 : Int) (0 : Int)))) (0 : Int))) (0 : Int) false)), (3 : Int)))
     (.need (!y1.fst.nil) <|
     (.jump S_f54_7 D_f54_7 (X_f54_7.mk x.snd y2.fst y1.fst.x))
     )
    )
   )
  )
  )
 )
 )
theorem sd_f54 (x : X_f54) : (tt_f54  x).Sides :=
  (TT.s_call fun _ => (TT.s_ite TT.s_ret (TT.s_call fun _ => (TT.s_ite TT.s_ret (TT.s_ite TT.s_ret (TT.s_ite TT.s_ret (TT.s_need TT.s_jump)))))))

theorem dn_f54 (x : X_f54) : J_f54.den [⟨S_f54_15, D_f54_15⟩, ⟨S_f54_14, D_f54_14⟩, ⟨S_f54_9, D_f54_9⟩, ⟨S_f54_7, D_f54_7⟩] S_f54 x 4000 = (tt_f54  x).tree J_f54.enc := by kernel_rfl
theorem st_f54  : LabOK J_f54 S_f54 (.of tt_f54) :=
  lab_ok mixed_ok (labs_cons rfl ok_f54_15 (labs_cons rfl ok_f54_14 (labs_cons rfl ok_f54_9 (labs_cons rfl ok_f54_7 labs_nil)))) 4000 (dn_f54 ) (sd_f54 )
noncomputable def D_f54 : Dyn X_f54 R_f54 := .of tt_f54
theorem ct_f54 (x : X_f54) (y : R_f54) (h : D_f54.rel x y) : OK Try.prog 54 [e_TApi_Ring x.1, e_TApi_RingState x.2] [] (V.tup (V.cons ((eBx e_TRing_Ring) y.1) (V.cons ((V.int .i64) y.2) (V.unit)))) [] :=
  contract (fn := Try.f54) (J := J_f54) (S := S_f54) (D := D_f54) (by kernel_rfl) (code := Try.f54.body.getD .skip) (by kernel_rfl) rfl st_f54 rfl (x := x) (y := y) h rfl rfl rfl rfl rfl (by kernel_rfl)
noncomputable def con_f54 : Con Try.prog where
  f := 54
  fn := Try.f54
  hf := by kernel_rfl
  hb := by kernel_rfl
  hn := by kernel_rfl
  X := X_f54
  Y := R_f54
  args := fun x => [e_TApi_Ring x.1, e_TApi_RingState x.2]
  objs := fun x => []
  res := fun y => V.tup (V.cons ((eBx e_TRing_Ring) y.1) (V.cons ((V.int .i64) y.2) (V.unit)))
  outs := fun y => []
  rel := D_f54.rel
  ev := D_f54.ev
  evOK := D_f54.evOK
  dec := fun l m => (d_TApi_Ring (at_ l 0), d_TApi_RingState (at_ l 1))
  ash := [.any, sh_TApi_RingState]
  osh := []
  ok := ct_f54

/-! thread.Code$1 (f83v0) -/
abbrev X_f83v0 : Type := TApi_Instr × (Sl TApi_Instr)
abbrev R_f83v0 : Type := Bool
noncomputable def J_f83v0 : Job Try.prog where
  fn := Try.f83
  nt := 19
  pol := tabN 0 [(2, 3), (7, 1), (10, 1)]
  hint := tabN [] []
  finH := []
  rsh := [.any]
  psh := []
  tab := [con_f84, con_f85]
  R := R_f83v0
  enc := fun y => [V.bool y]
noncomputable def S_f83v0 : LabS where
  id := 0
  K := [.code (Try.f83.body.getD .skip)]
  lay := entryLay 2 0
  X := X_f83v0
  enc := fun x => [e_TApi_Instr x.1, (eVp (eSl none 6 e_TApi_Instr)) x.2]
  dec := fun l => (d_TApi_Instr (at_ l 0), (dVp (dSl d_TApi_Instr)) (at_ l 1))
noncomputable def tt_f83v0 (x : X_f83v0) : TT Try.prog R_f83v0 :=
 (.call con_f84 x.fst fun (y1 : R_f84) =>
 (.ite (!y1)
  .fail
  (.call con_f85 x.fst fun (y2 : R_f85) =>
  (.ite y2
   (.ret (Go.Vm.ilt (Go.IntKind.wrap Go.IntKind.u64 ((x.snd.n : Nat) : Int)) x.fst.K))
   (.ret false)
  )
  )
 )
 )
theorem sd_f83v0 (x : X_f83v0) : (tt_f83v0  x).Sides :=
  (TT.s_call fun _ => (TT.s_ite TT.s_fail (TT.s_call fun _ => (TT.s_ite TT.s_ret TT.s_ret))))

theorem dn_f83v0 (x : X_f83v0) : J_f83v0.den [] S_f83v0 x 4000 = (tt_f83v0  x).tree J_f83v0.enc := by kernel_rfl
theorem st_f83v0  : LabOK J_f83v0 S_f83v0 (.of tt_f83v0) :=
  lab_ok mixed_ok labs_nil 4000 (dn_f83v0 ) (sd_f83v0 )
noncomputable def D_f83v0 : Dyn X_f83v0 R_f83v0 := .of tt_f83v0
theorem ct_f83v0 (x : X_f83v0) (y : R_f83v0) (h : D_f83v0.rel x y) : OK Try.prog 83 [e_TApi_Instr x.1, (eVp (eSl none 6 e_TApi_Instr)) x.2] [] (V.bool y) [] :=
  contract (fn := Try.f83) (J := J_f83v0) (S := S_f83v0) (D := D_f83v0) (by kernel_rfl) (code := Try.f83.body.getD .skip) (by kernel_rfl) rfl st_f83v0 rfl (x := x) (y := y) h rfl rfl rfl rfl rfl (by kernel_rfl)
noncomputable def con_f83v0 : Con Try.prog where
  f := 83
  fn := Try.f83
  hf := by kernel_rfl
  hb := by kernel_rfl
  hn := by kernel_rfl
  X := X_f83v0
  Y := R_f83v0
  args := fun x => [e_TApi_Instr x.1, (eVp (eSl none 6 e_TApi_Instr)) x.2]
  objs := fun x => []
  res := fun y => V.bool y
  outs := fun y => []
  rel := D_f83v0.rel
  ev := D_f83v0.ev
  evOK := D_f83v0.evOK
  dec := fun l m => (d_TApi_Instr (at_ l 0), (dVp (dSl d_TApi_Instr)) (at_ l 1))
  ash := [.any, .any]
  osh := []
  ok := ct_f83v0

/-! slices.IndexFunc[[]api.Instr,api.Instr] (f88v0) -/
abbrev X_f88v0 : Type := (Sl TApi_Instr) × ((Sl TApi_Instr))
abbrev R_f88v0 : Type := Int
noncomputable def J_f88v0 : Job Try.prog where
  fn := Try.f88
  nt := 19
  pol := tabN 0 [(8, 1), (17, 1)]
  hint := tabN [] []
  finH := []
  rsh := [.any]
  psh := []
  tab := [con_f83v0]
  R := R_f88v0
  enc := fun y => [(V.int .i64) y]
noncomputable def S_f88v0 : LabS where
  id := 0
  K := [.code (Try.f88.body.getD .skip)]
  lay := entryLay 2 0
  X := X_f88v0
  enc := fun x => [(eSl none 6 e_TApi_Instr) x.1, (fun x : ((Sl TApi_Instr)) => V.fn 83 (V.cons ((eVp (eSl none 6 e_TApi_Instr)) x) (V.unit))) x.2]
  dec := fun l => ((dSl d_TApi_Instr) (at_ l 0), (fun v => ((dVp (dSl d_TApi_Instr)) (fd (fnc v) 0) : ((Sl TApi_Instr)))) (at_ l 1))
structure X_f88v0_2 where
  s_0 : (Sl TApi_Instr)
  f_1 : ((Sl TApi_Instr))
  q_7 : Int
  q_8 : Int
noncomputable def S_f88v0_2 : LabS where
  id := 2
  K := (kAt 2 (Try.f88.body.getD .skip) []).getD []
  lay := { live := [(0, (.sl none 6 (e_TApi_Instr (d_TApi_Instr .undef)))), (1, .any), (7, .any), (8, .any)], pars := [], locs := [] }
  X := X_f88v0_2
  enc := fun x => [(eSl none 6 e_TApi_Instr) x.s_0, (fun x : ((Sl TApi_Instr)) => V.fn 83 (V.cons ((eVp (eSl none 6 e_TApi_Instr)) x) (V.unit))) x.f_1, (V.int .i64) x.q_7, (V.int .i64) x.q_8]
  dec := fun l => ⟨(dSl d_TApi_Instr) (at_ l 0), (fun v => ((dVp (dSl d_TApi_Instr)) (fd (fnc v) 0) : ((Sl TApi_Instr)))) (at_ l 1), dI (at_ l 2), dI (at_ l 3)⟩
noncomputable def tt_f88v0_2 (D_f88v0_2 : Dyn X_f88v0_2 R_f88v0) (x : X_f88v0_2) : TT Try.prog R_f88v0 :=
 (.ite (Go.Vm.ilt x.q_8 x.q_7)
  (.need (Go.Vm.inb x.q_8 x.s_0.n) <|
  (.call con_f83v0 ((x.s_0.get (Int.toNat x.q_8)), x.f_1) fun (y2 : R_f83v0) =>
  (.ite y2
   (.ret x.q_8)
   (.jump S_f88v0_2 D_f88v0_2 (X_f88v0_2.mk x.s_0 x.f_1 x.q_7 (Go.IntKind.wrap Go.IntKind.i64 (x.q_8 + (1 : Int)))))
  )
  )
  )
  (.ret (-(1 : Int)))
 )
theorem sd_f88v0_2 (D_f88v0_2 : Dyn X_f88v0_2 R_f88v0) (x : X_f88v0_2) : (tt_f88v0_2 D_f88v0_2 x).Sides :=
  (TT.s_ite (TT.s_need (TT.s_call fun _ => (TT.s_ite TT.s_ret TT.s_jump))) TT.s_ret)

theorem dn_f88v0_2 (D_f88v0_2 : Dyn X_f88v0_2 R_f88v0) (x : X_f88v0_2) : J_f88v0.den [⟨S_f88v0_2, D_f88v0_2⟩] S_f88v0_2 x 4000 = (tt_f88v0_2 D_f88v0_2 x).tree J_f88v0.enc := by kernel_rfl
theorem st_f88v0_2 (D_f88v0_2 : Dyn X_f88v0_2 R_f88v0) (h_2 : LabOK J_f88v0 S_f88v0_2 D_f88v0_2) : LabOK J_f88v0 S_f88v0_2 (.of (tt_f88v0_2 D_f88v0_2)) :=
  lab_ok mixed_ok (labs_cons rfl h_2 labs_nil) 4000 (dn_f88v0_2 D_f88v0_2) (sd_f88v0_2 D_f88v0_2)
noncomputable def D_f88v0_2 : Dyn X_f88v0_2 R_f88v0 := Dyn.loop (tt_f88v0_2 )
theorem ok_f88v0_2  : LabOK J_f88v0 S_f88v0_2 (D_f88v0_2 ) :=
  loop_ok fun D h => st_f88v0_2  D  h
noncomputable def tt_f88v0 (x : X_f88v0) : TT Try.prog R_f88v0 :=
 (.jump S_f88v0_2 D_f88v0_2 (X_f88v0_2.mk x.fst x.snd ((x.fst.n : Nat) : Int) (0 : Int)))
theorem sd_f88v0 (x : X_f88v0) : (tt_f88v0  x).Sides :=
  TT.s_jump

theorem dn_f88v0 (x : X_f88v0) : J_f88v0.den [⟨S_f88v0_2, D_f88v0_2⟩] S_f88v0 x 4000 = (tt_f88v0  x).tree J_f88v0.enc := by kernel_rfl
theorem st_f88v0  : LabOK J_f88v0 S_f88v0 (.of tt_f88v0) :=
  lab_ok mixed_ok (labs_cons rfl ok_f88v0_2 labs_nil) 4000 (dn_f88v0 ) (sd_f88v0 )
noncomputable def D_f88v0 : Dyn X_f88v0 R_f88v0 := .of tt_f88v0
theorem ct_f88v0 (x : X_f88v0) (y : R_f88v0) (h : D_f88v0.rel x y) : OK Try.prog 88 [(eSl none 6 e_TApi_Instr) x.1, (fun x : ((Sl TApi_Instr)) => V.fn 83 (V.cons ((eVp (eSl none 6 e_TApi_Instr)) x) (V.unit))) x.2] [] ((V.int .i64) y) [] :=
  contract (fn := Try.f88) (J := J_f88v0) (S := S_f88v0) (D := D_f88v0) (by kernel_rfl) (code := Try.f88.body.getD .skip) (by kernel_rfl) rfl st_f88v0 rfl (x := x) (y := y) h rfl rfl rfl rfl rfl (by kernel_rfl)
noncomputable def con_f88v0 : Con Try.prog where
  f := 88
  fn := Try.f88
  hf := by kernel_rfl
  hb := by kernel_rfl
  hn := by kernel_rfl
  X := X_f88v0
  Y := R_f88v0
  args := fun x => [(eSl none 6 e_TApi_Instr) x.1, (fun x : ((Sl TApi_Instr)) => V.fn 83 (V.cons ((eVp (eSl none 6 e_TApi_Instr)) x) (V.unit))) x.2]
  objs := fun x => []
  res := fun y => (V.int .i64) y
  outs := fun y => []
  rel := D_f88v0.rel
  ev := D_f88v0.ev
  evOK := D_f88v0.evOK
  dec := fun l m => ((dSl d_TApi_Instr) (at_ l 0), (fun v => ((dVp (dSl d_TApi_Instr)) (fd (fnc v) 0) : ((Sl TApi_Instr)))) (at_ l 1))
  ash := [(.sl none 6 (e_TApi_Instr (d_TApi_Instr .undef))), .any]
  osh := []
  ok := ct_f88v0

/-! slices.ContainsFunc[[]api.Instr,api.Instr] (f82v0) -/
abbrev X_f82v0 : Type := (Sl TApi_Instr) × ((Sl TApi_Instr))
abbrev R_f82v0 : Type := Bool
noncomputable def J_f82v0 : Job Try.prog where
  fn := Try.f82
  nt := 9
  pol := tabN 0 [(5, 1), (6, 1)]
  hint := tabN [] []
  finH := []
  rsh := [.any]
  psh := []
  tab := [con_f88v0]
  R := R_f82v0
  enc := fun y => [V.bool y]
noncomputable def S_f82v0 : LabS where
  id := 0
  K := [.code (Try.f82.body.getD .skip)]
  lay := entryLay 2 0
  X := X_f82v0
  enc := fun x => [(eSl none 6 e_TApi_Instr) x.1, (fun x : ((Sl TApi_Instr)) => V.fn 83 (V.cons ((eVp (eSl none 6 e_TApi_Instr)) x) (V.unit))) x.2]
  dec := fun l => ((dSl d_TApi_Instr) (at_ l 0), (fun v => ((dVp (dSl d_TApi_Instr)) (fd (fnc v) 0) : ((Sl TApi_Instr)))) (at_ l 1))
noncomputable def tt_f82v0 (x : X_f82v0) : TT Try.prog R_f82v0 :=
 (.call con_f88v0 x fun (y1 : R_f88v0) =>
 (.ret (Go.Vm.ile (0 : Int) y1))
 )
theorem sd_f82v0 (x : X_f82v0) : (tt_f82v0  x).Sides :=
  (TT.s_call fun _ => TT.s_ret)

theorem dn_f82v0 (x : X_f82v0) : J_f82v0.den [] S_f82v0 x 4000 = (tt_f82v0  x).tree J_f82v0.enc := by kernel_rfl
theorem st_f82v0  : LabOK J_f82v0 S_f82v0 (.of tt_f82v0) :=
  lab_ok mixed_ok labs_nil 4000 (dn_f82v0 ) (sd_f82v0 )
noncomputable def D_f82v0 : Dyn X_f82v0 R_f82v0 := .of tt_f82v0
theorem ct_f82v0 (x : X_f82v0) (y : R_f82v0) (h : D_f82v0.rel x y) : OK Try.prog 82 [(eSl none 6 e_TApi_Instr) x.1, (fun x : ((Sl TApi_Instr)) => V.fn 83 (V.cons ((eVp (eSl none 6 e_TApi_Instr)) x) (V.unit))) x.2] [] (V.bool y) [] :=
  contract (fn := Try.f82) (J := J_f82v0) (S := S_f82v0) (D := D_f82v0) (by kernel_rfl) (code := Try.f82.body.getD .skip) (by kernel_rfl) rfl st_f82v0 rfl (x := x) (y := y) h rfl rfl rfl rfl rfl (by kernel_rfl)
noncomputable def con_f82v0 : Con Try.prog where
  f := 82
  fn := Try.f82
  hf := by kernel_rfl
  hb := by kernel_rfl
  hn := by kernel_rfl
  X := X_f82v0
  Y := R_f82v0
  args := fun x => [(eSl none 6 e_TApi_Instr) x.1, (fun x : ((Sl TApi_Instr)) => V.fn 83 (V.cons ((eVp (eSl none 6 e_TApi_Instr)) x) (V.unit))) x.2]
  objs := fun x => []
  res := fun y => V.bool y
  outs := fun y => []
  rel := D_f82v0.rel
  ev := D_f82v0.ev
  evOK := D_f82v0.evOK
  dec := fun l m => ((dSl d_TApi_Instr) (at_ l 0), (fun v => ((dVp (dSl d_TApi_Instr)) (fd (fnc v) 0) : ((Sl TApi_Instr)))) (at_ l 1))
  ash := [(.sl none 6 (e_TApi_Instr (d_TApi_Instr .undef))), .any]
  osh := []
  ok := ct_f82v0

/-! thread.Code -/
abbrev X_f72 : Type := (Sl TApi_Instr)
abbrev R_f72 : Type := Bool
noncomputable def J_f72 : Job Try.prog where
  fn := Try.f72
  nt := 10
  pol := tabN 0 [(1, 3)]
  hint := tabN [] []
  finH := []
  rsh := [.any]
  psh := []
  tab := [con_f82v0]
  R := R_f72
  enc := fun y => [V.bool y]
noncomputable def S_f72 : LabS where
  id := 0
  K := [.code (Try.f72.body.getD .skip)]
  lay := entryLay 1 0
  X := X_f72
  enc := fun x => [(eSl none 6 e_TApi_Instr) x]
  dec := fun l => ((dSl d_TApi_Instr) (at_ l 0))
noncomputable def tt_f72 (x : X_f72) : TT Try.prog R_f72 :=
 (.ite (Go.Vm.ilt (256 : Int) ((x.n : Nat) : Int))
  (.ret false)
  (.call con_f82v0 (x, x) fun (y1 : R_f82v0) =>
  (.ret (!y1))
  )
 )
theorem sd_f72 (x : X_f72) : (tt_f72  x).Sides :=
  (TT.s_ite TT.s_ret (TT.s_call fun _ => TT.s_ret))

theorem dn_f72 (x : X_f72) : J_f72.den [] S_f72 x 4000 = (tt_f72  x).tree J_f72.enc := by kernel_rfl
theorem st_f72  : LabOK J_f72 S_f72 (.of tt_f72) :=
  lab_ok mixed_ok labs_nil 4000 (dn_f72 ) (sd_f72 )
noncomputable def D_f72 : Dyn X_f72 R_f72 := .of tt_f72
theorem ct_f72 (x : X_f72) (y : R_f72) (h : D_f72.rel x y) : OK Try.prog 72 [(eSl none 6 e_TApi_Instr) x] [] (V.bool y) [] :=
  contract (fn := Try.f72) (J := J_f72) (S := S_f72) (D := D_f72) (by kernel_rfl) (code := Try.f72.body.getD .skip) (by kernel_rfl) rfl st_f72 rfl (x := x) (y := y) h rfl rfl rfl rfl rfl (by kernel_rfl)
noncomputable def con_f72 : Con Try.prog where
  f := 72
  fn := Try.f72
  hf := by kernel_rfl
  hb := by kernel_rfl
  hn := by kernel_rfl
  X := X_f72
  Y := R_f72
  args := fun x => [(eSl none 6 e_TApi_Instr) x]
  objs := fun x => []
  res := fun y => V.bool y
  outs := fun y => []
  rel := D_f72.rel
  ev := D_f72.ev
  evOK := D_f72.evOK
  dec := fun l m => ((dSl d_TApi_Instr) (at_ l 0))
  ash := [(.sl none 6 (e_TApi_Instr (d_TApi_Instr .undef)))]
  osh := []
  ok := ct_f72

/-! thread.Right -/
abbrev X_f56 : Type := (Sl TApi_Instr) × TApi_ThreadState
abbrev R_f56 : Type := Bool
noncomputable def J_f56 : Job Try.prog where
  fn := Try.f56
  nt := 88
  pol := tabN 0 [(3, 3), (9, 1), (14, 1), (21, 1), (26, 1), (31, 1), (36, 1), (47, 1), (55, 1), (62, 1), (76, 1), (83, 1)]
  hint := tabN [] []
  finH := []
  rsh := [.any]
  psh := []
  tab := [con_f72]
  R := R_f56
  enc := fun y => [V.bool y]
noncomputable def S_f56 : LabS where
  id := 0
  K := [.code (Try.f56.body.getD .skip)]
  lay := entryLay 2 0
  X := X_f56
  enc := fun x => [(eSl none 6 e_TApi_Instr) x.1, e_TApi_ThreadState x.2]
  dec := fun l => ((dSl d_TApi_Instr) (at_ l 0), d_TApi_ThreadState (at_ l 1))
structure X_f56_3 where
  l_0 : (Sl TApi_Instr)
  s_3 : TApi_ThreadState
noncomputable def S_f56_3 : LabS where
  id := 3
  K := (kAt 3 (Try.f56.body.getD .skip) []).getD []
  lay := { live := [(0, (.sl none 6 (e_TApi_Instr (d_TApi_Instr .undef)))), (3, .any)], pars := [], locs := [] }
  X := X_f56_3
  enc := fun x => [(eSl none 6 e_TApi_Instr) x.l_0, (eVp e_TApi_ThreadState) x.s_3]
  dec := fun l => ⟨(dSl d_TApi_Instr) (at_ l 0), (dVp d_TApi_ThreadState) (at_ l 1)⟩
structure X_f56_7 where
  l_0 : (Sl TApi_Instr)
  s_3 : TApi_ThreadState
noncomputable def S_f56_7 : LabS where
  id := 7
  K := (kAt 7 (Try.f56.body.getD .skip) []).getD []
  lay := { live := [(0, (.sl none 6 (e_TApi_Instr (d_TApi_Instr .undef)))), (3, .any)], pars := [], locs := [] }
  X := X_f56_7
  enc := fun x => [(eSl none 6 e_TApi_Instr) x.l_0, (eVp e_TApi_ThreadState) x.s_3]
  dec := fun l => ⟨(dSl d_TApi_Instr) (at_ l 0), (dVp d_TApi_ThreadState) (at_ l 1)⟩
noncomputable def tt_f56_7 (x : X_f56_7) : TT Try.prog R_f56 :=
 (.need (Go.Vm.inb x.s_3.At x.l_0.n) <|
 (.need (Go.Vm.inb (Go.IntKind.wrap Go.IntKind.i64 (x.s_3.Phase - (1 : Int))) (2 : Nat)) <|
 (.ite (Go.Vm.ieq (x.l_0.get (Int.toNat x.s_3.At)).Op (cond (Nat.beq (Int.toNat (Go.IntKind.wrap Go.IntKind.i64 (x.s_3.Phase - (1 : Int)))) (0 : Nat)) (18 : Int) (19 : Int)))
  (.ite (Go.Vm.ieq (x.l_0.get (Int.toNat x.s_3.At)).C x.s_3.Ring)
   (.ret (Go.Vm.ilt x.s_3.Ticket (4611686018427387904 : Int)))
   (.ret false)
  )
  (.ret false)
 )
 )
 )
theorem sd_f56_7 (x : X_f56_7) : (tt_f56_7  x).Sides :=
  (TT.s_need (TT.s_need (TT.s_ite (TT.s_ite TT.s_ret TT.s_ret) TT.s_ret)))

theorem dn_f56_7 (x : X_f56_7) : J_f56.den [] S_f56_7 x 4000 = (tt_f56_7  x).tree J_f56.enc := by kernel_rfl
theorem st_f56_7  : LabOK J_f56 S_f56_7 (.of tt_f56_7) :=
  lab_ok mixed_ok labs_nil 4000 (dn_f56_7 ) (sd_f56_7 )
noncomputable def D_f56_7 : Dyn X_f56_7 R_f56 := .of (tt_f56_7 )
theorem ok_f56_7  : LabOK J_f56 S_f56_7 (D_f56_7 ) :=
  st_f56_7  
noncomputable def tt_f56_3 (x : X_f56_3) : TT Try.prog R_f56 :=
 (.ite (Go.Vm.ieq x.s_3.Phase (0 : Int))
  (.ite (Go.Vm.ieq x.s_3.Ring (0 : Int))
   (.ret (Go.Vm.ieq x.s_3.Ticket (0 : Int)))
   (.ret false)
  )
  (.ite (!(Go.Vm.ieq x.s_3.Status (0 : Int)))
   (.ret false)
   (.ite (Go.Vm.ieq x.s_3.At ((x.l_0.n : Nat) : Int))
    (.ret false)
    (.jump S_f56_7 D_f56_7 (X_f56_7.mk x.l_0 x.s_3))
   )
  )
 )
theorem sd_f56_3 (x : X_f56_3) : (tt_f56_3  x).Sides :=
  (TT.s_ite (TT.s_ite TT.s_ret TT.s_ret) (TT.s_ite TT.s_ret (TT.s_ite TT.s_ret TT.s_jump)))

theorem dn_f56_3 (x : X_f56_3) : J_f56.den [⟨S_f56_7, D_f56_7⟩] S_f56_3 x 4000 = (tt_f56_3  x).tree J_f56.enc := by kernel_rfl
theorem st_f56_3  : LabOK J_f56 S_f56_3 (.of tt_f56_3) :=
  lab_ok mixed_ok (labs_cons rfl ok_f56_7 labs_nil) 4000 (dn_f56_3 ) (sd_f56_3 )
noncomputable def D_f56_3 : Dyn X_f56_3 R_f56 := .of (tt_f56_3 )
theorem ok_f56_3  : LabOK J_f56 S_f56_3 (D_f56_3 ) :=
  st_f56_3  
noncomputable def tt_f56 (x : X_f56) : TT Try.prog R_f56 :=
 (.call con_f72 x.fst fun (y1 : R_f72) =>
 (.ite (!y1)
  (.ret false)
  (.ite (Go.Vm.ilt x.snd.At (0 : Int))
   (.ret false)
   (.ite (Go.Vm.ilt ((x.fst.n : Nat) : Int) x.snd.At)
    (.ret false)
    (.ite (Go.Vm.ilt x.snd.Status (0 : Int))
     (.ret false)
     (.ite (Go.Vm.ilt (2 : Int) x.snd.Status)
      (.ret false)
      (.ite (Go.Vm.ilt x.snd.Phase (0 : Int))
       (.ret false)
       (.ite (Go.Vm.ilt (2 : Int) x.snd.Phase)
        (.ret false)
        (.jump S_f56_3 D_f56_3 (X_f56_3.mk x.fst x.snd))
       )
      )
     )
    )
   )
  )
 )
 )
theorem sd_f56 (x : X_f56) : (tt_f56  x).Sides :=
  (TT.s_call fun _ => (TT.s_ite TT.s_ret (TT.s_ite TT.s_ret (TT.s_ite TT.s_ret (TT.s_ite TT.s_ret (TT.s_ite TT.s_ret (TT.s_ite TT.s_ret (TT.s_ite TT.s_ret TT.s_jump))))))))

theorem dn_f56 (x : X_f56) : J_f56.den [⟨S_f56_7, D_f56_7⟩, ⟨S_f56_3, D_f56_3⟩] S_f56 x 4000 = (tt_f56  x).tree J_f56.enc := by kernel_rfl
theorem st_f56  : LabOK J_f56 S_f56 (.of tt_f56) :=
  lab_ok mixed_ok (labs_cons rfl ok_f56_7 (labs_cons rfl ok_f56_3 labs_nil)) 4000 (dn_f56 ) (sd_f56 )
noncomputable def D_f56 : Dyn X_f56 R_f56 := .of tt_f56
theorem ct_f56 (x : X_f56) (y : R_f56) (h : D_f56.rel x y) : OK Try.prog 56 [(eSl none 6 e_TApi_Instr) x.1, e_TApi_ThreadState x.2] [] (V.bool y) [] :=
  contract (fn := Try.f56) (J := J_f56) (S := S_f56) (D := D_f56) (by kernel_rfl) (code := Try.f56.body.getD .skip) (by kernel_rfl) rfl st_f56 rfl (x := x) (y := y) h rfl rfl rfl rfl rfl (by kernel_rfl)
noncomputable def con_f56 : Con Try.prog where
  f := 56
  fn := Try.f56
  hf := by kernel_rfl
  hb := by kernel_rfl
  hn := by kernel_rfl
  X := X_f56
  Y := R_f56
  args := fun x => [(eSl none 6 e_TApi_Instr) x.1, e_TApi_ThreadState x.2]
  objs := fun x => []
  res := fun y => V.bool y
  outs := fun y => []
  rel := D_f56.rel
  ev := D_f56.ev
  evOK := D_f56.evOK
  dec := fun l m => ((dSl d_TApi_Instr) (at_ l 0), d_TApi_ThreadState (at_ l 1))
  ash := [(.sl none 6 (e_TApi_Instr (d_TApi_Instr .undef))), sh_TApi_ThreadState]
  osh := []
  ok := ct_f56

/-! (*ring.Ring).Tail -/
abbrev X_f73 : Type := TRing_Ring
abbrev R_f73 : Type := Int × TRing_Ring
noncomputable def J_f73 : Job Try.prog where
  fn := Try.f73
  nt := 10
  pol := tabN 0 [(5, 1)]
  hint := tabN [] []
  finH := []
  rsh := [.any]
  psh := [sh_TRing_Ring]
  tab := []
  R := R_f73
  enc := fun y => [(V.int .u64) y.1, e_TRing_Ring y.2]
noncomputable def S_f73 : LabS where
  id := 0
  K := [.code (Try.f73.body.getD .skip)]
  lay := entryLay 1 1
  X := X_f73
  enc := fun x => [(V.ptr (.par 0) []), e_TRing_Ring x]
  dec := fun l => (d_TRing_Ring (at_ l 1))
noncomputable def tt_f73 (x : X_f73) : TT Try.prog R_f73 :=
 (.ret (x.cursors.tail, x))
theorem sd_f73 (x : X_f73) : (tt_f73  x).Sides :=
  TT.s_ret

theorem dn_f73 (x : X_f73) : J_f73.den [] S_f73 x 4000 = (tt_f73  x).tree J_f73.enc := by kernel_rfl
theorem st_f73  : LabOK J_f73 S_f73 (.of tt_f73) :=
  lab_ok mixed_ok labs_nil 4000 (dn_f73 ) (sd_f73 )
noncomputable def D_f73 : Dyn X_f73 R_f73 := .of tt_f73
theorem ct_f73 (x : X_f73) (y : R_f73) (h : D_f73.rel x y) : OK Try.prog 73 [(V.ptr (.par 0) [])] [e_TRing_Ring x] ((V.int .u64) y.1) [e_TRing_Ring y.2] :=
  contract (fn := Try.f73) (J := J_f73) (S := S_f73) (D := D_f73) (by kernel_rfl) (code := Try.f73.body.getD .skip) (by kernel_rfl) rfl st_f73 rfl (x := x) (y := y) h rfl rfl rfl rfl rfl (by kernel_rfl)
noncomputable def con_f73 : Con Try.prog where
  f := 73
  fn := Try.f73
  hf := by kernel_rfl
  hb := by kernel_rfl
  hn := by kernel_rfl
  X := X_f73
  Y := R_f73
  args := fun x => [(V.ptr (.par 0) [])]
  objs := fun x => [e_TRing_Ring x]
  res := fun y => (V.int .u64) y.1
  outs := fun y => [e_TRing_Ring y.2]
  rel := D_f73.rel
  ev := D_f73.ev
  evOK := D_f73.evOK
  dec := fun l m => (d_TRing_Ring (at_ m 0))
  ash := [.any]
  osh := [sh_TRing_Ring]
  ok := ct_f73

/-! (*ring.cursors).reader -/
abbrev X_f86 : Type := Int × TRing_cursors
abbrev R_f86 : Type := Bool × TRing_cursors
noncomputable def J_f86 : Job Try.prog where
  fn := Try.f86
  nt := 16
  pol := tabN 0 [(7, 1), (8, 1), (9, 1)]
  hint := tabN [] [(0, [.close (.loc 12 0)]), (1, [.close (.loc 12 0)])]
  finH := [.close (.loc 12 0)]
  rsh := [.any]
  psh := [sh_TRing_cursors]
  tab := []
  R := R_f86
  enc := fun y => [V.bool y.1, e_TRing_cursors y.2]
noncomputable def S_f86 : LabS where
  id := 0
  K := [.code (Try.f86.body.getD .skip)]
  lay := entryLay 2 1
  X := X_f86
  enc := fun x => [(V.ptr (.par 0) []), (V.int .i64) x.1, e_TRing_cursors x.2]
  dec := fun l => (dI (at_ l 1), d_TRing_cursors (at_ l 2))
noncomputable def tt_f86 (x : X_f86) : TT Try.prog R_f86 :=
 (.ite (Go.Vm.ile (0 : Int) x.fst)
  (.need ((true && true) && (Nat.beq x.snd.heads.n x.snd.heads.n)) <|
  (.ret ((Go.Vm.ilt x.fst ((x.snd.heads.n : Nat) : Int)), x.snd))
  )
  (.ret (false, x.snd))
 )
theorem sd_f86 (x : X_f86) : (tt_f86  x).Sides :=
  (TT.s_ite (TT.s_need TT.s_ret) TT.s_ret)

theorem dn_f86 (x : X_f86) : J_f86.den [] S_f86 x 4000 = (tt_f86  x).tree J_f86.enc := by kernel_rfl
theorem st_f86  : LabOK J_f86 S_f86 (.of tt_f86) :=
  lab_ok mixed_ok labs_nil 4000 (dn_f86 ) (sd_f86 )
noncomputable def D_f86 : Dyn X_f86 R_f86 := .of tt_f86
theorem ct_f86 (x : X_f86) (y : R_f86) (h : D_f86.rel x y) : OK Try.prog 86 [(V.ptr (.par 0) []), (V.int .i64) x.1] [e_TRing_cursors x.2] (V.bool y.1) [e_TRing_cursors y.2] :=
  contract (fn := Try.f86) (J := J_f86) (S := S_f86) (D := D_f86) (by kernel_rfl) (code := Try.f86.body.getD .skip) (by kernel_rfl) rfl st_f86 rfl (x := x) (y := y) h rfl rfl rfl rfl rfl (by kernel_rfl)
noncomputable def con_f86 : Con Try.prog where
  f := 86
  fn := Try.f86
  hf := by kernel_rfl
  hb := by kernel_rfl
  hn := by kernel_rfl
  X := X_f86
  Y := R_f86
  args := fun x => [(V.ptr (.par 0) []), (V.int .i64) x.1]
  objs := fun x => [e_TRing_cursors x.2]
  res := fun y => V.bool y.1
  outs := fun y => [e_TRing_cursors y.2]
  rel := D_f86.rel
  ev := D_f86.ev
  evOK := D_f86.evOK
  dec := fun l m => (dI (at_ l 1), d_TRing_cursors (at_ m 0))
  ash := [.any, .any]
  osh := [sh_TRing_cursors]
  ok := ct_f86

/-! (*ring.Ring).Head -/
abbrev X_f74 : Type := Int × TRing_Ring
abbrev R_f74 : Type := Int × TRing_Ring
noncomputable def J_f74 : Job Try.prog where
  fn := Try.f74
  nt := 23
  pol := tabN 0 [(7, 1), (15, 1), (20, 1)]
  hint := tabN [] [(0, [.close (.loc 19 0)]), (1, [.close (.loc 19 0)]), (2, [.close (.loc 19 0)]), (3, [.close (.loc 19 0)])]
  finH := [.close (.loc 19 0)]
  rsh := [.any]
  psh := [sh_TRing_Ring]
  tab := [con_f86]
  R := R_f74
  enc := fun y => [(V.int .u64) y.1, e_TRing_Ring y.2]
noncomputable def S_f74 : LabS where
  id := 0
  K := [.code (Try.f74.body.getD .skip)]
  lay := entryLay 2 1
  X := X_f74
  enc := fun x => [(V.ptr (.par 0) []), (V.int .i64) x.1, e_TRing_Ring x.2]
  dec := fun l => (dI (at_ l 1), d_TRing_Ring (at_ l 2))
structure X_f74_3 where
  j_1 : Int
  o_0 : TRing_Ring
noncomputable def S_f74_3 : LabS where
  id := 3
  K := (kAt 3 (Try.f74.body.getD .skip) []).getD []
  lay := { live := [(0, .any), (1, .any)], pars := [sh_TRing_Ring], locs := [] }
  X := X_f74_3
  enc := fun x => [(V.ptr (.par 0) []), (V.int .i64) x.j_1, e_TRing_Ring x.o_0]
  dec := fun l => ⟨dI (at_ l 1), d_TRing_Ring (at_ l 2)⟩
noncomputable def tt_f74_3 (x : X_f74_3) : TT Try.prog R_f74 :=
 (.need (Go.Vm.inb x.j_1 x.o_0.cursors.heads.n) <|
 (.need ((Nat.beq x.o_0.cursors.heads.n x.o_0.cursors.heads.n) && true) <|
 (.need ((true && true) && (Nat.beq x.o_0.cursors.heads.n x.o_0.cursors.heads.n)) <|
 (.ret ((x.o_0.cursors.heads.get ((0 : Nat) + (Int.toNat x.j_1))), x.o_0))
 )
 )
 )
theorem sd_f74_3 (x : X_f74_3) : (tt_f74_3  x).Sides :=
  (TT.s_need (TT.s_need (TT.s_need TT.s_ret)))

theorem dn_f74_3 (x : X_f74_3) : J_f74.den [] S_f74_3 x 4000 = (tt_f74_3  x).tree J_f74.enc := by kernel_rfl
theorem st_f74_3  : LabOK J_f74 S_f74_3 (.of tt_f74_3) :=
  lab_ok mixed_ok labs_nil 4000 (dn_f74_3 ) (sd_f74_3 )
noncomputable def D_f74_3 : Dyn X_f74_3 R_f74 := .of (tt_f74_3 )
theorem ok_f74_3  : LabOK J_f74 S_f74_3 (D_f74_3 ) :=
  st_f74_3  
noncomputable def tt_f74 (x : X_f74) : TT Try.prog R_f74 :=
 (.call con_f86 (x.fst, x.snd.cursors) fun (y1 : R_f86) =>
 (.ite (!y1.fst)
  (.ret ((0 : Int), (TRing_Ring.mk y1.snd x.snd.s x.snd.most x.snd.closed)))
  (.jump S_f74_3 D_f74_3 (X_f74_3.mk x.fst (TRing_Ring.mk y1.snd x.snd.s x.snd.most x.snd.closed)))
 )
 )
theorem sd_f74 (x : X_f74) : (tt_f74  x).Sides :=
  (TT.s_call fun _ => (TT.s_ite TT.s_ret TT.s_jump))

theorem dn_f74 (x : X_f74) : J_f74.den [⟨S_f74_3, D_f74_3⟩] S_f74 x 4000 = (tt_f74  x).tree J_f74.enc := by kernel_rfl
theorem st_f74  : LabOK J_f74 S_f74 (.of tt_f74) :=
  lab_ok mixed_ok (labs_cons rfl ok_f74_3 labs_nil) 4000 (dn_f74 ) (sd_f74 )
noncomputable def D_f74 : Dyn X_f74 R_f74 := .of tt_f74
theorem ct_f74 (x : X_f74) (y : R_f74) (h : D_f74.rel x y) : OK Try.prog 74 [(V.ptr (.par 0) []), (V.int .i64) x.1] [e_TRing_Ring x.2] ((V.int .u64) y.1) [e_TRing_Ring y.2] :=
  contract (fn := Try.f74) (J := J_f74) (S := S_f74) (D := D_f74) (by kernel_rfl) (code := Try.f74.body.getD .skip) (by kernel_rfl) rfl st_f74 rfl (x := x) (y := y) h rfl rfl rfl rfl rfl (by kernel_rfl)
noncomputable def con_f74 : Con Try.prog where
  f := 74
  fn := Try.f74
  hf := by kernel_rfl
  hb := by kernel_rfl
  hn := by kernel_rfl
  X := X_f74
  Y := R_f74
  args := fun x => [(V.ptr (.par 0) []), (V.int .i64) x.1]
  objs := fun x => [e_TRing_Ring x.2]
  res := fun y => (V.int .u64) y.1
  outs := fun y => [e_TRing_Ring y.2]
  rel := D_f74.rel
  ev := D_f74.ev
  evOK := D_f74.evOK
  dec := fun l m => (dI (at_ l 1), d_TRing_Ring (at_ m 0))
  ash := [.any, .any]
  osh := [sh_TRing_Ring]
  ok := ct_f74

/-! (*fabric.Fabric).pending -/
abbrev X_f57 : Type := Int × TFabric_Fabric
abbrev R_f57 : Type := Bool × TFabric_Fabric
noncomputable def J_f57 : Job Try.prog where
  fn := Try.f57
  nt := 57
  pol := tabN 0 [(19, 1), (41, 1), (46, 1)]
  hint := tabN [] [(0, [.close (.loc 40 0), .close (.loc 36 0), .close (.loc 26 0), .close (.loc 22 0), .close (.loc 9 0)]), (1, [.close (.loc 40 0), .close (.loc 36 0), .close (.loc 26 0), .close (.loc 22 0), .close (.loc 9 0)]), (2, [.close (.loc 40 0), .close (.loc 36 0), .close (.loc 26 0), .close (.loc 22 0), .close (.loc 9 0)]), (3, [.close (.loc 40 0), .close (.loc 36 0), .close (.loc 26 0), .close (.loc 22 0), .close (.loc 9 0)]), (4, [.close (.loc 40 0), .close (.loc 36 0), .close (.loc 26 0), .close (.loc 22 0), .close (.loc 9 0)]), (5, [.close (.loc 40 0), .close (.loc 36 0), .close (.loc 26 0), .close (.loc 22 0), .close (.loc 9 0)]), (6, [.close (.loc 40 0), .close (.loc 36 0), .close (.loc 26 0), .close (.loc 22 0), .close (.loc 9 0)]), (7, [.close (.loc 40 0), .close (.loc 36 0), .close (.loc 26 0), .close (.loc 22 0), .close (.loc 9 0)])]
  finH := [.close (.loc 40 0), .close (.loc 36 0), .close (.loc 26 0), .close (.loc 22 0), .close (.loc 9 0)]
  rsh := [.any]
  psh := [sh_TFabric_Fabric]
  tab := [con_f73, con_f74]
  R := R_f57
  enc := fun y => [V.bool y.1, e_TFabric_Fabric y.2]
noncomputable def S_f57 : LabS where
  id := 0
  K := [.code (Try.f57.body.getD .skip)]
  lay := entryLay 2 1
  X := X_f57
  enc := fun x => [(V.ptr (.par 0) []), (V.int .i64) x.1, e_TFabric_Fabric x.2]
  dec := fun l => (dI (at_ l 1), d_TFabric_Fabric (at_ l 2))
noncomputable def tt_f57 (x : X_f57) : TT Try.prog R_f57 :=
 (.need (Go.Vm.inb x.fst x.snd.threads.n) <|
 (.need ((Nat.beq x.snd.threads.n x.snd.threads.n) && true) <|
 (.need ((true && true) && (Nat.beq x.snd.threads.n x.snd.threads.n)) <|
 (.ite (Go.Vm.ieq (x.snd.threads.get ((0 : Nat) + (Int.toNat x.fst))).Phase (1 : Int))
  (.need (Go.Vm.inb (x.snd.threads.get ((0 : Nat) + (Int.toNat x.fst))).Ring x.snd.rings.n) <|
  (.need (((Nat.beq x.snd.rings.n x.snd.rings.n) && true) && (!(x.snd.rings.get ((0 : Nat) + (Int.toNat (x.snd.threads.get ((0 : Nat) + (Int.toNat x.fst))).Ring))).nil)) <|
  (.call con_f73 (x.snd.rings.get ((0 : Nat) + (Int.toNat (x.snd.threads.get ((0 : Nat) + (Int.toNat x.fst))).Ring))).x fun (y1 : R_f73) =>
  (.need ((true && true) && ((Nat.beq x.snd.rings.n x.snd.rings.n) && (Nat.blt ((0 : Nat) + (Int.toNat (x.snd.threads.get ((0 : Nat) + (Int.toNat x.fst))).Ring)) x.snd.rings.n))) <|
  (.side ((fun i2 => (cond (Nat.beq i2 ((0 : Nat) + (Int.toNat (x.snd.threads.get ((0 : Nat) + (Int.toNat x.fst))).Ring))) (Go.Vm.V.ptr (Go.Vm.Id.loc (26 : Nat) (0 : Nat)) List.nil) (Go.Vm.V.obox (x.snd.rings.get i2).nil (Go.Vm.V.cons (Go.Vm.V.cons (Go.Vm.V.int Go.IntKind.u64 (x.snd.rings.get i2).x.cursors.tail) (Go.Vm.V.cons (Go.Vm.V.osl (24 : Nat) (1 : Nat) (x.snd.rings.get i2).x.cursors.heads.nil (x.snd.rings.get i2).x.cursors.heads.n (fun i3 => (Go.Vm.V.int Go.IntKind.u64 ((x.snd.rings.get i2).x.cursors.heads.get i3)))) Go.Vm.V.unit)) (Go.Vm.V.cons (Go.Vm.V.obox (x.snd.rings.get i2).x.s.nil (Go.Vm.V.cons (Go.Vm.V.osl (72 : Nat) (3 : Nat) (x.snd.rings.get i2).x.s.x.l.nil (x.snd.rings.get i2).x.s.x.l.n (fun i3 => (Go.Vm.V.cons (Go.Vm.V.int Go.IntKind.u64 ((x.snd.rings.get i2).x.s.x.l.get i3).Stamp) (Go.Vm.V.cons (Go.Vm.V.int Go.IntKind.u64 ((x.snd.rings.get i2).x.s.x.l.get i3).Value) (Go.Vm.V.cons (Go.Vm.V.int Go.IntKind.i64 ((x.snd.rings.get i2).x.s.x.l.get i3).Left) Go.Vm.V.unit))))) (Go.Vm.V.cons (Go.Vm.V.int Go.IntKind.i64 (x.snd.rings.get i2).x.s.x.readers) Go.Vm.V.unit))) (Go.Vm.V.cons (Go.Vm.V.int Go.IntKind.u64 (x.snd.rings.get i2).x.most) (Go.Vm.V.cons (Go.Vm.V.bool (x.snd.rings.get i2).x.closed) Go.Vm.V.unit))))))) = (fun i2 => (cond (Nat.beq i2 ((0 : Nat) + (Int.toNat (x.snd.threads.get ((0 : Nat) + (Int.toNat x.fst))).Ring))) (Go.Vm.V.ptr (Go.Vm.Id.loc (26 : Nat) (0 : Nat)) List.nil) (Go.Vm.V.obox (x.snd.rings.get i2).nil (Go.Vm.V.cons (Go.Vm.V.cons (Go.Vm.V.int Go.IntKind.u64 (x.snd.rings.get i2).x.cursors.tail) (Go.Vm.V.cons (Go.Vm.V.osl (24 : Nat) (1 : Nat) (x.snd.rings.get i2).x.cursors.heads.nil (x.snd.rings.get i2).x.cursors.heads.n (fun i3 => (Go.Vm.V.int Go.IntKind.u64 ((x.snd.rings.get i2).x.cursors.heads.get i3)))) Go.Vm.V.unit)) (Go.Vm.V.cons (Go.Vm.V.obox (x.snd.rings.get i2).x.s.nil (Go.Vm.V.cons (Go.Vm.V.osl (72 : Nat) (3 : Nat) (x.snd.rings.get i2).x.s.x.l.nil (x.snd.rings.get i2).x.s.x.l.n (fun i3 => (Go.Vm.V.cons (Go.Vm.V.int Go.IntKind.u64 ((x.snd.rings.get i2).x.s.x.l.get i3).Stamp) (Go.Vm.V.cons (Go.Vm.V.int Go.IntKind.u64 ((x.snd.rings.get i2).x.s.x.l.get i3).Value) (Go.Vm.V.cons (Go.Vm.V.int Go.IntKind.i64 ((x.snd.rings.get i2).x.s.x.l.get i3).Left) Go.Vm.V.unit))))) (Go.Vm.V.cons (Go.Vm.V.int Go.IntKind.i64 (x.snd.rings.get i2).x.s.x.readers) Go.Vm.V.unit))) (Go.Vm.V.cons (Go.Vm.V.int Go.IntKind.u64 (x.snd.rings.get i2).x.most) (Go.Vm.V.cons (Go.Vm.V.bool (x.snd.rings.get i2).x.closed) Go.Vm.V.unit)))))))) <|
  (.need ((true && true) && (Nat.beq x.snd.rings.n x.snd.rings.n)) <|
  (.ret ((Go.Vm.ilt (x.snd.threads.get ((0 : Nat) + (Int.toNat x.fst))).Ticket y1.fst), (TFabric_Fabric.mk x.snd.p x.snd.threads (Go.Vm.Sl.mk x.snd.rings.nil x.snd.rings.n (fun i2 => (Go.Vm.Bx.mk (cond (Nat.beq i2 ((0 : Nat) + (Int.toNat (x.snd.threads.get ((0 : Nat) + (Int.toNat x.fst))).Ring))) false (x.snd.rings.get i2).nil) (TRing_Ring.mk (TRing_cursors.mk (cond (Nat.beq i2 ((0 : Nat) + (Int.toNat (x.snd.threads.get ((0 : Nat) + (Int.toNat x.fst))).Ring))) y1.snd.cursors.tail (x.snd.rings.get i2).x.cursors.tail) (Go.Vm.Sl.mk (cond (Nat.beq i2 ((0 : Nat) + (Int.toNat (x.snd.threads.get ((0 : Nat) + (Int.toNat x.fst))).Ring))) y1.snd.cursors.heads.nil (x.snd.rings.get i2).x.cursors.heads.nil) (cond (Nat.beq i2 ((0 : Nat) + (Int.toNat (x.snd.threads.get ((0 : Nat) + (Int.toNat x.fst))).Ring))) y1.snd.cursors.heads.n (x.snd.rings.get i2).x.cursors.heads.n) (fun i3 => (cond (Nat.beq i2 ((0 : Nat) + (Int.toNat (x.snd.threads.get ((0 : Nat) + (Int.toNat x.fst))).Ring))) (y1.snd.cursors.heads.get i3) ((x.snd.rings.get i2).x.cursors.heads.get i3))))) (Go.Vm.Bx.mk (cond (Nat.beq i2 ((0 : Nat) + (Int.toNat (x.snd.threads.get ((0 : Nat) + (Int.toNat x.fst))).Ring))) y1.snd.s.nil (x.snd.rings.get i2).x.s.nil) (TSlots_Slots.mk (Go.Vm.Sl.mk (cond (Nat.beq i2 ((0 : Nat) + (Int.toNat (x.snd.threads.get ((0 : Nat) + (Int.toNat x.fst))).Ring))) y1.snd.s.x.l.nil (x.snd.rings.get i2).x.s.x.l.nil) (cond (Nat.beq i2 ((0 : Nat) + (Int.toNat (x.snd.threads.get ((0 : Nat) + (Int.toNat x.fst))).Ring))) y1.snd.s.x.l.n (x.snd.rings.get i2).x.s.x.l.n) (fun i3 => (TApi_Slot.mk (cond (Nat.beq i2 ((0 : Nat) + (Int.toNat (x.snd.threads.get ((0 : Nat) + (Int.toNat x.fst))).Ring))) (y1.snd.s.x.l.get i3).Stamp ((x.snd.rings.get i2).x.s.x.l.get i3).Stamp) (cond (Nat.beq i2 ((0 : Nat) + (Int.toNat (x.snd.threads.get ((0 : Nat) + (Int.toNat x.fst))).Ring))) (y1.snd.s.x.l.get i3).Value ((x.snd.rings.get i2).x.s.x.l.get i3).Value) (cond (Nat.beq i2 ((0 : Nat) + (Int.toNat (x.snd.threads.get ((0 : Nat) + (Int.toNat x.fst))).Ring))) (y1.snd.s.x.l.get i3).Left ((x.snd.rings.get i2).x.s.x.l.get i3).Left)))) (cond (Nat.beq i2 ((0 : Nat) + (Int.toNat (x.snd.threads.get ((0 : Nat) + (Int.toNat x.fst))).Ring))) y1.snd.s.x.readers (x.snd.rings.get i2).x.s.x.readers))) (cond (Nat.beq i2 ((0 : Nat) + (Int.toNat (x.snd.threads.get ((0 : Nat) + (Int.toNat x.fst))).Ring))) y1.snd.most (x.snd.rings.get i2).x.most) (cond (Nat.beq i2 ((0 : Nat) + (Int.toNat (x.snd.threads.get ((0 : Nat) + (Int.toNat x.fst))).Ring))) y1.snd.closed (x.snd.rings.get i2).x.closed))))) x.snd.now x.snd.reads x.snd.ended)))
  )
  )
  )
  )
  )
  )
  (.ite (Go.Vm.ieq (x.snd.threads.get ((0 : Nat) + (Int.toNat x.fst))).Phase (2 : Int))
   (.need (Go.Vm.inb (x.snd.threads.get ((0 : Nat) + (Int.toNat x.fst))).Ring x.snd.rings.n) <|
   (.need (((Nat.beq x.snd.rings.n x.snd.rings.n) && true) && (!(x.snd.rings.get ((0 : Nat) + (Int.toNat (x.snd.threads.get ((0 : Nat) + (Int.toNat x.fst))).Ring))).nil)) <|
   (.need (Go.Vm.inb x.fst x.snd.p.Threads.n) <|
   (.need (Go.Vm.inb (x.snd.threads.get ((0 : Nat) + (Int.toNat x.fst))).At (x.snd.p.Threads.get (Int.toNat x.fst)).n) <|
   (.call con_f74 ((Go.IntKind.wrap Go.IntKind.i64 ((x.snd.p.Threads.get (Int.toNat x.fst)).get (Int.toNat (x.snd.threads.get ((0 : Nat) + (Int.toNat x.fst))).At)).K), (x.snd.rings.get ((0 : Nat) + (Int.toNat (x.snd.threads.get ((0 : Nat) + (Int.toNat x.fst))).Ring))).x) fun (_y1 : R_f74) =>
   .fail
   )
   )
   )
   )
   )
   (.ret (true, (TFabric_Fabric.mk x.snd.p x.snd.threads x.snd.rings x.snd.now x.snd.reads x.snd.ended)))
  )
 )
 )
 )
 )
theorem sd_f57 (x : X_f57) : (tt_f57  x).Sides :=
  (TT.s_need (TT.s_need (TT.s_need (TT.s_ite (TT.s_need (TT.s_need (TT.s_call fun _ => (TT.s_need (TT.s_side rfl (TT.s_need TT.s_ret)))))) (TT.s_ite (TT.s_need (TT.s_need (TT.s_need (TT.s_need (TT.s_call fun _ => TT.s_fail))))) TT.s_ret)))))

theorem dn_f57 (x : X_f57) : J_f57.den [] S_f57 x 4000 = (tt_f57  x).tree J_f57.enc := by kernel_rfl
theorem st_f57  : LabOK J_f57 S_f57 (.of tt_f57) :=
  lab_ok mixed_ok labs_nil 4000 (dn_f57 ) (sd_f57 )
noncomputable def D_f57 : Dyn X_f57 R_f57 := .of tt_f57
theorem ct_f57 (x : X_f57) (y : R_f57) (h : D_f57.rel x y) : OK Try.prog 57 [(V.ptr (.par 0) []), (V.int .i64) x.1] [e_TFabric_Fabric x.2] (V.bool y.1) [e_TFabric_Fabric y.2] :=
  contract (fn := Try.f57) (J := J_f57) (S := S_f57) (D := D_f57) (by kernel_rfl) (code := Try.f57.body.getD .skip) (by kernel_rfl) rfl st_f57 rfl (x := x) (y := y) h rfl rfl rfl rfl rfl (by kernel_rfl)
noncomputable def con_f57 : Con Try.prog where
  f := 57
  fn := Try.f57
  hf := by kernel_rfl
  hb := by kernel_rfl
  hn := by kernel_rfl
  X := X_f57
  Y := R_f57
  args := fun x => [(V.ptr (.par 0) []), (V.int .i64) x.1]
  objs := fun x => [e_TFabric_Fabric x.2]
  res := fun y => V.bool y.1
  outs := fun y => [e_TFabric_Fabric y.2]
  rel := D_f57.rel
  ev := D_f57.ev
  evOK := D_f57.evOK
  dec := fun l m => (dI (at_ l 1), d_TFabric_Fabric (at_ m 0))
  ash := [.any, .any]
  osh := [sh_TFabric_Fabric]
  ok := ct_f57

/-! slices.Clone[[]uint64,uint64] -/
abbrev X_f55 : Type := (Sl Int)
abbrev R_f55 : Type := (Sl Int)
noncomputable def J_f55 : Job Try.prog where
  fn := Try.f55
  nt := 8
  pol := tabN 0 [(6, 1)]
  hint := tabN [] []
  finH := [.shut 2]
  rsh := [(.sl none 1 (V.int .u64 0))]
  psh := []
  tab := []
  R := R_f55
  enc := fun y => [(eSl none 1 (V.int .u64)) y]
noncomputable def S_f55 : LabS where
  id := 0
  K := [.code (Try.f55.body.getD .skip)]
  lay := entryLay 1 0
  X := X_f55
  enc := fun x => [(eSl none 1 (V.int .u64)) x]
  dec := fun l => ((dSl dI) (at_ l 0))
noncomputable def tt_f55 (x : X_f55) : TT Try.prog R_f55 :=
 (.ite x.nil
  (.ret (Go.Vm.Sl.mk true (0 : Nat) (fun _i1 => (0 : Int))))
  (.need (true && (Go.Vm.room ((0 : Nat) + x.n) (8 : Nat))) <|
  (.ret (Go.Vm.Sl.mk (cond (Nat.beq x.n (0 : Nat)) false false) ((0 : Nat) + x.n) (fun i1 => (cond (Nat.blt i1 (0 : Nat)) (0 : Int) (x.get (i1 - (0 : Nat)))))))
  )
 )
theorem sd_f55 (x : X_f55) : (tt_f55  x).Sides :=
  (TT.s_ite TT.s_ret (TT.s_need TT.s_ret))

theorem dn_f55 (x : X_f55) : J_f55.den [] S_f55 x 4000 = (tt_f55  x).tree J_f55.enc := by kernel_rfl
theorem st_f55  : LabOK J_f55 S_f55 (.of tt_f55) :=
  lab_ok mixed_ok labs_nil 4000 (dn_f55 ) (sd_f55 )
noncomputable def D_f55 : Dyn X_f55 R_f55 := .of tt_f55
theorem ct_f55 (x : X_f55) (y : R_f55) (h : D_f55.rel x y) : OK Try.prog 55 [(eSl none 1 (V.int .u64)) x] [] ((eSl none 1 (V.int .u64)) y) [] :=
  contract (fn := Try.f55) (J := J_f55) (S := S_f55) (D := D_f55) (by kernel_rfl) (code := Try.f55.body.getD .skip) (by kernel_rfl) rfl st_f55 rfl (x := x) (y := y) h rfl rfl rfl rfl rfl (by kernel_rfl)
noncomputable def con_f55 : Con Try.prog where
  f := 55
  fn := Try.f55
  hf := by kernel_rfl
  hb := by kernel_rfl
  hn := by kernel_rfl
  X := X_f55
  Y := R_f55
  args := fun x => [(eSl none 1 (V.int .u64)) x]
  objs := fun x => []
  res := fun y => (eSl none 1 (V.int .u64)) y
  outs := fun y => []
  rel := D_f55.rel
  ev := D_f55.ev
  evOK := D_f55.evOK
  dec := fun l m => ((dSl dI) (at_ l 0))
  ash := [(.sl none 1 (V.int .u64 0))]
  osh := []
  ok := ct_f55

/-! fabric.Load -/
abbrev X_f37 : Type := TApi_Program × TApi_State
abbrev R_f37 : Type := (Bx TFabric_Fabric) × Int
noncomputable def J_f37 : Job Try.prog where
  fn := Try.f37
  nt := 123
  pol := tabN 0 [(2, 3), (3, 3), (12, 1), (19, 1), (27, 1), (36, 1), (59, 1), (64, 1), (72, 1), (80, 1), (82, 1), (91, 1), (115, 1), (117, 1), (122, 1)]
  hint := tabN [] [(0, [.close (.loc 103 0), .close (.loc 68 0)]), (1, [.close (.loc 103 0), .close (.loc 68 0)]), (2, [.close (.loc 103 0), .close (.loc 68 0)]), (3, [.close (.loc 103 0), .close (.loc 68 0)]), (4, [.close (.loc 103 0), .close (.loc 68 0)]), (5, [.close (.loc 103 0), .close (.loc 68 0)]), (6, [.close (.loc 103 0), .close (.loc 68 0), .open_ 6]), (7, [.close (.loc 103 0), .close (.loc 68 0)]), (8, [.close (.loc 103 0), .close (.loc 68 0)]), (9, [.close (.loc 103 0), .close (.loc 68 0)]), (10, [.close (.loc 103 0), .close (.loc 68 0)]), (11, [.close (.loc 103 0), .close (.loc 68 0)]), (12, [.close (.loc 103 0), .close (.loc 68 0)]), (13, [.close (.loc 103 0), .close (.loc 68 0)]), (14, [.close (.loc 103 0), .close (.loc 68 0)]), (15, [.close (.loc 103 0), .close (.loc 68 0)]), (16, [.close (.loc 103 0), .close (.loc 68 0)]), (17, [.close (.loc 103 0), .close (.loc 68 0)]), (18, [.close (.loc 103 0), .close (.loc 68 0)]), (19, [.close (.loc 103 0), .close (.loc 68 0)]), (20, [.close (.loc 103 0), .close (.loc 68 0)]), (21, [.close (.loc 103 0), .close (.loc 68 0)]), (22, [.close (.loc 103 0), .close (.loc 68 0)])]
  finH := [.close (.loc 103 0), .close (.loc 68 0), .shut 4]
  rsh := [(.box (e_TFabric_Fabric (d_TFabric_Fabric .undef))), .any]
  psh := []
  tab := [con_f36, con_f54, con_f55, con_f56, con_f57]
  R := R_f37
  enc := fun y => [V.tup (V.cons ((eBx e_TFabric_Fabric) y.1) (V.cons ((V.int .i64) y.2) (V.unit)))]
noncomputable def S_f37 : LabS where
  id := 0
  K := [.code (Try.f37.body.getD .skip)]
  lay := entryLay 2 0
  X := X_f37
  enc := fun x => [e_TApi_Program x.1, e_TApi_State x.2]
  dec := fun l => (d_TApi_Program (at_ l 0), d_TApi_State (at_ l 1))
structure X_f37_6 where
  p_2 : TApi_Program
  s_3 : TApi_State
  n_6 : TFabric_Fabric
noncomputable def S_f37_6 : LabS where
  id := 6
  K := (kAt 6 (Try.f37.body.getD .skip) []).getD []
  lay := { live := [(2, .any), (3, .any), (6, .any)], pars := [], locs := [(.loc 6 1, sh_TFabric_Fabric)] }
  X := X_f37_6
  enc := fun x => [(eVp e_TApi_Program) x.p_2, (eVp e_TApi_State) x.s_3, (V.ptr (.loc 6 1) []), e_TFabric_Fabric x.n_6]
  dec := fun l => ⟨(dVp d_TApi_Program) (at_ l 0), (dVp d_TApi_State) (at_ l 1), d_TFabric_Fabric (at_ l 3)⟩
structure X_f37_8 where
  p_2 : TApi_Program
  s_3 : TApi_State
  q_57 : (Sl TApi_RingState)
  q_58 : Int
  q_59 : Int
  n_6 : TFabric_Fabric
noncomputable def S_f37_8 : LabS where
  id := 8
  K := (kAt 8 (Try.f37.body.getD .skip) []).getD []
  lay := { live := [(2, .any), (3, .any), (6, .any), (57, (.sl none 4 (e_TApi_RingState (d_TApi_RingState .undef)))), (58, .any), (59, .any)], pars := [], locs := [(.loc 6 1, sh_TFabric_Fabric)] }
  X := X_f37_8
  enc := fun x => [(eVp e_TApi_Program) x.p_2, (eVp e_TApi_State) x.s_3, (V.ptr (.loc 6 1) []), (eSl none 4 e_TApi_RingState) x.q_57, (V.int .i64) x.q_58, (V.int .i64) x.q_59, e_TFabric_Fabric x.n_6]
  dec := fun l => ⟨(dVp d_TApi_Program) (at_ l 0), (dVp d_TApi_State) (at_ l 1), (dSl d_TApi_RingState) (at_ l 3), dI (at_ l 4), dI (at_ l 5), d_TFabric_Fabric (at_ l 6)⟩
structure X_f37_13 where
  p_2 : TApi_Program
  s_3 : TApi_State
  q_57 : (Sl TApi_RingState)
  q_58 : Int
  q_59 : Int
  n_6 : TFabric_Fabric
noncomputable def S_f37_13 : LabS where
  id := 13
  K := (kAt 13 (Try.f37.body.getD .skip) []).getD []
  lay := { live := [(2, .any), (3, .any), (6, .any), (57, (.sl none 4 (e_TApi_RingState (d_TApi_RingState .undef)))), (58, .any), (59, .any)], pars := [], locs := [(.loc 6 1, sh_TFabric_Fabric)] }
  X := X_f37_13
  enc := fun x => [(eVp e_TApi_Program) x.p_2, (eVp e_TApi_State) x.s_3, (V.ptr (.loc 6 1) []), (eSl none 4 e_TApi_RingState) x.q_57, (V.int .i64) x.q_58, (V.int .i64) x.q_59, e_TFabric_Fabric x.n_6]
  dec := fun l => ⟨(dVp d_TApi_Program) (at_ l 0), (dVp d_TApi_State) (at_ l 1), (dSl d_TApi_RingState) (at_ l 3), dI (at_ l 4), dI (at_ l 5), d_TFabric_Fabric (at_ l 6)⟩
structure X_f37_14 where
  p_2 : TApi_Program
  s_3 : TApi_State
  n_6 : TFabric_Fabric
noncomputable def S_f37_14 : LabS where
  id := 14
  K := (kAt 14 (Try.f37.body.getD .skip) []).getD []
  lay := { live := [(2, .any), (3, .any), (6, .any)], pars := [], locs := [(.loc 6 1, sh_TFabric_Fabric)] }
  X := X_f37_14
  enc := fun x => [(eVp e_TApi_Program) x.p_2, (eVp e_TApi_State) x.s_3, (V.ptr (.loc 6 1) []), e_TFabric_Fabric x.n_6]
  dec := fun l => ⟨(dVp d_TApi_Program) (at_ l 0), (dVp d_TApi_State) (at_ l 1), d_TFabric_Fabric (at_ l 3)⟩
structure X_f37_15 where
  p_2 : TApi_Program
  q_89 : (Sl TApi_ThreadState)
  q_90 : Int
  q_91 : Int
  n_6 : TFabric_Fabric
noncomputable def S_f37_15 : LabS where
  id := 15
  K := (kAt 15 (Try.f37.body.getD .skip) []).getD []
  lay := { live := [(2, .any), (6, .any), (89, (.sl none 14 (e_TApi_ThreadState (d_TApi_ThreadState .undef)))), (90, .any), (91, .any)], pars := [], locs := [(.loc 6 1, sh_TFabric_Fabric)] }
  X := X_f37_15
  enc := fun x => [(eVp e_TApi_Program) x.p_2, (V.ptr (.loc 6 1) []), (eSl none 14 e_TApi_ThreadState) x.q_89, (V.int .i64) x.q_90, (V.int .i64) x.q_91, e_TFabric_Fabric x.n_6]
  dec := fun l => ⟨(dVp d_TApi_Program) (at_ l 0), (dSl d_TApi_ThreadState) (at_ l 2), dI (at_ l 3), dI (at_ l 4), d_TFabric_Fabric (at_ l 5)⟩
structure X_f37_21 where
  p_2 : TApi_Program
  q_89 : (Sl TApi_ThreadState)
  q_90 : Int
  q_91 : Int
  n_6 : TFabric_Fabric
noncomputable def S_f37_21 : LabS where
  id := 21
  K := (kAt 21 (Try.f37.body.getD .skip) []).getD []
  lay := { live := [(2, .any), (6, .any), (89, (.sl none 14 (e_TApi_ThreadState (d_TApi_ThreadState .undef)))), (90, .any), (91, .any)], pars := [], locs := [(.loc 6 1, sh_TFabric_Fabric)] }
  X := X_f37_21
  enc := fun x => [(eVp e_TApi_Program) x.p_2, (V.ptr (.loc 6 1) []), (eSl none 14 e_TApi_ThreadState) x.q_89, (V.int .i64) x.q_90, (V.int .i64) x.q_91, e_TFabric_Fabric x.n_6]
  dec := fun l => ⟨(dVp d_TApi_Program) (at_ l 0), (dSl d_TApi_ThreadState) (at_ l 2), dI (at_ l 3), dI (at_ l 4), d_TFabric_Fabric (at_ l 5)⟩
noncomputable def tt_f37_21 (D_f37_15 : Dyn X_f37_15 R_f37) (x : X_f37_21) : TT Try.prog R_f37 :=
 (.jump S_f37_15 D_f37_15 (X_f37_15.mk x.p_2 x.q_89 x.q_90 (Go.IntKind.wrap Go.IntKind.i64 (x.q_91 + (1 : Int))) (TFabric_Fabric.mk x.n_6.p x.n_6.threads x.n_6.rings x.n_6.now x.n_6.reads x.n_6.ended)))
theorem sd_f37_21 (D_f37_15 : Dyn X_f37_15 R_f37) (x : X_f37_21) : (tt_f37_21 D_f37_15 x).Sides :=
  TT.s_jump

theorem dn_f37_21 (D_f37_15 : Dyn X_f37_15 R_f37) (x : X_f37_21) : J_f37.den [⟨S_f37_15, D_f37_15⟩] S_f37_21 x 4000 = (tt_f37_21 D_f37_15 x).tree J_f37.enc := by kernel_rfl
theorem st_f37_21 (D_f37_15 : Dyn X_f37_15 R_f37) (h_15 : LabOK J_f37 S_f37_15 D_f37_15) : LabOK J_f37 S_f37_21 (.of (tt_f37_21 D_f37_15)) :=
  lab_ok mixed_ok (labs_cons rfl h_15 labs_nil) 4000 (dn_f37_21 D_f37_15) (sd_f37_21 D_f37_15)
noncomputable def D_f37_21 (D_f37_15 : Dyn X_f37_15 R_f37) : Dyn X_f37_21 R_f37 := .of (tt_f37_21 D_f37_15)
theorem ok_f37_21 (D_f37_15 : Dyn X_f37_15 R_f37) (h_15 : LabOK J_f37 S_f37_15 D_f37_15) : LabOK J_f37 S_f37_21 (D_f37_21 D_f37_15) :=
  st_f37_21 D_f37_15 h_15
noncomputable def tt_f37_15 (D_f37_15 : Dyn X_f37_15 R_f37) (x : X_f37_15) : TT Try.prog R_f37 :=
 (.ite (Go.Vm.ilt x.q_91 x.q_90)
  (.need (Go.Vm.inb x.q_91 x.q_89.n) <|
  (.call con_f55 (x.q_89.get (Int.toNat x.q_91)).Seen fun (y2 : R_f55) =>
  (.need (Go.Vm.inb x.q_91 x.n_6.threads.n) <|
  (.need ((Nat.beq x.n_6.threads.n x.n_6.threads.n) && true) <|
  (.need ((true && true) && (Nat.beq x.n_6.threads.n x.n_6.threads.n)) <|
  (.need (Go.Vm.inb x.q_91 x.p_2.Threads.n) <|
  (.call con_f56 ((x.p_2.Threads.get (Int.toNat x.q_91)), (TApi_ThreadState.mk (x.q_89.get (Int.toNat x.q_91)).At (x.q_89.get (Int.toNat x.q_91)).Phase (x.q_89.get (Int.toNat x.q_91)).Ring (x.q_89.get (Int.toNat x.q_91)).Status (x.q_89.get (Int.toNat x.q_91)).Ticket (x.q_89.get (Int.toNat x.q_91)).Regs y2)) fun (y3 : R_f56) =>
  (.ite (!y3)
   (.ret ((Go.Vm.Bx.mk true (TFabric_Fabric.mk (TApi_Program.mk (Go.Vm.Sl.mk true (0 : Nat) (fun _i4 => (TApi_Ring.mk (0 : Int) (0 : Int) (0 : Int)))) (Go.Vm.Sl.mk true (0 : Nat) (fun _i4 => (Go.Vm.Sl.mk true (0 : Nat) (fun _i5 => (TApi_Instr.mk (0 : Int) (0 : Int) (0 : Int) (0 : Int) (0 : Int) (0 : Int))))))) (Go.Vm.Sl.mk true (0 : Nat) (fun _i4 => (TApi_ThreadState.mk (0 : Int) (0 : Int) (0 : Int) (0 : Int) (0 : Int) (fun _i5 => (0 : Int)) (Go.Vm.Sl.mk true (0 : Nat) (fun _i5 => (0 : Int)))))) (Go.Vm.Sl.mk true (0 : Nat) (fun _i4 => (Go.Vm.Bx.mk true (TRing_Ring.mk (TRing_cursors.mk (0 : Int) (Go.Vm.Sl.mk true (0 : Nat) (fun _i5 => (0 : Int)))) (Go.Vm.Bx.mk true (TSlots_Slots.mk (Go.Vm.Sl.mk true (0 : Nat) (fun _i5 => (TApi_Slot.mk (0 : Int) (0 : Int) (0 : Int)))) (0 : Int))) (0 : Int) false)))) (0 : Int) (0 : Int) false)), (3 : Int)))
   (.call con_f57 (x.q_91, (TFabric_Fabric.mk x.n_6.p (Go.Vm.Sl.mk x.n_6.threads.nil x.n_6.threads.n (fun i4 => (TApi_ThreadState.mk (cond (Nat.beq i4 ((0 : Nat) + (Int.toNat x.q_91))) (x.q_89.get (Int.toNat x.q_91)).At (x.n_6.threads.get i4).At) (cond (Nat.beq i4 ((0 : Nat) + (Int.toNat x.q_91))) (x.q_89.get (Int.toNat x.q_91)).Phase (x.n_6.threads.get i4).Phase) (cond (Nat.beq i4 ((0 : Nat) + (Int.toNat x.q_91))) (x.q_89.get (Int.toNat x.q_91)).Ring (x.n_6.threads.get i4).Ring) (cond (Nat.beq i4 ((0 : Nat) + (Int.toNat x.q_91))) (x.q_89.get (Int.toNat x.q_91)).Status (x.n_6.threads.get i4).Status) (cond (Nat.beq i4 ((0 : Nat) + (Int.toNat x.q_91))) (x.q_89.get (Int.toNat x.q_91)).Ticket (x.n_6.threads.get i4).Ticket) (fun i5 => (cond (Nat.beq i4 ((0 : Nat) + (Int.toNat x.q_91))) ((x.q_89.get (Int.toNat x.q_91)).Regs i5) ((x.n_6.threads.get i4).Regs i5))) (Go.Vm.Sl.mk (cond (Nat.beq i4 ((0 : Nat) + (Int.toNat x.q_91))) y2.nil (x.n_6.threads.get i4).Seen.nil) (cond (Nat.beq i4 ((0 : Nat) + (Int.toNat x.q_91))) y2.n (x.n_6.threads.get i4).Seen.n) (fun i5 => (cond (Nat.beq i4 ((0 : Nat) + (Int.toNat x.q_91))) (y2.get i5) ((x.n_6.threads.get i4).Seen.get i5))))))) x.n_6.rings x.n_6.now x.n_6.reads x.n_6.ended)) fun (y4 : R_f57) =>
   (.ite (!y4.fst)
    (.ret ((Go.Vm.Bx.mk true (TFabric_Fabric.mk (TApi_Program.mk (Go.Vm.Sl.mk true (0 : Nat) (fun _i5 => (TApi_Ring.mk (0 : Int) (0 : Int) (0 : Int)))) (Go.Vm.Sl.mk true (0 : Nat) (fun _i5 => (Go.Vm.Sl.mk true (0 : Nat) (fun _i6 => (TApi_Instr.mk (0 : Int) (0 : Int) (0 : Int) (0 : Int) (0 : Int) (0 : Int))))))) (Go.Vm.Sl.mk true (0 : Nat) (fun _i5 => (TApi_ThreadState.mk (0 : Int) (0 : Int) (0 : Int) (0 : Int) (0 : Int) (fun _i6 => (0 : Int)) (Go.Vm.Sl.mk true (0 : Nat) (fun _i6 => (0 : Int)))))) (Go.Vm.Sl.mk true (0 : Nat) (fun _i5 => (Go.Vm.Bx.mk true (TRing_Ring.mk (TRing_cursors.mk (0 : Int) (Go.Vm.Sl.mk true (0 : Nat) (fun _i6 => (0 : Int)))) (Go.Vm.Bx.mk true (TSlots_Slots.mk (Go.Vm.Sl.mk true (0 : Nat) (fun _i6 => (TApi_Slot.mk (0 : Int) (0 : Int) (0 : Int)))) (0 : Int))) (0 : Int) false)))) (0 : Int) (0 : Int) false)), (3 : Int)))
    (.jump S_f37_21 (D_f37_21 D_f37_15) (X_f37_21.mk x.p_2 x.q_89 x.q_90 x.q_91 (TFabric_Fabric.mk y4.snd.p y4.snd.threads y4.snd.rings y4.snd.now y4.snd.reads y4.snd.ended)))
   )
   )
  )
  )
  )
  )
  )
  )
  )
  )
  (.ret ((Go.Vm.Bx.mk false (TFabric_Fabric.mk x.n_6.p x.n_6.threads x.n_6.rings x.n_6.now x.n_6.reads x.n_6.ended)), (0 : Int)))
 )
theorem sd_f37_15 (D_f37_15 : Dyn X_f37_15 R_f37) (x : X_f37_15) : (tt_f37_15 D_f37_15 x).Sides :=
  (TT.s_ite (TT.s_need (TT.s_call fun _ => (TT.s_need (TT.s_need (TT.s_need (TT.s_need (TT.s_call fun _ => (TT.s_ite TT.s_ret (TT.s_call fun _ => (TT.s_ite TT.s_ret TT.s_jump)))))))))) TT.s_ret)

theorem dn_f37_15 (D_f37_15 : Dyn X_f37_15 R_f37) (x : X_f37_15) : J_f37.den [⟨S_f37_15, D_f37_15⟩, ⟨S_f37_21, (D_f37_21 D_f37_15)⟩] S_f37_15 x 4000 = (tt_f37_15 D_f37_15 x).tree J_f37.enc := by kernel_rfl
theorem st_f37_15 (D_f37_15 : Dyn X_f37_15 R_f37) (h_15 : LabOK J_f37 S_f37_15 D_f37_15) : LabOK J_f37 S_f37_15 (.of (tt_f37_15 D_f37_15)) :=
  lab_ok mixed_ok (labs_cons rfl h_15 (labs_cons rfl (ok_f37_21 D_f37_15 h_15) labs_nil)) 4000 (dn_f37_15 D_f37_15) (sd_f37_15 D_f37_15)
noncomputable def D_f37_15 : Dyn X_f37_15 R_f37 := Dyn.loop (tt_f37_15 )
theorem ok_f37_15  : LabOK J_f37 S_f37_15 (D_f37_15 ) :=
  loop_ok fun D h => st_f37_15  D  h
noncomputable def tt_f37_14 (x : X_f37_14) : TT Try.prog R_f37 :=
 (.jump S_f37_15 D_f37_15 (X_f37_15.mk x.p_2 x.s_3.Threads ((x.s_3.Threads.n : Nat) : Int) (0 : Int) (TFabric_Fabric.mk x.n_6.p x.n_6.threads x.n_6.rings x.n_6.now x.n_6.reads x.n_6.ended)))
theorem sd_f37_14 (x : X_f37_14) : (tt_f37_14  x).Sides :=
  TT.s_jump

theorem dn_f37_14 (x : X_f37_14) : J_f37.den [⟨S_f37_15, D_f37_15⟩] S_f37_14 x 4000 = (tt_f37_14  x).tree J_f37.enc := by kernel_rfl
theorem st_f37_14  : LabOK J_f37 S_f37_14 (.of tt_f37_14) :=
  lab_ok mixed_ok (labs_cons rfl ok_f37_15 labs_nil) 4000 (dn_f37_14 ) (sd_f37_14 )
noncomputable def D_f37_14 : Dyn X_f37_14 R_f37 := .of (tt_f37_14 )
theorem ok_f37_14  : LabOK J_f37 S_f37_14 (D_f37_14 ) :=
  st_f37_14  
noncomputable def tt_f37_13 (D_f37_8 : Dyn X_f37_8 R_f37) (x : X_f37_13) : TT Try.prog R_f37 :=
 (.jump S_f37_8 D_f37_8 (X_f37_8.mk x.p_2 x.s_3 x.q_57 x.q_58 (Go.IntKind.wrap Go.IntKind.i64 (x.q_59 + (1 : Int))) (TFabric_Fabric.mk x.n_6.p x.n_6.threads x.n_6.rings x.n_6.now x.n_6.reads x.n_6.ended)))
theorem sd_f37_13 (D_f37_8 : Dyn X_f37_8 R_f37) (x : X_f37_13) : (tt_f37_13 D_f37_8 x).Sides :=
  TT.s_jump

theorem dn_f37_13 (D_f37_8 : Dyn X_f37_8 R_f37) (x : X_f37_13) : J_f37.den [⟨S_f37_8, D_f37_8⟩, ⟨S_f37_15, D_f37_15⟩, ⟨S_f37_14, D_f37_14⟩] S_f37_13 x 4000 = (tt_f37_13 D_f37_8 x).tree J_f37.enc := by kernel_rfl
theorem st_f37_13 (D_f37_8 : Dyn X_f37_8 R_f37) (h_8 : LabOK J_f37 S_f37_8 D_f37_8) : LabOK J_f37 S_f37_13 (.of (tt_f37_13 D_f37_8)) :=
  lab_ok mixed_ok (labs_cons rfl h_8 (labs_cons rfl ok_f37_15 (labs_cons rfl ok_f37_14 labs_nil))) 4000 (dn_f37_13 D_f37_8) (sd_f37_13 D_f37_8)
noncomputable def D_f37_13 (D_f37_8 : Dyn X_f37_8 R_f37) : Dyn X_f37_13 R_f37 := .of (tt_f37_13 D_f37_8)
theorem ok_f37_13 (D_f37_8 : Dyn X_f37_8 R_f37) (h_8 : LabOK J_f37 S_f37_8 D_f37_8) : LabOK J_f37 S_f37_13 (D_f37_13 D_f37_8) :=
  st_f37_13 D_f37_8 h_8
noncomputable def tt_f37_8 (_D_f37_8 : Dyn X_f37_8 R_f37) (x : X_f37_8) : TT Try.prog R_f37 :=
 (.ite (Go.Vm.ilt x.q_59 x.q_58)
  (.need (Go.Vm.inb x.q_59 x.q_57.n) <|
  (.need (Go.Vm.inb x.q_59 x.p_2.Rings.n) <|
  (.call con_f54 ((x.p_2.Rings.get (Int.toNat x.q_59)), (x.q_57.get (Int.toNat x.q_59))) fun (_y2 : R_f54) =>
  (.need (Go.Vm.inb x.q_59 x.n_6.rings.n) <|
  (.need ((Nat.beq x.n_6.rings.n x.n_6.rings.n) && true) <|
  .fail
  )
  )
  )
  )
  )
  (.jump S_f37_14 D_f37_14 (X_f37_14.mk x.p_2 x.s_3 (TFabric_Fabric.mk x.n_6.p x.n_6.threads x.n_6.rings x.n_6.now x.n_6.reads x.n_6.ended)))
 )
theorem sd_f37_8 (D_f37_8 : Dyn X_f37_8 R_f37) (x : X_f37_8) : (tt_f37_8 D_f37_8 x).Sides :=
  (TT.s_ite (TT.s_need (TT.s_need (TT.s_call fun _ => (TT.s_need (TT.s_need TT.s_fail))))) TT.s_jump)

theorem dn_f37_8 (D_f37_8 : Dyn X_f37_8 R_f37) (x : X_f37_8) : J_f37.den [⟨S_f37_8, D_f37_8⟩, ⟨S_f37_15, D_f37_15⟩, ⟨S_f37_14, D_f37_14⟩, ⟨S_f37_13, (D_f37_13 D_f37_8)⟩] S_f37_8 x 4000 = (tt_f37_8 D_f37_8 x).tree J_f37.enc := by kernel_rfl
theorem st_f37_8 (D_f37_8 : Dyn X_f37_8 R_f37) (h_8 : LabOK J_f37 S_f37_8 D_f37_8) : LabOK J_f37 S_f37_8 (.of (tt_f37_8 D_f37_8)) :=
  lab_ok mixed_ok (labs_cons rfl h_8 (labs_cons rfl ok_f37_15 (labs_cons rfl ok_f37_14 (labs_cons rfl (ok_f37_13 D_f37_8 h_8) labs_nil)))) 4000 (dn_f37_8 D_f37_8) (sd_f37_8 D_f37_8)
noncomputable def D_f37_8 : Dyn X_f37_8 R_f37 := Dyn.loop (tt_f37_8 )
theorem ok_f37_8  : LabOK J_f37 S_f37_8 (D_f37_8 ) :=
  loop_ok fun D h => st_f37_8  D  h
noncomputable def tt_f37_6 (x : X_f37_6) : TT Try.prog R_f37 :=
 (.jump S_f37_8 D_f37_8 (X_f37_8.mk x.p_2 x.s_3 x.s_3.Rings ((x.s_3.Rings.n : Nat) : Int) (0 : Int) (TFabric_Fabric.mk x.n_6.p x.n_6.threads x.n_6.rings x.s_3.Now x.s_3.Reads x.s_3.Ended)))
theorem sd_f37_6 (x : X_f37_6) : (tt_f37_6  x).Sides :=
  TT.s_jump

theorem dn_f37_6 (x : X_f37_6) : J_f37.den [⟨S_f37_15, D_f37_15⟩, ⟨S_f37_14, D_f37_14⟩, ⟨S_f37_8, D_f37_8⟩] S_f37_6 x 4000 = (tt_f37_6  x).tree J_f37.enc := by kernel_rfl
theorem st_f37_6  : LabOK J_f37 S_f37_6 (.of tt_f37_6) :=
  lab_ok mixed_ok (labs_cons rfl ok_f37_15 (labs_cons rfl ok_f37_14 (labs_cons rfl ok_f37_8 labs_nil))) 4000 (dn_f37_6 ) (sd_f37_6 )
noncomputable def D_f37_6 : Dyn X_f37_6 R_f37 := .of (tt_f37_6 )
theorem ok_f37_6  : LabOK J_f37 S_f37_6 (D_f37_6 ) :=
  st_f37_6  
noncomputable def tt_f37 (x : X_f37) : TT Try.prog R_f37 :=
 (.call con_f36 x.fst fun (y1 : R_f36) =>
 (.ite (!(Go.Vm.ieq y1.snd (0 : Int)))
  (.ret ((Go.Vm.Bx.mk true (TFabric_Fabric.mk (TApi_Program.mk (Go.Vm.Sl.mk true (0 : Nat) (fun _i2 => (TApi_Ring.mk (0 : Int) (0 : Int) (0 : Int)))) (Go.Vm.Sl.mk true (0 : Nat) (fun _i2 => (Go.Vm.Sl.mk true (0 : Nat) (fun _i3 => (TApi_Instr.mk (0 : Int) (0 : Int) (0 : Int) (0 : Int) (0 : Int) (0 : Int))))))) (Go.Vm.Sl.mk true (0 : Nat) (fun _i2 => (TApi_ThreadState.mk (0 : Int) (0 : Int) (0 : Int) (0 : Int) (0 : Int) (fun _i3 => (0 : Int)) (Go.Vm.Sl.mk true (0 : Nat) (fun _i3 => (0 : Int)))))) (Go.Vm.Sl.mk true (0 : Nat) (fun _i2 => (Go.Vm.Bx.mk true (TRing_Ring.mk (TRing_cursors.mk (0 : Int) (Go.Vm.Sl.mk true (0 : Nat) (fun _i3 => (0 : Int)))) (Go.Vm.Bx.mk true (TSlots_Slots.mk (Go.Vm.Sl.mk true (0 : Nat) (fun _i3 => (TApi_Slot.mk (0 : Int) (0 : Int) (0 : Int)))) (0 : Int))) (0 : Int) false)))) (0 : Int) (0 : Int) false)), y1.snd))
  (.ite (!(Go.Vm.ieq ((x.snd.Threads.n : Nat) : Int) ((x.fst.Threads.n : Nat) : Int)))
   (.ret ((Go.Vm.Bx.mk true (TFabric_Fabric.mk (TApi_Program.mk (Go.Vm.Sl.mk true (0 : Nat) (fun _i2 => (TApi_Ring.mk (0 : Int) (0 : Int) (0 : Int)))) (Go.Vm.Sl.mk true (0 : Nat) (fun _i2 => (Go.Vm.Sl.mk true (0 : Nat) (fun _i3 => (TApi_Instr.mk (0 : Int) (0 : Int) (0 : Int) (0 : Int) (0 : Int) (0 : Int))))))) (Go.Vm.Sl.mk true (0 : Nat) (fun _i2 => (TApi_ThreadState.mk (0 : Int) (0 : Int) (0 : Int) (0 : Int) (0 : Int) (fun _i3 => (0 : Int)) (Go.Vm.Sl.mk true (0 : Nat) (fun _i3 => (0 : Int)))))) (Go.Vm.Sl.mk true (0 : Nat) (fun _i2 => (Go.Vm.Bx.mk true (TRing_Ring.mk (TRing_cursors.mk (0 : Int) (Go.Vm.Sl.mk true (0 : Nat) (fun _i3 => (0 : Int)))) (Go.Vm.Bx.mk true (TSlots_Slots.mk (Go.Vm.Sl.mk true (0 : Nat) (fun _i3 => (TApi_Slot.mk (0 : Int) (0 : Int) (0 : Int)))) (0 : Int))) (0 : Int) false)))) (0 : Int) (0 : Int) false)), (3 : Int)))
   (.ite (!(Go.Vm.ieq ((x.snd.Rings.n : Nat) : Int) ((x.fst.Rings.n : Nat) : Int)))
    (.ret ((Go.Vm.Bx.mk true (TFabric_Fabric.mk (TApi_Program.mk (Go.Vm.Sl.mk true (0 : Nat) (fun _i2 => (TApi_Ring.mk (0 : Int) (0 : Int) (0 : Int)))) (Go.Vm.Sl.mk true (0 : Nat) (fun _i2 => (Go.Vm.Sl.mk true (0 : Nat) (fun _i3 => (TApi_Instr.mk (0 : Int) (0 : Int) (0 : Int) (0 : Int) (0 : Int) (0 : Int))))))) (Go.Vm.Sl.mk true (0 : Nat) (fun _i2 => (TApi_ThreadState.mk (0 : Int) (0 : Int) (0 : Int) (0 : Int) (0 : Int) (fun _i3 => (0 : Int)) (Go.Vm.Sl.mk true (0 : Nat) (fun _i3 => (0 : Int)))))) (Go.Vm.Sl.mk true (0 : Nat) (fun _i2 => (Go.Vm.Bx.mk true (TRing_Ring.mk (TRing_cursors.mk (0 : Int) (Go.Vm.Sl.mk true (0 : Nat) (fun _i3 => (0 : Int)))) (Go.Vm.Bx.mk true (TSlots_Slots.mk (Go.Vm.Sl.mk true (0 : Nat) (fun _i3 => (TApi_Slot.mk (0 : Int) (0 : Int) (0 : Int)))) (0 : Int))) (0 : Int) false)))) (0 : Int) (0 : Int) false)), (3 : Int)))
    (.ite (Go.Vm.ile (9223372036854775808 : Int) x.snd.Now)
     (.ret ((Go.Vm.Bx.mk true (TFabric_Fabric.mk (TApi_Program.mk (Go.Vm.Sl.mk true (0 : Nat) (fun _i2 => (TApi_Ring.mk (0 : Int) (0 : Int) (0 : Int)))) (Go.Vm.Sl.mk true (0 : Nat) (fun _i2 => (Go.Vm.Sl.mk true (0 : Nat) (fun _i3 => (TApi_Instr.mk (0 : Int) (0 : Int) (0 : Int) (0 : Int) (0 : Int) (0 : Int))))))) (Go.Vm.Sl.mk true (0 : Nat) (fun _i2 => (TApi_ThreadState.mk (0 : Int) (0 : Int) (0 : Int) (0 : Int) (0 : Int) (fun _i3 => (0 : Int)) (Go.Vm.Sl.mk true (0 : Nat) (fun _i3 => (0 : Int)))))) (Go.Vm.Sl.mk true (0 : Nat) (fun _i2 => (Go.Vm.Bx.mk true (TRing_Ring.mk (TRing_cursors.mk (0 : Int) (Go.Vm.Sl.mk true (0 : Nat) (fun _i3 => (0 : Int)))) (Go.Vm.Bx.mk true (TSlots_Slots.mk (Go.Vm.Sl.mk true (0 : Nat) (fun _i3 => (TApi_Slot.mk (0 : Int) (0 : Int) (0 : Int)))) (0 : Int))) (0 : Int) false)))) (0 : Int) (0 : Int) false)), (3 : Int)))
     (.need (!y1.fst.nil) <|
     (.jump S_f37_6 D_f37_6 (X_f37_6.mk x.fst x.snd (TFabric_Fabric.mk y1.fst.x.p y1.fst.x.threads y1.fst.x.rings y1.fst.x.now y1.fst.x.reads y1.fst.x.ended)))
     )
    )
   )
  )
 )
 )
theorem sd_f37 (x : X_f37) : (tt_f37  x).Sides :=
  (TT.s_call fun _ => (TT.s_ite TT.s_ret (TT.s_ite TT.s_ret (TT.s_ite TT.s_ret (TT.s_ite TT.s_ret (TT.s_need TT.s_jump))))))

theorem dn_f37 (x : X_f37) : J_f37.den [⟨S_f37_15, D_f37_15⟩, ⟨S_f37_14, D_f37_14⟩, ⟨S_f37_8, D_f37_8⟩, ⟨S_f37_6, D_f37_6⟩] S_f37 x 4000 = (tt_f37  x).tree J_f37.enc := by kernel_rfl
theorem st_f37  : LabOK J_f37 S_f37 (.of tt_f37) :=
  lab_ok mixed_ok (labs_cons rfl ok_f37_15 (labs_cons rfl ok_f37_14 (labs_cons rfl ok_f37_8 (labs_cons rfl ok_f37_6 labs_nil)))) 4000 (dn_f37 ) (sd_f37 )
noncomputable def D_f37 : Dyn X_f37 R_f37 := .of tt_f37
theorem ct_f37 (x : X_f37) (y : R_f37) (h : D_f37.rel x y) : OK Try.prog 37 [e_TApi_Program x.1, e_TApi_State x.2] [] (V.tup (V.cons ((eBx e_TFabric_Fabric) y.1) (V.cons ((V.int .i64) y.2) (V.unit)))) [] :=
  contract (fn := Try.f37) (J := J_f37) (S := S_f37) (D := D_f37) (by kernel_rfl) (code := Try.f37.body.getD .skip) (by kernel_rfl) rfl st_f37 rfl (x := x) (y := y) h rfl rfl rfl rfl rfl (by kernel_rfl)
noncomputable def con_f37 : Con Try.prog where
  f := 37
  fn := Try.f37
  hf := by kernel_rfl
  hb := by kernel_rfl
  hn := by kernel_rfl
  X := X_f37
  Y := R_f37
  args := fun x => [e_TApi_Program x.1, e_TApi_State x.2]
  objs := fun x => []
  res := fun y => V.tup (V.cons ((eBx e_TFabric_Fabric) y.1) (V.cons ((V.int .i64) y.2) (V.unit)))
  outs := fun y => []
  rel := D_f37.rel
  ev := D_f37.ev
  evOK := D_f37.evOK
  dec := fun l m => (d_TApi_Program (at_ l 0), d_TApi_State (at_ l 1))
  ash := [sh_TApi_Program, sh_TApi_State]
  osh := []
  ok := ct_f37

/-! snap.Load -/
abbrev X_f13 : Type := TApi_Program × ByteArray
abbrev R_f13 : Type := (Bx TFabric_Fabric) × Int
noncomputable def J_f13 : Job Try.prog where
  fn := Try.f13
  nt := 29
  pol := tabN 0 [(2, 3), (10, 1), (15, 1), (17, 1), (18, 1), (22, 1)]
  hint := tabN [] []
  finH := [.shut 4]
  rsh := [(.box (e_TFabric_Fabric (d_TFabric_Fabric .undef))), .any]
  psh := []
  tab := [con_f12, con_f36, con_f37]
  R := R_f13
  enc := fun y => [V.tup (V.cons ((eBx e_TFabric_Fabric) y.1) (V.cons ((V.int .i64) y.2) (V.unit)))]
noncomputable def S_f13 : LabS where
  id := 0
  K := [.code (Try.f13.body.getD .skip)]
  lay := entryLay 2 0
  X := X_f13
  enc := fun x => [e_TApi_Program x.1, V.str x.2]
  dec := fun l => (d_TApi_Program (at_ l 0), dS (at_ l 1))
noncomputable def tt_f13 (x : X_f13) : TT Try.prog R_f13 :=
 (.call con_f36 x.fst fun (y1 : R_f36) =>
 (.ite (!(Go.Vm.ieq y1.snd (0 : Int)))
  (.ret ((Go.Vm.Bx.mk true (TFabric_Fabric.mk (TApi_Program.mk (Go.Vm.Sl.mk true (0 : Nat) (fun _i2 => (TApi_Ring.mk (0 : Int) (0 : Int) (0 : Int)))) (Go.Vm.Sl.mk true (0 : Nat) (fun _i2 => (Go.Vm.Sl.mk true (0 : Nat) (fun _i3 => (TApi_Instr.mk (0 : Int) (0 : Int) (0 : Int) (0 : Int) (0 : Int) (0 : Int))))))) (Go.Vm.Sl.mk true (0 : Nat) (fun _i2 => (TApi_ThreadState.mk (0 : Int) (0 : Int) (0 : Int) (0 : Int) (0 : Int) (fun _i3 => (0 : Int)) (Go.Vm.Sl.mk true (0 : Nat) (fun _i3 => (0 : Int)))))) (Go.Vm.Sl.mk true (0 : Nat) (fun _i2 => (Go.Vm.Bx.mk true (TRing_Ring.mk (TRing_cursors.mk (0 : Int) (Go.Vm.Sl.mk true (0 : Nat) (fun _i3 => (0 : Int)))) (Go.Vm.Bx.mk true (TSlots_Slots.mk (Go.Vm.Sl.mk true (0 : Nat) (fun _i3 => (TApi_Slot.mk (0 : Int) (0 : Int) (0 : Int)))) (0 : Int))) (0 : Int) false)))) (0 : Int) (0 : Int) false)), (1 : Int)))
  (.call con_f12 x.snd fun (y2 : R_f12) =>
  (.ite (!(Go.Vm.ieq y2.snd (0 : Int)))
   (.ret ((Go.Vm.Bx.mk true (TFabric_Fabric.mk (TApi_Program.mk (Go.Vm.Sl.mk true (0 : Nat) (fun _i3 => (TApi_Ring.mk (0 : Int) (0 : Int) (0 : Int)))) (Go.Vm.Sl.mk true (0 : Nat) (fun _i3 => (Go.Vm.Sl.mk true (0 : Nat) (fun _i4 => (TApi_Instr.mk (0 : Int) (0 : Int) (0 : Int) (0 : Int) (0 : Int) (0 : Int))))))) (Go.Vm.Sl.mk true (0 : Nat) (fun _i3 => (TApi_ThreadState.mk (0 : Int) (0 : Int) (0 : Int) (0 : Int) (0 : Int) (fun _i4 => (0 : Int)) (Go.Vm.Sl.mk true (0 : Nat) (fun _i4 => (0 : Int)))))) (Go.Vm.Sl.mk true (0 : Nat) (fun _i3 => (Go.Vm.Bx.mk true (TRing_Ring.mk (TRing_cursors.mk (0 : Int) (Go.Vm.Sl.mk true (0 : Nat) (fun _i4 => (0 : Int)))) (Go.Vm.Bx.mk true (TSlots_Slots.mk (Go.Vm.Sl.mk true (0 : Nat) (fun _i4 => (TApi_Slot.mk (0 : Int) (0 : Int) (0 : Int)))) (0 : Int))) (0 : Int) false)))) (0 : Int) (0 : Int) false)), (3 : Int)))
   (.call con_f37 (x.fst, y2.fst) fun (y3 : R_f37) =>
   (.ret ((Go.Vm.Bx.mk y3.fst.nil (TFabric_Fabric.mk y3.fst.x.p y3.fst.x.threads y3.fst.x.rings y3.fst.x.now y3.fst.x.reads y3.fst.x.ended)), y3.snd))
   )
  )
  )
 )
 )
theorem sd_f13 (x : X_f13) : (tt_f13  x).Sides :=
  (TT.s_call fun _ => (TT.s_ite TT.s_ret (TT.s_call fun _ => (TT.s_ite TT.s_ret (TT.s_call fun _ => TT.s_ret)))))

theorem dn_f13 (x : X_f13) : J_f13.den [] S_f13 x 4000 = (tt_f13  x).tree J_f13.enc := by kernel_rfl
theorem st_f13  : LabOK J_f13 S_f13 (.of tt_f13) :=
  lab_ok mixed_ok labs_nil 4000 (dn_f13 ) (sd_f13 )
noncomputable def D_f13 : Dyn X_f13 R_f13 := .of tt_f13
theorem ct_f13 (x : X_f13) (y : R_f13) (h : D_f13.rel x y) : OK Try.prog 13 [e_TApi_Program x.1, V.str x.2] [] (V.tup (V.cons ((eBx e_TFabric_Fabric) y.1) (V.cons ((V.int .i64) y.2) (V.unit)))) [] :=
  contract (fn := Try.f13) (J := J_f13) (S := S_f13) (D := D_f13) (by kernel_rfl) (code := Try.f13.body.getD .skip) (by kernel_rfl) rfl st_f13 rfl (x := x) (y := y) h rfl rfl rfl rfl rfl (by kernel_rfl)
noncomputable def con_f13 : Con Try.prog where
  f := 13
  fn := Try.f13
  hf := by kernel_rfl
  hb := by kernel_rfl
  hn := by kernel_rfl
  X := X_f13
  Y := R_f13
  args := fun x => [e_TApi_Program x.1, V.str x.2]
  objs := fun x => []
  res := fun y => V.tup (V.cons ((eBx e_TFabric_Fabric) y.1) (V.cons ((V.int .i64) y.2) (V.unit)))
  outs := fun y => []
  rel := D_f13.rel
  ev := D_f13.ev
  evOK := D_f13.evOK
  dec := fun l m => (d_TApi_Program (at_ l 0), dS (at_ l 1))
  ash := [sh_TApi_Program, .any]
  osh := []
  ok := ct_f13

/-! slices.Equal[[]uint64,uint64] -/
abbrev X_f44 : Type := (Sl Int) × (Sl Int)
abbrev R_f44 : Type := Bool
noncomputable def J_f44 : Job Try.prog where
  fn := Try.f44
  nt := 26
  pol := tabN 0 [(13, 1), (21, 1)]
  hint := tabN [] []
  finH := []
  rsh := [.any]
  psh := []
  tab := []
  R := R_f44
  enc := fun y => [V.bool y]
noncomputable def S_f44 : LabS where
  id := 0
  K := [.code (Try.f44.body.getD .skip)]
  lay := entryLay 2 0
  X := X_f44
  enc := fun x => [(eSl none 1 (V.int .u64)) x.1, (eSl none 1 (V.int .u64)) x.2]
  dec := fun l => ((dSl dI) (at_ l 0), (dSl dI) (at_ l 1))
structure X_f44_4 where
  s1_0 : (Sl Int)
  s2_1 : (Sl Int)
  q_12 : Int
  q_13 : Int
noncomputable def S_f44_4 : LabS where
  id := 4
  K := (kAt 4 (Try.f44.body.getD .skip) []).getD []
  lay := { live := [(0, (.sl none 1 (V.int .u64 0))), (1, (.sl none 1 (V.int .u64 0))), (12, .any), (13, .any)], pars := [], locs := [] }
  X := X_f44_4
  enc := fun x => [(eSl none 1 (V.int .u64)) x.s1_0, (eSl none 1 (V.int .u64)) x.s2_1, (V.int .i64) x.q_12, (V.int .i64) x.q_13]
  dec := fun l => ⟨(dSl dI) (at_ l 0), (dSl dI) (at_ l 1), dI (at_ l 2), dI (at_ l 3)⟩
noncomputable def tt_f44_4 (D_f44_4 : Dyn X_f44_4 R_f44) (x : X_f44_4) : TT Try.prog R_f44 :=
 (.ite (Go.Vm.ilt x.q_13 x.q_12)
  (.need (Go.Vm.inb x.q_13 x.s1_0.n) <|
  (.need (Go.Vm.inb x.q_13 x.s2_1.n) <|
  (.ite (!(Go.Vm.ieq (x.s1_0.get (Int.toNat x.q_13)) (x.s2_1.get (Int.toNat x.q_13))))
   (.ret false)
   (.jump S_f44_4 D_f44_4 (X_f44_4.mk x.s1_0 x.s2_1 x.q_12 (Go.IntKind.wrap Go.IntKind.i64 (x.q_13 + (1 : Int)))))
  )
  )
  )
  (.ret true)
 )
theorem sd_f44_4 (D_f44_4 : Dyn X_f44_4 R_f44) (x : X_f44_4) : (tt_f44_4 D_f44_4 x).Sides :=
  (TT.s_ite (TT.s_need (TT.s_need (TT.s_ite TT.s_ret TT.s_jump))) TT.s_ret)

theorem dn_f44_4 (D_f44_4 : Dyn X_f44_4 R_f44) (x : X_f44_4) : J_f44.den [⟨S_f44_4, D_f44_4⟩] S_f44_4 x 4000 = (tt_f44_4 D_f44_4 x).tree J_f44.enc := by kernel_rfl
theorem st_f44_4 (D_f44_4 : Dyn X_f44_4 R_f44) (h_4 : LabOK J_f44 S_f44_4 D_f44_4) : LabOK J_f44 S_f44_4 (.of (tt_f44_4 D_f44_4)) :=
  lab_ok mixed_ok (labs_cons rfl h_4 labs_nil) 4000 (dn_f44_4 D_f44_4) (sd_f44_4 D_f44_4)
noncomputable def D_f44_4 : Dyn X_f44_4 R_f44 := Dyn.loop (tt_f44_4 )
theorem ok_f44_4  : LabOK J_f44 S_f44_4 (D_f44_4 ) :=
  loop_ok fun D h => st_f44_4  D  h
noncomputable def tt_f44 (x : X_f44) : TT Try.prog R_f44 :=
 (.ite (!(Go.Vm.ieq ((x.fst.n : Nat) : Int) ((x.snd.n : Nat) : Int)))
  (.ret false)
  (.jump S_f44_4 D_f44_4 (X_f44_4.mk x.fst x.snd ((x.fst.n : Nat) : Int) (0 : Int)))
 )
theorem sd_f44 (x : X_f44) : (tt_f44  x).Sides :=
  (TT.s_ite TT.s_ret TT.s_jump)

theorem dn_f44 (x : X_f44) : J_f44.den [⟨S_f44_4, D_f44_4⟩] S_f44 x 4000 = (tt_f44  x).tree J_f44.enc := by kernel_rfl
theorem st_f44  : LabOK J_f44 S_f44 (.of tt_f44) :=
  lab_ok mixed_ok (labs_cons rfl ok_f44_4 labs_nil) 4000 (dn_f44 ) (sd_f44 )
noncomputable def D_f44 : Dyn X_f44 R_f44 := .of tt_f44
theorem ct_f44 (x : X_f44) (y : R_f44) (h : D_f44.rel x y) : OK Try.prog 44 [(eSl none 1 (V.int .u64)) x.1, (eSl none 1 (V.int .u64)) x.2] [] (V.bool y) [] :=
  contract (fn := Try.f44) (J := J_f44) (S := S_f44) (D := D_f44) (by kernel_rfl) (code := Try.f44.body.getD .skip) (by kernel_rfl) rfl st_f44 rfl (x := x) (y := y) h rfl rfl rfl rfl rfl (by kernel_rfl)
noncomputable def con_f44 : Con Try.prog where
  f := 44
  fn := Try.f44
  hf := by kernel_rfl
  hb := by kernel_rfl
  hn := by kernel_rfl
  X := X_f44
  Y := R_f44
  args := fun x => [(eSl none 1 (V.int .u64)) x.1, (eSl none 1 (V.int .u64)) x.2]
  objs := fun x => []
  res := fun y => V.bool y
  outs := fun y => []
  rel := D_f44.rel
  ev := D_f44.ev
  evOK := D_f44.evOK
  dec := fun l m => ((dSl dI) (at_ l 0), (dSl dI) (at_ l 1))
  ash := [(.sl none 1 (V.int .u64 0)), (.sl none 1 (V.int .u64 0))]
  osh := []
  ok := ct_f44

/-! thread.Same -/
abbrev X_f22 : Type := TApi_ThreadState × TApi_ThreadState
abbrev R_f22 : Type := Bool
noncomputable def J_f22 : Job Try.prog where
  fn := Try.f22
  nt := 52
  pol := tabN 0 [(2, 3), (3, 3), (10, 1), (17, 1), (24, 1), (31, 1), (38, 1), (45, 1)]
  hint := tabN [] []
  finH := []
  rsh := [.any]
  psh := []
  tab := [con_f44]
  R := R_f22
  enc := fun y => [V.bool y]
noncomputable def S_f22 : LabS where
  id := 0
  K := [.code (Try.f22.body.getD .skip)]
  lay := entryLay 2 0
  X := X_f22
  enc := fun x => [e_TApi_ThreadState x.1, e_TApi_ThreadState x.2]
  dec := fun l => (d_TApi_ThreadState (at_ l 0), d_TApi_ThreadState (at_ l 1))
noncomputable def tt_f22 (x : X_f22) : TT Try.prog R_f22 :=
 (.ite (Go.Vm.ieq x.fst.At x.snd.At)
  (.ite (Go.Vm.ieq x.fst.Phase x.snd.Phase)
   (.ite (Go.Vm.ieq x.fst.Ring x.snd.Ring)
    (.ite (Go.Vm.ieq x.fst.Status x.snd.Status)
     (.ite (Go.Vm.ieq x.fst.Ticket x.snd.Ticket)
      (.ite ((Go.Vm.ieq (x.fst.Regs (0 : Nat)) (x.snd.Regs (0 : Nat))) && ((Go.Vm.ieq (x.fst.Regs ((0 : Nat) + (1 : Nat))) (x.snd.Regs ((0 : Nat) + (1 : Nat)))) && ((Go.Vm.ieq (x.fst.Regs (((0 : Nat) + (1 : Nat)) + (1 : Nat))) (x.snd.Regs (((0 : Nat) + (1 : Nat)) + (1 : Nat)))) && ((Go.Vm.ieq (x.fst.Regs ((((0 : Nat) + (1 : Nat)) + (1 : Nat)) + (1 : Nat))) (x.snd.Regs ((((0 : Nat) + (1 : Nat)) + (1 : Nat)) + (1 : Nat)))) && ((Go.Vm.ieq (x.fst.Regs (((((0 : Nat) + (1 : Nat)) + (1 : Nat)) + (1 : Nat)) + (1 : Nat))) (x.snd.Regs (((((0 : Nat) + (1 : Nat)) + (1 : Nat)) + (1 : Nat)) + (1 : Nat)))) && ((Go.Vm.ieq (x.fst.Regs ((((((0 : Nat) + (1 : Nat)) + (1 : Nat)) + (1 : Nat)) + (1 : Nat)) + (1 : Nat))) (x.snd.Regs ((((((0 : Nat) + (1 : Nat)) + (1 : Nat)) + (1 : Nat)) + (1 : Nat)) + (1 : Nat)))) && ((Go.Vm.ieq (x.fst.Regs (((((((0 : Nat) + (1 : Nat)) + (1 : Nat)) + (1 : Nat)) + (1 : Nat)) + (1 : Nat)) + (1 : Nat))) (x.snd.Regs (((((((0 : Nat) + (1 : Nat)) + (1 : Nat)) + (1 : Nat)) + (1 : Nat)) + (1 : Nat)) + (1 : Nat)))) && ((Go.Vm.ieq (x.fst.Regs ((((((((0 : Nat) + (1 : Nat)) + (1 : Nat)) + (1 : Nat)) + (1 : Nat)) + (1 : Nat)) + (1 : Nat)) + (1 : Nat))) (x.snd.Regs ((((((((0 : Nat) + (1 : Nat)) + (1 : Nat)) + (1 : Nat)) + (1 : Nat)) + (1 : Nat)) + (1 : Nat)) + (1 : Nat)))) && true))))))))
       (.call con_f44 (x.fst.Seen, x.snd.Seen) fun (y1 : R_f44) =>
       (.ret y1)
       )
       (.ret false)
      )
      (.ret false)
     )
     (.ret false)
    )
    (.ret false)
   )
   (.ret false)
  )
  (.ret false)
 )
theorem sd_f22 (x : X_f22) : (tt_f22  x).Sides :=
  (TT.s_ite (TT.s_ite (TT.s_ite (TT.s_ite (TT.s_ite (TT.s_ite (TT.s_call fun _ => TT.s_ret) TT.s_ret) TT.s_ret) TT.s_ret) TT.s_ret) TT.s_ret) TT.s_ret)

theorem dn_f22 (x : X_f22) : J_f22.den [] S_f22 x 4000 = (tt_f22  x).tree J_f22.enc := by kernel_rfl
theorem st_f22  : LabOK J_f22 S_f22 (.of tt_f22) :=
  lab_ok mixed_ok labs_nil 4000 (dn_f22 ) (sd_f22 )
noncomputable def D_f22 : Dyn X_f22 R_f22 := .of tt_f22
theorem ct_f22 (x : X_f22) (y : R_f22) (h : D_f22.rel x y) : OK Try.prog 22 [e_TApi_ThreadState x.1, e_TApi_ThreadState x.2] [] (V.bool y) [] :=
  contract (fn := Try.f22) (J := J_f22) (S := S_f22) (D := D_f22) (by kernel_rfl) (code := Try.f22.body.getD .skip) (by kernel_rfl) rfl st_f22 rfl (x := x) (y := y) h rfl rfl rfl rfl rfl (by kernel_rfl)
noncomputable def con_f22 : Con Try.prog where
  f := 22
  fn := Try.f22
  hf := by kernel_rfl
  hb := by kernel_rfl
  hn := by kernel_rfl
  X := X_f22
  Y := R_f22
  args := fun x => [e_TApi_ThreadState x.1, e_TApi_ThreadState x.2]
  objs := fun x => []
  res := fun y => V.bool y
  outs := fun y => []
  rel := D_f22.rel
  ev := D_f22.ev
  evOK := D_f22.evOK
  dec := fun l m => (d_TApi_ThreadState (at_ l 0), d_TApi_ThreadState (at_ l 1))
  ash := [sh_TApi_ThreadState, sh_TApi_ThreadState]
  osh := []
  ok := ct_f22

/-! slices.Equal[[]api.Slot,api.Slot] -/
abbrev X_f45 : Type := (Sl TApi_Slot) × (Sl TApi_Slot)
abbrev R_f45 : Type := Bool
noncomputable def J_f45 : Job Try.prog where
  fn := Try.f45
  nt := 26
  pol := tabN 0 [(13, 1), (21, 1)]
  hint := tabN [] []
  finH := []
  rsh := [.any]
  psh := []
  tab := []
  R := R_f45
  enc := fun y => [V.bool y]
noncomputable def S_f45 : LabS where
  id := 0
  K := [.code (Try.f45.body.getD .skip)]
  lay := entryLay 2 0
  X := X_f45
  enc := fun x => [(eSl none 3 e_TApi_Slot) x.1, (eSl none 3 e_TApi_Slot) x.2]
  dec := fun l => ((dSl d_TApi_Slot) (at_ l 0), (dSl d_TApi_Slot) (at_ l 1))
structure X_f45_4 where
  s1_0 : (Sl TApi_Slot)
  s2_1 : (Sl TApi_Slot)
  q_12 : Int
  q_13 : Int
noncomputable def S_f45_4 : LabS where
  id := 4
  K := (kAt 4 (Try.f45.body.getD .skip) []).getD []
  lay := { live := [(0, (.sl none 3 (e_TApi_Slot (d_TApi_Slot .undef)))), (1, (.sl none 3 (e_TApi_Slot (d_TApi_Slot .undef)))), (12, .any), (13, .any)], pars := [], locs := [] }
  X := X_f45_4
  enc := fun x => [(eSl none 3 e_TApi_Slot) x.s1_0, (eSl none 3 e_TApi_Slot) x.s2_1, (V.int .i64) x.q_12, (V.int .i64) x.q_13]
  dec := fun l => ⟨(dSl d_TApi_Slot) (at_ l 0), (dSl d_TApi_Slot) (at_ l 1), dI (at_ l 2), dI (at_ l 3)⟩
noncomputable def tt_f45_4 (D_f45_4 : Dyn X_f45_4 R_f45) (x : X_f45_4) : TT Try.prog R_f45 :=
 (.ite (Go.Vm.ilt x.q_13 x.q_12)
  (.need (Go.Vm.inb x.q_13 x.s1_0.n) <|
  (.need (Go.Vm.inb x.q_13 x.s2_1.n) <|
  (.ite (!((Go.Vm.ieq (x.s1_0.get (Int.toNat x.q_13)).Stamp (x.s2_1.get (Int.toNat x.q_13)).Stamp) && ((Go.Vm.ieq (x.s1_0.get (Int.toNat x.q_13)).Value (x.s2_1.get (Int.toNat x.q_13)).Value) && ((Go.Vm.ieq (x.s1_0.get (Int.toNat x.q_13)).Left (x.s2_1.get (Int.toNat x.q_13)).Left) && true))))
   (.ret false)
   (.jump S_f45_4 D_f45_4 (X_f45_4.mk x.s1_0 x.s2_1 x.q_12 (Go.IntKind.wrap Go.IntKind.i64 (x.q_13 + (1 : Int)))))
  )
  )
  )
  (.ret true)
 )
theorem sd_f45_4 (D_f45_4 : Dyn X_f45_4 R_f45) (x : X_f45_4) : (tt_f45_4 D_f45_4 x).Sides :=
  (TT.s_ite (TT.s_need (TT.s_need (TT.s_ite TT.s_ret TT.s_jump))) TT.s_ret)

theorem dn_f45_4 (D_f45_4 : Dyn X_f45_4 R_f45) (x : X_f45_4) : J_f45.den [⟨S_f45_4, D_f45_4⟩] S_f45_4 x 4000 = (tt_f45_4 D_f45_4 x).tree J_f45.enc := by kernel_rfl
theorem st_f45_4 (D_f45_4 : Dyn X_f45_4 R_f45) (h_4 : LabOK J_f45 S_f45_4 D_f45_4) : LabOK J_f45 S_f45_4 (.of (tt_f45_4 D_f45_4)) :=
  lab_ok mixed_ok (labs_cons rfl h_4 labs_nil) 4000 (dn_f45_4 D_f45_4) (sd_f45_4 D_f45_4)
noncomputable def D_f45_4 : Dyn X_f45_4 R_f45 := Dyn.loop (tt_f45_4 )
theorem ok_f45_4  : LabOK J_f45 S_f45_4 (D_f45_4 ) :=
  loop_ok fun D h => st_f45_4  D  h
noncomputable def tt_f45 (x : X_f45) : TT Try.prog R_f45 :=
 (.ite (!(Go.Vm.ieq ((x.fst.n : Nat) : Int) ((x.snd.n : Nat) : Int)))
  (.ret false)
  (.jump S_f45_4 D_f45_4 (X_f45_4.mk x.fst x.snd ((x.fst.n : Nat) : Int) (0 : Int)))
 )
theorem sd_f45 (x : X_f45) : (tt_f45  x).Sides :=
  (TT.s_ite TT.s_ret TT.s_jump)

theorem dn_f45 (x : X_f45) : J_f45.den [⟨S_f45_4, D_f45_4⟩] S_f45 x 4000 = (tt_f45  x).tree J_f45.enc := by kernel_rfl
theorem st_f45  : LabOK J_f45 S_f45 (.of tt_f45) :=
  lab_ok mixed_ok (labs_cons rfl ok_f45_4 labs_nil) 4000 (dn_f45 ) (sd_f45 )
noncomputable def D_f45 : Dyn X_f45 R_f45 := .of tt_f45
theorem ct_f45 (x : X_f45) (y : R_f45) (h : D_f45.rel x y) : OK Try.prog 45 [(eSl none 3 e_TApi_Slot) x.1, (eSl none 3 e_TApi_Slot) x.2] [] (V.bool y) [] :=
  contract (fn := Try.f45) (J := J_f45) (S := S_f45) (D := D_f45) (by kernel_rfl) (code := Try.f45.body.getD .skip) (by kernel_rfl) rfl st_f45 rfl (x := x) (y := y) h rfl rfl rfl rfl rfl (by kernel_rfl)
noncomputable def con_f45 : Con Try.prog where
  f := 45
  fn := Try.f45
  hf := by kernel_rfl
  hb := by kernel_rfl
  hn := by kernel_rfl
  X := X_f45
  Y := R_f45
  args := fun x => [(eSl none 3 e_TApi_Slot) x.1, (eSl none 3 e_TApi_Slot) x.2]
  objs := fun x => []
  res := fun y => V.bool y
  outs := fun y => []
  rel := D_f45.rel
  ev := D_f45.ev
  evOK := D_f45.evOK
  dec := fun l m => ((dSl d_TApi_Slot) (at_ l 0), (dSl d_TApi_Slot) (at_ l 1))
  ash := [(.sl none 3 (e_TApi_Slot (d_TApi_Slot .undef))), (.sl none 3 (e_TApi_Slot (d_TApi_Slot .undef)))]
  osh := []
  ok := ct_f45

/-! snap.same -/
abbrev X_f24 : Type := TApi_RingState × TApi_RingState
abbrev R_f24 : Type := Bool
noncomputable def J_f24 : Job Try.prog where
  fn := Try.f24
  nt := 31
  pol := tabN 0 [(2, 3), (3, 3), (10, 1), (17, 1), (24, 1)]
  hint := tabN [] []
  finH := []
  rsh := [.any]
  psh := []
  tab := [con_f44, con_f45]
  R := R_f24
  enc := fun y => [V.bool y]
noncomputable def S_f24 : LabS where
  id := 0
  K := [.code (Try.f24.body.getD .skip)]
  lay := entryLay 2 0
  X := X_f24
  enc := fun x => [e_TApi_RingState x.1, e_TApi_RingState x.2]
  dec := fun l => (d_TApi_RingState (at_ l 0), d_TApi_RingState (at_ l 1))
noncomputable def tt_f24 (x : X_f24) : TT Try.prog R_f24 :=
 (.ite (Go.Vm.ieq x.fst.Tail x.snd.Tail)
  (.ite (x.fst.Closed == x.snd.Closed)
   (.call con_f44 (x.fst.Heads, x.snd.Heads) fun (y1 : R_f44) =>
   (.ite y1
    (.call con_f45 (x.fst.Slots, x.snd.Slots) fun (y2 : R_f45) =>
    (.ret y2)
    )
    (.ret false)
   )
   )
   (.ret false)
  )
  (.ret false)
 )
theorem sd_f24 (x : X_f24) : (tt_f24  x).Sides :=
  (TT.s_ite (TT.s_ite (TT.s_call fun _ => (TT.s_ite (TT.s_call fun _ => TT.s_ret) TT.s_ret)) TT.s_ret) TT.s_ret)

theorem dn_f24 (x : X_f24) : J_f24.den [] S_f24 x 4000 = (tt_f24  x).tree J_f24.enc := by kernel_rfl
theorem st_f24  : LabOK J_f24 S_f24 (.of tt_f24) :=
  lab_ok mixed_ok labs_nil 4000 (dn_f24 ) (sd_f24 )
noncomputable def D_f24 : Dyn X_f24 R_f24 := .of tt_f24
theorem ct_f24 (x : X_f24) (y : R_f24) (h : D_f24.rel x y) : OK Try.prog 24 [e_TApi_RingState x.1, e_TApi_RingState x.2] [] (V.bool y) [] :=
  contract (fn := Try.f24) (J := J_f24) (S := S_f24) (D := D_f24) (by kernel_rfl) (code := Try.f24.body.getD .skip) (by kernel_rfl) rfl st_f24 rfl (x := x) (y := y) h rfl rfl rfl rfl rfl (by kernel_rfl)
noncomputable def con_f24 : Con Try.prog where
  f := 24
  fn := Try.f24
  hf := by kernel_rfl
  hb := by kernel_rfl
  hn := by kernel_rfl
  X := X_f24
  Y := R_f24
  args := fun x => [e_TApi_RingState x.1, e_TApi_RingState x.2]
  objs := fun x => []
  res := fun y => V.bool y
  outs := fun y => []
  rel := D_f24.rel
  ev := D_f24.ev
  evOK := D_f24.evOK
  dec := fun l m => (d_TApi_RingState (at_ l 0), d_TApi_RingState (at_ l 1))
  ash := [sh_TApi_RingState, sh_TApi_RingState]
  osh := []
  ok := ct_f24

/-! slices.EqualFunc[[]api.ThreadState,[]api.ThreadState,api.ThreadState,api.ThreadState] (f21v0) -/
abbrev X_f21v0 : Type := (Sl TApi_ThreadState) × (Sl TApi_ThreadState)
abbrev R_f21v0 : Type := Bool
noncomputable def J_f21v0 : Job Try.prog where
  fn := Try.f21
  nt := 32
  pol := tabN 0 [(15, 1), (17, 1), (23, 1)]
  hint := tabN [] []
  finH := []
  rsh := [.any]
  psh := []
  tab := [con_f22]
  R := R_f21v0
  enc := fun y => [V.bool y]
noncomputable def S_f21v0 : LabS where
  id := 0
  K := [.code (Try.f21.body.getD .skip)]
  lay := entryLay 3 0
  X := X_f21v0
  enc := fun x => [(eSl none 14 e_TApi_ThreadState) x.1, (eSl none 14 e_TApi_ThreadState) x.2, (V.fn 22 V.unit)]
  dec := fun l => ((dSl d_TApi_ThreadState) (at_ l 0), (dSl d_TApi_ThreadState) (at_ l 1))
structure X_f21v0_4 where
  s2_1 : (Sl TApi_ThreadState)
  q_15 : (Sl TApi_ThreadState)
  q_16 : Int
  q_17 : Int
noncomputable def S_f21v0_4 : LabS where
  id := 4
  K := (kAt 4 (Try.f21.body.getD .skip) []).getD []
  lay := { live := [(1, (.sl none 14 (e_TApi_ThreadState (d_TApi_ThreadState .undef)))), (2, .any), (15, (.sl none 14 (e_TApi_ThreadState (d_TApi_ThreadState .undef)))), (16, .any), (17, .any)], pars := [], locs := [] }
  X := X_f21v0_4
  enc := fun x => [(eSl none 14 e_TApi_ThreadState) x.s2_1, (V.fn 22 V.unit), (eSl none 14 e_TApi_ThreadState) x.q_15, (V.int .i64) x.q_16, (V.int .i64) x.q_17]
  dec := fun l => ⟨(dSl d_TApi_ThreadState) (at_ l 0), (dSl d_TApi_ThreadState) (at_ l 2), dI (at_ l 3), dI (at_ l 4)⟩
noncomputable def tt_f21v0_4 (D_f21v0_4 : Dyn X_f21v0_4 R_f21v0) (x : X_f21v0_4) : TT Try.prog R_f21v0 :=
 (.ite (Go.Vm.ilt x.q_17 x.q_16)
  (.need (Go.Vm.inb x.q_17 x.q_15.n) <|
  (.need (Go.Vm.inb x.q_17 x.s2_1.n) <|
  (.call con_f22 ((x.q_15.get (Int.toNat x.q_17)), (x.s2_1.get (Int.toNat x.q_17))) fun (y2 : R_f22) =>
  (.ite (!y2)
   (.ret false)
   (.jump S_f21v0_4 D_f21v0_4 (X_f21v0_4.mk x.s2_1 x.q_15 x.q_16 (Go.IntKind.wrap Go.IntKind.i64 (x.q_17 + (1 : Int)))))
  )
  )
  )
  )
  (.ret true)
 )
theorem sd_f21v0_4 (D_f21v0_4 : Dyn X_f21v0_4 R_f21v0) (x : X_f21v0_4) : (tt_f21v0_4 D_f21v0_4 x).Sides :=
  (TT.s_ite (TT.s_need (TT.s_need (TT.s_call fun _ => (TT.s_ite TT.s_ret TT.s_jump)))) TT.s_ret)

theorem dn_f21v0_4 (D_f21v0_4 : Dyn X_f21v0_4 R_f21v0) (x : X_f21v0_4) : J_f21v0.den [⟨S_f21v0_4, D_f21v0_4⟩] S_f21v0_4 x 4000 = (tt_f21v0_4 D_f21v0_4 x).tree J_f21v0.enc := by kernel_rfl
theorem st_f21v0_4 (D_f21v0_4 : Dyn X_f21v0_4 R_f21v0) (h_4 : LabOK J_f21v0 S_f21v0_4 D_f21v0_4) : LabOK J_f21v0 S_f21v0_4 (.of (tt_f21v0_4 D_f21v0_4)) :=
  lab_ok mixed_ok (labs_cons rfl h_4 labs_nil) 4000 (dn_f21v0_4 D_f21v0_4) (sd_f21v0_4 D_f21v0_4)
noncomputable def D_f21v0_4 : Dyn X_f21v0_4 R_f21v0 := Dyn.loop (tt_f21v0_4 )
theorem ok_f21v0_4  : LabOK J_f21v0 S_f21v0_4 (D_f21v0_4 ) :=
  loop_ok fun D h => st_f21v0_4  D  h
noncomputable def tt_f21v0 (x : X_f21v0) : TT Try.prog R_f21v0 :=
 (.ite (!(Go.Vm.ieq ((x.fst.n : Nat) : Int) ((x.snd.n : Nat) : Int)))
  (.ret false)
  (.jump S_f21v0_4 D_f21v0_4 (X_f21v0_4.mk x.snd x.fst ((x.fst.n : Nat) : Int) (0 : Int)))
 )
theorem sd_f21v0 (x : X_f21v0) : (tt_f21v0  x).Sides :=
  (TT.s_ite TT.s_ret TT.s_jump)

theorem dn_f21v0 (x : X_f21v0) : J_f21v0.den [⟨S_f21v0_4, D_f21v0_4⟩] S_f21v0 x 4000 = (tt_f21v0  x).tree J_f21v0.enc := by kernel_rfl
theorem st_f21v0  : LabOK J_f21v0 S_f21v0 (.of tt_f21v0) :=
  lab_ok mixed_ok (labs_cons rfl ok_f21v0_4 labs_nil) 4000 (dn_f21v0 ) (sd_f21v0 )
noncomputable def D_f21v0 : Dyn X_f21v0 R_f21v0 := .of tt_f21v0
theorem ct_f21v0 (x : X_f21v0) (y : R_f21v0) (h : D_f21v0.rel x y) : OK Try.prog 21 [(eSl none 14 e_TApi_ThreadState) x.1, (eSl none 14 e_TApi_ThreadState) x.2, (V.fn 22 V.unit)] [] (V.bool y) [] :=
  contract (fn := Try.f21) (J := J_f21v0) (S := S_f21v0) (D := D_f21v0) (by kernel_rfl) (code := Try.f21.body.getD .skip) (by kernel_rfl) rfl st_f21v0 rfl (x := x) (y := y) h rfl rfl rfl rfl rfl (by kernel_rfl)
noncomputable def con_f21v0 : Con Try.prog where
  f := 21
  fn := Try.f21
  hf := by kernel_rfl
  hb := by kernel_rfl
  hn := by kernel_rfl
  X := X_f21v0
  Y := R_f21v0
  args := fun x => [(eSl none 14 e_TApi_ThreadState) x.1, (eSl none 14 e_TApi_ThreadState) x.2, (V.fn 22 V.unit)]
  objs := fun x => []
  res := fun y => V.bool y
  outs := fun y => []
  rel := D_f21v0.rel
  ev := D_f21v0.ev
  evOK := D_f21v0.evOK
  dec := fun l m => ((dSl d_TApi_ThreadState) (at_ l 0), (dSl d_TApi_ThreadState) (at_ l 1))
  ash := [(.sl none 14 (e_TApi_ThreadState (d_TApi_ThreadState .undef))), (.sl none 14 (e_TApi_ThreadState (d_TApi_ThreadState .undef))), .any]
  osh := []
  ok := ct_f21v0

/-! slices.EqualFunc[[]api.RingState,[]api.RingState,api.RingState,api.RingState] (f23v0) -/
abbrev X_f23v0 : Type := (Sl TApi_RingState) × (Sl TApi_RingState)
abbrev R_f23v0 : Type := Bool
noncomputable def J_f23v0 : Job Try.prog where
  fn := Try.f23
  nt := 32
  pol := tabN 0 [(15, 1), (17, 1), (23, 1)]
  hint := tabN [] []
  finH := []
  rsh := [.any]
  psh := []
  tab := [con_f24]
  R := R_f23v0
  enc := fun y => [V.bool y]
noncomputable def S_f23v0 : LabS where
  id := 0
  K := [.code (Try.f23.body.getD .skip)]
  lay := entryLay 3 0
  X := X_f23v0
  enc := fun x => [(eSl none 4 e_TApi_RingState) x.1, (eSl none 4 e_TApi_RingState) x.2, (V.fn 24 V.unit)]
  dec := fun l => ((dSl d_TApi_RingState) (at_ l 0), (dSl d_TApi_RingState) (at_ l 1))
structure X_f23v0_4 where
  s2_1 : (Sl TApi_RingState)
  q_15 : (Sl TApi_RingState)
  q_16 : Int
  q_17 : Int
noncomputable def S_f23v0_4 : LabS where
  id := 4
  K := (kAt 4 (Try.f23.body.getD .skip) []).getD []
  lay := { live := [(1, (.sl none 4 (e_TApi_RingState (d_TApi_RingState .undef)))), (2, .any), (15, (.sl none 4 (e_TApi_RingState (d_TApi_RingState .undef)))), (16, .any), (17, .any)], pars := [], locs := [] }
  X := X_f23v0_4
  enc := fun x => [(eSl none 4 e_TApi_RingState) x.s2_1, (V.fn 24 V.unit), (eSl none 4 e_TApi_RingState) x.q_15, (V.int .i64) x.q_16, (V.int .i64) x.q_17]
  dec := fun l => ⟨(dSl d_TApi_RingState) (at_ l 0), (dSl d_TApi_RingState) (at_ l 2), dI (at_ l 3), dI (at_ l 4)⟩
noncomputable def tt_f23v0_4 (D_f23v0_4 : Dyn X_f23v0_4 R_f23v0) (x : X_f23v0_4) : TT Try.prog R_f23v0 :=
 (.ite (Go.Vm.ilt x.q_17 x.q_16)
  (.need (Go.Vm.inb x.q_17 x.q_15.n) <|
  (.need (Go.Vm.inb x.q_17 x.s2_1.n) <|
  (.call con_f24 ((x.q_15.get (Int.toNat x.q_17)), (x.s2_1.get (Int.toNat x.q_17))) fun (y2 : R_f24) =>
  (.ite (!y2)
   (.ret false)
   (.jump S_f23v0_4 D_f23v0_4 (X_f23v0_4.mk x.s2_1 x.q_15 x.q_16 (Go.IntKind.wrap Go.IntKind.i64 (x.q_17 + (1 : Int)))))
  )
  )
  )
  )
  (.ret true)
 )
theorem sd_f23v0_4 (D_f23v0_4 : Dyn X_f23v0_4 R_f23v0) (x : X_f23v0_4) : (tt_f23v0_4 D_f23v0_4 x).Sides :=
  (TT.s_ite (TT.s_need (TT.s_need (TT.s_call fun _ => (TT.s_ite TT.s_ret TT.s_jump)))) TT.s_ret)

theorem dn_f23v0_4 (D_f23v0_4 : Dyn X_f23v0_4 R_f23v0) (x : X_f23v0_4) : J_f23v0.den [⟨S_f23v0_4, D_f23v0_4⟩] S_f23v0_4 x 4000 = (tt_f23v0_4 D_f23v0_4 x).tree J_f23v0.enc := by kernel_rfl
theorem st_f23v0_4 (D_f23v0_4 : Dyn X_f23v0_4 R_f23v0) (h_4 : LabOK J_f23v0 S_f23v0_4 D_f23v0_4) : LabOK J_f23v0 S_f23v0_4 (.of (tt_f23v0_4 D_f23v0_4)) :=
  lab_ok mixed_ok (labs_cons rfl h_4 labs_nil) 4000 (dn_f23v0_4 D_f23v0_4) (sd_f23v0_4 D_f23v0_4)
noncomputable def D_f23v0_4 : Dyn X_f23v0_4 R_f23v0 := Dyn.loop (tt_f23v0_4 )
theorem ok_f23v0_4  : LabOK J_f23v0 S_f23v0_4 (D_f23v0_4 ) :=
  loop_ok fun D h => st_f23v0_4  D  h
noncomputable def tt_f23v0 (x : X_f23v0) : TT Try.prog R_f23v0 :=
 (.ite (!(Go.Vm.ieq ((x.fst.n : Nat) : Int) ((x.snd.n : Nat) : Int)))
  (.ret false)
  (.jump S_f23v0_4 D_f23v0_4 (X_f23v0_4.mk x.snd x.fst ((x.fst.n : Nat) : Int) (0 : Int)))
 )
theorem sd_f23v0 (x : X_f23v0) : (tt_f23v0  x).Sides :=
  (TT.s_ite TT.s_ret TT.s_jump)

theorem dn_f23v0 (x : X_f23v0) : J_f23v0.den [⟨S_f23v0_4, D_f23v0_4⟩] S_f23v0 x 4000 = (tt_f23v0  x).tree J_f23v0.enc := by kernel_rfl
theorem st_f23v0  : LabOK J_f23v0 S_f23v0 (.of tt_f23v0) :=
  lab_ok mixed_ok (labs_cons rfl ok_f23v0_4 labs_nil) 4000 (dn_f23v0 ) (sd_f23v0 )
noncomputable def D_f23v0 : Dyn X_f23v0 R_f23v0 := .of tt_f23v0
theorem ct_f23v0 (x : X_f23v0) (y : R_f23v0) (h : D_f23v0.rel x y) : OK Try.prog 23 [(eSl none 4 e_TApi_RingState) x.1, (eSl none 4 e_TApi_RingState) x.2, (V.fn 24 V.unit)] [] (V.bool y) [] :=
  contract (fn := Try.f23) (J := J_f23v0) (S := S_f23v0) (D := D_f23v0) (by kernel_rfl) (code := Try.f23.body.getD .skip) (by kernel_rfl) rfl st_f23v0 rfl (x := x) (y := y) h rfl rfl rfl rfl rfl (by kernel_rfl)
noncomputable def con_f23v0 : Con Try.prog where
  f := 23
  fn := Try.f23
  hf := by kernel_rfl
  hb := by kernel_rfl
  hn := by kernel_rfl
  X := X_f23v0
  Y := R_f23v0
  args := fun x => [(eSl none 4 e_TApi_RingState) x.1, (eSl none 4 e_TApi_RingState) x.2, (V.fn 24 V.unit)]
  objs := fun x => []
  res := fun y => V.bool y
  outs := fun y => []
  rel := D_f23v0.rel
  ev := D_f23v0.ev
  evOK := D_f23v0.evOK
  dec := fun l m => ((dSl d_TApi_RingState) (at_ l 0), (dSl d_TApi_RingState) (at_ l 1))
  ash := [(.sl none 4 (e_TApi_RingState (d_TApi_RingState .undef))), (.sl none 4 (e_TApi_RingState (d_TApi_RingState .undef))), .any]
  osh := []
  ok := ct_f23v0

/-! snap.Same -/
abbrev X_f8 : Type := TApi_State × TApi_State
abbrev R_f8 : Type := Bool
noncomputable def J_f8 : Job Try.prog where
  fn := Try.f8
  nt := 38
  pol := tabN 0 [(2, 3), (3, 3), (10, 1), (17, 1), (24, 1), (31, 1)]
  hint := tabN [] []
  finH := []
  rsh := [.any]
  psh := []
  tab := [con_f21v0, con_f23v0]
  R := R_f8
  enc := fun y => [V.bool y]
noncomputable def S_f8 : LabS where
  id := 0
  K := [.code (Try.f8.body.getD .skip)]
  lay := entryLay 2 0
  X := X_f8
  enc := fun x => [e_TApi_State x.1, e_TApi_State x.2]
  dec := fun l => (d_TApi_State (at_ l 0), d_TApi_State (at_ l 1))
noncomputable def tt_f8 (x : X_f8) : TT Try.prog R_f8 :=
 (.call con_f21v0 (x.fst.Threads, x.snd.Threads) fun (y1 : R_f21v0) =>
 (.ite y1
  (.call con_f23v0 (x.fst.Rings, x.snd.Rings) fun (y2 : R_f23v0) =>
  (.ite y2
   (.ite (Go.Vm.ieq x.fst.Now x.snd.Now)
    (.ite (Go.Vm.ieq x.fst.Reads x.snd.Reads)
     (.ret (x.fst.Ended == x.snd.Ended))
     (.ret false)
    )
    (.ret false)
   )
   (.ret false)
  )
  )
  (.ret false)
 )
 )
theorem sd_f8 (x : X_f8) : (tt_f8  x).Sides :=
  (TT.s_call fun _ => (TT.s_ite (TT.s_call fun _ => (TT.s_ite (TT.s_ite (TT.s_ite TT.s_ret TT.s_ret) TT.s_ret) TT.s_ret)) TT.s_ret))

theorem dn_f8 (x : X_f8) : J_f8.den [] S_f8 x 4000 = (tt_f8  x).tree J_f8.enc := by kernel_rfl
theorem st_f8  : LabOK J_f8 S_f8 (.of tt_f8) :=
  lab_ok mixed_ok labs_nil 4000 (dn_f8 ) (sd_f8 )
noncomputable def D_f8 : Dyn X_f8 R_f8 := .of tt_f8
theorem ct_f8 (x : X_f8) (y : R_f8) (h : D_f8.rel x y) : OK Try.prog 8 [e_TApi_State x.1, e_TApi_State x.2] [] (V.bool y) [] :=
  contract (fn := Try.f8) (J := J_f8) (S := S_f8) (D := D_f8) (by kernel_rfl) (code := Try.f8.body.getD .skip) (by kernel_rfl) rfl st_f8 rfl (x := x) (y := y) h rfl rfl rfl rfl rfl (by kernel_rfl)
noncomputable def con_f8 : Con Try.prog where
  f := 8
  fn := Try.f8
  hf := by kernel_rfl
  hb := by kernel_rfl
  hn := by kernel_rfl
  X := X_f8
  Y := R_f8
  args := fun x => [e_TApi_State x.1, e_TApi_State x.2]
  objs := fun x => []
  res := fun y => V.bool y
  outs := fun y => []
  rel := D_f8.rel
  ev := D_f8.ev
  evOK := D_f8.evOK
  dec := fun l m => (d_TApi_State (at_ l 0), d_TApi_State (at_ l 1))
  ash := [sh_TApi_State, sh_TApi_State]
  osh := []
  ok := ct_f8

/-! (*fabric.Fabric).Now -/
abbrev X_f14 : Type := TFabric_Fabric
abbrev R_f14 : Type := Int × TFabric_Fabric
noncomputable def J_f14 : Job Try.prog where
  fn := Try.f14
  nt := 9
  pol := tabN 0 [(5, 1)]
  hint := tabN [] []
  finH := []
  rsh := [.any]
  psh := [sh_TFabric_Fabric]
  tab := []
  R := R_f14
  enc := fun y => [(V.int .u64) y.1, e_TFabric_Fabric y.2]
noncomputable def S_f14 : LabS where
  id := 0
  K := [.code (Try.f14.body.getD .skip)]
  lay := entryLay 1 1
  X := X_f14
  enc := fun x => [(V.ptr (.par 0) []), e_TFabric_Fabric x]
  dec := fun l => (d_TFabric_Fabric (at_ l 1))
noncomputable def tt_f14 (x : X_f14) : TT Try.prog R_f14 :=
 (.ret (x.now, (TFabric_Fabric.mk x.p x.threads x.rings x.now x.reads x.ended)))
theorem sd_f14 (x : X_f14) : (tt_f14  x).Sides :=
  TT.s_ret

theorem dn_f14 (x : X_f14) : J_f14.den [] S_f14 x 4000 = (tt_f14  x).tree J_f14.enc := by kernel_rfl
theorem st_f14  : LabOK J_f14 S_f14 (.of tt_f14) :=
  lab_ok mixed_ok labs_nil 4000 (dn_f14 ) (sd_f14 )
noncomputable def D_f14 : Dyn X_f14 R_f14 := .of tt_f14
theorem ct_f14 (x : X_f14) (y : R_f14) (h : D_f14.rel x y) : OK Try.prog 14 [(V.ptr (.par 0) [])] [e_TFabric_Fabric x] ((V.int .u64) y.1) [e_TFabric_Fabric y.2] :=
  contract (fn := Try.f14) (J := J_f14) (S := S_f14) (D := D_f14) (by kernel_rfl) (code := Try.f14.body.getD .skip) (by kernel_rfl) rfl st_f14 rfl (x := x) (y := y) h rfl rfl rfl rfl rfl (by kernel_rfl)
noncomputable def con_f14 : Con Try.prog where
  f := 14
  fn := Try.f14
  hf := by kernel_rfl
  hb := by kernel_rfl
  hn := by kernel_rfl
  X := X_f14
  Y := R_f14
  args := fun x => [(V.ptr (.par 0) [])]
  objs := fun x => [e_TFabric_Fabric x]
  res := fun y => (V.int .u64) y.1
  outs := fun y => [e_TFabric_Fabric y.2]
  rel := D_f14.rel
  ev := D_f14.ev
  evOK := D_f14.evOK
  dec := fun l m => (d_TFabric_Fabric (at_ m 0))
  ash := [.any]
  osh := [sh_TFabric_Fabric]
  ok := ct_f14

/-! rondeaulaw22.awake -/
abbrev X_f5 : Type := Unit
abbrev R_f5 : Type := Bool
noncomputable def J_f5 : Job Try.prog where
  fn := Try.f5
  nt := 110
  pol := tabN 0 [(16, 1), (21, 1), (26, 1), (32, 1), (43, 1), (48, 1), (54, 1), (60, 1), (62, 1), (63, 1), (66, 1), (71, 1), (72, 1), (75, 1), (76, 1), (79, 1), (80, 1), (83, 1), (87, 1), (88, 1), (91, 1), (92, 1), (96, 1), (97, 1), (100, 1), (101, 1), (104, 1)]
  hint := tabN [] [(9, [.open_ 10])]
  finH := []
  rsh := [.any]
  psh := []
  tab := [con_f12, con_f13, con_f14, con_f7, con_f8]
  R := R_f5
  enc := fun y => [V.bool y]
noncomputable def S_f5 : LabS where
  id := 0
  K := [.code (Try.f5.body.getD .skip)]
  lay := entryLay 0 0
  X := X_f5
  enc := fun _x => []
  dec := fun _l => ()
noncomputable def tt_f5 (_x : X_f5) : TT Try.prog R_f5 :=
 (.call con_f7 (TApi_State.mk (Go.Vm.Sl.mk true (0 : Nat) (fun _i1 => (TApi_ThreadState.mk (0 : Int) (0 : Int) (0 : Int) (0 : Int) (0 : Int) (fun _i2 => (0 : Int)) (Go.Vm.Sl.mk true (0 : Nat) (fun _i2 => (0 : Int)))))) (Go.Vm.Sl.mk true (0 : Nat) (fun _i1 => (TApi_RingState.mk (0 : Int) (Go.Vm.Sl.mk true (0 : Nat) (fun _i2 => (0 : Int))) false (Go.Vm.Sl.mk true (0 : Nat) (fun _i2 => (TApi_Slot.mk (0 : Int) (0 : Int) (0 : Int))))))) (0 : Int) (0 : Int) false) fun (y1 : R_f7) =>
 (.call con_f12 y1.fst fun (y2 : R_f12) =>
 (.need (decide ((((ByteArray.size y1.fst) + (ByteArray.size (ByteArray.mk #[120]))) ≤ (9223372036854775807 : Nat)))) <|
 (.call con_f12 (y1.fst ++ (ByteArray.mk #[120])) fun (y3 : R_f12) =>
 (.call con_f7 (TApi_State.mk (Go.Vm.Sl.mk false (1 : Nat) (fun _i4 => (TApi_ThreadState.mk (-(1 : Int)) (0 : Int) (0 : Int) (0 : Int) (0 : Int) (fun _i5 => (0 : Int)) (Go.Vm.Sl.mk true (0 : Nat) (fun _i5 => (0 : Int)))))) (Go.Vm.Sl.mk true (0 : Nat) (fun _i4 => (TApi_RingState.mk (0 : Int) (Go.Vm.Sl.mk true (0 : Nat) (fun _i5 => (0 : Int))) false (Go.Vm.Sl.mk true (0 : Nat) (fun _i5 => (TApi_Slot.mk (0 : Int) (0 : Int) (0 : Int))))))) (0 : Int) (0 : Int) false) fun (y4 : R_f7) =>
 (.call con_f13 ((TApi_Program.mk (Go.Vm.Sl.mk true (0 : Nat) (fun _i5 => (TApi_Ring.mk (0 : Int) (0 : Int) (0 : Int)))) (Go.Vm.Sl.mk false (1 : Nat) (fun _i5 => (Go.Vm.Sl.mk false (1 : Nat) (fun _i6 => (TApi_Instr.mk (25 : Int) (0 : Int) (0 : Int) (0 : Int) (0 : Int) (0 : Int))))))), (ByteArray.mk #[1, 1, 0, 0, 0, 0, 0, 0, 0, 0, 0, 0, 0, 0, 0, 0, 7, 0, 0])) fun (y5 : R_f13) =>
 (.call con_f13 ((TApi_Program.mk (Go.Vm.Sl.mk true (0 : Nat) (fun _i6 => (TApi_Ring.mk (0 : Int) (0 : Int) (0 : Int)))) (Go.Vm.Sl.mk false (1 : Nat) (fun _i6 => (Go.Vm.Sl.mk false (1 : Nat) (fun _i7 => (TApi_Instr.mk (25 : Int) (0 : Int) (0 : Int) (0 : Int) (0 : Int) (0 : Int))))))), y1.fst) fun (y6 : R_f13) =>
 (.call con_f13 ((TApi_Program.mk (Go.Vm.Sl.mk true (0 : Nat) (fun _i7 => (TApi_Ring.mk (0 : Int) (0 : Int) (0 : Int)))) (Go.Vm.Sl.mk true (0 : Nat) (fun _i7 => (Go.Vm.Sl.mk true (0 : Nat) (fun _i8 => (TApi_Instr.mk (0 : Int) (0 : Int) (0 : Int) (0 : Int) (0 : Int) (0 : Int))))))), y1.fst) fun (y7 : R_f13) =>
 (.need (!y5.fst.nil) <|
 (.ite (Go.Vm.seq y1.fst (ByteArray.mk #[0, 0, 0, 0, 0]))
  (.ite (Go.Vm.ieq y1.snd (0 : Int))
   (.call con_f8 (y2.fst, (TApi_State.mk (Go.Vm.Sl.mk true (0 : Nat) (fun _i8 => (TApi_ThreadState.mk (0 : Int) (0 : Int) (0 : Int) (0 : Int) (0 : Int) (fun _i9 => (0 : Int)) (Go.Vm.Sl.mk true (0 : Nat) (fun _i9 => (0 : Int)))))) (Go.Vm.Sl.mk true (0 : Nat) (fun _i8 => (TApi_RingState.mk (0 : Int) (Go.Vm.Sl.mk true (0 : Nat) (fun _i9 => (0 : Int))) false (Go.Vm.Sl.mk true (0 : Nat) (fun _i9 => (TApi_Slot.mk (0 : Int) (0 : Int) (0 : Int))))))) (0 : Int) (0 : Int) false)) fun (y8 : R_f8) =>
   (.ite y8
    (.ite (Go.Vm.ieq y2.snd (0 : Int))
     (.ite (Go.Vm.ieq y3.snd (3 : Int))
      (.ite (Go.Vm.ieq y4.snd (1 : Int))
       (.ite (Go.Vm.ieq y5.snd (0 : Int))
        (.call con_f14 (TFabric_Fabric.mk y5.fst.x.p y5.fst.x.threads y5.fst.x.rings y5.fst.x.now y5.fst.x.reads y5.fst.x.ended) fun (y9 : R_f14) =>
        (.ite (Go.Vm.ieq y9.fst (7 : Int))
         (.ite (Go.Vm.ieq y6.snd (3 : Int))
          (.ite (Go.Vm.ieq y7.snd (1 : Int))
           (.call con_f8 (y2.fst, (TApi_State.mk (Go.Vm.Sl.mk true (0 : Nat) (fun _i10 => (TApi_ThreadState.mk (0 : Int) (0 : Int) (0 : Int) (0 : Int) (0 : Int) (fun _i11 => (0 : Int)) (Go.Vm.Sl.mk true (0 : Nat) (fun _i11 => (0 : Int)))))) (Go.Vm.Sl.mk true (0 : Nat) (fun _i10 => (TApi_RingState.mk (0 : Int) (Go.Vm.Sl.mk true (0 : Nat) (fun _i11 => (0 : Int))) false (Go.Vm.Sl.mk true (0 : Nat) (fun _i11 => (TApi_Slot.mk (0 : Int) (0 : Int) (0 : Int))))))) (1 : Int) (0 : Int) false)) fun (y10 : R_f8) =>
           (.ret (!y10))
           )
           (.ret false)
          )
          (.ret false)
         )
         (.ret false)
        )
        )
        (.ret false)
       )
       (.ret false)
      )
      (.ret false)
     )
     (.ret false)
    )
    (.ret false)
   )
   )
   (.ret false)
  )
  (.ret false)
 )
 )
 )
 )
 )
 )
 )
 )
 )
 )
theorem sd_f5 (x : X_f5) : (tt_f5  x).Sides :=
  (TT.s_call fun _ => (TT.s_call fun _ => (TT.s_need (TT.s_call fun _ => (TT.s_call fun _ => (TT.s_call fun _ => (TT.s_call fun _ => (TT.s_call fun _ => (TT.s_need (TT.s_ite (TT.s_ite (TT.s_call fun _ => (TT.s_ite (TT.s_ite (TT.s_ite (TT.s_ite (TT.s_ite (TT.s_call fun _ => (TT.s_ite (TT.s_ite (TT.s_ite (TT.s_call fun _ => TT.s_ret) TT.s_ret) TT.s_ret) TT.s_ret)) TT.s_ret) TT.s_ret) TT.s_ret) TT.s_ret) TT.s_ret)) TT.s_ret) TT.s_ret))))))))))

theorem dn_f5 (x : X_f5) : J_f5.den [] S_f5 x 4000 = (tt_f5  x).tree J_f5.enc := by kernel_rfl
theorem st_f5  : LabOK J_f5 S_f5 (.of tt_f5) :=
  lab_ok mixed_ok labs_nil 4000 (dn_f5 ) (sd_f5 )
noncomputable def D_f5 : Dyn X_f5 R_f5 := .of tt_f5
theorem ct_f5 (x : X_f5) (y : R_f5) (h : D_f5.rel x y) : OK Try.prog 5 [] [] (V.bool y) [] :=
  contract (fn := Try.f5) (J := J_f5) (S := S_f5) (D := D_f5) (by kernel_rfl) (code := Try.f5.body.getD .skip) (by kernel_rfl) rfl st_f5 rfl (x := x) (y := y) h rfl rfl rfl rfl rfl (by kernel_rfl)
noncomputable def con_f5 : Con Try.prog where
  f := 5
  fn := Try.f5
  hf := by kernel_rfl
  hb := by kernel_rfl
  hn := by kernel_rfl
  X := X_f5
  Y := R_f5
  args := fun x => []
  objs := fun x => []
  res := fun y => V.bool y
  outs := fun y => []
  rel := D_f5.rel
  ev := D_f5.ev
  evOK := D_f5.evOK
  dec := fun l m => ()
  ash := []
  osh := []
  ok := ct_f5

/-! rondeauref22.Few -/
abbrev X_f6 : Type := TApi_State
abbrev R_f6 : Type := Bool
noncomputable def J_f6 : Job Try.prog where
  fn := Try.f6
  nt := 55
  pol := tabN 0 [(1, 3), (9, 1), (20, 1), (35, 1), (45, 1)]
  hint := tabN [] []
  finH := []
  rsh := [.any]
  psh := []
  tab := []
  R := R_f6
  enc := fun y => [V.bool y]
noncomputable def S_f6 : LabS where
  id := 0
  K := [.code (Try.f6.body.getD .skip)]
  lay := entryLay 1 0
  X := X_f6
  enc := fun x => [e_TApi_State x]
  dec := fun l => (d_TApi_State (at_ l 0))
structure X_f6_3 where
  s_1 : TApi_State
noncomputable def S_f6_3 : LabS where
  id := 3
  K := (kAt 3 (Try.f6.body.getD .skip) []).getD []
  lay := { live := [(1, .any)], pars := [], locs := [] }
  X := X_f6_3
  enc := fun x => [(eVp e_TApi_State) x.s_1]
  dec := fun l => ⟨(dVp d_TApi_State) (at_ l 0)⟩
structure X_f6_4 where
  s_1 : TApi_State
  i_3 : Int
noncomputable def S_f6_4 : LabS where
  id := 4
  K := (kAt 4 (Try.f6.body.getD .skip) []).getD []
  lay := { live := [(1, .any), (3, .any)], pars := [], locs := [] }
  X := X_f6_4
  enc := fun x => [(eVp e_TApi_State) x.s_1, (V.int .i64) x.i_3]
  dec := fun l => ⟨(dVp d_TApi_State) (at_ l 0), dI (at_ l 1)⟩
structure X_f6_8 where
  s_1 : TApi_State
noncomputable def S_f6_8 : LabS where
  id := 8
  K := (kAt 8 (Try.f6.body.getD .skip) []).getD []
  lay := { live := [(1, .any)], pars := [], locs := [] }
  X := X_f6_8
  enc := fun x => [(eVp e_TApi_State) x.s_1]
  dec := fun l => ⟨(dVp d_TApi_State) (at_ l 0)⟩
structure X_f6_9 where
  s_1 : TApi_State
  i_4 : Int
noncomputable def S_f6_9 : LabS where
  id := 9
  K := (kAt 9 (Try.f6.body.getD .skip) []).getD []
  lay := { live := [(1, .any), (4, .any)], pars := [], locs := [] }
  X := X_f6_9
  enc := fun x => [(eVp e_TApi_State) x.s_1, (V.int .i64) x.i_4]
  dec := fun l => ⟨(dVp d_TApi_State) (at_ l 0), dI (at_ l 1)⟩
structure X_f6_10 where
  s_1 : TApi_State
  i_4 : Int
noncomputable def S_f6_10 : LabS where
  id := 10
  K := (kAt 10 (Try.f6.body.getD .skip) []).getD []
  lay := { live := [(1, .any), (4, .any)], pars := [], locs := [] }
  X := X_f6_10
  enc := fun x => [(eVp e_TApi_State) x.s_1, (V.int .i64) x.i_4]
  dec := fun l => ⟨(dVp d_TApi_State) (at_ l 0), dI (at_ l 1)⟩
noncomputable def tt_f6_10 (D_f6_9 : Dyn X_f6_9 R_f6) (x : X_f6_10) : TT Try.prog R_f6 :=
 (.jump S_f6_9 D_f6_9 (X_f6_9.mk x.s_1 (Go.IntKind.wrap Go.IntKind.i64 (x.i_4 + (1 : Int)))))
theorem sd_f6_10 (D_f6_9 : Dyn X_f6_9 R_f6) (x : X_f6_10) : (tt_f6_10 D_f6_9 x).Sides :=
  TT.s_jump

theorem dn_f6_10 (D_f6_9 : Dyn X_f6_9 R_f6) (x : X_f6_10) : J_f6.den [⟨S_f6_9, D_f6_9⟩] S_f6_10 x 4000 = (tt_f6_10 D_f6_9 x).tree J_f6.enc := by kernel_rfl
theorem st_f6_10 (D_f6_9 : Dyn X_f6_9 R_f6) (h_9 : LabOK J_f6 S_f6_9 D_f6_9) : LabOK J_f6 S_f6_10 (.of (tt_f6_10 D_f6_9)) :=
  lab_ok mixed_ok (labs_cons rfl h_9 labs_nil) 4000 (dn_f6_10 D_f6_9) (sd_f6_10 D_f6_9)
noncomputable def D_f6_10 (D_f6_9 : Dyn X_f6_9 R_f6) : Dyn X_f6_10 R_f6 := .of (tt_f6_10 D_f6_9)
theorem ok_f6_10 (D_f6_9 : Dyn X_f6_9 R_f6) (h_9 : LabOK J_f6 S_f6_9 D_f6_9) : LabOK J_f6 S_f6_10 (D_f6_10 D_f6_9) :=
  st_f6_10 D_f6_9 h_9
noncomputable def tt_f6_9 (D_f6_9 : Dyn X_f6_9 R_f6) (x : X_f6_9) : TT Try.prog R_f6 :=
 (.ite (Go.Vm.ilt x.i_4 ((x.s_1.Rings.n : Nat) : Int))
  (.need (Go.Vm.inb x.i_4 x.s_1.Rings.n) <|
  (.ite (Go.Vm.ilt (20 : Int) (((x.s_1.Rings.get (Int.toNat x.i_4)).Heads.n : Nat) : Int))
   (.ret false)
   (.need (Go.Vm.inb x.i_4 x.s_1.Rings.n) <|
   (.ite (Go.Vm.ilt (80 : Int) (((x.s_1.Rings.get (Int.toNat x.i_4)).Slots.n : Nat) : Int))
    (.ret false)
    (.jump S_f6_10 (D_f6_10 D_f6_9) (X_f6_10.mk x.s_1 x.i_4))
   )
   )
  )
  )
  (.ret true)
 )
theorem sd_f6_9 (D_f6_9 : Dyn X_f6_9 R_f6) (x : X_f6_9) : (tt_f6_9 D_f6_9 x).Sides :=
  (TT.s_ite (TT.s_need (TT.s_ite TT.s_ret (TT.s_need (TT.s_ite TT.s_ret TT.s_jump)))) TT.s_ret)

theorem dn_f6_9 (D_f6_9 : Dyn X_f6_9 R_f6) (x : X_f6_9) : J_f6.den [⟨S_f6_9, D_f6_9⟩, ⟨S_f6_10, (D_f6_10 D_f6_9)⟩] S_f6_9 x 4000 = (tt_f6_9 D_f6_9 x).tree J_f6.enc := by kernel_rfl
theorem st_f6_9 (D_f6_9 : Dyn X_f6_9 R_f6) (h_9 : LabOK J_f6 S_f6_9 D_f6_9) : LabOK J_f6 S_f6_9 (.of (tt_f6_9 D_f6_9)) :=
  lab_ok mixed_ok (labs_cons rfl h_9 (labs_cons rfl (ok_f6_10 D_f6_9 h_9) labs_nil)) 4000 (dn_f6_9 D_f6_9) (sd_f6_9 D_f6_9)
noncomputable def D_f6_9 : Dyn X_f6_9 R_f6 := Dyn.loop (tt_f6_9 )
theorem ok_f6_9  : LabOK J_f6 S_f6_9 (D_f6_9 ) :=
  loop_ok fun D h => st_f6_9  D  h
noncomputable def tt_f6_8 (x : X_f6_8) : TT Try.prog R_f6 :=
 (.jump S_f6_9 D_f6_9 (X_f6_9.mk x.s_1 (0 : Int)))
theorem sd_f6_8 (x : X_f6_8) : (tt_f6_8  x).Sides :=
  TT.s_jump

theorem dn_f6_8 (x : X_f6_8) : J_f6.den [⟨S_f6_9, D_f6_9⟩] S_f6_8 x 4000 = (tt_f6_8  x).tree J_f6.enc := by kernel_rfl
theorem st_f6_8  : LabOK J_f6 S_f6_8 (.of tt_f6_8) :=
  lab_ok mixed_ok (labs_cons rfl ok_f6_9 labs_nil) 4000 (dn_f6_8 ) (sd_f6_8 )
noncomputable def D_f6_8 : Dyn X_f6_8 R_f6 := .of (tt_f6_8 )
theorem ok_f6_8  : LabOK J_f6 S_f6_8 (D_f6_8 ) :=
  st_f6_8  
noncomputable def tt_f6_4 (D_f6_4 : Dyn X_f6_4 R_f6) (x : X_f6_4) : TT Try.prog R_f6 :=
 (.ite (Go.Vm.ilt x.i_3 ((x.s_1.Threads.n : Nat) : Int))
  (.need (Go.Vm.inb x.i_3 x.s_1.Threads.n) <|
  (.ite (Go.Vm.ilt (100 : Int) (((x.s_1.Threads.get (Int.toNat x.i_3)).Seen.n : Nat) : Int))
   (.ret false)
   (.jump S_f6_4 D_f6_4 (X_f6_4.mk x.s_1 (Go.IntKind.wrap Go.IntKind.i64 (x.i_3 + (1 : Int)))))
  )
  )
  (.jump S_f6_8 D_f6_8 (X_f6_8.mk x.s_1))
 )
theorem sd_f6_4 (D_f6_4 : Dyn X_f6_4 R_f6) (x : X_f6_4) : (tt_f6_4 D_f6_4 x).Sides :=
  (TT.s_ite (TT.s_need (TT.s_ite TT.s_ret TT.s_jump)) TT.s_jump)

theorem dn_f6_4 (D_f6_4 : Dyn X_f6_4 R_f6) (x : X_f6_4) : J_f6.den [⟨S_f6_4, D_f6_4⟩, ⟨S_f6_9, D_f6_9⟩, ⟨S_f6_8, D_f6_8⟩] S_f6_4 x 4000 = (tt_f6_4 D_f6_4 x).tree J_f6.enc := by kernel_rfl
theorem st_f6_4 (D_f6_4 : Dyn X_f6_4 R_f6) (h_4 : LabOK J_f6 S_f6_4 D_f6_4) : LabOK J_f6 S_f6_4 (.of (tt_f6_4 D_f6_4)) :=
  lab_ok mixed_ok (labs_cons rfl h_4 (labs_cons rfl ok_f6_9 (labs_cons rfl ok_f6_8 labs_nil))) 4000 (dn_f6_4 D_f6_4) (sd_f6_4 D_f6_4)
noncomputable def D_f6_4 : Dyn X_f6_4 R_f6 := Dyn.loop (tt_f6_4 )
theorem ok_f6_4  : LabOK J_f6 S_f6_4 (D_f6_4 ) :=
  loop_ok fun D h => st_f6_4  D  h
noncomputable def tt_f6_3 (x : X_f6_3) : TT Try.prog R_f6 :=
 (.jump S_f6_4 D_f6_4 (X_f6_4.mk x.s_1 (0 : Int)))
theorem sd_f6_3 (x : X_f6_3) : (tt_f6_3  x).Sides :=
  TT.s_jump

theorem dn_f6_3 (x : X_f6_3) : J_f6.den [⟨S_f6_9, D_f6_9⟩, ⟨S_f6_8, D_f6_8⟩, ⟨S_f6_4, D_f6_4⟩] S_f6_3 x 4000 = (tt_f6_3  x).tree J_f6.enc := by kernel_rfl
theorem st_f6_3  : LabOK J_f6 S_f6_3 (.of tt_f6_3) :=
  lab_ok mixed_ok (labs_cons rfl ok_f6_9 (labs_cons rfl ok_f6_8 (labs_cons rfl ok_f6_4 labs_nil))) 4000 (dn_f6_3 ) (sd_f6_3 )
noncomputable def D_f6_3 : Dyn X_f6_3 R_f6 := .of (tt_f6_3 )
theorem ok_f6_3  : LabOK J_f6 S_f6_3 (D_f6_3 ) :=
  st_f6_3  
noncomputable def tt_f6 (x : X_f6) : TT Try.prog R_f6 :=
 (.ite (Go.Vm.ilt (10 : Int) ((x.Threads.n : Nat) : Int))
  (.ret false)
  (.ite (Go.Vm.ilt (10 : Int) ((x.Rings.n : Nat) : Int))
   (.ret false)
   (.jump S_f6_3 D_f6_3 (X_f6_3.mk x))
  )
 )
theorem sd_f6 (x : X_f6) : (tt_f6  x).Sides :=
  (TT.s_ite TT.s_ret (TT.s_ite TT.s_ret TT.s_jump))

theorem dn_f6 (x : X_f6) : J_f6.den [⟨S_f6_9, D_f6_9⟩, ⟨S_f6_8, D_f6_8⟩, ⟨S_f6_4, D_f6_4⟩, ⟨S_f6_3, D_f6_3⟩] S_f6 x 4000 = (tt_f6  x).tree J_f6.enc := by kernel_rfl
theorem st_f6  : LabOK J_f6 S_f6 (.of tt_f6) :=
  lab_ok mixed_ok (labs_cons rfl ok_f6_9 (labs_cons rfl ok_f6_8 (labs_cons rfl ok_f6_4 (labs_cons rfl ok_f6_3 labs_nil)))) 4000 (dn_f6 ) (sd_f6 )
noncomputable def D_f6 : Dyn X_f6 R_f6 := .of tt_f6
theorem ct_f6 (x : X_f6) (y : R_f6) (h : D_f6.rel x y) : OK Try.prog 6 [e_TApi_State x] [] (V.bool y) [] :=
  contract (fn := Try.f6) (J := J_f6) (S := S_f6) (D := D_f6) (by kernel_rfl) (code := Try.f6.body.getD .skip) (by kernel_rfl) rfl st_f6 rfl (x := x) (y := y) h rfl rfl rfl rfl rfl (by kernel_rfl)
noncomputable def con_f6 : Con Try.prog where
  f := 6
  fn := Try.f6
  hf := by kernel_rfl
  hb := by kernel_rfl
  hn := by kernel_rfl
  X := X_f6
  Y := R_f6
  args := fun x => [e_TApi_State x]
  objs := fun x => []
  res := fun y => V.bool y
  outs := fun y => []
  rel := D_f6.rel
  ev := D_f6.ev
  evOK := D_f6.evOK
  dec := fun l m => (d_TApi_State (at_ l 0))
  ash := [sh_TApi_State]
  osh := []
  ok := ct_f6

/-! rondeauref02.Same -/
abbrev X_f61 : Type := (Sl Int) × (Sl Int)
abbrev R_f61 : Type := Bool
noncomputable def J_f61 : Job Try.prog where
  fn := Try.f61
  nt := 26
  pol := tabN 0 [(15, 1)]
  hint := tabN [] []
  finH := []
  rsh := [.any]
  psh := []
  tab := []
  R := R_f61
  enc := fun y => [V.bool y]
noncomputable def S_f61 : LabS where
  id := 0
  K := [.code (Try.f61.body.getD .skip)]
  lay := entryLay 2 0
  X := X_f61
  enc := fun x => [(eSl none 1 (V.int .u64)) x.1, (eSl none 1 (V.int .u64)) x.2]
  dec := fun l => ((dSl dI) (at_ l 0), (dSl dI) (at_ l 1))
structure X_f61_4 where
  a_0 : (Sl Int)
  b_1 : (Sl Int)
  i_5 : Int
noncomputable def S_f61_4 : LabS where
  id := 4
  K := (kAt 4 (Try.f61.body.getD .skip) []).getD []
  lay := { live := [(0, (.sl none 1 (V.int .u64 0))), (1, (.sl none 1 (V.int .u64 0))), (5, .any)], pars := [], locs := [] }
  X := X_f61_4
  enc := fun x => [(eSl none 1 (V.int .u64)) x.a_0, (eSl none 1 (V.int .u64)) x.b_1, (V.int .i64) x.i_5]
  dec := fun l => ⟨(dSl dI) (at_ l 0), (dSl dI) (at_ l 1), dI (at_ l 2)⟩
noncomputable def tt_f61_4 (D_f61_4 : Dyn X_f61_4 R_f61) (x : X_f61_4) : TT Try.prog R_f61 :=
 (.ite (Go.Vm.ilt x.i_5 ((x.a_0.n : Nat) : Int))
  (.need (Go.Vm.inb x.i_5 x.a_0.n) <|
  (.need (Go.Vm.inb x.i_5 x.b_1.n) <|
  (.ite (!(Go.Vm.ieq (x.a_0.get (Int.toNat x.i_5)) (x.b_1.get (Int.toNat x.i_5))))
   (.ret false)
   (.jump S_f61_4 D_f61_4 (X_f61_4.mk x.a_0 x.b_1 (Go.IntKind.wrap Go.IntKind.i64 (x.i_5 + (1 : Int)))))
  )
  )
  )
  (.ret true)
 )
theorem sd_f61_4 (D_f61_4 : Dyn X_f61_4 R_f61) (x : X_f61_4) : (tt_f61_4 D_f61_4 x).Sides :=
  (TT.s_ite (TT.s_need (TT.s_need (TT.s_ite TT.s_ret TT.s_jump))) TT.s_ret)

theorem dn_f61_4 (D_f61_4 : Dyn X_f61_4 R_f61) (x : X_f61_4) : J_f61.den [⟨S_f61_4, D_f61_4⟩] S_f61_4 x 4000 = (tt_f61_4 D_f61_4 x).tree J_f61.enc := by kernel_rfl
theorem st_f61_4 (D_f61_4 : Dyn X_f61_4 R_f61) (h_4 : LabOK J_f61 S_f61_4 D_f61_4) : LabOK J_f61 S_f61_4 (.of (tt_f61_4 D_f61_4)) :=
  lab_ok mixed_ok (labs_cons rfl h_4 labs_nil) 4000 (dn_f61_4 D_f61_4) (sd_f61_4 D_f61_4)
noncomputable def D_f61_4 : Dyn X_f61_4 R_f61 := Dyn.loop (tt_f61_4 )
theorem ok_f61_4  : LabOK J_f61 S_f61_4 (D_f61_4 ) :=
  loop_ok fun D h => st_f61_4  D  h
noncomputable def tt_f61 (x : X_f61) : TT Try.prog R_f61 :=
 (.ite (!(Go.Vm.ieq ((x.fst.n : Nat) : Int) ((x.snd.n : Nat) : Int)))
  (.ret false)
  (.jump S_f61_4 D_f61_4 (X_f61_4.mk x.fst x.snd (0 : Int)))
 )
theorem sd_f61 (x : X_f61) : (tt_f61  x).Sides :=
  (TT.s_ite TT.s_ret TT.s_jump)

theorem dn_f61 (x : X_f61) : J_f61.den [⟨S_f61_4, D_f61_4⟩] S_f61 x 4000 = (tt_f61  x).tree J_f61.enc := by kernel_rfl
theorem st_f61  : LabOK J_f61 S_f61 (.of tt_f61) :=
  lab_ok mixed_ok (labs_cons rfl ok_f61_4 labs_nil) 4000 (dn_f61 ) (sd_f61 )
noncomputable def D_f61 : Dyn X_f61 R_f61 := .of tt_f61
theorem ct_f61 (x : X_f61) (y : R_f61) (h : D_f61.rel x y) : OK Try.prog 61 [(eSl none 1 (V.int .u64)) x.1, (eSl none 1 (V.int .u64)) x.2] [] (V.bool y) [] :=
  contract (fn := Try.f61) (J := J_f61) (S := S_f61) (D := D_f61) (by kernel_rfl) (code := Try.f61.body.getD .skip) (by kernel_rfl) rfl st_f61 rfl (x := x) (y := y) h rfl rfl rfl rfl rfl (by kernel_rfl)
noncomputable def con_f61 : Con Try.prog where
  f := 61
  fn := Try.f61
  hf := by kernel_rfl
  hb := by kernel_rfl
  hn := by kernel_rfl
  X := X_f61
  Y := R_f61
  args := fun x => [(eSl none 1 (V.int .u64)) x.1, (eSl none 1 (V.int .u64)) x.2]
  objs := fun x => []
  res := fun y => V.bool y
  outs := fun y => []
  rel := D_f61.rel
  ev := D_f61.ev
  evOK := D_f61.evOK
  dec := fun l m => ((dSl dI) (at_ l 0), (dSl dI) (at_ l 1))
  ash := [(.sl none 1 (V.int .u64 0)), (.sl none 1 (V.int .u64 0))]
  osh := []
  ok := ct_f61

/-! rondeauref16.Same -/
abbrev X_f46 : Type := TApi_ThreadState × TApi_ThreadState
abbrev R_f46 : Type := Bool
noncomputable def J_f46 : Job Try.prog where
  fn := Try.f46
  nt := 52
  pol := tabN 0 [(2, 3), (3, 3), (10, 1), (17, 1), (24, 1), (31, 1), (38, 1), (45, 1)]
  hint := tabN [] []
  finH := []
  rsh := [.any]
  psh := []
  tab := [con_f61]
  R := R_f46
  enc := fun y => [V.bool y]
noncomputable def S_f46 : LabS where
  id := 0
  K := [.code (Try.f46.body.getD .skip)]
  lay := entryLay 2 0
  X := X_f46
  enc := fun x => [e_TApi_ThreadState x.1, e_TApi_ThreadState x.2]
  dec := fun l => (d_TApi_ThreadState (at_ l 0), d_TApi_ThreadState (at_ l 1))
noncomputable def tt_f46 (x : X_f46) : TT Try.prog R_f46 :=
 (.ite (Go.Vm.ieq x.fst.At x.snd.At)
  (.ite (Go.Vm.ieq x.fst.Phase x.snd.Phase)
   (.ite (Go.Vm.ieq x.fst.Ring x.snd.Ring)
    (.ite (Go.Vm.ieq x.fst.Status x.snd.Status)
     (.ite (Go.Vm.ieq x.fst.Ticket x.snd.Ticket)
      (.ite ((Go.Vm.ieq (x.fst.Regs (0 : Nat)) (x.snd.Regs (0 : Nat))) && ((Go.Vm.ieq (x.fst.Regs ((0 : Nat) + (1 : Nat))) (x.snd.Regs ((0 : Nat) + (1 : Nat)))) && ((Go.Vm.ieq (x.fst.Regs (((0 : Nat) + (1 : Nat)) + (1 : Nat))) (x.snd.Regs (((0 : Nat) + (1 : Nat)) + (1 : Nat)))) && ((Go.Vm.ieq (x.fst.Regs ((((0 : Nat) + (1 : Nat)) + (1 : Nat)) + (1 : Nat))) (x.snd.Regs ((((0 : Nat) + (1 : Nat)) + (1 : Nat)) + (1 : Nat)))) && ((Go.Vm.ieq (x.fst.Regs (((((0 : Nat) + (1 : Nat)) + (1 : Nat)) + (1 : Nat)) + (1 : Nat))) (x.snd.Regs (((((0 : Nat) + (1 : Nat)) + (1 : Nat)) + (1 : Nat)) + (1 : Nat)))) && ((Go.Vm.ieq (x.fst.Regs ((((((0 : Nat) + (1 : Nat)) + (1 : Nat)) + (1 : Nat)) + (1 : Nat)) + (1 : Nat))) (x.snd.Regs ((((((0 : Nat) + (1 : Nat)) + (1 : Nat)) + (1 : Nat)) + (1 : Nat)) + (1 : Nat)))) && ((Go.Vm.ieq (x.fst.Regs (((((((0 : Nat) + (1 : Nat)) + (1 : Nat)) + (1 : Nat)) + (1 : Nat)) + (1 : Nat)) + (1 : Nat))) (x.snd.Regs (((((((0 : Nat) + (1 : Nat)) + (1 : Nat)) + (1 : Nat)) + (1 : Nat)) + (1 : Nat)) + (1 : Nat)))) && ((Go.Vm.ieq (x.fst.Regs ((((((((0 : Nat) + (1 : Nat)) + (1 : Nat)) + (1 : Nat)) + (1 : Nat)) + (1 : Nat)) + (1 : Nat)) + (1 : Nat))) (x.snd.Regs ((((((((0 : Nat) + (1 : Nat)) + (1 : Nat)) + (1 : Nat)) + (1 : Nat)) + (1 : Nat)) + (1 : Nat)) + (1 : Nat)))) && true))))))))
       (.call con_f61 (x.fst.Seen, x.snd.Seen) fun (y1 : R_f61) =>
       (.ret y1)
       )
       (.ret false)
      )
      (.ret false)
     )
     (.ret false)
    )
    (.ret false)
   )
   (.ret false)
  )
  (.ret false)
 )
theorem sd_f46 (x : X_f46) : (tt_f46  x).Sides :=
  (TT.s_ite (TT.s_ite (TT.s_ite (TT.s_ite (TT.s_ite (TT.s_ite (TT.s_call fun _ => TT.s_ret) TT.s_ret) TT.s_ret) TT.s_ret) TT.s_ret) TT.s_ret) TT.s_ret)

theorem dn_f46 (x : X_f46) : J_f46.den [] S_f46 x 4000 = (tt_f46  x).tree J_f46.enc := by kernel_rfl
theorem st_f46  : LabOK J_f46 S_f46 (.of tt_f46) :=
  lab_ok mixed_ok labs_nil 4000 (dn_f46 ) (sd_f46 )
noncomputable def D_f46 : Dyn X_f46 R_f46 := .of tt_f46
theorem ct_f46 (x : X_f46) (y : R_f46) (h : D_f46.rel x y) : OK Try.prog 46 [e_TApi_ThreadState x.1, e_TApi_ThreadState x.2] [] (V.bool y) [] :=
  contract (fn := Try.f46) (J := J_f46) (S := S_f46) (D := D_f46) (by kernel_rfl) (code := Try.f46.body.getD .skip) (by kernel_rfl) rfl st_f46 rfl (x := x) (y := y) h rfl rfl rfl rfl rfl (by kernel_rfl)
noncomputable def con_f46 : Con Try.prog where
  f := 46
  fn := Try.f46
  hf := by kernel_rfl
  hb := by kernel_rfl
  hn := by kernel_rfl
  X := X_f46
  Y := R_f46
  args := fun x => [e_TApi_ThreadState x.1, e_TApi_ThreadState x.2]
  objs := fun x => []
  res := fun y => V.bool y
  outs := fun y => []
  rel := D_f46.rel
  ev := D_f46.ev
  evOK := D_f46.evOK
  dec := fun l m => (d_TApi_ThreadState (at_ l 0), d_TApi_ThreadState (at_ l 1))
  ash := [sh_TApi_ThreadState, sh_TApi_ThreadState]
  osh := []
  ok := ct_f46

/-! rondeauref12.Same -/
abbrev X_f62 : Type := (Sl TApi_Slot) × (Sl TApi_Slot)
abbrev R_f62 : Type := Bool
noncomputable def J_f62 : Job Try.prog where
  fn := Try.f62
  nt := 26
  pol := tabN 0 [(15, 1)]
  hint := tabN [] []
  finH := []
  rsh := [.any]
  psh := []
  tab := []
  R := R_f62
  enc := fun y => [V.bool y]
noncomputable def S_f62 : LabS where
  id := 0
  K := [.code (Try.f62.body.getD .skip)]
  lay := entryLay 2 0
  X := X_f62
  enc := fun x => [(eSl none 3 e_TApi_Slot) x.1, (eSl none 3 e_TApi_Slot) x.2]
  dec := fun l => ((dSl d_TApi_Slot) (at_ l 0), (dSl d_TApi_Slot) (at_ l 1))
structure X_f62_4 where
  a_0 : (Sl TApi_Slot)
  b_1 : (Sl TApi_Slot)
  i_5 : Int
noncomputable def S_f62_4 : LabS where
  id := 4
  K := (kAt 4 (Try.f62.body.getD .skip) []).getD []
  lay := { live := [(0, (.sl none 3 (e_TApi_Slot (d_TApi_Slot .undef)))), (1, (.sl none 3 (e_TApi_Slot (d_TApi_Slot .undef)))), (5, .any)], pars := [], locs := [] }
  X := X_f62_4
  enc := fun x => [(eSl none 3 e_TApi_Slot) x.a_0, (eSl none 3 e_TApi_Slot) x.b_1, (V.int .i64) x.i_5]
  dec := fun l => ⟨(dSl d_TApi_Slot) (at_ l 0), (dSl d_TApi_Slot) (at_ l 1), dI (at_ l 2)⟩
noncomputable def tt_f62_4 (D_f62_4 : Dyn X_f62_4 R_f62) (x : X_f62_4) : TT Try.prog R_f62 :=
 (.ite (Go.Vm.ilt x.i_5 ((x.a_0.n : Nat) : Int))
  (.need (Go.Vm.inb x.i_5 x.a_0.n) <|
  (.need (Go.Vm.inb x.i_5 x.b_1.n) <|
  (.ite (!((Go.Vm.ieq (x.a_0.get (Int.toNat x.i_5)).Stamp (x.b_1.get (Int.toNat x.i_5)).Stamp) && ((Go.Vm.ieq (x.a_0.get (Int.toNat x.i_5)).Value (x.b_1.get (Int.toNat x.i_5)).Value) && ((Go.Vm.ieq (x.a_0.get (Int.toNat x.i_5)).Left (x.b_1.get (Int.toNat x.i_5)).Left) && true))))
   (.ret false)
   (.jump S_f62_4 D_f62_4 (X_f62_4.mk x.a_0 x.b_1 (Go.IntKind.wrap Go.IntKind.i64 (x.i_5 + (1 : Int)))))
  )
  )
  )
  (.ret true)
 )
theorem sd_f62_4 (D_f62_4 : Dyn X_f62_4 R_f62) (x : X_f62_4) : (tt_f62_4 D_f62_4 x).Sides :=
  (TT.s_ite (TT.s_need (TT.s_need (TT.s_ite TT.s_ret TT.s_jump))) TT.s_ret)

theorem dn_f62_4 (D_f62_4 : Dyn X_f62_4 R_f62) (x : X_f62_4) : J_f62.den [⟨S_f62_4, D_f62_4⟩] S_f62_4 x 4000 = (tt_f62_4 D_f62_4 x).tree J_f62.enc := by kernel_rfl
theorem st_f62_4 (D_f62_4 : Dyn X_f62_4 R_f62) (h_4 : LabOK J_f62 S_f62_4 D_f62_4) : LabOK J_f62 S_f62_4 (.of (tt_f62_4 D_f62_4)) :=
  lab_ok mixed_ok (labs_cons rfl h_4 labs_nil) 4000 (dn_f62_4 D_f62_4) (sd_f62_4 D_f62_4)
noncomputable def D_f62_4 : Dyn X_f62_4 R_f62 := Dyn.loop (tt_f62_4 )
theorem ok_f62_4  : LabOK J_f62 S_f62_4 (D_f62_4 ) :=
  loop_ok fun D h => st_f62_4  D  h
noncomputable def tt_f62 (x : X_f62) : TT Try.prog R_f62 :=
 (.ite (!(Go.Vm.ieq ((x.fst.n : Nat) : Int) ((x.snd.n : Nat) : Int)))
  (.ret false)
  (.jump S_f62_4 D_f62_4 (X_f62_4.mk x.fst x.snd (0 : Int)))
 )
theorem sd_f62 (x : X_f62) : (tt_f62  x).Sides :=
  (TT.s_ite TT.s_ret TT.s_jump)

theorem dn_f62 (x : X_f62) : J_f62.den [⟨S_f62_4, D_f62_4⟩] S_f62 x 4000 = (tt_f62  x).tree J_f62.enc := by kernel_rfl
theorem st_f62  : LabOK J_f62 S_f62 (.of tt_f62) :=
  lab_ok mixed_ok (labs_cons rfl ok_f62_4 labs_nil) 4000 (dn_f62 ) (sd_f62 )
noncomputable def D_f62 : Dyn X_f62 R_f62 := .of tt_f62
theorem ct_f62 (x : X_f62) (y : R_f62) (h : D_f62.rel x y) : OK Try.prog 62 [(eSl none 3 e_TApi_Slot) x.1, (eSl none 3 e_TApi_Slot) x.2] [] (V.bool y) [] :=
  contract (fn := Try.f62) (J := J_f62) (S := S_f62) (D := D_f62) (by kernel_rfl) (code := Try.f62.body.getD .skip) (by kernel_rfl) rfl st_f62 rfl (x := x) (y := y) h rfl rfl rfl rfl rfl (by kernel_rfl)
noncomputable def con_f62 : Con Try.prog where
  f := 62
  fn := Try.f62
  hf := by kernel_rfl
  hb := by kernel_rfl
  hn := by kernel_rfl
  X := X_f62
  Y := R_f62
  args := fun x => [(eSl none 3 e_TApi_Slot) x.1, (eSl none 3 e_TApi_Slot) x.2]
  objs := fun x => []
  res := fun y => V.bool y
  outs := fun y => []
  rel := D_f62.rel
  ev := D_f62.ev
  evOK := D_f62.evOK
  dec := fun l m => ((dSl d_TApi_Slot) (at_ l 0), (dSl d_TApi_Slot) (at_ l 1))
  ash := [(.sl none 3 (e_TApi_Slot (d_TApi_Slot .undef))), (.sl none 3 (e_TApi_Slot (d_TApi_Slot .undef)))]
  osh := []
  ok := ct_f62

/-! rondeauref13.Same -/
abbrev X_f47 : Type := TApi_RingState × TApi_RingState
abbrev R_f47 : Type := Bool
noncomputable def J_f47 : Job Try.prog where
  fn := Try.f47
  nt := 53
  pol := tabN 0 [(2, 3), (3, 3), (11, 1), (18, 1), (27, 1), (40, 1)]
  hint := tabN [] []
  finH := []
  rsh := [.any]
  psh := []
  tab := [con_f62]
  R := R_f47
  enc := fun y => [V.bool y]
noncomputable def S_f47 : LabS where
  id := 0
  K := [.code (Try.f47.body.getD .skip)]
  lay := entryLay 2 0
  X := X_f47
  enc := fun x => [e_TApi_RingState x.1, e_TApi_RingState x.2]
  dec := fun l => (d_TApi_RingState (at_ l 0), d_TApi_RingState (at_ l 1))
structure X_f47_3 where
  a_2 : TApi_RingState
  b_3 : TApi_RingState
noncomputable def S_f47_3 : LabS where
  id := 3
  K := (kAt 3 (Try.f47.body.getD .skip) []).getD []
  lay := { live := [(2, .any), (3, .any)], pars := [], locs := [] }
  X := X_f47_3
  enc := fun x => [(eVp e_TApi_RingState) x.a_2, (eVp e_TApi_RingState) x.b_3]
  dec := fun l => ⟨(dVp d_TApi_RingState) (at_ l 0), (dVp d_TApi_RingState) (at_ l 1)⟩
structure X_f47_4 where
  a_2 : TApi_RingState
  b_3 : TApi_RingState
  i_5 : Int
noncomputable def S_f47_4 : LabS where
  id := 4
  K := (kAt 4 (Try.f47.body.getD .skip) []).getD []
  lay := { live := [(2, .any), (3, .any), (5, .any)], pars := [], locs := [] }
  X := X_f47_4
  enc := fun x => [(eVp e_TApi_RingState) x.a_2, (eVp e_TApi_RingState) x.b_3, (V.int .i64) x.i_5]
  dec := fun l => ⟨(dVp d_TApi_RingState) (at_ l 0), (dVp d_TApi_RingState) (at_ l 1), dI (at_ l 2)⟩
noncomputable def tt_f47_4 (D_f47_4 : Dyn X_f47_4 R_f47) (x : X_f47_4) : TT Try.prog R_f47 :=
 (.ite (Go.Vm.ilt x.i_5 ((x.a_2.Heads.n : Nat) : Int))
  (.need (Go.Vm.inb x.i_5 x.a_2.Heads.n) <|
  (.need (Go.Vm.inb x.i_5 x.b_3.Heads.n) <|
  (.ite (!(Go.Vm.ieq (x.a_2.Heads.get (Int.toNat x.i_5)) (x.b_3.Heads.get (Int.toNat x.i_5))))
   (.ret false)
   (.jump S_f47_4 D_f47_4 (X_f47_4.mk x.a_2 x.b_3 (Go.IntKind.wrap Go.IntKind.i64 (x.i_5 + (1 : Int)))))
  )
  )
  )
  (.ret true)
 )
theorem sd_f47_4 (D_f47_4 : Dyn X_f47_4 R_f47) (x : X_f47_4) : (tt_f47_4 D_f47_4 x).Sides :=
  (TT.s_ite (TT.s_need (TT.s_need (TT.s_ite TT.s_ret TT.s_jump))) TT.s_ret)

theorem dn_f47_4 (D_f47_4 : Dyn X_f47_4 R_f47) (x : X_f47_4) : J_f47.den [⟨S_f47_4, D_f47_4⟩] S_f47_4 x 4000 = (tt_f47_4 D_f47_4 x).tree J_f47.enc := by kernel_rfl
theorem st_f47_4 (D_f47_4 : Dyn X_f47_4 R_f47) (h_4 : LabOK J_f47 S_f47_4 D_f47_4) : LabOK J_f47 S_f47_4 (.of (tt_f47_4 D_f47_4)) :=
  lab_ok mixed_ok (labs_cons rfl h_4 labs_nil) 4000 (dn_f47_4 D_f47_4) (sd_f47_4 D_f47_4)
noncomputable def D_f47_4 : Dyn X_f47_4 R_f47 := Dyn.loop (tt_f47_4 )
theorem ok_f47_4  : LabOK J_f47 S_f47_4 (D_f47_4 ) :=
  loop_ok fun D h => st_f47_4  D  h
noncomputable def tt_f47_3 (x : X_f47_3) : TT Try.prog R_f47 :=
 (.jump S_f47_4 D_f47_4 (X_f47_4.mk x.a_2 x.b_3 (0 : Int)))
theorem sd_f47_3 (x : X_f47_3) : (tt_f47_3  x).Sides :=
  TT.s_jump

theorem dn_f47_3 (x : X_f47_3) : J_f47.den [⟨S_f47_4, D_f47_4⟩] S_f47_3 x 4000 = (tt_f47_3  x).tree J_f47.enc := by kernel_rfl
theorem st_f47_3  : LabOK J_f47 S_f47_3 (.of tt_f47_3) :=
  lab_ok mixed_ok (labs_cons rfl ok_f47_4 labs_nil) 4000 (dn_f47_3 ) (sd_f47_3 )
noncomputable def D_f47_3 : Dyn X_f47_3 R_f47 := .of (tt_f47_3 )
theorem ok_f47_3  : LabOK J_f47 S_f47_3 (D_f47_3 ) :=
  st_f47_3  
noncomputable def tt_f47 (x : X_f47) : TT Try.prog R_f47 :=
 (.ite (!(Go.Vm.ieq x.fst.Tail x.snd.Tail))
  (.ret false)
  (.ite (!(x.fst.Closed == x.snd.Closed))
   (.ret false)
   (.ite (!(Go.Vm.ieq ((x.fst.Heads.n : Nat) : Int) ((x.snd.Heads.n : Nat) : Int)))
    (.ret false)
    (.call con_f62 (x.fst.Slots, x.snd.Slots) fun (y1 : R_f62) =>
    (.ite (!y1)
     (.ret false)
     (.jump S_f47_3 D_f47_3 (X_f47_3.mk x.fst x.snd))
    )
    )
   )
  )
 )
theorem sd_f47 (x : X_f47) : (tt_f47  x).Sides :=
  (TT.s_ite TT.s_ret (TT.s_ite TT.s_ret (TT.s_ite TT.s_ret (TT.s_call fun _ => (TT.s_ite TT.s_ret TT.s_jump)))))

theorem dn_f47 (x : X_f47) : J_f47.den [⟨S_f47_4, D_f47_4⟩, ⟨S_f47_3, D_f47_3⟩] S_f47 x 4000 = (tt_f47  x).tree J_f47.enc := by kernel_rfl
theorem st_f47  : LabOK J_f47 S_f47 (.of tt_f47) :=
  lab_ok mixed_ok (labs_cons rfl ok_f47_4 (labs_cons rfl ok_f47_3 labs_nil)) 4000 (dn_f47 ) (sd_f47 )
noncomputable def D_f47 : Dyn X_f47 R_f47 := .of tt_f47
theorem ct_f47 (x : X_f47) (y : R_f47) (h : D_f47.rel x y) : OK Try.prog 47 [e_TApi_RingState x.1, e_TApi_RingState x.2] [] (V.bool y) [] :=
  contract (fn := Try.f47) (J := J_f47) (S := S_f47) (D := D_f47) (by kernel_rfl) (code := Try.f47.body.getD .skip) (by kernel_rfl) rfl st_f47 rfl (x := x) (y := y) h rfl rfl rfl rfl rfl (by kernel_rfl)
noncomputable def con_f47 : Con Try.prog where
  f := 47
  fn := Try.f47
  hf := by kernel_rfl
  hb := by kernel_rfl
  hn := by kernel_rfl
  X := X_f47
  Y := R_f47
  args := fun x => [e_TApi_RingState x.1, e_TApi_RingState x.2]
  objs := fun x => []
  res := fun y => V.bool y
  outs := fun y => []
  rel := D_f47.rel
  ev := D_f47.ev
  evOK := D_f47.evOK
  dec := fun l m => (d_TApi_RingState (at_ l 0), d_TApi_RingState (at_ l 1))
  ash := [sh_TApi_RingState, sh_TApi_RingState]
  osh := []
  ok := ct_f47

/-! rondeauref17.Same -/
abbrev X_f25 : Type := TApi_State × TApi_State
abbrev R_f25 : Type := Bool
noncomputable def J_f25 : Job Try.prog where
  fn := Try.f25
  nt := 82
  pol := tabN 0 [(2, 3), (3, 3), (14, 1), (23, 1), (30, 1), (37, 1), (49, 1), (68, 1)]
  hint := tabN [] []
  finH := []
  rsh := [.any]
  psh := []
  tab := [con_f46, con_f47]
  R := R_f25
  enc := fun y => [V.bool y]
noncomputable def S_f25 : LabS where
  id := 0
  K := [.code (Try.f25.body.getD .skip)]
  lay := entryLay 2 0
  X := X_f25
  enc := fun x => [e_TApi_State x.1, e_TApi_State x.2]
  dec := fun l => (d_TApi_State (at_ l 0), d_TApi_State (at_ l 1))
structure X_f25_3 where
  a_2 : TApi_State
  b_3 : TApi_State
noncomputable def S_f25_3 : LabS where
  id := 3
  K := (kAt 3 (Try.f25.body.getD .skip) []).getD []
  lay := { live := [(2, .any), (3, .any)], pars := [], locs := [] }
  X := X_f25_3
  enc := fun x => [(eVp e_TApi_State) x.a_2, (eVp e_TApi_State) x.b_3]
  dec := fun l => ⟨(dVp d_TApi_State) (at_ l 0), (dVp d_TApi_State) (at_ l 1)⟩
structure X_f25_4 where
  a_2 : TApi_State
  b_3 : TApi_State
  i_5 : Int
noncomputable def S_f25_4 : LabS where
  id := 4
  K := (kAt 4 (Try.f25.body.getD .skip) []).getD []
  lay := { live := [(2, .any), (3, .any), (5, .any)], pars := [], locs := [] }
  X := X_f25_4
  enc := fun x => [(eVp e_TApi_State) x.a_2, (eVp e_TApi_State) x.b_3, (V.int .i64) x.i_5]
  dec := fun l => ⟨(dVp d_TApi_State) (at_ l 0), (dVp d_TApi_State) (at_ l 1), dI (at_ l 2)⟩
structure X_f25_8 where
  a_2 : TApi_State
  b_3 : TApi_State
noncomputable def S_f25_8 : LabS where
  id := 8
  K := (kAt 8 (Try.f25.body.getD .skip) []).getD []
  lay := { live := [(2, .any), (3, .any)], pars := [], locs := [] }
  X := X_f25_8
  enc := fun x => [(eVp e_TApi_State) x.a_2, (eVp e_TApi_State) x.b_3]
  dec := fun l => ⟨(dVp d_TApi_State) (at_ l 0), (dVp d_TApi_State) (at_ l 1)⟩
structure X_f25_9 where
  a_2 : TApi_State
  b_3 : TApi_State
  i_6 : Int
noncomputable def S_f25_9 : LabS where
  id := 9
  K := (kAt 9 (Try.f25.body.getD .skip) []).getD []
  lay := { live := [(2, .any), (3, .any), (6, .any)], pars := [], locs := [] }
  X := X_f25_9
  enc := fun x => [(eVp e_TApi_State) x.a_2, (eVp e_TApi_State) x.b_3, (V.int .i64) x.i_6]
  dec := fun l => ⟨(dVp d_TApi_State) (at_ l 0), (dVp d_TApi_State) (at_ l 1), dI (at_ l 2)⟩
noncomputable def tt_f25_9 (D_f25_9 : Dyn X_f25_9 R_f25) (x : X_f25_9) : TT Try.prog R_f25 :=
 (.ite (Go.Vm.ilt x.i_6 ((x.a_2.Rings.n : Nat) : Int))
  (.need (Go.Vm.inb x.i_6 x.a_2.Rings.n) <|
  (.need (Go.Vm.inb x.i_6 x.b_3.Rings.n) <|
  (.call con_f47 ((x.a_2.Rings.get (Int.toNat x.i_6)), (x.b_3.Rings.get (Int.toNat x.i_6))) fun (y2 : R_f47) =>
  (.ite (!y2)
   (.ret false)
   (.jump S_f25_9 D_f25_9 (X_f25_9.mk x.a_2 x.b_3 (Go.IntKind.wrap Go.IntKind.i64 (x.i_6 + (1 : Int)))))
  )
  )
  )
  )
  (.ret true)
 )
theorem sd_f25_9 (D_f25_9 : Dyn X_f25_9 R_f25) (x : X_f25_9) : (tt_f25_9 D_f25_9 x).Sides :=
  (TT.s_ite (TT.s_need (TT.s_need (TT.s_call fun _ => (TT.s_ite TT.s_ret TT.s_jump)))) TT.s_ret)

theorem dn_f25_9 (D_f25_9 : Dyn X_f25_9 R_f25) (x : X_f25_9) : J_f25.den [⟨S_f25_9, D_f25_9⟩] S_f25_9 x 4000 = (tt_f25_9 D_f25_9 x).tree J_f25.enc := by kernel_rfl
theorem st_f25_9 (D_f25_9 : Dyn X_f25_9 R_f25) (h_9 : LabOK J_f25 S_f25_9 D_f25_9) : LabOK J_f25 S_f25_9 (.of (tt_f25_9 D_f25_9)) :=
  lab_ok mixed_ok (labs_cons rfl h_9 labs_nil) 4000 (dn_f25_9 D_f25_9) (sd_f25_9 D_f25_9)
noncomputable def D_f25_9 : Dyn X_f25_9 R_f25 := Dyn.loop (tt_f25_9 )
theorem ok_f25_9  : LabOK J_f25 S_f25_9 (D_f25_9 ) :=
  loop_ok fun D h => st_f25_9  D  h
noncomputable def tt_f25_8 (x : X_f25_8) : TT Try.prog R_f25 :=
 (.jump S_f25_9 D_f25_9 (X_f25_9.mk x.a_2 x.b_3 (0 : Int)))
theorem sd_f25_8 (x : X_f25_8) : (tt_f25_8  x).Sides :=
  TT.s_jump

theorem dn_f25_8 (x : X_f25_8) : J_f25.den [⟨S_f25_9, D_f25_9⟩] S_f25_8 x 4000 = (tt_f25_8  x).tree J_f25.enc := by kernel_rfl
theorem st_f25_8  : LabOK J_f25 S_f25_8 (.of tt_f25_8) :=
  lab_ok mixed_ok (labs_cons rfl ok_f25_9 labs_nil) 4000 (dn_f25_8 ) (sd_f25_8 )
noncomputable def D_f25_8 : Dyn X_f25_8 R_f25 := .of (tt_f25_8 )
theorem ok_f25_8  : LabOK J_f25 S_f25_8 (D_f25_8 ) :=
  st_f25_8  
noncomputable def tt_f25_4 (D_f25_4 : Dyn X_f25_4 R_f25) (x : X_f25_4) : TT Try.prog R_f25 :=
 (.ite (Go.Vm.ilt x.i_5 ((x.a_2.Threads.n : Nat) : Int))
  (.need (Go.Vm.inb x.i_5 x.a_2.Threads.n) <|
  (.need (Go.Vm.inb x.i_5 x.b_3.Threads.n) <|
  (.call con_f46 ((x.a_2.Threads.get (Int.toNat x.i_5)), (x.b_3.Threads.get (Int.toNat x.i_5))) fun (y2 : R_f46) =>
  (.ite (!y2)
   (.ret false)
   (.jump S_f25_4 D_f25_4 (X_f25_4.mk x.a_2 x.b_3 (Go.IntKind.wrap Go.IntKind.i64 (x.i_5 + (1 : Int)))))
  )
  )
  )
  )
  (.jump S_f25_8 D_f25_8 (X_f25_8.mk x.a_2 x.b_3))
 )
theorem sd_f25_4 (D_f25_4 : Dyn X_f25_4 R_f25) (x : X_f25_4) : (tt_f25_4 D_f25_4 x).Sides :=
  (TT.s_ite (TT.s_need (TT.s_need (TT.s_call fun _ => (TT.s_ite TT.s_ret TT.s_jump)))) TT.s_jump)

theorem dn_f25_4 (D_f25_4 : Dyn X_f25_4 R_f25) (x : X_f25_4) : J_f25.den [⟨S_f25_4, D_f25_4⟩, ⟨S_f25_9, D_f25_9⟩, ⟨S_f25_8, D_f25_8⟩] S_f25_4 x 4000 = (tt_f25_4 D_f25_4 x).tree J_f25.enc := by kernel_rfl
theorem st_f25_4 (D_f25_4 : Dyn X_f25_4 R_f25) (h_4 : LabOK J_f25 S_f25_4 D_f25_4) : LabOK J_f25 S_f25_4 (.of (tt_f25_4 D_f25_4)) :=
  lab_ok mixed_ok (labs_cons rfl h_4 (labs_cons rfl ok_f25_9 (labs_cons rfl ok_f25_8 labs_nil))) 4000 (dn_f25_4 D_f25_4) (sd_f25_4 D_f25_4)
noncomputable def D_f25_4 : Dyn X_f25_4 R_f25 := Dyn.loop (tt_f25_4 )
theorem ok_f25_4  : LabOK J_f25 S_f25_4 (D_f25_4 ) :=
  loop_ok fun D h => st_f25_4  D  h
noncomputable def tt_f25_3 (x : X_f25_3) : TT Try.prog R_f25 :=
 (.jump S_f25_4 D_f25_4 (X_f25_4.mk x.a_2 x.b_3 (0 : Int)))
theorem sd_f25_3 (x : X_f25_3) : (tt_f25_3  x).Sides :=
  TT.s_jump

theorem dn_f25_3 (x : X_f25_3) : J_f25.den [⟨S_f25_9, D_f25_9⟩, ⟨S_f25_8, D_f25_8⟩, ⟨S_f25_4, D_f25_4⟩] S_f25_3 x 4000 = (tt_f25_3  x).tree J_f25.enc := by kernel_rfl
theorem st_f25_3  : LabOK J_f25 S_f25_3 (.of tt_f25_3) :=
  lab_ok mixed_ok (labs_cons rfl ok_f25_9 (labs_cons rfl ok_f25_8 (labs_cons rfl ok_f25_4 labs_nil))) 4000 (dn_f25_3 ) (sd_f25_3 )
noncomputable def D_f25_3 : Dyn X_f25_3 R_f25 := .of (tt_f25_3 )
theorem ok_f25_3  : LabOK J_f25 S_f25_3 (D_f25_3 ) :=
  st_f25_3  
noncomputable def tt_f25 (x : X_f25) : TT Try.prog R_f25 :=
 (.ite (!(Go.Vm.ieq ((x.fst.Threads.n : Nat) : Int) ((x.snd.Threads.n : Nat) : Int)))
  (.ret false)
  (.ite (!(Go.Vm.ieq ((x.fst.Rings.n : Nat) : Int) ((x.snd.Rings.n : Nat) : Int)))
   (.ret false)
   (.ite (!(Go.Vm.ieq x.fst.Now x.snd.Now))
    (.ret false)
    (.ite (!(Go.Vm.ieq x.fst.Reads x.snd.Reads))
     (.ret false)
     (.ite (!(x.fst.Ended == x.snd.Ended))
      (.ret false)
      (.jump S_f25_3 D_f25_3 (X_f25_3.mk x.fst x.snd))
     )
    )
   )
  )
 )
theorem sd_f25 (x : X_f25) : (tt_f25  x).Sides :=
  (TT.s_ite TT.s_ret (TT.s_ite TT.s_ret (TT.s_ite TT.s_ret (TT.s_ite TT.s_ret (TT.s_ite TT.s_ret TT.s_jump)))))

theorem dn_f25 (x : X_f25) : J_f25.den [⟨S_f25_9, D_f25_9⟩, ⟨S_f25_8, D_f25_8⟩, ⟨S_f25_4, D_f25_4⟩, ⟨S_f25_3, D_f25_3⟩] S_f25 x 4000 = (tt_f25  x).tree J_f25.enc := by kernel_rfl
theorem st_f25  : LabOK J_f25 S_f25 (.of tt_f25) :=
  lab_ok mixed_ok (labs_cons rfl ok_f25_9 (labs_cons rfl ok_f25_8 (labs_cons rfl ok_f25_4 (labs_cons rfl ok_f25_3 labs_nil)))) 4000 (dn_f25 ) (sd_f25 )
noncomputable def D_f25 : Dyn X_f25 R_f25 := .of tt_f25
theorem ct_f25 (x : X_f25) (y : R_f25) (h : D_f25.rel x y) : OK Try.prog 25 [e_TApi_State x.1, e_TApi_State x.2] [] (V.bool y) [] :=
  contract (fn := Try.f25) (J := J_f25) (S := S_f25) (D := D_f25) (by kernel_rfl) (code := Try.f25.body.getD .skip) (by kernel_rfl) rfl st_f25 rfl (x := x) (y := y) h rfl rfl rfl rfl rfl (by kernel_rfl)
noncomputable def con_f25 : Con Try.prog where
  f := 25
  fn := Try.f25
  hf := by kernel_rfl
  hb := by kernel_rfl
  hn := by kernel_rfl
  X := X_f25
  Y := R_f25
  args := fun x => [e_TApi_State x.1, e_TApi_State x.2]
  objs := fun x => []
  res := fun y => V.bool y
  outs := fun y => []
  rel := D_f25.rel
  ev := D_f25.ev
  evOK := D_f25.evOK
  dec := fun l m => (d_TApi_State (at_ l 0), d_TApi_State (at_ l 1))
  ash := [sh_TApi_State, sh_TApi_State]
  osh := []
  ok := ct_f25

/-! rondeauref22.Same -/
abbrev X_f9 : Type := TApi_State × TApi_State
abbrev R_f9 : Type := Bool
noncomputable def J_f9 : Job Try.prog where
  fn := Try.f9
  nt := 8
  pol := tabN 0 [(2, 3), (3, 3)]
  hint := tabN [] []
  finH := []
  rsh := [.any]
  psh := []
  tab := [con_f25]
  R := R_f9
  enc := fun y => [V.bool y]
noncomputable def S_f9 : LabS where
  id := 0
  K := [.code (Try.f9.body.getD .skip)]
  lay := entryLay 2 0
  X := X_f9
  enc := fun x => [e_TApi_State x.1, e_TApi_State x.2]
  dec := fun l => (d_TApi_State (at_ l 0), d_TApi_State (at_ l 1))
noncomputable def tt_f9 (x : X_f9) : TT Try.prog R_f9 :=
 (.call con_f25 (x.fst, x.snd) fun (y1 : R_f25) =>
 (.ret y1)
 )
theorem sd_f9 (x : X_f9) : (tt_f9  x).Sides :=
  (TT.s_call fun _ => TT.s_ret)

theorem dn_f9 (x : X_f9) : J_f9.den [] S_f9 x 4000 = (tt_f9  x).tree J_f9.enc := by kernel_rfl
theorem st_f9  : LabOK J_f9 S_f9 (.of tt_f9) :=
  lab_ok mixed_ok labs_nil 4000 (dn_f9 ) (sd_f9 )
noncomputable def D_f9 : Dyn X_f9 R_f9 := .of tt_f9
theorem ct_f9 (x : X_f9) (y : R_f9) (h : D_f9.rel x y) : OK Try.prog 9 [e_TApi_State x.1, e_TApi_State x.2] [] (V.bool y) [] :=
  contract (fn := Try.f9) (J := J_f9) (S := S_f9) (D := D_f9) (by kernel_rfl) (code := Try.f9.body.getD .skip) (by kernel_rfl) rfl st_f9 rfl (x := x) (y := y) h rfl rfl rfl rfl rfl (by kernel_rfl)
noncomputable def con_f9 : Con Try.prog where
  f := 9
  fn := Try.f9
  hf := by kernel_rfl
  hb := by kernel_rfl
  hn := by kernel_rfl
  X := X_f9
  Y := R_f9
  args := fun x => [e_TApi_State x.1, e_TApi_State x.2]
  objs := fun x => []
  res := fun y => V.bool y
  outs := fun y => []
  rel := D_f9.rel
  ev := D_f9.ev
  evOK := D_f9.evOK
  dec := fun l m => (d_TApi_State (at_ l 0), d_TApi_State (at_ l 1))
  ash := [sh_TApi_State, sh_TApi_State]
  osh := []
  ok := ct_f9

/-! rondeauref22.small -/
abbrev X_f26 : Type := (Sl Int)
abbrev R_f26 : Type := Bool
noncomputable def J_f26 : Job Try.prog where
  fn := Try.f26
  nt := 22
  pol := tabN 0 [(8, 1), (15, 1)]
  hint := tabN [] []
  finH := []
  rsh := [.any]
  psh := []
  tab := []
  R := R_f26
  enc := fun y => [V.bool y]
noncomputable def S_f26 : LabS where
  id := 0
  K := [.code (Try.f26.body.getD .skip)]
  lay := entryLay 1 0
  X := X_f26
  enc := fun x => [(eSl none 1 (V.int .i64)) x]
  dec := fun l => ((dSl dI) (at_ l 0))
structure X_f26_2 where
  l_0 : (Sl Int)
  i_3 : Int
noncomputable def S_f26_2 : LabS where
  id := 2
  K := (kAt 2 (Try.f26.body.getD .skip) []).getD []
  lay := { live := [(0, (.sl none 1 (V.int .i64 0))), (3, .any)], pars := [], locs := [] }
  X := X_f26_2
  enc := fun x => [(eSl none 1 (V.int .i64)) x.l_0, (V.int .i64) x.i_3]
  dec := fun l => ⟨(dSl dI) (at_ l 0), dI (at_ l 1)⟩
structure X_f26_3 where
  l_0 : (Sl Int)
  i_3 : Int
noncomputable def S_f26_3 : LabS where
  id := 3
  K := (kAt 3 (Try.f26.body.getD .skip) []).getD []
  lay := { live := [(0, (.sl none 1 (V.int .i64 0))), (3, .any)], pars := [], locs := [] }
  X := X_f26_3
  enc := fun x => [(eSl none 1 (V.int .i64)) x.l_0, (V.int .i64) x.i_3]
  dec := fun l => ⟨(dSl dI) (at_ l 0), dI (at_ l 1)⟩
noncomputable def tt_f26_3 (D_f26_2 : Dyn X_f26_2 R_f26) (x : X_f26_3) : TT Try.prog R_f26 :=
 (.jump S_f26_2 D_f26_2 (X_f26_2.mk x.l_0 (Go.IntKind.wrap Go.IntKind.i64 (x.i_3 + (1 : Int)))))
theorem sd_f26_3 (D_f26_2 : Dyn X_f26_2 R_f26) (x : X_f26_3) : (tt_f26_3 D_f26_2 x).Sides :=
  TT.s_jump

theorem dn_f26_3 (D_f26_2 : Dyn X_f26_2 R_f26) (x : X_f26_3) : J_f26.den [⟨S_f26_2, D_f26_2⟩] S_f26_3 x 4000 = (tt_f26_3 D_f26_2 x).tree J_f26.enc := by kernel_rfl
theorem st_f26_3 (D_f26_2 : Dyn X_f26_2 R_f26) (h_2 : LabOK J_f26 S_f26_2 D_f26_2) : LabOK J_f26 S_f26_3 (.of (tt_f26_3 D_f26_2)) :=
  lab_ok mixed_ok (labs_cons rfl h_2 labs_nil) 4000 (dn_f26_3 D_f26_2) (sd_f26_3 D_f26_2)
noncomputable def D_f26_3 (D_f26_2 : Dyn X_f26_2 R_f26) : Dyn X_f26_3 R_f26 := .of (tt_f26_3 D_f26_2)
theorem ok_f26_3 (D_f26_2 : Dyn X_f26_2 R_f26) (h_2 : LabOK J_f26 S_f26_2 D_f26_2) : LabOK J_f26 S_f26_3 (D_f26_3 D_f26_2) :=
  st_f26_3 D_f26_2 h_2
noncomputable def tt_f26_2 (D_f26_2 : Dyn X_f26_2 R_f26) (x : X_f26_2) : TT Try.prog R_f26 :=
 (.ite (Go.Vm.ilt x.i_3 ((x.l_0.n : Nat) : Int))
  (.need (Go.Vm.inb x.i_3 x.l_0.n) <|
  (.ite (Go.Vm.ilt (x.l_0.get (Int.toNat x.i_3)) (0 : Int))
   (.ret false)
   (.need (Go.Vm.inb x.i_3 x.l_0.n) <|
   (.ite (Go.Vm.ilt (65535 : Int) (x.l_0.get (Int.toNat x.i_3)))
    (.ret false)
    (.jump S_f26_3 (D_f26_3 D_f26_2) (X_f26_3.mk x.l_0 x.i_3))
   )
   )
  )
  )
  (.ret true)
 )
theorem sd_f26_2 (D_f26_2 : Dyn X_f26_2 R_f26) (x : X_f26_2) : (tt_f26_2 D_f26_2 x).Sides :=
  (TT.s_ite (TT.s_need (TT.s_ite TT.s_ret (TT.s_need (TT.s_ite TT.s_ret TT.s_jump)))) TT.s_ret)

theorem dn_f26_2 (D_f26_2 : Dyn X_f26_2 R_f26) (x : X_f26_2) : J_f26.den [⟨S_f26_2, D_f26_2⟩, ⟨S_f26_3, (D_f26_3 D_f26_2)⟩] S_f26_2 x 4000 = (tt_f26_2 D_f26_2 x).tree J_f26.enc := by kernel_rfl
theorem st_f26_2 (D_f26_2 : Dyn X_f26_2 R_f26) (h_2 : LabOK J_f26 S_f26_2 D_f26_2) : LabOK J_f26 S_f26_2 (.of (tt_f26_2 D_f26_2)) :=
  lab_ok mixed_ok (labs_cons rfl h_2 (labs_cons rfl (ok_f26_3 D_f26_2 h_2) labs_nil)) 4000 (dn_f26_2 D_f26_2) (sd_f26_2 D_f26_2)
noncomputable def D_f26_2 : Dyn X_f26_2 R_f26 := Dyn.loop (tt_f26_2 )
theorem ok_f26_2  : LabOK J_f26 S_f26_2 (D_f26_2 ) :=
  loop_ok fun D h => st_f26_2  D  h
noncomputable def tt_f26 (x : X_f26) : TT Try.prog R_f26 :=
 (.jump S_f26_2 D_f26_2 (X_f26_2.mk x (0 : Int)))
theorem sd_f26 (x : X_f26) : (tt_f26  x).Sides :=
  TT.s_jump

theorem dn_f26 (x : X_f26) : J_f26.den [⟨S_f26_2, D_f26_2⟩] S_f26 x 4000 = (tt_f26  x).tree J_f26.enc := by kernel_rfl
theorem st_f26  : LabOK J_f26 S_f26 (.of tt_f26) :=
  lab_ok mixed_ok (labs_cons rfl ok_f26_2 labs_nil) 4000 (dn_f26 ) (sd_f26 )
noncomputable def D_f26 : Dyn X_f26 R_f26 := .of tt_f26
theorem ct_f26 (x : X_f26) (y : R_f26) (h : D_f26.rel x y) : OK Try.prog 26 [(eSl none 1 (V.int .i64)) x] [] (V.bool y) [] :=
  contract (fn := Try.f26) (J := J_f26) (S := S_f26) (D := D_f26) (by kernel_rfl) (code := Try.f26.body.getD .skip) (by kernel_rfl) rfl st_f26 rfl (x := x) (y := y) h rfl rfl rfl rfl rfl (by kernel_rfl)
noncomputable def con_f26 : Con Try.prog where
  f := 26
  fn := Try.f26
  hf := by kernel_rfl
  hb := by kernel_rfl
  hn := by kernel_rfl
  X := X_f26
  Y := R_f26
  args := fun x => [(eSl none 1 (V.int .i64)) x]
  objs := fun x => []
  res := fun y => V.bool y
  outs := fun y => []
  rel := D_f26.rel
  ev := D_f26.ev
  evOK := D_f26.evOK
  dec := fun l m => ((dSl dI) (at_ l 0))
  ash := [(.sl none 1 (V.int .i64 0))]
  osh := []
  ok := ct_f26

/-! rondeauref22.Written -/
abbrev X_f10 : Type := TApi_State
abbrev R_f10 : Type := Bool
noncomputable def J_f10 : Job Try.prog where
  fn := Try.f10
  nt := 85
  pol := tabN 0 [(1, 3), (12, 1), (23, 1), (34, 1), (52, 1), (63, 1), (74, 1)]
  hint := tabN [] []
  finH := []
  rsh := [.any]
  psh := []
  tab := [con_f26]
  R := R_f10
  enc := fun y => [V.bool y]
noncomputable def S_f10 : LabS where
  id := 0
  K := [.code (Try.f10.body.getD .skip)]
  lay := entryLay 1 0
  X := X_f10
  enc := fun x => [e_TApi_State x]
  dec := fun l => (d_TApi_State (at_ l 0))
structure X_f10_3 where
  s_1 : TApi_State
noncomputable def S_f10_3 : LabS where
  id := 3
  K := (kAt 3 (Try.f10.body.getD .skip) []).getD []
  lay := { live := [(1, .any)], pars := [], locs := [] }
  X := X_f10_3
  enc := fun x => [(eVp e_TApi_State) x.s_1]
  dec := fun l => ⟨(dVp d_TApi_State) (at_ l 0)⟩
structure X_f10_4 where
  s_1 : TApi_State
  i_3 : Int
noncomputable def S_f10_4 : LabS where
  id := 4
  K := (kAt 4 (Try.f10.body.getD .skip) []).getD []
  lay := { live := [(1, .any), (3, .any)], pars := [], locs := [] }
  X := X_f10_4
  enc := fun x => [(eVp e_TApi_State) x.s_1, (V.int .i64) x.i_3]
  dec := fun l => ⟨(dVp d_TApi_State) (at_ l 0), dI (at_ l 1)⟩
structure X_f10_5 where
  s_1 : TApi_State
  i_3 : Int
noncomputable def S_f10_5 : LabS where
  id := 5
  K := (kAt 5 (Try.f10.body.getD .skip) []).getD []
  lay := { live := [(1, .any), (3, .any)], pars := [], locs := [] }
  X := X_f10_5
  enc := fun x => [(eVp e_TApi_State) x.s_1, (V.int .i64) x.i_3]
  dec := fun l => ⟨(dVp d_TApi_State) (at_ l 0), dI (at_ l 1)⟩
structure X_f10_9 where
  s_1 : TApi_State
noncomputable def S_f10_9 : LabS where
  id := 9
  K := (kAt 9 (Try.f10.body.getD .skip) []).getD []
  lay := { live := [(1, .any)], pars := [], locs := [] }
  X := X_f10_9
  enc := fun x => [(eVp e_TApi_State) x.s_1]
  dec := fun l => ⟨(dVp d_TApi_State) (at_ l 0)⟩
structure X_f10_10 where
  s_1 : TApi_State
  i_5 : Int
noncomputable def S_f10_10 : LabS where
  id := 10
  K := (kAt 10 (Try.f10.body.getD .skip) []).getD []
  lay := { live := [(1, .any), (5, .any)], pars := [], locs := [] }
  X := X_f10_10
  enc := fun x => [(eVp e_TApi_State) x.s_1, (V.int .i64) x.i_5]
  dec := fun l => ⟨(dVp d_TApi_State) (at_ l 0), dI (at_ l 1)⟩
structure X_f10_11 where
  s_1 : TApi_State
  i_5 : Int
noncomputable def S_f10_11 : LabS where
  id := 11
  K := (kAt 11 (Try.f10.body.getD .skip) []).getD []
  lay := { live := [(1, .any), (5, .any)], pars := [], locs := [] }
  X := X_f10_11
  enc := fun x => [(eVp e_TApi_State) x.s_1, (V.int .i64) x.i_5]
  dec := fun l => ⟨(dVp d_TApi_State) (at_ l 0), dI (at_ l 1)⟩
structure X_f10_15 where
  s_1 : TApi_State
  i_5 : Int
  m_6 : TApi_RingState
noncomputable def S_f10_15 : LabS where
  id := 15
  K := (kAt 15 (Try.f10.body.getD .skip) []).getD []
  lay := { live := [(1, .any), (5, .any), (6, .any)], pars := [], locs := [(.loc 6 0, sh_TApi_RingState)] }
  X := X_f10_15
  enc := fun x => [(eVp e_TApi_State) x.s_1, (V.int .i64) x.i_5, (V.ptr (.loc 6 0) []), e_TApi_RingState x.m_6]
  dec := fun l => ⟨(dVp d_TApi_State) (at_ l 0), dI (at_ l 1), d_TApi_RingState (at_ l 3)⟩
structure X_f10_16 where
  s_1 : TApi_State
  i_5 : Int
  k_7 : Int
  m_6 : TApi_RingState
noncomputable def S_f10_16 : LabS where
  id := 16
  K := (kAt 16 (Try.f10.body.getD .skip) []).getD []
  lay := { live := [(1, .any), (5, .any), (6, .any), (7, .any)], pars := [], locs := [(.loc 6 0, sh_TApi_RingState)] }
  X := X_f10_16
  enc := fun x => [(eVp e_TApi_State) x.s_1, (V.int .i64) x.i_5, (V.ptr (.loc 6 0) []), (V.int .i64) x.k_7, e_TApi_RingState x.m_6]
  dec := fun l => ⟨(dVp d_TApi_State) (at_ l 0), dI (at_ l 1), dI (at_ l 3), d_TApi_RingState (at_ l 4)⟩
noncomputable def tt_f10_11 (D_f10_10 : Dyn X_f10_10 R_f10) (x : X_f10_11) : TT Try.prog R_f10 :=
 (.jump S_f10_10 D_f10_10 (X_f10_10.mk x.s_1 (Go.IntKind.wrap Go.IntKind.i64 (x.i_5 + (1 : Int)))))
theorem sd_f10_11 (D_f10_10 : Dyn X_f10_10 R_f10) (x : X_f10_11) : (tt_f10_11 D_f10_10 x).Sides :=
  TT.s_jump

theorem dn_f10_11 (D_f10_10 : Dyn X_f10_10 R_f10) (x : X_f10_11) : J_f10.den [⟨S_f10_10, D_f10_10⟩] S_f10_11 x 4000 = (tt_f10_11 D_f10_10 x).tree J_f10.enc := by kernel_rfl
theorem st_f10_11 (D_f10_10 : Dyn X_f10_10 R_f10) (h_10 : LabOK J_f10 S_f10_10 D_f10_10) : LabOK J_f10 S_f10_11 (.of (tt_f10_11 D_f10_10)) :=
  lab_ok mixed_ok (labs_cons rfl h_10 labs_nil) 4000 (dn_f10_11 D_f10_10) (sd_f10_11 D_f10_10)
noncomputable def D_f10_11 (D_f10_10 : Dyn X_f10_10 R_f10) : Dyn X_f10_11 R_f10 := .of (tt_f10_11 D_f10_10)
theorem ok_f10_11 (D_f10_10 : Dyn X_f10_10 R_f10) (h_10 : LabOK J_f10 S_f10_10 D_f10_10) : LabOK J_f10 S_f10_11 (D_f10_11 D_f10_10) :=
  st_f10_11 D_f10_10 h_10
noncomputable def tt_f10_16 (D_f10_10 : Dyn X_f10_10 R_f10) (D_f10_16 : Dyn X_f10_16 R_f10) (x : X_f10_16) : TT Try.prog R_f10 :=
 (.ite (Go.Vm.ilt x.k_7 ((x.m_6.Slots.n : Nat) : Int))
  (.need (Go.Vm.inb x.k_7 x.m_6.Slots.n) <|
  (.call con_f26 (Go.Vm.Sl.mk false (1 : Nat) (fun _i3 => (x.m_6.Slots.get (Int.toNat x.k_7)).Left)) fun (y3 : R_f26) =>
  (.ite (!y3)
   (.ret false)
   (.jump S_f10_16 D_f10_16 (X_f10_16.mk x.s_1 x.i_5 (Go.IntKind.wrap Go.IntKind.i64 (x.k_7 + (1 : Int))) x.m_6))
  )
  )
  )
  (.jump S_f10_11 (D_f10_11 D_f10_10) (X_f10_11.mk x.s_1 x.i_5))
 )
theorem sd_f10_16 (D_f10_10 : Dyn X_f10_10 R_f10) (D_f10_16 : Dyn X_f10_16 R_f10) (x : X_f10_16) : (tt_f10_16 D_f10_10 D_f10_16 x).Sides :=
  (TT.s_ite (TT.s_need (TT.s_call fun _ => (TT.s_ite TT.s_ret TT.s_jump))) TT.s_jump)

theorem dn_f10_16 (D_f10_10 : Dyn X_f10_10 R_f10) (D_f10_16 : Dyn X_f10_16 R_f10) (x : X_f10_16) : J_f10.den [⟨S_f10_10, D_f10_10⟩, ⟨S_f10_16, D_f10_16⟩, ⟨S_f10_11, (D_f10_11 D_f10_10)⟩] S_f10_16 x 4000 = (tt_f10_16 D_f10_10 D_f10_16 x).tree J_f10.enc := by kernel_rfl
theorem st_f10_16 (D_f10_10 : Dyn X_f10_10 R_f10) (D_f10_16 : Dyn X_f10_16 R_f10) (h_10 : LabOK J_f10 S_f10_10 D_f10_10) (h_16 : LabOK J_f10 S_f10_16 D_f10_16) : LabOK J_f10 S_f10_16 (.of (tt_f10_16 D_f10_10 D_f10_16)) :=
  lab_ok mixed_ok (labs_cons rfl h_10 (labs_cons rfl h_16 (labs_cons rfl (ok_f10_11 D_f10_10 h_10) labs_nil))) 4000 (dn_f10_16 D_f10_10 D_f10_16) (sd_f10_16 D_f10_10 D_f10_16)
noncomputable def D_f10_16 (D_f10_10 : Dyn X_f10_10 R_f10) : Dyn X_f10_16 R_f10 := Dyn.loop (tt_f10_16 D_f10_10)
theorem ok_f10_16 (D_f10_10 : Dyn X_f10_10 R_f10) (h_10 : LabOK J_f10 S_f10_10 D_f10_10) : LabOK J_f10 S_f10_16 (D_f10_16 D_f10_10) :=
  loop_ok fun D h => st_f10_16 D_f10_10 D h_10 h
noncomputable def tt_f10_15 (D_f10_10 : Dyn X_f10_10 R_f10) (x : X_f10_15) : TT Try.prog R_f10 :=
 (.jump S_f10_16 (D_f10_16 D_f10_10) (X_f10_16.mk x.s_1 x.i_5 (0 : Int) x.m_6))
theorem sd_f10_15 (D_f10_10 : Dyn X_f10_10 R_f10) (x : X_f10_15) : (tt_f10_15 D_f10_10 x).Sides :=
  TT.s_jump

theorem dn_f10_15 (D_f10_10 : Dyn X_f10_10 R_f10) (x : X_f10_15) : J_f10.den [⟨S_f10_10, D_f10_10⟩, ⟨S_f10_11, (D_f10_11 D_f10_10)⟩, ⟨S_f10_16, (D_f10_16 D_f10_10)⟩] S_f10_15 x 4000 = (tt_f10_15 D_f10_10 x).tree J_f10.enc := by kernel_rfl
theorem st_f10_15 (D_f10_10 : Dyn X_f10_10 R_f10) (h_10 : LabOK J_f10 S_f10_10 D_f10_10) : LabOK J_f10 S_f10_15 (.of (tt_f10_15 D_f10_10)) :=
  lab_ok mixed_ok (labs_cons rfl h_10 (labs_cons rfl (ok_f10_11 D_f10_10 h_10) (labs_cons rfl (ok_f10_16 D_f10_10 h_10) labs_nil))) 4000 (dn_f10_15 D_f10_10) (sd_f10_15 D_f10_10)
noncomputable def D_f10_15 (D_f10_10 : Dyn X_f10_10 R_f10) : Dyn X_f10_15 R_f10 := .of (tt_f10_15 D_f10_10)
theorem ok_f10_15 (D_f10_10 : Dyn X_f10_10 R_f10) (h_10 : LabOK J_f10 S_f10_10 D_f10_10) : LabOK J_f10 S_f10_15 (D_f10_15 D_f10_10) :=
  st_f10_15 D_f10_10 h_10
noncomputable def tt_f10_10 (D_f10_10 : Dyn X_f10_10 R_f10) (x : X_f10_10) : TT Try.prog R_f10 :=
 (.ite (Go.Vm.ilt x.i_5 ((x.s_1.Rings.n : Nat) : Int))
  (.need (Go.Vm.inb x.i_5 x.s_1.Rings.n) <|
  (.ite (Go.Vm.ilt (8 : Int) (((x.s_1.Rings.get (Int.toNat x.i_5)).Heads.n : Nat) : Int))
   (.ret false)
   (.ite (Go.Vm.ilt (64 : Int) (((x.s_1.Rings.get (Int.toNat x.i_5)).Slots.n : Nat) : Int))
    (.ret false)
    (.jump S_f10_15 (D_f10_15 D_f10_10) (X_f10_15.mk x.s_1 x.i_5 (x.s_1.Rings.get (Int.toNat x.i_5))))
   )
  )
  )
  (.ret true)
 )
theorem sd_f10_10 (D_f10_10 : Dyn X_f10_10 R_f10) (x : X_f10_10) : (tt_f10_10 D_f10_10 x).Sides :=
  (TT.s_ite (TT.s_need (TT.s_ite TT.s_ret (TT.s_ite TT.s_ret TT.s_jump))) TT.s_ret)

theorem dn_f10_10 (D_f10_10 : Dyn X_f10_10 R_f10) (x : X_f10_10) : J_f10.den [⟨S_f10_10, D_f10_10⟩, ⟨S_f10_11, (D_f10_11 D_f10_10)⟩, ⟨S_f10_16, (D_f10_16 D_f10_10)⟩, ⟨S_f10_15, (D_f10_15 D_f10_10)⟩] S_f10_10 x 4000 = (tt_f10_10 D_f10_10 x).tree J_f10.enc := by kernel_rfl
theorem st_f10_10 (D_f10_10 : Dyn X_f10_10 R_f10) (h_10 : LabOK J_f10 S_f10_10 D_f10_10) : LabOK J_f10 S_f10_10 (.of (tt_f10_10 D_f10_10)) :=
  lab_ok mixed_ok (labs_cons rfl h_10 (labs_cons rfl (ok_f10_11 D_f10_10 h_10) (labs_cons rfl (ok_f10_16 D_f10_10 h_10) (labs_cons rfl (ok_f10_15 D_f10_10 h_10) labs_nil)))) 4000 (dn_f10_10 D_f10_10) (sd_f10_10 D_f10_10)
noncomputable def D_f10_10 : Dyn X_f10_10 R_f10 := Dyn.loop (tt_f10_10 )
theorem ok_f10_10  : LabOK J_f10 S_f10_10 (D_f10_10 ) :=
  loop_ok fun D h => st_f10_10  D  h
noncomputable def tt_f10_9 (x : X_f10_9) : TT Try.prog R_f10 :=
 (.jump S_f10_10 D_f10_10 (X_f10_10.mk x.s_1 (0 : Int)))
theorem sd_f10_9 (x : X_f10_9) : (tt_f10_9  x).Sides :=
  TT.s_jump

theorem dn_f10_9 (x : X_f10_9) : J_f10.den [⟨S_f10_10, D_f10_10⟩] S_f10_9 x 4000 = (tt_f10_9  x).tree J_f10.enc := by kernel_rfl
theorem st_f10_9  : LabOK J_f10 S_f10_9 (.of tt_f10_9) :=
  lab_ok mixed_ok (labs_cons rfl ok_f10_10 labs_nil) 4000 (dn_f10_9 ) (sd_f10_9 )
noncomputable def D_f10_9 : Dyn X_f10_9 R_f10 := .of (tt_f10_9 )
theorem ok_f10_9  : LabOK J_f10 S_f10_9 (D_f10_9 ) :=
  st_f10_9  
noncomputable def tt_f10_5 (D_f10_4 : Dyn X_f10_4 R_f10) (x : X_f10_5) : TT Try.prog R_f10 :=
 (.jump S_f10_4 D_f10_4 (X_f10_4.mk x.s_1 (Go.IntKind.wrap Go.IntKind.i64 (x.i_3 + (1 : Int)))))
theorem sd_f10_5 (D_f10_4 : Dyn X_f10_4 R_f10) (x : X_f10_5) : (tt_f10_5 D_f10_4 x).Sides :=
  TT.s_jump

theorem dn_f10_5 (D_f10_4 : Dyn X_f10_4 R_f10) (x : X_f10_5) : J_f10.den [⟨S_f10_4, D_f10_4⟩, ⟨S_f10_10, D_f10_10⟩, ⟨S_f10_9, D_f10_9⟩] S_f10_5 x 4000 = (tt_f10_5 D_f10_4 x).tree J_f10.enc := by kernel_rfl
theorem st_f10_5 (D_f10_4 : Dyn X_f10_4 R_f10) (h_4 : LabOK J_f10 S_f10_4 D_f10_4) : LabOK J_f10 S_f10_5 (.of (tt_f10_5 D_f10_4)) :=
  lab_ok mixed_ok (labs_cons rfl h_4 (labs_cons rfl ok_f10_10 (labs_cons rfl ok_f10_9 labs_nil))) 4000 (dn_f10_5 D_f10_4) (sd_f10_5 D_f10_4)
noncomputable def D_f10_5 (D_f10_4 : Dyn X_f10_4 R_f10) : Dyn X_f10_5 R_f10 := .of (tt_f10_5 D_f10_4)
theorem ok_f10_5 (D_f10_4 : Dyn X_f10_4 R_f10) (h_4 : LabOK J_f10 S_f10_4 D_f10_4) : LabOK J_f10 S_f10_5 (D_f10_5 D_f10_4) :=
  st_f10_5 D_f10_4 h_4
noncomputable def tt_f10_4 (D_f10_4 : Dyn X_f10_4 R_f10) (x : X_f10_4) : TT Try.prog R_f10 :=
 (.ite (Go.Vm.ilt x.i_3 ((x.s_1.Threads.n : Nat) : Int))
  (.need (Go.Vm.inb x.i_3 x.s_1.Threads.n) <|
  (.ite (Go.Vm.ilt (65536 : Int) (((x.s_1.Threads.get (Int.toNat x.i_3)).Seen.n : Nat) : Int))
   (.ret false)
   (.call con_f26 (Go.Vm.Sl.mk false (4 : Nat) (fun i2 => (cond (Nat.beq i2 (0 : Nat)) (x.s_1.Threads.get (Int.toNat x.i_3)).At (cond (Nat.beq i2 (1 : Nat)) (x.s_1.Threads.get (Int.toNat x.i_3)).Phase (cond (Nat.beq i2 (2 : Nat)) (x.s_1.Threads.get (Int.toNat x.i_3)).Ring (x.s_1.Threads.get (Int.toNat x.i_3)).Status))))) fun (y2 : R_f26) =>
   (.ite (!y2)
    (.ret false)
    (.jump S_f10_5 (D_f10_5 D_f10_4) (X_f10_5.mk x.s_1 x.i_3))
   )
   )
  )
  )
  (.jump S_f10_9 D_f10_9 (X_f10_9.mk x.s_1))
 )
theorem sd_f10_4 (D_f10_4 : Dyn X_f10_4 R_f10) (x : X_f10_4) : (tt_f10_4 D_f10_4 x).Sides :=
  (TT.s_ite (TT.s_need (TT.s_ite TT.s_ret (TT.s_call fun _ => (TT.s_ite TT.s_ret TT.s_jump)))) TT.s_jump)

theorem dn_f10_4 (D_f10_4 : Dyn X_f10_4 R_f10) (x : X_f10_4) : J_f10.den [⟨S_f10_4, D_f10_4⟩, ⟨S_f10_10, D_f10_10⟩, ⟨S_f10_9, D_f10_9⟩, ⟨S_f10_5, (D_f10_5 D_f10_4)⟩] S_f10_4 x 4000 = (tt_f10_4 D_f10_4 x).tree J_f10.enc := by kernel_rfl
theorem st_f10_4 (D_f10_4 : Dyn X_f10_4 R_f10) (h_4 : LabOK J_f10 S_f10_4 D_f10_4) : LabOK J_f10 S_f10_4 (.of (tt_f10_4 D_f10_4)) :=
  lab_ok mixed_ok (labs_cons rfl h_4 (labs_cons rfl ok_f10_10 (labs_cons rfl ok_f10_9 (labs_cons rfl (ok_f10_5 D_f10_4 h_4) labs_nil)))) 4000 (dn_f10_4 D_f10_4) (sd_f10_4 D_f10_4)
noncomputable def D_f10_4 : Dyn X_f10_4 R_f10 := Dyn.loop (tt_f10_4 )
theorem ok_f10_4  : LabOK J_f10 S_f10_4 (D_f10_4 ) :=
  loop_ok fun D h => st_f10_4  D  h
noncomputable def tt_f10_3 (x : X_f10_3) : TT Try.prog R_f10 :=
 (.jump S_f10_4 D_f10_4 (X_f10_4.mk x.s_1 (0 : Int)))
theorem sd_f10_3 (x : X_f10_3) : (tt_f10_3  x).Sides :=
  TT.s_jump

theorem dn_f10_3 (x : X_f10_3) : J_f10.den [⟨S_f10_10, D_f10_10⟩, ⟨S_f10_9, D_f10_9⟩, ⟨S_f10_4, D_f10_4⟩] S_f10_3 x 4000 = (tt_f10_3  x).tree J_f10.enc := by kernel_rfl
theorem st_f10_3  : LabOK J_f10 S_f10_3 (.of tt_f10_3) :=
  lab_ok mixed_ok (labs_cons rfl ok_f10_10 (labs_cons rfl ok_f10_9 (labs_cons rfl ok_f10_4 labs_nil))) 4000 (dn_f10_3 ) (sd_f10_3 )
noncomputable def D_f10_3 : Dyn X_f10_3 R_f10 := .of (tt_f10_3 )
theorem ok_f10_3  : LabOK J_f10 S_f10_3 (D_f10_3 ) :=
  st_f10_3  
noncomputable def tt_f10 (x : X_f10) : TT Try.prog R_f10 :=
 (.ite (Go.Vm.ilt (8 : Int) ((x.Threads.n : Nat) : Int))
  (.ret false)
  (.ite (Go.Vm.ilt (8 : Int) ((x.Rings.n : Nat) : Int))
   (.ret false)
   (.jump S_f10_3 D_f10_3 (X_f10_3.mk x))
  )
 )
theorem sd_f10 (x : X_f10) : (tt_f10  x).Sides :=
  (TT.s_ite TT.s_ret (TT.s_ite TT.s_ret TT.s_jump))

theorem dn_f10 (x : X_f10) : J_f10.den [⟨S_f10_10, D_f10_10⟩, ⟨S_f10_9, D_f10_9⟩, ⟨S_f10_4, D_f10_4⟩, ⟨S_f10_3, D_f10_3⟩] S_f10 x 4000 = (tt_f10  x).tree J_f10.enc := by kernel_rfl
theorem st_f10  : LabOK J_f10 S_f10 (.of tt_f10) :=
  lab_ok mixed_ok (labs_cons rfl ok_f10_10 (labs_cons rfl ok_f10_9 (labs_cons rfl ok_f10_4 (labs_cons rfl ok_f10_3 labs_nil)))) 4000 (dn_f10 ) (sd_f10 )
noncomputable def D_f10 : Dyn X_f10 R_f10 := .of tt_f10
theorem ct_f10 (x : X_f10) (y : R_f10) (h : D_f10.rel x y) : OK Try.prog 10 [e_TApi_State x] [] (V.bool y) [] :=
  contract (fn := Try.f10) (J := J_f10) (S := S_f10) (D := D_f10) (by kernel_rfl) (code := Try.f10.body.getD .skip) (by kernel_rfl) rfl st_f10 rfl (x := x) (y := y) h rfl rfl rfl rfl rfl (by kernel_rfl)
noncomputable def con_f10 : Con Try.prog where
  f := 10
  fn := Try.f10
  hf := by kernel_rfl
  hb := by kernel_rfl
  hn := by kernel_rfl
  X := X_f10
  Y := R_f10
  args := fun x => [e_TApi_State x]
  objs := fun x => []
  res := fun y => V.bool y
  outs := fun y => []
  rel := D_f10.rel
  ev := D_f10.ev
  evOK := D_f10.evOK
  dec := fun l m => (d_TApi_State (at_ l 0))
  ash := [sh_TApi_State]
  osh := []
  ok := ct_f10
end Go.Proofs.Ytiplcdhnjennfaa
