/- What functions of the program come to, part C: no statement is proved here. -/
import Derived.Test.YtiplcdhnjennfaaGB
namespace Go.Proofs.Ytiplcdhnjennfaa
open Go Go.Vm Go.Proofs
set_option maxRecDepth 100000
/-! rondeauref02.Print -/
abbrev X_f48 : Type := Int
abbrev R_f48 : Type := ByteArray
noncomputable def J_f48 : Job Try.prog where
  fn := Try.f48
  nt := 22
  pol := tabN 0 [(7, 1), (14, 1), (16, 1), (17, 1)]
  hint := tabN [] []
  finH := []
  rsh := [.any]
  psh := []
  tab := []
  R := R_f48
  enc := fun y => [V.str y]
noncomputable def S_f48 : LabS where
  id := 0
  K := [.code (Try.f48.body.getD .skip)]
  lay := entryLay 1 0
  X := X_f48
  enc := fun x => [(V.int .u64) x]
  dec := fun l => (dI (at_ l 0))
structure X_f48_2 where
  n_0 : Int
  out_3 : (Sl Int)
noncomputable def S_f48_2 : LabS where
  id := 2
  K := (kAt 2 (Try.f48.body.getD .skip) []).getD []
  lay := { live := [(0, .any), (3, (.sl (some 5) 1 (V.int .u8 0)))], pars := [], locs := [] }
  X := X_f48_2
  enc := fun x => [(V.int .u64) x.n_0, (eSl (some 5) 1 (V.int .u8)) x.out_3]
  dec := fun l => ⟨dI (at_ l 0), (dSl dI) (at_ l 1)⟩
structure X_f48_5 where
  n_0 : Int
  out_3 : (Sl Int)
noncomputable def S_f48_5 : LabS where
  id := 5
  K := (kAt 5 (Try.f48.body.getD .skip) []).getD []
  lay := { live := [(0, .any), (3, (.sl (some 5) 1 (V.int .u8 0)))], pars := [], locs := [] }
  X := X_f48_5
  enc := fun x => [(V.int .u64) x.n_0, (eSl (some 5) 1 (V.int .u8)) x.out_3]
  dec := fun l => ⟨dI (at_ l 0), (dSl dI) (at_ l 1)⟩
noncomputable def tt_f48_5 (x : X_f48_5) : TT Try.prog R_f48 :=
 (.need (true && (Go.Vm.room (x.out_3.n + (1 : Nat)) (1 : Nat))) <|
 (.side (∀ i1 : Nat, ((i1 < (x.out_3.n + (1 : Nat))) → (∃ m2 : Int, ((cond (decide ((Go.IntKind.u8 = Go.IntKind.u8))) (Go.Vm.V.int Go.IntKind.u8 (cond (Nat.blt i1 x.out_3.n) (x.out_3.get i1) (Go.IntKind.wrap Go.IntKind.u8 x.n_0))) (cond (Nat.blt i1 x.out_3.n) (Go.Vm.V.int Go.IntKind.u8 (x.out_3.get i1)) (cond false (cond (Nat.beq (18 : Nat) (18 : Nat)) (Go.Vm.V.int Go.IntKind.u8 (Go.IntKind.wrap Go.IntKind.u8 x.n_0)) (cond (Nat.beq (18 : Nat) (17 : Nat)) (cond (Nat.beq (0 : Nat) (16 : Nat)) (cond (Nat.beq (3 : Nat) (0 : Nat)) (Go.Vm.V.int Go.IntKind.u64 x.n_0) (cond (Nat.beq (3 : Nat) (3 : Nat)) (Go.Vm.V.sl (Option.some (5 : Nat)) (1 : Nat) x.out_3.nil x.out_3.n (fun i3 => (Go.Vm.V.int Go.IntKind.u8 (x.out_3.get i3)))) Go.Vm.V.undef)) (cond (Nat.beq (0 : Nat) (3 : Nat)) (Go.Vm.V.sl Option.none (1 : Nat) x.out_3.nil x.out_3.n (fun i3 => (Go.Vm.V.int Go.IntKind.u8 (x.out_3.get i3)))) (cond (Nat.beq (0 : Nat) (0 : Nat)) (Go.Vm.V.int Go.IntKind.u64 x.n_0) (cond (Nat.beq (0 : Nat) (3 : Nat)) (Go.Vm.V.sl (Option.some (5 : Nat)) (1 : Nat) x.out_3.nil x.out_3.n (fun i3 => (Go.Vm.V.int Go.IntKind.u8 (x.out_3.get i3)))) Go.Vm.V.undef)))) (cond (Nat.beq (18 : Nat) (16 : Nat)) (cond (Nat.beq (3 : Nat) (0 : Nat)) (Go.Vm.V.int Go.IntKind.u64 x.n_0) (cond (Nat.beq (3 : Nat) (3 : Nat)) (Go.Vm.V.sl (Option.some (5 : Nat)) (1 : Nat) x.out_3.nil x.out_3.n (fun i3 => (Go.Vm.V.int Go.IntKind.u8 (x.out_3.get i3)))) Go.Vm.V.undef)) (cond (Nat.beq (18 : Nat) (3 : Nat)) (Go.Vm.V.sl Option.none (1 : Nat) x.out_3.nil x.out_3.n (fun i3 => (Go.Vm.V.int Go.IntKind.u8 (x.out_3.get i3)))) (cond (Nat.beq (18 : Nat) (0 : Nat)) (Go.Vm.V.int Go.IntKind.u64 x.n_0) (cond (Nat.beq (18 : Nat) (3 : Nat)) (Go.Vm.V.sl (Option.some (5 : Nat)) (1 : Nat) x.out_3.nil x.out_3.n (fun i3 => (Go.Vm.V.int Go.IntKind.u8 (x.out_3.get i3)))) Go.Vm.V.undef)))))) (cond (Nat.beq (18 : Nat) (18 : Nat)) (Go.Vm.V.int Go.IntKind.u8 (Go.IntKind.wrap Go.IntKind.u8 x.n_0)) (cond (Nat.beq (18 : Nat) (17 : Nat)) (cond (Nat.beq (0 : Nat) (16 : Nat)) (cond (Nat.beq (3 : Nat) (0 : Nat)) (Go.Vm.V.int Go.IntKind.u64 x.n_0) (cond (Nat.beq (3 : Nat) (3 : Nat)) (Go.Vm.V.sl (Option.some (5 : Nat)) (1 : Nat) x.out_3.nil x.out_3.n (fun i3 => (Go.Vm.V.int Go.IntKind.u8 (x.out_3.get i3)))) Go.Vm.V.undef)) (cond (Nat.beq (0 : Nat) (3 : Nat)) (Go.Vm.V.sl Option.none (1 : Nat) x.out_3.nil x.out_3.n (fun i3 => (Go.Vm.V.int Go.IntKind.u8 (x.out_3.get i3)))) (cond (Nat.beq (0 : Nat) (0 : Nat)) (Go.Vm.V.int Go.IntKind.u64 x.n_0) (cond (Nat.beq (0 : Nat) (3 : Nat)) (Go.Vm.V.sl (Option.some (5 : Nat)) (1 : Nat) x.out_3.nil x.out_3.n (fun i3 => (Go.Vm.V.int Go.IntKind.u8 (x.out_3.get i3)))) Go.Vm.V.undef)))) (cond (Nat.beq (18 : Nat) (16 : Nat)) (cond (Nat.beq (3 : Nat) (0 : Nat)) (Go.Vm.V.int Go.IntKind.u64 x.n_0) (cond (Nat.beq (3 : Nat) (3 : Nat)) (Go.Vm.V.sl (Option.some (5 : Nat)) (1 : Nat) x.out_3.nil x.out_3.n (fun i3 => (Go.Vm.V.int Go.IntKind.u8 (x.out_3.get i3)))) Go.Vm.V.undef)) (cond (Nat.beq (18 : Nat) (3 : Nat)) (Go.Vm.V.sl Option.none (1 : Nat) x.out_3.nil x.out_3.n (fun i3 => (Go.Vm.V.int Go.IntKind.u8 (x.out_3.get i3)))) (cond (Nat.beq (18 : Nat) (0 : Nat)) (Go.Vm.V.int Go.IntKind.u64 x.n_0) (cond (Nat.beq (18 : Nat) (3 : Nat)) (Go.Vm.V.sl (Option.some (5 : Nat)) (1 : Nat) x.out_3.nil x.out_3.n (fun i3 => (Go.Vm.V.int Go.IntKind.u8 (x.out_3.get i3)))) Go.Vm.V.undef))))))))) = (Go.Vm.V.int Go.IntKind.u8 m2))))) <|
 (.ret (Go.Vm.bytesOf (x.out_3.n + (1 : Nat)) (fun i1 => (cond (Nat.blt i1 x.out_3.n) (x.out_3.get i1) (Go.IntKind.wrap Go.IntKind.u8 x.n_0)))))
 )
 )
theorem sd_f48_5 (x : X_f48_5) : (tt_f48_5  x).Sides :=
  (TT.s_need (TT.s_side (fun _ _ => ⟨_, rfl⟩) TT.s_ret))

theorem dn_f48_5 (x : X_f48_5) : J_f48.den [] S_f48_5 x 4000 = (tt_f48_5  x).tree J_f48.enc := by kernel_rfl
theorem st_f48_5  : LabOK J_f48 S_f48_5 (.of tt_f48_5) :=
  lab_ok mixed_ok labs_nil 4000 (dn_f48_5 ) (sd_f48_5 )
noncomputable def D_f48_5 : Dyn X_f48_5 R_f48 := .of (tt_f48_5 )
theorem ok_f48_5  : LabOK J_f48 S_f48_5 (D_f48_5 ) :=
  st_f48_5  
noncomputable def tt_f48_2 (D_f48_2 : Dyn X_f48_2 R_f48) (x : X_f48_2) : TT Try.prog R_f48 :=
 (.ite (Go.Vm.ilt (127 : Int) x.n_0)
  (.need (true && (Go.Vm.room (x.out_3.n + (1 : Nat)) (1 : Nat))) <|
  (.jump S_f48_2 D_f48_2 (X_f48_2.mk (Go.IntKind.wrap Go.IntKind.u64 (Int.tdiv x.n_0 (128 : Int))) (Go.Vm.Sl.mk (cond (Nat.beq (1 : Nat) (0 : Nat)) x.out_3.nil false) (x.out_3.n + (1 : Nat)) (fun i2 => (cond (Nat.blt i2 x.out_3.n) (x.out_3.get i2) (Go.IntKind.wrap Go.IntKind.u8 ((Go.IntKind.wrap Go.IntKind.u8 (Int.tmod x.n_0 (128 : Int))) + (128 : Int))))))))
  )
  (.jump S_f48_5 D_f48_5 (X_f48_5.mk x.n_0 x.out_3))
 )
theorem sd_f48_2 (D_f48_2 : Dyn X_f48_2 R_f48) (x : X_f48_2) : (tt_f48_2 D_f48_2 x).Sides :=
  (TT.s_ite (TT.s_need TT.s_jump) TT.s_jump)

theorem dn_f48_2 (D_f48_2 : Dyn X_f48_2 R_f48) (x : X_f48_2) : J_f48.den [⟨S_f48_2, D_f48_2⟩, ⟨S_f48_5, D_f48_5⟩] S_f48_2 x 4000 = (tt_f48_2 D_f48_2 x).tree J_f48.enc := by kernel_rfl
theorem st_f48_2 (D_f48_2 : Dyn X_f48_2 R_f48) (h_2 : LabOK J_f48 S_f48_2 D_f48_2) : LabOK J_f48 S_f48_2 (.of (tt_f48_2 D_f48_2)) :=
  lab_ok mixed_ok (labs_cons rfl h_2 (labs_cons rfl ok_f48_5 labs_nil)) 4000 (dn_f48_2 D_f48_2) (sd_f48_2 D_f48_2)
noncomputable def D_f48_2 : Dyn X_f48_2 R_f48 := Dyn.loop (tt_f48_2 )
theorem ok_f48_2  : LabOK J_f48 S_f48_2 (D_f48_2 ) :=
  loop_ok fun D h => st_f48_2  D  h
noncomputable def tt_f48 (x : X_f48) : TT Try.prog R_f48 :=
 (.jump S_f48_2 D_f48_2 (X_f48_2.mk x (Go.Vm.Sl.mk false (0 : Nat) (fun _i1 => (0 : Int)))))
theorem sd_f48 (x : X_f48) : (tt_f48  x).Sides :=
  TT.s_jump

theorem dn_f48 (x : X_f48) : J_f48.den [⟨S_f48_5, D_f48_5⟩, ⟨S_f48_2, D_f48_2⟩] S_f48 x 4000 = (tt_f48  x).tree J_f48.enc := by kernel_rfl
theorem st_f48  : LabOK J_f48 S_f48 (.of tt_f48) :=
  lab_ok mixed_ok (labs_cons rfl ok_f48_5 (labs_cons rfl ok_f48_2 labs_nil)) 4000 (dn_f48 ) (sd_f48 )
noncomputable def D_f48 : Dyn X_f48 R_f48 := .of tt_f48
theorem ct_f48 (x : X_f48) (y : R_f48) (h : D_f48.rel x y) : OK Try.prog 48 [(V.int .u64) x] [] (V.str y) [] :=
  contract (fn := Try.f48) (J := J_f48) (S := S_f48) (D := D_f48) (by kernel_rfl) (code := Try.f48.body.getD .skip) (by kernel_rfl) rfl st_f48 rfl (x := x) (y := y) h rfl rfl rfl rfl rfl (by kernel_rfl)
noncomputable def con_f48 : Con Try.prog where
  f := 48
  fn := Try.f48
  hf := by kernel_rfl
  hb := by kernel_rfl
  hn := by kernel_rfl
  X := X_f48
  Y := R_f48
  args := fun x => [(V.int .u64) x]
  objs := fun x => []
  res := fun y => V.str y
  outs := fun y => []
  rel := D_f48.rel
  ev := D_f48.ev
  evOK := D_f48.evOK
  dec := fun l m => (dI (at_ l 0))
  ash := [.any]
  osh := []
  ok := ct_f48

/-! rondeauref22.number -/
abbrev X_f27 : Type := Int
abbrev R_f27 : Type := ByteArray
noncomputable def J_f27 : Job Try.prog where
  fn := Try.f27
  nt := 5
  pol := tabN 0 [(3, 1)]
  hint := tabN [] []
  finH := []
  rsh := [.any]
  psh := []
  tab := [con_f48]
  R := R_f27
  enc := fun y => [V.str y]
noncomputable def S_f27 : LabS where
  id := 0
  K := [.code (Try.f27.body.getD .skip)]
  lay := entryLay 1 0
  X := X_f27
  enc := fun x => [(V.int .u64) x]
  dec := fun l => (dI (at_ l 0))
noncomputable def tt_f27 (x : X_f27) : TT Try.prog R_f27 :=
 (.call con_f48 x fun (y1 : R_f48) =>
 (.ret y1)
 )
theorem sd_f27 (x : X_f27) : (tt_f27  x).Sides :=
  (TT.s_call fun _ => TT.s_ret)

theorem dn_f27 (x : X_f27) : J_f27.den [] S_f27 x 4000 = (tt_f27  x).tree J_f27.enc := by kernel_rfl
theorem st_f27  : LabOK J_f27 S_f27 (.of tt_f27) :=
  lab_ok mixed_ok labs_nil 4000 (dn_f27 ) (sd_f27 )
noncomputable def D_f27 : Dyn X_f27 R_f27 := .of tt_f27
theorem ct_f27 (x : X_f27) (y : R_f27) (h : D_f27.rel x y) : OK Try.prog 27 [(V.int .u64) x] [] (V.str y) [] :=
  contract (fn := Try.f27) (J := J_f27) (S := S_f27) (D := D_f27) (by kernel_rfl) (code := Try.f27.body.getD .skip) (by kernel_rfl) rfl st_f27 rfl (x := x) (y := y) h rfl rfl rfl rfl rfl (by kernel_rfl)
noncomputable def con_f27 : Con Try.prog where
  f := 27
  fn := Try.f27
  hf := by kernel_rfl
  hb := by kernel_rfl
  hn := by kernel_rfl
  X := X_f27
  Y := R_f27
  args := fun x => [(V.int .u64) x]
  objs := fun x => []
  res := fun y => V.str y
  outs := fun y => []
  rel := D_f27.rel
  ev := D_f27.ev
  evOK := D_f27.evOK
  dec := fun l m => (dI (at_ l 0))
  ash := [.any]
  osh := []
  ok := ct_f27

/-! rondeauref02.PrintList -/
abbrev X_f28 : Type := (Sl Int)
abbrev R_f28 : Type := ByteArray
noncomputable def J_f28 : Job Try.prog where
  fn := Try.f28
  nt := 23
  pol := tabN 0 [(13, 1), (15, 1), (22, 1)]
  hint := tabN [] []
  finH := []
  rsh := [.any]
  psh := []
  tab := [con_f48]
  R := R_f28
  enc := fun y => [V.str y]
noncomputable def S_f28 : LabS where
  id := 0
  K := [.code (Try.f28.body.getD .skip)]
  lay := entryLay 1 0
  X := X_f28
  enc := fun x => [(eSl none 1 (V.int .u64)) x]
  dec := fun l => ((dSl dI) (at_ l 0))
structure X_f28_3 where
  l_0 : (Sl Int)
  out_3 : ByteArray
  i_4 : Int
noncomputable def S_f28_3 : LabS where
  id := 3
  K := (kAt 3 (Try.f28.body.getD .skip) []).getD []
  lay := { live := [(0, (.sl none 1 (V.int .u64 0))), (3, .any), (4, .any)], pars := [], locs := [] }
  X := X_f28_3
  enc := fun x => [(eSl none 1 (V.int .u64)) x.l_0, V.str x.out_3, (V.int .i64) x.i_4]
  dec := fun l => ⟨(dSl dI) (at_ l 0), dS (at_ l 1), dI (at_ l 2)⟩
noncomputable def tt_f28_3 (D_f28_3 : Dyn X_f28_3 R_f28) (x : X_f28_3) : TT Try.prog R_f28 :=
 (.ite (Go.Vm.ilt x.i_4 ((x.l_0.n : Nat) : Int))
  (.need (Go.Vm.inb x.i_4 x.l_0.n) <|
  (.call con_f48 (x.l_0.get (Int.toNat x.i_4)) fun (y2 : R_f48) =>
  (.need (decide ((((ByteArray.size x.out_3) + (ByteArray.size y2)) ≤ (9223372036854775807 : Nat)))) <|
  (.jump S_f28_3 D_f28_3 (X_f28_3.mk x.l_0 (x.out_3 ++ y2) (Go.IntKind.wrap Go.IntKind.i64 (x.i_4 + (1 : Int)))))
  )
  )
  )
  (.ret x.out_3)
 )
theorem sd_f28_3 (D_f28_3 : Dyn X_f28_3 R_f28) (x : X_f28_3) : (tt_f28_3 D_f28_3 x).Sides :=
  (TT.s_ite (TT.s_need (TT.s_call fun _ => (TT.s_need TT.s_jump))) TT.s_ret)

theorem dn_f28_3 (D_f28_3 : Dyn X_f28_3 R_f28) (x : X_f28_3) : J_f28.den [⟨S_f28_3, D_f28_3⟩] S_f28_3 x 4000 = (tt_f28_3 D_f28_3 x).tree J_f28.enc := by kernel_rfl
theorem st_f28_3 (D_f28_3 : Dyn X_f28_3 R_f28) (h_3 : LabOK J_f28 S_f28_3 D_f28_3) : LabOK J_f28 S_f28_3 (.of (tt_f28_3 D_f28_3)) :=
  lab_ok mixed_ok (labs_cons rfl h_3 labs_nil) 4000 (dn_f28_3 D_f28_3) (sd_f28_3 D_f28_3)
noncomputable def D_f28_3 : Dyn X_f28_3 R_f28 := Dyn.loop (tt_f28_3 )
theorem ok_f28_3  : LabOK J_f28 S_f28_3 (D_f28_3 ) :=
  loop_ok fun D h => st_f28_3  D  h
noncomputable def tt_f28 (x : X_f28) : TT Try.prog R_f28 :=
 (.call con_f48 (Go.IntKind.wrap Go.IntKind.u64 ((x.n : Nat) : Int)) fun (y1 : R_f48) =>
 (.jump S_f28_3 D_f28_3 (X_f28_3.mk x y1 (0 : Int)))
 )
theorem sd_f28 (x : X_f28) : (tt_f28  x).Sides :=
  (TT.s_call fun _ => TT.s_jump)

theorem dn_f28 (x : X_f28) : J_f28.den [⟨S_f28_3, D_f28_3⟩] S_f28 x 4000 = (tt_f28  x).tree J_f28.enc := by kernel_rfl
theorem st_f28  : LabOK J_f28 S_f28 (.of tt_f28) :=
  lab_ok mixed_ok (labs_cons rfl ok_f28_3 labs_nil) 4000 (dn_f28 ) (sd_f28 )
noncomputable def D_f28 : Dyn X_f28 R_f28 := .of tt_f28
theorem ct_f28 (x : X_f28) (y : R_f28) (h : D_f28.rel x y) : OK Try.prog 28 [(eSl none 1 (V.int .u64)) x] [] (V.str y) [] :=
  contract (fn := Try.f28) (J := J_f28) (S := S_f28) (D := D_f28) (by kernel_rfl) (code := Try.f28.body.getD .skip) (by kernel_rfl) rfl st_f28 rfl (x := x) (y := y) h rfl rfl rfl rfl rfl (by kernel_rfl)
noncomputable def con_f28 : Con Try.prog where
  f := 28
  fn := Try.f28
  hf := by kernel_rfl
  hb := by kernel_rfl
  hn := by kernel_rfl
  X := X_f28
  Y := R_f28
  args := fun x => [(eSl none 1 (V.int .u64)) x]
  objs := fun x => []
  res := fun y => V.str y
  outs := fun y => []
  rel := D_f28.rel
  ev := D_f28.ev
  evOK := D_f28.evOK
  dec := fun l m => ((dSl dI) (at_ l 0))
  ash := [(.sl none 1 (V.int .u64 0))]
  osh := []
  ok := ct_f28

/-! rondeauref22.is -/
abbrev X_f29 : Type := Bool
abbrev R_f29 : Type := ByteArray
noncomputable def J_f29 : Job Try.prog where
  fn := Try.f29
  nt := 6
  pol := tabN 0 [(3, 1)]
  hint := tabN [] []
  finH := []
  rsh := [.any]
  psh := []
  tab := [con_f27]
  R := R_f29
  enc := fun y => [V.str y]
noncomputable def S_f29 : LabS where
  id := 0
  K := [.code (Try.f29.body.getD .skip)]
  lay := entryLay 1 0
  X := X_f29
  enc := fun x => [V.bool x]
  dec := fun l => (dB (at_ l 0))
noncomputable def tt_f29 (x : X_f29) : TT Try.prog R_f29 :=
 (.ite x
  (.call con_f27 (1 : Int) fun (y1 : R_f27) =>
  (.ret y1)
  )
  (.call con_f27 (0 : Int) fun (y1 : R_f27) =>
  (.ret y1)
  )
 )
theorem sd_f29 (x : X_f29) : (tt_f29  x).Sides :=
  (TT.s_ite (TT.s_call fun _ => TT.s_ret) (TT.s_call fun _ => TT.s_ret))

theorem dn_f29 (x : X_f29) : J_f29.den [] S_f29 x 4000 = (tt_f29  x).tree J_f29.enc := by kernel_rfl
theorem st_f29  : LabOK J_f29 S_f29 (.of tt_f29) :=
  lab_ok mixed_ok labs_nil 4000 (dn_f29 ) (sd_f29 )
noncomputable def D_f29 : Dyn X_f29 R_f29 := .of tt_f29
theorem ct_f29 (x : X_f29) (y : R_f29) (h : D_f29.rel x y) : OK Try.prog 29 [V.bool x] [] (V.str y) [] :=
  contract (fn := Try.f29) (J := J_f29) (S := S_f29) (D := D_f29) (by kernel_rfl) (code := Try.f29.body.getD .skip) (by kernel_rfl) rfl st_f29 rfl (x := x) (y := y) h rfl rfl rfl rfl rfl (by kernel_rfl)
noncomputable def con_f29 : Con Try.prog where
  f := 29
  fn := Try.f29
  hf := by kernel_rfl
  hb := by kernel_rfl
  hn := by kernel_rfl
  X := X_f29
  Y := R_f29
  args := fun x => [V.bool x]
  objs := fun x => []
  res := fun y => V.str y
  outs := fun y => []
  rel := D_f29.rel
  ev := D_f29.ev
  evOK := D_f29.evOK
  dec := fun l m => (dB (at_ l 0))
  ash := [.any]
  osh := []
  ok := ct_f29

/-! rondeauref22.Print -/
abbrev X_f11 : Type := TApi_State
abbrev R_f11 : Type := ByteArray
noncomputable def J_f11 : Job Try.prog where
  fn := Try.f11
  nt := 152
  pol := tabN 0 [(1, 3), (20, 1), (27, 1), (54, 1), (56, 1), (63, 1), (68, 1), (80, 1), (87, 1), (111, 1), (113, 1), (139, 1)]
  hint := tabN [] []
  finH := []
  rsh := [.any]
  psh := []
  tab := [con_f27, con_f28, con_f29]
  R := R_f11
  enc := fun y => [V.str y]
noncomputable def S_f11 : LabS where
  id := 0
  K := [.code (Try.f11.body.getD .skip)]
  lay := entryLay 1 0
  X := X_f11
  enc := fun x => [e_TApi_State x]
  dec := fun l => (d_TApi_State (at_ l 0))
structure X_f11_3 where
  s_1 : TApi_State
  out_3 : ByteArray
  i_4 : Int
noncomputable def S_f11_3 : LabS where
  id := 3
  K := (kAt 3 (Try.f11.body.getD .skip) []).getD []
  lay := { live := [(1, .any), (3, .any), (4, .any)], pars := [], locs := [] }
  X := X_f11_3
  enc := fun x => [(eVp e_TApi_State) x.s_1, V.str x.out_3, (V.int .i64) x.i_4]
  dec := fun l => ⟨(dVp d_TApi_State) (at_ l 0), dS (at_ l 1), dI (at_ l 2)⟩
structure X_f11_4 where
  s_1 : TApi_State
  out_3 : ByteArray
  i_4 : Int
noncomputable def S_f11_4 : LabS where
  id := 4
  K := (kAt 4 (Try.f11.body.getD .skip) []).getD []
  lay := { live := [(1, .any), (3, .any), (4, .any)], pars := [], locs := [] }
  X := X_f11_4
  enc := fun x => [(eVp e_TApi_State) x.s_1, V.str x.out_3, (V.int .i64) x.i_4]
  dec := fun l => ⟨(dVp d_TApi_State) (at_ l 0), dS (at_ l 1), dI (at_ l 2)⟩
structure X_f11_8 where
  s_1 : TApi_State
  out_3 : ByteArray
  i_4 : Int
  k_6 : Int
  m_5 : TApi_ThreadState
noncomputable def S_f11_8 : LabS where
  id := 8
  K := (kAt 8 (Try.f11.body.getD .skip) []).getD []
  lay := { live := [(1, .any), (3, .any), (4, .any), (5, .any), (6, .any)], pars := [], locs := [(.loc 5 0, sh_TApi_ThreadState)] }
  X := X_f11_8
  enc := fun x => [(eVp e_TApi_State) x.s_1, V.str x.out_3, (V.int .i64) x.i_4, (V.ptr (.loc 5 0) []), (V.int .i64) x.k_6, e_TApi_ThreadState x.m_5]
  dec := fun l => ⟨(dVp d_TApi_State) (at_ l 0), dS (at_ l 1), dI (at_ l 2), dI (at_ l 4), d_TApi_ThreadState (at_ l 5)⟩
structure X_f11_11 where
  s_1 : TApi_State
  out_3 : ByteArray
  i_4 : Int
  m_5 : TApi_ThreadState
noncomputable def S_f11_11 : LabS where
  id := 11
  K := (kAt 11 (Try.f11.body.getD .skip) []).getD []
  lay := { live := [(1, .any), (3, .any), (4, .any), (5, .any)], pars := [], locs := [(.loc 5 0, sh_TApi_ThreadState)] }
  X := X_f11_11
  enc := fun x => [(eVp e_TApi_State) x.s_1, V.str x.out_3, (V.int .i64) x.i_4, (V.ptr (.loc 5 0) []), e_TApi_ThreadState x.m_5]
  dec := fun l => ⟨(dVp d_TApi_State) (at_ l 0), dS (at_ l 1), dI (at_ l 2), d_TApi_ThreadState (at_ l 4)⟩
structure X_f11_12 where
  s_1 : TApi_State
  out_3 : ByteArray
noncomputable def S_f11_12 : LabS where
  id := 12
  K := (kAt 12 (Try.f11.body.getD .skip) []).getD []
  lay := { live := [(1, .any), (3, .any)], pars := [], locs := [] }
  X := X_f11_12
  enc := fun x => [(eVp e_TApi_State) x.s_1, V.str x.out_3]
  dec := fun l => ⟨(dVp d_TApi_State) (at_ l 0), dS (at_ l 1)⟩
structure X_f11_14 where
  s_1 : TApi_State
  out_3 : ByteArray
  i_7 : Int
noncomputable def S_f11_14 : LabS where
  id := 14
  K := (kAt 14 (Try.f11.body.getD .skip) []).getD []
  lay := { live := [(1, .any), (3, .any), (7, .any)], pars := [], locs := [] }
  X := X_f11_14
  enc := fun x => [(eVp e_TApi_State) x.s_1, V.str x.out_3, (V.int .i64) x.i_7]
  dec := fun l => ⟨(dVp d_TApi_State) (at_ l 0), dS (at_ l 1), dI (at_ l 2)⟩
structure X_f11_15 where
  s_1 : TApi_State
  out_3 : ByteArray
  i_7 : Int
noncomputable def S_f11_15 : LabS where
  id := 15
  K := (kAt 15 (Try.f11.body.getD .skip) []).getD []
  lay := { live := [(1, .any), (3, .any), (7, .any)], pars := [], locs := [] }
  X := X_f11_15
  enc := fun x => [(eVp e_TApi_State) x.s_1, V.str x.out_3, (V.int .i64) x.i_7]
  dec := fun l => ⟨(dVp d_TApi_State) (at_ l 0), dS (at_ l 1), dI (at_ l 2)⟩
structure X_f11_19 where
  s_1 : TApi_State
  out_3 : ByteArray
  i_7 : Int
  k_9 : Int
  m_8 : TApi_RingState
noncomputable def S_f11_19 : LabS where
  id := 19
  K := (kAt 19 (Try.f11.body.getD .skip) []).getD []
  lay := { live := [(1, .any), (3, .any), (7, .any), (8, .any), (9, .any)], pars := [], locs := [(.loc 8 0, sh_TApi_RingState)] }
  X := X_f11_19
  enc := fun x => [(eVp e_TApi_State) x.s_1, V.str x.out_3, (V.int .i64) x.i_7, (V.ptr (.loc 8 0) []), (V.int .i64) x.k_9, e_TApi_RingState x.m_8]
  dec := fun l => ⟨(dVp d_TApi_State) (at_ l 0), dS (at_ l 1), dI (at_ l 2), dI (at_ l 4), d_TApi_RingState (at_ l 5)⟩
structure X_f11_22 where
  s_1 : TApi_State
  out_3 : ByteArray
noncomputable def S_f11_22 : LabS where
  id := 22
  K := (kAt 22 (Try.f11.body.getD .skip) []).getD []
  lay := { live := [(1, .any), (3, .any)], pars := [], locs := [] }
  X := X_f11_22
  enc := fun x => [(eVp e_TApi_State) x.s_1, V.str x.out_3]
  dec := fun l => ⟨(dVp d_TApi_State) (at_ l 0), dS (at_ l 1)⟩
noncomputable def tt_f11_22 (x : X_f11_22) : TT Try.prog R_f11 :=
 (.call con_f27 x.s_1.Now fun (y1 : R_f27) =>
 (.need (decide ((((ByteArray.size x.out_3) + (ByteArray.size y1)) ≤ (9223372036854775807 : Nat)))) <|
 (.call con_f27 x.s_1.Reads fun (y2 : R_f27) =>
 (.need (decide ((((ByteArray.size (x.out_3 ++ y1)) + (ByteArray.size y2)) ≤ (9223372036854775807 : Nat)))) <|
 (.call con_f29 x.s_1.Ended fun (y3 : R_f29) =>
 (.need (decide ((((ByteArray.size ((x.out_3 ++ y1) ++ y2)) + (ByteArray.size y3)) ≤ (9223372036854775807 : Nat)))) <|
 (.ret (((x.out_3 ++ y1) ++ y2) ++ y3))
 )
 )
 )
 )
 )
 )
theorem sd_f11_22 (x : X_f11_22) : (tt_f11_22  x).Sides :=
  (TT.s_call fun _ => (TT.s_need (TT.s_call fun _ => (TT.s_need (TT.s_call fun _ => (TT.s_need TT.s_ret))))))

theorem dn_f11_22 (x : X_f11_22) : J_f11.den [] S_f11_22 x 4000 = (tt_f11_22  x).tree J_f11.enc := by kernel_rfl
theorem st_f11_22  : LabOK J_f11 S_f11_22 (.of tt_f11_22) :=
  lab_ok mixed_ok labs_nil 4000 (dn_f11_22 ) (sd_f11_22 )
noncomputable def D_f11_22 : Dyn X_f11_22 R_f11 := .of (tt_f11_22 )
theorem ok_f11_22  : LabOK J_f11 S_f11_22 (D_f11_22 ) :=
  st_f11_22  
noncomputable def tt_f11_15 (D_f11_14 : Dyn X_f11_14 R_f11) (x : X_f11_15) : TT Try.prog R_f11 :=
 (.jump S_f11_14 D_f11_14 (X_f11_14.mk x.s_1 x.out_3 (Go.IntKind.wrap Go.IntKind.i64 (x.i_7 + (1 : Int)))))
theorem sd_f11_15 (D_f11_14 : Dyn X_f11_14 R_f11) (x : X_f11_15) : (tt_f11_15 D_f11_14 x).Sides :=
  TT.s_jump

theorem dn_f11_15 (D_f11_14 : Dyn X_f11_14 R_f11) (x : X_f11_15) : J_f11.den [⟨S_f11_14, D_f11_14⟩, ⟨S_f11_22, D_f11_22⟩] S_f11_15 x 4000 = (tt_f11_15 D_f11_14 x).tree J_f11.enc := by kernel_rfl
theorem st_f11_15 (D_f11_14 : Dyn X_f11_14 R_f11) (h_14 : LabOK J_f11 S_f11_14 D_f11_14) : LabOK J_f11 S_f11_15 (.of (tt_f11_15 D_f11_14)) :=
  lab_ok mixed_ok (labs_cons rfl h_14 (labs_cons rfl ok_f11_22 labs_nil)) 4000 (dn_f11_15 D_f11_14) (sd_f11_15 D_f11_14)
noncomputable def D_f11_15 (D_f11_14 : Dyn X_f11_14 R_f11) : Dyn X_f11_15 R_f11 := .of (tt_f11_15 D_f11_14)
theorem ok_f11_15 (D_f11_14 : Dyn X_f11_14 R_f11) (h_14 : LabOK J_f11 S_f11_14 D_f11_14) : LabOK J_f11 S_f11_15 (D_f11_15 D_f11_14) :=
  st_f11_15 D_f11_14 h_14
noncomputable def tt_f11_19 (D_f11_14 : Dyn X_f11_14 R_f11) (D_f11_19 : Dyn X_f11_19 R_f11) (x : X_f11_19) : TT Try.prog R_f11 :=
 (.ite (Go.Vm.ilt x.k_9 ((x.m_8.Slots.n : Nat) : Int))
  (.need (Go.Vm.inb x.k_9 x.m_8.Slots.n) <|
  (.call con_f27 (x.m_8.Slots.get (Int.toNat x.k_9)).Stamp fun (y3 : R_f27) =>
  (.need (Go.Vm.inb x.k_9 x.m_8.Slots.n) <|
  (.call con_f27 (x.m_8.Slots.get (Int.toNat x.k_9)).Value fun (y4 : R_f27) =>
  (.need (decide ((((ByteArray.size y3) + (ByteArray.size y4)) ≤ (9223372036854775807 : Nat)))) <|
  (.need (Go.Vm.inb x.k_9 x.m_8.Slots.n) <|
  (.call con_f27 (Go.IntKind.wrap Go.IntKind.u64 (x.m_8.Slots.get (Int.toNat x.k_9)).Left) fun (y5 : R_f27) =>
  (.need (decide ((((ByteArray.size (y3 ++ y4)) + (ByteArray.size y5)) ≤ (9223372036854775807 : Nat)))) <|
  (.need (decide ((((ByteArray.size x.out_3) + (ByteArray.size ((y3 ++ y4) ++ y5))) ≤ (9223372036854775807 : Nat)))) <|
  (.jump S_f11_19 D_f11_19 (X_f11_19.mk x.s_1 (x.out_3 ++ ((y3 ++ y4) ++ y5)) x.i_7 (Go.IntKind.wrap Go.IntKind.i64 (x.k_9 + (1 : Int))) x.m_8))
  )
  )
  )
  )
  )
  )
  )
  )
  )
  (.jump S_f11_15 (D_f11_15 D_f11_14) (X_f11_15.mk x.s_1 x.out_3 x.i_7))
 )
theorem sd_f11_19 (D_f11_14 : Dyn X_f11_14 R_f11) (D_f11_19 : Dyn X_f11_19 R_f11) (x : X_f11_19) : (tt_f11_19 D_f11_14 D_f11_19 x).Sides :=
  (TT.s_ite (TT.s_need (TT.s_call fun _ => (TT.s_need (TT.s_call fun _ => (TT.s_need (TT.s_need (TT.s_call fun _ => (TT.s_need (TT.s_need TT.s_jump))))))))) TT.s_jump)

theorem dn_f11_19 (D_f11_14 : Dyn X_f11_14 R_f11) (D_f11_19 : Dyn X_f11_19 R_f11) (x : X_f11_19) : J_f11.den [⟨S_f11_14, D_f11_14⟩, ⟨S_f11_19, D_f11_19⟩, ⟨S_f11_22, D_f11_22⟩, ⟨S_f11_15, (D_f11_15 D_f11_14)⟩] S_f11_19 x 4000 = (tt_f11_19 D_f11_14 D_f11_19 x).tree J_f11.enc := by kernel_rfl
theorem st_f11_19 (D_f11_14 : Dyn X_f11_14 R_f11) (D_f11_19 : Dyn X_f11_19 R_f11) (h_14 : LabOK J_f11 S_f11_14 D_f11_14) (h_19 : LabOK J_f11 S_f11_19 D_f11_19) : LabOK J_f11 S_f11_19 (.of (tt_f11_19 D_f11_14 D_f11_19)) :=
  lab_ok mixed_ok (labs_cons rfl h_14 (labs_cons rfl h_19 (labs_cons rfl ok_f11_22 (labs_cons rfl (ok_f11_15 D_f11_14 h_14) labs_nil)))) 4000 (dn_f11_19 D_f11_14 D_f11_19) (sd_f11_19 D_f11_14 D_f11_19)
noncomputable def D_f11_19 (D_f11_14 : Dyn X_f11_14 R_f11) : Dyn X_f11_19 R_f11 := Dyn.loop (tt_f11_19 D_f11_14)
theorem ok_f11_19 (D_f11_14 : Dyn X_f11_14 R_f11) (h_14 : LabOK J_f11 S_f11_14 D_f11_14) : LabOK J_f11 S_f11_19 (D_f11_19 D_f11_14) :=
  loop_ok fun D h => st_f11_19 D_f11_14 D h_14 h
noncomputable def tt_f11_14 (D_f11_14 : Dyn X_f11_14 R_f11) (x : X_f11_14) : TT Try.prog R_f11 :=
 (.ite (Go.Vm.ilt x.i_7 ((x.s_1.Rings.n : Nat) : Int))
  (.need (Go.Vm.inb x.i_7 x.s_1.Rings.n) <|
  (.call con_f27 (x.s_1.Rings.get (Int.toNat x.i_7)).Tail fun (y2 : R_f27) =>
  (.call con_f28 (x.s_1.Rings.get (Int.toNat x.i_7)).Heads fun (y3 : R_f28) =>
  (.need (decide ((((ByteArray.size y2) + (ByteArray.size y3)) ≤ (9223372036854775807 : Nat)))) <|
  (.call con_f29 (x.s_1.Rings.get (Int.toNat x.i_7)).Closed fun (y4 : R_f29) =>
  (.need (decide ((((ByteArray.size (y2 ++ y3)) + (ByteArray.size y4)) ≤ (9223372036854775807 : Nat)))) <|
  (.call con_f27 (Go.IntKind.wrap Go.IntKind.u64 (((x.s_1.Rings.get (Int.toNat x.i_7)).Slots.n : Nat) : Int)) fun (y5 : R_f27) =>
  (.need (decide ((((ByteArray.size ((y2 ++ y3) ++ y4)) + (ByteArray.size y5)) ≤ (9223372036854775807 : Nat)))) <|
  (.need (decide ((((ByteArray.size x.out_3) + (ByteArray.size (((y2 ++ y3) ++ y4) ++ y5))) ≤ (9223372036854775807 : Nat)))) <|
  (.jump S_f11_19 (D_f11_19 D_f11_14) (X_f11_19.mk x.s_1 (x.out_3 ++ (((y2 ++ y3) ++ y4) ++ y5)) x.i_7 (0 : Int) (x.s_1.Rings.get (Int.toNat x.i_7))))
  )
  )
  )
  )
  )
  )
  )
  )
  )
  (.jump S_f11_22 D_f11_22 (X_f11_22.mk x.s_1 x.out_3))
 )
theorem sd_f11_14 (D_f11_14 : Dyn X_f11_14 R_f11) (x : X_f11_14) : (tt_f11_14 D_f11_14 x).Sides :=
  (TT.s_ite (TT.s_need (TT.s_call fun _ => (TT.s_call fun _ => (TT.s_need (TT.s_call fun _ => (TT.s_need (TT.s_call fun _ => (TT.s_need (TT.s_need TT.s_jump))))))))) TT.s_jump)

theorem dn_f11_14 (D_f11_14 : Dyn X_f11_14 R_f11) (x : X_f11_14) : J_f11.den [⟨S_f11_14, D_f11_14⟩, ⟨S_f11_22, D_f11_22⟩, ⟨S_f11_15, (D_f11_15 D_f11_14)⟩, ⟨S_f11_19, (D_f11_19 D_f11_14)⟩] S_f11_14 x 4000 = (tt_f11_14 D_f11_14 x).tree J_f11.enc := by kernel_rfl
theorem st_f11_14 (D_f11_14 : Dyn X_f11_14 R_f11) (h_14 : LabOK J_f11 S_f11_14 D_f11_14) : LabOK J_f11 S_f11_14 (.of (tt_f11_14 D_f11_14)) :=
  lab_ok mixed_ok (labs_cons rfl h_14 (labs_cons rfl ok_f11_22 (labs_cons rfl (ok_f11_15 D_f11_14 h_14) (labs_cons rfl (ok_f11_19 D_f11_14 h_14) labs_nil)))) 4000 (dn_f11_14 D_f11_14) (sd_f11_14 D_f11_14)
noncomputable def D_f11_14 : Dyn X_f11_14 R_f11 := Dyn.loop (tt_f11_14 )
theorem ok_f11_14  : LabOK J_f11 S_f11_14 (D_f11_14 ) :=
  loop_ok fun D h => st_f11_14  D  h
noncomputable def tt_f11_12 (x : X_f11_12) : TT Try.prog R_f11 :=
 (.call con_f27 (Go.IntKind.wrap Go.IntKind.u64 ((x.s_1.Rings.n : Nat) : Int)) fun (y1 : R_f27) =>
 (.need (decide ((((ByteArray.size x.out_3) + (ByteArray.size y1)) ≤ (9223372036854775807 : Nat)))) <|
 (.jump S_f11_14 D_f11_14 (X_f11_14.mk x.s_1 (x.out_3 ++ y1) (0 : Int)))
 )
 )
theorem sd_f11_12 (x : X_f11_12) : (tt_f11_12  x).Sides :=
  (TT.s_call fun _ => (TT.s_need TT.s_jump))

theorem dn_f11_12 (x : X_f11_12) : J_f11.den [⟨S_f11_22, D_f11_22⟩, ⟨S_f11_14, D_f11_14⟩] S_f11_12 x 4000 = (tt_f11_12  x).tree J_f11.enc := by kernel_rfl
theorem st_f11_12  : LabOK J_f11 S_f11_12 (.of tt_f11_12) :=
  lab_ok mixed_ok (labs_cons rfl ok_f11_22 (labs_cons rfl ok_f11_14 labs_nil)) 4000 (dn_f11_12 ) (sd_f11_12 )
noncomputable def D_f11_12 : Dyn X_f11_12 R_f11 := .of (tt_f11_12 )
theorem ok_f11_12  : LabOK J_f11 S_f11_12 (D_f11_12 ) :=
  st_f11_12  
noncomputable def tt_f11_4 (D_f11_3 : Dyn X_f11_3 R_f11) (x : X_f11_4) : TT Try.prog R_f11 :=
 (.jump S_f11_3 D_f11_3 (X_f11_3.mk x.s_1 x.out_3 (Go.IntKind.wrap Go.IntKind.i64 (x.i_4 + (1 : Int)))))
theorem sd_f11_4 (D_f11_3 : Dyn X_f11_3 R_f11) (x : X_f11_4) : (tt_f11_4 D_f11_3 x).Sides :=
  TT.s_jump

theorem dn_f11_4 (D_f11_3 : Dyn X_f11_3 R_f11) (x : X_f11_4) : J_f11.den [⟨S_f11_3, D_f11_3⟩, ⟨S_f11_22, D_f11_22⟩, ⟨S_f11_14, D_f11_14⟩, ⟨S_f11_12, D_f11_12⟩] S_f11_4 x 4000 = (tt_f11_4 D_f11_3 x).tree J_f11.enc := by kernel_rfl
theorem st_f11_4 (D_f11_3 : Dyn X_f11_3 R_f11) (h_3 : LabOK J_f11 S_f11_3 D_f11_3) : LabOK J_f11 S_f11_4 (.of (tt_f11_4 D_f11_3)) :=
  lab_ok mixed_ok (labs_cons rfl h_3 (labs_cons rfl ok_f11_22 (labs_cons rfl ok_f11_14 (labs_cons rfl ok_f11_12 labs_nil)))) 4000 (dn_f11_4 D_f11_3) (sd_f11_4 D_f11_3)
noncomputable def D_f11_4 (D_f11_3 : Dyn X_f11_3 R_f11) : Dyn X_f11_4 R_f11 := .of (tt_f11_4 D_f11_3)
theorem ok_f11_4 (D_f11_3 : Dyn X_f11_3 R_f11) (h_3 : LabOK J_f11 S_f11_3 D_f11_3) : LabOK J_f11 S_f11_4 (D_f11_4 D_f11_3) :=
  st_f11_4 D_f11_3 h_3
noncomputable def tt_f11_11 (D_f11_3 : Dyn X_f11_3 R_f11) (x : X_f11_11) : TT Try.prog R_f11 :=
 (.call con_f28 x.m_5.Seen fun (y2 : R_f28) =>
 (.need (decide ((((ByteArray.size x.out_3) + (ByteArray.size y2)) ≤ (9223372036854775807 : Nat)))) <|
 (.jump S_f11_4 (D_f11_4 D_f11_3) (X_f11_4.mk x.s_1 (x.out_3 ++ y2) x.i_4))
 )
 )
theorem sd_f11_11 (D_f11_3 : Dyn X_f11_3 R_f11) (x : X_f11_11) : (tt_f11_11 D_f11_3 x).Sides :=
  (TT.s_call fun _ => (TT.s_need TT.s_jump))

theorem dn_f11_11 (D_f11_3 : Dyn X_f11_3 R_f11) (x : X_f11_11) : J_f11.den [⟨S_f11_3, D_f11_3⟩, ⟨S_f11_22, D_f11_22⟩, ⟨S_f11_14, D_f11_14⟩, ⟨S_f11_12, D_f11_12⟩, ⟨S_f11_4, (D_f11_4 D_f11_3)⟩] S_f11_11 x 4000 = (tt_f11_11 D_f11_3 x).tree J_f11.enc := by kernel_rfl
theorem st_f11_11 (D_f11_3 : Dyn X_f11_3 R_f11) (h_3 : LabOK J_f11 S_f11_3 D_f11_3) : LabOK J_f11 S_f11_11 (.of (tt_f11_11 D_f11_3)) :=
  lab_ok mixed_ok (labs_cons rfl h_3 (labs_cons rfl ok_f11_22 (labs_cons rfl ok_f11_14 (labs_cons rfl ok_f11_12 (labs_cons rfl (ok_f11_4 D_f11_3 h_3) labs_nil))))) 4000 (dn_f11_11 D_f11_3) (sd_f11_11 D_f11_3)
noncomputable def D_f11_11 (D_f11_3 : Dyn X_f11_3 R_f11) : Dyn X_f11_11 R_f11 := .of (tt_f11_11 D_f11_3)
theorem ok_f11_11 (D_f11_3 : Dyn X_f11_3 R_f11) (h_3 : LabOK J_f11 S_f11_3 D_f11_3) : LabOK J_f11 S_f11_11 (D_f11_11 D_f11_3) :=
  st_f11_11 D_f11_3 h_3
noncomputable def tt_f11_8 (D_f11_3 : Dyn X_f11_3 R_f11) (D_f11_8 : Dyn X_f11_8 R_f11) (x : X_f11_8) : TT Try.prog R_f11 :=
 (.ite (Go.Vm.ilt x.k_6 (8 : Int))
  (.need (Go.Vm.inb x.k_6 (8 : Nat)) <|
  (.call con_f27 (x.m_5.Regs (Int.toNat x.k_6)) fun (y3 : R_f27) =>
  (.need (decide ((((ByteArray.size x.out_3) + (ByteArray.size y3)) ≤ (9223372036854775807 : Nat)))) <|
  (.jump S_f11_8 D_f11_8 (X_f11_8.mk x.s_1 (x.out_3 ++ y3) x.i_4 (Go.IntKind.wrap Go.IntKind.i64 (x.k_6 + (1 : Int))) x.m_5))
  )
  )
  )
  (.jump S_f11_11 (D_f11_11 D_f11_3) (X_f11_11.mk x.s_1 x.out_3 x.i_4 x.m_5))
 )
theorem sd_f11_8 (D_f11_3 : Dyn X_f11_3 R_f11) (D_f11_8 : Dyn X_f11_8 R_f11) (x : X_f11_8) : (tt_f11_8 D_f11_3 D_f11_8 x).Sides :=
  (TT.s_ite (TT.s_need (TT.s_call fun _ => (TT.s_need TT.s_jump))) TT.s_jump)

theorem dn_f11_8 (D_f11_3 : Dyn X_f11_3 R_f11) (D_f11_8 : Dyn X_f11_8 R_f11) (x : X_f11_8) : J_f11.den [⟨S_f11_3, D_f11_3⟩, ⟨S_f11_8, D_f11_8⟩, ⟨S_f11_22, D_f11_22⟩, ⟨S_f11_14, D_f11_14⟩, ⟨S_f11_12, D_f11_12⟩, ⟨S_f11_4, (D_f11_4 D_f11_3)⟩, ⟨S_f11_11, (D_f11_11 D_f11_3)⟩] S_f11_8 x 4000 = (tt_f11_8 D_f11_3 D_f11_8 x).tree J_f11.enc := by kernel_rfl
theorem st_f11_8 (D_f11_3 : Dyn X_f11_3 R_f11) (D_f11_8 : Dyn X_f11_8 R_f11) (h_3 : LabOK J_f11 S_f11_3 D_f11_3) (h_8 : LabOK J_f11 S_f11_8 D_f11_8) : LabOK J_f11 S_f11_8 (.of (tt_f11_8 D_f11_3 D_f11_8)) :=
  lab_ok mixed_ok (labs_cons rfl h_3 (labs_cons rfl h_8 (labs_cons rfl ok_f11_22 (labs_cons rfl ok_f11_14 (labs_cons rfl ok_f11_12 (labs_cons rfl (ok_f11_4 D_f11_3 h_3) (labs_cons rfl (ok_f11_11 D_f11_3 h_3) labs_nil))))))) 4000 (dn_f11_8 D_f11_3 D_f11_8) (sd_f11_8 D_f11_3 D_f11_8)
noncomputable def D_f11_8 (D_f11_3 : Dyn X_f11_3 R_f11) : Dyn X_f11_8 R_f11 := Dyn.loop (tt_f11_8 D_f11_3)
theorem ok_f11_8 (D_f11_3 : Dyn X_f11_3 R_f11) (h_3 : LabOK J_f11 S_f11_3 D_f11_3) : LabOK J_f11 S_f11_8 (D_f11_8 D_f11_3) :=
  loop_ok fun D h => st_f11_8 D_f11_3 D h_3 h
noncomputable def tt_f11_3 (D_f11_3 : Dyn X_f11_3 R_f11) (x : X_f11_3) : TT Try.prog R_f11 :=
 (.ite (Go.Vm.ilt x.i_4 ((x.s_1.Threads.n : Nat) : Int))
  (.need (Go.Vm.inb x.i_4 x.s_1.Threads.n) <|
  (.call con_f27 (Go.IntKind.wrap Go.IntKind.u64 (x.s_1.Threads.get (Int.toNat x.i_4)).At) fun (y2 : R_f27) =>
  (.call con_f27 (Go.IntKind.wrap Go.IntKind.u64 (x.s_1.Threads.get (Int.toNat x.i_4)).Phase) fun (y3 : R_f27) =>
  (.need (decide ((((ByteArray.size y2) + (ByteArray.size y3)) ≤ (9223372036854775807 : Nat)))) <|
  (.call con_f27 (Go.IntKind.wrap Go.IntKind.u64 (x.s_1.Threads.get (Int.toNat x.i_4)).Ring) fun (y4 : R_f27) =>
  (.need (decide ((((ByteArray.size (y2 ++ y3)) + (ByteArray.size y4)) ≤ (9223372036854775807 : Nat)))) <|
  (.call con_f27 (Go.IntKind.wrap Go.IntKind.u64 (x.s_1.Threads.get (Int.toNat x.i_4)).Status) fun (y5 : R_f27) =>
  (.need (decide ((((ByteArray.size ((y2 ++ y3) ++ y4)) + (ByteArray.size y5)) ≤ (9223372036854775807 : Nat)))) <|
  (.call con_f27 (x.s_1.Threads.get (Int.toNat x.i_4)).Ticket fun (y6 : R_f27) =>
  (.need (decide ((((ByteArray.size (((y2 ++ y3) ++ y4) ++ y5)) + (ByteArray.size y6)) ≤ (9223372036854775807 : Nat)))) <|
  (.need (decide ((((ByteArray.size x.out_3) + (ByteArray.size ((((y2 ++ y3) ++ y4) ++ y5) ++ y6))) ≤ (9223372036854775807 : Nat)))) <|
  (.jump S_f11_8 (D_f11_8 D_f11_3) (X_f11_8.mk x.s_1 (x.out_3 ++ ((((y2 ++ y3) ++ y4) ++ y5) ++ y6)) x.i_4 (0 : Int) (x.s_1.Threads.get (Int.toNat x.i_4))))
  )
  )
  )
  )
  )
  )
  )
  )
  )
  )
  )
  (.jump S_f11_12 D_f11_12 (X_f11_12.mk x.s_1 x.out_3))
 )
theorem sd_f11_3 (D_f11_3 : Dyn X_f11_3 R_f11) (x : X_f11_3) : (tt_f11_3 D_f11_3 x).Sides :=
  (TT.s_ite (TT.s_need (TT.s_call fun _ => (TT.s_call fun _ => (TT.s_need (TT.s_call fun _ => (TT.s_need (TT.s_call fun _ => (TT.s_need (TT.s_call fun _ => (TT.s_need (TT.s_need TT.s_jump))))))))))) TT.s_jump)

theorem dn_f11_3 (D_f11_3 : Dyn X_f11_3 R_f11) (x : X_f11_3) : J_f11.den [⟨S_f11_3, D_f11_3⟩, ⟨S_f11_22, D_f11_22⟩, ⟨S_f11_14, D_f11_14⟩, ⟨S_f11_12, D_f11_12⟩, ⟨S_f11_4, (D_f11_4 D_f11_3)⟩, ⟨S_f11_11, (D_f11_11 D_f11_3)⟩, ⟨S_f11_8, (D_f11_8 D_f11_3)⟩] S_f11_3 x 4000 = (tt_f11_3 D_f11_3 x).tree J_f11.enc := by kernel_rfl
theorem st_f11_3 (D_f11_3 : Dyn X_f11_3 R_f11) (h_3 : LabOK J_f11 S_f11_3 D_f11_3) : LabOK J_f11 S_f11_3 (.of (tt_f11_3 D_f11_3)) :=
  lab_ok mixed_ok (labs_cons rfl h_3 (labs_cons rfl ok_f11_22 (labs_cons rfl ok_f11_14 (labs_cons rfl ok_f11_12 (labs_cons rfl (ok_f11_4 D_f11_3 h_3) (labs_cons rfl (ok_f11_11 D_f11_3 h_3) (labs_cons rfl (ok_f11_8 D_f11_3 h_3) labs_nil))))))) 4000 (dn_f11_3 D_f11_3) (sd_f11_3 D_f11_3)
noncomputable def D_f11_3 : Dyn X_f11_3 R_f11 := Dyn.loop (tt_f11_3 )
theorem ok_f11_3  : LabOK J_f11 S_f11_3 (D_f11_3 ) :=
  loop_ok fun D h => st_f11_3  D  h
noncomputable def tt_f11 (x : X_f11) : TT Try.prog R_f11 :=
 (.call con_f27 (Go.IntKind.wrap Go.IntKind.u64 ((x.Threads.n : Nat) : Int)) fun (y1 : R_f27) =>
 (.jump S_f11_3 D_f11_3 (X_f11_3.mk x y1 (0 : Int)))
 )
theorem sd_f11 (x : X_f11) : (tt_f11  x).Sides :=
  (TT.s_call fun _ => TT.s_jump)

theorem dn_f11 (x : X_f11) : J_f11.den [⟨S_f11_22, D_f11_22⟩, ⟨S_f11_14, D_f11_14⟩, ⟨S_f11_12, D_f11_12⟩, ⟨S_f11_3, D_f11_3⟩] S_f11 x 4000 = (tt_f11  x).tree J_f11.enc := by kernel_rfl
theorem st_f11  : LabOK J_f11 S_f11 (.of tt_f11) :=
  lab_ok mixed_ok (labs_cons rfl ok_f11_22 (labs_cons rfl ok_f11_14 (labs_cons rfl ok_f11_12 (labs_cons rfl ok_f11_3 labs_nil)))) 4000 (dn_f11 ) (sd_f11 )
noncomputable def D_f11 : Dyn X_f11 R_f11 := .of tt_f11
theorem ct_f11 (x : X_f11) (y : R_f11) (h : D_f11.rel x y) : OK Try.prog 11 [e_TApi_State x] [] (V.str y) [] :=
  contract (fn := Try.f11) (J := J_f11) (S := S_f11) (D := D_f11) (by kernel_rfl) (code := Try.f11.body.getD .skip) (by kernel_rfl) rfl st_f11 rfl (x := x) (y := y) h rfl rfl rfl rfl rfl (by kernel_rfl)
noncomputable def con_f11 : Con Try.prog where
  f := 11
  fn := Try.f11
  hf := by kernel_rfl
  hb := by kernel_rfl
  hn := by kernel_rfl
  X := X_f11
  Y := R_f11
  args := fun x => [e_TApi_State x]
  objs := fun x => []
  res := fun y => V.str y
  outs := fun y => []
  rel := D_f11.rel
  ev := D_f11.ev
  evOK := D_f11.evOK
  dec := fun l m => (d_TApi_State (at_ l 0))
  ash := [sh_TApi_State]
  osh := []
  ok := ct_f11

/-! rondeaulaw22.SnapPrints -/
abbrev X_f3 : Type := TApi_State × TApi_State
abbrev R_f3 : Type := Bool
noncomputable def J_f3 : Job Try.prog where
  fn := Try.f3
  nt := 55
  pol := tabN 0 [(2, 3), (3, 3), (9, 1), (14, 1), (20, 1), (32, 1), (41, 1), (43, 1), (44, 1), (47, 1), (51, 1), (52, 1)]
  hint := tabN [] []
  finH := []
  rsh := [.any]
  psh := []
  tab := [con_f10, con_f11, con_f5, con_f6, con_f7, con_f8, con_f9]
  R := R_f3
  enc := fun y => [V.bool y]
noncomputable def S_f3 : LabS where
  id := 0
  K := [.code (Try.f3.body.getD .skip)]
  lay := entryLay 2 0
  X := X_f3
  enc := fun x => [e_TApi_State x.1, e_TApi_State x.2]
  dec := fun l => (d_TApi_State (at_ l 0), d_TApi_State (at_ l 1))
structure X_f3_3 where
  s_2 : TApi_State
  t_3 : TApi_State
noncomputable def S_f3_3 : LabS where
  id := 3
  K := (kAt 3 (Try.f3.body.getD .skip) []).getD []
  lay := { live := [(2, .any), (3, .any)], pars := [], locs := [] }
  X := X_f3_3
  enc := fun x => [(eVp e_TApi_State) x.s_2, (eVp e_TApi_State) x.t_3]
  dec := fun l => ⟨(dVp d_TApi_State) (at_ l 0), (dVp d_TApi_State) (at_ l 1)⟩
structure X_f3_6 where
  s_2 : TApi_State
  b_5 : ByteArray
  e_6 : Int
noncomputable def S_f3_6 : LabS where
  id := 6
  K := (kAt 6 (Try.f3.body.getD .skip) []).getD []
  lay := { live := [(2, .any), (5, .any), (6, .any)], pars := [], locs := [] }
  X := X_f3_6
  enc := fun x => [(eVp e_TApi_State) x.s_2, V.str x.b_5, (V.int .i64) x.e_6]
  dec := fun l => ⟨(dVp d_TApi_State) (at_ l 0), dS (at_ l 1), dI (at_ l 2)⟩
noncomputable def tt_f3_6 (x : X_f3_6) : TT Try.prog R_f3 :=
 (.call con_f10 x.s_2 fun (y1 : R_f10) =>
 (.ite (!y1)
  (.ite (Go.Vm.seq x.b_5 (ByteArray.mk #[]))
   (.ret (Go.Vm.ieq x.e_6 (1 : Int)))
   (.ret false)
  )
  (.call con_f11 x.s_2 fun (y2 : R_f11) =>
  (.ite (Go.Vm.seq x.b_5 y2)
   (.ret (Go.Vm.ieq x.e_6 (0 : Int)))
   (.ret false)
  )
  )
 )
 )
theorem sd_f3_6 (x : X_f3_6) : (tt_f3_6  x).Sides :=
  (TT.s_call fun _ => (TT.s_ite (TT.s_ite TT.s_ret TT.s_ret) (TT.s_call fun _ => (TT.s_ite TT.s_ret TT.s_ret))))

theorem dn_f3_6 (x : X_f3_6) : J_f3.den [] S_f3_6 x 4000 = (tt_f3_6  x).tree J_f3.enc := by kernel_rfl
theorem st_f3_6  : LabOK J_f3 S_f3_6 (.of tt_f3_6) :=
  lab_ok mixed_ok labs_nil 4000 (dn_f3_6 ) (sd_f3_6 )
noncomputable def D_f3_6 : Dyn X_f3_6 R_f3 := .of (tt_f3_6 )
theorem ok_f3_6  : LabOK J_f3 S_f3_6 (D_f3_6 ) :=
  st_f3_6  
noncomputable def tt_f3_3 (x : X_f3_3) : TT Try.prog R_f3 :=
 (.call con_f7 x.s_2 fun (y1 : R_f7) =>
 (.call con_f8 (x.s_2, x.t_3) fun (y2 : R_f8) =>
 (.call con_f9 (x.s_2, x.t_3) fun (y3 : R_f9) =>
 (.ite (!(y2 == y3))
  (.ret false)
  (.call con_f8 (x.s_2, x.s_2) fun (y4 : R_f8) =>
  (.ite (!y4)
   (.ret false)
   (.jump S_f3_6 D_f3_6 (X_f3_6.mk x.s_2 y1.fst y1.snd))
  )
  )
 )
 )
 )
 )
theorem sd_f3_3 (x : X_f3_3) : (tt_f3_3  x).Sides :=
  (TT.s_call fun _ => (TT.s_call fun _ => (TT.s_call fun _ => (TT.s_ite TT.s_ret (TT.s_call fun _ => (TT.s_ite TT.s_ret TT.s_jump))))))

theorem dn_f3_3 (x : X_f3_3) : J_f3.den [⟨S_f3_6, D_f3_6⟩] S_f3_3 x 4000 = (tt_f3_3  x).tree J_f3.enc := by kernel_rfl
theorem st_f3_3  : LabOK J_f3 S_f3_3 (.of tt_f3_3) :=
  lab_ok mixed_ok (labs_cons rfl ok_f3_6 labs_nil) 4000 (dn_f3_3 ) (sd_f3_3 )
noncomputable def D_f3_3 : Dyn X_f3_3 R_f3 := .of (tt_f3_3 )
theorem ok_f3_3  : LabOK J_f3 S_f3_3 (D_f3_3 ) :=
  st_f3_3  
noncomputable def tt_f3 (x : X_f3) : TT Try.prog R_f3 :=
 (.call con_f5 PUnit.unit fun (y1 : R_f5) =>
 (.ite (!y1)
  (.call con_f5 PUnit.unit fun (y2 : R_f5) =>
  (.ret y2)
  )
  (.call con_f6 x.fst fun (y2 : R_f6) =>
  (.ite (!y2)
   (.call con_f5 PUnit.unit fun (y3 : R_f5) =>
   (.ret y3)
   )
   (.call con_f6 x.snd fun (y3 : R_f6) =>
   (.ite (!y3)
    (.call con_f5 PUnit.unit fun (y4 : R_f5) =>
    (.ret y4)
    )
    (.jump S_f3_3 D_f3_3 (X_f3_3.mk x.fst x.snd))
   )
   )
  )
  )
 )
 )
theorem sd_f3 (x : X_f3) : (tt_f3  x).Sides :=
  (TT.s_call fun _ => (TT.s_ite (TT.s_call fun _ => TT.s_ret) (TT.s_call fun _ => (TT.s_ite (TT.s_call fun _ => TT.s_ret) (TT.s_call fun _ => (TT.s_ite (TT.s_call fun _ => TT.s_ret) TT.s_jump))))))

theorem dn_f3 (x : X_f3) : J_f3.den [⟨S_f3_6, D_f3_6⟩, ⟨S_f3_3, D_f3_3⟩] S_f3 x 4000 = (tt_f3  x).tree J_f3.enc := by kernel_rfl
theorem st_f3  : LabOK J_f3 S_f3 (.of tt_f3) :=
  lab_ok mixed_ok (labs_cons rfl ok_f3_6 (labs_cons rfl ok_f3_3 labs_nil)) 4000 (dn_f3 ) (sd_f3 )
noncomputable def D_f3 : Dyn X_f3 R_f3 := .of tt_f3
theorem ct_f3 (x : X_f3) (y : R_f3) (h : D_f3.rel x y) : OK Try.prog 3 [e_TApi_State x.1, e_TApi_State x.2] [] (V.bool y) [] :=
  contract (fn := Try.f3) (J := J_f3) (S := S_f3) (D := D_f3) (by kernel_rfl) (code := Try.f3.body.getD .skip) (by kernel_rfl) rfl st_f3 rfl (x := x) (y := y) h rfl rfl rfl rfl rfl (by kernel_rfl)
noncomputable def con_f3 : Con Try.prog where
  f := 3
  fn := Try.f3
  hf := by kernel_rfl
  hb := by kernel_rfl
  hn := by kernel_rfl
  X := X_f3
  Y := R_f3
  args := fun x => [e_TApi_State x.1, e_TApi_State x.2]
  objs := fun x => []
  res := fun y => V.bool y
  outs := fun y => []
  rel := D_f3.rel
  ev := D_f3.ev
  evOK := D_f3.evOK
  dec := fun l m => (d_TApi_State (at_ l 0), d_TApi_State (at_ l 1))
  ash := [sh_TApi_State, sh_TApi_State]
  osh := []
  ok := ct_f3

/-! rondeaulaw22.SnapReads -/
abbrev X_f4 : Type := ByteArray
abbrev R_f4 : Type := Bool
noncomputable def J_f4 : Job Try.prog where
  fn := Try.f4
  nt := 35
  pol := tabN 0 [(7, 1), (13, 1), (20, 1), (22, 1), (29, 1), (32, 1)]
  hint := tabN [] []
  finH := []
  rsh := [.any]
  psh := []
  tab := [con_f10, con_f11, con_f12, con_f5, con_f9]
  R := R_f4
  enc := fun y => [V.bool y]
noncomputable def S_f4 : LabS where
  id := 0
  K := [.code (Try.f4.body.getD .skip)]
  lay := entryLay 1 0
  X := X_f4
  enc := fun x => [V.str x]
  dec := fun l => (dS (at_ l 0))
structure X_f4_3 where
  b_0 : ByteArray
noncomputable def S_f4_3 : LabS where
  id := 3
  K := (kAt 3 (Try.f4.body.getD .skip) []).getD []
  lay := { live := [(0, .any)], pars := [], locs := [] }
  X := X_f4_3
  enc := fun x => [V.str x.b_0]
  dec := fun l => ⟨dS (at_ l 0)⟩
noncomputable def tt_f4_3 (x : X_f4_3) : TT Try.prog R_f4 :=
 (.call con_f12 x.b_0 fun (y1 : R_f12) =>
 (.ite (!(Go.Vm.ieq y1.snd (0 : Int)))
  (.ite (Go.Vm.ieq y1.snd (3 : Int))
   (.call con_f9 (y1.fst, (TApi_State.mk (Go.Vm.Sl.mk true (0 : Nat) (fun _i2 => (TApi_ThreadState.mk (0 : Int) (0 : Int) (0 : Int) (0 : Int) (0 : Int) (fun _i3 => (0 : Int)) (Go.Vm.Sl.mk true (0 : Nat) (fun _i3 => (0 : Int)))))) (Go.Vm.Sl.mk true (0 : Nat) (fun _i2 => (TApi_RingState.mk (0 : Int) (Go.Vm.Sl.mk true (0 : Nat) (fun _i3 => (0 : Int))) false (Go.Vm.Sl.mk true (0 : Nat) (fun _i3 => (TApi_Slot.mk (0 : Int) (0 : Int) (0 : Int))))))) (0 : Int) (0 : Int) false)) fun (y2 : R_f9) =>
   (.ret y2)
   )
   (.ret false)
  )
  (.call con_f10 y1.fst fun (y2 : R_f10) =>
  (.ite y2
   (.call con_f11 y1.fst fun (y3 : R_f11) =>
   (.ret (Go.Vm.seq y3 x.b_0))
   )
   (.ret false)
  )
  )
 )
 )
theorem sd_f4_3 (x : X_f4_3) : (tt_f4_3  x).Sides :=
  (TT.s_call fun _ => (TT.s_ite (TT.s_ite (TT.s_call fun _ => TT.s_ret) TT.s_ret) (TT.s_call fun _ => (TT.s_ite (TT.s_call fun _ => TT.s_ret) TT.s_ret))))

theorem dn_f4_3 (x : X_f4_3) : J_f4.den [] S_f4_3 x 4000 = (tt_f4_3  x).tree J_f4.enc := by kernel_rfl
theorem st_f4_3  : LabOK J_f4 S_f4_3 (.of tt_f4_3) :=
  lab_ok mixed_ok labs_nil 4000 (dn_f4_3 ) (sd_f4_3 )
noncomputable def D_f4_3 : Dyn X_f4_3 R_f4 := .of (tt_f4_3 )
theorem ok_f4_3  : LabOK J_f4 S_f4_3 (D_f4_3 ) :=
  st_f4_3  
noncomputable def tt_f4 (x : X_f4) : TT Try.prog R_f4 :=
 (.call con_f5 PUnit.unit fun (y1 : R_f5) =>
 (.ite (!y1)
  (.call con_f5 PUnit.unit fun (y2 : R_f5) =>
  (.ret y2)
  )
  (.ite (Go.Vm.ilt (3000 : Int) (((ByteArray.size x) : Nat) : Int))
   (.call con_f5 PUnit.unit fun (y2 : R_f5) =>
   (.ret y2)
   )
   (.jump S_f4_3 D_f4_3 (X_f4_3.mk x))
  )
 )
 )
theorem sd_f4 (x : X_f4) : (tt_f4  x).Sides :=
  (TT.s_call fun _ => (TT.s_ite (TT.s_call fun _ => TT.s_ret) (TT.s_ite (TT.s_call fun _ => TT.s_ret) TT.s_jump)))

theorem dn_f4 (x : X_f4) : J_f4.den [⟨S_f4_3, D_f4_3⟩] S_f4 x 4000 = (tt_f4  x).tree J_f4.enc := by kernel_rfl
theorem st_f4  : LabOK J_f4 S_f4 (.of tt_f4) :=
  lab_ok mixed_ok (labs_cons rfl ok_f4_3 labs_nil) 4000 (dn_f4 ) (sd_f4 )
noncomputable def D_f4 : Dyn X_f4 R_f4 := .of tt_f4
theorem ct_f4 (x : X_f4) (y : R_f4) (h : D_f4.rel x y) : OK Try.prog 4 [V.str x] [] (V.bool y) [] :=
  contract (fn := Try.f4) (J := J_f4) (S := S_f4) (D := D_f4) (by kernel_rfl) (code := Try.f4.body.getD .skip) (by kernel_rfl) rfl st_f4 rfl (x := x) (y := y) h rfl rfl rfl rfl rfl (by kernel_rfl)
noncomputable def con_f4 : Con Try.prog where
  f := 4
  fn := Try.f4
  hf := by kernel_rfl
  hb := by kernel_rfl
  hn := by kernel_rfl
  X := X_f4
  Y := R_f4
  args := fun x => [V.str x]
  objs := fun x => []
  res := fun y => V.bool y
  outs := fun y => []
  rel := D_f4.rel
  ev := D_f4.ev
  evOK := D_f4.evOK
  dec := fun l m => (dS (at_ l 0))
  ash := [.any]
  osh := []
  ok := ct_f4
end Go.Proofs.Ytiplcdhnjennfaa
