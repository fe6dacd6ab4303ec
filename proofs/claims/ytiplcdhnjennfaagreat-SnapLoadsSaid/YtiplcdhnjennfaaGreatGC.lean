/- What functions of the program come to, part C: no statement is proved here. -/
import Derived.Test.YtiplcdhnjennfaaGreatGB
namespace Go.Proofs.YtiplcdhnjennfaaGreat
open Go Go.Vm Go.Proofs
set_option maxRecDepth 100000
/-! slices.Clone[[]api.ThreadState,api.ThreadState] (slices_Clone_api_ThreadState_o0_w0) -/
abbrev X_slices_Clone_api_ThreadState_o0_w0 : Type := (Ar TApi_ThreadState)
abbrev R_slices_Clone_api_ThreadState_o0_w0 : Type := (Sl TApi_ThreadState)
abbrev RR_slices_Clone_api_ThreadState_o0_w0 : Type := (Sl TApi_ThreadState) × (Ar TApi_ThreadState)
abbrev p_slices_Clone_api_ThreadState_o0_w0 (y : RR_slices_Clone_api_ThreadState_o0_w0) : (Ar TApi_ThreadState) := y.2
abbrev w_slices_Clone_api_ThreadState_o0_w0 (x : X_slices_Clone_api_ThreadState_o0_w0) : (Ar TApi_ThreadState) := x
noncomputable def J_slices_Clone_api_ThreadState_o0_w0 : Job Tryz.prog :=
  job Tryz.prog Tryz.f52 8 [(5, 1), (6, 1)] [] [] [.shut 2] [hosl_TApi_ThreadState] [.any] [] RR_slices_Clone_api_ThreadState_o0_w0 [] fun y => [eosl_TApi_ThreadState y.1, (eAr 14 e_TApi_ThreadState) y.2]
noncomputable def S_slices_Clone_api_ThreadState_o0_w0 : LabS :=
  lab0 Tryz.f52 1 1 X_slices_Clone_api_ThreadState_o0_w0 (fun x => [(V.own (.par 0) [] 14 x.n 0 x.n), (eAr 14 e_TApi_ThreadState) x]) fun l => ((dAr d_TApi_ThreadState) (at_ l 1))
noncomputable def tt_slices_Clone_api_ThreadState_o0_w0 (x : X_slices_Clone_api_ThreadState_o0_w0) : TT Tryz.prog RR_slices_Clone_api_ThreadState_o0_w0 :=
 (.need (Nat.blt 0 x.n) <|
 (.need ((true && (Nat.beq x.n x.n)) && (room ((0 : Nat) + x.n) 128)) <|
 (.side (∀ i1 : Nat, ((i1 < x.n) → ((true && (true && (true && (true && (true && ((true && (true && (true && (true && (true && (true && (true && (true && true)))))))) && (true && true))))))) = true))) <|
 (.ret ((Sl.mk (cond (Nat.beq x.n 0) false false) ((0 : Nat) + x.n) (fun i1 => (TApi_ThreadState.mk (cond (Nat.blt i1 0) (0 : Int) (x.get ((0 : Nat) + (i1 - 0))).At) (cond (Nat.blt i1 0) (0 : Int) (x.get ((0 : Nat) + (i1 - 0))).Phase) (cond (Nat.blt i1 0) (0 : Int) (x.get ((0 : Nat) + (i1 - 0))).Ring) (cond (Nat.blt i1 0) (0 : Int) (x.get ((0 : Nat) + (i1 - 0))).Status) (cond (Nat.blt i1 0) (0 : Int) (x.get ((0 : Nat) + (i1 - 0))).Ticket) (fun i2 => (cond (Nat.blt i1 0) (0 : Int) ((x.get ((0 : Nat) + (i1 - 0))).Regs i2))) (Sl.mk (cond (Nat.blt i1 0) true (x.get ((0 : Nat) + (i1 - 0))).Seen.nil) (cond (Nat.blt i1 0) (0 : Nat) (x.get ((0 : Nat) + (i1 - 0))).Seen.n) (fun i2 => (cond (Nat.blt i1 0) (0 : Int) ((x.get ((0 : Nat) + (i1 - 0))).Seen.get i2))))))), x))
 )
 )
 )
theorem sd_slices_Clone_api_ThreadState_o0_w0 (x : X_slices_Clone_api_ThreadState_o0_w0) : (tt_slices_Clone_api_ThreadState_o0_w0 x).Sides :=
  (TT.s_need (TT.s_need (TT.s_side (fun _ _ => rfl) TT.s_ret)))
theorem roT_slices_Clone_api_ThreadState_o0_w0 (x : X_slices_Clone_api_ThreadState_o0_w0) : TT.Ro p_slices_Clone_api_ThreadState_o0_w0 (w_slices_Clone_api_ThreadState_o0_w0 x) (tt_slices_Clone_api_ThreadState_o0_w0 x) :=
  (TT.ro_need (TT.ro_need (TT.ro_side (TT.ro_ret rfl))))

noncomputable def D_slices_Clone_api_ThreadState_o0_w0 : Dyn X_slices_Clone_api_ThreadState_o0_w0 R_slices_Clone_api_ThreadState_o0_w0 := .ro (.of tt_slices_Clone_api_ThreadState_o0_w0) (fun y => (y.1)) (fun y x => (y, x)) fun x y h => congrArg (fun o => (y.1, o)) (roT_slices_Clone_api_ThreadState_o0_w0 x y h)
noncomputable def con_slices_Clone_api_ThreadState_o0_w0 : Con Tryz.prog :=
  mkConP 52 J_slices_Clone_api_ThreadState_o0_w0 S_slices_Clone_api_ThreadState_o0_w0 (.of tt_slices_Clone_api_ThreadState_o0_w0) D_slices_Clone_api_ThreadState_o0_w0 (fun y x => (y, x)) (fun _ _ h => h) (fun y => eosl_TApi_ThreadState y) 1 1 [.any] (by kernel_rfl) (by kernel_rfl) (by kernel_rfl) (lab_ok mixed_ok labs_nil 4000 (fun x => by kernel_rfl) sd_slices_Clone_api_ThreadState_o0_w0) rfl rfl (fun _ => rfl) (by kernel_rfl) rfl (fun _ _ => rfl) (fun _ => rfl) (fun x => ⟨(fun _ _ => (nu_e_TApi_ThreadState) _ : ∀ y, ((eAr 14 e_TApi_ThreadState) y).NoU) (x), trivial⟩)

def e_TApi_State_o0_1 (x : TApi_State) : V :=
  V.cons (eosl_TApi_ThreadState x.Threads) (V.cons (eslA_TApi_RingState x.Rings) (V.cons ((V.int .u64) x.Now) (V.cons ((V.int .u64) x.Reads) (V.cons (V.bool x.Ended) (V.unit)))))

theorem nu_e_TApi_State_o0_1 (x : TApi_State) : (e_TApi_State_o0_1 x).NoU := ⟨(fun _ _ => (nu_e_TApi_ThreadState) _ : ∀ y, (eosl_TApi_ThreadState y).NoU) x.Threads, trivial, trivial, trivial, trivial, trivial⟩

def sh_TApi_State_o0_1 : Sh := (.cons hosl_TApi_ThreadState (.cons hslA_TApi_RingState .any))

def e_TApi_State_1 (x : TApi_State) : V :=
  V.cons (esl_TApi_ThreadState x.Threads) (V.cons (eslA_TApi_RingState x.Rings) (V.cons ((V.int .u64) x.Now) (V.cons ((V.int .u64) x.Reads) (V.cons (V.bool x.Ended) (V.unit)))))

theorem nu_e_TApi_State_1 (x : TApi_State) : (e_TApi_State_1 x).NoU := ⟨trivial, trivial, trivial, trivial, trivial, trivial⟩

def sh_TApi_State_1 : Sh := (.cons hsl_TApi_ThreadState (.cons hslA_TApi_RingState .any))

/-! (*fabric.Fabric).State (fabric_Fabric_State) -/
abbrev X_fabric_Fabric_State : Type := TFabric_Fabric
abbrev R_fabric_Fabric_State : Type := TApi_State
abbrev RR_fabric_Fabric_State : Type := TApi_State × TFabric_Fabric
abbrev p_fabric_Fabric_State (y : RR_fabric_Fabric_State) : TFabric_Fabric := y.2
abbrev w_fabric_Fabric_State (x : X_fabric_Fabric_State) : TFabric_Fabric := x
noncomputable def J_fabric_Fabric_State : Job Tryz.prog :=
  job Tryz.prog Tryz.f17 64 [(56, 1)] [(4, [.back (.loc 12 0)]), (5, [.back (.loc 37 0), .back (.loc 34 0), .back (.loc 28 0), .back (.loc 12 0)]), (6, [.back (.loc 37 0), .back (.loc 34 0), .back (.loc 28 0), .back (.loc 12 0)]), (7, [.back (.loc 37 0), .back (.loc 34 0), .back (.loc 28 0), .back (.loc 12 0)]), (8, [.back (.loc 37 0), .back (.loc 34 0), .back (.loc 28 0), .back (.loc 12 0)]), (9, [.back (.loc 37 0), .back (.loc 34 0), .back (.loc 28 0), .back (.loc 12 0), .frz (.loc 2 0) [.fld 0 0]]), (10, [.back (.loc 54 0), .back (.loc 37 0), .back (.loc 34 0), .back (.loc 28 0), .back (.loc 12 0)]), (11, [.back (.loc 54 0), .back (.loc 37 0), .back (.loc 34 0), .back (.loc 28 0), .back (.loc 12 0)]), (12, [.back (.loc 37 0), .back (.loc 34 0), .back (.loc 28 0), .back (.loc 12 0)]), (13, [.back (.loc 54 0), .back (.loc 37 0), .back (.loc 34 0), .back (.loc 28 0), .back (.loc 12 0)]), (14, [.back (.loc 54 0), .back (.loc 49 0), .back (.loc 37 0), .back (.loc 34 0), .back (.loc 28 0), .back (.loc 12 0)])] [(3, [.opn (.par 0) [.fld 1 2] 12]), (7, [.opn (.loc 2 0) [.fld 0 0] 34, .opn (.loc 2 0) [.fld 0 0] 37])] [.back (.loc 54 0), .back (.loc 49 0), .back (.loc 37 0), .back (.loc 34 0), .back (.loc 28 0), .back (.loc 12 0)] [sh_TApi_State] [sh_TFabric_Fabric] [con_ring_Ring_State, con_slices_Clone_api_ThreadState_o0_w0, con_slices_Clone_uint64] RR_fabric_Fabric_State [(0, [⟨.loc 12 0, .par 0, [.fld 1 2], none, none⟩, ⟨.loc 34 0, .loc 2 0, [.fld 0 0], none, none⟩, ⟨.loc 37 0, .loc 2 0, [.fld 0 0], none, none⟩]), (5, [⟨.loc 12 0, .par 0, [.fld 1 2], none, none⟩, ⟨.loc 34 0, .loc 2 0, [.fld 0 0], none, none⟩, ⟨.loc 37 0, .loc 2 0, [.fld 0 0], none, none⟩]), (9, [⟨.loc 12 0, .par 0, [.fld 1 2], none, none⟩, ⟨.loc 34 0, .loc 2 0, [.fld 0 0], none, none⟩, ⟨.loc 37 0, .loc 2 0, [.fld 0 0], none, none⟩]), (10, [⟨.loc 49 0, .par 0, [.fld 2 3], none, none⟩, ⟨.loc 12 0, .par 0, [.fld 1 2], none, none⟩, ⟨.loc 34 0, .loc 2 0, [.fld 0 0], none, none⟩, ⟨.loc 37 0, .loc 2 0, [.fld 0 0], none, none⟩])] fun y => [e_TApi_State y.1, e_TFabric_Fabric y.2]
noncomputable def S_fabric_Fabric_State : LabS :=
  lab0 Tryz.f17 1 1 X_fabric_Fabric_State (fun x => [(V.ptr (.par 0) []), e_TFabric_Fabric x]) fun l => (d_TFabric_Fabric (at_ l 1))
structure X_fabric_Fabric_State_5 where
  q_29 : Int
  q_30 : Int
  o_0 : TFabric_Fabric
  m_2 : TApi_State
noncomputable def S_fabric_Fabric_State_5 : LabS :=
  labAt Tryz.f17 5 [(0, .any), (2, .any), (29, .any), (30, .any)] [sh_TFabric_Fabric] [(.loc 2 0, sh_TApi_State_o0_1)] X_fabric_Fabric_State_5 (fun x => [(V.ptr (.par 0) []), (V.ptr (.loc 2 0) []), (V.int .i64) x.q_29, (V.int .i64) x.q_30, e_TFabric_Fabric x.o_0, e_TApi_State_o0_1 x.m_2]) fun l => ⟨dI (at_ l 2), dI (at_ l 3), d_TFabric_Fabric (at_ l 4), d_TApi_State (at_ l 5)⟩
structure X_fabric_Fabric_State_9 where
  o_0 : TFabric_Fabric
  m_2 : TApi_State
noncomputable def S_fabric_Fabric_State_9 : LabS :=
  labAt Tryz.f17 9 [(0, .any), (2, .any)] [sh_TFabric_Fabric] [(.loc 2 0, sh_TApi_State_1)] X_fabric_Fabric_State_9 (fun x => [(V.ptr (.par 0) []), (V.ptr (.loc 2 0) []), e_TFabric_Fabric x.o_0, e_TApi_State_1 x.m_2]) fun l => ⟨d_TFabric_Fabric (at_ l 2), d_TApi_State (at_ l 3)⟩
structure X_fabric_Fabric_State_10 where
  q_50 : Int
  q_51 : Int
  o_0 : TFabric_Fabric
  m_2 : TApi_State
noncomputable def S_fabric_Fabric_State_10 : LabS :=
  labAt Tryz.f17 10 [(2, .any), (49, .any), (50, .any), (51, .any)] [sh_TFabric_Fabric] [(.loc 2 0, sh_TApi_State_1), (.loc 49 0, .any)] X_fabric_Fabric_State_10 (fun x => [(V.ptr (.loc 2 0) []), (V.own (.loc 49 0) [] 1 x.o_0.rings.n 0 x.o_0.rings.n), (V.int .i64) x.q_50, (V.int .i64) x.q_51, V.cons (e_TApi_Program x.o_0.p) (V.cons (eosl_TApi_ThreadState x.o_0.threads) (V.cons (V.lent (.loc 49 0) 69 1 x.o_0.rings.nil x.o_0.rings.n) (V.cons ((V.int .u64) x.o_0.now) (V.cons ((V.int .u64) x.o_0.reads) (V.cons (V.bool x.o_0.ended) (V.unit)))))), e_TApi_State_1 x.m_2, (V.arr 1 x.o_0.rings.n fun i => ebox_TRing_Ring (x.o_0.rings.get i))]) fun l => ⟨dI (at_ l 2), dI (at_ l 3), { d_TFabric_Fabric (at_ l 4) with rings := ⟨(dLn (fd (at_ l 4) 2)).nil, (dLn (fd (at_ l 4) 2)).n, (dAr dbox_TRing_Ring (at_ l 6)).get⟩ }, d_TApi_State (at_ l 5)⟩
abbrev w_fabric_Fabric_State_5 (x : X_fabric_Fabric_State_5) : TFabric_Fabric := (x.o_0)
abbrev w_fabric_Fabric_State_9 (x : X_fabric_Fabric_State_9) : TFabric_Fabric := (x.o_0)
abbrev w_fabric_Fabric_State_10 (x : X_fabric_Fabric_State_10) : TFabric_Fabric := (x.o_0)
noncomputable def tt_fabric_Fabric_State_10 (D_fabric_Fabric_State_10 : Dyn X_fabric_Fabric_State_10 RR_fabric_Fabric_State) (x : X_fabric_Fabric_State_10) : TT Tryz.prog RR_fabric_Fabric_State :=
 (.ite (ilt x.q_51 x.q_50)
  (.need (inb x.q_51 x.o_0.rings.n) <|
  (.need (((Nat.beq x.o_0.rings.n x.o_0.rings.n) && true) && (!(x.o_0.rings.get ((0 : Nat) + (Int.toNat x.q_51))).nil)) <|
  (.call con_ring_Ring_State (x.o_0.rings.get ((0 : Nat) + (Int.toNat x.q_51))).x fun (y2 : R_ring_Ring_State) =>
  (.need (true && (room (x.m_2.Rings.n + 1) 64)) <|
  (.need ((true && true) && (((Nat.beq x.o_0.rings.n x.o_0.rings.n) && (Nat.blt ((0 : Nat) + (Int.toNat x.q_51)) x.o_0.rings.n)) && (!(x.o_0.rings.get ((0 : Nat) + (Int.toNat x.q_51))).nil))) <|
  (.side (((fun i3 => (cond (Nat.beq i3 ((0 : Nat) + (Int.toNat x.q_51))) (V.ptr (Id.loc 54 0) List.nil) (V.obox (x.o_0.rings.get i3).nil (V.cons (V.cons (V.int IntKind.u64 (x.o_0.rings.get i3).x.cursors.tail) (V.cons (V.osl 35 1 (x.o_0.rings.get i3).x.cursors.heads.nil (x.o_0.rings.get i3).x.cursors.heads.n (fun i4 => (V.int IntKind.u64 ((x.o_0.rings.get i3).x.cursors.heads.get i4)))) V.unit)) (V.cons (V.obox (x.o_0.rings.get i3).x.s.nil (V.cons (V.osl 150 3 (x.o_0.rings.get i3).x.s.x.l.nil (x.o_0.rings.get i3).x.s.x.l.n (fun i4 => (V.cons (V.int IntKind.u64 ((x.o_0.rings.get i3).x.s.x.l.get i4).Stamp) (V.cons (V.int IntKind.u64 ((x.o_0.rings.get i3).x.s.x.l.get i4).Value) (V.cons (V.int IntKind.i64 ((x.o_0.rings.get i3).x.s.x.l.get i4).Left) V.unit))))) (V.cons (V.int IntKind.i64 (x.o_0.rings.get i3).x.s.x.readers) V.unit))) (V.cons (V.int IntKind.u64 (x.o_0.rings.get i3).x.most) (V.cons (V.bool (x.o_0.rings.get i3).x.closed) V.unit))))))) = (fun i3 => (cond (Nat.beq i3 ((0 : Nat) + (Int.toNat x.q_51))) (V.ptr (Id.loc 54 0) List.nil) (V.obox (x.o_0.rings.get i3).nil (V.cons (V.cons (V.int IntKind.u64 (x.o_0.rings.get i3).x.cursors.tail) (V.cons (V.osl 35 1 (x.o_0.rings.get i3).x.cursors.heads.nil (x.o_0.rings.get i3).x.cursors.heads.n (fun i4 => (V.int IntKind.u64 ((x.o_0.rings.get i3).x.cursors.heads.get i4)))) V.unit)) (V.cons (V.obox (x.o_0.rings.get i3).x.s.nil (V.cons (V.osl 150 3 (x.o_0.rings.get i3).x.s.x.l.nil (x.o_0.rings.get i3).x.s.x.l.n (fun i4 => (V.cons (V.int IntKind.u64 ((x.o_0.rings.get i3).x.s.x.l.get i4).Stamp) (V.cons (V.int IntKind.u64 ((x.o_0.rings.get i3).x.s.x.l.get i4).Value) (V.cons (V.int IntKind.i64 ((x.o_0.rings.get i3).x.s.x.l.get i4).Left) V.unit))))) (V.cons (V.int IntKind.i64 (x.o_0.rings.get i3).x.s.x.readers) V.unit))) (V.cons (V.int IntKind.u64 (x.o_0.rings.get i3).x.most) (V.cons (V.bool (x.o_0.rings.get i3).x.closed) V.unit)))))))) ∧ (((fun v : V => v = v) (V.cons (V.cons (V.int IntKind.u64 (x.o_0.rings.get ((0 : Nat) + (Int.toNat x.q_51))).x.cursors.tail) (V.cons (V.osl 35 1 (x.o_0.rings.get ((0 : Nat) + (Int.toNat x.q_51))).x.cursors.heads.nil (x.o_0.rings.get ((0 : Nat) + (Int.toNat x.q_51))).x.cursors.heads.n (fun i3 => (V.int IntKind.u64 ((x.o_0.rings.get ((0 : Nat) + (Int.toNat x.q_51))).x.cursors.heads.get i3)))) V.unit)) (V.cons (V.obox (x.o_0.rings.get ((0 : Nat) + (Int.toNat x.q_51))).x.s.nil (V.cons (V.osl 150 3 (x.o_0.rings.get ((0 : Nat) + (Int.toNat x.q_51))).x.s.x.l.nil (x.o_0.rings.get ((0 : Nat) + (Int.toNat x.q_51))).x.s.x.l.n (fun i3 => (V.cons (V.int IntKind.u64 ((x.o_0.rings.get ((0 : Nat) + (Int.toNat x.q_51))).x.s.x.l.get i3).Stamp) (V.cons (V.int IntKind.u64 ((x.o_0.rings.get ((0 : Nat) + (Int.toNat x.q_51))).x.s.x.l.get i3).Value) (V.cons (V.int IntKind.i64 ((x.o_0.rings.get ((0 : Nat) + (Int.toNat x.q_51))).x.s.x.l.get i3).Left) V.unit))))) (V.cons (V.int IntKind.i64 (x.o_0.rings.get ((0 : Nat) + (Int.toNat x.q_51))).x.s.x.readers) V.unit))) (V.cons (V.int IntKind.u64 (x.o_0.rings.get ((0 : Nat) + (Int.toNat x.q_51))).x.most) (V.cons (V.bool (x.o_0.rings.get ((0 : Nat) + (Int.toNat x.q_51))).x.closed) V.unit))))) ∧ ((fun v : V => v = v) (V.obox (x.o_0.rings.get ((0 : Nat) + (Int.toNat x.q_51))).nil (V.cons (V.cons (V.int IntKind.u64 (x.o_0.rings.get ((0 : Nat) + (Int.toNat x.q_51))).x.cursors.tail) (V.cons (V.osl 35 1 (x.o_0.rings.get ((0 : Nat) + (Int.toNat x.q_51))).x.cursors.heads.nil (x.o_0.rings.get ((0 : Nat) + (Int.toNat x.q_51))).x.cursors.heads.n (fun i3 => (V.int IntKind.u64 ((x.o_0.rings.get ((0 : Nat) + (Int.toNat x.q_51))).x.cursors.heads.get i3)))) V.unit)) (V.cons (V.obox (x.o_0.rings.get ((0 : Nat) + (Int.toNat x.q_51))).x.s.nil (V.cons (V.osl 150 3 (x.o_0.rings.get ((0 : Nat) + (Int.toNat x.q_51))).x.s.x.l.nil (x.o_0.rings.get ((0 : Nat) + (Int.toNat x.q_51))).x.s.x.l.n (fun i3 => (V.cons (V.int IntKind.u64 ((x.o_0.rings.get ((0 : Nat) + (Int.toNat x.q_51))).x.s.x.l.get i3).Stamp) (V.cons (V.int IntKind.u64 ((x.o_0.rings.get ((0 : Nat) + (Int.toNat x.q_51))).x.s.x.l.get i3).Value) (V.cons (V.int IntKind.i64 ((x.o_0.rings.get ((0 : Nat) + (Int.toNat x.q_51))).x.s.x.l.get i3).Left) V.unit))))) (V.cons (V.int IntKind.i64 (x.o_0.rings.get ((0 : Nat) + (Int.toNat x.q_51))).x.s.x.readers) V.unit))) (V.cons (V.int IntKind.u64 (x.o_0.rings.get ((0 : Nat) + (Int.toNat x.q_51))).x.most) (V.cons (V.bool (x.o_0.rings.get ((0 : Nat) + (Int.toNat x.q_51))).x.closed) V.unit)))))))) <|
  (.jump S_fabric_Fabric_State_10 D_fabric_Fabric_State_10 (X_fabric_Fabric_State_10.mk x.q_50 (IntKind.i64.wrap (x.q_51 + 1)) (TFabric_Fabric.mk x.o_0.p x.o_0.threads x.o_0.rings x.o_0.now x.o_0.reads x.o_0.ended) (TApi_State.mk x.m_2.Threads (Sl.mk (cond (Nat.beq 1 0) x.m_2.Rings.nil false) (x.m_2.Rings.n + 1) (fun i3 => (TApi_RingState.mk (cond (Nat.blt i3 x.m_2.Rings.n) (x.m_2.Rings.get i3).Tail y2.Tail) (Sl.mk (cond (Nat.blt i3 x.m_2.Rings.n) (x.m_2.Rings.get i3).Heads.nil y2.Heads.nil) (cond (Nat.blt i3 x.m_2.Rings.n) (x.m_2.Rings.get i3).Heads.n y2.Heads.n) (fun i4 => (cond (Nat.blt i3 x.m_2.Rings.n) ((x.m_2.Rings.get i3).Heads.get i4) (y2.Heads.get i4)))) (cond (Nat.blt i3 x.m_2.Rings.n) (x.m_2.Rings.get i3).Closed y2.Closed) (Sl.mk (cond (Nat.blt i3 x.m_2.Rings.n) (x.m_2.Rings.get i3).Slots.nil y2.Slots.nil) (cond (Nat.blt i3 x.m_2.Rings.n) (x.m_2.Rings.get i3).Slots.n y2.Slots.n) (fun i4 => (TApi_Slot.mk (cond (Nat.blt i3 x.m_2.Rings.n) ((x.m_2.Rings.get i3).Slots.get i4).Stamp (y2.Slots.get i4).Stamp) (cond (Nat.blt i3 x.m_2.Rings.n) ((x.m_2.Rings.get i3).Slots.get i4).Value (y2.Slots.get i4).Value) (cond (Nat.blt i3 x.m_2.Rings.n) ((x.m_2.Rings.get i3).Slots.get i4).Left (y2.Slots.get i4).Left))))))) x.m_2.Now x.m_2.Reads x.m_2.Ended)))
  )
  )
  )
  )
  )
  )
  (.need ((true && true) && (Nat.beq x.o_0.rings.n x.o_0.rings.n)) <|
  (.ret (x.m_2, (TFabric_Fabric.mk x.o_0.p x.o_0.threads x.o_0.rings x.o_0.now x.o_0.reads x.o_0.ended)))
  )
 )
theorem sd_fabric_Fabric_State_10 (D_fabric_Fabric_State_10 : Dyn X_fabric_Fabric_State_10 RR_fabric_Fabric_State) (x : X_fabric_Fabric_State_10) : (tt_fabric_Fabric_State_10 D_fabric_Fabric_State_10 x).Sides :=
  (TT.s_ite (TT.s_need (TT.s_need (TT.s_call fun _ => (TT.s_need (TT.s_need (TT.s_side ⟨rfl, ⟨rfl, rfl⟩⟩ TT.s_jump)))))) (TT.s_need TT.s_ret))
theorem roT_fabric_Fabric_State_10 (D_fabric_Fabric_State_10 : Dyn X_fabric_Fabric_State_10 RR_fabric_Fabric_State) (r_fabric_Fabric_State_10 : ∀ x y, D_fabric_Fabric_State_10.rel x y → p_fabric_Fabric_State y = w_fabric_Fabric_State_10 x) (x : X_fabric_Fabric_State_10) : TT.Ro p_fabric_Fabric_State (w_fabric_Fabric_State_10 x) (tt_fabric_Fabric_State_10 D_fabric_Fabric_State_10 x) :=
  (TT.ro_ite (TT.ro_need (TT.ro_need (TT.ro_call fun _ => (TT.ro_need (TT.ro_need (TT.ro_side (TT.ro_jump (r_fabric_Fabric_State_10 _)))))))) (TT.ro_need (TT.ro_ret rfl)))

noncomputable def D_fabric_Fabric_State_10 : Dyn X_fabric_Fabric_State_10 RR_fabric_Fabric_State := Dyn.loop tt_fabric_Fabric_State_10
theorem ok_fabric_Fabric_State_10 : LabOK J_fabric_Fabric_State S_fabric_Fabric_State_10 D_fabric_Fabric_State_10 :=
  loop_ok fun D_fabric_Fabric_State_10 h_10 => lab_ok mixed_ok (labs_cons2 h_10 rfl labs_nil) 4000 (fun x => by kernel_rfl) (sd_fabric_Fabric_State_10 D_fabric_Fabric_State_10)
theorem ro_fabric_Fabric_State_10 : ∀ x y, D_fabric_Fabric_State_10.rel x y → p_fabric_Fabric_State y = w_fabric_Fabric_State_10 x :=
  loop_ro fun D_fabric_Fabric_State_10 r_fabric_Fabric_State_10 => roT_fabric_Fabric_State_10 D_fabric_Fabric_State_10 r_fabric_Fabric_State_10
noncomputable def tt_fabric_Fabric_State_9 (x : X_fabric_Fabric_State_9) : TT Tryz.prog RR_fabric_Fabric_State :=
 (.jump S_fabric_Fabric_State_10 D_fabric_Fabric_State_10 (X_fabric_Fabric_State_10.mk ((x.o_0.rings.n : Nat) : Int) 0 (TFabric_Fabric.mk x.o_0.p x.o_0.threads x.o_0.rings x.o_0.now x.o_0.reads x.o_0.ended) x.m_2))
theorem sd_fabric_Fabric_State_9 (x : X_fabric_Fabric_State_9) : (tt_fabric_Fabric_State_9 x).Sides :=
  TT.s_jump
theorem roT_fabric_Fabric_State_9 (x : X_fabric_Fabric_State_9) : TT.Ro p_fabric_Fabric_State (w_fabric_Fabric_State_9 x) (tt_fabric_Fabric_State_9 x) :=
  (TT.ro_jump (ro_fabric_Fabric_State_10 _))

noncomputable def D_fabric_Fabric_State_9 : Dyn X_fabric_Fabric_State_9 RR_fabric_Fabric_State := .of tt_fabric_Fabric_State_9
theorem ok_fabric_Fabric_State_9 : LabOK J_fabric_Fabric_State S_fabric_Fabric_State_9 D_fabric_Fabric_State_9 :=
  lab_ok mixed_ok (labs_cons2 ok_fabric_Fabric_State_10 rfl labs_nil) 4000 (fun x => by kernel_rfl) sd_fabric_Fabric_State_9
theorem ro_fabric_Fabric_State_9 : ∀ x y, D_fabric_Fabric_State_9.rel x y → p_fabric_Fabric_State y = w_fabric_Fabric_State_9 x :=
  roT_fabric_Fabric_State_9 
noncomputable def tt_fabric_Fabric_State_5 (D_fabric_Fabric_State_5 : Dyn X_fabric_Fabric_State_5 RR_fabric_Fabric_State) (x : X_fabric_Fabric_State_5) : TT Tryz.prog RR_fabric_Fabric_State :=
 (.ite (ilt x.q_30 x.q_29)
  (.need (inb x.q_30 x.m_2.Threads.n) <|
  (.need ((Nat.beq x.m_2.Threads.n x.m_2.Threads.n) && true) <|
  (.call con_slices_Clone_uint64 (x.m_2.Threads.get ((0 : Nat) + (Int.toNat x.q_30))).Seen fun (y2 : R_slices_Clone_uint64) =>
  (.need (inb x.q_30 x.m_2.Threads.n) <|
  (.need ((Nat.beq x.m_2.Threads.n x.m_2.Threads.n) && true) <|
  (.need ((true && true) && (Nat.beq x.m_2.Threads.n x.m_2.Threads.n)) <|
  (.jump S_fabric_Fabric_State_5 D_fabric_Fabric_State_5 (X_fabric_Fabric_State_5.mk x.q_29 (IntKind.i64.wrap (x.q_30 + 1)) (TFabric_Fabric.mk x.o_0.p x.o_0.threads x.o_0.rings x.o_0.now x.o_0.reads x.o_0.ended) (TApi_State.mk (Sl.mk x.m_2.Threads.nil x.m_2.Threads.n (fun i3 => (TApi_ThreadState.mk (cond (Nat.beq i3 ((0 : Nat) + (Int.toNat x.q_30))) (x.m_2.Threads.get ((0 : Nat) + (Int.toNat x.q_30))).At (x.m_2.Threads.get i3).At) (cond (Nat.beq i3 ((0 : Nat) + (Int.toNat x.q_30))) (x.m_2.Threads.get ((0 : Nat) + (Int.toNat x.q_30))).Phase (x.m_2.Threads.get i3).Phase) (cond (Nat.beq i3 ((0 : Nat) + (Int.toNat x.q_30))) (x.m_2.Threads.get ((0 : Nat) + (Int.toNat x.q_30))).Ring (x.m_2.Threads.get i3).Ring) (cond (Nat.beq i3 ((0 : Nat) + (Int.toNat x.q_30))) (x.m_2.Threads.get ((0 : Nat) + (Int.toNat x.q_30))).Status (x.m_2.Threads.get i3).Status) (cond (Nat.beq i3 ((0 : Nat) + (Int.toNat x.q_30))) (x.m_2.Threads.get ((0 : Nat) + (Int.toNat x.q_30))).Ticket (x.m_2.Threads.get i3).Ticket) (fun i4 => (cond (Nat.beq i3 ((0 : Nat) + (Int.toNat x.q_30))) ((x.m_2.Threads.get ((0 : Nat) + (Int.toNat x.q_30))).Regs i4) ((x.m_2.Threads.get i3).Regs i4))) (Sl.mk (cond (Nat.beq i3 ((0 : Nat) + (Int.toNat x.q_30))) y2.nil (x.m_2.Threads.get i3).Seen.nil) (cond (Nat.beq i3 ((0 : Nat) + (Int.toNat x.q_30))) y2.n (x.m_2.Threads.get i3).Seen.n) (fun i4 => (cond (Nat.beq i3 ((0 : Nat) + (Int.toNat x.q_30))) (y2.get i4) ((x.m_2.Threads.get i3).Seen.get i4))))))) x.m_2.Rings x.m_2.Now x.m_2.Reads x.m_2.Ended)))
  )
  )
  )
  )
  )
  )
  (.side (∀ i2 : Nat, ((i2 < x.m_2.Threads.n) → ((true && (true && (true && (true && (true && ((true && (true && (true && (true && (true && (true && (true && (true && true)))))))) && (true && true))))))) = true))) <|
  (.jump S_fabric_Fabric_State_9 D_fabric_Fabric_State_9 (X_fabric_Fabric_State_9.mk (TFabric_Fabric.mk x.o_0.p x.o_0.threads x.o_0.rings x.o_0.now x.o_0.reads x.o_0.ended) x.m_2))
  )
 )
theorem sd_fabric_Fabric_State_5 (D_fabric_Fabric_State_5 : Dyn X_fabric_Fabric_State_5 RR_fabric_Fabric_State) (x : X_fabric_Fabric_State_5) : (tt_fabric_Fabric_State_5 D_fabric_Fabric_State_5 x).Sides :=
  (TT.s_ite (TT.s_need (TT.s_need (TT.s_call fun _ => (TT.s_need (TT.s_need (TT.s_need TT.s_jump)))))) (TT.s_side (fun _ _ => rfl) TT.s_jump))
theorem roT_fabric_Fabric_State_5 (D_fabric_Fabric_State_5 : Dyn X_fabric_Fabric_State_5 RR_fabric_Fabric_State) (r_fabric_Fabric_State_5 : ∀ x y, D_fabric_Fabric_State_5.rel x y → p_fabric_Fabric_State y = w_fabric_Fabric_State_5 x) (x : X_fabric_Fabric_State_5) : TT.Ro p_fabric_Fabric_State (w_fabric_Fabric_State_5 x) (tt_fabric_Fabric_State_5 D_fabric_Fabric_State_5 x) :=
  (TT.ro_ite (TT.ro_need (TT.ro_need (TT.ro_call fun _ => (TT.ro_need (TT.ro_need (TT.ro_need (TT.ro_jump (r_fabric_Fabric_State_5 _)))))))) (TT.ro_side (TT.ro_jump (ro_fabric_Fabric_State_9 _))))

noncomputable def D_fabric_Fabric_State_5 : Dyn X_fabric_Fabric_State_5 RR_fabric_Fabric_State := Dyn.loop tt_fabric_Fabric_State_5
theorem ok_fabric_Fabric_State_5 : LabOK J_fabric_Fabric_State S_fabric_Fabric_State_5 D_fabric_Fabric_State_5 :=
  loop_ok fun D_fabric_Fabric_State_5 h_5 => lab_ok mixed_ok (labs_cons2 h_5 rfl (labs_cons2 ok_fabric_Fabric_State_10 rfl (labs_cons2 ok_fabric_Fabric_State_9 rfl labs_nil))) 4000 (fun x => by kernel_rfl) (sd_fabric_Fabric_State_5 D_fabric_Fabric_State_5)
theorem ro_fabric_Fabric_State_5 : ∀ x y, D_fabric_Fabric_State_5.rel x y → p_fabric_Fabric_State y = w_fabric_Fabric_State_5 x :=
  loop_ro fun D_fabric_Fabric_State_5 r_fabric_Fabric_State_5 => roT_fabric_Fabric_State_5 D_fabric_Fabric_State_5 r_fabric_Fabric_State_5
noncomputable def tt_fabric_Fabric_State (x : X_fabric_Fabric_State) : TT Tryz.prog RR_fabric_Fabric_State :=
 (.call con_slices_Clone_api_ThreadState_o0_w0 (Ar.mk x.threads.n x.threads.get) fun (y1 : R_slices_Clone_api_ThreadState_o0_w0) =>
 (.need ((true && true) && (Nat.beq x.threads.n x.threads.n)) <|
 (.need ((true && true) && (Nat.beq y1.n y1.n)) <|
 (.jump S_fabric_Fabric_State_5 D_fabric_Fabric_State_5 (X_fabric_Fabric_State_5.mk ((y1.n : Nat) : Int) 0 (TFabric_Fabric.mk x.p x.threads x.rings x.now x.reads x.ended) (TApi_State.mk y1 (Sl.mk true 0 (fun _i2 => (TApi_RingState.mk 0 (Sl.mk true 0 (fun _i3 => (0 : Int))) false (Sl.mk true 0 (fun _i3 => (TApi_Slot.mk 0 0 0)))))) x.now x.reads x.ended)))
 )
 )
 )
theorem sd_fabric_Fabric_State (x : X_fabric_Fabric_State) : (tt_fabric_Fabric_State x).Sides :=
  (TT.s_call fun _ => (TT.s_need (TT.s_need TT.s_jump)))
theorem roT_fabric_Fabric_State (x : X_fabric_Fabric_State) : TT.Ro p_fabric_Fabric_State (w_fabric_Fabric_State x) (tt_fabric_Fabric_State x) :=
  (TT.ro_call fun _ => (TT.ro_need (TT.ro_need (TT.ro_jump (ro_fabric_Fabric_State_5 _)))))

noncomputable def D_fabric_Fabric_State : Dyn X_fabric_Fabric_State R_fabric_Fabric_State := .ro (.of tt_fabric_Fabric_State) (fun y => (y.1)) (fun y x => (y, x)) fun x y h => congrArg (fun o => (y.1, o)) (roT_fabric_Fabric_State x y h)
noncomputable def con_fabric_Fabric_State : Con Tryz.prog :=
  mkConP 17 J_fabric_Fabric_State S_fabric_Fabric_State (.of tt_fabric_Fabric_State) D_fabric_Fabric_State (fun y x => (y, x)) (fun _ _ h => h) (fun y => e_TApi_State y) 1 1 [.any] (by kernel_rfl) (by kernel_rfl) (by kernel_rfl) (lab_ok mixed_ok (labs_cons2 ok_fabric_Fabric_State_10 rfl (labs_cons2 ok_fabric_Fabric_State_9 rfl (labs_cons2 ok_fabric_Fabric_State_5 rfl labs_nil))) 4000 (fun x => by kernel_rfl) sd_fabric_Fabric_State) rfl rfl (fun _ => rfl) (by kernel_rfl) rfl (fun _ _ => rfl) (fun _ => rfl) (fun x => ⟨(nu_e_TFabric_Fabric : ∀ y, (e_TFabric_Fabric y).NoU) (x), trivial⟩)

/-! rondeauref02.Same (r02_Same) -/
abbrev X_r02_Same : Type := (Sl Int) × (Sl Int)
abbrev R_r02_Same : Type := Bool
noncomputable def J_r02_Same : Job Tryz.prog :=
  job Tryz.prog Tryz.f25 26 [] [] [] [] [.any] [] [] R_r02_Same [] fun y => [V.bool y]
noncomputable def S_r02_Same : LabS :=
  lab0 Tryz.f25 2 0 X_r02_Same (fun x => [esl_u64 x.1, esl_u64 x.2]) fun l => (dsl_u64 (at_ l 0), dsl_u64 (at_ l 1))
structure X_r02_Same_4 where
  a_0 : (Sl Int)
  b_1 : (Sl Int)
  i_5 : Int
noncomputable def S_r02_Same_4 : LabS :=
  labAt Tryz.f25 4 [(0, hsl_u64), (1, hsl_u64), (5, .any)] [] [] X_r02_Same_4 (fun x => [esl_u64 x.a_0, esl_u64 x.b_1, (V.int .i64) x.i_5]) fun l => ⟨dsl_u64 (at_ l 0), dsl_u64 (at_ l 1), dI (at_ l 2)⟩
noncomputable def tt_r02_Same_4 (D_r02_Same_4 : Dyn X_r02_Same_4 R_r02_Same) (x : X_r02_Same_4) : TT Tryz.prog R_r02_Same :=
 (.ite (ilt x.i_5 ((x.a_0.n : Nat) : Int))
  (.need (inb x.i_5 x.a_0.n) <|
  (.need (inb x.i_5 x.b_1.n) <|
  (.ite (!(ieq (x.a_0.get (Int.toNat x.i_5)) (x.b_1.get (Int.toNat x.i_5))))
   (.ret false)
   (.jump S_r02_Same_4 D_r02_Same_4 (X_r02_Same_4.mk x.a_0 x.b_1 (IntKind.i64.wrap (x.i_5 + 1))))
  )
  )
  )
  (.ret true)
 )
theorem sd_r02_Same_4 (D_r02_Same_4 : Dyn X_r02_Same_4 R_r02_Same) (x : X_r02_Same_4) : (tt_r02_Same_4 D_r02_Same_4 x).Sides :=
  (TT.s_ite (TT.s_need (TT.s_need (TT.s_ite TT.s_ret TT.s_jump))) TT.s_ret)

noncomputable def D_r02_Same_4 : Dyn X_r02_Same_4 R_r02_Same := Dyn.loop tt_r02_Same_4
theorem ok_r02_Same_4 : LabOK J_r02_Same S_r02_Same_4 D_r02_Same_4 :=
  loop_ok fun D_r02_Same_4 h_4 => lab_ok mixed_ok (labs_cons2 h_4 rfl labs_nil) 4000 (fun x => by kernel_rfl) (sd_r02_Same_4 D_r02_Same_4)
noncomputable def tt_r02_Same (x : X_r02_Same) : TT Tryz.prog R_r02_Same :=
 (.ite (!(ieq ((x.fst.n : Nat) : Int) ((x.snd.n : Nat) : Int)))
  (.ret false)
  (.jump S_r02_Same_4 D_r02_Same_4 (X_r02_Same_4.mk x.fst x.snd 0))
 )
theorem sd_r02_Same (x : X_r02_Same) : (tt_r02_Same x).Sides :=
  (TT.s_ite TT.s_ret TT.s_jump)

noncomputable def D_r02_Same : Dyn X_r02_Same R_r02_Same := .of tt_r02_Same
noncomputable def con_r02_Same : Con Tryz.prog :=
  mkCon 25 J_r02_Same S_r02_Same D_r02_Same D_r02_Same (fun _ _ h => h) 2 0 [hsl_u64, hsl_u64] (by kernel_rfl) (by kernel_rfl) (by kernel_rfl) (lab_ok mixed_ok (labs_cons2 ok_r02_Same_4 rfl labs_nil) 4000 (fun x => by kernel_rfl) sd_r02_Same) rfl rfl (fun _ => rfl) (by kernel_rfl) rfl (fun _ => rfl) (fun x y _ => by kernel_rfl)

/-! rondeauref16.Same (r16_Same) -/
abbrev X_r16_Same : Type := TApi_ThreadState × TApi_ThreadState
abbrev R_r16_Same : Type := Bool
noncomputable def J_r16_Same : Job Tryz.prog :=
  job Tryz.prog Tryz.f50 52 [(2, 3), (3, 3)] [] [] [] [.any] [] [con_r02_Same] R_r16_Same [] fun y => [V.bool y]
noncomputable def S_r16_Same : LabS :=
  lab0 Tryz.f50 2 0 X_r16_Same (fun x => [e_TApi_ThreadState x.1, e_TApi_ThreadState x.2]) fun l => (d_TApi_ThreadState (at_ l 0), d_TApi_ThreadState (at_ l 1))
noncomputable def tt_r16_Same (x : X_r16_Same) : TT Tryz.prog R_r16_Same :=
 (.ite (ieq x.fst.At x.snd.At)
  (.ite (ieq x.fst.Phase x.snd.Phase)
   (.ite (ieq x.fst.Ring x.snd.Ring)
    (.ite (ieq x.fst.Status x.snd.Status)
     (.ite (ieq x.fst.Ticket x.snd.Ticket)
      (.ite ((ieq (x.fst.Regs 0) (x.snd.Regs 0)) && ((ieq (x.fst.Regs 1) (x.snd.Regs 1)) && ((ieq (x.fst.Regs 2) (x.snd.Regs 2)) && ((ieq (x.fst.Regs 3) (x.snd.Regs 3)) && ((ieq (x.fst.Regs 4) (x.snd.Regs 4)) && ((ieq (x.fst.Regs 5) (x.snd.Regs 5)) && ((ieq (x.fst.Regs 6) (x.snd.Regs 6)) && ((ieq (x.fst.Regs 7) (x.snd.Regs 7)) && true))))))))
       (.call con_r02_Same (x.fst.Seen, x.snd.Seen) fun (y1 : R_r02_Same) =>
       (.ret y1)
       )
       (.ret false)
      )
      (.ret false)
     )
     (.ret false)
    )
    (.ret false)
   )
   (.ret false)
  )
  (.ret false)
 )
theorem sd_r16_Same (x : X_r16_Same) : (tt_r16_Same x).Sides :=
  (TT.s_ite (TT.s_ite (TT.s_ite (TT.s_ite (TT.s_ite (TT.s_ite (TT.s_call fun _ => TT.s_ret) TT.s_ret) TT.s_ret) TT.s_ret) TT.s_ret) TT.s_ret) TT.s_ret)

noncomputable def D_r16_Same : Dyn X_r16_Same R_r16_Same := .of tt_r16_Same
noncomputable def con_r16_Same : Con Tryz.prog :=
  mkCon 50 J_r16_Same S_r16_Same D_r16_Same D_r16_Same (fun _ _ h => h) 2 0 [sh_TApi_ThreadState, sh_TApi_ThreadState] (by kernel_rfl) (by kernel_rfl) (by kernel_rfl) (lab_ok mixed_ok labs_nil 4000 (fun x => by kernel_rfl) sd_r16_Same) rfl rfl (fun _ => rfl) (by kernel_rfl) rfl (fun _ => rfl) (fun x y _ => by kernel_rfl)

/-! rondeauref12.Same (r12_Same) -/
abbrev X_r12_Same : Type := (Sl TApi_Slot) × (Sl TApi_Slot)
abbrev R_r12_Same : Type := Bool
noncomputable def J_r12_Same : Job Tryz.prog :=
  job Tryz.prog Tryz.f95 26 [] [] [] [] [.any] [] [] R_r12_Same [] fun y => [V.bool y]
noncomputable def S_r12_Same : LabS :=
  lab0 Tryz.f95 2 0 X_r12_Same (fun x => [esl_TApi_Slot x.1, esl_TApi_Slot x.2]) fun l => (dsl_TApi_Slot (at_ l 0), dsl_TApi_Slot (at_ l 1))
structure X_r12_Same_4 where
  a_0 : (Sl TApi_Slot)
  b_1 : (Sl TApi_Slot)
  i_5 : Int
noncomputable def S_r12_Same_4 : LabS :=
  labAt Tryz.f95 4 [(0, hsl_TApi_Slot), (1, hsl_TApi_Slot), (5, .any)] [] [] X_r12_Same_4 (fun x => [esl_TApi_Slot x.a_0, esl_TApi_Slot x.b_1, (V.int .i64) x.i_5]) fun l => ⟨dsl_TApi_Slot (at_ l 0), dsl_TApi_Slot (at_ l 1), dI (at_ l 2)⟩
noncomputable def tt_r12_Same_4 (D_r12_Same_4 : Dyn X_r12_Same_4 R_r12_Same) (x : X_r12_Same_4) : TT Tryz.prog R_r12_Same :=
 (.ite (ilt x.i_5 ((x.a_0.n : Nat) : Int))
  (.need (inb x.i_5 x.a_0.n) <|
  (.need (inb x.i_5 x.b_1.n) <|
  (.ite (!((ieq (x.a_0.get (Int.toNat x.i_5)).Stamp (x.b_1.get (Int.toNat x.i_5)).Stamp) && ((ieq (x.a_0.get (Int.toNat x.i_5)).Value (x.b_1.get (Int.toNat x.i_5)).Value) && ((ieq (x.a_0.get (Int.toNat x.i_5)).Left (x.b_1.get (Int.toNat x.i_5)).Left) && true))))
   (.ret false)
   (.jump S_r12_Same_4 D_r12_Same_4 (X_r12_Same_4.mk x.a_0 x.b_1 (IntKind.i64.wrap (x.i_5 + 1))))
  )
  )
  )
  (.ret true)
 )
theorem sd_r12_Same_4 (D_r12_Same_4 : Dyn X_r12_Same_4 R_r12_Same) (x : X_r12_Same_4) : (tt_r12_Same_4 D_r12_Same_4 x).Sides :=
  (TT.s_ite (TT.s_need (TT.s_need (TT.s_ite TT.s_ret TT.s_jump))) TT.s_ret)

noncomputable def D_r12_Same_4 : Dyn X_r12_Same_4 R_r12_Same := Dyn.loop tt_r12_Same_4
theorem ok_r12_Same_4 : LabOK J_r12_Same S_r12_Same_4 D_r12_Same_4 :=
  loop_ok fun D_r12_Same_4 h_4 => lab_ok mixed_ok (labs_cons2 h_4 rfl labs_nil) 4000 (fun x => by kernel_rfl) (sd_r12_Same_4 D_r12_Same_4)
noncomputable def tt_r12_Same (x : X_r12_Same) : TT Tryz.prog R_r12_Same :=
 (.ite (!(ieq ((x.fst.n : Nat) : Int) ((x.snd.n : Nat) : Int)))
  (.ret false)
  (.jump S_r12_Same_4 D_r12_Same_4 (X_r12_Same_4.mk x.fst x.snd 0))
 )
theorem sd_r12_Same (x : X_r12_Same) : (tt_r12_Same x).Sides :=
  (TT.s_ite TT.s_ret TT.s_jump)

noncomputable def D_r12_Same : Dyn X_r12_Same R_r12_Same := .of tt_r12_Same
noncomputable def con_r12_Same : Con Tryz.prog :=
  mkCon 95 J_r12_Same S_r12_Same D_r12_Same D_r12_Same (fun _ _ h => h) 2 0 [hsl_TApi_Slot, hsl_TApi_Slot] (by kernel_rfl) (by kernel_rfl) (by kernel_rfl) (lab_ok mixed_ok (labs_cons2 ok_r12_Same_4 rfl labs_nil) 4000 (fun x => by kernel_rfl) sd_r12_Same) rfl rfl (fun _ => rfl) (by kernel_rfl) rfl (fun _ => rfl) (fun x y _ => by kernel_rfl)

/-! rondeauref13.Same (r13_Same) -/
abbrev X_r13_Same : Type := TApi_RingState × TApi_RingState
abbrev R_r13_Same : Type := Bool
noncomputable def J_r13_Same : Job Tryz.prog :=
  job Tryz.prog Tryz.f51 53 [(2, 3), (3, 3)] [] [] [] [.any] [] [con_r12_Same] R_r13_Same [] fun y => [V.bool y]
noncomputable def S_r13_Same : LabS :=
  lab0 Tryz.f51 2 0 X_r13_Same (fun x => [e_TApi_RingState x.1, e_TApi_RingState x.2]) fun l => (d_TApi_RingState (at_ l 0), d_TApi_RingState (at_ l 1))
structure X_r13_Same_3 where
  a_2 : TApi_RingState
  b_3 : TApi_RingState
noncomputable def S_r13_Same_3 : LabS :=
  labAt Tryz.f51 3 [(2, .any), (3, .any)] [] [] X_r13_Same_3 (fun x => [(eVp e_TApi_RingState) x.a_2, (eVp e_TApi_RingState) x.b_3]) fun l => ⟨(dVp d_TApi_RingState) (at_ l 0), (dVp d_TApi_RingState) (at_ l 1)⟩
structure X_r13_Same_4 where
  a_2 : TApi_RingState
  b_3 : TApi_RingState
  i_5 : Int
noncomputable def S_r13_Same_4 : LabS :=
  labAt Tryz.f51 4 [(2, .any), (3, .any), (5, .any)] [] [] X_r13_Same_4 (fun x => [(eVp e_TApi_RingState) x.a_2, (eVp e_TApi_RingState) x.b_3, (V.int .i64) x.i_5]) fun l => ⟨(dVp d_TApi_RingState) (at_ l 0), (dVp d_TApi_RingState) (at_ l 1), dI (at_ l 2)⟩
noncomputable def tt_r13_Same_4 (D_r13_Same_4 : Dyn X_r13_Same_4 R_r13_Same) (x : X_r13_Same_4) : TT Tryz.prog R_r13_Same :=
 (.ite (ilt x.i_5 ((x.a_2.Heads.n : Nat) : Int))
  (.need (inb x.i_5 x.a_2.Heads.n) <|
  (.need (inb x.i_5 x.b_3.Heads.n) <|
  (.ite (!(ieq (x.a_2.Heads.get (Int.toNat x.i_5)) (x.b_3.Heads.get (Int.toNat x.i_5))))
   (.ret false)
   (.jump S_r13_Same_4 D_r13_Same_4 (X_r13_Same_4.mk x.a_2 x.b_3 (IntKind.i64.wrap (x.i_5 + 1))))
  )
  )
  )
  (.ret true)
 )
theorem sd_r13_Same_4 (D_r13_Same_4 : Dyn X_r13_Same_4 R_r13_Same) (x : X_r13_Same_4) : (tt_r13_Same_4 D_r13_Same_4 x).Sides :=
  (TT.s_ite (TT.s_need (TT.s_need (TT.s_ite TT.s_ret TT.s_jump))) TT.s_ret)

noncomputable def D_r13_Same_4 : Dyn X_r13_Same_4 R_r13_Same := Dyn.loop tt_r13_Same_4
theorem ok_r13_Same_4 : LabOK J_r13_Same S_r13_Same_4 D_r13_Same_4 :=
  loop_ok fun D_r13_Same_4 h_4 => lab_ok mixed_ok (labs_cons2 h_4 rfl labs_nil) 4000 (fun x => by kernel_rfl) (sd_r13_Same_4 D_r13_Same_4)
noncomputable def tt_r13_Same_3 (x : X_r13_Same_3) : TT Tryz.prog R_r13_Same :=
 (.jump S_r13_Same_4 D_r13_Same_4 (X_r13_Same_4.mk x.a_2 x.b_3 0))
theorem sd_r13_Same_3 (x : X_r13_Same_3) : (tt_r13_Same_3 x).Sides :=
  TT.s_jump

noncomputable def D_r13_Same_3 : Dyn X_r13_Same_3 R_r13_Same := .of tt_r13_Same_3
theorem ok_r13_Same_3 : LabOK J_r13_Same S_r13_Same_3 D_r13_Same_3 :=
  lab_ok mixed_ok (labs_cons2 ok_r13_Same_4 rfl labs_nil) 4000 (fun x => by kernel_rfl) sd_r13_Same_3
noncomputable def tt_r13_Same (x : X_r13_Same) : TT Tryz.prog R_r13_Same :=
 (.ite (!(ieq x.fst.Tail x.snd.Tail))
  (.ret false)
  (.ite (!(x.fst.Closed == x.snd.Closed))
   (.ret false)
   (.ite (!(ieq ((x.fst.Heads.n : Nat) : Int) ((x.snd.Heads.n : Nat) : Int)))
    (.ret false)
    (.call con_r12_Same (x.fst.Slots, x.snd.Slots) fun (y1 : R_r12_Same) =>
    (.ite (!y1)
     (.ret false)
     (.jump S_r13_Same_3 D_r13_Same_3 (X_r13_Same_3.mk x.fst x.snd))
    )
    )
   )
  )
 )
theorem sd_r13_Same (x : X_r13_Same) : (tt_r13_Same x).Sides :=
  (TT.s_ite TT.s_ret (TT.s_ite TT.s_ret (TT.s_ite TT.s_ret (TT.s_call fun _ => (TT.s_ite TT.s_ret TT.s_jump)))))

noncomputable def D_r13_Same : Dyn X_r13_Same R_r13_Same := .of tt_r13_Same
noncomputable def con_r13_Same : Con Tryz.prog :=
  mkCon 51 J_r13_Same S_r13_Same D_r13_Same D_r13_Same (fun _ _ h => h) 2 0 [sh_TApi_RingState, sh_TApi_RingState] (by kernel_rfl) (by kernel_rfl) (by kernel_rfl) (lab_ok mixed_ok (labs_cons2 ok_r13_Same_4 rfl (labs_cons2 ok_r13_Same_3 rfl labs_nil)) 4000 (fun x => by kernel_rfl) sd_r13_Same) rfl rfl (fun _ => rfl) (by kernel_rfl) rfl (fun _ => rfl) (fun x y _ => by kernel_rfl)

/-! rondeauref17.Same (r17_Same) -/
abbrev X_r17_Same : Type := TApi_State × TApi_State
abbrev R_r17_Same : Type := Bool
noncomputable def J_r17_Same : Job Tryz.prog :=
  job Tryz.prog Tryz.f16 82 [(2, 3), (3, 3)] [] [] [] [.any] [] [con_r13_Same, con_r16_Same] R_r17_Same [] fun y => [V.bool y]
noncomputable def S_r17_Same : LabS :=
  lab0 Tryz.f16 2 0 X_r17_Same (fun x => [e_TApi_State x.1, e_TApi_State x.2]) fun l => (d_TApi_State (at_ l 0), d_TApi_State (at_ l 1))
structure X_r17_Same_3 where
  a_2 : TApi_State
  b_3 : TApi_State
noncomputable def S_r17_Same_3 : LabS :=
  labAt Tryz.f16 3 [(2, .any), (3, .any)] [] [] X_r17_Same_3 (fun x => [(eVp e_TApi_State) x.a_2, (eVp e_TApi_State) x.b_3]) fun l => ⟨(dVp d_TApi_State) (at_ l 0), (dVp d_TApi_State) (at_ l 1)⟩
structure X_r17_Same_4 where
  a_2 : TApi_State
  b_3 : TApi_State
  i_5 : Int
noncomputable def S_r17_Same_4 : LabS :=
  labAt Tryz.f16 4 [(2, .any), (3, .any), (5, .any)] [] [] X_r17_Same_4 (fun x => [(eVp e_TApi_State) x.a_2, (eVp e_TApi_State) x.b_3, (V.int .i64) x.i_5]) fun l => ⟨(dVp d_TApi_State) (at_ l 0), (dVp d_TApi_State) (at_ l 1), dI (at_ l 2)⟩
structure X_r17_Same_8 where
  a_2 : TApi_State
  b_3 : TApi_State
noncomputable def S_r17_Same_8 : LabS :=
  labAt Tryz.f16 8 [(2, .any), (3, .any)] [] [] X_r17_Same_8 (fun x => [(eVp e_TApi_State) x.a_2, (eVp e_TApi_State) x.b_3]) fun l => ⟨(dVp d_TApi_State) (at_ l 0), (dVp d_TApi_State) (at_ l 1)⟩
structure X_r17_Same_9 where
  a_2 : TApi_State
  b_3 : TApi_State
  i_6 : Int
noncomputable def S_r17_Same_9 : LabS :=
  labAt Tryz.f16 9 [(2, .any), (3, .any), (6, .any)] [] [] X_r17_Same_9 (fun x => [(eVp e_TApi_State) x.a_2, (eVp e_TApi_State) x.b_3, (V.int .i64) x.i_6]) fun l => ⟨(dVp d_TApi_State) (at_ l 0), (dVp d_TApi_State) (at_ l 1), dI (at_ l 2)⟩
noncomputable def tt_r17_Same_9 (D_r17_Same_9 : Dyn X_r17_Same_9 R_r17_Same) (x : X_r17_Same_9) : TT Tryz.prog R_r17_Same :=
 (.ite (ilt x.i_6 ((x.a_2.Rings.n : Nat) : Int))
  (.need (inb x.i_6 x.a_2.Rings.n) <|
  (.need (inb x.i_6 x.b_3.Rings.n) <|
  (.call con_r13_Same ((x.a_2.Rings.get (Int.toNat x.i_6)), (x.b_3.Rings.get (Int.toNat x.i_6))) fun (y2 : R_r13_Same) =>
  (.ite (!y2)
   (.ret false)
   (.jump S_r17_Same_9 D_r17_Same_9 (X_r17_Same_9.mk x.a_2 x.b_3 (IntKind.i64.wrap (x.i_6 + 1))))
  )
  )
  )
  )
  (.ret true)
 )
theorem sd_r17_Same_9 (D_r17_Same_9 : Dyn X_r17_Same_9 R_r17_Same) (x : X_r17_Same_9) : (tt_r17_Same_9 D_r17_Same_9 x).Sides :=
  (TT.s_ite (TT.s_need (TT.s_need (TT.s_call fun _ => (TT.s_ite TT.s_ret TT.s_jump)))) TT.s_ret)

noncomputable def D_r17_Same_9 : Dyn X_r17_Same_9 R_r17_Same := Dyn.loop tt_r17_Same_9
theorem ok_r17_Same_9 : LabOK J_r17_Same S_r17_Same_9 D_r17_Same_9 :=
  loop_ok fun D_r17_Same_9 h_9 => lab_ok mixed_ok (labs_cons2 h_9 rfl labs_nil) 4000 (fun x => by kernel_rfl) (sd_r17_Same_9 D_r17_Same_9)
noncomputable def tt_r17_Same_8 (x : X_r17_Same_8) : TT Tryz.prog R_r17_Same :=
 (.jump S_r17_Same_9 D_r17_Same_9 (X_r17_Same_9.mk x.a_2 x.b_3 0))
theorem sd_r17_Same_8 (x : X_r17_Same_8) : (tt_r17_Same_8 x).Sides :=
  TT.s_jump

noncomputable def D_r17_Same_8 : Dyn X_r17_Same_8 R_r17_Same := .of tt_r17_Same_8
theorem ok_r17_Same_8 : LabOK J_r17_Same S_r17_Same_8 D_r17_Same_8 :=
  lab_ok mixed_ok (labs_cons2 ok_r17_Same_9 rfl labs_nil) 4000 (fun x => by kernel_rfl) sd_r17_Same_8
noncomputable def tt_r17_Same_4 (D_r17_Same_4 : Dyn X_r17_Same_4 R_r17_Same) (x : X_r17_Same_4) : TT Tryz.prog R_r17_Same :=
 (.ite (ilt x.i_5 ((x.a_2.Threads.n : Nat) : Int))
  (.need (inb x.i_5 x.a_2.Threads.n) <|
  (.need (inb x.i_5 x.b_3.Threads.n) <|
  (.call con_r16_Same ((x.a_2.Threads.get (Int.toNat x.i_5)), (x.b_3.Threads.get (Int.toNat x.i_5))) fun (y2 : R_r16_Same) =>
  (.ite (!y2)
   (.ret false)
   (.jump S_r17_Same_4 D_r17_Same_4 (X_r17_Same_4.mk x.a_2 x.b_3 (IntKind.i64.wrap (x.i_5 + 1))))
  )
  )
  )
  )
  (.jump S_r17_Same_8 D_r17_Same_8 (X_r17_Same_8.mk x.a_2 x.b_3))
 )
theorem sd_r17_Same_4 (D_r17_Same_4 : Dyn X_r17_Same_4 R_r17_Same) (x : X_r17_Same_4) : (tt_r17_Same_4 D_r17_Same_4 x).Sides :=
  (TT.s_ite (TT.s_need (TT.s_need (TT.s_call fun _ => (TT.s_ite TT.s_ret TT.s_jump)))) TT.s_jump)

noncomputable def D_r17_Same_4 : Dyn X_r17_Same_4 R_r17_Same := Dyn.loop tt_r17_Same_4
theorem ok_r17_Same_4 : LabOK J_r17_Same S_r17_Same_4 D_r17_Same_4 :=
  loop_ok fun D_r17_Same_4 h_4 => lab_ok mixed_ok (labs_cons2 h_4 rfl (labs_cons2 ok_r17_Same_9 rfl (labs_cons2 ok_r17_Same_8 rfl labs_nil))) 4000 (fun x => by kernel_rfl) (sd_r17_Same_4 D_r17_Same_4)
noncomputable def tt_r17_Same_3 (x : X_r17_Same_3) : TT Tryz.prog R_r17_Same :=
 (.jump S_r17_Same_4 D_r17_Same_4 (X_r17_Same_4.mk x.a_2 x.b_3 0))
theorem sd_r17_Same_3 (x : X_r17_Same_3) : (tt_r17_Same_3 x).Sides :=
  TT.s_jump

noncomputable def D_r17_Same_3 : Dyn X_r17_Same_3 R_r17_Same := .of tt_r17_Same_3
theorem ok_r17_Same_3 : LabOK J_r17_Same S_r17_Same_3 D_r17_Same_3 :=
  lab_ok mixed_ok (labs_cons2 ok_r17_Same_9 rfl (labs_cons2 ok_r17_Same_8 rfl (labs_cons2 ok_r17_Same_4 rfl labs_nil))) 4000 (fun x => by kernel_rfl) sd_r17_Same_3
noncomputable def tt_r17_Same (x : X_r17_Same) : TT Tryz.prog R_r17_Same :=
 (.ite (!(ieq ((x.fst.Threads.n : Nat) : Int) ((x.snd.Threads.n : Nat) : Int)))
  (.ret false)
  (.ite (!(ieq ((x.fst.Rings.n : Nat) : Int) ((x.snd.Rings.n : Nat) : Int)))
   (.ret false)
   (.ite (!(ieq x.fst.Now x.snd.Now))
    (.ret false)
    (.ite (!(ieq x.fst.Reads x.snd.Reads))
     (.ret false)
     (.ite (!(x.fst.Ended == x.snd.Ended))
      (.ret false)
      (.jump S_r17_Same_3 D_r17_Same_3 (X_r17_Same_3.mk x.fst x.snd))
     )
    )
   )
  )
 )
theorem sd_r17_Same (x : X_r17_Same) : (tt_r17_Same x).Sides :=
  (TT.s_ite TT.s_ret (TT.s_ite TT.s_ret (TT.s_ite TT.s_ret (TT.s_ite TT.s_ret (TT.s_ite TT.s_ret TT.s_jump)))))

noncomputable def D_r17_Same : Dyn X_r17_Same R_r17_Same := .of tt_r17_Same
noncomputable def con_r17_Same : Con Tryz.prog :=
  mkCon 16 J_r17_Same S_r17_Same D_r17_Same D_r17_Same (fun _ _ h => h) 2 0 [sh_TApi_State, sh_TApi_State] (by kernel_rfl) (by kernel_rfl) (by kernel_rfl) (lab_ok mixed_ok (labs_cons2 ok_r17_Same_9 rfl (labs_cons2 ok_r17_Same_8 rfl (labs_cons2 ok_r17_Same_4 rfl (labs_cons2 ok_r17_Same_3 rfl labs_nil)))) 4000 (fun x => by kernel_rfl) sd_r17_Same) rfl rfl (fun _ => rfl) (by kernel_rfl) rfl (fun _ => rfl) (fun x y _ => by kernel_rfl)

/-! rondeaulaw22.SnapLoads (w22_SnapLoads) -/
abbrev X_w22_SnapLoads : Type := TApi_Program × ByteArray
abbrev R_w22_SnapLoads : Type := Bool
noncomputable def J_w22_SnapLoads : Job Tryz.prog :=
  job Tryz.prog Tryz.f3 68 [(2, 3), (22, 1), (31, 1), (37, 1), (50, 1), (63, 1)] [(9, [.open_ 5])] [] [] [.any] [] [con_fabric_Fabric_State, con_r09_Few, con_r17_Loads, con_r17_Right, con_r17_Same, con_snap_Load, con_snap_Read, con_w22_awake] R_w22_SnapLoads [] fun y => [V.bool y]
noncomputable def S_w22_SnapLoads : LabS :=
  lab0 Tryz.f3 2 0 X_w22_SnapLoads (fun x => [e_TApi_Program x.1, V.str x.2]) fun l => (d_TApi_Program (at_ l 0), dS (at_ l 1))
structure X_w22_SnapLoads_3 where
  b_1 : ByteArray
  p_2 : TApi_Program
noncomputable def S_w22_SnapLoads_3 : LabS :=
  labAt Tryz.f3 3 [(1, .any), (2, .any)] [] [] X_w22_SnapLoads_3 (fun x => [V.str x.b_1, (eVp e_TApi_Program) x.p_2]) fun l => ⟨dS (at_ l 0), (dVp d_TApi_Program) (at_ l 1)⟩
structure X_w22_SnapLoads_9 where
  e_6 : Int
  m_7 : TApi_State
  n_5 : TFabric_Fabric
noncomputable def S_w22_SnapLoads_9 : LabS :=
  labAt Tryz.f3 9 [(5, .any), (6, .any), (7, .any)] [] [(.loc 7 0, sh_TApi_State), (.loc 5 1, sh_TFabric_Fabric)] X_w22_SnapLoads_9 (fun x => [(V.ptr (.loc 5 1) []), (V.int .i64) x.e_6, (V.ptr (.loc 7 0) []), e_TApi_State x.m_7, e_TFabric_Fabric x.n_5]) fun l => ⟨dI (at_ l 1), d_TApi_State (at_ l 3), d_TFabric_Fabric (at_ l 4)⟩
noncomputable def tt_w22_SnapLoads_9 (x : X_w22_SnapLoads_9) : TT Tryz.prog R_w22_SnapLoads :=
 (.ite (ieq x.e_6 0)
  (.call con_fabric_Fabric_State (TFabric_Fabric.mk x.n_5.p x.n_5.threads x.n_5.rings x.n_5.now x.n_5.reads x.n_5.ended) fun (y1 : R_fabric_Fabric_State) =>
  (.call con_r17_Same (y1, x.m_7) fun (y2 : R_r17_Same) =>
  (.ret y2)
  )
  )
  (.ret false)
 )
theorem sd_w22_SnapLoads_9 (x : X_w22_SnapLoads_9) : (tt_w22_SnapLoads_9 x).Sides :=
  (TT.s_ite (TT.s_call fun _ => (TT.s_call fun _ => TT.s_ret)) TT.s_ret)

noncomputable def D_w22_SnapLoads_9 : Dyn X_w22_SnapLoads_9 R_w22_SnapLoads := .of tt_w22_SnapLoads_9
theorem ok_w22_SnapLoads_9 : LabOK J_w22_SnapLoads S_w22_SnapLoads_9 D_w22_SnapLoads_9 :=
  lab_ok mixed_ok labs_nil 4000 (fun x => by kernel_rfl) sd_w22_SnapLoads_9
noncomputable def tt_w22_SnapLoads_3 (x : X_w22_SnapLoads_3) : TT Tryz.prog R_w22_SnapLoads :=
 (.call con_snap_Load (x.p_2, x.b_1) fun (y1 : R_snap_Load) =>
 (.call con_r17_Right x.p_2 fun (y2 : R_r17_Right) =>
 (.ite (!y2)
  (.ite y1.fst.nil
   (.ret (ieq y1.snd 1))
   (.ret false)
  )
  (.call con_snap_Read x.b_1 fun (y3 : R_snap_Read) =>
  (.ite (!(ieq y3.snd 0))
   (.ite y1.fst.nil
    (.ret (ieq y1.snd 3))
    (.ret false)
   )
   (.call con_r17_Loads (x.p_2, y3.fst) fun (y4 : R_r17_Loads) =>
   (.ite (!y4)
    (.ite y1.fst.nil
     (.ret (ieq y1.snd 3))
     (.ret false)
    )
    (.need (!y1.fst.nil) <|
    (.jump S_w22_SnapLoads_9 D_w22_SnapLoads_9 (X_w22_SnapLoads_9.mk y1.snd y3.fst (TFabric_Fabric.mk y1.fst.x.p y1.fst.x.threads y1.fst.x.rings y1.fst.x.now y1.fst.x.reads y1.fst.x.ended)))
    )
   )
   )
  )
  )
 )
 )
 )
theorem sd_w22_SnapLoads_3 (x : X_w22_SnapLoads_3) : (tt_w22_SnapLoads_3 x).Sides :=
  (TT.s_call fun _ => (TT.s_call fun _ => (TT.s_ite (TT.s_ite TT.s_ret TT.s_ret) (TT.s_call fun _ => (TT.s_ite (TT.s_ite TT.s_ret TT.s_ret) (TT.s_call fun _ => (TT.s_ite (TT.s_ite TT.s_ret TT.s_ret) (TT.s_need TT.s_jump))))))))

noncomputable def D_w22_SnapLoads_3 : Dyn X_w22_SnapLoads_3 R_w22_SnapLoads := .of tt_w22_SnapLoads_3
theorem ok_w22_SnapLoads_3 : LabOK J_w22_SnapLoads S_w22_SnapLoads_3 D_w22_SnapLoads_3 :=
  lab_ok mixed_ok (labs_cons2 ok_w22_SnapLoads_9 rfl labs_nil) 4000 (fun x => by kernel_rfl) sd_w22_SnapLoads_3
noncomputable def tt_w22_SnapLoads (x : X_w22_SnapLoads) : TT Tryz.prog R_w22_SnapLoads :=
 (.call con_w22_awake PUnit.unit fun (y1 : R_w22_awake) =>
 (.ite (!y1)
  (.call con_w22_awake PUnit.unit fun (y2 : R_w22_awake) =>
  (.ret y2)
  )
  (.call con_r09_Few (x.fst, 100) fun (y2 : R_r09_Few) =>
  (.ite (!y2)
   (.call con_w22_awake PUnit.unit fun (y3 : R_w22_awake) =>
   (.ret y3)
   )
   (.ite (ilt 3000 (((ByteArray.size x.snd) : Nat) : Int))
    (.call con_w22_awake PUnit.unit fun (y3 : R_w22_awake) =>
    (.ret y3)
    )
    (.jump S_w22_SnapLoads_3 D_w22_SnapLoads_3 (X_w22_SnapLoads_3.mk x.snd x.fst))
   )
  )
  )
 )
 )
theorem sd_w22_SnapLoads (x : X_w22_SnapLoads) : (tt_w22_SnapLoads x).Sides :=
  (TT.s_call fun _ => (TT.s_ite (TT.s_call fun _ => TT.s_ret) (TT.s_call fun _ => (TT.s_ite (TT.s_call fun _ => TT.s_ret) (TT.s_ite (TT.s_call fun _ => TT.s_ret) TT.s_jump)))))

noncomputable def D_w22_SnapLoads : Dyn X_w22_SnapLoads R_w22_SnapLoads := .of tt_w22_SnapLoads
noncomputable def con_w22_SnapLoads : Con Tryz.prog :=
  mkCon 3 J_w22_SnapLoads S_w22_SnapLoads D_w22_SnapLoads D_w22_SnapLoads (fun _ _ h => h) 2 0 [sh_TApi_Program, .any] (by kernel_rfl) (by kernel_rfl) (by kernel_rfl) (lab_ok mixed_ok (labs_cons2 ok_w22_SnapLoads_9 rfl (labs_cons2 ok_w22_SnapLoads_3 rfl labs_nil)) 4000 (fun x => by kernel_rfl) sd_w22_SnapLoads) rfl rfl (fun _ => rfl) (by kernel_rfl) rfl (fun _ => rfl) (fun x y _ => by kernel_rfl)
end Go.Proofs.YtiplcdhnjennfaaGreat
