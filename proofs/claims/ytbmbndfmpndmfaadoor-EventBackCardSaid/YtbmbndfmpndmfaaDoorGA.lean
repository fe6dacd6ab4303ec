/- What functions of the program come to, part A: no statement is proved here. -/
import Derived.Test.YtbmbndfmpndmfaaDoorX
import Derived.Test.YtbmbndfmpndmfaaDoorProg
import Derived.KernelRfl
namespace Go.Proofs.YtbmbndfmpndmfaaDoor
open Go Go.Vm Go.Proofs
set_option maxRecDepth 100000
set_option maxHeartbeats 4000000
theorem mixed_ok : Tryd.prog.follows .mixedOrders = true := by kernel_rfl

abbrev Dsl_str : Type := (Sl ByteArray)
def esl_str : Dsl_str → V := (eSl none 1 V.str)
def dsl_str : V → Dsl_str := (dSl dS)
def hsl_str : Sh := (.sl none 1 (V.str (dS .undef)))


/-! event.names (event_names) -/
abbrev X_event_names : Type := Unit
abbrev R_event_names : Type := (Sl ByteArray)
noncomputable def J_event_names : Job Tryd.prog :=
  job Tryd.prog Tryd.f33 2 [] [] [] [.shut 0] [hsl_str] [] [] R_event_names [] fun y => [esl_str y]
noncomputable def S_event_names : LabS :=
  lab0 Tryd.f33 0 0 X_event_names (fun x => []) fun l => ()
noncomputable def tt_event_names (x : X_event_names) : TT Tryd.prog R_event_names :=
 (.ret (Sl.mk false 15 (fun i1 => (cond (Nat.beq i1 0) (ByteArray.mk #[99, 108, 97, 105, 109]) (cond (Nat.beq i1 1) (ByteArray.mk #[112, 117, 98, 108, 105, 115, 104]) (cond (Nat.beq i1 2) (ByteArray.mk #[116, 97, 107, 101]) (cond (Nat.beq i1 3) (ByteArray.mk #[114, 101, 108, 101, 97, 115, 101]) (cond (Nat.beq i1 4) (ByteArray.mk #[110, 111]) (cond (Nat.beq i1 5) (ByteArray.mk #[115, 104, 117, 116]) (cond (Nat.beq i1 6) (ByteArray.mk #[116, 105, 109, 101]) (cond (Nat.beq i1 7) (ByteArray.mk #[99, 108, 111, 99, 107]) (cond (Nat.beq i1 8) (ByteArray.mk #[100, 114, 97, 119]) (cond (Nat.beq i1 9) (ByteArray.mk #[114, 101, 97, 100]) (cond (Nat.beq i1 10) (ByteArray.mk #[101, 110, 100]) (cond (Nat.beq i1 11) (ByteArray.mk #[115, 101, 101]) (cond (Nat.beq i1 12) (ByteArray.mk #[99, 108, 111, 115, 101]) (cond (Nat.beq i1 13) (ByteArray.mk #[104, 97, 108, 116]) (ByteArray.mk #[115, 112, 105, 110]))))))))))))))))))
theorem sd_event_names (x : X_event_names) : (tt_event_names x).Sides :=
  TT.s_ret

noncomputable def D_event_names : Dyn X_event_names R_event_names := .of tt_event_names
noncomputable def con_event_names : Con Tryd.prog :=
  mkCon 33 J_event_names S_event_names D_event_names D_event_names (fun _ _ h => h) 0 0 [] (by kernel_rfl) (by kernel_rfl) (by kernel_rfl) (lab_ok mixed_ok labs_nil 4000 (fun x => by kernel_rfl) sd_event_names) rfl rfl (fun _ => rfl) (by kernel_rfl) rfl (fun _ => rfl) (fun x y _ => by kernel_rfl)

/-! event.Name (event_Name) -/
abbrev X_event_Name : Type := Int
abbrev R_event_Name : Type := ByteArray
noncomputable def J_event_Name : Job Tryd.prog :=
  job Tryd.prog Tryd.f17 14 [] [] [] [] [.any] [] [con_event_names] R_event_Name [] fun y => [V.str y]
noncomputable def S_event_Name : LabS :=
  lab0 Tryd.f17 1 0 X_event_Name (fun x => [(V.int .i64) x]) fun l => (dI (at_ l 0))
structure X_event_Name_3 where
  kind_0 : Int
noncomputable def S_event_Name_3 : LabS :=
  labAt Tryd.f17 3 [(0, .any)] [] [] X_event_Name_3 (fun x => [(V.int .i64) x.kind_0]) fun l => ⟨dI (at_ l 0)⟩
noncomputable def tt_event_Name_3 (x : X_event_Name_3) : TT Tryd.prog R_event_Name :=
 (.call con_event_names PUnit.unit fun (y1 : R_event_names) =>
 (.need (inb (IntKind.i64.wrap (x.kind_0 - 1)) y1.n) <|
 (.ret (y1.get (Int.toNat (IntKind.i64.wrap (x.kind_0 - 1)))))))
theorem sd_event_Name_3 (x : X_event_Name_3) : (tt_event_Name_3 x).Sides :=
  (TT.s_call fun _ => (TT.s_need TT.s_ret))

noncomputable def D_event_Name_3 : Dyn X_event_Name_3 R_event_Name := .of tt_event_Name_3
theorem ok_event_Name_3 : LabOK J_event_Name S_event_Name_3 D_event_Name_3 :=
  lab_ok mixed_ok labs_nil 4000 (fun x => by kernel_rfl) sd_event_Name_3
noncomputable def tt_event_Name (x : X_event_Name) : TT Tryd.prog R_event_Name :=
 (.ite (ilt x 1)
 (.ret (ByteArray.mk #[]))
 (.ite (ilt 15 x)
 (.ret (ByteArray.mk #[]))
 (.jump S_event_Name_3 D_event_Name_3 (X_event_Name_3.mk x))))
theorem sd_event_Name (x : X_event_Name) : (tt_event_Name x).Sides :=
  (TT.s_ite TT.s_ret (TT.s_ite TT.s_ret TT.s_jump))

noncomputable def D_event_Name : Dyn X_event_Name R_event_Name := .of tt_event_Name
noncomputable def con_event_Name : Con Tryd.prog :=
  mkCon 17 J_event_Name S_event_Name D_event_Name D_event_Name (fun _ _ h => h) 1 0 [.any] (by kernel_rfl) (by kernel_rfl) (by kernel_rfl) (lab_ok mixed_ok (labs_cons2 ok_event_Name_3 rfl labs_nil) 4000 (fun x => by kernel_rfl) sd_event_Name) rfl rfl (fun _ => rfl) (by kernel_rfl) rfl (fun _ => rfl) (fun x y _ => by kernel_rfl)

/-! event.tickets (event_tickets) -/
abbrev X_event_tickets : Type := Int
abbrev R_event_tickets : Type := Bool
noncomputable def J_event_tickets : Job Tryd.prog :=
  job Tryd.prog Tryd.f34 13 [] [] [] [] [.any] [] [] R_event_tickets [] fun y => [V.bool y]
noncomputable def S_event_tickets : LabS :=
  lab0 Tryd.f34 1 0 X_event_tickets (fun x => [(V.int .i64) x]) fun l => (dI (at_ l 0))
noncomputable def tt_event_tickets (x : X_event_tickets) : TT Tryd.prog R_event_tickets :=
 (.ite (ile 1 x)
 (.ite (ile x 4)
 (.ret true)
 (.ret (ieq x 13)))
 (.ret (ieq x 13)))
theorem sd_event_tickets (x : X_event_tickets) : (tt_event_tickets x).Sides :=
  (TT.s_ite (TT.s_ite TT.s_ret TT.s_ret) TT.s_ret)

noncomputable def D_event_tickets : Dyn X_event_tickets R_event_tickets := .of tt_event_tickets
noncomputable def con_event_tickets : Con Tryd.prog :=
  mkCon 34 J_event_tickets S_event_tickets D_event_tickets D_event_tickets (fun _ _ h => h) 1 0 [.any] (by kernel_rfl) (by kernel_rfl) (by kernel_rfl) (lab_ok mixed_ok labs_nil 4000 (fun x => by kernel_rfl) sd_event_tickets) rfl rfl (fun _ => rfl) (by kernel_rfl) rfl (fun _ => rfl) (fun x y _ => by kernel_rfl)

/-! event.Rings (event_Rings) -/
abbrev X_event_Rings : Type := Int
abbrev R_event_Rings : Type := Bool
noncomputable def J_event_Rings : Job Tryd.prog :=
  job Tryd.prog Tryd.f18 13 [] [] [] [] [.any] [] [con_event_tickets] R_event_Rings [] fun y => [V.bool y]
noncomputable def S_event_Rings : LabS :=
  lab0 Tryd.f18 1 0 X_event_Rings (fun x => [(V.int .i64) x]) fun l => (dI (at_ l 0))
noncomputable def tt_event_Rings (x : X_event_Rings) : TT Tryd.prog R_event_Rings :=
 (.call con_event_tickets x fun (y1 : R_event_tickets) =>
 (.ite y1
 (.ret true)
 (.ite (ile 5 x)
 (.ret (ile x 7))
 (.ret false))))
theorem sd_event_Rings (x : X_event_Rings) : (tt_event_Rings x).Sides :=
  (TT.s_call fun _ => (TT.s_ite TT.s_ret (TT.s_ite TT.s_ret TT.s_ret)))

noncomputable def D_event_Rings : Dyn X_event_Rings R_event_Rings := .of tt_event_Rings
noncomputable def con_event_Rings : Con Tryd.prog :=
  mkCon 18 J_event_Rings S_event_Rings D_event_Rings D_event_Rings (fun _ _ h => h) 1 0 [.any] (by kernel_rfl) (by kernel_rfl) (by kernel_rfl) (lab_ok mixed_ok labs_nil 4000 (fun x => by kernel_rfl) sd_event_Rings) rfl rfl (fun _ => rfl) (by kernel_rfl) rfl (fun _ => rfl) (fun x y _ => by kernel_rfl)

/-! event.values (event_values) -/
abbrev X_event_values : Type := Int
abbrev R_event_values : Type := Bool
noncomputable def J_event_values : Job Tryd.prog :=
  job Tryd.prog Tryd.f43 13 [] [] [] [] [.any] [] [] R_event_values [] fun y => [V.bool y]
noncomputable def S_event_values : LabS :=
  lab0 Tryd.f43 1 0 X_event_values (fun x => [(V.int .i64) x]) fun l => (dI (at_ l 0))
noncomputable def tt_event_values (x : X_event_values) : TT Tryd.prog R_event_values :=
 (.ite (ile 8 x)
 (.ite (ile x 10)
 (.ret true)
 (.ret (ieq x 12)))
 (.ret (ieq x 12)))
theorem sd_event_values (x : X_event_values) : (tt_event_values x).Sides :=
  (TT.s_ite (TT.s_ite TT.s_ret TT.s_ret) TT.s_ret)

noncomputable def D_event_values : Dyn X_event_values R_event_values := .of tt_event_values
noncomputable def con_event_values : Con Tryd.prog :=
  mkCon 43 J_event_values S_event_values D_event_values D_event_values (fun _ _ h => h) 1 0 [.any] (by kernel_rfl) (by kernel_rfl) (by kernel_rfl) (lab_ok mixed_ok labs_nil 4000 (fun x => by kernel_rfl) sd_event_values) rfl rfl (fun _ => rfl) (by kernel_rfl) rfl (fun _ => rfl) (fun x y _ => by kernel_rfl)

def d_TApi_Event (v : V) : TApi_Event :=
  ⟨dI (fd v 0), dI (fd v 1), dI (fd v 2), dI (fd v 3), dI (fd v 4)⟩

def e_TApi_Event (x : TApi_Event) : V :=
  V.cons ((V.int .i64) x.Thread) (V.cons ((V.int .i64) x.Kind) (V.cons ((V.int .i64) x.Ring) (V.cons ((V.int .u64) x.Ticket) (V.cons ((V.int .u64) x.Value) (V.unit)))))

theorem nu_e_TApi_Event (x : TApi_Event) : (e_TApi_Event x).NoU := ⟨trivial, trivial, trivial, trivial, trivial, trivial⟩

/-! event.bare (event_bare) -/
abbrev X_event_bare : Type := TApi_Event
abbrev R_event_bare : Type := TApi_Event
noncomputable def J_event_bare : Job Tryd.prog :=
  job Tryd.prog Tryd.f30 19 [] [] [] [] [.any] [] [con_event_Rings, con_event_tickets, con_event_values] R_event_bare [] fun y => [e_TApi_Event y]
noncomputable def S_event_bare : LabS :=
  lab0 Tryd.f30 1 0 X_event_bare (fun x => [e_TApi_Event x]) fun l => (d_TApi_Event (at_ l 0))
structure X_event_bare_3 where
  m_1 : TApi_Event
  m_2 : TApi_Event
noncomputable def S_event_bare_3 : LabS :=
  labAt Tryd.f30 3 [(1, .any), (2, .any)] [] [(.loc 1 0, .any), (.loc 2 0, .any)] X_event_bare_3 (fun x => [(V.ptr (.loc 1 0) []), (V.ptr (.loc 2 0) []), e_TApi_Event x.m_1, e_TApi_Event x.m_2]) fun l => ⟨d_TApi_Event (at_ l 2), d_TApi_Event (at_ l 3)⟩
structure X_event_bare_5 where
  m_1 : TApi_Event
  m_2 : TApi_Event
noncomputable def S_event_bare_5 : LabS :=
  labAt Tryd.f30 5 [(1, .any), (2, .any)] [] [(.loc 1 0, .any), (.loc 2 0, .any)] X_event_bare_5 (fun x => [(V.ptr (.loc 1 0) []), (V.ptr (.loc 2 0) []), e_TApi_Event x.m_1, e_TApi_Event x.m_2]) fun l => ⟨d_TApi_Event (at_ l 2), d_TApi_Event (at_ l 3)⟩
noncomputable def tt_event_bare_5 (x : X_event_bare_5) : TT Tryd.prog R_event_bare :=
 (.call con_event_values x.m_1.Kind fun (y1 : R_event_values) =>
 (.ite (!y1)
 (.ret (TApi_Event.mk x.m_1.Thread x.m_1.Kind x.m_1.Ring x.m_1.Ticket 0))
 (.ret x.m_1)))
theorem sd_event_bare_5 (x : X_event_bare_5) : (tt_event_bare_5 x).Sides :=
  (TT.s_call fun _ => (TT.s_ite TT.s_ret TT.s_ret))

noncomputable def D_event_bare_5 : Dyn X_event_bare_5 R_event_bare := .of tt_event_bare_5
theorem ok_event_bare_5 : LabOK J_event_bare S_event_bare_5 D_event_bare_5 :=
  lab_ok mixed_ok labs_nil 4000 (fun x => by kernel_rfl) sd_event_bare_5
noncomputable def tt_event_bare_3 (x : X_event_bare_3) : TT Tryd.prog R_event_bare :=
 (.call con_event_tickets x.m_1.Kind fun (y1 : R_event_tickets) =>
 (.ite (!y1)
 (.jump S_event_bare_5 D_event_bare_5 (X_event_bare_5.mk (TApi_Event.mk x.m_1.Thread x.m_1.Kind x.m_1.Ring 0 x.m_1.Value) x.m_2))
 (.jump S_event_bare_5 D_event_bare_5 (X_event_bare_5.mk x.m_1 x.m_2))))
theorem sd_event_bare_3 (x : X_event_bare_3) : (tt_event_bare_3 x).Sides :=
  (TT.s_call fun _ => (TT.s_ite TT.s_jump TT.s_jump))

noncomputable def D_event_bare_3 : Dyn X_event_bare_3 R_event_bare := .of tt_event_bare_3
theorem ok_event_bare_3 : LabOK J_event_bare S_event_bare_3 D_event_bare_3 :=
  lab_ok mixed_ok (labs_cons2 ok_event_bare_5 rfl labs_nil) 4000 (fun x => by kernel_rfl) sd_event_bare_3
noncomputable def tt_event_bare (x : X_event_bare) : TT Tryd.prog R_event_bare :=
 (.call con_event_Rings x.Kind fun (y1 : R_event_Rings) =>
 (.ite (!y1)
 (.jump S_event_bare_3 D_event_bare_3 (X_event_bare_3.mk (TApi_Event.mk x.Thread x.Kind 0 x.Ticket x.Value) (TApi_Event.mk 0 0 0 0 0)))
 (.jump S_event_bare_3 D_event_bare_3 (X_event_bare_3.mk x (TApi_Event.mk 0 0 0 0 0)))))
theorem sd_event_bare (x : X_event_bare) : (tt_event_bare x).Sides :=
  (TT.s_call fun _ => (TT.s_ite TT.s_jump TT.s_jump))

noncomputable def D_event_bare : Dyn X_event_bare R_event_bare := .of tt_event_bare
noncomputable def con_event_bare : Con Tryd.prog :=
  mkCon 30 J_event_bare S_event_bare D_event_bare D_event_bare (fun _ _ h => h) 1 0 [.any] (by kernel_rfl) (by kernel_rfl) (by kernel_rfl) (lab_ok mixed_ok (labs_cons2 ok_event_bare_5 rfl (labs_cons2 ok_event_bare_3 rfl labs_nil)) 4000 (fun x => by kernel_rfl) sd_event_bare) rfl rfl (fun _ => rfl) (by kernel_rfl) rfl (fun _ => rfl) (fun x y _ => by kernel_rfl)

/-! event.Right (event_Right) -/
abbrev X_event_Right : Type := TApi_Event
abbrev R_event_Right : Type := Bool
noncomputable def J_event_Right : Job Tryd.prog :=
  job Tryd.prog Tryd.f12 38 [(1, 3)] [] [] [] [.any] [] [con_event_Name, con_event_bare] R_event_Right [] fun y => [V.bool y]
noncomputable def S_event_Right : LabS :=
  lab0 Tryd.f12 1 0 X_event_Right (fun x => [e_TApi_Event x]) fun l => (d_TApi_Event (at_ l 0))
noncomputable def tt_event_Right (x : X_event_Right) : TT Tryd.prog R_event_Right :=
 (.call con_event_Name x.Kind fun (y1 : R_event_Name) =>
 (.ite (!(seq y1 (ByteArray.mk #[])))
 (.call con_event_bare x fun (y2 : R_event_bare) =>
 (.ite ((ieq x.Thread y2.Thread) && ((ieq x.Kind y2.Kind) && ((ieq x.Ring y2.Ring) && ((ieq x.Ticket y2.Ticket) && ((ieq x.Value y2.Value) && true)))))
 (.ite (ile 0 x.Thread)
 (.ite (ilt x.Thread 8)
 (.ite (ile 0 x.Ring)
 (.ite (ilt x.Ring 8)
 (.ret (ilt x.Ticket 4611686018427387904))
 (.ret false))
 (.ret false))
 (.ret false))
 (.ret false))
 (.ret false)))
 (.ret false)))
theorem sd_event_Right (x : X_event_Right) : (tt_event_Right x).Sides :=
  (TT.s_call fun _ => (TT.s_ite (TT.s_call fun _ => (TT.s_ite (TT.s_ite (TT.s_ite (TT.s_ite (TT.s_ite TT.s_ret TT.s_ret) TT.s_ret) TT.s_ret) TT.s_ret) TT.s_ret)) TT.s_ret))

noncomputable def D_event_Right : Dyn X_event_Right R_event_Right := .of tt_event_Right
noncomputable def con_event_Right : Con Tryd.prog :=
  mkCon 12 J_event_Right S_event_Right D_event_Right D_event_Right (fun _ _ h => h) 1 0 [.any] (by kernel_rfl) (by kernel_rfl) (by kernel_rfl) (lab_ok mixed_ok labs_nil 4000 (fun x => by kernel_rfl) sd_event_Right) rfl rfl (fun _ => rfl) (by kernel_rfl) rfl (fun _ => rfl) (fun x y _ => by kernel_rfl)

/-! strconv.Itoa -/
abbrev X_strconv_Itoa : Type := Int
abbrev R_strconv_Itoa : Type := ByteArray
noncomputable def con_strconv_Itoa : Con Tryd.prog :=
  mkItoa 41 (by kernel_rfl : Tryd.prog.funcs[41]? = some Tryd.f41) (by kernel_rfl) (by kernel_rfl) (fun l _ => dI (at_ l 0)) [.any] g_Itoa

/-! strconv.FormatUint -/
abbrev X_strconv_FormatUint : Type := Int × Int
abbrev R_strconv_FormatUint : Type := ByteArray
noncomputable def con_strconv_FormatUint : Con Tryd.prog :=
  mkFU 42 (by kernel_rfl : Tryd.prog.funcs[42]? = some Tryd.f42) (by kernel_rfl) (by kernel_rfl) (fun l _ => (dI (at_ l 0), dI (at_ l 1))) [.any, .any] g_FU

/-! strings.Join -/
abbrev X_strings_Join : Type := (Sl ByteArray) × ByteArray
abbrev R_strings_Join : Type := ByteArray
noncomputable def con_strings_Join : Con Tryd.prog :=
  mkJoin lays156 bldr156 44 (by kernel_rfl) Tryd.f44 (by kernel_rfl) (by kernel_rfl) (by kernel_rfl) (fun l _ => (dsl_str (at_ l 0), dS (at_ l 1))) [hsl_str, .any]

abbrev DslA_str : Type := (Sl ByteArray)
def eslA_str : DslA_str → V := (eSl (some 9) 1 V.str)
def dslA_str : V → DslA_str := (dSl dS)
def hslA_str : Sh := (.sl (some 9) 1 (V.str (dS .undef)))

/-! event.line (event_line) -/
abbrev X_event_line : Type := TApi_Event
abbrev R_event_line : Type := ByteArray
noncomputable def J_event_line : Job Tryd.prog :=
  job Tryd.prog Tryd.f28 40 [(1, 3), (14, 1), (23, 1), (32, 1), (38, 1)] [] [] [] [.any] [] [con_event_Name, con_event_Rings, con_event_tickets, con_event_values, con_strconv_FormatUint, con_strconv_Itoa, con_strings_Join] R_event_line [] fun y => [V.str y]
noncomputable def S_event_line : LabS :=
  lab0 Tryd.f28 1 0 X_event_line (fun x => [e_TApi_Event x]) fun l => (d_TApi_Event (at_ l 0))
structure X_event_line_4 where
  e_1 : TApi_Event
  w_3 : (Sl ByteArray)
noncomputable def S_event_line_4 : LabS :=
  labAt Tryd.f28 4 [(1, .any), (3, hslA_str)] [] [] X_event_line_4 (fun x => [(eVp e_TApi_Event) x.e_1, eslA_str x.w_3]) fun l => ⟨(dVp d_TApi_Event) (at_ l 0), dslA_str (at_ l 1)⟩
structure X_event_line_6 where
  e_1 : TApi_Event
  w_3 : (Sl ByteArray)
noncomputable def S_event_line_6 : LabS :=
  labAt Tryd.f28 6 [(1, .any), (3, hslA_str)] [] [] X_event_line_6 (fun x => [(eVp e_TApi_Event) x.e_1, eslA_str x.w_3]) fun l => ⟨(dVp d_TApi_Event) (at_ l 0), dslA_str (at_ l 1)⟩
noncomputable def tt_event_line_6 (x : X_event_line_6) : TT Tryd.prog R_event_line :=
 (.call con_event_values x.e_1.Kind fun (y1 : R_event_values) =>
 (.ite y1
 (.call con_strconv_FormatUint (x.e_1.Value, 10) fun (y2 : R_strconv_FormatUint) =>
 (.need (true && (room (x.w_3.n + 1) 16)) <|
 (.call con_strings_Join ((Sl.mk (cond (Nat.beq 1 0) x.w_3.nil false) (x.w_3.n + 1) (fun i3 => (cond (Nat.blt i3 x.w_3.n) (x.w_3.get i3) y2))), (ByteArray.mk #[32])) fun (y3 : R_strings_Join) =>
 (.ret y3))))
 (.call con_strings_Join (x.w_3, (ByteArray.mk #[32])) fun (y2 : R_strings_Join) =>
 (.ret y2))))
theorem sd_event_line_6 (x : X_event_line_6) : (tt_event_line_6 x).Sides :=
  (TT.s_call fun _ => (TT.s_ite (TT.s_call fun _ => (TT.s_need (TT.s_call fun _ => TT.s_ret))) (TT.s_call fun _ => TT.s_ret)))

noncomputable def D_event_line_6 : Dyn X_event_line_6 R_event_line := .of tt_event_line_6
theorem ok_event_line_6 : LabOK J_event_line S_event_line_6 D_event_line_6 :=
  lab_ok mixed_ok labs_nil 4000 (fun x => by kernel_rfl) sd_event_line_6
noncomputable def tt_event_line_4 (x : X_event_line_4) : TT Tryd.prog R_event_line :=
 (.call con_event_tickets x.e_1.Kind fun (y1 : R_event_tickets) =>
 (.ite y1
 (.call con_strconv_FormatUint (x.e_1.Ticket, 10) fun (y2 : R_strconv_FormatUint) =>
 (.need (true && (room (x.w_3.n + 1) 16)) <|
 (.jump S_event_line_6 D_event_line_6 (X_event_line_6.mk x.e_1 (Sl.mk (cond (Nat.beq 1 0) x.w_3.nil false) (x.w_3.n + 1) (fun i3 => (cond (Nat.blt i3 x.w_3.n) (x.w_3.get i3) y2)))))))
 (.jump S_event_line_6 D_event_line_6 (X_event_line_6.mk x.e_1 x.w_3))))
theorem sd_event_line_4 (x : X_event_line_4) : (tt_event_line_4 x).Sides :=
  (TT.s_call fun _ => (TT.s_ite (TT.s_call fun _ => (TT.s_need TT.s_jump)) TT.s_jump))

noncomputable def D_event_line_4 : Dyn X_event_line_4 R_event_line := .of tt_event_line_4
theorem ok_event_line_4 : LabOK J_event_line S_event_line_4 D_event_line_4 :=
  lab_ok mixed_ok (labs_cons2 ok_event_line_6 rfl labs_nil) 4000 (fun x => by kernel_rfl) sd_event_line_4
noncomputable def tt_event_line (x : X_event_line) : TT Tryd.prog R_event_line :=
 (.call con_strconv_Itoa x.Thread fun (y1 : R_strconv_Itoa) =>
 (.call con_event_Name x.Kind fun (y2 : R_event_Name) =>
 (.call con_event_Rings x.Kind fun (y3 : R_event_Rings) =>
 (.ite y3
 (.call con_strconv_Itoa x.Ring fun (y4 : R_strconv_Itoa) =>
 (.jump S_event_line_4 D_event_line_4 (X_event_line_4.mk x (Sl.mk (cond (Nat.beq 1 0) false false) 3 (fun i5 => (cond (Nat.blt i5 2) (cond (Nat.beq i5 0) y1 y2) y4))))))
 (.jump S_event_line_4 D_event_line_4 (X_event_line_4.mk x (Sl.mk false 2 (fun i4 => (cond (Nat.beq i4 0) y1 y2)))))))))
theorem sd_event_line (x : X_event_line) : (tt_event_line x).Sides :=
  (TT.s_call fun _ => (TT.s_call fun _ => (TT.s_call fun _ => (TT.s_ite (TT.s_call fun _ => TT.s_jump) TT.s_jump))))

noncomputable def D_event_line : Dyn X_event_line R_event_line := .of tt_event_line
noncomputable def con_event_line : Con Tryd.prog :=
  mkCon 28 J_event_line S_event_line D_event_line D_event_line (fun _ _ h => h) 1 0 [.any] (by kernel_rfl) (by kernel_rfl) (by kernel_rfl) (lab_ok mixed_ok (labs_cons2 ok_event_line_6 rfl (labs_cons2 ok_event_line_4 rfl labs_nil)) 4000 (fun x => by kernel_rfl) sd_event_line) rfl rfl (fun _ => rfl) (by kernel_rfl) rfl (fun _ => rfl) (fun x y _ => by kernel_rfl)

/-! event.Line (event_Line) -/
abbrev X_event_Line : Type := TApi_Event
abbrev R_event_Line : Type := ByteArray × Int
noncomputable def J_event_Line : Job Tryd.prog :=
  job Tryd.prog Tryd.f10 9 [(1, 3)] [] [] [] [.any, .any] [] [con_event_Right, con_event_line] R_event_Line [] fun y => [V.tup (V.cons (V.str y.1) (V.cons ((V.int .i64) y.2) (V.unit)))]
noncomputable def S_event_Line : LabS :=
  lab0 Tryd.f10 1 0 X_event_Line (fun x => [e_TApi_Event x]) fun l => (d_TApi_Event (at_ l 0))
noncomputable def tt_event_Line (x : X_event_Line) : TT Tryd.prog R_event_Line :=
 (.call con_event_Right x fun (y1 : R_event_Right) =>
 (.ite (!y1)
 (.ret ((ByteArray.mk #[]), 3))
 (.call con_event_line x fun (y2 : R_event_line) =>
 (.ret (y2, 0)))))
theorem sd_event_Line (x : X_event_Line) : (tt_event_Line x).Sides :=
  (TT.s_call fun _ => (TT.s_ite TT.s_ret (TT.s_call fun _ => TT.s_ret)))

noncomputable def D_event_Line : Dyn X_event_Line R_event_Line := .of tt_event_Line
noncomputable def con_event_Line : Con Tryd.prog :=
  mkCon 10 J_event_Line S_event_Line D_event_Line D_event_Line (fun _ _ h => h) 1 0 [.any] (by kernel_rfl) (by kernel_rfl) (by kernel_rfl) (lab_ok mixed_ok labs_nil 4000 (fun x => by kernel_rfl) sd_event_Line) rfl rfl (fun _ => rfl) (by kernel_rfl) rfl (fun _ => rfl) (fun x y _ => by kernel_rfl)

/-! slices.Index[[]string,string] (slices_Index_string) -/
abbrev X_slices_Index_string : Type := (Sl ByteArray) × ByteArray
abbrev R_slices_Index_string : Type := Int
noncomputable def J_slices_Index_string : Job Tryd.prog :=
  job Tryd.prog Tryd.f32 19 [] [] [] [] [.any] [] [] R_slices_Index_string [] fun y => [(V.int .i64) y]
noncomputable def S_slices_Index_string : LabS :=
  lab0 Tryd.f32 2 0 X_slices_Index_string (fun x => [esl_str x.1, V.str x.2]) fun l => (dsl_str (at_ l 0), dS (at_ l 1))
structure X_slices_Index_string_2 where
  s_0 : (Sl ByteArray)
  v_1 : ByteArray
  q_7 : Int
  q_8 : Int
noncomputable def S_slices_Index_string_2 : LabS :=
  labAt Tryd.f32 2 [(0, hsl_str), (1, .any), (7, .any), (8, .any)] [] [] X_slices_Index_string_2 (fun x => [esl_str x.s_0, V.str x.v_1, (V.int .i64) x.q_7, (V.int .i64) x.q_8]) fun l => ⟨dsl_str (at_ l 0), dS (at_ l 1), dI (at_ l 2), dI (at_ l 3)⟩
noncomputable def tt_slices_Index_string_2 (D_slices_Index_string_2 : Dyn X_slices_Index_string_2 R_slices_Index_string) (x : X_slices_Index_string_2) : TT Tryd.prog R_slices_Index_string :=
 (.ite (ilt x.q_8 x.q_7)
 (.need (inb x.q_8 x.s_0.n) <|
 (.ite (seq x.v_1 (x.s_0.get (Int.toNat x.q_8)))
 (.ret x.q_8)
 (.jump S_slices_Index_string_2 D_slices_Index_string_2 (X_slices_Index_string_2.mk x.s_0 x.v_1 x.q_7 (IntKind.i64.wrap (x.q_8 + 1))))))
 (.ret (-(1 : Int))))
theorem sd_slices_Index_string_2 (D_slices_Index_string_2 : Dyn X_slices_Index_string_2 R_slices_Index_string) (x : X_slices_Index_string_2) : (tt_slices_Index_string_2 D_slices_Index_string_2 x).Sides :=
  (TT.s_ite (TT.s_need (TT.s_ite TT.s_ret TT.s_jump)) TT.s_ret)

noncomputable def D_slices_Index_string_2 : Dyn X_slices_Index_string_2 R_slices_Index_string := Dyn.loop tt_slices_Index_string_2
theorem ok_slices_Index_string_2 : LabOK J_slices_Index_string S_slices_Index_string_2 D_slices_Index_string_2 :=
  loop_ok fun D_slices_Index_string_2 h_2 => lab_ok mixed_ok (labs_cons2 h_2 rfl labs_nil) 4000 (fun x => by kernel_rfl) (sd_slices_Index_string_2 D_slices_Index_string_2)
noncomputable def tt_slices_Index_string (x : X_slices_Index_string) : TT Tryd.prog R_slices_Index_string :=
 (.jump S_slices_Index_string_2 D_slices_Index_string_2 (X_slices_Index_string_2.mk x.fst x.snd ((x.fst.n : Nat) : Int) 0))
theorem sd_slices_Index_string (x : X_slices_Index_string) : (tt_slices_Index_string x).Sides :=
  TT.s_jump

noncomputable def D_slices_Index_string : Dyn X_slices_Index_string R_slices_Index_string := .of tt_slices_Index_string
noncomputable def con_slices_Index_string : Con Tryd.prog :=
  mkCon 32 J_slices_Index_string S_slices_Index_string D_slices_Index_string D_slices_Index_string (fun _ _ h => h) 2 0 [hsl_str, .any] (by kernel_rfl) (by kernel_rfl) (by kernel_rfl) (lab_ok mixed_ok (labs_cons2 ok_slices_Index_string_2 rfl labs_nil) 4000 (fun x => by kernel_rfl) sd_slices_Index_string) rfl rfl (fun _ => rfl) (by kernel_rfl) rfl (fun _ => rfl) (fun x y _ => by kernel_rfl)

/-! event.Find (event_Find) -/
abbrev X_event_Find : Type := ByteArray
abbrev R_event_Find : Type := Int × Bool
noncomputable def J_event_Find : Job Tryd.prog :=
  job Tryd.prog Tryd.f15 12 [] [] [] [] [.any, .any] [] [con_event_names, con_slices_Index_string] R_event_Find [] fun y => [V.tup (V.cons ((V.int .i64) y.1) (V.cons (V.bool y.2) (V.unit)))]
noncomputable def S_event_Find : LabS :=
  lab0 Tryd.f15 1 0 X_event_Find (fun x => [V.str x]) fun l => (dS (at_ l 0))
noncomputable def tt_event_Find (x : X_event_Find) : TT Tryd.prog R_event_Find :=
 (.call con_event_names PUnit.unit fun (y1 : R_event_names) =>
 (.call con_slices_Index_string (y1, x) fun (y2 : R_slices_Index_string) =>
 (.ite (ilt y2 0)
 (.ret (0, false))
 (.ret ((IntKind.i64.wrap (y2 + 1)), true)))))
theorem sd_event_Find (x : X_event_Find) : (tt_event_Find x).Sides :=
  (TT.s_call fun _ => (TT.s_call fun _ => (TT.s_ite TT.s_ret TT.s_ret)))

noncomputable def D_event_Find : Dyn X_event_Find R_event_Find := .of tt_event_Find
noncomputable def con_event_Find : Con Tryd.prog :=
  mkCon 15 J_event_Find S_event_Find D_event_Find D_event_Find (fun _ _ h => h) 1 0 [.any] (by kernel_rfl) (by kernel_rfl) (by kernel_rfl) (lab_ok mixed_ok labs_nil 4000 (fun x => by kernel_rfl) sd_event_Find) rfl rfl (fun _ => rfl) (by kernel_rfl) rfl (fun _ => rfl) (fun x y _ => by kernel_rfl)

structure TEvent_words where
  l : (Sl ByteArray)
  ok : Bool

def d_TEvent_words (v : V) : TEvent_words :=
  ⟨dsl_str (fd v 0), dB (fd v 1)⟩

def e_TEvent_words (x : TEvent_words) : V :=
  V.cons (esl_str x.l) (V.cons (V.bool x.ok) (V.unit))

theorem nu_e_TEvent_words (x : TEvent_words) : (e_TEvent_words x).NoU := ⟨trivial, trivial, trivial⟩

def sh_TEvent_words : Sh := (.cons hsl_str .any)

/-! strconv.ParseUint -/
abbrev X_strconv_ParseUint : Type := ByteArray × Int × Int
abbrev R_strconv_ParseUint : Type := Int × Bool
noncomputable def con_strconv_ParseUint : Con Tryd.prog :=
  mkPU 57 (by kernel_rfl : Tryd.prog.funcs[57]? = some Tryd.f57) (by kernel_rfl) (by kernel_rfl) 113 (fun l _ => (dS (at_ l 0), dI (at_ l 1), dI (at_ l 2))) [.any, .any, .any] g_PU

/-! (*event.words).next (event_words_next) -/
abbrev X_event_words_next : Type := TEvent_words
abbrev R_event_words_next : Type := Int × TEvent_words
noncomputable def J_event_words_next : Job Tryd.prog :=
  job Tryd.prog Tryd.f49 44 [(14, 1)] [] [] [] [.any] [sh_TEvent_words] [con_strconv_ParseUint] R_event_words_next [] fun y => [(V.int .u64) y.1, e_TEvent_words y.2]
noncomputable def S_event_words_next : LabS :=
  lab0 Tryd.f49 1 1 X_event_words_next (fun x => [(V.ptr (.par 0) []), e_TEvent_words x]) fun l => (d_TEvent_words (at_ l 1))
structure X_event_words_next_6 where
  n_3 : Int
  o_0 : TEvent_words
noncomputable def S_event_words_next_6 : LabS :=
  labAt Tryd.f49 6 [(0, .any), (3, .any)] [sh_TEvent_words] [] X_event_words_next_6 (fun x => [(V.ptr (.par 0) []), (V.int .u64) x.n_3, e_TEvent_words x.o_0]) fun l => ⟨dI (at_ l 1), d_TEvent_words (at_ l 2)⟩
noncomputable def tt_event_words_next_6 (x : X_event_words_next_6) : TT Tryd.prog R_event_words_next :=
 (.need (upto 1 x.o_0.l.n) <|
 (.ret (x.n_3, (TEvent_words.mk (Sl.mk x.o_0.l.nil (x.o_0.l.n - (Int.toNat 1)) (fun i1 => (x.o_0.l.get ((Int.toNat 1) + i1)))) x.o_0.ok))))
theorem sd_event_words_next_6 (x : X_event_words_next_6) : (tt_event_words_next_6 x).Sides :=
  (TT.s_need TT.s_ret)

noncomputable def D_event_words_next_6 : Dyn X_event_words_next_6 R_event_words_next := .of tt_event_words_next_6
theorem ok_event_words_next_6 : LabOK J_event_words_next S_event_words_next_6 D_event_words_next_6 :=
  lab_ok mixed_ok labs_nil 4000 (fun x => by kernel_rfl) sd_event_words_next_6
noncomputable def tt_event_words_next (x : X_event_words_next) : TT Tryd.prog R_event_words_next :=
 (.ite (ieq ((x.l.n : Nat) : Int) 0)
 (.ret (0, (TEvent_words.mk x.l false)))
 (.need (inb 0 x.l.n) <|
 (.call con_strconv_ParseUint ((x.l.get (Int.toNat 0)), (10, 64)) fun (y1 : R_strconv_ParseUint) =>
 (.ite y1.snd
 (.ite x.ok
 (.jump S_event_words_next_6 D_event_words_next_6 (X_event_words_next_6.mk y1.fst (TEvent_words.mk x.l false)))
 (.jump S_event_words_next_6 D_event_words_next_6 (X_event_words_next_6.mk y1.fst (TEvent_words.mk x.l false))))
 (.ite x.ok
 (.jump S_event_words_next_6 D_event_words_next_6 (X_event_words_next_6.mk y1.fst (TEvent_words.mk x.l true)))
 (.jump S_event_words_next_6 D_event_words_next_6 (X_event_words_next_6.mk y1.fst (TEvent_words.mk x.l false))))))))
theorem sd_event_words_next (x : X_event_words_next) : (tt_event_words_next x).Sides :=
  (TT.s_ite TT.s_ret (TT.s_need (TT.s_call fun _ => (TT.s_ite (TT.s_ite TT.s_jump TT.s_jump) (TT.s_ite TT.s_jump TT.s_jump)))))

noncomputable def D_event_words_next : Dyn X_event_words_next R_event_words_next := .of tt_event_words_next
noncomputable def con_event_words_next : Con Tryd.prog :=
  mkCon 49 J_event_words_next S_event_words_next D_event_words_next D_event_words_next (fun _ _ h => h) 1 1 [.any] (by kernel_rfl) (by kernel_rfl) (by kernel_rfl) (lab_ok mixed_ok (labs_cons2 ok_event_words_next_6 rfl labs_nil) 4000 (fun x => by kernel_rfl) sd_event_words_next) rfl rfl (fun _ => rfl) (by kernel_rfl) rfl (fun _ => rfl) (fun x y _ => by kernel_rfl)

/-! (*event.words).small (event_words_small) -/
abbrev X_event_words_small : Type := TEvent_words
abbrev R_event_words_small : Type := Int × TEvent_words
noncomputable def J_event_words_small : Job Tryd.prog :=
  job Tryd.prog Tryd.f48 7 [] [] [] [] [.any] [sh_TEvent_words] [con_event_words_next] R_event_words_small [] fun y => [(V.int .i64) y.1, e_TEvent_words y.2]
noncomputable def S_event_words_small : LabS :=
  lab0 Tryd.f48 1 1 X_event_words_small (fun x => [(V.ptr (.par 0) []), e_TEvent_words x]) fun l => (d_TEvent_words (at_ l 1))
noncomputable def tt_event_words_small (x : X_event_words_small) : TT Tryd.prog R_event_words_small :=
 (.call con_event_words_next x fun (y1 : R_event_words_next) =>
 (.ret ((IntKind.i64.wrap (imin y1.fst 1024)), y1.snd)))
theorem sd_event_words_small (x : X_event_words_small) : (tt_event_words_small x).Sides :=
  (TT.s_call fun _ => TT.s_ret)

noncomputable def D_event_words_small : Dyn X_event_words_small R_event_words_small := .of tt_event_words_small
noncomputable def con_event_words_small : Con Tryd.prog :=
  mkCon 48 J_event_words_small S_event_words_small D_event_words_small D_event_words_small (fun _ _ h => h) 1 1 [.any] (by kernel_rfl) (by kernel_rfl) (by kernel_rfl) (lab_ok mixed_ok labs_nil 4000 (fun x => by kernel_rfl) sd_event_words_small) rfl rfl (fun _ => rfl) (by kernel_rfl) rfl (fun _ => rfl) (fun x y _ => by kernel_rfl)

/-! strings.Split -/
abbrev X_strings_Split : Type := ByteArray × ByteArray
abbrev R_strings_Split : Type := Sl ByteArray
noncomputable def con_strings_Split : Con Tryd.prog :=
  mkSplit 47 (by kernel_rfl : Tryd.prog.funcs[47]? = some Tryd.f47) (by kernel_rfl) (by kernel_rfl) (fun l _ => (dS (at_ l 0), dS (at_ l 1))) [.any, .any] g_Split

/-! event.readLine (event_readLine) -/
abbrev X_event_readLine : Type := ByteArray
abbrev R_event_readLine : Type := TApi_Event × Bool
noncomputable def J_event_readLine : Job Tryd.prog :=
  job Tryd.prog Tryd.f38 76 [(21, 1), (22, 1)] [] [] [] [.any, .any] [] [con_event_Find, con_event_Right, con_event_Rings, con_event_line, con_event_tickets, con_event_values, con_event_words_next, con_event_words_small, con_strings_Split] R_event_readLine [] fun y => [V.tup (V.cons (e_TApi_Event y.1) (V.cons (V.bool y.2) (V.unit)))]
noncomputable def S_event_readLine : LabS :=
  lab0 Tryd.f38 1 0 X_event_readLine (fun x => [V.str x]) fun l => (dS (at_ l 0))
structure X_event_readLine_9 where
  s_0 : ByteArray
  ok_3 : Bool
  m_2 : TApi_Event
  m_20 : TEvent_words
noncomputable def S_event_readLine_9 : LabS :=
  labAt Tryd.f38 9 [(0, .any), (2, .any), (3, .any), (5, .any)] [] [(.loc 2 0, .any), (.loc 20 0, sh_TEvent_words)] X_event_readLine_9 (fun x => [V.str x.s_0, (V.ptr (.loc 2 0) []), V.bool x.ok_3, (V.ptr (.loc 20 0) []), e_TApi_Event x.m_2, e_TEvent_words x.m_20]) fun l => ⟨dS (at_ l 0), dB (at_ l 2), d_TApi_Event (at_ l 4), d_TEvent_words (at_ l 5)⟩
structure X_event_readLine_11 where
  s_0 : ByteArray
  ok_3 : Bool
  m_2 : TApi_Event
  m_20 : TEvent_words
noncomputable def S_event_readLine_11 : LabS :=
  labAt Tryd.f38 11 [(0, .any), (2, .any), (3, .any), (5, .any)] [] [(.loc 2 0, .any), (.loc 20 0, sh_TEvent_words)] X_event_readLine_11 (fun x => [V.str x.s_0, (V.ptr (.loc 2 0) []), V.bool x.ok_3, (V.ptr (.loc 20 0) []), e_TApi_Event x.m_2, e_TEvent_words x.m_20]) fun l => ⟨dS (at_ l 0), dB (at_ l 2), d_TApi_Event (at_ l 4), d_TEvent_words (at_ l 5)⟩
structure X_event_readLine_13 where
  s_0 : ByteArray
  ok_3 : Bool
  m_2 : TApi_Event
  m_20 : TEvent_words
noncomputable def S_event_readLine_13 : LabS :=
  labAt Tryd.f38 13 [(0, .any), (2, .any), (3, .any), (5, .any)] [] [(.loc 2 0, .any), (.loc 20 0, sh_TEvent_words)] X_event_readLine_13 (fun x => [V.str x.s_0, (V.ptr (.loc 2 0) []), V.bool x.ok_3, (V.ptr (.loc 20 0) []), e_TApi_Event x.m_2, e_TEvent_words x.m_20]) fun l => ⟨dS (at_ l 0), dB (at_ l 2), d_TApi_Event (at_ l 4), d_TEvent_words (at_ l 5)⟩
noncomputable def tt_event_readLine_13 (x : X_event_readLine_13) : TT Tryd.prog R_event_readLine :=
 (.ite x.ok_3
 (.ite x.m_20.ok
 (.ite (ieq ((x.m_20.l.n : Nat) : Int) 0)
 (.call con_event_Right x.m_2 fun (y1 : R_event_Right) =>
 (.ite y1
 (.call con_event_line x.m_2 fun (y2 : R_event_line) =>
 (.ret (x.m_2, (seq y2 x.s_0))))
 (.ret (x.m_2, false))))
 (.ret (x.m_2, false)))
 (.ret (x.m_2, false)))
 (.ret (x.m_2, false)))
theorem sd_event_readLine_13 (x : X_event_readLine_13) : (tt_event_readLine_13 x).Sides :=
  (TT.s_ite (TT.s_ite (TT.s_ite (TT.s_call fun _ => (TT.s_ite (TT.s_call fun _ => TT.s_ret) TT.s_ret)) TT.s_ret) TT.s_ret) TT.s_ret)

noncomputable def D_event_readLine_13 : Dyn X_event_readLine_13 R_event_readLine := .of tt_event_readLine_13
theorem ok_event_readLine_13 : LabOK J_event_readLine S_event_readLine_13 D_event_readLine_13 :=
  lab_ok mixed_ok labs_nil 4000 (fun x => by kernel_rfl) sd_event_readLine_13
noncomputable def tt_event_readLine_11 (x : X_event_readLine_11) : TT Tryd.prog R_event_readLine :=
 (.call con_event_values x.m_2.Kind fun (y1 : R_event_values) =>
 (.ite y1
 (.call con_event_words_next x.m_20 fun (y2 : R_event_words_next) =>
 (.jump S_event_readLine_13 D_event_readLine_13 (X_event_readLine_13.mk x.s_0 x.ok_3 (TApi_Event.mk x.m_2.Thread x.m_2.Kind x.m_2.Ring x.m_2.Ticket y2.fst) y2.snd)))
 (.jump S_event_readLine_13 D_event_readLine_13 (X_event_readLine_13.mk x.s_0 x.ok_3 x.m_2 x.m_20))))
theorem sd_event_readLine_11 (x : X_event_readLine_11) : (tt_event_readLine_11 x).Sides :=
  (TT.s_call fun _ => (TT.s_ite (TT.s_call fun _ => TT.s_jump) TT.s_jump))

noncomputable def D_event_readLine_11 : Dyn X_event_readLine_11 R_event_readLine := .of tt_event_readLine_11
theorem ok_event_readLine_11 : LabOK J_event_readLine S_event_readLine_11 D_event_readLine_11 :=
  lab_ok mixed_ok (labs_cons2 ok_event_readLine_13 rfl labs_nil) 4000 (fun x => by kernel_rfl) sd_event_readLine_11
noncomputable def tt_event_readLine_9 (x : X_event_readLine_9) : TT Tryd.prog R_event_readLine :=
 (.call con_event_tickets x.m_2.Kind fun (y1 : R_event_tickets) =>
 (.ite y1
 (.call con_event_words_next x.m_20 fun (y2 : R_event_words_next) =>
 (.jump S_event_readLine_11 D_event_readLine_11 (X_event_readLine_11.mk x.s_0 x.ok_3 (TApi_Event.mk x.m_2.Thread x.m_2.Kind x.m_2.Ring y2.fst x.m_2.Value) y2.snd)))
 (.jump S_event_readLine_11 D_event_readLine_11 (X_event_readLine_11.mk x.s_0 x.ok_3 x.m_2 x.m_20))))
theorem sd_event_readLine_9 (x : X_event_readLine_9) : (tt_event_readLine_9 x).Sides :=
  (TT.s_call fun _ => (TT.s_ite (TT.s_call fun _ => TT.s_jump) TT.s_jump))

noncomputable def D_event_readLine_9 : Dyn X_event_readLine_9 R_event_readLine := .of tt_event_readLine_9
theorem ok_event_readLine_9 : LabOK J_event_readLine S_event_readLine_9 D_event_readLine_9 :=
  lab_ok mixed_ok (labs_cons2 ok_event_readLine_13 rfl (labs_cons2 ok_event_readLine_11 rfl labs_nil)) 4000 (fun x => by kernel_rfl) sd_event_readLine_9
noncomputable def tt_event_readLine (x : X_event_readLine) : TT Tryd.prog R_event_readLine :=
 (.call con_strings_Split (x, (ByteArray.mk #[32])) fun (y1 : R_strings_Split) =>
 (.ite (ilt ((y1.n : Nat) : Int) 2)
 (.ret ((TApi_Event.mk 0 0 0 0 0), false))
 (.need (inb 0 y1.n) <|
 (.need (upto 2 y1.n) <|
 (.need (true && (room ((1 : Nat) + (y1.n - (Int.toNat 2))) 16)) <|
 (.need (inb 1 y1.n) <|
 (.call con_event_Find (y1.get (Int.toNat 1)) fun (y2 : R_event_Find) =>
 (.call con_event_words_small (TEvent_words.mk (Sl.mk (cond (Nat.beq (y1.n - (Int.toNat 2)) 0) false false) ((1 : Nat) + (y1.n - (Int.toNat 2))) (fun i3 => (cond (Nat.blt i3 1) (y1.get (Int.toNat 0)) (y1.get ((Int.toNat 2) + (i3 - 1)))))) true) fun (y3 : R_event_words_small) =>
 (.call con_event_Rings y2.fst fun (y4 : R_event_Rings) =>
 (.ite y4
 (.call con_event_words_small y3.snd fun (y5 : R_event_words_small) =>
 (.jump S_event_readLine_9 D_event_readLine_9 (X_event_readLine_9.mk x y2.snd (TApi_Event.mk y3.fst y2.fst y5.fst 0 0) y5.snd)))
 (.jump S_event_readLine_9 D_event_readLine_9 (X_event_readLine_9.mk x y2.snd (TApi_Event.mk y3.fst y2.fst 0 0 0) y3.snd))))))))))))
theorem sd_event_readLine (x : X_event_readLine) : (tt_event_readLine x).Sides :=
  (TT.s_call fun _ => (TT.s_ite TT.s_ret (TT.s_need (TT.s_need (TT.s_need (TT.s_need (TT.s_call fun _ => (TT.s_call fun _ => (TT.s_call fun _ => (TT.s_ite (TT.s_call fun _ => TT.s_jump) TT.s_jump))))))))))

noncomputable def D_event_readLine : Dyn X_event_readLine R_event_readLine := .of tt_event_readLine
noncomputable def con_event_readLine : Con Tryd.prog :=
  mkCon 38 J_event_readLine S_event_readLine D_event_readLine D_event_readLine (fun _ _ h => h) 1 0 [.any] (by kernel_rfl) (by kernel_rfl) (by kernel_rfl) (lab_ok mixed_ok (labs_cons2 ok_event_readLine_13 rfl (labs_cons2 ok_event_readLine_11 rfl (labs_cons2 ok_event_readLine_9 rfl labs_nil))) 4000 (fun x => by kernel_rfl) sd_event_readLine) rfl rfl (fun _ => rfl) (by kernel_rfl) rfl (fun _ => rfl) (fun x y _ => by kernel_rfl)

/-! strings.Cut -/
abbrev X_strings_Cut : Type := ByteArray × ByteArray
abbrev R_strings_Cut : Type := ByteArray × ByteArray × Bool
noncomputable def con_strings_Cut : Con Tryd.prog :=
  mkCut 37 (by kernel_rfl : Tryd.prog.funcs[37]? = some Tryd.f37) (by kernel_rfl) (by kernel_rfl) (fun l _ => (dS (at_ l 0), dS (at_ l 1))) [.any, .any] g_Cut

abbrev Dsl_TApi_Event : Type := (Sl TApi_Event)
def esl_TApi_Event : Dsl_TApi_Event → V := (eSl none 5 e_TApi_Event)
def dsl_TApi_Event : V → Dsl_TApi_Event := (dSl d_TApi_Event)
def hsl_TApi_Event : Sh := (.sl none 5 (e_TApi_Event (d_TApi_Event .undef)))

abbrev DslA_TApi_Event : Type := (Sl TApi_Event)
def eslA_TApi_Event : DslA_TApi_Event → V := (eSl (some 24) 5 e_TApi_Event)
def dslA_TApi_Event : V → DslA_TApi_Event := (dSl d_TApi_Event)
def hslA_TApi_Event : Sh := (.sl (some 24) 5 (e_TApi_Event (d_TApi_Event .undef)))

/-! event.Read (event_Read) -/
abbrev X_event_Read : Type := ByteArray
abbrev R_event_Read : Type := (Sl TApi_Event) × Int × Int
noncomputable def J_event_Read : Job Tryd.prog :=
  job Tryd.prog Tryd.f23 43 [(12, 1), (18, 1), (34, 1), (37, 1), (42, 1)] [] [] [.shut 2] [hsl_TApi_Event, .any, .any] [] [con_event_readLine, con_strings_Cut] R_event_Read [] fun y => [V.tup (V.cons (esl_TApi_Event y.1) (V.cons ((V.int .i64) y.2.1) (V.cons ((V.int .i64) y.2.2) (V.unit))))]
noncomputable def S_event_Read : LabS :=
  lab0 Tryd.f23 1 0 X_event_Read (fun x => [V.str x]) fun l => (dS (at_ l 0))
structure X_event_Read_1 where
  s_0 : ByteArray
  l_2 : (Sl TApi_Event)
noncomputable def S_event_Read_1 : LabS :=
  labAt Tryd.f23 1 [(0, .any), (2, hslA_TApi_Event)] [] [] X_event_Read_1 (fun x => [V.str x.s_0, eslA_TApi_Event x.l_2]) fun l => ⟨dS (at_ l 0), dslA_TApi_Event (at_ l 1)⟩
structure X_event_Read_6 where
  l_2 : (Sl TApi_Event)
  rest_6 : ByteArray
  m_8 : TApi_Event
noncomputable def S_event_Read_6 : LabS :=
  labAt Tryd.f23 6 [(2, hslA_TApi_Event), (6, .any), (8, .any)] [] [(.loc 8 0, .any)] X_event_Read_6 (fun x => [eslA_TApi_Event x.l_2, V.str x.rest_6, (V.ptr (.loc 8 0) []), e_TApi_Event x.m_8]) fun l => ⟨dslA_TApi_Event (at_ l 0), dS (at_ l 1), d_TApi_Event (at_ l 3)⟩
noncomputable def tt_event_Read_6 (D_event_Read_1 : Dyn X_event_Read_1 R_event_Read) (x : X_event_Read_6) : TT Tryd.prog R_event_Read :=
 (.need (true && (room (x.l_2.n + 1) 40)) <|
 (.jump S_event_Read_1 D_event_Read_1 (X_event_Read_1.mk x.rest_6 (Sl.mk (cond (Nat.beq 1 0) x.l_2.nil false) (x.l_2.n + 1) (fun i2 => (TApi_Event.mk (cond (Nat.blt i2 x.l_2.n) (x.l_2.get i2).Thread x.m_8.Thread) (cond (Nat.blt i2 x.l_2.n) (x.l_2.get i2).Kind x.m_8.Kind) (cond (Nat.blt i2 x.l_2.n) (x.l_2.get i2).Ring x.m_8.Ring) (cond (Nat.blt i2 x.l_2.n) (x.l_2.get i2).Ticket x.m_8.Ticket) (cond (Nat.blt i2 x.l_2.n) (x.l_2.get i2).Value x.m_8.Value)))))))
theorem sd_event_Read_6 (D_event_Read_1 : Dyn X_event_Read_1 R_event_Read) (x : X_event_Read_6) : (tt_event_Read_6 D_event_Read_1 x).Sides :=
  (TT.s_need TT.s_jump)

noncomputable def D_event_Read_6 (D_event_Read_1 : Dyn X_event_Read_1 R_event_Read) : Dyn X_event_Read_6 R_event_Read := .of (tt_event_Read_6 D_event_Read_1)
theorem ok_event_Read_6 (D_event_Read_1 : Dyn X_event_Read_1 R_event_Read) (h_1 : LabOK J_event_Read S_event_Read_1 D_event_Read_1) : LabOK J_event_Read S_event_Read_6 (D_event_Read_6 D_event_Read_1) :=
  lab_ok mixed_ok (labs_cons2 h_1 rfl labs_nil) 4000 (fun x => by kernel_rfl) (sd_event_Read_6 D_event_Read_1)
noncomputable def tt_event_Read_1 (D_event_Read_1 : Dyn X_event_Read_1 R_event_Read) (x : X_event_Read_1) : TT Tryd.prog R_event_Read :=
 (.ite (!(seq x.s_0 (ByteArray.mk #[])))
 (.call con_strings_Cut (x.s_0, (ByteArray.mk #[10])) fun (y2 : R_strings_Cut) =>
 (.call con_event_readLine y2.fst fun (y3 : R_event_readLine) =>
 (.ite (!y2.snd.snd)
 (.ret ((Sl.mk true 0 (fun i4 => (TApi_Event.mk 0 0 0 0 0))), ((IntKind.i64.wrap (((x.l_2.n : Nat) : Int) + 1)), 3)))
 (.ite (!y3.snd)
 (.ret ((Sl.mk true 0 (fun i4 => (TApi_Event.mk 0 0 0 0 0))), ((IntKind.i64.wrap (((x.l_2.n : Nat) : Int) + 1)), 3)))
 (.ite (ile 65536 ((x.l_2.n : Nat) : Int))
 (.ret ((Sl.mk true 0 (fun i4 => (TApi_Event.mk 0 0 0 0 0))), ((IntKind.i64.wrap (((x.l_2.n : Nat) : Int) + 1)), 3)))
 (.jump S_event_Read_6 (D_event_Read_6 D_event_Read_1) (X_event_Read_6.mk x.l_2 y2.snd.fst y3.fst)))))))
 (.ret (x.l_2, (0, 0))))
theorem sd_event_Read_1 (D_event_Read_1 : Dyn X_event_Read_1 R_event_Read) (x : X_event_Read_1) : (tt_event_Read_1 D_event_Read_1 x).Sides :=
  (TT.s_ite (TT.s_call fun _ => (TT.s_call fun _ => (TT.s_ite TT.s_ret (TT.s_ite TT.s_ret (TT.s_ite TT.s_ret TT.s_jump))))) TT.s_ret)

noncomputable def D_event_Read_1 : Dyn X_event_Read_1 R_event_Read := Dyn.loop tt_event_Read_1
theorem ok_event_Read_1 : LabOK J_event_Read S_event_Read_1 D_event_Read_1 :=
  loop_ok fun D_event_Read_1 h_1 => lab_ok mixed_ok (labs_cons2 h_1 rfl (labs_cons2 (ok_event_Read_6 D_event_Read_1 h_1) rfl labs_nil)) 4000 (fun x => by kernel_rfl) (sd_event_Read_1 D_event_Read_1)
noncomputable def tt_event_Read (x : X_event_Read) : TT Tryd.prog R_event_Read :=
 (.jump S_event_Read_1 D_event_Read_1 (X_event_Read_1.mk x (Sl.mk true 0 (fun i1 => (TApi_Event.mk 0 0 0 0 0)))))
theorem sd_event_Read (x : X_event_Read) : (tt_event_Read x).Sides :=
  TT.s_jump

noncomputable def D_event_Read : Dyn X_event_Read R_event_Read := .of tt_event_Read
noncomputable def con_event_Read : Con Tryd.prog :=
  mkCon 23 J_event_Read S_event_Read D_event_Read D_event_Read (fun _ _ h => h) 1 0 [.any] (by kernel_rfl) (by kernel_rfl) (by kernel_rfl) (lab_ok mixed_ok (labs_cons2 ok_event_Read_1 rfl labs_nil) 4000 (fun x => by kernel_rfl) sd_event_Read) rfl rfl (fun _ => rfl) (by kernel_rfl) rfl (fun _ => rfl) (fun x y _ => by kernel_rfl)

/-! event.Check (event_Check) -/
abbrev X_event_Check : Type := (Sl TApi_Event)
abbrev R_event_Check : Type := Int × Int
noncomputable def J_event_Check : Job Tryd.prog :=
  job Tryd.prog Tryd.f20 21 [(9, 1)] [] [] [] [.any, .any] [] [con_event_Right] R_event_Check [] fun y => [V.tup (V.cons ((V.int .i64) y.1) (V.cons ((V.int .i64) y.2) (V.unit)))]
noncomputable def S_event_Check : LabS :=
  lab0 Tryd.f20 1 0 X_event_Check (fun x => [esl_TApi_Event x]) fun l => (dsl_TApi_Event (at_ l 0))
structure X_event_Check_4 where
  q_9 : (Sl TApi_Event)
  q_10 : Int
  q_11 : Int
noncomputable def S_event_Check_4 : LabS :=
  labAt Tryd.f20 4 [(9, hsl_TApi_Event), (10, .any), (11, .any)] [] [] X_event_Check_4 (fun x => [esl_TApi_Event x.q_9, (V.int .i64) x.q_10, (V.int .i64) x.q_11]) fun l => ⟨dsl_TApi_Event (at_ l 0), dI (at_ l 1), dI (at_ l 2)⟩
noncomputable def tt_event_Check_4 (D_event_Check_4 : Dyn X_event_Check_4 R_event_Check) (x : X_event_Check_4) : TT Tryd.prog R_event_Check :=
 (.ite (ilt x.q_11 x.q_10)
 (.need (inb x.q_11 x.q_9.n) <|
 (.call con_event_Right (x.q_9.get (Int.toNat x.q_11)) fun (y2 : R_event_Right) =>
 (.ite (!y2)
 (.ret (x.q_11, 3))
 (.jump S_event_Check_4 D_event_Check_4 (X_event_Check_4.mk x.q_9 x.q_10 (IntKind.i64.wrap (x.q_11 + 1)))))))
 (.ret (0, 0)))
theorem sd_event_Check_4 (D_event_Check_4 : Dyn X_event_Check_4 R_event_Check) (x : X_event_Check_4) : (tt_event_Check_4 D_event_Check_4 x).Sides :=
  (TT.s_ite (TT.s_need (TT.s_call fun _ => (TT.s_ite TT.s_ret TT.s_jump))) TT.s_ret)

noncomputable def D_event_Check_4 : Dyn X_event_Check_4 R_event_Check := Dyn.loop tt_event_Check_4
theorem ok_event_Check_4 : LabOK J_event_Check S_event_Check_4 D_event_Check_4 :=
  loop_ok fun D_event_Check_4 h_4 => lab_ok mixed_ok (labs_cons2 h_4 rfl labs_nil) 4000 (fun x => by kernel_rfl) (sd_event_Check_4 D_event_Check_4)
noncomputable def tt_event_Check (x : X_event_Check) : TT Tryd.prog R_event_Check :=
 (.ite (ilt 65536 ((x.n : Nat) : Int))
 (.ret (0, 4))
 (.jump S_event_Check_4 D_event_Check_4 (X_event_Check_4.mk x ((x.n : Nat) : Int) 0)))
theorem sd_event_Check (x : X_event_Check) : (tt_event_Check x).Sides :=
  (TT.s_ite TT.s_ret TT.s_jump)

noncomputable def D_event_Check : Dyn X_event_Check R_event_Check := .of tt_event_Check
noncomputable def con_event_Check : Con Tryd.prog :=
  mkCon 20 J_event_Check S_event_Check D_event_Check D_event_Check (fun _ _ h => h) 1 0 [hsl_TApi_Event] (by kernel_rfl) (by kernel_rfl) (by kernel_rfl) (lab_ok mixed_ok (labs_cons2 ok_event_Check_4 rfl labs_nil) 4000 (fun x => by kernel_rfl) sd_event_Check) rfl rfl (fun _ => rfl) (by kernel_rfl) rfl (fun _ => rfl) (fun x y _ => by kernel_rfl)

abbrev Dsl_i64 : Type := (Sl Int)
def esl_i64 : Dsl_i64 → V := (eSl none 1 (V.int .i64))
def dsl_i64 : V → Dsl_i64 := (dSl dI)
def hsl_i64 : Sh := (.sl none 1 (V.int .i64 0))

abbrev DslA_i64 : Type := (Sl Int)
def eslA_i64 : DslA_i64 → V := (eSl (some 3) 1 (V.int .i64))
def dslA_i64 : V → DslA_i64 := (dSl dI)
def hslA_i64 : Sh := (.sl (some 3) 1 (V.int .i64 0))

/-! event.Of (event_Of) -/
abbrev X_event_Of : Type := (Sl TApi_Event) × Int
abbrev R_event_Of : Type := (Sl Int)
noncomputable def J_event_Of : Job Tryd.prog :=
  job Tryd.prog Tryd.f27 24 [(7, 1), (18, 1), (23, 1)] [] [] [.shut 4] [hsl_i64] [] [] R_event_Of [] fun y => [esl_i64 y]
noncomputable def S_event_Of : LabS :=
  lab0 Tryd.f27 2 0 X_event_Of (fun x => [esl_TApi_Event x.1, (V.int .i64) x.2]) fun l => (dsl_TApi_Event (at_ l 0), dI (at_ l 1))
structure X_event_Of_2 where
  t_1 : Int
  out_4 : (Sl Int)
  q_7 : (Sl TApi_Event)
  q_8 : Int
  q_9 : Int
noncomputable def S_event_Of_2 : LabS :=
  labAt Tryd.f27 2 [(1, .any), (4, hslA_i64), (7, hsl_TApi_Event), (8, .any), (9, .any)] [] [] X_event_Of_2 (fun x => [(V.int .i64) x.t_1, eslA_i64 x.out_4, esl_TApi_Event x.q_7, (V.int .i64) x.q_8, (V.int .i64) x.q_9]) fun l => ⟨dI (at_ l 0), dslA_i64 (at_ l 1), dsl_TApi_Event (at_ l 2), dI (at_ l 3), dI (at_ l 4)⟩
structure X_event_Of_6 where
  t_1 : Int
  out_4 : (Sl Int)
  q_7 : (Sl TApi_Event)
  q_8 : Int
  q_9 : Int
noncomputable def S_event_Of_6 : LabS :=
  labAt Tryd.f27 6 [(1, .any), (4, hslA_i64), (7, hsl_TApi_Event), (8, .any), (9, .any)] [] [] X_event_Of_6 (fun x => [(V.int .i64) x.t_1, eslA_i64 x.out_4, esl_TApi_Event x.q_7, (V.int .i64) x.q_8, (V.int .i64) x.q_9]) fun l => ⟨dI (at_ l 0), dslA_i64 (at_ l 1), dsl_TApi_Event (at_ l 2), dI (at_ l 3), dI (at_ l 4)⟩
noncomputable def tt_event_Of_6 (D_event_Of_2 : Dyn X_event_Of_2 R_event_Of) (x : X_event_Of_6) : TT Tryd.prog R_event_Of :=
 (.jump S_event_Of_2 D_event_Of_2 (X_event_Of_2.mk x.t_1 x.out_4 x.q_7 x.q_8 (IntKind.i64.wrap (x.q_9 + 1))))
theorem sd_event_Of_6 (D_event_Of_2 : Dyn X_event_Of_2 R_event_Of) (x : X_event_Of_6) : (tt_event_Of_6 D_event_Of_2 x).Sides :=
  TT.s_jump

noncomputable def D_event_Of_6 (D_event_Of_2 : Dyn X_event_Of_2 R_event_Of) : Dyn X_event_Of_6 R_event_Of := .of (tt_event_Of_6 D_event_Of_2)
theorem ok_event_Of_6 (D_event_Of_2 : Dyn X_event_Of_2 R_event_Of) (h_2 : LabOK J_event_Of S_event_Of_2 D_event_Of_2) : LabOK J_event_Of S_event_Of_6 (D_event_Of_6 D_event_Of_2) :=
  lab_ok mixed_ok (labs_cons2 h_2 rfl labs_nil) 4000 (fun x => by kernel_rfl) (sd_event_Of_6 D_event_Of_2)
noncomputable def tt_event_Of_2 (D_event_Of_2 : Dyn X_event_Of_2 R_event_Of) (x : X_event_Of_2) : TT Tryd.prog R_event_Of :=
 (.ite (ilt x.q_9 x.q_8)
 (.need (inb x.q_9 x.q_7.n) <|
 (.ite (ieq (x.q_7.get (Int.toNat x.q_9)).Thread x.t_1)
 (.need (true && (room (x.out_4.n + 1) 8)) <|
 (.jump S_event_Of_6 (D_event_Of_6 D_event_Of_2) (X_event_Of_6.mk x.t_1 (Sl.mk (cond (Nat.beq 1 0) x.out_4.nil false) (x.out_4.n + 1) (fun i2 => (cond (Nat.blt i2 x.out_4.n) (x.out_4.get i2) x.q_9))) x.q_7 x.q_8 x.q_9)))
 (.jump S_event_Of_6 (D_event_Of_6 D_event_Of_2) (X_event_Of_6.mk x.t_1 x.out_4 x.q_7 x.q_8 x.q_9))))
 (.ret x.out_4))
theorem sd_event_Of_2 (D_event_Of_2 : Dyn X_event_Of_2 R_event_Of) (x : X_event_Of_2) : (tt_event_Of_2 D_event_Of_2 x).Sides :=
  (TT.s_ite (TT.s_need (TT.s_ite (TT.s_need TT.s_jump) TT.s_jump)) TT.s_ret)

noncomputable def D_event_Of_2 : Dyn X_event_Of_2 R_event_Of := Dyn.loop tt_event_Of_2
theorem ok_event_Of_2 : LabOK J_event_Of S_event_Of_2 D_event_Of_2 :=
  loop_ok fun D_event_Of_2 h_2 => lab_ok mixed_ok (labs_cons2 h_2 rfl (labs_cons2 (ok_event_Of_6 D_event_Of_2 h_2) rfl labs_nil)) 4000 (fun x => by kernel_rfl) (sd_event_Of_2 D_event_Of_2)
noncomputable def tt_event_Of (x : X_event_Of) : TT Tryd.prog R_event_Of :=
 (.jump S_event_Of_2 D_event_Of_2 (X_event_Of_2.mk x.snd (Sl.mk true 0 (fun i1 => (0 : Int))) x.fst ((x.fst.n : Nat) : Int) 0))
theorem sd_event_Of (x : X_event_Of) : (tt_event_Of x).Sides :=
  TT.s_jump

noncomputable def D_event_Of : Dyn X_event_Of R_event_Of := .of tt_event_Of
noncomputable def con_event_Of : Con Tryd.prog :=
  mkCon 27 J_event_Of S_event_Of D_event_Of D_event_Of (fun _ _ h => h) 2 0 [hsl_TApi_Event, .any] (by kernel_rfl) (by kernel_rfl) (by kernel_rfl) (lab_ok mixed_ok (labs_cons2 ok_event_Of_2 rfl labs_nil) 4000 (fun x => by kernel_rfl) sd_event_Of) rfl rfl (fun _ => rfl) (by kernel_rfl) rfl (fun _ => rfl) (fun x y _ => by kernel_rfl)

/-! slices.Equal[[]api.Event,api.Event] (slices_Equal_api_Event) -/
abbrev X_slices_Equal_api_Event : Type := (Sl TApi_Event) × (Sl TApi_Event)
abbrev R_slices_Equal_api_Event : Type := Bool
noncomputable def J_slices_Equal_api_Event : Job Tryd.prog :=
  job Tryd.prog Tryd.f40 26 [] [] [] [] [.any] [] [] R_slices_Equal_api_Event [] fun y => [V.bool y]
noncomputable def S_slices_Equal_api_Event : LabS :=
  lab0 Tryd.f40 2 0 X_slices_Equal_api_Event (fun x => [esl_TApi_Event x.1, esl_TApi_Event x.2]) fun l => (dsl_TApi_Event (at_ l 0), dsl_TApi_Event (at_ l 1))
structure X_slices_Equal_api_Event_4 where
  s1_0 : (Sl TApi_Event)
  s2_1 : (Sl TApi_Event)
  q_12 : Int
  q_13 : Int
noncomputable def S_slices_Equal_api_Event_4 : LabS :=
  labAt Tryd.f40 4 [(0, hsl_TApi_Event), (1, hsl_TApi_Event), (12, .any), (13, .any)] [] [] X_slices_Equal_api_Event_4 (fun x => [esl_TApi_Event x.s1_0, esl_TApi_Event x.s2_1, (V.int .i64) x.q_12, (V.int .i64) x.q_13]) fun l => ⟨dsl_TApi_Event (at_ l 0), dsl_TApi_Event (at_ l 1), dI (at_ l 2), dI (at_ l 3)⟩
noncomputable def tt_slices_Equal_api_Event_4 (D_slices_Equal_api_Event_4 : Dyn X_slices_Equal_api_Event_4 R_slices_Equal_api_Event) (x : X_slices_Equal_api_Event_4) : TT Tryd.prog R_slices_Equal_api_Event :=
 (.ite (ilt x.q_13 x.q_12)
 (.need (inb x.q_13 x.s1_0.n) <|
 (.need (inb x.q_13 x.s2_1.n) <|
 (.ite (!((ieq (x.s1_0.get (Int.toNat x.q_13)).Thread (x.s2_1.get (Int.toNat x.q_13)).Thread) && ((ieq (x.s1_0.get (Int.toNat x.q_13)).Kind (x.s2_1.get (Int.toNat x.q_13)).Kind) && ((ieq (x.s1_0.get (Int.toNat x.q_13)).Ring (x.s2_1.get (Int.toNat x.q_13)).Ring) && ((ieq (x.s1_0.get (Int.toNat x.q_13)).Ticket (x.s2_1.get (Int.toNat x.q_13)).Ticket) && ((ieq (x.s1_0.get (Int.toNat x.q_13)).Value (x.s2_1.get (Int.toNat x.q_13)).Value) && true))))))
 (.ret false)
 (.jump S_slices_Equal_api_Event_4 D_slices_Equal_api_Event_4 (X_slices_Equal_api_Event_4.mk x.s1_0 x.s2_1 x.q_12 (IntKind.i64.wrap (x.q_13 + 1)))))))
 (.ret true))
theorem sd_slices_Equal_api_Event_4 (D_slices_Equal_api_Event_4 : Dyn X_slices_Equal_api_Event_4 R_slices_Equal_api_Event) (x : X_slices_Equal_api_Event_4) : (tt_slices_Equal_api_Event_4 D_slices_Equal_api_Event_4 x).Sides :=
  (TT.s_ite (TT.s_need (TT.s_need (TT.s_ite TT.s_ret TT.s_jump))) TT.s_ret)

noncomputable def D_slices_Equal_api_Event_4 : Dyn X_slices_Equal_api_Event_4 R_slices_Equal_api_Event := Dyn.loop tt_slices_Equal_api_Event_4
theorem ok_slices_Equal_api_Event_4 : LabOK J_slices_Equal_api_Event S_slices_Equal_api_Event_4 D_slices_Equal_api_Event_4 :=
  loop_ok fun D_slices_Equal_api_Event_4 h_4 => lab_ok mixed_ok (labs_cons2 h_4 rfl labs_nil) 4000 (fun x => by kernel_rfl) (sd_slices_Equal_api_Event_4 D_slices_Equal_api_Event_4)
noncomputable def tt_slices_Equal_api_Event (x : X_slices_Equal_api_Event) : TT Tryd.prog R_slices_Equal_api_Event :=
 (.ite (!(ieq ((x.fst.n : Nat) : Int) ((x.snd.n : Nat) : Int)))
 (.ret false)
 (.jump S_slices_Equal_api_Event_4 D_slices_Equal_api_Event_4 (X_slices_Equal_api_Event_4.mk x.fst x.snd ((x.fst.n : Nat) : Int) 0)))
theorem sd_slices_Equal_api_Event (x : X_slices_Equal_api_Event) : (tt_slices_Equal_api_Event x).Sides :=
  (TT.s_ite TT.s_ret TT.s_jump)

noncomputable def D_slices_Equal_api_Event : Dyn X_slices_Equal_api_Event R_slices_Equal_api_Event := .of tt_slices_Equal_api_Event
noncomputable def con_slices_Equal_api_Event : Con Tryd.prog :=
  mkCon 40 J_slices_Equal_api_Event S_slices_Equal_api_Event D_slices_Equal_api_Event D_slices_Equal_api_Event (fun _ _ h => h) 2 0 [hsl_TApi_Event, hsl_TApi_Event] (by kernel_rfl) (by kernel_rfl) (by kernel_rfl) (lab_ok mixed_ok (labs_cons2 ok_slices_Equal_api_Event_4 rfl labs_nil) 4000 (fun x => by kernel_rfl) sd_slices_Equal_api_Event) rfl rfl (fun _ => rfl) (by kernel_rfl) rfl (fun _ => rfl) (fun x y _ => by kernel_rfl)

/-! event.Same (event_Same) -/
abbrev X_event_Same : Type := (Sl TApi_Event) × (Sl TApi_Event)
abbrev R_event_Same : Type := Bool
noncomputable def J_event_Same : Job Tryd.prog :=
  job Tryd.prog Tryd.f26 8 [(5, 1), (6, 1)] [] [] [] [.any] [] [con_slices_Equal_api_Event] R_event_Same [] fun y => [V.bool y]
noncomputable def S_event_Same : LabS :=
  lab0 Tryd.f26 2 0 X_event_Same (fun x => [esl_TApi_Event x.1, esl_TApi_Event x.2]) fun l => (dsl_TApi_Event (at_ l 0), dsl_TApi_Event (at_ l 1))
noncomputable def tt_event_Same (x : X_event_Same) : TT Tryd.prog R_event_Same :=
 (.call con_slices_Equal_api_Event x fun (y1 : R_slices_Equal_api_Event) =>
 (.ret y1))
theorem sd_event_Same (x : X_event_Same) : (tt_event_Same x).Sides :=
  (TT.s_call fun _ => TT.s_ret)

noncomputable def D_event_Same : Dyn X_event_Same R_event_Same := .of tt_event_Same
noncomputable def con_event_Same : Con Tryd.prog :=
  mkCon 26 J_event_Same S_event_Same D_event_Same D_event_Same (fun _ _ h => h) 2 0 [hsl_TApi_Event, hsl_TApi_Event] (by kernel_rfl) (by kernel_rfl) (by kernel_rfl) (lab_ok mixed_ok labs_nil 4000 (fun x => by kernel_rfl) sd_event_Same) rfl rfl (fun _ => rfl) (by kernel_rfl) rfl (fun _ => rfl) (fun x y _ => by kernel_rfl)

/-! event.Print -/
abbrev X_event_Print : Type := (Sl TApi_Event)
abbrev R_event_Print : Type := ByteArray × Int
def prLines (x : (Sl TApi_Event)) (L : List ByteArray) : Prop := L.length = x.n ∧ (∀ i, i < x.n → D_event_line.rel (x.get i) (L.getD i ByteArray.empty)) ∧ (catL L).size ≤ 140737488355328
def prRel (x : (Sl TApi_Event)) (y : ByteArray × Int) : Prop :=
  ∃ c, D_event_Check.rel x c ∧ ((c.2 ≠ 0 ∧ y = (ByteArray.empty, c.2)) ∨ (c.2 = 0 ∧ ∃ L, prLines x L ∧ y = (catL L, 0)))
noncomputable def evL (n : Nat) (x : (Sl TApi_Event)) : Nat → Nat → Option (List ByteArray)
  | 0, _ => some []
  | k + 1, i => match D_event_line.ev n (x.get i) with
    | some a => match evL n x k (i + 1) with
      | some l => some (a :: l)
      | none => none
    | none => none
noncomputable def prEv (n : Nat) (x : (Sl TApi_Event)) : Option (ByteArray × Int) :=
  match D_event_Check.ev n x with
  | some c => cond (ieq c.2 0) (match evL n x x.n 0 with
    | some l => cond (Nat.ble (catL l).size 140737488355328) (some (catL l, 0)) none
    | none => none) (some (ByteArray.empty, c.2))
  | none => none
theorem evL_ok {n : Nat} {x : (Sl TApi_Event)} : ∀ (k i : Nat) {l : List ByteArray}, evL n x k i = some l → l.length = k ∧ ∀ j, j < k → D_event_line.rel (x.get (i + j)) (l.getD j ByteArray.empty)
  | 0, _, _, h => by cases h; exact ⟨rfl, fun j hj => absurd hj (Nat.not_lt_zero _)⟩
  | k + 1, i, l, h => by
    rw [evL] at h
    cases h1 : D_event_line.ev n (x.get i) with
    | none => rw [h1] at h; cases h
    | some a =>
      rw [h1] at h
      cases h2 : evL n x k (i + 1) with
      | none => rw [h2] at h; cases h
      | some l' =>
        rw [h2] at h
        cases h
        obtain ⟨h3, h4⟩ := evL_ok k (i + 1) h2
        refine ⟨by simp [h3], fun j hj => ?_⟩
        cases j with
        | zero => exact D_event_line.evOK _ _ _ h1
        | succ j =>
          have := h4 j (by omega)
          rw [show i + 1 + j = i + (j + 1) by omega] at this
          simpa using this
theorem prEvOK (n : Nat) (x : (Sl TApi_Event)) (y : ByteArray × Int) (h : prEv n x = some y) : prRel x y := by
  unfold prEv at h
  cases h1 : D_event_Check.ev n x with
  | none => rw [h1] at h; cases h
  | some c =>
    rw [h1] at h
    refine ⟨c, D_event_Check.evOK _ _ _ h1, ?_⟩
    change cond (ieq c.2 0) _ _ = some y at h
    cases h2 : ieq c.2 0
    · rw [h2] at h
      cases h
      exact .inl ⟨(fun k => by rw [ieq_iff.2 k] at h2; cases h2), rfl⟩
    · rw [h2] at h
      refine .inr ⟨ieq_iff.1 h2, ?_⟩
      cases h3 : evL n x x.n 0 with
      | none => rw [h3] at h; cases h
      | some l =>
        rw [h3] at h
        obtain ⟨h4, h5⟩ := cond_some h
        cases h5
        obtain ⟨h6, h7⟩ := evL_ok _ _ h3
        exact ⟨l, ⟨h6, (fun i hi => by have := h7 i hi; rwa [Nat.zero_add] at this), by simpa using h4⟩, rfl⟩
def evT (e : TApi_Event) : Int × Int × Int × Int × Int := (e.Thread, e.Kind, e.Ring, e.Ticket, e.Value)
theorem rel_event {F : Foot} {w : World} {e : TApi_Event} {xs : List Value} {fp : Foot} (h : RelT F w noNames (e_TApi_Event e) xs fp) : xs = [.int .i64 e.Thread, .int .i64 e.Kind, .int .i64 e.Ring, .int .u64 e.Ticket, .int .u64 e.Value] := by
  simp only [e_TApi_Event, RelT] at h
  obtain ⟨_, _, _, _, rfl, rfl, ⟨_, _, _, _, rfl, rfl, ⟨_, _, _, _, rfl, rfl, ⟨_, _, _, _, rfl, rfl, ⟨_, _, _, _, rfl, rfl, rfl, _⟩, _⟩, _⟩, _⟩, _⟩ := h
  rfl
theorem ok_Print (x : (Sl TApi_Event)) (y : ByteArray × Int) (h : prRel x y) : OK Tryd.prog 19 [esl_TApi_Event x] [] (.tup (.cons (.str y.1) (.cons (.int .i64 y.2) .unit))) [] := by
  refine args1 fun F w v1 hH hF ⟨_, r1⟩ => ?_
  have r1' : RelV F w noNames (esl_TApi_Event x) v1 none_ := r1.unowned rfl
  obtain ⟨A, n, rfl, h1, h2, h3, h4⟩ := inv_sl (show RelV F w noNames (.sl none 5 x.nil x.n fun i => e_TApi_Event (x.get i)) v1 none_ from r1')
  obtain ⟨c, hc, hy⟩ := h
  have tup : ∀ {F' : Foot} {w' : World} {v : Value} {fp : Foot} {a b : V}, RelV F' w' noNames (.tup (.cons a (.cons b .unit))) v fp → a.agg = false → b.agg = false → ∃ u1 u2 f1 f2, v = .tuple #[u1, u2] ∧ RelT F' w' noNames a [u1] f1 ∧ RelT F' w' noNames b [u2] f2 := by
    intro F' w' v fp a b hv ha hb
    obtain ⟨vs, rfl, u1, vs', f1, f2, rfl, k1, ⟨u2, vs2, f3, f4, rfl, k2, k3, _⟩, _⟩ := hv
    obtain rfl : vs2 = [] := k3
    exact ⟨u1, u2, f1, f3, rfl, k1.2 ha, k2.2 hb⟩
  have hcheck : Gives Tryd.prog 20 #[.slice A x.n n] w (.tuple #[.int .i64 c.1, .int .i64 c.2]) := by
    refine (calls_of_ok (con_event_Check.ok x c hc) hH hF (vals := #[.slice A x.n n]) rfl (fun t => ?_)).mono fun e w' q => ?_
    · match t with
      | 0 => exact r1'
      | t + 1 => trivial
    · obtain ⟨v, F', fp, rfl, hv, hB⟩ := q
      obtain ⟨u1, u2, f1, f2, rfl, k1, k2⟩ := tup (a := .int .i64 c.1) (b := .int .i64 c.2) hv rfl rfl
      simp only [RelT] at k1 k2
      cases k1; cases k2
      exact ⟨rfl, hB⟩
  have main : ∀ L, (c.2 = 0 → prLines x L) → Gives Tryd.prog 19 #[.slice A x.n n] w (.tuple #[.string (cond (c.2 == 0) (catL L) ByteArray.empty), .int .i64 c.2]) := by
    intro L hL
    refine print_calls A x.n n (fun i => evT (x.get i)) L c.1 c.2 w hH (by simp only [maxLen] at h2; omega) (fun hn => ?_) hcheck fun he => ?_
    · have hnil : x.nil = false := by
        cases q : x.nil
        · rfl
        · exact absurd (h3 q).2.1 (by omega)
      obtain ⟨g, o, q, rfl, hq, _, hel⟩ := h4 hnil
      obtain rfl : q = none := hq.resolve_right (by omega)
      refine ⟨g, o, rfl, ?_, fun i hi => ?_⟩
      · obtain ⟨xs, _, _, _, e4⟩ := hel 0 hn
        exact hF _ _ (e4 0 (by omega))
      · obtain ⟨xs, e1, e2, e3, _⟩ := hel i hi
        obtain rfl := rel_event e2
        exact ⟨e3 0 _ rfl, e3 1 _ rfl, e3 2 _ rfl, e3 3 _ rfl, e3 4 _ rfl⟩
    · obtain ⟨l1, l2, l3⟩ := hL he
      refine ⟨l1, l3, fun i hi w' hH' => ?_⟩
      refine (calls_of_ok (con_event_line.ok (x.get i) _ (l2 i hi)) hH' (F := none_) (fun _ _ h => h.elim) (vals := #[evV (evT (x.get i))]) rfl (fun t => ?_)).mono fun e w'' q => ?_
      · match t with
        | 0 =>
          refine val_agg (x := e_TApi_Event (x.get i)) (cs := [.int .i64 (x.get i).Thread, .int .i64 (x.get i).Kind, .int .i64 (x.get i).Ring, .int .u64 (x.get i).Ticket, .int .u64 (x.get i).Value]) ?_ rfl
          have oo : none_.Off none_ := Foot.none_off _
          have ss : none_.Sub none_ := Foot.Sub.refl _
          exact ⟨[_], _, none_, none_, rfl, rfl, ⟨[_], _, none_, none_, rfl, rfl, ⟨[_], _, none_, none_, rfl, rfl, ⟨[_], _, none_, none_, rfl, rfl, ⟨[_], _, none_, none_, rfl, rfl, rfl, ss, ss, oo⟩, ss, ss, oo⟩, ss, ss, oo⟩, ss, ss, oo⟩, ss, ss, oo⟩
        | t + 1 => trivial
      · obtain ⟨v, F', fp, rfl, hv, hB⟩ := q
        obtain rfl := inv_str (show RelV F' w'' noNames (.str (L.getD i ByteArray.empty)) v fp from hv)
        exact ⟨rfl, hB⟩
  rcases hy with ⟨hne, rfl⟩ | ⟨h0, L, hL, rfl⟩
  · have := main [] (fun h => absurd h hne)
    rw [show (c.2 == 0) = false by simpa using hne] at this
    refine this.mono fun e w' q => ⟨_, q.1, ?_, q.2⟩
    exact val_tup (relL_cons (rel1_leaf rfl rfl) (relL_cons (rel1_leaf rfl rfl) relL_nil))
  · have := main L (fun _ => hL)
    rw [h0] at this
    refine this.mono fun e w' q => ⟨_, q.1, ?_, q.2⟩
    exact val_tup (relL_cons (rel1_leaf rfl rfl) (relL_cons (rel1_leaf rfl rfl) relL_nil))
noncomputable def con_event_Print : Con Tryd.prog where
  f := 19
  fn := Tryd.f19
  hf := by kernel_rfl
  hb := by kernel_rfl
  hn := by kernel_rfl
  X := X_event_Print
  Y := R_event_Print
  args x := [esl_TApi_Event x]
  objs _ := []
  res y := .tup (.cons (.str y.1) (.cons (.int .i64 y.2) .unit))
  outs _ _ := []
  rel := prRel
  ev := prEv
  evOK := prEvOK
  dec := fun l _ => dsl_TApi_Event (at_ l 0)
  ash := [hsl_TApi_Event]
  osh := []
  ok := ok_Print
  pure := false
  pureOut h := by cases h
  pureName h := by cases h

/-! rondeaulaw15.awake (w15_awake) -/
abbrev X_w15_awake : Type := Unit
abbrev R_w15_awake : Type := Bool
noncomputable def J_w15_awake : Job Tryd.prog :=
  job Tryd.prog Tryd.f9 150 [(19, 1), (24, 1), (29, 1), (36, 1), (42, 1), (47, 1), (51, 1), (147, 1)] [] [] [] [.any] [] [con_event_Check, con_event_Find, con_event_Line, con_event_Name, con_event_Of, con_event_Print, con_event_Read, con_event_Right, con_event_Rings, con_event_Same] R_w15_awake [] fun y => [V.bool y]
noncomputable def S_w15_awake : LabS :=
  lab0 Tryd.f9 0 0 X_w15_awake (fun x => []) fun l => ()
noncomputable def tt_w15_awake (x : X_w15_awake) : TT Tryd.prog R_w15_awake :=
 (.call con_event_Line (TApi_Event.mk 2 1 0 5 0) fun (y1 : R_event_Line) =>
 (.call con_event_Line (TApi_Event.mk 0 14 0 0 1) fun (y2 : R_event_Line) =>
 (.call con_event_Print (Sl.mk false 2 (fun i3 => (TApi_Event.mk (cond (Nat.beq i3 0) (2 : Int) (0 : Int)) (cond (Nat.beq i3 0) (1 : Int) (14 : Int)) (cond (Nat.beq i3 0) (0 : Int) (0 : Int)) (cond (Nat.beq i3 0) (5 : Int) (0 : Int)) (cond (Nat.beq i3 0) (0 : Int) (0 : Int))))) fun (y3 : R_event_Print) =>
 (.call con_event_Read y3.fst fun (y4 : R_event_Read) =>
 (.call con_event_Read (ByteArray.mk #[48, 32, 104, 97, 108, 116, 10, 48, 32, 104, 97, 108, 116, 32, 49, 10]) fun (y5 : R_event_Read) =>
 (.call con_event_Find (ByteArray.mk #[115, 112, 105, 110]) fun (y6 : R_event_Find) =>
 (.call con_event_Check (Sl.mk false 2 (fun i7 => (TApi_Event.mk (cond (Nat.beq i7 0) (2 : Int) (0 : Int)) (cond (Nat.beq i7 0) (1 : Int) (0 : Int)) (cond (Nat.beq i7 0) (0 : Int) (0 : Int)) (cond (Nat.beq i7 0) (5 : Int) (0 : Int)) (cond (Nat.beq i7 0) (0 : Int) (0 : Int))))) fun (y7 : R_event_Check) =>
 (.ite (seq y1.fst (ByteArray.mk #[50, 32, 99, 108, 97, 105, 109, 32, 48, 32, 53]))
 (.ite (ieq y1.snd 0)
 (.ite (ieq y2.snd 3)
 (.ite (seq y3.fst (ByteArray.mk #[50, 32, 99, 108, 97, 105, 109, 32, 48, 32, 53, 10, 48, 32, 104, 97, 108, 116, 10]))
 (.ite (ieq y3.snd 0)
 (.ite (ieq ((y4.fst.n : Nat) : Int) 2)
 (.need (inb 0 y4.fst.n) <|
 (.ite ((ieq (y4.fst.get (Int.toNat 0)).Thread 2) && ((ieq (y4.fst.get (Int.toNat 0)).Kind 1) && ((ieq (y4.fst.get (Int.toNat 0)).Ring 0) && ((ieq (y4.fst.get (Int.toNat 0)).Ticket 5) && ((ieq (y4.fst.get (Int.toNat 0)).Value 0) && true)))))
 (.ite (ieq y4.snd.fst 0)
 (.ite (ieq y4.snd.snd 0)
 (.ite (ieq y5.snd.fst 2)
 (.ite (ieq y5.snd.snd 3)
 (.ite (ieq y6.fst 15)
 (.ite y6.snd
 (.ite (ieq y7.fst 1)
 (.ite (ieq y7.snd 3)
 (.call con_event_Name (13 : Int) fun (y8 : R_event_Name) =>
 (.ite (seq y8 (ByteArray.mk #[99, 108, 111, 115, 101]))
 (.call con_event_Rings (5 : Int) fun (y9 : R_event_Rings) =>
 (.ite y9
 (.call con_event_Rings (12 : Int) fun (y10 : R_event_Rings) =>
 (.ite (!y10)
 (.call con_event_Right (TApi_Event.mk 2 1 0 5 0) fun (y11 : R_event_Right) =>
 (.ite y11
 (.call con_event_Right (TApi_Event.mk 0 0 0 0 0) fun (y12 : R_event_Right) =>
 (.ite (!y12)
 (.call con_event_Of (y4.fst, 0) fun (y13 : R_event_Of) =>
 (.ite (ieq ((y13.n : Nat) : Int) 1)
 (.call con_event_Same (y4.fst, y4.fst) fun (y14 : R_event_Same) =>
 (.ret y14))
 (.ret false)))
 (.ret false)))
 (.ret false)))
 (.ret false)))
 (.ret false)))
 (.ret false)))
 (.ret false))
 (.ret false))
 (.ret false))
 (.ret false))
 (.ret false))
 (.ret false))
 (.ret false))
 (.ret false))
 (.ret false)))
 (.ret false))
 (.ret false))
 (.ret false))
 (.ret false))
 (.ret false))
 (.ret false)))))))))
theorem sd_w15_awake (x : X_w15_awake) : (tt_w15_awake x).Sides :=
  (TT.s_call fun _ => (TT.s_call fun _ => (TT.s_call fun _ => (TT.s_call fun _ => (TT.s_call fun _ => (TT.s_call fun _ => (TT.s_call fun _ => (TT.s_ite (TT.s_ite (TT.s_ite (TT.s_ite (TT.s_ite (TT.s_ite (TT.s_need (TT.s_ite (TT.s_ite (TT.s_ite (TT.s_ite (TT.s_ite (TT.s_ite (TT.s_ite (TT.s_ite (TT.s_ite (TT.s_call fun _ => (TT.s_ite (TT.s_call fun _ => (TT.s_ite (TT.s_call fun _ => (TT.s_ite (TT.s_call fun _ => (TT.s_ite (TT.s_call fun _ => (TT.s_ite (TT.s_call fun _ => (TT.s_ite (TT.s_call fun _ => TT.s_ret) TT.s_ret)) TT.s_ret)) TT.s_ret)) TT.s_ret)) TT.s_ret)) TT.s_ret)) TT.s_ret) TT.s_ret) TT.s_ret) TT.s_ret) TT.s_ret) TT.s_ret) TT.s_ret) TT.s_ret) TT.s_ret)) TT.s_ret) TT.s_ret) TT.s_ret) TT.s_ret) TT.s_ret) TT.s_ret))))))))

noncomputable def D_w15_awake : Dyn X_w15_awake R_w15_awake := .of tt_w15_awake
noncomputable def con_w15_awake : Con Tryd.prog :=
  mkCon 9 J_w15_awake S_w15_awake D_w15_awake D_w15_awake (fun _ _ h => h) 0 0 [] (by kernel_rfl) (by kernel_rfl) (by kernel_rfl) (lab_ok mixed_ok labs_nil 4000 (fun x => by kernel_rfl) sd_w15_awake) rfl rfl (fun _ => rfl) (by kernel_rfl) rfl (fun _ => rfl) (fun x y _ => by kernel_rfl)

/-! rondeauref15.Names (r15_Names) -/
abbrev X_r15_Names : Type := Int
abbrev R_r15_Names : Type := ByteArray
noncomputable def J_r15_Names : Job Tryd.prog :=
  job Tryd.prog Tryd.f16 19 [] [] [] [] [.any] [] [] R_r15_Names [] fun y => [V.str y]
noncomputable def S_r15_Names : LabS :=
  lab0 Tryd.f16 1 0 X_r15_Names (fun x => [(V.int .i64) x]) fun l => (dI (at_ l 0))
noncomputable def tt_r15_Names (x : X_r15_Names) : TT Tryd.prog R_r15_Names :=
 (.ite (ieq x 1)
 (.ret (ByteArray.mk #[82, 84]))
 (.ite (ieq x 2)
 (.ret (ByteArray.mk #[82, 84]))
 (.ite (ieq x 3)
 (.ret (ByteArray.mk #[82, 84]))
 (.ite (ieq x 4)
 (.ret (ByteArray.mk #[82, 84]))
 (.ite (ieq x 13)
 (.ret (ByteArray.mk #[82, 84]))
 (.ite (ieq x 5)
 (.ret (ByteArray.mk #[82]))
 (.ite (ieq x 6)
 (.ret (ByteArray.mk #[82]))
 (.ite (ieq x 7)
 (.ret (ByteArray.mk #[82]))
 (.ite (ieq x 8)
 (.ret (ByteArray.mk #[86]))
 (.ite (ieq x 9)
 (.ret (ByteArray.mk #[86]))
 (.ite (ieq x 10)
 (.ret (ByteArray.mk #[86]))
 (.ite (ieq x 12)
 (.ret (ByteArray.mk #[86]))
 (.ret (ByteArray.mk #[]))))))))))))))
theorem sd_r15_Names (x : X_r15_Names) : (tt_r15_Names x).Sides :=
  (TT.s_ite TT.s_ret (TT.s_ite TT.s_ret (TT.s_ite TT.s_ret (TT.s_ite TT.s_ret (TT.s_ite TT.s_ret (TT.s_ite TT.s_ret (TT.s_ite TT.s_ret (TT.s_ite TT.s_ret (TT.s_ite TT.s_ret (TT.s_ite TT.s_ret (TT.s_ite TT.s_ret (TT.s_ite TT.s_ret TT.s_ret))))))))))))

noncomputable def D_r15_Names : Dyn X_r15_Names R_r15_Names := .of tt_r15_Names
noncomputable def con_r15_Names : Con Tryd.prog :=
  mkCon 16 J_r15_Names S_r15_Names D_r15_Names D_r15_Names (fun _ _ h => h) 1 0 [.any] (by kernel_rfl) (by kernel_rfl) (by kernel_rfl) (lab_ok mixed_ok labs_nil 4000 (fun x => by kernel_rfl) sd_r15_Names) rfl rfl (fun _ => rfl) (by kernel_rfl) rfl (fun _ => rfl) (fun x y _ => by kernel_rfl)

/-! rondeauref15.Name (r15_Name) -/
abbrev X_r15_Name : Type := Int
abbrev R_r15_Name : Type := ByteArray
noncomputable def J_r15_Name : Job Tryd.prog :=
  job Tryd.prog Tryd.f14 16 [(11, 1)] [] [] [] [.any] [] [] R_r15_Name [] fun y => [V.str y]
noncomputable def S_r15_Name : LabS :=
  lab0 Tryd.f14 1 0 X_r15_Name (fun x => [(V.int .i64) x]) fun l => (dI (at_ l 0))
structure X_r15_Name_4 where
  kind_0 : Int
  names_3 : (Sl ByteArray)
noncomputable def S_r15_Name_4 : LabS :=
  labAt Tryd.f14 4 [(0, .any), (3, hsl_str)] [] [] X_r15_Name_4 (fun x => [(V.int .i64) x.kind_0, esl_str x.names_3]) fun l => ⟨dI (at_ l 0), dsl_str (at_ l 1)⟩
noncomputable def tt_r15_Name_4 (x : X_r15_Name_4) : TT Tryd.prog R_r15_Name :=
 (.need (inb (IntKind.i64.wrap (x.kind_0 - 1)) x.names_3.n) <|
 (.ret (x.names_3.get (Int.toNat (IntKind.i64.wrap (x.kind_0 - 1))))))
theorem sd_r15_Name_4 (x : X_r15_Name_4) : (tt_r15_Name_4 x).Sides :=
  (TT.s_need TT.s_ret)

noncomputable def D_r15_Name_4 : Dyn X_r15_Name_4 R_r15_Name := .of tt_r15_Name_4
theorem ok_r15_Name_4 : LabOK J_r15_Name S_r15_Name_4 D_r15_Name_4 :=
  lab_ok mixed_ok labs_nil 4000 (fun x => by kernel_rfl) sd_r15_Name_4
noncomputable def tt_r15_Name (x : X_r15_Name) : TT Tryd.prog R_r15_Name :=
 (.ite (ilt x 1)
 (.ret (ByteArray.mk #[]))
 (.ite (ilt 15 x)
 (.ret (ByteArray.mk #[]))
 (.jump S_r15_Name_4 D_r15_Name_4 (X_r15_Name_4.mk x (Sl.mk false 15 (fun i1 => (cond (Nat.beq i1 0) (ByteArray.mk #[99, 108, 97, 105, 109]) (cond (Nat.beq i1 1) (ByteArray.mk #[112, 117, 98, 108, 105, 115, 104]) (cond (Nat.beq i1 2) (ByteArray.mk #[116, 97, 107, 101]) (cond (Nat.beq i1 3) (ByteArray.mk #[114, 101, 108, 101, 97, 115, 101]) (cond (Nat.beq i1 4) (ByteArray.mk #[110, 111]) (cond (Nat.beq i1 5) (ByteArray.mk #[115, 104, 117, 116]) (cond (Nat.beq i1 6) (ByteArray.mk #[116, 105, 109, 101]) (cond (Nat.beq i1 7) (ByteArray.mk #[99, 108, 111, 99, 107]) (cond (Nat.beq i1 8) (ByteArray.mk #[100, 114, 97, 119]) (cond (Nat.beq i1 9) (ByteArray.mk #[114, 101, 97, 100]) (cond (Nat.beq i1 10) (ByteArray.mk #[101, 110, 100]) (cond (Nat.beq i1 11) (ByteArray.mk #[115, 101, 101]) (cond (Nat.beq i1 12) (ByteArray.mk #[99, 108, 111, 115, 101]) (cond (Nat.beq i1 13) (ByteArray.mk #[104, 97, 108, 116]) (ByteArray.mk #[115, 112, 105, 110])))))))))))))))))))))
theorem sd_r15_Name (x : X_r15_Name) : (tt_r15_Name x).Sides :=
  (TT.s_ite TT.s_ret (TT.s_ite TT.s_ret TT.s_jump))

noncomputable def D_r15_Name : Dyn X_r15_Name R_r15_Name := .of tt_r15_Name
noncomputable def con_r15_Name : Con Tryd.prog :=
  mkCon 14 J_r15_Name S_r15_Name D_r15_Name D_r15_Name (fun _ _ h => h) 1 0 [.any] (by kernel_rfl) (by kernel_rfl) (by kernel_rfl) (lab_ok mixed_ok (labs_cons2 ok_r15_Name_4 rfl labs_nil) 4000 (fun x => by kernel_rfl) sd_r15_Name) rfl rfl (fun _ => rfl) (by kernel_rfl) rfl (fun _ => rfl) (fun x y _ => by kernel_rfl)

/-! rondeauref15.has (r15_has) -/
abbrev X_r15_has : Type := ByteArray × Int
abbrev R_r15_has : Type := Bool
noncomputable def J_r15_has : Job Tryd.prog :=
  job Tryd.prog Tryd.f29 17 [] [] [] [] [.any] [] [] R_r15_has [] fun y => [V.bool y]
noncomputable def S_r15_has : LabS :=
  lab0 Tryd.f29 2 0 X_r15_has (fun x => [V.str x.1, (V.int .u8) x.2]) fun l => (dS (at_ l 0), dI (at_ l 1))
structure X_r15_has_2 where
  s_0 : ByteArray
  c_1 : Int
  i_5 : Int
noncomputable def S_r15_has_2 : LabS :=
  labAt Tryd.f29 2 [(0, .any), (1, .any), (5, .any)] [] [] X_r15_has_2 (fun x => [V.str x.s_0, (V.int .u8) x.c_1, (V.int .i64) x.i_5]) fun l => ⟨dS (at_ l 0), dI (at_ l 1), dI (at_ l 2)⟩
noncomputable def tt_r15_has_2 (D_r15_has_2 : Dyn X_r15_has_2 R_r15_has) (x : X_r15_has_2) : TT Tryd.prog R_r15_has :=
 (.ite (ilt x.i_5 (((ByteArray.size x.s_0) : Nat) : Int))
 (.need (inb x.i_5 (ByteArray.size x.s_0)) <|
 (.ite (ieq (bt x.s_0 (Int.toNat x.i_5)) x.c_1)
 (.ret true)
 (.jump S_r15_has_2 D_r15_has_2 (X_r15_has_2.mk x.s_0 x.c_1 (IntKind.i64.wrap (x.i_5 + 1))))))
 (.ret false))
theorem sd_r15_has_2 (D_r15_has_2 : Dyn X_r15_has_2 R_r15_has) (x : X_r15_has_2) : (tt_r15_has_2 D_r15_has_2 x).Sides :=
  (TT.s_ite (TT.s_need (TT.s_ite TT.s_ret TT.s_jump)) TT.s_ret)

noncomputable def D_r15_has_2 : Dyn X_r15_has_2 R_r15_has := Dyn.loop tt_r15_has_2
theorem ok_r15_has_2 : LabOK J_r15_has S_r15_has_2 D_r15_has_2 :=
  loop_ok fun D_r15_has_2 h_2 => lab_ok mixed_ok (labs_cons2 h_2 rfl labs_nil) 4000 (fun x => by kernel_rfl) (sd_r15_has_2 D_r15_has_2)
noncomputable def tt_r15_has (x : X_r15_has) : TT Tryd.prog R_r15_has :=
 (.jump S_r15_has_2 D_r15_has_2 (X_r15_has_2.mk x.fst x.snd 0))
theorem sd_r15_has (x : X_r15_has) : (tt_r15_has x).Sides :=
  TT.s_jump

noncomputable def D_r15_has : Dyn X_r15_has R_r15_has := .of tt_r15_has
noncomputable def con_r15_has : Con Tryd.prog :=
  mkCon 29 J_r15_has S_r15_has D_r15_has D_r15_has (fun _ _ h => h) 2 0 [.any, .any] (by kernel_rfl) (by kernel_rfl) (by kernel_rfl) (lab_ok mixed_ok (labs_cons2 ok_r15_has_2 rfl labs_nil) 4000 (fun x => by kernel_rfl) sd_r15_has) rfl rfl (fun _ => rfl) (by kernel_rfl) rfl (fun _ => rfl) (fun x y _ => by kernel_rfl)

/-! rondeauref15.Right (r15_Right) -/
abbrev X_r15_Right : Type := TApi_Event
abbrev R_r15_Right : Type := Bool
noncomputable def J_r15_Right : Job Tryd.prog :=
  job Tryd.prog Tryd.f11 61 [(1, 3)] [] [] [] [.any] [] [con_r15_Name, con_r15_Names, con_r15_has] R_r15_Right [] fun y => [V.bool y]
noncomputable def S_r15_Right : LabS :=
  lab0 Tryd.f11 1 0 X_r15_Right (fun x => [e_TApi_Event x]) fun l => (d_TApi_Event (at_ l 0))
structure X_r15_Right_4 where
  e_1 : TApi_Event
  f_3 : ByteArray
noncomputable def S_r15_Right_4 : LabS :=
  labAt Tryd.f11 4 [(1, .any), (3, .any)] [] [] X_r15_Right_4 (fun x => [(eVp e_TApi_Event) x.e_1, V.str x.f_3]) fun l => ⟨(dVp d_TApi_Event) (at_ l 0), dS (at_ l 1)⟩
noncomputable def tt_r15_Right_4 (x : X_r15_Right_4) : TT Tryd.prog R_r15_Right :=
 (.call con_r15_has (x.f_3, 82) fun (y1 : R_r15_has) =>
 (.ite y1
 (.call con_r15_has (x.f_3, 84) fun (y2 : R_r15_has) =>
 (.ite y2
 (.call con_r15_has (x.f_3, 86) fun (y3 : R_r15_has) =>
 (.ite y3
 (.ret true)
 (.ret (ieq x.e_1.Value 0))))
 (.ite (ieq x.e_1.Ticket 0)
 (.call con_r15_has (x.f_3, 86) fun (y3 : R_r15_has) =>
 (.ite y3
 (.ret true)
 (.ret (ieq x.e_1.Value 0))))
 (.ret false))))
 (.ite (ieq x.e_1.Ring 0)
 (.call con_r15_has (x.f_3, 84) fun (y2 : R_r15_has) =>
 (.ite y2
 (.call con_r15_has (x.f_3, 86) fun (y3 : R_r15_has) =>
 (.ite y3
 (.ret true)
 (.ret (ieq x.e_1.Value 0))))
 (.ite (ieq x.e_1.Ticket 0)
 (.call con_r15_has (x.f_3, 86) fun (y3 : R_r15_has) =>
 (.ite y3
 (.ret true)
 (.ret (ieq x.e_1.Value 0))))
 (.ret false))))
 (.ret false))))
theorem sd_r15_Right_4 (x : X_r15_Right_4) : (tt_r15_Right_4 x).Sides :=
  (TT.s_call fun _ => (TT.s_ite (TT.s_call fun _ => (TT.s_ite (TT.s_call fun _ => (TT.s_ite TT.s_ret TT.s_ret)) (TT.s_ite (TT.s_call fun _ => (TT.s_ite TT.s_ret TT.s_ret)) TT.s_ret))) (TT.s_ite (TT.s_call fun _ => (TT.s_ite (TT.s_call fun _ => (TT.s_ite TT.s_ret TT.s_ret)) (TT.s_ite (TT.s_call fun _ => (TT.s_ite TT.s_ret TT.s_ret)) TT.s_ret))) TT.s_ret)))

noncomputable def D_r15_Right_4 : Dyn X_r15_Right_4 R_r15_Right := .of tt_r15_Right_4
theorem ok_r15_Right_4 : LabOK J_r15_Right S_r15_Right_4 D_r15_Right_4 :=
  lab_ok mixed_ok labs_nil 4000 (fun x => by kernel_rfl) sd_r15_Right_4
noncomputable def tt_r15_Right (x : X_r15_Right) : TT Tryd.prog R_r15_Right :=
 (.call con_r15_Names x.Kind fun (y1 : R_r15_Names) =>
 (.call con_r15_Name x.Kind fun (y2 : R_r15_Name) =>
 (.ite (seq y2 (ByteArray.mk #[]))
 (.ret false)
 (.ite (ilt x.Thread 0)
 (.ret false)
 (.ite (ilt 7 x.Thread)
 (.ret false)
 (.ite (ilt x.Ring 0)
 (.ret false)
 (.ite (ilt 7 x.Ring)
 (.ret false)
 (.ite (ile 4611686018427387904 x.Ticket)
 (.ret false)
 (.jump S_r15_Right_4 D_r15_Right_4 (X_r15_Right_4.mk x y1))))))))))
theorem sd_r15_Right (x : X_r15_Right) : (tt_r15_Right x).Sides :=
  (TT.s_call fun _ => (TT.s_call fun _ => (TT.s_ite TT.s_ret (TT.s_ite TT.s_ret (TT.s_ite TT.s_ret (TT.s_ite TT.s_ret (TT.s_ite TT.s_ret (TT.s_ite TT.s_ret TT.s_jump))))))))

noncomputable def D_r15_Right : Dyn X_r15_Right R_r15_Right := .of tt_r15_Right
noncomputable def con_r15_Right : Con Tryd.prog :=
  mkCon 11 J_r15_Right S_r15_Right D_r15_Right D_r15_Right (fun _ _ h => h) 1 0 [.any] (by kernel_rfl) (by kernel_rfl) (by kernel_rfl) (lab_ok mixed_ok (labs_cons2 ok_r15_Right_4 rfl labs_nil) 4000 (fun x => by kernel_rfl) sd_r15_Right) rfl rfl (fun _ => rfl) (by kernel_rfl) rfl (fun _ => rfl) (fun x y _ => by kernel_rfl)

/-! rondeauref10.Number (r10_Number) -/
abbrev X_r10_Number : Type := Int
abbrev R_r10_Number : Type := ByteArray
noncomputable def J_r10_Number : Job Tryd.prog :=
  job Tryd.prog Tryd.f31 23 [] [] [] [] [.any] [] [] R_r10_Number [] fun y => [V.str y]
noncomputable def S_r10_Number : LabS :=
  lab0 Tryd.f31 1 0 X_r10_Number (fun x => [(V.int .u64) x]) fun l => (dI (at_ l 0))
structure X_r10_Number_2 where
  n_0 : Int
  out_3 : ByteArray
noncomputable def S_r10_Number_2 : LabS :=
  labAt Tryd.f31 2 [(0, .any), (3, .any)] [] [] X_r10_Number_2 (fun x => [(V.int .u64) x.n_0, V.str x.out_3]) fun l => ⟨dI (at_ l 0), dS (at_ l 1)⟩
structure X_r10_Number_5 where
  n_0 : Int
  out_3 : ByteArray
noncomputable def S_r10_Number_5 : LabS :=
  labAt Tryd.f31 5 [(0, .any), (3, .any)] [] [] X_r10_Number_5 (fun x => [(V.int .u64) x.n_0, V.str x.out_3]) fun l => ⟨dI (at_ l 0), dS (at_ l 1)⟩
noncomputable def tt_r10_Number_5 (x : X_r10_Number_5) : TT Tryd.prog R_r10_Number :=
 (.side (∀ i1 : Nat, ((i1 < (1 : Nat)) → (∃ m2 : Int, ((cond false (cond (Nat.beq 18 18) (V.int IntKind.u8 (IntKind.u8.wrap (IntKind.u64.wrap ((48 : Int) + x.n_0)))) (cond (Nat.beq 18 17) (V.int IntKind.u64 (IntKind.u64.wrap ((48 : Int) + x.n_0))) (cond (Nat.beq 18 16) (cond false (cond (Nat.beq 0 0) (V.int IntKind.u64 x.n_0) (cond (Nat.beq 0 3) (V.str x.out_3) V.undef)) (cond (Nat.beq 0 0) (V.int IntKind.u64 x.n_0) (cond (Nat.beq 0 3) (V.str x.out_3) V.undef))) (cond (Nat.beq 18 0) (V.int IntKind.u64 x.n_0) (cond (Nat.beq 18 3) (V.str x.out_3) V.undef))))) (cond (Nat.beq 18 18) (V.int IntKind.u8 (IntKind.u8.wrap (IntKind.u64.wrap ((48 : Int) + x.n_0)))) (cond (Nat.beq 18 17) (V.int IntKind.u64 (IntKind.u64.wrap ((48 : Int) + x.n_0))) (cond (Nat.beq 18 16) (cond false (cond (Nat.beq 0 0) (V.int IntKind.u64 x.n_0) (cond (Nat.beq 0 3) (V.str x.out_3) V.undef)) (cond (Nat.beq 0 0) (V.int IntKind.u64 x.n_0) (cond (Nat.beq 0 3) (V.str x.out_3) V.undef))) (cond (Nat.beq 18 0) (V.int IntKind.u64 x.n_0) (cond (Nat.beq 18 3) (V.str x.out_3) V.undef)))))) = (V.int IntKind.u8 m2))))) <|
 (.need (decide ((((ByteArray.size (bytesOf 1 (fun i1 => (IntKind.u8.wrap (IntKind.u64.wrap ((48 : Int) + x.n_0)))))) + (ByteArray.size x.out_3)) ≤ (9223372036854775807 : Nat)))) <|
 (.ret ((bytesOf 1 (fun i1 => (IntKind.u8.wrap (IntKind.u64.wrap ((48 : Int) + x.n_0))))) ++ x.out_3))))
theorem sd_r10_Number_5 (x : X_r10_Number_5) : (tt_r10_Number_5 x).Sides :=
  (TT.s_side (fun _ _ => ⟨_, rfl⟩) (TT.s_need TT.s_ret))

noncomputable def D_r10_Number_5 : Dyn X_r10_Number_5 R_r10_Number := .of tt_r10_Number_5
theorem ok_r10_Number_5 : LabOK J_r10_Number S_r10_Number_5 D_r10_Number_5 :=
  lab_ok mixed_ok labs_nil 4000 (fun x => by kernel_rfl) sd_r10_Number_5
noncomputable def tt_r10_Number_2 (D_r10_Number_2 : Dyn X_r10_Number_2 R_r10_Number) (x : X_r10_Number_2) : TT Tryd.prog R_r10_Number :=
 (.ite (ilt 9 x.n_0)
 (.side (∀ i2 : Nat, ((i2 < (1 : Nat)) → (∃ m3 : Int, ((cond false (cond (Nat.beq 9 9) (V.int IntKind.u8 (IntKind.u8.wrap (IntKind.u64.wrap ((48 : Int) + (Int.tmod x.n_0 10))))) (cond (Nat.beq 9 8) (V.int IntKind.u64 (IntKind.u64.wrap ((48 : Int) + (Int.tmod x.n_0 10)))) (cond (Nat.beq 9 7) (V.int IntKind.u64 (Int.tmod x.n_0 10)) (cond (Nat.beq 9 6) (cond false (cond (Nat.beq 0 5) (V.bool (ilt 9 x.n_0)) (cond (Nat.beq 0 4) (cond false (cond (Nat.beq 0 0) (V.int IntKind.u64 x.n_0) (cond (Nat.beq 0 3) (V.str x.out_3) V.undef)) (cond (Nat.beq 0 0) (V.int IntKind.u64 x.n_0) (cond (Nat.beq 0 3) (V.str x.out_3) V.undef))) (cond (Nat.beq 0 0) (V.int IntKind.u64 x.n_0) (cond (Nat.beq 0 3) (V.str x.out_3) V.undef)))) (cond (Nat.beq 0 5) (V.bool (ilt 9 x.n_0)) (cond (Nat.beq 0 4) (cond false (cond (Nat.beq 0 0) (V.int IntKind.u64 x.n_0) (cond (Nat.beq 0 3) (V.str x.out_3) V.undef)) (cond (Nat.beq 0 0) (V.int IntKind.u64 x.n_0) (cond (Nat.beq 0 3) (V.str x.out_3) V.undef))) (cond (Nat.beq 0 0) (V.int IntKind.u64 x.n_0) (cond (Nat.beq 0 3) (V.str x.out_3) V.undef))))) (cond (Nat.beq 9 5) (V.bool (ilt 9 x.n_0)) (cond (Nat.beq 9 4) (cond false (cond (Nat.beq 0 0) (V.int IntKind.u64 x.n_0) (cond (Nat.beq 0 3) (V.str x.out_3) V.undef)) (cond (Nat.beq 0 0) (V.int IntKind.u64 x.n_0) (cond (Nat.beq 0 3) (V.str x.out_3) V.undef))) (cond (Nat.beq 9 0) (V.int IntKind.u64 x.n_0) (cond (Nat.beq 9 3) (V.str x.out_3) V.undef)))))))) (cond (Nat.beq 9 9) (V.int IntKind.u8 (IntKind.u8.wrap (IntKind.u64.wrap ((48 : Int) + (Int.tmod x.n_0 10))))) (cond (Nat.beq 9 8) (V.int IntKind.u64 (IntKind.u64.wrap ((48 : Int) + (Int.tmod x.n_0 10)))) (cond (Nat.beq 9 7) (V.int IntKind.u64 (Int.tmod x.n_0 10)) (cond (Nat.beq 9 6) (cond false (cond (Nat.beq 0 5) (V.bool (ilt 9 x.n_0)) (cond (Nat.beq 0 4) (cond false (cond (Nat.beq 0 0) (V.int IntKind.u64 x.n_0) (cond (Nat.beq 0 3) (V.str x.out_3) V.undef)) (cond (Nat.beq 0 0) (V.int IntKind.u64 x.n_0) (cond (Nat.beq 0 3) (V.str x.out_3) V.undef))) (cond (Nat.beq 0 0) (V.int IntKind.u64 x.n_0) (cond (Nat.beq 0 3) (V.str x.out_3) V.undef)))) (cond (Nat.beq 0 5) (V.bool (ilt 9 x.n_0)) (cond (Nat.beq 0 4) (cond false (cond (Nat.beq 0 0) (V.int IntKind.u64 x.n_0) (cond (Nat.beq 0 3) (V.str x.out_3) V.undef)) (cond (Nat.beq 0 0) (V.int IntKind.u64 x.n_0) (cond (Nat.beq 0 3) (V.str x.out_3) V.undef))) (cond (Nat.beq 0 0) (V.int IntKind.u64 x.n_0) (cond (Nat.beq 0 3) (V.str x.out_3) V.undef))))) (cond (Nat.beq 9 5) (V.bool (ilt 9 x.n_0)) (cond (Nat.beq 9 4) (cond false (cond (Nat.beq 0 0) (V.int IntKind.u64 x.n_0) (cond (Nat.beq 0 3) (V.str x.out_3) V.undef)) (cond (Nat.beq 0 0) (V.int IntKind.u64 x.n_0) (cond (Nat.beq 0 3) (V.str x.out_3) V.undef))) (cond (Nat.beq 9 0) (V.int IntKind.u64 x.n_0) (cond (Nat.beq 9 3) (V.str x.out_3) V.undef))))))))) = (V.int IntKind.u8 m3))))) <|
 (.need (decide ((((ByteArray.size (bytesOf 1 (fun i2 => (IntKind.u8.wrap (IntKind.u64.wrap ((48 : Int) + (Int.tmod x.n_0 10))))))) + (ByteArray.size x.out_3)) ≤ (9223372036854775807 : Nat)))) <|
 (.jump S_r10_Number_2 D_r10_Number_2 (X_r10_Number_2.mk (IntKind.u64.wrap (Int.tdiv x.n_0 10)) ((bytesOf 1 (fun i2 => (IntKind.u8.wrap (IntKind.u64.wrap ((48 : Int) + (Int.tmod x.n_0 10)))))) ++ x.out_3)))))
 (.jump S_r10_Number_5 D_r10_Number_5 (X_r10_Number_5.mk x.n_0 x.out_3)))
theorem sd_r10_Number_2 (D_r10_Number_2 : Dyn X_r10_Number_2 R_r10_Number) (x : X_r10_Number_2) : (tt_r10_Number_2 D_r10_Number_2 x).Sides :=
  (TT.s_ite (TT.s_side (fun _ _ => ⟨_, rfl⟩) (TT.s_need TT.s_jump)) TT.s_jump)

noncomputable def D_r10_Number_2 : Dyn X_r10_Number_2 R_r10_Number := Dyn.loop tt_r10_Number_2
theorem ok_r10_Number_2 : LabOK J_r10_Number S_r10_Number_2 D_r10_Number_2 :=
  loop_ok fun D_r10_Number_2 h_2 => lab_ok mixed_ok (labs_cons2 h_2 rfl (labs_cons2 ok_r10_Number_5 rfl labs_nil)) 4000 (fun x => by kernel_rfl) (sd_r10_Number_2 D_r10_Number_2)
noncomputable def tt_r10_Number (x : X_r10_Number) : TT Tryd.prog R_r10_Number :=
 (.jump S_r10_Number_2 D_r10_Number_2 (X_r10_Number_2.mk x (ByteArray.mk #[])))
theorem sd_r10_Number (x : X_r10_Number) : (tt_r10_Number x).Sides :=
  TT.s_jump

noncomputable def D_r10_Number : Dyn X_r10_Number R_r10_Number := .of tt_r10_Number
noncomputable def con_r10_Number : Con Tryd.prog :=
  mkCon 31 J_r10_Number S_r10_Number D_r10_Number D_r10_Number (fun _ _ h => h) 1 0 [.any] (by kernel_rfl) (by kernel_rfl) (by kernel_rfl) (lab_ok mixed_ok (labs_cons2 ok_r10_Number_5 rfl (labs_cons2 ok_r10_Number_2 rfl labs_nil)) 4000 (fun x => by kernel_rfl) sd_r10_Number) rfl rfl (fun _ => rfl) (by kernel_rfl) rfl (fun _ => rfl) (fun x y _ => by kernel_rfl)

/-! rondeauref15.Line (r15_Line) -/
abbrev X_r15_Line : Type := TApi_Event
abbrev R_r15_Line : Type := ByteArray
noncomputable def J_r15_Line : Job Tryd.prog :=
  job Tryd.prog Tryd.f13 43 [(1, 3)] [] [] [] [.any] [] [con_r10_Number, con_r15_Name, con_r15_Names, con_r15_has] R_r15_Line [] fun y => [V.str y]
noncomputable def S_r15_Line : LabS :=
  lab0 Tryd.f13 1 0 X_r15_Line (fun x => [e_TApi_Event x]) fun l => (d_TApi_Event (at_ l 0))
structure X_r15_Line_5 where
  e_1 : TApi_Event
  s_3 : ByteArray
  f_4 : ByteArray
noncomputable def S_r15_Line_5 : LabS :=
  labAt Tryd.f13 5 [(1, .any), (3, .any), (4, .any)] [] [] X_r15_Line_5 (fun x => [(eVp e_TApi_Event) x.e_1, V.str x.s_3, V.str x.f_4]) fun l => ⟨(dVp d_TApi_Event) (at_ l 0), dS (at_ l 1), dS (at_ l 2)⟩
structure X_r15_Line_7 where
  e_1 : TApi_Event
  s_3 : ByteArray
  f_4 : ByteArray
noncomputable def S_r15_Line_7 : LabS :=
  labAt Tryd.f13 7 [(1, .any), (3, .any), (4, .any)] [] [] X_r15_Line_7 (fun x => [(eVp e_TApi_Event) x.e_1, V.str x.s_3, V.str x.f_4]) fun l => ⟨(dVp d_TApi_Event) (at_ l 0), dS (at_ l 1), dS (at_ l 2)⟩
noncomputable def tt_r15_Line_7 (x : X_r15_Line_7) : TT Tryd.prog R_r15_Line :=
 (.call con_r15_has (x.f_4, 86) fun (y1 : R_r15_has) =>
 (.ite y1
 (.call con_r10_Number x.e_1.Value fun (y2 : R_r10_Number) =>
 (.need (decide ((((ByteArray.size (ByteArray.mk #[32])) + (ByteArray.size y2)) ≤ (9223372036854775807 : Nat)))) <|
 (.need (decide ((((ByteArray.size x.s_3) + (ByteArray.size ((ByteArray.mk #[32]) ++ y2))) ≤ (9223372036854775807 : Nat)))) <|
 (.ret (x.s_3 ++ ((ByteArray.mk #[32]) ++ y2))))))
 (.ret x.s_3)))
theorem sd_r15_Line_7 (x : X_r15_Line_7) : (tt_r15_Line_7 x).Sides :=
  (TT.s_call fun _ => (TT.s_ite (TT.s_call fun _ => (TT.s_need (TT.s_need TT.s_ret))) TT.s_ret))

noncomputable def D_r15_Line_7 : Dyn X_r15_Line_7 R_r15_Line := .of tt_r15_Line_7
theorem ok_r15_Line_7 : LabOK J_r15_Line S_r15_Line_7 D_r15_Line_7 :=
  lab_ok mixed_ok labs_nil 4000 (fun x => by kernel_rfl) sd_r15_Line_7
noncomputable def tt_r15_Line_5 (x : X_r15_Line_5) : TT Tryd.prog R_r15_Line :=
 (.call con_r15_has (x.f_4, 84) fun (y1 : R_r15_has) =>
 (.ite y1
 (.call con_r10_Number x.e_1.Ticket fun (y2 : R_r10_Number) =>
 (.need (decide ((((ByteArray.size (ByteArray.mk #[32])) + (ByteArray.size y2)) ≤ (9223372036854775807 : Nat)))) <|
 (.need (decide ((((ByteArray.size x.s_3) + (ByteArray.size ((ByteArray.mk #[32]) ++ y2))) ≤ (9223372036854775807 : Nat)))) <|
 (.jump S_r15_Line_7 D_r15_Line_7 (X_r15_Line_7.mk x.e_1 (x.s_3 ++ ((ByteArray.mk #[32]) ++ y2)) x.f_4)))))
 (.jump S_r15_Line_7 D_r15_Line_7 (X_r15_Line_7.mk x.e_1 x.s_3 x.f_4))))
theorem sd_r15_Line_5 (x : X_r15_Line_5) : (tt_r15_Line_5 x).Sides :=
  (TT.s_call fun _ => (TT.s_ite (TT.s_call fun _ => (TT.s_need (TT.s_need TT.s_jump))) TT.s_jump))

noncomputable def D_r15_Line_5 : Dyn X_r15_Line_5 R_r15_Line := .of tt_r15_Line_5
theorem ok_r15_Line_5 : LabOK J_r15_Line S_r15_Line_5 D_r15_Line_5 :=
  lab_ok mixed_ok (labs_cons2 ok_r15_Line_7 rfl labs_nil) 4000 (fun x => by kernel_rfl) sd_r15_Line_5
noncomputable def tt_r15_Line (x : X_r15_Line) : TT Tryd.prog R_r15_Line :=
 (.call con_r10_Number (IntKind.u64.wrap x.Thread) fun (y1 : R_r10_Number) =>
 (.need (decide ((((ByteArray.size y1) + (ByteArray.size (ByteArray.mk #[32]))) ≤ (9223372036854775807 : Nat)))) <|
 (.call con_r15_Name x.Kind fun (y2 : R_r15_Name) =>
 (.need (decide ((((ByteArray.size (y1 ++ (ByteArray.mk #[32]))) + (ByteArray.size y2)) ≤ (9223372036854775807 : Nat)))) <|
 (.call con_r15_Names x.Kind fun (y3 : R_r15_Names) =>
 (.call con_r15_has (y3, 82) fun (y4 : R_r15_has) =>
 (.ite y4
 (.call con_r10_Number (IntKind.u64.wrap x.Ring) fun (y5 : R_r10_Number) =>
 (.need (decide ((((ByteArray.size (ByteArray.mk #[32])) + (ByteArray.size y5)) ≤ (9223372036854775807 : Nat)))) <|
 (.need (decide ((((ByteArray.size ((y1 ++ (ByteArray.mk #[32])) ++ y2)) + (ByteArray.size ((ByteArray.mk #[32]) ++ y5))) ≤ (9223372036854775807 : Nat)))) <|
 (.jump S_r15_Line_5 D_r15_Line_5 (X_r15_Line_5.mk x (((y1 ++ (ByteArray.mk #[32])) ++ y2) ++ ((ByteArray.mk #[32]) ++ y5)) y3)))))
 (.jump S_r15_Line_5 D_r15_Line_5 (X_r15_Line_5.mk x ((y1 ++ (ByteArray.mk #[32])) ++ y2) y3)))))))))
theorem sd_r15_Line (x : X_r15_Line) : (tt_r15_Line x).Sides :=
  (TT.s_call fun _ => (TT.s_need (TT.s_call fun _ => (TT.s_need (TT.s_call fun _ => (TT.s_call fun _ => (TT.s_ite (TT.s_call fun _ => (TT.s_need (TT.s_need TT.s_jump))) TT.s_jump)))))))

noncomputable def D_r15_Line : Dyn X_r15_Line R_r15_Line := .of tt_r15_Line
noncomputable def con_r15_Line : Con Tryd.prog :=
  mkCon 13 J_r15_Line S_r15_Line D_r15_Line D_r15_Line (fun _ _ h => h) 1 0 [.any] (by kernel_rfl) (by kernel_rfl) (by kernel_rfl) (lab_ok mixed_ok (labs_cons2 ok_r15_Line_7 rfl (labs_cons2 ok_r15_Line_5 rfl labs_nil)) 4000 (fun x => by kernel_rfl) sd_r15_Line) rfl rfl (fun _ => rfl) (by kernel_rfl) rfl (fun _ => rfl) (fun x y _ => by kernel_rfl)

/-! rondeaulaw15.EventTells (w15_EventTells) -/
abbrev X_w15_EventTells : Type := TApi_Event × ByteArray
abbrev R_w15_EventTells : Type := Bool
noncomputable def J_w15_EventTells : Job Tryd.prog :=
  job Tryd.prog Tryd.f3 126 [(2, 3), (22, 1), (63, 1), (68, 1)] [] [] [] [.any] [] [con_event_Find, con_event_Line, con_event_Name, con_event_Right, con_event_Rings, con_r15_Line, con_r15_Name, con_r15_Names, con_r15_Right, con_w15_awake] R_w15_EventTells [] fun y => [V.bool y]
noncomputable def S_w15_EventTells : LabS :=
  lab0 Tryd.f3 2 0 X_w15_EventTells (fun x => [e_TApi_Event x.1, V.str x.2]) fun l => (d_TApi_Event (at_ l 0), dS (at_ l 1))
structure X_w15_EventTells_3 where
  name_1 : ByteArray
  e_2 : TApi_Event
noncomputable def S_w15_EventTells_3 : LabS :=
  labAt Tryd.f3 3 [(1, .any), (2, .any)] [] [] X_w15_EventTells_3 (fun x => [V.str x.name_1, (eVp e_TApi_Event) x.e_2]) fun l => ⟨dS (at_ l 0), (dVp d_TApi_Event) (at_ l 1)⟩
structure X_w15_EventTells_7 where
  name_1 : ByteArray
  e_2 : TApi_Event
noncomputable def S_w15_EventTells_7 : LabS :=
  labAt Tryd.f3 7 [(1, .any), (2, .any)] [] [] X_w15_EventTells_7 (fun x => [V.str x.name_1, (eVp e_TApi_Event) x.e_2]) fun l => ⟨dS (at_ l 0), (dVp d_TApi_Event) (at_ l 1)⟩
noncomputable def tt_w15_EventTells_7 (x : X_w15_EventTells_7) : TT Tryd.prog R_w15_EventTells :=
 (.call con_r15_Name x.e_2.Kind fun (y1 : R_r15_Name) =>
 (.call con_event_Find x.name_1 fun (y2 : R_event_Find) =>
 (.call con_event_Find y1 fun (y3 : R_event_Find) =>
 (.call con_r15_Names x.e_2.Kind fun (y4 : R_r15_Names) =>
 (.call con_event_Name x.e_2.Kind fun (y5 : R_event_Name) =>
 (.ite (seq y5 y1)
 (.call con_event_Rings x.e_2.Kind fun (y6 : R_event_Rings) =>
 (.ite (!(seq y4 (ByteArray.mk #[])))
 (.need (inb 0 (ByteArray.size y4)) <|
 (.ite (y6 == (ieq (bt y4 (Int.toNat 0)) 82))
 (.ite (!(seq x.name_1 (ByteArray.mk #[])))
 (.call con_r15_Name y2.fst fun (y7 : R_r15_Name) =>
 (.ite (y2.snd == (seq y7 x.name_1))
 (.ite y2.snd
 (.ite (seq y1 (ByteArray.mk #[]))
 (.ret true)
 (.ite y3.snd
 (.ret (ieq y3.fst x.e_2.Kind))
 (.ret false)))
 (.ite (ieq y2.fst 0)
 (.ite (seq y1 (ByteArray.mk #[]))
 (.ret true)
 (.ite y3.snd
 (.ret (ieq y3.fst x.e_2.Kind))
 (.ret false)))
 (.ret false)))
 (.ret false)))
 (.ite (y2.snd == false)
 (.ite y2.snd
 (.ite (seq y1 (ByteArray.mk #[]))
 (.ret true)
 (.ite y3.snd
 (.ret (ieq y3.fst x.e_2.Kind))
 (.ret false)))
 (.ite (ieq y2.fst 0)
 (.ite (seq y1 (ByteArray.mk #[]))
 (.ret true)
 (.ite y3.snd
 (.ret (ieq y3.fst x.e_2.Kind))
 (.ret false)))
 (.ret false)))
 (.ret false)))
 (.ret false)))
 (.ite (y6 == false)
 (.ite (!(seq x.name_1 (ByteArray.mk #[])))
 (.call con_r15_Name y2.fst fun (y7 : R_r15_Name) =>
 (.ite (y2.snd == (seq y7 x.name_1))
 (.ite y2.snd
 (.ite (seq y1 (ByteArray.mk #[]))
 (.ret true)
 (.ite y3.snd
 (.ret (ieq y3.fst x.e_2.Kind))
 (.ret false)))
 (.ite (ieq y2.fst 0)
 (.ite (seq y1 (ByteArray.mk #[]))
 (.ret true)
 (.ite y3.snd
 (.ret (ieq y3.fst x.e_2.Kind))
 (.ret false)))
 (.ret false)))
 (.ret false)))
 (.ite (y2.snd == false)
 (.ite y2.snd
 (.ite (seq y1 (ByteArray.mk #[]))
 (.ret true)
 (.ite y3.snd
 (.ret (ieq y3.fst x.e_2.Kind))
 (.ret false)))
 (.ite (ieq y2.fst 0)
 (.ite (seq y1 (ByteArray.mk #[]))
 (.ret true)
 (.ite y3.snd
 (.ret (ieq y3.fst x.e_2.Kind))
 (.ret false)))
 (.ret false)))
 (.ret false)))
 (.ret false))))
 (.ret false)))))))
theorem sd_w15_EventTells_7 (x : X_w15_EventTells_7) : (tt_w15_EventTells_7 x).Sides :=
  (TT.s_call fun _ => (TT.s_call fun _ => (TT.s_call fun _ => (TT.s_call fun _ => (TT.s_call fun _ => (TT.s_ite (TT.s_call fun _ => (TT.s_ite (TT.s_need (TT.s_ite (TT.s_ite (TT.s_call fun _ => (TT.s_ite (TT.s_ite (TT.s_ite TT.s_ret (TT.s_ite TT.s_ret TT.s_ret)) (TT.s_ite (TT.s_ite TT.s_ret (TT.s_ite TT.s_ret TT.s_ret)) TT.s_ret)) TT.s_ret)) (TT.s_ite (TT.s_ite (TT.s_ite TT.s_ret (TT.s_ite TT.s_ret TT.s_ret)) (TT.s_ite (TT.s_ite TT.s_ret (TT.s_ite TT.s_ret TT.s_ret)) TT.s_ret)) TT.s_ret)) TT.s_ret)) (TT.s_ite (TT.s_ite (TT.s_call fun _ => (TT.s_ite (TT.s_ite (TT.s_ite TT.s_ret (TT.s_ite TT.s_ret TT.s_ret)) (TT.s_ite (TT.s_ite TT.s_ret (TT.s_ite TT.s_ret TT.s_ret)) TT.s_ret)) TT.s_ret)) (TT.s_ite (TT.s_ite (TT.s_ite TT.s_ret (TT.s_ite TT.s_ret TT.s_ret)) (TT.s_ite (TT.s_ite TT.s_ret (TT.s_ite TT.s_ret TT.s_ret)) TT.s_ret)) TT.s_ret)) TT.s_ret))) TT.s_ret))))))

noncomputable def D_w15_EventTells_7 : Dyn X_w15_EventTells_7 R_w15_EventTells := .of tt_w15_EventTells_7
theorem ok_w15_EventTells_7 : LabOK J_w15_EventTells S_w15_EventTells_7 D_w15_EventTells_7 :=
  lab_ok mixed_ok labs_nil 4000 (fun x => by kernel_rfl) sd_w15_EventTells_7
noncomputable def tt_w15_EventTells_3 (x : X_w15_EventTells_3) : TT Tryd.prog R_w15_EventTells :=
 (.call con_event_Line x.e_2 fun (y1 : R_event_Line) =>
 (.call con_r15_Right x.e_2 fun (y2 : R_r15_Right) =>
 (.call con_event_Right x.e_2 fun (y3 : R_event_Right) =>
 (.ite (!(y3 == y2))
 (.ret false)
 (.ite (!(y2 == (ieq y1.snd 0)))
 (.ret false)
 (.ite y2
 (.call con_r15_Line x.e_2 fun (y4 : R_r15_Line) =>
 (.ite (!(seq y1.fst y4))
 (.ret false)
 (.ite (!y2)
 (.ite (!(seq y1.fst (ByteArray.mk #[])))
 (.ret false)
 (.ite (!(ieq y1.snd 3))
 (.ret false)
 (.jump S_w15_EventTells_7 D_w15_EventTells_7 (X_w15_EventTells_7.mk x.name_1 x.e_2))))
 (.jump S_w15_EventTells_7 D_w15_EventTells_7 (X_w15_EventTells_7.mk x.name_1 x.e_2)))))
 (.ite (!y2)
 (.ite (!(seq y1.fst (ByteArray.mk #[])))
 (.ret false)
 (.ite (!(ieq y1.snd 3))
 (.ret false)
 (.jump S_w15_EventTells_7 D_w15_EventTells_7 (X_w15_EventTells_7.mk x.name_1 x.e_2))))
 (.jump S_w15_EventTells_7 D_w15_EventTells_7 (X_w15_EventTells_7.mk x.name_1 x.e_2)))))))))
theorem sd_w15_EventTells_3 (x : X_w15_EventTells_3) : (tt_w15_EventTells_3 x).Sides :=
  (TT.s_call fun _ => (TT.s_call fun _ => (TT.s_call fun _ => (TT.s_ite TT.s_ret (TT.s_ite TT.s_ret (TT.s_ite (TT.s_call fun _ => (TT.s_ite TT.s_ret (TT.s_ite (TT.s_ite TT.s_ret (TT.s_ite TT.s_ret TT.s_jump)) TT.s_jump))) (TT.s_ite (TT.s_ite TT.s_ret (TT.s_ite TT.s_ret TT.s_jump)) TT.s_jump)))))))

noncomputable def D_w15_EventTells_3 : Dyn X_w15_EventTells_3 R_w15_EventTells := .of tt_w15_EventTells_3
theorem ok_w15_EventTells_3 : LabOK J_w15_EventTells S_w15_EventTells_3 D_w15_EventTells_3 :=
  lab_ok mixed_ok (labs_cons2 ok_w15_EventTells_7 rfl labs_nil) 4000 (fun x => by kernel_rfl) sd_w15_EventTells_3
noncomputable def tt_w15_EventTells (x : X_w15_EventTells) : TT Tryd.prog R_w15_EventTells :=
 (.call con_w15_awake PUnit.unit fun (y1 : R_w15_awake) =>
 (.ite (!y1)
 (.call con_w15_awake PUnit.unit fun (y2 : R_w15_awake) =>
 (.ret y2))
 (.ite (ilt 50 (((ByteArray.size x.snd) : Nat) : Int))
 (.call con_w15_awake PUnit.unit fun (y2 : R_w15_awake) =>
 (.ret y2))
 (.jump S_w15_EventTells_3 D_w15_EventTells_3 (X_w15_EventTells_3.mk x.snd x.fst)))))
theorem sd_w15_EventTells (x : X_w15_EventTells) : (tt_w15_EventTells x).Sides :=
  (TT.s_call fun _ => (TT.s_ite (TT.s_call fun _ => TT.s_ret) (TT.s_ite (TT.s_call fun _ => TT.s_ret) TT.s_jump)))

noncomputable def D_w15_EventTells : Dyn X_w15_EventTells R_w15_EventTells := .of tt_w15_EventTells
noncomputable def con_w15_EventTells : Con Tryd.prog :=
  mkCon 3 J_w15_EventTells S_w15_EventTells D_w15_EventTells D_w15_EventTells (fun _ _ h => h) 2 0 [.any, .any] (by kernel_rfl) (by kernel_rfl) (by kernel_rfl) (lab_ok mixed_ok (labs_cons2 ok_w15_EventTells_7 rfl (labs_cons2 ok_w15_EventTells_3 rfl labs_nil)) 4000 (fun x => by kernel_rfl) sd_w15_EventTells) rfl rfl (fun _ => rfl) (by kernel_rfl) rfl (fun _ => rfl) (fun x y _ => by kernel_rfl)
end Go.Proofs.YtbmbndfmpndmfaaDoor
