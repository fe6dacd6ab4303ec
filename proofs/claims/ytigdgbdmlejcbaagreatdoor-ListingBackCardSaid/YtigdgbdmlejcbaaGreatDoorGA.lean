/- What functions of the program come to, part A: no statement is proved here. -/
import Derived.Test.YtigdgbdmlejcbaaGreatDoorX
import Derived.Test.YtigdgbdmlejcbaaGreatDoorProg
import Derived.KernelRfl
namespace Go.Proofs.YtigdgbdmlejcbaaGreatDoor
open Go Go.Vm Go.Proofs
set_option maxRecDepth 100000
set_option maxHeartbeats 4000000
theorem mixed_ok : Tryz.prog.follows .mixedOrders = true := by kernel_rfl

def d_TApi_Ring (v : V) : TApi_Ring :=
  ⟨dI (fd v 0), dI (fd v 1), dI (fd v 2)⟩

def e_TApi_Ring (x : TApi_Ring) : V :=
  V.cons ((V.int .i64) x.Kind) (V.cons ((V.int .i64) x.Cap) (V.cons ((V.int .i64) x.Readers) (V.unit)))

theorem nu_e_TApi_Ring (x : TApi_Ring) : (e_TApi_Ring x).NoU := ⟨trivial, trivial, trivial, trivial⟩

abbrev Dsl_TApi_Ring : Type := (Sl TApi_Ring)
def esl_TApi_Ring : Dsl_TApi_Ring → V := (eSl none 3 e_TApi_Ring)
def dsl_TApi_Ring : V → Dsl_TApi_Ring := (dSl d_TApi_Ring)
def hsl_TApi_Ring : Sh := (.sl none 3 (e_TApi_Ring (d_TApi_Ring .undef)))

def d_TApi_Instr (v : V) : TApi_Instr :=
  ⟨dI (fd v 0), dI (fd v 1), dI (fd v 2), dI (fd v 3), dI (fd v 4), dI (fd v 5)⟩

def e_TApi_Instr (x : TApi_Instr) : V :=
  V.cons ((V.int .i64) x.Op) (V.cons ((V.int .i64) x.A) (V.cons ((V.int .i64) x.B) (V.cons ((V.int .i64) x.C) (V.cons ((V.int .i64) x.D) (V.cons ((V.int .u64) x.K) (V.unit))))))

theorem nu_e_TApi_Instr (x : TApi_Instr) : (e_TApi_Instr x).NoU := ⟨trivial, trivial, trivial, trivial, trivial, trivial, trivial⟩

abbrev Dsl_TApi_Instr : Type := (Sl TApi_Instr)
def esl_TApi_Instr : Dsl_TApi_Instr → V := (eSl none 6 e_TApi_Instr)
def dsl_TApi_Instr : V → Dsl_TApi_Instr := (dSl d_TApi_Instr)
def hsl_TApi_Instr : Sh := (.sl none 6 (e_TApi_Instr (d_TApi_Instr .undef)))

abbrev Dsl_sl_TApi_Instr : Type := (Sl (Sl TApi_Instr))
def esl_sl_TApi_Instr : Dsl_sl_TApi_Instr → V := (eSl none 1 esl_TApi_Instr)
def dsl_sl_TApi_Instr : V → Dsl_sl_TApi_Instr := (dSl dsl_TApi_Instr)
def hsl_sl_TApi_Instr : Sh := (.sl none 1 (esl_TApi_Instr (dsl_TApi_Instr .undef)))

structure TApi_Program where
  Rings : (Sl TApi_Ring)
  Threads : (Sl (Sl TApi_Instr))

def d_TApi_Program (v : V) : TApi_Program :=
  ⟨dsl_TApi_Ring (fd v 0), dsl_sl_TApi_Instr (fd v 1)⟩

def e_TApi_Program (x : TApi_Program) : V :=
  V.cons (esl_TApi_Ring x.Rings) (V.cons (esl_sl_TApi_Instr x.Threads) (V.unit))

theorem nu_e_TApi_Program (x : TApi_Program) : (e_TApi_Program x).NoU := ⟨trivial, trivial, trivial⟩

def sh_TApi_Program : Sh := (.cons hsl_TApi_Ring (.cons hsl_sl_TApi_Instr .any))


/-! rondeaulaw10.sample (w10_sample) -/
abbrev X_w10_sample : Type := Unit
abbrev R_w10_sample : Type := TApi_Program
noncomputable def J_w10_sample : Job Tryz.prog :=
  job Tryz.prog Tryz.f21 9 [] [] [] [] [sh_TApi_Program] [] [] R_w10_sample [] fun y => [e_TApi_Program y]
noncomputable def S_w10_sample : LabS :=
  lab0 Tryz.f21 0 0 X_w10_sample (fun _x => []) fun _l => ()
noncomputable def tt_w10_sample (_x : X_w10_sample) : TT Tryz.prog R_w10_sample :=
 (.ret (TApi_Program.mk (Sl.mk false 1 (fun _i1 => (TApi_Ring.mk 1 4 1))) (Sl.mk false 1 (fun _i1 => (Sl.mk false 3 (fun i2 => (TApi_Instr.mk (cond (Nat.beq i2 0) (1 : Int) (cond (Nat.beq i2 1) (18 : Int) (25 : Int))) (cond (Nat.beq i2 0) (1 : Int) (cond (Nat.beq i2 1) (1 : Int) (0 : Int))) (cond (Nat.beq i2 0) (0 : Int) (cond (Nat.beq i2 1) (2 : Int) (0 : Int))) (cond (Nat.beq i2 0) (0 : Int) (cond (Nat.beq i2 1) (0 : Int) (0 : Int))) (cond (Nat.beq i2 0) (0 : Int) (cond (Nat.beq i2 1) (1 : Int) (0 : Int))) (cond (Nat.beq i2 0) (300 : Int) (cond (Nat.beq i2 1) (0 : Int) (0 : Int))))))))))
theorem sd_w10_sample (x : X_w10_sample) : (tt_w10_sample x).Sides :=
  TT.s_ret

noncomputable def D_w10_sample : Dyn X_w10_sample R_w10_sample := .of tt_w10_sample
noncomputable def con_w10_sample : Con Tryz.prog :=
  mkCon 21 J_w10_sample S_w10_sample D_w10_sample D_w10_sample (fun _ _ h => h) 0 0 [] (by kernel_rfl) (by kernel_rfl) (by kernel_rfl) (lab_ok mixed_ok labs_nil 4000 (fun x => by kernel_rfl) sd_w10_sample) rfl rfl (fun _ => rfl) (by kernel_rfl) rfl (fun _ => rfl) (fun x y _ => by kernel_rfl)

/-! strconv.ParseUint -/
abbrev X_strconv_ParseUint : Type := ByteArray × Int × Int
abbrev R_strconv_ParseUint : Type := Int × Bool
noncomputable def con_strconv_ParseUint : Con Tryz.prog :=
  mkPU 106 (by kernel_rfl : Tryz.prog.funcs[106]? = some Tryz.f106) (by kernel_rfl) (by kernel_rfl) 139 (fun l _ => (dS (at_ l 0), dI (at_ l 1), dI (at_ l 2))) [.any, .any, .any] g_PU

/-! listing.number (listing_number) -/
abbrev X_listing_number : Type := ByteArray
abbrev R_listing_number : Type := Int
noncomputable def J_listing_number : Job Tryz.prog :=
  job Tryz.prog Tryz.f83 13 [(5, 1)] [] [] [] [.any] [] [con_strconv_ParseUint] R_listing_number [] fun y => [(V.int .u64) y]
noncomputable def S_listing_number : LabS :=
  lab0 Tryz.f83 1 0 X_listing_number (fun x => [V.str x]) fun l => (dS (at_ l 0))
noncomputable def tt_listing_number (x : X_listing_number) : TT Tryz.prog R_listing_number :=
 (.call con_strconv_ParseUint (x, (10, 64)) fun (y1 : R_strconv_ParseUint) =>
 (.ite y1.snd
 (.ret 0)
 (.ret y1.fst)))
theorem sd_listing_number (x : X_listing_number) : (tt_listing_number x).Sides :=
  (TT.s_call fun _ => (TT.s_ite TT.s_ret TT.s_ret))

noncomputable def D_listing_number : Dyn X_listing_number R_listing_number := .of tt_listing_number
noncomputable def con_listing_number : Con Tryz.prog :=
  mkCon 83 J_listing_number S_listing_number D_listing_number D_listing_number (fun _ _ h => h) 1 0 [.any] (by kernel_rfl) (by kernel_rfl) (by kernel_rfl) (lab_ok mixed_ok labs_nil 4000 (fun x => by kernel_rfl) sd_listing_number) rfl rfl (fun _ => rfl) (by kernel_rfl) rfl (fun _ => rfl) (fun x y _ => by kernel_rfl)

/-! listing.small (listing_small) -/
abbrev X_listing_small : Type := ByteArray
abbrev R_listing_small : Type := Int
noncomputable def J_listing_small : Job Tryz.prog :=
  job Tryz.prog Tryz.f73 7 [] [] [] [] [.any] [] [con_listing_number] R_listing_small [] fun y => [(V.int .i64) y]
noncomputable def S_listing_small : LabS :=
  lab0 Tryz.f73 1 0 X_listing_small (fun x => [V.str x]) fun l => (dS (at_ l 0))
noncomputable def tt_listing_small (x : X_listing_small) : TT Tryz.prog R_listing_small :=
 (.call con_listing_number x fun (y1 : R_listing_number) =>
 (.ret (IntKind.i64.wrap (imin y1 1048576))))
theorem sd_listing_small (x : X_listing_small) : (tt_listing_small x).Sides :=
  (TT.s_call fun _ => TT.s_ret)

noncomputable def D_listing_small : Dyn X_listing_small R_listing_small := .of tt_listing_small
noncomputable def con_listing_small : Con Tryz.prog :=
  mkCon 73 J_listing_small S_listing_small D_listing_small D_listing_small (fun _ _ h => h) 1 0 [.any] (by kernel_rfl) (by kernel_rfl) (by kernel_rfl) (lab_ok mixed_ok labs_nil 4000 (fun x => by kernel_rfl) sd_listing_small) rfl rfl (fun _ => rfl) (by kernel_rfl) rfl (fun _ => rfl) (fun x y _ => by kernel_rfl)

/-! strconv.Itoa -/
abbrev X_strconv_Itoa : Type := Int
abbrev R_strconv_Itoa : Type := ByteArray
noncomputable def con_strconv_Itoa : Con Tryz.prog :=
  mkItoa 45 (by kernel_rfl : Tryz.prog.funcs[45]? = some Tryz.f45) (by kernel_rfl) (by kernel_rfl) (fun l _ => dI (at_ l 0)) [.any] g_Itoa

/-! listing.head (listing_head) -/
abbrev X_listing_head : Type := TApi_Ring
abbrev R_listing_head : Type := ByteArray
noncomputable def J_listing_head : Job Tryz.prog :=
  job Tryz.prog Tryz.f23 44 [(1, 3)] [] [] [] [.any] [] [con_strconv_Itoa] R_listing_head [] fun y => [V.str y]
noncomputable def S_listing_head : LabS :=
  lab0 Tryz.f23 1 0 X_listing_head (fun x => [e_TApi_Ring x]) fun l => (d_TApi_Ring (at_ l 0))
noncomputable def tt_listing_head (x : X_listing_head) : TT Tryz.prog R_listing_head :=
 (.ite (ilt (imin x.Cap x.Readers) 0)
 (.ret (ByteArray.mk #[]))
 (.ite (ilt 255 (imax x.Cap x.Readers))
 (.ret (ByteArray.mk #[]))
 (.ite (ieq x.Kind 1)
 (.ite (ieq x.Readers 1)
 (.call con_strconv_Itoa x.Cap fun (y1 : R_strconv_Itoa) =>
 (.need (decide ((((ByteArray.size (ByteArray.mk #[113, 117, 101, 117, 101, 32])) + (ByteArray.size y1)) ≤ (9223372036854775807 : Nat)))) <|
 (.ret ((ByteArray.mk #[113, 117, 101, 117, 101, 32]) ++ y1))))
 (.ite (ieq x.Kind 2)
 (.call con_strconv_Itoa x.Cap fun (y1 : R_strconv_Itoa) =>
 (.need (decide ((((ByteArray.size (ByteArray.mk #[99, 97, 115, 116, 32])) + (ByteArray.size y1)) ≤ (9223372036854775807 : Nat)))) <|
 (.need (decide ((((ByteArray.size ((ByteArray.mk #[99, 97, 115, 116, 32]) ++ y1)) + (ByteArray.size (ByteArray.mk #[32]))) ≤ (9223372036854775807 : Nat)))) <|
 (.call con_strconv_Itoa x.Readers fun (y2 : R_strconv_Itoa) =>
 (.need (decide ((((ByteArray.size (((ByteArray.mk #[99, 97, 115, 116, 32]) ++ y1) ++ (ByteArray.mk #[32]))) + (ByteArray.size y2)) ≤ (9223372036854775807 : Nat)))) <|
 (.ret ((((ByteArray.mk #[99, 97, 115, 116, 32]) ++ y1) ++ (ByteArray.mk #[32])) ++ y2)))))))
 (.ret (ByteArray.mk #[]))))
 (.ite (ieq x.Kind 2)
 (.call con_strconv_Itoa x.Cap fun (y1 : R_strconv_Itoa) =>
 (.need (decide ((((ByteArray.size (ByteArray.mk #[99, 97, 115, 116, 32])) + (ByteArray.size y1)) ≤ (9223372036854775807 : Nat)))) <|
 (.need (decide ((((ByteArray.size ((ByteArray.mk #[99, 97, 115, 116, 32]) ++ y1)) + (ByteArray.size (ByteArray.mk #[32]))) ≤ (9223372036854775807 : Nat)))) <|
 (.call con_strconv_Itoa x.Readers fun (y2 : R_strconv_Itoa) =>
 (.need (decide ((((ByteArray.size (((ByteArray.mk #[99, 97, 115, 116, 32]) ++ y1) ++ (ByteArray.mk #[32]))) + (ByteArray.size y2)) ≤ (9223372036854775807 : Nat)))) <|
 (.ret ((((ByteArray.mk #[99, 97, 115, 116, 32]) ++ y1) ++ (ByteArray.mk #[32])) ++ y2)))))))
 (.ret (ByteArray.mk #[]))))))
theorem sd_listing_head (x : X_listing_head) : (tt_listing_head x).Sides :=
  (TT.s_ite TT.s_ret (TT.s_ite TT.s_ret (TT.s_ite (TT.s_ite (TT.s_call fun _ => (TT.s_need TT.s_ret)) (TT.s_ite (TT.s_call fun _ => (TT.s_need (TT.s_need (TT.s_call fun _ => (TT.s_need TT.s_ret))))) TT.s_ret)) (TT.s_ite (TT.s_call fun _ => (TT.s_need (TT.s_need (TT.s_call fun _ => (TT.s_need TT.s_ret))))) TT.s_ret))))

noncomputable def D_listing_head : Dyn X_listing_head R_listing_head := .of tt_listing_head
noncomputable def con_listing_head : Con Tryz.prog :=
  mkCon 23 J_listing_head S_listing_head D_listing_head D_listing_head (fun _ _ h => h) 1 0 [.any] (by kernel_rfl) (by kernel_rfl) (by kernel_rfl) (lab_ok mixed_ok labs_nil 4000 (fun x => by kernel_rfl) sd_listing_head) rfl rfl (fun _ => rfl) (by kernel_rfl) rfl (fun _ => rfl) (fun x y _ => by kernel_rfl)

/-! strings.Split -/
abbrev X_strings_Split : Type := ByteArray × ByteArray
abbrev R_strings_Split : Type := Sl ByteArray
noncomputable def con_strings_Split : Con Tryz.prog :=
  mkSplit 72 (by kernel_rfl : Tryz.prog.funcs[72]? = some Tryz.f72) (by kernel_rfl) (by kernel_rfl) (fun l _ => (dS (at_ l 0), dS (at_ l 1))) [.any, .any] g_Split

/-! listing.readRing (listing_readRing) -/
abbrev X_listing_readRing : Type := ByteArray
abbrev R_listing_readRing : Type := TApi_Ring × Bool
noncomputable def J_listing_readRing : Job Tryz.prog :=
  job Tryz.prog Tryz.f52 36 [(11, 1), (22, 1)] [] [] [] [.any, .any] [] [con_listing_head, con_listing_small, con_strings_Split] R_listing_readRing [] fun y => [V.tup (V.cons (e_TApi_Ring y.1) (V.cons (V.bool y.2) (V.unit)))]
noncomputable def S_listing_readRing : LabS :=
  lab0 Tryz.f52 1 0 X_listing_readRing (fun x => [V.str x]) fun l => (dS (at_ l 0))
structure X_listing_readRing_7 where
  s_0 : ByteArray
  m_2 : TApi_Ring
noncomputable def S_listing_readRing_7 : LabS :=
  labAt Tryz.f52 7 [(0, .any), (2, .any)] [] [(.loc 2 0, .any)] X_listing_readRing_7 (fun x => [V.str x.s_0, (V.ptr (.loc 2 0) []), e_TApi_Ring x.m_2]) fun l => ⟨dS (at_ l 0), d_TApi_Ring (at_ l 2)⟩
noncomputable def tt_listing_readRing_7 (x : X_listing_readRing_7) : TT Tryz.prog R_listing_readRing :=
 (.ite (!(seq x.s_0 (ByteArray.mk #[])))
 (.call con_listing_head x.m_2 fun (y1 : R_listing_head) =>
 (.ret (x.m_2, (seq y1 x.s_0))))
 (.ret (x.m_2, false)))
theorem sd_listing_readRing_7 (x : X_listing_readRing_7) : (tt_listing_readRing_7 x).Sides :=
  (TT.s_ite (TT.s_call fun _ => TT.s_ret) TT.s_ret)

noncomputable def D_listing_readRing_7 : Dyn X_listing_readRing_7 R_listing_readRing := .of tt_listing_readRing_7
theorem ok_listing_readRing_7 : LabOK J_listing_readRing S_listing_readRing_7 D_listing_readRing_7 :=
  lab_ok mixed_ok labs_nil 4000 (fun x => by kernel_rfl) sd_listing_readRing_7
noncomputable def tt_listing_readRing (x : X_listing_readRing) : TT Tryz.prog R_listing_readRing :=
 (.call con_strings_Split (x, (ByteArray.mk #[32])) fun (y1 : R_strings_Split) =>
 (.ite (ieq ((y1.n : Nat) : Int) 2)
 (.need (inb 1 y1.n) <|
 (.call con_listing_small (y1.get (Int.toNat 1)) fun (y2 : R_listing_small) =>
 (.jump S_listing_readRing_7 D_listing_readRing_7 (X_listing_readRing_7.mk x (TApi_Ring.mk 1 y2 1)))))
 (.ite (ieq ((y1.n : Nat) : Int) 3)
 (.need (inb 1 y1.n) <|
 (.call con_listing_small (y1.get (Int.toNat 1)) fun (y2 : R_listing_small) =>
 (.need (inb 2 y1.n) <|
 (.call con_listing_small (y1.get (Int.toNat 2)) fun (y3 : R_listing_small) =>
 (.jump S_listing_readRing_7 D_listing_readRing_7 (X_listing_readRing_7.mk x (TApi_Ring.mk 2 y2 y3)))))))
 (.jump S_listing_readRing_7 D_listing_readRing_7 (X_listing_readRing_7.mk x (TApi_Ring.mk 0 0 0))))))
theorem sd_listing_readRing (x : X_listing_readRing) : (tt_listing_readRing x).Sides :=
  (TT.s_call fun _ => (TT.s_ite (TT.s_need (TT.s_call fun _ => TT.s_jump)) (TT.s_ite (TT.s_need (TT.s_call fun _ => (TT.s_need (TT.s_call fun _ => TT.s_jump)))) TT.s_jump)))

noncomputable def D_listing_readRing : Dyn X_listing_readRing R_listing_readRing := .of tt_listing_readRing
noncomputable def con_listing_readRing : Con Tryz.prog :=
  mkCon 52 J_listing_readRing S_listing_readRing D_listing_readRing D_listing_readRing (fun _ _ h => h) 1 0 [.any] (by kernel_rfl) (by kernel_rfl) (by kernel_rfl) (lab_ok mixed_ok (labs_cons2 ok_listing_readRing_7 rfl labs_nil) 4000 (fun x => by kernel_rfl) sd_listing_readRing) rfl rfl (fun _ => rfl) (by kernel_rfl) rfl (fun _ => rfl) (fun x y _ => by kernel_rfl)

abbrev Dsl_str : Type := (Sl ByteArray)
def esl_str : Dsl_str → V := (eSl none 1 V.str)
def dsl_str : V → Dsl_str := (dSl dS)
def hsl_str : Sh := (.sl none 1 (V.str (dS .undef)))

/-! code.names (code_names) -/
abbrev X_code_names : Type := Unit
abbrev R_code_names : Type := (Sl ByteArray)
noncomputable def J_code_names : Job Tryz.prog :=
  job Tryz.prog Tryz.f63 2 [] [] [] [.shut 0] [hsl_str] [] [] R_code_names [] fun y => [esl_str y]
noncomputable def S_code_names : LabS :=
  lab0 Tryz.f63 0 0 X_code_names (fun _x => []) fun _l => ()
noncomputable def tt_code_names (_x : X_code_names) : TT Tryz.prog R_code_names :=
 (.ret (Sl.mk false 25 (fun i1 => (cond (Nat.beq i1 0) (ByteArray.mk #[115, 101, 116]) (cond (Nat.beq i1 1) (ByteArray.mk #[109, 111, 118]) (cond (Nat.beq i1 2) (ByteArray.mk #[97, 100, 100]) (cond (Nat.beq i1 3) (ByteArray.mk #[115, 117, 98]) (cond (Nat.beq i1 4) (ByteArray.mk #[109, 117, 108]) (cond (Nat.beq i1 5) (ByteArray.mk #[100, 105, 118]) (cond (Nat.beq i1 6) (ByteArray.mk #[109, 111, 100]) (cond (Nat.beq i1 7) (ByteArray.mk #[97, 110, 100]) (cond (Nat.beq i1 8) (ByteArray.mk #[111, 114]) (cond (Nat.beq i1 9) (ByteArray.mk #[120, 111, 114]) (cond (Nat.beq i1 10) (ByteArray.mk #[115, 104, 108]) (cond (Nat.beq i1 11) (ByteArray.mk #[115, 104, 114]) (cond (Nat.beq i1 12) (ByteArray.mk #[108, 116]) (cond (Nat.beq i1 13) (ByteArray.mk #[101, 113]) (cond (Nat.beq i1 14) (ByteArray.mk #[106, 109, 112]) (cond (Nat.beq i1 15) (ByteArray.mk #[106, 122]) (cond (Nat.beq i1 16) (ByteArray.mk #[106, 110, 122]) (cond (Nat.beq i1 17) (ByteArray.mk #[115, 101, 110, 100]) (cond (Nat.beq i1 18) (ByteArray.mk #[114, 101, 99, 118]) (cond (Nat.beq i1 19) (ByteArray.mk #[99, 108, 111, 115, 101]) (cond (Nat.beq i1 20) (ByteArray.mk #[99, 108, 111, 99, 107]) (cond (Nat.beq i1 21) (ByteArray.mk #[100, 114, 97, 119]) (cond (Nat.beq i1 22) (ByteArray.mk #[114, 101, 97, 100]) (cond (Nat.beq i1 23) (ByteArray.mk #[115, 101, 101]) (ByteArray.mk #[104, 97, 108, 116]))))))))))))))))))))))))))))
theorem sd_code_names (x : X_code_names) : (tt_code_names x).Sides :=
  TT.s_ret

noncomputable def D_code_names : Dyn X_code_names R_code_names := .of tt_code_names
noncomputable def con_code_names : Con Tryz.prog :=
  mkCon 63 J_code_names S_code_names D_code_names D_code_names (fun _ _ h => h) 0 0 [] (by kernel_rfl) (by kernel_rfl) (by kernel_rfl) (lab_ok mixed_ok labs_nil 4000 (fun x => by kernel_rfl) sd_code_names) rfl rfl (fun _ => rfl) (by kernel_rfl) rfl (fun _ => rfl) (fun x y _ => by kernel_rfl)

/-! slices.Index[[]string,string] (slices_Index_string) -/
abbrev X_slices_Index_string : Type := (Sl ByteArray) × ByteArray
abbrev R_slices_Index_string : Type := Int
noncomputable def J_slices_Index_string : Job Tryz.prog :=
  job Tryz.prog Tryz.f91 19 [] [] [] [] [.any] [] [] R_slices_Index_string [] fun y => [(V.int .i64) y]
noncomputable def S_slices_Index_string : LabS :=
  lab0 Tryz.f91 2 0 X_slices_Index_string (fun x => [esl_str x.1, V.str x.2]) fun l => (dsl_str (at_ l 0), dS (at_ l 1))
structure X_slices_Index_string_2 where
  s_0 : (Sl ByteArray)
  v_1 : ByteArray
  q_7 : Int
  q_8 : Int
noncomputable def S_slices_Index_string_2 : LabS :=
  labAt Tryz.f91 2 [(0, hsl_str), (1, .any), (7, .any), (8, .any)] [] [] X_slices_Index_string_2 (fun x => [esl_str x.s_0, V.str x.v_1, (V.int .i64) x.q_7, (V.int .i64) x.q_8]) fun l => ⟨dsl_str (at_ l 0), dS (at_ l 1), dI (at_ l 2), dI (at_ l 3)⟩
noncomputable def tt_slices_Index_string_2 (D_slices_Index_string_2 : Dyn X_slices_Index_string_2 R_slices_Index_string) (x : X_slices_Index_string_2) : TT Tryz.prog R_slices_Index_string :=
 (.ite (ilt x.q_8 x.q_7)
 (.need (inb x.q_8 x.s_0.n) <|
 (.ite (seq x.v_1 (x.s_0.get (Int.toNat x.q_8)))
 (.ret x.q_8)
 (.jump S_slices_Index_string_2 D_slices_Index_string_2 (X_slices_Index_string_2.mk x.s_0 x.v_1 x.q_7 (IntKind.i64.wrap (x.q_8 + 1))))))
 (.ret (-(1 : Int))))
theorem sd_slices_Index_string_2 (D_slices_Index_string_2 : Dyn X_slices_Index_string_2 R_slices_Index_string) (x : X_slices_Index_string_2) : (tt_slices_Index_string_2 D_slices_Index_string_2 x).Sides :=
  (TT.s_ite (TT.s_need (TT.s_ite TT.s_ret TT.s_jump)) TT.s_ret)

noncomputable def D_slices_Index_string_2 : Dyn X_slices_Index_string_2 R_slices_Index_string := Dyn.loop tt_slices_Index_string_2
theorem ok_slices_Index_string_2 : LabOK J_slices_Index_string S_slices_Index_string_2 D_slices_Index_string_2 :=
  loop_ok fun D_slices_Index_string_2 h_2 => lab_ok mixed_ok (labs_cons2 h_2 rfl labs_nil) 4000 (fun x => by kernel_rfl) (sd_slices_Index_string_2 D_slices_Index_string_2)
noncomputable def tt_slices_Index_string (x : X_slices_Index_string) : TT Tryz.prog R_slices_Index_string :=
 (.jump S_slices_Index_string_2 D_slices_Index_string_2 (X_slices_Index_string_2.mk x.fst x.snd ((x.fst.n : Nat) : Int) 0))
theorem sd_slices_Index_string (x : X_slices_Index_string) : (tt_slices_Index_string x).Sides :=
  TT.s_jump

noncomputable def D_slices_Index_string : Dyn X_slices_Index_string R_slices_Index_string := .of tt_slices_Index_string
noncomputable def con_slices_Index_string : Con Tryz.prog :=
  mkCon 91 J_slices_Index_string S_slices_Index_string D_slices_Index_string D_slices_Index_string (fun _ _ h => h) 2 0 [hsl_str, .any] (by kernel_rfl) (by kernel_rfl) (by kernel_rfl) (lab_ok mixed_ok (labs_cons2 ok_slices_Index_string_2 rfl labs_nil) 4000 (fun x => by kernel_rfl) sd_slices_Index_string) rfl rfl (fun _ => rfl) (by kernel_rfl) rfl (fun _ => rfl) (fun x y _ => by kernel_rfl)

/-! code.Find (code_Find) -/
abbrev X_code_Find : Type := ByteArray
abbrev R_code_Find : Type := Int × Bool
noncomputable def J_code_Find : Job Tryz.prog :=
  job Tryz.prog Tryz.f74 12 [] [] [] [] [.any, .any] [] [con_code_names, con_slices_Index_string] R_code_Find [] fun y => [V.tup (V.cons ((V.int .i64) y.1) (V.cons (V.bool y.2) (V.unit)))]
noncomputable def S_code_Find : LabS :=
  lab0 Tryz.f74 1 0 X_code_Find (fun x => [V.str x]) fun l => (dS (at_ l 0))
noncomputable def tt_code_Find (x : X_code_Find) : TT Tryz.prog R_code_Find :=
 (.call con_code_names PUnit.unit fun (y1 : R_code_names) =>
 (.call con_slices_Index_string (y1, x) fun (y2 : R_slices_Index_string) =>
 (.ite (ilt y2 0)
 (.ret (0, false))
 (.ret ((IntKind.i64.wrap (y2 + 1)), true)))))
theorem sd_code_Find (x : X_code_Find) : (tt_code_Find x).Sides :=
  (TT.s_call fun _ => (TT.s_call fun _ => (TT.s_ite TT.s_ret TT.s_ret)))

noncomputable def D_code_Find : Dyn X_code_Find R_code_Find := .of tt_code_Find
noncomputable def con_code_Find : Con Tryz.prog :=
  mkCon 74 J_code_Find S_code_Find D_code_Find D_code_Find (fun _ _ h => h) 1 0 [.any] (by kernel_rfl) (by kernel_rfl) (by kernel_rfl) (lab_ok mixed_ok labs_nil 4000 (fun x => by kernel_rfl) sd_code_Find) rfl rfl (fun _ => rfl) (by kernel_rfl) rfl (fun _ => rfl) (fun x y _ => by kernel_rfl)

/-! code.Plain (code_Plain) -/
abbrev X_code_Plain : Type := Int
abbrev R_code_Plain : Type := Bool
noncomputable def J_code_Plain : Job Tryz.prog :=
  job Tryz.prog Tryz.f61 9 [] [] [] [] [.any] [] [] R_code_Plain [] fun y => [V.bool y]
noncomputable def S_code_Plain : LabS :=
  lab0 Tryz.f61 1 0 X_code_Plain (fun x => [(V.int .i64) x]) fun l => (dI (at_ l 0))
noncomputable def tt_code_Plain (x : X_code_Plain) : TT Tryz.prog R_code_Plain :=
 (.ite (ile 1 x)
 (.ret (ile x 17))
 (.ret false))
theorem sd_code_Plain (x : X_code_Plain) : (tt_code_Plain x).Sides :=
  (TT.s_ite TT.s_ret TT.s_ret)

noncomputable def D_code_Plain : Dyn X_code_Plain R_code_Plain := .of tt_code_Plain
noncomputable def con_code_Plain : Con Tryz.prog :=
  mkCon 61 J_code_Plain S_code_Plain D_code_Plain D_code_Plain (fun _ _ h => h) 1 0 [.any] (by kernel_rfl) (by kernel_rfl) (by kernel_rfl) (lab_ok mixed_ok labs_nil 4000 (fun x => by kernel_rfl) sd_code_Plain) rfl rfl (fun _ => rfl) (by kernel_rfl) rfl (fun _ => rfl) (fun x y _ => by kernel_rfl)

structure TCode_limits where
  a : Int
  b : Int
  c : Int
  d : Int
  k : Int

def d_TCode_limits (v : V) : TCode_limits :=
  ⟨dI (fd v 0), dI (fd v 1), dI (fd v 2), dI (fd v 3), dI (fd v 4)⟩

def e_TCode_limits (x : TCode_limits) : V :=
  V.cons ((V.int .i64) x.a) (V.cons ((V.int .i64) x.b) (V.cons ((V.int .i64) x.c) (V.cons ((V.int .i64) x.d) (V.cons ((V.int .u64) x.k) (V.unit)))))

theorem nu_e_TCode_limits (x : TCode_limits) : (e_TCode_limits x).NoU := ⟨trivial, trivial, trivial, trivial, trivial, trivial⟩

/-! code.limit (code_limit) -/
abbrev X_code_limit : Type := Int
abbrev R_code_limit : Type := TCode_limits × Bool
noncomputable def J_code_limit : Job Tryz.prog :=
  job Tryz.prog Tryz.f50 39 [] [] [] [] [.any, .any] [] [con_code_Plain] R_code_limit [] fun y => [V.tup (V.cons (e_TCode_limits y.1) (V.cons (V.bool y.2) (V.unit)))]
noncomputable def S_code_limit : LabS :=
  lab0 Tryz.f50 1 0 X_code_limit (fun x => [(V.int .i64) x]) fun l => (dI (at_ l 0))
structure X_code_limit_24 where
  op_0 : Int
  m_2 : TCode_limits
noncomputable def S_code_limit_24 : LabS :=
  labAt Tryz.f50 24 [(0, .any), (2, .any)] [] [(.loc 2 0, .any)] X_code_limit_24 (fun x => [(V.int .i64) x.op_0, (V.ptr (.loc 2 0) []), e_TCode_limits x.m_2]) fun l => ⟨dI (at_ l 0), d_TCode_limits (at_ l 2)⟩
noncomputable def tt_code_limit_24 (x : X_code_limit_24) : TT Tryz.prog R_code_limit :=
 (.call con_code_Plain x.op_0 fun (y1 : R_code_Plain) =>
 (.ret ((TCode_limits.mk 7 7 7 0 0), y1)))
theorem sd_code_limit_24 (x : X_code_limit_24) : (tt_code_limit_24 x).Sides :=
  (TT.s_call fun _ => TT.s_ret)

noncomputable def D_code_limit_24 : Dyn X_code_limit_24 R_code_limit := .of tt_code_limit_24
theorem ok_code_limit_24 : LabOK J_code_limit S_code_limit_24 D_code_limit_24 :=
  lab_ok mixed_ok labs_nil 4000 (fun x => by kernel_rfl) sd_code_limit_24
noncomputable def tt_code_limit (x : X_code_limit) : TT Tryz.prog R_code_limit :=
 (.ite (ieq x 1)
 (.ret ((TCode_limits.mk 7 0 0 0 18446744073709551615), true))
 (.ite (ieq x 2)
 (.ret ((TCode_limits.mk 7 7 0 0 0), true))
 (.ite (ieq x 23)
 (.ret ((TCode_limits.mk 7 7 0 0 0), true))
 (.ite (ieq x 15)
 (.ret ((TCode_limits.mk 0 0 0 0 256), true))
 (.ite (ieq x 16)
 (.ret ((TCode_limits.mk 7 0 0 0 256), true))
 (.ite (ieq x 17)
 (.ret ((TCode_limits.mk 7 0 0 0 256), true))
 (.ite (ieq x 18)
 (.ret ((TCode_limits.mk 7 7 7 2 0), true))
 (.ite (ieq x 19)
 (.ret ((TCode_limits.mk 7 7 7 2 7), true))
 (.ite (ieq x 20)
 (.ret ((TCode_limits.mk 0 0 7 0 0), true))
 (.ite (ieq x 21)
 (.ret ((TCode_limits.mk 7 0 0 0 0), true))
 (.ite (ieq x 22)
 (.ret ((TCode_limits.mk 7 0 0 0 0), true))
 (.ite (ieq x 24)
 (.ret ((TCode_limits.mk 7 0 0 0 0), true))
 (.ite (ieq x 25)
 (.ret ((TCode_limits.mk 0 0 0 0 0), true))
 (.jump S_code_limit_24 D_code_limit_24 (X_code_limit_24.mk x (TCode_limits.mk 0 0 0 0 0))))))))))))))))
theorem sd_code_limit (x : X_code_limit) : (tt_code_limit x).Sides :=
  (TT.s_ite TT.s_ret (TT.s_ite TT.s_ret (TT.s_ite TT.s_ret (TT.s_ite TT.s_ret (TT.s_ite TT.s_ret (TT.s_ite TT.s_ret (TT.s_ite TT.s_ret (TT.s_ite TT.s_ret (TT.s_ite TT.s_ret (TT.s_ite TT.s_ret (TT.s_ite TT.s_ret (TT.s_ite TT.s_ret (TT.s_ite TT.s_ret TT.s_jump)))))))))))))

noncomputable def D_code_limit : Dyn X_code_limit R_code_limit := .of tt_code_limit
noncomputable def con_code_limit : Con Tryz.prog :=
  mkCon 50 J_code_limit S_code_limit D_code_limit D_code_limit (fun _ _ h => h) 1 0 [.any] (by kernel_rfl) (by kernel_rfl) (by kernel_rfl) (lab_ok mixed_ok (labs_cons2 ok_code_limit_24 rfl labs_nil) 4000 (fun x => by kernel_rfl) sd_code_limit) rfl rfl (fun _ => rfl) (by kernel_rfl) rfl (fun _ => rfl) (fun x y _ => by kernel_rfl)

/-! code.Right (code_Right) -/
abbrev X_code_Right : Type := TApi_Instr
abbrev R_code_Right : Type := Bool
noncomputable def J_code_Right : Job Tryz.prog :=
  job Tryz.prog Tryz.f27 67 [(1, 3), (5, 1)] [] [] [] [.any] [] [con_code_limit] R_code_Right [] fun y => [V.bool y]
noncomputable def S_code_Right : LabS :=
  lab0 Tryz.f27 1 0 X_code_Right (fun x => [e_TApi_Instr x]) fun l => (d_TApi_Instr (at_ l 0))
noncomputable def tt_code_Right (x : X_code_Right) : TT Tryz.prog R_code_Right :=
 (.call con_code_limit x.Op fun (y1 : R_code_limit) =>
 (.ite y1.snd
 (.ite (ile 0 x.A)
 (.ite (ile x.A y1.fst.a)
 (.ite (ile 0 x.B)
 (.ite (ile x.B y1.fst.b)
 (.ite (ile 0 x.C)
 (.ite (ile x.C y1.fst.c)
 (.ite (ile 0 x.D)
 (.ite (ile x.D y1.fst.d)
 (.ret (ile x.K y1.fst.k))
 (.ret false))
 (.ret false))
 (.ret false))
 (.ret false))
 (.ret false))
 (.ret false))
 (.ret false))
 (.ret false))
 (.ret false)))
theorem sd_code_Right (x : X_code_Right) : (tt_code_Right x).Sides :=
  (TT.s_call fun _ => (TT.s_ite (TT.s_ite (TT.s_ite (TT.s_ite (TT.s_ite (TT.s_ite (TT.s_ite (TT.s_ite (TT.s_ite TT.s_ret TT.s_ret) TT.s_ret) TT.s_ret) TT.s_ret) TT.s_ret) TT.s_ret) TT.s_ret) TT.s_ret) TT.s_ret))

noncomputable def D_code_Right : Dyn X_code_Right R_code_Right := .of tt_code_Right
noncomputable def con_code_Right : Con Tryz.prog :=
  mkCon 27 J_code_Right S_code_Right D_code_Right D_code_Right (fun _ _ h => h) 1 0 [.any] (by kernel_rfl) (by kernel_rfl) (by kernel_rfl) (lab_ok mixed_ok labs_nil 4000 (fun x => by kernel_rfl) sd_code_Right) rfl rfl (fun _ => rfl) (by kernel_rfl) rfl (fun _ => rfl) (fun x y _ => by kernel_rfl)

/-! code.Seen (code_Seen) -/
abbrev X_code_Seen : Type := Int
abbrev R_code_Seen : Type := Bool
noncomputable def J_code_Seen : Job Tryz.prog :=
  job Tryz.prog Tryz.f62 9 [] [] [] [] [.any] [] [] R_code_Seen [] fun y => [V.bool y]
noncomputable def S_code_Seen : LabS :=
  lab0 Tryz.f62 1 0 X_code_Seen (fun x => [(V.int .i64) x]) fun l => (dI (at_ l 0))
noncomputable def tt_code_Seen (x : X_code_Seen) : TT Tryz.prog R_code_Seen :=
 (.ite (ile 18 x)
 (.ret (ile x 25))
 (.ret false))
theorem sd_code_Seen (x : X_code_Seen) : (tt_code_Seen x).Sides :=
  (TT.s_ite TT.s_ret TT.s_ret)

noncomputable def D_code_Seen : Dyn X_code_Seen R_code_Seen := .of tt_code_Seen
noncomputable def con_code_Seen : Con Tryz.prog :=
  mkCon 62 J_code_Seen S_code_Seen D_code_Seen D_code_Seen (fun _ _ h => h) 1 0 [.any] (by kernel_rfl) (by kernel_rfl) (by kernel_rfl) (lab_ok mixed_ok labs_nil 4000 (fun x => by kernel_rfl) sd_code_Seen) rfl rfl (fun _ => rfl) (by kernel_rfl) rfl (fun _ => rfl) (fun x y _ => by kernel_rfl)

/-! code.Name (code_Name) -/
abbrev X_code_Name : Type := Int
abbrev R_code_Name : Type := ByteArray
noncomputable def J_code_Name : Job Tryz.prog :=
  job Tryz.prog Tryz.f47 16 [] [] [] [] [.any] [] [con_code_Plain, con_code_Seen, con_code_names] R_code_Name [] fun y => [V.str y]
noncomputable def S_code_Name : LabS :=
  lab0 Tryz.f47 1 0 X_code_Name (fun x => [(V.int .i64) x]) fun l => (dI (at_ l 0))
structure X_code_Name_3 where
  op_0 : Int
noncomputable def S_code_Name_3 : LabS :=
  labAt Tryz.f47 3 [(0, .any)] [] [] X_code_Name_3 (fun x => [(V.int .i64) x.op_0]) fun l => ⟨dI (at_ l 0)⟩
noncomputable def tt_code_Name_3 (x : X_code_Name_3) : TT Tryz.prog R_code_Name :=
 (.call con_code_names PUnit.unit fun (y1 : R_code_names) =>
 (.need (inb (IntKind.i64.wrap (x.op_0 - 1)) y1.n) <|
 (.ret (y1.get (Int.toNat (IntKind.i64.wrap (x.op_0 - 1)))))))
theorem sd_code_Name_3 (x : X_code_Name_3) : (tt_code_Name_3 x).Sides :=
  (TT.s_call fun _ => (TT.s_need TT.s_ret))

noncomputable def D_code_Name_3 : Dyn X_code_Name_3 R_code_Name := .of tt_code_Name_3
theorem ok_code_Name_3 : LabOK J_code_Name S_code_Name_3 D_code_Name_3 :=
  lab_ok mixed_ok labs_nil 4000 (fun x => by kernel_rfl) sd_code_Name_3
noncomputable def tt_code_Name (x : X_code_Name) : TT Tryz.prog R_code_Name :=
 (.call con_code_Plain x fun (y1 : R_code_Plain) =>
 (.ite (!y1)
 (.call con_code_Seen x fun (y2 : R_code_Seen) =>
 (.ite (!y2)
 (.ret (ByteArray.mk #[]))
 (.jump S_code_Name_3 D_code_Name_3 (X_code_Name_3.mk x))))
 (.jump S_code_Name_3 D_code_Name_3 (X_code_Name_3.mk x))))
theorem sd_code_Name (x : X_code_Name) : (tt_code_Name x).Sides :=
  (TT.s_call fun _ => (TT.s_ite (TT.s_call fun _ => (TT.s_ite TT.s_ret TT.s_jump)) TT.s_jump))

noncomputable def D_code_Name : Dyn X_code_Name R_code_Name := .of tt_code_Name
noncomputable def con_code_Name : Con Tryz.prog :=
  mkCon 47 J_code_Name S_code_Name D_code_Name D_code_Name (fun _ _ h => h) 1 0 [.any] (by kernel_rfl) (by kernel_rfl) (by kernel_rfl) (lab_ok mixed_ok (labs_cons2 ok_code_Name_3 rfl labs_nil) 4000 (fun x => by kernel_rfl) sd_code_Name) rfl rfl (fun _ => rfl) (by kernel_rfl) rfl (fun _ => rfl) (fun x y _ => by kernel_rfl)

structure TListing_part where
  show0 : Nat
  read : Nat

def d_TListing_part (v : V) : TListing_part :=
  ⟨dFn (fd v 0), dFn (fd v 1)⟩

def e_TListing_part (x : TListing_part) : V :=
  V.cons (eFn x.show0) (V.cons (eFn x.read) (V.unit))

theorem nu_e_TListing_part (x : TListing_part) : (e_TListing_part x).NoU := ⟨trivial, trivial, trivial⟩

/-! listing.regA (listing_regA) -/
abbrev X_listing_regA : Type := Unit
abbrev R_listing_regA : Type := TListing_part
noncomputable def J_listing_regA : Job Tryz.prog :=
  job Tryz.prog Tryz.f64 2 [] [] [] [] [.any] [] [] R_listing_regA [] fun y => [e_TListing_part y]
noncomputable def S_listing_regA : LabS :=
  lab0 Tryz.f64 0 0 X_listing_regA (fun _x => []) fun _l => ()
noncomputable def tt_listing_regA (_x : X_listing_regA) : TT Tryz.prog R_listing_regA :=
 (.ret (TListing_part.mk 77 78))
theorem sd_listing_regA (x : X_listing_regA) : (tt_listing_regA x).Sides :=
  TT.s_ret

noncomputable def D_listing_regA : Dyn X_listing_regA R_listing_regA := .of tt_listing_regA
noncomputable def con_listing_regA : Con Tryz.prog :=
  mkCon 64 J_listing_regA S_listing_regA D_listing_regA D_listing_regA (fun _ _ h => h) 0 0 [] (by kernel_rfl) (by kernel_rfl) (by kernel_rfl) (lab_ok mixed_ok labs_nil 4000 (fun x => by kernel_rfl) sd_listing_regA) rfl rfl (fun _ => rfl) (by kernel_rfl) rfl (fun _ => rfl) (fun x y _ => by kernel_rfl)

/-! listing.figure (listing_figure) -/
abbrev X_listing_figure : Type := Unit
abbrev R_listing_figure : Type := TListing_part
noncomputable def J_listing_figure : Job Tryz.prog :=
  job Tryz.prog Tryz.f65 2 [] [] [] [] [.any] [] [] R_listing_figure [] fun y => [e_TListing_part y]
noncomputable def S_listing_figure : LabS :=
  lab0 Tryz.f65 0 0 X_listing_figure (fun _x => []) fun _l => ()
noncomputable def tt_listing_figure (_x : X_listing_figure) : TT Tryz.prog R_listing_figure :=
 (.ret (TListing_part.mk 80 82))
theorem sd_listing_figure (x : X_listing_figure) : (tt_listing_figure x).Sides :=
  TT.s_ret

noncomputable def D_listing_figure : Dyn X_listing_figure R_listing_figure := .of tt_listing_figure
noncomputable def con_listing_figure : Con Tryz.prog :=
  mkCon 65 J_listing_figure S_listing_figure D_listing_figure D_listing_figure (fun _ _ h => h) 0 0 [] (by kernel_rfl) (by kernel_rfl) (by kernel_rfl) (lab_ok mixed_ok labs_nil 4000 (fun x => by kernel_rfl) sd_listing_figure) rfl rfl (fun _ => rfl) (by kernel_rfl) rfl (fun _ => rfl) (fun x y _ => by kernel_rfl)

/-! listing.regB (listing_regB) -/
abbrev X_listing_regB : Type := Unit
abbrev R_listing_regB : Type := TListing_part
noncomputable def J_listing_regB : Job Tryz.prog :=
  job Tryz.prog Tryz.f66 2 [] [] [] [] [.any] [] [] R_listing_regB [] fun y => [e_TListing_part y]
noncomputable def S_listing_regB : LabS :=
  lab0 Tryz.f66 0 0 X_listing_regB (fun _x => []) fun _l => ()
noncomputable def tt_listing_regB (_x : X_listing_regB) : TT Tryz.prog R_listing_regB :=
 (.ret (TListing_part.mk 84 85))
theorem sd_listing_regB (x : X_listing_regB) : (tt_listing_regB x).Sides :=
  TT.s_ret

noncomputable def D_listing_regB : Dyn X_listing_regB R_listing_regB := .of tt_listing_regB
noncomputable def con_listing_regB : Con Tryz.prog :=
  mkCon 66 J_listing_regB S_listing_regB D_listing_regB D_listing_regB (fun _ _ h => h) 0 0 [] (by kernel_rfl) (by kernel_rfl) (by kernel_rfl) (lab_ok mixed_ok labs_nil 4000 (fun x => by kernel_rfl) sd_listing_regB) rfl rfl (fun _ => rfl) (by kernel_rfl) rfl (fun _ => rfl) (fun x y _ => by kernel_rfl)

/-! listing.ring (listing_ring) -/
abbrev X_listing_ring : Type := Unit
abbrev R_listing_ring : Type := TListing_part
noncomputable def J_listing_ring : Job Tryz.prog :=
  job Tryz.prog Tryz.f67 2 [] [] [] [] [.any] [] [] R_listing_ring [] fun y => [e_TListing_part y]
noncomputable def S_listing_ring : LabS :=
  lab0 Tryz.f67 0 0 X_listing_ring (fun _x => []) fun _l => ()
noncomputable def tt_listing_ring (_x : X_listing_ring) : TT Tryz.prog R_listing_ring :=
 (.ret (TListing_part.mk 86 87))
theorem sd_listing_ring (x : X_listing_ring) : (tt_listing_ring x).Sides :=
  TT.s_ret

noncomputable def D_listing_ring : Dyn X_listing_ring R_listing_ring := .of tt_listing_ring
noncomputable def con_listing_ring : Con Tryz.prog :=
  mkCon 67 J_listing_ring S_listing_ring D_listing_ring D_listing_ring (fun _ _ h => h) 0 0 [] (by kernel_rfl) (by kernel_rfl) (by kernel_rfl) (lab_ok mixed_ok labs_nil 4000 (fun x => by kernel_rfl) sd_listing_ring) rfl rfl (fun _ => rfl) (by kernel_rfl) rfl (fun _ => rfl) (fun x y _ => by kernel_rfl)

/-! listing.how (listing_how) -/
abbrev X_listing_how : Type := Unit
abbrev R_listing_how : Type := TListing_part
noncomputable def J_listing_how : Job Tryz.prog :=
  job Tryz.prog Tryz.f68 2 [] [] [] [] [.any] [] [] R_listing_how [] fun y => [e_TListing_part y]
noncomputable def S_listing_how : LabS :=
  lab0 Tryz.f68 0 0 X_listing_how (fun _x => []) fun _l => ()
noncomputable def tt_listing_how (_x : X_listing_how) : TT Tryz.prog R_listing_how :=
 (.ret (TListing_part.mk 88 90))
theorem sd_listing_how (x : X_listing_how) : (tt_listing_how x).Sides :=
  TT.s_ret

noncomputable def D_listing_how : Dyn X_listing_how R_listing_how := .of tt_listing_how
noncomputable def con_listing_how : Con Tryz.prog :=
  mkCon 68 J_listing_how S_listing_how D_listing_how D_listing_how (fun _ _ h => h) 0 0 [] (by kernel_rfl) (by kernel_rfl) (by kernel_rfl) (lab_ok mixed_ok labs_nil 4000 (fun x => by kernel_rfl) sd_listing_how) rfl rfl (fun _ => rfl) (by kernel_rfl) rfl (fun _ => rfl) (fun x y _ => by kernel_rfl)

/-! listing.regC (listing_regC) -/
abbrev X_listing_regC : Type := Unit
abbrev R_listing_regC : Type := TListing_part
noncomputable def J_listing_regC : Job Tryz.prog :=
  job Tryz.prog Tryz.f69 2 [] [] [] [] [.any] [] [] R_listing_regC [] fun y => [e_TListing_part y]
noncomputable def S_listing_regC : LabS :=
  lab0 Tryz.f69 0 0 X_listing_regC (fun _x => []) fun _l => ()
noncomputable def tt_listing_regC (_x : X_listing_regC) : TT Tryz.prog R_listing_regC :=
 (.ret (TListing_part.mk 92 93))
theorem sd_listing_regC (x : X_listing_regC) : (tt_listing_regC x).Sides :=
  TT.s_ret

noncomputable def D_listing_regC : Dyn X_listing_regC R_listing_regC := .of tt_listing_regC
noncomputable def con_listing_regC : Con Tryz.prog :=
  mkCon 69 J_listing_regC S_listing_regC D_listing_regC D_listing_regC (fun _ _ h => h) 0 0 [] (by kernel_rfl) (by kernel_rfl) (by kernel_rfl) (lab_ok mixed_ok labs_nil 4000 (fun x => by kernel_rfl) sd_listing_regC) rfl rfl (fun _ => rfl) (by kernel_rfl) rfl (fun _ => rfl) (fun x y _ => by kernel_rfl)

abbrev Dsl_TListing_part : Type := (Sl TListing_part)
def esl_TListing_part : Dsl_TListing_part → V := (eSl none 2 e_TListing_part)
def dsl_TListing_part : V → Dsl_TListing_part := (dSl d_TListing_part)
def hsl_TListing_part : Sh := (.sl none 2 (e_TListing_part (d_TListing_part .undef)))

/-! listing.parts (listing_parts0) -/
abbrev X_listing_parts0 : Type := Int
abbrev R_listing_parts0 : Type := (Sl TListing_part)
noncomputable def J_listing_parts0 : Job Tryz.prog :=
  job Tryz.prog Tryz.f48 52 [] [] [] [.shut 2] [hsl_TListing_part] [] [con_listing_figure, con_listing_how, con_listing_regA, con_listing_regB, con_listing_regC, con_listing_ring] R_listing_parts0 [] fun y => [esl_TListing_part y]
noncomputable def S_listing_parts0 : LabS :=
  lab0 Tryz.f48 1 0 X_listing_parts0 (fun x => [(V.int .i64) x]) fun l => (dI (at_ l 0))
abbrev X_listing_parts0_23 : Type := Unit
noncomputable def S_listing_parts0_23 : LabS :=
  labAt Tryz.f48 23 [] [] [] X_listing_parts0_23 (fun _x => []) fun _l => ()
noncomputable def tt_listing_parts0_23 (_x : X_listing_parts0_23) : TT Tryz.prog R_listing_parts0 :=
 (.call con_listing_regA PUnit.unit fun (y1 : R_listing_regA) =>
 (.call con_listing_regB PUnit.unit fun (y2 : R_listing_regB) =>
 (.call con_listing_regC PUnit.unit fun (y3 : R_listing_regC) =>
 (.ret (Sl.mk false 3 (fun i4 => (TListing_part.mk (cond (Nat.beq i4 0) y1.show0 (cond (Nat.beq i4 1) y2.show0 y3.show0)) (cond (Nat.beq i4 0) y1.read (cond (Nat.beq i4 1) y2.read y3.read)))))))))
theorem sd_listing_parts0_23 (x : X_listing_parts0_23) : (tt_listing_parts0_23 x).Sides :=
  (TT.s_call fun _ => (TT.s_call fun _ => (TT.s_call fun _ => TT.s_ret)))

noncomputable def D_listing_parts0_23 : Dyn X_listing_parts0_23 R_listing_parts0 := .of tt_listing_parts0_23
theorem ok_listing_parts0_23 : LabOK J_listing_parts0 S_listing_parts0_23 D_listing_parts0_23 :=
  lab_ok mixed_ok labs_nil 4000 (fun x => by kernel_rfl) sd_listing_parts0_23
noncomputable def tt_listing_parts0 (x : X_listing_parts0) : TT Tryz.prog R_listing_parts0 :=
 (.ite (ieq x 1)
 (.call con_listing_regA PUnit.unit fun (y1 : R_listing_regA) =>
 (.call con_listing_figure PUnit.unit fun (y2 : R_listing_figure) =>
 (.ret (Sl.mk false 2 (fun i3 => (TListing_part.mk (cond (Nat.beq i3 0) y1.show0 y2.show0) (cond (Nat.beq i3 0) y1.read y2.read)))))))
 (.ite (ieq x 16)
 (.call con_listing_regA PUnit.unit fun (y1 : R_listing_regA) =>
 (.call con_listing_figure PUnit.unit fun (y2 : R_listing_figure) =>
 (.ret (Sl.mk false 2 (fun i3 => (TListing_part.mk (cond (Nat.beq i3 0) y1.show0 y2.show0) (cond (Nat.beq i3 0) y1.read y2.read)))))))
 (.ite (ieq x 17)
 (.call con_listing_regA PUnit.unit fun (y1 : R_listing_regA) =>
 (.call con_listing_figure PUnit.unit fun (y2 : R_listing_figure) =>
 (.ret (Sl.mk false 2 (fun i3 => (TListing_part.mk (cond (Nat.beq i3 0) y1.show0 y2.show0) (cond (Nat.beq i3 0) y1.read y2.read)))))))
 (.ite (ieq x 2)
 (.call con_listing_regA PUnit.unit fun (y1 : R_listing_regA) =>
 (.call con_listing_regB PUnit.unit fun (y2 : R_listing_regB) =>
 (.ret (Sl.mk false 2 (fun i3 => (TListing_part.mk (cond (Nat.beq i3 0) y1.show0 y2.show0) (cond (Nat.beq i3 0) y1.read y2.read)))))))
 (.ite (ieq x 23)
 (.call con_listing_regA PUnit.unit fun (y1 : R_listing_regA) =>
 (.call con_listing_regB PUnit.unit fun (y2 : R_listing_regB) =>
 (.ret (Sl.mk false 2 (fun i3 => (TListing_part.mk (cond (Nat.beq i3 0) y1.show0 y2.show0) (cond (Nat.beq i3 0) y1.read y2.read)))))))
 (.ite (ieq x 15)
 (.call con_listing_figure PUnit.unit fun (y1 : R_listing_figure) =>
 (.ret (Sl.mk false 1 (fun _i2 => y1))))
 (.ite (ieq x 18)
 (.call con_listing_regA PUnit.unit fun (y1 : R_listing_regA) =>
 (.call con_listing_regB PUnit.unit fun (y2 : R_listing_regB) =>
 (.call con_listing_ring PUnit.unit fun (y3 : R_listing_ring) =>
 (.call con_listing_how PUnit.unit fun (y4 : R_listing_how) =>
 (.ret (Sl.mk false 4 (fun i5 => (TListing_part.mk (cond (Nat.beq i5 0) y1.show0 (cond (Nat.beq i5 1) y2.show0 (cond (Nat.beq i5 2) y3.show0 y4.show0))) (cond (Nat.beq i5 0) y1.read (cond (Nat.beq i5 1) y2.read (cond (Nat.beq i5 2) y3.read y4.read)))))))))))
 (.ite (ieq x 19)
 (.call con_listing_regA PUnit.unit fun (y1 : R_listing_regA) =>
 (.call con_listing_regB PUnit.unit fun (y2 : R_listing_regB) =>
 (.call con_listing_ring PUnit.unit fun (y3 : R_listing_ring) =>
 (.call con_listing_how PUnit.unit fun (y4 : R_listing_how) =>
 (.call con_listing_figure PUnit.unit fun (y5 : R_listing_figure) =>
 (.ret (Sl.mk false 5 (fun i6 => (TListing_part.mk (cond (Nat.beq i6 0) y1.show0 (cond (Nat.beq i6 1) y2.show0 (cond (Nat.beq i6 2) y3.show0 (cond (Nat.beq i6 3) y4.show0 y5.show0)))) (cond (Nat.beq i6 0) y1.read (cond (Nat.beq i6 1) y2.read (cond (Nat.beq i6 2) y3.read (cond (Nat.beq i6 3) y4.read y5.read)))))))))))))
 (.ite (ieq x 20)
 (.call con_listing_ring PUnit.unit fun (y1 : R_listing_ring) =>
 (.ret (Sl.mk false 1 (fun _i2 => y1))))
 (.ite (ieq x 21)
 (.call con_listing_regA PUnit.unit fun (y1 : R_listing_regA) =>
 (.ret (Sl.mk false 1 (fun _i2 => y1))))
 (.ite (ieq x 22)
 (.call con_listing_regA PUnit.unit fun (y1 : R_listing_regA) =>
 (.ret (Sl.mk false 1 (fun _i2 => y1))))
 (.ite (ieq x 24)
 (.call con_listing_regA PUnit.unit fun (y1 : R_listing_regA) =>
 (.ret (Sl.mk false 1 (fun _i2 => y1))))
 (.ite (ieq x 25)
 (.ret (Sl.mk true 0 (fun _i1 => (TListing_part.mk 0 0))))
 (.jump S_listing_parts0_23 D_listing_parts0_23 PUnit.unit))))))))))))))
theorem sd_listing_parts0 (x : X_listing_parts0) : (tt_listing_parts0 x).Sides :=
  (TT.s_ite (TT.s_call fun _ => (TT.s_call fun _ => TT.s_ret)) (TT.s_ite (TT.s_call fun _ => (TT.s_call fun _ => TT.s_ret)) (TT.s_ite (TT.s_call fun _ => (TT.s_call fun _ => TT.s_ret)) (TT.s_ite (TT.s_call fun _ => (TT.s_call fun _ => TT.s_ret)) (TT.s_ite (TT.s_call fun _ => (TT.s_call fun _ => TT.s_ret)) (TT.s_ite (TT.s_call fun _ => TT.s_ret) (TT.s_ite (TT.s_call fun _ => (TT.s_call fun _ => (TT.s_call fun _ => (TT.s_call fun _ => TT.s_ret)))) (TT.s_ite (TT.s_call fun _ => (TT.s_call fun _ => (TT.s_call fun _ => (TT.s_call fun _ => (TT.s_call fun _ => TT.s_ret))))) (TT.s_ite (TT.s_call fun _ => TT.s_ret) (TT.s_ite (TT.s_call fun _ => TT.s_ret) (TT.s_ite (TT.s_call fun _ => TT.s_ret) (TT.s_ite (TT.s_call fun _ => TT.s_ret) (TT.s_ite TT.s_ret TT.s_jump)))))))))))))

noncomputable def D_listing_parts0 : Dyn X_listing_parts0 R_listing_parts0 := .of tt_listing_parts0
noncomputable def con_listing_parts0 : Con Tryz.prog :=
  mkCon 48 J_listing_parts0 S_listing_parts0 D_listing_parts0 D_listing_parts0 (fun _ _ h => h) 1 0 [.any] (by kernel_rfl) (by kernel_rfl) (by kernel_rfl) (lab_ok mixed_ok (labs_cons2 ok_listing_parts0_23 rfl labs_nil) 4000 (fun x => by kernel_rfl) sd_listing_parts0) rfl rfl (fun _ => rfl) (by kernel_rfl) rfl (fun _ => rfl) (fun x y _ => by kernel_rfl)
/-! listing.parts -/
def partsA (op : Int) : List (Bool × (Sl TListing_part)) := [(ieq op 1 || (ieq op 16 || ieq op 17), (Sl.mk false 2 fun i => TListing_part.mk (cond (Nat.beq i 0) 77 80) (cond (Nat.beq i 0) 78 82))), (ieq op 2 || ieq op 23, (Sl.mk false 2 fun i => TListing_part.mk (cond (Nat.beq i 0) 77 84) (cond (Nat.beq i 0) 78 85))), (ieq op 15, (Sl.mk false 1 fun _i => TListing_part.mk 80 82)), (ieq op 18, (Sl.mk false 4 fun i => TListing_part.mk (cond (Nat.beq i 0) 77 (cond (Nat.beq i 1) 84 (cond (Nat.beq i 2) 86 88))) (cond (Nat.beq i 0) 78 (cond (Nat.beq i 1) 85 (cond (Nat.beq i 2) 87 90))))), (ieq op 19, (Sl.mk false 5 fun i => TListing_part.mk (cond (Nat.beq i 0) 77 (cond (Nat.beq i 1) 84 (cond (Nat.beq i 2) 86 (cond (Nat.beq i 3) 88 80)))) (cond (Nat.beq i 0) 78 (cond (Nat.beq i 1) 85 (cond (Nat.beq i 2) 87 (cond (Nat.beq i 3) 90 82)))))), (ieq op 20, (Sl.mk false 1 fun _i => TListing_part.mk 86 87)), (ieq op 21 || (ieq op 22 || ieq op 24), (Sl.mk false 1 fun _i => TListing_part.mk 77 78)), (ieq op 25, (Sl.mk true 0 fun _ => TListing_part.mk 0 0))]
def partsT (op : Int) : (Sl TListing_part) := pickC (partsA op) (Sl.mk false 3 fun i => TListing_part.mk (cond (Nat.beq i 0) 77 (cond (Nat.beq i 1) 84 92)) (cond (Nat.beq i 0) 78 (cond (Nat.beq i 1) 85 93)))
theorem w_regA : D_listing_regA.wp PUnit.unit fun y => y = ⟨77, 78⟩ := of_wp (by simp only [tt_listing_regA]; exact rfl)
theorem w_figure : D_listing_figure.wp PUnit.unit fun y => y = ⟨80, 82⟩ := of_wp (by simp only [tt_listing_figure]; exact rfl)
theorem w_regB : D_listing_regB.wp PUnit.unit fun y => y = ⟨84, 85⟩ := of_wp (by simp only [tt_listing_regB]; exact rfl)
theorem w_ring : D_listing_ring.wp PUnit.unit fun y => y = ⟨86, 87⟩ := of_wp (by simp only [tt_listing_ring]; exact rfl)
theorem w_how : D_listing_how.wp PUnit.unit fun y => y = ⟨88, 90⟩ := of_wp (by simp only [tt_listing_how]; exact rfl)
theorem w_regC : D_listing_regC.wp PUnit.unit fun y => y = ⟨92, 93⟩ := of_wp (by simp only [tt_listing_regC]; exact rfl)
theorem parts_wp (op : Int) : D_listing_parts0.wp op fun y => y = partsT op := by
  refine of_wp ?_
  simp only [tt_listing_parts0]
  refine wp_if ieq_iff (fun h => ?_) fun n1 => wp_if ieq_iff (fun h => ?_) fun n16 => wp_if ieq_iff (fun h => ?_) fun n17 => wp_if ieq_iff (fun h => ?_) fun n2 => wp_if ieq_iff (fun h => ?_) fun n23 => wp_if ieq_iff (fun h => ?_) fun n15 =>
    wp_if ieq_iff (fun h => ?_) fun n18 => wp_if ieq_iff (fun h => ?_) fun n19 => wp_if ieq_iff (fun h => ?_) fun n20 => wp_if ieq_iff (fun h => ?_) fun n21 => wp_if ieq_iff (fun h => ?_) fun n22 => wp_if ieq_iff (fun h => ?_) fun n24 => wp_if ieq_iff (fun h => ?_) fun n25 => of_wp ?_
  · subst h; exact wp_call w_regA fun y hy => wp_call w_figure fun z hz => by subst hy; subst hz; exact rfl
  · subst h; exact wp_call w_regA fun y hy => wp_call w_figure fun z hz => by subst hy; subst hz; exact rfl
  · subst h; exact wp_call w_regA fun y hy => wp_call w_figure fun z hz => by subst hy; subst hz; exact rfl
  · subst h; exact wp_call w_regA fun y hy => wp_call w_regB fun z hz => by subst hy; subst hz; exact rfl
  · subst h; exact wp_call w_regA fun y hy => wp_call w_regB fun z hz => by subst hy; subst hz; exact rfl
  · subst h; exact wp_call w_figure fun y hy => by subst hy; exact rfl
  · subst h; exact wp_call w_regA fun y hy => wp_call w_regB fun z hz => wp_call w_ring fun u hu => wp_call w_how fun v hv => by subst hy; subst hz; subst hu; subst hv; exact rfl
  · subst h; exact wp_call w_regA fun y hy => wp_call w_regB fun z hz => wp_call w_ring fun u hu => wp_call w_how fun v hv => wp_call w_figure fun q hq => by subst hy; subst hz; subst hu; subst hv; subst hq; exact rfl
  · subst h; exact wp_call w_ring fun y hy => by subst hy; exact rfl
  · subst h; exact wp_call w_regA fun y hy => by subst hy; exact rfl
  · subst h; exact wp_call w_regA fun y hy => by subst hy; exact rfl
  · subst h; exact wp_call w_regA fun y hy => by subst hy; exact rfl
  · subst h; exact rfl
  · simp only [tt_listing_parts0_23]
    refine wp_call w_regA fun y hy => wp_call w_regB fun z hz => wp_call w_regC fun u hu => ?_
    subst hy
    subst hz
    subst hu
    show _ = partsT op
    simp only [partsT, partsA, pickC, ieq_false.2 n1, ieq_false.2 n16, ieq_false.2 n17, ieq_false.2 n2, ieq_false.2 n23, ieq_false.2 n15, ieq_false.2 n18, ieq_false.2 n19, ieq_false.2 n20, ieq_false.2 n21, ieq_false.2 n22, ieq_false.2 n24, ieq_false.2 n25, Bool.or_self, cond_false]
theorem parts_rel (op : Int) : D_listing_parts0.rel op (partsT op) := by
  obtain ⟨y, hy, rfl⟩ := parts_wp op
  exact hy
abbrev X_listing_parts : Type := Int
abbrev R_listing_parts : Type := Int
noncomputable def con_listing_parts : Con Tryz.prog where
  f := 48
  fn := Tryz.f48
  hf := by kernel_rfl
  hb := by kernel_rfl
  hn := by kernel_rfl
  X := Int
  Y := Int
  args x := [.int .i64 x]
  objs _ := []
  res y := esl_TListing_part (partsT y)
  outs _ _ := []
  rel x y := y = x
  ev _ x := some x
  evOK _ x y h := by cases h; rfl
  dec l _ := dI (at_ l 0)
  ash := [.any]
  osh := []
  ok x y h := by subst h; exact con_listing_parts0.ok y (partsT y) (parts_rel y)
  pure := false
  pureOut h := by cases h
  pureName h := by cases h
  bit y := some ((partsA y).map fun z => (z.1, esl_TListing_part z.2), esl_TListing_part (Sl.mk false 3 fun i => TListing_part.mk (cond (Nat.beq i 0) 77 (cond (Nat.beq i 1) 84 92)) (cond (Nat.beq i 0) 78 (cond (Nat.beq i 1) 85 93))))
  bitOK y l v h := by
    cases h
    exact (pickC_map esl_TListing_part (partsA y) _).symm

/-! listing.regA$1 (listing_regA_1) -/
abbrev X_listing_regA_1 : Type := TApi_Instr
abbrev R_listing_regA_1 : Type := ByteArray
noncomputable def J_listing_regA_1 : Job Tryz.prog :=
  job Tryz.prog Tryz.f77 7 [(1, 3)] [] [] [] [.any] [] [con_strconv_Itoa] R_listing_regA_1 [] fun y => [V.str y]
noncomputable def S_listing_regA_1 : LabS :=
  lab0 Tryz.f77 1 0 X_listing_regA_1 (fun x => [e_TApi_Instr x]) fun l => (d_TApi_Instr (at_ l 0))
noncomputable def tt_listing_regA_1 (x : X_listing_regA_1) : TT Tryz.prog R_listing_regA_1 :=
 (.call con_strconv_Itoa x.A fun (y1 : R_strconv_Itoa) =>
 (.need (decide ((((ByteArray.size (ByteArray.mk #[114])) + (ByteArray.size y1)) ≤ (9223372036854775807 : Nat)))) <|
 (.ret ((ByteArray.mk #[114]) ++ y1))))
theorem sd_listing_regA_1 (x : X_listing_regA_1) : (tt_listing_regA_1 x).Sides :=
  (TT.s_call fun _ => (TT.s_need TT.s_ret))

noncomputable def D_listing_regA_1 : Dyn X_listing_regA_1 R_listing_regA_1 := .of tt_listing_regA_1
noncomputable def con_listing_regA_1 : Con Tryz.prog :=
  mkCon 77 J_listing_regA_1 S_listing_regA_1 D_listing_regA_1 D_listing_regA_1 (fun _ _ h => h) 1 0 [.any] (by kernel_rfl) (by kernel_rfl) (by kernel_rfl) (lab_ok mixed_ok labs_nil 4000 (fun x => by kernel_rfl) sd_listing_regA_1) rfl rfl (fun _ => rfl) (by kernel_rfl) rfl (fun _ => rfl) (fun x y _ => by kernel_rfl)

/-! listing.regB$1 (listing_regB_1) -/
abbrev X_listing_regB_1 : Type := TApi_Instr
abbrev R_listing_regB_1 : Type := ByteArray
noncomputable def J_listing_regB_1 : Job Tryz.prog :=
  job Tryz.prog Tryz.f84 7 [(1, 3)] [] [] [] [.any] [] [con_strconv_Itoa] R_listing_regB_1 [] fun y => [V.str y]
noncomputable def S_listing_regB_1 : LabS :=
  lab0 Tryz.f84 1 0 X_listing_regB_1 (fun x => [e_TApi_Instr x]) fun l => (d_TApi_Instr (at_ l 0))
noncomputable def tt_listing_regB_1 (x : X_listing_regB_1) : TT Tryz.prog R_listing_regB_1 :=
 (.call con_strconv_Itoa x.B fun (y1 : R_strconv_Itoa) =>
 (.need (decide ((((ByteArray.size (ByteArray.mk #[114])) + (ByteArray.size y1)) ≤ (9223372036854775807 : Nat)))) <|
 (.ret ((ByteArray.mk #[114]) ++ y1))))
theorem sd_listing_regB_1 (x : X_listing_regB_1) : (tt_listing_regB_1 x).Sides :=
  (TT.s_call fun _ => (TT.s_need TT.s_ret))

noncomputable def D_listing_regB_1 : Dyn X_listing_regB_1 R_listing_regB_1 := .of tt_listing_regB_1
noncomputable def con_listing_regB_1 : Con Tryz.prog :=
  mkCon 84 J_listing_regB_1 S_listing_regB_1 D_listing_regB_1 D_listing_regB_1 (fun _ _ h => h) 1 0 [.any] (by kernel_rfl) (by kernel_rfl) (by kernel_rfl) (lab_ok mixed_ok labs_nil 4000 (fun x => by kernel_rfl) sd_listing_regB_1) rfl rfl (fun _ => rfl) (by kernel_rfl) rfl (fun _ => rfl) (fun x y _ => by kernel_rfl)

/-! listing.regC$1 (listing_regC_1) -/
abbrev X_listing_regC_1 : Type := TApi_Instr
abbrev R_listing_regC_1 : Type := ByteArray
noncomputable def J_listing_regC_1 : Job Tryz.prog :=
  job Tryz.prog Tryz.f92 7 [(1, 3)] [] [] [] [.any] [] [con_strconv_Itoa] R_listing_regC_1 [] fun y => [V.str y]
noncomputable def S_listing_regC_1 : LabS :=
  lab0 Tryz.f92 1 0 X_listing_regC_1 (fun x => [e_TApi_Instr x]) fun l => (d_TApi_Instr (at_ l 0))
noncomputable def tt_listing_regC_1 (x : X_listing_regC_1) : TT Tryz.prog R_listing_regC_1 :=
 (.call con_strconv_Itoa x.C fun (y1 : R_strconv_Itoa) =>
 (.need (decide ((((ByteArray.size (ByteArray.mk #[114])) + (ByteArray.size y1)) ≤ (9223372036854775807 : Nat)))) <|
 (.ret ((ByteArray.mk #[114]) ++ y1))))
theorem sd_listing_regC_1 (x : X_listing_regC_1) : (tt_listing_regC_1 x).Sides :=
  (TT.s_call fun _ => (TT.s_need TT.s_ret))

noncomputable def D_listing_regC_1 : Dyn X_listing_regC_1 R_listing_regC_1 := .of tt_listing_regC_1
noncomputable def con_listing_regC_1 : Con Tryz.prog :=
  mkCon 92 J_listing_regC_1 S_listing_regC_1 D_listing_regC_1 D_listing_regC_1 (fun _ _ h => h) 1 0 [.any] (by kernel_rfl) (by kernel_rfl) (by kernel_rfl) (lab_ok mixed_ok labs_nil 4000 (fun x => by kernel_rfl) sd_listing_regC_1) rfl rfl (fun _ => rfl) (by kernel_rfl) rfl (fun _ => rfl) (fun x y _ => by kernel_rfl)

/-! listing.ring$1 (listing_ring_1) -/
abbrev X_listing_ring_1 : Type := TApi_Instr
abbrev R_listing_ring_1 : Type := ByteArray
noncomputable def J_listing_ring_1 : Job Tryz.prog :=
  job Tryz.prog Tryz.f86 6 [(1, 3)] [] [] [] [.any] [] [con_strconv_Itoa] R_listing_ring_1 [] fun y => [V.str y]
noncomputable def S_listing_ring_1 : LabS :=
  lab0 Tryz.f86 1 0 X_listing_ring_1 (fun x => [e_TApi_Instr x]) fun l => (d_TApi_Instr (at_ l 0))
noncomputable def tt_listing_ring_1 (x : X_listing_ring_1) : TT Tryz.prog R_listing_ring_1 :=
 (.call con_strconv_Itoa x.C fun (y1 : R_strconv_Itoa) =>
 (.ret y1))
theorem sd_listing_ring_1 (x : X_listing_ring_1) : (tt_listing_ring_1 x).Sides :=
  (TT.s_call fun _ => TT.s_ret)

noncomputable def D_listing_ring_1 : Dyn X_listing_ring_1 R_listing_ring_1 := .of tt_listing_ring_1
noncomputable def con_listing_ring_1 : Con Tryz.prog :=
  mkCon 86 J_listing_ring_1 S_listing_ring_1 D_listing_ring_1 D_listing_ring_1 (fun _ _ h => h) 1 0 [.any] (by kernel_rfl) (by kernel_rfl) (by kernel_rfl) (lab_ok mixed_ok labs_nil 4000 (fun x => by kernel_rfl) sd_listing_ring_1) rfl rfl (fun _ => rfl) (by kernel_rfl) rfl (fun _ => rfl) (fun x y _ => by kernel_rfl)

/-! listing.waits (listing_waits) -/
abbrev X_listing_waits : Type := Unit
abbrev R_listing_waits : Type := (Sl ByteArray)
noncomputable def J_listing_waits : Job Tryz.prog :=
  job Tryz.prog Tryz.f89 2 [] [] [] [.shut 0] [hsl_str] [] [] R_listing_waits [] fun y => [esl_str y]
noncomputable def S_listing_waits : LabS :=
  lab0 Tryz.f89 0 0 X_listing_waits (fun _x => []) fun _l => ()
noncomputable def tt_listing_waits (_x : X_listing_waits) : TT Tryz.prog R_listing_waits :=
 (.ret (Sl.mk false 3 (fun i1 => (cond (Nat.beq i1 0) (ByteArray.mk #[116, 114, 121]) (cond (Nat.beq i1 1) (ByteArray.mk #[119, 97, 105, 116]) (ByteArray.mk #[116, 105, 109, 101, 100]))))))
theorem sd_listing_waits (x : X_listing_waits) : (tt_listing_waits x).Sides :=
  TT.s_ret

noncomputable def D_listing_waits : Dyn X_listing_waits R_listing_waits := .of tt_listing_waits
noncomputable def con_listing_waits : Con Tryz.prog :=
  mkCon 89 J_listing_waits S_listing_waits D_listing_waits D_listing_waits (fun _ _ h => h) 0 0 [] (by kernel_rfl) (by kernel_rfl) (by kernel_rfl) (lab_ok mixed_ok labs_nil 4000 (fun x => by kernel_rfl) sd_listing_waits) rfl rfl (fun _ => rfl) (by kernel_rfl) rfl (fun _ => rfl) (fun x y _ => by kernel_rfl)

/-! listing.how$1 (listing_how_1) -/
abbrev X_listing_how_1 : Type := TApi_Instr
abbrev R_listing_how_1 : Type := ByteArray
noncomputable def J_listing_how_1 : Job Tryz.prog :=
  job Tryz.prog Tryz.f88 8 [(1, 3)] [] [] [] [.any] [] [con_listing_waits] R_listing_how_1 [] fun y => [V.str y]
noncomputable def S_listing_how_1 : LabS :=
  lab0 Tryz.f88 1 0 X_listing_how_1 (fun x => [e_TApi_Instr x]) fun l => (d_TApi_Instr (at_ l 0))
noncomputable def tt_listing_how_1 (x : X_listing_how_1) : TT Tryz.prog R_listing_how_1 :=
 (.call con_listing_waits PUnit.unit fun (y1 : R_listing_waits) =>
 (.need (inb x.D y1.n) <|
 (.ret (y1.get (Int.toNat x.D)))))
theorem sd_listing_how_1 (x : X_listing_how_1) : (tt_listing_how_1 x).Sides :=
  (TT.s_call fun _ => (TT.s_need TT.s_ret))

noncomputable def D_listing_how_1 : Dyn X_listing_how_1 R_listing_how_1 := .of tt_listing_how_1
noncomputable def con_listing_how_1 : Con Tryz.prog :=
  mkCon 88 J_listing_how_1 S_listing_how_1 D_listing_how_1 D_listing_how_1 (fun _ _ h => h) 1 0 [.any] (by kernel_rfl) (by kernel_rfl) (by kernel_rfl) (lab_ok mixed_ok labs_nil 4000 (fun x => by kernel_rfl) sd_listing_how_1) rfl rfl (fun _ => rfl) (by kernel_rfl) rfl (fun _ => rfl) (fun x y _ => by kernel_rfl)

/-! strconv.FormatUint -/
abbrev X_strconv_FormatUint : Type := Int × Int
abbrev R_strconv_FormatUint : Type := ByteArray
noncomputable def con_strconv_FormatUint : Con Tryz.prog :=
  mkFU 81 (by kernel_rfl : Tryz.prog.funcs[81]? = some Tryz.f81) (by kernel_rfl) (by kernel_rfl) (fun l _ => (dI (at_ l 0), dI (at_ l 1))) [.any, .any] g_FU

/-! listing.figure$1 (listing_figure_1) -/
abbrev X_listing_figure_1 : Type := TApi_Instr
abbrev R_listing_figure_1 : Type := ByteArray
noncomputable def J_listing_figure_1 : Job Tryz.prog :=
  job Tryz.prog Tryz.f80 6 [(1, 3)] [] [] [] [.any] [] [con_strconv_FormatUint] R_listing_figure_1 [] fun y => [V.str y]
noncomputable def S_listing_figure_1 : LabS :=
  lab0 Tryz.f80 1 0 X_listing_figure_1 (fun x => [e_TApi_Instr x]) fun l => (d_TApi_Instr (at_ l 0))
noncomputable def tt_listing_figure_1 (x : X_listing_figure_1) : TT Tryz.prog R_listing_figure_1 :=
 (.call con_strconv_FormatUint (x.K, 10) fun (y1 : R_strconv_FormatUint) =>
 (.ret y1))
theorem sd_listing_figure_1 (x : X_listing_figure_1) : (tt_listing_figure_1 x).Sides :=
  (TT.s_call fun _ => TT.s_ret)

noncomputable def D_listing_figure_1 : Dyn X_listing_figure_1 R_listing_figure_1 := .of tt_listing_figure_1
noncomputable def con_listing_figure_1 : Con Tryz.prog :=
  mkCon 80 J_listing_figure_1 S_listing_figure_1 D_listing_figure_1 D_listing_figure_1 (fun _ _ h => h) 1 0 [.any] (by kernel_rfl) (by kernel_rfl) (by kernel_rfl) (lab_ok mixed_ok labs_nil 4000 (fun x => by kernel_rfl) sd_listing_figure_1) rfl rfl (fun _ => rfl) (by kernel_rfl) rfl (fun _ => rfl) (fun x y _ => by kernel_rfl)

/-! strings.Join -/
abbrev X_strings_Join : Type := (Sl ByteArray) × ByteArray
abbrev R_strings_Join : Type := ByteArray
noncomputable def con_strings_Join : Con Tryz.prog :=
  mkJoin lays156 bldr156 49 (by kernel_rfl) Tryz.f49 (by kernel_rfl) (by kernel_rfl) (by kernel_rfl) (fun l _ => (dsl_str (at_ l 0), dS (at_ l 1))) [hsl_str, .any]

/-! listing.line (listing_line) -/
abbrev X_listing_line : Type := TApi_Instr
abbrev R_listing_line : Type := ByteArray
noncomputable def J_listing_line : Job Tryz.prog :=
  job Tryz.prog Tryz.f25 28 [(1, 3), (18, 1), (26, 1)] [(3, [.drop (.loc 5 0)])] [] [] [.any] [] [con_code_Name, con_listing_figure_1, con_listing_how_1, con_listing_parts, con_listing_regA_1, con_listing_regB_1, con_listing_regC_1, con_listing_ring_1, con_strings_Join] R_listing_line [] fun y => [V.str y]
noncomputable def S_listing_line : LabS :=
  lab0 Tryz.f25 1 0 X_listing_line (fun x => [e_TApi_Instr x]) fun l => (d_TApi_Instr (at_ l 0))
noncomputable def tt_listing_line (x : X_listing_line) : TT Tryz.prog R_listing_line :=
 (.call con_code_Name x.Op fun (y1 : R_code_Name) =>
 (.call con_listing_parts x.Op fun (y2 : R_listing_parts) =>
 (.ite ((ieq y2 1) || ((ieq y2 16) || (ieq y2 17)))
 (.call con_listing_regA_1 x fun (y3 : R_listing_regA_1) =>
 (.call con_listing_figure_1 x fun (y4 : R_listing_figure_1) =>
 (.call con_strings_Join ((Sl.mk (cond (Nat.beq 1 0) (cond (Nat.beq 1 0) false false) false) 3 (fun i5 => (cond (Nat.blt i5 2) (cond (Nat.blt i5 1) y1 y3) y4))), (ByteArray.mk #[32])) fun (y5 : R_strings_Join) =>
 (.ret y5))))
 (.ite ((ieq y2 2) || (ieq y2 23))
 (.call con_listing_regA_1 x fun (y3 : R_listing_regA_1) =>
 (.call con_listing_regB_1 x fun (y4 : R_listing_regB_1) =>
 (.call con_strings_Join ((Sl.mk (cond (Nat.beq 1 0) (cond (Nat.beq 1 0) false false) false) 3 (fun i5 => (cond (Nat.blt i5 2) (cond (Nat.blt i5 1) y1 y3) y4))), (ByteArray.mk #[32])) fun (y5 : R_strings_Join) =>
 (.ret y5))))
 (.ite (ieq y2 15)
 (.call con_listing_figure_1 x fun (y3 : R_listing_figure_1) =>
 (.call con_strings_Join ((Sl.mk (cond (Nat.beq 1 0) false false) 2 (fun i4 => (cond (Nat.blt i4 1) y1 y3))), (ByteArray.mk #[32])) fun (y4 : R_strings_Join) =>
 (.ret y4)))
 (.ite (ieq y2 18)
 (.call con_listing_regA_1 x fun (y3 : R_listing_regA_1) =>
 (.call con_listing_regB_1 x fun (y4 : R_listing_regB_1) =>
 (.call con_listing_ring_1 x fun (y5 : R_listing_ring_1) =>
 (.call con_listing_how_1 x fun (y6 : R_listing_how_1) =>
 (.call con_strings_Join ((Sl.mk (cond (Nat.beq 1 0) (cond (Nat.beq 1 0) (cond (Nat.beq 1 0) (cond (Nat.beq 1 0) false false) false) false) false) 5 (fun i7 => (cond (Nat.blt i7 4) (cond (Nat.blt i7 3) (cond (Nat.blt i7 2) (cond (Nat.blt i7 1) y1 y3) y4) y5) y6))), (ByteArray.mk #[32])) fun (y7 : R_strings_Join) =>
 (.ret y7))))))
 (.ite (ieq y2 19)
 (.call con_listing_regA_1 x fun (y3 : R_listing_regA_1) =>
 (.call con_listing_regB_1 x fun (y4 : R_listing_regB_1) =>
 (.call con_listing_ring_1 x fun (y5 : R_listing_ring_1) =>
 (.call con_listing_how_1 x fun (y6 : R_listing_how_1) =>
 (.call con_listing_figure_1 x fun (y7 : R_listing_figure_1) =>
 (.call con_strings_Join ((Sl.mk (cond (Nat.beq 1 0) (cond (Nat.beq 1 0) (cond (Nat.beq 1 0) (cond (Nat.beq 1 0) (cond (Nat.beq 1 0) false false) false) false) false) false) 6 (fun i8 => (cond (Nat.blt i8 5) (cond (Nat.blt i8 4) (cond (Nat.blt i8 3) (cond (Nat.blt i8 2) (cond (Nat.blt i8 1) y1 y3) y4) y5) y6) y7))), (ByteArray.mk #[32])) fun (y8 : R_strings_Join) =>
 (.ret y8)))))))
 (.ite (ieq y2 20)
 (.call con_listing_ring_1 x fun (y3 : R_listing_ring_1) =>
 (.call con_strings_Join ((Sl.mk (cond (Nat.beq 1 0) false false) 2 (fun i4 => (cond (Nat.blt i4 1) y1 y3))), (ByteArray.mk #[32])) fun (y4 : R_strings_Join) =>
 (.ret y4)))
 (.ite ((ieq y2 21) || ((ieq y2 22) || (ieq y2 24)))
 (.call con_listing_regA_1 x fun (y3 : R_listing_regA_1) =>
 (.call con_strings_Join ((Sl.mk (cond (Nat.beq 1 0) false false) 2 (fun i4 => (cond (Nat.blt i4 1) y1 y3))), (ByteArray.mk #[32])) fun (y4 : R_strings_Join) =>
 (.ret y4)))
 (.ite (ieq y2 25)
 (.call con_strings_Join ((Sl.mk false 1 (fun _i3 => y1)), (ByteArray.mk #[32])) fun (y3 : R_strings_Join) =>
 (.ret y3))
 (.call con_listing_regA_1 x fun (y3 : R_listing_regA_1) =>
 (.call con_listing_regB_1 x fun (y4 : R_listing_regB_1) =>
 (.call con_listing_regC_1 x fun (y5 : R_listing_regC_1) =>
 (.call con_strings_Join ((Sl.mk (cond (Nat.beq 1 0) (cond (Nat.beq 1 0) (cond (Nat.beq 1 0) false false) false) false) 4 (fun i6 => (cond (Nat.blt i6 3) (cond (Nat.blt i6 2) (cond (Nat.blt i6 1) y1 y3) y4) y5))), (ByteArray.mk #[32])) fun (y6 : R_strings_Join) =>
 (.ret y6)))))))))))))))
theorem sd_listing_line (x : X_listing_line) : (tt_listing_line x).Sides :=
  (TT.s_call fun _ => (TT.s_call fun _ => (TT.s_ite (TT.s_call fun _ => (TT.s_call fun _ => (TT.s_call fun _ => TT.s_ret))) (TT.s_ite (TT.s_call fun _ => (TT.s_call fun _ => (TT.s_call fun _ => TT.s_ret))) (TT.s_ite (TT.s_call fun _ => (TT.s_call fun _ => TT.s_ret)) (TT.s_ite (TT.s_call fun _ => (TT.s_call fun _ => (TT.s_call fun _ => (TT.s_call fun _ => (TT.s_call fun _ => TT.s_ret))))) (TT.s_ite (TT.s_call fun _ => (TT.s_call fun _ => (TT.s_call fun _ => (TT.s_call fun _ => (TT.s_call fun _ => (TT.s_call fun _ => TT.s_ret)))))) (TT.s_ite (TT.s_call fun _ => (TT.s_call fun _ => TT.s_ret)) (TT.s_ite (TT.s_call fun _ => (TT.s_call fun _ => TT.s_ret)) (TT.s_ite (TT.s_call fun _ => TT.s_ret) (TT.s_call fun _ => (TT.s_call fun _ => (TT.s_call fun _ => (TT.s_call fun _ => TT.s_ret))))))))))))))

noncomputable def D_listing_line : Dyn X_listing_line R_listing_line := .of tt_listing_line
noncomputable def con_listing_line : Con Tryz.prog :=
  mkCon 25 J_listing_line S_listing_line D_listing_line D_listing_line (fun _ _ h => h) 1 0 [.any] (by kernel_rfl) (by kernel_rfl) (by kernel_rfl) (lab_ok mixed_ok labs_nil 4000 (fun x => by kernel_rfl) sd_listing_line) rfl rfl (fun _ => rfl) (by kernel_rfl) rfl (fun _ => rfl) (fun x y _ => by kernel_rfl)

/-! internal/stringslite.HasPrefix (internal_stringslite_HasPrefix) -/
abbrev X_internal_stringslite_HasPrefix : Type := ByteArray × ByteArray
abbrev R_internal_stringslite_HasPrefix : Type := Bool
noncomputable def J_internal_stringslite_HasPrefix : Job Tryz.prog :=
  job Tryz.prog Tryz.f126 18 [] [] [] [] [.any] [] [] R_internal_stringslite_HasPrefix [] fun y => [V.bool y]
noncomputable def S_internal_stringslite_HasPrefix : LabS :=
  lab0 Tryz.f126 2 0 X_internal_stringslite_HasPrefix (fun x => [V.str x.1, V.str x.2]) fun l => (dS (at_ l 0), dS (at_ l 1))
noncomputable def tt_internal_stringslite_HasPrefix (x : X_internal_stringslite_HasPrefix) : TT Tryz.prog R_internal_stringslite_HasPrefix :=
 (.ite (ile (((ByteArray.size x.snd) : Nat) : Int) (((ByteArray.size x.fst) : Nat) : Int))
 (.need (upto (((ByteArray.size x.snd) : Nat) : Int) (ByteArray.size x.fst)) <|
 (.ret (seq (ByteArray.extract x.fst 0 (Int.toNat (((ByteArray.size x.snd) : Nat) : Int))) x.snd)))
 (.ret false))
theorem sd_internal_stringslite_HasPrefix (x : X_internal_stringslite_HasPrefix) : (tt_internal_stringslite_HasPrefix x).Sides :=
  (TT.s_ite (TT.s_need TT.s_ret) TT.s_ret)

noncomputable def D_internal_stringslite_HasPrefix : Dyn X_internal_stringslite_HasPrefix R_internal_stringslite_HasPrefix := .of tt_internal_stringslite_HasPrefix
noncomputable def con_internal_stringslite_HasPrefix : Con Tryz.prog :=
  mkCon 126 J_internal_stringslite_HasPrefix S_internal_stringslite_HasPrefix D_internal_stringslite_HasPrefix D_internal_stringslite_HasPrefix (fun _ _ h => h) 2 0 [.any, .any] (by kernel_rfl) (by kernel_rfl) (by kernel_rfl) (lab_ok mixed_ok labs_nil 4000 (fun x => by kernel_rfl) sd_internal_stringslite_HasPrefix) rfl rfl (fun _ => rfl) (by kernel_rfl) rfl (fun _ => rfl) (fun x y _ => by kernel_rfl)

/-! internal/stringslite.TrimPrefix (internal_stringslite_TrimPrefix) -/
abbrev X_internal_stringslite_TrimPrefix : Type := ByteArray × ByteArray
abbrev R_internal_stringslite_TrimPrefix : Type := ByteArray
noncomputable def J_internal_stringslite_TrimPrefix : Job Tryz.prog :=
  job Tryz.prog Tryz.f118 13 [] [] [] [] [.any] [] [con_internal_stringslite_HasPrefix] R_internal_stringslite_TrimPrefix [] fun y => [V.str y]
noncomputable def S_internal_stringslite_TrimPrefix : LabS :=
  lab0 Tryz.f118 2 0 X_internal_stringslite_TrimPrefix (fun x => [V.str x.1, V.str x.2]) fun l => (dS (at_ l 0), dS (at_ l 1))
noncomputable def tt_internal_stringslite_TrimPrefix (x : X_internal_stringslite_TrimPrefix) : TT Tryz.prog R_internal_stringslite_TrimPrefix :=
 (.call con_internal_stringslite_HasPrefix x fun (y1 : R_internal_stringslite_HasPrefix) =>
 (.ite y1
 (.need (upto (((ByteArray.size x.snd) : Nat) : Int) (ByteArray.size x.fst)) <|
 (.ret (ByteArray.extract x.fst (Int.toNat (((ByteArray.size x.snd) : Nat) : Int)) (ByteArray.size x.fst))))
 (.ret x.fst)))
theorem sd_internal_stringslite_TrimPrefix (x : X_internal_stringslite_TrimPrefix) : (tt_internal_stringslite_TrimPrefix x).Sides :=
  (TT.s_call fun _ => (TT.s_ite (TT.s_need TT.s_ret) TT.s_ret))

noncomputable def D_internal_stringslite_TrimPrefix : Dyn X_internal_stringslite_TrimPrefix R_internal_stringslite_TrimPrefix := .of tt_internal_stringslite_TrimPrefix
noncomputable def con_internal_stringslite_TrimPrefix : Con Tryz.prog :=
  mkCon 118 J_internal_stringslite_TrimPrefix S_internal_stringslite_TrimPrefix D_internal_stringslite_TrimPrefix D_internal_stringslite_TrimPrefix (fun _ _ h => h) 2 0 [.any, .any] (by kernel_rfl) (by kernel_rfl) (by kernel_rfl) (lab_ok mixed_ok labs_nil 4000 (fun x => by kernel_rfl) sd_internal_stringslite_TrimPrefix) rfl rfl (fun _ => rfl) (by kernel_rfl) rfl (fun _ => rfl) (fun x y _ => by kernel_rfl)

/-! strings.TrimPrefix (strings_TrimPrefix) -/
abbrev X_strings_TrimPrefix : Type := ByteArray × ByteArray
abbrev R_strings_TrimPrefix : Type := ByteArray
noncomputable def J_strings_TrimPrefix : Job Tryz.prog :=
  job Tryz.prog Tryz.f104 8 [] [] [] [] [.any] [] [con_internal_stringslite_TrimPrefix] R_strings_TrimPrefix [] fun y => [V.str y]
noncomputable def S_strings_TrimPrefix : LabS :=
  lab0 Tryz.f104 2 0 X_strings_TrimPrefix (fun x => [V.str x.1, V.str x.2]) fun l => (dS (at_ l 0), dS (at_ l 1))
noncomputable def tt_strings_TrimPrefix (x : X_strings_TrimPrefix) : TT Tryz.prog R_strings_TrimPrefix :=
 (.call con_internal_stringslite_TrimPrefix x fun (y1 : R_internal_stringslite_TrimPrefix) =>
 (.ret y1))
theorem sd_strings_TrimPrefix (x : X_strings_TrimPrefix) : (tt_strings_TrimPrefix x).Sides :=
  (TT.s_call fun _ => TT.s_ret)

noncomputable def D_strings_TrimPrefix : Dyn X_strings_TrimPrefix R_strings_TrimPrefix := .of tt_strings_TrimPrefix
noncomputable def con_strings_TrimPrefix : Con Tryz.prog :=
  mkCon 104 J_strings_TrimPrefix S_strings_TrimPrefix D_strings_TrimPrefix D_strings_TrimPrefix (fun _ _ h => h) 2 0 [.any, .any] (by kernel_rfl) (by kernel_rfl) (by kernel_rfl) (lab_ok mixed_ok labs_nil 4000 (fun x => by kernel_rfl) sd_strings_TrimPrefix) rfl rfl (fun _ => rfl) (by kernel_rfl) rfl (fun _ => rfl) (fun x y _ => by kernel_rfl)

/-! listing.register (listing_register) -/
abbrev X_listing_register : Type := ByteArray
abbrev R_listing_register : Type := Int
noncomputable def J_listing_register : Job Tryz.prog :=
  job Tryz.prog Tryz.f79 6 [] [] [] [] [.any] [] [con_listing_small, con_strings_TrimPrefix] R_listing_register [] fun y => [(V.int .i64) y]
noncomputable def S_listing_register : LabS :=
  lab0 Tryz.f79 1 0 X_listing_register (fun x => [V.str x]) fun l => (dS (at_ l 0))
noncomputable def tt_listing_register (x : X_listing_register) : TT Tryz.prog R_listing_register :=
 (.call con_strings_TrimPrefix (x, (ByteArray.mk #[114])) fun (y1 : R_strings_TrimPrefix) =>
 (.call con_listing_small y1 fun (y2 : R_listing_small) =>
 (.ret y2)))
theorem sd_listing_register (x : X_listing_register) : (tt_listing_register x).Sides :=
  (TT.s_call fun _ => (TT.s_call fun _ => TT.s_ret))

noncomputable def D_listing_register : Dyn X_listing_register R_listing_register := .of tt_listing_register
noncomputable def con_listing_register : Con Tryz.prog :=
  mkCon 79 J_listing_register S_listing_register D_listing_register D_listing_register (fun _ _ h => h) 1 0 [.any] (by kernel_rfl) (by kernel_rfl) (by kernel_rfl) (lab_ok mixed_ok labs_nil 4000 (fun x => by kernel_rfl) sd_listing_register) rfl rfl (fun _ => rfl) (by kernel_rfl) rfl (fun _ => rfl) (fun x y _ => by kernel_rfl)

/-! listing.regA$2 (listing_regA_2) -/
abbrev X_listing_regA_2 : Type := ByteArray × TApi_Instr
abbrev R_listing_regA_2 : Type := TApi_Instr
noncomputable def J_listing_regA_2 : Job Tryz.prog :=
  job Tryz.prog Tryz.f78 9 [] [] [] [] [] [.any] [con_listing_register] R_listing_regA_2 [] fun y => [V.tup (V.unit), e_TApi_Instr y]
noncomputable def S_listing_regA_2 : LabS :=
  lab0 Tryz.f78 2 1 X_listing_regA_2 (fun x => [(V.ptr (.par 0) []), V.str x.1, e_TApi_Instr x.2]) fun l => (dS (at_ l 1), d_TApi_Instr (at_ l 2))
noncomputable def tt_listing_regA_2 (x : X_listing_regA_2) : TT Tryz.prog R_listing_regA_2 :=
 (.call con_listing_register x.fst fun (y1 : R_listing_register) =>
 (.ret (TApi_Instr.mk x.snd.Op y1 x.snd.B x.snd.C x.snd.D x.snd.K)))
theorem sd_listing_regA_2 (x : X_listing_regA_2) : (tt_listing_regA_2 x).Sides :=
  (TT.s_call fun _ => TT.s_ret)

noncomputable def D_listing_regA_2 : Dyn X_listing_regA_2 R_listing_regA_2 := .of tt_listing_regA_2
noncomputable def con_listing_regA_2 : Con Tryz.prog :=
  mkCon 78 J_listing_regA_2 S_listing_regA_2 D_listing_regA_2 D_listing_regA_2 (fun _ _ h => h) 2 1 [.any, .any] (by kernel_rfl) (by kernel_rfl) (by kernel_rfl) (lab_ok mixed_ok labs_nil 4000 (fun x => by kernel_rfl) sd_listing_regA_2) rfl rfl (fun _ => rfl) (by kernel_rfl) rfl (fun _ => rfl) (fun x y _ => by kernel_rfl)

/-! listing.regB$2 (listing_regB_2) -/
abbrev X_listing_regB_2 : Type := ByteArray × TApi_Instr
abbrev R_listing_regB_2 : Type := TApi_Instr
noncomputable def J_listing_regB_2 : Job Tryz.prog :=
  job Tryz.prog Tryz.f85 9 [] [] [] [] [] [.any] [con_listing_register] R_listing_regB_2 [] fun y => [V.tup (V.unit), e_TApi_Instr y]
noncomputable def S_listing_regB_2 : LabS :=
  lab0 Tryz.f85 2 1 X_listing_regB_2 (fun x => [(V.ptr (.par 0) []), V.str x.1, e_TApi_Instr x.2]) fun l => (dS (at_ l 1), d_TApi_Instr (at_ l 2))
noncomputable def tt_listing_regB_2 (x : X_listing_regB_2) : TT Tryz.prog R_listing_regB_2 :=
 (.call con_listing_register x.fst fun (y1 : R_listing_register) =>
 (.ret (TApi_Instr.mk x.snd.Op x.snd.A y1 x.snd.C x.snd.D x.snd.K)))
theorem sd_listing_regB_2 (x : X_listing_regB_2) : (tt_listing_regB_2 x).Sides :=
  (TT.s_call fun _ => TT.s_ret)

noncomputable def D_listing_regB_2 : Dyn X_listing_regB_2 R_listing_regB_2 := .of tt_listing_regB_2
noncomputable def con_listing_regB_2 : Con Tryz.prog :=
  mkCon 85 J_listing_regB_2 S_listing_regB_2 D_listing_regB_2 D_listing_regB_2 (fun _ _ h => h) 2 1 [.any, .any] (by kernel_rfl) (by kernel_rfl) (by kernel_rfl) (lab_ok mixed_ok labs_nil 4000 (fun x => by kernel_rfl) sd_listing_regB_2) rfl rfl (fun _ => rfl) (by kernel_rfl) rfl (fun _ => rfl) (fun x y _ => by kernel_rfl)

/-! listing.regC$2 (listing_regC_2) -/
abbrev X_listing_regC_2 : Type := ByteArray × TApi_Instr
abbrev R_listing_regC_2 : Type := TApi_Instr
noncomputable def J_listing_regC_2 : Job Tryz.prog :=
  job Tryz.prog Tryz.f93 9 [] [] [] [] [] [.any] [con_listing_register] R_listing_regC_2 [] fun y => [V.tup (V.unit), e_TApi_Instr y]
noncomputable def S_listing_regC_2 : LabS :=
  lab0 Tryz.f93 2 1 X_listing_regC_2 (fun x => [(V.ptr (.par 0) []), V.str x.1, e_TApi_Instr x.2]) fun l => (dS (at_ l 1), d_TApi_Instr (at_ l 2))
noncomputable def tt_listing_regC_2 (x : X_listing_regC_2) : TT Tryz.prog R_listing_regC_2 :=
 (.call con_listing_register x.fst fun (y1 : R_listing_register) =>
 (.ret (TApi_Instr.mk x.snd.Op x.snd.A x.snd.B y1 x.snd.D x.snd.K)))
theorem sd_listing_regC_2 (x : X_listing_regC_2) : (tt_listing_regC_2 x).Sides :=
  (TT.s_call fun _ => TT.s_ret)

noncomputable def D_listing_regC_2 : Dyn X_listing_regC_2 R_listing_regC_2 := .of tt_listing_regC_2
noncomputable def con_listing_regC_2 : Con Tryz.prog :=
  mkCon 93 J_listing_regC_2 S_listing_regC_2 D_listing_regC_2 D_listing_regC_2 (fun _ _ h => h) 2 1 [.any, .any] (by kernel_rfl) (by kernel_rfl) (by kernel_rfl) (lab_ok mixed_ok labs_nil 4000 (fun x => by kernel_rfl) sd_listing_regC_2) rfl rfl (fun _ => rfl) (by kernel_rfl) rfl (fun _ => rfl) (fun x y _ => by kernel_rfl)

/-! listing.ring$2 (listing_ring_2) -/
abbrev X_listing_ring_2 : Type := ByteArray × TApi_Instr
abbrev R_listing_ring_2 : Type := TApi_Instr
noncomputable def J_listing_ring_2 : Job Tryz.prog :=
  job Tryz.prog Tryz.f87 9 [] [] [] [] [] [.any] [con_listing_small] R_listing_ring_2 [] fun y => [V.tup (V.unit), e_TApi_Instr y]
noncomputable def S_listing_ring_2 : LabS :=
  lab0 Tryz.f87 2 1 X_listing_ring_2 (fun x => [(V.ptr (.par 0) []), V.str x.1, e_TApi_Instr x.2]) fun l => (dS (at_ l 1), d_TApi_Instr (at_ l 2))
noncomputable def tt_listing_ring_2 (x : X_listing_ring_2) : TT Tryz.prog R_listing_ring_2 :=
 (.call con_listing_small x.fst fun (y1 : R_listing_small) =>
 (.ret (TApi_Instr.mk x.snd.Op x.snd.A x.snd.B y1 x.snd.D x.snd.K)))
theorem sd_listing_ring_2 (x : X_listing_ring_2) : (tt_listing_ring_2 x).Sides :=
  (TT.s_call fun _ => TT.s_ret)

noncomputable def D_listing_ring_2 : Dyn X_listing_ring_2 R_listing_ring_2 := .of tt_listing_ring_2
noncomputable def con_listing_ring_2 : Con Tryz.prog :=
  mkCon 87 J_listing_ring_2 S_listing_ring_2 D_listing_ring_2 D_listing_ring_2 (fun _ _ h => h) 2 1 [.any, .any] (by kernel_rfl) (by kernel_rfl) (by kernel_rfl) (lab_ok mixed_ok labs_nil 4000 (fun x => by kernel_rfl) sd_listing_ring_2) rfl rfl (fun _ => rfl) (by kernel_rfl) rfl (fun _ => rfl) (fun x y _ => by kernel_rfl)

/-! listing.how$2 (listing_how_2) -/
abbrev X_listing_how_2 : Type := ByteArray × TApi_Instr
abbrev R_listing_how_2 : Type := TApi_Instr
noncomputable def J_listing_how_2 : Job Tryz.prog :=
  job Tryz.prog Tryz.f90 10 [] [] [] [] [] [.any] [con_listing_waits, con_slices_Index_string] R_listing_how_2 [] fun y => [V.tup (V.unit), e_TApi_Instr y]
noncomputable def S_listing_how_2 : LabS :=
  lab0 Tryz.f90 2 1 X_listing_how_2 (fun x => [(V.ptr (.par 0) []), V.str x.1, e_TApi_Instr x.2]) fun l => (dS (at_ l 1), d_TApi_Instr (at_ l 2))
noncomputable def tt_listing_how_2 (x : X_listing_how_2) : TT Tryz.prog R_listing_how_2 :=
 (.call con_listing_waits PUnit.unit fun (y1 : R_listing_waits) =>
 (.call con_slices_Index_string (y1, x.fst) fun (y2 : R_slices_Index_string) =>
 (.ret (TApi_Instr.mk x.snd.Op x.snd.A x.snd.B x.snd.C y2 x.snd.K))))
theorem sd_listing_how_2 (x : X_listing_how_2) : (tt_listing_how_2 x).Sides :=
  (TT.s_call fun _ => (TT.s_call fun _ => TT.s_ret))

noncomputable def D_listing_how_2 : Dyn X_listing_how_2 R_listing_how_2 := .of tt_listing_how_2
noncomputable def con_listing_how_2 : Con Tryz.prog :=
  mkCon 90 J_listing_how_2 S_listing_how_2 D_listing_how_2 D_listing_how_2 (fun _ _ h => h) 2 1 [.any, .any] (by kernel_rfl) (by kernel_rfl) (by kernel_rfl) (lab_ok mixed_ok labs_nil 4000 (fun x => by kernel_rfl) sd_listing_how_2) rfl rfl (fun _ => rfl) (by kernel_rfl) rfl (fun _ => rfl) (fun x y _ => by kernel_rfl)

/-! listing.figure$2 (listing_figure_2) -/
abbrev X_listing_figure_2 : Type := ByteArray × TApi_Instr
abbrev R_listing_figure_2 : Type := TApi_Instr
noncomputable def J_listing_figure_2 : Job Tryz.prog :=
  job Tryz.prog Tryz.f82 9 [] [] [] [] [] [.any] [con_listing_number] R_listing_figure_2 [] fun y => [V.tup (V.unit), e_TApi_Instr y]
noncomputable def S_listing_figure_2 : LabS :=
  lab0 Tryz.f82 2 1 X_listing_figure_2 (fun x => [(V.ptr (.par 0) []), V.str x.1, e_TApi_Instr x.2]) fun l => (dS (at_ l 1), d_TApi_Instr (at_ l 2))
noncomputable def tt_listing_figure_2 (x : X_listing_figure_2) : TT Tryz.prog R_listing_figure_2 :=
 (.call con_listing_number x.fst fun (y1 : R_listing_number) =>
 (.ret (TApi_Instr.mk x.snd.Op x.snd.A x.snd.B x.snd.C x.snd.D y1)))
theorem sd_listing_figure_2 (x : X_listing_figure_2) : (tt_listing_figure_2 x).Sides :=
  (TT.s_call fun _ => TT.s_ret)

noncomputable def D_listing_figure_2 : Dyn X_listing_figure_2 R_listing_figure_2 := .of tt_listing_figure_2
noncomputable def con_listing_figure_2 : Con Tryz.prog :=
  mkCon 82 J_listing_figure_2 S_listing_figure_2 D_listing_figure_2 D_listing_figure_2 (fun _ _ h => h) 2 1 [.any, .any] (by kernel_rfl) (by kernel_rfl) (by kernel_rfl) (lab_ok mixed_ok labs_nil 4000 (fun x => by kernel_rfl) sd_listing_figure_2) rfl rfl (fun _ => rfl) (by kernel_rfl) rfl (fun _ => rfl) (fun x y _ => by kernel_rfl)

/-! listing.readInstr (listing_readInstr) -/
abbrev X_listing_readInstr : Type := ByteArray
abbrev R_listing_readInstr : Type := TApi_Instr × Bool
noncomputable def J_listing_readInstr : Job Tryz.prog :=
  job Tryz.prog Tryz.f53 56 [(10, 1), (31, 1)] [(9, [.drop (.loc 7 0)])] [] [] [.any, .any] [] [con_code_Find, con_code_Right, con_listing_figure_2, con_listing_how_2, con_listing_line, con_listing_parts, con_listing_regA_2, con_listing_regB_2, con_listing_regC_2, con_listing_ring_2, con_strings_Split] R_listing_readInstr [] fun y => [V.tup (V.cons (e_TApi_Instr y.1) (V.cons (V.bool y.2) (V.unit)))]
noncomputable def S_listing_readInstr : LabS :=
  lab0 Tryz.f53 1 0 X_listing_readInstr (fun x => [V.str x]) fun l => (dS (at_ l 0))
noncomputable def tt_listing_readInstr (x : X_listing_readInstr) : TT Tryz.prog R_listing_readInstr :=
 (.call con_strings_Split (x, (ByteArray.mk #[32])) fun (y1 : R_strings_Split) =>
 (.need (inb 0 y1.n) <|
 (.call con_code_Find (y1.get (Int.toNat 0)) fun (y2 : R_code_Find) =>
 (.ite (!y2.snd)
 (.ret ((TApi_Instr.mk y2.fst 0 0 0 0 0), false))
 (.call con_listing_parts y2.fst fun (y3 : R_listing_parts) =>
 (.ite ((ieq y3 1) || ((ieq y3 16) || (ieq y3 17)))
 (.ite (!(ieq ((y1.n : Nat) : Int) (IntKind.i64.wrap ((((2 : Nat) : Nat) : Int) + 1))))
 (.ret ((TApi_Instr.mk y2.fst 0 0 0 0 0), false))
 (.need (inb (IntKind.i64.wrap ((0 : Int) + 1)) y1.n) <|
 (.call con_listing_regA_2 ((y1.get (Int.toNat (IntKind.i64.wrap ((0 : Int) + 1)))), (TApi_Instr.mk y2.fst 0 0 0 0 0)) fun (y4 : R_listing_regA_2) =>
 (.need (inb (IntKind.i64.wrap ((IntKind.i64.wrap ((0 : Int) + 1)) + 1)) y1.n) <|
 (.call con_listing_figure_2 ((y1.get (Int.toNat (IntKind.i64.wrap ((IntKind.i64.wrap ((0 : Int) + 1)) + 1)))), y4) fun (y5 : R_listing_figure_2) =>
 (.call con_code_Right y5 fun (y6 : R_code_Right) =>
 (.ite y6
 (.call con_listing_line y5 fun (y7 : R_listing_line) =>
 (.ret (y5, (seq y7 x))))
 (.ret (y5, false)))))))))
 (.ite ((ieq y3 2) || (ieq y3 23))
 (.ite (!(ieq ((y1.n : Nat) : Int) (IntKind.i64.wrap ((((2 : Nat) : Nat) : Int) + 1))))
 (.ret ((TApi_Instr.mk y2.fst 0 0 0 0 0), false))
 (.need (inb (IntKind.i64.wrap ((0 : Int) + 1)) y1.n) <|
 (.call con_listing_regA_2 ((y1.get (Int.toNat (IntKind.i64.wrap ((0 : Int) + 1)))), (TApi_Instr.mk y2.fst 0 0 0 0 0)) fun (y4 : R_listing_regA_2) =>
 (.need (inb (IntKind.i64.wrap ((IntKind.i64.wrap ((0 : Int) + 1)) + 1)) y1.n) <|
 (.call con_listing_regB_2 ((y1.get (Int.toNat (IntKind.i64.wrap ((IntKind.i64.wrap ((0 : Int) + 1)) + 1)))), y4) fun (y5 : R_listing_regB_2) =>
 (.call con_code_Right y5 fun (y6 : R_code_Right) =>
 (.ite y6
 (.call con_listing_line y5 fun (y7 : R_listing_line) =>
 (.ret (y5, (seq y7 x))))
 (.ret (y5, false)))))))))
 (.ite (ieq y3 15)
 (.ite (!(ieq ((y1.n : Nat) : Int) (IntKind.i64.wrap ((((1 : Nat) : Nat) : Int) + 1))))
 (.ret ((TApi_Instr.mk y2.fst 0 0 0 0 0), false))
 (.need (inb (IntKind.i64.wrap ((0 : Int) + 1)) y1.n) <|
 (.call con_listing_figure_2 ((y1.get (Int.toNat (IntKind.i64.wrap ((0 : Int) + 1)))), (TApi_Instr.mk y2.fst 0 0 0 0 0)) fun (y4 : R_listing_figure_2) =>
 (.call con_code_Right y4 fun (y5 : R_code_Right) =>
 (.ite y5
 (.call con_listing_line y4 fun (y6 : R_listing_line) =>
 (.ret (y4, (seq y6 x))))
 (.ret (y4, false)))))))
 (.ite (ieq y3 18)
 (.ite (!(ieq ((y1.n : Nat) : Int) (IntKind.i64.wrap ((((4 : Nat) : Nat) : Int) + 1))))
 (.ret ((TApi_Instr.mk y2.fst 0 0 0 0 0), false))
 (.need (inb (IntKind.i64.wrap ((0 : Int) + 1)) y1.n) <|
 (.call con_listing_regA_2 ((y1.get (Int.toNat (IntKind.i64.wrap ((0 : Int) + 1)))), (TApi_Instr.mk y2.fst 0 0 0 0 0)) fun (y4 : R_listing_regA_2) =>
 (.need (inb (IntKind.i64.wrap ((IntKind.i64.wrap ((0 : Int) + 1)) + 1)) y1.n) <|
 (.call con_listing_regB_2 ((y1.get (Int.toNat (IntKind.i64.wrap ((IntKind.i64.wrap ((0 : Int) + 1)) + 1)))), y4) fun (y5 : R_listing_regB_2) =>
 (.need (inb (IntKind.i64.wrap ((IntKind.i64.wrap ((IntKind.i64.wrap ((0 : Int) + 1)) + 1)) + 1)) y1.n) <|
 (.call con_listing_ring_2 ((y1.get (Int.toNat (IntKind.i64.wrap ((IntKind.i64.wrap ((IntKind.i64.wrap ((0 : Int) + 1)) + 1)) + 1)))), y5) fun (y6 : R_listing_ring_2) =>
 (.need (inb (IntKind.i64.wrap ((IntKind.i64.wrap ((IntKind.i64.wrap ((IntKind.i64.wrap ((0 : Int) + 1)) + 1)) + 1)) + 1)) y1.n) <|
 (.call con_listing_how_2 ((y1.get (Int.toNat (IntKind.i64.wrap ((IntKind.i64.wrap ((IntKind.i64.wrap ((IntKind.i64.wrap ((0 : Int) + 1)) + 1)) + 1)) + 1)))), y6) fun (y7 : R_listing_how_2) =>
 (.call con_code_Right y7 fun (y8 : R_code_Right) =>
 (.ite y8
 (.call con_listing_line y7 fun (y9 : R_listing_line) =>
 (.ret (y7, (seq y9 x))))
 (.ret (y7, false)))))))))))))
 (.ite (ieq y3 19)
 (.ite (!(ieq ((y1.n : Nat) : Int) (IntKind.i64.wrap ((((5 : Nat) : Nat) : Int) + 1))))
 (.ret ((TApi_Instr.mk y2.fst 0 0 0 0 0), false))
 (.need (inb (IntKind.i64.wrap ((0 : Int) + 1)) y1.n) <|
 (.call con_listing_regA_2 ((y1.get (Int.toNat (IntKind.i64.wrap ((0 : Int) + 1)))), (TApi_Instr.mk y2.fst 0 0 0 0 0)) fun (y4 : R_listing_regA_2) =>
 (.need (inb (IntKind.i64.wrap ((IntKind.i64.wrap ((0 : Int) + 1)) + 1)) y1.n) <|
 (.call con_listing_regB_2 ((y1.get (Int.toNat (IntKind.i64.wrap ((IntKind.i64.wrap ((0 : Int) + 1)) + 1)))), y4) fun (y5 : R_listing_regB_2) =>
 (.need (inb (IntKind.i64.wrap ((IntKind.i64.wrap ((IntKind.i64.wrap ((0 : Int) + 1)) + 1)) + 1)) y1.n) <|
 (.call con_listing_ring_2 ((y1.get (Int.toNat (IntKind.i64.wrap ((IntKind.i64.wrap ((IntKind.i64.wrap ((0 : Int) + 1)) + 1)) + 1)))), y5) fun (y6 : R_listing_ring_2) =>
 (.need (inb (IntKind.i64.wrap ((IntKind.i64.wrap ((IntKind.i64.wrap ((IntKind.i64.wrap ((0 : Int) + 1)) + 1)) + 1)) + 1)) y1.n) <|
 (.call con_listing_how_2 ((y1.get (Int.toNat (IntKind.i64.wrap ((IntKind.i64.wrap ((IntKind.i64.wrap ((IntKind.i64.wrap ((0 : Int) + 1)) + 1)) + 1)) + 1)))), y6) fun (y7 : R_listing_how_2) =>
 (.need (inb (IntKind.i64.wrap ((IntKind.i64.wrap ((IntKind.i64.wrap ((IntKind.i64.wrap ((IntKind.i64.wrap ((0 : Int) + 1)) + 1)) + 1)) + 1)) + 1)) y1.n) <|
 (.call con_listing_figure_2 ((y1.get (Int.toNat (IntKind.i64.wrap ((IntKind.i64.wrap ((IntKind.i64.wrap ((IntKind.i64.wrap ((IntKind.i64.wrap ((0 : Int) + 1)) + 1)) + 1)) + 1)) + 1)))), y7) fun (y8 : R_listing_figure_2) =>
 (.call con_code_Right y8 fun (y9 : R_code_Right) =>
 (.ite y9
 (.call con_listing_line y8 fun (y10 : R_listing_line) =>
 (.ret (y8, (seq y10 x))))
 (.ret (y8, false)))))))))))))))
 (.ite (ieq y3 20)
 (.ite (!(ieq ((y1.n : Nat) : Int) (IntKind.i64.wrap ((((1 : Nat) : Nat) : Int) + 1))))
 (.ret ((TApi_Instr.mk y2.fst 0 0 0 0 0), false))
 (.need (inb (IntKind.i64.wrap ((0 : Int) + 1)) y1.n) <|
 (.call con_listing_ring_2 ((y1.get (Int.toNat (IntKind.i64.wrap ((0 : Int) + 1)))), (TApi_Instr.mk y2.fst 0 0 0 0 0)) fun (y4 : R_listing_ring_2) =>
 (.call con_code_Right y4 fun (y5 : R_code_Right) =>
 (.ite y5
 (.call con_listing_line y4 fun (y6 : R_listing_line) =>
 (.ret (y4, (seq y6 x))))
 (.ret (y4, false)))))))
 (.ite ((ieq y3 21) || ((ieq y3 22) || (ieq y3 24)))
 (.ite (!(ieq ((y1.n : Nat) : Int) (IntKind.i64.wrap ((((1 : Nat) : Nat) : Int) + 1))))
 (.ret ((TApi_Instr.mk y2.fst 0 0 0 0 0), false))
 (.need (inb (IntKind.i64.wrap ((0 : Int) + 1)) y1.n) <|
 (.call con_listing_regA_2 ((y1.get (Int.toNat (IntKind.i64.wrap ((0 : Int) + 1)))), (TApi_Instr.mk y2.fst 0 0 0 0 0)) fun (y4 : R_listing_regA_2) =>
 (.call con_code_Right y4 fun (y5 : R_code_Right) =>
 (.ite y5
 (.call con_listing_line y4 fun (y6 : R_listing_line) =>
 (.ret (y4, (seq y6 x))))
 (.ret (y4, false)))))))
 (.ite (ieq y3 25)
 (.ite (!(ieq ((y1.n : Nat) : Int) (IntKind.i64.wrap ((((0 : Nat) : Nat) : Int) + 1))))
 (.ret ((TApi_Instr.mk y2.fst 0 0 0 0 0), false))
 (.call con_code_Right (TApi_Instr.mk y2.fst 0 0 0 0 0) fun (y4 : R_code_Right) =>
 (.ite y4
 (.call con_listing_line (TApi_Instr.mk y2.fst 0 0 0 0 0) fun (y5 : R_listing_line) =>
 (.ret ((TApi_Instr.mk y2.fst 0 0 0 0 0), (seq y5 x))))
 (.ret ((TApi_Instr.mk y2.fst 0 0 0 0 0), false)))))
 (.ite (!(ieq ((y1.n : Nat) : Int) (IntKind.i64.wrap ((((3 : Nat) : Nat) : Int) + 1))))
 (.ret ((TApi_Instr.mk y2.fst 0 0 0 0 0), false))
 (.need (inb (IntKind.i64.wrap ((0 : Int) + 1)) y1.n) <|
 (.call con_listing_regA_2 ((y1.get (Int.toNat (IntKind.i64.wrap ((0 : Int) + 1)))), (TApi_Instr.mk y2.fst 0 0 0 0 0)) fun (y4 : R_listing_regA_2) =>
 (.need (inb (IntKind.i64.wrap ((IntKind.i64.wrap ((0 : Int) + 1)) + 1)) y1.n) <|
 (.call con_listing_regB_2 ((y1.get (Int.toNat (IntKind.i64.wrap ((IntKind.i64.wrap ((0 : Int) + 1)) + 1)))), y4) fun (y5 : R_listing_regB_2) =>
 (.need (inb (IntKind.i64.wrap ((IntKind.i64.wrap ((IntKind.i64.wrap ((0 : Int) + 1)) + 1)) + 1)) y1.n) <|
 (.call con_listing_regC_2 ((y1.get (Int.toNat (IntKind.i64.wrap ((IntKind.i64.wrap ((IntKind.i64.wrap ((0 : Int) + 1)) + 1)) + 1)))), y5) fun (y6 : R_listing_regC_2) =>
 (.call con_code_Right y6 fun (y7 : R_code_Right) =>
 (.ite y7
 (.call con_listing_line y6 fun (y8 : R_listing_line) =>
 (.ret (y6, (seq y8 x))))
 (.ret (y6, false))))))))))))))))))))))))
theorem sd_listing_readInstr (x : X_listing_readInstr) : (tt_listing_readInstr x).Sides :=
  (TT.s_call fun _ => (TT.s_need (TT.s_call fun _ => (TT.s_ite TT.s_ret (TT.s_call fun _ => (TT.s_ite (TT.s_ite TT.s_ret (TT.s_need (TT.s_call fun _ => (TT.s_need (TT.s_call fun _ => (TT.s_call fun _ => (TT.s_ite (TT.s_call fun _ => TT.s_ret) TT.s_ret))))))) (TT.s_ite (TT.s_ite TT.s_ret (TT.s_need (TT.s_call fun _ => (TT.s_need (TT.s_call fun _ => (TT.s_call fun _ => (TT.s_ite (TT.s_call fun _ => TT.s_ret) TT.s_ret))))))) (TT.s_ite (TT.s_ite TT.s_ret (TT.s_need (TT.s_call fun _ => (TT.s_call fun _ => (TT.s_ite (TT.s_call fun _ => TT.s_ret) TT.s_ret))))) (TT.s_ite (TT.s_ite TT.s_ret (TT.s_need (TT.s_call fun _ => (TT.s_need (TT.s_call fun _ => (TT.s_need (TT.s_call fun _ => (TT.s_need (TT.s_call fun _ => (TT.s_call fun _ => (TT.s_ite (TT.s_call fun _ => TT.s_ret) TT.s_ret))))))))))) (TT.s_ite (TT.s_ite TT.s_ret (TT.s_need (TT.s_call fun _ => (TT.s_need (TT.s_call fun _ => (TT.s_need (TT.s_call fun _ => (TT.s_need (TT.s_call fun _ => (TT.s_need (TT.s_call fun _ => (TT.s_call fun _ => (TT.s_ite (TT.s_call fun _ => TT.s_ret) TT.s_ret))))))))))))) (TT.s_ite (TT.s_ite TT.s_ret (TT.s_need (TT.s_call fun _ => (TT.s_call fun _ => (TT.s_ite (TT.s_call fun _ => TT.s_ret) TT.s_ret))))) (TT.s_ite (TT.s_ite TT.s_ret (TT.s_need (TT.s_call fun _ => (TT.s_call fun _ => (TT.s_ite (TT.s_call fun _ => TT.s_ret) TT.s_ret))))) (TT.s_ite (TT.s_ite TT.s_ret (TT.s_call fun _ => (TT.s_ite (TT.s_call fun _ => TT.s_ret) TT.s_ret))) (TT.s_ite TT.s_ret (TT.s_need (TT.s_call fun _ => (TT.s_need (TT.s_call fun _ => (TT.s_need (TT.s_call fun _ => (TT.s_call fun _ => (TT.s_ite (TT.s_call fun _ => TT.s_ret) TT.s_ret))))))))))))))))))))))

noncomputable def D_listing_readInstr : Dyn X_listing_readInstr R_listing_readInstr := .of tt_listing_readInstr
noncomputable def con_listing_readInstr : Con Tryz.prog :=
  mkCon 53 J_listing_readInstr S_listing_readInstr D_listing_readInstr D_listing_readInstr (fun _ _ h => h) 1 0 [.any] (by kernel_rfl) (by kernel_rfl) (by kernel_rfl) (lab_ok mixed_ok labs_nil 4000 (fun x => by kernel_rfl) sd_listing_readInstr) rfl rfl (fun _ => rfl) (by kernel_rfl) rfl (fun _ => rfl) (fun x y _ => by kernel_rfl)

abbrev DslA_TApi_Ring : Type := (Sl TApi_Ring)
def eslA_TApi_Ring : DslA_TApi_Ring → V := (eSl (some 51) 3 e_TApi_Ring)
def dslA_TApi_Ring : V → DslA_TApi_Ring := (dSl d_TApi_Ring)
def hslA_TApi_Ring : Sh := (.sl (some 51) 3 (e_TApi_Ring (d_TApi_Ring .undef)))

abbrev DslA_TApi_Instr : Type := (Sl TApi_Instr)
def eslA_TApi_Instr : DslA_TApi_Instr → V := (eSl (some 28) 6 e_TApi_Instr)
def dslA_TApi_Instr : V → DslA_TApi_Instr := (dSl d_TApi_Instr)
def hslA_TApi_Instr : Sh := (.sl (some 28) 6 (e_TApi_Instr (d_TApi_Instr .undef)))

abbrev Dosl_slA_TApi_Instr : Type := (Sl (Sl TApi_Instr))
def eosl_slA_TApi_Instr : Dosl_slA_TApi_Instr → V := (eOsl 47 1 eslA_TApi_Instr)
def dosl_slA_TApi_Instr : V → Dosl_slA_TApi_Instr := (dSl dslA_TApi_Instr)
def hosl_slA_TApi_Instr : Sh := (.osl 47 1 (eslA_TApi_Instr (dslA_TApi_Instr .undef)))

def e_TApi_Program_0_oA1 (x : TApi_Program) : V :=
  V.cons (eslA_TApi_Ring x.Rings) (V.cons (eosl_slA_TApi_Instr x.Threads) (V.unit))

theorem nu_e_TApi_Program_0_oA1 (x : TApi_Program) : (e_TApi_Program_0_oA1 x).NoU := ⟨trivial, (fun _ _ => trivial : ∀ y, (eosl_slA_TApi_Instr y).NoU) x.Threads, trivial⟩

def sh_TApi_Program_0_oA1 : Sh := (.cons hslA_TApi_Ring (.cons hosl_slA_TApi_Instr .any))

/-! listing.take (listing_take) -/
abbrev X_listing_take : Type := ByteArray × TApi_Program
abbrev R_listing_take : Type := Bool × TApi_Program
noncomputable def J_listing_take : Job Tryz.prog :=
  job Tryz.prog Tryz.f37 99 [(15, 1), (37, 1), (53, 1), (54, 1), (58, 1), (94, 1)] [(2, [.close (.loc 13 0)]), (3, [.close (.loc 13 0)]), (4, [.close (.loc 13 0)]), (5, [.close (.loc 13 0)]), (6, [.close (.loc 13 0)]), (7, [.close (.loc 13 0)]), (8, [.close (.loc 13 0)]), (9, [.close (.loc 13 0)]), (10, [.close (.loc 13 0)]), (11, [.close (.loc 73 0), .close (.loc 13 0)]), (12, [.close (.loc 73 0), .close (.loc 13 0)]), (13, [.close (.loc 90 0), .close (.loc 84 0), .close (.loc 73 0), .close (.loc 13 0)])] [(12, [.opn (.par 0) [.fld 1 1] 84, .opn (.par 0) [.fld 1 1] 90])] [.close (.loc 90 0), .close (.loc 84 0), .close (.loc 73 0), .close (.loc 13 0)] [.any] [sh_TApi_Program_0_oA1] [con_listing_readInstr, con_listing_readRing] R_listing_take [(0, [⟨.loc 84 0, .par 0, [.fld 1 1], none, none⟩, ⟨.loc 90 0, .par 0, [.fld 1 1], none, none⟩]), (6, [⟨.loc 84 0, .par 0, [.fld 1 1], none, none⟩, ⟨.loc 90 0, .par 0, [.fld 1 1], none, none⟩]), (9, [⟨.loc 84 0, .par 0, [.fld 1 1], none, none⟩, ⟨.loc 90 0, .par 0, [.fld 1 1], none, none⟩]), (12, [⟨.loc 84 0, .par 0, [.fld 1 1], none, none⟩, ⟨.loc 90 0, .par 0, [.fld 1 1], none, none⟩]), (13, [⟨.loc 84 0, .par 0, [.fld 1 1], none, none⟩, ⟨.loc 90 0, .par 0, [.fld 1 1], none, none⟩])] fun y => [V.bool y.1, e_TApi_Program_0_oA1 y.2]
noncomputable def S_listing_take : LabS :=
  lab0 Tryz.f37 2 1 X_listing_take (fun x => [(V.ptr (.par 0) []), V.str x.1, e_TApi_Program_0_oA1 x.2]) fun l => (dS (at_ l 1), d_TApi_Program (at_ l 2))
structure X_listing_take_6 where
  s_1 : ByteArray
  n_5 : Int
  o_0 : TApi_Program
noncomputable def S_listing_take_6 : LabS :=
  labAt Tryz.f37 6 [(0, .any), (1, .any), (5, .any)] [sh_TApi_Program_0_oA1] [] X_listing_take_6 (fun x => [(V.ptr (.par 0) []), V.str x.s_1, (V.int .i64) x.n_5, e_TApi_Program_0_oA1 x.o_0]) fun l => ⟨dS (at_ l 1), dI (at_ l 2), d_TApi_Program (at_ l 3)⟩
structure X_listing_take_9 where
  s_1 : ByteArray
  n_5 : Int
  o_0 : TApi_Program
noncomputable def S_listing_take_9 : LabS :=
  labAt Tryz.f37 9 [(0, .any), (1, .any), (5, .any)] [sh_TApi_Program_0_oA1] [] X_listing_take_9 (fun x => [(V.ptr (.par 0) []), V.str x.s_1, (V.int .i64) x.n_5, e_TApi_Program_0_oA1 x.o_0]) fun l => ⟨dS (at_ l 1), dI (at_ l 2), d_TApi_Program (at_ l 3)⟩
structure X_listing_take_12 where
  n_5 : Int
  o_0 : TApi_Program
  m_8 : TApi_Instr
noncomputable def S_listing_take_12 : LabS :=
  labAt Tryz.f37 12 [(0, .any), (5, .any), (8, .any)] [sh_TApi_Program_0_oA1] [(.loc 8 0, .any)] X_listing_take_12 (fun x => [(V.ptr (.par 0) []), (V.int .i64) x.n_5, (V.ptr (.loc 8 0) []), e_TApi_Program_0_oA1 x.o_0, e_TApi_Instr x.m_8]) fun l => ⟨dI (at_ l 1), d_TApi_Program (at_ l 3), d_TApi_Instr (at_ l 4)⟩
structure X_listing_take_13 where
  o_0 : TApi_Program
noncomputable def S_listing_take_13 : LabS :=
  labAt Tryz.f37 13 [] [sh_TApi_Program_0_oA1] [] X_listing_take_13 (fun x => [e_TApi_Program_0_oA1 x.o_0]) fun l => ⟨d_TApi_Program (at_ l 0)⟩
noncomputable def tt_listing_take_13 (x : X_listing_take_13) : TT Tryz.prog R_listing_take :=
 (.ret (true, x.o_0))
theorem sd_listing_take_13 (x : X_listing_take_13) : (tt_listing_take_13 x).Sides :=
  TT.s_ret

noncomputable def D_listing_take_13 : Dyn X_listing_take_13 R_listing_take := .of tt_listing_take_13
theorem ok_listing_take_13 : LabOK J_listing_take S_listing_take_13 D_listing_take_13 :=
  lab_ok mixed_ok labs_nil 4000 (fun x => by kernel_rfl) sd_listing_take_13
def e_Prog_tk (tk : Nat → Option TypeId) (x : TApi_Program) : V :=
  V.cons (eslA_TApi_Ring x.Rings) (V.cons (V.osl 47 1 x.Threads.nil x.Threads.n fun j => V.sl (tk j) 6 (x.Threads.get j).nil (x.Threads.get j).n fun i => e_TApi_Instr ((x.Threads.get j).get i)) V.unit)
def tkAt (i : Nat) : Nat → Option TypeId := fun j => V.mixT (Nat.beq j i) (some 28) (V.mixT (Nat.beq j i) none (some 28))
theorem tkAt_eq (i : Nat) : tkAt i = fun _ => some 28 := by
  funext j
  unfold tkAt
  rw [V.mixT_eq, V.mixT_eq]
  cases Nat.beq j i <;> rfl
def tokP_listing_take_13 (x : X_listing_take_13) (i : Nat) : Prop := [e_Prog_tk (tkAt i) x.o_0] = S_listing_take_13.enc x
theorem tokP_listing_take_13_ok (x : X_listing_take_13) (i : Nat) : tokP_listing_take_13 x i := by
  unfold tokP_listing_take_13
  rw [tkAt_eq]
  rfl
noncomputable def tt_listing_take_12 (x : X_listing_take_12) : TT Tryz.prog R_listing_take :=
 (.need (inb (IntKind.i64.wrap (x.n_5 - 1)) x.o_0.Threads.n) <|
 (.need ((Nat.beq x.o_0.Threads.n x.o_0.Threads.n) && true) <|
 (.need (true && (room ((x.o_0.Threads.get ((0 : Nat) + (Int.toNat (IntKind.i64.wrap (x.n_5 - 1))))).n + 1) 48)) <|
 (.need (inb (IntKind.i64.wrap (x.n_5 - 1)) x.o_0.Threads.n) <|
 (.need ((Nat.beq x.o_0.Threads.n x.o_0.Threads.n) && true) <|
 (.need ((true && true) && (Nat.beq x.o_0.Threads.n x.o_0.Threads.n)) <|
 (.jumpP (tokP_listing_take_13 (X_listing_take_13.mk (TApi_Program.mk x.o_0.Rings (Sl.mk x.o_0.Threads.nil x.o_0.Threads.n (fun i1 => (Sl.mk (cond (Nat.beq i1 ((0 : Nat) + (Int.toNat (IntKind.i64.wrap (x.n_5 - 1))))) (cond (Nat.beq 1 0) (x.o_0.Threads.get ((0 : Nat) + (Int.toNat (IntKind.i64.wrap (x.n_5 - 1))))).nil false) (cond (Nat.beq i1 ((0 : Nat) + (Int.toNat (IntKind.i64.wrap (x.n_5 - 1))))) (x.o_0.Threads.get ((0 : Nat) + (Int.toNat (IntKind.i64.wrap (x.n_5 - 1))))).nil (x.o_0.Threads.get i1).nil)) (cond (Nat.beq i1 ((0 : Nat) + (Int.toNat (IntKind.i64.wrap (x.n_5 - 1))))) ((x.o_0.Threads.get ((0 : Nat) + (Int.toNat (IntKind.i64.wrap (x.n_5 - 1))))).n + 1) (cond (Nat.beq i1 ((0 : Nat) + (Int.toNat (IntKind.i64.wrap (x.n_5 - 1))))) (x.o_0.Threads.get ((0 : Nat) + (Int.toNat (IntKind.i64.wrap (x.n_5 - 1))))).n (x.o_0.Threads.get i1).n)) (fun i2 => (TApi_Instr.mk (cond (Nat.beq i1 ((0 : Nat) + (Int.toNat (IntKind.i64.wrap (x.n_5 - 1))))) (cond (Nat.blt i2 (x.o_0.Threads.get ((0 : Nat) + (Int.toNat (IntKind.i64.wrap (x.n_5 - 1))))).n) ((x.o_0.Threads.get ((0 : Nat) + (Int.toNat (IntKind.i64.wrap (x.n_5 - 1))))).get i2).Op x.m_8.Op) (cond (Nat.beq i1 ((0 : Nat) + (Int.toNat (IntKind.i64.wrap (x.n_5 - 1))))) ((x.o_0.Threads.get ((0 : Nat) + (Int.toNat (IntKind.i64.wrap (x.n_5 - 1))))).get i2).Op ((x.o_0.Threads.get i1).get i2).Op)) (cond (Nat.beq i1 ((0 : Nat) + (Int.toNat (IntKind.i64.wrap (x.n_5 - 1))))) (cond (Nat.blt i2 (x.o_0.Threads.get ((0 : Nat) + (Int.toNat (IntKind.i64.wrap (x.n_5 - 1))))).n) ((x.o_0.Threads.get ((0 : Nat) + (Int.toNat (IntKind.i64.wrap (x.n_5 - 1))))).get i2).A x.m_8.A) (cond (Nat.beq i1 ((0 : Nat) + (Int.toNat (IntKind.i64.wrap (x.n_5 - 1))))) ((x.o_0.Threads.get ((0 : Nat) + (Int.toNat (IntKind.i64.wrap (x.n_5 - 1))))).get i2).A ((x.o_0.Threads.get i1).get i2).A)) (cond (Nat.beq i1 ((0 : Nat) + (Int.toNat (IntKind.i64.wrap (x.n_5 - 1))))) (cond (Nat.blt i2 (x.o_0.Threads.get ((0 : Nat) + (Int.toNat (IntKind.i64.wrap (x.n_5 - 1))))).n) ((x.o_0.Threads.get ((0 : Nat) + (Int.toNat (IntKind.i64.wrap (x.n_5 - 1))))).get i2).B x.m_8.B) (cond (Nat.beq i1 ((0 : Nat) + (Int.toNat (IntKind.i64.wrap (x.n_5 - 1))))) ((x.o_0.Threads.get ((0 : Nat) + (Int.toNat (IntKind.i64.wrap (x.n_5 - 1))))).get i2).B ((x.o_0.Threads.get i1).get i2).B)) (cond (Nat.beq i1 ((0 : Nat) + (Int.toNat (IntKind.i64.wrap (x.n_5 - 1))))) (cond (Nat.blt i2 (x.o_0.Threads.get ((0 : Nat) + (Int.toNat (IntKind.i64.wrap (x.n_5 - 1))))).n) ((x.o_0.Threads.get ((0 : Nat) + (Int.toNat (IntKind.i64.wrap (x.n_5 - 1))))).get i2).C x.m_8.C) (cond (Nat.beq i1 ((0 : Nat) + (Int.toNat (IntKind.i64.wrap (x.n_5 - 1))))) ((x.o_0.Threads.get ((0 : Nat) + (Int.toNat (IntKind.i64.wrap (x.n_5 - 1))))).get i2).C ((x.o_0.Threads.get i1).get i2).C)) (cond (Nat.beq i1 ((0 : Nat) + (Int.toNat (IntKind.i64.wrap (x.n_5 - 1))))) (cond (Nat.blt i2 (x.o_0.Threads.get ((0 : Nat) + (Int.toNat (IntKind.i64.wrap (x.n_5 - 1))))).n) ((x.o_0.Threads.get ((0 : Nat) + (Int.toNat (IntKind.i64.wrap (x.n_5 - 1))))).get i2).D x.m_8.D) (cond (Nat.beq i1 ((0 : Nat) + (Int.toNat (IntKind.i64.wrap (x.n_5 - 1))))) ((x.o_0.Threads.get ((0 : Nat) + (Int.toNat (IntKind.i64.wrap (x.n_5 - 1))))).get i2).D ((x.o_0.Threads.get i1).get i2).D)) (cond (Nat.beq i1 ((0 : Nat) + (Int.toNat (IntKind.i64.wrap (x.n_5 - 1))))) (cond (Nat.blt i2 (x.o_0.Threads.get ((0 : Nat) + (Int.toNat (IntKind.i64.wrap (x.n_5 - 1))))).n) ((x.o_0.Threads.get ((0 : Nat) + (Int.toNat (IntKind.i64.wrap (x.n_5 - 1))))).get i2).K x.m_8.K) (cond (Nat.beq i1 ((0 : Nat) + (Int.toNat (IntKind.i64.wrap (x.n_5 - 1))))) ((x.o_0.Threads.get ((0 : Nat) + (Int.toNat (IntKind.i64.wrap (x.n_5 - 1))))).get i2).K ((x.o_0.Threads.get i1).get i2).K))))))))) ((0 : Nat) + (Int.toNat (IntKind.i64.wrap (x.n_5 - 1))))) S_listing_take_13 D_listing_take_13 (X_listing_take_13.mk (TApi_Program.mk x.o_0.Rings (Sl.mk x.o_0.Threads.nil x.o_0.Threads.n (fun i1 => (Sl.mk (cond (Nat.beq i1 ((0 : Nat) + (Int.toNat (IntKind.i64.wrap (x.n_5 - 1))))) (cond (Nat.beq 1 0) (x.o_0.Threads.get ((0 : Nat) + (Int.toNat (IntKind.i64.wrap (x.n_5 - 1))))).nil false) (cond (Nat.beq i1 ((0 : Nat) + (Int.toNat (IntKind.i64.wrap (x.n_5 - 1))))) (x.o_0.Threads.get ((0 : Nat) + (Int.toNat (IntKind.i64.wrap (x.n_5 - 1))))).nil (x.o_0.Threads.get i1).nil)) (cond (Nat.beq i1 ((0 : Nat) + (Int.toNat (IntKind.i64.wrap (x.n_5 - 1))))) ((x.o_0.Threads.get ((0 : Nat) + (Int.toNat (IntKind.i64.wrap (x.n_5 - 1))))).n + 1) (cond (Nat.beq i1 ((0 : Nat) + (Int.toNat (IntKind.i64.wrap (x.n_5 - 1))))) (x.o_0.Threads.get ((0 : Nat) + (Int.toNat (IntKind.i64.wrap (x.n_5 - 1))))).n (x.o_0.Threads.get i1).n)) (fun i2 => (TApi_Instr.mk (cond (Nat.beq i1 ((0 : Nat) + (Int.toNat (IntKind.i64.wrap (x.n_5 - 1))))) (cond (Nat.blt i2 (x.o_0.Threads.get ((0 : Nat) + (Int.toNat (IntKind.i64.wrap (x.n_5 - 1))))).n) ((x.o_0.Threads.get ((0 : Nat) + (Int.toNat (IntKind.i64.wrap (x.n_5 - 1))))).get i2).Op x.m_8.Op) (cond (Nat.beq i1 ((0 : Nat) + (Int.toNat (IntKind.i64.wrap (x.n_5 - 1))))) ((x.o_0.Threads.get ((0 : Nat) + (Int.toNat (IntKind.i64.wrap (x.n_5 - 1))))).get i2).Op ((x.o_0.Threads.get i1).get i2).Op)) (cond (Nat.beq i1 ((0 : Nat) + (Int.toNat (IntKind.i64.wrap (x.n_5 - 1))))) (cond (Nat.blt i2 (x.o_0.Threads.get ((0 : Nat) + (Int.toNat (IntKind.i64.wrap (x.n_5 - 1))))).n) ((x.o_0.Threads.get ((0 : Nat) + (Int.toNat (IntKind.i64.wrap (x.n_5 - 1))))).get i2).A x.m_8.A) (cond (Nat.beq i1 ((0 : Nat) + (Int.toNat (IntKind.i64.wrap (x.n_5 - 1))))) ((x.o_0.Threads.get ((0 : Nat) + (Int.toNat (IntKind.i64.wrap (x.n_5 - 1))))).get i2).A ((x.o_0.Threads.get i1).get i2).A)) (cond (Nat.beq i1 ((0 : Nat) + (Int.toNat (IntKind.i64.wrap (x.n_5 - 1))))) (cond (Nat.blt i2 (x.o_0.Threads.get ((0 : Nat) + (Int.toNat (IntKind.i64.wrap (x.n_5 - 1))))).n) ((x.o_0.Threads.get ((0 : Nat) + (Int.toNat (IntKind.i64.wrap (x.n_5 - 1))))).get i2).B x.m_8.B) (cond (Nat.beq i1 ((0 : Nat) + (Int.toNat (IntKind.i64.wrap (x.n_5 - 1))))) ((x.o_0.Threads.get ((0 : Nat) + (Int.toNat (IntKind.i64.wrap (x.n_5 - 1))))).get i2).B ((x.o_0.Threads.get i1).get i2).B)) (cond (Nat.beq i1 ((0 : Nat) + (Int.toNat (IntKind.i64.wrap (x.n_5 - 1))))) (cond (Nat.blt i2 (x.o_0.Threads.get ((0 : Nat) + (Int.toNat (IntKind.i64.wrap (x.n_5 - 1))))).n) ((x.o_0.Threads.get ((0 : Nat) + (Int.toNat (IntKind.i64.wrap (x.n_5 - 1))))).get i2).C x.m_8.C) (cond (Nat.beq i1 ((0 : Nat) + (Int.toNat (IntKind.i64.wrap (x.n_5 - 1))))) ((x.o_0.Threads.get ((0 : Nat) + (Int.toNat (IntKind.i64.wrap (x.n_5 - 1))))).get i2).C ((x.o_0.Threads.get i1).get i2).C)) (cond (Nat.beq i1 ((0 : Nat) + (Int.toNat (IntKind.i64.wrap (x.n_5 - 1))))) (cond (Nat.blt i2 (x.o_0.Threads.get ((0 : Nat) + (Int.toNat (IntKind.i64.wrap (x.n_5 - 1))))).n) ((x.o_0.Threads.get ((0 : Nat) + (Int.toNat (IntKind.i64.wrap (x.n_5 - 1))))).get i2).D x.m_8.D) (cond (Nat.beq i1 ((0 : Nat) + (Int.toNat (IntKind.i64.wrap (x.n_5 - 1))))) ((x.o_0.Threads.get ((0 : Nat) + (Int.toNat (IntKind.i64.wrap (x.n_5 - 1))))).get i2).D ((x.o_0.Threads.get i1).get i2).D)) (cond (Nat.beq i1 ((0 : Nat) + (Int.toNat (IntKind.i64.wrap (x.n_5 - 1))))) (cond (Nat.blt i2 (x.o_0.Threads.get ((0 : Nat) + (Int.toNat (IntKind.i64.wrap (x.n_5 - 1))))).n) ((x.o_0.Threads.get ((0 : Nat) + (Int.toNat (IntKind.i64.wrap (x.n_5 - 1))))).get i2).K x.m_8.K) (cond (Nat.beq i1 ((0 : Nat) + (Int.toNat (IntKind.i64.wrap (x.n_5 - 1))))) ((x.o_0.Threads.get ((0 : Nat) + (Int.toNat (IntKind.i64.wrap (x.n_5 - 1))))).get i2).K ((x.o_0.Threads.get i1).get i2).K))))))))))))))))
theorem sd_listing_take_12 (x : X_listing_take_12) : (tt_listing_take_12 x).Sides :=
  (TT.s_need (TT.s_need (TT.s_need (TT.s_need (TT.s_need (TT.s_need (TT.s_jumpP (tokP_listing_take_13_ok _ _))))))))

noncomputable def D_listing_take_12 : Dyn X_listing_take_12 R_listing_take := .of tt_listing_take_12
theorem ok_listing_take_12 : LabOK J_listing_take S_listing_take_12 D_listing_take_12 :=
  lab_ok mixed_ok (labs_cons2 ok_listing_take_13 rfl labs_nil) 4000 (fun x => by kernel_rfl) sd_listing_take_12
noncomputable def tt_listing_take_9 (x : X_listing_take_9) : TT Tryz.prog R_listing_take :=
 (.call con_listing_readInstr x.s_1 fun (y1 : R_listing_readInstr) =>
 (.ite (!y1.snd)
 (.ret (false, x.o_0))
 (.ite (ieq x.n_5 0)
 (.ret (false, x.o_0))
 (.need (inb (IntKind.i64.wrap (x.n_5 - 1)) x.o_0.Threads.n) <|
 (.need ((Nat.beq x.o_0.Threads.n x.o_0.Threads.n) && true) <|
 (.ite (ile 256 (((x.o_0.Threads.get ((0 : Nat) + (Int.toNat (IntKind.i64.wrap (x.n_5 - 1))))).n : Nat) : Int))
 (.need ((true && true) && (Nat.beq x.o_0.Threads.n x.o_0.Threads.n)) <|
 (.ret (false, x.o_0)))
 (.need ((true && true) && (Nat.beq x.o_0.Threads.n x.o_0.Threads.n)) <|
 (.jump S_listing_take_12 D_listing_take_12 (X_listing_take_12.mk x.n_5 x.o_0 y1.fst)))))))))
theorem sd_listing_take_9 (x : X_listing_take_9) : (tt_listing_take_9 x).Sides :=
  (TT.s_call fun _ => (TT.s_ite TT.s_ret (TT.s_ite TT.s_ret (TT.s_need (TT.s_need (TT.s_ite (TT.s_need TT.s_ret) (TT.s_need TT.s_jump)))))))

noncomputable def D_listing_take_9 : Dyn X_listing_take_9 R_listing_take := .of tt_listing_take_9
theorem ok_listing_take_9 : LabOK J_listing_take S_listing_take_9 D_listing_take_9 :=
  lab_ok mixed_ok (labs_cons2 ok_listing_take_13 rfl (labs_cons2 ok_listing_take_12 rfl labs_nil)) 4000 (fun x => by kernel_rfl) sd_listing_take_9
noncomputable def tt_listing_take_6 (x : X_listing_take_6) : TT Tryz.prog R_listing_take :=
 (.ite (seq x.s_1 (ByteArray.mk #[116, 104, 114, 101, 97, 100]))
 (.ite (ilt x.n_5 8)
 (.need (true && (room (x.o_0.Threads.n + 1) 24)) <|
 (.ret (true, (TApi_Program.mk x.o_0.Rings (Sl.mk (cond (Nat.beq 1 0) x.o_0.Threads.nil false) (x.o_0.Threads.n + 1) (fun i1 => (Sl.mk (cond (Nat.blt i1 x.o_0.Threads.n) (x.o_0.Threads.get i1).nil true) (cond (Nat.blt i1 x.o_0.Threads.n) (x.o_0.Threads.get i1).n (0 : Nat)) (fun i2 => (TApi_Instr.mk (cond (Nat.blt i1 x.o_0.Threads.n) ((x.o_0.Threads.get i1).get i2).Op (0 : Int)) (cond (Nat.blt i1 x.o_0.Threads.n) ((x.o_0.Threads.get i1).get i2).A (0 : Int)) (cond (Nat.blt i1 x.o_0.Threads.n) ((x.o_0.Threads.get i1).get i2).B (0 : Int)) (cond (Nat.blt i1 x.o_0.Threads.n) ((x.o_0.Threads.get i1).get i2).C (0 : Int)) (cond (Nat.blt i1 x.o_0.Threads.n) ((x.o_0.Threads.get i1).get i2).D (0 : Int)) (cond (Nat.blt i1 x.o_0.Threads.n) ((x.o_0.Threads.get i1).get i2).K (0 : Int)))))))))))
 (.jump S_listing_take_9 D_listing_take_9 (X_listing_take_9.mk x.s_1 x.n_5 x.o_0)))
 (.jump S_listing_take_9 D_listing_take_9 (X_listing_take_9.mk x.s_1 x.n_5 x.o_0)))
theorem sd_listing_take_6 (x : X_listing_take_6) : (tt_listing_take_6 x).Sides :=
  (TT.s_ite (TT.s_ite (TT.s_need TT.s_ret) TT.s_jump) TT.s_jump)

noncomputable def D_listing_take_6 : Dyn X_listing_take_6 R_listing_take := .of tt_listing_take_6
theorem ok_listing_take_6 : LabOK J_listing_take S_listing_take_6 D_listing_take_6 :=
  lab_ok mixed_ok (labs_cons2 ok_listing_take_13 rfl (labs_cons2 ok_listing_take_12 rfl (labs_cons2 ok_listing_take_9 rfl labs_nil))) 4000 (fun x => by kernel_rfl) sd_listing_take_6
noncomputable def tt_listing_take (x : X_listing_take) : TT Tryz.prog R_listing_take :=
 (.need ((true && true) && (Nat.beq x.snd.Threads.n x.snd.Threads.n)) <|
 (.call con_listing_readRing x.fst fun (y1 : R_listing_readRing) =>
 (.ite y1.snd
 (.ite (ieq ((x.snd.Threads.n : Nat) : Int) 0)
 (.ite (ilt ((x.snd.Rings.n : Nat) : Int) 8)
 (.need (true && (room (x.snd.Rings.n + 1) 24)) <|
 (.ret (true, (TApi_Program.mk (Sl.mk (cond (Nat.beq 1 0) x.snd.Rings.nil false) (x.snd.Rings.n + 1) (fun i2 => (TApi_Ring.mk (cond (Nat.blt i2 x.snd.Rings.n) (x.snd.Rings.get i2).Kind y1.fst.Kind) (cond (Nat.blt i2 x.snd.Rings.n) (x.snd.Rings.get i2).Cap y1.fst.Cap) (cond (Nat.blt i2 x.snd.Rings.n) (x.snd.Rings.get i2).Readers y1.fst.Readers)))) x.snd.Threads))))
 (.jump S_listing_take_6 D_listing_take_6 (X_listing_take_6.mk x.fst ((x.snd.Threads.n : Nat) : Int) x.snd)))
 (.jump S_listing_take_6 D_listing_take_6 (X_listing_take_6.mk x.fst ((x.snd.Threads.n : Nat) : Int) x.snd)))
 (.jump S_listing_take_6 D_listing_take_6 (X_listing_take_6.mk x.fst ((x.snd.Threads.n : Nat) : Int) x.snd)))))
theorem sd_listing_take (x : X_listing_take) : (tt_listing_take x).Sides :=
  (TT.s_need (TT.s_call fun _ => (TT.s_ite (TT.s_ite (TT.s_ite (TT.s_need TT.s_ret) TT.s_jump) TT.s_jump) TT.s_jump)))

noncomputable def D_listing_take : Dyn X_listing_take R_listing_take := .of tt_listing_take
noncomputable def con_listing_take : Con Tryz.prog :=
  mkCon 37 J_listing_take S_listing_take D_listing_take D_listing_take (fun _ _ h => h) 2 1 [.any, .any] (by kernel_rfl) (by kernel_rfl) (by kernel_rfl) (lab_ok mixed_ok (labs_cons2 ok_listing_take_13 rfl (labs_cons2 ok_listing_take_12 rfl (labs_cons2 ok_listing_take_9 rfl (labs_cons2 ok_listing_take_6 rfl labs_nil)))) 4000 (fun x => by kernel_rfl) sd_listing_take) rfl rfl (fun _ => rfl) (by kernel_rfl) rfl (fun _ => rfl) (fun x y _ => by kernel_rfl)

/-! strings.Cut -/
abbrev X_strings_Cut : Type := ByteArray × ByteArray
abbrev R_strings_Cut : Type := ByteArray × ByteArray × Bool
noncomputable def con_strings_Cut : Con Tryz.prog :=
  mkCut 36 (by kernel_rfl : Tryz.prog.funcs[36]? = some Tryz.f36) (by kernel_rfl) (by kernel_rfl) (fun l _ => (dS (at_ l 0), dS (at_ l 1))) [.any, .any] g_Cut

/-! listing.Read (listing_Read) -/
abbrev X_listing_Read : Type := ByteArray
abbrev R_listing_Read : Type := TApi_Program × Int × Int
noncomputable def J_listing_Read : Job Tryz.prog :=
  job Tryz.prog Tryz.f18 29 [(12, 1)] [(8, [.frz (.loc 2 0) [.fld 1 1]])] [] [] [sh_TApi_Program, .any, .any] [] [con_listing_take, con_strings_Cut] R_listing_Read [] fun y => [V.tup (V.cons (e_TApi_Program y.1) (V.cons ((V.int .i64) y.2.1) (V.cons ((V.int .i64) y.2.2) (V.unit))))]
noncomputable def S_listing_Read : LabS :=
  lab0 Tryz.f18 1 0 X_listing_Read (fun x => [V.str x]) fun l => (dS (at_ l 0))
structure X_listing_Read_2 where
  s_0 : ByteArray
  at_3 : Int
  m_2 : TApi_Program
noncomputable def S_listing_Read_2 : LabS :=
  labAt Tryz.f18 2 [(0, .any), (2, .any), (3, .any)] [] [(.loc 2 0, sh_TApi_Program_0_oA1)] X_listing_Read_2 (fun x => [V.str x.s_0, (V.ptr (.loc 2 0) []), (V.int .i64) x.at_3, e_TApi_Program_0_oA1 x.m_2]) fun l => ⟨dS (at_ l 0), dI (at_ l 2), d_TApi_Program (at_ l 3)⟩
structure X_listing_Read_3 where
  s_0 : ByteArray
  at_3 : Int
  m_2 : TApi_Program
noncomputable def S_listing_Read_3 : LabS :=
  labAt Tryz.f18 3 [(0, .any), (2, .any), (3, .any)] [] [(.loc 2 0, sh_TApi_Program_0_oA1)] X_listing_Read_3 (fun x => [V.str x.s_0, (V.ptr (.loc 2 0) []), (V.int .i64) x.at_3, e_TApi_Program_0_oA1 x.m_2]) fun l => ⟨dS (at_ l 0), dI (at_ l 2), d_TApi_Program (at_ l 3)⟩
structure X_listing_Read_7 where
  at_3 : Int
  rest_6 : ByteArray
  m_2 : TApi_Program
noncomputable def S_listing_Read_7 : LabS :=
  labAt Tryz.f18 7 [(2, .any), (3, .any), (6, .any)] [] [(.loc 2 0, sh_TApi_Program_0_oA1)] X_listing_Read_7 (fun x => [(V.ptr (.loc 2 0) []), (V.int .i64) x.at_3, V.str x.rest_6, e_TApi_Program_0_oA1 x.m_2]) fun l => ⟨dI (at_ l 1), dS (at_ l 2), d_TApi_Program (at_ l 3)⟩
noncomputable def tt_listing_Read_3 (D_listing_Read_2 : Dyn X_listing_Read_2 R_listing_Read) (x : X_listing_Read_3) : TT Tryz.prog R_listing_Read :=
 (.jump S_listing_Read_2 D_listing_Read_2 (X_listing_Read_2.mk x.s_0 (IntKind.i64.wrap (x.at_3 + 1)) x.m_2))
theorem sd_listing_Read_3 (D_listing_Read_2 : Dyn X_listing_Read_2 R_listing_Read) (x : X_listing_Read_3) : (tt_listing_Read_3 D_listing_Read_2 x).Sides :=
  TT.s_jump

noncomputable def D_listing_Read_3 (D_listing_Read_2 : Dyn X_listing_Read_2 R_listing_Read) : Dyn X_listing_Read_3 R_listing_Read := .of (tt_listing_Read_3 D_listing_Read_2)
theorem ok_listing_Read_3 (D_listing_Read_2 : Dyn X_listing_Read_2 R_listing_Read) (h_2 : LabOK J_listing_Read S_listing_Read_2 D_listing_Read_2) : LabOK J_listing_Read S_listing_Read_3 (D_listing_Read_3 D_listing_Read_2) :=
  lab_ok mixed_ok (labs_cons2 h_2 rfl labs_nil) 4000 (fun x => by kernel_rfl) (sd_listing_Read_3 D_listing_Read_2)
noncomputable def tt_listing_Read_7 (D_listing_Read_2 : Dyn X_listing_Read_2 R_listing_Read) (x : X_listing_Read_7) : TT Tryz.prog R_listing_Read :=
 (.jump S_listing_Read_3 (D_listing_Read_3 D_listing_Read_2) (X_listing_Read_3.mk x.rest_6 x.at_3 x.m_2))
theorem sd_listing_Read_7 (D_listing_Read_2 : Dyn X_listing_Read_2 R_listing_Read) (x : X_listing_Read_7) : (tt_listing_Read_7 D_listing_Read_2 x).Sides :=
  TT.s_jump

noncomputable def D_listing_Read_7 (D_listing_Read_2 : Dyn X_listing_Read_2 R_listing_Read) : Dyn X_listing_Read_7 R_listing_Read := .of (tt_listing_Read_7 D_listing_Read_2)
theorem ok_listing_Read_7 (D_listing_Read_2 : Dyn X_listing_Read_2 R_listing_Read) (h_2 : LabOK J_listing_Read S_listing_Read_2 D_listing_Read_2) : LabOK J_listing_Read S_listing_Read_7 (D_listing_Read_7 D_listing_Read_2) :=
  lab_ok mixed_ok (labs_cons2 h_2 rfl (labs_cons2 (ok_listing_Read_3 D_listing_Read_2 h_2) rfl labs_nil)) 4000 (fun x => by kernel_rfl) (sd_listing_Read_7 D_listing_Read_2)
noncomputable def tt_listing_Read_2 (D_listing_Read_2 : Dyn X_listing_Read_2 R_listing_Read) (x : X_listing_Read_2) : TT Tryz.prog R_listing_Read :=
 (.ite (!(seq x.s_0 (ByteArray.mk #[])))
 (.call con_strings_Cut (x.s_0, (ByteArray.mk #[10])) fun (y2 : R_strings_Cut) =>
 (.ite (!y2.snd.snd)
 (.ret ((TApi_Program.mk (Sl.mk true 0 (fun _i3 => (TApi_Ring.mk 0 0 0))) (Sl.mk true 0 (fun _i3 => (Sl.mk true 0 (fun _i4 => (TApi_Instr.mk 0 0 0 0 0 0)))))), (x.at_3, 3)))
 (.call con_listing_take (y2.fst, x.m_2) fun (y3 : R_listing_take) =>
 (.ite (!y3.fst)
 (.ret ((TApi_Program.mk (Sl.mk true 0 (fun _i4 => (TApi_Ring.mk 0 0 0))) (Sl.mk true 0 (fun _i4 => (Sl.mk true 0 (fun _i5 => (TApi_Instr.mk 0 0 0 0 0 0)))))), (x.at_3, 3)))
 (.jump S_listing_Read_7 (D_listing_Read_7 D_listing_Read_2) (X_listing_Read_7.mk x.at_3 y2.snd.fst y3.snd))))))
 (.side (∀ i2 : Nat, ((i2 < x.m_2.Threads.n) → (true = true))) <|
 (.ret (x.m_2, (0, 0)))))
theorem sd_listing_Read_2 (D_listing_Read_2 : Dyn X_listing_Read_2 R_listing_Read) (x : X_listing_Read_2) : (tt_listing_Read_2 D_listing_Read_2 x).Sides :=
  (TT.s_ite (TT.s_call fun _ => (TT.s_ite TT.s_ret (TT.s_call fun _ => (TT.s_ite TT.s_ret TT.s_jump)))) (TT.s_side (fun _ _ => rfl) TT.s_ret))

noncomputable def D_listing_Read_2 : Dyn X_listing_Read_2 R_listing_Read := Dyn.loop tt_listing_Read_2
theorem ok_listing_Read_2 : LabOK J_listing_Read S_listing_Read_2 D_listing_Read_2 :=
  loop_ok fun D_listing_Read_2 h_2 => lab_ok mixed_ok (labs_cons2 h_2 rfl (labs_cons2 (ok_listing_Read_3 D_listing_Read_2 h_2) rfl (labs_cons2 (ok_listing_Read_7 D_listing_Read_2 h_2) rfl labs_nil))) 4000 (fun x => by kernel_rfl) (sd_listing_Read_2 D_listing_Read_2)
noncomputable def tt_listing_Read (x : X_listing_Read) : TT Tryz.prog R_listing_Read :=
 (.jump S_listing_Read_2 D_listing_Read_2 (X_listing_Read_2.mk x 1 (TApi_Program.mk (Sl.mk true 0 (fun _i1 => (TApi_Ring.mk 0 0 0))) (Sl.mk true 0 (fun _i1 => (Sl.mk true 0 (fun _i2 => (TApi_Instr.mk 0 0 0 0 0 0))))))))
theorem sd_listing_Read (x : X_listing_Read) : (tt_listing_Read x).Sides :=
  TT.s_jump

noncomputable def D_listing_Read : Dyn X_listing_Read R_listing_Read := .of tt_listing_Read
noncomputable def con_listing_Read : Con Tryz.prog :=
  mkCon 18 J_listing_Read S_listing_Read D_listing_Read D_listing_Read (fun _ _ h => h) 1 0 [.any] (by kernel_rfl) (by kernel_rfl) (by kernel_rfl) (lab_ok mixed_ok (labs_cons2 ok_listing_Read_2 rfl labs_nil) 4000 (fun x => by kernel_rfl) sd_listing_Read) rfl rfl (fun _ => rfl) (by kernel_rfl) rfl (fun _ => rfl) (fun x y _ => by kernel_rfl)

/-! listing.Line (listing_Line) -/
abbrev X_listing_Line : Type := TApi_Instr
abbrev R_listing_Line : Type := ByteArray × Int
noncomputable def J_listing_Line : Job Tryz.prog :=
  job Tryz.prog Tryz.f13 9 [(1, 3)] [] [] [] [.any, .any] [] [con_code_Right, con_listing_line] R_listing_Line [] fun y => [V.tup (V.cons (V.str y.1) (V.cons ((V.int .i64) y.2) (V.unit)))]
noncomputable def S_listing_Line : LabS :=
  lab0 Tryz.f13 1 0 X_listing_Line (fun x => [e_TApi_Instr x]) fun l => (d_TApi_Instr (at_ l 0))
noncomputable def tt_listing_Line (x : X_listing_Line) : TT Tryz.prog R_listing_Line :=
 (.call con_code_Right x fun (y1 : R_code_Right) =>
 (.ite (!y1)
 (.ret ((ByteArray.mk #[]), 1))
 (.call con_listing_line x fun (y2 : R_listing_line) =>
 (.ret (y2, 0)))))
theorem sd_listing_Line (x : X_listing_Line) : (tt_listing_Line x).Sides :=
  (TT.s_call fun _ => (TT.s_ite TT.s_ret (TT.s_call fun _ => TT.s_ret)))

noncomputable def D_listing_Line : Dyn X_listing_Line R_listing_Line := .of tt_listing_Line
noncomputable def con_listing_Line : Con Tryz.prog :=
  mkCon 13 J_listing_Line S_listing_Line D_listing_Line D_listing_Line (fun _ _ h => h) 1 0 [.any] (by kernel_rfl) (by kernel_rfl) (by kernel_rfl) (lab_ok mixed_ok labs_nil 4000 (fun x => by kernel_rfl) sd_listing_Line) rfl rfl (fun _ => rfl) (by kernel_rfl) rfl (fun _ => rfl) (fun x y _ => by kernel_rfl)

/-! rondeauref09.Same (r09_Same) -/
abbrev X_r09_Same : Type := TApi_Program × TApi_Program
abbrev R_r09_Same : Type := Bool
noncomputable def J_r09_Same : Job Tryz.prog :=
  job Tryz.prog Tryz.f20 89 [(2, 3), (3, 3)] [] [] [] [.any] [] [] R_r09_Same [] fun y => [V.bool y]
noncomputable def S_r09_Same : LabS :=
  lab0 Tryz.f20 2 0 X_r09_Same (fun x => [e_TApi_Program x.1, e_TApi_Program x.2]) fun l => (d_TApi_Program (at_ l 0), d_TApi_Program (at_ l 1))
structure X_r09_Same_3 where
  a_2 : TApi_Program
  b_3 : TApi_Program
noncomputable def S_r09_Same_3 : LabS :=
  labAt Tryz.f20 3 [(2, .any), (3, .any)] [] [] X_r09_Same_3 (fun x => [(eVp e_TApi_Program) x.a_2, (eVp e_TApi_Program) x.b_3]) fun l => ⟨(dVp d_TApi_Program) (at_ l 0), (dVp d_TApi_Program) (at_ l 1)⟩
structure X_r09_Same_4 where
  a_2 : TApi_Program
  b_3 : TApi_Program
  i_5 : Int
noncomputable def S_r09_Same_4 : LabS :=
  labAt Tryz.f20 4 [(2, .any), (3, .any), (5, .any)] [] [] X_r09_Same_4 (fun x => [(eVp e_TApi_Program) x.a_2, (eVp e_TApi_Program) x.b_3, (V.int .i64) x.i_5]) fun l => ⟨(dVp d_TApi_Program) (at_ l 0), (dVp d_TApi_Program) (at_ l 1), dI (at_ l 2)⟩
structure X_r09_Same_8 where
  a_2 : TApi_Program
  b_3 : TApi_Program
noncomputable def S_r09_Same_8 : LabS :=
  labAt Tryz.f20 8 [(2, .any), (3, .any)] [] [] X_r09_Same_8 (fun x => [(eVp e_TApi_Program) x.a_2, (eVp e_TApi_Program) x.b_3]) fun l => ⟨(dVp d_TApi_Program) (at_ l 0), (dVp d_TApi_Program) (at_ l 1)⟩
structure X_r09_Same_9 where
  a_2 : TApi_Program
  b_3 : TApi_Program
  i_6 : Int
noncomputable def S_r09_Same_9 : LabS :=
  labAt Tryz.f20 9 [(2, .any), (3, .any), (6, .any)] [] [] X_r09_Same_9 (fun x => [(eVp e_TApi_Program) x.a_2, (eVp e_TApi_Program) x.b_3, (V.int .i64) x.i_6]) fun l => ⟨(dVp d_TApi_Program) (at_ l 0), (dVp d_TApi_Program) (at_ l 1), dI (at_ l 2)⟩
structure X_r09_Same_10 where
  a_2 : TApi_Program
  b_3 : TApi_Program
  i_6 : Int
noncomputable def S_r09_Same_10 : LabS :=
  labAt Tryz.f20 10 [(2, .any), (3, .any), (6, .any)] [] [] X_r09_Same_10 (fun x => [(eVp e_TApi_Program) x.a_2, (eVp e_TApi_Program) x.b_3, (V.int .i64) x.i_6]) fun l => ⟨(dVp d_TApi_Program) (at_ l 0), (dVp d_TApi_Program) (at_ l 1), dI (at_ l 2)⟩
structure X_r09_Same_14 where
  a_2 : TApi_Program
  b_3 : TApi_Program
  i_6 : Int
  k_7 : Int
noncomputable def S_r09_Same_14 : LabS :=
  labAt Tryz.f20 14 [(2, .any), (3, .any), (6, .any), (7, .any)] [] [] X_r09_Same_14 (fun x => [(eVp e_TApi_Program) x.a_2, (eVp e_TApi_Program) x.b_3, (V.int .i64) x.i_6, (V.int .i64) x.k_7]) fun l => ⟨(dVp d_TApi_Program) (at_ l 0), (dVp d_TApi_Program) (at_ l 1), dI (at_ l 2), dI (at_ l 3)⟩
noncomputable def tt_r09_Same_10 (D_r09_Same_9 : Dyn X_r09_Same_9 R_r09_Same) (x : X_r09_Same_10) : TT Tryz.prog R_r09_Same :=
 (.jump S_r09_Same_9 D_r09_Same_9 (X_r09_Same_9.mk x.a_2 x.b_3 (IntKind.i64.wrap (x.i_6 + 1))))
theorem sd_r09_Same_10 (D_r09_Same_9 : Dyn X_r09_Same_9 R_r09_Same) (x : X_r09_Same_10) : (tt_r09_Same_10 D_r09_Same_9 x).Sides :=
  TT.s_jump

noncomputable def D_r09_Same_10 (D_r09_Same_9 : Dyn X_r09_Same_9 R_r09_Same) : Dyn X_r09_Same_10 R_r09_Same := .of (tt_r09_Same_10 D_r09_Same_9)
theorem ok_r09_Same_10 (D_r09_Same_9 : Dyn X_r09_Same_9 R_r09_Same) (h_9 : LabOK J_r09_Same S_r09_Same_9 D_r09_Same_9) : LabOK J_r09_Same S_r09_Same_10 (D_r09_Same_10 D_r09_Same_9) :=
  lab_ok mixed_ok (labs_cons2 h_9 rfl labs_nil) 4000 (fun x => by kernel_rfl) (sd_r09_Same_10 D_r09_Same_9)
noncomputable def tt_r09_Same_14 (D_r09_Same_9 : Dyn X_r09_Same_9 R_r09_Same) (D_r09_Same_14 : Dyn X_r09_Same_14 R_r09_Same) (x : X_r09_Same_14) : TT Tryz.prog R_r09_Same :=
 (.need (inb x.i_6 x.a_2.Threads.n) <|
 (.ite (ilt x.k_7 (((x.a_2.Threads.get (Int.toNat x.i_6)).n : Nat) : Int))
 (.need (inb x.i_6 x.a_2.Threads.n) <|
 (.need (inb x.k_7 (x.a_2.Threads.get (Int.toNat x.i_6)).n) <|
 (.need (inb x.i_6 x.b_3.Threads.n) <|
 (.need (inb x.k_7 (x.b_3.Threads.get (Int.toNat x.i_6)).n) <|
 (.ite (!((ieq ((x.a_2.Threads.get (Int.toNat x.i_6)).get (Int.toNat x.k_7)).Op ((x.b_3.Threads.get (Int.toNat x.i_6)).get (Int.toNat x.k_7)).Op) && ((ieq ((x.a_2.Threads.get (Int.toNat x.i_6)).get (Int.toNat x.k_7)).A ((x.b_3.Threads.get (Int.toNat x.i_6)).get (Int.toNat x.k_7)).A) && ((ieq ((x.a_2.Threads.get (Int.toNat x.i_6)).get (Int.toNat x.k_7)).B ((x.b_3.Threads.get (Int.toNat x.i_6)).get (Int.toNat x.k_7)).B) && ((ieq ((x.a_2.Threads.get (Int.toNat x.i_6)).get (Int.toNat x.k_7)).C ((x.b_3.Threads.get (Int.toNat x.i_6)).get (Int.toNat x.k_7)).C) && ((ieq ((x.a_2.Threads.get (Int.toNat x.i_6)).get (Int.toNat x.k_7)).D ((x.b_3.Threads.get (Int.toNat x.i_6)).get (Int.toNat x.k_7)).D) && ((ieq ((x.a_2.Threads.get (Int.toNat x.i_6)).get (Int.toNat x.k_7)).K ((x.b_3.Threads.get (Int.toNat x.i_6)).get (Int.toNat x.k_7)).K) && true)))))))
 (.ret false)
 (.jump S_r09_Same_14 D_r09_Same_14 (X_r09_Same_14.mk x.a_2 x.b_3 x.i_6 (IntKind.i64.wrap (x.k_7 + 1)))))))))
 (.jump S_r09_Same_10 (D_r09_Same_10 D_r09_Same_9) (X_r09_Same_10.mk x.a_2 x.b_3 x.i_6))))
theorem sd_r09_Same_14 (D_r09_Same_9 : Dyn X_r09_Same_9 R_r09_Same) (D_r09_Same_14 : Dyn X_r09_Same_14 R_r09_Same) (x : X_r09_Same_14) : (tt_r09_Same_14 D_r09_Same_9 D_r09_Same_14 x).Sides :=
  (TT.s_need (TT.s_ite (TT.s_need (TT.s_need (TT.s_need (TT.s_need (TT.s_ite TT.s_ret TT.s_jump))))) TT.s_jump))

noncomputable def D_r09_Same_14 (D_r09_Same_9 : Dyn X_r09_Same_9 R_r09_Same) : Dyn X_r09_Same_14 R_r09_Same := Dyn.loop (tt_r09_Same_14 D_r09_Same_9)
theorem ok_r09_Same_14 (D_r09_Same_9 : Dyn X_r09_Same_9 R_r09_Same) (h_9 : LabOK J_r09_Same S_r09_Same_9 D_r09_Same_9) : LabOK J_r09_Same S_r09_Same_14 (D_r09_Same_14 D_r09_Same_9) :=
  loop_ok fun D_r09_Same_14 h_14 => lab_ok mixed_ok (labs_cons2 h_9 rfl (labs_cons2 h_14 rfl (labs_cons2 (ok_r09_Same_10 D_r09_Same_9 h_9) rfl labs_nil))) 4000 (fun x => by kernel_rfl) (sd_r09_Same_14 D_r09_Same_9 D_r09_Same_14)
noncomputable def tt_r09_Same_9 (D_r09_Same_9 : Dyn X_r09_Same_9 R_r09_Same) (x : X_r09_Same_9) : TT Tryz.prog R_r09_Same :=
 (.ite (ilt x.i_6 ((x.a_2.Threads.n : Nat) : Int))
 (.need (inb x.i_6 x.a_2.Threads.n) <|
 (.need (inb x.i_6 x.b_3.Threads.n) <|
 (.ite (!(ieq (((x.a_2.Threads.get (Int.toNat x.i_6)).n : Nat) : Int) (((x.b_3.Threads.get (Int.toNat x.i_6)).n : Nat) : Int)))
 (.ret false)
 (.jump S_r09_Same_14 (D_r09_Same_14 D_r09_Same_9) (X_r09_Same_14.mk x.a_2 x.b_3 x.i_6 0)))))
 (.ret true))
theorem sd_r09_Same_9 (D_r09_Same_9 : Dyn X_r09_Same_9 R_r09_Same) (x : X_r09_Same_9) : (tt_r09_Same_9 D_r09_Same_9 x).Sides :=
  (TT.s_ite (TT.s_need (TT.s_need (TT.s_ite TT.s_ret TT.s_jump))) TT.s_ret)

noncomputable def D_r09_Same_9 : Dyn X_r09_Same_9 R_r09_Same := Dyn.loop tt_r09_Same_9
theorem ok_r09_Same_9 : LabOK J_r09_Same S_r09_Same_9 D_r09_Same_9 :=
  loop_ok fun D_r09_Same_9 h_9 => lab_ok mixed_ok (labs_cons2 h_9 rfl (labs_cons2 (ok_r09_Same_10 D_r09_Same_9 h_9) rfl (labs_cons2 (ok_r09_Same_14 D_r09_Same_9 h_9) rfl labs_nil))) 4000 (fun x => by kernel_rfl) (sd_r09_Same_9 D_r09_Same_9)
noncomputable def tt_r09_Same_8 (x : X_r09_Same_8) : TT Tryz.prog R_r09_Same :=
 (.jump S_r09_Same_9 D_r09_Same_9 (X_r09_Same_9.mk x.a_2 x.b_3 0))
theorem sd_r09_Same_8 (x : X_r09_Same_8) : (tt_r09_Same_8 x).Sides :=
  TT.s_jump

noncomputable def D_r09_Same_8 : Dyn X_r09_Same_8 R_r09_Same := .of tt_r09_Same_8
theorem ok_r09_Same_8 : LabOK J_r09_Same S_r09_Same_8 D_r09_Same_8 :=
  lab_ok mixed_ok (labs_cons2 ok_r09_Same_9 rfl labs_nil) 4000 (fun x => by kernel_rfl) sd_r09_Same_8
noncomputable def tt_r09_Same_4 (D_r09_Same_4 : Dyn X_r09_Same_4 R_r09_Same) (x : X_r09_Same_4) : TT Tryz.prog R_r09_Same :=
 (.ite (ilt x.i_5 ((x.a_2.Rings.n : Nat) : Int))
 (.need (inb x.i_5 x.a_2.Rings.n) <|
 (.need (inb x.i_5 x.b_3.Rings.n) <|
 (.ite (!((ieq (x.a_2.Rings.get (Int.toNat x.i_5)).Kind (x.b_3.Rings.get (Int.toNat x.i_5)).Kind) && ((ieq (x.a_2.Rings.get (Int.toNat x.i_5)).Cap (x.b_3.Rings.get (Int.toNat x.i_5)).Cap) && ((ieq (x.a_2.Rings.get (Int.toNat x.i_5)).Readers (x.b_3.Rings.get (Int.toNat x.i_5)).Readers) && true))))
 (.ret false)
 (.jump S_r09_Same_4 D_r09_Same_4 (X_r09_Same_4.mk x.a_2 x.b_3 (IntKind.i64.wrap (x.i_5 + 1)))))))
 (.jump S_r09_Same_8 D_r09_Same_8 (X_r09_Same_8.mk x.a_2 x.b_3)))
theorem sd_r09_Same_4 (D_r09_Same_4 : Dyn X_r09_Same_4 R_r09_Same) (x : X_r09_Same_4) : (tt_r09_Same_4 D_r09_Same_4 x).Sides :=
  (TT.s_ite (TT.s_need (TT.s_need (TT.s_ite TT.s_ret TT.s_jump))) TT.s_jump)

noncomputable def D_r09_Same_4 : Dyn X_r09_Same_4 R_r09_Same := Dyn.loop tt_r09_Same_4
theorem ok_r09_Same_4 : LabOK J_r09_Same S_r09_Same_4 D_r09_Same_4 :=
  loop_ok fun D_r09_Same_4 h_4 => lab_ok mixed_ok (labs_cons2 h_4 rfl (labs_cons2 ok_r09_Same_9 rfl (labs_cons2 ok_r09_Same_8 rfl labs_nil))) 4000 (fun x => by kernel_rfl) (sd_r09_Same_4 D_r09_Same_4)
noncomputable def tt_r09_Same_3 (x : X_r09_Same_3) : TT Tryz.prog R_r09_Same :=
 (.jump S_r09_Same_4 D_r09_Same_4 (X_r09_Same_4.mk x.a_2 x.b_3 0))
theorem sd_r09_Same_3 (x : X_r09_Same_3) : (tt_r09_Same_3 x).Sides :=
  TT.s_jump

noncomputable def D_r09_Same_3 : Dyn X_r09_Same_3 R_r09_Same := .of tt_r09_Same_3
theorem ok_r09_Same_3 : LabOK J_r09_Same S_r09_Same_3 D_r09_Same_3 :=
  lab_ok mixed_ok (labs_cons2 ok_r09_Same_9 rfl (labs_cons2 ok_r09_Same_8 rfl (labs_cons2 ok_r09_Same_4 rfl labs_nil))) 4000 (fun x => by kernel_rfl) sd_r09_Same_3
noncomputable def tt_r09_Same (x : X_r09_Same) : TT Tryz.prog R_r09_Same :=
 (.ite (!(ieq ((x.fst.Rings.n : Nat) : Int) ((x.snd.Rings.n : Nat) : Int)))
 (.ret false)
 (.ite (!(ieq ((x.fst.Threads.n : Nat) : Int) ((x.snd.Threads.n : Nat) : Int)))
 (.ret false)
 (.jump S_r09_Same_3 D_r09_Same_3 (X_r09_Same_3.mk x.fst x.snd))))
theorem sd_r09_Same (x : X_r09_Same) : (tt_r09_Same x).Sides :=
  (TT.s_ite TT.s_ret (TT.s_ite TT.s_ret TT.s_jump))

noncomputable def D_r09_Same : Dyn X_r09_Same R_r09_Same := .of tt_r09_Same
noncomputable def con_r09_Same : Con Tryz.prog :=
  mkCon 20 J_r09_Same S_r09_Same D_r09_Same D_r09_Same (fun _ _ h => h) 2 0 [sh_TApi_Program, sh_TApi_Program] (by kernel_rfl) (by kernel_rfl) (by kernel_rfl) (lab_ok mixed_ok (labs_cons2 ok_r09_Same_9 rfl (labs_cons2 ok_r09_Same_8 rfl (labs_cons2 ok_r09_Same_4 rfl (labs_cons2 ok_r09_Same_3 rfl labs_nil)))) 4000 (fun x => by kernel_rfl) sd_r09_Same) rfl rfl (fun _ => rfl) (by kernel_rfl) rfl (fun _ => rfl) (fun x y _ => by kernel_rfl)

/-! code.written$1 (code_written_1) -/
abbrev X_code_written_1 : Type := TApi_Instr
abbrev R_code_written_1 : Type := Bool
noncomputable def J_code_written_1 : Job Tryz.prog :=
  job Tryz.prog Tryz.f58 6 [(1, 3)] [] [] [] [.any] [] [con_code_Right] R_code_written_1 [] fun y => [V.bool y]
noncomputable def S_code_written_1 : LabS :=
  lab0 Tryz.f58 1 0 X_code_written_1 (fun x => [e_TApi_Instr x]) fun l => (d_TApi_Instr (at_ l 0))
noncomputable def tt_code_written_1 (x : X_code_written_1) : TT Tryz.prog R_code_written_1 :=
 (.call con_code_Right x fun (y1 : R_code_Right) =>
 (.ret (!y1)))
theorem sd_code_written_1 (x : X_code_written_1) : (tt_code_written_1 x).Sides :=
  (TT.s_call fun _ => TT.s_ret)

noncomputable def D_code_written_1 : Dyn X_code_written_1 R_code_written_1 := .of tt_code_written_1
noncomputable def con_code_written_1 : Con Tryz.prog :=
  mkCon 58 J_code_written_1 S_code_written_1 D_code_written_1 D_code_written_1 (fun _ _ h => h) 1 0 [.any] (by kernel_rfl) (by kernel_rfl) (by kernel_rfl) (lab_ok mixed_ok labs_nil 4000 (fun x => by kernel_rfl) sd_code_written_1) rfl rfl (fun _ => rfl) (by kernel_rfl) rfl (fun _ => rfl) (fun x y _ => by kernel_rfl)

/-! slices.IndexFunc[[]api.Instr,api.Instr] (slices_IndexFunc_api_Instr__code_written_1) -/
abbrev X_slices_IndexFunc_api_Instr__code_written_1 : Type := (Sl TApi_Instr)
abbrev R_slices_IndexFunc_api_Instr__code_written_1 : Type := Int
noncomputable def J_slices_IndexFunc_api_Instr__code_written_1 : Job Tryz.prog :=
  job Tryz.prog Tryz.f75 19 [] [] [] [] [.any] [] [con_code_written_1] R_slices_IndexFunc_api_Instr__code_written_1 [] fun y => [(V.int .i64) y]
noncomputable def S_slices_IndexFunc_api_Instr__code_written_1 : LabS :=
  lab0 Tryz.f75 2 0 X_slices_IndexFunc_api_Instr__code_written_1 (fun x => [esl_TApi_Instr x, (V.fn 58 V.unit)]) fun l => (dsl_TApi_Instr (at_ l 0))
structure X_slices_IndexFunc_api_Instr__code_written_1_2 where
  s_0 : (Sl TApi_Instr)
  q_7 : Int
  q_8 : Int
noncomputable def S_slices_IndexFunc_api_Instr__code_written_1_2 : LabS :=
  labAt Tryz.f75 2 [(0, hsl_TApi_Instr), (1, .any), (7, .any), (8, .any)] [] [] X_slices_IndexFunc_api_Instr__code_written_1_2 (fun x => [esl_TApi_Instr x.s_0, (V.fn 58 V.unit), (V.int .i64) x.q_7, (V.int .i64) x.q_8]) fun l => ⟨dsl_TApi_Instr (at_ l 0), dI (at_ l 2), dI (at_ l 3)⟩
noncomputable def tt_slices_IndexFunc_api_Instr__code_written_1_2 (D_slices_IndexFunc_api_Instr__code_written_1_2 : Dyn X_slices_IndexFunc_api_Instr__code_written_1_2 R_slices_IndexFunc_api_Instr__code_written_1) (x : X_slices_IndexFunc_api_Instr__code_written_1_2) : TT Tryz.prog R_slices_IndexFunc_api_Instr__code_written_1 :=
 (.ite (ilt x.q_8 x.q_7)
 (.need (inb x.q_8 x.s_0.n) <|
 (.call con_code_written_1 (x.s_0.get (Int.toNat x.q_8)) fun (y2 : R_code_written_1) =>
 (.ite y2
 (.ret x.q_8)
 (.jump S_slices_IndexFunc_api_Instr__code_written_1_2 D_slices_IndexFunc_api_Instr__code_written_1_2 (X_slices_IndexFunc_api_Instr__code_written_1_2.mk x.s_0 x.q_7 (IntKind.i64.wrap (x.q_8 + 1)))))))
 (.ret (-(1 : Int))))
theorem sd_slices_IndexFunc_api_Instr__code_written_1_2 (D_slices_IndexFunc_api_Instr__code_written_1_2 : Dyn X_slices_IndexFunc_api_Instr__code_written_1_2 R_slices_IndexFunc_api_Instr__code_written_1) (x : X_slices_IndexFunc_api_Instr__code_written_1_2) : (tt_slices_IndexFunc_api_Instr__code_written_1_2 D_slices_IndexFunc_api_Instr__code_written_1_2 x).Sides :=
  (TT.s_ite (TT.s_need (TT.s_call fun _ => (TT.s_ite TT.s_ret TT.s_jump))) TT.s_ret)

noncomputable def D_slices_IndexFunc_api_Instr__code_written_1_2 : Dyn X_slices_IndexFunc_api_Instr__code_written_1_2 R_slices_IndexFunc_api_Instr__code_written_1 := Dyn.loop tt_slices_IndexFunc_api_Instr__code_written_1_2
theorem ok_slices_IndexFunc_api_Instr__code_written_1_2 : LabOK J_slices_IndexFunc_api_Instr__code_written_1 S_slices_IndexFunc_api_Instr__code_written_1_2 D_slices_IndexFunc_api_Instr__code_written_1_2 :=
  loop_ok fun D_slices_IndexFunc_api_Instr__code_written_1_2 h_2 => lab_ok mixed_ok (labs_cons2 h_2 rfl labs_nil) 4000 (fun x => by kernel_rfl) (sd_slices_IndexFunc_api_Instr__code_written_1_2 D_slices_IndexFunc_api_Instr__code_written_1_2)
noncomputable def tt_slices_IndexFunc_api_Instr__code_written_1 (x : X_slices_IndexFunc_api_Instr__code_written_1) : TT Tryz.prog R_slices_IndexFunc_api_Instr__code_written_1 :=
 (.jump S_slices_IndexFunc_api_Instr__code_written_1_2 D_slices_IndexFunc_api_Instr__code_written_1_2 (X_slices_IndexFunc_api_Instr__code_written_1_2.mk x ((x.n : Nat) : Int) 0))
theorem sd_slices_IndexFunc_api_Instr__code_written_1 (x : X_slices_IndexFunc_api_Instr__code_written_1) : (tt_slices_IndexFunc_api_Instr__code_written_1 x).Sides :=
  TT.s_jump

noncomputable def D_slices_IndexFunc_api_Instr__code_written_1 : Dyn X_slices_IndexFunc_api_Instr__code_written_1 R_slices_IndexFunc_api_Instr__code_written_1 := .of tt_slices_IndexFunc_api_Instr__code_written_1
noncomputable def con_slices_IndexFunc_api_Instr__code_written_1 : Con Tryz.prog :=
  mkCon 75 J_slices_IndexFunc_api_Instr__code_written_1 S_slices_IndexFunc_api_Instr__code_written_1 D_slices_IndexFunc_api_Instr__code_written_1 D_slices_IndexFunc_api_Instr__code_written_1 (fun _ _ h => h) 2 0 [hsl_TApi_Instr, .any] (by kernel_rfl) (by kernel_rfl) (by kernel_rfl) (lab_ok mixed_ok (labs_cons2 ok_slices_IndexFunc_api_Instr__code_written_1_2 rfl labs_nil) 4000 (fun x => by kernel_rfl) sd_slices_IndexFunc_api_Instr__code_written_1) rfl rfl (fun _ => rfl) (by kernel_rfl) rfl (fun _ => rfl) (fun x y _ => by kernel_rfl)

/-! slices.ContainsFunc[[]api.Instr,api.Instr] (slices_ContainsFunc_api_Instr__code_written_1) -/
abbrev X_slices_ContainsFunc_api_Instr__code_written_1 : Type := (Sl TApi_Instr)
abbrev R_slices_ContainsFunc_api_Instr__code_written_1 : Type := Bool
noncomputable def J_slices_ContainsFunc_api_Instr__code_written_1 : Job Tryz.prog :=
  job Tryz.prog Tryz.f57 9 [(5, 1)] [] [] [] [.any] [] [con_slices_IndexFunc_api_Instr__code_written_1] R_slices_ContainsFunc_api_Instr__code_written_1 [] fun y => [V.bool y]
noncomputable def S_slices_ContainsFunc_api_Instr__code_written_1 : LabS :=
  lab0 Tryz.f57 2 0 X_slices_ContainsFunc_api_Instr__code_written_1 (fun x => [esl_TApi_Instr x, (V.fn 58 V.unit)]) fun l => (dsl_TApi_Instr (at_ l 0))
noncomputable def tt_slices_ContainsFunc_api_Instr__code_written_1 (x : X_slices_ContainsFunc_api_Instr__code_written_1) : TT Tryz.prog R_slices_ContainsFunc_api_Instr__code_written_1 :=
 (.call con_slices_IndexFunc_api_Instr__code_written_1 x fun (y1 : R_slices_IndexFunc_api_Instr__code_written_1) =>
 (.ret (ile 0 y1)))
theorem sd_slices_ContainsFunc_api_Instr__code_written_1 (x : X_slices_ContainsFunc_api_Instr__code_written_1) : (tt_slices_ContainsFunc_api_Instr__code_written_1 x).Sides :=
  (TT.s_call fun _ => TT.s_ret)

noncomputable def D_slices_ContainsFunc_api_Instr__code_written_1 : Dyn X_slices_ContainsFunc_api_Instr__code_written_1 R_slices_ContainsFunc_api_Instr__code_written_1 := .of tt_slices_ContainsFunc_api_Instr__code_written_1
noncomputable def con_slices_ContainsFunc_api_Instr__code_written_1 : Con Tryz.prog :=
  mkCon 57 J_slices_ContainsFunc_api_Instr__code_written_1 S_slices_ContainsFunc_api_Instr__code_written_1 D_slices_ContainsFunc_api_Instr__code_written_1 D_slices_ContainsFunc_api_Instr__code_written_1 (fun _ _ h => h) 2 0 [hsl_TApi_Instr, .any] (by kernel_rfl) (by kernel_rfl) (by kernel_rfl) (lab_ok mixed_ok labs_nil 4000 (fun x => by kernel_rfl) sd_slices_ContainsFunc_api_Instr__code_written_1) rfl rfl (fun _ => rfl) (by kernel_rfl) rfl (fun _ => rfl) (fun x y _ => by kernel_rfl)

/-! code.written (code_written) -/
abbrev X_code_written : Type := TApi_Program
abbrev R_code_written : Type := Bool
noncomputable def J_code_written : Job Tryz.prog :=
  job Tryz.prog Tryz.f40 58 [(1, 3), (54, 1)] [] [] [] [.any] [] [con_slices_ContainsFunc_api_Instr__code_written_1] R_code_written [] fun y => [V.bool y]
noncomputable def S_code_written : LabS :=
  lab0 Tryz.f40 1 0 X_code_written (fun x => [e_TApi_Program x]) fun l => (d_TApi_Program (at_ l 0))
structure X_code_written_3 where
  p_1 : TApi_Program
noncomputable def S_code_written_3 : LabS :=
  labAt Tryz.f40 3 [(1, .any)] [] [] X_code_written_3 (fun x => [(eVp e_TApi_Program) x.p_1]) fun l => ⟨(dVp d_TApi_Program) (at_ l 0)⟩
structure X_code_written_4 where
  p_1 : TApi_Program
  q_18 : (Sl TApi_Ring)
  q_19 : Int
  q_20 : Int
noncomputable def S_code_written_4 : LabS :=
  labAt Tryz.f40 4 [(1, .any), (18, hsl_TApi_Ring), (19, .any), (20, .any)] [] [] X_code_written_4 (fun x => [(eVp e_TApi_Program) x.p_1, esl_TApi_Ring x.q_18, (V.int .i64) x.q_19, (V.int .i64) x.q_20]) fun l => ⟨(dVp d_TApi_Program) (at_ l 0), dsl_TApi_Ring (at_ l 1), dI (at_ l 2), dI (at_ l 3)⟩
structure X_code_written_8 where
  p_1 : TApi_Program
  q_18 : (Sl TApi_Ring)
  q_19 : Int
  q_20 : Int
noncomputable def S_code_written_8 : LabS :=
  labAt Tryz.f40 8 [(1, .any), (18, hsl_TApi_Ring), (19, .any), (20, .any)] [] [] X_code_written_8 (fun x => [(eVp e_TApi_Program) x.p_1, esl_TApi_Ring x.q_18, (V.int .i64) x.q_19, (V.int .i64) x.q_20]) fun l => ⟨(dVp d_TApi_Program) (at_ l 0), dsl_TApi_Ring (at_ l 1), dI (at_ l 2), dI (at_ l 3)⟩
structure X_code_written_9 where
  p_1 : TApi_Program
noncomputable def S_code_written_9 : LabS :=
  labAt Tryz.f40 9 [(1, .any)] [] [] X_code_written_9 (fun x => [(eVp e_TApi_Program) x.p_1]) fun l => ⟨(dVp d_TApi_Program) (at_ l 0)⟩
structure X_code_written_10 where
  q_44 : (Sl (Sl TApi_Instr))
  q_45 : Int
  q_46 : Int
noncomputable def S_code_written_10 : LabS :=
  labAt Tryz.f40 10 [(44, hsl_sl_TApi_Instr), (45, .any), (46, .any)] [] [] X_code_written_10 (fun x => [esl_sl_TApi_Instr x.q_44, (V.int .i64) x.q_45, (V.int .i64) x.q_46]) fun l => ⟨dsl_sl_TApi_Instr (at_ l 0), dI (at_ l 1), dI (at_ l 2)⟩
structure X_code_written_14 where
  q_44 : (Sl (Sl TApi_Instr))
  q_45 : Int
  q_46 : Int
noncomputable def S_code_written_14 : LabS :=
  labAt Tryz.f40 14 [(44, hsl_sl_TApi_Instr), (45, .any), (46, .any)] [] [] X_code_written_14 (fun x => [esl_sl_TApi_Instr x.q_44, (V.int .i64) x.q_45, (V.int .i64) x.q_46]) fun l => ⟨dsl_sl_TApi_Instr (at_ l 0), dI (at_ l 1), dI (at_ l 2)⟩
noncomputable def tt_code_written_14 (D_code_written_10 : Dyn X_code_written_10 R_code_written) (x : X_code_written_14) : TT Tryz.prog R_code_written :=
 (.jump S_code_written_10 D_code_written_10 (X_code_written_10.mk x.q_44 x.q_45 (IntKind.i64.wrap (x.q_46 + 1))))
theorem sd_code_written_14 (D_code_written_10 : Dyn X_code_written_10 R_code_written) (x : X_code_written_14) : (tt_code_written_14 D_code_written_10 x).Sides :=
  TT.s_jump

noncomputable def D_code_written_14 (D_code_written_10 : Dyn X_code_written_10 R_code_written) : Dyn X_code_written_14 R_code_written := .of (tt_code_written_14 D_code_written_10)
theorem ok_code_written_14 (D_code_written_10 : Dyn X_code_written_10 R_code_written) (h_10 : LabOK J_code_written S_code_written_10 D_code_written_10) : LabOK J_code_written S_code_written_14 (D_code_written_14 D_code_written_10) :=
  lab_ok mixed_ok (labs_cons2 h_10 rfl labs_nil) 4000 (fun x => by kernel_rfl) (sd_code_written_14 D_code_written_10)
noncomputable def tt_code_written_10 (D_code_written_10 : Dyn X_code_written_10 R_code_written) (x : X_code_written_10) : TT Tryz.prog R_code_written :=
 (.ite (ilt x.q_46 x.q_45)
 (.need (inb x.q_46 x.q_44.n) <|
 (.ite (ilt 256 (((x.q_44.get (Int.toNat x.q_46)).n : Nat) : Int))
 (.ret false)
 (.call con_slices_ContainsFunc_api_Instr__code_written_1 (x.q_44.get (Int.toNat x.q_46)) fun (y2 : R_slices_ContainsFunc_api_Instr__code_written_1) =>
 (.ite y2
 (.ret false)
 (.jump S_code_written_14 (D_code_written_14 D_code_written_10) (X_code_written_14.mk x.q_44 x.q_45 x.q_46))))))
 (.ret true))
theorem sd_code_written_10 (D_code_written_10 : Dyn X_code_written_10 R_code_written) (x : X_code_written_10) : (tt_code_written_10 D_code_written_10 x).Sides :=
  (TT.s_ite (TT.s_need (TT.s_ite TT.s_ret (TT.s_call fun _ => (TT.s_ite TT.s_ret TT.s_jump)))) TT.s_ret)

noncomputable def D_code_written_10 : Dyn X_code_written_10 R_code_written := Dyn.loop tt_code_written_10
theorem ok_code_written_10 : LabOK J_code_written S_code_written_10 D_code_written_10 :=
  loop_ok fun D_code_written_10 h_10 => lab_ok mixed_ok (labs_cons2 h_10 rfl (labs_cons2 (ok_code_written_14 D_code_written_10 h_10) rfl labs_nil)) 4000 (fun x => by kernel_rfl) (sd_code_written_10 D_code_written_10)
noncomputable def tt_code_written_9 (x : X_code_written_9) : TT Tryz.prog R_code_written :=
 (.jump S_code_written_10 D_code_written_10 (X_code_written_10.mk x.p_1.Threads ((x.p_1.Threads.n : Nat) : Int) 0))
theorem sd_code_written_9 (x : X_code_written_9) : (tt_code_written_9 x).Sides :=
  TT.s_jump

noncomputable def D_code_written_9 : Dyn X_code_written_9 R_code_written := .of tt_code_written_9
theorem ok_code_written_9 : LabOK J_code_written S_code_written_9 D_code_written_9 :=
  lab_ok mixed_ok (labs_cons2 ok_code_written_10 rfl labs_nil) 4000 (fun x => by kernel_rfl) sd_code_written_9
noncomputable def tt_code_written_8 (D_code_written_4 : Dyn X_code_written_4 R_code_written) (x : X_code_written_8) : TT Tryz.prog R_code_written :=
 (.jump S_code_written_4 D_code_written_4 (X_code_written_4.mk x.p_1 x.q_18 x.q_19 (IntKind.i64.wrap (x.q_20 + 1))))
theorem sd_code_written_8 (D_code_written_4 : Dyn X_code_written_4 R_code_written) (x : X_code_written_8) : (tt_code_written_8 D_code_written_4 x).Sides :=
  TT.s_jump

noncomputable def D_code_written_8 (D_code_written_4 : Dyn X_code_written_4 R_code_written) : Dyn X_code_written_8 R_code_written := .of (tt_code_written_8 D_code_written_4)
theorem ok_code_written_8 (D_code_written_4 : Dyn X_code_written_4 R_code_written) (h_4 : LabOK J_code_written S_code_written_4 D_code_written_4) : LabOK J_code_written S_code_written_8 (D_code_written_8 D_code_written_4) :=
  lab_ok mixed_ok (labs_cons2 h_4 rfl (labs_cons2 ok_code_written_10 rfl (labs_cons2 ok_code_written_9 rfl labs_nil))) 4000 (fun x => by kernel_rfl) (sd_code_written_8 D_code_written_4)
noncomputable def tt_code_written_4 (D_code_written_4 : Dyn X_code_written_4 R_code_written) (x : X_code_written_4) : TT Tryz.prog R_code_written :=
 (.ite (ilt x.q_20 x.q_19)
 (.need (inb x.q_20 x.q_18.n) <|
 (.ite (ilt (imin (imin (x.q_18.get (Int.toNat x.q_20)).Kind (x.q_18.get (Int.toNat x.q_20)).Cap) (x.q_18.get (Int.toNat x.q_20)).Readers) 0)
 (.ret false)
 (.ite (ilt 255 (imax (imax (x.q_18.get (Int.toNat x.q_20)).Kind (x.q_18.get (Int.toNat x.q_20)).Cap) (x.q_18.get (Int.toNat x.q_20)).Readers))
 (.ret false)
 (.jump S_code_written_8 (D_code_written_8 D_code_written_4) (X_code_written_8.mk x.p_1 x.q_18 x.q_19 x.q_20)))))
 (.jump S_code_written_9 D_code_written_9 (X_code_written_9.mk x.p_1)))
theorem sd_code_written_4 (D_code_written_4 : Dyn X_code_written_4 R_code_written) (x : X_code_written_4) : (tt_code_written_4 D_code_written_4 x).Sides :=
  (TT.s_ite (TT.s_need (TT.s_ite TT.s_ret (TT.s_ite TT.s_ret TT.s_jump))) TT.s_jump)

noncomputable def D_code_written_4 : Dyn X_code_written_4 R_code_written := Dyn.loop tt_code_written_4
theorem ok_code_written_4 : LabOK J_code_written S_code_written_4 D_code_written_4 :=
  loop_ok fun D_code_written_4 h_4 => lab_ok mixed_ok (labs_cons2 h_4 rfl (labs_cons2 ok_code_written_10 rfl (labs_cons2 ok_code_written_9 rfl (labs_cons2 (ok_code_written_8 D_code_written_4 h_4) rfl labs_nil)))) 4000 (fun x => by kernel_rfl) (sd_code_written_4 D_code_written_4)
noncomputable def tt_code_written_3 (x : X_code_written_3) : TT Tryz.prog R_code_written :=
 (.jump S_code_written_4 D_code_written_4 (X_code_written_4.mk x.p_1 x.p_1.Rings ((x.p_1.Rings.n : Nat) : Int) 0))
theorem sd_code_written_3 (x : X_code_written_3) : (tt_code_written_3 x).Sides :=
  TT.s_jump

noncomputable def D_code_written_3 : Dyn X_code_written_3 R_code_written := .of tt_code_written_3
theorem ok_code_written_3 : LabOK J_code_written S_code_written_3 D_code_written_3 :=
  lab_ok mixed_ok (labs_cons2 ok_code_written_10 rfl (labs_cons2 ok_code_written_9 rfl (labs_cons2 ok_code_written_4 rfl labs_nil))) 4000 (fun x => by kernel_rfl) sd_code_written_3
noncomputable def tt_code_written (x : X_code_written) : TT Tryz.prog R_code_written :=
 (.ite (ilt 8 ((x.Rings.n : Nat) : Int))
 (.ret false)
 (.ite (ilt 8 ((x.Threads.n : Nat) : Int))
 (.ret false)
 (.jump S_code_written_3 D_code_written_3 (X_code_written_3.mk x))))
theorem sd_code_written (x : X_code_written) : (tt_code_written x).Sides :=
  (TT.s_ite TT.s_ret (TT.s_ite TT.s_ret TT.s_jump))

noncomputable def D_code_written : Dyn X_code_written R_code_written := .of tt_code_written
noncomputable def con_code_written : Con Tryz.prog :=
  mkCon 40 J_code_written S_code_written D_code_written D_code_written (fun _ _ h => h) 1 0 [sh_TApi_Program] (by kernel_rfl) (by kernel_rfl) (by kernel_rfl) (lab_ok mixed_ok (labs_cons2 ok_code_written_10 rfl (labs_cons2 ok_code_written_9 rfl (labs_cons2 ok_code_written_4 rfl (labs_cons2 ok_code_written_3 rfl labs_nil)))) 4000 (fun x => by kernel_rfl) sd_code_written) rfl rfl (fun _ => rfl) (by kernel_rfl) rfl (fun _ => rfl) (fun x y _ => by kernel_rfl)

abbrev DslA_u8 : Type := (Sl Int)
def eslA_u8 : DslA_u8 → V := (eSl (some 5) 1 (V.int .u8))
def dslA_u8 : V → DslA_u8 := (dSl dI)
def hslA_u8 : Sh := (.sl (some 5) 1 (V.int .u8 0))

structure TOctet_Writer where
  b : (Sl Int)

def d_TOctet_Writer (v : V) : TOctet_Writer :=
  ⟨dslA_u8 (fd v 0)⟩

def e_TOctet_Writer (x : TOctet_Writer) : V :=
  V.cons (eslA_u8 x.b) (V.unit)

theorem nu_e_TOctet_Writer (x : TOctet_Writer) : (e_TOctet_Writer x).NoU := ⟨trivial, trivial⟩

def sh_TOctet_Writer : Sh := (.cons hslA_u8 .any)

abbrev Dsl_u8 : Type := (Sl Int)
def esl_u8 : Dsl_u8 → V := (eSl none 1 (V.int .u8))
def dsl_u8 : V → Dsl_u8 := (dSl dI)
def hsl_u8 : Sh := (.sl none 1 (V.int .u8 0))

/-! (*octet.Writer).Put (octet_Writer_Put) -/
abbrev X_octet_Writer_Put : Type := (Sl Int) × TOctet_Writer
abbrev R_octet_Writer_Put : Type := TOctet_Writer
noncomputable def J_octet_Writer_Put : Job Tryz.prog :=
  job Tryz.prog Tryz.f41 15 [(10, 1), (11, 1)] [] [] [] [] [sh_TOctet_Writer] [] R_octet_Writer_Put [] fun y => [V.tup (V.unit), e_TOctet_Writer y]
noncomputable def S_octet_Writer_Put : LabS :=
  lab0 Tryz.f41 2 1 X_octet_Writer_Put (fun x => [(V.ptr (.par 0) []), esl_u8 x.1, e_TOctet_Writer x.2]) fun l => (dsl_u8 (at_ l 1), d_TOctet_Writer (at_ l 2))
noncomputable def tt_octet_Writer_Put (x : X_octet_Writer_Put) : TT Tryz.prog R_octet_Writer_Put :=
 (.need (true && (room (x.snd.b.n + x.fst.n) 1)) <|
 (.ret (TOctet_Writer.mk (Sl.mk (cond (Nat.beq x.fst.n 0) x.snd.b.nil false) (x.snd.b.n + x.fst.n) (fun i1 => (cond (Nat.blt i1 x.snd.b.n) (x.snd.b.get i1) (x.fst.get (i1 - x.snd.b.n))))))))
theorem sd_octet_Writer_Put (x : X_octet_Writer_Put) : (tt_octet_Writer_Put x).Sides :=
  (TT.s_need TT.s_ret)

noncomputable def D_octet_Writer_Put : Dyn X_octet_Writer_Put R_octet_Writer_Put := .of tt_octet_Writer_Put
noncomputable def con_octet_Writer_Put : Con Tryz.prog :=
  mkCon 41 J_octet_Writer_Put S_octet_Writer_Put D_octet_Writer_Put D_octet_Writer_Put (fun _ _ h => h) 2 1 [.any, hsl_u8] (by kernel_rfl) (by kernel_rfl) (by kernel_rfl) (lab_ok mixed_ok labs_nil 4000 (fun x => by kernel_rfl) sd_octet_Writer_Put) rfl rfl (fun _ => rfl) (by kernel_rfl) rfl (fun _ => rfl) (fun x y _ => by kernel_rfl)

/-! varint.Print (varint_Print) -/
abbrev X_varint_Print : Type := Int
abbrev R_varint_Print : Type := ByteArray
noncomputable def J_varint_Print : Job Tryz.prog :=
  job Tryz.prog Tryz.f43 21 [(4, 2), (9, 1), (15, 1)] [] [] [] [.any] [] [] R_varint_Print [] fun y => [V.str y]
noncomputable def S_varint_Print : LabS :=
  lab0 Tryz.f43 1 0 X_varint_Print (fun x => [(V.int .u64) x]) fun l => (dI (at_ l 0))
structure X_varint_Print_2 where
  n_0 : Int
  b_3 : (Sl Int)
noncomputable def S_varint_Print_2 : LabS :=
  labAt Tryz.f43 2 [(0, .any), (3, hslA_u8)] [] [] X_varint_Print_2 (fun x => [(V.int .u64) x.n_0, eslA_u8 x.b_3]) fun l => ⟨dI (at_ l 0), dslA_u8 (at_ l 1)⟩
structure X_varint_Print_5 where
  n_0 : Int
  b_3 : (Sl Int)
noncomputable def S_varint_Print_5 : LabS :=
  labAt Tryz.f43 5 [(0, .any), (3, hslA_u8)] [] [] X_varint_Print_5 (fun x => [(V.int .u64) x.n_0, eslA_u8 x.b_3]) fun l => ⟨dI (at_ l 0), dslA_u8 (at_ l 1)⟩
noncomputable def tt_varint_Print_5 (x : X_varint_Print_5) : TT Tryz.prog R_varint_Print :=
 (.need (true && (room (x.b_3.n + 1) 1)) <|
 (.side (∀ i1 : Nat, ((i1 < (x.b_3.n + 1)) → (∃ m2 : Int, ((cond (decide ((IntKind.u8 = IntKind.u8))) (V.int IntKind.u8 (cond (Nat.blt i1 x.b_3.n) (x.b_3.get i1) (IntKind.u8.wrap x.n_0))) (cond (Nat.blt i1 x.b_3.n) (V.int IntKind.u8 (x.b_3.get i1)) (cond false (cond (Nat.beq 17 17) (V.int IntKind.u8 (IntKind.u8.wrap x.n_0)) (cond (Nat.beq 17 16) (cond false (cond (Nat.beq 0 15) (cond (Nat.beq 3 0) (V.int IntKind.u64 x.n_0) (cond (Nat.beq 3 3) (V.sl (Option.some 5) 1 x.b_3.nil x.b_3.n (fun i3 => (V.int IntKind.u8 (x.b_3.get i3)))) V.undef)) (cond (Nat.beq 0 3) (V.sl Option.none 1 x.b_3.nil x.b_3.n (fun i3 => (V.int IntKind.u8 (x.b_3.get i3)))) (cond (Nat.beq 0 0) (V.int IntKind.u64 x.n_0) (cond (Nat.beq 0 3) (V.sl (Option.some 5) 1 x.b_3.nil x.b_3.n (fun i3 => (V.int IntKind.u8 (x.b_3.get i3)))) V.undef)))) (cond (Nat.beq 0 15) (cond (Nat.beq 3 0) (V.int IntKind.u64 x.n_0) (cond (Nat.beq 3 3) (V.sl (Option.some 5) 1 x.b_3.nil x.b_3.n (fun i3 => (V.int IntKind.u8 (x.b_3.get i3)))) V.undef)) (cond (Nat.beq 0 3) (V.sl Option.none 1 x.b_3.nil x.b_3.n (fun i3 => (V.int IntKind.u8 (x.b_3.get i3)))) (cond (Nat.beq 0 0) (V.int IntKind.u64 x.n_0) (cond (Nat.beq 0 3) (V.sl (Option.some 5) 1 x.b_3.nil x.b_3.n (fun i3 => (V.int IntKind.u8 (x.b_3.get i3)))) V.undef))))) (cond (Nat.beq 17 15) (cond (Nat.beq 3 0) (V.int IntKind.u64 x.n_0) (cond (Nat.beq 3 3) (V.sl (Option.some 5) 1 x.b_3.nil x.b_3.n (fun i3 => (V.int IntKind.u8 (x.b_3.get i3)))) V.undef)) (cond (Nat.beq 17 3) (V.sl Option.none 1 x.b_3.nil x.b_3.n (fun i3 => (V.int IntKind.u8 (x.b_3.get i3)))) (cond (Nat.beq 17 0) (V.int IntKind.u64 x.n_0) (cond (Nat.beq 17 3) (V.sl (Option.some 5) 1 x.b_3.nil x.b_3.n (fun i3 => (V.int IntKind.u8 (x.b_3.get i3)))) V.undef)))))) (cond (Nat.beq 17 17) (V.int IntKind.u8 (IntKind.u8.wrap x.n_0)) (cond (Nat.beq 17 16) (cond false (cond (Nat.beq 0 15) (cond (Nat.beq 3 0) (V.int IntKind.u64 x.n_0) (cond (Nat.beq 3 3) (V.sl (Option.some 5) 1 x.b_3.nil x.b_3.n (fun i3 => (V.int IntKind.u8 (x.b_3.get i3)))) V.undef)) (cond (Nat.beq 0 3) (V.sl Option.none 1 x.b_3.nil x.b_3.n (fun i3 => (V.int IntKind.u8 (x.b_3.get i3)))) (cond (Nat.beq 0 0) (V.int IntKind.u64 x.n_0) (cond (Nat.beq 0 3) (V.sl (Option.some 5) 1 x.b_3.nil x.b_3.n (fun i3 => (V.int IntKind.u8 (x.b_3.get i3)))) V.undef)))) (cond (Nat.beq 0 15) (cond (Nat.beq 3 0) (V.int IntKind.u64 x.n_0) (cond (Nat.beq 3 3) (V.sl (Option.some 5) 1 x.b_3.nil x.b_3.n (fun i3 => (V.int IntKind.u8 (x.b_3.get i3)))) V.undef)) (cond (Nat.beq 0 3) (V.sl Option.none 1 x.b_3.nil x.b_3.n (fun i3 => (V.int IntKind.u8 (x.b_3.get i3)))) (cond (Nat.beq 0 0) (V.int IntKind.u64 x.n_0) (cond (Nat.beq 0 3) (V.sl (Option.some 5) 1 x.b_3.nil x.b_3.n (fun i3 => (V.int IntKind.u8 (x.b_3.get i3)))) V.undef))))) (cond (Nat.beq 17 15) (cond (Nat.beq 3 0) (V.int IntKind.u64 x.n_0) (cond (Nat.beq 3 3) (V.sl (Option.some 5) 1 x.b_3.nil x.b_3.n (fun i3 => (V.int IntKind.u8 (x.b_3.get i3)))) V.undef)) (cond (Nat.beq 17 3) (V.sl Option.none 1 x.b_3.nil x.b_3.n (fun i3 => (V.int IntKind.u8 (x.b_3.get i3)))) (cond (Nat.beq 17 0) (V.int IntKind.u64 x.n_0) (cond (Nat.beq 17 3) (V.sl (Option.some 5) 1 x.b_3.nil x.b_3.n (fun i3 => (V.int IntKind.u8 (x.b_3.get i3)))) V.undef))))))))) = (V.int IntKind.u8 m2))))) <|
 (.ret (bytesOf (x.b_3.n + 1) (fun i1 => (cond (Nat.blt i1 x.b_3.n) (x.b_3.get i1) (IntKind.u8.wrap x.n_0)))))))
theorem sd_varint_Print_5 (x : X_varint_Print_5) : (tt_varint_Print_5 x).Sides :=
  (TT.s_need (TT.s_side (fun _ _ => ⟨_, rfl⟩) TT.s_ret))

noncomputable def D_varint_Print_5 : Dyn X_varint_Print_5 R_varint_Print := .of tt_varint_Print_5
theorem ok_varint_Print_5 : LabOK J_varint_Print S_varint_Print_5 D_varint_Print_5 :=
  lab_ok mixed_ok labs_nil 4000 (fun x => by kernel_rfl) sd_varint_Print_5
noncomputable def tt_varint_Print_2 (D_varint_Print_2 : Dyn X_varint_Print_2 R_varint_Print) (x : X_varint_Print_2) : TT Tryz.prog R_varint_Print :=
 (.ite (ile 128 x.n_0)
 (.need (true && (room (x.b_3.n + 1) 1)) <|
 (.jump S_varint_Print_2 D_varint_Print_2 (X_varint_Print_2.mk (shr IntKind.u64 x.n_0 7) (Sl.mk (cond (Nat.beq 1 0) x.b_3.nil false) (x.b_3.n + 1) (fun i2 => (cond (Nat.blt i2 x.b_3.n) (x.b_3.get i2) (Vm.bits .or IntKind.u8 (IntKind.u8.wrap x.n_0) 128)))))))
 (.jump S_varint_Print_5 D_varint_Print_5 (X_varint_Print_5.mk x.n_0 x.b_3)))
theorem sd_varint_Print_2 (D_varint_Print_2 : Dyn X_varint_Print_2 R_varint_Print) (x : X_varint_Print_2) : (tt_varint_Print_2 D_varint_Print_2 x).Sides :=
  (TT.s_ite (TT.s_need TT.s_jump) TT.s_jump)

noncomputable def D_varint_Print_2 : Dyn X_varint_Print_2 R_varint_Print := Dyn.loop tt_varint_Print_2
theorem ok_varint_Print_2 : LabOK J_varint_Print S_varint_Print_2 D_varint_Print_2 :=
  loop_ok fun D_varint_Print_2 h_2 => lab_ok mixed_ok (labs_cons2 h_2 rfl (labs_cons2 ok_varint_Print_5 rfl labs_nil)) 4000 (fun x => by kernel_rfl) (sd_varint_Print_2 D_varint_Print_2)
noncomputable def tt_varint_Print (x : X_varint_Print) : TT Tryz.prog R_varint_Print :=
 (.jump S_varint_Print_2 D_varint_Print_2 (X_varint_Print_2.mk x (Sl.mk false 0 (fun _i1 => (0 : Int)))))
theorem sd_varint_Print (x : X_varint_Print) : (tt_varint_Print x).Sides :=
  TT.s_jump

noncomputable def D_varint_Print : Dyn X_varint_Print R_varint_Print := .of tt_varint_Print
noncomputable def con_varint_Print : Con Tryz.prog :=
  mkCon 43 J_varint_Print S_varint_Print D_varint_Print D_varint_Print (fun _ _ h => h) 1 0 [.any] (by kernel_rfl) (by kernel_rfl) (by kernel_rfl) (lab_ok mixed_ok (labs_cons2 ok_varint_Print_5 rfl (labs_cons2 ok_varint_Print_2 rfl labs_nil)) 4000 (fun x => by kernel_rfl) sd_varint_Print) rfl rfl (fun _ => rfl) (by kernel_rfl) rfl (fun _ => rfl) (fun x y _ => by kernel_rfl)

/-! (*octet.Writer).Text (octet_Writer_Text) -/
abbrev X_octet_Writer_Text : Type := ByteArray × TOctet_Writer
abbrev R_octet_Writer_Text : Type := TOctet_Writer
noncomputable def J_octet_Writer_Text : Job Tryz.prog :=
  job Tryz.prog Tryz.f42 15 [(10, 1)] [] [] [] [] [sh_TOctet_Writer] [] R_octet_Writer_Text [] fun y => [V.tup (V.unit), e_TOctet_Writer y]
noncomputable def S_octet_Writer_Text : LabS :=
  lab0 Tryz.f42 2 1 X_octet_Writer_Text (fun x => [(V.ptr (.par 0) []), V.str x.1, e_TOctet_Writer x.2]) fun l => (dS (at_ l 1), d_TOctet_Writer (at_ l 2))
noncomputable def tt_octet_Writer_Text (x : X_octet_Writer_Text) : TT Tryz.prog R_octet_Writer_Text :=
 (.need (true && (room (x.snd.b.n + (ByteArray.size x.fst)) 1)) <|
 (.ret (TOctet_Writer.mk (Sl.mk (cond (Nat.beq (ByteArray.size x.fst) 0) x.snd.b.nil false) (x.snd.b.n + (ByteArray.size x.fst)) (fun i1 => (cond (Nat.blt i1 x.snd.b.n) (x.snd.b.get i1) (bt x.fst (i1 - x.snd.b.n))))))))
theorem sd_octet_Writer_Text (x : X_octet_Writer_Text) : (tt_octet_Writer_Text x).Sides :=
  (TT.s_need TT.s_ret)

noncomputable def D_octet_Writer_Text : Dyn X_octet_Writer_Text R_octet_Writer_Text := .of tt_octet_Writer_Text
noncomputable def con_octet_Writer_Text : Con Tryz.prog :=
  mkCon 42 J_octet_Writer_Text S_octet_Writer_Text D_octet_Writer_Text D_octet_Writer_Text (fun _ _ h => h) 2 1 [.any, .any] (by kernel_rfl) (by kernel_rfl) (by kernel_rfl) (lab_ok mixed_ok labs_nil 4000 (fun x => by kernel_rfl) sd_octet_Writer_Text) rfl rfl (fun _ => rfl) (by kernel_rfl) rfl (fun _ => rfl) (fun x y _ => by kernel_rfl)

/-! (*octet.Writer).String (octet_Writer_String) -/
abbrev X_octet_Writer_String : Type := TOctet_Writer
abbrev R_octet_Writer_String : Type := ByteArray
abbrev RR_octet_Writer_String : Type := ByteArray × TOctet_Writer
abbrev p_octet_Writer_String (y : RR_octet_Writer_String) : TOctet_Writer := y.2
abbrev w_octet_Writer_String (x : X_octet_Writer_String) : TOctet_Writer := x
noncomputable def J_octet_Writer_String : Job Tryz.prog :=
  job Tryz.prog Tryz.f44 10 [] [] [] [] [.any] [sh_TOctet_Writer] [] RR_octet_Writer_String [] fun y => [V.str y.1, e_TOctet_Writer y.2]
noncomputable def S_octet_Writer_String : LabS :=
  lab0 Tryz.f44 1 1 X_octet_Writer_String (fun x => [(V.ptr (.par 0) []), e_TOctet_Writer x]) fun l => (d_TOctet_Writer (at_ l 1))
noncomputable def tt_octet_Writer_String (x : X_octet_Writer_String) : TT Tryz.prog RR_octet_Writer_String :=
 (.side (∀ i1 : Nat, ((i1 < x.b.n) → (∃ m2 : Int, ((V.int IntKind.u8 (x.b.get i1)) = (V.int IntKind.u8 m2))))) <|
 (.ret ((bytesOf x.b.n x.b.get), x)))
theorem sd_octet_Writer_String (x : X_octet_Writer_String) : (tt_octet_Writer_String x).Sides :=
  (TT.s_side (fun _ _ => ⟨_, rfl⟩) TT.s_ret)
theorem roT_octet_Writer_String (x : X_octet_Writer_String) : TT.Ro p_octet_Writer_String (w_octet_Writer_String x) (tt_octet_Writer_String x) :=
  (TT.ro_side (TT.ro_ret rfl))

noncomputable def D_octet_Writer_String : Dyn X_octet_Writer_String R_octet_Writer_String := .ro (.of tt_octet_Writer_String) (fun y => (y.1)) (fun y x => (y, x)) fun x y h => congrArg (fun o => (y.1, o)) (roT_octet_Writer_String x y h)
noncomputable def con_octet_Writer_String : Con Tryz.prog :=
  mkConP 44 J_octet_Writer_String S_octet_Writer_String (.of tt_octet_Writer_String) D_octet_Writer_String (fun y x => (y, x)) (fun _ _ h => h) (fun y => V.str y) 1 1 [.any] (by kernel_rfl) (by kernel_rfl) (by kernel_rfl) (lab_ok mixed_ok labs_nil 4000 (fun x => by kernel_rfl) sd_octet_Writer_String) rfl rfl (fun _ => rfl) (by kernel_rfl) rfl (fun _ _ => rfl) (fun _ => rfl) (fun x => ⟨(nu_e_TOctet_Writer : ∀ y, (e_TOctet_Writer y).NoU) (x), trivial⟩)

/-! code.Print (code_Print) -/
abbrev X_code_Print : Type := TApi_Program
abbrev R_code_Print : Type := ByteArray × Int
noncomputable def J_code_Print : Job Tryz.prog :=
  job Tryz.prog Tryz.f22 87 [(1, 3), (57, 1)] [] [] [] [.any, .any] [] [con_code_written, con_octet_Writer_Put, con_octet_Writer_String, con_octet_Writer_Text, con_varint_Print] R_code_Print [] fun y => [V.tup (V.cons (V.str y.1) (V.cons ((V.int .i64) y.2) (V.unit)))]
noncomputable def S_code_Print : LabS :=
  lab0 Tryz.f22 1 0 X_code_Print (fun x => [e_TApi_Program x]) fun l => (d_TApi_Program (at_ l 0))
structure X_code_Print_6 where
  p_1 : TApi_Program
  q_21 : (Sl TApi_Ring)
  q_22 : Int
  q_23 : Int
  m_4 : TOctet_Writer
noncomputable def S_code_Print_6 : LabS :=
  labAt Tryz.f22 6 [(1, .any), (4, .any), (21, hsl_TApi_Ring), (22, .any), (23, .any)] [] [(.loc 4 0, sh_TOctet_Writer)] X_code_Print_6 (fun x => [(eVp e_TApi_Program) x.p_1, (V.ptr (.loc 4 0) []), esl_TApi_Ring x.q_21, (V.int .i64) x.q_22, (V.int .i64) x.q_23, e_TOctet_Writer x.m_4]) fun l => ⟨(dVp d_TApi_Program) (at_ l 0), dsl_TApi_Ring (at_ l 2), dI (at_ l 3), dI (at_ l 4), d_TOctet_Writer (at_ l 5)⟩
structure X_code_Print_10 where
  p_1 : TApi_Program
  m_4 : TOctet_Writer
noncomputable def S_code_Print_10 : LabS :=
  labAt Tryz.f22 10 [(1, .any), (4, .any)] [] [(.loc 4 0, sh_TOctet_Writer)] X_code_Print_10 (fun x => [(eVp e_TApi_Program) x.p_1, (V.ptr (.loc 4 0) []), e_TOctet_Writer x.m_4]) fun l => ⟨(dVp d_TApi_Program) (at_ l 0), d_TOctet_Writer (at_ l 2)⟩
structure X_code_Print_12 where
  q_46 : (Sl (Sl TApi_Instr))
  q_47 : Int
  q_48 : Int
  m_4 : TOctet_Writer
noncomputable def S_code_Print_12 : LabS :=
  labAt Tryz.f22 12 [(4, .any), (46, hsl_sl_TApi_Instr), (47, .any), (48, .any)] [] [(.loc 4 0, sh_TOctet_Writer)] X_code_Print_12 (fun x => [(V.ptr (.loc 4 0) []), esl_sl_TApi_Instr x.q_46, (V.int .i64) x.q_47, (V.int .i64) x.q_48, e_TOctet_Writer x.m_4]) fun l => ⟨dsl_sl_TApi_Instr (at_ l 1), dI (at_ l 2), dI (at_ l 3), d_TOctet_Writer (at_ l 4)⟩
structure X_code_Print_16 where
  q_46 : (Sl (Sl TApi_Instr))
  q_47 : Int
  q_48 : Int
  q_57 : (Sl TApi_Instr)
  q_58 : Int
  q_59 : Int
  m_4 : TOctet_Writer
noncomputable def S_code_Print_16 : LabS :=
  labAt Tryz.f22 16 [(4, .any), (46, hsl_sl_TApi_Instr), (47, .any), (48, .any), (57, hsl_TApi_Instr), (58, .any), (59, .any)] [] [(.loc 4 0, sh_TOctet_Writer)] X_code_Print_16 (fun x => [(V.ptr (.loc 4 0) []), esl_sl_TApi_Instr x.q_46, (V.int .i64) x.q_47, (V.int .i64) x.q_48, esl_TApi_Instr x.q_57, (V.int .i64) x.q_58, (V.int .i64) x.q_59, e_TOctet_Writer x.m_4]) fun l => ⟨dsl_sl_TApi_Instr (at_ l 1), dI (at_ l 2), dI (at_ l 3), dsl_TApi_Instr (at_ l 4), dI (at_ l 5), dI (at_ l 6), d_TOctet_Writer (at_ l 7)⟩
structure X_code_Print_21 where
  q_46 : (Sl (Sl TApi_Instr))
  q_47 : Int
  q_48 : Int
  m_4 : TOctet_Writer
noncomputable def S_code_Print_21 : LabS :=
  labAt Tryz.f22 21 [(4, .any), (46, hsl_sl_TApi_Instr), (47, .any), (48, .any)] [] [(.loc 4 0, sh_TOctet_Writer)] X_code_Print_21 (fun x => [(V.ptr (.loc 4 0) []), esl_sl_TApi_Instr x.q_46, (V.int .i64) x.q_47, (V.int .i64) x.q_48, e_TOctet_Writer x.m_4]) fun l => ⟨dsl_sl_TApi_Instr (at_ l 1), dI (at_ l 2), dI (at_ l 3), d_TOctet_Writer (at_ l 4)⟩
noncomputable def tt_code_Print_21 (D_code_Print_12 : Dyn X_code_Print_12 R_code_Print) (x : X_code_Print_21) : TT Tryz.prog R_code_Print :=
 (.jump S_code_Print_12 D_code_Print_12 (X_code_Print_12.mk x.q_46 x.q_47 (IntKind.i64.wrap (x.q_48 + 1)) x.m_4))
theorem sd_code_Print_21 (D_code_Print_12 : Dyn X_code_Print_12 R_code_Print) (x : X_code_Print_21) : (tt_code_Print_21 D_code_Print_12 x).Sides :=
  TT.s_jump

noncomputable def D_code_Print_21 (D_code_Print_12 : Dyn X_code_Print_12 R_code_Print) : Dyn X_code_Print_21 R_code_Print := .of (tt_code_Print_21 D_code_Print_12)
theorem ok_code_Print_21 (D_code_Print_12 : Dyn X_code_Print_12 R_code_Print) (h_12 : LabOK J_code_Print S_code_Print_12 D_code_Print_12) : LabOK J_code_Print S_code_Print_21 (D_code_Print_21 D_code_Print_12) :=
  lab_ok mixed_ok (labs_cons2 h_12 rfl labs_nil) 4000 (fun x => by kernel_rfl) (sd_code_Print_21 D_code_Print_12)
noncomputable def tt_code_Print_16 (D_code_Print_12 : Dyn X_code_Print_12 R_code_Print) (D_code_Print_16 : Dyn X_code_Print_16 R_code_Print) (x : X_code_Print_16) : TT Tryz.prog R_code_Print :=
 (.ite (ilt x.q_59 x.q_58)
 (.need (inb x.q_59 x.q_57.n) <|
 (.call con_octet_Writer_Put ((Sl.mk false 5 (fun i3 => (cond (Nat.beq i3 0) (IntKind.u8.wrap (x.q_57.get (Int.toNat x.q_59)).Op) (cond (Nat.beq i3 1) (IntKind.u8.wrap (x.q_57.get (Int.toNat x.q_59)).A) (cond (Nat.beq i3 2) (IntKind.u8.wrap (x.q_57.get (Int.toNat x.q_59)).B) (cond (Nat.beq i3 3) (IntKind.u8.wrap (x.q_57.get (Int.toNat x.q_59)).C) (IntKind.u8.wrap (x.q_57.get (Int.toNat x.q_59)).D))))))), x.m_4) fun (y3 : R_octet_Writer_Put) =>
 (.call con_varint_Print (x.q_57.get (Int.toNat x.q_59)).K fun (y4 : R_varint_Print) =>
 (.call con_octet_Writer_Text (y4, y3) fun (y5 : R_octet_Writer_Text) =>
 (.jump S_code_Print_16 D_code_Print_16 (X_code_Print_16.mk x.q_46 x.q_47 x.q_48 x.q_57 x.q_58 (IntKind.i64.wrap (x.q_59 + 1)) y5))))))
 (.jump S_code_Print_21 (D_code_Print_21 D_code_Print_12) (X_code_Print_21.mk x.q_46 x.q_47 x.q_48 x.m_4)))
theorem sd_code_Print_16 (D_code_Print_12 : Dyn X_code_Print_12 R_code_Print) (D_code_Print_16 : Dyn X_code_Print_16 R_code_Print) (x : X_code_Print_16) : (tt_code_Print_16 D_code_Print_12 D_code_Print_16 x).Sides :=
  (TT.s_ite (TT.s_need (TT.s_call fun _ => (TT.s_call fun _ => (TT.s_call fun _ => TT.s_jump)))) TT.s_jump)

noncomputable def D_code_Print_16 (D_code_Print_12 : Dyn X_code_Print_12 R_code_Print) : Dyn X_code_Print_16 R_code_Print := Dyn.loop (tt_code_Print_16 D_code_Print_12)
theorem ok_code_Print_16 (D_code_Print_12 : Dyn X_code_Print_12 R_code_Print) (h_12 : LabOK J_code_Print S_code_Print_12 D_code_Print_12) : LabOK J_code_Print S_code_Print_16 (D_code_Print_16 D_code_Print_12) :=
  loop_ok fun D_code_Print_16 h_16 => lab_ok mixed_ok (labs_cons2 h_12 rfl (labs_cons2 h_16 rfl (labs_cons2 (ok_code_Print_21 D_code_Print_12 h_12) rfl labs_nil))) 4000 (fun x => by kernel_rfl) (sd_code_Print_16 D_code_Print_12 D_code_Print_16)
noncomputable def tt_code_Print_12 (D_code_Print_12 : Dyn X_code_Print_12 R_code_Print) (x : X_code_Print_12) : TT Tryz.prog R_code_Print :=
 (.ite (ilt x.q_48 x.q_47)
 (.need (inb x.q_48 x.q_46.n) <|
 (.call con_varint_Print (IntKind.u64.wrap (((x.q_46.get (Int.toNat x.q_48)).n : Nat) : Int)) fun (y2 : R_varint_Print) =>
 (.call con_octet_Writer_Text (y2, x.m_4) fun (y3 : R_octet_Writer_Text) =>
 (.jump S_code_Print_16 (D_code_Print_16 D_code_Print_12) (X_code_Print_16.mk x.q_46 x.q_47 x.q_48 (x.q_46.get (Int.toNat x.q_48)) (((x.q_46.get (Int.toNat x.q_48)).n : Nat) : Int) 0 y3)))))
 (.call con_octet_Writer_String x.m_4 fun (y2 : R_octet_Writer_String) =>
 (.ret (y2, 0))))
theorem sd_code_Print_12 (D_code_Print_12 : Dyn X_code_Print_12 R_code_Print) (x : X_code_Print_12) : (tt_code_Print_12 D_code_Print_12 x).Sides :=
  (TT.s_ite (TT.s_need (TT.s_call fun _ => (TT.s_call fun _ => TT.s_jump))) (TT.s_call fun _ => TT.s_ret))

noncomputable def D_code_Print_12 : Dyn X_code_Print_12 R_code_Print := Dyn.loop tt_code_Print_12
theorem ok_code_Print_12 : LabOK J_code_Print S_code_Print_12 D_code_Print_12 :=
  loop_ok fun D_code_Print_12 h_12 => lab_ok mixed_ok (labs_cons2 h_12 rfl (labs_cons2 (ok_code_Print_21 D_code_Print_12 h_12) rfl (labs_cons2 (ok_code_Print_16 D_code_Print_12 h_12) rfl labs_nil))) 4000 (fun x => by kernel_rfl) (sd_code_Print_12 D_code_Print_12)
noncomputable def tt_code_Print_10 (x : X_code_Print_10) : TT Tryz.prog R_code_Print :=
 (.call con_octet_Writer_Put ((Sl.mk false 1 (fun _i1 => (IntKind.u8.wrap ((x.p_1.Threads.n : Nat) : Int)))), x.m_4) fun (y1 : R_octet_Writer_Put) =>
 (.jump S_code_Print_12 D_code_Print_12 (X_code_Print_12.mk x.p_1.Threads ((x.p_1.Threads.n : Nat) : Int) 0 y1)))
theorem sd_code_Print_10 (x : X_code_Print_10) : (tt_code_Print_10 x).Sides :=
  (TT.s_call fun _ => TT.s_jump)

noncomputable def D_code_Print_10 : Dyn X_code_Print_10 R_code_Print := .of tt_code_Print_10
theorem ok_code_Print_10 : LabOK J_code_Print S_code_Print_10 D_code_Print_10 :=
  lab_ok mixed_ok (labs_cons2 ok_code_Print_12 rfl labs_nil) 4000 (fun x => by kernel_rfl) sd_code_Print_10
noncomputable def tt_code_Print_6 (D_code_Print_6 : Dyn X_code_Print_6 R_code_Print) (x : X_code_Print_6) : TT Tryz.prog R_code_Print :=
 (.ite (ilt x.q_23 x.q_22)
 (.need (inb x.q_23 x.q_21.n) <|
 (.call con_octet_Writer_Put ((Sl.mk false 3 (fun i2 => (cond (Nat.beq i2 0) (IntKind.u8.wrap (x.q_21.get (Int.toNat x.q_23)).Kind) (cond (Nat.beq i2 1) (IntKind.u8.wrap (x.q_21.get (Int.toNat x.q_23)).Cap) (IntKind.u8.wrap (x.q_21.get (Int.toNat x.q_23)).Readers))))), x.m_4) fun (y2 : R_octet_Writer_Put) =>
 (.jump S_code_Print_6 D_code_Print_6 (X_code_Print_6.mk x.p_1 x.q_21 x.q_22 (IntKind.i64.wrap (x.q_23 + 1)) y2))))
 (.jump S_code_Print_10 D_code_Print_10 (X_code_Print_10.mk x.p_1 x.m_4)))
theorem sd_code_Print_6 (D_code_Print_6 : Dyn X_code_Print_6 R_code_Print) (x : X_code_Print_6) : (tt_code_Print_6 D_code_Print_6 x).Sides :=
  (TT.s_ite (TT.s_need (TT.s_call fun _ => TT.s_jump)) TT.s_jump)

noncomputable def D_code_Print_6 : Dyn X_code_Print_6 R_code_Print := Dyn.loop tt_code_Print_6
theorem ok_code_Print_6 : LabOK J_code_Print S_code_Print_6 D_code_Print_6 :=
  loop_ok fun D_code_Print_6 h_6 => lab_ok mixed_ok (labs_cons2 h_6 rfl (labs_cons2 ok_code_Print_12 rfl (labs_cons2 ok_code_Print_10 rfl labs_nil))) 4000 (fun x => by kernel_rfl) (sd_code_Print_6 D_code_Print_6)
noncomputable def tt_code_Print (x : X_code_Print) : TT Tryz.prog R_code_Print :=
 (.call con_code_written x fun (y1 : R_code_written) =>
 (.ite (!y1)
 (.ret ((ByteArray.mk #[]), 1))
 (.call con_octet_Writer_Put ((Sl.mk false 1 (fun _i2 => (IntKind.u8.wrap ((x.Rings.n : Nat) : Int)))), (TOctet_Writer.mk (Sl.mk true 0 (fun _i2 => (0 : Int))))) fun (y2 : R_octet_Writer_Put) =>
 (.jump S_code_Print_6 D_code_Print_6 (X_code_Print_6.mk x x.Rings ((x.Rings.n : Nat) : Int) 0 y2)))))
theorem sd_code_Print (x : X_code_Print) : (tt_code_Print x).Sides :=
  (TT.s_call fun _ => (TT.s_ite TT.s_ret (TT.s_call fun _ => TT.s_jump)))

noncomputable def D_code_Print : Dyn X_code_Print R_code_Print := .of tt_code_Print
noncomputable def con_code_Print : Con Tryz.prog :=
  mkCon 22 J_code_Print S_code_Print D_code_Print D_code_Print (fun _ _ h => h) 1 0 [sh_TApi_Program] (by kernel_rfl) (by kernel_rfl) (by kernel_rfl) (lab_ok mixed_ok (labs_cons2 ok_code_Print_12 rfl (labs_cons2 ok_code_Print_10 rfl (labs_cons2 ok_code_Print_6 rfl labs_nil))) 4000 (fun x => by kernel_rfl) sd_code_Print) rfl rfl (fun _ => rfl) (by kernel_rfl) rfl (fun _ => rfl) (fun x y _ => by kernel_rfl)

/-! listing.Print -/
abbrev X_listing_Print : Type := TApi_Program
abbrev R_listing_Print : Type := ByteArray × Int
def lpThr (x : TApi_Program) (T : List (List ByteArray)) : Prop := T.length = x.Threads.n ∧ ∀ t, t < x.Threads.n → (T.getD t []).length = (x.Threads.get t).n ∧ ∀ i, i < (x.Threads.get t).n → D_listing_line.rel ((x.Threads.get t).get i) ((T.getD t []).getD i ByteArray.empty)
def lpHead (x : TApi_Program) (H : List ByteArray) : Prop := H.length = x.Rings.n ∧ (catL H).size ≤ 140737488355328 ∧ ∀ i, i < x.Rings.n → D_listing_head.rel (x.Rings.get i) (H.getD i ByteArray.empty)
def lpBad (H : List ByteArray) : Prop := ∃ k0, k0 < H.length ∧ (∀ i, i < k0 → H.getD i ByteArray.empty ≠ ByteArray.empty) ∧ H.getD k0 ByteArray.empty = ByteArray.empty
def lpRel (x : TApi_Program) (y : ByteArray × Int) : Prop :=
  ∃ c, D_code_Print.rel x c ∧ ((c.2 ≠ 0 ∧ y = (⟨#[]⟩, 1)) ∨ (c.2 = 0 ∧ ∃ H, lpHead x H ∧ ((lpBad H ∧ y = (⟨#[]⟩, 1)) ∨ (ByteArray.empty ∉ H ∧ ∃ T, lpThr x T ∧ (catL H ++ catT T).size ≤ 140737488355328 ∧ y = (catL H ++ catT T, 0)))))
noncomputable def evH (n : Nat) (x : TApi_Program) : Nat → Nat → Option (List ByteArray)
  | 0, _ => some []
  | k + 1, i => match D_listing_head.ev n (x.Rings.get i) with
    | some a => match evH n x k (i + 1) with
      | some l => some (a :: l)
      | none => none
    | none => none
noncomputable def evI (n : Nat) (x : Sl TApi_Instr) : Nat → Nat → Option (List ByteArray)
  | 0, _ => some []
  | k + 1, i => match D_listing_line.ev n (x.get i) with
    | some a => match evI n x k (i + 1) with
      | some l => some (a :: l)
      | none => none
    | none => none
noncomputable def evT (n : Nat) (x : TApi_Program) : Nat → Nat → Option (List (List ByteArray))
  | 0, _ => some []
  | k + 1, i => match evI n (x.Threads.get i) (x.Threads.get i).n 0 with
    | some a => match evT n x k (i + 1) with
      | some l => some (a :: l)
      | none => none
    | none => none
def anyE : List ByteArray → Bool
  | [] => false
  | a :: l => cond (seq a ByteArray.empty) true (anyE l)
noncomputable def lpEv (n : Nat) (x : TApi_Program) : Option (ByteArray × Int) :=
  match D_code_Print.ev n x with
  | some c => cond (ieq c.2 0) (match evH n x x.Rings.n 0 with
    | some H => cond (Nat.ble (catL H).size 140737488355328) (cond (anyE H) (some (⟨#[]⟩, 1)) (match evT n x x.Threads.n 0 with
      | some T => cond (Nat.ble (catL H ++ catT T).size 140737488355328) (some (catL H ++ catT T, 0)) none
      | none => none)) none
    | none => none) (some (⟨#[]⟩, 1))
  | none => none
theorem evH_ok {n : Nat} {x : TApi_Program} : ∀ (k i : Nat) {l : List ByteArray}, evH n x k i = some l → l.length = k ∧ ∀ j, j < k → D_listing_head.rel (x.Rings.get (i + j)) (l.getD j ByteArray.empty)
  | 0, _, _, h => by cases h; exact ⟨rfl, fun j hj => absurd hj (Nat.not_lt_zero _)⟩
  | k + 1, i, l, h => by
    rw [evH] at h
    cases h1 : D_listing_head.ev n (x.Rings.get i) with
    | none => rw [h1] at h; cases h
    | some a =>
      rw [h1] at h
      cases h2 : evH n x k (i + 1) with
      | none => rw [h2] at h; cases h
      | some l' =>
        rw [h2] at h
        cases h
        obtain ⟨h3, h4⟩ := evH_ok k (i + 1) h2
        refine ⟨by simp [h3], fun j hj => ?_⟩
        cases j with
        | zero => exact D_listing_head.evOK _ _ _ h1
        | succ j =>
          have := h4 j (by omega)
          rw [show i + 1 + j = i + (j + 1) by omega] at this
          simpa using this
theorem evI_ok {n : Nat} {x : Sl TApi_Instr} : ∀ (k i : Nat) {l : List ByteArray}, evI n x k i = some l → l.length = k ∧ ∀ j, j < k → D_listing_line.rel (x.get (i + j)) (l.getD j ByteArray.empty)
  | 0, _, _, h => by cases h; exact ⟨rfl, fun j hj => absurd hj (Nat.not_lt_zero _)⟩
  | k + 1, i, l, h => by
    rw [evI] at h
    cases h1 : D_listing_line.ev n (x.get i) with
    | none => rw [h1] at h; cases h
    | some a =>
      rw [h1] at h
      cases h2 : evI n x k (i + 1) with
      | none => rw [h2] at h; cases h
      | some l' =>
        rw [h2] at h
        cases h
        obtain ⟨h3, h4⟩ := evI_ok k (i + 1) h2
        refine ⟨by simp [h3], fun j hj => ?_⟩
        cases j with
        | zero => exact D_listing_line.evOK _ _ _ h1
        | succ j =>
          have := h4 j (by omega)
          rw [show i + 1 + j = i + (j + 1) by omega] at this
          simpa using this
theorem evT_ok {n : Nat} {x : TApi_Program} : ∀ (k i : Nat) {l : List (List ByteArray)}, evT n x k i = some l → l.length = k ∧ ∀ j, j < k → (l.getD j []).length = (x.Threads.get (i + j)).n ∧ ∀ q, q < (x.Threads.get (i + j)).n → D_listing_line.rel ((x.Threads.get (i + j)).get q) ((l.getD j []).getD q ByteArray.empty)
  | 0, _, _, h => by cases h; exact ⟨rfl, fun j hj => absurd hj (Nat.not_lt_zero _)⟩
  | k + 1, i, l, h => by
    rw [evT] at h
    cases h1 : evI n (x.Threads.get i) (x.Threads.get i).n 0 with
    | none => rw [h1] at h; cases h
    | some a =>
      rw [h1] at h
      cases h2 : evT n x k (i + 1) with
      | none => rw [h2] at h; cases h
      | some l' =>
        rw [h2] at h
        cases h
        obtain ⟨h3, h4⟩ := evT_ok k (i + 1) h2
        refine ⟨by simp [h3], fun j hj => ?_⟩
        cases j with
        | zero =>
          obtain ⟨g1, g2⟩ := evI_ok _ _ h1
          exact ⟨g1, fun q hq => by have := g2 q hq; rwa [Nat.zero_add] at this⟩
        | succ j =>
          have := h4 j (by omega)
          rw [show i + 1 + j = i + (j + 1) by omega] at this
          simpa using this
theorem seq_e {a : ByteArray} : seq a ByteArray.empty = true ↔ a = ByteArray.empty := seq_iff
theorem anyE_false : ∀ {l : List ByteArray}, anyE l = false → ByteArray.empty ∉ l
  | [], _ => by simp
  | a :: l, h => by
    rw [anyE] at h
    cases q : seq a ByteArray.empty
    · rw [q] at h
      intro k
      rcases List.mem_cons.1 k with k | k
      · rw [seq_e.2 k.symm] at q; cases q
      · exact anyE_false h k
    · rw [q] at h; cases h
theorem anyE_true : ∀ {l : List ByteArray}, anyE l = true → lpBad l
  | [], h => by cases h
  | a :: l, h => by
    rw [anyE] at h
    cases q : seq a ByteArray.empty
    · rw [q] at h
      obtain ⟨k, h1, h2, h3⟩ := anyE_true h
      refine ⟨k + 1, by simp; omega, fun i hi => ?_, by simpa using h3⟩
      cases i with
      | zero => exact fun e => by rw [seq_e.2 (by simpa using e)] at q; cases q
      | succ i => simpa using h2 i (by omega)
    · exact ⟨0, by simp, fun i hi => absurd hi (Nat.not_lt_zero _), by simpa using seq_e.1 q⟩
theorem lpEvOK (n : Nat) (x : TApi_Program) (y : ByteArray × Int) (h : lpEv n x = some y) : lpRel x y := by
  unfold lpEv at h
  cases h1 : D_code_Print.ev n x with
  | none => rw [h1] at h; cases h
  | some c =>
    rw [h1] at h
    refine ⟨c, D_code_Print.evOK _ _ _ h1, ?_⟩
    change cond (ieq c.2 0) _ _ = some y at h
    cases h2 : ieq c.2 0
    · rw [h2] at h
      cases h
      exact .inl ⟨(fun k => by rw [ieq_iff.2 k] at h2; cases h2), rfl⟩
    · rw [h2] at h
      refine .inr ⟨ieq_iff.1 h2, ?_⟩
      cases h3 : evH n x x.Rings.n 0 with
      | none => rw [h3] at h; cases h
      | some H =>
        rw [h3] at h
        obtain ⟨h4, h5⟩ := cond_some h
        obtain ⟨h6, h7⟩ := evH_ok _ _ h3
        refine ⟨H, ⟨h6, by simpa using h4, fun i hi => by have := h7 i hi; rwa [Nat.zero_add] at this⟩, ?_⟩
        cases h8 : anyE H
        · rw [h8] at h5
          change (match evT n x x.Threads.n 0 with | some T => _ | none => _) = some y at h5
          cases h9 : evT n x x.Threads.n 0 with
          | none => rw [h9] at h5; cases h5
          | some T =>
            rw [h9] at h5
            obtain ⟨k1, k2⟩ := cond_some h5
            cases k2
            obtain ⟨k3, k4⟩ := evT_ok _ _ h9
            exact .inr ⟨anyE_false h8, T, ⟨k3, fun t ht => by have := k4 t ht; rwa [Nat.zero_add] at this⟩, by simpa using k1, rfl⟩
        · rw [h8] at h5
          cases h5
          exact .inl ⟨anyE_true h8, rfl⟩
def rgT (e : TApi_Ring) : Int × Int × Int := (e.Kind, e.Cap, e.Readers)
def inT (e : TApi_Instr) : Int × Int × Int × Int × Int × Int := (e.Op, e.A, e.B, e.C, e.D, e.K)
theorem rel_ring {F : Foot} {w : World} {e : TApi_Ring} {xs : List Value} {fp : Foot} (h : RelT F w noNames (e_TApi_Ring e) xs fp) : xs = [.int .i64 e.Kind, .int .i64 e.Cap, .int .i64 e.Readers] := by
  simp only [e_TApi_Ring, RelT] at h
  obtain ⟨_, _, _, _, rfl, rfl, ⟨_, _, _, _, rfl, rfl, ⟨_, _, _, _, rfl, rfl, rfl, _⟩, _⟩, _⟩ := h
  rfl
theorem rel_instr {F : Foot} {w : World} {e : TApi_Instr} {xs : List Value} {fp : Foot} (h : RelT F w noNames (e_TApi_Instr e) xs fp) : xs = [.int .i64 e.Op, .int .i64 e.A, .int .i64 e.B, .int .i64 e.C, .int .i64 e.D, .int .u64 e.K] := by
  simp only [e_TApi_Instr, RelT] at h
  obtain ⟨_, _, _, _, rfl, rfl, ⟨_, _, _, _, rfl, rfl, ⟨_, _, _, _, rfl, rfl, ⟨_, _, _, _, rfl, rfl, ⟨_, _, _, _, rfl, rfl, ⟨_, _, _, _, rfl, rfl, rfl, _⟩, _⟩, _⟩, _⟩, _⟩, _⟩ := h
  rfl
theorem ring_val (F : Foot) (w : World) (e : TApi_Ring) : RelV F w noNames (e_TApi_Ring e) (rgV (rgT e)) none_ := by
  have oo : none_.Off none_ := Foot.none_off _
  have ss : none_.Sub none_ := Foot.Sub.refl _
  exact val_agg (x := e_TApi_Ring e) (cs := [.int .i64 e.Kind, .int .i64 e.Cap, .int .i64 e.Readers]) ⟨[_], _, none_, none_, rfl, rfl, ⟨[_], _, none_, none_, rfl, rfl, ⟨[_], _, none_, none_, rfl, rfl, rfl, ss, ss, oo⟩, ss, ss, oo⟩, ss, ss, oo⟩ rfl
theorem instr_val (F : Foot) (w : World) (e : TApi_Instr) : RelV F w noNames (e_TApi_Instr e) (inV (inT e)) none_ := by
  have oo : none_.Off none_ := Foot.none_off _
  have ss : none_.Sub none_ := Foot.Sub.refl _
  exact val_agg (x := e_TApi_Instr e) (cs := [.int .i64 e.Op, .int .i64 e.A, .int .i64 e.B, .int .i64 e.C, .int .i64 e.D, .int .u64 e.K])
    ⟨[_], _, none_, none_, rfl, rfl, ⟨[_], _, none_, none_, rfl, rfl, ⟨[_], _, none_, none_, rfl, rfl, ⟨[_], _, none_, none_, rfl, rfl, ⟨[_], _, none_, none_, rfl, rfl, ⟨[_], _, none_, none_, rfl, rfl, rfl, ss, ss, oo⟩, ss, ss, oo⟩, ss, ss, oo⟩, ss, ss, oo⟩, ss, ss, oo⟩, ss, ss, oo⟩ rfl
theorem ext_below {w w' : World} (hB : RowKit.Below w.heap.size w w') : Ext w w' :=
  ⟨hB.os, hB.tape, hB.output, hB.size, fun g o h => ⟨o, (hB.block g (Array.getElem?_eq_some_iff.1 h).1).trans h, alike.refl o⟩⟩
theorem ok_LPrint (x : TApi_Program) (y : ByteArray × Int) (h : lpRel x y) : OK Tryz.prog 11 [e_TApi_Program x] [] (.tup (.cons (.str y.1) (.cons (.int .i64 y.2) .unit))) [] := by
  refine args1 fun F w v1 hH hF ⟨_, r1⟩ => ?_
  have r0 : RelV F w noNames (e_TApi_Program x) v1 none_ := r1.unowned rfl
  obtain ⟨cs, rfl, r2⟩ := (r0.one rfl).1 rfl
  have r3 := r2
  simp only [e_TApi_Program, RelT, esl_TApi_Ring, esl_sl_TApi_Instr, esl_TApi_Instr, eSl] at r3
  obtain ⟨_, _, _, _, rfl, ⟨RA, rc, rfl, h1, h2, h3, h4⟩, ⟨_, _, _, _, rfl, ⟨TA, tc, rfl, k1, k2, k3, k4⟩, rfl, _⟩, _⟩ := r3
  obtain ⟨c, hc, hy⟩ := h
  have tup : ∀ {F' : Foot} {w' : World} {v : Value} {fp : Foot} {a b : V}, RelV F' w' noNames (.tup (.cons a (.cons b .unit))) v fp → a.agg = false → b.agg = false → ∃ u1 u2 f1 f2, v = .tuple #[u1, u2] ∧ RelT F' w' noNames a [u1] f1 ∧ RelT F' w' noNames b [u2] f2 := by
    intro F' w' v fp a b hv ha hb
    obtain ⟨vs, rfl, u1, vs', f1, f2, rfl, k1, ⟨u2, vs2, f3, f4, rfl, k2, k3, _⟩, _⟩ := hv
    obtain rfl : vs2 = [] := k3
    exact ⟨u1, u2, f1, f3, rfl, k1.2 ha, k2.2 hb⟩
  have hcheck : ∀ w', RowKit.Below w.heap.size w w' → Gives Tryz.prog 22 #[.agg #[.slice RA x.Rings.n rc, .slice TA x.Threads.n tc]] w' (.tuple #[.string c.1, .int .i64 c.2]) := by
    intro w' hB
    have hsame : Same w w' F := fun g o hg => hB.cell (hF g o hg)
    refine (calls_of_ok (con_code_Print.ok x c hc) (holds_below hH hB) (F := F) (fun g o hg => Nat.lt_of_lt_of_le (hF g o hg) hB.size) (vals := #[.agg #[.slice RA x.Rings.n rc, .slice TA x.Threads.n tc]]) rfl (fun t => ?_)).mono fun e w'' q => ?_
    · match t with
      | 0 => exact r0.keep (ext_below hB) (Foot.Sub.refl _) hsame (fun _ _ h => h) (fun _ _ h => h.elim) (Foot.Sub.refl _)
      | t + 1 => trivial
    · obtain ⟨v, F', fp, rfl, hv, hB'⟩ := q
      obtain ⟨u1, u2, f1, f2, rfl, q1, q2⟩ := tup (a := .str c.1) (b := .int .i64 c.2) hv rfl rfl
      simp only [RelT] at q1 q2
      cases q1; cases q2
      exact ⟨rfl, hB'⟩
  have hR : 0 < x.Rings.n → ∃ g o, RA = some ⟨g, o, none⟩ ∧ g < w.heap.size ∧ ∀ i, i < x.Rings.n → RgAt w g (o + i * 3) (rgT (x.Rings.get i)) := fun hn => by
    have hnil : x.Rings.nil = false := by
      cases q : x.Rings.nil
      · rfl
      · exact absurd (h3 q).2.1 (by omega)
    obtain ⟨g, o, q, rfl, hq, _, hel⟩ := h4 hnil
    obtain rfl : q = none := hq.resolve_right (by omega)
    refine ⟨g, o, rfl, ?_, fun i hi => ?_⟩
    · obtain ⟨xs, _, _, _, e4⟩ := hel 0 hn
      exact hF _ _ (e4 0 (by omega))
    · obtain ⟨xs, _, e2, e3, _⟩ := hel i hi
      obtain rfl := rel_ring e2
      exact ⟨e3 0 _ rfl, e3 1 _ rfl, e3 2 _ rfl⟩
  have hT0 : ∀ t, ∃ z : Option Addr × Nat, t < x.Threads.n → ∀ g o q, TA = some ⟨g, o, q⟩ → q = none → w.cell? ⟨g, o + t, none⟩ = some (.slice z.1 (x.Threads.get t).n z.2) ∧ (x.Threads.get t).n ≤ maxLen ∧
      (0 < (x.Threads.get t).n → ∃ g2 o2, z.1 = some ⟨g2, o2, none⟩ ∧ g2 < w.heap.size ∧ ∀ i, i < (x.Threads.get t).n → InAt w g2 (o2 + i * 6) (inT ((x.Threads.get t).get i))) := fun t => by
    by_cases ht : t < x.Threads.n
    · have hnil : x.Threads.nil = false := by
        cases q : x.Threads.nil
        · rfl
        · exact absurd (k3 q).2.1 (by omega)
      obtain ⟨g, o, q, rfl, hq, _, hel⟩ := k4 hnil
      obtain ⟨xs, _, ⟨A, cc, rfl, l1, l2, l3, l4⟩, e3, _⟩ := hel t ht
      refine ⟨(A, cc), fun _ g' o' q' hga hqn => ?_⟩
      cases hga
      have := e3 0 _ rfl
      rw [Nat.mul_one, Nat.add_zero] at this
      refine ⟨this, by omega, fun hn => ?_⟩
      have hnil2 : (x.Threads.get t).nil = false := by
        cases q : (x.Threads.get t).nil
        · rfl
        · exact absurd (l3 q).2.1 (by omega)
      obtain ⟨g2, o2, q2, rfl, hq2, _, hel2⟩ := l4 hnil2
      obtain rfl : q2 = none := hq2.resolve_right (by omega)
      refine ⟨g2, o2, rfl, ?_, fun i hi => ?_⟩
      · obtain ⟨xs, _, _, _, e4⟩ := hel2 0 hn
        exact hF _ _ (e4 0 (by omega))
      · obtain ⟨xs, _, e2, e3, _⟩ := hel2 i hi
        obtain rfl := rel_instr e2
        exact ⟨e3 0 _ rfl, e3 1 _ rfl, e3 2 _ rfl, e3 3 _ rfl, e3 4 _ rfl, e3 5 _ rfl⟩
    · exact ⟨(none, 0), fun h => absurd h ht⟩
  obtain ⟨z, hz⟩ := Classical.axiomOfChoice hT0
  have hTA : 0 < x.Threads.n → ∃ g o, TA = some ⟨g, o, none⟩ ∧ g < w.heap.size := fun hn => by
    have hnil : x.Threads.nil = false := by
      cases q : x.Threads.nil
      · rfl
      · exact absurd (k3 q).2.1 (by omega)
    obtain ⟨g, o, q, rfl, hq, _, hel⟩ := k4 hnil
    obtain rfl : q = none := hq.resolve_right (by omega)
    obtain ⟨xs, _, _, _, e4⟩ := hel 0 hn
    exact ⟨g, o, rfl, hF _ _ (e4 0 (by omega))⟩
  have hT : 0 < x.Threads.n → ∃ g o, TA = some ⟨g, o, none⟩ ∧ g < w.heap.size ∧ ∀ t, t < x.Threads.n → w.cell? ⟨g, o + t, none⟩ = some (.slice (z t).1 (x.Threads.get t).n (z t).2) := fun hn => by
    obtain ⟨g, o, rfl, hg⟩ := hTA hn
    exact ⟨g, o, rfl, hg, fun t ht => (hz t ht g o none rfl rfl).1⟩
  have hI : ∀ t, t < x.Threads.n → (x.Threads.get t).n ≤ 9223372036854775807 ∧ (0 < (x.Threads.get t).n → ∃ g o, (z t).1 = some ⟨g, o, none⟩ ∧ g < w.heap.size ∧ ∀ i, i < (x.Threads.get t).n → InAt w g (o + i * 6) (inT ((x.Threads.get t).get i))) := fun t ht => by
    obtain ⟨g, o, hA, hg⟩ := hTA (by omega)
    obtain ⟨_, m2, m3⟩ := hz t ht g o none hA rfl
    exact ⟨by simp only [maxLen] at m2; omega, m3⟩
  have fin : ∀ a b, Gives Tryz.prog 11 #[.agg #[.slice RA x.Rings.n rc, .slice TA x.Threads.n tc]] w (.tuple #[.string a, .int .i64 b]) → Calls Tryz.prog 11 #[.agg #[.slice RA x.Rings.n rc, .slice TA x.Threads.n tc]] w fun e w' =>
      ∃ v, e = .returned v ∧ RelV (newFoot F w w') w' noNames (.tup (.cons (.str a) (.cons (.int .i64 b) .unit))) v none_ ∧ RowKit.Below w.heap.size w w' := fun a b hg =>
    hg.mono fun e w' q => ⟨_, q.1, val_tup (relL_cons (rel1_leaf rfl rfl) (relL_cons (rel1_leaf rfl rfl) relL_nil)), q.2⟩
  have head : ∀ H, lpHead x H → ∀ i, i < x.Rings.n → ∀ w', Holds Tryz.prog w' → Gives Tryz.prog 23 #[rgV (rgT (x.Rings.get i))] w' (.string (H.getD i ByteArray.empty)) := fun H hh i hi w' hH' => by
    refine (calls_of_ok (con_listing_head.ok (x.Rings.get i) _ (hh.2.2 i hi)) hH' (F := none_) (fun _ _ h => h.elim) (vals := #[rgV (rgT (x.Rings.get i))]) rfl (fun t => ?_)).mono fun e w'' q => ?_
    · match t with
      | 0 => exact ring_val _ _ _
      | t + 1 => trivial
    · obtain ⟨v, F', fp, rfl, hv, hB⟩ := q
      obtain rfl := inv_str (show RelV F' w'' noNames (.str (H.getD i ByteArray.empty)) v fp from hv)
      exact ⟨rfl, hB⟩
  have b1 : x.Rings.n ≤ 9223372036854775807 := by simp only [maxLen] at h2; omega
  have b2 : x.Threads.n ≤ 9223372036854775807 := by simp only [maxLen] at k2; omega
  rcases hy with ⟨hne, rfl⟩ | ⟨h0, H, hHd, ⟨hbad, rfl⟩ | ⟨hnb, T, hTh, hsz, rfl⟩⟩
  · exact fin _ _ (lprint_err RA TA _ rc _ tc c.1 c.2 w hne hcheck)
  · obtain ⟨k0, g1, g2, g3⟩ := hbad
    rw [h0] at hcheck
    exact fin _ _ (lprint_bad RA TA _ rc _ tc (fun i => rgT (x.Rings.get i)) (fun t => (z t).1) (fun t => (x.Threads.get t).n) (fun t => (z t).2) (fun t i => inT ((x.Threads.get t).get i)) c.1 w hH b1 b2 hR hT hI hcheck H hHd.1 hHd.2.1 k0 (by rw [← hHd.1]; exact g1) g2 g3 (head H hHd))
  · rw [h0] at hcheck
    refine fin _ _ (lprint_calls RA TA _ rc _ tc (fun i => rgT (x.Rings.get i)) (fun t => (z t).1) (fun t => (x.Threads.get t).n) (fun t => (z t).2) (fun t i => inT ((x.Threads.get t).get i)) c.1 w hH b1 b2 hR hT hI hcheck H hHd.1 hHd.2.1 hnb (head H hHd) T hTh.1 hsz (fun t ht => (hTh.2 t ht).1) fun t i ht hi w' hH' => ?_)
    refine (calls_of_ok (con_listing_line.ok ((x.Threads.get t).get i) _ ((hTh.2 t ht).2 i hi)) hH' (F := none_) (fun _ _ h => h.elim) (vals := #[inV (inT ((x.Threads.get t).get i))]) rfl (fun t => ?_)).mono fun e w'' q => ?_
    · match t with
      | 0 => exact instr_val _ _ _
      | t + 1 => trivial
    · obtain ⟨v, F', fp, rfl, hv, hB⟩ := q
      obtain rfl := inv_str (show RelV F' w'' noNames (.str _) v fp from hv)
      exact ⟨rfl, hB⟩
noncomputable def con_listing_Print : Con Tryz.prog where
  f := 11
  fn := Tryz.f11
  hf := by kernel_rfl
  hb := by kernel_rfl
  hn := by kernel_rfl
  X := X_listing_Print
  Y := R_listing_Print
  args x := [e_TApi_Program x]
  objs _ := []
  res y := .tup (.cons (.str y.1) (.cons (.int .i64 y.2) .unit))
  outs _ _ := []
  rel := lpRel
  ev := lpEv
  evOK := lpEvOK
  dec := fun l _ => d_TApi_Program (at_ l 0)
  ash := [sh_TApi_Program]
  osh := []
  ok := ok_LPrint
  pure := false
  pureOut h := by cases h
  pureName h := by cases h

/-! rondeaulaw10.awake (w10_awake) -/
abbrev X_w10_awake : Type := Unit
abbrev R_w10_awake : Type := Bool
noncomputable def J_w10_awake : Job Tryz.prog :=
  job Tryz.prog Tryz.f9 107 [(18, 1), (23, 1), (29, 1), (34, 1), (39, 1), (44, 1), (49, 1)] [] [] [] [.any] [] [con_listing_Line, con_listing_Print, con_listing_Read, con_r09_Same, con_w10_sample] R_w10_awake [] fun y => [V.bool y]
noncomputable def S_w10_awake : LabS :=
  lab0 Tryz.f9 0 0 X_w10_awake (fun _x => []) fun _l => ()
noncomputable def tt_w10_awake (_x : X_w10_awake) : TT Tryz.prog R_w10_awake :=
 (.call con_w10_sample PUnit.unit fun (y1 : R_w10_sample) =>
 (.call con_listing_Print y1 fun (y2 : R_listing_Print) =>
 (.call con_listing_Read y2.fst fun (y3 : R_listing_Read) =>
 (.call con_listing_Read (ByteArray.mk #[113, 117, 101, 117, 101, 32, 52, 10, 116, 104, 114, 101, 97, 100, 10, 115, 101, 116, 32, 114, 49, 32, 48, 51, 48, 48, 10]) fun (y4 : R_listing_Read) =>
 (.call con_listing_Read (ByteArray.mk #[113, 117, 101, 117, 101, 32, 52, 10, 116, 104, 114, 101, 97, 100]) fun (y5 : R_listing_Read) =>
 (.call con_listing_Line (TApi_Instr.mk 19 1 2 0 1 3) fun (y6 : R_listing_Line) =>
 (.call con_listing_Line (TApi_Instr.mk 26 0 0 0 0 0) fun (y7 : R_listing_Line) =>
 (.call con_listing_Print (TApi_Program.mk (Sl.mk false 1 (fun _i8 => (TApi_Ring.mk 3 0 0))) (Sl.mk true 0 (fun _i8 => (Sl.mk true 0 (fun _i9 => (TApi_Instr.mk 0 0 0 0 0 0)))))) fun (y8 : R_listing_Print) =>
 (.ite (seq y2.fst (ByteArray.mk #[113, 117, 101, 117, 101, 32, 52, 10, 116, 104, 114, 101, 97, 100, 10, 115, 101, 116, 32, 114, 49, 32, 51, 48, 48, 10, 115, 101, 110, 100, 32, 114, 49, 32, 114, 50, 32, 48, 32, 119, 97, 105, 116, 10, 104, 97, 108, 116, 10]))
 (.ite (ieq y2.snd 0)
 (.call con_w10_sample PUnit.unit fun (y9 : R_w10_sample) =>
 (.call con_r09_Same (y3.fst, y9) fun (y10 : R_r09_Same) =>
 (.ite y10
 (.ite (ieq y3.snd.fst 0)
 (.ite (ieq y3.snd.snd 0)
 (.ite (ieq y4.snd.fst 3)
 (.ite (ieq y4.snd.snd 3)
 (.ite (ieq y5.snd.fst 2)
 (.ite (ieq y5.snd.snd 3)
 (.ite (seq y6.fst (ByteArray.mk #[114, 101, 99, 118, 32, 114, 49, 32, 114, 50, 32, 48, 32, 119, 97, 105, 116, 32, 51]))
 (.ite (ieq y6.snd 0)
 (.ite (ieq y7.snd 1)
 (.ret (ieq y8.snd 1))
 (.ret false))
 (.ret false))
 (.ret false))
 (.ret false))
 (.ret false))
 (.ret false))
 (.ret false))
 (.ret false))
 (.ret false))
 (.ret false))))
 (.ret false))
 (.ret false))))))))))
theorem sd_w10_awake (x : X_w10_awake) : (tt_w10_awake x).Sides :=
  (TT.s_call fun _ => (TT.s_call fun _ => (TT.s_call fun _ => (TT.s_call fun _ => (TT.s_call fun _ => (TT.s_call fun _ => (TT.s_call fun _ => (TT.s_call fun _ => (TT.s_ite (TT.s_ite (TT.s_call fun _ => (TT.s_call fun _ => (TT.s_ite (TT.s_ite (TT.s_ite (TT.s_ite (TT.s_ite (TT.s_ite (TT.s_ite (TT.s_ite (TT.s_ite (TT.s_ite TT.s_ret TT.s_ret) TT.s_ret) TT.s_ret) TT.s_ret) TT.s_ret) TT.s_ret) TT.s_ret) TT.s_ret) TT.s_ret) TT.s_ret))) TT.s_ret) TT.s_ret)))))))))

noncomputable def D_w10_awake : Dyn X_w10_awake R_w10_awake := .of tt_w10_awake
noncomputable def con_w10_awake : Con Tryz.prog :=
  mkCon 9 J_w10_awake S_w10_awake D_w10_awake D_w10_awake (fun _ _ h => h) 0 0 [] (by kernel_rfl) (by kernel_rfl) (by kernel_rfl) (lab_ok mixed_ok labs_nil 4000 (fun x => by kernel_rfl) sd_w10_awake) rfl rfl (fun _ => rfl) (by kernel_rfl) rfl (fun _ => rfl) (fun x y _ => by kernel_rfl)

/-! rondeauref09.Few (r09_Few) -/
abbrev X_r09_Few : Type := TApi_Program × Int
abbrev R_r09_Few : Type := Bool
noncomputable def J_r09_Few : Job Tryz.prog :=
  job Tryz.prog Tryz.f10 43 [(2, 3)] [] [] [] [.any] [] [] R_r09_Few [] fun y => [V.bool y]
noncomputable def S_r09_Few : LabS :=
  lab0 Tryz.f10 2 0 X_r09_Few (fun x => [e_TApi_Program x.1, (V.int .i64) x.2]) fun l => (d_TApi_Program (at_ l 0), dI (at_ l 1))
structure X_r09_Few_3 where
  most_1 : Int
  p_2 : TApi_Program
noncomputable def S_r09_Few_3 : LabS :=
  labAt Tryz.f10 3 [(1, .any), (2, .any)] [] [] X_r09_Few_3 (fun x => [(V.int .i64) x.most_1, (eVp e_TApi_Program) x.p_2]) fun l => ⟨dI (at_ l 0), (dVp d_TApi_Program) (at_ l 1)⟩
structure X_r09_Few_5 where
  most_1 : Int
  p_2 : TApi_Program
  n_5 : Int
  i_6 : Int
noncomputable def S_r09_Few_5 : LabS :=
  labAt Tryz.f10 5 [(1, .any), (2, .any), (5, .any), (6, .any)] [] [] X_r09_Few_5 (fun x => [(V.int .i64) x.most_1, (eVp e_TApi_Program) x.p_2, (V.int .i64) x.n_5, (V.int .i64) x.i_6]) fun l => ⟨dI (at_ l 0), (dVp d_TApi_Program) (at_ l 1), dI (at_ l 2), dI (at_ l 3)⟩
noncomputable def tt_r09_Few_5 (D_r09_Few_5 : Dyn X_r09_Few_5 R_r09_Few) (x : X_r09_Few_5) : TT Tryz.prog R_r09_Few :=
 (.ite (ilt x.i_6 ((x.p_2.Threads.n : Nat) : Int))
 (.need (inb x.i_6 x.p_2.Threads.n) <|
 (.ite (ilt x.most_1 (((x.p_2.Threads.get (Int.toNat x.i_6)).n : Nat) : Int))
 (.ret false)
 (.need (inb x.i_6 x.p_2.Threads.n) <|
 (.jump S_r09_Few_5 D_r09_Few_5 (X_r09_Few_5.mk x.most_1 x.p_2 (IntKind.i64.wrap (x.n_5 + (((x.p_2.Threads.get (Int.toNat x.i_6)).n : Nat) : Int))) (IntKind.i64.wrap (x.i_6 + 1)))))))
 (.ret (ile x.n_5 x.most_1)))
theorem sd_r09_Few_5 (D_r09_Few_5 : Dyn X_r09_Few_5 R_r09_Few) (x : X_r09_Few_5) : (tt_r09_Few_5 D_r09_Few_5 x).Sides :=
  (TT.s_ite (TT.s_need (TT.s_ite TT.s_ret (TT.s_need TT.s_jump))) TT.s_ret)

noncomputable def D_r09_Few_5 : Dyn X_r09_Few_5 R_r09_Few := Dyn.loop tt_r09_Few_5
theorem ok_r09_Few_5 : LabOK J_r09_Few S_r09_Few_5 D_r09_Few_5 :=
  loop_ok fun D_r09_Few_5 h_5 => lab_ok mixed_ok (labs_cons2 h_5 rfl labs_nil) 4000 (fun x => by kernel_rfl) (sd_r09_Few_5 D_r09_Few_5)
noncomputable def tt_r09_Few_3 (x : X_r09_Few_3) : TT Tryz.prog R_r09_Few :=
 (.jump S_r09_Few_5 D_r09_Few_5 (X_r09_Few_5.mk x.most_1 x.p_2 0 0))
theorem sd_r09_Few_3 (x : X_r09_Few_3) : (tt_r09_Few_3 x).Sides :=
  TT.s_jump

noncomputable def D_r09_Few_3 : Dyn X_r09_Few_3 R_r09_Few := .of tt_r09_Few_3
theorem ok_r09_Few_3 : LabOK J_r09_Few S_r09_Few_3 D_r09_Few_3 :=
  lab_ok mixed_ok (labs_cons2 ok_r09_Few_5 rfl labs_nil) 4000 (fun x => by kernel_rfl) sd_r09_Few_3
noncomputable def tt_r09_Few (x : X_r09_Few) : TT Tryz.prog R_r09_Few :=
 (.ite (ilt 10 ((x.fst.Rings.n : Nat) : Int))
 (.ret false)
 (.ite (ilt 10 ((x.fst.Threads.n : Nat) : Int))
 (.ret false)
 (.jump S_r09_Few_3 D_r09_Few_3 (X_r09_Few_3.mk x.snd x.fst))))
theorem sd_r09_Few (x : X_r09_Few) : (tt_r09_Few x).Sides :=
  (TT.s_ite TT.s_ret (TT.s_ite TT.s_ret TT.s_jump))

noncomputable def D_r09_Few : Dyn X_r09_Few R_r09_Few := .of tt_r09_Few
noncomputable def con_r09_Few : Con Tryz.prog :=
  mkCon 10 J_r09_Few S_r09_Few D_r09_Few D_r09_Few (fun _ _ h => h) 2 0 [sh_TApi_Program, .any] (by kernel_rfl) (by kernel_rfl) (by kernel_rfl) (lab_ok mixed_ok (labs_cons2 ok_r09_Few_5 rfl (labs_cons2 ok_r09_Few_3 rfl labs_nil)) 4000 (fun x => by kernel_rfl) sd_r09_Few) rfl rfl (fun _ => rfl) (by kernel_rfl) rfl (fun _ => rfl) (fun x y _ => by kernel_rfl)

abbrev DslA_sl_TApi_Instr : Type := (Sl (Sl TApi_Instr))
def eslA_sl_TApi_Instr : DslA_sl_TApi_Instr → V := (eSl (some 47) 1 esl_TApi_Instr)
def dslA_sl_TApi_Instr : V → DslA_sl_TApi_Instr := (dSl dsl_TApi_Instr)
def hslA_sl_TApi_Instr : Sh := (.sl (some 47) 1 (esl_TApi_Instr (dsl_TApi_Instr .undef)))

def e_TApi_Program_1 (x : TApi_Program) : V :=
  V.cons (esl_TApi_Ring x.Rings) (V.cons (eslA_sl_TApi_Instr x.Threads) (V.unit))

theorem nu_e_TApi_Program_1 (x : TApi_Program) : (e_TApi_Program_1 x).NoU := ⟨trivial, trivial, trivial⟩

def sh_TApi_Program_1 : Sh := (.cons hsl_TApi_Ring (.cons hslA_sl_TApi_Instr .any))

/-! rondeauref09.Copy (r09_Copy) -/
abbrev X_r09_Copy : Type := TApi_Program
abbrev R_r09_Copy : Type := TApi_Program
noncomputable def J_r09_Copy : Job Tryz.prog :=
  job Tryz.prog Tryz.f12 30 [(1, 3), (18, 1)] [] [] [] [sh_TApi_Program] [] [] R_r09_Copy [] fun y => [e_TApi_Program y]
noncomputable def S_r09_Copy : LabS :=
  lab0 Tryz.f12 1 0 X_r09_Copy (fun x => [e_TApi_Program x]) fun l => (d_TApi_Program (at_ l 0))
structure X_r09_Copy_3 where
  p_1 : TApi_Program
  i_4 : Int
  m_2 : TApi_Program
  m_3 : TApi_Program
noncomputable def S_r09_Copy_3 : LabS :=
  labAt Tryz.f12 3 [(1, .any), (2, .any), (3, .any), (4, .any)] [] [(.loc 2 0, sh_TApi_Program), (.loc 3 0, sh_TApi_Program_1)] X_r09_Copy_3 (fun x => [(eVp e_TApi_Program) x.p_1, (V.ptr (.loc 2 0) []), (V.ptr (.loc 3 0) []), (V.int .i64) x.i_4, e_TApi_Program x.m_2, e_TApi_Program_1 x.m_3]) fun l => ⟨(dVp d_TApi_Program) (at_ l 0), dI (at_ l 3), d_TApi_Program (at_ l 4), d_TApi_Program (at_ l 5)⟩
noncomputable def tt_r09_Copy_3 (D_r09_Copy_3 : Dyn X_r09_Copy_3 R_r09_Copy) (x : X_r09_Copy_3) : TT Tryz.prog R_r09_Copy :=
 (.ite (ilt x.i_4 ((x.p_1.Threads.n : Nat) : Int))
 (.need (inb x.i_4 x.p_1.Threads.n) <|
 (.need (true && (room ((0 : Nat) + (x.p_1.Threads.get (Int.toNat x.i_4)).n) 48)) <|
 (.need (true && (room (x.m_3.Threads.n + 1) 24)) <|
 (.jump S_r09_Copy_3 D_r09_Copy_3 (X_r09_Copy_3.mk x.p_1 (IntKind.i64.wrap (x.i_4 + 1)) x.m_2 (TApi_Program.mk x.m_3.Rings (Sl.mk (cond (Nat.beq 1 0) x.m_3.Threads.nil false) (x.m_3.Threads.n + 1) (fun i2 => (Sl.mk (cond (Nat.blt i2 x.m_3.Threads.n) (x.m_3.Threads.get i2).nil (cond (Nat.beq (x.p_1.Threads.get (Int.toNat x.i_4)).n 0) false false)) (cond (Nat.blt i2 x.m_3.Threads.n) (x.m_3.Threads.get i2).n ((0 : Nat) + (x.p_1.Threads.get (Int.toNat x.i_4)).n)) (fun i3 => (TApi_Instr.mk (cond (Nat.blt i2 x.m_3.Threads.n) ((x.m_3.Threads.get i2).get i3).Op (cond (Nat.blt i3 0) (0 : Int) ((x.p_1.Threads.get (Int.toNat x.i_4)).get (i3 - 0)).Op)) (cond (Nat.blt i2 x.m_3.Threads.n) ((x.m_3.Threads.get i2).get i3).A (cond (Nat.blt i3 0) (0 : Int) ((x.p_1.Threads.get (Int.toNat x.i_4)).get (i3 - 0)).A)) (cond (Nat.blt i2 x.m_3.Threads.n) ((x.m_3.Threads.get i2).get i3).B (cond (Nat.blt i3 0) (0 : Int) ((x.p_1.Threads.get (Int.toNat x.i_4)).get (i3 - 0)).B)) (cond (Nat.blt i2 x.m_3.Threads.n) ((x.m_3.Threads.get i2).get i3).C (cond (Nat.blt i3 0) (0 : Int) ((x.p_1.Threads.get (Int.toNat x.i_4)).get (i3 - 0)).C)) (cond (Nat.blt i2 x.m_3.Threads.n) ((x.m_3.Threads.get i2).get i3).D (cond (Nat.blt i3 0) (0 : Int) ((x.p_1.Threads.get (Int.toNat x.i_4)).get (i3 - 0)).D)) (cond (Nat.blt i2 x.m_3.Threads.n) ((x.m_3.Threads.get i2).get i3).K (cond (Nat.blt i3 0) (0 : Int) ((x.p_1.Threads.get (Int.toNat x.i_4)).get (i3 - 0)).K)))))))))))))
 (.ret x.m_3))
theorem sd_r09_Copy_3 (D_r09_Copy_3 : Dyn X_r09_Copy_3 R_r09_Copy) (x : X_r09_Copy_3) : (tt_r09_Copy_3 D_r09_Copy_3 x).Sides :=
  (TT.s_ite (TT.s_need (TT.s_need (TT.s_need TT.s_jump))) TT.s_ret)

noncomputable def D_r09_Copy_3 : Dyn X_r09_Copy_3 R_r09_Copy := Dyn.loop tt_r09_Copy_3
theorem ok_r09_Copy_3 : LabOK J_r09_Copy S_r09_Copy_3 D_r09_Copy_3 :=
  loop_ok fun D_r09_Copy_3 h_3 => lab_ok mixed_ok (labs_cons2 h_3 rfl labs_nil) 4000 (fun x => by kernel_rfl) (sd_r09_Copy_3 D_r09_Copy_3)
noncomputable def tt_r09_Copy (x : X_r09_Copy) : TT Tryz.prog R_r09_Copy :=
 (.need (true && (room ((0 : Nat) + x.Rings.n) 24)) <|
 (.jump S_r09_Copy_3 D_r09_Copy_3 (X_r09_Copy_3.mk x 0 (TApi_Program.mk (Sl.mk true 0 (fun _i1 => (TApi_Ring.mk 0 0 0))) (Sl.mk true 0 (fun _i1 => (Sl.mk true 0 (fun _i2 => (TApi_Instr.mk 0 0 0 0 0 0)))))) (TApi_Program.mk (Sl.mk (cond (Nat.beq x.Rings.n 0) false false) ((0 : Nat) + x.Rings.n) (fun i1 => (TApi_Ring.mk (cond (Nat.blt i1 0) (0 : Int) (x.Rings.get (i1 - 0)).Kind) (cond (Nat.blt i1 0) (0 : Int) (x.Rings.get (i1 - 0)).Cap) (cond (Nat.blt i1 0) (0 : Int) (x.Rings.get (i1 - 0)).Readers)))) (Sl.mk true 0 (fun _i1 => (Sl.mk true 0 (fun _i2 => (TApi_Instr.mk 0 0 0 0 0 0)))))))))
theorem sd_r09_Copy (x : X_r09_Copy) : (tt_r09_Copy x).Sides :=
  (TT.s_need TT.s_jump)

noncomputable def D_r09_Copy : Dyn X_r09_Copy R_r09_Copy := .of tt_r09_Copy
noncomputable def con_r09_Copy : Con Tryz.prog :=
  mkCon 12 J_r09_Copy S_r09_Copy D_r09_Copy D_r09_Copy (fun _ _ h => h) 1 0 [sh_TApi_Program] (by kernel_rfl) (by kernel_rfl) (by kernel_rfl) (lab_ok mixed_ok (labs_cons2 ok_r09_Copy_3 rfl labs_nil) 4000 (fun x => by kernel_rfl) sd_r09_Copy) rfl rfl (fun _ => rfl) (by kernel_rfl) rfl (fun _ => rfl) (fun x y _ => by kernel_rfl)
end Go.Proofs.YtigdgbdmlejcbaaGreatDoor
