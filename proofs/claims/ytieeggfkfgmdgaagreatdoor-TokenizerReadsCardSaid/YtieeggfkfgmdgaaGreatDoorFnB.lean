/- Written by program: for each function its verification condition, that it is the code's (by the kernel), and that it gives the call. -/
import Derived.Test.YtieeggfkfgmdgaaGreatDoorFn
namespace Go.Proofs
open Go Go.Sh
def an_transcript_Check : Ann := .two (.leaf) (.two (.leaf) (.two (.leaf) (.two (.two (.leaf) (.one (.rf [0, 2, 4, 10] 0))) (.two (.two (.leaf) (.one (.rf [0, 2, 28] 0))) (.two (.two (.leaf) (.two (.two (.leaf) (.leaf)) (.leaf))) (.two (.leaf) (.leaf)))))))
def sh_transcript_Check (l_1 : Option Addr) (l_1n : Nat) (l_1c : Nat) (R : Ending → World → Prop) (w : World) : Prop :=
  al w 32 [.int .i64 0] fun p2 w3 =>
  al w3 3 [.int .i64 0] fun p4 w5 =>
  stL w5 p4 0 [.int .i64 4096] fun w6 =>
  al w6 27 [.nilFunc] fun p7 w8 =>
  stL w8 p7 0 [.func (.func 98) ⟨[]⟩ ⟨[.pointer (some p4)]⟩] fun w9 =>
  Calls Tryz.prog 46 ⟨[.slice l_1 l_1n l_1c]⟩ w9 fun (e10 : Ending) (w11 : World) =>
  ∃ (x12 : Fn) (x12a : Array Value) (x12b : Array Value), e10 = .returned (.func x12 x12a x12b) ∧ (∀ base13 : Env, RFw Tryz.prog none 39 (cdAt Tryz.f43 [1, 1, 1, 0, 1, 2]) (upd (upd (upd (upd base13 10 (.func x12 x12a x12b)) 4 (.pointer (some p7))) 2 (.pointer (some p2))) 0 (.slice l_1 l_1n l_1c)) [] w11 0 (fun ds14 w15 =>
  Calls Tryz.prog 46 ⟨[.slice l_1 l_1n l_1c]⟩ w15 fun (e33 : Ending) (w34 : World) =>
  ∃ (x35 : Fn) (x35a : Array Value) (x35b : Array Value), e33 = .returned (.func x35 x35a x35b) ∧ (∀ base36 : Env, RFw Tryz.prog none 39 (cdAt Tryz.f43 [1, 1, 1, 1, 0, 1, 2]) (upd (upd (upd base36 28 (.func x35 x35a x35b)) 2 (.pointer (some p2))) 0 (.slice l_1 l_1n l_1c)) ds14 w34 0 (fun ds37 w38 =>
  Calls Tryz.prog 100 ⟨[.slice l_1 l_1n l_1c]⟩ w38 fun (e39 : Ending) (w40 : World) =>
  ∃ (x41 : List UInt8), e39 = .returned (.string ⟨⟨x41⟩⟩) ∧ (br (decide ((65536 : Int) < ((List.length x41 : Int)))) (stL w40 p2 0 [.int .i64 4] fun w42 =>
  retD ds37 w42 fun w43 =>
  ∃ (x44 : Int), World.cell? w43 p2 = some (.int .i64 x44) ∧ (R (.returned (.int .i64 x44)) w43)) (stL w40 p2 0 [.int .i64 0] fun w45 =>
  retD ds37 w45 fun w46 =>
  ∃ (x47 : Int), World.cell? w46 p2 = some (.int .i64 x47) ∧ (R (.returned (.int .i64 x47)) w46)))) (fun ds37 w38 =>
  retD ds37 w38 fun w48 =>
  ∃ (x49 : Int), World.cell? w48 p2 = some (.int .i64 x49) ∧ (R (.returned (.int .i64 x49)) w48)) (fun ds37 w38 =>
  False))) (fun ds14 w15 =>
  retD ds14 w15 fun w50 =>
  ∃ (x51 : Int), World.cell? w50 p2 = some (.int .i64 x51) ∧ (R (.returned (.int .i64 x51)) w50)) (fun ds14 w15 =>
  Calls Tryz.prog 46 ⟨[.slice l_1 l_1n l_1c]⟩ w15 fun (e16 : Ending) (w17 : World) =>
  ∃ (x18 : Fn) (x18a : Array Value) (x18b : Array Value), e16 = .returned (.func x18 x18a x18b) ∧ (∀ base19 : Env, RFw Tryz.prog none 39 (cdAt Tryz.f43 [1, 1, 1, 1, 0, 1, 2]) (upd (upd (upd base19 28 (.func x18 x18a x18b)) 2 (.pointer (some p2))) 0 (.slice l_1 l_1n l_1c)) ds14 w17 0 (fun ds20 w21 =>
  Calls Tryz.prog 100 ⟨[.slice l_1 l_1n l_1c]⟩ w21 fun (e22 : Ending) (w23 : World) =>
  ∃ (x24 : List UInt8), e22 = .returned (.string ⟨⟨x24⟩⟩) ∧ (br (decide ((65536 : Int) < ((List.length x24 : Int)))) (stL w23 p2 0 [.int .i64 4] fun w25 =>
  retD ds20 w25 fun w26 =>
  ∃ (x27 : Int), World.cell? w26 p2 = some (.int .i64 x27) ∧ (R (.returned (.int .i64 x27)) w26)) (stL w23 p2 0 [.int .i64 0] fun w28 =>
  retD ds20 w28 fun w29 =>
  ∃ (x30 : Int), World.cell? w29 p2 = some (.int .i64 x30) ∧ (R (.returned (.int .i64 x30)) w29)))) (fun ds20 w21 =>
  retD ds20 w21 fun w31 =>
  ∃ (x32 : Int), World.cell? w31 p2 = some (.int .i64 x32) ∧ (R (.returned (.int .i64 x32)) w31)) (fun ds20 w21 =>
  False))))
set_option maxRecDepth 100000 in
theorem e_transcript_Check (l_1 : Option Addr) (l_1n : Nat) (l_1c : Nat) (R : Ending → World → Prop) (w : World) : fnV Tryz.prog Tryz.f43 an_transcript_Check [.slice l_1 l_1n l_1c] R w = sh_transcript_Check l_1 l_1n l_1c R w := by kernel_rfl
theorem c_transcript_Check {l_1 : Option Addr} {l_1n : Nat} {l_1c : Nat} {R : Ending → World → Prop} {w : World} (h : sh_transcript_Check l_1 l_1n l_1c R w) : Calls Tryz.prog F_transcript_Check ⟨[.slice l_1 l_1n l_1c]⟩ w R := calls_of_fnV Tryz.func43 (by rw [e_transcript_Check]; exact h)
def anA_transcript_Check_1 : Ann := .leaf
def anB_transcript_Check_1 : Ann := .one (.two (.leaf) (.two (.two (.leaf) (.leaf)) (.leaf)))
def rf_transcript_Check_1 (l_52 : Option Addr) (l_52n : Nat) (l_52c : Nat) (t2_53 : Option Addr) (spend_54 : Option Addr) (t10_55 : Fn) (t10_55a : Array Value) (t10_55b : Array Value) (t11_56 : Int) (t11_57 : List UInt8) (t11_58 : Int) (t11_59 : Option Addr) (t11_59n : Nat) (t11_59c : Nat) (t11_60 : Int) (t11_61 : Bool) (l : Nat) (Kn Kr Kx : World → World → Prop) (w : World) : Prop :=
  al w 80 [.int .i64 0, .string ⟨⟨[]⟩⟩, .int .i64 0, .slice none 0 0, .int .i64 0, .bool false] fun p63 w64 =>
  stL w64 p63 0 [.int .i64 t11_56, .string ⟨⟨t11_57⟩⟩, .int .i64 t11_58, .slice t11_59 t11_59n t11_59c, .int .i64 t11_60, .bool t11_61] fun w65 =>
  Ext w w65 ∧ ∀ w62 : World, Upd l w65 w62 → (dr spend_54 fun p66 =>
  ∃ (x67 : Fn) (x67a : Array Value) (x67b : Array Value), World.cell? w62 p66 = some (.func x67 x67a x67b) ∧ (CallV Tryz.prog (.func x67 x67a x67b) [] w62 fun (e68 : Ending) (w69 : World) =>
  ∃ (x70 : Bool), e68 = .returned (.bool x70) ∧ (br (!x70) (dr t2_53 fun p72 =>
  stL w69 p72 0 [.int .i64 4] fun w71 =>
  Kr w62 w71) (∃ (x73 : Int), World.cell? w69 (p63.add 4) = some (.int .i64 x73) ∧ (br (decide ((16 : Int) ≤ x73)) (∃ (x74 : Option Addr) (x74n : Nat) (x74c : Nat), World.cell? w69 ((p63.add 0).add 3) = some (.slice x74 x74n x74c) ∧ (br (decide ((0 : Int) < ((x74n : Int)))) (dr t2_53 fun p76 =>
  stL w69 p76 0 [.int .i64 4] fun w75 =>
  Kr w62 w75) (Kn w62 w69))) (Kn w62 w69))))))
set_option maxRecDepth 100000 in
theorem er_transcript_Check_1 (base : Env) (l_52 : Option Addr) (l_52n : Nat) (l_52c : Nat) (t2_53 : Option Addr) (spend_54 : Option Addr) (t10_55 : Fn) (t10_55a : Array Value) (t10_55b : Array Value) (t11_56 : Int) (t11_57 : List UInt8) (t11_58 : Int) (t11_59 : Option Addr) (t11_59n : Nat) (t11_59c : Nat) (t11_60 : Int) (t11_61 : Bool) (l : Nat) (Kn Kr Kx : World → World → Prop) (w : World) : fragV Tryz.prog 39 anA_transcript_Check_1 anB_transcript_Check_1 (cdAt Tryz.f43 [1, 1, 1, 0, 1, 2, 5]) (cdAt Tryz.f43 [1, 1, 1, 0, 1, 2, 6]) l 0 Kn Kr Kx (updPs [11] [.agg ⟨[.int .i64 t11_56, .string ⟨⟨t11_57⟩⟩, .int .i64 t11_58, .slice t11_59 t11_59n t11_59c, .int .i64 t11_60, .bool t11_61]⟩] (upd (upd (upd (upd base 10 (.func t10_55 t10_55a t10_55b)) 4 (.pointer spend_54)) 2 (.pointer t2_53)) 0 (.slice l_52 l_52n l_52c))) w = rf_transcript_Check_1 l_52 l_52n l_52c t2_53 spend_54 t10_55 t10_55a t10_55b t11_56 t11_57 t11_58 t11_59 t11_59n t11_59c t11_60 t11_61 l Kn Kr Kx w := by kernel_rfl
theorem cd_transcript_Check_1 : cdAt Tryz.f43 [1, 1, 1, 0, 1, 2] = .rangeFunc (Operand.tmp 10) #[11] (cdAt Tryz.f43 [1, 1, 1, 0, 1, 2, 5]) (cdAt Tryz.f43 [1, 1, 1, 0, 1, 2, 6]) := by kernel_rfl
def anA_transcript_Check_2 : Ann := .leaf
def anB_transcript_Check_2 : Ann := .one (.two (.leaf) (.two (.leaf) (.two (.two (.leaf) (.leaf)) (.leaf))))
def rf_transcript_Check_2 (l_77 : Option Addr) (l_77n : Nat) (l_77c : Nat) (t2_78 : Option Addr) (t28_79 : Fn) (t28_79a : Array Value) (t28_79b : Array Value) (t29_80 : Int) (t29_81 : List UInt8) (t29_82 : Int) (t29_83 : Option Addr) (t29_83n : Nat) (t29_83c : Nat) (t29_84 : Int) (t29_85 : Bool) (l : Nat) (Kn Kr Kx : World → World → Prop) (w : World) : Prop :=
  al w 80 [.int .i64 0, .string ⟨⟨[]⟩⟩, .int .i64 0, .slice none 0 0, .int .i64 0, .bool false] fun p87 w88 =>
  stL w88 p87 0 [.int .i64 t29_80, .string ⟨⟨t29_81⟩⟩, .int .i64 t29_82, .slice t29_83 t29_83n t29_83c, .int .i64 t29_84, .bool t29_85] fun w89 =>
  Ext w w89 ∧ ∀ w86 : World, Upd l w89 w86 → (∃ (x90 : Int), World.cell? w86 (p87.add 0) = some (.int .i64 x90) ∧ (∃ (x91 : List UInt8), World.cell? w86 (p87.add 1) = some (.string ⟨⟨x91⟩⟩) ∧ (∃ (x92 : Int), World.cell? w86 (p87.add 2) = some (.int .i64 x92) ∧ (∃ (x93 : Option Addr) (x93n : Nat) (x93c : Nat), World.cell? w86 (p87.add 3) = some (.slice x93 x93n x93c) ∧ (∃ (x94 : Int), World.cell? w86 (p87.add 4) = some (.int .i64 x94) ∧ (∃ (x95 : Bool), World.cell? w86 (p87.add 5) = some (.bool x95) ∧ (Calls Tryz.prog 99 ⟨[.agg ⟨[.int .i64 x90, .string ⟨⟨x91⟩⟩, .int .i64 x92, .slice x93 x93n x93c, .int .i64 x94, .bool x95]⟩]⟩ w86 fun (e96 : Ending) (w97 : World) =>
  ∃ (x98 : Int), e96 = .returned (.int .i64 x98) ∧ (br (decide ((x98 : Int) ≠ 0)) (dr t2_78 fun p100 =>
  stL w97 p100 0 [.int .i64 x98] fun w99 =>
  Kr w86 w99) (Kn w86 w97)))))))))
set_option maxRecDepth 100000 in
theorem er_transcript_Check_2 (base : Env) (l_77 : Option Addr) (l_77n : Nat) (l_77c : Nat) (t2_78 : Option Addr) (t28_79 : Fn) (t28_79a : Array Value) (t28_79b : Array Value) (t29_80 : Int) (t29_81 : List UInt8) (t29_82 : Int) (t29_83 : Option Addr) (t29_83n : Nat) (t29_83c : Nat) (t29_84 : Int) (t29_85 : Bool) (l : Nat) (Kn Kr Kx : World → World → Prop) (w : World) : fragV Tryz.prog 39 anA_transcript_Check_2 anB_transcript_Check_2 (cdAt Tryz.f43 [1, 1, 1, 1, 0, 1, 2, 5]) (cdAt Tryz.f43 [1, 1, 1, 1, 0, 1, 2, 6]) l 0 Kn Kr Kx (updPs [29] [.agg ⟨[.int .i64 t29_80, .string ⟨⟨t29_81⟩⟩, .int .i64 t29_82, .slice t29_83 t29_83n t29_83c, .int .i64 t29_84, .bool t29_85]⟩] (upd (upd (upd base 28 (.func t28_79 t28_79a t28_79b)) 2 (.pointer t2_78)) 0 (.slice l_77 l_77n l_77c))) w = rf_transcript_Check_2 l_77 l_77n l_77c t2_78 t28_79 t28_79a t28_79b t29_80 t29_81 t29_82 t29_83 t29_83n t29_83c t29_84 t29_85 l Kn Kr Kx w := by kernel_rfl
theorem cd_transcript_Check_2 : cdAt Tryz.f43 [1, 1, 1, 1, 0, 1, 2] = .rangeFunc (Operand.tmp 28) #[29] (cdAt Tryz.f43 [1, 1, 1, 1, 0, 1, 2, 5]) (cdAt Tryz.f43 [1, 1, 1, 1, 0, 1, 2, 6]) := by kernel_rfl

def an_slices_Equal_of_api_Token_api_Token : Ann := .two (.leaf) (.two (.two (.leaf) (.two (.two (.leaf) (.leaf)) (.leaf))) (.two (.two (.leaf) (.one (.loop 67100720 [(13, .one (.int .i64))] (.two (.leaf) (.two (.two (.leaf) (.leaf)) (.two (.one (.two (.leaf) (.two (.leaf) (.two (.two (.leaf) (.leaf)) (.leaf))))) (.leaf))))))) (.two (.leaf) (.leaf))))
def sh_slices_Equal_of_api_Token_api_Token (s1_1 : Option Addr) (s1_1n : Nat) (s1_1c : Nat) (s2_2 : Option Addr) (s2_2n : Nat) (s2_2c : Nat) (R : Ending → World → Prop) (w : World) : Prop :=
  br (decide ((((s1_1n : Int)) : Int) ≠ ((s2_2n : Int)))) (R (.returned (.bool false)) w) (∃ (I3 : Int → World → Nat → Prop), (∃ m7 : Nat, I3 0 w m7) ∧ ∀ (t13_4 : Int) (w5 : World) (m6 : Nat), I3 t13_4 w5 m6 → ∀ _ : Env, (br (decide ((t13_4 : Int) < ((s1_1n : Int)))) (drw w5 fun w8 =>
  idx s1_1 s1_1n t13_4 6 fun p9 =>
  ∃ (x10 : List UInt8), World.cell? w8 (p9.add 0) = some (.string ⟨⟨x10⟩⟩) ∧ (∃ (x11 : List UInt8), World.cell? w8 (p9.add 1) = some (.string ⟨⟨x11⟩⟩) ∧ (∃ (x12 : List UInt8), World.cell? w8 (p9.add 2) = some (.string ⟨⟨x12⟩⟩) ∧ (∃ (x13 : Int), World.cell? w8 (p9.add 3) = some (.int .i64 x13) ∧ (∃ (x14 : Int), World.cell? w8 (p9.add 4) = some (.int .i64 x14) ∧ (∃ (x15 : List UInt8), World.cell? w8 (p9.add 5) = some (.string ⟨⟨x15⟩⟩) ∧ (idx s2_2 s2_2n t13_4 6 fun p16 =>
  ∃ (x17 : List UInt8), World.cell? w8 (p16.add 0) = some (.string ⟨⟨x17⟩⟩) ∧ (∃ (x18 : List UInt8), World.cell? w8 (p16.add 1) = some (.string ⟨⟨x18⟩⟩) ∧ (∃ (x19 : List UInt8), World.cell? w8 (p16.add 2) = some (.string ⟨⟨x19⟩⟩) ∧ (∃ (x20 : Int), World.cell? w8 (p16.add 3) = some (.int .i64 x20) ∧ (∃ (x21 : Int), World.cell? w8 (p16.add 4) = some (.int .i64 x21) ∧ (∃ (x22 : List UInt8), World.cell? w8 (p16.add 5) = some (.string ⟨⟨x22⟩⟩) ∧ (br (!(decide ((x10 : List UInt8) = x17) && (decide ((x11 : List UInt8) = x18) && ((decide ((x12 : List UInt8) = x19) && (decide ((x13 : Int) = x20) && true)) && (decide ((x14 : Int) = x21) && (decide ((x15 : List UInt8) = x22) && true)))))) (R (.returned (.bool false)) w8) (∃ m23 : Nat, m23 < m6 ∧ I3 (IntKind.i64.wrap (t13_4 + 1)) w8 m23)))))))))))))) (R (.returned (.bool true)) w5)))
set_option maxRecDepth 100000 in
theorem e_slices_Equal_of_api_Token_api_Token (s1_1 : Option Addr) (s1_1n : Nat) (s1_1c : Nat) (s2_2 : Option Addr) (s2_2n : Nat) (s2_2c : Nat) (R : Ending → World → Prop) (w : World) : fnV Tryz.prog Tryz.f45 an_slices_Equal_of_api_Token_api_Token [.slice s1_1 s1_1n s1_1c, .slice s2_2 s2_2n s2_2c] R w = sh_slices_Equal_of_api_Token_api_Token s1_1 s1_1n s1_1c s2_2 s2_2n s2_2c R w := by kernel_rfl
theorem c_slices_Equal_of_api_Token_api_Token {s1_1 : Option Addr} {s1_1n : Nat} {s1_1c : Nat} {s2_2 : Option Addr} {s2_2n : Nat} {s2_2c : Nat} {R : Ending → World → Prop} {w : World} (h : sh_slices_Equal_of_api_Token_api_Token s1_1 s1_1n s1_1c s2_2 s2_2n s2_2c R w) : Calls Tryz.prog F_slices_Equal_of_api_Token_api_Token ⟨[.slice s1_1 s1_1n s1_1c, .slice s2_2 s2_2n s2_2c]⟩ w R := calls_of_fnV Tryz.func45 (by rw [e_slices_Equal_of_api_Token_api_Token]; exact h)

def an_transcript_places : Ann := .two (.leaf) (.two (.leaf) (.leaf))
def sh_transcript_places (l_1 : Option Addr) (l_1n : Nat) (l_1c : Nat) (R : Ending → World → Prop) (w : World) : Prop :=
  al w 22 [.slice l_1 l_1n l_1c] fun p2 w3 =>
  R (.returned (.func (.func 102) ⟨[]⟩ ⟨[.pointer (some p2)]⟩)) w3
set_option maxRecDepth 100000 in
theorem e_transcript_places (l_1 : Option Addr) (l_1n : Nat) (l_1c : Nat) (R : Ending → World → Prop) (w : World) : fnV Tryz.prog Tryz.f46 an_transcript_places [.slice l_1 l_1n l_1c] R w = sh_transcript_places l_1 l_1n l_1c R w := by kernel_rfl
theorem c_transcript_places {l_1 : Option Addr} {l_1n : Nat} {l_1c : Nat} {R : Ending → World → Prop} {w : World} (h : sh_transcript_places l_1 l_1n l_1c R w) : Calls Tryz.prog F_transcript_places ⟨[.slice l_1 l_1n l_1c]⟩ w R := calls_of_fnV Tryz.func46 (by rw [e_transcript_places]; exact h)

def an_strings_Builder_WriteString : Ann := .two (.leaf) (.two (.leaf) (.two (.leaf) (.two (.leaf) (.leaf))))
def sh_strings_Builder_WriteString (b_1 : Option Addr) (s_2 : List UInt8) (R : Ending → World → Prop) (w : World) : Prop :=
  Calls Tryz.prog 104 ⟨[.pointer b_1]⟩ w fun (e3 : Ending) (w4 : World) =>
  e3 = .returned (.tuple ⟨[]⟩) ∧ (dr b_1 fun p5 =>
  ∃ (x6 : Option Addr) (x6n : Nat) (x6c : Nat), World.cell? w4 (p5.add 1) = some (.slice x6 x6n x6c) ∧ (app Tryz.prog [73, 9] 73 (.slice x6 x6n x6c) (.string ⟨⟨s_2⟩⟩) w4 fun a7 a7n a7c w8 =>
  dr b_1 fun p9 =>
  stL w8 (p9.add 1) 0 [.slice a7 a7n a7c] fun w10 =>
  R (.returned (.tuple ⟨[.int .i64 ((List.length s_2 : Int)), .nilIface]⟩)) w10))
set_option maxRecDepth 100000 in
theorem e_strings_Builder_WriteString (b_1 : Option Addr) (s_2 : List UInt8) (R : Ending → World → Prop) (w : World) : fnV Tryz.prog Tryz.f47 an_strings_Builder_WriteString [.pointer b_1, .string ⟨⟨s_2⟩⟩] R w = sh_strings_Builder_WriteString b_1 s_2 R w := by kernel_rfl
theorem c_strings_Builder_WriteString {b_1 : Option Addr} {s_2 : List UInt8} {R : Ending → World → Prop} {w : World} (h : sh_strings_Builder_WriteString b_1 s_2 R w) : Calls Tryz.prog F_strings_Builder_WriteString ⟨[.pointer b_1, .string ⟨⟨s_2⟩⟩]⟩ w R := calls_of_fnV Tryz.func47 (by rw [e_strings_Builder_WriteString]; exact h)

def an_tokenizer_gap : Ann := .two (.leaf) (.cut 2097124 [] (.two (.leaf) (.two (.two (.leaf) (.leaf)) (.leaf))) (.two (.leaf) (.two (.leaf) (.leaf))))
def sh_tokenizer_gap (s_1 : List UInt8) (R : Ending → World → Prop) (w : World) : Prop :=
  ∀ (K2 : World → Prop), (∀  (w3 : World), (∀ _ : Env, (ssl s_1 1 (IntKind.i64.wrap (((List.length s_1 : Int)) - 1)) fun s4 =>
  Calls Tryz.prog 108 ⟨[.string ⟨⟨s4⟩⟩]⟩ w3 fun (e5 : Ending) (w6 : World) =>
  ∃ (x7 : Int) (x8 : Value), e5 = .returned (.tuple ⟨[.int .i64 x7, x8]⟩) ∧ (ifc x8 fun b9 =>
  br b9 (br (decide ((1 : Int) ≤ x7)) (br (decide ((x7 : Int) ≤ 64)) (Calls Tryz.prog 109 ⟨[.int .i64 x7]⟩ w6 fun (e10 : Ending) (w11 : World) =>
  ∃ (x12 : List UInt8), e10 = .returned (.string ⟨⟨x12⟩⟩) ∧ (sadd ([91]) x12 fun s13 =>
  sadd s13 ([93]) fun s14 =>
  R (.returned (.bool (decide ((s_1 : List UInt8) = s14)))) w11)) (R (.returned (.bool false)) w6)) (R (.returned (.bool false)) w6)) (R (.returned (.bool false)) w6)))) → K2 w3) → (br (decide ((((List.length s_1 : Int)) : Int) < 3)) (R (.returned (.bool false)) w) (sidx s_1 0 fun b15 =>
  br (decide ((((b15.toNat : Int)) : Int) ≠ 91)) (R (.returned (.bool false)) w) (sidx s_1 (IntKind.i64.wrap (((List.length s_1 : Int)) - 1)) fun b16 =>
  br (decide ((((b16.toNat : Int)) : Int) ≠ 93)) (R (.returned (.bool false)) w) (K2 w))))
set_option maxRecDepth 100000 in
theorem e_tokenizer_gap (s_1 : List UInt8) (R : Ending → World → Prop) (w : World) : fnV Tryz.prog Tryz.f50 an_tokenizer_gap [.string ⟨⟨s_1⟩⟩] R w = sh_tokenizer_gap s_1 R w := by kernel_rfl
theorem c_tokenizer_gap {s_1 : List UInt8} {R : Ending → World → Prop} {w : World} (h : sh_tokenizer_gap s_1 R w) : Calls Tryz.prog F_tokenizer_gap ⟨[.string ⟨⟨s_1⟩⟩]⟩ w R := calls_of_fnV Tryz.func50 (by rw [e_tokenizer_gap]; exact h)

def an_tokenizer_mark : Ann := .two (.leaf) (.two (.two (.leaf) (.two (.two (.leaf) (.leaf)) (.leaf))) (.two (.leaf) (.two (.leaf) (.leaf))))
def sh_tokenizer_mark (s_1 : List UInt8) (R : Ending → World → Prop) (w : World) : Prop :=
  br (decide ((((List.length s_1 : Int)) : Int) ≠ 1)) (R (.returned (.bool false)) w) (sidx s_1 0 fun b2 =>
  Calls Tryz.prog 55 ⟨[.int .u8 ((b2.toNat : Int))]⟩ w fun (e3 : Ending) (w4 : World) =>
  ∃ (x5 : Int), e3 = .returned (.int .i64 x5) ∧ (br (decide ((x5 : Int) = 5)) (R (.returned (.bool true)) w4) (R (.returned (.bool (decide ((x5 : Int) = 4)))) w4)))
set_option maxRecDepth 100000 in
theorem e_tokenizer_mark (s_1 : List UInt8) (R : Ending → World → Prop) (w : World) : fnV Tryz.prog Tryz.f51 an_tokenizer_mark [.string ⟨⟨s_1⟩⟩] R w = sh_tokenizer_mark s_1 R w := by kernel_rfl
theorem c_tokenizer_mark {s_1 : List UInt8} {R : Ending → World → Prop} {w : World} (h : sh_tokenizer_mark s_1 R w) : Calls Tryz.prog F_tokenizer_mark ⟨[.string ⟨⟨s_1⟩⟩]⟩ w R := calls_of_fnV Tryz.func51 (by rw [e_tokenizer_mark]; exact h)

def an_tokenizer_isWord : Ann := .two (.leaf) (.two (.leaf) (.leaf))
def sh_tokenizer_isWord (t_1 : List UInt8) (t_2 : List UInt8) (t_3 : List UInt8) (t_4 : Int) (t_5 : Int) (t_6 : List UInt8) (R : Ending → World → Prop) (w : World) : Prop :=
  al w 31 [.string ⟨⟨t_1⟩⟩, .string ⟨⟨t_2⟩⟩, .string ⟨⟨t_3⟩⟩, .int .i64 t_4, .int .i64 t_5, .string ⟨⟨t_6⟩⟩] fun p7 w8 =>
  ∃ (x9 : Int), World.cell? w8 (p7.add 4) = some (.int .i64 x9) ∧ (R (.returned (.bool (decide (((bitA .i64 x9 10) : Int) = 0)))) w8)
set_option maxRecDepth 100000 in
theorem e_tokenizer_isWord (t_1 : List UInt8) (t_2 : List UInt8) (t_3 : List UInt8) (t_4 : Int) (t_5 : Int) (t_6 : List UInt8) (R : Ending → World → Prop) (w : World) : fnV Tryz.prog Tryz.f52 an_tokenizer_isWord [.agg ⟨[.string ⟨⟨t_1⟩⟩, .string ⟨⟨t_2⟩⟩, .string ⟨⟨t_3⟩⟩, .int .i64 t_4, .int .i64 t_5, .string ⟨⟨t_6⟩⟩]⟩] R w = sh_tokenizer_isWord t_1 t_2 t_3 t_4 t_5 t_6 R w := by kernel_rfl
theorem c_tokenizer_isWord {t_1 : List UInt8} {t_2 : List UInt8} {t_3 : List UInt8} {t_4 : Int} {t_5 : Int} {t_6 : List UInt8} {R : Ending → World → Prop} {w : World} (h : sh_tokenizer_isWord t_1 t_2 t_3 t_4 t_5 t_6 R w) : Calls Tryz.prog F_tokenizer_isWord ⟨[.agg ⟨[.string ⟨⟨t_1⟩⟩, .string ⟨⟨t_2⟩⟩, .string ⟨⟨t_3⟩⟩, .int .i64 t_4, .int .i64 t_5, .string ⟨⟨t_6⟩⟩]⟩]⟩ w R := calls_of_fnV Tryz.func52 (by rw [e_tokenizer_isWord]; exact h)

def an_tokenizer_norm : Ann := .two (.leaf) (.two (.two (.leaf) (.one (.loop 32716 [(6, .one (.int .i64))] (.two (.leaf) (.two (.two (.leaf) (.leaf)) (.two (.one (.two (.leaf) (.two (.leaf) (.two (.two (.leaf) (.leaf)) (.leaf))))) (.leaf))))))) (.two (.leaf) (.leaf)))
def sh_tokenizer_norm (s_1 : List UInt8) (R : Ending → World → Prop) (w : World) : Prop :=
  ∃ (I2 : Int → World → Nat → Prop), (∃ m6 : Nat, I2 0 w m6) ∧ ∀ (t6_3 : Int) (w4 : World) (m5 : Nat), I2 t6_3 w4 m5 → ∀ _ : Env, (br (decide ((t6_3 : Int) < ((List.length s_1 : Int)))) (sidx s_1 t6_3 fun b7 =>
  Calls Tryz.prog 110 ⟨[.int .u8 ((b7.toNat : Int))]⟩ w4 fun (e8 : Ending) (w9 : World) =>
  ∃ (x10 : Bool), e8 = .returned (.bool x10) ∧ (br (!x10) (R (.returned (.bool false)) w9) (∃ m11 : Nat, m11 < m5 ∧ I2 (IntKind.i64.wrap (t6_3 + 1)) w9 m11))) (br (decide ((s_1 : List UInt8) ≠ ([]))) (R (.returned (.bool (decide ((((List.length s_1 : Int)) : Int) ≤ 64)))) w4) (R (.returned (.bool false)) w4)))
set_option maxRecDepth 100000 in
theorem e_tokenizer_norm (s_1 : List UInt8) (R : Ending → World → Prop) (w : World) : fnV Tryz.prog Tryz.f53 an_tokenizer_norm [.string ⟨⟨s_1⟩⟩] R w = sh_tokenizer_norm s_1 R w := by kernel_rfl
theorem c_tokenizer_norm {s_1 : List UInt8} {R : Ending → World → Prop} {w : World} (h : sh_tokenizer_norm s_1 R w) : Calls Tryz.prog F_tokenizer_norm ⟨[.string ⟨⟨s_1⟩⟩]⟩ w R := calls_of_fnV Tryz.func53 (by rw [e_tokenizer_norm]; exact h)

def an_tokenizer_named : Ann := .two (.leaf) (.two (.leaf) (.leaf))
def sh_tokenizer_named (s_1 : List UInt8) (R : Ending → World → Prop) (w : World) : Prop :=
  br (decide ((s_1 : List UInt8) = ([]))) (R (.returned (.bool true)) w) (Calls Tryz.prog 111 ⟨[.string ⟨⟨s_1⟩⟩]⟩ w fun (e2 : Ending) (w3 : World) =>
  ∃ (x4 : Bool), e2 = .returned (.bool x4) ∧ (R (.returned (.bool x4)) w3))
set_option maxRecDepth 100000 in
theorem e_tokenizer_named (s_1 : List UInt8) (R : Ending → World → Prop) (w : World) : fnV Tryz.prog Tryz.f54 an_tokenizer_named [.string ⟨⟨s_1⟩⟩] R w = sh_tokenizer_named s_1 R w := by kernel_rfl
theorem c_tokenizer_named {s_1 : List UInt8} {R : Ending → World → Prop} {w : World} (h : sh_tokenizer_named s_1 R w) : Calls Tryz.prog F_tokenizer_named ⟨[.string ⟨⟨s_1⟩⟩]⟩ w R := calls_of_fnV Tryz.func54 (by rw [e_tokenizer_named]; exact h)

def an_charset_Kind : Ann := .two (.leaf) (.two (.one (.cut 262136 [(3, .one (.bool))] (.leaf) (.two (.two (.leaf) (.leaf)) (.cut 536608768 [(18, .one (.bool))] (.leaf) (.two (.two (.leaf) (.leaf)) (.cut 68182605824 [(29, .one (.bool))] (.leaf) (.two (.two (.leaf) (.leaf)) (.two (.leaf) (.two (.two (.leaf) (.leaf)) (.two (.leaf) (.two (.two (.leaf) (.leaf)) (.two (.leaf) (.two (.two (.leaf) (.leaf)) (.leaf)))))))))))))) (.two (.leaf) (.leaf)))
def sh_charset_Kind (c_1 : Int) (R : Ending → World → Prop) (w : World) : Prop :=
  ∀ (K2 : Bool → World → Prop), (∀ (t3_3 : Bool) (w4 : World), (∀ _ : Env, (br t3_3 (R (.returned (.int .i64 1)) w4) (∀ (K5 : Bool → World → Prop), (∀ (t18_6 : Bool) (w7 : World), (∀ _ : Env, (br t18_6 (R (.returned (.int .i64 2)) w7) (∀ (K8 : Bool → World → Prop), (∀ (t29_9 : Bool) (w10 : World), (∀ _ : Env, (br t29_9 (R (.returned (.int .i64 3)) w10) (br (decide ((c_1 : Int) = 39)) (R (.returned (.int .i64 4)) w10) (br (decide ((c_1 : Int) = 32)) (R (.returned (.int .i64 6)) w10) (br (decide ((c_1 : Int) ≠ 0)) (Calls Tryz.prog 112 ⟨[.string ⟨⟨[46, 44, 59, 58, 33, 63, 40, 41, 45]⟩⟩, .int .u8 c_1]⟩ w10 fun (e11 : Ending) (w12 : World) =>
  ∃ (x13 : Int), e11 = .returned (.int .i64 x13) ∧ (br (decide ((0 : Int) ≤ x13)) (R (.returned (.int .i64 5)) w12) (R (.returned (.int .i64 0)) w12))) (R (.returned (.int .i64 0)) w10)))))) → K8 t29_9 w10) → (br (decide ((48 : Int) ≤ c_1)) (K8 (decide ((c_1 : Int) ≤ 57)) w7) (K8 false w7))))) → K5 t18_6 w7) → (br (decide ((c_1 : Int) = 94)) (K5 true w4) (br (decide ((c_1 : Int) = 126)) (K5 true w4) (K5 (decide ((c_1 : Int) = 37)) w4)))))) → K2 t3_3 w4) → (br (decide ((97 : Int) ≤ c_1)) (br (decide ((c_1 : Int) ≤ 122)) (K2 true w) (br (decide ((65 : Int) ≤ c_1)) (K2 (decide ((c_1 : Int) ≤ 90)) w) (K2 false w))) (br (decide ((65 : Int) ≤ c_1)) (K2 (decide ((c_1 : Int) ≤ 90)) w) (K2 false w)))
set_option maxRecDepth 100000 in
theorem e_charset_Kind (c_1 : Int) (R : Ending → World → Prop) (w : World) : fnV Tryz.prog Tryz.f55 an_charset_Kind [.int .u8 c_1] R w = sh_charset_Kind c_1 R w := by kernel_rfl
theorem c_charset_Kind {c_1 : Int} {R : Ending → World → Prop} {w : World} (h : sh_charset_Kind c_1 R w) : Calls Tryz.prog F_charset_Kind ⟨[.int .u8 c_1]⟩ w R := calls_of_fnV Tryz.func55 (by rw [e_charset_Kind]; exact h)

def an_slices_ContainsFunc_of_byte_byte : Ann := .two (.leaf) (.two (.leaf) (.leaf))
def sh_slices_ContainsFunc_of_byte_byte (s_1 : Option Addr) (s_1n : Nat) (s_1c : Nat) (f_2 : Fn) (f_2a : Array Value) (f_2b : Array Value) (R : Ending → World → Prop) (w : World) : Prop :=
  Calls Tryz.prog 113 ⟨[.slice s_1 s_1n s_1c, .func f_2 f_2a f_2b]⟩ w fun (e3 : Ending) (w4 : World) =>
  ∃ (x5 : Int), e3 = .returned (.int .i64 x5) ∧ (R (.returned (.bool (decide ((0 : Int) ≤ x5)))) w4)
set_option maxRecDepth 100000 in
theorem e_slices_ContainsFunc_of_byte_byte (s_1 : Option Addr) (s_1n : Nat) (s_1c : Nat) (f_2 : Fn) (f_2a : Array Value) (f_2b : Array Value) (R : Ending → World → Prop) (w : World) : fnV Tryz.prog Tryz.f56 an_slices_ContainsFunc_of_byte_byte [.slice s_1 s_1n s_1c, .func f_2 f_2a f_2b] R w = sh_slices_ContainsFunc_of_byte_byte s_1 s_1n s_1c f_2 f_2a f_2b R w := by kernel_rfl
theorem c_slices_ContainsFunc_of_byte_byte {s_1 : Option Addr} {s_1n : Nat} {s_1c : Nat} {f_2 : Fn} {f_2a : Array Value} {f_2b : Array Value} {R : Ending → World → Prop} {w : World} (h : sh_slices_ContainsFunc_of_byte_byte s_1 s_1n s_1c f_2 f_2a f_2b R w) : Calls Tryz.prog F_slices_ContainsFunc_of_byte_byte ⟨[.slice s_1 s_1n s_1c, .func f_2 f_2a f_2b]⟩ w R := calls_of_fnV Tryz.func56 (by rw [e_slices_ContainsFunc_of_byte_byte]; exact h)

def an_charset_IsWord_1 : Ann := .two (.leaf) (.two (.leaf) (.two (.leaf) (.leaf)))
def sh_charset_IsWord_1 (c_1 : Int) (R : Ending → World → Prop) (w : World) : Prop :=
  Calls Tryz.prog 55 ⟨[.int .u8 c_1]⟩ w fun (e2 : Ending) (w3 : World) =>
  ∃ (x4 : Int), e2 = .returned (.int .i64 x4) ∧ (br (decide ((x4 : Int) = 5)) (R (.returned (.bool true)) w3) (R (.returned (.bool (decide ((x4 : Int) = 6)))) w3))
set_option maxRecDepth 100000 in
theorem e_charset_IsWord_1 (c_1 : Int) (R : Ending → World → Prop) (w : World) : fnV Tryz.prog Tryz.f57 an_charset_IsWord_1 [.int .u8 c_1] R w = sh_charset_IsWord_1 c_1 R w := by kernel_rfl
theorem c_charset_IsWord_1 {c_1 : Int} {R : Ending → World → Prop} {w : World} (h : sh_charset_IsWord_1 c_1 R w) : Calls Tryz.prog F_charset_IsWord_1 ⟨[.int .u8 c_1]⟩ w R := calls_of_fnV Tryz.func57 (by rw [e_charset_IsWord_1]; exact h)

def an_rewriting_right : Ann := .two (.leaf) (.two (.one (.cut 4088 [(3, .one (.bool))] (.leaf) (.two (.two (.leaf) (.leaf)) (.cut 8384512 [(12, .one (.bool))] (.leaf) (.two (.two (.leaf) (.leaf)) (.cut 17171480576 [(23, .one (.bool))] (.leaf) (.two (.two (.leaf) (.leaf)) (.two (.leaf) (.two (.two (.leaf) (.leaf)) (.leaf)))))))))) (.two (.leaf) (.leaf)))
def sh_rewriting_right (x_1 : List UInt8) (x_2 : List UInt8) (R : Ending → World → Prop) (w : World) : Prop :=
  al w 91 [.string ⟨⟨x_1⟩⟩, .string ⟨⟨x_2⟩⟩] fun p3 w4 =>
  ∀ (K5 : Bool → World → Prop), (∀ (t3_6 : Bool) (w7 : World), (∀ _ : Env, (br t3_6 (R (.returned (.int .i64 5)) w7) (∀ (K8 : Bool → World → Prop), (∀ (t12_9 : Bool) (w10 : World), (∀ _ : Env, (br t12_9 (R (.returned (.int .i64 4)) w10) (∀ (K11 : Bool → World → Prop), (∀ (t23_12 : Bool) (w13 : World), (∀ _ : Env, (br t23_12 (R (.returned (.int .i64 11)) w13) (∃ (x14 : List UInt8), World.cell? w13 (p3.add 1) = some (.string ⟨⟨x14⟩⟩) ∧ (∃ (x15 : List UInt8), World.cell? w13 (p3.add 0) = some (.string ⟨⟨x15⟩⟩) ∧ (br (decide ((((List.length x15 : Int)) : Int) < ((List.length x14 : Int)))) (R (.returned (.int .i64 24)) w13) (∃ (x16 : List UInt8), World.cell? w13 (p3.add 1) = some (.string ⟨⟨x16⟩⟩) ∧ (∃ (x17 : List UInt8), World.cell? w13 (p3.add 0) = some (.string ⟨⟨x17⟩⟩) ∧ (br (decide ((((List.length x16 : Int)) : Int) = ((List.length x17 : Int)))) (∃ (x18 : List UInt8), World.cell? w13 (p3.add 1) = some (.string ⟨⟨x18⟩⟩) ∧ (∃ (x19 : List UInt8), World.cell? w13 (p3.add 0) = some (.string ⟨⟨x19⟩⟩) ∧ (br (!(Op.bytesLess x18 x19)) (R (.returned (.int .i64 24)) w13) (R (.returned (.int .i64 0)) w13)))) (R (.returned (.int .i64 0)) w13))))))))) → K11 t23_12 w13) → (∃ (x20 : List UInt8), World.cell? w10 (p3.add 0) = some (.string ⟨⟨x20⟩⟩) ∧ (Calls Tryz.prog 114 ⟨[.string ⟨⟨x20⟩⟩]⟩ w10 fun (e21 : Ending) (w22 : World) =>
  ∃ (x23 : Bool), e21 = .returned (.bool x23) ∧ (br (!x23) (K11 true w22) (∃ (x24 : List UInt8), World.cell? w22 (p3.add 1) = some (.string ⟨⟨x24⟩⟩) ∧ (Calls Tryz.prog 114 ⟨[.string ⟨⟨x24⟩⟩]⟩ w22 fun (e25 : Ending) (w26 : World) =>
  ∃ (x27 : Bool), e25 = .returned (.bool x27) ∧ (K11 (!x27) w26))))))))) → K8 t12_9 w10) → (∃ (x28 : List UInt8), World.cell? w7 (p3.add 0) = some (.string ⟨⟨x28⟩⟩) ∧ (br (decide ((64 : Int) < ((List.length x28 : Int)))) (K8 true w7) (∃ (x29 : List UInt8), World.cell? w7 (p3.add 1) = some (.string ⟨⟨x29⟩⟩) ∧ (K8 (decide ((64 : Int) < ((List.length x29 : Int)))) w7))))))) → K5 t3_6 w7) → (∃ (x30 : List UInt8), World.cell? w4 (p3.add 0) = some (.string ⟨⟨x30⟩⟩) ∧ (br (decide ((x30 : List UInt8) = ([]))) (K5 true w4) (∃ (x31 : List UInt8), World.cell? w4 (p3.add 1) = some (.string ⟨⟨x31⟩⟩) ∧ (K5 (decide ((x31 : List UInt8) = ([]))) w4))))
set_option maxRecDepth 100000 in
theorem e_rewriting_right (x_1 : List UInt8) (x_2 : List UInt8) (R : Ending → World → Prop) (w : World) : fnV Tryz.prog Tryz.f58 an_rewriting_right [.agg ⟨[.string ⟨⟨x_1⟩⟩, .string ⟨⟨x_2⟩⟩]⟩] R w = sh_rewriting_right x_1 x_2 R w := by kernel_rfl
theorem c_rewriting_right {x_1 : List UInt8} {x_2 : List UInt8} {R : Ending → World → Prop} {w : World} (h : sh_rewriting_right x_1 x_2 R w) : Calls Tryz.prog F_rewriting_right ⟨[.agg ⟨[.string ⟨⟨x_1⟩⟩, .string ⟨⟨x_2⟩⟩]⟩]⟩ w R := calls_of_fnV Tryz.func58 (by rw [e_rewriting_right]; exact h)

def an_rewriting_Trace : Ann := .two (.leaf) (.two (.two (.leaf) (.two (.leaf) (.two (.two (.leaf) (.leaf)) (.leaf)))) (.two (.leaf) (.leaf)))
def sh_rewriting_Trace (rules_1 : Option Addr) (rules_1n : Nat) (rules_1c : Nat) (w_2 : List UInt8) (R : Ending → World → Prop) (w : World) : Prop :=
  Calls Tryz.prog 115 ⟨[.slice rules_1 rules_1n rules_1c, .string ⟨⟨w_2⟩⟩]⟩ w fun (e3 : Ending) (w4 : World) =>
  ∃ (x5 : Int), e3 = .returned (.int .i64 x5) ∧ (br (decide ((x5 : Int) ≠ 0)) (R (.returned (.tuple ⟨[.slice none 0 0, .int .i64 x5]⟩)) w4) (Calls Tryz.prog 116 ⟨[.slice rules_1 rules_1n rules_1c, .string ⟨⟨w_2⟩⟩]⟩ w4 fun (e6 : Ending) (w7 : World) =>
  ∃ (x8 : Option Addr) (x8n : Nat) (x8c : Nat) (x9 : Int), e6 = .returned (.tuple ⟨[.slice x8 x8n x8c, .int .i64 x9]⟩) ∧ (R (.returned (.tuple ⟨[.slice x8 x8n x8c, .int .i64 x9]⟩)) w7)))
set_option maxRecDepth 100000 in
theorem e_rewriting_Trace (rules_1 : Option Addr) (rules_1n : Nat) (rules_1c : Nat) (w_2 : List UInt8) (R : Ending → World → Prop) (w : World) : fnV Tryz.prog Tryz.f59 an_rewriting_Trace [.slice rules_1 rules_1n rules_1c, .string ⟨⟨w_2⟩⟩] R w = sh_rewriting_Trace rules_1 rules_1n rules_1c w_2 R w := by kernel_rfl
theorem c_rewriting_Trace {rules_1 : Option Addr} {rules_1n : Nat} {rules_1c : Nat} {w_2 : List UInt8} {R : Ending → World → Prop} {w : World} (h : sh_rewriting_Trace rules_1 rules_1n rules_1c w_2 R w) : Calls Tryz.prog F_rewriting_Trace ⟨[.slice rules_1 rules_1n rules_1c, .string ⟨⟨w_2⟩⟩]⟩ w R := calls_of_fnV Tryz.func59 (by rw [e_rewriting_Trace]; exact h)

def an_tokenizer_bad : Ann := .two (.leaf) (.two (.leaf) (.leaf))
def sh_tokenizer_bad (t_1 : List UInt8) (t_2 : List UInt8) (t_3 : List UInt8) (t_4 : Int) (t_5 : Int) (t_6 : List UInt8) (R : Ending → World → Prop) (w : World) : Prop :=
  al w 31 [.string ⟨⟨t_1⟩⟩, .string ⟨⟨t_2⟩⟩, .string ⟨⟨t_3⟩⟩, .int .i64 t_4, .int .i64 t_5, .string ⟨⟨t_6⟩⟩] fun p7 w8 =>
  ∃ (x9 : List UInt8), World.cell? w8 (p7.add 0) = some (.string ⟨⟨x9⟩⟩) ∧ (∃ (x10 : List UInt8), World.cell? w8 (p7.add 1) = some (.string ⟨⟨x10⟩⟩) ∧ (∃ (x11 : List UInt8), World.cell? w8 (p7.add 2) = some (.string ⟨⟨x11⟩⟩) ∧ (∃ (x12 : Int), World.cell? w8 (p7.add 3) = some (.int .i64 x12) ∧ (∃ (x13 : Int), World.cell? w8 (p7.add 4) = some (.int .i64 x13) ∧ (∃ (x14 : List UInt8), World.cell? w8 (p7.add 5) = some (.string ⟨⟨x14⟩⟩) ∧ (Calls Tryz.prog 14 ⟨[.agg ⟨[.string ⟨⟨x9⟩⟩, .string ⟨⟨x10⟩⟩, .string ⟨⟨x11⟩⟩, .int .i64 x12, .int .i64 x13, .string ⟨⟨x14⟩⟩]⟩]⟩ w8 fun (e15 : Ending) (w16 : World) =>
  ∃ (x17 : Int), e15 = .returned (.int .i64 x17) ∧ (R (.returned (.bool (decide ((x17 : Int) ≠ 0)))) w16)))))))
set_option maxRecDepth 100000 in
theorem e_tokenizer_bad (t_1 : List UInt8) (t_2 : List UInt8) (t_3 : List UInt8) (t_4 : Int) (t_5 : Int) (t_6 : List UInt8) (R : Ending → World → Prop) (w : World) : fnV Tryz.prog Tryz.f60 an_tokenizer_bad [.agg ⟨[.string ⟨⟨t_1⟩⟩, .string ⟨⟨t_2⟩⟩, .string ⟨⟨t_3⟩⟩, .int .i64 t_4, .int .i64 t_5, .string ⟨⟨t_6⟩⟩]⟩] R w = sh_tokenizer_bad t_1 t_2 t_3 t_4 t_5 t_6 R w := by kernel_rfl
theorem c_tokenizer_bad {t_1 : List UInt8} {t_2 : List UInt8} {t_3 : List UInt8} {t_4 : Int} {t_5 : Int} {t_6 : List UInt8} {R : Ending → World → Prop} {w : World} (h : sh_tokenizer_bad t_1 t_2 t_3 t_4 t_5 t_6 R w) : Calls Tryz.prog F_tokenizer_bad ⟨[.agg ⟨[.string ⟨⟨t_1⟩⟩, .string ⟨⟨t_2⟩⟩, .string ⟨⟨t_3⟩⟩, .int .i64 t_4, .int .i64 t_5, .string ⟨⟨t_6⟩⟩]⟩]⟩ w R := calls_of_fnV Tryz.func60 (by rw [e_tokenizer_bad]; exact h)

def an_tokenizer_normalized : Ann := .two (.leaf) (.two (.two (.leaf) (.one (.loop 281474976709104 [(11, .one (.int .i64))] (.two (.leaf) (.two (.two (.leaf) (.leaf)) (.two (.one (.two (.leaf) (.two (.leaf) (.two (.two (.leaf) (.two (.leaf) (.leaf))) (.two (.leaf) (.two (.two (.leaf) (.two (.two (.leaf) (.leaf)) (.leaf))) (.leaf))))))) (.leaf))))))) (.two (.leaf) (.leaf)))
def sh_tokenizer_normalized (rules_1 : Option Addr) (rules_1n : Nat) (rules_1c : Nat) (l_2 : Option Addr) (l_2n : Nat) (l_2c : Nat) (R : Ending → World → Prop) (w : World) : Prop :=
  ∃ (I3 : Int → World → Nat → Prop), (∃ m7 : Nat, I3 0 w m7) ∧ ∀ (t11_4 : Int) (w5 : World) (m6 : Nat), I3 t11_4 w5 m6 → ∀ _ : Env, (br (decide ((t11_4 : Int) < ((l_2n : Int)))) (idx l_2 l_2n t11_4 6 fun p8 =>
  ∃ (x9 : List UInt8), World.cell? w5 (p8.add 0) = some (.string ⟨⟨x9⟩⟩) ∧ (idx l_2 l_2n t11_4 6 fun p10 =>
  stL w5 (p10.add 1) 0 [.string ⟨⟨x9⟩⟩] fun w11 =>
  idx l_2 l_2n t11_4 6 fun p12 =>
  ∃ (x13 : List UInt8), World.cell? w11 (p12.add 0) = some (.string ⟨⟨x13⟩⟩) ∧ (∃ (x14 : List UInt8), World.cell? w11 (p12.add 1) = some (.string ⟨⟨x14⟩⟩) ∧ (∃ (x15 : List UInt8), World.cell? w11 (p12.add 2) = some (.string ⟨⟨x15⟩⟩) ∧ (∃ (x16 : Int), World.cell? w11 (p12.add 3) = some (.int .i64 x16) ∧ (∃ (x17 : Int), World.cell? w11 (p12.add 4) = some (.int .i64 x17) ∧ (∃ (x18 : List UInt8), World.cell? w11 (p12.add 5) = some (.string ⟨⟨x18⟩⟩) ∧ (Calls Tryz.prog 52 ⟨[.agg ⟨[.string ⟨⟨x13⟩⟩, .string ⟨⟨x14⟩⟩, .string ⟨⟨x15⟩⟩, .int .i64 x16, .int .i64 x17, .string ⟨⟨x18⟩⟩]⟩]⟩ w11 fun (e19 : Ending) (w20 : World) =>
  ∃ (x21 : Bool), e19 = .returned (.bool x21) ∧ (br (!x21) (∃ m22 : Nat, m22 < m6 ∧ I3 (IntKind.i64.wrap (t11_4 + 1)) w20 m22) (idx l_2 l_2n t11_4 6 fun p23 =>
  ∃ (x24 : List UInt8), World.cell? w20 (p23.add 0) = some (.string ⟨⟨x24⟩⟩) ∧ (Calls Tryz.prog 18 ⟨[.slice rules_1 rules_1n rules_1c, .string ⟨⟨x24⟩⟩]⟩ w20 fun (e25 : Ending) (w26 : World) =>
  ∃ (x27 : List UInt8) (x28 : Int), e25 = .returned (.tuple ⟨[.string ⟨⟨x27⟩⟩, .int .i64 x28]⟩) ∧ (br (decide ((x28 : Int) ≠ 0)) (R (.returned (.tuple ⟨[.slice none 0 0, .int .i64 x28]⟩)) w26) (idx l_2 l_2n t11_4 6 fun p29 =>
  stL w26 (p29.add 1) 0 [.string ⟨⟨x27⟩⟩] fun w30 =>
  ∃ m31 : Nat, m31 < m6 ∧ I3 (IntKind.i64.wrap (t11_4 + 1)) w30 m31))))))))))))) (R (.returned (.tuple ⟨[.slice l_2 l_2n l_2c, .int .i64 0]⟩)) w5))
set_option maxRecDepth 100000 in
theorem e_tokenizer_normalized (rules_1 : Option Addr) (rules_1n : Nat) (rules_1c : Nat) (l_2 : Option Addr) (l_2n : Nat) (l_2c : Nat) (R : Ending → World → Prop) (w : World) : fnV Tryz.prog Tryz.f61 an_tokenizer_normalized [.slice rules_1 rules_1n rules_1c, .slice l_2 l_2n l_2c] R w = sh_tokenizer_normalized rules_1 rules_1n rules_1c l_2 l_2n l_2c R w := by kernel_rfl
theorem c_tokenizer_normalized {rules_1 : Option Addr} {rules_1n : Nat} {rules_1c : Nat} {l_2 : Option Addr} {l_2n : Nat} {l_2c : Nat} {R : Ending → World → Prop} {w : World} (h : sh_tokenizer_normalized rules_1 rules_1n rules_1c l_2 l_2n l_2c R w) : Calls Tryz.prog F_tokenizer_normalized ⟨[.slice rules_1 rules_1n rules_1c, .slice l_2 l_2n l_2c]⟩ w R := calls_of_fnV Tryz.func61 (by rw [e_tokenizer_normalized]; exact h)

def an_slices_Clone_of_api_Token_api_Token : Ann := .two (.leaf) (.two (.two (.leaf) (.two (.two (.leaf) (.leaf)) (.leaf))) (.two (.leaf) (.leaf)))
def sh_slices_Clone_of_api_Token_api_Token (s_1 : Option Addr) (s_1n : Nat) (s_1c : Nat) (R : Ending → World → Prop) (w : World) : Prop :=
  br (Option.isNone s_1) (R (.returned (.slice none 0 0)) w) (al w 31 [] fun p2 w3 =>
  app Tryz.prog [24, 24] 24 (.slice (some p2) 0 0) (.slice s_1 s_1n s_1c) w3 fun a4 a4n a4c w5 =>
  R (.returned (.slice a4 a4n a4c)) w5)
set_option maxRecDepth 100000 in
theorem e_slices_Clone_of_api_Token_api_Token (s_1 : Option Addr) (s_1n : Nat) (s_1c : Nat) (R : Ending → World → Prop) (w : World) : fnV Tryz.prog Tryz.f62 an_slices_Clone_of_api_Token_api_Token [.slice s_1 s_1n s_1c] R w = sh_slices_Clone_of_api_Token_api_Token s_1 s_1n s_1c R w := by kernel_rfl
theorem c_slices_Clone_of_api_Token_api_Token {s_1 : Option Addr} {s_1n : Nat} {s_1c : Nat} {R : Ending → World → Prop} {w : World} (h : sh_slices_Clone_of_api_Token_api_Token s_1 s_1n s_1c R w) : Calls Tryz.prog F_slices_Clone_of_api_Token_api_Token ⟨[.slice s_1 s_1n s_1c]⟩ w R := calls_of_fnV Tryz.func62 (by rw [e_slices_Clone_of_api_Token_api_Token]; exact h)

def an_ref15_long : Ann := .two (.leaf) (.two (.leaf) (.leaf))
def sh_ref15_long (s_1 : List UInt8) (R : Ending → World → Prop) (w : World) : Prop :=
  br (decide ((12 : Int) < ((List.length s_1 : Int)))) (br (decide ((((List.length s_1 : Int)) : Int) ≤ 64)) (R (.returned (.bool true)) w) (R (.returned (.bool (decide ((66 : Int) < ((List.length s_1 : Int)))))) w)) (R (.returned (.bool (decide ((66 : Int) < ((List.length s_1 : Int)))))) w)
set_option maxRecDepth 100000 in
theorem e_ref15_long (s_1 : List UInt8) (R : Ending → World → Prop) (w : World) : fnV Tryz.prog Tryz.f63 an_ref15_long [.string ⟨⟨s_1⟩⟩] R w = sh_ref15_long s_1 R w := by kernel_rfl
theorem c_ref15_long {s_1 : List UInt8} {R : Ending → World → Prop} {w : World} (h : sh_ref15_long s_1 R w) : Calls Tryz.prog F_ref15_long ⟨[.string ⟨⟨s_1⟩⟩]⟩ w R := calls_of_fnV Tryz.func63 (by rw [e_ref15_long]; exact h)

def an_slices_SortFunc_of_string_string : Ann := .two (.leaf) (.leaf)
def sh_slices_SortFunc_of_string_string (x_1 : Option Addr) (x_1n : Nat) (x_1c : Nat) (cmp_2 : Fn) (cmp_2a : Array Value) (cmp_2b : Array Value) (R : Ending → World → Prop) (w : World) : Prop :=
  Calls Tryz.prog 118 ⟨[.int .u64 (IntKind.u64.wrap ((x_1n : Int)))]⟩ w fun (e3 : Ending) (w4 : World) =>
  ∃ (x5 : Int), e3 = .returned (.int .i64 x5) ∧ (Calls Tryz.prog 117 ⟨[.slice x_1 x_1n x_1c, .int .i64 0, .int .i64 ((x_1n : Int)), .int .i64 x5, .func cmp_2 cmp_2a cmp_2b]⟩ w4 fun (e6 : Ending) (w7 : World) =>
  e6 = .returned (.tuple ⟨[]⟩) ∧ (R (.returned (.tuple ⟨[]⟩)) w7))
set_option maxRecDepth 100000 in
theorem e_slices_SortFunc_of_string_string (x_1 : Option Addr) (x_1n : Nat) (x_1c : Nat) (cmp_2 : Fn) (cmp_2a : Array Value) (cmp_2b : Array Value) (R : Ending → World → Prop) (w : World) : fnV Tryz.prog Tryz.f64 an_slices_SortFunc_of_string_string [.slice x_1 x_1n x_1c, .func cmp_2 cmp_2a cmp_2b] R w = sh_slices_SortFunc_of_string_string x_1 x_1n x_1c cmp_2 cmp_2a cmp_2b R w := by kernel_rfl
theorem c_slices_SortFunc_of_string_string {x_1 : Option Addr} {x_1n : Nat} {x_1c : Nat} {cmp_2 : Fn} {cmp_2a : Array Value} {cmp_2b : Array Value} {R : Ending → World → Prop} {w : World} (h : sh_slices_SortFunc_of_string_string x_1 x_1n x_1c cmp_2 cmp_2a cmp_2b R w) : Calls Tryz.prog F_slices_SortFunc_of_string_string ⟨[.slice x_1 x_1n x_1c, .func cmp_2 cmp_2a cmp_2b]⟩ w R := calls_of_fnV Tryz.func64 (by rw [e_slices_SortFunc_of_string_string]; exact h)

def an_charset_Compare_1 : Ann := .two (.leaf) (.two (.leaf) (.leaf))
def sh_charset_Compare_1 (s_1 : List UInt8) (R : Ending → World → Prop) (w : World) : Prop :=
  Calls Tryz.prog 68 ⟨[.string ⟨⟨s_1⟩⟩]⟩ w fun (e2 : Ending) (w3 : World) =>
  ∃ (x4 : List UInt8), e2 = .returned (.string ⟨⟨x4⟩⟩) ∧ (Calls Tryz.prog 67 ⟨[.string ⟨⟨x4⟩⟩]⟩ w3 fun (e5 : Ending) (w6 : World) =>
  ∃ (x7 : List UInt8), e5 = .returned (.string ⟨⟨x7⟩⟩) ∧ (R (.returned (.string ⟨⟨x7⟩⟩)) w6))
set_option maxRecDepth 100000 in
theorem e_charset_Compare_1 (s_1 : List UInt8) (R : Ending → World → Prop) (w : World) : fnV Tryz.prog Tryz.f66 an_charset_Compare_1 [.string ⟨⟨s_1⟩⟩] R w = sh_charset_Compare_1 s_1 R w := by kernel_rfl
theorem c_charset_Compare_1 {s_1 : List UInt8} {R : Ending → World → Prop} {w : World} (h : sh_charset_Compare_1 s_1 R w) : Calls Tryz.prog F_charset_Compare_1 ⟨[.string ⟨⟨s_1⟩⟩]⟩ w R := calls_of_fnV Tryz.func66 (by rw [e_charset_Compare_1]; exact h)

def an_charset_Fold : Ann := .two (.leaf) (.two (.leaf) (.two (.two (.leaf) (.one (.loop 268434480 [(10, .one (.int .i64))] (.two (.leaf) (.two (.two (.leaf) (.leaf)) (.two (.one (.two (.leaf) (.cut 2064384 [(20, .one (.bool))] (.leaf) (.two (.leaf) (.leaf))))) (.leaf))))))) (.two (.leaf) (.leaf))))
def sh_charset_Fold (s_1 : List UInt8) (R : Ending → World → Prop) (w : World) : Prop :=
  s2b Tryz.prog w 5 s_1 fun a2 a2n a2c w3 =>
  ∃ (I4 : Int → World → Nat → Prop), (∃ m8 : Nat, I4 0 w3 m8) ∧ ∀ (t10_5 : Int) (w6 : World) (m7 : Nat), I4 t10_5 w6 m7 → ∀ _ : Env, (br (decide ((t10_5 : Int) < ((a2n : Int)))) (idx a2 a2n t10_5 1 fun p9 =>
  ∃ (x10 : Int), World.cell? w6 p9 = some (.int .u8 x10) ∧ (∀ (K11 : Bool → World → Prop), (∀ (t20_12 : Bool) (w13 : World), (∀ _ : Env, (br t20_12 (idx a2 a2n t10_5 1 fun p14 =>
  stL w13 p14 0 [.int .u8 (IntKind.u8.wrap ((IntKind.u8.wrap (x10 - 65)) + 97))] fun w15 =>
  ∃ m16 : Nat, m16 < m7 ∧ I4 (IntKind.i64.wrap (t10_5 + 1)) w15 m16) (∃ m17 : Nat, m17 < m7 ∧ I4 (IntKind.i64.wrap (t10_5 + 1)) w13 m17))) → K11 t20_12 w13) → (br (decide ((65 : Int) ≤ x10)) (K11 (decide ((x10 : Int) ≤ 90)) w6) (K11 false w6)))) (b2s Tryz.prog w6 a2 a2n a2c fun s18 =>
  R (.returned (.string ⟨⟨s18⟩⟩)) w6))
set_option maxRecDepth 100000 in
theorem e_charset_Fold (s_1 : List UInt8) (R : Ending → World → Prop) (w : World) : fnV Tryz.prog Tryz.f67 an_charset_Fold [.string ⟨⟨s_1⟩⟩] R w = sh_charset_Fold s_1 R w := by kernel_rfl
theorem c_charset_Fold {s_1 : List UInt8} {R : Ending → World → Prop} {w : World} (h : sh_charset_Fold s_1 R w) : Calls Tryz.prog F_charset_Fold ⟨[.string ⟨⟨s_1⟩⟩]⟩ w R := calls_of_fnV Tryz.func67 (by rw [e_charset_Fold]; exact h)

def an_charset_Plain : Ann := .two (.leaf) (.two (.leaf) (.leaf))
def sh_charset_Plain (s_1 : List UInt8) (R : Ending → World → Prop) (w : World) : Prop :=
  s2b Tryz.prog w 5 s_1 fun a2 a2n a2c w3 =>
  Calls Tryz.prog 119 ⟨[.slice a2 a2n a2c, .func (.func 120) #[] #[]]⟩ w3 fun (e4 : Ending) (w5 : World) =>
  ∃ (x6 : Option Addr) (x6n : Nat) (x6c : Nat), e4 = .returned (.slice x6 x6n x6c) ∧ (b2s Tryz.prog w5 x6 x6n x6c fun s7 =>
  R (.returned (.string ⟨⟨s7⟩⟩)) w5)
set_option maxRecDepth 100000 in
theorem e_charset_Plain (s_1 : List UInt8) (R : Ending → World → Prop) (w : World) : fnV Tryz.prog Tryz.f68 an_charset_Plain [.string ⟨⟨s_1⟩⟩] R w = sh_charset_Plain s_1 R w := by kernel_rfl
theorem c_charset_Plain {s_1 : List UInt8} {R : Ending → World → Prop} {w : World} (h : sh_charset_Plain s_1 R w) : Calls Tryz.prog F_charset_Plain ⟨[.string ⟨⟨s_1⟩⟩]⟩ w R := calls_of_fnV Tryz.func68 (by rw [e_charset_Plain]; exact h)

def an_charset_Compare_2 : Ann := .two (.leaf) (.two (.leaf) (.leaf))
def sh_charset_Compare_2 (s_1 : List UInt8) (R : Ending → World → Prop) (w : World) : Prop :=
  R (.returned (.string ⟨⟨s_1⟩⟩)) w
set_option maxRecDepth 100000 in
theorem e_charset_Compare_2 (s_1 : List UInt8) (R : Ending → World → Prop) (w : World) : fnV Tryz.prog Tryz.f69 an_charset_Compare_2 [.string ⟨⟨s_1⟩⟩] R w = sh_charset_Compare_2 s_1 R w := by kernel_rfl
theorem c_charset_Compare_2 {s_1 : List UInt8} {R : Ending → World → Prop} {w : World} (h : sh_charset_Compare_2 s_1 R w) : Calls Tryz.prog F_charset_Compare_2 ⟨[.string ⟨⟨s_1⟩⟩]⟩ w R := calls_of_fnV Tryz.func69 (by rw [e_charset_Compare_2]; exact h)

def an_cmp_Compare_of_string : Ann := .two (.leaf) (.two (.leaf) (.two (.leaf) (.two (.two (.leaf) (.two (.two (.two (.leaf) (.two (.two (.leaf) (.leaf)) (.leaf))) (.two (.leaf) (.leaf))) (.leaf))) (.two (.two (.leaf) (.two (.two (.leaf) (.leaf)) (.leaf))) (.two (.two (.leaf) (.two (.two (.leaf) (.leaf)) (.leaf))) (.two (.two (.leaf) (.two (.two (.leaf) (.leaf)) (.leaf))) (.two (.leaf) (.leaf))))))))
def sh_cmp_Compare_of_string (x_1 : List UInt8) (y_2 : List UInt8) (R : Ending → World → Prop) (w : World) : Prop :=
  Calls Tryz.prog 121 ⟨[.string ⟨⟨x_1⟩⟩]⟩ w fun (e3 : Ending) (w4 : World) =>
  ∃ (x5 : Bool), e3 = .returned (.bool x5) ∧ (Calls Tryz.prog 121 ⟨[.string ⟨⟨y_2⟩⟩]⟩ w4 fun (e6 : Ending) (w7 : World) =>
  ∃ (x8 : Bool), e6 = .returned (.bool x8) ∧ (br x5 (br x8 (R (.returned (.int .i64 0)) w7) (R (.returned (.int .i64 ((-1)))) w7)) (br x8 (R (.returned (.int .i64 1)) w7) (br (Op.bytesLess x_1 y_2) (R (.returned (.int .i64 ((-1)))) w7) (br (!(Op.bytesLess x_1 y_2 || decide ((x_1 : List UInt8) = y_2))) (R (.returned (.int .i64 1)) w7) (R (.returned (.int .i64 0)) w7))))))
set_option maxRecDepth 100000 in
theorem e_cmp_Compare_of_string (x_1 : List UInt8) (y_2 : List UInt8) (R : Ending → World → Prop) (w : World) : fnV Tryz.prog Tryz.f70 an_cmp_Compare_of_string [.string ⟨⟨x_1⟩⟩, .string ⟨⟨y_2⟩⟩] R w = sh_cmp_Compare_of_string x_1 y_2 R w := by kernel_rfl
theorem c_cmp_Compare_of_string {x_1 : List UInt8} {y_2 : List UInt8} {R : Ending → World → Prop} {w : World} (h : sh_cmp_Compare_of_string x_1 y_2 R w) : Calls Tryz.prog F_cmp_Compare_of_string ⟨[.string ⟨⟨x_1⟩⟩, .string ⟨⟨y_2⟩⟩]⟩ w R := calls_of_fnV Tryz.func70 (by rw [e_cmp_Compare_of_string]; exact h)

def an_slices_IndexFunc_of_api_Token_api_Token : Ann := .two (.leaf) (.two (.two (.leaf) (.one (.loop 524080 [(8, .one (.int .i64))] (.two (.leaf) (.two (.two (.leaf) (.leaf)) (.two (.one (.two (.leaf) (.two (.leaf) (.two (.two (.leaf) (.leaf)) (.leaf))))) (.leaf))))))) (.two (.leaf) (.leaf)))
def sh_slices_IndexFunc_of_api_Token_api_Token (s_1 : Option Addr) (s_1n : Nat) (s_1c : Nat) (f_2 : Fn) (f_2a : Array Value) (f_2b : Array Value) (R : Ending → World → Prop) (w : World) : Prop :=
  ∃ (I3 : Int → World → Nat → Prop), (∃ m7 : Nat, I3 0 w m7) ∧ ∀ (t8_4 : Int) (w5 : World) (m6 : Nat), I3 t8_4 w5 m6 → ∀ _ : Env, (br (decide ((t8_4 : Int) < ((s_1n : Int)))) (idx s_1 s_1n t8_4 6 fun p8 =>
  ∃ (x9 : List UInt8), World.cell? w5 (p8.add 0) = some (.string ⟨⟨x9⟩⟩) ∧ (∃ (x10 : List UInt8), World.cell? w5 (p8.add 1) = some (.string ⟨⟨x10⟩⟩) ∧ (∃ (x11 : List UInt8), World.cell? w5 (p8.add 2) = some (.string ⟨⟨x11⟩⟩) ∧ (∃ (x12 : Int), World.cell? w5 (p8.add 3) = some (.int .i64 x12) ∧ (∃ (x13 : Int), World.cell? w5 (p8.add 4) = some (.int .i64 x13) ∧ (∃ (x14 : List UInt8), World.cell? w5 (p8.add 5) = some (.string ⟨⟨x14⟩⟩) ∧ (CallV Tryz.prog (.func f_2 f_2a f_2b) [.agg ⟨[.string ⟨⟨x9⟩⟩, .string ⟨⟨x10⟩⟩, .string ⟨⟨x11⟩⟩, .int .i64 x12, .int .i64 x13, .string ⟨⟨x14⟩⟩]⟩] w5 fun (e15 : Ending) (w16 : World) =>
  ∃ (x17 : Bool), e15 = .returned (.bool x17) ∧ (br x17 (R (.returned (.int .i64 t8_4)) w16) (∃ m18 : Nat, m18 < m6 ∧ I3 (IntKind.i64.wrap (t8_4 + 1)) w16 m18))))))))) (R (.returned (.int .i64 ((-1)))) w5))
set_option maxRecDepth 100000 in
theorem e_slices_IndexFunc_of_api_Token_api_Token (s_1 : Option Addr) (s_1n : Nat) (s_1c : Nat) (f_2 : Fn) (f_2a : Array Value) (f_2b : Array Value) (R : Ending → World → Prop) (w : World) : fnV Tryz.prog Tryz.f71 an_slices_IndexFunc_of_api_Token_api_Token [.slice s_1 s_1n s_1c, .func f_2 f_2a f_2b] R w = sh_slices_IndexFunc_of_api_Token_api_Token s_1 s_1n s_1c f_2 f_2a f_2b R w := by kernel_rfl
theorem c_slices_IndexFunc_of_api_Token_api_Token {s_1 : Option Addr} {s_1n : Nat} {s_1c : Nat} {f_2 : Fn} {f_2a : Array Value} {f_2b : Array Value} {R : Ending → World → Prop} {w : World} (h : sh_slices_IndexFunc_of_api_Token_api_Token s_1 s_1n s_1c f_2 f_2a f_2b R w) : Calls Tryz.prog F_slices_IndexFunc_of_api_Token_api_Token ⟨[.slice s_1 s_1n s_1c, .func f_2 f_2a f_2b]⟩ w R := calls_of_fnV Tryz.func71 (by rw [e_slices_IndexFunc_of_api_Token_api_Token]; exact h)

def an_ref15_has : Ann := .two (.leaf) (.two (.leaf) (.leaf))
def sh_ref15_has (t_1 : List UInt8) (t_2 : List UInt8) (t_3 : List UInt8) (t_4 : Int) (t_5 : Int) (t_6 : List UInt8) (flag_7 : Int) (R : Ending → World → Prop) (w : World) : Prop :=
  al w 31 [.string ⟨⟨t_1⟩⟩, .string ⟨⟨t_2⟩⟩, .string ⟨⟨t_3⟩⟩, .int .i64 t_4, .int .i64 t_5, .string ⟨⟨t_6⟩⟩] fun p8 w9 =>
  ∃ (x10 : Int), World.cell? w9 (p8.add 4) = some (.int .i64 x10) ∧ (idiv flag_7 (idiv 2 (R (.returned (.bool (decide (((Int.tmod (IntKind.i64.wrap (Int.tdiv x10 flag_7)) 2) : Int) = 1)))) w9)))
set_option maxRecDepth 100000 in
theorem e_ref15_has (t_1 : List UInt8) (t_2 : List UInt8) (t_3 : List UInt8) (t_4 : Int) (t_5 : Int) (t_6 : List UInt8) (flag_7 : Int) (R : Ending → World → Prop) (w : World) : fnV Tryz.prog Tryz.f73 an_ref15_has [.agg ⟨[.string ⟨⟨t_1⟩⟩, .string ⟨⟨t_2⟩⟩, .string ⟨⟨t_3⟩⟩, .int .i64 t_4, .int .i64 t_5, .string ⟨⟨t_6⟩⟩]⟩, .int .i64 flag_7] R w = sh_ref15_has t_1 t_2 t_3 t_4 t_5 t_6 flag_7 R w := by kernel_rfl
theorem c_ref15_has {t_1 : List UInt8} {t_2 : List UInt8} {t_3 : List UInt8} {t_4 : Int} {t_5 : Int} {t_6 : List UInt8} {flag_7 : Int} {R : Ending → World → Prop} {w : World} (h : sh_ref15_has t_1 t_2 t_3 t_4 t_5 t_6 flag_7 R w) : Calls Tryz.prog F_ref15_has ⟨[.agg ⟨[.string ⟨⟨t_1⟩⟩, .string ⟨⟨t_2⟩⟩, .string ⟨⟨t_3⟩⟩, .int .i64 t_4, .int .i64 t_5, .string ⟨⟨t_6⟩⟩]⟩, .int .i64 flag_7]⟩ w R := calls_of_fnV Tryz.func73 (by rw [e_ref15_has]; exact h)

def an_ref15_gapped : Ann := .two (.leaf) (.two (.two (.leaf) (.one (.loop 16380 [(3, .one (.int .i64))] (.two (.two (.leaf) (.two (.leaf) (.leaf))) (.two (.one (.two (.leaf) (.two (.two (.leaf) (.leaf)) (.leaf)))) (.leaf)))))) (.two (.leaf) (.leaf)))
def sh_ref15_gapped (s_1 : List UInt8) (R : Ending → World → Prop) (w : World) : Prop :=
  ∃ (I2 : Int → World → Nat → Prop), (∃ m6 : Nat, I2 1 w m6) ∧ ∀ (n_3 : Int) (w4 : World) (m5 : Nat), I2 n_3 w4 m5 → ∀ _ : Env, (br (decide ((n_3 : Int) ≤ 64)) (Calls Tryz.prog 109 ⟨[.int .i64 n_3]⟩ w4 fun (e7 : Ending) (w8 : World) =>
  ∃ (x9 : List UInt8), e7 = .returned (.string ⟨⟨x9⟩⟩) ∧ (sadd ([91]) x9 fun s10 =>
  sadd s10 ([93]) fun s11 =>
  br (decide ((s_1 : List UInt8) = s11)) (R (.returned (.bool true)) w8) (∃ m12 : Nat, m12 < m5 ∧ I2 (IntKind.i64.wrap (n_3 + 1)) w8 m12))) (R (.returned (.bool false)) w4))
set_option maxRecDepth 100000 in
theorem e_ref15_gapped (s_1 : List UInt8) (R : Ending → World → Prop) (w : World) : fnV Tryz.prog Tryz.f74 an_ref15_gapped [.string ⟨⟨s_1⟩⟩] R w = sh_ref15_gapped s_1 R w := by kernel_rfl
theorem c_ref15_gapped {s_1 : List UInt8} {R : Ending → World → Prop} {w : World} (h : sh_ref15_gapped s_1 R w) : Calls Tryz.prog F_ref15_gapped ⟨[.string ⟨⟨s_1⟩⟩]⟩ w R := calls_of_fnV Tryz.func74 (by rw [e_ref15_gapped]; exact h)

def an_ref01_Kind : Ann := .two (.leaf) (.two (.one (.cut 262136 [(3, .one (.bool))] (.leaf) (.two (.two (.leaf) (.leaf)) (.cut 536608768 [(18, .one (.bool))] (.leaf) (.two (.two (.leaf) (.leaf)) (.cut 68182605824 [(29, .one (.bool))] (.leaf) (.two (.two (.leaf) (.leaf)) (.two (.leaf) (.two (.two (.leaf) (.leaf)) (.cut 18889465930928825040896 [(39, .one (.bool))] (.leaf) (.two (.two (.leaf) (.leaf)) (.two (.leaf) (.two (.two (.leaf) (.leaf)) (.leaf)))))))))))))) (.two (.leaf) (.leaf)))
def sh_ref01_Kind (c_1 : Int) (R : Ending → World → Prop) (w : World) : Prop :=
  ∀ (K2 : Bool → World → Prop), (∀ (t3_3 : Bool) (w4 : World), (∀ _ : Env, (br t3_3 (R (.returned (.int .i64 1)) w4) (∀ (K5 : Bool → World → Prop), (∀ (t18_6 : Bool) (w7 : World), (∀ _ : Env, (br t18_6 (R (.returned (.int .i64 2)) w7) (∀ (K8 : Bool → World → Prop), (∀ (t29_9 : Bool) (w10 : World), (∀ _ : Env, (br t29_9 (R (.returned (.int .i64 3)) w10) (br (decide ((c_1 : Int) = 39)) (R (.returned (.int .i64 4)) w10) (∀ (K11 : Bool → World → Prop), (∀ (t39_12 : Bool) (w13 : World), (∀ _ : Env, (br t39_12 (R (.returned (.int .i64 5)) w13) (br (decide ((c_1 : Int) = 32)) (R (.returned (.int .i64 6)) w13) (R (.returned (.int .i64 0)) w13)))) → K11 t39_12 w13) → (br (decide ((c_1 : Int) = 46)) (K11 true w10) (br (decide ((c_1 : Int) = 44)) (K11 true w10) (br (decide ((c_1 : Int) = 59)) (K11 true w10) (br (decide ((c_1 : Int) = 58)) (K11 true w10) (br (decide ((c_1 : Int) = 33)) (K11 true w10) (br (decide ((c_1 : Int) = 63)) (K11 true w10) (br (decide ((c_1 : Int) = 40)) (K11 true w10) (br (decide ((c_1 : Int) = 41)) (K11 true w10) (K11 (decide ((c_1 : Int) = 45)) w10))))))))))))) → K8 t29_9 w10) → (br (decide ((48 : Int) ≤ c_1)) (K8 (decide ((c_1 : Int) ≤ 57)) w7) (K8 false w7))))) → K5 t18_6 w7) → (br (decide ((c_1 : Int) = 94)) (K5 true w4) (br (decide ((c_1 : Int) = 126)) (K5 true w4) (K5 (decide ((c_1 : Int) = 37)) w4)))))) → K2 t3_3 w4) → (br (decide ((97 : Int) ≤ c_1)) (br (decide ((c_1 : Int) ≤ 122)) (K2 true w) (br (decide ((65 : Int) ≤ c_1)) (K2 (decide ((c_1 : Int) ≤ 90)) w) (K2 false w))) (br (decide ((65 : Int) ≤ c_1)) (K2 (decide ((c_1 : Int) ≤ 90)) w) (K2 false w)))
set_option maxRecDepth 100000 in
theorem e_ref01_Kind (c_1 : Int) (R : Ending → World → Prop) (w : World) : fnV Tryz.prog Tryz.f75 an_ref01_Kind [.int .u8 c_1] R w = sh_ref01_Kind c_1 R w := by kernel_rfl
theorem c_ref01_Kind {c_1 : Int} {R : Ending → World → Prop} {w : World} (h : sh_ref01_Kind c_1 R w) : Calls Tryz.prog F_ref01_Kind ⟨[.int .u8 c_1]⟩ w R := calls_of_fnV Tryz.func75 (by rw [e_ref01_Kind]; exact h)

def an_ref01_IsWord : Ann := .two (.leaf) (.cut 262116 [] (.two (.leaf) (.two (.two (.leaf) (.leaf)) (.leaf))) (.cut 133955596 [] (.two (.leaf) (.two (.leaf) (.two (.two (.leaf) (.leaf)) (.leaf)))) (.two (.two (.leaf) (.one (.loop 274743689236 [(4, .one (.int .i64))] (.two (.two (.leaf) (.two (.leaf) (.leaf))) (.two (.one (.two (.leaf) (.two (.two (.leaf) (.leaf)) (.leaf)))) (.leaf)))))) (.two (.leaf) (.leaf)))))
def sh_ref01_IsWord (s_1 : List UInt8) (R : Ending → World → Prop) (w : World) : Prop :=
  ∀ (K2 : World → Prop), (∀  (w3 : World), (∀ _ : Env, (∀ (K4 : World → Prop), (∀  (w5 : World), (∀ _ : Env, (∃ (I6 : Int → World → Nat → Prop), (∃ m10 : Nat, I6 0 w5 m10) ∧ ∀ (i_7 : Int) (w8 : World) (m9 : Nat), I6 i_7 w8 m9 → ∀ _ : Env, (br (decide ((i_7 : Int) < ((List.length s_1 : Int)))) (sidx s_1 i_7 fun b11 =>
  Calls Tryz.prog 75 ⟨[.int .u8 ((b11.toNat : Int))]⟩ w8 fun (e12 : Ending) (w13 : World) =>
  ∃ (x14 : Int), e12 = .returned (.int .i64 x14) ∧ (br (decide ((4 : Int) < x14)) (R (.returned (.bool false)) w13) (∃ m15 : Nat, m15 < m9 ∧ I6 (IntKind.i64.wrap (i_7 + 1)) w13 m15))) (R (.returned (.bool true)) w8)))) → K4 w5) → (sidx s_1 0 fun b16 =>
  Calls Tryz.prog 75 ⟨[.int .u8 ((b16.toNat : Int))]⟩ w3 fun (e17 : Ending) (w18 : World) =>
  ∃ (x19 : Int), e17 = .returned (.int .i64 x19) ∧ (br (decide ((x19 : Int) ≠ 1)) (br (decide ((x19 : Int) ≠ 3)) (R (.returned (.bool false)) w18) (K4 w18)) (K4 w18))))) → K2 w3) → (br (decide ((((List.length s_1 : Int)) : Int) < 1)) (R (.returned (.bool false)) w) (br (decide ((64 : Int) < ((List.length s_1 : Int)))) (R (.returned (.bool false)) w) (Calls Tryz.prog 82 ⟨[.string ⟨⟨s_1⟩⟩]⟩ w fun (e20 : Ending) (w21 : World) =>
  ∃ (x22 : Int), e20 = .returned (.int .i64 x22) ∧ (br (decide ((x22 : Int) ≠ 0)) (R (.returned (.bool false)) w21) (K2 w21)))))
set_option maxRecDepth 100000 in
theorem e_ref01_IsWord (s_1 : List UInt8) (R : Ending → World → Prop) (w : World) : fnV Tryz.prog Tryz.f76 an_ref01_IsWord [.string ⟨⟨s_1⟩⟩] R w = sh_ref01_IsWord s_1 R w := by kernel_rfl
theorem c_ref01_IsWord {s_1 : List UInt8} {R : Ending → World → Prop} {w : World} (h : sh_ref01_IsWord s_1 R w) : Calls Tryz.prog F_ref01_IsWord ⟨[.string ⟨⟨s_1⟩⟩]⟩ w R := calls_of_fnV Tryz.func76 (by rw [e_ref01_IsWord]; exact h)

def an_ref15_wordly : Ann := .two (.leaf) (.two (.leaf) (.two (.leaf) (.leaf)))
def sh_ref15_wordly (c_1 : Int) (R : Ending → World → Prop) (w : World) : Prop :=
  Calls Tryz.prog 75 ⟨[.int .u8 c_1]⟩ w fun (e2 : Ending) (w3 : World) =>
  ∃ (x4 : Int), e2 = .returned (.int .i64 x4) ∧ (br (decide ((x4 : Int) = 1)) (R (.returned (.bool true)) w3) (br (decide ((x4 : Int) = 2)) (R (.returned (.bool true)) w3) (br (decide ((x4 : Int) = 3)) (R (.returned (.bool true)) w3) (R (.returned (.bool (decide ((x4 : Int) = 4)))) w3))))
set_option maxRecDepth 100000 in
theorem e_ref15_wordly (c_1 : Int) (R : Ending → World → Prop) (w : World) : fnV Tryz.prog Tryz.f77 an_ref15_wordly [.int .u8 c_1] R w = sh_ref15_wordly c_1 R w := by kernel_rfl
theorem c_ref15_wordly {c_1 : Int} {R : Ending → World → Prop} {w : World} (h : sh_ref15_wordly c_1 R w) : Calls Tryz.prog F_ref15_wordly ⟨[.int .u8 c_1]⟩ w R := calls_of_fnV Tryz.func77 (by rw [e_ref15_wordly]; exact h)

def an_ref15_named : Ann := .two (.leaf) (.two (.leaf) (.leaf))
def sh_ref15_named (s_1 : List UInt8) (R : Ending → World → Prop) (w : World) : Prop :=
  br (decide ((s_1 : List UInt8) = ([]))) (R (.returned (.bool true)) w) (Calls Tryz.prog 122 ⟨[.string ⟨⟨s_1⟩⟩]⟩ w fun (e2 : Ending) (w3 : World) =>
  ∃ (x4 : Bool), e2 = .returned (.bool x4) ∧ (R (.returned (.bool x4)) w3))
set_option maxRecDepth 100000 in
theorem e_ref15_named (s_1 : List UInt8) (R : Ending → World → Prop) (w : World) : fnV Tryz.prog Tryz.f78 an_ref15_named [.string ⟨⟨s_1⟩⟩] R w = sh_ref15_named s_1 R w := by kernel_rfl
theorem c_ref15_named {s_1 : List UInt8} {R : Ending → World → Prop} {w : World} (h : sh_ref15_named s_1 R w) : Calls Tryz.prog F_ref15_named ⟨[.string ⟨⟨s_1⟩⟩]⟩ w R := calls_of_fnV Tryz.func78 (by rw [e_ref15_named]; exact h)

def an_strings_Builder_WriteByte : Ann := .two (.leaf) (.two (.leaf) (.two (.leaf) (.two (.leaf) (.leaf))))
def sh_strings_Builder_WriteByte (b_1 : Option Addr) (c_2 : Int) (R : Ending → World → Prop) (w : World) : Prop :=
  Calls Tryz.prog 104 ⟨[.pointer b_1]⟩ w fun (e3 : Ending) (w4 : World) =>
  e3 = .returned (.tuple ⟨[]⟩) ∧ (dr b_1 fun p5 =>
  ∃ (x6 : Option Addr) (x6n : Nat) (x6c : Nat), World.cell? w4 (p5.add 1) = some (.slice x6 x6n x6c) ∧ (al w4 5 [.int .u8 c_2] fun p7 w8 =>
  app Tryz.prog [73, 73] 73 (.slice x6 x6n x6c) (.slice (some p7) 1 1) w8 fun a9 a9n a9c w10 =>
  dr b_1 fun p11 =>
  stL w10 (p11.add 1) 0 [.slice a9 a9n a9c] fun w12 =>
  R (.returned (.nilIface)) w12))
set_option maxRecDepth 100000 in
theorem e_strings_Builder_WriteByte (b_1 : Option Addr) (c_2 : Int) (R : Ending → World → Prop) (w : World) : fnV Tryz.prog Tryz.f79 an_strings_Builder_WriteByte [.pointer b_1, .int .u8 c_2] R w = sh_strings_Builder_WriteByte b_1 c_2 R w := by kernel_rfl
theorem c_strings_Builder_WriteByte {b_1 : Option Addr} {c_2 : Int} {R : Ending → World → Prop} {w : World} (h : sh_strings_Builder_WriteByte b_1 c_2 R w) : Calls Tryz.prog F_strings_Builder_WriteByte ⟨[.pointer b_1, .int .u8 c_2]⟩ w R := calls_of_fnV Tryz.func79 (by rw [e_strings_Builder_WriteByte]; exact h)

def an_ref15_checkAll : Ann := .two (.leaf) (.two (.two (.leaf) (.two (.two (.leaf) (.leaf)) (.leaf))) (.two (.two (.leaf) (.one (.loop 524172 [(3, .one (.int .i64))] (.two (.two (.leaf) (.two (.leaf) (.leaf))) (.two (.one (.two (.leaf) (.two (.two (.leaf) (.leaf)) (.leaf)))) (.leaf)))))) (.two (.leaf) (.leaf))))
def sh_ref15_checkAll (l_1 : Option Addr) (l_1n : Nat) (l_1c : Nat) (R : Ending → World → Prop) (w : World) : Prop :=
  br (decide ((1024 : Int) < ((l_1n : Int)))) (R (.returned (.int .i64 4)) w) (∃ (I2 : Int → World → Nat → Prop), (∃ m6 : Nat, I2 0 w m6) ∧ ∀ (i_3 : Int) (w4 : World) (m5 : Nat), I2 i_3 w4 m5 → ∀ _ : Env, (br (decide ((i_3 : Int) < ((l_1n : Int)))) (idx l_1 l_1n i_3 6 fun p7 =>
  ∃ (x8 : List UInt8), World.cell? w4 (p7.add 0) = some (.string ⟨⟨x8⟩⟩) ∧ (∃ (x9 : List UInt8), World.cell? w4 (p7.add 1) = some (.string ⟨⟨x9⟩⟩) ∧ (∃ (x10 : List UInt8), World.cell? w4 (p7.add 2) = some (.string ⟨⟨x10⟩⟩) ∧ (∃ (x11 : Int), World.cell? w4 (p7.add 3) = some (.int .i64 x11) ∧ (∃ (x12 : Int), World.cell? w4 (p7.add 4) = some (.int .i64 x12) ∧ (∃ (x13 : List UInt8), World.cell? w4 (p7.add 5) = some (.string ⟨⟨x13⟩⟩) ∧ (Calls Tryz.prog 29 ⟨[.agg ⟨[.string ⟨⟨x8⟩⟩, .string ⟨⟨x9⟩⟩, .string ⟨⟨x10⟩⟩, .int .i64 x11, .int .i64 x12, .string ⟨⟨x13⟩⟩]⟩]⟩ w4 fun (e14 : Ending) (w15 : World) =>
  ∃ (x16 : Int), e14 = .returned (.int .i64 x16) ∧ (br (decide ((x16 : Int) ≠ 0)) (R (.returned (.int .i64 1)) w15) (∃ m17 : Nat, m17 < m5 ∧ I2 (IntKind.i64.wrap (i_3 + 1)) w15 m17))))))))) (R (.returned (.int .i64 0)) w4)))
set_option maxRecDepth 100000 in
theorem e_ref15_checkAll (l_1 : Option Addr) (l_1n : Nat) (l_1c : Nat) (R : Ending → World → Prop) (w : World) : fnV Tryz.prog Tryz.f81 an_ref15_checkAll [.slice l_1 l_1n l_1c] R w = sh_ref15_checkAll l_1 l_1n l_1c R w := by kernel_rfl
theorem c_ref15_checkAll {l_1 : Option Addr} {l_1n : Nat} {l_1c : Nat} {R : Ending → World → Prop} {w : World} (h : sh_ref15_checkAll l_1 l_1n l_1c R w) : Calls Tryz.prog F_ref15_checkAll ⟨[.slice l_1 l_1n l_1c]⟩ w R := calls_of_fnV Tryz.func81 (by rw [e_ref15_checkAll]; exact h)

def an_ref01_Check : Ann := .two (.leaf) (.two (.two (.leaf) (.two (.two (.leaf) (.leaf)) (.leaf))) (.two (.leaf) (.two (.two (.leaf) (.one (.loop 17179867188 [(4, .one (.int .i64))] (.two (.two (.leaf) (.two (.leaf) (.leaf))) (.two (.one (.two (.leaf) (.two (.leaf) (.two (.two (.leaf) (.leaf)) (.leaf))))) (.leaf)))))) (.two (.leaf) (.leaf)))))
def sh_ref01_Check (s_1 : List UInt8) (R : Ending → World → Prop) (w : World) : Prop :=
  br (decide ((65536 : Int) < ((List.length s_1 : Int)))) (R (.returned (.int .i64 4)) w) (Calls Tryz.prog 123 ⟨[.string ⟨⟨s_1⟩⟩]⟩ w fun (e2 : Ending) (w3 : World) =>
  ∃ (x4 : Option Addr) (x4n : Nat) (x4c : Nat), e2 = .returned (.slice x4 x4n x4c) ∧ (∃ (I5 : Int → World → Nat → Prop), (∃ m9 : Nat, I5 0 w3 m9) ∧ ∀ (i_6 : Int) (w7 : World) (m8 : Nat), I5 i_6 w7 m8 → ∀ _ : Env, (br (decide ((i_6 : Int) < ((List.length s_1 : Int)))) (sidx s_1 i_6 fun b10 =>
  Calls Tryz.prog 75 ⟨[.int .u8 ((b10.toNat : Int))]⟩ w7 fun (e11 : Ending) (w12 : World) =>
  ∃ (x13 : Int), e11 = .returned (.int .i64 x13) ∧ (br (decide ((x13 : Int) = 0)) (R (.returned (.int .i64 11)) w12) (br (decide ((x13 : Int) = 2)) (idx x4 x4n i_6 1 fun p14 =>
  ∃ (x15 : Bool), World.cell? w12 p14 = some (.bool x15) ∧ (br (!x15) (R (.returned (.int .i64 11)) w12) (∃ m16 : Nat, m16 < m8 ∧ I5 (IntKind.i64.wrap (i_6 + 1)) w12 m16))) (∃ m17 : Nat, m17 < m8 ∧ I5 (IntKind.i64.wrap (i_6 + 1)) w12 m17)))) (R (.returned (.int .i64 0)) w7))))
set_option maxRecDepth 100000 in
theorem e_ref01_Check (s_1 : List UInt8) (R : Ending → World → Prop) (w : World) : fnV Tryz.prog Tryz.f82 an_ref01_Check [.string ⟨⟨s_1⟩⟩] R w = sh_ref01_Check s_1 R w := by kernel_rfl
theorem c_ref01_Check {s_1 : List UInt8} {R : Ending → World → Prop} {w : World} (h : sh_ref01_Check s_1 R w) : Calls Tryz.prog F_ref01_Check ⟨[.string ⟨⟨s_1⟩⟩]⟩ w R := calls_of_fnV Tryz.func82 (by rw [e_ref01_Check]; exact h)

def an_ref15_signs : Ann := .two (.leaf) (.two (.leaf) (.two (.leaf) (.two (.two (.leaf) (.one (.loop 10633823966279326983230456482242754560 [(11, .one (.slice)), (12, .one (.bool)), (13, .one (.int .i64))] (.two (.two (.leaf) (.two (.leaf) (.leaf))) (.two (.one (.two (.leaf) (.two (.leaf) (.one (.two (.leaf) (.two (.two (.leaf) (.one (.loop 2475870633837794810507855872 [(11, .one (.slice)), (15, .one (.int .i64))] (.two (.two (.leaf) (.two (.leaf) (.leaf))) (.two (.one (.leaf)) (.leaf)))))) (.two (.leaf) (.two (.leaf) (.two (.leaf) (.two (.leaf) (.two (.leaf) (.two (.leaf) (.cut 72692156019487586799426948609081344 [(113, .one (.bool))] (.two (.leaf) (.two (.leaf) (.leaf))) (.two (.leaf) (.two (.leaf) (.cut 266288037888 [(16, .one (.str))] (.two (.leaf) (.two (.leaf) (.leaf))) (.cut 9006924377751552 [(17, .one (.slice)), (18, .one (.ptr)), (19, .one (.bool))] (.leaf) (.cut 135107988821116928 [(11, .one (.slice))] (.leaf) (.leaf))))))))))))))))))) (.leaf)))))) (.two (.leaf) (.leaf)))))
def sh_ref15_signs (at_1 : List UInt8) (at_2 : Int) (l_3 : Option Addr) (l_3n : Nat) (l_3c : Nat) (unclear_4 : Bool) (name_5 : List UInt8) (R : Ending → World → Prop) (w : World) : Prop :=
  al w 29 [.string ⟨⟨at_1⟩⟩, .int .i64 at_2] fun p6 w7 =>
  al w7 29 [.string ⟨⟨[]⟩⟩, .int .i64 0] fun p8 w9 =>
  ∃ (I10 : Option Addr → Nat → Nat → Bool → Int → World → Nat → Prop), (∃ m16 : Nat, I10 none 0 0 false 0 w9 m16) ∧ ∀ (out_11 : Option Addr) (out_11n : Nat) (out_11c : Nat) (hands_12 : Bool) (i_13 : Int) (w14 : World) (m15 : Nat), I10 out_11 out_11n out_11c hands_12 i_13 w14 m15 → ∀ _ : Env, (br (decide ((i_13 : Int) < ((l_3n : Int)))) (idx l_3 l_3n i_13 4 fun p17 =>
  ∃ (x18 : Int), World.cell? w14 (p17.add 0) = some (.int .i64 x18) ∧ (∃ (x19 : List UInt8), World.cell? w14 (p17.add 1) = some (.string ⟨⟨x19⟩⟩) ∧ (∃ (x20 : Int), World.cell? w14 (p17.add 2) = some (.int .i64 x20) ∧ (∃ (x21 : Option Addr) (x21n : Nat) (x21c : Nat), World.cell? w14 (p17.add 3) = some (.slice x21 x21n x21c) ∧ (al w14 64 [.int .i64 0, .string ⟨⟨[]⟩⟩, .int .i64 0, .slice none 0 0] fun p22 w23 =>
  stL w23 p22 0 [.int .i64 x18, .string ⟨⟨x19⟩⟩, .int .i64 x20, .slice x21 x21n x21c] fun w24 =>
  ∃ (x25 : Int), World.cell? w24 (p22.add 0) = some (.int .i64 x25) ∧ (br (decide ((x25 : Int) = 1)) (∃ (I26 : Option Addr → Nat → Nat → Int → World → Nat → Prop), (∃ m31 : Nat, I26 out_11 out_11n out_11c 0 w24 m31) ∧ ∀ (out_27 : Option Addr) (out_27n : Nat) (out_27c : Nat) (k_28 : Int) (w29 : World) (m30 : Nat), I26 out_27 out_27n out_27c k_28 w29 m30 → ∀ _ : Env, (∃ (x32 : List UInt8), World.cell? w29 (p22.add 1) = some (.string ⟨⟨x32⟩⟩) ∧ (br (decide ((k_28 : Int) < ((List.length x32 : Int)))) (drw w29 fun w33 =>
  ∃ (x34 : List UInt8), World.cell? w33 (p22.add 1) = some (.string ⟨⟨x34⟩⟩) ∧ (sidx x34 k_28 fun b35 =>
  ∃ (x36 : List UInt8), World.cell? w33 (p6.add 0) = some (.string ⟨⟨x36⟩⟩) ∧ (∃ (x37 : Int), World.cell? w33 (p6.add 1) = some (.int .i64 x37) ∧ ((al w33 143 [.int .u8 ((b35.toNat : Int)), .int .i64 0, .bool false, .bool unclear_4, .string ⟨⟨name_5⟩⟩, .string ⟨⟨x36⟩⟩, .int .i64 x37] fun p38 w39 =>
  (app Tryz.prog [105, 105] 105 (.slice out_27 out_27n out_27c) (.slice (some p38) 1 1) w39 fun a40 a40n a40c w41 =>
  ∃ m42 : Nat, m42 < m30 ∧ I26 a40 a40n a40c (IntKind.i64.wrap (k_28 + 1)) w41 m42) ∧ True) ∧ True)))) (∃ m43 : Nat, m43 < m15 ∧ I10 out_27 out_27n out_27c hands_12 (IntKind.i64.wrap (i_13 + 1)) w29 m43)))) (br (decide ((x25 : Int) = 6)) (∃ (x44 : Int), World.cell? w24 (p22.add 2) = some (.int .i64 x44) ∧ (∃ (x45 : List UInt8), World.cell? w24 (p6.add 0) = some (.string ⟨⟨x45⟩⟩) ∧ (∃ (x46 : Int), World.cell? w24 (p6.add 1) = some (.int .i64 x46) ∧ (al w24 143 [.int .u8 0, .int .i64 x44, .bool false, .bool unclear_4, .string ⟨⟨name_5⟩⟩, .string ⟨⟨x45⟩⟩, .int .i64 x46] fun p47 w48 =>
  app Tryz.prog [105, 105] 105 (.slice out_11 out_11n out_11c) (.slice (some p47) 1 1) w48 fun a49 a49n a49c w50 =>
  ∃ m51 : Nat, m51 < m15 ∧ I10 a49 a49n a49c hands_12 (IntKind.i64.wrap (i_13 + 1)) w50 m51)))) (br (decide ((x25 : Int) = 2)) (∃ (x52 : Int), World.cell? w24 (p6.add 1) = some (.int .i64 x52) ∧ (stL w24 (p6.add 1) 0 [.int .i64 (IntKind.i64.wrap (x52 + 1))] fun w53 =>
  ∃ m54 : Nat, m54 < m15 ∧ I10 out_11 out_11n out_11c hands_12 (IntKind.i64.wrap (i_13 + 1)) w53 m54)) (br (decide ((x25 : Int) = 3)) (∃ (x55 : List UInt8), World.cell? w24 (p22.add 1) = some (.string ⟨⟨x55⟩⟩) ∧ (stL w24 p6 0 [.string ⟨⟨x55⟩⟩, .int .i64 0] fun w56 =>
  ∃ m57 : Nat, m57 < m15 ∧ I10 out_11 out_11n out_11c hands_12 (IntKind.i64.wrap (i_13 + 1)) w56 m57)) (∀ (K58 : Bool → World → Prop), (∀ (t113_59 : Bool) (w60 : World), (∀ _ : Env, (br t113_59 (∃ (x61 : Int), World.cell? w60 (p22.add 0) = some (.int .i64 x61) ∧ (al w60 143 [.int .u8 0, .int .i64 0, .bool (decide ((x61 : Int) = 5)), .bool false, .string ⟨⟨[]⟩⟩, .string ⟨⟨[]⟩⟩, .int .i64 0] fun p62 w63 =>
  app Tryz.prog [105, 105] 105 (.slice out_11 out_11n out_11c) (.slice (some p62) 1 1) w63 fun a64 a64n a64c w65 =>
  ∃ m66 : Nat, m66 < m15 ∧ I10 a64 a64n a64c hands_12 (IntKind.i64.wrap (i_13 + 1)) w65 m66)) (∀ (K67 : List UInt8 → World → Prop), (∀ (inner_68 : List UInt8) (w69 : World), (∀ _ : Env, (∀ (K70 : Option Addr → Nat → Nat → Option Addr → Bool → World → Prop), (∀ (parts_71 : Option Addr) (parts_71n : Nat) (parts_71c : Nat) (to_72 : Option Addr) (h_73 : Bool) (w74 : World), (∀ _ : Env, (∀ (K75 : Option Addr → Nat → Nat → World → Prop), (∀ (out_76 : Option Addr) (out_76n : Nat) (out_76c : Nat) (w77 : World), (∀ _ : Env, (br hands_12 (∃ m78 : Nat, m78 < m15 ∧ I10 out_76 out_76n out_76c true (IntKind.i64.wrap (i_13 + 1)) w77 m78) (br h_73 (∃ m79 : Nat, m79 < m15 ∧ I10 out_76 out_76n out_76c true (IntKind.i64.wrap (i_13 + 1)) w77 m79) (∃ (x80 : Int), World.cell? w77 (p22.add 0) = some (.int .i64 x80) ∧ (br (decide ((x80 : Int) = 8)) (∃ m81 : Nat, m81 < m15 ∧ I10 out_76 out_76n out_76c true (IntKind.i64.wrap (i_13 + 1)) w77 m81) (∃ (x82 : Int), World.cell? w77 (p22.add 0) = some (.int .i64 x82) ∧ (∃ m83 : Nat, m83 < m15 ∧ I10 out_76 out_76n out_76c (decide ((x82 : Int) = 9)) (IntKind.i64.wrap (i_13 + 1)) w77 m83))))))) → K75 out_76 out_76n out_76c w77) → (drw w74 fun w84 =>
  (app Tryz.prog [105, 105] 105 (.slice out_11 out_11n out_11c) (.slice parts_71 parts_71n parts_71c) w84 fun a85 a85n a85c w86 =>
  dr to_72 fun p87 =>
  ∃ (x88 : List UInt8), World.cell? w86 (p87.add 0) = some (.string ⟨⟨x88⟩⟩) ∧ (∃ (x89 : Int), World.cell? w86 (p87.add 1) = some (.int .i64 x89) ∧ ((stL w86 p6 0 [.string ⟨⟨x88⟩⟩, .int .i64 x89] fun w90 =>
  K75 a85 a85n a85c w90) ∧ True))) ∧ (dr to_72 fun p91 =>
  ∃ (x92 : List UInt8), World.cell? w84 (p91.add 0) = some (.string ⟨⟨x92⟩⟩) ∧ (∃ (x93 : Int), World.cell? w84 (p91.add 1) = some (.int .i64 x93) ∧ ((app Tryz.prog [105, 105] 105 (.slice out_11 out_11n out_11c) (.slice parts_71 parts_71n parts_71c) w84 fun a94 a94n a94c w95 =>
  (stL w95 p6 0 [.string ⟨⟨x92⟩⟩, .int .i64 x93] fun w96 =>
  K75 a94 a94n a94c w96) ∧ True) ∧ True))) ∧ True))) → K70 parts_71 parts_71n parts_71c to_72 h_73 w74) → (∃ (x97 : List UInt8), World.cell? w69 (p6.add 0) = some (.string ⟨⟨x97⟩⟩) ∧ (∃ (x98 : Int), World.cell? w69 (p6.add 1) = some (.int .i64 x98) ∧ (∃ (x99 : Option Addr) (x99n : Nat) (x99c : Nat), World.cell? w69 (p22.add 3) = some (.slice x99 x99n x99c) ∧ (br unclear_4 (Calls Tryz.prog 83 ⟨[.agg ⟨[.string ⟨⟨x97⟩⟩, .int .i64 x98]⟩, .slice x99 x99n x99c, .bool true, .string ⟨⟨inner_68⟩⟩]⟩ w69 fun (e100 : Ending) (w101 : World) =>
  ∃ (x102 : Option Addr) (x102n : Nat) (x102c : Nat) (x103 : List UInt8) (x104 : Int) (x105 : Bool), e100 = .returned (.tuple ⟨[.slice x102 x102n x102c, .agg ⟨[.string ⟨⟨x103⟩⟩, .int .i64 x104]⟩, .bool x105]⟩) ∧ (al w101 29 [.string ⟨⟨[]⟩⟩, .int .i64 0] fun p106 w107 =>
  stL w107 p106 0 [.string ⟨⟨x103⟩⟩, .int .i64 x104] fun w108 =>
  K70 x102 x102n x102c (some p106) x105 w108)) (∃ (x109 : Int), World.cell? w69 (p22.add 0) = some (.int .i64 x109) ∧ (Calls Tryz.prog 83 ⟨[.agg ⟨[.string ⟨⟨x97⟩⟩, .int .i64 x98]⟩, .slice x99 x99n x99c, .bool (decide ((x109 : Int) = 7)), .string ⟨⟨inner_68⟩⟩]⟩ w69 fun (e110 : Ending) (w111 : World) =>
  ∃ (x112 : Option Addr) (x112n : Nat) (x112c : Nat) (x113 : List UInt8) (x114 : Int) (x115 : Bool), e110 = .returned (.tuple ⟨[.slice x112 x112n x112c, .agg ⟨[.string ⟨⟨x113⟩⟩, .int .i64 x114]⟩, .bool x115]⟩) ∧ (al w111 29 [.string ⟨⟨[]⟩⟩, .int .i64 0] fun p116 w117 =>
  stL w117 p116 0 [.string ⟨⟨x113⟩⟩, .int .i64 x114] fun w118 =>
  K70 x112 x112n x112c (some p116) x115 w118))))))))) → K67 inner_68 w69) → (∃ (x119 : Int), World.cell? w60 (p22.add 0) = some (.int .i64 x119) ∧ (br (decide ((x119 : Int) = 11)) (∃ (x120 : List UInt8), World.cell? w60 (p22.add 1) = some (.string ⟨⟨x120⟩⟩) ∧ (K67 x120 w60)) (K67 name_5 w60)))))) → K58 t113_59 w60) → (br (decide ((x25 : Int) = 5)) (K58 (decide ((x25 : Int) = 5)) w24) (K58 (decide ((x25 : Int) = 4)) w24)))))))))))) (drw w14 fun w121 =>
  ∃ (x122 : List UInt8), World.cell? w121 (p6.add 0) = some (.string ⟨⟨x122⟩⟩) ∧ (∃ (x123 : Int), World.cell? w121 (p6.add 1) = some (.int .i64 x123) ∧ ((stL w121 p8 0 [.string ⟨⟨x122⟩⟩, .int .i64 x123] fun w124 =>
  ∃ (x125 : List UInt8), World.cell? w124 (p8.add 0) = some (.string ⟨⟨x125⟩⟩) ∧ (∃ (x126 : Int), World.cell? w124 (p8.add 1) = some (.int .i64 x126) ∧ (R (.returned (.tuple ⟨[.slice out_11 out_11n out_11c, .agg ⟨[.string ⟨⟨x125⟩⟩, .int .i64 x126]⟩, .bool hands_12]⟩)) w124))) ∧ True))))
set_option maxRecDepth 100000 in
theorem e_ref15_signs (at_1 : List UInt8) (at_2 : Int) (l_3 : Option Addr) (l_3n : Nat) (l_3c : Nat) (unclear_4 : Bool) (name_5 : List UInt8) (R : Ending → World → Prop) (w : World) : fnV Tryz.prog Tryz.f83 an_ref15_signs [.agg ⟨[.string ⟨⟨at_1⟩⟩, .int .i64 at_2]⟩, .slice l_3 l_3n l_3c, .bool unclear_4, .string ⟨⟨name_5⟩⟩] R w = sh_ref15_signs at_1 at_2 l_3 l_3n l_3c unclear_4 name_5 R w := by kernel_rfl
theorem c_ref15_signs {at_1 : List UInt8} {at_2 : Int} {l_3 : Option Addr} {l_3n : Nat} {l_3c : Nat} {unclear_4 : Bool} {name_5 : List UInt8} {R : Ending → World → Prop} {w : World} (h : sh_ref15_signs at_1 at_2 l_3 l_3n l_3c unclear_4 name_5 R w) : Calls Tryz.prog F_ref15_signs ⟨[.agg ⟨[.string ⟨⟨at_1⟩⟩, .int .i64 at_2]⟩, .slice l_3 l_3n l_3c, .bool unclear_4, .string ⟨⟨name_5⟩⟩]⟩ w R := calls_of_fnV Tryz.func83 (by rw [e_ref15_signs]; exact h)

def an_ref15_divide : Ann := .two (.leaf) (.two (.leaf) (.two (.leaf) (.two (.two (.leaf) (.one (.loop 730750818665451459101842416358141509827966271480 [(3, .one (.slice)), (4, .one (.bool)), (5, .one (.bool)), (6, .one (.int .i64))] (.two (.two (.leaf) (.two (.leaf) (.leaf))) (.one (.two (.leaf) (.two (.cut 133693440 [(26, .one (.bool))] (.leaf) (.two (.two (.leaf) (.two (.leaf) (.leaf))) (.leaf))) (.two (.cut 8778913153024 [(42, .one (.bool))] (.leaf) (.two (.two (.leaf) (.two (.leaf) (.leaf))) (.leaf))) (.two (.leaf) (.two (.leaf) (.two (.leaf) (.cut 680564733841876926926744711263909053952 [(9, .one (.bool)), (10, .one (.int .i64))] (.one (.two (.leaf) (.two (.leaf) (.two (.leaf) (.two (.two (.leaf) (.one (.loop 680564733841876624695294311206242747904 [(9, .one (.bool)), (10, .one (.int .i64))] (.cut 20282409301420215520289957609472 [] (.two (.leaf) (.two (.leaf) (.leaf))) (.one (.cut 166133217063510832442551935283757056 [] (.one (.leaf)) (.two (.leaf) (.leaf)))))))) (.leaf)))))) (.cut 21097506749098184734729225660769629110272 [] (.two (.leaf) (.two (.leaf) (.leaf))) (.cut 675120215971141911511335221144628131528704 [] (.two (.leaf) (.two (.leaf) (.leaf))) (.cut 712926948065525858555969993528727306894311424 [] (.cut 43904592109607164309898445349276461714898944 [(144, .one (.bool))] (.leaf) (.two (.leaf) (.leaf))) (.two (.leaf) (.two (.leaf) (.two (.leaf) (.leaf))))))))))))))))))) (.two (.leaf) (.leaf)))))
def sh_ref15_divide (l_1 : Option Addr) (l_1n : Nat) (l_1c : Nat) (R : Ending → World → Prop) (w : World) : Prop :=
  ∃ (I2 : Option Addr → Nat → Nat → Bool → Bool → Int → World → Nat → Prop), (∃ m9 : Nat, I2 none 0 0 false false 0 w m9) ∧ ∀ (out_3 : Option Addr) (out_3n : Nat) (out_3c : Nat) (joined_4 : Bool) (verse_5 : Bool) (i_6 : Int) (w7 : World) (m8 : Nat), I2 out_3 out_3n out_3c joined_4 verse_5 i_6 w7 m8 → ∀ _ : Env, (br (decide ((i_6 : Int) < ((l_1n : Int)))) (idx l_1 l_1n i_6 7 fun p10 =>
  ∃ (x11 : Int), World.cell? w7 (p10.add 0) = some (.int .u8 x11) ∧ (∃ (x12 : Int), World.cell? w7 (p10.add 1) = some (.int .i64 x12) ∧ (∃ (x13 : Bool), World.cell? w7 (p10.add 2) = some (.bool x13) ∧ (∃ (x14 : Bool), World.cell? w7 (p10.add 3) = some (.bool x14) ∧ (∃ (x15 : List UInt8), World.cell? w7 (p10.add 4) = some (.string ⟨⟨x15⟩⟩) ∧ (∃ (x16 : List UInt8), World.cell? w7 (p10.add 5) = some (.string ⟨⟨x16⟩⟩) ∧ (∃ (x17 : Int), World.cell? w7 (p10.add 6) = some (.int .i64 x17) ∧ (al w7 143 [.int .u8 0, .int .i64 0, .bool false, .bool false, .string ⟨⟨[]⟩⟩, .string ⟨⟨[]⟩⟩, .int .i64 0] fun p18 w19 =>
  stL w19 p18 0 [.int .u8 x11, .int .i64 x12, .bool x13, .bool x14, .string ⟨⟨x15⟩⟩, .string ⟨⟨x16⟩⟩, .int .i64 x17] fun w20 =>
  ∀ (K21 : Bool → World → Prop), (∀ (t26_22 : Bool) (w23 : World), (∀ _ : Env, (br t26_22 (drw w23 fun w24 =>
  br verse_5 (∃ m25 : Nat, m25 < m8 ∧ I2 out_3 out_3n out_3c false true (IntKind.i64.wrap (i_6 + 1)) w24 m25) (∃ (x26 : Bool), World.cell? w24 (p18.add 2) = some (.bool x26) ∧ (∃ m27 : Nat, m27 < m8 ∧ I2 out_3 out_3n out_3c false x26 (IntKind.i64.wrap (i_6 + 1)) w24 m27))) (∀ (K28 : Bool → World → Prop), (∀ (t42_29 : Bool) (w30 : World), (∀ _ : Env, (br t42_29 (∃ m31 : Nat, m31 < m8 ∧ I2 out_3 out_3n out_3c false verse_5 (IntKind.i64.wrap (i_6 + 1)) w30 m31) (∃ (x32 : List UInt8), World.cell? w30 ((p18.add 5).add 0) = some (.string ⟨⟨x32⟩⟩) ∧ (∃ (x33 : Int), World.cell? w30 ((p18.add 5).add 1) = some (.int .i64 x33) ∧ (∃ (x34 : List UInt8), World.cell? w30 (p18.add 4) = some (.string ⟨⟨x34⟩⟩) ∧ (al w30 31 [.string ⟨⟨[]⟩⟩, .string ⟨⟨[]⟩⟩, .string ⟨⟨[]⟩⟩, .int .i64 0, .int .i64 0, .string ⟨⟨[]⟩⟩] fun p35 w36 =>
  stL w36 p35 0 [.string ⟨⟨[]⟩⟩, .string ⟨⟨[]⟩⟩, .string ⟨⟨x32⟩⟩, .int .i64 x33, .int .i64 0, .string ⟨⟨x34⟩⟩] fun w37 =>
  ∃ (x38 : Bool), World.cell? w37 (p18.add 3) = some (.bool x38) ∧ (∀ (K39 : Bool → Int → World → Prop), (∀ (unclear_40 : Bool) (n_41 : Int) (w42 : World), (∀ _ : Env, (∀ (K43 : World → Prop), (∀  (w44 : World), (∀ _ : Env, (∀ (K45 : World → Prop), (∀  (w46 : World), (∀ _ : Env, (∀ (K47 : World → Prop), (∀  (w48 : World), (∀ _ : Env, (∃ (x49 : List UInt8), World.cell? w48 (p35.add 0) = some (.string ⟨⟨x49⟩⟩) ∧ (stL w48 (p35.add 1) 0 [.string ⟨⟨x49⟩⟩] fun w50 =>
  ∃ (x51 : List UInt8), World.cell? w50 (p35.add 0) = some (.string ⟨⟨x51⟩⟩) ∧ (∃ (x52 : List UInt8), World.cell? w50 (p35.add 1) = some (.string ⟨⟨x52⟩⟩) ∧ (∃ (x53 : List UInt8), World.cell? w50 (p35.add 2) = some (.string ⟨⟨x53⟩⟩) ∧ (∃ (x54 : Int), World.cell? w50 (p35.add 3) = some (.int .i64 x54) ∧ (∃ (x55 : Int), World.cell? w50 (p35.add 4) = some (.int .i64 x55) ∧ (∃ (x56 : List UInt8), World.cell? w50 (p35.add 5) = some (.string ⟨⟨x56⟩⟩) ∧ (al w50 31 [.string ⟨⟨x51⟩⟩, .string ⟨⟨x52⟩⟩, .string ⟨⟨x53⟩⟩, .int .i64 x54, .int .i64 x55, .string ⟨⟨x56⟩⟩] fun p57 w58 =>
  app Tryz.prog [24, 24] 24 (.slice out_3 out_3n out_3c) (.slice (some p57) 1 1) w58 fun a59 a59n a59c w60 =>
  ∃ m61 : Nat, m61 < m8 ∧ I2 a59 a59n a59c true false (IntKind.i64.wrap (i_6 + n_41)) w60 m61))))))))) → K47 w48) → (∀ (K62 : Bool → World → Prop), (∀ (t144_63 : Bool) (w64 : World), (∀ _ : Env, (br t144_63 (∃ (x65 : Int), World.cell? w64 (p35.add 4) = some (.int .i64 x65) ∧ (stL w64 (p35.add 4) 0 [.int .i64 (IntKind.i64.wrap (x65 + 16))] fun w66 =>
  K47 w66)) (K47 w64))) → K62 t144_63 w64) → (br joined_4 (K62 (decide ((0 : Int) < ((out_3n : Int)))) w46) (K62 false w46))))) → K45 w46) → (br verse_5 (∃ (x67 : Int), World.cell? w44 (p35.add 4) = some (.int .i64 x67) ∧ (stL w44 (p35.add 4) 0 [.int .i64 (IntKind.i64.wrap (x67 + 4))] fun w68 =>
  K45 w68)) (K45 w44)))) → K43 w44) → (br unclear_40 (∃ (x69 : Int), World.cell? w42 (p35.add 4) = some (.int .i64 x69) ∧ (stL w42 (p35.add 4) 0 [.int .i64 (IntKind.i64.wrap (x69 + 1))] fun w70 =>
  K43 w70)) (K43 w42)))) → K39 unclear_40 n_41 w42) → (∃ (x71 : Int), World.cell? w37 (p18.add 1) = some (.int .i64 x71) ∧ (br (decide ((0 : Int) < x71)) (∃ (x72 : Int), World.cell? w37 (p18.add 1) = some (.int .i64 x72) ∧ (Calls Tryz.prog 109 ⟨[.int .i64 x72]⟩ w37 fun (e73 : Ending) (w74 : World) =>
  ∃ (x75 : List UInt8), e73 = .returned (.string ⟨⟨x75⟩⟩) ∧ (sadd ([91]) x75 fun s76 =>
  sadd s76 ([93]) fun s77 =>
  stL w74 (p35.add 0) 0 [.string ⟨⟨s77⟩⟩] fun w78 =>
  stL w78 (p35.add 4) 0 [.int .i64 2] fun w79 =>
  K39 x38 1 w79))) (∃ (x80 : Int), World.cell? w37 (p18.add 0) = some (.int .u8 x80) ∧ (Calls Tryz.prog 124 ⟨[.int .u8 x80]⟩ w37 fun (e81 : Ending) (w82 : World) =>
  ∃ (x83 : Bool), e81 = .returned (.bool x83) ∧ (br x83 (∃ (x84 : Int), World.cell? w82 (p18.add 0) = some (.int .u8 x84) ∧ (al w82 5 [.int .u8 x84] fun p85 w86 =>
  b2s Tryz.prog w86 (some p85) 1 1 fun s87 =>
  stL w86 (p35.add 0) 0 [.string ⟨⟨s87⟩⟩] fun w88 =>
  ∃ (I89 : Bool → Int → World → Nat → Prop), (∃ m94 : Nat, I89 x38 1 w88 m94) ∧ ∀ (unclear_90 : Bool) (n_91 : Int) (w92 : World) (m93 : Nat), I89 unclear_90 n_91 w92 m93 → ∀ _ : Env, (∀ (K95 : World → Prop), (∀  (w96 : World), (∀ _ : Env, (∀ (K97 : World → Prop), (∀  (w98 : World), (∀ _ : Env, (br unclear_90 (∃ m99 : Nat, m99 < m93 ∧ I89 true (IntKind.i64.wrap (n_91 + 1)) w98 m99) (idx l_1 l_1n (IntKind.i64.wrap (i_6 + n_91)) 7 fun p100 =>
  ∃ (x101 : Bool), World.cell? w98 (p100.add 3) = some (.bool x101) ∧ (∃ m102 : Nat, m102 < m93 ∧ I89 x101 (IntKind.i64.wrap (n_91 + 1)) w98 m102)))) → K97 w98) → (drw w96 fun w103 =>
  idx l_1 l_1n (IntKind.i64.wrap (i_6 + n_91)) 7 fun p104 =>
  ∃ (x105 : Int), World.cell? w103 (p104.add 0) = some (.int .u8 x105) ∧ ((∃ (x106 : List UInt8), World.cell? w103 (p35.add 0) = some (.string ⟨⟨x106⟩⟩) ∧ ((al w103 5 [.int .u8 x105] fun p107 w108 =>
  (b2s Tryz.prog w108 (some p107) 1 1 fun s109 =>
  sadd x106 s109 fun s110 =>
  (stL w108 (p35.add 0) 0 [.string ⟨⟨s110⟩⟩] fun w111 =>
  K97 w111) ∧ True) ∧ True) ∧ True)) ∧ (al w103 5 [.int .u8 x105] fun p112 w113 =>
  (b2s Tryz.prog w113 (some p112) 1 1 fun s114 =>
  ∃ (x115 : List UInt8), World.cell? w113 (p35.add 0) = some (.string ⟨⟨x115⟩⟩) ∧ (sadd x115 s114 fun s116 =>
  (stL w113 (p35.add 0) 0 [.string ⟨⟨s116⟩⟩] fun w117 =>
  K97 w117) ∧ True)) ∧ True) ∧ True)))) → K95 w96) → (br (decide (((IntKind.i64.wrap (i_6 + n_91)) : Int) < ((l_1n : Int)))) (idx l_1 l_1n (IntKind.i64.wrap (i_6 + n_91)) 7 fun p118 =>
  ∃ (x119 : Int), World.cell? w92 (p118.add 0) = some (.int .u8 x119) ∧ (br (decide ((x119 : Int) ≠ 0)) (idx l_1 l_1n (IntKind.i64.wrap (i_6 + n_91)) 7 fun p120 =>
  ∃ (x121 : Int), World.cell? w92 (p120.add 0) = some (.int .u8 x121) ∧ (Calls Tryz.prog 77 ⟨[.int .u8 x121]⟩ w92 fun (e122 : Ending) (w123 : World) =>
  ∃ (x124 : Bool), e122 = .returned (.bool x124) ∧ (br x124 (K95 w123) (K39 unclear_90 n_91 w123)))) (K39 unclear_90 n_91 w92))) (K39 unclear_90 n_91 w92))))) (∃ (x125 : Int), World.cell? w82 (p18.add 0) = some (.int .u8 x125) ∧ (al w82 5 [.int .u8 x125] fun p126 w127 =>
  b2s Tryz.prog w127 (some p126) 1 1 fun s128 =>
  stL w127 (p35.add 0) 0 [.string ⟨⟨s128⟩⟩] fun w129 =>
  stL w129 (p35.add 4) 0 [.int .i64 8] fun w130 =>
  K39 x38 1 w130)))))))))))))) → K28 t42_29 w30) → (∃ (x131 : Int), World.cell? w23 (p18.add 0) = some (.int .u8 x131) ∧ (br (decide ((x131 : Int) ≠ 0)) (∃ (x132 : Int), World.cell? w23 (p18.add 0) = some (.int .u8 x132) ∧ (Calls Tryz.prog 75 ⟨[.int .u8 x132]⟩ w23 fun (e133 : Ending) (w134 : World) =>
  ∃ (x135 : Int), e133 = .returned (.int .i64 x135) ∧ (K28 (decide ((x135 : Int) = 6)) w134))) (K28 false w23)))))) → K21 t26_22 w23) → (∃ (x136 : Int), World.cell? w20 (p18.add 0) = some (.int .u8 x136) ∧ (br (decide ((x136 : Int) = 0)) (∃ (x137 : Int), World.cell? w20 (p18.add 1) = some (.int .i64 x137) ∧ (K21 (decide ((x137 : Int) = 0)) w20)) (K21 false w20))))))))))) (R (.returned (.slice out_3 out_3n out_3c)) w7))
set_option maxRecDepth 100000 in
theorem e_ref15_divide (l_1 : Option Addr) (l_1n : Nat) (l_1c : Nat) (R : Ending → World → Prop) (w : World) : fnV Tryz.prog Tryz.f84 an_ref15_divide [.slice l_1 l_1n l_1c] R w = sh_ref15_divide l_1 l_1n l_1c R w := by kernel_rfl
theorem c_ref15_divide {l_1 : Option Addr} {l_1n : Nat} {l_1c : Nat} {R : Ending → World → Prop} {w : World} (h : sh_ref15_divide l_1 l_1n l_1c R w) : Calls Tryz.prog F_ref15_divide ⟨[.slice l_1 l_1n l_1c]⟩ w R := calls_of_fnV Tryz.func84 (by rw [e_ref15_divide]; exact h)

def an_ref15_limits : Ann := .two (.leaf) (.two (.two (.leaf) (.two (.two (.leaf) (.leaf)) (.leaf))) (.two (.two (.leaf) (.one (.loop 1048460 [(3, .one (.int .i64))] (.two (.two (.leaf) (.two (.leaf) (.leaf))) (.two (.one (.two (.leaf) (.two (.two (.leaf) (.leaf)) (.leaf)))) (.leaf)))))) (.two (.leaf) (.leaf))))
def sh_ref15_limits (l_1 : Option Addr) (l_1n : Nat) (l_1c : Nat) (R : Ending → World → Prop) (w : World) : Prop :=
  br (decide ((1024 : Int) < ((l_1n : Int)))) (R (.returned (.int .i64 4)) w) (∃ (I2 : Int → World → Nat → Prop), (∃ m6 : Nat, I2 0 w m6) ∧ ∀ (i_3 : Int) (w4 : World) (m5 : Nat), I2 i_3 w4 m5 → ∀ _ : Env, (br (decide ((i_3 : Int) < ((l_1n : Int)))) (idx l_1 l_1n i_3 6 fun p7 =>
  ∃ (x8 : List UInt8), World.cell? w4 (p7.add 0) = some (.string ⟨⟨x8⟩⟩) ∧ (br (decide ((64 : Int) < ((List.length x8 : Int)))) (R (.returned (.int .i64 4)) w4) (∃ m9 : Nat, m9 < m5 ∧ I2 (IntKind.i64.wrap (i_3 + 1)) w4 m9))) (R (.returned (.int .i64 0)) w4)))
set_option maxRecDepth 100000 in
theorem e_ref15_limits (l_1 : Option Addr) (l_1n : Nat) (l_1c : Nat) (R : Ending → World → Prop) (w : World) : fnV Tryz.prog Tryz.f85 an_ref15_limits [.slice l_1 l_1n l_1c] R w = sh_ref15_limits l_1 l_1n l_1c R w := by kernel_rfl
theorem c_ref15_limits {l_1 : Option Addr} {l_1n : Nat} {l_1c : Nat} {R : Ending → World → Prop} {w : World} (h : sh_ref15_limits l_1 l_1n l_1c R w) : Calls Tryz.prog F_ref15_limits ⟨[.slice l_1 l_1n l_1c]⟩ w R := calls_of_fnV Tryz.func85 (by rw [e_ref15_limits]; exact h)

def an_ref14_Check : Ann := .two (.leaf) (.two (.two (.leaf) (.two (.two (.leaf) (.leaf)) (.leaf))) (.two (.two (.leaf) (.one (.loop 18446744073709551164 [(3, .one (.int .i64))] (.two (.two (.leaf) (.two (.leaf) (.leaf))) (.two (.one (.two (.leaf) (.cut 2113929220 [] (.two (.leaf) (.two (.two (.leaf) (.leaf)) (.leaf))) (.cut 547608330244 [] (.two (.leaf) (.two (.two (.leaf) (.leaf)) (.leaf))) (.cut 140187732541444 [] (.two (.leaf) (.two (.two (.leaf) (.leaf)) (.leaf))) (.two (.leaf) (.two (.two (.leaf) (.leaf)) (.leaf)))))))) (.leaf)))))) (.two (.leaf) (.leaf))))
def sh_ref14_Check (rules_1 : Option Addr) (rules_1n : Nat) (rules_1c : Nat) (R : Ending → World → Prop) (w : World) : Prop :=
  br (decide ((64 : Int) < ((rules_1n : Int)))) (R (.returned (.int .i64 4)) w) (∃ (I2 : Int → World → Nat → Prop), (∃ m6 : Nat, I2 0 w m6) ∧ ∀ (i_3 : Int) (w4 : World) (m5 : Nat), I2 i_3 w4 m5 → ∀ _ : Env, (br (decide ((i_3 : Int) < ((rules_1n : Int)))) (drw w4 fun w7 =>
  idx rules_1 rules_1n i_3 2 fun p8 =>
  ∃ (x9 : List UInt8), World.cell? w7 (p8.add 0) = some (.string ⟨⟨x9⟩⟩) ∧ (idx rules_1 rules_1n i_3 2 fun p10 =>
  ∃ (x11 : List UInt8), World.cell? w7 (p10.add 1) = some (.string ⟨⟨x11⟩⟩) ∧ (∀ (K12 : World → Prop), (∀  (w13 : World), (∀ _ : Env, (∀ (K14 : World → Prop), (∀  (w15 : World), (∀ _ : Env, (∀ (K16 : World → Prop), (∀  (w17 : World), (∀ _ : Env, (br (decide ((((List.length x9 : Int)) : Int) < ((List.length x11 : Int)))) (R (.returned (.int .i64 24)) w17) (br (decide ((((List.length x11 : Int)) : Int) = ((List.length x9 : Int)))) (br (!(Op.bytesLess x11 x9)) (R (.returned (.int .i64 24)) w17) (∃ m18 : Nat, m18 < m5 ∧ I2 (IntKind.i64.wrap (i_3 + 1)) w17 m18)) (∃ m19 : Nat, m19 < m5 ∧ I2 (IntKind.i64.wrap (i_3 + 1)) w17 m19)))) → K16 w17) → (Calls Tryz.prog 125 ⟨[.string ⟨⟨x9⟩⟩]⟩ w15 fun (e20 : Ending) (w21 : World) =>
  ∃ (x22 : Bool), e20 = .returned (.bool x22) ∧ (br (!x22) (R (.returned (.int .i64 11)) w21) (Calls Tryz.prog 125 ⟨[.string ⟨⟨x11⟩⟩]⟩ w21 fun (e23 : Ending) (w24 : World) =>
  ∃ (x25 : Bool), e23 = .returned (.bool x25) ∧ (br (!x25) (R (.returned (.int .i64 11)) w24) (K16 w24))))))) → K14 w15) → (br (decide ((64 : Int) < ((List.length x9 : Int)))) (R (.returned (.int .i64 4)) w13) (br (decide ((64 : Int) < ((List.length x11 : Int)))) (R (.returned (.int .i64 4)) w13) (K14 w13))))) → K12 w13) → (br (decide ((x9 : List UInt8) = ([]))) (R (.returned (.int .i64 5)) w7) (br (decide ((x11 : List UInt8) = ([]))) (R (.returned (.int .i64 5)) w7) (K12 w7)))))) (R (.returned (.int .i64 0)) w4)))
set_option maxRecDepth 100000 in
theorem e_ref14_Check (rules_1 : Option Addr) (rules_1n : Nat) (rules_1c : Nat) (R : Ending → World → Prop) (w : World) : fnV Tryz.prog Tryz.f86 an_ref14_Check [.slice rules_1 rules_1n rules_1c] R w = sh_ref14_Check rules_1 rules_1n rules_1c R w := by kernel_rfl
theorem c_ref14_Check {rules_1 : Option Addr} {rules_1n : Nat} {rules_1c : Nat} {R : Ending → World → Prop} {w : World} (h : sh_ref14_Check rules_1 rules_1n rules_1c R w) : Calls Tryz.prog F_ref14_Check ⟨[.slice rules_1 rules_1n rules_1c]⟩ w R := calls_of_fnV Tryz.func86 (by rw [e_ref14_Check]; exact h)

def an_ref15_normalize : Ann := .two (.leaf) (.two (.leaf) (.two (.two (.leaf) (.one (.loop 549755813872 [(6, .one (.slice)), (7, .one (.int .i64))] (.two (.two (.leaf) (.two (.leaf) (.leaf))) (.two (.one (.two (.leaf) (.cut 34357642800 [] (.two (.leaf) (.two (.two (.leaf) (.two (.two (.leaf) (.two (.two (.leaf) (.leaf)) (.leaf))) (.leaf))) (.leaf))) (.leaf)))) (.leaf)))))) (.two (.leaf) (.leaf))))
def sh_ref15_normalize (rules_1 : Option Addr) (rules_1n : Nat) (rules_1c : Nat) (l_2 : Option Addr) (l_2n : Nat) (l_2c : Nat) (R : Ending → World → Prop) (w : World) : Prop :=
  ∃ (I3 : Option Addr → Nat → Nat → Int → World → Nat → Prop), (∃ m8 : Nat, I3 none 0 0 0 w m8) ∧ ∀ (out_4 : Option Addr) (out_4n : Nat) (out_4c : Nat) (i_5 : Int) (w6 : World) (m7 : Nat), I3 out_4 out_4n out_4c i_5 w6 m7 → ∀ _ : Env, (br (decide ((i_5 : Int) < ((l_2n : Int)))) (idx l_2 l_2n i_5 6 fun p9 =>
  ∃ (x10 : List UInt8), World.cell? w6 (p9.add 0) = some (.string ⟨⟨x10⟩⟩) ∧ (∃ (x11 : List UInt8), World.cell? w6 (p9.add 1) = some (.string ⟨⟨x11⟩⟩) ∧ (∃ (x12 : List UInt8), World.cell? w6 (p9.add 2) = some (.string ⟨⟨x12⟩⟩) ∧ (∃ (x13 : Int), World.cell? w6 (p9.add 3) = some (.int .i64 x13) ∧ (∃ (x14 : Int), World.cell? w6 (p9.add 4) = some (.int .i64 x14) ∧ (∃ (x15 : List UInt8), World.cell? w6 (p9.add 5) = some (.string ⟨⟨x15⟩⟩) ∧ (al w6 31 [.string ⟨⟨[]⟩⟩, .string ⟨⟨[]⟩⟩, .string ⟨⟨[]⟩⟩, .int .i64 0, .int .i64 0, .string ⟨⟨[]⟩⟩] fun p16 w17 =>
  stL w17 p16 0 [.string ⟨⟨x10⟩⟩, .string ⟨⟨x11⟩⟩, .string ⟨⟨x12⟩⟩, .int .i64 x13, .int .i64 x14, .string ⟨⟨x15⟩⟩] fun w18 =>
  ∀ (K19 : World → Prop), (∀  (w20 : World), (∀ _ : Env, (∃ (x21 : List UInt8), World.cell? w20 (p16.add 0) = some (.string ⟨⟨x21⟩⟩) ∧ (∃ (x22 : List UInt8), World.cell? w20 (p16.add 1) = some (.string ⟨⟨x22⟩⟩) ∧ (∃ (x23 : List UInt8), World.cell? w20 (p16.add 2) = some (.string ⟨⟨x23⟩⟩) ∧ (∃ (x24 : Int), World.cell? w20 (p16.add 3) = some (.int .i64 x24) ∧ (∃ (x25 : Int), World.cell? w20 (p16.add 4) = some (.int .i64 x25) ∧ (∃ (x26 : List UInt8), World.cell? w20 (p16.add 5) = some (.string ⟨⟨x26⟩⟩) ∧ (al w20 31 [.string ⟨⟨x21⟩⟩, .string ⟨⟨x22⟩⟩, .string ⟨⟨x23⟩⟩, .int .i64 x24, .int .i64 x25, .string ⟨⟨x26⟩⟩] fun p27 w28 =>
  app Tryz.prog [24, 24] 24 (.slice out_4 out_4n out_4c) (.slice (some p27) 1 1) w28 fun a29 a29n a29c w30 =>
  ∃ m31 : Nat, m31 < m7 ∧ I3 a29 a29n a29c (IntKind.i64.wrap (i_5 + 1)) w30 m31)))))))) → K19 w20) → (∃ (x32 : List UInt8), World.cell? w18 (p16.add 0) = some (.string ⟨⟨x32⟩⟩) ∧ (∃ (x33 : List UInt8), World.cell? w18 (p16.add 1) = some (.string ⟨⟨x33⟩⟩) ∧ (∃ (x34 : List UInt8), World.cell? w18 (p16.add 2) = some (.string ⟨⟨x34⟩⟩) ∧ (∃ (x35 : Int), World.cell? w18 (p16.add 3) = some (.int .i64 x35) ∧ (∃ (x36 : Int), World.cell? w18 (p16.add 4) = some (.int .i64 x36) ∧ (∃ (x37 : List UInt8), World.cell? w18 (p16.add 5) = some (.string ⟨⟨x37⟩⟩) ∧ (Calls Tryz.prog 126 ⟨[.agg ⟨[.string ⟨⟨x32⟩⟩, .string ⟨⟨x33⟩⟩, .string ⟨⟨x34⟩⟩, .int .i64 x35, .int .i64 x36, .string ⟨⟨x37⟩⟩]⟩]⟩ w18 fun (e38 : Ending) (w39 : World) =>
  ∃ (x40 : Bool), e38 = .returned (.bool x40) ∧ (br x40 (∃ (x41 : List UInt8), World.cell? w39 (p16.add 0) = some (.string ⟨⟨x41⟩⟩) ∧ (Calls Tryz.prog 127 ⟨[.slice rules_1 rules_1n rules_1c, .string ⟨⟨x41⟩⟩]⟩ w39 fun (e42 : Ending) (w43 : World) =>
  ∃ (x44 : List UInt8) (x45 : Int), e42 = .returned (.tuple ⟨[.string ⟨⟨x44⟩⟩, .int .i64 x45]⟩) ∧ (br (decide ((x45 : Int) ≠ 0)) (R (.returned (.tuple ⟨[.slice none 0 0, .int .i64 x45]⟩)) w43) (stL w43 (p16.add 1) 0 [.string ⟨⟨x44⟩⟩] fun w46 =>
  K19 w46)))) (K19 w39)))))))))))))))) (R (.returned (.tuple ⟨[.slice out_4 out_4n out_4c, .int .i64 0]⟩)) w6))
set_option maxRecDepth 100000 in
theorem e_ref15_normalize (rules_1 : Option Addr) (rules_1n : Nat) (rules_1c : Nat) (l_2 : Option Addr) (l_2n : Nat) (l_2c : Nat) (R : Ending → World → Prop) (w : World) : fnV Tryz.prog Tryz.f87 an_ref15_normalize [.slice rules_1 rules_1n rules_1c, .slice l_2 l_2n l_2c] R w = sh_ref15_normalize rules_1 rules_1n rules_1c l_2 l_2n l_2c R w := by kernel_rfl
theorem c_ref15_normalize {rules_1 : Option Addr} {rules_1n : Nat} {rules_1c : Nat} {l_2 : Option Addr} {l_2n : Nat} {l_2c : Nat} {R : Ending → World → Prop} {w : World} (h : sh_ref15_normalize rules_1 rules_1n rules_1c l_2 l_2n l_2c R w) : Calls Tryz.prog F_ref15_normalize ⟨[.slice rules_1 rules_1n rules_1c, .slice l_2 l_2n l_2c]⟩ w R := calls_of_fnV Tryz.func87 (by rw [e_ref15_normalize]; exact h)

def an_ref01_Compare : Ann := .two (.leaf) (.two (.two (.leaf) (.two (.leaf) (.two (.two (.leaf) (.leaf)) (.leaf)))) (.two (.two (.leaf) (.two (.leaf) (.two (.two (.leaf) (.leaf)) (.leaf)))) (.two (.leaf) (.leaf))))
def sh_ref01_Compare (a_1 : List UInt8) (b_2 : List UInt8) (R : Ending → World → Prop) (w : World) : Prop :=
  Calls Tryz.prog 130 ⟨[.string ⟨⟨a_1⟩⟩]⟩ w fun (e3 : Ending) (w4 : World) =>
  ∃ (x5 : List UInt8), e3 = .returned (.string ⟨⟨x5⟩⟩) ∧ (Calls Tryz.prog 129 ⟨[.string ⟨⟨x5⟩⟩]⟩ w4 fun (e6 : Ending) (w7 : World) =>
  ∃ (x8 : List UInt8), e6 = .returned (.string ⟨⟨x8⟩⟩) ∧ (Calls Tryz.prog 130 ⟨[.string ⟨⟨b_2⟩⟩]⟩ w7 fun (e9 : Ending) (w10 : World) =>
  ∃ (x11 : List UInt8), e9 = .returned (.string ⟨⟨x11⟩⟩) ∧ (Calls Tryz.prog 129 ⟨[.string ⟨⟨x11⟩⟩]⟩ w10 fun (e12 : Ending) (w13 : World) =>
  ∃ (x14 : List UInt8), e12 = .returned (.string ⟨⟨x14⟩⟩) ∧ (Calls Tryz.prog 128 ⟨[.string ⟨⟨x8⟩⟩, .string ⟨⟨x14⟩⟩]⟩ w13 fun (e15 : Ending) (w16 : World) =>
  ∃ (x17 : Int), e15 = .returned (.int .i64 x17) ∧ (br (decide ((x17 : Int) ≠ 0)) (R (.returned (.int .i64 x17)) w16) (Calls Tryz.prog 130 ⟨[.string ⟨⟨a_1⟩⟩]⟩ w16 fun (e18 : Ending) (w19 : World) =>
  ∃ (x20 : List UInt8), e18 = .returned (.string ⟨⟨x20⟩⟩) ∧ (Calls Tryz.prog 130 ⟨[.string ⟨⟨b_2⟩⟩]⟩ w19 fun (e21 : Ending) (w22 : World) =>
  ∃ (x23 : List UInt8), e21 = .returned (.string ⟨⟨x23⟩⟩) ∧ (Calls Tryz.prog 128 ⟨[.string ⟨⟨x20⟩⟩, .string ⟨⟨x23⟩⟩]⟩ w22 fun (e24 : Ending) (w25 : World) =>
  ∃ (x26 : Int), e24 = .returned (.int .i64 x26) ∧ (br (decide ((x26 : Int) ≠ 0)) (R (.returned (.int .i64 x26)) w25) (Calls Tryz.prog 128 ⟨[.string ⟨⟨a_1⟩⟩, .string ⟨⟨b_2⟩⟩]⟩ w25 fun (e27 : Ending) (w28 : World) =>
  ∃ (x29 : Int), e27 = .returned (.int .i64 x29) ∧ (R (.returned (.int .i64 x29)) w28)))))))))))
set_option maxRecDepth 100000 in
theorem e_ref01_Compare (a_1 : List UInt8) (b_2 : List UInt8) (R : Ending → World → Prop) (w : World) : fnV Tryz.prog Tryz.f88 an_ref01_Compare [.string ⟨⟨a_1⟩⟩, .string ⟨⟨b_2⟩⟩] R w = sh_ref01_Compare a_1 b_2 R w := by kernel_rfl
theorem c_ref01_Compare {a_1 : List UInt8} {b_2 : List UInt8} {R : Ending → World → Prop} {w : World} (h : sh_ref01_Compare a_1 b_2 R w) : Calls Tryz.prog F_ref01_Compare ⟨[.string ⟨⟨a_1⟩⟩, .string ⟨⟨b_2⟩⟩]⟩ w R := calls_of_fnV Tryz.func88 (by rw [e_ref01_Compare]; exact h)

def an_charset_clusters : Ann := .two (.leaf) (.two (.leaf) (.leaf))
def sh_charset_clusters (s_1 : List UInt8) (R : Ending → World → Prop) (w : World) : Prop :=
  al w 9 [.string ⟨⟨s_1⟩⟩] fun p2 w3 =>
  R (.returned (.func (.func 131) ⟨[]⟩ ⟨[.pointer (some p2)]⟩)) w3
set_option maxRecDepth 100000 in
theorem e_charset_clusters (s_1 : List UInt8) (R : Ending → World → Prop) (w : World) : fnV Tryz.prog Tryz.f89 an_charset_clusters [.string ⟨⟨s_1⟩⟩] R w = sh_charset_clusters s_1 R w := by kernel_rfl
theorem c_charset_clusters {s_1 : List UInt8} {R : Ending → World → Prop} {w : World} (h : sh_charset_clusters s_1 R w) : Calls Tryz.prog F_charset_clusters ⟨[.string ⟨⟨s_1⟩⟩]⟩ w R := calls_of_fnV Tryz.func89 (by rw [e_charset_clusters]; exact h)

def an_tokenizer_atoms : Ann := .two (.leaf) (.two (.leaf) (.leaf))
def sh_tokenizer_atoms (start_1 : List UInt8) (start_2 : Int) (l_3 : Option Addr) (l_3n : Nat) (l_3c : Nat) (R : Ending → World → Prop) (w : World) : Prop :=
  al w 29 [.string ⟨⟨start_1⟩⟩, .int .i64 start_2] fun p4 w5 =>
  al w5 22 [.slice l_3 l_3n l_3c] fun p6 w7 =>
  R (.returned (.func (.func 133) ⟨[]⟩ ⟨[.pointer (some p4), .pointer (some p6)]⟩)) w7
set_option maxRecDepth 100000 in
theorem e_tokenizer_atoms (start_1 : List UInt8) (start_2 : Int) (l_3 : Option Addr) (l_3n : Nat) (l_3c : Nat) (R : Ending → World → Prop) (w : World) : fnV Tryz.prog Tryz.f90 an_tokenizer_atoms [.agg ⟨[.string ⟨⟨start_1⟩⟩, .int .i64 start_2]⟩, .slice l_3 l_3n l_3c] R w = sh_tokenizer_atoms start_1 start_2 l_3 l_3n l_3c R w := by kernel_rfl
theorem c_tokenizer_atoms {start_1 : List UInt8} {start_2 : Int} {l_3 : Option Addr} {l_3n : Nat} {l_3c : Nat} {R : Ending → World → Prop} {w : World} (h : sh_tokenizer_atoms start_1 start_2 l_3 l_3n l_3c R w) : Calls Tryz.prog F_tokenizer_atoms ⟨[.agg ⟨[.string ⟨⟨start_1⟩⟩, .int .i64 start_2]⟩, .slice l_3 l_3n l_3c]⟩ w R := calls_of_fnV Tryz.func90 (by rw [e_tokenizer_atoms]; exact h)

def an_tokenizer_builder_add : Ann := .two (.leaf) (.two (.leaf) (.one (.two (.leaf) (.two (.leaf) (.two (.leaf) (.two (.two (.leaf) (.two (.leaf) (.cut 128849018896 [(4, .one (.int .i64))] (.two (.leaf) (.two (.leaf) (.leaf))) (.two (.leaf) (.leaf))))) (.two (.leaf) (.leaf))))))))
def sh_tokenizer_builder_add (b_1 : Option Addr) (x_2 : Int) (x_3 : Int) (x_4 : Int) (x_5 : List UInt8) (x_6 : Int) (x_7 : Bool) (x_8 : List UInt8) (R : Ending → World → Prop) (w : World) : Prop :=
  al w 118 [.int .i64 x_2, .int .u8 x_3, .int .i64 x_4, .string ⟨⟨x_5⟩⟩, .int .i64 x_6, .bool x_7, .string ⟨⟨x_8⟩⟩] fun p9 w10 =>
  ∃ (x11 : Int), World.cell? w10 (p9.add 0) = some (.int .i64 x11) ∧ (br (decide ((x11 : Int) = 1)) (∃ (x12 : Int), World.cell? w10 (p9.add 0) = some (.int .i64 x12) ∧ (∃ (x13 : Int), World.cell? w10 (p9.add 1) = some (.int .u8 x13) ∧ (∃ (x14 : Int), World.cell? w10 (p9.add 2) = some (.int .i64 x14) ∧ (∃ (x15 : List UInt8), World.cell? w10 (p9.add 3) = some (.string ⟨⟨x15⟩⟩) ∧ (∃ (x16 : Int), World.cell? w10 (p9.add 4) = some (.int .i64 x16) ∧ (∃ (x17 : Bool), World.cell? w10 (p9.add 5) = some (.bool x17) ∧ (∃ (x18 : List UInt8), World.cell? w10 (p9.add 6) = some (.string ⟨⟨x18⟩⟩) ∧ (Calls Tryz.prog 135 ⟨[.pointer b_1, .agg ⟨[.int .i64 x12, .int .u8 x13, .int .i64 x14, .string ⟨⟨x15⟩⟩, .int .i64 x16, .bool x17, .string ⟨⟨x18⟩⟩]⟩]⟩ w10 fun (e19 : Ending) (w20 : World) =>
  e19 = .returned (.tuple ⟨[]⟩) ∧ (R (.returned (.tuple ⟨[]⟩)) w20))))))))) (br (decide ((x11 : Int) = 6)) (Calls Tryz.prog 92 ⟨[.pointer b_1]⟩ w10 fun (e21 : Ending) (w22 : World) =>
  e21 = .returned (.tuple ⟨[]⟩) ∧ (∀ (K23 : Int → World → Prop), (∀ (flags_24 : Int) (w25 : World), (∀ _ : Env, (∃ (x26 : Int), World.cell? w25 (p9.add 0) = some (.int .i64 x26) ∧ (∃ (x27 : Int), World.cell? w25 (p9.add 1) = some (.int .u8 x27) ∧ (∃ (x28 : Int), World.cell? w25 (p9.add 2) = some (.int .i64 x28) ∧ (∃ (x29 : List UInt8), World.cell? w25 (p9.add 3) = some (.string ⟨⟨x29⟩⟩) ∧ (∃ (x30 : Int), World.cell? w25 (p9.add 4) = some (.int .i64 x30) ∧ (∃ (x31 : Bool), World.cell? w25 (p9.add 5) = some (.bool x31) ∧ (∃ (x32 : List UInt8), World.cell? w25 (p9.add 6) = some (.string ⟨⟨x32⟩⟩) ∧ (Calls Tryz.prog 136 ⟨[.pointer b_1, .agg ⟨[.int .i64 x26, .int .u8 x27, .int .i64 x28, .string ⟨⟨x29⟩⟩, .int .i64 x30, .bool x31, .string ⟨⟨x32⟩⟩]⟩, .int .i64 flags_24]⟩ w25 fun (e33 : Ending) (w34 : World) =>
  e33 = .returned (.tuple ⟨[]⟩) ∧ (drw w34 fun w35 =>
  (Calls Tryz.prog 137 ⟨[.pointer b_1]⟩ w35 fun (e36 : Ending) (w37 : World) =>
  ∃ (x38 : Option Addr), e36 = .returned (.pointer x38) ∧ (∃ (x39 : Int), World.cell? w37 (p9.add 2) = some (.int .i64 x39) ∧ ((Calls Tryz.prog 109 ⟨[.int .i64 x39]⟩ w37 fun (e40 : Ending) (w41 : World) =>
  ∃ (x42 : List UInt8), e40 = .returned (.string ⟨⟨x42⟩⟩) ∧ (sadd ([91]) x42 fun s43 =>
  sadd s43 ([93]) fun s44 =>
  dr x38 fun p45 =>
  (stL w41 (p45.add 0) 0 [.string ⟨⟨s44⟩⟩] fun w46 =>
  R (.returned (.tuple ⟨[]⟩)) w46) ∧ True)) ∧ True))) ∧ ((Calls Tryz.prog 137 ⟨[.pointer b_1]⟩ w35 fun (e47 : Ending) (w48 : World) =>
  ∃ (x49 : Option Addr), e47 = .returned (.pointer x49) ∧ (∃ (x50 : Int), World.cell? w48 (p9.add 2) = some (.int .i64 x50) ∧ ((Calls Tryz.prog 109 ⟨[.int .i64 x50]⟩ w48 fun (e51 : Ending) (w52 : World) =>
  ∃ (x53 : List UInt8), e51 = .returned (.string ⟨⟨x53⟩⟩) ∧ (sadd ([91]) x53 fun s54 =>
  sadd s54 ([93]) fun s55 =>
  dr x49 fun p56 =>
  (stL w52 (p56.add 0) 0 [.string ⟨⟨s55⟩⟩] fun w57 =>
  R (.returned (.tuple ⟨[]⟩)) w57) ∧ True)) ∧ True))) ∧ (∃ (x58 : Int), World.cell? w35 (p9.add 2) = some (.int .i64 x58) ∧ ((Calls Tryz.prog 137 ⟨[.pointer b_1]⟩ w35 fun (e59 : Ending) (w60 : World) =>
  ∃ (x61 : Option Addr), e59 = .returned (.pointer x61) ∧ ((Calls Tryz.prog 109 ⟨[.int .i64 x58]⟩ w60 fun (e62 : Ending) (w63 : World) =>
  ∃ (x64 : List UInt8), e62 = .returned (.string ⟨⟨x64⟩⟩) ∧ (sadd ([91]) x64 fun s65 =>
  sadd s65 ([93]) fun s66 =>
  dr x61 fun p67 =>
  (stL w63 (p67.add 0) 0 [.string ⟨⟨s66⟩⟩] fun w68 =>
  R (.returned (.tuple ⟨[]⟩)) w68) ∧ True)) ∧ True)) ∧ True)) ∧ True) ∧ True)))))))))) → K23 flags_24 w25) → (∃ (x69 : Bool), World.cell? w22 (p9.add 5) = some (.bool x69) ∧ (br x69 (K23 (bitO .i64 2 1) w22) (K23 2 w22))))) (Calls Tryz.prog 92 ⟨[.pointer b_1]⟩ w10 fun (e70 : Ending) (w71 : World) =>
  e70 = .returned (.tuple ⟨[]⟩) ∧ (drw w71 fun w72 =>
  dr b_1 fun p73 =>
  ∃ (x74 : Bool), World.cell? w72 (p73.add 5) = some (.bool x74) ∧ (br x74 ((dr b_1 fun p75 =>
  (stL w72 (p75.add 4) 0 [.bool false] fun w76 =>
  dr b_1 fun p77 =>
  (stL w76 (p77.add 5) 0 [.bool true] fun w78 =>
  R (.returned (.tuple ⟨[]⟩)) w78) ∧ True) ∧ True) ∧ (dr b_1 fun p79 =>
  ((stL w72 (p79.add 4) 0 [.bool false] fun w80 =>
  dr b_1 fun p81 =>
  (stL w80 (p81.add 5) 0 [.bool true] fun w82 =>
  R (.returned (.tuple ⟨[]⟩)) w82) ∧ True) ∧ True) ∧ (((stL w72 (p79.add 4) 0 [.bool false] fun w83 =>
  dr b_1 fun p84 =>
  (stL w83 (p84.add 5) 0 [.bool true] fun w85 =>
  R (.returned (.tuple ⟨[]⟩)) w85) ∧ True) ∧ True) ∧ (stL w72 (p79.add 4) 0 [.bool false] fun w86 =>
  dr b_1 fun p87 =>
  (stL w86 (p87.add 5) 0 [.bool true] fun w88 =>
  R (.returned (.tuple ⟨[]⟩)) w88) ∧ True) ∧ True) ∧ True) ∧ True) ((∃ (x89 : Int), World.cell? w72 (p9.add 0) = some (.int .i64 x89) ∧ (dr b_1 fun p90 =>
  (stL w72 (p90.add 4) 0 [.bool false] fun w91 =>
  dr b_1 fun p92 =>
  (stL w91 (p92.add 5) 0 [.bool (decide ((x89 : Int) = 5))] fun w93 =>
  R (.returned (.tuple ⟨[]⟩)) w93) ∧ True) ∧ True)) ∧ (dr b_1 fun p94 =>
  (∃ (x95 : Int), World.cell? w72 (p9.add 0) = some (.int .i64 x95) ∧ ((stL w72 (p94.add 4) 0 [.bool false] fun w96 =>
  dr b_1 fun p97 =>
  (stL w96 (p97.add 5) 0 [.bool (decide ((x95 : Int) = 5))] fun w98 =>
  R (.returned (.tuple ⟨[]⟩)) w98) ∧ True) ∧ True)) ∧ ((∃ (x99 : Int), World.cell? w72 (p9.add 0) = some (.int .i64 x99) ∧ ((stL w72 (p94.add 4) 0 [.bool false] fun w100 =>
  dr b_1 fun p101 =>
  (stL w100 (p101.add 5) 0 [.bool (decide ((x99 : Int) = 5))] fun w102 =>
  R (.returned (.tuple ⟨[]⟩)) w102) ∧ True) ∧ True)) ∧ (stL w72 (p94.add 4) 0 [.bool false] fun w103 =>
  ∃ (x104 : Int), World.cell? w103 (p9.add 0) = some (.int .i64 x104) ∧ (dr b_1 fun p105 =>
  (stL w103 (p105.add 5) 0 [.bool (decide ((x104 : Int) = 5))] fun w106 =>
  R (.returned (.tuple ⟨[]⟩)) w106) ∧ True)) ∧ True) ∧ True) ∧ True))))))
set_option maxRecDepth 100000 in
theorem e_tokenizer_builder_add (b_1 : Option Addr) (x_2 : Int) (x_3 : Int) (x_4 : Int) (x_5 : List UInt8) (x_6 : Int) (x_7 : Bool) (x_8 : List UInt8) (R : Ending → World → Prop) (w : World) : fnV Tryz.prog Tryz.f91 an_tokenizer_builder_add [.pointer b_1, .agg ⟨[.int .i64 x_2, .int .u8 x_3, .int .i64 x_4, .string ⟨⟨x_5⟩⟩, .int .i64 x_6, .bool x_7, .string ⟨⟨x_8⟩⟩]⟩] R w = sh_tokenizer_builder_add b_1 x_2 x_3 x_4 x_5 x_6 x_7 x_8 R w := by kernel_rfl
theorem c_tokenizer_builder_add {b_1 : Option Addr} {x_2 : Int} {x_3 : Int} {x_4 : Int} {x_5 : List UInt8} {x_6 : Int} {x_7 : Bool} {x_8 : List UInt8} {R : Ending → World → Prop} {w : World} (h : sh_tokenizer_builder_add b_1 x_2 x_3 x_4 x_5 x_6 x_7 x_8 R w) : Calls Tryz.prog F_tokenizer_builder_add ⟨[.pointer b_1, .agg ⟨[.int .i64 x_2, .int .u8 x_3, .int .i64 x_4, .string ⟨⟨x_5⟩⟩, .int .i64 x_6, .bool x_7, .string ⟨⟨x_8⟩⟩]⟩]⟩ w R := calls_of_fnV Tryz.func91 (by rw [e_tokenizer_builder_add]; exact h)

end Go.Proofs
