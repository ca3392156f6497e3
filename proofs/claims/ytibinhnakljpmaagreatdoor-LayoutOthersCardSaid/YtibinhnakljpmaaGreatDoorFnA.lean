/- Written by program: for each function its verification condition, that it is the code's (by the kernel), and that it gives the call. -/
import Derived.Test.YtibinhnakljpmaaGreatDoorFn
namespace Go.Proofs
open Go Go.Sh
def an_law13_LayoutOthers : Ann := .two (.leaf) (.two (.two (.leaf) (.two (.two (.leaf) (.leaf)) (.leaf))) (.two (.leaf) (.two (.leaf) (.two (.leaf) (.two (.leaf) (.two (.leaf) (.two (.leaf) (.two (.leaf) (.two (.leaf) (.two (.leaf) (.two (.leaf) (.two (.leaf) (.two (.leaf) (.two (.leaf) (.leaf)))))))))))))))
def sh_law13_LayoutOthers (l_1 : Option Addr) (l_1n : Nat) (l_1c : Nat) (p_2 : List UInt8) (p_3 : Int) (q_4 : List UInt8) (q_5 : Int) (R : Ending → World → Prop) (w : World) : Prop :=
  al w 24 [.string ⟨⟨p_2⟩⟩, .int .i64 p_3] fun p6 w7 =>
  al w7 24 [.string ⟨⟨q_4⟩⟩, .int .i64 q_5] fun p8 w9 =>
  Calls Tryz.prog 4 ⟨[.slice l_1 l_1n l_1c]⟩ w9 fun (e10 : Ending) (w11 : World) =>
  ∃ (x12 : Bool), e10 = .returned (.bool x12) ∧ (br x12 (Calls Tryz.prog 5 ⟨[]⟩ w11 fun (e13 : Ending) (w14 : World) =>
  ∃ (x15 : Bool), e13 = .returned (.bool x15) ∧ (R (.returned (.bool x15)) w14)) (Calls Tryz.prog 6 ⟨[.slice l_1 l_1n l_1c]⟩ w11 fun (e16 : Ending) (w17 : World) =>
  ∃ (x18 : Option Addr) (x18n : Nat) (x18c : Nat) (x19 : Int), e16 = .returned (.tuple ⟨[.slice x18 x18n x18c, .int .i64 x19]⟩) ∧ (Calls Tryz.prog 7 ⟨[.slice l_1 l_1n l_1c]⟩ w17 fun (e20 : Ending) (w21 : World) =>
  ∃ (x22 : Option Addr) (x22n : Nat) (x22c : Nat) (x23 : Int), e20 = .returned (.tuple ⟨[.slice x22 x22n x22c, .int .i64 x23]⟩) ∧ (Calls Tryz.prog 8 ⟨[.slice l_1 l_1n l_1c]⟩ w21 fun (e24 : Ending) (w25 : World) =>
  ∃ (x26 : Int) (x27 : Int), e24 = .returned (.tuple ⟨[.int .i64 x26, .int .i64 x27]⟩) ∧ (Calls Tryz.prog 9 ⟨[.slice l_1 l_1n l_1c]⟩ w25 fun (e28 : Ending) (w29 : World) =>
  ∃ (x30 : Int) (x31 : Int), e28 = .returned (.tuple ⟨[.int .i64 x30, .int .i64 x31]⟩) ∧ (∃ (x32 : List UInt8), World.cell? w29 (p6.add 0) = some (.string ⟨⟨x32⟩⟩) ∧ (∃ (x33 : Int), World.cell? w29 (p6.add 1) = some (.int .i64 x33) ∧ (Calls Tryz.prog 10 ⟨[.slice l_1 l_1n l_1c, .agg ⟨[.string ⟨⟨x32⟩⟩, .int .i64 x33]⟩]⟩ w29 fun (e34 : Ending) (w35 : World) =>
  ∃ (x36 : Int) (x37 : Int) (x38 : Int), e34 = .returned (.tuple ⟨[.int .i64 x36, .int .i64 x37, .int .i64 x38]⟩) ∧ (∃ (x39 : List UInt8), World.cell? w35 (p6.add 0) = some (.string ⟨⟨x39⟩⟩) ∧ (∃ (x40 : Int), World.cell? w35 (p6.add 1) = some (.int .i64 x40) ∧ (Calls Tryz.prog 11 ⟨[.slice l_1 l_1n l_1c, .agg ⟨[.string ⟨⟨x39⟩⟩, .int .i64 x40]⟩]⟩ w35 fun (e41 : Ending) (w42 : World) =>
  ∃ (x43 : Int) (x44 : Int) (x45 : Int), e41 = .returned (.tuple ⟨[.int .i64 x43, .int .i64 x44, .int .i64 x45]⟩) ∧ (∃ (x46 : List UInt8), World.cell? w42 (p6.add 0) = some (.string ⟨⟨x46⟩⟩) ∧ (∃ (x47 : Int), World.cell? w42 (p6.add 1) = some (.int .i64 x47) ∧ (Calls Tryz.prog 12 ⟨[.slice l_1 l_1n l_1c, .agg ⟨[.string ⟨⟨x46⟩⟩, .int .i64 x47]⟩]⟩ w42 fun (e48 : Ending) (w49 : World) =>
  ∃ (x50 : List UInt8) (x51 : Int), e48 = .returned (.tuple ⟨[.string ⟨⟨x50⟩⟩, .int .i64 x51]⟩) ∧ (∃ (x52 : List UInt8), World.cell? w49 (p6.add 0) = some (.string ⟨⟨x52⟩⟩) ∧ (∃ (x53 : Int), World.cell? w49 (p6.add 1) = some (.int .i64 x53) ∧ (Calls Tryz.prog 13 ⟨[.slice l_1 l_1n l_1c, .agg ⟨[.string ⟨⟨x52⟩⟩, .int .i64 x53]⟩]⟩ w49 fun (e54 : Ending) (w55 : World) =>
  ∃ (x56 : List UInt8) (x57 : Int), e54 = .returned (.tuple ⟨[.string ⟨⟨x56⟩⟩, .int .i64 x57]⟩) ∧ (∃ (x58 : List UInt8), World.cell? w55 (p6.add 0) = some (.string ⟨⟨x58⟩⟩) ∧ (∃ (x59 : Int), World.cell? w55 (p6.add 1) = some (.int .i64 x59) ∧ (∃ (x60 : List UInt8), World.cell? w55 (p8.add 0) = some (.string ⟨⟨x60⟩⟩) ∧ (∃ (x61 : Int), World.cell? w55 (p8.add 1) = some (.int .i64 x61) ∧ (Calls Tryz.prog 14 ⟨[.slice l_1 l_1n l_1c, .agg ⟨[.string ⟨⟨x58⟩⟩, .int .i64 x59]⟩, .agg ⟨[.string ⟨⟨x60⟩⟩, .int .i64 x61]⟩]⟩ w55 fun (e62 : Ending) (w63 : World) =>
  ∃ (x64 : Int) (x65 : Int), e62 = .returned (.tuple ⟨[.int .i64 x64, .int .i64 x65]⟩) ∧ (∃ (x66 : List UInt8), World.cell? w63 (p6.add 0) = some (.string ⟨⟨x66⟩⟩) ∧ (∃ (x67 : Int), World.cell? w63 (p6.add 1) = some (.int .i64 x67) ∧ (∃ (x68 : List UInt8), World.cell? w63 (p8.add 0) = some (.string ⟨⟨x68⟩⟩) ∧ (∃ (x69 : Int), World.cell? w63 (p8.add 1) = some (.int .i64 x69) ∧ (Calls Tryz.prog 15 ⟨[.slice l_1 l_1n l_1c, .agg ⟨[.string ⟨⟨x66⟩⟩, .int .i64 x67]⟩, .agg ⟨[.string ⟨⟨x68⟩⟩, .int .i64 x69]⟩]⟩ w63 fun (e70 : Ending) (w71 : World) =>
  ∃ (x72 : Int) (x73 : Int), e70 = .returned (.tuple ⟨[.int .i64 x72, .int .i64 x73]⟩) ∧ (Calls Tryz.prog 16 ⟨[.slice l_1 l_1n l_1c]⟩ w71 fun (e74 : Ending) (w75 : World) =>
  ∃ (x76 : Option Addr) (x76n : Nat) (x76c : Nat) (x77 : Int), e74 = .returned (.tuple ⟨[.slice x76 x76n x76c, .int .i64 x77]⟩) ∧ (Calls Tryz.prog 17 ⟨[.slice l_1 l_1n l_1c]⟩ w75 fun (e78 : Ending) (w79 : World) =>
  ∃ (x80 : Option Addr) (x80n : Nat) (x80c : Nat) (x81 : Int), e78 = .returned (.tuple ⟨[.slice x80 x80n x80c, .int .i64 x81]⟩) ∧ (Calls Tryz.prog 18 ⟨[.slice x18 x18n x18c, .slice x22 x22n x22c]⟩ w79 fun (e82 : Ending) (w83 : World) =>
  ∃ (x84 : Bool), e82 = .returned (.bool x84) ∧ (br x84 (br (decide ((x19 : Int) = x23)) (br (decide ((x26 : Int) = x30)) (br (decide ((x27 : Int) = x31)) (br (decide ((x36 : Int) = x43)) (br (decide ((x37 : Int) = x44)) (br (decide ((x38 : Int) = x45)) (br (decide ((x50 : List UInt8) = x56)) (br (decide ((x51 : Int) = x57)) (br (decide ((x64 : Int) = x72)) (br (decide ((x65 : Int) = x73)) (Calls Tryz.prog 19 ⟨[.slice x76 x76n x76c, .slice x80 x80n x80c]⟩ w83 fun (e85 : Ending) (w86 : World) =>
  ∃ (x87 : Bool), e85 = .returned (.bool x87) ∧ (br x87 (br (decide ((x77 : Int) = x81)) (Calls Tryz.prog 5 ⟨[]⟩ w86 fun (e88 : Ending) (w89 : World) =>
  ∃ (x90 : Bool), e88 = .returned (.bool x90) ∧ (R (.returned (.bool x90)) w89)) (R (.returned (.bool false)) w86)) (R (.returned (.bool false)) w86))) (R (.returned (.bool false)) w83)) (R (.returned (.bool false)) w83)) (R (.returned (.bool false)) w83)) (R (.returned (.bool false)) w83)) (R (.returned (.bool false)) w83)) (R (.returned (.bool false)) w83)) (R (.returned (.bool false)) w83)) (R (.returned (.bool false)) w83)) (R (.returned (.bool false)) w83)) (R (.returned (.bool false)) w83)) (R (.returned (.bool false)) w83))))))))))))))))))))))))))))))))
set_option maxRecDepth 100000 in
theorem e_law13_LayoutOthers (l_1 : Option Addr) (l_1n : Nat) (l_1c : Nat) (p_2 : List UInt8) (p_3 : Int) (q_4 : List UInt8) (q_5 : Int) (R : Ending → World → Prop) (w : World) : fnV Tryz.prog Tryz.f3 an_law13_LayoutOthers [.slice l_1 l_1n l_1c, .agg ⟨[.string ⟨⟨p_2⟩⟩, .int .i64 p_3]⟩, .agg ⟨[.string ⟨⟨q_4⟩⟩, .int .i64 q_5]⟩] R w = sh_law13_LayoutOthers l_1 l_1n l_1c p_2 p_3 q_4 q_5 R w := by kernel_rfl
theorem c_law13_LayoutOthers {l_1 : Option Addr} {l_1n : Nat} {l_1c : Nat} {p_2 : List UInt8} {p_3 : Int} {q_4 : List UInt8} {q_5 : Int} {R : Ending → World → Prop} {w : World} (h : sh_law13_LayoutOthers l_1 l_1n l_1c p_2 p_3 q_4 q_5 R w) : Calls Tryz.prog F_law13_LayoutOthers ⟨[.slice l_1 l_1n l_1c, .agg ⟨[.string ⟨⟨p_2⟩⟩, .int .i64 p_3]⟩, .agg ⟨[.string ⟨⟨q_4⟩⟩, .int .i64 q_5]⟩]⟩ w R := calls_of_fnV Tryz.func3 (by rw [e_law13_LayoutOthers]; exact h)

def an_ref10_Great : Ann := .two (.leaf) (.two (.cut 32640 [(14, .one (.bool))] (.leaf) (.two (.two (.leaf) (.two (.leaf) (.leaf))) (.leaf))) (.two (.two (.leaf) (.one (.loop 1099377410116 [(6, .one (.int .i64))] (.two (.two (.leaf) (.two (.leaf) (.leaf))) (.two (.one (.two (.leaf) (.two (.two (.leaf) (.leaf)) (.leaf)))) (.leaf)))))) (.two (.leaf) (.leaf))))
def sh_ref10_Great (l_1 : Option Addr) (l_1n : Nat) (l_1c : Nat) (R : Ending → World → Prop) (w : World) : Prop :=
  ∀ (K2 : Bool → World → Prop), (∀ (t14_3 : Bool) (w4 : World), (∀ _ : Env, (br t14_3 (Calls Tryz.prog 20 ⟨[.slice l_1 l_1n l_1c, .int .i64 20, .int .i64 40]⟩ w4 fun (e5 : Ending) (w6 : World) =>
  ∃ (x7 : Int) (x8 : Int) (x9 : Bool), e5 = .returned (.tuple ⟨[.int .i64 x7, .int .i64 x8, .bool x9]⟩) ∧ (br (!x9) (R (.returned (.bool true)) w6) (Calls Tryz.prog 21 ⟨[.slice l_1 l_1n l_1c, .int .i64 20]⟩ w6 fun (e10 : Ending) (w11 : World) =>
  ∃ (x12 : Bool), e10 = .returned (.bool x12) ∧ (R (.returned (.bool x12)) w11)))) (∃ (I13 : Int → World → Nat → Prop), (∃ m17 : Nat, I13 0 w4 m17) ∧ ∀ (i_14 : Int) (w15 : World) (m16 : Nat), I13 i_14 w15 m16 → ∀ _ : Env, (br (decide ((i_14 : Int) < ((l_1n : Int)))) (idx l_1 l_1n i_14 4 fun p18 =>
  ∃ (x19 : Option Addr) (x19n : Nat) (x19c : Nat), World.cell? w15 (p18.add 3) = some (.slice x19 x19n x19c) ∧ (br (decide ((0 : Int) < ((x19n : Int)))) (R (.returned (.bool true)) w15) (∃ m20 : Nat, m20 < m16 ∧ I13 (IntKind.i64.wrap (i_14 + 1)) w15 m20))) (Calls Tryz.prog 21 ⟨[.slice l_1 l_1n l_1c, .int .i64 20]⟩ w15 fun (e21 : Ending) (w22 : World) =>
  ∃ (x23 : Bool), e21 = .returned (.bool x23) ∧ (R (.returned (.bool x23)) w22)))))) → K2 t14_3 w4) → (br (decide ((((l_1n : Int)) : Int) ≤ 4096)) (K2 true w) (K2 (decide ((4100 : Int) < ((l_1n : Int)))) w))
set_option maxRecDepth 100000 in
theorem e_ref10_Great (l_1 : Option Addr) (l_1n : Nat) (l_1c : Nat) (R : Ending → World → Prop) (w : World) : fnV Tryz.prog Tryz.f4 an_ref10_Great [.slice l_1 l_1n l_1c] R w = sh_ref10_Great l_1 l_1n l_1c R w := by kernel_rfl
theorem c_ref10_Great {l_1 : Option Addr} {l_1n : Nat} {l_1c : Nat} {R : Ending → World → Prop} {w : World} (h : sh_ref10_Great l_1 l_1n l_1c R w) : Calls Tryz.prog F_ref10_Great ⟨[.slice l_1 l_1n l_1c]⟩ w R := calls_of_fnV Tryz.func4 (by rw [e_ref10_Great]; exact h)

def an_law13_awake : Ann := .two (.leaf) (.two (.leaf) (.two (.leaf) (.two (.leaf) (.two (.leaf) (.two (.leaf) (.leaf))))))
def sh_law13_awake  (R : Ending → World → Prop) (w : World) : Prop :=
  al w 48 [.int .i64 3, .string ⟨⟨[49, 114]⟩⟩, .int .i64 0, .slice none 0 0, .int .i64 2, .string ⟨⟨[]⟩⟩, .int .i64 0, .slice none 0 0, .int .i64 1, .string ⟨⟨[100, 101]⟩⟩, .int .i64 0, .slice none 0 0, .int .i64 2, .string ⟨⟨[]⟩⟩, .int .i64 0, .slice none 0 0, .int .i64 1, .string ⟨⟨[117, 115]⟩⟩, .int .i64 0, .slice none 0 0] fun p1 w2 =>
  Calls Tryz.prog 22 ⟨[.agg ⟨[.string ⟨⟨[]⟩⟩, .int .i64 0]⟩, .slice (some p1) 5 5]⟩ w2 fun (e3 : Ending) (w4 : World) =>
  ∃ (x5 : Option Addr) (x5n : Nat) (x5c : Nat) (x6 : Int), e3 = .returned (.tuple ⟨[.slice x5 x5n x5c, .int .i64 x6]⟩) ∧ (Calls Tryz.prog 16 ⟨[.slice (some p1) 5 5]⟩ w4 fun (e7 : Ending) (w8 : World) =>
  ∃ (x9 : Option Addr) (x9n : Nat) (x9c : Nat) (x10 : Int), e7 = .returned (.tuple ⟨[.slice x9 x9n x9c, .int .i64 x10]⟩) ∧ (al w8 24 [.string ⟨⟨[]⟩⟩, .int .i64 0] fun p11 w12 =>
  al w12 24 [.string ⟨⟨[]⟩⟩, .int .i64 0] fun p13 w14 =>
  stL w14 p11 0 [.string ⟨⟨[49, 114]⟩⟩, .int .i64 1] fun w15 =>
  stL w15 p13 0 [.string ⟨⟨[49, 114]⟩⟩, .int .i64 2] fun w16 =>
  br (decide ((x6 : Int) = 0)) (br (decide ((x10 : Int) = 0)) (∃ (x17 : List UInt8), World.cell? w16 (p11.add 0) = some (.string ⟨⟨x17⟩⟩) ∧ (∃ (x18 : Int), World.cell? w16 (p11.add 1) = some (.int .i64 x18) ∧ (∃ (x19 : List UInt8), World.cell? w16 (p11.add 0) = some (.string ⟨⟨x19⟩⟩) ∧ (∃ (x20 : Int), World.cell? w16 (p11.add 1) = some (.int .i64 x20) ∧ (∃ (x21 : List UInt8), World.cell? w16 (p13.add 0) = some (.string ⟨⟨x21⟩⟩) ∧ (∃ (x22 : Int), World.cell? w16 (p13.add 1) = some (.int .i64 x22) ∧ (∃ (x23 : List UInt8), World.cell? w16 (p13.add 0) = some (.string ⟨⟨x23⟩⟩) ∧ (∃ (x24 : Int), World.cell? w16 (p13.add 1) = some (.int .i64 x24) ∧ (al w16 24 [.string ⟨⟨x17⟩⟩, .int .i64 x18, .string ⟨⟨x19⟩⟩, .int .i64 x20, .string ⟨⟨x21⟩⟩, .int .i64 x22, .string ⟨⟨x23⟩⟩, .int .i64 x24] fun p25 w26 =>
  Calls Tryz.prog 23 ⟨[.slice x5 x5n x5c, .slice (some p25) 4 4]⟩ w26 fun (e27 : Ending) (w28 : World) =>
  ∃ (x29 : Bool), e27 = .returned (.bool x29) ∧ (br x29 (al w28 3 [.int .i64 2] fun p30 w31 =>
  Calls Tryz.prog 19 ⟨[.slice x9 x9n x9c, .slice (some p30) 1 1]⟩ w31 fun (e32 : Ending) (w33 : World) =>
  ∃ (x34 : Bool), e32 = .returned (.bool x34) ∧ (R (.returned (.bool x34)) w33)) (R (.returned (.bool false)) w28))))))))))) (R (.returned (.bool false)) w16)) (R (.returned (.bool false)) w16)))
set_option maxRecDepth 100000 in
theorem e_law13_awake  (R : Ending → World → Prop) (w : World) : fnV Tryz.prog Tryz.f5 an_law13_awake [] R w = sh_law13_awake  R w := by kernel_rfl
theorem c_law13_awake  {R : Ending → World → Prop} {w : World} (h : sh_law13_awake  R w) : Calls Tryz.prog F_law13_awake ⟨[]⟩ w R := calls_of_fnV Tryz.func5 (by rw [e_law13_awake]; exact h)

def an_layout_Pages : Ann := .two (.leaf) (.two (.two (.leaf) (.two (.leaf) (.two (.two (.leaf) (.leaf)) (.leaf)))) (.two (.leaf) (.two (.leaf) (.two (.leaf) (.two (.leaf) (.two (.two (.leaf) (.two (.two (.leaf) (.leaf)) (.leaf))) (.two (.leaf) (.leaf))))))))
def sh_layout_Pages (l_1 : Option Addr) (l_1n : Nat) (l_1c : Nat) (R : Ending → World → Prop) (w : World) : Prop :=
  Calls Tryz.prog 24 ⟨[.slice l_1 l_1n l_1c]⟩ w fun (e2 : Ending) (w3 : World) =>
  ∃ (x4 : List UInt8) (x5 : Int), e2 = .returned (.tuple ⟨[.string ⟨⟨x4⟩⟩, .int .i64 x5]⟩) ∧ (br (decide ((x5 : Int) ≠ 0)) (R (.returned (.tuple ⟨[.slice none 0 0, .int .i64 x5]⟩)) w3) (al w3 27 [.slice none 0 0] fun p6 w7 =>
  mkm w7 fun b8 w9 =>
  al w9 54 [.map none] fun p10 w11 =>
  stL w11 p10 0 [.map (some b8)] fun w12 =>
  al w12 4 [.bool false] fun p13 w14 =>
  stL w14 p13 0 [.bool false] fun w15 =>
  Calls Tryz.prog 25 ⟨[.slice l_1 l_1n l_1c, .int .i64 3, .func (.func 26) ⟨[]⟩ ⟨[.pointer (some p13), .pointer (some p10), .pointer (some p6)]⟩]⟩ w15 fun (e16 : Ending) (w17 : World) =>
  e16 = .returned (.tuple ⟨[]⟩) ∧ (∃ (x18 : Bool), World.cell? w17 p13 = some (.bool x18) ∧ (br x18 (R (.returned (.tuple ⟨[.slice none 0 0, .int .i64 7]⟩)) w17) (∃ (x19 : Option Addr) (x19n : Nat) (x19c : Nat), World.cell? w17 p6 = some (.slice x19 x19n x19c) ∧ (R (.returned (.tuple ⟨[.slice x19 x19n x19c, .int .i64 0]⟩)) w17))))))
set_option maxRecDepth 100000 in
theorem e_layout_Pages (l_1 : Option Addr) (l_1n : Nat) (l_1c : Nat) (R : Ending → World → Prop) (w : World) : fnV Tryz.prog Tryz.f6 an_layout_Pages [.slice l_1 l_1n l_1c] R w = sh_layout_Pages l_1 l_1n l_1c R w := by kernel_rfl
theorem c_layout_Pages {l_1 : Option Addr} {l_1n : Nat} {l_1c : Nat} {R : Ending → World → Prop} {w : World} (h : sh_layout_Pages l_1 l_1n l_1c R w) : Calls Tryz.prog F_layout_Pages ⟨[.slice l_1 l_1n l_1c]⟩ w R := calls_of_fnV Tryz.func6 (by rw [e_layout_Pages]; exact h)

def an_ref13_Pages : Ann := .two (.leaf) (.two (.two (.leaf) (.two (.leaf) (.two (.two (.leaf) (.leaf)) (.leaf)))) (.two (.leaf) (.two (.two (.leaf) (.one (.loop 35184355312396 [(8, .one (.int .i64))] (.two (.two (.leaf) (.two (.leaf) (.leaf))) (.two (.one (.two (.leaf) (.one (.loop 35183298347532 [(9, .one (.int .i64))] (.two (.two (.leaf) (.two (.leaf) (.leaf))) (.two (.one (.two (.leaf) (.two (.two (.leaf) (.leaf)) (.leaf)))) (.leaf))))))) (.leaf)))))) (.two (.leaf) (.leaf)))))
def sh_ref13_Pages (l_1 : Option Addr) (l_1n : Nat) (l_1c : Nat) (R : Ending → World → Prop) (w : World) : Prop :=
  Calls Tryz.prog 27 ⟨[.slice l_1 l_1n l_1c]⟩ w fun (e2 : Ending) (w3 : World) =>
  ∃ (x4 : List UInt8) (x5 : Int), e2 = .returned (.tuple ⟨[.string ⟨⟨x4⟩⟩, .int .i64 x5]⟩) ∧ (br (decide ((x5 : Int) ≠ 0)) (al w3 9 [] fun p6 w7 =>
  R (.returned (.tuple ⟨[.slice (some p6) 0 0, .int .i64 x5]⟩)) w7) (Calls Tryz.prog 28 ⟨[.slice l_1 l_1n l_1c]⟩ w3 fun (e8 : Ending) (w9 : World) =>
  ∃ (x10 : Option Addr) (x10n : Nat) (x10c : Nat) (x11 : Int), e8 = .returned (.tuple ⟨[.slice x10 x10n x10c, .int .i64 x11]⟩) ∧ (∃ (I12 : Int → World → Nat → Prop), (∃ m16 : Nat, I12 0 w9 m16) ∧ ∀ (i_13 : Int) (w14 : World) (m15 : Nat), I12 i_13 w14 m15 → ∀ _ : Env, (br (decide ((i_13 : Int) < ((x10n : Int)))) (∃ (I17 : Int → World → Nat → Prop), (∃ m21 : Nat, I17 0 w14 m21) ∧ ∀ (k_18 : Int) (w19 : World) (m20 : Nat), I17 k_18 w19 m20 → ∀ _ : Env, (br (decide ((k_18 : Int) < i_13)) (drw w19 fun w22 =>
  idx x10 x10n i_13 1 fun p23 =>
  ∃ (x24 : List UInt8), World.cell? w22 p23 = some (.string ⟨⟨x24⟩⟩) ∧ (idx x10 x10n k_18 1 fun p25 =>
  ∃ (x26 : List UInt8), World.cell? w22 p25 = some (.string ⟨⟨x26⟩⟩) ∧ (br (decide ((x24 : List UInt8) = x26)) (al w22 9 [] fun p27 w28 =>
  R (.returned (.tuple ⟨[.slice (some p27) 0 0, .int .i64 7]⟩)) w28) (∃ m29 : Nat, m29 < m20 ∧ I17 (IntKind.i64.wrap (k_18 + 1)) w22 m29)))) (∃ m30 : Nat, m30 < m15 ∧ I12 (IntKind.i64.wrap (i_13 + 1)) w19 m30))) (R (.returned (.tuple ⟨[.slice x10 x10n x10c, .int .i64 0]⟩)) w14)))))
set_option maxRecDepth 100000 in
theorem e_ref13_Pages (l_1 : Option Addr) (l_1n : Nat) (l_1c : Nat) (R : Ending → World → Prop) (w : World) : fnV Tryz.prog Tryz.f7 an_ref13_Pages [.slice l_1 l_1n l_1c] R w = sh_ref13_Pages l_1 l_1n l_1c R w := by kernel_rfl
theorem c_ref13_Pages {l_1 : Option Addr} {l_1n : Nat} {l_1c : Nat} {R : Ending → World → Prop} {w : World} (h : sh_ref13_Pages l_1 l_1n l_1c R w) : Calls Tryz.prog F_ref13_Pages ⟨[.slice l_1 l_1n l_1c]⟩ w R := calls_of_fnV Tryz.func7 (by rw [e_ref13_Pages]; exact h)

def an_layout_Lines : Ann := .two (.leaf) (.two (.two (.leaf) (.two (.leaf) (.two (.two (.leaf) (.leaf)) (.leaf)))) (.two (.leaf) (.two (.leaf) (.two (.leaf) (.leaf)))))
def sh_layout_Lines (l_1 : Option Addr) (l_1n : Nat) (l_1c : Nat) (R : Ending → World → Prop) (w : World) : Prop :=
  Calls Tryz.prog 24 ⟨[.slice l_1 l_1n l_1c]⟩ w fun (e2 : Ending) (w3 : World) =>
  ∃ (x4 : List UInt8) (x5 : Int), e2 = .returned (.tuple ⟨[.string ⟨⟨x4⟩⟩, .int .i64 x5]⟩) ∧ (br (decide ((x5 : Int) ≠ 0)) (R (.returned (.tuple ⟨[.int .i64 0, .int .i64 x5]⟩)) w3) (al w3 3 [.int .i64 0] fun p6 w7 =>
  stL w7 p6 0 [.int .i64 0] fun w8 =>
  Calls Tryz.prog 25 ⟨[.slice l_1 l_1n l_1c, .int .i64 2, .func (.func 29) ⟨[]⟩ ⟨[.pointer (some p6)]⟩]⟩ w8 fun (e9 : Ending) (w10 : World) =>
  e9 = .returned (.tuple ⟨[]⟩) ∧ (∃ (x11 : Int), World.cell? w10 p6 = some (.int .i64 x11) ∧ (R (.returned (.tuple ⟨[.int .i64 x11, .int .i64 0]⟩)) w10))))
set_option maxRecDepth 100000 in
theorem e_layout_Lines (l_1 : Option Addr) (l_1n : Nat) (l_1c : Nat) (R : Ending → World → Prop) (w : World) : fnV Tryz.prog Tryz.f8 an_layout_Lines [.slice l_1 l_1n l_1c] R w = sh_layout_Lines l_1 l_1n l_1c R w := by kernel_rfl
theorem c_layout_Lines {l_1 : Option Addr} {l_1n : Nat} {l_1c : Nat} {R : Ending → World → Prop} {w : World} (h : sh_layout_Lines l_1 l_1n l_1c R w) : Calls Tryz.prog F_layout_Lines ⟨[.slice l_1 l_1n l_1c]⟩ w R := calls_of_fnV Tryz.func8 (by rw [e_layout_Lines]; exact h)

def an_ref13_Lines : Ann := .two (.leaf) (.two (.two (.leaf) (.two (.leaf) (.two (.two (.leaf) (.leaf)) (.leaf)))) (.two (.leaf) (.two (.leaf) (.leaf))))
def sh_ref13_Lines (l_1 : Option Addr) (l_1n : Nat) (l_1c : Nat) (R : Ending → World → Prop) (w : World) : Prop :=
  Calls Tryz.prog 27 ⟨[.slice l_1 l_1n l_1c]⟩ w fun (e2 : Ending) (w3 : World) =>
  ∃ (x4 : List UInt8) (x5 : Int), e2 = .returned (.tuple ⟨[.string ⟨⟨x4⟩⟩, .int .i64 x5]⟩) ∧ (br (decide ((x5 : Int) ≠ 0)) (R (.returned (.tuple ⟨[.int .i64 0, .int .i64 x5]⟩)) w3) (Calls Tryz.prog 28 ⟨[.slice l_1 l_1n l_1c]⟩ w3 fun (e6 : Ending) (w7 : World) =>
  ∃ (x8 : Option Addr) (x8n : Nat) (x8c : Nat) (x9 : Int), e6 = .returned (.tuple ⟨[.slice x8 x8n x8c, .int .i64 x9]⟩) ∧ (R (.returned (.tuple ⟨[.int .i64 x9, .int .i64 0]⟩)) w7)))
set_option maxRecDepth 100000 in
theorem e_ref13_Lines (l_1 : Option Addr) (l_1n : Nat) (l_1c : Nat) (R : Ending → World → Prop) (w : World) : fnV Tryz.prog Tryz.f9 an_ref13_Lines [.slice l_1 l_1n l_1c] R w = sh_ref13_Lines l_1 l_1n l_1c R w := by kernel_rfl
theorem c_ref13_Lines {l_1 : Option Addr} {l_1n : Nat} {l_1c : Nat} {R : Ending → World → Prop} {w : World} (h : sh_ref13_Lines l_1 l_1n l_1c R w) : Calls Tryz.prog F_ref13_Lines ⟨[.slice l_1 l_1n l_1c]⟩ w R := calls_of_fnV Tryz.func9 (by rw [e_ref13_Lines]; exact h)

def an_layout_Find : Ann := .two (.leaf) (.two (.two (.leaf) (.two (.leaf) (.two (.two (.leaf) (.leaf)) (.leaf)))) (.two (.leaf) (.two (.two (.leaf) (.one (.rf [3, 4, 5, 6, 9, 24] 0))) (.two (.leaf) (.leaf)))))
def sh_layout_Find (l_1 : Option Addr) (l_1n : Nat) (l_1c : Nat) (p_2 : List UInt8) (p_3 : Int) (R : Ending → World → Prop) (w : World) : Prop :=
  al w 24 [.string ⟨⟨p_2⟩⟩, .int .i64 p_3] fun p4 w5 =>
  al w5 3 [.int .i64 0] fun p6 w7 =>
  al w7 3 [.int .i64 0] fun p8 w9 =>
  al w9 28 [.int .i64 0] fun p10 w11 =>
  Calls Tryz.prog 24 ⟨[.slice l_1 l_1n l_1c]⟩ w11 fun (e12 : Ending) (w13 : World) =>
  ∃ (x14 : List UInt8) (x15 : Int), e12 = .returned (.tuple ⟨[.string ⟨⟨x14⟩⟩, .int .i64 x15]⟩) ∧ (br (decide ((x15 : Int) ≠ 0)) (stL w13 p6 0 [.int .i64 0] fun w16 =>
  stL w16 p8 0 [.int .i64 0] fun w17 =>
  stL w17 p10 0 [.int .i64 x15] fun w18 =>
  ∃ (x19 : Int), World.cell? w18 p6 = some (.int .i64 x19) ∧ (∃ (x20 : Int), World.cell? w18 p8 = some (.int .i64 x20) ∧ (∃ (x21 : Int), World.cell? w18 p10 = some (.int .i64 x21) ∧ (R (.returned (.tuple ⟨[.int .i64 x19, .int .i64 x20, .int .i64 x21]⟩)) w18)))) (Calls Tryz.prog 30 ⟨[.agg ⟨[.string ⟨⟨[]⟩⟩, .int .i64 0]⟩, .slice l_1 l_1n l_1c]⟩ w13 fun (e22 : Ending) (w23 : World) =>
  ∃ (x24 : Option Addr) (x24n : Nat) (x24c : Nat), e22 = .returned (.slice x24 x24n x24c) ∧ (al w23 49 [.slice none 0 0] fun p25 w26 =>
  stL w26 p25 0 [.slice x24 x24n x24c] fun w27 =>
  ∃ (x28 : Option Addr) (x28n : Nat) (x28c : Nat), World.cell? w27 p25 = some (.slice x28 x28n x28c) ∧ (Calls Tryz.prog 31 ⟨[.slice x28 x28n x28c]⟩ w27 fun (e29 : Ending) (w30 : World) =>
  ∃ (x31 : Fn) (x31a : Array Value) (x31b : Array Value), e29 = .returned (.func x31 x31a x31b) ∧ (∀ base32 : Env, RFw Tryz.prog none 35 (cdAt Tryz.f10 [1, 1, 1, 0, 1, 2]) (upd (upd (upd (upd (upd (upd base32 24 (.func x31 x31a x31b)) 9 (.pointer (some p25))) 6 (.pointer (some p10))) 5 (.pointer (some p8))) 4 (.pointer (some p6))) 3 (.pointer (some p4))) [] w30 0 (fun ds33 w34 =>
  stL w34 p6 0 [.int .i64 0] fun w42 =>
  stL w42 p8 0 [.int .i64 0] fun w43 =>
  stL w43 p10 0 [.int .i64 6] fun w44 =>
  retD ds33 w44 fun w45 =>
  ∃ (x46 : Int), World.cell? w45 p6 = some (.int .i64 x46) ∧ (∃ (x47 : Int), World.cell? w45 p8 = some (.int .i64 x47) ∧ (∃ (x48 : Int), World.cell? w45 p10 = some (.int .i64 x48) ∧ (R (.returned (.tuple ⟨[.int .i64 x46, .int .i64 x47, .int .i64 x48]⟩)) w45)))) (fun ds33 w34 =>
  retD ds33 w34 fun w49 =>
  ∃ (x50 : Int), World.cell? w49 p6 = some (.int .i64 x50) ∧ (∃ (x51 : Int), World.cell? w49 p8 = some (.int .i64 x51) ∧ (∃ (x52 : Int), World.cell? w49 p10 = some (.int .i64 x52) ∧ (R (.returned (.tuple ⟨[.int .i64 x50, .int .i64 x51, .int .i64 x52]⟩)) w49)))) (fun ds33 w34 =>
  stL w34 p6 0 [.int .i64 0] fun w35 =>
  stL w35 p8 0 [.int .i64 0] fun w36 =>
  stL w36 p10 0 [.int .i64 6] fun w37 =>
  retD ds33 w37 fun w38 =>
  ∃ (x39 : Int), World.cell? w38 p6 = some (.int .i64 x39) ∧ (∃ (x40 : Int), World.cell? w38 p8 = some (.int .i64 x40) ∧ (∃ (x41 : Int), World.cell? w38 p10 = some (.int .i64 x41) ∧ (R (.returned (.tuple ⟨[.int .i64 x39, .int .i64 x40, .int .i64 x41]⟩)) w38)))))))))
set_option maxRecDepth 100000 in
theorem e_layout_Find (l_1 : Option Addr) (l_1n : Nat) (l_1c : Nat) (p_2 : List UInt8) (p_3 : Int) (R : Ending → World → Prop) (w : World) : fnV Tryz.prog Tryz.f10 an_layout_Find [.slice l_1 l_1n l_1c, .agg ⟨[.string ⟨⟨p_2⟩⟩, .int .i64 p_3]⟩] R w = sh_layout_Find l_1 l_1n l_1c p_2 p_3 R w := by kernel_rfl
theorem c_layout_Find {l_1 : Option Addr} {l_1n : Nat} {l_1c : Nat} {p_2 : List UInt8} {p_3 : Int} {R : Ending → World → Prop} {w : World} (h : sh_layout_Find l_1 l_1n l_1c p_2 p_3 R w) : Calls Tryz.prog F_layout_Find ⟨[.slice l_1 l_1n l_1c, .agg ⟨[.string ⟨⟨p_2⟩⟩, .int .i64 p_3]⟩]⟩ w R := calls_of_fnV Tryz.func10 (by rw [e_layout_Find]; exact h)
def anA_layout_Find_1 : Ann := .two (.leaf) (.leaf)
def anB_layout_Find_1 : Ann := .one (.two (.leaf) (.two (.two (.leaf) (.leaf)) (.leaf)))
def rf_layout_Find_1 (p_53 : Option Addr) (t4_54 : Option Addr) (t5_55 : Option Addr) (t6_56 : Option Addr) (all_57 : Option Addr) (t24_58 : Fn) (t24_58a : Array Value) (t24_58b : Array Value) (t25_59 : Int) (t26_60 : Int) (l : Nat) (Kn Kr Kx : World → World → Prop) (w : World) : Prop :=
  Ext w w ∧ ∀ w61 : World, Upd l w w61 → (drw w61 fun w62 =>
  dr all_57 fun p63 =>
  ∃ (x64 : Option Addr) (x64n : Nat) (x64c : Nat), World.cell? w62 p63 = some (.slice x64 x64n x64c) ∧ (idx x64 x64n t25_59 2 fun p65 =>
  ∃ (x66 : List UInt8), World.cell? w62 (p65.add 0) = some (.string ⟨⟨x66⟩⟩) ∧ (∃ (x67 : Int), World.cell? w62 (p65.add 1) = some (.int .i64 x67) ∧ (dr p_53 fun p68 =>
  ∃ (x69 : List UInt8), World.cell? w62 (p68.add 0) = some (.string ⟨⟨x69⟩⟩) ∧ (∃ (x70 : Int), World.cell? w62 (p68.add 1) = some (.int .i64 x70) ∧ (br ((decide ((x66 : List UInt8) = x69) && (decide ((x67 : Int) = x70) && true))) (dr t4_54 fun p72 =>
  stL w62 p72 0 [.int .i64 t25_59] fun w71 =>
  dr t5_55 fun p74 =>
  stL w71 p74 0 [.int .i64 t26_60] fun w73 =>
  dr t6_56 fun p76 =>
  stL w73 p76 0 [.int .i64 0] fun w75 =>
  Kr w61 w75) (Kn w61 w62)))))))
set_option maxRecDepth 100000 in
theorem er_layout_Find_1 (base : Env) (p_53 : Option Addr) (t4_54 : Option Addr) (t5_55 : Option Addr) (t6_56 : Option Addr) (all_57 : Option Addr) (t24_58 : Fn) (t24_58a : Array Value) (t24_58b : Array Value) (t25_59 : Int) (t26_60 : Int) (l : Nat) (Kn Kr Kx : World → World → Prop) (w : World) : fragV Tryz.prog 35 anA_layout_Find_1 anB_layout_Find_1 (cdAt Tryz.f10 [1, 1, 1, 0, 1, 2, 5]) (cdAt Tryz.f10 [1, 1, 1, 0, 1, 2, 6]) l 0 Kn Kr Kx (updPs [25, 26] [.int .i64 t25_59, .int .i64 t26_60] (upd (upd (upd (upd (upd (upd base 24 (.func t24_58 t24_58a t24_58b)) 9 (.pointer all_57)) 6 (.pointer t6_56)) 5 (.pointer t5_55)) 4 (.pointer t4_54)) 3 (.pointer p_53))) w = rf_layout_Find_1 p_53 t4_54 t5_55 t6_56 all_57 t24_58 t24_58a t24_58b t25_59 t26_60 l Kn Kr Kx w := by kernel_rfl
theorem cd_layout_Find_1 : cdAt Tryz.f10 [1, 1, 1, 0, 1, 2] = .rangeFunc (Operand.tmp 24) #[25, 26] (cdAt Tryz.f10 [1, 1, 1, 0, 1, 2, 5]) (cdAt Tryz.f10 [1, 1, 1, 0, 1, 2, 6]) := by kernel_rfl

def an_ref13_Find : Ann := .two (.leaf) (.two (.leaf) (.two (.two (.leaf) (.two (.two (.leaf) (.leaf)) (.leaf))) (.two (.two (.leaf) (.one (.loop 1125899904748656 [(10, .one (.int .i64))] (.two (.two (.leaf) (.two (.leaf) (.leaf))) (.two (.one (.two (.two (.leaf) (.two (.leaf) (.leaf))) (.two (.leaf) (.cut 281457796843520 [(11, .one (.int .i64))] (.one (.loop 281457796843520 [(11, .one (.int .i64))] (.two (.two (.leaf) (.two (.leaf) (.leaf))) (.one (.leaf))))) (.two (.leaf) (.leaf)))))) (.leaf)))))) (.two (.leaf) (.leaf)))))
def sh_ref13_Find (l_1 : Option Addr) (l_1n : Nat) (l_1c : Nat) (p_2 : List UInt8) (p_3 : Int) (R : Ending → World → Prop) (w : World) : Prop :=
  al w 24 [.string ⟨⟨p_2⟩⟩, .int .i64 p_3] fun p4 w5 =>
  Calls Tryz.prog 32 ⟨[.slice l_1 l_1n l_1c]⟩ w5 fun (e6 : Ending) (w7 : World) =>
  ∃ (x8 : Option Addr) (x8n : Nat) (x8c : Nat) (x9 : List UInt8) (x10 : Int), e6 = .returned (.tuple ⟨[.slice x8 x8n x8c, .string ⟨⟨x9⟩⟩, .int .i64 x10]⟩) ∧ (br (decide ((x10 : Int) ≠ 0)) (R (.returned (.tuple ⟨[.int .i64 0, .int .i64 0, .int .i64 x10]⟩)) w7) (∃ (I11 : Int → World → Nat → Prop), (∃ m15 : Nat, I11 0 w7 m15) ∧ ∀ (i_12 : Int) (w13 : World) (m14 : Nat), I11 i_12 w13 m14 → ∀ _ : Env, (br (decide ((i_12 : Int) < ((x8n : Int)))) (drw w13 fun w16 =>
  idx x8 x8n i_12 2 fun p17 =>
  ∃ (x18 : List UInt8), World.cell? w16 (p17.add 0) = some (.string ⟨⟨x18⟩⟩) ∧ (∃ (x19 : Int), World.cell? w16 (p17.add 1) = some (.int .i64 x19) ∧ (∃ (x20 : List UInt8), World.cell? w16 (p4.add 0) = some (.string ⟨⟨x20⟩⟩) ∧ (∃ (x21 : Int), World.cell? w16 (p4.add 1) = some (.int .i64 x21) ∧ (br (!(decide ((x18 : List UInt8) = x20) && (decide ((x19 : Int) = x21) && true))) (∃ m22 : Nat, m22 < m14 ∧ I11 (IntKind.i64.wrap (i_12 + 1)) w16 m22) (∀ (K23 : Int → World → Prop), (∀ (k_24 : Int) (w25 : World), (∀ _ : Env, (R (.returned (.tuple ⟨[.int .i64 i_12, .int .i64 k_24, .int .i64 0]⟩)) w25)) → K23 k_24 w25) → (∃ (I26 : Int → World → Nat → Prop), (∃ m30 : Nat, I26 i_12 w16 m30) ∧ ∀ (k_27 : Int) (w28 : World) (m29 : Nat), I26 k_27 w28 m29 → ∀ _ : Env, (drw w28 fun w31 =>
  br (decide ((k_27 : Int) < ((x8n : Int)))) (idx x8 x8n k_27 2 fun p32 =>
  ∃ (x33 : List UInt8), World.cell? w31 (p32.add 0) = some (.string ⟨⟨x33⟩⟩) ∧ (∃ (x34 : Int), World.cell? w31 (p32.add 1) = some (.int .i64 x34) ∧ (∃ (x35 : List UInt8), World.cell? w31 (p4.add 0) = some (.string ⟨⟨x35⟩⟩) ∧ (∃ (x36 : Int), World.cell? w31 (p4.add 1) = some (.int .i64 x36) ∧ (br ((decide ((x33 : List UInt8) = x35) && (decide ((x34 : Int) = x36) && true))) (∃ m37 : Nat, m37 < m29 ∧ I26 (IntKind.i64.wrap (k_27 + 1)) w31 m37) (K23 k_27 w31)))))) (K23 k_27 w31))))))))) (R (.returned (.tuple ⟨[.int .i64 0, .int .i64 0, .int .i64 6]⟩)) w13))))
set_option maxRecDepth 100000 in
theorem e_ref13_Find (l_1 : Option Addr) (l_1n : Nat) (l_1c : Nat) (p_2 : List UInt8) (p_3 : Int) (R : Ending → World → Prop) (w : World) : fnV Tryz.prog Tryz.f11 an_ref13_Find [.slice l_1 l_1n l_1c, .agg ⟨[.string ⟨⟨p_2⟩⟩, .int .i64 p_3]⟩] R w = sh_ref13_Find l_1 l_1n l_1c p_2 p_3 R w := by kernel_rfl
theorem c_ref13_Find {l_1 : Option Addr} {l_1n : Nat} {l_1c : Nat} {p_2 : List UInt8} {p_3 : Int} {R : Ending → World → Prop} {w : World} (h : sh_ref13_Find l_1 l_1n l_1c p_2 p_3 R w) : Calls Tryz.prog F_ref13_Find ⟨[.slice l_1 l_1n l_1c, .agg ⟨[.string ⟨⟨p_2⟩⟩, .int .i64 p_3]⟩]⟩ w R := calls_of_fnV Tryz.func11 (by rw [e_ref13_Find]; exact h)

def an_layout_Line : Ann := .two (.leaf) (.two (.leaf) (.two (.two (.leaf) (.two (.two (.leaf) (.leaf)) (.leaf))) (.two (.leaf) (.two (.two (.leaf) (.two (.two (.leaf) (.leaf)) (.leaf))) (.two (.leaf) (.leaf))))))
def sh_layout_Line (l_1 : Option Addr) (l_1n : Nat) (l_1c : Nat) (p_2 : List UInt8) (p_3 : Int) (R : Ending → World → Prop) (w : World) : Prop :=
  al w 24 [.string ⟨⟨p_2⟩⟩, .int .i64 p_3] fun p4 w5 =>
  Calls Tryz.prog 24 ⟨[.slice l_1 l_1n l_1c]⟩ w5 fun (e6 : Ending) (w7 : World) =>
  ∃ (x8 : List UInt8) (x9 : Int), e6 = .returned (.tuple ⟨[.string ⟨⟨x8⟩⟩, .int .i64 x9]⟩) ∧ (br (decide ((x9 : Int) ≠ 0)) (R (.returned (.tuple ⟨[.string ⟨⟨[]⟩⟩, .int .i64 x9]⟩)) w7) (∃ (x10 : List UInt8), World.cell? w7 (p4.add 0) = some (.string ⟨⟨x10⟩⟩) ∧ (∃ (x11 : Int), World.cell? w7 (p4.add 1) = some (.int .i64 x11) ∧ (Calls Tryz.prog 10 ⟨[.slice l_1 l_1n l_1c, .agg ⟨[.string ⟨⟨x10⟩⟩, .int .i64 x11]⟩]⟩ w7 fun (e12 : Ending) (w13 : World) =>
  ∃ (x14 : Int) (x15 : Int) (x16 : Int), e12 = .returned (.tuple ⟨[.int .i64 x14, .int .i64 x15, .int .i64 x16]⟩) ∧ (br (decide ((x16 : Int) ≠ 0)) (R (.returned (.tuple ⟨[.string ⟨⟨[]⟩⟩, .int .i64 x16]⟩)) w13) (ssl x8 x14 x15 fun s17 =>
  R (.returned (.tuple ⟨[.string ⟨⟨s17⟩⟩, .int .i64 0]⟩)) w13))))))
set_option maxRecDepth 100000 in
theorem e_layout_Line (l_1 : Option Addr) (l_1n : Nat) (l_1c : Nat) (p_2 : List UInt8) (p_3 : Int) (R : Ending → World → Prop) (w : World) : fnV Tryz.prog Tryz.f12 an_layout_Line [.slice l_1 l_1n l_1c, .agg ⟨[.string ⟨⟨p_2⟩⟩, .int .i64 p_3]⟩] R w = sh_layout_Line l_1 l_1n l_1c p_2 p_3 R w := by kernel_rfl
theorem c_layout_Line {l_1 : Option Addr} {l_1n : Nat} {l_1c : Nat} {p_2 : List UInt8} {p_3 : Int} {R : Ending → World → Prop} {w : World} (h : sh_layout_Line l_1 l_1n l_1c p_2 p_3 R w) : Calls Tryz.prog F_layout_Line ⟨[.slice l_1 l_1n l_1c, .agg ⟨[.string ⟨⟨p_2⟩⟩, .int .i64 p_3]⟩]⟩ w R := calls_of_fnV Tryz.func12 (by rw [e_layout_Line]; exact h)

def an_ref13_Line : Ann := .two (.leaf) (.two (.leaf) (.two (.two (.leaf) (.two (.two (.leaf) (.leaf)) (.leaf))) (.two (.leaf) (.two (.leaf) (.leaf)))))
def sh_ref13_Line (l_1 : Option Addr) (l_1n : Nat) (l_1c : Nat) (p_2 : List UInt8) (p_3 : Int) (R : Ending → World → Prop) (w : World) : Prop :=
  al w 24 [.string ⟨⟨p_2⟩⟩, .int .i64 p_3] fun p4 w5 =>
  ∃ (x6 : List UInt8), World.cell? w5 (p4.add 0) = some (.string ⟨⟨x6⟩⟩) ∧ (∃ (x7 : Int), World.cell? w5 (p4.add 1) = some (.int .i64 x7) ∧ (Calls Tryz.prog 11 ⟨[.slice l_1 l_1n l_1c, .agg ⟨[.string ⟨⟨x6⟩⟩, .int .i64 x7]⟩]⟩ w5 fun (e8 : Ending) (w9 : World) =>
  ∃ (x10 : Int) (x11 : Int) (x12 : Int), e8 = .returned (.tuple ⟨[.int .i64 x10, .int .i64 x11, .int .i64 x12]⟩) ∧ (br (decide ((x12 : Int) ≠ 0)) (R (.returned (.tuple ⟨[.string ⟨⟨[]⟩⟩, .int .i64 x12]⟩)) w9) (Calls Tryz.prog 27 ⟨[.slice l_1 l_1n l_1c]⟩ w9 fun (e13 : Ending) (w14 : World) =>
  ∃ (x15 : List UInt8) (x16 : Int), e13 = .returned (.tuple ⟨[.string ⟨⟨x15⟩⟩, .int .i64 x16]⟩) ∧ (ssl x15 x10 x11 fun s17 =>
  R (.returned (.tuple ⟨[.string ⟨⟨s17⟩⟩, .int .i64 0]⟩)) w14)))))
set_option maxRecDepth 100000 in
theorem e_ref13_Line (l_1 : Option Addr) (l_1n : Nat) (l_1c : Nat) (p_2 : List UInt8) (p_3 : Int) (R : Ending → World → Prop) (w : World) : fnV Tryz.prog Tryz.f13 an_ref13_Line [.slice l_1 l_1n l_1c, .agg ⟨[.string ⟨⟨p_2⟩⟩, .int .i64 p_3]⟩] R w = sh_ref13_Line l_1 l_1n l_1c p_2 p_3 R w := by kernel_rfl
theorem c_ref13_Line {l_1 : Option Addr} {l_1n : Nat} {l_1c : Nat} {p_2 : List UInt8} {p_3 : Int} {R : Ending → World → Prop} {w : World} (h : sh_ref13_Line l_1 l_1n l_1c p_2 p_3 R w) : Calls Tryz.prog F_ref13_Line ⟨[.slice l_1 l_1n l_1c, .agg ⟨[.string ⟨⟨p_2⟩⟩, .int .i64 p_3]⟩]⟩ w R := calls_of_fnV Tryz.func13 (by rw [e_ref13_Line]; exact h)

def an_layout_Compare : Ann := .two (.leaf) (.two (.leaf) (.two (.two (.leaf) (.two (.two (.leaf) (.leaf)) (.leaf))) (.two (.leaf) (.two (.two (.leaf) (.two (.two (.leaf) (.leaf)) (.leaf))) (.two (.leaf) (.leaf))))))
def sh_layout_Compare (l_1 : Option Addr) (l_1n : Nat) (l_1c : Nat) (p_2 : List UInt8) (p_3 : Int) (q_4 : List UInt8) (q_5 : Int) (R : Ending → World → Prop) (w : World) : Prop :=
  al w 24 [.string ⟨⟨p_2⟩⟩, .int .i64 p_3] fun p6 w7 =>
  al w7 24 [.string ⟨⟨q_4⟩⟩, .int .i64 q_5] fun p8 w9 =>
  ∃ (x10 : List UInt8), World.cell? w9 (p6.add 0) = some (.string ⟨⟨x10⟩⟩) ∧ (∃ (x11 : Int), World.cell? w9 (p6.add 1) = some (.int .i64 x11) ∧ (Calls Tryz.prog 10 ⟨[.slice l_1 l_1n l_1c, .agg ⟨[.string ⟨⟨x10⟩⟩, .int .i64 x11]⟩]⟩ w9 fun (e12 : Ending) (w13 : World) =>
  ∃ (x14 : Int) (x15 : Int) (x16 : Int), e12 = .returned (.tuple ⟨[.int .i64 x14, .int .i64 x15, .int .i64 x16]⟩) ∧ (br (decide ((x16 : Int) ≠ 0)) (R (.returned (.tuple ⟨[.int .i64 0, .int .i64 x16]⟩)) w13) (∃ (x17 : List UInt8), World.cell? w13 (p8.add 0) = some (.string ⟨⟨x17⟩⟩) ∧ (∃ (x18 : Int), World.cell? w13 (p8.add 1) = some (.int .i64 x18) ∧ (Calls Tryz.prog 10 ⟨[.slice l_1 l_1n l_1c, .agg ⟨[.string ⟨⟨x17⟩⟩, .int .i64 x18]⟩]⟩ w13 fun (e19 : Ending) (w20 : World) =>
  ∃ (x21 : Int) (x22 : Int) (x23 : Int), e19 = .returned (.tuple ⟨[.int .i64 x21, .int .i64 x22, .int .i64 x23]⟩) ∧ (br (decide ((x23 : Int) ≠ 0)) (R (.returned (.tuple ⟨[.int .i64 0, .int .i64 x23]⟩)) w20) (Calls Tryz.prog 33 ⟨[.int .i64 x14, .int .i64 x21]⟩ w20 fun (e24 : Ending) (w25 : World) =>
  ∃ (x26 : Int), e24 = .returned (.int .i64 x26) ∧ (R (.returned (.tuple ⟨[.int .i64 x26, .int .i64 0]⟩)) w25)))))))))
set_option maxRecDepth 100000 in
theorem e_layout_Compare (l_1 : Option Addr) (l_1n : Nat) (l_1c : Nat) (p_2 : List UInt8) (p_3 : Int) (q_4 : List UInt8) (q_5 : Int) (R : Ending → World → Prop) (w : World) : fnV Tryz.prog Tryz.f14 an_layout_Compare [.slice l_1 l_1n l_1c, .agg ⟨[.string ⟨⟨p_2⟩⟩, .int .i64 p_3]⟩, .agg ⟨[.string ⟨⟨q_4⟩⟩, .int .i64 q_5]⟩] R w = sh_layout_Compare l_1 l_1n l_1c p_2 p_3 q_4 q_5 R w := by kernel_rfl
theorem c_layout_Compare {l_1 : Option Addr} {l_1n : Nat} {l_1c : Nat} {p_2 : List UInt8} {p_3 : Int} {q_4 : List UInt8} {q_5 : Int} {R : Ending → World → Prop} {w : World} (h : sh_layout_Compare l_1 l_1n l_1c p_2 p_3 q_4 q_5 R w) : Calls Tryz.prog F_layout_Compare ⟨[.slice l_1 l_1n l_1c, .agg ⟨[.string ⟨⟨p_2⟩⟩, .int .i64 p_3]⟩, .agg ⟨[.string ⟨⟨q_4⟩⟩, .int .i64 q_5]⟩]⟩ w R := calls_of_fnV Tryz.func14 (by rw [e_layout_Compare]; exact h)

def an_ref13_Compare : Ann := .two (.leaf) (.two (.leaf) (.two (.two (.leaf) (.two (.two (.leaf) (.leaf)) (.leaf))) (.two (.leaf) (.two (.two (.leaf) (.two (.two (.leaf) (.leaf)) (.leaf))) (.two (.two (.leaf) (.two (.two (.leaf) (.leaf)) (.leaf))) (.two (.two (.leaf) (.two (.two (.leaf) (.leaf)) (.leaf))) (.two (.leaf) (.leaf))))))))
def sh_ref13_Compare (l_1 : Option Addr) (l_1n : Nat) (l_1c : Nat) (p_2 : List UInt8) (p_3 : Int) (q_4 : List UInt8) (q_5 : Int) (R : Ending → World → Prop) (w : World) : Prop :=
  al w 24 [.string ⟨⟨p_2⟩⟩, .int .i64 p_3] fun p6 w7 =>
  al w7 24 [.string ⟨⟨q_4⟩⟩, .int .i64 q_5] fun p8 w9 =>
  ∃ (x10 : List UInt8), World.cell? w9 (p6.add 0) = some (.string ⟨⟨x10⟩⟩) ∧ (∃ (x11 : Int), World.cell? w9 (p6.add 1) = some (.int .i64 x11) ∧ (Calls Tryz.prog 11 ⟨[.slice l_1 l_1n l_1c, .agg ⟨[.string ⟨⟨x10⟩⟩, .int .i64 x11]⟩]⟩ w9 fun (e12 : Ending) (w13 : World) =>
  ∃ (x14 : Int) (x15 : Int) (x16 : Int), e12 = .returned (.tuple ⟨[.int .i64 x14, .int .i64 x15, .int .i64 x16]⟩) ∧ (br (decide ((x16 : Int) ≠ 0)) (R (.returned (.tuple ⟨[.int .i64 0, .int .i64 x16]⟩)) w13) (∃ (x17 : List UInt8), World.cell? w13 (p8.add 0) = some (.string ⟨⟨x17⟩⟩) ∧ (∃ (x18 : Int), World.cell? w13 (p8.add 1) = some (.int .i64 x18) ∧ (Calls Tryz.prog 11 ⟨[.slice l_1 l_1n l_1c, .agg ⟨[.string ⟨⟨x17⟩⟩, .int .i64 x18]⟩]⟩ w13 fun (e19 : Ending) (w20 : World) =>
  ∃ (x21 : Int) (x22 : Int) (x23 : Int), e19 = .returned (.tuple ⟨[.int .i64 x21, .int .i64 x22, .int .i64 x23]⟩) ∧ (br (decide ((x23 : Int) ≠ 0)) (R (.returned (.tuple ⟨[.int .i64 0, .int .i64 x23]⟩)) w20) (br (decide ((x14 : Int) < x21)) (R (.returned (.tuple ⟨[.int .i64 ((-1)), .int .i64 0]⟩)) w20) (br (decide ((x21 : Int) < x14)) (R (.returned (.tuple ⟨[.int .i64 1, .int .i64 0]⟩)) w20) (R (.returned (.tuple ⟨[.int .i64 0, .int .i64 0]⟩)) w20))))))))))
set_option maxRecDepth 100000 in
theorem e_ref13_Compare (l_1 : Option Addr) (l_1n : Nat) (l_1c : Nat) (p_2 : List UInt8) (p_3 : Int) (q_4 : List UInt8) (q_5 : Int) (R : Ending → World → Prop) (w : World) : fnV Tryz.prog Tryz.f15 an_ref13_Compare [.slice l_1 l_1n l_1c, .agg ⟨[.string ⟨⟨p_2⟩⟩, .int .i64 p_3]⟩, .agg ⟨[.string ⟨⟨q_4⟩⟩, .int .i64 q_5]⟩] R w = sh_ref13_Compare l_1 l_1n l_1c p_2 p_3 q_4 q_5 R w := by kernel_rfl
theorem c_ref13_Compare {l_1 : Option Addr} {l_1n : Nat} {l_1c : Nat} {p_2 : List UInt8} {p_3 : Int} {q_4 : List UInt8} {q_5 : Int} {R : Ending → World → Prop} {w : World} (h : sh_ref13_Compare l_1 l_1n l_1c p_2 p_3 q_4 q_5 R w) : Calls Tryz.prog F_ref13_Compare ⟨[.slice l_1 l_1n l_1c, .agg ⟨[.string ⟨⟨p_2⟩⟩, .int .i64 p_3]⟩, .agg ⟨[.string ⟨⟨q_4⟩⟩, .int .i64 q_5]⟩]⟩ w R := calls_of_fnV Tryz.func15 (by rw [e_ref13_Compare]; exact h)

def an_layout_Broken : Ann := .two (.leaf) (.two (.leaf) (.two (.two (.leaf) (.two (.two (.leaf) (.leaf)) (.leaf))) (.two (.leaf) (.two (.leaf) (.two (.two (.leaf) (.one (.rf [2, 3, 4, 6, 7, 20] 0))) (.two (.leaf) (.leaf)))))))
def sh_layout_Broken (l_1 : Option Addr) (l_1n : Nat) (l_1c : Nat) (R : Ending → World → Prop) (w : World) : Prop :=
  Calls Tryz.prog 24 ⟨[.slice l_1 l_1n l_1c]⟩ w fun (e2 : Ending) (w3 : World) =>
  ∃ (x4 : List UInt8) (x5 : Int), e2 = .returned (.tuple ⟨[.string ⟨⟨x4⟩⟩, .int .i64 x5]⟩) ∧ (al w3 9 [.string ⟨⟨[]⟩⟩] fun p6 w7 =>
  stL w7 p6 0 [.string ⟨⟨x4⟩⟩] fun w8 =>
  br (decide ((x5 : Int) ≠ 0)) (R (.returned (.tuple ⟨[.slice none 0 0, .int .i64 x5]⟩)) w8) (al w8 67 [.nilFunc] fun p9 w10 =>
  stL w10 p9 0 [.func (.func 34) #[] #[]] fun w11 =>
  al w11 38 [.slice none 0 0] fun p12 w13 =>
  Calls Tryz.prog 30 ⟨[.agg ⟨[.string ⟨⟨[]⟩⟩, .int .i64 0]⟩, .slice l_1 l_1n l_1c]⟩ w13 fun (e14 : Ending) (w15 : World) =>
  ∃ (x16 : Option Addr) (x16n : Nat) (x16c : Nat), e14 = .returned (.slice x16 x16n x16c) ∧ (Calls Tryz.prog 31 ⟨[.slice x16 x16n x16c]⟩ w15 fun (e17 : Ending) (w18 : World) =>
  ∃ (x19 : Fn) (x19a : Array Value) (x19b : Array Value), e17 = .returned (.func x19 x19a x19b) ∧ (∀ base20 : Env, RFw Tryz.prog none 51 (cdAt Tryz.f16 [1, 1, 1, 1, 1, 0, 1, 2]) (upd (upd (upd (upd (upd (upd base20 20 (.func x19 x19a x19b)) 7 (.pointer (some p12))) 6 (.pointer (some p9))) 4 (.pointer (some p6))) 3 (.int .i64 0)) 2 (.slice none 0 0)) [] w18 0 (fun ds21 w22 =>
  ∃ (x25 : Option Addr) (x25n : Nat) (x25c : Nat), World.cell? w22 p12 = some (.slice x25 x25n x25c) ∧ (retD ds21 w22 fun w26 =>
  R (.returned (.tuple ⟨[.slice x25 x25n x25c, .int .i64 0]⟩)) w26)) (fun ds21 w22 =>
  retD ds21 w22 fun w27 =>
  R (.returned (.tuple ⟨[.slice none 0 0, .int .i64 0]⟩)) w27) (fun ds21 w22 =>
  ∃ (x23 : Option Addr) (x23n : Nat) (x23c : Nat), World.cell? w22 p12 = some (.slice x23 x23n x23c) ∧ (retD ds21 w22 fun w24 =>
  R (.returned (.tuple ⟨[.slice x23 x23n x23c, .int .i64 0]⟩)) w24))))))
set_option maxRecDepth 100000 in
theorem e_layout_Broken (l_1 : Option Addr) (l_1n : Nat) (l_1c : Nat) (R : Ending → World → Prop) (w : World) : fnV Tryz.prog Tryz.f16 an_layout_Broken [.slice l_1 l_1n l_1c] R w = sh_layout_Broken l_1 l_1n l_1c R w := by kernel_rfl
theorem c_layout_Broken {l_1 : Option Addr} {l_1n : Nat} {l_1c : Nat} {R : Ending → World → Prop} {w : World} (h : sh_layout_Broken l_1 l_1n l_1c R w) : Calls Tryz.prog F_layout_Broken ⟨[.slice l_1 l_1n l_1c]⟩ w R := calls_of_fnV Tryz.func16 (by rw [e_layout_Broken]; exact h)
def anA_layout_Broken_1 : Ann := .leaf
def anB_layout_Broken_1 : Ann := .one (.cut 70368735789056 [(45, .one (.bool))] (.leaf) (.two (.leaf) (.leaf)))
def rf_layout_Broken_1 (t2_28 : Option Addr) (t2_28n : Nat) (t2_28c : Nat) (t3_29 : Int) (s_30 : Option Addr) (inner_31 : Option Addr) (out_32 : Option Addr) (t20_33 : Fn) (t20_33a : Array Value) (t20_33b : Array Value) (t21_34 : Int) (t22_35 : Value) (l : Nat) (Kn Kr Kx : World → World → Prop) (w : World) : Prop :=
  Ext w w ∧ ∀ w36 : World, Upd l w w36 → (∀ (K37 : Bool → World → Prop), (∀ (t45_38 : Bool) (w39 : World), (∀ _ : Env, (br t45_38 (dr out_32 fun p40 =>
  ∃ (x41 : Option Addr) (x41n : Nat) (x41c : Nat), World.cell? w39 p40 = some (.slice x41 x41n x41c) ∧ (al w39 3 [.int .i64 t21_34] fun p42 w43 =>
  app Tryz.prog [38, 38] 38 (.slice x41 x41n x41c) (.slice (some p42) 1 1) w43 fun a44 a44n a44c w45 =>
  dr out_32 fun p47 =>
  stL w45 p47 0 [.slice a44 a44n a44c] fun w46 =>
  Kn w36 w46)) (Kn w36 w39))) → K37 t45_38 w39) → (drw w36 fun w48 =>
  br (decide ((0 : Int) < t21_34)) (dr s_30 fun p49 =>
  ∃ (x50 : List UInt8), World.cell? w48 p49 = some (.string ⟨⟨x50⟩⟩) ∧ (br (decide ((t21_34 : Int) < ((List.length x50 : Int)))) (dr inner_31 fun p51 =>
  ∃ (x52 : Fn) (x52a : Array Value) (x52b : Array Value), World.cell? w48 p51 = some (.func x52 x52a x52b) ∧ (dr s_30 fun p53 =>
  ∃ (x54 : List UInt8), World.cell? w48 p53 = some (.string ⟨⟨x54⟩⟩) ∧ (sidx x54 (IntKind.i64.wrap (t21_34 - 1)) fun b55 =>
  (CallV Tryz.prog (.func x52 x52a x52b) [.int .u8 ((b55.toNat : Int))] w48 fun (e56 : Ending) (w57 : World) =>
  ∃ (x58 : Bool), e56 = .returned (.bool x58) ∧ (br x58 (dr inner_31 fun p59 =>
  ∃ (x60 : Fn) (x60a : Array Value) (x60b : Array Value), World.cell? w57 p59 = some (.func x60 x60a x60b) ∧ (dr s_30 fun p61 =>
  ∃ (x62 : List UInt8), World.cell? w57 p61 = some (.string ⟨⟨x62⟩⟩) ∧ (sidx x62 t21_34 fun b63 =>
  (CallV Tryz.prog (.func x60 x60a x60b) [.int .u8 ((b63.toNat : Int))] w57 fun (e64 : Ending) (w65 : World) =>
  ∃ (x66 : Bool), e64 = .returned (.bool x66) ∧ (K37 x66 w65)) ∧ True))) ((K37 false w57) ∧ True))) ∧ True))) (((K37 false w48) ∧ True) ∧ True))) (((K37 false w48) ∧ True) ∧ True)))
set_option maxRecDepth 100000 in
theorem er_layout_Broken_1 (base : Env) (t2_28 : Option Addr) (t2_28n : Nat) (t2_28c : Nat) (t3_29 : Int) (s_30 : Option Addr) (inner_31 : Option Addr) (out_32 : Option Addr) (t20_33 : Fn) (t20_33a : Array Value) (t20_33b : Array Value) (t21_34 : Int) (t22_35 : Value) (l : Nat) (Kn Kr Kx : World → World → Prop) (w : World) : fragV Tryz.prog 51 anA_layout_Broken_1 anB_layout_Broken_1 (cdAt Tryz.f16 [1, 1, 1, 1, 1, 0, 1, 2, 5]) (cdAt Tryz.f16 [1, 1, 1, 1, 1, 0, 1, 2, 6]) l 0 Kn Kr Kx (updPs [21, 22] [.int .i64 t21_34, t22_35] (upd (upd (upd (upd (upd (upd base 20 (.func t20_33 t20_33a t20_33b)) 7 (.pointer out_32)) 6 (.pointer inner_31)) 4 (.pointer s_30)) 3 (.int .i64 t3_29)) 2 (.slice t2_28 t2_28n t2_28c))) w = rf_layout_Broken_1 t2_28 t2_28n t2_28c t3_29 s_30 inner_31 out_32 t20_33 t20_33a t20_33b t21_34 t22_35 l Kn Kr Kx w := by kernel_rfl
theorem cd_layout_Broken_1 : cdAt Tryz.f16 [1, 1, 1, 1, 1, 0, 1, 2] = .rangeFunc (Operand.tmp 20) #[21, 22] (cdAt Tryz.f16 [1, 1, 1, 1, 1, 0, 1, 2, 5]) (cdAt Tryz.f16 [1, 1, 1, 1, 1, 0, 1, 2, 6]) := by kernel_rfl

def an_ref13_Broken : Ann := .two (.leaf) (.two (.leaf) (.two (.leaf) (.two (.two (.leaf) (.one (.loop 562949953356160 [(7, .one (.slice)), (8, .one (.int .i64))] (.two (.two (.leaf) (.two (.leaf) (.leaf))) (.two (.one (.cut 35184367894528 [(44, .one (.bool))] (.leaf) (.two (.leaf) (.leaf)))) (.leaf)))))) (.two (.leaf) (.leaf)))))
def sh_ref13_Broken (l_1 : Option Addr) (l_1n : Nat) (l_1c : Nat) (R : Ending → World → Prop) (w : World) : Prop :=
  Calls Tryz.prog 32 ⟨[.slice l_1 l_1n l_1c]⟩ w fun (e2 : Ending) (w3 : World) =>
  ∃ (x4 : Option Addr) (x4n : Nat) (x4c : Nat) (x5 : List UInt8) (x6 : Int), e2 = .returned (.tuple ⟨[.slice x4 x4n x4c, .string ⟨⟨x5⟩⟩, .int .i64 x6]⟩) ∧ (al w3 3 [] fun p7 w8 =>
  ∃ (I9 : Option Addr → Nat → Nat → Int → World → Nat → Prop), (∃ m14 : Nat, I9 (some p7) 0 0 1 w8 m14) ∧ ∀ (out_10 : Option Addr) (out_10n : Nat) (out_10c : Nat) (i_11 : Int) (w12 : World) (m13 : Nat), I9 out_10 out_10n out_10c i_11 w12 m13 → ∀ _ : Env, (br (decide ((i_11 : Int) < ((List.length x5 : Int)))) (∀ (K15 : Bool → World → Prop), (∀ (t44_16 : Bool) (w17 : World), (∀ _ : Env, (br t44_16 (al w17 3 [.int .i64 i_11] fun p18 w19 =>
  app Tryz.prog [38, 38] 38 (.slice out_10 out_10n out_10c) (.slice (some p18) 1 1) w19 fun a20 a20n a20c w21 =>
  ∃ m22 : Nat, m22 < m13 ∧ I9 a20 a20n a20c (IntKind.i64.wrap (i_11 + 1)) w21 m22) (∃ m23 : Nat, m23 < m13 ∧ I9 out_10 out_10n out_10c (IntKind.i64.wrap (i_11 + 1)) w17 m23))) → K15 t44_16 w17) → (drw w12 fun w24 =>
  idx x4 x4n i_11 2 fun p25 =>
  ∃ (x26 : List UInt8), World.cell? w24 (p25.add 0) = some (.string ⟨⟨x26⟩⟩) ∧ (∃ (x27 : Int), World.cell? w24 (p25.add 1) = some (.int .i64 x27) ∧ (idx x4 x4n (IntKind.i64.wrap (i_11 - 1)) 2 fun p28 =>
  ∃ (x29 : List UInt8), World.cell? w24 (p28.add 0) = some (.string ⟨⟨x29⟩⟩) ∧ (∃ (x30 : Int), World.cell? w24 (p28.add 1) = some (.int .i64 x30) ∧ (br (!(decide ((x26 : List UInt8) = x29) && (decide ((x27 : Int) = x30) && true))) (sidx x5 i_11 fun b31 =>
  (Calls Tryz.prog 36 ⟨[.int .u8 ((b31.toNat : Int))]⟩ w24 fun (e32 : Ending) (w33 : World) =>
  ∃ (x34 : Bool), e32 = .returned (.bool x34) ∧ (br x34 (sidx x5 (IntKind.i64.wrap (i_11 - 1)) fun b35 =>
  (Calls Tryz.prog 36 ⟨[.int .u8 ((b35.toNat : Int))]⟩ w33 fun (e36 : Ending) (w37 : World) =>
  ∃ (x38 : Bool), e36 = .returned (.bool x38) ∧ (K15 x38 w37)) ∧ True) ((K15 false w33) ∧ True))) ∧ True) (((K15 false w24) ∧ True) ∧ True))))))) (R (.returned (.tuple ⟨[.slice out_10 out_10n out_10c, .int .i64 x6]⟩)) w12)))
set_option maxRecDepth 100000 in
theorem e_ref13_Broken (l_1 : Option Addr) (l_1n : Nat) (l_1c : Nat) (R : Ending → World → Prop) (w : World) : fnV Tryz.prog Tryz.f17 an_ref13_Broken [.slice l_1 l_1n l_1c] R w = sh_ref13_Broken l_1 l_1n l_1c R w := by kernel_rfl
theorem c_ref13_Broken {l_1 : Option Addr} {l_1n : Nat} {l_1c : Nat} {R : Ending → World → Prop} {w : World} (h : sh_ref13_Broken l_1 l_1n l_1c R w) : Calls Tryz.prog F_ref13_Broken ⟨[.slice l_1 l_1n l_1c]⟩ w R := calls_of_fnV Tryz.func17 (by rw [e_ref13_Broken]; exact h)

def an_slices_Equal_of_string_string : Ann := .two (.leaf) (.two (.two (.leaf) (.two (.two (.leaf) (.leaf)) (.leaf))) (.two (.two (.leaf) (.one (.loop 67100720 [(13, .one (.int .i64))] (.two (.leaf) (.two (.two (.leaf) (.leaf)) (.two (.one (.two (.leaf) (.two (.leaf) (.two (.two (.leaf) (.leaf)) (.leaf))))) (.leaf))))))) (.two (.leaf) (.leaf))))
def sh_slices_Equal_of_string_string (s1_1 : Option Addr) (s1_1n : Nat) (s1_1c : Nat) (s2_2 : Option Addr) (s2_2n : Nat) (s2_2c : Nat) (R : Ending → World → Prop) (w : World) : Prop :=
  br (decide ((((s1_1n : Int)) : Int) ≠ ((s2_2n : Int)))) (R (.returned (.bool false)) w) (∃ (I3 : Int → World → Nat → Prop), (∃ m7 : Nat, I3 0 w m7) ∧ ∀ (t13_4 : Int) (w5 : World) (m6 : Nat), I3 t13_4 w5 m6 → ∀ _ : Env, (br (decide ((t13_4 : Int) < ((s1_1n : Int)))) (drw w5 fun w8 =>
  idx s1_1 s1_1n t13_4 1 fun p9 =>
  ∃ (x10 : List UInt8), World.cell? w8 p9 = some (.string ⟨⟨x10⟩⟩) ∧ (idx s2_2 s2_2n t13_4 1 fun p11 =>
  ∃ (x12 : List UInt8), World.cell? w8 p11 = some (.string ⟨⟨x12⟩⟩) ∧ (br (decide ((x10 : List UInt8) ≠ x12)) (R (.returned (.bool false)) w8) (∃ m13 : Nat, m13 < m6 ∧ I3 (IntKind.i64.wrap (t13_4 + 1)) w8 m13)))) (R (.returned (.bool true)) w5)))
set_option maxRecDepth 100000 in
theorem e_slices_Equal_of_string_string (s1_1 : Option Addr) (s1_1n : Nat) (s1_1c : Nat) (s2_2 : Option Addr) (s2_2n : Nat) (s2_2c : Nat) (R : Ending → World → Prop) (w : World) : fnV Tryz.prog Tryz.f18 an_slices_Equal_of_string_string [.slice s1_1 s1_1n s1_1c, .slice s2_2 s2_2n s2_2c] R w = sh_slices_Equal_of_string_string s1_1 s1_1n s1_1c s2_2 s2_2n s2_2c R w := by kernel_rfl
theorem c_slices_Equal_of_string_string {s1_1 : Option Addr} {s1_1n : Nat} {s1_1c : Nat} {s2_2 : Option Addr} {s2_2n : Nat} {s2_2c : Nat} {R : Ending → World → Prop} {w : World} (h : sh_slices_Equal_of_string_string s1_1 s1_1n s1_1c s2_2 s2_2n s2_2c R w) : Calls Tryz.prog F_slices_Equal_of_string_string ⟨[.slice s1_1 s1_1n s1_1c, .slice s2_2 s2_2n s2_2c]⟩ w R := calls_of_fnV Tryz.func18 (by rw [e_slices_Equal_of_string_string]; exact h)

def an_slices_Equal_of_int_int : Ann := .two (.leaf) (.two (.two (.leaf) (.two (.two (.leaf) (.leaf)) (.leaf))) (.two (.two (.leaf) (.one (.loop 67100720 [(13, .one (.int .i64))] (.two (.leaf) (.two (.two (.leaf) (.leaf)) (.two (.one (.two (.leaf) (.two (.leaf) (.two (.two (.leaf) (.leaf)) (.leaf))))) (.leaf))))))) (.two (.leaf) (.leaf))))
def sh_slices_Equal_of_int_int (s1_1 : Option Addr) (s1_1n : Nat) (s1_1c : Nat) (s2_2 : Option Addr) (s2_2n : Nat) (s2_2c : Nat) (R : Ending → World → Prop) (w : World) : Prop :=
  br (decide ((((s1_1n : Int)) : Int) ≠ ((s2_2n : Int)))) (R (.returned (.bool false)) w) (∃ (I3 : Int → World → Nat → Prop), (∃ m7 : Nat, I3 0 w m7) ∧ ∀ (t13_4 : Int) (w5 : World) (m6 : Nat), I3 t13_4 w5 m6 → ∀ _ : Env, (br (decide ((t13_4 : Int) < ((s1_1n : Int)))) (drw w5 fun w8 =>
  idx s1_1 s1_1n t13_4 1 fun p9 =>
  ∃ (x10 : Int), World.cell? w8 p9 = some (.int .i64 x10) ∧ (idx s2_2 s2_2n t13_4 1 fun p11 =>
  ∃ (x12 : Int), World.cell? w8 p11 = some (.int .i64 x12) ∧ (br (decide ((x10 : Int) ≠ x12)) (R (.returned (.bool false)) w8) (∃ m13 : Nat, m13 < m6 ∧ I3 (IntKind.i64.wrap (t13_4 + 1)) w8 m13)))) (R (.returned (.bool true)) w5)))
set_option maxRecDepth 100000 in
theorem e_slices_Equal_of_int_int (s1_1 : Option Addr) (s1_1n : Nat) (s1_1c : Nat) (s2_2 : Option Addr) (s2_2n : Nat) (s2_2c : Nat) (R : Ending → World → Prop) (w : World) : fnV Tryz.prog Tryz.f19 an_slices_Equal_of_int_int [.slice s1_1 s1_1n s1_1c, .slice s2_2 s2_2n s2_2c] R w = sh_slices_Equal_of_int_int s1_1 s1_1n s1_1c s2_2 s2_2n s2_2c R w := by kernel_rfl
theorem c_slices_Equal_of_int_int {s1_1 : Option Addr} {s1_1n : Nat} {s1_1c : Nat} {s2_2 : Option Addr} {s2_2n : Nat} {s2_2c : Nat} {R : Ending → World → Prop} {w : World} (h : sh_slices_Equal_of_int_int s1_1 s1_1n s1_1c s2_2 s2_2n s2_2c R w) : Calls Tryz.prog F_slices_Equal_of_int_int ⟨[.slice s1_1 s1_1n s1_1c, .slice s2_2 s2_2n s2_2c]⟩ w R := calls_of_fnV Tryz.func19 (by rw [e_slices_Equal_of_int_int]; exact h)

def an_ref10_size : Ann := .two (.leaf) (.two (.leaf) (.two (.two (.leaf) (.one (.loop 576460752303423424 [(9, .one (.int .i64)), (10, .one (.int .i64)), (11, .one (.int .i64))] (.two (.two (.leaf) (.two (.leaf) (.leaf))) (.two (.one (.two (.leaf) (.two (.two (.leaf) (.two (.two (.leaf) (.leaf)) (.leaf))) (.two (.two (.leaf) (.two (.leaf) (.leaf))) (.two (.two (.leaf) (.two (.two (.leaf) (.leaf)) (.leaf))) (.two (.leaf) (.two (.two (.leaf) (.two (.two (.leaf) (.leaf)) (.leaf))) (.two (.leaf) (.leaf))))))))) (.leaf)))))) (.two (.leaf) (.leaf))))
def sh_ref10_size (l_1 : Option Addr) (l_1n : Nat) (l_1c : Nat) (depth_2 : Int) (most_3 : Int) (R : Ending → World → Prop) (w : World) : Prop :=
  ∃ (I4 : Int → Int → Int → World → Nat → Prop), (∃ m10 : Nat, I4 0 0 0 w m10) ∧ ∀ (n_5 : Int) (deep_6 : Int) (i_7 : Int) (w8 : World) (m9 : Nat), I4 n_5 deep_6 i_7 w8 m9 → ∀ _ : Env, (br (decide ((i_7 : Int) < ((l_1n : Int)))) (br (decide ((most_3 : Int) < (IntKind.i64.wrap (n_5 + 1)))) (R (.returned (.tuple ⟨[.int .i64 0, .int .i64 0, .bool false]⟩)) w8) (idx l_1 l_1n i_7 4 fun p11 =>
  ∃ (x12 : Option Addr) (x12n : Nat) (x12c : Nat), World.cell? w8 (p11.add 3) = some (.slice x12 x12n x12c) ∧ (br (decide ((((x12n : Int)) : Int) = 0)) (∃ m13 : Nat, m13 < m9 ∧ I4 (IntKind.i64.wrap (n_5 + 1)) deep_6 (IntKind.i64.wrap (i_7 + 1)) w8 m13) (br (decide ((depth_2 : Int) = 0)) (R (.returned (.tuple ⟨[.int .i64 0, .int .i64 0, .bool false]⟩)) w8) (idx l_1 l_1n i_7 4 fun p14 =>
  ∃ (x15 : Option Addr) (x15n : Nat) (x15c : Nat), World.cell? w8 (p14.add 3) = some (.slice x15 x15n x15c) ∧ (Calls Tryz.prog 20 ⟨[.slice x15 x15n x15c, .int .i64 (IntKind.i64.wrap (depth_2 - 1)), .int .i64 (IntKind.i64.wrap (most_3 - (IntKind.i64.wrap (n_5 + 1))))]⟩ w8 fun (e16 : Ending) (w17 : World) =>
  ∃ (x18 : Int) (x19 : Int) (x20 : Bool), e16 = .returned (.tuple ⟨[.int .i64 x18, .int .i64 x19, .bool x20]⟩) ∧ (br (!x20) (R (.returned (.tuple ⟨[.int .i64 0, .int .i64 0, .bool false]⟩)) w17) (∃ m21 : Nat, m21 < m9 ∧ I4 (IntKind.i64.wrap ((IntKind.i64.wrap (n_5 + 1)) + x18)) ((max deep_6 (IntKind.i64.wrap (x19 + 1)))) (IntKind.i64.wrap (i_7 + 1)) w17 m21)))))))) (R (.returned (.tuple ⟨[.int .i64 n_5, .int .i64 deep_6, .bool true]⟩)) w8))
set_option maxRecDepth 100000 in
theorem e_ref10_size (l_1 : Option Addr) (l_1n : Nat) (l_1c : Nat) (depth_2 : Int) (most_3 : Int) (R : Ending → World → Prop) (w : World) : fnV Tryz.prog Tryz.f20 an_ref10_size [.slice l_1 l_1n l_1c, .int .i64 depth_2, .int .i64 most_3] R w = sh_ref10_size l_1 l_1n l_1c depth_2 most_3 R w := by kernel_rfl
theorem c_ref10_size {l_1 : Option Addr} {l_1n : Nat} {l_1c : Nat} {depth_2 : Int} {most_3 : Int} {R : Ending → World → Prop} {w : World} (h : sh_ref10_size l_1 l_1n l_1c depth_2 most_3 R w) : Calls Tryz.prog F_ref10_size ⟨[.slice l_1 l_1n l_1c, .int .i64 depth_2, .int .i64 most_3]⟩ w R := calls_of_fnV Tryz.func20 (by rw [e_ref10_size]; exact h)

def an_ref10_long : Ann := .two (.leaf) (.two (.two (.leaf) (.one (.loop 8796093022192 [(5, .one (.int .i64))] (.two (.two (.leaf) (.two (.leaf) (.leaf))) (.two (.one (.two (.leaf) (.two (.leaf) (.two (.two (.leaf) (.leaf)) (.leaf))))) (.leaf)))))) (.two (.leaf) (.leaf)))
def sh_ref10_long (l_1 : Option Addr) (l_1n : Nat) (l_1c : Nat) (depth_2 : Int) (R : Ending → World → Prop) (w : World) : Prop :=
  ∃ (I3 : Int → World → Nat → Prop), (∃ m7 : Nat, I3 0 w m7) ∧ ∀ (i_4 : Int) (w5 : World) (m6 : Nat), I3 i_4 w5 m6 → ∀ _ : Env, (br (decide ((i_4 : Int) < ((l_1n : Int)))) (idx l_1 l_1n i_4 4 fun p8 =>
  ∃ (x9 : List UInt8), World.cell? w5 (p8.add 1) = some (.string ⟨⟨x9⟩⟩) ∧ (br (decide ((depth_2 : Int) = 0)) (R (.returned (.bool true)) w5) (br (decide ((60 : Int) < ((List.length x9 : Int)))) (br (decide ((((List.length x9 : Int)) : Int) ≤ 65536)) (R (.returned (.bool true)) w5) (br (decide ((65540 : Int) < ((List.length x9 : Int)))) (R (.returned (.bool true)) w5) (idx l_1 l_1n i_4 4 fun p10 =>
  ∃ (x11 : Option Addr) (x11n : Nat) (x11c : Nat), World.cell? w5 (p10.add 3) = some (.slice x11 x11n x11c) ∧ (Calls Tryz.prog 21 ⟨[.slice x11 x11n x11c, .int .i64 (IntKind.i64.wrap (depth_2 - 1))]⟩ w5 fun (e12 : Ending) (w13 : World) =>
  ∃ (x14 : Bool), e12 = .returned (.bool x14) ∧ (br x14 (R (.returned (.bool true)) w13) (∃ m15 : Nat, m15 < m6 ∧ I3 (IntKind.i64.wrap (i_4 + 1)) w13 m15)))))) (br (decide ((65540 : Int) < ((List.length x9 : Int)))) (R (.returned (.bool true)) w5) (idx l_1 l_1n i_4 4 fun p16 =>
  ∃ (x17 : Option Addr) (x17n : Nat) (x17c : Nat), World.cell? w5 (p16.add 3) = some (.slice x17 x17n x17c) ∧ (Calls Tryz.prog 21 ⟨[.slice x17 x17n x17c, .int .i64 (IntKind.i64.wrap (depth_2 - 1))]⟩ w5 fun (e18 : Ending) (w19 : World) =>
  ∃ (x20 : Bool), e18 = .returned (.bool x20) ∧ (br x20 (R (.returned (.bool true)) w19) (∃ m21 : Nat, m21 < m6 ∧ I3 (IntKind.i64.wrap (i_4 + 1)) w19 m21)))))))) (R (.returned (.bool false)) w5))
set_option maxRecDepth 100000 in
theorem e_ref10_long (l_1 : Option Addr) (l_1n : Nat) (l_1c : Nat) (depth_2 : Int) (R : Ending → World → Prop) (w : World) : fnV Tryz.prog Tryz.f21 an_ref10_long [.slice l_1 l_1n l_1c, .int .i64 depth_2] R w = sh_ref10_long l_1 l_1n l_1c depth_2 R w := by kernel_rfl
theorem c_ref10_long {l_1 : Option Addr} {l_1n : Nat} {l_1c : Nat} {depth_2 : Int} {R : Ending → World → Prop} {w : World} (h : sh_ref10_long l_1 l_1n l_1c depth_2 R w) : Calls Tryz.prog F_ref10_long ⟨[.slice l_1 l_1n l_1c, .int .i64 depth_2]⟩ w R := calls_of_fnV Tryz.func21 (by rw [e_ref10_long]; exact h)

def an_layout_Positions : Ann := .two (.leaf) (.two (.two (.leaf) (.two (.leaf) (.two (.two (.leaf) (.leaf)) (.leaf)))) (.cut 33488944 [] (.two (.leaf) (.two (.two (.leaf) (.leaf)) (.leaf))) (.cut 8556380208 [] (.two (.leaf) (.two (.two (.leaf) (.leaf)) (.leaf))) (.two (.leaf) (.leaf)))))
def sh_layout_Positions (start_1 : List UInt8) (start_2 : Int) (l_3 : Option Addr) (l_3n : Nat) (l_3c : Nat) (R : Ending → World → Prop) (w : World) : Prop :=
  al w 24 [.string ⟨⟨start_1⟩⟩, .int .i64 start_2] fun p4 w5 =>
  Calls Tryz.prog 24 ⟨[.slice l_3 l_3n l_3c]⟩ w5 fun (e6 : Ending) (w7 : World) =>
  ∃ (x8 : List UInt8) (x9 : Int), e6 = .returned (.tuple ⟨[.string ⟨⟨x8⟩⟩, .int .i64 x9]⟩) ∧ (br (decide ((x9 : Int) ≠ 0)) (R (.returned (.tuple ⟨[.slice none 0 0, .int .i64 x9]⟩)) w7) (∀ (K10 : World → Prop), (∀  (w11 : World), (∀ _ : Env, (∀ (K12 : World → Prop), (∀  (w13 : World), (∀ _ : Env, (∃ (x14 : List UInt8), World.cell? w13 (p4.add 0) = some (.string ⟨⟨x14⟩⟩) ∧ (∃ (x15 : Int), World.cell? w13 (p4.add 1) = some (.int .i64 x15) ∧ (Calls Tryz.prog 30 ⟨[.agg ⟨[.string ⟨⟨x14⟩⟩, .int .i64 x15]⟩, .slice l_3 l_3n l_3c]⟩ w13 fun (e16 : Ending) (w17 : World) =>
  ∃ (x18 : Option Addr) (x18n : Nat) (x18c : Nat), e16 = .returned (.slice x18 x18n x18c) ∧ (R (.returned (.tuple ⟨[.slice x18 x18n x18c, .int .i64 0]⟩)) w17))))) → K12 w13) → (∃ (x19 : Int), World.cell? w11 (p4.add 1) = some (.int .i64 x19) ∧ (br (decide ((x19 : Int) < 0)) (R (.returned (.tuple ⟨[.slice none 0 0, .int .i64 2]⟩)) w11) (∃ (x20 : Int), World.cell? w11 (p4.add 1) = some (.int .i64 x20) ∧ (br (decide ((4096 : Int) < x20)) (R (.returned (.tuple ⟨[.slice none 0 0, .int .i64 2]⟩)) w11) (K12 w11))))))) → K10 w11) → (∃ (x21 : List UInt8), World.cell? w7 (p4.add 0) = some (.string ⟨⟨x21⟩⟩) ∧ (br (decide ((x21 : List UInt8) ≠ ([]))) (∃ (x22 : List UInt8), World.cell? w7 (p4.add 0) = some (.string ⟨⟨x22⟩⟩) ∧ (Calls Tryz.prog 37 ⟨[.string ⟨⟨x22⟩⟩]⟩ w7 fun (e23 : Ending) (w24 : World) =>
  ∃ (x25 : Bool), e23 = .returned (.bool x25) ∧ (br (!x25) (R (.returned (.tuple ⟨[.slice none 0 0, .int .i64 14]⟩)) w24) (K10 w24)))) (K10 w7)))))
set_option maxRecDepth 100000 in
theorem e_layout_Positions (start_1 : List UInt8) (start_2 : Int) (l_3 : Option Addr) (l_3n : Nat) (l_3c : Nat) (R : Ending → World → Prop) (w : World) : fnV Tryz.prog Tryz.f22 an_layout_Positions [.agg ⟨[.string ⟨⟨start_1⟩⟩, .int .i64 start_2]⟩, .slice l_3 l_3n l_3c] R w = sh_layout_Positions start_1 start_2 l_3 l_3n l_3c R w := by kernel_rfl
theorem c_layout_Positions {start_1 : List UInt8} {start_2 : Int} {l_3 : Option Addr} {l_3n : Nat} {l_3c : Nat} {R : Ending → World → Prop} {w : World} (h : sh_layout_Positions start_1 start_2 l_3 l_3n l_3c R w) : Calls Tryz.prog F_layout_Positions ⟨[.agg ⟨[.string ⟨⟨start_1⟩⟩, .int .i64 start_2]⟩, .slice l_3 l_3n l_3c]⟩ w R := calls_of_fnV Tryz.func22 (by rw [e_layout_Positions]; exact h)

def an_slices_Equal_of_api_Position_api_Position : Ann := .two (.leaf) (.two (.two (.leaf) (.two (.two (.leaf) (.leaf)) (.leaf))) (.two (.two (.leaf) (.one (.loop 67100720 [(13, .one (.int .i64))] (.two (.leaf) (.two (.two (.leaf) (.leaf)) (.two (.one (.two (.leaf) (.two (.leaf) (.two (.two (.leaf) (.leaf)) (.leaf))))) (.leaf))))))) (.two (.leaf) (.leaf))))
def sh_slices_Equal_of_api_Position_api_Position (s1_1 : Option Addr) (s1_1n : Nat) (s1_1c : Nat) (s2_2 : Option Addr) (s2_2n : Nat) (s2_2c : Nat) (R : Ending → World → Prop) (w : World) : Prop :=
  br (decide ((((s1_1n : Int)) : Int) ≠ ((s2_2n : Int)))) (R (.returned (.bool false)) w) (∃ (I3 : Int → World → Nat → Prop), (∃ m7 : Nat, I3 0 w m7) ∧ ∀ (t13_4 : Int) (w5 : World) (m6 : Nat), I3 t13_4 w5 m6 → ∀ _ : Env, (br (decide ((t13_4 : Int) < ((s1_1n : Int)))) (drw w5 fun w8 =>
  idx s1_1 s1_1n t13_4 2 fun p9 =>
  ∃ (x10 : List UInt8), World.cell? w8 (p9.add 0) = some (.string ⟨⟨x10⟩⟩) ∧ (∃ (x11 : Int), World.cell? w8 (p9.add 1) = some (.int .i64 x11) ∧ (idx s2_2 s2_2n t13_4 2 fun p12 =>
  ∃ (x13 : List UInt8), World.cell? w8 (p12.add 0) = some (.string ⟨⟨x13⟩⟩) ∧ (∃ (x14 : Int), World.cell? w8 (p12.add 1) = some (.int .i64 x14) ∧ (br (!(decide ((x10 : List UInt8) = x13) && (decide ((x11 : Int) = x14) && true))) (R (.returned (.bool false)) w8) (∃ m15 : Nat, m15 < m6 ∧ I3 (IntKind.i64.wrap (t13_4 + 1)) w8 m15)))))) (R (.returned (.bool true)) w5)))
set_option maxRecDepth 100000 in
theorem e_slices_Equal_of_api_Position_api_Position (s1_1 : Option Addr) (s1_1n : Nat) (s1_1c : Nat) (s2_2 : Option Addr) (s2_2n : Nat) (s2_2c : Nat) (R : Ending → World → Prop) (w : World) : fnV Tryz.prog Tryz.f23 an_slices_Equal_of_api_Position_api_Position [.slice s1_1 s1_1n s1_1c, .slice s2_2 s2_2n s2_2c] R w = sh_slices_Equal_of_api_Position_api_Position s1_1 s1_1n s1_1c s2_2 s2_2n s2_2c R w := by kernel_rfl
theorem c_slices_Equal_of_api_Position_api_Position {s1_1 : Option Addr} {s1_1n : Nat} {s1_1c : Nat} {s2_2 : Option Addr} {s2_2n : Nat} {s2_2c : Nat} {R : Ending → World → Prop} {w : World} (h : sh_slices_Equal_of_api_Position_api_Position s1_1 s1_1n s1_1c s2_2 s2_2n s2_2c R w) : Calls Tryz.prog F_slices_Equal_of_api_Position_api_Position ⟨[.slice s1_1 s1_1n s1_1c, .slice s2_2 s2_2n s2_2c]⟩ w R := calls_of_fnV Tryz.func23 (by rw [e_slices_Equal_of_api_Position_api_Position]; exact h)

def an_legibility_Pattern : Ann := .two (.leaf) (.two (.two (.leaf) (.two (.leaf) (.two (.two (.leaf) (.leaf)) (.leaf)))) (.two (.leaf) (.leaf)))
def sh_legibility_Pattern (l_1 : Option Addr) (l_1n : Nat) (l_1c : Nat) (R : Ending → World → Prop) (w : World) : Prop :=
  Calls Tryz.prog 38 ⟨[.slice l_1 l_1n l_1c]⟩ w fun (e2 : Ending) (w3 : World) =>
  ∃ (x4 : Int), e2 = .returned (.int .i64 x4) ∧ (br (decide ((x4 : Int) ≠ 0)) (R (.returned (.tuple ⟨[.string ⟨⟨[]⟩⟩, .int .i64 x4]⟩)) w3) (Calls Tryz.prog 40 ⟨[.slice l_1 l_1n l_1c]⟩ w3 fun (e5 : Ending) (w6 : World) =>
  ∃ (x7 : List UInt8), e5 = .returned (.string ⟨⟨x7⟩⟩) ∧ (Calls Tryz.prog 39 ⟨[.string ⟨⟨x7⟩⟩]⟩ w6 fun (e8 : Ending) (w9 : World) =>
  ∃ (x10 : List UInt8) (x11 : Int), e8 = .returned (.tuple ⟨[.string ⟨⟨x10⟩⟩, .int .i64 x11]⟩) ∧ (R (.returned (.tuple ⟨[.string ⟨⟨x10⟩⟩, .int .i64 x11]⟩)) w9))))
set_option maxRecDepth 100000 in
theorem e_legibility_Pattern (l_1 : Option Addr) (l_1n : Nat) (l_1c : Nat) (R : Ending → World → Prop) (w : World) : fnV Tryz.prog Tryz.f24 an_legibility_Pattern [.slice l_1 l_1n l_1c] R w = sh_legibility_Pattern l_1 l_1n l_1c R w := by kernel_rfl
theorem c_legibility_Pattern {l_1 : Option Addr} {l_1n : Nat} {l_1c : Nat} {R : Ending → World → Prop} {w : World} (h : sh_legibility_Pattern l_1 l_1n l_1c R w) : Calls Tryz.prog F_legibility_Pattern ⟨[.slice l_1 l_1n l_1c]⟩ w R := calls_of_fnV Tryz.func24 (by rw [e_legibility_Pattern]; exact h)

def an_layout_collect : Ann := .two (.leaf) (.one (.loop 134216832 [(10, .one (.int .i64))] (.two (.leaf) (.two (.two (.leaf) (.leaf)) (.two (.one (.two (.leaf) (.cut 2080768 [] (.two (.leaf) (.two (.leaf) (.leaf))) (.leaf)))) (.leaf))))))
def sh_layout_collect (l_1 : Option Addr) (l_1n : Nat) (l_1c : Nat) (kind_2 : Int) (with_3 : Fn) (with_3a : Array Value) (with_3b : Array Value) (R : Ending → World → Prop) (w : World) : Prop :=
  ∃ (I4 : Int → World → Nat → Prop), (∃ m8 : Nat, I4 0 w m8) ∧ ∀ (t10_5 : Int) (w6 : World) (m7 : Nat), I4 t10_5 w6 m7 → ∀ _ : Env, (br (decide ((t10_5 : Int) < ((l_1n : Int)))) (idx l_1 l_1n t10_5 4 fun p9 =>
  ∃ (x10 : Int), World.cell? w6 (p9.add 0) = some (.int .i64 x10) ∧ (∃ (x11 : List UInt8), World.cell? w6 (p9.add 1) = some (.string ⟨⟨x11⟩⟩) ∧ (∃ (x12 : Int), World.cell? w6 (p9.add 2) = some (.int .i64 x12) ∧ (∃ (x13 : Option Addr) (x13n : Nat) (x13c : Nat), World.cell? w6 (p9.add 3) = some (.slice x13 x13n x13c) ∧ (al w6 48 [.int .i64 0, .string ⟨⟨[]⟩⟩, .int .i64 0, .slice none 0 0] fun p14 w15 =>
  stL w15 p14 0 [.int .i64 x10, .string ⟨⟨x11⟩⟩, .int .i64 x12, .slice x13 x13n x13c] fun w16 =>
  ∀ (K17 : World → Prop), (∀  (w18 : World), (∀ _ : Env, (∃ (x19 : Option Addr) (x19n : Nat) (x19c : Nat), World.cell? w18 (p14.add 3) = some (.slice x19 x19n x19c) ∧ (Calls Tryz.prog 25 ⟨[.slice x19 x19n x19c, .int .i64 kind_2, .func with_3 with_3a with_3b]⟩ w18 fun (e20 : Ending) (w21 : World) =>
  e20 = .returned (.tuple ⟨[]⟩) ∧ (∃ m22 : Nat, m22 < m7 ∧ I4 (IntKind.i64.wrap (t10_5 + 1)) w21 m22)))) → K17 w18) → (∃ (x23 : Int), World.cell? w16 (p14.add 0) = some (.int .i64 x23) ∧ (br (decide ((x23 : Int) = kind_2)) (∃ (x24 : Int), World.cell? w16 (p14.add 0) = some (.int .i64 x24) ∧ (∃ (x25 : List UInt8), World.cell? w16 (p14.add 1) = some (.string ⟨⟨x25⟩⟩) ∧ (∃ (x26 : Int), World.cell? w16 (p14.add 2) = some (.int .i64 x26) ∧ (∃ (x27 : Option Addr) (x27n : Nat) (x27c : Nat), World.cell? w16 (p14.add 3) = some (.slice x27 x27n x27c) ∧ (CallV Tryz.prog (.func with_3 with_3a with_3b) [.agg ⟨[.int .i64 x24, .string ⟨⟨x25⟩⟩, .int .i64 x26, .slice x27 x27n x27c]⟩] w16 fun (e28 : Ending) (w29 : World) =>
  e28 = .returned (.tuple ⟨[]⟩) ∧ (K17 w29)))))) (K17 w16)))))))) (R (.returned (.tuple ⟨[]⟩)) w6))
set_option maxRecDepth 100000 in
theorem e_layout_collect (l_1 : Option Addr) (l_1n : Nat) (l_1c : Nat) (kind_2 : Int) (with_3 : Fn) (with_3a : Array Value) (with_3b : Array Value) (R : Ending → World → Prop) (w : World) : fnV Tryz.prog Tryz.f25 an_layout_collect [.slice l_1 l_1n l_1c, .int .i64 kind_2, .func with_3 with_3a with_3b] R w = sh_layout_collect l_1 l_1n l_1c kind_2 with_3 with_3a with_3b R w := by kernel_rfl
theorem c_layout_collect {l_1 : Option Addr} {l_1n : Nat} {l_1c : Nat} {kind_2 : Int} {with_3 : Fn} {with_3a : Array Value} {with_3b : Array Value} {R : Ending → World → Prop} {w : World} (h : sh_layout_collect l_1 l_1n l_1c kind_2 with_3 with_3a with_3b R w) : Calls Tryz.prog F_layout_collect ⟨[.slice l_1 l_1n l_1c, .int .i64 kind_2, .func with_3 with_3a with_3b]⟩ w R := calls_of_fnV Tryz.func25 (by rw [e_layout_collect]; exact h)

def an_layout_Pages_1 : Ann := .two (.leaf) (.cut 4064 [] (.leaf) (.two (.leaf) (.leaf)))
def sh_layout_Pages_1 (x_1 : Int) (x_2 : List UInt8) (x_3 : Int) (x_4 : Option Addr) (x_4n : Nat) (x_4c : Nat) (t1_5 : Option Addr) (t2_6 : Option Addr) (t3_7 : Option Addr) (R : Ending → World → Prop) (w : World) : Prop :=
  al w 48 [.int .i64 x_1, .string ⟨⟨x_2⟩⟩, .int .i64 x_3, .slice x_4 x_4n x_4c] fun p8 w9 =>
  ∀ (K10 : World → Prop), (∀  (w11 : World), (∀ _ : Env, (dr t2_6 fun p12 =>
  ∃ (x13 : Value), World.cell? w11 p12 = some (x13) ∧ (∃ (x14 : List UInt8), World.cell? w11 (p8.add 1) = some (.string ⟨⟨x14⟩⟩) ∧ (mupd Tryz.prog 54 x13 (.string ⟨⟨x14⟩⟩) (.bool true) w11 fun w15 =>
  dr t3_7 fun p16 =>
  ∃ (x17 : Option Addr) (x17n : Nat) (x17c : Nat), World.cell? w15 p16 = some (.slice x17 x17n x17c) ∧ (∃ (x18 : List UInt8), World.cell? w15 (p8.add 1) = some (.string ⟨⟨x18⟩⟩) ∧ (al w15 9 [.string ⟨⟨x18⟩⟩] fun p19 w20 =>
  app Tryz.prog [27, 27] 27 (.slice x17 x17n x17c) (.slice (some p19) 1 1) w20 fun a21 a21n a21c w22 =>
  dr t3_7 fun p24 =>
  stL w22 p24 0 [.slice a21 a21n a21c] fun w23 =>
  R (.returned (.tuple ⟨[]⟩)) w23)))))) → K10 w11) → (dr t1_5 fun p25 =>
  ∃ (x26 : Bool), World.cell? w9 p25 = some (.bool x26) ∧ (br x26 (dr t1_5 fun p28 =>
  stL w9 p28 0 [.bool true] fun w27 =>
  K10 w27) (dr t2_6 fun p29 =>
  ∃ (x30 : Value), World.cell? w9 p29 = some (x30) ∧ (∃ (x31 : List UInt8), World.cell? w9 (p8.add 1) = some (.string ⟨⟨x31⟩⟩) ∧ (∃ (x32 : Bool), lkAt Tryz.prog 54 x30 (.string ⟨⟨x31⟩⟩) w9 (.bool x32) ∧ (dr t1_5 fun p34 =>
  stL w9 p34 0 [.bool x32] fun w33 =>
  K10 w33))))))
set_option maxRecDepth 100000 in
theorem e_layout_Pages_1 (x_1 : Int) (x_2 : List UInt8) (x_3 : Int) (x_4 : Option Addr) (x_4n : Nat) (x_4c : Nat) (t1_5 : Option Addr) (t2_6 : Option Addr) (t3_7 : Option Addr) (R : Ending → World → Prop) (w : World) : fnV Tryz.prog Tryz.f26 an_layout_Pages_1 [.agg ⟨[.int .i64 x_1, .string ⟨⟨x_2⟩⟩, .int .i64 x_3, .slice x_4 x_4n x_4c]⟩, .pointer t1_5, .pointer t2_6, .pointer t3_7] R w = sh_layout_Pages_1 x_1 x_2 x_3 x_4 x_4n x_4c t1_5 t2_6 t3_7 R w := by kernel_rfl
theorem c_layout_Pages_1 {x_1 : Int} {x_2 : List UInt8} {x_3 : Int} {x_4 : Option Addr} {x_4n : Nat} {x_4c : Nat} {t1_5 : Option Addr} {t2_6 : Option Addr} {t3_7 : Option Addr} {R : Ending → World → Prop} {w : World} (h : sh_layout_Pages_1 x_1 x_2 x_3 x_4 x_4n x_4c t1_5 t2_6 t3_7 R w) : Calls Tryz.prog F_layout_Pages_1 ⟨[.agg ⟨[.int .i64 x_1, .string ⟨⟨x_2⟩⟩, .int .i64 x_3, .slice x_4 x_4n x_4c]⟩, .pointer t1_5, .pointer t2_6, .pointer t3_7]⟩ w R := calls_of_fnV Tryz.func26 (by rw [e_layout_Pages_1]; exact h)

def an_ref12_Pattern : Ann := .two (.leaf) (.two (.two (.leaf) (.two (.leaf) (.two (.two (.leaf) (.leaf)) (.leaf)))) (.two (.leaf) (.two (.two (.leaf) (.two (.two (.leaf) (.leaf)) (.leaf))) (.two (.leaf) (.leaf)))))
def sh_ref12_Pattern (l_1 : Option Addr) (l_1n : Nat) (l_1c : Nat) (R : Ending → World → Prop) (w : World) : Prop :=
  Calls Tryz.prog 41 ⟨[.slice l_1 l_1n l_1c]⟩ w fun (e2 : Ending) (w3 : World) =>
  ∃ (x4 : Int), e2 = .returned (.int .i64 x4) ∧ (br (decide ((x4 : Int) ≠ 0)) (R (.returned (.tuple ⟨[.string ⟨⟨[]⟩⟩, .int .i64 x4]⟩)) w3) (Calls Tryz.prog 42 ⟨[.slice l_1 l_1n l_1c]⟩ w3 fun (e5 : Ending) (w6 : World) =>
  ∃ (x7 : List UInt8), e5 = .returned (.string ⟨⟨x7⟩⟩) ∧ (br (decide ((65536 : Int) < ((List.length x7 : Int)))) (R (.returned (.tuple ⟨[.string ⟨⟨[]⟩⟩, .int .i64 4]⟩)) w6) (R (.returned (.tuple ⟨[.string ⟨⟨x7⟩⟩, .int .i64 0]⟩)) w6))))
set_option maxRecDepth 100000 in
theorem e_ref12_Pattern (l_1 : Option Addr) (l_1n : Nat) (l_1c : Nat) (R : Ending → World → Prop) (w : World) : fnV Tryz.prog Tryz.f27 an_ref12_Pattern [.slice l_1 l_1n l_1c] R w = sh_ref12_Pattern l_1 l_1n l_1c R w := by kernel_rfl
theorem c_ref12_Pattern {l_1 : Option Addr} {l_1n : Nat} {l_1c : Nat} {R : Ending → World → Prop} {w : World} (h : sh_ref12_Pattern l_1 l_1n l_1c R w) : Calls Tryz.prog F_ref12_Pattern ⟨[.slice l_1 l_1n l_1c]⟩ w R := calls_of_fnV Tryz.func27 (by rw [e_ref12_Pattern]; exact h)

def an_ref13_pages : Ann := .two (.leaf) (.two (.leaf) (.two (.two (.leaf) (.one (.loop 1125899906842096 [(4, .one (.slice)), (5, .one (.int .i64)), (6, .one (.int .i64))] (.two (.two (.leaf) (.two (.leaf) (.leaf))) (.two (.one (.cut 34359672880 [(4, .one (.slice)), (5, .one (.int .i64))] (.two (.leaf) (.one (.two (.leaf) (.two (.leaf) (.two (.leaf) (.two (.leaf) (.leaf))))))) (.two (.leaf) (.leaf)))) (.leaf)))))) (.two (.leaf) (.leaf))))
def sh_ref13_pages (l_1 : Option Addr) (l_1n : Nat) (l_1c : Nat) (R : Ending → World → Prop) (w : World) : Prop :=
  al w 9 [] fun p2 w3 =>
  ∃ (I4 : Option Addr → Nat → Nat → Int → Int → World → Nat → Prop), (∃ m10 : Nat, I4 (some p2) 0 0 0 0 w3 m10) ∧ ∀ (out_5 : Option Addr) (out_5n : Nat) (out_5c : Nat) (n_6 : Int) (i_7 : Int) (w8 : World) (m9 : Nat), I4 out_5 out_5n out_5c n_6 i_7 w8 m9 → ∀ _ : Env, (br (decide ((i_7 : Int) < ((l_1n : Int)))) (∀ (K11 : Option Addr → Nat → Nat → Int → World → Prop), (∀ (out_12 : Option Addr) (out_12n : Nat) (out_12c : Nat) (n_13 : Int) (w14 : World), (∀ _ : Env, (idx l_1 l_1n i_7 4 fun p15 =>
  ∃ (x16 : Option Addr) (x16n : Nat) (x16c : Nat), World.cell? w14 (p15.add 3) = some (.slice x16 x16n x16c) ∧ (Calls Tryz.prog 28 ⟨[.slice x16 x16n x16c]⟩ w14 fun (e17 : Ending) (w18 : World) =>
  ∃ (x19 : Option Addr) (x19n : Nat) (x19c : Nat) (x20 : Int), e17 = .returned (.tuple ⟨[.slice x19 x19n x19c, .int .i64 x20]⟩) ∧ (app Tryz.prog [27, 27] 27 (.slice out_12 out_12n out_12c) (.slice x19 x19n x19c) w18 fun a21 a21n a21c w22 =>
  ∃ m23 : Nat, m23 < m9 ∧ I4 a21 a21n a21c (IntKind.i64.wrap (n_13 + x20)) (IntKind.i64.wrap (i_7 + 1)) w22 m23)))) → K11 out_12 out_12n out_12c n_13 w14) → (idx l_1 l_1n i_7 4 fun p24 =>
  ∃ (x25 : Int), World.cell? w8 (p24.add 0) = some (.int .i64 x25) ∧ (br (decide ((x25 : Int) = 3)) (idx l_1 l_1n i_7 4 fun p26 =>
  ∃ (x27 : List UInt8), World.cell? w8 (p26.add 1) = some (.string ⟨⟨x27⟩⟩) ∧ (al w8 9 [.string ⟨⟨x27⟩⟩] fun p28 w29 =>
  app Tryz.prog [27, 27] 27 (.slice out_5 out_5n out_5c) (.slice (some p28) 1 1) w29 fun a30 a30n a30c w31 =>
  K11 a30 a30n a30c n_6 w31)) (br (decide ((x25 : Int) = 2)) (K11 out_5 out_5n out_5c (IntKind.i64.wrap (n_6 + 1)) w8) (K11 out_5 out_5n out_5c n_6 w8))))) (R (.returned (.tuple ⟨[.slice out_5 out_5n out_5c, .int .i64 n_6]⟩)) w8))
set_option maxRecDepth 100000 in
theorem e_ref13_pages (l_1 : Option Addr) (l_1n : Nat) (l_1c : Nat) (R : Ending → World → Prop) (w : World) : fnV Tryz.prog Tryz.f28 an_ref13_pages [.slice l_1 l_1n l_1c] R w = sh_ref13_pages l_1 l_1n l_1c R w := by kernel_rfl
theorem c_ref13_pages {l_1 : Option Addr} {l_1n : Nat} {l_1c : Nat} {R : Ending → World → Prop} {w : World} (h : sh_ref13_pages l_1 l_1n l_1c R w) : Calls Tryz.prog F_ref13_pages ⟨[.slice l_1 l_1n l_1c]⟩ w R := calls_of_fnV Tryz.func28 (by rw [e_ref13_pages]; exact h)

def an_layout_Lines_1 : Ann := .two (.leaf) (.leaf)
def sh_layout_Lines_1 (t0_1 : Int) (t0_2 : List UInt8) (t0_3 : Int) (t0_4 : Option Addr) (t0_4n : Nat) (t0_4c : Nat) (t1_5 : Option Addr) (R : Ending → World → Prop) (w : World) : Prop :=
  al w 48 [.int .i64 t0_1, .string ⟨⟨t0_2⟩⟩, .int .i64 t0_3, .slice t0_4 t0_4n t0_4c] fun p6 w7 =>
  dr t1_5 fun p8 =>
  ∃ (x9 : Int), World.cell? w7 p8 = some (.int .i64 x9) ∧ (dr t1_5 fun p11 =>
  stL w7 p11 0 [.int .i64 (IntKind.i64.wrap (x9 + 1))] fun w10 =>
  R (.returned (.tuple ⟨[]⟩)) w10)
set_option maxRecDepth 100000 in
theorem e_layout_Lines_1 (t0_1 : Int) (t0_2 : List UInt8) (t0_3 : Int) (t0_4 : Option Addr) (t0_4n : Nat) (t0_4c : Nat) (t1_5 : Option Addr) (R : Ending → World → Prop) (w : World) : fnV Tryz.prog Tryz.f29 an_layout_Lines_1 [.agg ⟨[.int .i64 t0_1, .string ⟨⟨t0_2⟩⟩, .int .i64 t0_3, .slice t0_4 t0_4n t0_4c]⟩, .pointer t1_5] R w = sh_layout_Lines_1 t0_1 t0_2 t0_3 t0_4 t0_4n t0_4c t1_5 R w := by kernel_rfl
theorem c_layout_Lines_1 {t0_1 : Int} {t0_2 : List UInt8} {t0_3 : Int} {t0_4 : Option Addr} {t0_4n : Nat} {t0_4c : Nat} {t1_5 : Option Addr} {R : Ending → World → Prop} {w : World} (h : sh_layout_Lines_1 t0_1 t0_2 t0_3 t0_4 t0_4n t0_4c t1_5 R w) : Calls Tryz.prog F_layout_Lines_1 ⟨[.agg ⟨[.int .i64 t0_1, .string ⟨⟨t0_2⟩⟩, .int .i64 t0_3, .slice t0_4 t0_4n t0_4c]⟩, .pointer t1_5]⟩ w R := calls_of_fnV Tryz.func29 (by rw [e_layout_Lines_1]; exact h)

def an_layout_positions : Ann := .two (.leaf) (.two (.leaf) (.two (.leaf) (.two (.leaf) (.two (.leaf) (.two (.leaf) (.two (.leaf) (.two (.leaf) (.leaf))))))))
def sh_layout_positions (start_1 : List UInt8) (start_2 : Int) (l_3 : Option Addr) (l_3n : Nat) (l_3c : Nat) (R : Ending → World → Prop) (w : World) : Prop :=
  al w 24 [.string ⟨⟨start_1⟩⟩, .int .i64 start_2] fun p4 w5 =>
  al w5 49 [.slice none 0 0] fun p6 w7 =>
  ∃ (x8 : List UInt8), World.cell? w7 (p4.add 0) = some (.string ⟨⟨x8⟩⟩) ∧ (∃ (x9 : Int), World.cell? w7 (p4.add 1) = some (.int .i64 x9) ∧ (al w7 24 [.string ⟨⟨[]⟩⟩, .int .i64 0] fun p10 w11 =>
  stL w11 p10 0 [.string ⟨⟨x8⟩⟩, .int .i64 x9] fun w12 =>
  al w12 72 [.nilFunc] fun p13 w14 =>
  stL w14 p13 0 [.func (.func 43) ⟨[]⟩ ⟨[.pointer (some p6), .pointer (some p10)]⟩] fun w15 =>
  al w15 73 [.nilFunc] fun p16 w17 =>
  stL w17 p16 0 [.func (.func 44) ⟨[]⟩ ⟨[.pointer (some p13), .pointer (some p10), .pointer (some p16)]⟩] fun w18 =>
  ∃ (x19 : Fn) (x19a : Array Value) (x19b : Array Value), World.cell? w18 p16 = some (.func x19 x19a x19b) ∧ (CallV Tryz.prog (.func x19 x19a x19b) [.slice l_3 l_3n l_3c] w18 fun (e20 : Ending) (w21 : World) =>
  e20 = .returned (.tuple ⟨[]⟩) ∧ (∃ (x22 : Option Addr) (x22n : Nat) (x22c : Nat), World.cell? w21 p6 = some (.slice x22 x22n x22c) ∧ (R (.returned (.slice x22 x22n x22c)) w21)))))
set_option maxRecDepth 100000 in
theorem e_layout_positions (start_1 : List UInt8) (start_2 : Int) (l_3 : Option Addr) (l_3n : Nat) (l_3c : Nat) (R : Ending → World → Prop) (w : World) : fnV Tryz.prog Tryz.f30 an_layout_positions [.agg ⟨[.string ⟨⟨start_1⟩⟩, .int .i64 start_2]⟩, .slice l_3 l_3n l_3c] R w = sh_layout_positions start_1 start_2 l_3 l_3n l_3c R w := by kernel_rfl
theorem c_layout_positions {start_1 : List UInt8} {start_2 : Int} {l_3 : Option Addr} {l_3n : Nat} {l_3c : Nat} {R : Ending → World → Prop} {w : World} (h : sh_layout_positions start_1 start_2 l_3 l_3n l_3c R w) : Calls Tryz.prog F_layout_positions ⟨[.agg ⟨[.string ⟨⟨start_1⟩⟩, .int .i64 start_2]⟩, .slice l_3 l_3n l_3c]⟩ w R := calls_of_fnV Tryz.func30 (by rw [e_layout_positions]; exact h)

def an_layout_rows : Ann := .two (.leaf) (.two (.leaf) (.leaf))
def sh_layout_rows (l_1 : Option Addr) (l_1n : Nat) (l_1c : Nat) (R : Ending → World → Prop) (w : World) : Prop :=
  al w 49 [.slice l_1 l_1n l_1c] fun p2 w3 =>
  R (.returned (.func (.func 45) ⟨[]⟩ ⟨[.pointer (some p2)]⟩)) w3
set_option maxRecDepth 100000 in
theorem e_layout_rows (l_1 : Option Addr) (l_1n : Nat) (l_1c : Nat) (R : Ending → World → Prop) (w : World) : fnV Tryz.prog Tryz.f31 an_layout_rows [.slice l_1 l_1n l_1c] R w = sh_layout_rows l_1 l_1n l_1c R w := by kernel_rfl
theorem c_layout_rows {l_1 : Option Addr} {l_1n : Nat} {l_1c : Nat} {R : Ending → World → Prop} {w : World} (h : sh_layout_rows l_1 l_1n l_1c R w) : Calls Tryz.prog F_layout_rows ⟨[.slice l_1 l_1n l_1c]⟩ w R := calls_of_fnV Tryz.func31 (by rw [e_layout_rows]; exact h)

def an_ref13_all : Ann := .two (.leaf) (.two (.leaf) (.two (.two (.leaf) (.two (.two (.leaf) (.leaf)) (.leaf))) (.two (.leaf) (.two (.leaf) (.leaf)))))
def sh_ref13_all (l_1 : Option Addr) (l_1n : Nat) (l_1c : Nat) (R : Ending → World → Prop) (w : World) : Prop :=
  Calls Tryz.prog 27 ⟨[.slice l_1 l_1n l_1c]⟩ w fun (e2 : Ending) (w3 : World) =>
  ∃ (x4 : List UInt8) (x5 : Int), e2 = .returned (.tuple ⟨[.string ⟨⟨x4⟩⟩, .int .i64 x5]⟩) ∧ (br (decide ((x5 : Int) ≠ 0)) (al w3 24 [] fun p6 w7 =>
  R (.returned (.tuple ⟨[.slice (some p6) 0 0, .string ⟨⟨[]⟩⟩, .int .i64 x5]⟩)) w7) (Calls Tryz.prog 46 ⟨[.agg ⟨[.string ⟨⟨[]⟩⟩, .int .i64 0]⟩, .slice l_1 l_1n l_1c]⟩ w3 fun (e8 : Ending) (w9 : World) =>
  ∃ (x10 : Option Addr) (x10n : Nat) (x10c : Nat) (x11 : List UInt8) (x12 : Int), e8 = .returned (.tuple ⟨[.slice x10 x10n x10c, .agg ⟨[.string ⟨⟨x11⟩⟩, .int .i64 x12]⟩]⟩) ∧ (al w9 24 [.string ⟨⟨[]⟩⟩, .int .i64 0] fun p13 w14 =>
  stL w14 p13 0 [.string ⟨⟨x11⟩⟩, .int .i64 x12] fun w15 =>
  R (.returned (.tuple ⟨[.slice x10 x10n x10c, .string ⟨⟨x4⟩⟩, .int .i64 0]⟩)) w15)))
set_option maxRecDepth 100000 in
theorem e_ref13_all (l_1 : Option Addr) (l_1n : Nat) (l_1c : Nat) (R : Ending → World → Prop) (w : World) : fnV Tryz.prog Tryz.f32 an_ref13_all [.slice l_1 l_1n l_1c] R w = sh_ref13_all l_1 l_1n l_1c R w := by kernel_rfl
theorem c_ref13_all {l_1 : Option Addr} {l_1n : Nat} {l_1c : Nat} {R : Ending → World → Prop} {w : World} (h : sh_ref13_all l_1 l_1n l_1c R w) : Calls Tryz.prog F_ref13_all ⟨[.slice l_1 l_1n l_1c]⟩ w R := calls_of_fnV Tryz.func32 (by rw [e_ref13_all]; exact h)

def an_cmp_Compare_of_int : Ann := .two (.leaf) (.two (.leaf) (.two (.leaf) (.two (.two (.leaf) (.two (.two (.two (.leaf) (.two (.two (.leaf) (.leaf)) (.leaf))) (.two (.leaf) (.leaf))) (.leaf))) (.two (.two (.leaf) (.two (.two (.leaf) (.leaf)) (.leaf))) (.two (.two (.leaf) (.two (.two (.leaf) (.leaf)) (.leaf))) (.two (.two (.leaf) (.two (.two (.leaf) (.leaf)) (.leaf))) (.two (.leaf) (.leaf))))))))
def sh_cmp_Compare_of_int (x_1 : Int) (y_2 : Int) (R : Ending → World → Prop) (w : World) : Prop :=
  Calls Tryz.prog 47 ⟨[.int .i64 x_1]⟩ w fun (e3 : Ending) (w4 : World) =>
  ∃ (x5 : Bool), e3 = .returned (.bool x5) ∧ (Calls Tryz.prog 47 ⟨[.int .i64 y_2]⟩ w4 fun (e6 : Ending) (w7 : World) =>
  ∃ (x8 : Bool), e6 = .returned (.bool x8) ∧ (br x5 (br x8 (R (.returned (.int .i64 0)) w7) (R (.returned (.int .i64 ((-1)))) w7)) (br x8 (R (.returned (.int .i64 1)) w7) (br (decide ((x_1 : Int) < y_2)) (R (.returned (.int .i64 ((-1)))) w7) (br (decide ((y_2 : Int) < x_1)) (R (.returned (.int .i64 1)) w7) (R (.returned (.int .i64 0)) w7))))))
set_option maxRecDepth 100000 in
theorem e_cmp_Compare_of_int (x_1 : Int) (y_2 : Int) (R : Ending → World → Prop) (w : World) : fnV Tryz.prog Tryz.f33 an_cmp_Compare_of_int [.int .i64 x_1, .int .i64 y_2] R w = sh_cmp_Compare_of_int x_1 y_2 R w := by kernel_rfl
theorem c_cmp_Compare_of_int {x_1 : Int} {y_2 : Int} {R : Ending → World → Prop} {w : World} (h : sh_cmp_Compare_of_int x_1 y_2 R w) : Calls Tryz.prog F_cmp_Compare_of_int ⟨[.int .i64 x_1, .int .i64 y_2]⟩ w R := calls_of_fnV Tryz.func33 (by rw [e_cmp_Compare_of_int]; exact h)

def an_layout_Broken_1 : Ann := .two (.leaf) (.two (.two (.leaf) (.one (.two (.two (.leaf) (.two (.leaf) (.two (.leaf) (.two (.leaf) (.two (.leaf) (.two (.leaf) (.leaf))))))) (.two (.two (.leaf) (.leaf)) (.leaf))))) (.two (.leaf) (.leaf)))
def sh_layout_Broken_1 (c_1 : Int) (R : Ending → World → Prop) (w : World) : Prop :=
  Calls Tryz.prog 35 ⟨[.int .u8 c_1]⟩ w fun (e2 : Ending) (w3 : World) =>
  ∃ (x4 : Int), e2 = .returned (.int .i64 x4) ∧ (br (decide ((x4 : Int) = 1)) (br (decide ((x4 : Int) = 1)) (R (.returned (.bool true)) w3) (R (.returned (.bool (decide ((c_1 : Int) = 95)))) w3)) (br (decide ((x4 : Int) = 2)) (br (decide ((x4 : Int) = 2)) (R (.returned (.bool true)) w3) (R (.returned (.bool (decide ((c_1 : Int) = 95)))) w3)) (br (decide ((x4 : Int) = 3)) (br (decide ((x4 : Int) = 3)) (R (.returned (.bool true)) w3) (R (.returned (.bool (decide ((c_1 : Int) = 95)))) w3)) (br (decide ((x4 : Int) = 4)) (R (.returned (.bool true)) w3) (R (.returned (.bool (decide ((c_1 : Int) = 95)))) w3)))))
set_option maxRecDepth 100000 in
theorem e_layout_Broken_1 (c_1 : Int) (R : Ending → World → Prop) (w : World) : fnV Tryz.prog Tryz.f34 an_layout_Broken_1 [.int .u8 c_1] R w = sh_layout_Broken_1 c_1 R w := by kernel_rfl
theorem c_layout_Broken_1 {c_1 : Int} {R : Ending → World → Prop} {w : World} (h : sh_layout_Broken_1 c_1 R w) : Calls Tryz.prog F_layout_Broken_1 ⟨[.int .u8 c_1]⟩ w R := calls_of_fnV Tryz.func34 (by rw [e_layout_Broken_1]; exact h)

def an_charset_Kind : Ann := .two (.leaf) (.two (.one (.cut 262136 [(3, .one (.bool))] (.leaf) (.two (.two (.leaf) (.leaf)) (.cut 536608768 [(18, .one (.bool))] (.leaf) (.two (.two (.leaf) (.leaf)) (.cut 68182605824 [(29, .one (.bool))] (.leaf) (.two (.two (.leaf) (.leaf)) (.two (.leaf) (.two (.two (.leaf) (.leaf)) (.two (.leaf) (.two (.two (.leaf) (.leaf)) (.two (.leaf) (.two (.two (.leaf) (.leaf)) (.leaf)))))))))))))) (.two (.leaf) (.leaf)))
def sh_charset_Kind (c_1 : Int) (R : Ending → World → Prop) (w : World) : Prop :=
  ∀ (K2 : Bool → World → Prop), (∀ (t3_3 : Bool) (w4 : World), (∀ _ : Env, (br t3_3 (R (.returned (.int .i64 1)) w4) (∀ (K5 : Bool → World → Prop), (∀ (t18_6 : Bool) (w7 : World), (∀ _ : Env, (br t18_6 (R (.returned (.int .i64 2)) w7) (∀ (K8 : Bool → World → Prop), (∀ (t29_9 : Bool) (w10 : World), (∀ _ : Env, (br t29_9 (R (.returned (.int .i64 3)) w10) (br (decide ((c_1 : Int) = 39)) (R (.returned (.int .i64 4)) w10) (br (decide ((c_1 : Int) = 32)) (R (.returned (.int .i64 6)) w10) (br (decide ((c_1 : Int) ≠ 0)) (Calls Tryz.prog 48 ⟨[.string ⟨⟨[46, 44, 59, 58, 33, 63, 40, 41, 45]⟩⟩, .int .u8 c_1]⟩ w10 fun (e11 : Ending) (w12 : World) =>
  ∃ (x13 : Int), e11 = .returned (.int .i64 x13) ∧ (br (decide ((0 : Int) ≤ x13)) (R (.returned (.int .i64 5)) w12) (R (.returned (.int .i64 0)) w12))) (R (.returned (.int .i64 0)) w10)))))) → K8 t29_9 w10) → (br (decide ((48 : Int) ≤ c_1)) (K8 (decide ((c_1 : Int) ≤ 57)) w7) (K8 false w7))))) → K5 t18_6 w7) → (br (decide ((c_1 : Int) = 94)) (K5 true w4) (br (decide ((c_1 : Int) = 126)) (K5 true w4) (K5 (decide ((c_1 : Int) = 37)) w4)))))) → K2 t3_3 w4) → (br (decide ((97 : Int) ≤ c_1)) (br (decide ((c_1 : Int) ≤ 122)) (K2 true w) (br (decide ((65 : Int) ≤ c_1)) (K2 (decide ((c_1 : Int) ≤ 90)) w) (K2 false w))) (br (decide ((65 : Int) ≤ c_1)) (K2 (decide ((c_1 : Int) ≤ 90)) w) (K2 false w)))
set_option maxRecDepth 100000 in
theorem e_charset_Kind (c_1 : Int) (R : Ending → World → Prop) (w : World) : fnV Tryz.prog Tryz.f35 an_charset_Kind [.int .u8 c_1] R w = sh_charset_Kind c_1 R w := by kernel_rfl
theorem c_charset_Kind {c_1 : Int} {R : Ending → World → Prop} {w : World} (h : sh_charset_Kind c_1 R w) : Calls Tryz.prog F_charset_Kind ⟨[.int .u8 c_1]⟩ w R := calls_of_fnV Tryz.func35 (by rw [e_charset_Kind]; exact h)

def an_ref13_inWord : Ann := .two (.leaf) (.two (.leaf) (.two (.leaf) (.leaf)))
def sh_ref13_inWord (c_1 : Int) (R : Ending → World → Prop) (w : World) : Prop :=
  Calls Tryz.prog 49 ⟨[.int .u8 c_1]⟩ w fun (e2 : Ending) (w3 : World) =>
  ∃ (x4 : Int), e2 = .returned (.int .i64 x4) ∧ (br (decide ((c_1 : Int) = 95)) (R (.returned (.bool true)) w3) (br (decide ((1 : Int) ≤ x4)) (R (.returned (.bool (decide ((x4 : Int) ≤ 4)))) w3) (R (.returned (.bool false)) w3)))
set_option maxRecDepth 100000 in
theorem e_ref13_inWord (c_1 : Int) (R : Ending → World → Prop) (w : World) : fnV Tryz.prog Tryz.f36 an_ref13_inWord [.int .u8 c_1] R w = sh_ref13_inWord c_1 R w := by kernel_rfl
theorem c_ref13_inWord {c_1 : Int} {R : Ending → World → Prop} {w : World} (h : sh_ref13_inWord c_1 R w) : Calls Tryz.prog F_ref13_inWord ⟨[.int .u8 c_1]⟩ w R := calls_of_fnV Tryz.func36 (by rw [e_ref13_inWord]; exact h)

def an_charset_IsName : Ann := .two (.leaf) (.two (.leaf) (.leaf))
def sh_charset_IsName (s_1 : List UInt8) (R : Ending → World → Prop) (w : World) : Prop :=
  br (decide ((s_1 : List UInt8) ≠ ([]))) (br (decide ((((List.length s_1 : Int)) : Int) ≤ 16)) (Calls Tryz.prog 50 ⟨[.string ⟨⟨s_1⟩⟩]⟩ w fun (e2 : Ending) (w3 : World) =>
  ∃ (x4 : Int), e2 = .returned (.int .i64 x4) ∧ (R (.returned (.bool (decide ((x4 : Int) = ((List.length s_1 : Int)))))) w3)) (R (.returned (.bool false)) w)) (R (.returned (.bool false)) w)
set_option maxRecDepth 100000 in
theorem e_charset_IsName (s_1 : List UInt8) (R : Ending → World → Prop) (w : World) : fnV Tryz.prog Tryz.f37 an_charset_IsName [.string ⟨⟨s_1⟩⟩] R w = sh_charset_IsName s_1 R w := by kernel_rfl
theorem c_charset_IsName {s_1 : List UInt8} {R : Ending → World → Prop} {w : World} (h : sh_charset_IsName s_1 R w) : Calls Tryz.prog F_charset_IsName ⟨[.string ⟨⟨s_1⟩⟩]⟩ w R := calls_of_fnV Tryz.func37 (by rw [e_charset_IsName]; exact h)

def an_legibility_check : Ann := .two (.leaf) (.two (.two (.leaf) (.two (.two (.leaf) (.leaf)) (.leaf))) (.two (.two (.leaf) (.one (.rf [2, 8] 0))) (.two (.leaf) (.leaf))))
def sh_legibility_check (l_1 : Option Addr) (l_1n : Nat) (l_1c : Nat) (R : Ending → World → Prop) (w : World) : Prop :=
  al w 28 [.int .i64 0] fun p2 w3 =>
  Calls Tryz.prog 51 ⟨[.slice l_1 l_1n l_1c]⟩ w3 fun (e4 : Ending) (w5 : World) =>
  ∃ (x6 : Int), e4 = .returned (.int .i64 x6) ∧ (br (decide ((x6 : Int) ≠ 0)) (stL w5 p2 0 [.int .i64 1] fun w7 =>
  ∃ (x8 : Int), World.cell? w7 p2 = some (.int .i64 x8) ∧ (R (.returned (.int .i64 x8)) w7)) (Calls Tryz.prog 52 ⟨[.slice l_1 l_1n l_1c]⟩ w5 fun (e9 : Ending) (w10 : World) =>
  ∃ (x11 : Fn) (x11a : Array Value) (x11b : Array Value), e9 = .returned (.func x11 x11a x11b) ∧ (∀ base12 : Env, RFw Tryz.prog none 19 (cdAt Tryz.f38 [1, 1, 0, 1, 2]) (upd (upd base12 8 (.func x11 x11a x11b)) 2 (.pointer (some p2))) [] w10 0 (fun ds13 w14 =>
  stL w14 p2 0 [.int .i64 0] fun w18 =>
  retD ds13 w18 fun w19 =>
  ∃ (x20 : Int), World.cell? w19 p2 = some (.int .i64 x20) ∧ (R (.returned (.int .i64 x20)) w19)) (fun ds13 w14 =>
  retD ds13 w14 fun w21 =>
  ∃ (x22 : Int), World.cell? w21 p2 = some (.int .i64 x22) ∧ (R (.returned (.int .i64 x22)) w21)) (fun ds13 w14 =>
  stL w14 p2 0 [.int .i64 0] fun w15 =>
  retD ds13 w15 fun w16 =>
  ∃ (x17 : Int), World.cell? w16 p2 = some (.int .i64 x17) ∧ (R (.returned (.int .i64 x17)) w16)))))
set_option maxRecDepth 100000 in
theorem e_legibility_check (l_1 : Option Addr) (l_1n : Nat) (l_1c : Nat) (R : Ending → World → Prop) (w : World) : fnV Tryz.prog Tryz.f38 an_legibility_check [.slice l_1 l_1n l_1c] R w = sh_legibility_check l_1 l_1n l_1c R w := by kernel_rfl
theorem c_legibility_check {l_1 : Option Addr} {l_1n : Nat} {l_1c : Nat} {R : Ending → World → Prop} {w : World} (h : sh_legibility_check l_1 l_1n l_1c R w) : Calls Tryz.prog F_legibility_check ⟨[.slice l_1 l_1n l_1c]⟩ w R := calls_of_fnV Tryz.func38 (by rw [e_legibility_check]; exact h)
def anA_legibility_check_1 : Ann := .leaf
def anB_legibility_check_1 : Ann := .one (.two (.leaf) (.two (.two (.leaf) (.leaf)) (.leaf)))
def rf_legibility_check_1 (t2_23 : Option Addr) (t8_24 : Fn) (t8_24a : Array Value) (t8_24b : Array Value) (t9_25 : Int) (t9_26 : List UInt8) (t9_27 : Int) (t9_28 : Option Addr) (t9_28n : Nat) (t9_28c : Nat) (t10_29 : Value) (l : Nat) (Kn Kr Kx : World → World → Prop) (w : World) : Prop :=
  al w 48 [.int .i64 0, .string ⟨⟨[]⟩⟩, .int .i64 0, .slice none 0 0] fun p31 w32 =>
  stL w32 p31 0 [.int .i64 t9_25, .string ⟨⟨t9_26⟩⟩, .int .i64 t9_27, .slice t9_28 t9_28n t9_28c] fun w33 =>
  Ext w w33 ∧ ∀ w30 : World, Upd l w33 w30 → (∃ (x34 : Int), World.cell? w30 (p31.add 0) = some (.int .i64 x34) ∧ (br (decide ((x34 : Int) = 8)) (dr t2_23 fun p36 =>
  stL w30 p36 0 [.int .i64 13] fun w35 =>
  Kr w30 w35) (∃ (x37 : Int), World.cell? w30 (p31.add 0) = some (.int .i64 x37) ∧ (br (decide ((x37 : Int) = 9)) (dr t2_23 fun p39 =>
  stL w30 p39 0 [.int .i64 13] fun w38 =>
  Kr w30 w38) (Kn w30 w30)))))
set_option maxRecDepth 100000 in
theorem er_legibility_check_1 (base : Env) (t2_23 : Option Addr) (t8_24 : Fn) (t8_24a : Array Value) (t8_24b : Array Value) (t9_25 : Int) (t9_26 : List UInt8) (t9_27 : Int) (t9_28 : Option Addr) (t9_28n : Nat) (t9_28c : Nat) (t10_29 : Value) (l : Nat) (Kn Kr Kx : World → World → Prop) (w : World) : fragV Tryz.prog 19 anA_legibility_check_1 anB_legibility_check_1 (cdAt Tryz.f38 [1, 1, 0, 1, 2, 5]) (cdAt Tryz.f38 [1, 1, 0, 1, 2, 6]) l 0 Kn Kr Kx (updPs [9, 10] [.agg ⟨[.int .i64 t9_25, .string ⟨⟨t9_26⟩⟩, .int .i64 t9_27, .slice t9_28 t9_28n t9_28c]⟩, t10_29] (upd (upd base 8 (.func t8_24 t8_24a t8_24b)) 2 (.pointer t2_23))) w = rf_legibility_check_1 t2_23 t8_24 t8_24a t8_24b t9_25 t9_26 t9_27 t9_28 t9_28n t9_28c t10_29 l Kn Kr Kx w := by kernel_rfl
theorem cd_legibility_check_1 : cdAt Tryz.f38 [1, 1, 0, 1, 2] = .rangeFunc (Operand.tmp 8) #[9, 10] (cdAt Tryz.f38 [1, 1, 0, 1, 2, 5]) (cdAt Tryz.f38 [1, 1, 0, 1, 2, 6]) := by kernel_rfl

def an_legibility_limited : Ann := .two (.leaf) (.two (.two (.leaf) (.two (.two (.leaf) (.leaf)) (.leaf))) (.two (.leaf) (.leaf)))
def sh_legibility_limited (s_1 : List UInt8) (R : Ending → World → Prop) (w : World) : Prop :=
  br (decide ((65536 : Int) < ((List.length s_1 : Int)))) (R (.returned (.tuple ⟨[.string ⟨⟨[]⟩⟩, .int .i64 4]⟩)) w) (R (.returned (.tuple ⟨[.string ⟨⟨s_1⟩⟩, .int .i64 0]⟩)) w)
set_option maxRecDepth 100000 in
theorem e_legibility_limited (s_1 : List UInt8) (R : Ending → World → Prop) (w : World) : fnV Tryz.prog Tryz.f39 an_legibility_limited [.string ⟨⟨s_1⟩⟩] R w = sh_legibility_limited s_1 R w := by kernel_rfl
theorem c_legibility_limited {s_1 : List UInt8} {R : Ending → World → Prop} {w : World} (h : sh_legibility_limited s_1 R w) : Calls Tryz.prog F_legibility_limited ⟨[.string ⟨⟨s_1⟩⟩]⟩ w R := calls_of_fnV Tryz.func39 (by rw [e_legibility_limited]; exact h)

def an_legibility_pattern : Ann := .two (.leaf) (.two (.leaf) (.two (.two (.leaf) (.one (.rf [2, 3, 6] 0))) (.two (.leaf) (.leaf))))
def sh_legibility_pattern (l_1 : Option Addr) (l_1n : Nat) (l_1c : Nat) (R : Ending → World → Prop) (w : World) : Prop :=
  al w 86 [.pointer none, .slice none 0 0] fun p2 w3 =>
  Calls Tryz.prog 52 ⟨[.slice l_1 l_1n l_1c]⟩ w3 fun (e4 : Ending) (w5 : World) =>
  ∃ (x6 : Fn) (x6a : Array Value) (x6b : Array Value), e4 = .returned (.func x6 x6a x6b) ∧ (∀ base7 : Env, RFw Tryz.prog none 23 (cdAt Tryz.f40 [1, 1, 0, 1, 2]) (upd (upd (upd base7 6 (.func x6 x6a x6b)) 3 (.pointer (some p2))) 2 (.string ⟨⟨[]⟩⟩)) [] w5 0 (fun ds8 w9 =>
  Calls Tryz.prog 55 ⟨[.pointer (some p2)]⟩ w9 fun (e14 : Ending) (w15 : World) =>
  ∃ (x16 : List UInt8), e14 = .returned (.string ⟨⟨x16⟩⟩) ∧ (retD ds8 w15 fun w17 =>
  R (.returned (.string ⟨⟨x16⟩⟩)) w17)) (fun ds8 w9 =>
  retD ds8 w9 fun w18 =>
  R (.returned (.string ⟨⟨[]⟩⟩)) w18) (fun ds8 w9 =>
  Calls Tryz.prog 55 ⟨[.pointer (some p2)]⟩ w9 fun (e10 : Ending) (w11 : World) =>
  ∃ (x12 : List UInt8), e10 = .returned (.string ⟨⟨x12⟩⟩) ∧ (retD ds8 w11 fun w13 =>
  R (.returned (.string ⟨⟨x12⟩⟩)) w13)))
set_option maxRecDepth 100000 in
theorem e_legibility_pattern (l_1 : Option Addr) (l_1n : Nat) (l_1c : Nat) (R : Ending → World → Prop) (w : World) : fnV Tryz.prog Tryz.f40 an_legibility_pattern [.slice l_1 l_1n l_1c] R w = sh_legibility_pattern l_1 l_1n l_1c R w := by kernel_rfl
theorem c_legibility_pattern {l_1 : Option Addr} {l_1n : Nat} {l_1c : Nat} {R : Ending → World → Prop} {w : World} (h : sh_legibility_pattern l_1 l_1n l_1c R w) : Calls Tryz.prog F_legibility_pattern ⟨[.slice l_1 l_1n l_1c]⟩ w R := calls_of_fnV Tryz.func40 (by rw [e_legibility_pattern]; exact h)
def anA_legibility_pattern_1 : Ann := .leaf
def anB_legibility_pattern_1 : Ann := .one (.two (.leaf) (.one (.two (.leaf) (.two (.leaf) (.two (.leaf) (.two (.leaf) (.leaf)))))))
def rf_legibility_pattern_1 (t2_19 : List UInt8) (w_20 : Option Addr) (t6_21 : Fn) (t6_21a : Array Value) (t6_21b : Array Value) (t7_22 : Int) (t7_23 : List UInt8) (t7_24 : Int) (t7_25 : Option Addr) (t7_25n : Nat) (t7_25c : Nat) (t8_26 : Value) (l : Nat) (Kn Kr Kx : World → World → Prop) (w : World) : Prop :=
  al w 48 [.int .i64 0, .string ⟨⟨[]⟩⟩, .int .i64 0, .slice none 0 0] fun p28 w29 =>
  stL w29 p28 0 [.int .i64 t7_22, .string ⟨⟨t7_23⟩⟩, .int .i64 t7_24, .slice t7_25 t7_25n t7_25c] fun w30 =>
  Ext w w30 ∧ ∀ w27 : World, Upd l w30 w27 → (∃ (x31 : Int), World.cell? w27 (p28.add 0) = some (.int .i64 x31) ∧ (br (decide ((x31 : Int) = 1)) (∃ (x32 : List UInt8), World.cell? w27 (p28.add 1) = some (.string ⟨⟨x32⟩⟩) ∧ (Calls Tryz.prog 53 ⟨[.pointer w_20, .string ⟨⟨x32⟩⟩]⟩ w27 fun (e33 : Ending) (w34 : World) =>
  ∃ (x35 : Int) (x36 : Value), e33 = .returned (.tuple ⟨[.int .i64 x35, x36]⟩) ∧ (Kn w27 w34))) (br (decide ((x31 : Int) = 6)) (∃ (x37 : Int), World.cell? w27 (p28.add 2) = some (.int .i64 x37) ∧ (Calls Tryz.prog 54 ⟨[.string ⟨⟨[95]⟩⟩, .int .i64 x37]⟩ w27 fun (e38 : Ending) (w39 : World) =>
  ∃ (x40 : List UInt8), e38 = .returned (.string ⟨⟨x40⟩⟩) ∧ (Calls Tryz.prog 53 ⟨[.pointer w_20, .string ⟨⟨x40⟩⟩]⟩ w39 fun (e41 : Ending) (w42 : World) =>
  ∃ (x43 : Int) (x44 : Value), e41 = .returned (.tuple ⟨[.int .i64 x43, x44]⟩) ∧ (Kn w27 w42)))) (Kn w27 w27))))
set_option maxRecDepth 100000 in
theorem er_legibility_pattern_1 (base : Env) (t2_19 : List UInt8) (w_20 : Option Addr) (t6_21 : Fn) (t6_21a : Array Value) (t6_21b : Array Value) (t7_22 : Int) (t7_23 : List UInt8) (t7_24 : Int) (t7_25 : Option Addr) (t7_25n : Nat) (t7_25c : Nat) (t8_26 : Value) (l : Nat) (Kn Kr Kx : World → World → Prop) (w : World) : fragV Tryz.prog 23 anA_legibility_pattern_1 anB_legibility_pattern_1 (cdAt Tryz.f40 [1, 1, 0, 1, 2, 5]) (cdAt Tryz.f40 [1, 1, 0, 1, 2, 6]) l 0 Kn Kr Kx (updPs [7, 8] [.agg ⟨[.int .i64 t7_22, .string ⟨⟨t7_23⟩⟩, .int .i64 t7_24, .slice t7_25 t7_25n t7_25c]⟩, t8_26] (upd (upd (upd base 6 (.func t6_21 t6_21a t6_21b)) 3 (.pointer w_20)) 2 (.string ⟨⟨t2_19⟩⟩))) w = rf_legibility_pattern_1 t2_19 w_20 t6_21 t6_21a t6_21b t7_22 t7_23 t7_24 t7_25 t7_25n t7_25c t8_26 l Kn Kr Kx w := by kernel_rfl
theorem cd_legibility_pattern_1 : cdAt Tryz.f40 [1, 1, 0, 1, 2] = .rangeFunc (Operand.tmp 6) #[7, 8] (cdAt Tryz.f40 [1, 1, 0, 1, 2, 5]) (cdAt Tryz.f40 [1, 1, 0, 1, 2, 6]) := by kernel_rfl

def an_ref12_check : Ann := .two (.leaf) (.two (.two (.leaf) (.two (.two (.leaf) (.leaf)) (.leaf))) (.two (.two (.leaf) (.two (.two (.leaf) (.leaf)) (.leaf))) (.two (.leaf) (.leaf))))
def sh_ref12_check (l_1 : Option Addr) (l_1n : Nat) (l_1c : Nat) (R : Ending → World → Prop) (w : World) : Prop :=
  Calls Tryz.prog 56 ⟨[.slice l_1 l_1n l_1c]⟩ w fun (e2 : Ending) (w3 : World) =>
  ∃ (x4 : Int), e2 = .returned (.int .i64 x4) ∧ (br (decide ((x4 : Int) ≠ 0)) (R (.returned (.int .i64 1)) w3) (Calls Tryz.prog 57 ⟨[.slice l_1 l_1n l_1c]⟩ w3 fun (e5 : Ending) (w6 : World) =>
  ∃ (x7 : Bool), e5 = .returned (.bool x7) ∧ (br (!x7) (R (.returned (.int .i64 13)) w6) (R (.returned (.int .i64 0)) w6))))
set_option maxRecDepth 100000 in
theorem e_ref12_check (l_1 : Option Addr) (l_1n : Nat) (l_1c : Nat) (R : Ending → World → Prop) (w : World) : fnV Tryz.prog Tryz.f41 an_ref12_check [.slice l_1 l_1n l_1c] R w = sh_ref12_check l_1 l_1n l_1c R w := by kernel_rfl
theorem c_ref12_check {l_1 : Option Addr} {l_1n : Nat} {l_1c : Nat} {R : Ending → World → Prop} {w : World} (h : sh_ref12_check l_1 l_1n l_1c R w) : Calls Tryz.prog F_ref12_check ⟨[.slice l_1 l_1n l_1c]⟩ w R := calls_of_fnV Tryz.func41 (by rw [e_ref12_check]; exact h)

def an_ref12_pattern : Ann := .two (.leaf) (.two (.leaf) (.two (.two (.leaf) (.one (.loop 70368744177656 [(3, .one (.str)), (4, .one (.int .i64))] (.two (.two (.leaf) (.two (.leaf) (.leaf))) (.two (.one (.cut 16775176 [(3, .one (.str))] (.two (.leaf) (.two (.leaf) (.leaf))) (.cut 274861129736 [(3, .one (.str))] (.two (.leaf) (.two (.leaf) (.leaf))) (.leaf)))) (.leaf)))))) (.two (.leaf) (.leaf))))
def sh_ref12_pattern (l_1 : Option Addr) (l_1n : Nat) (l_1c : Nat) (R : Ending → World → Prop) (w : World) : Prop :=
  ∃ (I2 : List UInt8 → Int → World → Nat → Prop), (∃ m7 : Nat, I2 ([]) 0 w m7) ∧ ∀ (out_3 : List UInt8) (i_4 : Int) (w5 : World) (m6 : Nat), I2 out_3 i_4 w5 m6 → ∀ _ : Env, (br (decide ((i_4 : Int) < ((l_1n : Int)))) (∀ (K8 : List UInt8 → World → Prop), (∀ (out_9 : List UInt8) (w10 : World), (∀ _ : Env, (∀ (K11 : List UInt8 → World → Prop), (∀ (out_12 : List UInt8) (w13 : World), (∀ _ : Env, (idx l_1 l_1n i_4 4 fun p14 =>
  ∃ (x15 : Option Addr) (x15n : Nat) (x15c : Nat), World.cell? w13 (p14.add 3) = some (.slice x15 x15n x15c) ∧ (Calls Tryz.prog 42 ⟨[.slice x15 x15n x15c]⟩ w13 fun (e16 : Ending) (w17 : World) =>
  ∃ (x18 : List UInt8), e16 = .returned (.string ⟨⟨x18⟩⟩) ∧ (sadd out_12 x18 fun s19 =>
  ∃ m20 : Nat, m20 < m6 ∧ I2 s19 (IntKind.i64.wrap (i_4 + 1)) w17 m20)))) → K11 out_12 w13) → (idx l_1 l_1n i_4 4 fun p21 =>
  ∃ (x22 : Int), World.cell? w10 (p21.add 0) = some (.int .i64 x22) ∧ (br (decide ((x22 : Int) = 6)) (idx l_1 l_1n i_4 4 fun p23 =>
  ∃ (x24 : Int), World.cell? w10 (p23.add 2) = some (.int .i64 x24) ∧ (Calls Tryz.prog 58 ⟨[.int .i64 x24]⟩ w10 fun (e25 : Ending) (w26 : World) =>
  ∃ (x27 : List UInt8), e25 = .returned (.string ⟨⟨x27⟩⟩) ∧ (sadd out_9 x27 fun s28 =>
  K11 s28 w26))) (K11 out_9 w10))))) → K8 out_9 w10) → (idx l_1 l_1n i_4 4 fun p29 =>
  ∃ (x30 : Int), World.cell? w5 (p29.add 0) = some (.int .i64 x30) ∧ (br (decide ((x30 : Int) = 1)) (idx l_1 l_1n i_4 4 fun p31 =>
  ∃ (x32 : List UInt8), World.cell? w5 (p31.add 1) = some (.string ⟨⟨x32⟩⟩) ∧ (sadd out_3 x32 fun s33 =>
  K8 s33 w5)) (K8 out_3 w5)))) (R (.returned (.string ⟨⟨out_3⟩⟩)) w5))
set_option maxRecDepth 100000 in
theorem e_ref12_pattern (l_1 : Option Addr) (l_1n : Nat) (l_1c : Nat) (R : Ending → World → Prop) (w : World) : fnV Tryz.prog Tryz.f42 an_ref12_pattern [.slice l_1 l_1n l_1c] R w = sh_ref12_pattern l_1 l_1n l_1c R w := by kernel_rfl
theorem c_ref12_pattern {l_1 : Option Addr} {l_1n : Nat} {l_1c : Nat} {R : Ending → World → Prop} {w : World} (h : sh_ref12_pattern l_1 l_1n l_1c R w) : Calls Tryz.prog F_ref12_pattern ⟨[.slice l_1 l_1n l_1c]⟩ w R := calls_of_fnV Tryz.func42 (by rw [e_ref12_pattern]; exact h)

def an_layout_positions_1 : Ann := .two (.leaf) (.one (.loop 4064 [(5, .one (.int .i64))] (.two (.leaf) (.two (.two (.leaf) (.leaf)) (.two (.one (.leaf)) (.leaf))))))
def sh_layout_positions_1 (n_1 : Int) (t1_2 : Option Addr) (t2_3 : Option Addr) (R : Ending → World → Prop) (w : World) : Prop :=
  ∃ (I4 : Int → World → Nat → Prop), (∃ m8 : Nat, I4 0 w m8) ∧ ∀ (t5_5 : Int) (w6 : World) (m7 : Nat), I4 t5_5 w6 m7 → ∀ _ : Env, (br (decide ((t5_5 : Int) < n_1)) (dr t1_2 fun p9 =>
  ∃ (x10 : Option Addr) (x10n : Nat) (x10c : Nat), World.cell? w6 p9 = some (.slice x10 x10n x10c) ∧ (dr t2_3 fun p11 =>
  ∃ (x12 : List UInt8), World.cell? w6 (p11.add 0) = some (.string ⟨⟨x12⟩⟩) ∧ (∃ (x13 : Int), World.cell? w6 (p11.add 1) = some (.int .i64 x13) ∧ (al w6 24 [.string ⟨⟨x12⟩⟩, .int .i64 x13] fun p14 w15 =>
  app Tryz.prog [49, 49] 49 (.slice x10 x10n x10c) (.slice (some p14) 1 1) w15 fun a16 a16n a16c w17 =>
  dr t1_2 fun p19 =>
  stL w17 p19 0 [.slice a16 a16n a16c] fun w18 =>
  ∃ m20 : Nat, m20 < m7 ∧ I4 (IntKind.i64.wrap (t5_5 + 1)) w18 m20)))) (R (.returned (.tuple ⟨[]⟩)) w6))
set_option maxRecDepth 100000 in
theorem e_layout_positions_1 (n_1 : Int) (t1_2 : Option Addr) (t2_3 : Option Addr) (R : Ending → World → Prop) (w : World) : fnV Tryz.prog Tryz.f43 an_layout_positions_1 [.int .i64 n_1, .pointer t1_2, .pointer t2_3] R w = sh_layout_positions_1 n_1 t1_2 t2_3 R w := by kernel_rfl
theorem c_layout_positions_1 {n_1 : Int} {t1_2 : Option Addr} {t2_3 : Option Addr} {R : Ending → World → Prop} {w : World} (h : sh_layout_positions_1 n_1 t1_2 t2_3 R w) : Calls Tryz.prog F_layout_positions_1 ⟨[.int .i64 n_1, .pointer t1_2, .pointer t2_3]⟩ w R := calls_of_fnV Tryz.func43 (by rw [e_layout_positions_1]; exact h)

def an_layout_positions_2 : Ann := .two (.leaf) (.one (.loop 17592186043968 [(9, .one (.int .i64))] (.two (.leaf) (.two (.two (.leaf) (.leaf)) (.two (.one (.two (.leaf) (.two (.two (.leaf) (.one (.two (.leaf) (.two (.leaf) (.two (.leaf) (.two (.leaf) (.two (.leaf) (.two (.leaf) (.two (.leaf) (.two (.leaf) (.leaf))))))))))) (.leaf)))) (.leaf))))))
def sh_layout_positions_2 (l_1 : Option Addr) (l_1n : Nat) (l_1c : Nat) (t1_2 : Option Addr) (t2_3 : Option Addr) (t3_4 : Option Addr) (R : Ending → World → Prop) (w : World) : Prop :=
  ∃ (I5 : Int → World → Nat → Prop), (∃ m9 : Nat, I5 0 w m9) ∧ ∀ (t9_6 : Int) (w7 : World) (m8 : Nat), I5 t9_6 w7 m8 → ∀ _ : Env, (br (decide ((t9_6 : Int) < ((l_1n : Int)))) (idx l_1 l_1n t9_6 4 fun p10 =>
  ∃ (x11 : Int), World.cell? w7 (p10.add 0) = some (.int .i64 x11) ∧ (∃ (x12 : List UInt8), World.cell? w7 (p10.add 1) = some (.string ⟨⟨x12⟩⟩) ∧ (∃ (x13 : Int), World.cell? w7 (p10.add 2) = some (.int .i64 x13) ∧ (∃ (x14 : Option Addr) (x14n : Nat) (x14c : Nat), World.cell? w7 (p10.add 3) = some (.slice x14 x14n x14c) ∧ (al w7 48 [.int .i64 0, .string ⟨⟨[]⟩⟩, .int .i64 0, .slice none 0 0] fun p15 w16 =>
  stL w16 p15 0 [.int .i64 x11, .string ⟨⟨x12⟩⟩, .int .i64 x13, .slice x14 x14n x14c] fun w17 =>
  ∃ (x18 : Int), World.cell? w17 (p15.add 0) = some (.int .i64 x18) ∧ (br (decide ((x18 : Int) = 1)) (dr t1_2 fun p19 =>
  ∃ (x20 : Fn) (x20a : Array Value) (x20b : Array Value), World.cell? w17 p19 = some (.func x20 x20a x20b) ∧ (∃ (x21 : List UInt8), World.cell? w17 (p15.add 1) = some (.string ⟨⟨x21⟩⟩) ∧ (CallV Tryz.prog (.func x20 x20a x20b) [.int .i64 ((List.length x21 : Int))] w17 fun (e22 : Ending) (w23 : World) =>
  e22 = .returned (.tuple ⟨[]⟩) ∧ (dr t3_4 fun p24 =>
  ∃ (x25 : Fn) (x25a : Array Value) (x25b : Array Value), World.cell? w23 p24 = some (.func x25 x25a x25b) ∧ (∃ (x26 : Option Addr) (x26n : Nat) (x26c : Nat), World.cell? w23 (p15.add 3) = some (.slice x26 x26n x26c) ∧ (CallV Tryz.prog (.func x25 x25a x25b) [.slice x26 x26n x26c] w23 fun (e27 : Ending) (w28 : World) =>
  e27 = .returned (.tuple ⟨[]⟩) ∧ (∃ m29 : Nat, m29 < m8 ∧ I5 (IntKind.i64.wrap (t9_6 + 1)) w28 m29))))))) (br (decide ((x18 : Int) = 6)) (dr t1_2 fun p30 =>
  ∃ (x31 : Fn) (x31a : Array Value) (x31b : Array Value), World.cell? w17 p30 = some (.func x31 x31a x31b) ∧ (∃ (x32 : Int), World.cell? w17 (p15.add 2) = some (.int .i64 x32) ∧ (CallV Tryz.prog (.func x31 x31a x31b) [.int .i64 x32] w17 fun (e33 : Ending) (w34 : World) =>
  e33 = .returned (.tuple ⟨[]⟩) ∧ (dr t3_4 fun p35 =>
  ∃ (x36 : Fn) (x36a : Array Value) (x36b : Array Value), World.cell? w34 p35 = some (.func x36 x36a x36b) ∧ (∃ (x37 : Option Addr) (x37n : Nat) (x37c : Nat), World.cell? w34 (p15.add 3) = some (.slice x37 x37n x37c) ∧ (CallV Tryz.prog (.func x36 x36a x36b) [.slice x37 x37n x37c] w34 fun (e38 : Ending) (w39 : World) =>
  e38 = .returned (.tuple ⟨[]⟩) ∧ (∃ m40 : Nat, m40 < m8 ∧ I5 (IntKind.i64.wrap (t9_6 + 1)) w39 m40))))))) (br (decide ((x18 : Int) = 3)) (∃ (x41 : List UInt8), World.cell? w17 (p15.add 1) = some (.string ⟨⟨x41⟩⟩) ∧ (dr t2_3 fun p43 =>
  stL w17 p43 0 [.string ⟨⟨x41⟩⟩, .int .i64 0] fun w42 =>
  dr t3_4 fun p44 =>
  ∃ (x45 : Fn) (x45a : Array Value) (x45b : Array Value), World.cell? w42 p44 = some (.func x45 x45a x45b) ∧ (∃ (x46 : Option Addr) (x46n : Nat) (x46c : Nat), World.cell? w42 (p15.add 3) = some (.slice x46 x46n x46c) ∧ (CallV Tryz.prog (.func x45 x45a x45b) [.slice x46 x46n x46c] w42 fun (e47 : Ending) (w48 : World) =>
  e47 = .returned (.tuple ⟨[]⟩) ∧ (∃ m49 : Nat, m49 < m8 ∧ I5 (IntKind.i64.wrap (t9_6 + 1)) w48 m49))))) (br (decide ((x18 : Int) = 2)) (dr t2_3 fun p50 =>
  ∃ (x51 : Int), World.cell? w17 (p50.add 1) = some (.int .i64 x51) ∧ (dr t2_3 fun p52 =>
  stL w17 (p52.add 1) 0 [.int .i64 (IntKind.i64.wrap (x51 + 1))] fun w53 =>
  dr t3_4 fun p54 =>
  ∃ (x55 : Fn) (x55a : Array Value) (x55b : Array Value), World.cell? w53 p54 = some (.func x55 x55a x55b) ∧ (∃ (x56 : Option Addr) (x56n : Nat) (x56c : Nat), World.cell? w53 (p15.add 3) = some (.slice x56 x56n x56c) ∧ (CallV Tryz.prog (.func x55 x55a x55b) [.slice x56 x56n x56c] w53 fun (e57 : Ending) (w58 : World) =>
  e57 = .returned (.tuple ⟨[]⟩) ∧ (∃ m59 : Nat, m59 < m8 ∧ I5 (IntKind.i64.wrap (t9_6 + 1)) w58 m59))))) (dr t3_4 fun p60 =>
  ∃ (x61 : Fn) (x61a : Array Value) (x61b : Array Value), World.cell? w17 p60 = some (.func x61 x61a x61b) ∧ (∃ (x62 : Option Addr) (x62n : Nat) (x62c : Nat), World.cell? w17 (p15.add 3) = some (.slice x62 x62n x62c) ∧ (CallV Tryz.prog (.func x61 x61a x61b) [.slice x62 x62n x62c] w17 fun (e63 : Ending) (w64 : World) =>
  e63 = .returned (.tuple ⟨[]⟩) ∧ (∃ m65 : Nat, m65 < m8 ∧ I5 (IntKind.i64.wrap (t9_6 + 1)) w64 m65))))))))))))) (R (.returned (.tuple ⟨[]⟩)) w7))
set_option maxRecDepth 100000 in
theorem e_layout_positions_2 (l_1 : Option Addr) (l_1n : Nat) (l_1c : Nat) (t1_2 : Option Addr) (t2_3 : Option Addr) (t3_4 : Option Addr) (R : Ending → World → Prop) (w : World) : fnV Tryz.prog Tryz.f44 an_layout_positions_2 [.slice l_1 l_1n l_1c, .pointer t1_2, .pointer t2_3, .pointer t3_4] R w = sh_layout_positions_2 l_1 l_1n l_1c t1_2 t2_3 t3_4 R w := by kernel_rfl
theorem c_layout_positions_2 {l_1 : Option Addr} {l_1n : Nat} {l_1c : Nat} {t1_2 : Option Addr} {t2_3 : Option Addr} {t3_4 : Option Addr} {R : Ending → World → Prop} {w : World} (h : sh_layout_positions_2 l_1 l_1n l_1c t1_2 t2_3 t3_4 R w) : Calls Tryz.prog F_layout_positions_2 ⟨[.slice l_1 l_1n l_1c, .pointer t1_2, .pointer t2_3, .pointer t3_4]⟩ w R := calls_of_fnV Tryz.func44 (by rw [e_layout_positions_2]; exact h)

def an_layout_rows_1 : Ann := .two (.leaf) (.one (.loop 17179869176 [(3, .one (.int .i64))] (.two (.two (.leaf) (.two (.leaf) (.leaf))) (.one (.two (.leaf) (.cut 268433424 [(4, .one (.int .i64))] (.one (.loop 268433424 [(4, .one (.int .i64))] (.two (.two (.leaf) (.two (.leaf) (.leaf))) (.one (.leaf))))) (.two (.two (.leaf) (.two (.leaf) (.leaf))) (.leaf))))))))
def sh_layout_rows_1 (yield_1 : Fn) (yield_1a : Array Value) (yield_1b : Array Value) (t1_2 : Option Addr) (R : Ending → World → Prop) (w : World) : Prop :=
  ∃ (I3 : Int → World → Nat → Prop), (∃ m7 : Nat, I3 0 w m7) ∧ ∀ (from_4 : Int) (w5 : World) (m6 : Nat), I3 from_4 w5 m6 → ∀ _ : Env, (dr t1_2 fun p8 =>
  ∃ (x9 : Option Addr) (x9n : Nat) (x9c : Nat), World.cell? w5 p8 = some (.slice x9 x9n x9c) ∧ (br (decide ((from_4 : Int) < ((x9n : Int)))) (∀ (K10 : Int → World → Prop), (∀ (to_11 : Int) (w12 : World), (∀ _ : Env, (CallV Tryz.prog (.func yield_1 yield_1a yield_1b) [.int .i64 from_4, .int .i64 to_11] w12 fun (e13 : Ending) (w14 : World) =>
  ∃ (x15 : Bool), e13 = .returned (.bool x15) ∧ (br (!x15) (R (.returned (.tuple ⟨[]⟩)) w14) (∃ m16 : Nat, m16 < m6 ∧ I3 to_11 w14 m16)))) → K10 to_11 w12) → (∃ (I17 : Int → World → Nat → Prop), (∃ m21 : Nat, I17 (IntKind.i64.wrap (from_4 + 1)) w5 m21) ∧ ∀ (to_18 : Int) (w19 : World) (m20 : Nat), I17 to_18 w19 m20 → ∀ _ : Env, (drw w19 fun w22 =>
  dr t1_2 fun p23 =>
  ∃ (x24 : Option Addr) (x24n : Nat) (x24c : Nat), World.cell? w22 p23 = some (.slice x24 x24n x24c) ∧ (br (decide ((to_18 : Int) < ((x24n : Int)))) (dr t1_2 fun p25 =>
  ∃ (x26 : Option Addr) (x26n : Nat) (x26c : Nat), World.cell? w22 p25 = some (.slice x26 x26n x26c) ∧ (idx x26 x26n to_18 2 fun p27 =>
  ∃ (x28 : List UInt8), World.cell? w22 (p27.add 0) = some (.string ⟨⟨x28⟩⟩) ∧ (∃ (x29 : Int), World.cell? w22 (p27.add 1) = some (.int .i64 x29) ∧ (dr t1_2 fun p30 =>
  ∃ (x31 : Option Addr) (x31n : Nat) (x31c : Nat), World.cell? w22 p30 = some (.slice x31 x31n x31c) ∧ (idx x31 x31n from_4 2 fun p32 =>
  ∃ (x33 : List UInt8), World.cell? w22 (p32.add 0) = some (.string ⟨⟨x33⟩⟩) ∧ (∃ (x34 : Int), World.cell? w22 (p32.add 1) = some (.int .i64 x34) ∧ (br ((decide ((x28 : List UInt8) = x33) && (decide ((x29 : Int) = x34) && true))) (∃ m35 : Nat, m35 < m20 ∧ I17 (IntKind.i64.wrap (to_18 + 1)) w22 m35) (K10 to_18 w22)))))))) (K10 to_18 w22))))) (R (.returned (.tuple ⟨[]⟩)) w5)))
set_option maxRecDepth 100000 in
theorem e_layout_rows_1 (yield_1 : Fn) (yield_1a : Array Value) (yield_1b : Array Value) (t1_2 : Option Addr) (R : Ending → World → Prop) (w : World) : fnV Tryz.prog Tryz.f45 an_layout_rows_1 [.func yield_1 yield_1a yield_1b, .pointer t1_2] R w = sh_layout_rows_1 yield_1 yield_1a yield_1b t1_2 R w := by kernel_rfl
theorem c_layout_rows_1 {yield_1 : Fn} {yield_1a : Array Value} {yield_1b : Array Value} {t1_2 : Option Addr} {R : Ending → World → Prop} {w : World} (h : sh_layout_rows_1 yield_1 yield_1a yield_1b t1_2 R w) : Calls Tryz.prog F_layout_rows_1 ⟨[.func yield_1 yield_1a yield_1b, .pointer t1_2]⟩ w R := calls_of_fnV Tryz.func45 (by rw [e_layout_rows_1]; exact h)

def an_ref13_walk : Ann := .two (.leaf) (.two (.leaf) (.two (.two (.leaf) (.one (.loop 73786976294838198208 [(6, .one (.slice)), (7, .one (.int .i64))] (.two (.two (.leaf) (.two (.leaf) (.leaf))) (.two (.one (.two (.leaf) (.two (.leaf) (.cut 70368727400960 [(9, .one (.int .i64))] (.two (.leaf) (.one (.two (.leaf) (.two (.leaf) (.two (.leaf) (.two (.leaf) (.two (.leaf) (.two (.leaf) (.two (.leaf) (.two (.leaf) (.leaf))))))))))) (.two (.two (.leaf) (.one (.loop 35958428274787392 [(6, .one (.slice)), (10, .one (.int .i64))] (.two (.two (.leaf) (.two (.leaf) (.leaf))) (.two (.one (.leaf)) (.leaf)))))) (.two (.leaf) (.leaf))))))) (.leaf)))))) (.two (.leaf) (.leaf))))
def sh_ref13_walk (at_1 : List UInt8) (at_2 : Int) (l_3 : Option Addr) (l_3n : Nat) (l_3c : Nat) (R : Ending → World → Prop) (w : World) : Prop :=
  al w 24 [.string ⟨⟨at_1⟩⟩, .int .i64 at_2] fun p4 w5 =>
  al w5 24 [.string ⟨⟨[]⟩⟩, .int .i64 0] fun p6 w7 =>
  al w7 24 [] fun p8 w9 =>
  ∃ (I10 : Option Addr → Nat → Nat → Int → World → Nat → Prop), (∃ m15 : Nat, I10 (some p8) 0 0 0 w9 m15) ∧ ∀ (out_11 : Option Addr) (out_11n : Nat) (out_11c : Nat) (i_12 : Int) (w13 : World) (m14 : Nat), I10 out_11 out_11n out_11c i_12 w13 m14 → ∀ _ : Env, (br (decide ((i_12 : Int) < ((l_3n : Int)))) (idx l_3 l_3n i_12 4 fun p16 =>
  ∃ (x17 : Int), World.cell? w13 (p16.add 0) = some (.int .i64 x17) ∧ (∃ (x18 : List UInt8), World.cell? w13 (p16.add 1) = some (.string ⟨⟨x18⟩⟩) ∧ (∃ (x19 : Int), World.cell? w13 (p16.add 2) = some (.int .i64 x19) ∧ (∃ (x20 : Option Addr) (x20n : Nat) (x20c : Nat), World.cell? w13 (p16.add 3) = some (.slice x20 x20n x20c) ∧ (al w13 48 [.int .i64 0, .string ⟨⟨[]⟩⟩, .int .i64 0, .slice none 0 0] fun p21 w22 =>
  stL w22 p21 0 [.int .i64 x17, .string ⟨⟨x18⟩⟩, .int .i64 x19, .slice x20 x20n x20c] fun w23 =>
  ∀ (K24 : Int → World → Prop), (∀ (n_25 : Int) (w26 : World), (∀ _ : Env, (∃ (I27 : Option Addr → Nat → Nat → Int → World → Nat → Prop), (∃ m32 : Nat, I27 out_11 out_11n out_11c 0 w26 m32) ∧ ∀ (out_28 : Option Addr) (out_28n : Nat) (out_28c : Nat) (k_29 : Int) (w30 : World) (m31 : Nat), I27 out_28 out_28n out_28c k_29 w30 m31 → ∀ _ : Env, (br (decide ((k_29 : Int) < n_25)) (∃ (x33 : List UInt8), World.cell? w30 (p4.add 0) = some (.string ⟨⟨x33⟩⟩) ∧ (∃ (x34 : Int), World.cell? w30 (p4.add 1) = some (.int .i64 x34) ∧ (al w30 24 [.string ⟨⟨x33⟩⟩, .int .i64 x34] fun p35 w36 =>
  app Tryz.prog [49, 49] 49 (.slice out_28 out_28n out_28c) (.slice (some p35) 1 1) w36 fun a37 a37n a37c w38 =>
  ∃ m39 : Nat, m39 < m31 ∧ I27 a37 a37n a37c (IntKind.i64.wrap (k_29 + 1)) w38 m39))) (∃ (x40 : List UInt8), World.cell? w30 (p4.add 0) = some (.string ⟨⟨x40⟩⟩) ∧ (∃ (x41 : Int), World.cell? w30 (p4.add 1) = some (.int .i64 x41) ∧ (∃ (x42 : Option Addr) (x42n : Nat) (x42c : Nat), World.cell? w30 (p21.add 3) = some (.slice x42 x42n x42c) ∧ (Calls Tryz.prog 46 ⟨[.agg ⟨[.string ⟨⟨x40⟩⟩, .int .i64 x41]⟩, .slice x42 x42n x42c]⟩ w30 fun (e43 : Ending) (w44 : World) =>
  ∃ (x45 : Option Addr) (x45n : Nat) (x45c : Nat) (x46 : List UInt8) (x47 : Int), e43 = .returned (.tuple ⟨[.slice x45 x45n x45c, .agg ⟨[.string ⟨⟨x46⟩⟩, .int .i64 x47]⟩]⟩) ∧ (al w44 24 [.string ⟨⟨[]⟩⟩, .int .i64 0] fun p48 w49 =>
  stL w49 p48 0 [.string ⟨⟨x46⟩⟩, .int .i64 x47] fun w50 =>
  drw w50 fun w51 =>
  (app Tryz.prog [49, 49] 49 (.slice out_28 out_28n out_28c) (.slice x45 x45n x45c) w51 fun a52 a52n a52c w53 =>
  ∃ (x54 : List UInt8), World.cell? w53 (p48.add 0) = some (.string ⟨⟨x54⟩⟩) ∧ (∃ (x55 : Int), World.cell? w53 (p48.add 1) = some (.int .i64 x55) ∧ ((stL w53 p4 0 [.string ⟨⟨x54⟩⟩, .int .i64 x55] fun w56 =>
  ∃ m57 : Nat, m57 < m14 ∧ I10 a52 a52n a52c (IntKind.i64.wrap (i_12 + 1)) w56 m57) ∧ True))) ∧ (∃ (x58 : List UInt8), World.cell? w51 (p48.add 0) = some (.string ⟨⟨x58⟩⟩) ∧ (∃ (x59 : Int), World.cell? w51 (p48.add 1) = some (.int .i64 x59) ∧ ((app Tryz.prog [49, 49] 49 (.slice out_28 out_28n out_28c) (.slice x45 x45n x45c) w51 fun a60 a60n a60c w61 =>
  (stL w61 p4 0 [.string ⟨⟨x58⟩⟩, .int .i64 x59] fun w62 =>
  ∃ m63 : Nat, m63 < m14 ∧ I10 a60 a60n a60c (IntKind.i64.wrap (i_12 + 1)) w62 m63) ∧ True) ∧ True))) ∧ True)))))))) → K24 n_25 w26) → (∃ (x64 : Int), World.cell? w23 (p21.add 0) = some (.int .i64 x64) ∧ (br (decide ((x64 : Int) = 3)) (∃ (x65 : List UInt8), World.cell? w23 (p21.add 1) = some (.string ⟨⟨x65⟩⟩) ∧ (stL w23 p4 0 [.string ⟨⟨x65⟩⟩, .int .i64 0] fun w66 =>
  K24 0 w66)) (br (decide ((x64 : Int) = 2)) (∃ (x67 : Int), World.cell? w23 (p4.add 1) = some (.int .i64 x67) ∧ (stL w23 (p4.add 1) 0 [.int .i64 (IntKind.i64.wrap (x67 + 1))] fun w68 =>
  K24 0 w68)) (br (decide ((x64 : Int) = 1)) (∃ (x69 : List UInt8), World.cell? w23 (p21.add 1) = some (.string ⟨⟨x69⟩⟩) ∧ (K24 ((List.length x69 : Int)) w23)) (br (decide ((x64 : Int) = 6)) (∃ (x70 : Int), World.cell? w23 (p21.add 2) = some (.int .i64 x70) ∧ (K24 x70 w23)) (K24 0 w23))))))))))) (drw w13 fun w71 =>
  ∃ (x72 : List UInt8), World.cell? w71 (p4.add 0) = some (.string ⟨⟨x72⟩⟩) ∧ (∃ (x73 : Int), World.cell? w71 (p4.add 1) = some (.int .i64 x73) ∧ ((stL w71 p6 0 [.string ⟨⟨x72⟩⟩, .int .i64 x73] fun w74 =>
  ∃ (x75 : List UInt8), World.cell? w74 (p6.add 0) = some (.string ⟨⟨x75⟩⟩) ∧ (∃ (x76 : Int), World.cell? w74 (p6.add 1) = some (.int .i64 x76) ∧ (R (.returned (.tuple ⟨[.slice out_11 out_11n out_11c, .agg ⟨[.string ⟨⟨x75⟩⟩, .int .i64 x76]⟩]⟩)) w74))) ∧ True))))
set_option maxRecDepth 100000 in
theorem e_ref13_walk (at_1 : List UInt8) (at_2 : Int) (l_3 : Option Addr) (l_3n : Nat) (l_3c : Nat) (R : Ending → World → Prop) (w : World) : fnV Tryz.prog Tryz.f46 an_ref13_walk [.agg ⟨[.string ⟨⟨at_1⟩⟩, .int .i64 at_2]⟩, .slice l_3 l_3n l_3c] R w = sh_ref13_walk at_1 at_2 l_3 l_3n l_3c R w := by kernel_rfl
theorem c_ref13_walk {at_1 : List UInt8} {at_2 : Int} {l_3 : Option Addr} {l_3n : Nat} {l_3c : Nat} {R : Ending → World → Prop} {w : World} (h : sh_ref13_walk at_1 at_2 l_3 l_3n l_3c R w) : Calls Tryz.prog F_ref13_walk ⟨[.agg ⟨[.string ⟨⟨at_1⟩⟩, .int .i64 at_2]⟩, .slice l_3 l_3n l_3c]⟩ w R := calls_of_fnV Tryz.func46 (by rw [e_ref13_walk]; exact h)

def an_ref01_Kind : Ann := .two (.leaf) (.two (.one (.cut 262136 [(3, .one (.bool))] (.leaf) (.two (.two (.leaf) (.leaf)) (.cut 536608768 [(18, .one (.bool))] (.leaf) (.two (.two (.leaf) (.leaf)) (.cut 68182605824 [(29, .one (.bool))] (.leaf) (.two (.two (.leaf) (.leaf)) (.two (.leaf) (.two (.two (.leaf) (.leaf)) (.cut 18889465930928825040896 [(39, .one (.bool))] (.leaf) (.two (.two (.leaf) (.leaf)) (.two (.leaf) (.two (.two (.leaf) (.leaf)) (.leaf)))))))))))))) (.two (.leaf) (.leaf)))
def sh_ref01_Kind (c_1 : Int) (R : Ending → World → Prop) (w : World) : Prop :=
  ∀ (K2 : Bool → World → Prop), (∀ (t3_3 : Bool) (w4 : World), (∀ _ : Env, (br t3_3 (R (.returned (.int .i64 1)) w4) (∀ (K5 : Bool → World → Prop), (∀ (t18_6 : Bool) (w7 : World), (∀ _ : Env, (br t18_6 (R (.returned (.int .i64 2)) w7) (∀ (K8 : Bool → World → Prop), (∀ (t29_9 : Bool) (w10 : World), (∀ _ : Env, (br t29_9 (R (.returned (.int .i64 3)) w10) (br (decide ((c_1 : Int) = 39)) (R (.returned (.int .i64 4)) w10) (∀ (K11 : Bool → World → Prop), (∀ (t39_12 : Bool) (w13 : World), (∀ _ : Env, (br t39_12 (R (.returned (.int .i64 5)) w13) (br (decide ((c_1 : Int) = 32)) (R (.returned (.int .i64 6)) w13) (R (.returned (.int .i64 0)) w13)))) → K11 t39_12 w13) → (br (decide ((c_1 : Int) = 46)) (K11 true w10) (br (decide ((c_1 : Int) = 44)) (K11 true w10) (br (decide ((c_1 : Int) = 59)) (K11 true w10) (br (decide ((c_1 : Int) = 58)) (K11 true w10) (br (decide ((c_1 : Int) = 33)) (K11 true w10) (br (decide ((c_1 : Int) = 63)) (K11 true w10) (br (decide ((c_1 : Int) = 40)) (K11 true w10) (br (decide ((c_1 : Int) = 41)) (K11 true w10) (K11 (decide ((c_1 : Int) = 45)) w10))))))))))))) → K8 t29_9 w10) → (br (decide ((48 : Int) ≤ c_1)) (K8 (decide ((c_1 : Int) ≤ 57)) w7) (K8 false w7))))) → K5 t18_6 w7) → (br (decide ((c_1 : Int) = 94)) (K5 true w4) (br (decide ((c_1 : Int) = 126)) (K5 true w4) (K5 (decide ((c_1 : Int) = 37)) w4)))))) → K2 t3_3 w4) → (br (decide ((97 : Int) ≤ c_1)) (br (decide ((c_1 : Int) ≤ 122)) (K2 true w) (br (decide ((65 : Int) ≤ c_1)) (K2 (decide ((c_1 : Int) ≤ 90)) w) (K2 false w))) (br (decide ((65 : Int) ≤ c_1)) (K2 (decide ((c_1 : Int) ≤ 90)) w) (K2 false w)))
set_option maxRecDepth 100000 in
theorem e_ref01_Kind (c_1 : Int) (R : Ending → World → Prop) (w : World) : fnV Tryz.prog Tryz.f49 an_ref01_Kind [.int .u8 c_1] R w = sh_ref01_Kind c_1 R w := by kernel_rfl
theorem c_ref01_Kind {c_1 : Int} {R : Ending → World → Prop} {w : World} (h : sh_ref01_Kind c_1 R w) : Calls Tryz.prog F_ref01_Kind ⟨[.int .u8 c_1]⟩ w R := calls_of_fnV Tryz.func49 (by rw [e_ref01_Kind]; exact h)

def an_charset_Letters : Ann := .two (.leaf) (.two (.leaf) (.two (.two (.leaf) (.one (.loop 16777016 [(3, .one (.int .i64)), (8, .one (.int .i64))] (.two (.leaf) (.two (.two (.leaf) (.leaf)) (.two (.one (.two (.leaf) (.two (.leaf) (.two (.leaf) (.two (.leaf) (.leaf)))))) (.leaf))))))) (.two (.leaf) (.leaf))))
def sh_charset_Letters (s_1 : List UInt8) (R : Ending → World → Prop) (w : World) : Prop :=
  ∃ (I2 : Int → Int → World → Nat → Prop), (∃ m7 : Nat, I2 0 0 w m7) ∧ ∀ (n_3 : Int) (t8_4 : Int) (w5 : World) (m6 : Nat), I2 n_3 t8_4 w5 m6 → ∀ _ : Env, (br (decide ((t8_4 : Int) < ((List.length s_1 : Int)))) (sidx s_1 t8_4 fun b8 =>
  Calls Tryz.prog 35 ⟨[.int .u8 ((b8.toNat : Int))]⟩ w5 fun (e9 : Ending) (w10 : World) =>
  ∃ (x11 : Int), e9 = .returned (.int .i64 x11) ∧ (br (decide ((x11 : Int) = 1)) (∃ m12 : Nat, m12 < m6 ∧ I2 (IntKind.i64.wrap (n_3 + 1)) (IntKind.i64.wrap (t8_4 + 1)) w10 m12) (br (decide ((x11 : Int) = 3)) (∃ m13 : Nat, m13 < m6 ∧ I2 (IntKind.i64.wrap (n_3 + 1)) (IntKind.i64.wrap (t8_4 + 1)) w10 m13) (∃ m14 : Nat, m14 < m6 ∧ I2 n_3 (IntKind.i64.wrap (t8_4 + 1)) w10 m14)))) (R (.returned (.int .i64 n_3)) w5))
set_option maxRecDepth 100000 in
theorem e_charset_Letters (s_1 : List UInt8) (R : Ending → World → Prop) (w : World) : fnV Tryz.prog Tryz.f50 an_charset_Letters [.string ⟨⟨s_1⟩⟩] R w = sh_charset_Letters s_1 R w := by kernel_rfl
theorem c_charset_Letters {s_1 : List UInt8} {R : Ending → World → Prop} {w : World} (h : sh_charset_Letters s_1 R w) : Calls Tryz.prog F_charset_Letters ⟨[.string ⟨⟨s_1⟩⟩]⟩ w R := calls_of_fnV Tryz.func50 (by rw [e_charset_Letters]; exact h)

def an_transcript_Check : Ann := .two (.leaf) (.two (.leaf) (.two (.leaf) (.two (.two (.leaf) (.one (.rf [0, 2, 4, 10] 0))) (.two (.two (.leaf) (.one (.rf [0, 2, 28] 0))) (.two (.two (.leaf) (.two (.two (.leaf) (.leaf)) (.leaf))) (.two (.leaf) (.leaf)))))))
def sh_transcript_Check (l_1 : Option Addr) (l_1n : Nat) (l_1c : Nat) (R : Ending → World → Prop) (w : World) : Prop :=
  al w 28 [.int .i64 0] fun p2 w3 =>
  al w3 3 [.int .i64 0] fun p4 w5 =>
  stL w5 p4 0 [.int .i64 4096] fun w6 =>
  al w6 26 [.nilFunc] fun p7 w8 =>
  stL w8 p7 0 [.func (.func 60) ⟨[]⟩ ⟨[.pointer (some p4)]⟩] fun w9 =>
  Calls Tryz.prog 61 ⟨[.slice l_1 l_1n l_1c]⟩ w9 fun (e10 : Ending) (w11 : World) =>
  ∃ (x12 : Fn) (x12a : Array Value) (x12b : Array Value), e10 = .returned (.func x12 x12a x12b) ∧ (∀ base13 : Env, RFw Tryz.prog none 39 (cdAt Tryz.f51 [1, 1, 1, 0, 1, 2]) (upd (upd (upd (upd base13 10 (.func x12 x12a x12b)) 4 (.pointer (some p7))) 2 (.pointer (some p2))) 0 (.slice l_1 l_1n l_1c)) [] w11 0 (fun ds14 w15 =>
  Calls Tryz.prog 61 ⟨[.slice l_1 l_1n l_1c]⟩ w15 fun (e33 : Ending) (w34 : World) =>
  ∃ (x35 : Fn) (x35a : Array Value) (x35b : Array Value), e33 = .returned (.func x35 x35a x35b) ∧ (∀ base36 : Env, RFw Tryz.prog none 39 (cdAt Tryz.f51 [1, 1, 1, 1, 0, 1, 2]) (upd (upd (upd base36 28 (.func x35 x35a x35b)) 2 (.pointer (some p2))) 0 (.slice l_1 l_1n l_1c)) ds14 w34 0 (fun ds37 w38 =>
  Calls Tryz.prog 63 ⟨[.slice l_1 l_1n l_1c]⟩ w38 fun (e39 : Ending) (w40 : World) =>
  ∃ (x41 : List UInt8), e39 = .returned (.string ⟨⟨x41⟩⟩) ∧ (br (decide ((65536 : Int) < ((List.length x41 : Int)))) (stL w40 p2 0 [.int .i64 4] fun w42 =>
  retD ds37 w42 fun w43 =>
  ∃ (x44 : Int), World.cell? w43 p2 = some (.int .i64 x44) ∧ (R (.returned (.int .i64 x44)) w43)) (stL w40 p2 0 [.int .i64 0] fun w45 =>
  retD ds37 w45 fun w46 =>
  ∃ (x47 : Int), World.cell? w46 p2 = some (.int .i64 x47) ∧ (R (.returned (.int .i64 x47)) w46)))) (fun ds37 w38 =>
  retD ds37 w38 fun w48 =>
  ∃ (x49 : Int), World.cell? w48 p2 = some (.int .i64 x49) ∧ (R (.returned (.int .i64 x49)) w48)) (fun ds37 w38 =>
  False))) (fun ds14 w15 =>
  retD ds14 w15 fun w50 =>
  ∃ (x51 : Int), World.cell? w50 p2 = some (.int .i64 x51) ∧ (R (.returned (.int .i64 x51)) w50)) (fun ds14 w15 =>
  Calls Tryz.prog 61 ⟨[.slice l_1 l_1n l_1c]⟩ w15 fun (e16 : Ending) (w17 : World) =>
  ∃ (x18 : Fn) (x18a : Array Value) (x18b : Array Value), e16 = .returned (.func x18 x18a x18b) ∧ (∀ base19 : Env, RFw Tryz.prog none 39 (cdAt Tryz.f51 [1, 1, 1, 1, 0, 1, 2]) (upd (upd (upd base19 28 (.func x18 x18a x18b)) 2 (.pointer (some p2))) 0 (.slice l_1 l_1n l_1c)) ds14 w17 0 (fun ds20 w21 =>
  Calls Tryz.prog 63 ⟨[.slice l_1 l_1n l_1c]⟩ w21 fun (e22 : Ending) (w23 : World) =>
  ∃ (x24 : List UInt8), e22 = .returned (.string ⟨⟨x24⟩⟩) ∧ (br (decide ((65536 : Int) < ((List.length x24 : Int)))) (stL w23 p2 0 [.int .i64 4] fun w25 =>
  retD ds20 w25 fun w26 =>
  ∃ (x27 : Int), World.cell? w26 p2 = some (.int .i64 x27) ∧ (R (.returned (.int .i64 x27)) w26)) (stL w23 p2 0 [.int .i64 0] fun w28 =>
  retD ds20 w28 fun w29 =>
  ∃ (x30 : Int), World.cell? w29 p2 = some (.int .i64 x30) ∧ (R (.returned (.int .i64 x30)) w29)))) (fun ds20 w21 =>
  retD ds20 w21 fun w31 =>
  ∃ (x32 : Int), World.cell? w31 p2 = some (.int .i64 x32) ∧ (R (.returned (.int .i64 x32)) w31)) (fun ds20 w21 =>
  False))))
set_option maxRecDepth 100000 in
theorem e_transcript_Check (l_1 : Option Addr) (l_1n : Nat) (l_1c : Nat) (R : Ending → World → Prop) (w : World) : fnV Tryz.prog Tryz.f51 an_transcript_Check [.slice l_1 l_1n l_1c] R w = sh_transcript_Check l_1 l_1n l_1c R w := by kernel_rfl
theorem c_transcript_Check {l_1 : Option Addr} {l_1n : Nat} {l_1c : Nat} {R : Ending → World → Prop} {w : World} (h : sh_transcript_Check l_1 l_1n l_1c R w) : Calls Tryz.prog F_transcript_Check ⟨[.slice l_1 l_1n l_1c]⟩ w R := calls_of_fnV Tryz.func51 (by rw [e_transcript_Check]; exact h)
def anA_transcript_Check_1 : Ann := .leaf
def anB_transcript_Check_1 : Ann := .one (.two (.leaf) (.two (.two (.leaf) (.leaf)) (.leaf)))
def rf_transcript_Check_1 (l_52 : Option Addr) (l_52n : Nat) (l_52c : Nat) (t2_53 : Option Addr) (spend_54 : Option Addr) (t10_55 : Fn) (t10_55a : Array Value) (t10_55b : Array Value) (t11_56 : Int) (t11_57 : List UInt8) (t11_58 : Int) (t11_59 : Option Addr) (t11_59n : Nat) (t11_59c : Nat) (t11_60 : Int) (t11_61 : Bool) (l : Nat) (Kn Kr Kx : World → World → Prop) (w : World) : Prop :=
  al w 98 [.int .i64 0, .string ⟨⟨[]⟩⟩, .int .i64 0, .slice none 0 0, .int .i64 0, .bool false] fun p63 w64 =>
  stL w64 p63 0 [.int .i64 t11_56, .string ⟨⟨t11_57⟩⟩, .int .i64 t11_58, .slice t11_59 t11_59n t11_59c, .int .i64 t11_60, .bool t11_61] fun w65 =>
  Ext w w65 ∧ ∀ w62 : World, Upd l w65 w62 → (dr spend_54 fun p66 =>
  ∃ (x67 : Fn) (x67a : Array Value) (x67b : Array Value), World.cell? w62 p66 = some (.func x67 x67a x67b) ∧ (CallV Tryz.prog (.func x67 x67a x67b) [] w62 fun (e68 : Ending) (w69 : World) =>
  ∃ (x70 : Bool), e68 = .returned (.bool x70) ∧ (br (!x70) (dr t2_53 fun p72 =>
  stL w69 p72 0 [.int .i64 4] fun w71 =>
  Kr w62 w71) (∃ (x73 : Int), World.cell? w69 (p63.add 4) = some (.int .i64 x73) ∧ (br (decide ((16 : Int) ≤ x73)) (∃ (x74 : Option Addr) (x74n : Nat) (x74c : Nat), World.cell? w69 ((p63.add 0).add 3) = some (.slice x74 x74n x74c) ∧ (br (decide ((0 : Int) < ((x74n : Int)))) (dr t2_53 fun p76 =>
  stL w69 p76 0 [.int .i64 4] fun w75 =>
  Kr w62 w75) (Kn w62 w69))) (Kn w62 w69))))))
set_option maxRecDepth 100000 in
theorem er_transcript_Check_1 (base : Env) (l_52 : Option Addr) (l_52n : Nat) (l_52c : Nat) (t2_53 : Option Addr) (spend_54 : Option Addr) (t10_55 : Fn) (t10_55a : Array Value) (t10_55b : Array Value) (t11_56 : Int) (t11_57 : List UInt8) (t11_58 : Int) (t11_59 : Option Addr) (t11_59n : Nat) (t11_59c : Nat) (t11_60 : Int) (t11_61 : Bool) (l : Nat) (Kn Kr Kx : World → World → Prop) (w : World) : fragV Tryz.prog 39 anA_transcript_Check_1 anB_transcript_Check_1 (cdAt Tryz.f51 [1, 1, 1, 0, 1, 2, 5]) (cdAt Tryz.f51 [1, 1, 1, 0, 1, 2, 6]) l 0 Kn Kr Kx (updPs [11] [.agg ⟨[.int .i64 t11_56, .string ⟨⟨t11_57⟩⟩, .int .i64 t11_58, .slice t11_59 t11_59n t11_59c, .int .i64 t11_60, .bool t11_61]⟩] (upd (upd (upd (upd base 10 (.func t10_55 t10_55a t10_55b)) 4 (.pointer spend_54)) 2 (.pointer t2_53)) 0 (.slice l_52 l_52n l_52c))) w = rf_transcript_Check_1 l_52 l_52n l_52c t2_53 spend_54 t10_55 t10_55a t10_55b t11_56 t11_57 t11_58 t11_59 t11_59n t11_59c t11_60 t11_61 l Kn Kr Kx w := by kernel_rfl
theorem cd_transcript_Check_1 : cdAt Tryz.f51 [1, 1, 1, 0, 1, 2] = .rangeFunc (Operand.tmp 10) #[11] (cdAt Tryz.f51 [1, 1, 1, 0, 1, 2, 5]) (cdAt Tryz.f51 [1, 1, 1, 0, 1, 2, 6]) := by kernel_rfl
def anA_transcript_Check_2 : Ann := .leaf
def anB_transcript_Check_2 : Ann := .one (.two (.leaf) (.two (.leaf) (.two (.two (.leaf) (.leaf)) (.leaf))))
def rf_transcript_Check_2 (l_77 : Option Addr) (l_77n : Nat) (l_77c : Nat) (t2_78 : Option Addr) (t28_79 : Fn) (t28_79a : Array Value) (t28_79b : Array Value) (t29_80 : Int) (t29_81 : List UInt8) (t29_82 : Int) (t29_83 : Option Addr) (t29_83n : Nat) (t29_83c : Nat) (t29_84 : Int) (t29_85 : Bool) (l : Nat) (Kn Kr Kx : World → World → Prop) (w : World) : Prop :=
  al w 98 [.int .i64 0, .string ⟨⟨[]⟩⟩, .int .i64 0, .slice none 0 0, .int .i64 0, .bool false] fun p87 w88 =>
  stL w88 p87 0 [.int .i64 t29_80, .string ⟨⟨t29_81⟩⟩, .int .i64 t29_82, .slice t29_83 t29_83n t29_83c, .int .i64 t29_84, .bool t29_85] fun w89 =>
  Ext w w89 ∧ ∀ w86 : World, Upd l w89 w86 → (∃ (x90 : Int), World.cell? w86 (p87.add 0) = some (.int .i64 x90) ∧ (∃ (x91 : List UInt8), World.cell? w86 (p87.add 1) = some (.string ⟨⟨x91⟩⟩) ∧ (∃ (x92 : Int), World.cell? w86 (p87.add 2) = some (.int .i64 x92) ∧ (∃ (x93 : Option Addr) (x93n : Nat) (x93c : Nat), World.cell? w86 (p87.add 3) = some (.slice x93 x93n x93c) ∧ (∃ (x94 : Int), World.cell? w86 (p87.add 4) = some (.int .i64 x94) ∧ (∃ (x95 : Bool), World.cell? w86 (p87.add 5) = some (.bool x95) ∧ (Calls Tryz.prog 62 ⟨[.agg ⟨[.int .i64 x90, .string ⟨⟨x91⟩⟩, .int .i64 x92, .slice x93 x93n x93c, .int .i64 x94, .bool x95]⟩]⟩ w86 fun (e96 : Ending) (w97 : World) =>
  ∃ (x98 : Int), e96 = .returned (.int .i64 x98) ∧ (br (decide ((x98 : Int) ≠ 0)) (dr t2_78 fun p100 =>
  stL w97 p100 0 [.int .i64 x98] fun w99 =>
  Kr w86 w99) (Kn w86 w97)))))))))
set_option maxRecDepth 100000 in
theorem er_transcript_Check_2 (base : Env) (l_77 : Option Addr) (l_77n : Nat) (l_77c : Nat) (t2_78 : Option Addr) (t28_79 : Fn) (t28_79a : Array Value) (t28_79b : Array Value) (t29_80 : Int) (t29_81 : List UInt8) (t29_82 : Int) (t29_83 : Option Addr) (t29_83n : Nat) (t29_83c : Nat) (t29_84 : Int) (t29_85 : Bool) (l : Nat) (Kn Kr Kx : World → World → Prop) (w : World) : fragV Tryz.prog 39 anA_transcript_Check_2 anB_transcript_Check_2 (cdAt Tryz.f51 [1, 1, 1, 1, 0, 1, 2, 5]) (cdAt Tryz.f51 [1, 1, 1, 1, 0, 1, 2, 6]) l 0 Kn Kr Kx (updPs [29] [.agg ⟨[.int .i64 t29_80, .string ⟨⟨t29_81⟩⟩, .int .i64 t29_82, .slice t29_83 t29_83n t29_83c, .int .i64 t29_84, .bool t29_85]⟩] (upd (upd (upd base 28 (.func t28_79 t28_79a t28_79b)) 2 (.pointer t2_78)) 0 (.slice l_77 l_77n l_77c))) w = rf_transcript_Check_2 l_77 l_77n l_77c t2_78 t28_79 t28_79a t28_79b t29_80 t29_81 t29_82 t29_83 t29_83n t29_83c t29_84 t29_85 l Kn Kr Kx w := by kernel_rfl
theorem cd_transcript_Check_2 : cdAt Tryz.f51 [1, 1, 1, 1, 0, 1, 2] = .rangeFunc (Operand.tmp 28) #[29] (cdAt Tryz.f51 [1, 1, 1, 1, 0, 1, 2, 5]) (cdAt Tryz.f51 [1, 1, 1, 1, 0, 1, 2, 6]) := by kernel_rfl

def an_legibility_all : Ann := .two (.leaf) (.two (.leaf) (.leaf))
def sh_legibility_all (l_1 : Option Addr) (l_1n : Nat) (l_1c : Nat) (R : Ending → World → Prop) (w : World) : Prop :=
  al w 22 [.slice l_1 l_1n l_1c] fun p2 w3 =>
  R (.returned (.func (.func 64) ⟨[]⟩ ⟨[.pointer (some p2)]⟩)) w3
set_option maxRecDepth 100000 in
theorem e_legibility_all (l_1 : Option Addr) (l_1n : Nat) (l_1c : Nat) (R : Ending → World → Prop) (w : World) : fnV Tryz.prog Tryz.f52 an_legibility_all [.slice l_1 l_1n l_1c] R w = sh_legibility_all l_1 l_1n l_1c R w := by kernel_rfl
theorem c_legibility_all {l_1 : Option Addr} {l_1n : Nat} {l_1c : Nat} {R : Ending → World → Prop} {w : World} (h : sh_legibility_all l_1 l_1n l_1c R w) : Calls Tryz.prog F_legibility_all ⟨[.slice l_1 l_1n l_1c]⟩ w R := calls_of_fnV Tryz.func52 (by rw [e_legibility_all]; exact h)

def an_strings_Builder_WriteString : Ann := .two (.leaf) (.two (.leaf) (.two (.leaf) (.two (.leaf) (.leaf))))
def sh_strings_Builder_WriteString (b_1 : Option Addr) (s_2 : List UInt8) (R : Ending → World → Prop) (w : World) : Prop :=
  Calls Tryz.prog 66 ⟨[.pointer b_1]⟩ w fun (e3 : Ending) (w4 : World) =>
  e3 = .returned (.tuple ⟨[]⟩) ∧ (dr b_1 fun p5 =>
  ∃ (x6 : Option Addr) (x6n : Nat) (x6c : Nat), World.cell? w4 (p5.add 1) = some (.slice x6 x6n x6c) ∧ (app Tryz.prog [84, 9] 84 (.slice x6 x6n x6c) (.string ⟨⟨s_2⟩⟩) w4 fun a7 a7n a7c w8 =>
  dr b_1 fun p9 =>
  stL w8 (p9.add 1) 0 [.slice a7 a7n a7c] fun w10 =>
  R (.returned (.tuple ⟨[.int .i64 ((List.length s_2 : Int)), .nilIface]⟩)) w10))
set_option maxRecDepth 100000 in
theorem e_strings_Builder_WriteString (b_1 : Option Addr) (s_2 : List UInt8) (R : Ending → World → Prop) (w : World) : fnV Tryz.prog Tryz.f53 an_strings_Builder_WriteString [.pointer b_1, .string ⟨⟨s_2⟩⟩] R w = sh_strings_Builder_WriteString b_1 s_2 R w := by kernel_rfl
theorem c_strings_Builder_WriteString {b_1 : Option Addr} {s_2 : List UInt8} {R : Ending → World → Prop} {w : World} (h : sh_strings_Builder_WriteString b_1 s_2 R w) : Calls Tryz.prog F_strings_Builder_WriteString ⟨[.pointer b_1, .string ⟨⟨s_2⟩⟩]⟩ w R := calls_of_fnV Tryz.func53 (by rw [e_strings_Builder_WriteString]; exact h)

def an_ref10_Check : Ann := .two (.leaf) (.two (.two (.leaf) (.two (.leaf) (.two (.two (.leaf) (.leaf)) (.leaf)))) (.two (.two (.leaf) (.two (.leaf) (.two (.two (.leaf) (.leaf)) (.leaf)))) (.two (.two (.leaf) (.two (.two (.leaf) (.leaf)) (.leaf))) (.two (.leaf) (.leaf)))))
def sh_ref10_Check (l_1 : Option Addr) (l_1n : Nat) (l_1c : Nat) (R : Ending → World → Prop) (w : World) : Prop :=
  Calls Tryz.prog 20 ⟨[.slice l_1 l_1n l_1c, .int .i64 16, .int .i64 4096]⟩ w fun (e2 : Ending) (w3 : World) =>
  ∃ (x4 : Int) (x5 : Int) (x6 : Bool), e2 = .returned (.tuple ⟨[.int .i64 x4, .int .i64 x5, .bool x6]⟩) ∧ (br (!x6) (R (.returned (.int .i64 4)) w3) (Calls Tryz.prog 71 ⟨[.slice l_1 l_1n l_1c, .bool false]⟩ w3 fun (e7 : Ending) (w8 : World) =>
  ∃ (x9 : Int), e7 = .returned (.int .i64 x9) ∧ (br (decide ((x9 : Int) ≠ 0)) (R (.returned (.int .i64 x9)) w8) (Calls Tryz.prog 72 ⟨[.slice l_1 l_1n l_1c]⟩ w8 fun (e10 : Ending) (w11 : World) =>
  ∃ (x12 : List UInt8), e10 = .returned (.string ⟨⟨x12⟩⟩) ∧ (br (decide ((65536 : Int) < ((List.length x12 : Int)))) (R (.returned (.int .i64 4)) w11) (R (.returned (.int .i64 0)) w11))))))
set_option maxRecDepth 100000 in
theorem e_ref10_Check (l_1 : Option Addr) (l_1n : Nat) (l_1c : Nat) (R : Ending → World → Prop) (w : World) : fnV Tryz.prog Tryz.f56 an_ref10_Check [.slice l_1 l_1n l_1c] R w = sh_ref10_Check l_1 l_1n l_1c R w := by kernel_rfl
theorem c_ref10_Check {l_1 : Option Addr} {l_1n : Nat} {l_1c : Nat} {R : Ending → World → Prop} {w : World} (h : sh_ref10_Check l_1 l_1n l_1c R w) : Calls Tryz.prog F_ref10_Check ⟨[.slice l_1 l_1n l_1c]⟩ w R := calls_of_fnV Tryz.func56 (by rw [e_ref10_Check]; exact h)

def an_ref12_clean : Ann := .two (.leaf) (.two (.two (.leaf) (.one (.loop 8589934588 [(3, .one (.int .i64))] (.two (.two (.leaf) (.two (.leaf) (.leaf))) (.two (.one (.two (.leaf) (.two (.two (.leaf) (.leaf)) (.leaf)))) (.leaf)))))) (.two (.leaf) (.leaf)))
def sh_ref12_clean (l_1 : Option Addr) (l_1n : Nat) (l_1c : Nat) (R : Ending → World → Prop) (w : World) : Prop :=
  ∃ (I2 : Int → World → Nat → Prop), (∃ m6 : Nat, I2 0 w m6) ∧ ∀ (i_3 : Int) (w4 : World) (m5 : Nat), I2 i_3 w4 m5 → ∀ _ : Env, (br (decide ((i_3 : Int) < ((l_1n : Int)))) (idx l_1 l_1n i_3 4 fun p7 =>
  ∃ (x8 : Int), World.cell? w4 (p7.add 0) = some (.int .i64 x8) ∧ (br (decide ((x8 : Int) = 8)) (R (.returned (.bool false)) w4) (idx l_1 l_1n i_3 4 fun p9 =>
  ∃ (x10 : Int), World.cell? w4 (p9.add 0) = some (.int .i64 x10) ∧ (br (decide ((x10 : Int) = 9)) (R (.returned (.bool false)) w4) (idx l_1 l_1n i_3 4 fun p11 =>
  ∃ (x12 : Option Addr) (x12n : Nat) (x12c : Nat), World.cell? w4 (p11.add 3) = some (.slice x12 x12n x12c) ∧ (Calls Tryz.prog 57 ⟨[.slice x12 x12n x12c]⟩ w4 fun (e13 : Ending) (w14 : World) =>
  ∃ (x15 : Bool), e13 = .returned (.bool x15) ∧ (br (!x15) (R (.returned (.bool false)) w14) (∃ m16 : Nat, m16 < m5 ∧ I2 (IntKind.i64.wrap (i_3 + 1)) w14 m16)))))))) (R (.returned (.bool true)) w4))
set_option maxRecDepth 100000 in
theorem e_ref12_clean (l_1 : Option Addr) (l_1n : Nat) (l_1c : Nat) (R : Ending → World → Prop) (w : World) : fnV Tryz.prog Tryz.f57 an_ref12_clean [.slice l_1 l_1n l_1c] R w = sh_ref12_clean l_1 l_1n l_1c R w := by kernel_rfl
theorem c_ref12_clean {l_1 : Option Addr} {l_1n : Nat} {l_1c : Nat} {R : Ending → World → Prop} {w : World} (h : sh_ref12_clean l_1 l_1n l_1c R w) : Calls Tryz.prog F_ref12_clean ⟨[.slice l_1 l_1n l_1c]⟩ w R := calls_of_fnV Tryz.func57 (by rw [e_ref12_clean]; exact h)

def an_ref12_lost : Ann := .two (.leaf) (.two (.leaf) (.two (.two (.leaf) (.one (.loop 4088 [(3, .one (.str)), (4, .one (.int .i64))] (.two (.two (.leaf) (.two (.leaf) (.leaf))) (.two (.one (.leaf)) (.leaf)))))) (.two (.leaf) (.leaf))))
def sh_ref12_lost (n_1 : Int) (R : Ending → World → Prop) (w : World) : Prop :=
  ∃ (I2 : List UInt8 → Int → World → Nat → Prop), (∃ m7 : Nat, I2 ([]) 0 w m7) ∧ ∀ (out_3 : List UInt8) (i_4 : Int) (w5 : World) (m6 : Nat), I2 out_3 i_4 w5 m6 → ∀ _ : Env, (br (decide ((i_4 : Int) < n_1)) (sadd out_3 ([95]) fun s8 =>
  ∃ m9 : Nat, m9 < m6 ∧ I2 s8 (IntKind.i64.wrap (i_4 + 1)) w5 m9) (R (.returned (.string ⟨⟨out_3⟩⟩)) w5))
set_option maxRecDepth 100000 in
theorem e_ref12_lost (n_1 : Int) (R : Ending → World → Prop) (w : World) : fnV Tryz.prog Tryz.f58 an_ref12_lost [.int .i64 n_1] R w = sh_ref12_lost n_1 R w := by kernel_rfl
theorem c_ref12_lost {n_1 : Int} {R : Ending → World → Prop} {w : World} (h : sh_ref12_lost n_1 R w) : Calls Tryz.prog F_ref12_lost ⟨[.int .i64 n_1]⟩ w R := calls_of_fnV Tryz.func58 (by rw [e_ref12_lost]; exact h)

def an_transcript_Check_1 : Ann := .two (.leaf) (.two (.leaf) (.two (.leaf) (.leaf)))
def sh_transcript_Check_1 (t0_1 : Option Addr) (R : Ending → World → Prop) (w : World) : Prop :=
  dr t0_1 fun p2 =>
  ∃ (x3 : Int), World.cell? w p2 = some (.int .i64 x3) ∧ (dr t0_1 fun p5 =>
  stL w p5 0 [.int .i64 (IntKind.i64.wrap (x3 - 1))] fun w4 =>
  dr t0_1 fun p6 =>
  ∃ (x7 : Int), World.cell? w4 p6 = some (.int .i64 x7) ∧ (R (.returned (.bool (decide ((0 : Int) ≤ x7)))) w4))
set_option maxRecDepth 100000 in
theorem e_transcript_Check_1 (t0_1 : Option Addr) (R : Ending → World → Prop) (w : World) : fnV Tryz.prog Tryz.f60 an_transcript_Check_1 [.pointer t0_1] R w = sh_transcript_Check_1 t0_1 R w := by kernel_rfl
theorem c_transcript_Check_1 {t0_1 : Option Addr} {R : Ending → World → Prop} {w : World} (h : sh_transcript_Check_1 t0_1 R w) : Calls Tryz.prog F_transcript_Check_1 ⟨[.pointer t0_1]⟩ w R := calls_of_fnV Tryz.func60 (by rw [e_transcript_Check_1]; exact h)

def an_transcript_places : Ann := .two (.leaf) (.two (.leaf) (.leaf))
def sh_transcript_places (l_1 : Option Addr) (l_1n : Nat) (l_1c : Nat) (R : Ending → World → Prop) (w : World) : Prop :=
  al w 22 [.slice l_1 l_1n l_1c] fun p2 w3 =>
  R (.returned (.func (.func 74) ⟨[]⟩ ⟨[.pointer (some p2)]⟩)) w3
set_option maxRecDepth 100000 in
theorem e_transcript_places (l_1 : Option Addr) (l_1n : Nat) (l_1c : Nat) (R : Ending → World → Prop) (w : World) : fnV Tryz.prog Tryz.f61 an_transcript_places [.slice l_1 l_1n l_1c] R w = sh_transcript_places l_1 l_1n l_1c R w := by kernel_rfl
theorem c_transcript_places {l_1 : Option Addr} {l_1n : Nat} {l_1c : Nat} {R : Ending → World → Prop} {w : World} (h : sh_transcript_places l_1 l_1n l_1c R w) : Calls Tryz.prog F_transcript_places ⟨[.slice l_1 l_1n l_1c]⟩ w R := calls_of_fnV Tryz.func61 (by rw [e_transcript_places]; exact h)

def an_transcript_right : Ann := .two (.leaf) (.two (.leaf) (.cut 65284 [] (.two (.leaf) (.two (.two (.leaf) (.leaf)) (.leaf))) (.two (.leaf) (.two (.leaf) (.two (.one (.cut 9007199246352384 [(23, .one (.bool))] (.leaf) (.two (.two (.leaf) (.leaf)) (.cut 4722357475670390472704 [(53, .one (.bool))] (.leaf) (.two (.two (.leaf) (.leaf)) (.cut 4830980911975647053611008 [(72, .one (.bool))] (.leaf) (.two (.two (.leaf) (.leaf)) (.cut 1298074209798003628674107383480320 [(82, .one (.bool))] (.cut 4946924453863062582897672192 [(82, .one (.bool))] (.leaf) (.two (.leaf) (.leaf))) (.two (.two (.leaf) (.leaf)) (.cut 43556141667805908689605042618642248761344 [(110, .one (.bool))] (.cut 331008924731595261318819140987781120 [(110, .one (.bool))] (.leaf) (.two (.leaf) (.cut 20936639007827058705142093823497732096 [(110, .one (.bool))] (.leaf) (.two (.leaf) (.leaf))))) (.two (.two (.leaf) (.leaf)) (.cut 11106816456299431447444547186572914421923840 [(135, .one (.bool))] (.leaf) (.two (.two (.leaf) (.leaf)) (.two (.leaf) (.two (.two (.leaf) (.leaf)) (.leaf)))))))))))))))) (.two (.leaf) (.leaf)))))))
def sh_transcript_right (p_1 : Int) (p_2 : List UInt8) (p_3 : Int) (p_4 : Option Addr) (p_4n : Nat) (p_4c : Nat) (p_5 : Int) (p_6 : Bool) (R : Ending → World → Prop) (w : World) : Prop :=
  al w 98 [.int .i64 p_1, .string ⟨⟨p_2⟩⟩, .int .i64 p_3, .slice p_4 p_4n p_4c, .int .i64 p_5, .bool p_6] fun p7 w8 =>
  ∃ (x9 : Int), World.cell? w8 ((p7.add 0).add 0) = some (.int .i64 x9) ∧ (∃ (x10 : List UInt8), World.cell? w8 ((p7.add 0).add 1) = some (.string ⟨⟨x10⟩⟩) ∧ (∃ (x11 : Int), World.cell? w8 ((p7.add 0).add 2) = some (.int .i64 x11) ∧ (∃ (x12 : Option Addr) (x12n : Nat) (x12c : Nat), World.cell? w8 ((p7.add 0).add 3) = some (.slice x12 x12n x12c) ∧ (al w8 48 [.int .i64 0, .string ⟨⟨[]⟩⟩, .int .i64 0, .slice none 0 0] fun p13 w14 =>
  stL w14 p13 0 [.int .i64 x9, .string ⟨⟨x10⟩⟩, .int .i64 x11, .slice x12 x12n x12c] fun w15 =>
  ∀ (K16 : World → Prop), (∀  (w17 : World), (∀ _ : Env, (∃ (x18 : Int), World.cell? w17 (p13.add 0) = some (.int .i64 x18) ∧ (idx (some (⟨0, 0, none⟩)) 12 x18 4 fun p19 =>
  ∃ (x20 : List UInt8), World.cell? w17 (p19.add 0) = some (.string ⟨⟨x20⟩⟩) ∧ (∃ (x21 : Bool), World.cell? w17 (p19.add 1) = some (.bool x21) ∧ (∃ (x22 : Bool), World.cell? w17 (p19.add 2) = some (.bool x22) ∧ (∃ (x23 : Bool), World.cell? w17 (p19.add 3) = some (.bool x23) ∧ (al w17 111 [.string ⟨⟨[]⟩⟩, .bool false, .bool false, .bool false] fun p24 w25 =>
  stL w25 p24 0 [.string ⟨⟨x20⟩⟩, .bool x21, .bool x22, .bool x23] fun w26 =>
  ∃ (x27 : Int), World.cell? w26 (p13.add 0) = some (.int .i64 x27) ∧ (∀ (K28 : Bool → World → Prop), (∀ (t23_29 : Bool) (w30 : World), (∀ _ : Env, (br t23_29 (R (.returned (.int .i64 8)) w30) (∀ (K31 : Bool → World → Prop), (∀ (t53_32 : Bool) (w33 : World), (∀ _ : Env, (br t53_32 (R (.returned (.int .i64 5)) w33) (∀ (K34 : Bool → World → Prop), (∀ (t72_35 : Bool) (w36 : World), (∀ _ : Env, (br t72_35 (R (.returned (.int .i64 11)) w36) (∀ (K37 : Bool → World → Prop), (∀ (t82_38 : Bool) (w39 : World), (∀ _ : Env, (br t82_38 (R (.returned (.int .i64 14)) w39) (∀ (K40 : Bool → World → Prop), (∀ (t110_41 : Bool) (w42 : World), (∀ _ : Env, (br t110_41 (R (.returned (.int .i64 2)) w42) (∀ (K43 : Bool → World → Prop), (∀ (t135_44 : Bool) (w45 : World), (∀ _ : Env, (br t135_44 (R (.returned (.int .i64 10)) w45) (∃ (x46 : Int), World.cell? w45 (p13.add 0) = some (.int .i64 x46) ∧ (br (decide ((x46 : Int) = 4)) (∃ (x47 : Int), World.cell? w45 (p7.add 4) = some (.int .i64 x47) ∧ (br (decide ((0 : Int) < x47)) (R (.returned (.int .i64 12)) w45) (R (.returned (.int .i64 0)) w45))) (R (.returned (.int .i64 0)) w45))))) → K43 t135_44 w45) → (∃ (x48 : Int), World.cell? w42 (p13.add 0) = some (.int .i64 x48) ∧ (br (decide ((x48 : Int) = 1)) (∃ (x49 : Bool), World.cell? w42 (p7.add 5) = some (.bool x49) ∧ (K43 x49 w42)) (K43 false w42)))))) → K40 t110_41 w42) → (∀ (K50 : Bool → World → Prop), (∀ (t110_51 : Bool) (w52 : World), (∀ _ : Env, (br t110_51 (K40 t110_51 w52) (∀ (K53 : Bool → World → Prop), (∀ (t110_54 : Bool) (w55 : World), (∀ _ : Env, (br t110_54 (K40 t110_54 w55) (∃ (x56 : Bool), World.cell? w55 (p24.add 2) = some (.bool x56) ∧ (br x56 (br (!(decide ((x27 : Int) = 6))) (∃ (x57 : Int), World.cell? w55 (p13.add 2) = some (.int .i64 x57) ∧ (K40 (decide ((8 : Int) < x57)) w55)) (K40 false w55)) (K40 false w55))))) → K53 t110_54 w55) → (br (decide ((x27 : Int) = 6)) (∃ (x58 : Int), World.cell? w52 (p13.add 2) = some (.int .i64 x58) ∧ (K53 (decide ((64 : Int) < x58)) w52)) (K53 false w52))))) → K50 t110_51 w52) → (∃ (x59 : Bool), World.cell? w39 (p24.add 2) = some (.bool x59) ∧ (br x59 (∃ (x60 : Int), World.cell? w39 (p13.add 2) = some (.int .i64 x60) ∧ (K50 (decide ((x60 : Int) < 1)) w39)) (K50 false w39))))))) → K37 t82_38 w39) → (∀ (K61 : Bool → World → Prop), (∀ (t82_62 : Bool) (w63 : World), (∀ _ : Env, (br t82_62 (K37 t82_62 w63) (∃ (x64 : Bool), World.cell? w63 (p24.add 1) = some (.bool x64) ∧ (br x64 (∃ (x65 : Int), World.cell? w63 (p13.add 0) = some (.int .i64 x65) ∧ (br (decide ((x65 : Int) ≠ 1)) (∃ (x66 : Int), World.cell? w63 (p13.add 0) = some (.int .i64 x66) ∧ (br (decide ((x66 : Int) ≠ 10)) (∃ (x67 : List UInt8), World.cell? w63 (p13.add 1) = some (.string ⟨⟨x67⟩⟩) ∧ (Calls Tryz.prog 37 ⟨[.string ⟨⟨x67⟩⟩]⟩ w63 fun (e68 : Ending) (w69 : World) =>
  ∃ (x70 : Bool), e68 = .returned (.bool x70) ∧ (K37 (!x70) w69))) (K37 false w63))) (K37 false w63))) (K37 false w63))))) → K61 t82_62 w63) → (∃ (x71 : Int), World.cell? w36 (p13.add 0) = some (.int .i64 x71) ∧ (br (decide ((x71 : Int) = 10)) (∃ (x72 : List UInt8), World.cell? w36 (p13.add 1) = some (.string ⟨⟨x72⟩⟩) ∧ (Calls Tryz.prog 77 ⟨[.string ⟨⟨x72⟩⟩]⟩ w36 fun (e73 : Ending) (w74 : World) =>
  ∃ (x75 : Bool), e73 = .returned (.bool x75) ∧ (K61 (!x75) w74))) (K61 false w36))))))) → K34 t72_35 w36) → (∃ (x76 : Int), World.cell? w33 (p13.add 0) = some (.int .i64 x76) ∧ (br (decide ((x76 : Int) = 1)) (∃ (x77 : List UInt8), World.cell? w33 (p13.add 1) = some (.string ⟨⟨x77⟩⟩) ∧ (Calls Tryz.prog 76 ⟨[.string ⟨⟨x77⟩⟩]⟩ w33 fun (e78 : Ending) (w79 : World) =>
  ∃ (x80 : Int), e78 = .returned (.int .i64 x80) ∧ (K34 (decide ((x80 : Int) ≠ 0)) w79))) (K34 false w33)))))) → K31 t53_32 w33) → (∃ (x81 : Int), World.cell? w30 (p13.add 0) = some (.int .i64 x81) ∧ (br (decide ((x81 : Int) = 1)) (∃ (x82 : List UInt8), World.cell? w30 (p13.add 1) = some (.string ⟨⟨x82⟩⟩) ∧ (br (decide ((x82 : List UInt8) = ([]))) (K31 true w30) (∃ (x83 : Bool), World.cell? w30 (p24.add 3) = some (.bool x83) ∧ (br x83 (∃ (x84 : Option Addr) (x84n : Nat) (x84c : Nat), World.cell? w30 (p13.add 3) = some (.slice x84 x84n x84c) ∧ (K31 (decide ((((x84n : Int)) : Int) = 0)) w30)) (K31 false w30))))) (∃ (x85 : Bool), World.cell? w30 (p24.add 3) = some (.bool x85) ∧ (br x85 (∃ (x86 : Option Addr) (x86n : Nat) (x86c : Nat), World.cell? w30 (p13.add 3) = some (.slice x86 x86n x86c) ∧ (K31 (decide ((((x86n : Int)) : Int) = 0)) w30)) (K31 false w30)))))))) → K28 t23_29 w30) → (∃ (x87 : Bool), World.cell? w26 (p24.add 1) = some (.bool x87) ∧ (br (!x87) (∃ (x88 : List UInt8), World.cell? w26 (p13.add 1) = some (.string ⟨⟨x88⟩⟩) ∧ (br (decide ((x88 : List UInt8) ≠ ([]))) (K28 true w26) (∃ (x89 : Bool), World.cell? w26 (p24.add 2) = some (.bool x89) ∧ (br (!x89) (∃ (x90 : Int), World.cell? w26 (p13.add 2) = some (.int .i64 x90) ∧ (br (decide ((x90 : Int) ≠ 0)) (K28 true w26) (∃ (x91 : Bool), World.cell? w26 (p24.add 3) = some (.bool x91) ∧ (br (!x91) (∃ (x92 : Option Addr) (x92n : Nat) (x92c : Nat), World.cell? w26 (p13.add 3) = some (.slice x92 x92n x92c) ∧ (K28 (decide ((0 : Int) < ((x92n : Int)))) w26)) (K28 false w26))))) (∃ (x93 : Bool), World.cell? w26 (p24.add 3) = some (.bool x93) ∧ (br (!x93) (∃ (x94 : Option Addr) (x94n : Nat) (x94c : Nat), World.cell? w26 (p13.add 3) = some (.slice x94 x94n x94c) ∧ (K28 (decide ((0 : Int) < ((x94n : Int)))) w26)) (K28 false w26))))))) (∃ (x95 : Bool), World.cell? w26 (p24.add 2) = some (.bool x95) ∧ (br (!x95) (∃ (x96 : Int), World.cell? w26 (p13.add 2) = some (.int .i64 x96) ∧ (br (decide ((x96 : Int) ≠ 0)) (K28 true w26) (∃ (x97 : Bool), World.cell? w26 (p24.add 3) = some (.bool x97) ∧ (br (!x97) (∃ (x98 : Option Addr) (x98n : Nat) (x98c : Nat), World.cell? w26 (p13.add 3) = some (.slice x98 x98n x98c) ∧ (K28 (decide ((0 : Int) < ((x98n : Int)))) w26)) (K28 false w26))))) (∃ (x99 : Bool), World.cell? w26 (p24.add 3) = some (.bool x99) ∧ (br (!x99) (∃ (x100 : Option Addr) (x100n : Nat) (x100c : Nat), World.cell? w26 (p13.add 3) = some (.slice x100 x100n x100c) ∧ (K28 (decide ((0 : Int) < ((x100n : Int)))) w26)) (K28 false w26))))))))))))))) → K16 w17) → (∃ (x101 : Int), World.cell? w15 (p13.add 0) = some (.int .i64 x101) ∧ (br (decide ((x101 : Int) < 1)) (R (.returned (.int .i64 8)) w15) (∃ (x102 : Int), World.cell? w15 (p13.add 0) = some (.int .i64 x102) ∧ (br (decide ((11 : Int) < x102)) (R (.returned (.int .i64 8)) w15) (K16 w15)))))))))
set_option maxRecDepth 100000 in
theorem e_transcript_right (p_1 : Int) (p_2 : List UInt8) (p_3 : Int) (p_4 : Option Addr) (p_4n : Nat) (p_4c : Nat) (p_5 : Int) (p_6 : Bool) (R : Ending → World → Prop) (w : World) : fnV Tryz.prog Tryz.f62 an_transcript_right [.agg ⟨[.int .i64 p_1, .string ⟨⟨p_2⟩⟩, .int .i64 p_3, .slice p_4 p_4n p_4c, .int .i64 p_5, .bool p_6]⟩] R w = sh_transcript_right p_1 p_2 p_3 p_4 p_4n p_4c p_5 p_6 R w := by kernel_rfl
theorem c_transcript_right {p_1 : Int} {p_2 : List UInt8} {p_3 : Int} {p_4 : Option Addr} {p_4n : Nat} {p_4c : Nat} {p_5 : Int} {p_6 : Bool} {R : Ending → World → Prop} {w : World} (h : sh_transcript_right p_1 p_2 p_3 p_4 p_4n p_4c p_5 p_6 R w) : Calls Tryz.prog F_transcript_right ⟨[.agg ⟨[.int .i64 p_1, .string ⟨⟨p_2⟩⟩, .int .i64 p_3, .slice p_4 p_4n p_4c, .int .i64 p_5, .bool p_6]⟩]⟩ w R := calls_of_fnV Tryz.func62 (by rw [e_transcript_right]; exact h)

def an_transcript_marked : Ann := .two (.leaf) (.two (.leaf) (.two (.leaf) (.two (.leaf) (.two (.leaf) (.two (.leaf) (.leaf))))))
def sh_transcript_marked (l_1 : Option Addr) (l_1n : Nat) (l_1c : Nat) (R : Ending → World → Prop) (w : World) : Prop :=
  al w 86 [.pointer none, .slice none 0 0] fun p2 w3 =>
  al w3 73 [.nilFunc] fun p4 w5 =>
  stL w5 p4 0 [.func (.func 78) ⟨[]⟩ ⟨[.pointer (some p2), .pointer (some p4)]⟩] fun w6 =>
  ∃ (x7 : Fn) (x7a : Array Value) (x7b : Array Value), World.cell? w6 p4 = some (.func x7 x7a x7b) ∧ (CallV Tryz.prog (.func x7 x7a x7b) [.slice l_1 l_1n l_1c] w6 fun (e8 : Ending) (w9 : World) =>
  e8 = .returned (.tuple ⟨[]⟩) ∧ (Calls Tryz.prog 55 ⟨[.pointer (some p2)]⟩ w9 fun (e10 : Ending) (w11 : World) =>
  ∃ (x12 : List UInt8), e10 = .returned (.string ⟨⟨x12⟩⟩) ∧ (R (.returned (.string ⟨⟨x12⟩⟩)) w11)))
set_option maxRecDepth 100000 in
theorem e_transcript_marked (l_1 : Option Addr) (l_1n : Nat) (l_1c : Nat) (R : Ending → World → Prop) (w : World) : fnV Tryz.prog Tryz.f63 an_transcript_marked [.slice l_1 l_1n l_1c] R w = sh_transcript_marked l_1 l_1n l_1c R w := by kernel_rfl
theorem c_transcript_marked {l_1 : Option Addr} {l_1n : Nat} {l_1c : Nat} {R : Ending → World → Prop} {w : World} (h : sh_transcript_marked l_1 l_1n l_1c R w) : Calls Tryz.prog F_transcript_marked ⟨[.slice l_1 l_1n l_1c]⟩ w R := calls_of_fnV Tryz.func63 (by rw [e_transcript_marked]; exact h)

def an_legibility_all_1 : Ann := .two (.leaf) (.two (.leaf) (.two (.leaf) (.leaf)))
def sh_legibility_all_1 (yield_1 : Fn) (yield_1a : Array Value) (yield_1b : Array Value) (t1_2 : Option Addr) (R : Ending → World → Prop) (w : World) : Prop :=
  al w 100 [.func yield_1 yield_1a yield_1b] fun p3 w4 =>
  al w4 101 [.nilFunc] fun p5 w6 =>
  stL w6 p5 0 [.func (.func 65) ⟨[]⟩ ⟨[.pointer (some p3), .pointer (some p5)]⟩] fun w7 =>
  ∃ (x8 : Fn) (x8a : Array Value) (x8b : Array Value), World.cell? w7 p5 = some (.func x8 x8a x8b) ∧ (dr t1_2 fun p9 =>
  ∃ (x10 : Option Addr) (x10n : Nat) (x10c : Nat), World.cell? w7 p9 = some (.slice x10 x10n x10c) ∧ (CallV Tryz.prog (.func x8 x8a x8b) [.slice x10 x10n x10c, .bool false] w7 fun (e11 : Ending) (w12 : World) =>
  ∃ (x13 : Bool), e11 = .returned (.bool x13) ∧ (R (.returned (.tuple ⟨[]⟩)) w12)))
set_option maxRecDepth 100000 in
theorem e_legibility_all_1 (yield_1 : Fn) (yield_1a : Array Value) (yield_1b : Array Value) (t1_2 : Option Addr) (R : Ending → World → Prop) (w : World) : fnV Tryz.prog Tryz.f64 an_legibility_all_1 [.func yield_1 yield_1a yield_1b, .pointer t1_2] R w = sh_legibility_all_1 yield_1 yield_1a yield_1b t1_2 R w := by kernel_rfl
theorem c_legibility_all_1 {yield_1 : Fn} {yield_1a : Array Value} {yield_1b : Array Value} {t1_2 : Option Addr} {R : Ending → World → Prop} {w : World} (h : sh_legibility_all_1 yield_1 yield_1a yield_1b t1_2 R w) : Calls Tryz.prog F_legibility_all_1 ⟨[.func yield_1 yield_1a yield_1b, .pointer t1_2]⟩ w R := calls_of_fnV Tryz.func64 (by rw [e_legibility_all_1]; exact h)

def an_legibility_all_1_1 : Ann := .two (.leaf) (.two (.two (.leaf) (.one (.loop 17179867456 [(11, .one (.int .i64))] (.two (.leaf) (.two (.two (.leaf) (.leaf)) (.two (.one (.two (.leaf) (.two (.leaf) (.two (.two (.leaf) (.leaf)) (.leaf))))) (.leaf))))))) (.two (.leaf) (.leaf)))
def sh_legibility_all_1_1 (l_1 : Option Addr) (l_1n : Nat) (l_1c : Nat) (unclear_2 : Bool) (t2_3 : Option Addr) (t3_4 : Option Addr) (R : Ending → World → Prop) (w : World) : Prop :=
  ∃ (I5 : Int → World → Nat → Prop), (∃ m9 : Nat, I5 0 w m9) ∧ ∀ (t11_6 : Int) (w7 : World) (m8 : Nat), I5 t11_6 w7 m8 → ∀ _ : Env, (br (decide ((t11_6 : Int) < ((l_1n : Int)))) (idx l_1 l_1n t11_6 4 fun p10 =>
  ∃ (x11 : Int), World.cell? w7 (p10.add 0) = some (.int .i64 x11) ∧ (∃ (x12 : List UInt8), World.cell? w7 (p10.add 1) = some (.string ⟨⟨x12⟩⟩) ∧ (∃ (x13 : Int), World.cell? w7 (p10.add 2) = some (.int .i64 x13) ∧ (∃ (x14 : Option Addr) (x14n : Nat) (x14c : Nat), World.cell? w7 (p10.add 3) = some (.slice x14 x14n x14c) ∧ (al w7 48 [.int .i64 0, .string ⟨⟨[]⟩⟩, .int .i64 0, .slice none 0 0] fun p15 w16 =>
  stL w16 p15 0 [.int .i64 x11, .string ⟨⟨x12⟩⟩, .int .i64 x13, .slice x14 x14n x14c] fun w17 =>
  dr t2_3 fun p18 =>
  ∃ (x19 : Fn) (x19a : Array Value) (x19b : Array Value), World.cell? w17 p18 = some (.func x19 x19a x19b) ∧ (∃ (x20 : Int), World.cell? w17 (p15.add 0) = some (.int .i64 x20) ∧ (∃ (x21 : List UInt8), World.cell? w17 (p15.add 1) = some (.string ⟨⟨x21⟩⟩) ∧ (∃ (x22 : Int), World.cell? w17 (p15.add 2) = some (.int .i64 x22) ∧ (∃ (x23 : Option Addr) (x23n : Nat) (x23c : Nat), World.cell? w17 (p15.add 3) = some (.slice x23 x23n x23c) ∧ (CallV Tryz.prog (.func x19 x19a x19b) [.agg ⟨[.int .i64 x20, .string ⟨⟨x21⟩⟩, .int .i64 x22, .slice x23 x23n x23c]⟩, .bool unclear_2] w17 fun (e24 : Ending) (w25 : World) =>
  ∃ (x26 : Bool), e24 = .returned (.bool x26) ∧ (br (!x26) (R (.returned (.bool false)) w25) (dr t3_4 fun p27 =>
  ∃ (x28 : Fn) (x28a : Array Value) (x28b : Array Value), World.cell? w25 p27 = some (.func x28 x28a x28b) ∧ (∃ (x29 : Option Addr) (x29n : Nat) (x29c : Nat), World.cell? w25 (p15.add 3) = some (.slice x29 x29n x29c) ∧ (br unclear_2 (CallV Tryz.prog (.func x28 x28a x28b) [.slice x29 x29n x29c, .bool true] w25 fun (e30 : Ending) (w31 : World) =>
  ∃ (x32 : Bool), e30 = .returned (.bool x32) ∧ (br (!x32) (R (.returned (.bool false)) w31) (∃ m33 : Nat, m33 < m8 ∧ I5 (IntKind.i64.wrap (t11_6 + 1)) w31 m33))) (∃ (x34 : Int), World.cell? w25 (p15.add 0) = some (.int .i64 x34) ∧ (CallV Tryz.prog (.func x28 x28a x28b) [.slice x29 x29n x29c, .bool (decide ((x34 : Int) = 7))] w25 fun (e35 : Ending) (w36 : World) =>
  ∃ (x37 : Bool), e35 = .returned (.bool x37) ∧ (br (!x37) (R (.returned (.bool false)) w36) (∃ m38 : Nat, m38 < m8 ∧ I5 (IntKind.i64.wrap (t11_6 + 1)) w36 m38)))))))))))))))))) (R (.returned (.bool true)) w7))
set_option maxRecDepth 100000 in
theorem e_legibility_all_1_1 (l_1 : Option Addr) (l_1n : Nat) (l_1c : Nat) (unclear_2 : Bool) (t2_3 : Option Addr) (t3_4 : Option Addr) (R : Ending → World → Prop) (w : World) : fnV Tryz.prog Tryz.f65 an_legibility_all_1_1 [.slice l_1 l_1n l_1c, .bool unclear_2, .pointer t2_3, .pointer t3_4] R w = sh_legibility_all_1_1 l_1 l_1n l_1c unclear_2 t2_3 t3_4 R w := by kernel_rfl
theorem c_legibility_all_1_1 {l_1 : Option Addr} {l_1n : Nat} {l_1c : Nat} {unclear_2 : Bool} {t2_3 : Option Addr} {t3_4 : Option Addr} {R : Ending → World → Prop} {w : World} (h : sh_legibility_all_1_1 l_1 l_1n l_1c unclear_2 t2_3 t3_4 R w) : Calls Tryz.prog F_legibility_all_1_1 ⟨[.slice l_1 l_1n l_1c, .bool unclear_2, .pointer t2_3, .pointer t3_4]⟩ w R := calls_of_fnV Tryz.func65 (by rw [e_legibility_all_1_1]; exact h)

def an_ref10_all : Ann := .two (.leaf) (.two (.two (.leaf) (.one (.loop 8796093022192 [(5, .one (.int .i64))] (.two (.two (.leaf) (.two (.leaf) (.leaf))) (.two (.one (.two (.cut 2147467328 [(6, .one (.int .i64))] (.leaf) (.two (.leaf) (.two (.two (.leaf) (.leaf)) (.leaf)))) (.two (.leaf) (.two (.leaf) (.two (.two (.leaf) (.leaf)) (.leaf)))))) (.leaf)))))) (.two (.leaf) (.leaf)))
def sh_ref10_all (l_1 : Option Addr) (l_1n : Nat) (l_1c : Nat) (within_2 : Bool) (R : Ending → World → Prop) (w : World) : Prop :=
  ∃ (I3 : Int → World → Nat → Prop), (∃ m7 : Nat, I3 0 w m7) ∧ ∀ (i_4 : Int) (w5 : World) (m6 : Nat), I3 i_4 w5 m6 → ∀ _ : Env, (br (decide ((i_4 : Int) < ((l_1n : Int)))) (∀ (K8 : Int → World → Prop), (∀ (e_9 : Int) (w10 : World), (∀ _ : Env, (br (decide ((e_9 : Int) ≠ 0)) (R (.returned (.int .i64 e_9)) w10) (idx l_1 l_1n i_4 4 fun p11 =>
  ∃ (x12 : Option Addr) (x12n : Nat) (x12c : Nat), World.cell? w10 (p11.add 3) = some (.slice x12 x12n x12c) ∧ (Calls Tryz.prog 71 ⟨[.slice x12 x12n x12c, .bool true]⟩ w10 fun (e13 : Ending) (w14 : World) =>
  ∃ (x15 : Int), e13 = .returned (.int .i64 x15) ∧ (br (decide ((x15 : Int) ≠ 0)) (R (.returned (.int .i64 x15)) w14) (∃ m16 : Nat, m16 < m6 ∧ I3 (IntKind.i64.wrap (i_4 + 1)) w14 m16)))))) → K8 e_9 w10) → (drw w5 fun w17 =>
  idx l_1 l_1n i_4 4 fun p18 =>
  ∃ (x19 : Int), World.cell? w17 (p18.add 0) = some (.int .i64 x19) ∧ (∃ (x20 : List UInt8), World.cell? w17 (p18.add 1) = some (.string ⟨⟨x20⟩⟩) ∧ (∃ (x21 : Int), World.cell? w17 (p18.add 2) = some (.int .i64 x21) ∧ (∃ (x22 : Option Addr) (x22n : Nat) (x22c : Nat), World.cell? w17 (p18.add 3) = some (.slice x22 x22n x22c) ∧ (br (decide ((0 : Int) < i_4)) (idx l_1 l_1n (IntKind.i64.wrap (i_4 - 1)) 4 fun p23 =>
  ∃ (x24 : Int), World.cell? w17 (p23.add 0) = some (.int .i64 x24) ∧ ((Calls Tryz.prog 85 ⟨[.agg ⟨[.int .i64 x19, .string ⟨⟨x20⟩⟩, .int .i64 x21, .slice x22 x22n x22c]⟩, .bool (decide ((x24 : Int) = 1)), .bool within_2]⟩ w17 fun (e25 : Ending) (w26 : World) =>
  ∃ (x27 : Int), e25 = .returned (.int .i64 x27) ∧ (K8 x27 w26)) ∧ True)) ((Calls Tryz.prog 85 ⟨[.agg ⟨[.int .i64 x19, .string ⟨⟨x20⟩⟩, .int .i64 x21, .slice x22 x22n x22c]⟩, .bool false, .bool within_2]⟩ w17 fun (e28 : Ending) (w29 : World) =>
  ∃ (x30 : Int), e28 = .returned (.int .i64 x30) ∧ (K8 x30 w29)) ∧ True))))))) (R (.returned (.int .i64 0)) w5))
set_option maxRecDepth 100000 in
theorem e_ref10_all (l_1 : Option Addr) (l_1n : Nat) (l_1c : Nat) (within_2 : Bool) (R : Ending → World → Prop) (w : World) : fnV Tryz.prog Tryz.f71 an_ref10_all [.slice l_1 l_1n l_1c, .bool within_2] R w = sh_ref10_all l_1 l_1n l_1c within_2 R w := by kernel_rfl
theorem c_ref10_all {l_1 : Option Addr} {l_1n : Nat} {l_1c : Nat} {within_2 : Bool} {R : Ending → World → Prop} {w : World} (h : sh_ref10_all l_1 l_1n l_1c within_2 R w) : Calls Tryz.prog F_ref10_all ⟨[.slice l_1 l_1n l_1c, .bool within_2]⟩ w R := calls_of_fnV Tryz.func71 (by rw [e_ref10_all]; exact h)

def an_ref10_print : Ann := .two (.leaf) (.two (.leaf) (.two (.two (.leaf) (.one (.loop 147573952589676412920 [(3, .one (.str)), (4, .one (.int .i64))] (.two (.two (.leaf) (.two (.leaf) (.leaf))) (.two (.one (.two (.leaf) (.two (.two (.leaf) (.two (.two (.leaf) (.leaf)) (.leaf))) (.two (.leaf) (.cut 68451041344 [(6, .one (.str))] (.two (.leaf) (.two (.leaf) (.leaf))) (.cut 35115652612160 [(6, .one (.str))] (.two (.leaf) (.two (.leaf) (.leaf))) (.two (.two (.leaf) (.two (.two (.leaf) (.leaf)) (.leaf))) (.leaf)))))))) (.leaf)))))) (.two (.leaf) (.leaf))))
def sh_ref10_print (l_1 : Option Addr) (l_1n : Nat) (l_1c : Nat) (R : Ending → World → Prop) (w : World) : Prop :=
  ∃ (I2 : List UInt8 → Int → World → Nat → Prop), (∃ m7 : Nat, I2 ([]) 0 w m7) ∧ ∀ (out_3 : List UInt8) (i_4 : Int) (w5 : World) (m6 : Nat), I2 out_3 i_4 w5 m6 → ∀ _ : Env, (br (decide ((i_4 : Int) < ((l_1n : Int)))) (idx l_1 l_1n i_4 4 fun p8 =>
  ∃ (x9 : Int), World.cell? w5 (p8.add 0) = some (.int .i64 x9) ∧ (∃ (x10 : List UInt8), World.cell? w5 (p8.add 1) = some (.string ⟨⟨x10⟩⟩) ∧ (∃ (x11 : Int), World.cell? w5 (p8.add 2) = some (.int .i64 x11) ∧ (∃ (x12 : Option Addr) (x12n : Nat) (x12c : Nat), World.cell? w5 (p8.add 3) = some (.slice x12 x12n x12c) ∧ (al w5 48 [.int .i64 0, .string ⟨⟨[]⟩⟩, .int .i64 0, .slice none 0 0] fun p13 w14 =>
  stL w14 p13 0 [.int .i64 x9, .string ⟨⟨x10⟩⟩, .int .i64 x11, .slice x12 x12n x12c] fun w15 =>
  ∃ (x16 : Int), World.cell? w15 (p13.add 0) = some (.int .i64 x16) ∧ (br (decide ((x16 : Int) = 1)) (∃ (x17 : List UInt8), World.cell? w15 (p13.add 1) = some (.string ⟨⟨x17⟩⟩) ∧ (sadd out_3 x17 fun s18 =>
  ∃ m19 : Nat, m19 < m6 ∧ I2 s18 (IntKind.i64.wrap (i_4 + 1)) w15 m19)) (∃ (x20 : Int), World.cell? w15 (p13.add 0) = some (.int .i64 x20) ∧ (Calls Tryz.prog 86 ⟨[.int .i64 x20]⟩ w15 fun (e21 : Ending) (w22 : World) =>
  ∃ (x23 : List UInt8), e21 = .returned (.string ⟨⟨x23⟩⟩) ∧ (sadd ([60]) x23 fun s24 =>
  ∀ (K25 : List UInt8 → World → Prop), (∀ (tag_26 : List UInt8) (w27 : World), (∀ _ : Env, (∀ (K28 : List UInt8 → World → Prop), (∀ (tag_29 : List UInt8) (w30 : World), (∀ _ : Env, (∃ (x31 : Int), World.cell? w30 (p13.add 0) = some (.int .i64 x31) ∧ (Calls Tryz.prog 90 ⟨[.int .i64 x31]⟩ w30 fun (e32 : Ending) (w33 : World) =>
  ∃ (x34 : Bool), e32 = .returned (.bool x34) ∧ (br (!x34) (sadd out_3 tag_29 fun s35 =>
  sadd s35 ([47, 62]) fun s36 =>
  ∃ m37 : Nat, m37 < m6 ∧ I2 s36 (IntKind.i64.wrap (i_4 + 1)) w33 m37) (drw w33 fun w38 =>
  sadd out_3 tag_29 fun s39 =>
  sadd s39 ([62]) fun s40 =>
  ∃ (x41 : Option Addr) (x41n : Nat) (x41c : Nat), World.cell? w38 (p13.add 3) = some (.slice x41 x41n x41c) ∧ ((Calls Tryz.prog 72 ⟨[.slice x41 x41n x41c]⟩ w38 fun (e42 : Ending) (w43 : World) =>
  ∃ (x44 : List UInt8), e42 = .returned (.string ⟨⟨x44⟩⟩) ∧ (sadd s40 x44 fun s45 =>
  sadd s45 ([60, 47]) fun s46 =>
  ∃ (x47 : Int), World.cell? w43 (p13.add 0) = some (.int .i64 x47) ∧ ((Calls Tryz.prog 86 ⟨[.int .i64 x47]⟩ w43 fun (e48 : Ending) (w49 : World) =>
  ∃ (x50 : List UInt8), e48 = .returned (.string ⟨⟨x50⟩⟩) ∧ (sadd s46 x50 fun s51 =>
  sadd s51 ([62]) fun s52 =>
  ∃ m53 : Nat, m53 < m6 ∧ I2 s52 (IntKind.i64.wrap (i_4 + 1)) w49 m53)) ∧ True))) ∧ ((Calls Tryz.prog 72 ⟨[.slice x41 x41n x41c]⟩ w38 fun (e54 : Ending) (w55 : World) =>
  ∃ (x56 : List UInt8), e54 = .returned (.string ⟨⟨x56⟩⟩) ∧ (sadd s40 x56 fun s57 =>
  sadd s57 ([60, 47]) fun s58 =>
  ∃ (x59 : Int), World.cell? w55 (p13.add 0) = some (.int .i64 x59) ∧ ((Calls Tryz.prog 86 ⟨[.int .i64 x59]⟩ w55 fun (e60 : Ending) (w61 : World) =>
  ∃ (x62 : List UInt8), e60 = .returned (.string ⟨⟨x62⟩⟩) ∧ (sadd s58 x62 fun s63 =>
  sadd s63 ([62]) fun s64 =>
  ∃ m65 : Nat, m65 < m6 ∧ I2 s64 (IntKind.i64.wrap (i_4 + 1)) w61 m65)) ∧ True))) ∧ (∃ (x66 : Int), World.cell? w38 (p13.add 0) = some (.int .i64 x66) ∧ ((Calls Tryz.prog 72 ⟨[.slice x41 x41n x41c]⟩ w38 fun (e67 : Ending) (w68 : World) =>
  ∃ (x69 : List UInt8), e67 = .returned (.string ⟨⟨x69⟩⟩) ∧ (sadd s40 x69 fun s70 =>
  sadd s70 ([60, 47]) fun s71 =>
  (Calls Tryz.prog 86 ⟨[.int .i64 x66]⟩ w68 fun (e72 : Ending) (w73 : World) =>
  ∃ (x74 : List UInt8), e72 = .returned (.string ⟨⟨x74⟩⟩) ∧ (sadd s71 x74 fun s75 =>
  sadd s75 ([62]) fun s76 =>
  ∃ m77 : Nat, m77 < m6 ∧ I2 s76 (IntKind.i64.wrap (i_4 + 1)) w73 m77)) ∧ True)) ∧ True)) ∧ True) ∧ True)))))) → K28 tag_29 w30) → (∃ (x78 : Int), World.cell? w27 (p13.add 0) = some (.int .i64 x78) ∧ (Calls Tryz.prog 88 ⟨[.int .i64 x78]⟩ w27 fun (e79 : Ending) (w80 : World) =>
  ∃ (x81 : Bool), e79 = .returned (.bool x81) ∧ (br x81 (sadd tag_26 ([32]) fun s82 =>
  ∃ (x83 : Int), World.cell? w80 (p13.add 2) = some (.int .i64 x83) ∧ (Calls Tryz.prog 89 ⟨[.int .i64 x83]⟩ w80 fun (e84 : Ending) (w85 : World) =>
  ∃ (x86 : List UInt8), e84 = .returned (.string ⟨⟨x86⟩⟩) ∧ (sadd s82 x86 fun s87 =>
  K28 s87 w85))) (K28 tag_26 w80)))))) → K25 tag_26 w27) → (∃ (x88 : Int), World.cell? w22 (p13.add 0) = some (.int .i64 x88) ∧ (Calls Tryz.prog 87 ⟨[.int .i64 x88]⟩ w22 fun (e89 : Ending) (w90 : World) =>
  ∃ (x91 : Bool), e89 = .returned (.bool x91) ∧ (br x91 (sadd s24 ([32]) fun s92 =>
  ∃ (x93 : List UInt8), World.cell? w90 (p13.add 1) = some (.string ⟨⟨x93⟩⟩) ∧ (sadd s92 x93 fun s94 =>
  K25 s94 w90)) (K25 s24 w90))))))))))))) (R (.returned (.string ⟨⟨out_3⟩⟩)) w5))
set_option maxRecDepth 100000 in
theorem e_ref10_print (l_1 : Option Addr) (l_1n : Nat) (l_1c : Nat) (R : Ending → World → Prop) (w : World) : fnV Tryz.prog Tryz.f72 an_ref10_print [.slice l_1 l_1n l_1c] R w = sh_ref10_print l_1 l_1n l_1c R w := by kernel_rfl
theorem c_ref10_print {l_1 : Option Addr} {l_1n : Nat} {l_1c : Nat} {R : Ending → World → Prop} {w : World} (h : sh_ref10_print l_1 l_1n l_1c R w) : Calls Tryz.prog F_ref10_print ⟨[.slice l_1 l_1n l_1c]⟩ w R := calls_of_fnV Tryz.func72 (by rw [e_ref10_print]; exact h)

def an_transcript_places_1 : Ann := .two (.leaf) (.two (.leaf) (.two (.leaf) (.leaf)))
def sh_transcript_places_1 (yield_1 : Fn) (yield_1a : Array Value) (yield_1b : Array Value) (t1_2 : Option Addr) (R : Ending → World → Prop) (w : World) : Prop :=
  al w 109 [.func yield_1 yield_1a yield_1b] fun p3 w4 =>
  al w4 46 [.nilFunc] fun p5 w6 =>
  stL w6 p5 0 [.func (.func 75) ⟨[]⟩ ⟨[.pointer (some p3), .pointer (some p5)]⟩] fun w7 =>
  ∃ (x8 : Fn) (x8a : Array Value) (x8b : Array Value), World.cell? w7 p5 = some (.func x8 x8a x8b) ∧ (dr t1_2 fun p9 =>
  ∃ (x10 : Option Addr) (x10n : Nat) (x10c : Nat), World.cell? w7 p9 = some (.slice x10 x10n x10c) ∧ (CallV Tryz.prog (.func x8 x8a x8b) [.slice x10 x10n x10c, .int .i64 0] w7 fun (e11 : Ending) (w12 : World) =>
  ∃ (x13 : Bool), e11 = .returned (.bool x13) ∧ (R (.returned (.tuple ⟨[]⟩)) w12)))
set_option maxRecDepth 100000 in
theorem e_transcript_places_1 (yield_1 : Fn) (yield_1a : Array Value) (yield_1b : Array Value) (t1_2 : Option Addr) (R : Ending → World → Prop) (w : World) : fnV Tryz.prog Tryz.f74 an_transcript_places_1 [.func yield_1 yield_1a yield_1b, .pointer t1_2] R w = sh_transcript_places_1 yield_1 yield_1a yield_1b t1_2 R w := by kernel_rfl
theorem c_transcript_places_1 {yield_1 : Fn} {yield_1a : Array Value} {yield_1b : Array Value} {t1_2 : Option Addr} {R : Ending → World → Prop} {w : World} (h : sh_transcript_places_1 yield_1 yield_1a yield_1b t1_2 R w) : Calls Tryz.prog F_transcript_places_1 ⟨[.func yield_1 yield_1a yield_1b, .pointer t1_2]⟩ w R := calls_of_fnV Tryz.func74 (by rw [e_transcript_places_1]; exact h)

def an_transcript_places_1_1 : Ann := .two (.leaf) (.two (.leaf) (.two (.two (.leaf) (.one (.loop 1099511624384 [(7, .one (.bool)), (12, .one (.int .i64))] (.two (.leaf) (.two (.two (.leaf) (.leaf)) (.two (.one (.two (.leaf) (.two (.two (.leaf) (.two (.two (.leaf) (.leaf)) (.leaf))) (.leaf)))) (.leaf))))))) (.two (.leaf) (.leaf))))
def sh_transcript_places_1_1 (l_1 : Option Addr) (l_1n : Nat) (l_1c : Nat) (depth_2 : Int) (t2_3 : Option Addr) (t3_4 : Option Addr) (R : Ending → World → Prop) (w : World) : Prop :=
  ∃ (I5 : Bool → Int → World → Nat → Prop), (∃ m10 : Nat, I5 false 0 w m10) ∧ ∀ (text_6 : Bool) (t12_7 : Int) (w8 : World) (m9 : Nat), I5 text_6 t12_7 w8 m9 → ∀ _ : Env, (br (decide ((t12_7 : Int) < ((l_1n : Int)))) (idx l_1 l_1n t12_7 4 fun p11 =>
  ∃ (x12 : Int), World.cell? w8 (p11.add 0) = some (.int .i64 x12) ∧ (∃ (x13 : List UInt8), World.cell? w8 (p11.add 1) = some (.string ⟨⟨x13⟩⟩) ∧ (∃ (x14 : Int), World.cell? w8 (p11.add 2) = some (.int .i64 x14) ∧ (∃ (x15 : Option Addr) (x15n : Nat) (x15c : Nat), World.cell? w8 (p11.add 3) = some (.slice x15 x15n x15c) ∧ (al w8 48 [.int .i64 0, .string ⟨⟨[]⟩⟩, .int .i64 0, .slice none 0 0] fun p16 w17 =>
  stL w17 p16 0 [.int .i64 x12, .string ⟨⟨x13⟩⟩, .int .i64 x14, .slice x15 x15n x15c] fun w18 =>
  dr t2_3 fun p19 =>
  ∃ (x20 : Fn) (x20a : Array Value) (x20b : Array Value), World.cell? w18 p19 = some (.func x20 x20a x20b) ∧ (∃ (x21 : Int), World.cell? w18 (p16.add 0) = some (.int .i64 x21) ∧ (∃ (x22 : List UInt8), World.cell? w18 (p16.add 1) = some (.string ⟨⟨x22⟩⟩) ∧ (∃ (x23 : Int), World.cell? w18 (p16.add 2) = some (.int .i64 x23) ∧ (∃ (x24 : Option Addr) (x24n : Nat) (x24c : Nat), World.cell? w18 (p16.add 3) = some (.slice x24 x24n x24c) ∧ (CallV Tryz.prog (.func x20 x20a x20b) [.agg ⟨[.int .i64 x21, .string ⟨⟨x22⟩⟩, .int .i64 x23, .slice x24 x24n x24c, .int .i64 depth_2, .bool text_6]⟩] w18 fun (e25 : Ending) (w26 : World) =>
  ∃ (x27 : Bool), e25 = .returned (.bool x27) ∧ (br (!x27) (R (.returned (.bool false)) w26) (br (decide ((depth_2 : Int) ≤ 16)) (dr t3_4 fun p28 =>
  ∃ (x29 : Fn) (x29a : Array Value) (x29b : Array Value), World.cell? w26 p28 = some (.func x29 x29a x29b) ∧ (∃ (x30 : Option Addr) (x30n : Nat) (x30c : Nat), World.cell? w26 (p16.add 3) = some (.slice x30 x30n x30c) ∧ (CallV Tryz.prog (.func x29 x29a x29b) [.slice x30 x30n x30c, .int .i64 (IntKind.i64.wrap (depth_2 + 1))] w26 fun (e31 : Ending) (w32 : World) =>
  ∃ (x33 : Bool), e31 = .returned (.bool x33) ∧ (br (!x33) (R (.returned (.bool false)) w32) (∃ (x34 : Int), World.cell? w32 (p16.add 0) = some (.int .i64 x34) ∧ (∃ m35 : Nat, m35 < m9 ∧ I5 (decide ((x34 : Int) = 1)) (IntKind.i64.wrap (t12_7 + 1)) w32 m35)))))) (∃ (x36 : Int), World.cell? w26 (p16.add 0) = some (.int .i64 x36) ∧ (∃ m37 : Nat, m37 < m9 ∧ I5 (decide ((x36 : Int) = 1)) (IntKind.i64.wrap (t12_7 + 1)) w26 m37)))))))))))))) (R (.returned (.bool true)) w8))
set_option maxRecDepth 100000 in
theorem e_transcript_places_1_1 (l_1 : Option Addr) (l_1n : Nat) (l_1c : Nat) (depth_2 : Int) (t2_3 : Option Addr) (t3_4 : Option Addr) (R : Ending → World → Prop) (w : World) : fnV Tryz.prog Tryz.f75 an_transcript_places_1_1 [.slice l_1 l_1n l_1c, .int .i64 depth_2, .pointer t2_3, .pointer t3_4] R w = sh_transcript_places_1_1 l_1 l_1n l_1c depth_2 t2_3 t3_4 R w := by kernel_rfl
theorem c_transcript_places_1_1 {l_1 : Option Addr} {l_1n : Nat} {l_1c : Nat} {depth_2 : Int} {t2_3 : Option Addr} {t3_4 : Option Addr} {R : Ending → World → Prop} {w : World} (h : sh_transcript_places_1_1 l_1 l_1n l_1c depth_2 t2_3 t3_4 R w) : Calls Tryz.prog F_transcript_places_1_1 ⟨[.slice l_1 l_1n l_1c, .int .i64 depth_2, .pointer t2_3, .pointer t3_4]⟩ w R := calls_of_fnV Tryz.func75 (by rw [e_transcript_places_1_1]; exact h)

def an_charset_Check : Ann := .two (.leaf) (.two (.two (.leaf) (.two (.two (.leaf) (.leaf)) (.leaf))) (.two (.two (.leaf) (.one (.rf [2, 10] 0))) (.two (.leaf) (.leaf))))
def sh_charset_Check (s_1 : List UInt8) (R : Ending → World → Prop) (w : World) : Prop :=
  al w 28 [.int .i64 0] fun p2 w3 =>
  br (decide ((65536 : Int) < ((List.length s_1 : Int)))) (stL w3 p2 0 [.int .i64 4] fun w4 =>
  ∃ (x5 : Int), World.cell? w4 p2 = some (.int .i64 x5) ∧ (R (.returned (.int .i64 x5)) w4)) (Calls Tryz.prog 91 ⟨[.string ⟨⟨s_1⟩⟩]⟩ w3 fun (e6 : Ending) (w7 : World) =>
  ∃ (x8 : Fn) (x8a : Array Value) (x8b : Array Value), e6 = .returned (.func x8 x8a x8b) ∧ (∀ base9 : Env, RFw Tryz.prog none 22 (cdAt Tryz.f76 [1, 1, 0, 1, 2]) (upd (upd base9 10 (.func x8 x8a x8b)) 2 (.pointer (some p2))) [] w7 0 (fun ds10 w11 =>
  stL w11 p2 0 [.int .i64 0] fun w15 =>
  retD ds10 w15 fun w16 =>
  ∃ (x17 : Int), World.cell? w16 p2 = some (.int .i64 x17) ∧ (R (.returned (.int .i64 x17)) w16)) (fun ds10 w11 =>
  retD ds10 w11 fun w18 =>
  ∃ (x19 : Int), World.cell? w18 p2 = some (.int .i64 x19) ∧ (R (.returned (.int .i64 x19)) w18)) (fun ds10 w11 =>
  stL w11 p2 0 [.int .i64 0] fun w12 =>
  retD ds10 w12 fun w13 =>
  ∃ (x14 : Int), World.cell? w13 p2 = some (.int .i64 x14) ∧ (R (.returned (.int .i64 x14)) w13))))
set_option maxRecDepth 100000 in
theorem e_charset_Check (s_1 : List UInt8) (R : Ending → World → Prop) (w : World) : fnV Tryz.prog Tryz.f76 an_charset_Check [.string ⟨⟨s_1⟩⟩] R w = sh_charset_Check s_1 R w := by kernel_rfl
theorem c_charset_Check {s_1 : List UInt8} {R : Ending → World → Prop} {w : World} (h : sh_charset_Check s_1 R w) : Calls Tryz.prog F_charset_Check ⟨[.string ⟨⟨s_1⟩⟩]⟩ w R := calls_of_fnV Tryz.func76 (by rw [e_charset_Check]; exact h)
def anA_charset_Check_1 : Ann := .leaf
def anB_charset_Check_1 : Ann := .one (.two (.leaf) (.two (.leaf) (.two (.two (.leaf) (.leaf)) (.leaf))))
def rf_charset_Check_1 (t2_20 : Option Addr) (t10_21 : Fn) (t10_21a : Array Value) (t10_21b : Array Value) (t11_22 : Value) (t12_23 : List UInt8) (l : Nat) (Kn Kr Kx : World → World → Prop) (w : World) : Prop :=
  Ext w w ∧ ∀ w24 : World, Upd l w w24 → (sidx t12_23 0 fun b25 =>
  Calls Tryz.prog 35 ⟨[.int .u8 ((b25.toNat : Int))]⟩ w24 fun (e26 : Ending) (w27 : World) =>
  ∃ (x28 : Int), e26 = .returned (.int .i64 x28) ∧ (br (decide ((x28 : Int) = 0)) (dr t2_20 fun p30 =>
  stL w27 p30 0 [.int .i64 11] fun w29 =>
  Kr w24 w29) (br (decide ((x28 : Int) = 2)) (dr t2_20 fun p32 =>
  stL w27 p32 0 [.int .i64 11] fun w31 =>
  Kr w24 w31) (Kn w24 w27))))
set_option maxRecDepth 100000 in
theorem er_charset_Check_1 (base : Env) (t2_20 : Option Addr) (t10_21 : Fn) (t10_21a : Array Value) (t10_21b : Array Value) (t11_22 : Value) (t12_23 : List UInt8) (l : Nat) (Kn Kr Kx : World → World → Prop) (w : World) : fragV Tryz.prog 22 anA_charset_Check_1 anB_charset_Check_1 (cdAt Tryz.f76 [1, 1, 0, 1, 2, 5]) (cdAt Tryz.f76 [1, 1, 0, 1, 2, 6]) l 0 Kn Kr Kx (updPs [11, 12] [t11_22, .string ⟨⟨t12_23⟩⟩] (upd (upd base 10 (.func t10_21 t10_21a t10_21b)) 2 (.pointer t2_20))) w = rf_charset_Check_1 t2_20 t10_21 t10_21a t10_21b t11_22 t12_23 l Kn Kr Kx w := by kernel_rfl
theorem cd_charset_Check_1 : cdAt Tryz.f76 [1, 1, 0, 1, 2] = .rangeFunc (Operand.tmp 10) #[11, 12] (cdAt Tryz.f76 [1, 1, 0, 1, 2, 5]) (cdAt Tryz.f76 [1, 1, 0, 1, 2, 6]) := by kernel_rfl

def an_charset_IsWord : Ann := .two (.leaf) (.cut 65524 [] (.two (.leaf) (.two (.two (.leaf) (.leaf)) (.leaf))) (.cut 33488908 [] (.two (.leaf) (.two (.leaf) (.two (.two (.leaf) (.leaf)) (.leaf)))) (.two (.leaf) (.leaf))))
def sh_charset_IsWord (s_1 : List UInt8) (R : Ending → World → Prop) (w : World) : Prop :=
  ∀ (K2 : World → Prop), (∀  (w3 : World), (∀ _ : Env, (∀ (K4 : World → Prop), (∀  (w5 : World), (∀ _ : Env, (s2b Tryz.prog w5 5 s_1 fun a6 a6n a6c w7 =>
  Calls Tryz.prog 92 ⟨[.slice a6 a6n a6c, .func (.func 93) #[] #[]]⟩ w7 fun (e8 : Ending) (w9 : World) =>
  ∃ (x10 : Bool), e8 = .returned (.bool x10) ∧ (R (.returned (.bool (!x10))) w9))) → K4 w5) → (sidx s_1 0 fun b11 =>
  Calls Tryz.prog 35 ⟨[.int .u8 ((b11.toNat : Int))]⟩ w3 fun (e12 : Ending) (w13 : World) =>
  ∃ (x14 : Int), e12 = .returned (.int .i64 x14) ∧ (br (decide ((x14 : Int) ≠ 1)) (br (decide ((x14 : Int) ≠ 3)) (R (.returned (.bool false)) w13) (K4 w13)) (K4 w13))))) → K2 w3) → (br (decide ((s_1 : List UInt8) = ([]))) (R (.returned (.bool false)) w) (br (decide ((64 : Int) < ((List.length s_1 : Int)))) (R (.returned (.bool false)) w) (Calls Tryz.prog 76 ⟨[.string ⟨⟨s_1⟩⟩]⟩ w fun (e15 : Ending) (w16 : World) =>
  ∃ (x17 : Int), e15 = .returned (.int .i64 x17) ∧ (br (decide ((x17 : Int) ≠ 0)) (R (.returned (.bool false)) w16) (K2 w16)))))
set_option maxRecDepth 100000 in
theorem e_charset_IsWord (s_1 : List UInt8) (R : Ending → World → Prop) (w : World) : fnV Tryz.prog Tryz.f77 an_charset_IsWord [.string ⟨⟨s_1⟩⟩] R w = sh_charset_IsWord s_1 R w := by kernel_rfl
theorem c_charset_IsWord {s_1 : List UInt8} {R : Ending → World → Prop} {w : World} (h : sh_charset_IsWord s_1 R w) : Calls Tryz.prog F_charset_IsWord ⟨[.string ⟨⟨s_1⟩⟩]⟩ w R := calls_of_fnV Tryz.func77 (by rw [e_charset_IsWord]; exact h)

def an_transcript_marked_1 : Ann := .two (.leaf) (.one (.loop 9007199254740576 [(9, .one (.int .i64))] (.two (.leaf) (.two (.two (.leaf) (.leaf)) (.two (.one (.two (.leaf) (.two (.leaf) (.one (.two (.leaf) (.two (.leaf) (.two (.leaf) (.two (.cut 8761733283840 [] (.leaf) (.two (.leaf) (.leaf))) (.leaf))))))))) (.leaf))))))
def sh_transcript_marked_1 (l_1 : Option Addr) (l_1n : Nat) (l_1c : Nat) (t1_2 : Option Addr) (t2_3 : Option Addr) (R : Ending → World → Prop) (w : World) : Prop :=
  ∃ (I4 : Int → World → Nat → Prop), (∃ m8 : Nat, I4 0 w m8) ∧ ∀ (t9_5 : Int) (w6 : World) (m7 : Nat), I4 t9_5 w6 m7 → ∀ _ : Env, (br (decide ((t9_5 : Int) < ((l_1n : Int)))) (idx l_1 l_1n t9_5 4 fun p9 =>
  ∃ (x10 : Int), World.cell? w6 (p9.add 0) = some (.int .i64 x10) ∧ (∃ (x11 : List UInt8), World.cell? w6 (p9.add 1) = some (.string ⟨⟨x11⟩⟩) ∧ (∃ (x12 : Int), World.cell? w6 (p9.add 2) = some (.int .i64 x12) ∧ (∃ (x13 : Option Addr) (x13n : Nat) (x13c : Nat), World.cell? w6 (p9.add 3) = some (.slice x13 x13n x13c) ∧ (al w6 48 [.int .i64 0, .string ⟨⟨[]⟩⟩, .int .i64 0, .slice none 0 0] fun p14 w15 =>
  stL w15 p14 0 [.int .i64 x10, .string ⟨⟨x11⟩⟩, .int .i64 x12, .slice x13 x13n x13c] fun w16 =>
  ∃ (x17 : Int), World.cell? w16 (p14.add 0) = some (.int .i64 x17) ∧ (idx (some (⟨0, 0, none⟩)) 12 x17 4 fun p18 =>
  ∃ (x19 : List UInt8), World.cell? w16 (p18.add 0) = some (.string ⟨⟨x19⟩⟩) ∧ (∃ (x20 : Bool), World.cell? w16 (p18.add 1) = some (.bool x20) ∧ (∃ (x21 : Bool), World.cell? w16 (p18.add 2) = some (.bool x21) ∧ (∃ (x22 : Bool), World.cell? w16 (p18.add 3) = some (.bool x22) ∧ (al w16 111 [.string ⟨⟨[]⟩⟩, .bool false, .bool false, .bool false] fun p23 w24 =>
  stL w24 p23 0 [.string ⟨⟨x19⟩⟩, .bool x20, .bool x21, .bool x22] fun w25 =>
  ∃ (x26 : Int), World.cell? w25 (p14.add 0) = some (.int .i64 x26) ∧ (br (decide ((x26 : Int) = 1)) (∃ (x27 : List UInt8), World.cell? w25 (p14.add 1) = some (.string ⟨⟨x27⟩⟩) ∧ (Calls Tryz.prog 53 ⟨[.pointer t1_2, .string ⟨⟨x27⟩⟩]⟩ w25 fun (e28 : Ending) (w29 : World) =>
  ∃ (x30 : Int) (x31 : Value), e28 = .returned (.tuple ⟨[.int .i64 x30, x31]⟩) ∧ (∃ m32 : Nat, m32 < m7 ∧ I4 (IntKind.i64.wrap (t9_5 + 1)) w29 m32))) (∃ (x33 : Bool), World.cell? w25 (p23.add 3) = some (.bool x33) ∧ (br x33 (∀ (K34 : World → Prop), (∀  (w35 : World), (∀ _ : Env, (dr t2_3 fun p36 =>
  ∃ (x37 : Fn) (x37a : Array Value) (x37b : Array Value), World.cell? w35 p36 = some (.func x37 x37a x37b) ∧ (∃ (x38 : Option Addr) (x38n : Nat) (x38c : Nat), World.cell? w35 (p14.add 3) = some (.slice x38 x38n x38c) ∧ (CallV Tryz.prog (.func x37 x37a x37b) [.slice x38 x38n x38c] w35 fun (e39 : Ending) (w40 : World) =>
  e39 = .returned (.tuple ⟨[]⟩) ∧ (∃ (x41 : List UInt8), World.cell? w40 (p23.add 0) = some (.string ⟨⟨x41⟩⟩) ∧ (sadd ([60, 47]) x41 fun s42 =>
  sadd s42 ([62]) fun s43 =>
  Calls Tryz.prog 53 ⟨[.pointer t1_2, .string ⟨⟨s43⟩⟩]⟩ w40 fun (e44 : Ending) (w45 : World) =>
  ∃ (x46 : Int) (x47 : Value), e44 = .returned (.tuple ⟨[.int .i64 x46, x47]⟩) ∧ (∃ m48 : Nat, m48 < m7 ∧ I4 (IntKind.i64.wrap (t9_5 + 1)) w45 m48))))))) → K34 w35) → (drw w25 fun w49 =>
  (∃ (x50 : List UInt8), World.cell? w49 (p23.add 0) = some (.string ⟨⟨x50⟩⟩) ∧ (sadd ([60]) x50 fun s51 =>
  ∃ (x52 : Int), World.cell? w49 (p14.add 0) = some (.int .i64 x52) ∧ (∃ (x53 : List UInt8), World.cell? w49 (p14.add 1) = some (.string ⟨⟨x53⟩⟩) ∧ (∃ (x54 : Int), World.cell? w49 (p14.add 2) = some (.int .i64 x54) ∧ (∃ (x55 : Option Addr) (x55n : Nat) (x55c : Nat), World.cell? w49 (p14.add 3) = some (.slice x55 x55n x55c) ∧ ((Calls Tryz.prog 79 ⟨[.agg ⟨[.int .i64 x52, .string ⟨⟨x53⟩⟩, .int .i64 x54, .slice x55 x55n x55c]⟩]⟩ w49 fun (e56 : Ending) (w57 : World) =>
  ∃ (x58 : List UInt8), e56 = .returned (.string ⟨⟨x58⟩⟩) ∧ (sadd s51 x58 fun s59 =>
  sadd s59 ([62]) fun s60 =>
  (Calls Tryz.prog 53 ⟨[.pointer t1_2, .string ⟨⟨s60⟩⟩]⟩ w57 fun (e61 : Ending) (w62 : World) =>
  ∃ (x63 : Int) (x64 : Value), e61 = .returned (.tuple ⟨[.int .i64 x63, x64]⟩) ∧ (K34 w62)) ∧ True)) ∧ True)))))) ∧ (∃ (x65 : Int), World.cell? w49 (p14.add 0) = some (.int .i64 x65) ∧ (∃ (x66 : List UInt8), World.cell? w49 (p14.add 1) = some (.string ⟨⟨x66⟩⟩) ∧ (∃ (x67 : Int), World.cell? w49 (p14.add 2) = some (.int .i64 x67) ∧ (∃ (x68 : Option Addr) (x68n : Nat) (x68c : Nat), World.cell? w49 (p14.add 3) = some (.slice x68 x68n x68c) ∧ ((∃ (x69 : List UInt8), World.cell? w49 (p23.add 0) = some (.string ⟨⟨x69⟩⟩) ∧ (sadd ([60]) x69 fun s70 =>
  (Calls Tryz.prog 79 ⟨[.agg ⟨[.int .i64 x65, .string ⟨⟨x66⟩⟩, .int .i64 x67, .slice x68 x68n x68c]⟩]⟩ w49 fun (e71 : Ending) (w72 : World) =>
  ∃ (x73 : List UInt8), e71 = .returned (.string ⟨⟨x73⟩⟩) ∧ (sadd s70 x73 fun s74 =>
  sadd s74 ([62]) fun s75 =>
  (Calls Tryz.prog 53 ⟨[.pointer t1_2, .string ⟨⟨s75⟩⟩]⟩ w72 fun (e76 : Ending) (w77 : World) =>
  ∃ (x78 : Int) (x79 : Value), e76 = .returned (.tuple ⟨[.int .i64 x78, x79]⟩) ∧ (K34 w77)) ∧ True)) ∧ True)) ∧ (Calls Tryz.prog 79 ⟨[.agg ⟨[.int .i64 x65, .string ⟨⟨x66⟩⟩, .int .i64 x67, .slice x68 x68n x68c]⟩]⟩ w49 fun (e80 : Ending) (w81 : World) =>
  ∃ (x82 : List UInt8), e80 = .returned (.string ⟨⟨x82⟩⟩) ∧ (∃ (x83 : List UInt8), World.cell? w81 (p23.add 0) = some (.string ⟨⟨x83⟩⟩) ∧ (sadd ([60]) x83 fun s84 =>
  sadd s84 x82 fun s85 =>
  sadd s85 ([62]) fun s86 =>
  (Calls Tryz.prog 53 ⟨[.pointer t1_2, .string ⟨⟨s86⟩⟩]⟩ w81 fun (e87 : Ending) (w88 : World) =>
  ∃ (x89 : Int) (x90 : Value), e87 = .returned (.tuple ⟨[.int .i64 x89, x90]⟩) ∧ (K34 w88)) ∧ True))) ∧ True))))) ∧ True)) (drw w25 fun w91 =>
  (∃ (x92 : List UInt8), World.cell? w91 (p23.add 0) = some (.string ⟨⟨x92⟩⟩) ∧ (sadd ([60]) x92 fun s93 =>
  ∃ (x94 : Int), World.cell? w91 (p14.add 0) = some (.int .i64 x94) ∧ (∃ (x95 : List UInt8), World.cell? w91 (p14.add 1) = some (.string ⟨⟨x95⟩⟩) ∧ (∃ (x96 : Int), World.cell? w91 (p14.add 2) = some (.int .i64 x96) ∧ (∃ (x97 : Option Addr) (x97n : Nat) (x97c : Nat), World.cell? w91 (p14.add 3) = some (.slice x97 x97n x97c) ∧ ((Calls Tryz.prog 79 ⟨[.agg ⟨[.int .i64 x94, .string ⟨⟨x95⟩⟩, .int .i64 x96, .slice x97 x97n x97c]⟩]⟩ w91 fun (e98 : Ending) (w99 : World) =>
  ∃ (x100 : List UInt8), e98 = .returned (.string ⟨⟨x100⟩⟩) ∧ (sadd s93 x100 fun s101 =>
  sadd s101 ([47, 62]) fun s102 =>
  (Calls Tryz.prog 53 ⟨[.pointer t1_2, .string ⟨⟨s102⟩⟩]⟩ w99 fun (e103 : Ending) (w104 : World) =>
  ∃ (x105 : Int) (x106 : Value), e103 = .returned (.tuple ⟨[.int .i64 x105, x106]⟩) ∧ (∃ m107 : Nat, m107 < m7 ∧ I4 (IntKind.i64.wrap (t9_5 + 1)) w104 m107)) ∧ True)) ∧ True)))))) ∧ (∃ (x108 : Int), World.cell? w91 (p14.add 0) = some (.int .i64 x108) ∧ (∃ (x109 : List UInt8), World.cell? w91 (p14.add 1) = some (.string ⟨⟨x109⟩⟩) ∧ (∃ (x110 : Int), World.cell? w91 (p14.add 2) = some (.int .i64 x110) ∧ (∃ (x111 : Option Addr) (x111n : Nat) (x111c : Nat), World.cell? w91 (p14.add 3) = some (.slice x111 x111n x111c) ∧ ((∃ (x112 : List UInt8), World.cell? w91 (p23.add 0) = some (.string ⟨⟨x112⟩⟩) ∧ (sadd ([60]) x112 fun s113 =>
  (Calls Tryz.prog 79 ⟨[.agg ⟨[.int .i64 x108, .string ⟨⟨x109⟩⟩, .int .i64 x110, .slice x111 x111n x111c]⟩]⟩ w91 fun (e114 : Ending) (w115 : World) =>
  ∃ (x116 : List UInt8), e114 = .returned (.string ⟨⟨x116⟩⟩) ∧ (sadd s113 x116 fun s117 =>
  sadd s117 ([47, 62]) fun s118 =>
  (Calls Tryz.prog 53 ⟨[.pointer t1_2, .string ⟨⟨s118⟩⟩]⟩ w115 fun (e119 : Ending) (w120 : World) =>
  ∃ (x121 : Int) (x122 : Value), e119 = .returned (.tuple ⟨[.int .i64 x121, x122]⟩) ∧ (∃ m123 : Nat, m123 < m7 ∧ I4 (IntKind.i64.wrap (t9_5 + 1)) w120 m123)) ∧ True)) ∧ True)) ∧ (Calls Tryz.prog 79 ⟨[.agg ⟨[.int .i64 x108, .string ⟨⟨x109⟩⟩, .int .i64 x110, .slice x111 x111n x111c]⟩]⟩ w91 fun (e124 : Ending) (w125 : World) =>
  ∃ (x126 : List UInt8), e124 = .returned (.string ⟨⟨x126⟩⟩) ∧ (∃ (x127 : List UInt8), World.cell? w125 (p23.add 0) = some (.string ⟨⟨x127⟩⟩) ∧ (sadd ([60]) x127 fun s128 =>
  sadd s128 x126 fun s129 =>
  sadd s129 ([47, 62]) fun s130 =>
  (Calls Tryz.prog 53 ⟨[.pointer t1_2, .string ⟨⟨s130⟩⟩]⟩ w125 fun (e131 : Ending) (w132 : World) =>
  ∃ (x133 : Int) (x134 : Value), e131 = .returned (.tuple ⟨[.int .i64 x133, x134]⟩) ∧ (∃ m135 : Nat, m135 < m7 ∧ I4 (IntKind.i64.wrap (t9_5 + 1)) w132 m135)) ∧ True))) ∧ True))))) ∧ True)))))))))))))) (R (.returned (.tuple ⟨[]⟩)) w6))
set_option maxRecDepth 100000 in
theorem e_transcript_marked_1 (l_1 : Option Addr) (l_1n : Nat) (l_1c : Nat) (t1_2 : Option Addr) (t2_3 : Option Addr) (R : Ending → World → Prop) (w : World) : fnV Tryz.prog Tryz.f78 an_transcript_marked_1 [.slice l_1 l_1n l_1c, .pointer t1_2, .pointer t2_3] R w = sh_transcript_marked_1 l_1 l_1n l_1c t1_2 t2_3 R w := by kernel_rfl
theorem c_transcript_marked_1 {l_1 : Option Addr} {l_1n : Nat} {l_1c : Nat} {t1_2 : Option Addr} {t2_3 : Option Addr} {R : Ending → World → Prop} {w : World} (h : sh_transcript_marked_1 l_1 l_1n l_1c t1_2 t2_3 R w) : Calls Tryz.prog F_transcript_marked_1 ⟨[.slice l_1 l_1n l_1c, .pointer t1_2, .pointer t2_3]⟩ w R := calls_of_fnV Tryz.func78 (by rw [e_transcript_marked_1]; exact h)

def an_transcript_value : Ann := .two (.leaf) (.two (.leaf) (.two (.one (.two (.leaf) (.two (.two (.leaf) (.leaf)) (.two (.leaf) (.two (.two (.leaf) (.leaf)) (.leaf)))))) (.two (.leaf) (.leaf))))
def sh_transcript_value (x_1 : Int) (x_2 : List UInt8) (x_3 : Int) (x_4 : Option Addr) (x_4n : Nat) (x_4c : Nat) (R : Ending → World → Prop) (w : World) : Prop :=
  al w 48 [.int .i64 x_1, .string ⟨⟨x_2⟩⟩, .int .i64 x_3, .slice x_4 x_4n x_4c] fun p5 w6 =>
  ∃ (x7 : Int), World.cell? w6 (p5.add 0) = some (.int .i64 x7) ∧ (idx (some (⟨0, 0, none⟩)) 12 x7 4 fun p8 =>
  ∃ (x9 : List UInt8), World.cell? w6 (p8.add 0) = some (.string ⟨⟨x9⟩⟩) ∧ (∃ (x10 : Bool), World.cell? w6 (p8.add 1) = some (.bool x10) ∧ (∃ (x11 : Bool), World.cell? w6 (p8.add 2) = some (.bool x11) ∧ (∃ (x12 : Bool), World.cell? w6 (p8.add 3) = some (.bool x12) ∧ (al w6 111 [.string ⟨⟨[]⟩⟩, .bool false, .bool false, .bool false] fun p13 w14 =>
  stL w14 p13 0 [.string ⟨⟨x9⟩⟩, .bool x10, .bool x11, .bool x12] fun w15 =>
  ∃ (x16 : Bool), World.cell? w15 (p13.add 1) = some (.bool x16) ∧ (br x16 (∃ (x17 : List UInt8), World.cell? w15 (p5.add 1) = some (.string ⟨⟨x17⟩⟩) ∧ (sadd ([32]) x17 fun s18 =>
  R (.returned (.string ⟨⟨s18⟩⟩)) w15)) (∃ (x19 : Bool), World.cell? w15 (p13.add 2) = some (.bool x19) ∧ (br x19 (∃ (x20 : Int), World.cell? w15 (p5.add 2) = some (.int .i64 x20) ∧ (Calls Tryz.prog 89 ⟨[.int .i64 x20]⟩ w15 fun (e21 : Ending) (w22 : World) =>
  ∃ (x23 : List UInt8), e21 = .returned (.string ⟨⟨x23⟩⟩) ∧ (sadd ([32]) x23 fun s24 =>
  R (.returned (.string ⟨⟨s24⟩⟩)) w22))) (R (.returned (.string ⟨⟨[]⟩⟩)) w15)))))))))
set_option maxRecDepth 100000 in
theorem e_transcript_value (x_1 : Int) (x_2 : List UInt8) (x_3 : Int) (x_4 : Option Addr) (x_4n : Nat) (x_4c : Nat) (R : Ending → World → Prop) (w : World) : fnV Tryz.prog Tryz.f79 an_transcript_value [.agg ⟨[.int .i64 x_1, .string ⟨⟨x_2⟩⟩, .int .i64 x_3, .slice x_4 x_4n x_4c]⟩] R w = sh_transcript_value x_1 x_2 x_3 x_4 x_4n x_4c R w := by kernel_rfl
theorem c_transcript_value {x_1 : Int} {x_2 : List UInt8} {x_3 : Int} {x_4 : Option Addr} {x_4n : Nat} {x_4c : Nat} {R : Ending → World → Prop} {w : World} (h : sh_transcript_value x_1 x_2 x_3 x_4 x_4n x_4c R w) : Calls Tryz.prog F_transcript_value ⟨[.agg ⟨[.int .i64 x_1, .string ⟨⟨x_2⟩⟩, .int .i64 x_3, .slice x_4 x_4n x_4c]⟩]⟩ w R := calls_of_fnV Tryz.func79 (by rw [e_transcript_value]; exact h)

def an_ref10_single : Ann := .two (.leaf) (.cut 562949953421248 [] (.two (.leaf) (.two (.two (.leaf) (.leaf)) (.leaf))) (.cut 295147342229399404608 [] (.two (.leaf) (.two (.two (.leaf) (.leaf)) (.leaf))) (.two (.two (.leaf) (.one (.two (.leaf) (.two (.two (.two (.leaf) (.two (.two (.leaf) (.leaf)) (.leaf))) (.two (.leaf) (.two (.two (.leaf) (.leaf)) (.leaf)))) (.cut 2266735911777429702574080 [(77, .one (.bool))] (.two (.leaf) (.two (.leaf) (.two (.leaf) (.two (.leaf) (.leaf))))) (.two (.two (.two (.leaf) (.two (.two (.leaf) (.leaf)) (.leaf))) (.two (.leaf) (.two (.two (.leaf) (.leaf)) (.leaf)))) (.two (.leaf) (.two (.two (.leaf) (.two (.two (.leaf) (.leaf)) (.leaf))) (.two (.leaf) (.two (.two (.leaf) (.two (.two (.leaf) (.leaf)) (.leaf))) (.cut 1135814937804493543741046072016896 [(107, .one (.bool))] (.two (.leaf) (.two (.leaf) (.leaf))) (.two (.two (.leaf) (.two (.two (.leaf) (.leaf)) (.leaf))) (.leaf))))))))))))) (.two (.leaf) (.leaf)))))
def sh_ref10_single (x_1 : Int) (x_2 : List UInt8) (x_3 : Int) (x_4 : Option Addr) (x_4n : Nat) (x_4c : Nat) (before_5 : Bool) (within_6 : Bool) (R : Ending → World → Prop) (w : World) : Prop :=
  al w 48 [.int .i64 x_1, .string ⟨⟨x_2⟩⟩, .int .i64 x_3, .slice x_4 x_4n x_4c] fun p7 w8 =>
  ∀ (K9 : World → Prop), (∀  (w10 : World), (∀ _ : Env, (∀ (K11 : World → Prop), (∀  (w12 : World), (∀ _ : Env, (∃ (x13 : Int), World.cell? w12 (p7.add 0) = some (.int .i64 x13) ∧ (br (decide ((x13 : Int) = 1)) (∃ (x14 : List UInt8), World.cell? w12 (p7.add 1) = some (.string ⟨⟨x14⟩⟩) ∧ (Calls Tryz.prog 95 ⟨[.string ⟨⟨x14⟩⟩]⟩ w12 fun (e15 : Ending) (w16 : World) =>
  ∃ (x17 : Int), e15 = .returned (.int .i64 x17) ∧ (br (decide ((x17 : Int) ≠ 0)) (R (.returned (.int .i64 11)) w16) (br before_5 (R (.returned (.int .i64 10)) w16) (R (.returned (.int .i64 0)) w16))))) (∀ (K18 : Bool → World → Prop), (∀ (t77_19 : Bool) (w20 : World), (∀ _ : Env, (br t77_19 (∃ (x21 : List UInt8), World.cell? w20 (p7.add 1) = some (.string ⟨⟨x21⟩⟩) ∧ (Calls Tryz.prog 96 ⟨[.string ⟨⟨x21⟩⟩]⟩ w20 fun (e22 : Ending) (w23 : World) =>
  ∃ (x24 : Bool), e22 = .returned (.bool x24) ∧ (br (!x24) (R (.returned (.int .i64 14)) w23) (br within_6 (∃ (x25 : Int), World.cell? w23 (p7.add 0) = some (.int .i64 x25) ∧ (br (decide ((x25 : Int) = 4)) (R (.returned (.int .i64 12)) w23) (R (.returned (.int .i64 0)) w23))) (R (.returned (.int .i64 0)) w23))))) (br (decide ((x13 : Int) = 10)) (∃ (x26 : List UInt8), World.cell? w20 (p7.add 1) = some (.string ⟨⟨x26⟩⟩) ∧ (Calls Tryz.prog 97 ⟨[.string ⟨⟨x26⟩⟩]⟩ w20 fun (e27 : Ending) (w28 : World) =>
  ∃ (x29 : Bool), e27 = .returned (.bool x29) ∧ (br (!x29) (R (.returned (.int .i64 14)) w28) (R (.returned (.int .i64 0)) w28)))) (br (decide ((x13 : Int) = 6)) (∃ (x30 : Int), World.cell? w20 (p7.add 2) = some (.int .i64 x30) ∧ (br (decide ((x30 : Int) < 1)) (R (.returned (.int .i64 2)) w20) (∃ (x31 : Int), World.cell? w20 (p7.add 2) = some (.int .i64 x31) ∧ (br (decide ((64 : Int) < x31)) (R (.returned (.int .i64 2)) w20) (R (.returned (.int .i64 0)) w20))))) (∀ (K32 : Bool → World → Prop), (∀ (t107_33 : Bool) (w34 : World), (∀ _ : Env, (br t107_33 (∃ (x35 : Int), World.cell? w34 (p7.add 2) = some (.int .i64 x35) ∧ (br (decide ((x35 : Int) < 1)) (R (.returned (.int .i64 2)) w34) (∃ (x36 : Int), World.cell? w34 (p7.add 2) = some (.int .i64 x36) ∧ (br (decide ((8 : Int) < x36)) (R (.returned (.int .i64 2)) w34) (R (.returned (.int .i64 0)) w34))))) (R (.returned (.int .i64 0)) w34))) → K32 t107_33 w34) → (br (decide ((x13 : Int) = 8)) (K32 (decide ((x13 : Int) = 8)) w20) (K32 (decide ((x13 : Int) = 9)) w20))))))) → K18 t77_19 w20) → (br (decide ((x13 : Int) = 3)) (K18 (decide ((x13 : Int) = 3)) w12) (br (decide ((x13 : Int) = 4)) (K18 (decide ((x13 : Int) = 4)) w12) (K18 (decide ((x13 : Int) = 11)) w12))))))) → K11 w12) → (∃ (x37 : Int), World.cell? w10 (p7.add 0) = some (.int .i64 x37) ∧ (br (decide ((x37 : Int) = 1)) (∃ (x38 : List UInt8), World.cell? w10 (p7.add 1) = some (.string ⟨⟨x38⟩⟩) ∧ (br (decide ((x38 : List UInt8) = ([]))) (R (.returned (.int .i64 5)) w10) (∃ (x39 : Int), World.cell? w10 (p7.add 0) = some (.int .i64 x39) ∧ (Calls Tryz.prog 90 ⟨[.int .i64 x39]⟩ w10 fun (e40 : Ending) (w41 : World) =>
  ∃ (x42 : Bool), e40 = .returned (.bool x42) ∧ (br x42 (∃ (x43 : Option Addr) (x43n : Nat) (x43c : Nat), World.cell? w41 (p7.add 3) = some (.slice x43 x43n x43c) ∧ (br (decide ((((x43n : Int)) : Int) = 0)) (R (.returned (.int .i64 5)) w41) (K11 w41))) (K11 w41)))))) (∃ (x44 : Int), World.cell? w10 (p7.add 0) = some (.int .i64 x44) ∧ (Calls Tryz.prog 90 ⟨[.int .i64 x44]⟩ w10 fun (e45 : Ending) (w46 : World) =>
  ∃ (x47 : Bool), e45 = .returned (.bool x47) ∧ (br x47 (∃ (x48 : Option Addr) (x48n : Nat) (x48c : Nat), World.cell? w46 (p7.add 3) = some (.slice x48 x48n x48c) ∧ (br (decide ((((x48n : Int)) : Int) = 0)) (R (.returned (.int .i64 5)) w46) (K11 w46))) (K11 w46)))))))) → K9 w10) → (∃ (x49 : Int), World.cell? w8 (p7.add 0) = some (.int .i64 x49) ∧ (br (decide ((x49 : Int) < 1)) (R (.returned (.int .i64 8)) w8) (∃ (x50 : Int), World.cell? w8 (p7.add 0) = some (.int .i64 x50) ∧ (br (decide ((11 : Int) < x50)) (R (.returned (.int .i64 8)) w8) (∃ (x51 : List UInt8), World.cell? w8 (p7.add 1) = some (.string ⟨⟨x51⟩⟩) ∧ (br (decide ((x51 : List UInt8) ≠ ([]))) (∃ (x52 : Int), World.cell? w8 (p7.add 0) = some (.int .i64 x52) ∧ (Calls Tryz.prog 87 ⟨[.int .i64 x52]⟩ w8 fun (e53 : Ending) (w54 : World) =>
  ∃ (x55 : Bool), e53 = .returned (.bool x55) ∧ (br (!x55) (R (.returned (.int .i64 8)) w54) (∃ (x56 : Int), World.cell? w54 (p7.add 2) = some (.int .i64 x56) ∧ (br (decide ((x56 : Int) ≠ 0)) (∃ (x57 : Int), World.cell? w54 (p7.add 0) = some (.int .i64 x57) ∧ (Calls Tryz.prog 88 ⟨[.int .i64 x57]⟩ w54 fun (e58 : Ending) (w59 : World) =>
  ∃ (x60 : Bool), e58 = .returned (.bool x60) ∧ (br (!x60) (R (.returned (.int .i64 8)) w59) (∃ (x61 : Option Addr) (x61n : Nat) (x61c : Nat), World.cell? w59 (p7.add 3) = some (.slice x61 x61n x61c) ∧ (br (decide ((0 : Int) < ((x61n : Int)))) (∃ (x62 : Int), World.cell? w59 (p7.add 0) = some (.int .i64 x62) ∧ (Calls Tryz.prog 90 ⟨[.int .i64 x62]⟩ w59 fun (e63 : Ending) (w64 : World) =>
  ∃ (x65 : Bool), e63 = .returned (.bool x65) ∧ (br (!x65) (R (.returned (.int .i64 8)) w64) (K9 w64)))) (K9 w59)))))) (∃ (x66 : Option Addr) (x66n : Nat) (x66c : Nat), World.cell? w54 (p7.add 3) = some (.slice x66 x66n x66c) ∧ (br (decide ((0 : Int) < ((x66n : Int)))) (∃ (x67 : Int), World.cell? w54 (p7.add 0) = some (.int .i64 x67) ∧ (Calls Tryz.prog 90 ⟨[.int .i64 x67]⟩ w54 fun (e68 : Ending) (w69 : World) =>
  ∃ (x70 : Bool), e68 = .returned (.bool x70) ∧ (br (!x70) (R (.returned (.int .i64 8)) w69) (K9 w69)))) (K9 w54)))))))) (∃ (x71 : Int), World.cell? w8 (p7.add 2) = some (.int .i64 x71) ∧ (br (decide ((x71 : Int) ≠ 0)) (∃ (x72 : Int), World.cell? w8 (p7.add 0) = some (.int .i64 x72) ∧ (Calls Tryz.prog 88 ⟨[.int .i64 x72]⟩ w8 fun (e73 : Ending) (w74 : World) =>
  ∃ (x75 : Bool), e73 = .returned (.bool x75) ∧ (br (!x75) (R (.returned (.int .i64 8)) w74) (∃ (x76 : Option Addr) (x76n : Nat) (x76c : Nat), World.cell? w74 (p7.add 3) = some (.slice x76 x76n x76c) ∧ (br (decide ((0 : Int) < ((x76n : Int)))) (∃ (x77 : Int), World.cell? w74 (p7.add 0) = some (.int .i64 x77) ∧ (Calls Tryz.prog 90 ⟨[.int .i64 x77]⟩ w74 fun (e78 : Ending) (w79 : World) =>
  ∃ (x80 : Bool), e78 = .returned (.bool x80) ∧ (br (!x80) (R (.returned (.int .i64 8)) w79) (K9 w79)))) (K9 w74)))))) (∃ (x81 : Option Addr) (x81n : Nat) (x81c : Nat), World.cell? w8 (p7.add 3) = some (.slice x81 x81n x81c) ∧ (br (decide ((0 : Int) < ((x81n : Int)))) (∃ (x82 : Int), World.cell? w8 (p7.add 0) = some (.int .i64 x82) ∧ (Calls Tryz.prog 90 ⟨[.int .i64 x82]⟩ w8 fun (e83 : Ending) (w84 : World) =>
  ∃ (x85 : Bool), e83 = .returned (.bool x85) ∧ (br (!x85) (R (.returned (.int .i64 8)) w84) (K9 w84)))) (K9 w8)))))))))))
set_option maxRecDepth 100000 in
theorem e_ref10_single (x_1 : Int) (x_2 : List UInt8) (x_3 : Int) (x_4 : Option Addr) (x_4n : Nat) (x_4c : Nat) (before_5 : Bool) (within_6 : Bool) (R : Ending → World → Prop) (w : World) : fnV Tryz.prog Tryz.f85 an_ref10_single [.agg ⟨[.int .i64 x_1, .string ⟨⟨x_2⟩⟩, .int .i64 x_3, .slice x_4 x_4n x_4c]⟩, .bool before_5, .bool within_6] R w = sh_ref10_single x_1 x_2 x_3 x_4 x_4n x_4c before_5 within_6 R w := by kernel_rfl
theorem c_ref10_single {x_1 : Int} {x_2 : List UInt8} {x_3 : Int} {x_4 : Option Addr} {x_4n : Nat} {x_4c : Nat} {before_5 : Bool} {within_6 : Bool} {R : Ending → World → Prop} {w : World} (h : sh_ref10_single x_1 x_2 x_3 x_4 x_4n x_4c before_5 within_6 R w) : Calls Tryz.prog F_ref10_single ⟨[.agg ⟨[.int .i64 x_1, .string ⟨⟨x_2⟩⟩, .int .i64 x_3, .slice x_4 x_4n x_4c]⟩, .bool before_5, .bool within_6]⟩ w R := calls_of_fnV Tryz.func85 (by rw [e_ref10_single]; exact h)

def an_ref10_name : Ann := .two (.leaf) (.two (.leaf) (.leaf))
def sh_ref10_name (kind_1 : Int) (R : Ending → World → Prop) (w : World) : Prop :=
  al w 9 [.string ⟨⟨[]⟩⟩, .string ⟨⟨[]⟩⟩, .string ⟨⟨[108, 98]⟩⟩, .string ⟨⟨[112, 98]⟩⟩, .string ⟨⟨[115, 101, 99]⟩⟩, .string ⟨⟨[118]⟩⟩, .string ⟨⟨[103, 97, 112]⟩⟩, .string ⟨⟨[117, 110, 99, 108, 101, 97, 114]⟩⟩, .string ⟨⟨[97, 100, 100]⟩⟩, .string ⟨⟨[100, 101, 108]⟩⟩, .string ⟨⟨[97, 98]⟩⟩, .string ⟨⟨[110, 97, 109, 101]⟩⟩] fun p2 w3 =>
  idx (some p2) 12 kind_1 1 fun p4 =>
  ∃ (x5 : List UInt8), World.cell? w3 p4 = some (.string ⟨⟨x5⟩⟩) ∧ (R (.returned (.string ⟨⟨x5⟩⟩)) w3)
set_option maxRecDepth 100000 in
theorem e_ref10_name (kind_1 : Int) (R : Ending → World → Prop) (w : World) : fnV Tryz.prog Tryz.f86 an_ref10_name [.int .i64 kind_1] R w = sh_ref10_name kind_1 R w := by kernel_rfl
theorem c_ref10_name {kind_1 : Int} {R : Ending → World → Prop} {w : World} (h : sh_ref10_name kind_1 R w) : Calls Tryz.prog F_ref10_name ⟨[.int .i64 kind_1]⟩ w R := calls_of_fnV Tryz.func86 (by rw [e_ref10_name]; exact h)

def an_ref10_texts : Ann := .two (.leaf) (.two (.leaf) (.leaf))
def sh_ref10_texts (kind_1 : Int) (R : Ending → World → Prop) (w : World) : Prop :=
  br (decide ((kind_1 : Int) = 1)) (R (.returned (.bool true)) w) (br (decide ((kind_1 : Int) = 3)) (R (.returned (.bool true)) w) (br (decide ((kind_1 : Int) = 4)) (R (.returned (.bool true)) w) (br (decide ((kind_1 : Int) = 10)) (R (.returned (.bool true)) w) (R (.returned (.bool (decide ((kind_1 : Int) = 11)))) w))))
set_option maxRecDepth 100000 in
theorem e_ref10_texts (kind_1 : Int) (R : Ending → World → Prop) (w : World) : fnV Tryz.prog Tryz.f87 an_ref10_texts [.int .i64 kind_1] R w = sh_ref10_texts kind_1 R w := by kernel_rfl
theorem c_ref10_texts {kind_1 : Int} {R : Ending → World → Prop} {w : World} (h : sh_ref10_texts kind_1 R w) : Calls Tryz.prog F_ref10_texts ⟨[.int .i64 kind_1]⟩ w R := calls_of_fnV Tryz.func87 (by rw [e_ref10_texts]; exact h)

def an_ref10_numbers : Ann := .two (.leaf) (.two (.leaf) (.leaf))
def sh_ref10_numbers (kind_1 : Int) (R : Ending → World → Prop) (w : World) : Prop :=
  br (decide ((kind_1 : Int) = 6)) (R (.returned (.bool true)) w) (br (decide ((kind_1 : Int) = 8)) (R (.returned (.bool true)) w) (R (.returned (.bool (decide ((kind_1 : Int) = 9)))) w))
set_option maxRecDepth 100000 in
theorem e_ref10_numbers (kind_1 : Int) (R : Ending → World → Prop) (w : World) : fnV Tryz.prog Tryz.f88 an_ref10_numbers [.int .i64 kind_1] R w = sh_ref10_numbers kind_1 R w := by kernel_rfl
theorem c_ref10_numbers {kind_1 : Int} {R : Ending → World → Prop} {w : World} (h : sh_ref10_numbers kind_1 R w) : Calls Tryz.prog F_ref10_numbers ⟨[.int .i64 kind_1]⟩ w R := calls_of_fnV Tryz.func88 (by rw [e_ref10_numbers]; exact h)

def an_ref10_parts : Ann := .two (.leaf) (.two (.leaf) (.leaf))
def sh_ref10_parts (kind_1 : Int) (R : Ending → World → Prop) (w : World) : Prop :=
  br (decide ((7 : Int) ≤ kind_1)) (R (.returned (.bool (decide ((kind_1 : Int) ≤ 11)))) w) (R (.returned (.bool false)) w)
set_option maxRecDepth 100000 in
theorem e_ref10_parts (kind_1 : Int) (R : Ending → World → Prop) (w : World) : fnV Tryz.prog Tryz.f90 an_ref10_parts [.int .i64 kind_1] R w = sh_ref10_parts kind_1 R w := by kernel_rfl
theorem c_ref10_parts {kind_1 : Int} {R : Ending → World → Prop} {w : World} (h : sh_ref10_parts kind_1 R w) : Calls Tryz.prog F_ref10_parts ⟨[.int .i64 kind_1]⟩ w R := calls_of_fnV Tryz.func90 (by rw [e_ref10_parts]; exact h)

def an_charset_clusters : Ann := .two (.leaf) (.two (.leaf) (.leaf))
def sh_charset_clusters (s_1 : List UInt8) (R : Ending → World → Prop) (w : World) : Prop :=
  al w 9 [.string ⟨⟨s_1⟩⟩] fun p2 w3 =>
  R (.returned (.func (.func 99) ⟨[]⟩ ⟨[.pointer (some p2)]⟩)) w3
set_option maxRecDepth 100000 in
theorem e_charset_clusters (s_1 : List UInt8) (R : Ending → World → Prop) (w : World) : fnV Tryz.prog Tryz.f91 an_charset_clusters [.string ⟨⟨s_1⟩⟩] R w = sh_charset_clusters s_1 R w := by kernel_rfl
theorem c_charset_clusters {s_1 : List UInt8} {R : Ending → World → Prop} {w : World} (h : sh_charset_clusters s_1 R w) : Calls Tryz.prog F_charset_clusters ⟨[.string ⟨⟨s_1⟩⟩]⟩ w R := calls_of_fnV Tryz.func91 (by rw [e_charset_clusters]; exact h)

def an_slices_ContainsFunc_of_byte_byte : Ann := .two (.leaf) (.two (.leaf) (.leaf))
def sh_slices_ContainsFunc_of_byte_byte (s_1 : Option Addr) (s_1n : Nat) (s_1c : Nat) (f_2 : Fn) (f_2a : Array Value) (f_2b : Array Value) (R : Ending → World → Prop) (w : World) : Prop :=
  Calls Tryz.prog 101 ⟨[.slice s_1 s_1n s_1c, .func f_2 f_2a f_2b]⟩ w fun (e3 : Ending) (w4 : World) =>
  ∃ (x5 : Int), e3 = .returned (.int .i64 x5) ∧ (R (.returned (.bool (decide ((0 : Int) ≤ x5)))) w4)
set_option maxRecDepth 100000 in
theorem e_slices_ContainsFunc_of_byte_byte (s_1 : Option Addr) (s_1n : Nat) (s_1c : Nat) (f_2 : Fn) (f_2a : Array Value) (f_2b : Array Value) (R : Ending → World → Prop) (w : World) : fnV Tryz.prog Tryz.f92 an_slices_ContainsFunc_of_byte_byte [.slice s_1 s_1n s_1c, .func f_2 f_2a f_2b] R w = sh_slices_ContainsFunc_of_byte_byte s_1 s_1n s_1c f_2 f_2a f_2b R w := by kernel_rfl
theorem c_slices_ContainsFunc_of_byte_byte {s_1 : Option Addr} {s_1n : Nat} {s_1c : Nat} {f_2 : Fn} {f_2a : Array Value} {f_2b : Array Value} {R : Ending → World → Prop} {w : World} (h : sh_slices_ContainsFunc_of_byte_byte s_1 s_1n s_1c f_2 f_2a f_2b R w) : Calls Tryz.prog F_slices_ContainsFunc_of_byte_byte ⟨[.slice s_1 s_1n s_1c, .func f_2 f_2a f_2b]⟩ w R := calls_of_fnV Tryz.func92 (by rw [e_slices_ContainsFunc_of_byte_byte]; exact h)

def an_charset_IsWord_1 : Ann := .two (.leaf) (.two (.leaf) (.two (.leaf) (.leaf)))
def sh_charset_IsWord_1 (c_1 : Int) (R : Ending → World → Prop) (w : World) : Prop :=
  Calls Tryz.prog 35 ⟨[.int .u8 c_1]⟩ w fun (e2 : Ending) (w3 : World) =>
  ∃ (x4 : Int), e2 = .returned (.int .i64 x4) ∧ (br (decide ((x4 : Int) = 5)) (R (.returned (.bool true)) w3) (R (.returned (.bool (decide ((x4 : Int) = 6)))) w3))
set_option maxRecDepth 100000 in
theorem e_charset_IsWord_1 (c_1 : Int) (R : Ending → World → Prop) (w : World) : fnV Tryz.prog Tryz.f93 an_charset_IsWord_1 [.int .u8 c_1] R w = sh_charset_IsWord_1 c_1 R w := by kernel_rfl
theorem c_charset_IsWord_1 {c_1 : Int} {R : Ending → World → Prop} {w : World} (h : sh_charset_IsWord_1 c_1 R w) : Calls Tryz.prog F_charset_IsWord_1 ⟨[.int .u8 c_1]⟩ w R := calls_of_fnV Tryz.func93 (by rw [e_charset_IsWord_1]; exact h)

def an_ref01_Check : Ann := .two (.leaf) (.two (.two (.leaf) (.two (.two (.leaf) (.leaf)) (.leaf))) (.two (.leaf) (.two (.two (.leaf) (.one (.loop 17179867188 [(4, .one (.int .i64))] (.two (.two (.leaf) (.two (.leaf) (.leaf))) (.two (.one (.two (.leaf) (.two (.leaf) (.two (.two (.leaf) (.leaf)) (.leaf))))) (.leaf)))))) (.two (.leaf) (.leaf)))))
def sh_ref01_Check (s_1 : List UInt8) (R : Ending → World → Prop) (w : World) : Prop :=
  br (decide ((65536 : Int) < ((List.length s_1 : Int)))) (R (.returned (.int .i64 4)) w) (Calls Tryz.prog 102 ⟨[.string ⟨⟨s_1⟩⟩]⟩ w fun (e2 : Ending) (w3 : World) =>
  ∃ (x4 : Option Addr) (x4n : Nat) (x4c : Nat), e2 = .returned (.slice x4 x4n x4c) ∧ (∃ (I5 : Int → World → Nat → Prop), (∃ m9 : Nat, I5 0 w3 m9) ∧ ∀ (i_6 : Int) (w7 : World) (m8 : Nat), I5 i_6 w7 m8 → ∀ _ : Env, (br (decide ((i_6 : Int) < ((List.length s_1 : Int)))) (sidx s_1 i_6 fun b10 =>
  Calls Tryz.prog 49 ⟨[.int .u8 ((b10.toNat : Int))]⟩ w7 fun (e11 : Ending) (w12 : World) =>
  ∃ (x13 : Int), e11 = .returned (.int .i64 x13) ∧ (br (decide ((x13 : Int) = 0)) (R (.returned (.int .i64 11)) w12) (br (decide ((x13 : Int) = 2)) (idx x4 x4n i_6 1 fun p14 =>
  ∃ (x15 : Bool), World.cell? w12 p14 = some (.bool x15) ∧ (br (!x15) (R (.returned (.int .i64 11)) w12) (∃ m16 : Nat, m16 < m8 ∧ I5 (IntKind.i64.wrap (i_6 + 1)) w12 m16))) (∃ m17 : Nat, m17 < m8 ∧ I5 (IntKind.i64.wrap (i_6 + 1)) w12 m17)))) (R (.returned (.int .i64 0)) w7))))
set_option maxRecDepth 100000 in
theorem e_ref01_Check (s_1 : List UInt8) (R : Ending → World → Prop) (w : World) : fnV Tryz.prog Tryz.f95 an_ref01_Check [.string ⟨⟨s_1⟩⟩] R w = sh_ref01_Check s_1 R w := by kernel_rfl
theorem c_ref01_Check {s_1 : List UInt8} {R : Ending → World → Prop} {w : World} (h : sh_ref01_Check s_1 R w) : Calls Tryz.prog F_ref01_Check ⟨[.string ⟨⟨s_1⟩⟩]⟩ w R := calls_of_fnV Tryz.func95 (by rw [e_ref01_Check]; exact h)

def an_ref01_IsName : Ann := .two (.leaf) (.two (.leaf) (.leaf))
def sh_ref01_IsName (s_1 : List UInt8) (R : Ending → World → Prop) (w : World) : Prop :=
  br (decide ((((List.length s_1 : Int)) : Int) ≤ 16)) (Calls Tryz.prog 97 ⟨[.string ⟨⟨s_1⟩⟩]⟩ w fun (e2 : Ending) (w3 : World) =>
  ∃ (x4 : Bool), e2 = .returned (.bool x4) ∧ (br x4 (Calls Tryz.prog 103 ⟨[.string ⟨⟨s_1⟩⟩]⟩ w3 fun (e5 : Ending) (w6 : World) =>
  ∃ (x7 : Int), e5 = .returned (.int .i64 x7) ∧ (R (.returned (.bool (decide ((x7 : Int) = ((List.length s_1 : Int)))))) w6)) (R (.returned (.bool false)) w3))) (R (.returned (.bool false)) w)
set_option maxRecDepth 100000 in
theorem e_ref01_IsName (s_1 : List UInt8) (R : Ending → World → Prop) (w : World) : fnV Tryz.prog Tryz.f96 an_ref01_IsName [.string ⟨⟨s_1⟩⟩] R w = sh_ref01_IsName s_1 R w := by kernel_rfl
theorem c_ref01_IsName {s_1 : List UInt8} {R : Ending → World → Prop} {w : World} (h : sh_ref01_IsName s_1 R w) : Calls Tryz.prog F_ref01_IsName ⟨[.string ⟨⟨s_1⟩⟩]⟩ w R := calls_of_fnV Tryz.func96 (by rw [e_ref01_IsName]; exact h)

def an_ref01_IsWord : Ann := .two (.leaf) (.cut 262116 [] (.two (.leaf) (.two (.two (.leaf) (.leaf)) (.leaf))) (.cut 133955596 [] (.two (.leaf) (.two (.leaf) (.two (.two (.leaf) (.leaf)) (.leaf)))) (.two (.two (.leaf) (.one (.loop 274743689236 [(4, .one (.int .i64))] (.two (.two (.leaf) (.two (.leaf) (.leaf))) (.two (.one (.two (.leaf) (.two (.two (.leaf) (.leaf)) (.leaf)))) (.leaf)))))) (.two (.leaf) (.leaf)))))
def sh_ref01_IsWord (s_1 : List UInt8) (R : Ending → World → Prop) (w : World) : Prop :=
  ∀ (K2 : World → Prop), (∀  (w3 : World), (∀ _ : Env, (∀ (K4 : World → Prop), (∀  (w5 : World), (∀ _ : Env, (∃ (I6 : Int → World → Nat → Prop), (∃ m10 : Nat, I6 0 w5 m10) ∧ ∀ (i_7 : Int) (w8 : World) (m9 : Nat), I6 i_7 w8 m9 → ∀ _ : Env, (br (decide ((i_7 : Int) < ((List.length s_1 : Int)))) (sidx s_1 i_7 fun b11 =>
  Calls Tryz.prog 49 ⟨[.int .u8 ((b11.toNat : Int))]⟩ w8 fun (e12 : Ending) (w13 : World) =>
  ∃ (x14 : Int), e12 = .returned (.int .i64 x14) ∧ (br (decide ((4 : Int) < x14)) (R (.returned (.bool false)) w13) (∃ m15 : Nat, m15 < m9 ∧ I6 (IntKind.i64.wrap (i_7 + 1)) w13 m15))) (R (.returned (.bool true)) w8)))) → K4 w5) → (sidx s_1 0 fun b16 =>
  Calls Tryz.prog 49 ⟨[.int .u8 ((b16.toNat : Int))]⟩ w3 fun (e17 : Ending) (w18 : World) =>
  ∃ (x19 : Int), e17 = .returned (.int .i64 x19) ∧ (br (decide ((x19 : Int) ≠ 1)) (br (decide ((x19 : Int) ≠ 3)) (R (.returned (.bool false)) w18) (K4 w18)) (K4 w18))))) → K2 w3) → (br (decide ((((List.length s_1 : Int)) : Int) < 1)) (R (.returned (.bool false)) w) (br (decide ((64 : Int) < ((List.length s_1 : Int)))) (R (.returned (.bool false)) w) (Calls Tryz.prog 95 ⟨[.string ⟨⟨s_1⟩⟩]⟩ w fun (e20 : Ending) (w21 : World) =>
  ∃ (x22 : Int), e20 = .returned (.int .i64 x22) ∧ (br (decide ((x22 : Int) ≠ 0)) (R (.returned (.bool false)) w21) (K2 w21)))))
set_option maxRecDepth 100000 in
theorem e_ref01_IsWord (s_1 : List UInt8) (R : Ending → World → Prop) (w : World) : fnV Tryz.prog Tryz.f97 an_ref01_IsWord [.string ⟨⟨s_1⟩⟩] R w = sh_ref01_IsWord s_1 R w := by kernel_rfl
theorem c_ref01_IsWord {s_1 : List UInt8} {R : Ending → World → Prop} {w : World} (h : sh_ref01_IsWord s_1 R w) : Calls Tryz.prog F_ref01_IsWord ⟨[.string ⟨⟨s_1⟩⟩]⟩ w R := calls_of_fnV Tryz.func97 (by rw [e_ref01_IsWord]; exact h)

def an_charset_clusters_1 : Ann := .two (.leaf) (.two (.leaf) (.one (.loop 137438953464 [(3, .one (.int .i64)), (4, .one (.int .i64))] (.two (.two (.leaf) (.two (.leaf) (.leaf))) (.two (.one (.cut 268433408 [] (.two (.leaf) (.two (.leaf) (.leaf))) (.two (.two (.leaf) (.two (.leaf) (.leaf))) (.leaf)))) (.leaf))))))
def sh_charset_clusters_1 (yield_1 : Fn) (yield_1a : Array Value) (yield_1b : Array Value) (t1_2 : Option Addr) (R : Ending → World → Prop) (w : World) : Prop :=
  ∃ (I3 : Int → Int → World → Nat → Prop), (∃ m8 : Nat, I3 0 1 w m8) ∧ ∀ (from_4 : Int) (i_5 : Int) (w6 : World) (m7 : Nat), I3 from_4 i_5 w6 m7 → ∀ _ : Env, (dr t1_2 fun p9 =>
  ∃ (x10 : List UInt8), World.cell? w6 p9 = some (.string ⟨⟨x10⟩⟩) ∧ (br (decide ((i_5 : Int) ≤ ((List.length x10 : Int)))) (∀ (K11 : World → Prop), (∀  (w12 : World), (∀ _ : Env, (dr t1_2 fun p13 =>
  ∃ (x14 : List UInt8), World.cell? w12 p13 = some (.string ⟨⟨x14⟩⟩) ∧ (ssl x14 from_4 i_5 fun s15 =>
  CallV Tryz.prog (.func yield_1 yield_1a yield_1b) [.int .i64 from_4, .string ⟨⟨s15⟩⟩] w12 fun (e16 : Ending) (w17 : World) =>
  ∃ (x18 : Bool), e16 = .returned (.bool x18) ∧ (br (!x18) (R (.returned (.tuple ⟨[]⟩)) w17) (∃ m19 : Nat, m19 < m7 ∧ I3 i_5 (IntKind.i64.wrap (i_5 + 1)) w17 m19))))) → K11 w12) → (dr t1_2 fun p20 =>
  ∃ (x21 : List UInt8), World.cell? w6 p20 = some (.string ⟨⟨x21⟩⟩) ∧ (br (decide ((i_5 : Int) < ((List.length x21 : Int)))) (dr t1_2 fun p22 =>
  ∃ (x23 : List UInt8), World.cell? w6 p22 = some (.string ⟨⟨x23⟩⟩) ∧ (sidx x23 i_5 fun b24 =>
  Calls Tryz.prog 35 ⟨[.int .u8 ((b24.toNat : Int))]⟩ w6 fun (e25 : Ending) (w26 : World) =>
  ∃ (x27 : Int), e25 = .returned (.int .i64 x27) ∧ (br (decide ((x27 : Int) = 2)) (dr t1_2 fun p28 =>
  ∃ (x29 : List UInt8), World.cell? w26 p28 = some (.string ⟨⟨x29⟩⟩) ∧ (Calls Tryz.prog 100 ⟨[.string ⟨⟨x29⟩⟩, .int .i64 from_4, .int .i64 i_5]⟩ w26 fun (e30 : Ending) (w31 : World) =>
  ∃ (x32 : Bool), e30 = .returned (.bool x32) ∧ (br x32 (∃ m33 : Nat, m33 < m7 ∧ I3 from_4 (IntKind.i64.wrap (i_5 + 1)) w31 m33) (K11 w31)))) (K11 w26)))) (K11 w6)))) (R (.returned (.tuple ⟨[]⟩)) w6)))
set_option maxRecDepth 100000 in
theorem e_charset_clusters_1 (yield_1 : Fn) (yield_1a : Array Value) (yield_1b : Array Value) (t1_2 : Option Addr) (R : Ending → World → Prop) (w : World) : fnV Tryz.prog Tryz.f99 an_charset_clusters_1 [.func yield_1 yield_1a yield_1b, .pointer t1_2] R w = sh_charset_clusters_1 yield_1 yield_1a yield_1b t1_2 R w := by kernel_rfl
theorem c_charset_clusters_1 {yield_1 : Fn} {yield_1a : Array Value} {yield_1b : Array Value} {t1_2 : Option Addr} {R : Ending → World → Prop} {w : World} (h : sh_charset_clusters_1 yield_1 yield_1a yield_1b t1_2 R w) : Calls Tryz.prog F_charset_clusters_1 ⟨[.func yield_1 yield_1a yield_1b, .pointer t1_2]⟩ w R := calls_of_fnV Tryz.func99 (by rw [e_charset_clusters_1]; exact h)

def an_charset_right : Ann := .two (.leaf) (.two (.leaf) (.leaf))
def sh_charset_right (s_1 : List UInt8) (from_2 : Int) (at_3 : Int) (R : Ending → World → Prop) (w : World) : Prop :=
  sidx s_1 from_2 fun b4 =>
  Calls Tryz.prog 35 ⟨[.int .u8 ((b4.toNat : Int))]⟩ w fun (e5 : Ending) (w6 : World) =>
  ∃ (x7 : Int), e5 = .returned (.int .i64 x7) ∧ (br (decide ((x7 : Int) = 1)) (R (.returned (.bool (decide ((from_2 : Int) < at_3)))) w6) (R (.returned (.bool false)) w6))
set_option maxRecDepth 100000 in
theorem e_charset_right (s_1 : List UInt8) (from_2 : Int) (at_3 : Int) (R : Ending → World → Prop) (w : World) : fnV Tryz.prog Tryz.f100 an_charset_right [.string ⟨⟨s_1⟩⟩, .int .i64 from_2, .int .i64 at_3] R w = sh_charset_right s_1 from_2 at_3 R w := by kernel_rfl
theorem c_charset_right {s_1 : List UInt8} {from_2 : Int} {at_3 : Int} {R : Ending → World → Prop} {w : World} (h : sh_charset_right s_1 from_2 at_3 R w) : Calls Tryz.prog F_charset_right ⟨[.string ⟨⟨s_1⟩⟩, .int .i64 from_2, .int .i64 at_3]⟩ w R := calls_of_fnV Tryz.func100 (by rw [e_charset_right]; exact h)

def an_slices_IndexFunc_of_byte_byte : Ann := .two (.leaf) (.two (.two (.leaf) (.one (.loop 524080 [(8, .one (.int .i64))] (.two (.leaf) (.two (.two (.leaf) (.leaf)) (.two (.one (.two (.leaf) (.two (.leaf) (.two (.two (.leaf) (.leaf)) (.leaf))))) (.leaf))))))) (.two (.leaf) (.leaf)))
def sh_slices_IndexFunc_of_byte_byte (s_1 : Option Addr) (s_1n : Nat) (s_1c : Nat) (f_2 : Fn) (f_2a : Array Value) (f_2b : Array Value) (R : Ending → World → Prop) (w : World) : Prop :=
  ∃ (I3 : Int → World → Nat → Prop), (∃ m7 : Nat, I3 0 w m7) ∧ ∀ (t8_4 : Int) (w5 : World) (m6 : Nat), I3 t8_4 w5 m6 → ∀ _ : Env, (br (decide ((t8_4 : Int) < ((s_1n : Int)))) (idx s_1 s_1n t8_4 1 fun p8 =>
  ∃ (x9 : Int), World.cell? w5 p8 = some (.int .u8 x9) ∧ (CallV Tryz.prog (.func f_2 f_2a f_2b) [.int .u8 x9] w5 fun (e10 : Ending) (w11 : World) =>
  ∃ (x12 : Bool), e10 = .returned (.bool x12) ∧ (br x12 (R (.returned (.int .i64 t8_4)) w11) (∃ m13 : Nat, m13 < m6 ∧ I3 (IntKind.i64.wrap (t8_4 + 1)) w11 m13)))) (R (.returned (.int .i64 ((-1)))) w5))
set_option maxRecDepth 100000 in
theorem e_slices_IndexFunc_of_byte_byte (s_1 : Option Addr) (s_1n : Nat) (s_1c : Nat) (f_2 : Fn) (f_2a : Array Value) (f_2b : Array Value) (R : Ending → World → Prop) (w : World) : fnV Tryz.prog Tryz.f101 an_slices_IndexFunc_of_byte_byte [.slice s_1 s_1n s_1c, .func f_2 f_2a f_2b] R w = sh_slices_IndexFunc_of_byte_byte s_1 s_1n s_1c f_2 f_2a f_2b R w := by kernel_rfl
theorem c_slices_IndexFunc_of_byte_byte {s_1 : Option Addr} {s_1n : Nat} {s_1c : Nat} {f_2 : Fn} {f_2a : Array Value} {f_2b : Array Value} {R : Ending → World → Prop} {w : World} (h : sh_slices_IndexFunc_of_byte_byte s_1 s_1n s_1c f_2 f_2a f_2b R w) : Calls Tryz.prog F_slices_IndexFunc_of_byte_byte ⟨[.slice s_1 s_1n s_1c, .func f_2 f_2a f_2b]⟩ w R := calls_of_fnV Tryz.func101 (by rw [e_slices_IndexFunc_of_byte_byte]; exact h)

def an_ref01_right : Ann := .two (.leaf) (.two (.leaf) (.two (.two (.leaf) (.one (.loop 549755813848 [(3, .one (.slice)), (4, .one (.int .i64))] (.two (.two (.leaf) (.two (.leaf) (.leaf))) (.two (.one (.leaf)) (.leaf)))))) (.two (.leaf) (.leaf))))
def sh_ref01_right (s_1 : List UInt8) (R : Ending → World → Prop) (w : World) : Prop :=
  al w 4 [] fun p2 w3 =>
  ∃ (I4 : Option Addr → Nat → Nat → Int → World → Nat → Prop), (∃ m9 : Nat, I4 (some p2) 0 0 0 w3 m9) ∧ ∀ (out_5 : Option Addr) (out_5n : Nat) (out_5c : Nat) (i_6 : Int) (w7 : World) (m8 : Nat), I4 out_5 out_5n out_5c i_6 w7 m8 → ∀ _ : Env, (br (decide ((i_6 : Int) < ((List.length s_1 : Int)))) (sidx s_1 i_6 fun b10 =>
  Calls Tryz.prog 49 ⟨[.int .u8 ((b10.toNat : Int))]⟩ w7 fun (e11 : Ending) (w12 : World) =>
  ∃ (x13 : Int), e11 = .returned (.int .i64 x13) ∧ (br (decide ((x13 : Int) = 2)) (br (decide ((0 : Int) < i_6)) (sidx s_1 (IntKind.i64.wrap (i_6 - 1)) fun b14 =>
  Calls Tryz.prog 49 ⟨[.int .u8 ((b14.toNat : Int))]⟩ w12 fun (e15 : Ending) (w16 : World) =>
  ∃ (x17 : Int), e15 = .returned (.int .i64 x17) ∧ (br (decide ((x17 : Int) = 1)) (al w16 4 [.bool true] fun p18 w19 =>
  app Tryz.prog [132, 132] 132 (.slice out_5 out_5n out_5c) (.slice (some p18) 1 1) w19 fun a20 a20n a20c w21 =>
  ∃ m22 : Nat, m22 < m8 ∧ I4 a20 a20n a20c (IntKind.i64.wrap (i_6 + 1)) w21 m22) (idx out_5 out_5n (IntKind.i64.wrap (i_6 - 1)) 1 fun p23 =>
  ∃ (x24 : Bool), World.cell? w16 p23 = some (.bool x24) ∧ (al w16 4 [.bool x24] fun p25 w26 =>
  app Tryz.prog [132, 132] 132 (.slice out_5 out_5n out_5c) (.slice (some p25) 1 1) w26 fun a27 a27n a27c w28 =>
  ∃ m29 : Nat, m29 < m8 ∧ I4 a27 a27n a27c (IntKind.i64.wrap (i_6 + 1)) w28 m29)))) (al w12 4 [.bool false] fun p30 w31 =>
  app Tryz.prog [132, 132] 132 (.slice out_5 out_5n out_5c) (.slice (some p30) 1 1) w31 fun a32 a32n a32c w33 =>
  ∃ m34 : Nat, m34 < m8 ∧ I4 a32 a32n a32c (IntKind.i64.wrap (i_6 + 1)) w33 m34)) (al w12 4 [.bool false] fun p35 w36 =>
  app Tryz.prog [132, 132] 132 (.slice out_5 out_5n out_5c) (.slice (some p35) 1 1) w36 fun a37 a37n a37c w38 =>
  ∃ m39 : Nat, m39 < m8 ∧ I4 a37 a37n a37c (IntKind.i64.wrap (i_6 + 1)) w38 m39))) (R (.returned (.slice out_5 out_5n out_5c)) w7))
set_option maxRecDepth 100000 in
theorem e_ref01_right (s_1 : List UInt8) (R : Ending → World → Prop) (w : World) : fnV Tryz.prog Tryz.f102 an_ref01_right [.string ⟨⟨s_1⟩⟩] R w = sh_ref01_right s_1 R w := by kernel_rfl
theorem c_ref01_right {s_1 : List UInt8} {R : Ending → World → Prop} {w : World} (h : sh_ref01_right s_1 R w) : Calls Tryz.prog F_ref01_right ⟨[.string ⟨⟨s_1⟩⟩]⟩ w R := calls_of_fnV Tryz.func102 (by rw [e_ref01_right]; exact h)

def an_ref01_Letters : Ann := .two (.leaf) (.two (.leaf) (.two (.two (.leaf) (.one (.loop 16777208 [(3, .one (.int .i64)), (4, .one (.int .i64))] (.two (.two (.leaf) (.two (.leaf) (.leaf))) (.two (.one (.two (.leaf) (.two (.leaf) (.two (.leaf) (.leaf))))) (.leaf)))))) (.two (.leaf) (.leaf))))
def sh_ref01_Letters (s_1 : List UInt8) (R : Ending → World → Prop) (w : World) : Prop :=
  ∃ (I2 : Int → Int → World → Nat → Prop), (∃ m7 : Nat, I2 0 0 w m7) ∧ ∀ (n_3 : Int) (i_4 : Int) (w5 : World) (m6 : Nat), I2 n_3 i_4 w5 m6 → ∀ _ : Env, (br (decide ((i_4 : Int) < ((List.length s_1 : Int)))) (sidx s_1 i_4 fun b8 =>
  Calls Tryz.prog 49 ⟨[.int .u8 ((b8.toNat : Int))]⟩ w5 fun (e9 : Ending) (w10 : World) =>
  ∃ (x11 : Int), e9 = .returned (.int .i64 x11) ∧ (br (decide ((x11 : Int) = 1)) (∃ m12 : Nat, m12 < m6 ∧ I2 (IntKind.i64.wrap (n_3 + 1)) (IntKind.i64.wrap (i_4 + 1)) w10 m12) (br (decide ((x11 : Int) = 3)) (∃ m13 : Nat, m13 < m6 ∧ I2 (IntKind.i64.wrap (n_3 + 1)) (IntKind.i64.wrap (i_4 + 1)) w10 m13) (∃ m14 : Nat, m14 < m6 ∧ I2 n_3 (IntKind.i64.wrap (i_4 + 1)) w10 m14)))) (R (.returned (.int .i64 n_3)) w5))
set_option maxRecDepth 100000 in
theorem e_ref01_Letters (s_1 : List UInt8) (R : Ending → World → Prop) (w : World) : fnV Tryz.prog Tryz.f103 an_ref01_Letters [.string ⟨⟨s_1⟩⟩] R w = sh_ref01_Letters s_1 R w := by kernel_rfl
theorem c_ref01_Letters {s_1 : List UInt8} {R : Ending → World → Prop} {w : World} (h : sh_ref01_Letters s_1 R w) : Calls Tryz.prog F_ref01_Letters ⟨[.string ⟨⟨s_1⟩⟩]⟩ w R := calls_of_fnV Tryz.func103 (by rw [e_ref01_Letters]; exact h)

end Go.Proofs
