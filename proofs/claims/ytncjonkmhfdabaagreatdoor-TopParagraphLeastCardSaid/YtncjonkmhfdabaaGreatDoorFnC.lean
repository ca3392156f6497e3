/- Written by program: for each function its verification condition, that it is the code's (by the kernel), and that it gives the call. -/
import Derived.Test.YtncjonkmhfdabaaGreatDoorFn
namespace Go.Proofs
open Go Go.Sh
def an_paragraph_lines_1 : Ann := .two (.leaf) (.two (.leaf) (.two (.leaf) (.one (.loop 18446744073709422464 [(7, .one (.int .i64))] (.two (.two (.leaf) (.two (.leaf) (.leaf))) (.two (.one (.cut 140737479968512 [] (.two (.leaf) (.two (.two (.leaf) (.two (.leaf) (.two (.leaf) (.leaf)))) (.leaf))) (.two (.two (.leaf) (.two (.leaf) (.leaf))) (.cut 575334852396580864 [(58, .one (.bool))] (.leaf) (.two (.leaf) (.leaf)))))) (.leaf)))))))
set_option maxRecDepth 100000 in
def sh_paragraph_lines_1 (yield_1 : Fn) (yield_1a : Array Value) (yield_1b : Array Value) (t1_2 : Option Addr) (t2_3 : Option Addr) (t3_4 : Option Addr) (R : Ending → World → Prop) (w : World) : Prop :=
  al w 152 [.int .i64 0, .int .i64 0, .int .i64 0] fun p5 w6 =>
  dr t1_2 fun p7 =>
  ∃ (x8 : Option Addr) (x8n : Nat) (x8c : Nat), World.cell? w6 p7 = some (.slice x8 x8n x8c) ∧ (dr t2_3 fun p9 =>
  ∃ (x10 : Int), World.cell? w6 p9 = some (.int .i64 x10) ∧ (dr t1_2 fun p11 =>
  ∃ (x12 : Option Addr) (x12n : Nat) (x12c : Nat), World.cell? w6 p11 = some (.slice x12 x12n x12c) ∧ (Calls Tryz.prog 83 ⟨[.slice x8 x8n x8c, .int .i64 x10, .int .i64 ((x12n : Int))]⟩ w6 fun (e13 : Ending) (w14 : World) =>
  ∃ (x15 : Int), e13 = .returned (.int .i64 x15) ∧ (dr t2_3 fun p16 =>
  ∃ (x17 : Int), World.cell? w14 p16 = some (.int .i64 x17) ∧ (∃ (I18 : Int → World → Nat → Prop), (∃ m22 : Nat, I18 x17 w14 m22) ∧ ∀ (to_19 : Int) (w20 : World) (m21 : Nat), I18 to_19 w20 m21 → ∀ _ : Env, (dr t1_2 fun p23 =>
  ∃ (x24 : Option Addr) (x24n : Nat) (x24c : Nat), World.cell? w20 p23 = some (.slice x24 x24n x24c) ∧ (br (decide ((to_19 : Int) ≤ ((x24n : Int)))) (∀ (K25 : World → Prop), (∀  (w26 : World), (∀ _ : Env, (dr t1_2 fun p27 =>
  ∃ (x28 : Option Addr) (x28n : Nat) (x28c : Nat), World.cell? w26 p27 = some (.slice x28 x28n x28c) ∧ (Calls Tryz.prog 81 ⟨[.slice x28 x28n x28c, .int .i64 to_19]⟩ w26 fun (e29 : Ending) (w30 : World) =>
  ∃ (x31 : Bool), e29 = .returned (.bool x31) ∧ (br x31 (R (.returned (.tuple ⟨[]⟩)) w30) (∀ (K32 : Bool → World → Prop), (∀ (t58_33 : Bool) (w34 : World), (∀ _ : Env, (br t58_33 (dr t1_2 fun p35 =>
  ∃ (x36 : Option Addr) (x36n : Nat) (x36c : Nat), World.cell? w34 p35 = some (.slice x36 x36n x36c) ∧ (idx x36 x36n to_19 6 fun p37 =>
  ∃ (x38 : Int), World.cell? w34 (p37.add 0) = some (.int .i64 x38) ∧ (∃ (x39 : Int), World.cell? w34 (p37.add 1) = some (.int .i64 x39) ∧ (∃ (x40 : Int), World.cell? w34 (p37.add 2) = some (.int .i64 x40) ∧ (∃ (x41 : Int), World.cell? w34 (p37.add 3) = some (.int .i64 x41) ∧ (∃ (x42 : Int), World.cell? w34 (p37.add 4) = some (.int .i64 x42) ∧ (∃ (x43 : List UInt8), World.cell? w34 (p37.add 5) = some (.string ⟨⟨x43⟩⟩) ∧ (Calls Tryz.prog 86 ⟨[.pointer (some p5), .agg ⟨[.int .i64 x38, .int .i64 x39, .int .i64 x40, .int .i64 x41, .int .i64 x42, .string ⟨⟨x43⟩⟩]⟩]⟩ w34 fun (e44 : Ending) (w45 : World) =>
  e44 = .returned (.tuple ⟨[]⟩) ∧ (∃ m46 : Nat, m46 < m21 ∧ I18 (IntKind.i64.wrap (to_19 + 1)) w45 m46))))))))) (∃ m47 : Nat, m47 < m21 ∧ I18 (IntKind.i64.wrap (to_19 + 1)) w34 m47))) → K32 t58_33 w34) → (dr t1_2 fun p48 =>
  ∃ (x49 : Option Addr) (x49n : Nat) (x49c : Nat), World.cell? w30 p48 = some (.slice x49 x49n x49c) ∧ (br (decide ((to_19 : Int) < ((x49n : Int)))) (K32 (decide ((x15 : Int) ≤ to_19)) w30) (K32 false w30)))))))) → K25 w26) → (dr t1_2 fun p50 =>
  ∃ (x51 : Option Addr) (x51n : Nat) (x51c : Nat), World.cell? w20 p50 = some (.slice x51 x51n x51c) ∧ (Calls Tryz.prog 84 ⟨[.slice x51 x51n x51c, .int .i64 to_19]⟩ w20 fun (e52 : Ending) (w53 : World) =>
  ∃ (x54 : Bool), e52 = .returned (.bool x54) ∧ (br x54 (dr t1_2 fun p55 =>
  ∃ (x56 : Option Addr) (x56n : Nat) (x56c : Nat), World.cell? w53 p55 = some (.slice x56 x56n x56c) ∧ (dr t3_4 fun p57 =>
  ∃ (x58 : Int), World.cell? w53 p57 = some (.int .i64 x58) ∧ (∃ (x59 : Int), World.cell? w53 (p5.add 0) = some (.int .i64 x59) ∧ (∃ (x60 : Int), World.cell? w53 (p5.add 1) = some (.int .i64 x60) ∧ (∃ (x61 : Int), World.cell? w53 (p5.add 2) = some (.int .i64 x61) ∧ (Calls Tryz.prog 85 ⟨[.slice x56 x56n x56c, .int .i64 x58, .agg ⟨[.int .i64 x59, .int .i64 x60, .int .i64 x61]⟩, .int .i64 to_19]⟩ w53 fun (e62 : Ending) (w63 : World) =>
  ∃ (x64 : Int) (x65 : Int) (x66 : Bool), e62 = .returned (.tuple ⟨[.int .i64 x64, .int .i64 x65, .bool x66]⟩) ∧ (br x66 (dr t1_2 fun p67 =>
  ∃ (x68 : Option Addr) (x68n : Nat) (x68c : Nat), World.cell? w63 p67 = some (.slice x68 x68n x68c) ∧ (Calls Tryz.prog 40 ⟨[.slice x68 x68n x68c, .int .i64 to_19]⟩ w63 fun (e69 : Ending) (w70 : World) =>
  ∃ (x71 : Int), e69 = .returned (.int .i64 x71) ∧ (CallV Tryz.prog (.func yield_1 yield_1a yield_1b) [.int .i64 to_19, .int .i64 (IntKind.i64.wrap (x64 + x71))] w70 fun (e72 : Ending) (w73 : World) =>
  ∃ (x74 : Bool), e72 = .returned (.bool x74) ∧ (br (!x74) (R (.returned (.tuple ⟨[]⟩)) w73) (K25 w73))))) (K25 w63)))))))) (K25 w53))))) (R (.returned (.tuple ⟨[]⟩)) w20))))))))
set_option maxRecDepth 100000 in
theorem e_paragraph_lines_1 (yield_1 : Fn) (yield_1a : Array Value) (yield_1b : Array Value) (t1_2 : Option Addr) (t2_3 : Option Addr) (t3_4 : Option Addr) (R : Ending → World → Prop) (w : World) : fnV Tryz.prog Tryz.f82 an_paragraph_lines_1 [.func yield_1 yield_1a yield_1b, .pointer t1_2, .pointer t2_3, .pointer t3_4] R w = sh_paragraph_lines_1 yield_1 yield_1a yield_1b t1_2 t2_3 t3_4 R w := by kernel_rfl
theorem c_paragraph_lines_1 {yield_1 : Fn} {yield_1a : Array Value} {yield_1b : Array Value} {t1_2 : Option Addr} {t2_3 : Option Addr} {t3_4 : Option Addr} {R : Ending → World → Prop} {w : World} (h : sh_paragraph_lines_1 yield_1 yield_1a yield_1b t1_2 t2_3 t3_4 R w) : Calls Tryz.prog F_paragraph_lines_1 ⟨[.func yield_1 yield_1a yield_1b, .pointer t1_2, .pointer t2_3, .pointer t3_4]⟩ w R := calls_of_fnV Tryz.func82 (by rw [e_paragraph_lines_1]; exact h)

def an_paragraph_begin : Ann := .two (.leaf) (.two (.one (.loop 1048450 [(1, .one (.int .i64))] (.two (.two (.leaf) (.two (.leaf) (.leaf))) (.one (.leaf))))) (.two (.leaf) (.leaf)))
def sh_paragraph_begin (l_1 : Option Addr) (l_1n : Nat) (l_1c : Nat) (from_2 : Int) (to_3 : Int) (R : Ending → World → Prop) (w : World) : Prop :=
  ∃ (I4 : Int → World → Nat → Prop), (∃ m8 : Nat, I4 from_2 w m8) ∧ ∀ (from_5 : Int) (w6 : World) (m7 : Nat), I4 from_5 w6 m7 → ∀ _ : Env, (br (decide ((from_5 : Int) < to_3)) (idx l_1 l_1n from_5 6 fun p9 =>
  ∃ (x10 : Int), World.cell? w6 (p9.add 0) = some (.int .i64 x10) ∧ (br (decide ((x10 : Int) = 2)) (∃ m11 : Nat, m11 < m7 ∧ I4 (IntKind.i64.wrap (from_5 + 1)) w6 m11) (R (.returned (.int .i64 from_5)) w6))) (R (.returned (.int .i64 from_5)) w6))
set_option maxRecDepth 100000 in
theorem e_paragraph_begin (l_1 : Option Addr) (l_1n : Nat) (l_1c : Nat) (from_2 : Int) (to_3 : Int) (R : Ending → World → Prop) (w : World) : fnV Tryz.prog Tryz.f83 an_paragraph_begin [.slice l_1 l_1n l_1c, .int .i64 from_2, .int .i64 to_3] R w = sh_paragraph_begin l_1 l_1n l_1c from_2 to_3 R w := by kernel_rfl
theorem c_paragraph_begin {l_1 : Option Addr} {l_1n : Nat} {l_1c : Nat} {from_2 : Int} {to_3 : Int} {R : Ending → World → Prop} {w : World} (h : sh_paragraph_begin l_1 l_1n l_1c from_2 to_3 R w) : Calls Tryz.prog F_paragraph_begin ⟨[.slice l_1 l_1n l_1c, .int .i64 from_2, .int .i64 to_3]⟩ w R := calls_of_fnV Tryz.func83 (by rw [e_paragraph_begin]; exact h)

def an_paragraph_ends : Ann := .two (.leaf) (.two (.two (.leaf) (.two (.two (.leaf) (.leaf)) (.leaf))) (.two (.two (.leaf) (.one (.two (.leaf) (.two (.two (.leaf) (.leaf)) (.two (.leaf) (.two (.two (.leaf) (.leaf)) (.leaf))))))) (.two (.leaf) (.leaf))))
def sh_paragraph_ends (l_1 : Option Addr) (l_1n : Nat) (l_1c : Nat) (i_2 : Int) (R : Ending → World → Prop) (w : World) : Prop :=
  br (decide ((i_2 : Int) = ((l_1n : Int)))) (R (.returned (.bool true)) w) (idx l_1 l_1n i_2 6 fun p3 =>
  ∃ (x4 : Int), World.cell? w (p3.add 0) = some (.int .i64 x4) ∧ (br (decide ((x4 : Int) = 2)) (br (decide ((0 : Int) < i_2)) (idx l_1 l_1n (IntKind.i64.wrap (i_2 - 1)) 6 fun p5 =>
  ∃ (x6 : Int), World.cell? w (p5.add 0) = some (.int .i64 x6) ∧ (R (.returned (.bool (decide ((x6 : Int) = 1)))) w)) (R (.returned (.bool false)) w)) (br (decide ((x4 : Int) = 3)) (idx l_1 l_1n i_2 6 fun p7 =>
  ∃ (x8 : Int), World.cell? w (p7.add 4) = some (.int .i64 x8) ∧ (R (.returned (.bool (decide ((x8 : Int) ≠ 10000)))) w)) (R (.returned (.bool false)) w))))
set_option maxRecDepth 100000 in
theorem e_paragraph_ends (l_1 : Option Addr) (l_1n : Nat) (l_1c : Nat) (i_2 : Int) (R : Ending → World → Prop) (w : World) : fnV Tryz.prog Tryz.f84 an_paragraph_ends [.slice l_1 l_1n l_1c, .int .i64 i_2] R w = sh_paragraph_ends l_1 l_1n l_1c i_2 R w := by kernel_rfl
theorem c_paragraph_ends {l_1 : Option Addr} {l_1n : Nat} {l_1c : Nat} {i_2 : Int} {R : Ending → World → Prop} {w : World} (h : sh_paragraph_ends l_1 l_1n l_1c i_2 R w) : Calls Tryz.prog F_paragraph_ends ⟨[.slice l_1 l_1n l_1c, .int .i64 i_2]⟩ w R := calls_of_fnV Tryz.func84 (by rw [e_paragraph_ends]; exact h)

def an_paragraph_fit : Ann := .two (.leaf) (.cut 4294965248 [] (.cut 8386560 [(22, .one (.bool))] (.leaf) (.two (.leaf) (.leaf))) (.two (.leaf) (.two (.one (.cut 1125831187365888 [(36, .one (.bool))] (.leaf) (.two (.two (.leaf) (.leaf)) (.two (.leaf) (.two (.two (.leaf) (.leaf)) (.two (.leaf) (.two (.two (.leaf) (.leaf)) (.leaf)))))))) (.two (.leaf) (.leaf)))))
def sh_paragraph_fit (l_1 : Option Addr) (l_1n : Nat) (l_1c : Nat) (width_2 : Int) (m_3 : Int) (m_4 : Int) (m_5 : Int) (to_6 : Int) (R : Ending → World → Prop) (w : World) : Prop :=
  al w 152 [.int .i64 m_3, .int .i64 m_4, .int .i64 m_5] fun p7 w8 =>
  ∀ (K9 : World → Prop), (∀  (w10 : World), (∀ _ : Env, (∃ (x11 : Int), World.cell? w10 (p7.add 0) = some (.int .i64 x11) ∧ (∀ (K12 : Bool → World → Prop), (∀ (t36_13 : Bool) (w14 : World), (∀ _ : Env, (br t36_13 (R (.returned (.tuple ⟨[.int .i64 0, .int .i64 0, .bool true]⟩)) w14) (br (decide ((0 : Int) ≤ (IntKind.i64.wrap (width_2 - x11)))) (∃ (x15 : Int), World.cell? w14 (p7.add 1) = some (.int .i64 x15) ∧ (Calls Tryz.prog 128 ⟨[.int .i64 (IntKind.i64.wrap (width_2 - x11)), .int .i64 x15]⟩ w14 fun (e16 : Ending) (w17 : World) =>
  ∃ (x18 : Int), e16 = .returned (.int .i64 x18) ∧ (R (.returned (.tuple ⟨[.int .i64 x18, .int .i64 (IntKind.i64.wrap (width_2 - x11)), .bool true]⟩)) w17))) (∃ (x19 : Int), World.cell? w14 (p7.add 2) = some (.int .i64 x19) ∧ (br (decide (((IntKind.i64.wrap (0 - (IntKind.i64.wrap (width_2 - x11)))) : Int) ≤ x19)) (∃ (x20 : Int), World.cell? w14 (p7.add 2) = some (.int .i64 x20) ∧ (Calls Tryz.prog 128 ⟨[.int .i64 (IntKind.i64.wrap (0 - (IntKind.i64.wrap (width_2 - x11)))), .int .i64 x20]⟩ w14 fun (e21 : Ending) (w22 : World) =>
  ∃ (x23 : Int), e21 = .returned (.int .i64 x23) ∧ (R (.returned (.tuple ⟨[.int .i64 x23, .int .i64 (IntKind.i64.wrap (width_2 - x11)), .bool true]⟩)) w22))) (R (.returned (.tuple ⟨[.int .i64 0, .int .i64 0, .bool false]⟩)) w14)))))) → K12 t36_13 w14) → (br (decide ((0 : Int) ≤ (IntKind.i64.wrap (width_2 - x11)))) (br (decide ((to_6 : Int) = ((l_1n : Int)))) (K12 true w10) (Calls Tryz.prog 81 ⟨[.slice l_1 l_1n l_1c, .int .i64 to_6]⟩ w10 fun (e24 : Ending) (w25 : World) =>
  ∃ (x26 : Bool), e24 = .returned (.bool x26) ∧ (K12 x26 w25))) (K12 false w10))))) → K9 w10) → (∀ (K27 : Bool → World → Prop), (∀ (t22_28 : Bool) (w29 : World), (∀ _ : Env, (br t22_28 (drw w29 fun w30 =>
  ∃ (x31 : Int), World.cell? w30 (p7.add 0) = some (.int .i64 x31) ∧ (idx l_1 l_1n to_6 6 fun p32 =>
  ∃ (x33 : Int), World.cell? w30 (p32.add 1) = some (.int .i64 x33) ∧ ((stL w30 (p7.add 0) 0 [.int .i64 (IntKind.i64.wrap (x31 + x33))] fun w34 =>
  K9 w34) ∧ True))) (K9 w29))) → K27 t22_28 w29) → (br (decide ((to_6 : Int) < ((l_1n : Int)))) (idx l_1 l_1n to_6 6 fun p35 =>
  ∃ (x36 : Int), World.cell? w8 (p35.add 0) = some (.int .i64 x36) ∧ (K27 (decide ((x36 : Int) = 3)) w8)) (K27 false w8)))
set_option maxRecDepth 100000 in
theorem e_paragraph_fit (l_1 : Option Addr) (l_1n : Nat) (l_1c : Nat) (width_2 : Int) (m_3 : Int) (m_4 : Int) (m_5 : Int) (to_6 : Int) (R : Ending → World → Prop) (w : World) : fnV Tryz.prog Tryz.f85 an_paragraph_fit [.slice l_1 l_1n l_1c, .int .i64 width_2, .agg ⟨[.int .i64 m_3, .int .i64 m_4, .int .i64 m_5]⟩, .int .i64 to_6] R w = sh_paragraph_fit l_1 l_1n l_1c width_2 m_3 m_4 m_5 to_6 R w := by kernel_rfl
theorem c_paragraph_fit {l_1 : Option Addr} {l_1n : Nat} {l_1c : Nat} {width_2 : Int} {m_3 : Int} {m_4 : Int} {m_5 : Int} {to_6 : Int} {R : Ending → World → Prop} {w : World} (h : sh_paragraph_fit l_1 l_1n l_1c width_2 m_3 m_4 m_5 to_6 R w) : Calls Tryz.prog F_paragraph_fit ⟨[.slice l_1 l_1n l_1c, .int .i64 width_2, .agg ⟨[.int .i64 m_3, .int .i64 m_4, .int .i64 m_5]⟩, .int .i64 to_6]⟩ w R := calls_of_fnV Tryz.func85 (by rw [e_paragraph_fit]; exact h)

def an_paragraph_measure_add : Ann := .two (.leaf) (.two (.leaf) (.two (.two (.leaf) (.two (.leaf) (.leaf))) (.leaf)))
def sh_paragraph_measure_add (m_1 : Option Addr) (x_2 : Int) (x_3 : Int) (x_4 : Int) (x_5 : Int) (x_6 : Int) (x_7 : List UInt8) (R : Ending → World → Prop) (w : World) : Prop :=
  al w 146 [.int .i64 x_2, .int .i64 x_3, .int .i64 x_4, .int .i64 x_5, .int .i64 x_6, .string ⟨⟨x_7⟩⟩] fun p8 w9 =>
  ∃ (x10 : Int), World.cell? w9 (p8.add 0) = some (.int .i64 x10) ∧ (br (decide ((x10 : Int) ≠ 3)) (drw w9 fun w11 =>
  dr m_1 fun p12 =>
  ∃ (x13 : Int), World.cell? w11 (p12.add 0) = some (.int .i64 x13) ∧ (∃ (x14 : Int), World.cell? w11 (p8.add 1) = some (.int .i64 x14) ∧ (dr m_1 fun p15 =>
  (stL w11 (p15.add 0) 0 [.int .i64 (IntKind.i64.wrap (x13 + x14))] fun w16 =>
  drw w16 fun w17 =>
  dr m_1 fun p18 =>
  ∃ (x19 : Int), World.cell? w17 (p18.add 1) = some (.int .i64 x19) ∧ (∃ (x20 : Int), World.cell? w17 (p8.add 2) = some (.int .i64 x20) ∧ (dr m_1 fun p21 =>
  (stL w17 (p21.add 1) 0 [.int .i64 (IntKind.i64.wrap (x19 + x20))] fun w22 =>
  drw w22 fun w23 =>
  dr m_1 fun p24 =>
  ∃ (x25 : Int), World.cell? w23 (p24.add 2) = some (.int .i64 x25) ∧ (∃ (x26 : Int), World.cell? w23 (p8.add 3) = some (.int .i64 x26) ∧ (dr m_1 fun p27 =>
  (stL w23 (p27.add 2) 0 [.int .i64 (IntKind.i64.wrap (x25 + x26))] fun w28 =>
  R (.returned (.tuple ⟨[]⟩)) w28) ∧ True))) ∧ True))) ∧ True))) (R (.returned (.tuple ⟨[]⟩)) w9))
set_option maxRecDepth 100000 in
theorem e_paragraph_measure_add (m_1 : Option Addr) (x_2 : Int) (x_3 : Int) (x_4 : Int) (x_5 : Int) (x_6 : Int) (x_7 : List UInt8) (R : Ending → World → Prop) (w : World) : fnV Tryz.prog Tryz.f86 an_paragraph_measure_add [.pointer m_1, .agg ⟨[.int .i64 x_2, .int .i64 x_3, .int .i64 x_4, .int .i64 x_5, .int .i64 x_6, .string ⟨⟨x_7⟩⟩]⟩] R w = sh_paragraph_measure_add m_1 x_2 x_3 x_4 x_5 x_6 x_7 R w := by kernel_rfl
theorem c_paragraph_measure_add {m_1 : Option Addr} {x_2 : Int} {x_3 : Int} {x_4 : Int} {x_5 : Int} {x_6 : Int} {x_7 : List UInt8} {R : Ending → World → Prop} {w : World} (h : sh_paragraph_measure_add m_1 x_2 x_3 x_4 x_5 x_6 x_7 R w) : Calls Tryz.prog F_paragraph_measure_add ⟨[.pointer m_1, .agg ⟨[.int .i64 x_2, .int .i64 x_3, .int .i64 x_4, .int .i64 x_5, .int .i64 x_6, .string ⟨⟨x_7⟩⟩]⟩]⟩ w R := calls_of_fnV Tryz.func86 (by rw [e_paragraph_measure_add]; exact h)

def an_strings_Builder_WriteString : Ann := .two (.leaf) (.two (.leaf) (.two (.leaf) (.two (.leaf) (.leaf))))
def sh_strings_Builder_WriteString (b_1 : Option Addr) (s_2 : List UInt8) (R : Ending → World → Prop) (w : World) : Prop :=
  Calls Tryz.prog 129 ⟨[.pointer b_1]⟩ w fun (e3 : Ending) (w4 : World) =>
  e3 = .returned (.tuple ⟨[]⟩) ∧ (dr b_1 fun p5 =>
  ∃ (x6 : Option Addr) (x6n : Nat) (x6c : Nat), World.cell? w4 (p5.add 1) = some (.slice x6 x6n x6c) ∧ (app Tryz.prog [158, 9] 158 (.slice x6 x6n x6c) (.string ⟨⟨s_2⟩⟩) w4 fun a7 a7n a7c w8 =>
  dr b_1 fun p9 =>
  stL w8 (p9.add 1) 0 [.slice a7 a7n a7c] fun w10 =>
  R (.returned (.tuple ⟨[.int .i64 ((List.length s_2 : Int)), .nilIface]⟩)) w10))
set_option maxRecDepth 100000 in
theorem e_strings_Builder_WriteString (b_1 : Option Addr) (s_2 : List UInt8) (R : Ending → World → Prop) (w : World) : fnV Tryz.prog Tryz.f87 an_strings_Builder_WriteString [.pointer b_1, .string ⟨⟨s_2⟩⟩] R w = sh_strings_Builder_WriteString b_1 s_2 R w := by kernel_rfl
theorem c_strings_Builder_WriteString {b_1 : Option Addr} {s_2 : List UInt8} {R : Ending → World → Prop} {w : World} (h : sh_strings_Builder_WriteString b_1 s_2 R w) : Calls Tryz.prog F_strings_Builder_WriteString ⟨[.pointer b_1, .string ⟨⟨s_2⟩⟩]⟩ w R := calls_of_fnV Tryz.func87 (by rw [e_strings_Builder_WriteString]; exact h)

def an_strings_Builder_WriteByte : Ann := .two (.leaf) (.two (.leaf) (.two (.leaf) (.two (.leaf) (.leaf))))
def sh_strings_Builder_WriteByte (b_1 : Option Addr) (c_2 : Int) (R : Ending → World → Prop) (w : World) : Prop :=
  Calls Tryz.prog 129 ⟨[.pointer b_1]⟩ w fun (e3 : Ending) (w4 : World) =>
  e3 = .returned (.tuple ⟨[]⟩) ∧ (dr b_1 fun p5 =>
  ∃ (x6 : Option Addr) (x6n : Nat) (x6c : Nat), World.cell? w4 (p5.add 1) = some (.slice x6 x6n x6c) ∧ (al w4 5 [.int .u8 c_2] fun p7 w8 =>
  app Tryz.prog [158, 158] 158 (.slice x6 x6n x6c) (.slice (some p7) 1 1) w8 fun a9 a9n a9c w10 =>
  dr b_1 fun p11 =>
  stL w10 (p11.add 1) 0 [.slice a9 a9n a9c] fun w12 =>
  R (.returned (.nilIface)) w12))
set_option maxRecDepth 100000 in
theorem e_strings_Builder_WriteByte (b_1 : Option Addr) (c_2 : Int) (R : Ending → World → Prop) (w : World) : fnV Tryz.prog Tryz.f88 an_strings_Builder_WriteByte [.pointer b_1, .int .u8 c_2] R w = sh_strings_Builder_WriteByte b_1 c_2 R w := by kernel_rfl
theorem c_strings_Builder_WriteByte {b_1 : Option Addr} {c_2 : Int} {R : Ending → World → Prop} {w : World} (h : sh_strings_Builder_WriteByte b_1 c_2 R w) : Calls Tryz.prog F_strings_Builder_WriteByte ⟨[.pointer b_1, .int .u8 c_2]⟩ w R := calls_of_fnV Tryz.func88 (by rw [e_strings_Builder_WriteByte]; exact h)

def an_charset_clusters_1 : Ann := .two (.leaf) (.two (.leaf) (.one (.loop 137438953464 [(3, .one (.int .i64)), (4, .one (.int .i64))] (.two (.two (.leaf) (.two (.leaf) (.leaf))) (.two (.one (.cut 268433408 [] (.two (.leaf) (.two (.leaf) (.leaf))) (.two (.two (.leaf) (.two (.leaf) (.leaf))) (.leaf)))) (.leaf))))))
def sh_charset_clusters_1 (yield_1 : Fn) (yield_1a : Array Value) (yield_1b : Array Value) (t1_2 : Option Addr) (R : Ending → World → Prop) (w : World) : Prop :=
  ∃ (I3 : Int → Int → World → Nat → Prop), (∃ m8 : Nat, I3 0 1 w m8) ∧ ∀ (from_4 : Int) (i_5 : Int) (w6 : World) (m7 : Nat), I3 from_4 i_5 w6 m7 → ∀ _ : Env, (dr t1_2 fun p9 =>
  ∃ (x10 : List UInt8), World.cell? w6 p9 = some (.string ⟨⟨x10⟩⟩) ∧ (br (decide ((i_5 : Int) ≤ ((List.length x10 : Int)))) (∀ (K11 : World → Prop), (∀  (w12 : World), (∀ _ : Env, (dr t1_2 fun p13 =>
  ∃ (x14 : List UInt8), World.cell? w12 p13 = some (.string ⟨⟨x14⟩⟩) ∧ (ssl x14 from_4 i_5 fun s15 =>
  CallV Tryz.prog (.func yield_1 yield_1a yield_1b) [.int .i64 from_4, .string ⟨⟨s15⟩⟩] w12 fun (e16 : Ending) (w17 : World) =>
  ∃ (x18 : Bool), e16 = .returned (.bool x18) ∧ (br (!x18) (R (.returned (.tuple ⟨[]⟩)) w17) (∃ m19 : Nat, m19 < m7 ∧ I3 i_5 (IntKind.i64.wrap (i_5 + 1)) w17 m19))))) → K11 w12) → (dr t1_2 fun p20 =>
  ∃ (x21 : List UInt8), World.cell? w6 p20 = some (.string ⟨⟨x21⟩⟩) ∧ (br (decide ((i_5 : Int) < ((List.length x21 : Int)))) (dr t1_2 fun p22 =>
  ∃ (x23 : List UInt8), World.cell? w6 p22 = some (.string ⟨⟨x23⟩⟩) ∧ (sidx x23 i_5 fun b24 =>
  Calls Tryz.prog 91 ⟨[.int .u8 ((b24.toNat : Int))]⟩ w6 fun (e25 : Ending) (w26 : World) =>
  ∃ (x27 : Int), e25 = .returned (.int .i64 x27) ∧ (br (decide ((x27 : Int) = 2)) (dr t1_2 fun p28 =>
  ∃ (x29 : List UInt8), World.cell? w26 p28 = some (.string ⟨⟨x29⟩⟩) ∧ (Calls Tryz.prog 92 ⟨[.string ⟨⟨x29⟩⟩, .int .i64 from_4, .int .i64 i_5]⟩ w26 fun (e30 : Ending) (w31 : World) =>
  ∃ (x32 : Bool), e30 = .returned (.bool x32) ∧ (br x32 (∃ m33 : Nat, m33 < m7 ∧ I3 from_4 (IntKind.i64.wrap (i_5 + 1)) w31 m33) (K11 w31)))) (K11 w26)))) (K11 w6)))) (R (.returned (.tuple ⟨[]⟩)) w6)))
set_option maxRecDepth 100000 in
theorem e_charset_clusters_1 (yield_1 : Fn) (yield_1a : Array Value) (yield_1b : Array Value) (t1_2 : Option Addr) (R : Ending → World → Prop) (w : World) : fnV Tryz.prog Tryz.f90 an_charset_clusters_1 [.func yield_1 yield_1a yield_1b, .pointer t1_2] R w = sh_charset_clusters_1 yield_1 yield_1a yield_1b t1_2 R w := by kernel_rfl
theorem c_charset_clusters_1 {yield_1 : Fn} {yield_1a : Array Value} {yield_1b : Array Value} {t1_2 : Option Addr} {R : Ending → World → Prop} {w : World} (h : sh_charset_clusters_1 yield_1 yield_1a yield_1b t1_2 R w) : Calls Tryz.prog F_charset_clusters_1 ⟨[.func yield_1 yield_1a yield_1b, .pointer t1_2]⟩ w R := calls_of_fnV Tryz.func90 (by rw [e_charset_clusters_1]; exact h)

def an_charset_Kind : Ann := .two (.leaf) (.two (.one (.cut 262136 [(3, .one (.bool))] (.leaf) (.two (.two (.leaf) (.leaf)) (.cut 536608768 [(18, .one (.bool))] (.leaf) (.two (.two (.leaf) (.leaf)) (.cut 68182605824 [(29, .one (.bool))] (.leaf) (.two (.two (.leaf) (.leaf)) (.two (.leaf) (.two (.two (.leaf) (.leaf)) (.two (.leaf) (.two (.two (.leaf) (.leaf)) (.two (.leaf) (.two (.two (.leaf) (.leaf)) (.leaf)))))))))))))) (.two (.leaf) (.leaf)))
def sh_charset_Kind (c_1 : Int) (R : Ending → World → Prop) (w : World) : Prop :=
  ∀ (K2 : Bool → World → Prop), (∀ (t3_3 : Bool) (w4 : World), (∀ _ : Env, (br t3_3 (R (.returned (.int .i64 1)) w4) (∀ (K5 : Bool → World → Prop), (∀ (t18_6 : Bool) (w7 : World), (∀ _ : Env, (br t18_6 (R (.returned (.int .i64 2)) w7) (∀ (K8 : Bool → World → Prop), (∀ (t29_9 : Bool) (w10 : World), (∀ _ : Env, (br t29_9 (R (.returned (.int .i64 3)) w10) (br (decide ((c_1 : Int) = 39)) (R (.returned (.int .i64 4)) w10) (br (decide ((c_1 : Int) = 32)) (R (.returned (.int .i64 6)) w10) (br (decide ((c_1 : Int) ≠ 0)) (Calls Tryz.prog 130 ⟨[.string ⟨⟨[46, 44, 59, 58, 33, 63, 40, 41, 45]⟩⟩, .int .u8 c_1]⟩ w10 fun (e11 : Ending) (w12 : World) =>
  ∃ (x13 : Int), e11 = .returned (.int .i64 x13) ∧ (br (decide ((0 : Int) ≤ x13)) (R (.returned (.int .i64 5)) w12) (R (.returned (.int .i64 0)) w12))) (R (.returned (.int .i64 0)) w10)))))) → K8 t29_9 w10) → (br (decide ((48 : Int) ≤ c_1)) (K8 (decide ((c_1 : Int) ≤ 57)) w7) (K8 false w7))))) → K5 t18_6 w7) → (br (decide ((c_1 : Int) = 94)) (K5 true w4) (br (decide ((c_1 : Int) = 126)) (K5 true w4) (K5 (decide ((c_1 : Int) = 37)) w4)))))) → K2 t3_3 w4) → (br (decide ((97 : Int) ≤ c_1)) (br (decide ((c_1 : Int) ≤ 122)) (K2 true w) (br (decide ((65 : Int) ≤ c_1)) (K2 (decide ((c_1 : Int) ≤ 90)) w) (K2 false w))) (br (decide ((65 : Int) ≤ c_1)) (K2 (decide ((c_1 : Int) ≤ 90)) w) (K2 false w)))
set_option maxRecDepth 100000 in
theorem e_charset_Kind (c_1 : Int) (R : Ending → World → Prop) (w : World) : fnV Tryz.prog Tryz.f91 an_charset_Kind [.int .u8 c_1] R w = sh_charset_Kind c_1 R w := by kernel_rfl
theorem c_charset_Kind {c_1 : Int} {R : Ending → World → Prop} {w : World} (h : sh_charset_Kind c_1 R w) : Calls Tryz.prog F_charset_Kind ⟨[.int .u8 c_1]⟩ w R := calls_of_fnV Tryz.func91 (by rw [e_charset_Kind]; exact h)

def an_charset_right : Ann := .two (.leaf) (.two (.leaf) (.leaf))
def sh_charset_right (s_1 : List UInt8) (from_2 : Int) (at_3 : Int) (R : Ending → World → Prop) (w : World) : Prop :=
  sidx s_1 from_2 fun b4 =>
  Calls Tryz.prog 91 ⟨[.int .u8 ((b4.toNat : Int))]⟩ w fun (e5 : Ending) (w6 : World) =>
  ∃ (x7 : Int), e5 = .returned (.int .i64 x7) ∧ (br (decide ((x7 : Int) = 1)) (R (.returned (.bool (decide ((from_2 : Int) < at_3)))) w6) (R (.returned (.bool false)) w6))
set_option maxRecDepth 100000 in
theorem e_charset_right (s_1 : List UInt8) (from_2 : Int) (at_3 : Int) (R : Ending → World → Prop) (w : World) : fnV Tryz.prog Tryz.f92 an_charset_right [.string ⟨⟨s_1⟩⟩, .int .i64 from_2, .int .i64 at_3] R w = sh_charset_right s_1 from_2 at_3 R w := by kernel_rfl
theorem c_charset_right {s_1 : List UInt8} {from_2 : Int} {at_3 : Int} {R : Ending → World → Prop} {w : World} (h : sh_charset_right s_1 from_2 at_3 R w) : Calls Tryz.prog F_charset_right ⟨[.string ⟨⟨s_1⟩⟩, .int .i64 from_2, .int .i64 at_3]⟩ w R := calls_of_fnV Tryz.func92 (by rw [e_charset_right]; exact h)

def an_charset_IsWord : Ann := .two (.leaf) (.cut 65524 [] (.two (.leaf) (.two (.two (.leaf) (.leaf)) (.leaf))) (.cut 33488908 [] (.two (.leaf) (.two (.leaf) (.two (.two (.leaf) (.leaf)) (.leaf)))) (.two (.leaf) (.leaf))))
def sh_charset_IsWord (s_1 : List UInt8) (R : Ending → World → Prop) (w : World) : Prop :=
  ∀ (K2 : World → Prop), (∀  (w3 : World), (∀ _ : Env, (∀ (K4 : World → Prop), (∀  (w5 : World), (∀ _ : Env, (s2b Tryz.prog w5 5 s_1 fun a6 a6n a6c w7 =>
  Calls Tryz.prog 156 ⟨[.slice a6 a6n a6c, .func (.func 157) #[] #[]]⟩ w7 fun (e8 : Ending) (w9 : World) =>
  ∃ (x10 : Bool), e8 = .returned (.bool x10) ∧ (R (.returned (.bool (!x10))) w9))) → K4 w5) → (sidx s_1 0 fun b11 =>
  Calls Tryz.prog 91 ⟨[.int .u8 ((b11.toNat : Int))]⟩ w3 fun (e12 : Ending) (w13 : World) =>
  ∃ (x14 : Int), e12 = .returned (.int .i64 x14) ∧ (br (decide ((x14 : Int) ≠ 1)) (br (decide ((x14 : Int) ≠ 3)) (R (.returned (.bool false)) w13) (K4 w13)) (K4 w13))))) → K2 w3) → (br (decide ((s_1 : List UInt8) = ([]))) (R (.returned (.bool false)) w) (br (decide ((64 : Int) < ((List.length s_1 : Int)))) (R (.returned (.bool false)) w) (Calls Tryz.prog 155 ⟨[.string ⟨⟨s_1⟩⟩]⟩ w fun (e15 : Ending) (w16 : World) =>
  ∃ (x17 : Int), e15 = .returned (.int .i64 x17) ∧ (br (decide ((x17 : Int) ≠ 0)) (R (.returned (.bool false)) w16) (K2 w16)))))
set_option maxRecDepth 100000 in
theorem e_charset_IsWord (s_1 : List UInt8) (R : Ending → World → Prop) (w : World) : fnV Tryz.prog Tryz.f109 an_charset_IsWord [.string ⟨⟨s_1⟩⟩] R w = sh_charset_IsWord s_1 R w := by kernel_rfl
theorem c_charset_IsWord {s_1 : List UInt8} {R : Ending → World → Prop} {w : World} (h : sh_charset_IsWord s_1 R w) : Calls Tryz.prog F_charset_IsWord ⟨[.string ⟨⟨s_1⟩⟩]⟩ w R := calls_of_fnV Tryz.func109 (by rw [e_charset_IsWord]; exact h)

def an_slices_Clone_of_int_int : Ann := .two (.leaf) (.two (.two (.leaf) (.two (.two (.leaf) (.leaf)) (.leaf))) (.two (.leaf) (.leaf)))
def sh_slices_Clone_of_int_int (s_1 : Option Addr) (s_1n : Nat) (s_1c : Nat) (R : Ending → World → Prop) (w : World) : Prop :=
  br (Option.isNone s_1) (R (.returned (.slice none 0 0)) w) (al w 3 [] fun p2 w3 =>
  app Tryz.prog [40, 40] 40 (.slice (some p2) 0 0) (.slice s_1 s_1n s_1c) w3 fun a4 a4n a4c w5 =>
  R (.returned (.slice a4 a4n a4c)) w5)
set_option maxRecDepth 100000 in
theorem e_slices_Clone_of_int_int (s_1 : Option Addr) (s_1n : Nat) (s_1c : Nat) (R : Ending → World → Prop) (w : World) : fnV Tryz.prog Tryz.f120 an_slices_Clone_of_int_int [.slice s_1 s_1n s_1c] R w = sh_slices_Clone_of_int_int s_1 s_1n s_1c R w := by kernel_rfl
theorem c_slices_Clone_of_int_int {s_1 : Option Addr} {s_1n : Nat} {s_1c : Nat} {R : Ending → World → Prop} {w : World} (h : sh_slices_Clone_of_int_int s_1 s_1n s_1c R w) : Calls Tryz.prog F_slices_Clone_of_int_int ⟨[.slice s_1 s_1n s_1c]⟩ w R := calls_of_fnV Tryz.func120 (by rw [e_slices_Clone_of_int_int]; exact h)

def an_hyphenation_checkPattern : Ann := .two (.leaf) (.two (.two (.leaf) (.two (.two (.leaf) (.leaf)) (.leaf))) (.two (.leaf) (.two (.leaf) (.two (.leaf) (.two (.two (.leaf) (.one (.loop 34359607396 [(5, .one (.bool)), (17, .one (.int .i64))] (.two (.leaf) (.two (.two (.leaf) (.leaf)) (.two (.one (.two (.leaf) (.two (.two (.leaf) (.two (.two (.leaf) (.leaf)) (.leaf))) (.leaf)))) (.leaf))))))) (.two (.two (.leaf) (.two (.two (.leaf) (.leaf)) (.leaf))) (.two (.two (.leaf) (.two (.two (.leaf) (.leaf)) (.leaf))) (.cut 561850441793540 [] (.two (.leaf) (.two (.two (.leaf) (.leaf)) (.leaf))) (.two (.two (.leaf) (.two (.two (.leaf) (.leaf)) (.leaf))) (.two (.leaf) (.leaf)))))))))))
set_option maxRecDepth 100000 in
def sh_hyphenation_checkPattern (p_1 : List UInt8) (p_2 : Option Addr) (p_2n : Nat) (p_2c : Nat) (R : Ending → World → Prop) (w : World) : Prop :=
  al w 85 [.string ⟨⟨p_1⟩⟩, .slice p_2 p_2n p_2c] fun p3 w4 =>
  ∃ (x5 : List UInt8), World.cell? w4 (p3.add 0) = some (.string ⟨⟨x5⟩⟩) ∧ (br (decide ((64 : Int) < ((List.length x5 : Int)))) (R (.returned (.int .i64 4)) w4) (∃ (x6 : List UInt8), World.cell? w4 (p3.add 0) = some (.string ⟨⟨x6⟩⟩) ∧ (Calls Tryz.prog 164 ⟨[.string ⟨⟨x6⟩⟩, .string ⟨⟨[46]⟩⟩]⟩ w4 fun (e7 : Ending) (w8 : World) =>
  ∃ (x9 : List UInt8), e7 = .returned (.string ⟨⟨x9⟩⟩) ∧ (Calls Tryz.prog 18 ⟨[.string ⟨⟨x9⟩⟩, .string ⟨⟨[46]⟩⟩]⟩ w8 fun (e10 : Ending) (w11 : World) =>
  ∃ (x12 : List UInt8), e10 = .returned (.string ⟨⟨x12⟩⟩) ∧ (∃ (I13 : Bool → Int → World → Nat → Prop), (∃ m18 : Nat, I13 false 0 w11 m18) ∧ ∀ (some_14 : Bool) (t17_15 : Int) (w16 : World) (m17 : Nat), I13 some_14 t17_15 w16 m17 → ∀ _ : Env, (br (decide ((t17_15 : Int) < ((List.length x12 : Int)))) (sidx x12 t17_15 fun b19 =>
  CallV Tryz.prog (.func (.func 165) #[] #[]) [.int .u8 ((b19.toNat : Int))] w16 fun (e20 : Ending) (w21 : World) =>
  ∃ (x22 : Bool), e20 = .returned (.bool x22) ∧ (br (!x22) (R (.returned (.int .i64 11)) w21) (br some_14 (∃ m23 : Nat, m23 < m17 ∧ I13 true (IntKind.i64.wrap (t17_15 + 1)) w21 m23) (sidx x12 t17_15 fun b24 =>
  Calls Tryz.prog 91 ⟨[.int .u8 ((b24.toNat : Int))]⟩ w21 fun (e25 : Ending) (w26 : World) =>
  ∃ (x27 : Int), e25 = .returned (.int .i64 x27) ∧ (∃ m28 : Nat, m28 < m17 ∧ I13 (decide ((x27 : Int) ≠ 2)) (IntKind.i64.wrap (t17_15 + 1)) w26 m28))))) (Calls Tryz.prog 155 ⟨[.string ⟨⟨x12⟩⟩]⟩ w16 fun (e29 : Ending) (w30 : World) =>
  ∃ (x31 : Int), e29 = .returned (.int .i64 x31) ∧ (br (decide ((x31 : Int) ≠ 0)) (R (.returned (.int .i64 11)) w30) (br (!some_14) (R (.returned (.int .i64 5)) w30) (∀ (K32 : World → Prop), (∀  (w33 : World), (∀ _ : Env, (∃ (x34 : Option Addr) (x34n : Nat) (x34c : Nat), World.cell? w33 (p3.add 1) = some (.slice x34 x34n x34c) ∧ (Calls Tryz.prog 167 ⟨[.slice x34 x34n x34c, .func (.func 168) #[] #[]]⟩ w33 fun (e35 : Ending) (w36 : World) =>
  ∃ (x37 : Bool), e35 = .returned (.bool x37) ∧ (br x37 (R (.returned (.int .i64 2)) w36) (∃ (x38 : List UInt8), World.cell? w36 (p3.add 0) = some (.string ⟨⟨x38⟩⟩) ∧ (Calls Tryz.prog 169 ⟨[.string ⟨⟨x38⟩⟩, .string ⟨⟨[46]⟩⟩]⟩ w36 fun (e39 : Ending) (w40 : World) =>
  ∃ (x41 : Bool), e39 = .returned (.bool x41) ∧ (br x41 (∃ (x42 : Option Addr) (x42n : Nat) (x42c : Nat), World.cell? w40 (p3.add 1) = some (.slice x42 x42n x42c) ∧ (idx x42 x42n 0 1 fun p43 =>
  ∃ (x44 : Int), World.cell? w40 p43 = some (.int .i64 x44) ∧ (br (decide ((x44 : Int) ≠ 0)) (R (.returned (.int .i64 2)) w40) (∃ (x45 : List UInt8), World.cell? w40 (p3.add 0) = some (.string ⟨⟨x45⟩⟩) ∧ (Calls Tryz.prog 170 ⟨[.string ⟨⟨x45⟩⟩, .string ⟨⟨[46]⟩⟩]⟩ w40 fun (e46 : Ending) (w47 : World) =>
  ∃ (x48 : Bool), e46 = .returned (.bool x48) ∧ (br x48 (∃ (x49 : Option Addr) (x49n : Nat) (x49c : Nat), World.cell? w47 (p3.add 1) = some (.slice x49 x49n x49c) ∧ (∃ (x50 : Option Addr) (x50n : Nat) (x50c : Nat), World.cell? w47 (p3.add 1) = some (.slice x50 x50n x50c) ∧ (idx x49 x49n (IntKind.i64.wrap (((x50n : Int)) - 1)) 1 fun p51 =>
  ∃ (x52 : Int), World.cell? w47 p51 = some (.int .i64 x52) ∧ (br (decide ((x52 : Int) ≠ 0)) (R (.returned (.int .i64 2)) w47) (R (.returned (.int .i64 0)) w47))))) (R (.returned (.int .i64 0)) w47))))))) (∃ (x53 : List UInt8), World.cell? w40 (p3.add 0) = some (.string ⟨⟨x53⟩⟩) ∧ (Calls Tryz.prog 170 ⟨[.string ⟨⟨x53⟩⟩, .string ⟨⟨[46]⟩⟩]⟩ w40 fun (e54 : Ending) (w55 : World) =>
  ∃ (x56 : Bool), e54 = .returned (.bool x56) ∧ (br x56 (∃ (x57 : Option Addr) (x57n : Nat) (x57c : Nat), World.cell? w55 (p3.add 1) = some (.slice x57 x57n x57c) ∧ (∃ (x58 : Option Addr) (x58n : Nat) (x58c : Nat), World.cell? w55 (p3.add 1) = some (.slice x58 x58n x58c) ∧ (idx x57 x57n (IntKind.i64.wrap (((x58n : Int)) - 1)) 1 fun p59 =>
  ∃ (x60 : Int), World.cell? w55 p59 = some (.int .i64 x60) ∧ (br (decide ((x60 : Int) ≠ 0)) (R (.returned (.int .i64 2)) w55) (R (.returned (.int .i64 0)) w55))))) (R (.returned (.int .i64 0)) w55))))))))))) → K32 w33) → (drw w30 fun w61 =>
  (∃ (x62 : Option Addr) (x62n : Nat) (x62c : Nat), World.cell? w61 (p3.add 1) = some (.slice x62 x62n x62c) ∧ (∃ (x63 : List UInt8), World.cell? w61 (p3.add 0) = some (.string ⟨⟨x63⟩⟩) ∧ ((Calls Tryz.prog 166 ⟨[.string ⟨⟨x63⟩⟩]⟩ w61 fun (e64 : Ending) (w65 : World) =>
  ∃ (x66 : Option Addr) (x66n : Nat) (x66c : Nat), e64 = .returned (.slice x66 x66n x66c) ∧ (br (decide ((((x62n : Int)) : Int) ≠ (IntKind.i64.wrap (((x66n : Int)) + 1)))) (R (.returned (.int .i64 9)) w65) (K32 w65))) ∧ True))) ∧ ((∃ (x67 : Option Addr) (x67n : Nat) (x67c : Nat), World.cell? w61 (p3.add 1) = some (.slice x67 x67n x67c) ∧ (∃ (x68 : List UInt8), World.cell? w61 (p3.add 0) = some (.string ⟨⟨x68⟩⟩) ∧ ((Calls Tryz.prog 166 ⟨[.string ⟨⟨x68⟩⟩]⟩ w61 fun (e69 : Ending) (w70 : World) =>
  ∃ (x71 : Option Addr) (x71n : Nat) (x71c : Nat), e69 = .returned (.slice x71 x71n x71c) ∧ (br (decide ((((x67n : Int)) : Int) ≠ (IntKind.i64.wrap (((x71n : Int)) + 1)))) (R (.returned (.int .i64 9)) w70) (K32 w70))) ∧ True))) ∧ (∃ (x72 : List UInt8), World.cell? w61 (p3.add 0) = some (.string ⟨⟨x72⟩⟩) ∧ ((∃ (x73 : Option Addr) (x73n : Nat) (x73c : Nat), World.cell? w61 (p3.add 1) = some (.slice x73 x73n x73c) ∧ ((Calls Tryz.prog 166 ⟨[.string ⟨⟨x72⟩⟩]⟩ w61 fun (e74 : Ending) (w75 : World) =>
  ∃ (x76 : Option Addr) (x76n : Nat) (x76c : Nat), e74 = .returned (.slice x76 x76n x76c) ∧ (br (decide ((((x73n : Int)) : Int) ≠ (IntKind.i64.wrap (((x76n : Int)) + 1)))) (R (.returned (.int .i64 9)) w75) (K32 w75))) ∧ True)) ∧ (Calls Tryz.prog 166 ⟨[.string ⟨⟨x72⟩⟩]⟩ w61 fun (e77 : Ending) (w78 : World) =>
  ∃ (x79 : Option Addr) (x79n : Nat) (x79c : Nat), e77 = .returned (.slice x79 x79n x79c) ∧ (∃ (x80 : Option Addr) (x80n : Nat) (x80c : Nat), World.cell? w78 (p3.add 1) = some (.slice x80 x80n x80c) ∧ (br (decide ((((x80n : Int)) : Int) ≠ (IntKind.i64.wrap (((x79n : Int)) + 1)))) (R (.returned (.int .i64 9)) w78) (K32 w78)))) ∧ True)) ∧ True) ∧ True)))))))))))
set_option maxRecDepth 100000 in
theorem e_hyphenation_checkPattern (p_1 : List UInt8) (p_2 : Option Addr) (p_2n : Nat) (p_2c : Nat) (R : Ending → World → Prop) (w : World) : fnV Tryz.prog Tryz.f121 an_hyphenation_checkPattern [.agg ⟨[.string ⟨⟨p_1⟩⟩, .slice p_2 p_2n p_2c]⟩] R w = sh_hyphenation_checkPattern p_1 p_2 p_2n p_2c R w := by kernel_rfl
theorem c_hyphenation_checkPattern {p_1 : List UInt8} {p_2 : Option Addr} {p_2n : Nat} {p_2c : Nat} {R : Ending → World → Prop} {w : World} (h : sh_hyphenation_checkPattern p_1 p_2 p_2n p_2c R w) : Calls Tryz.prog F_hyphenation_checkPattern ⟨[.agg ⟨[.string ⟨⟨p_1⟩⟩, .slice p_2 p_2n p_2c]⟩]⟩ w R := calls_of_fnV Tryz.func121 (by rw [e_hyphenation_checkPattern]; exact h)

def an_hyphenation_Points : Ann := .two (.leaf) (.two (.two (.leaf) (.two (.leaf) (.two (.two (.leaf) (.leaf)) (.leaf)))) (.two (.leaf) (.two (.leaf) (.leaf))))
def sh_hyphenation_Points (p_1 : Option Addr) (p_1n : Nat) (p_1c : Nat) (w_2 : List UInt8) (R : Ending → World → Prop) (w : World) : Prop :=
  Calls Tryz.prog 171 ⟨[.slice p_1 p_1n p_1c, .string ⟨⟨w_2⟩⟩]⟩ w fun (e3 : Ending) (w4 : World) =>
  ∃ (x5 : Int), e3 = .returned (.int .i64 x5) ∧ (br (decide ((x5 : Int) ≠ 0)) (R (.returned (.tuple ⟨[.slice none 0 0, .int .i64 x5]⟩)) w4) (Calls Tryz.prog 172 ⟨[.slice p_1 p_1n p_1c, .string ⟨⟨w_2⟩⟩]⟩ w4 fun (e6 : Ending) (w7 : World) =>
  ∃ (x8 : Option Addr) (x8n : Nat) (x8c : Nat) (x9 : Option Addr) (x9n : Nat) (x9c : Nat), e6 = .returned (.tuple ⟨[.slice x8 x8n x8c, .slice x9 x9n x9c]⟩) ∧ (R (.returned (.tuple ⟨[.slice x8 x8n x8c, .int .i64 0]⟩)) w7)))
set_option maxRecDepth 100000 in
theorem e_hyphenation_Points (p_1 : Option Addr) (p_1n : Nat) (p_1c : Nat) (w_2 : List UInt8) (R : Ending → World → Prop) (w : World) : fnV Tryz.prog Tryz.f122 an_hyphenation_Points [.slice p_1 p_1n p_1c, .string ⟨⟨w_2⟩⟩] R w = sh_hyphenation_Points p_1 p_1n p_1c w_2 R w := by kernel_rfl
theorem c_hyphenation_Points {p_1 : Option Addr} {p_1n : Nat} {p_1c : Nat} {w_2 : List UInt8} {R : Ending → World → Prop} {w : World} (h : sh_hyphenation_Points p_1 p_1n p_1c w_2 R w) : Calls Tryz.prog F_hyphenation_Points ⟨[.slice p_1 p_1n p_1c, .string ⟨⟨w_2⟩⟩]⟩ w R := calls_of_fnV Tryz.func122 (by rw [e_hyphenation_Points]; exact h)

def an_paragraph_checkItem : Ann := .two (.leaf) (.cut 8796093022204 [] (.one (.cut 4088 [(3, .one (.bool))] (.leaf) (.two (.two (.leaf) (.leaf)) (.cut 536866816 [(12, .one (.bool))] (.leaf) (.two (.two (.leaf) (.leaf)) (.two (.leaf) (.two (.two (.leaf) (.leaf)) (.leaf)))))))) (.two (.two (.leaf) (.two (.two (.leaf) (.leaf)) (.leaf))) (.two (.leaf) (.leaf))))
def sh_paragraph_checkItem (x_1 : Int) (x_2 : Int) (x_3 : Int) (x_4 : Int) (x_5 : Int) (x_6 : List UInt8) (R : Ending → World → Prop) (w : World) : Prop :=
  al w 146 [.int .i64 x_1, .int .i64 x_2, .int .i64 x_3, .int .i64 x_4, .int .i64 x_5, .string ⟨⟨x_6⟩⟩] fun p7 w8 =>
  ∀ (K9 : World → Prop), (∀  (w10 : World), (∀ _ : Env, (∃ (x11 : Int), World.cell? w10 (p7.add 0) = some (.int .i64 x11) ∧ (br (decide ((x11 : Int) ≠ 2)) (∃ (x12 : Int), World.cell? w10 (p7.add 2) = some (.int .i64 x12) ∧ (br (decide ((x12 : Int) ≠ 0)) (R (.returned (.int .i64 1)) w10) (∃ (x13 : Int), World.cell? w10 (p7.add 3) = some (.int .i64 x13) ∧ (br (decide ((x13 : Int) ≠ 0)) (R (.returned (.int .i64 1)) w10) (∃ (x14 : Int), World.cell? w10 (p7.add 0) = some (.int .i64 x14) ∧ (br (decide ((x14 : Int) ≠ 3)) (∃ (x15 : Int), World.cell? w10 (p7.add 4) = some (.int .i64 x15) ∧ (br (decide ((x15 : Int) ≠ 0)) (R (.returned (.int .i64 1)) w10) (∃ (x16 : Int), World.cell? w10 (p7.add 0) = some (.int .i64 x16) ∧ (br (decide ((x16 : Int) = 2)) (∃ (x17 : List UInt8), World.cell? w10 (p7.add 5) = some (.string ⟨⟨x17⟩⟩) ∧ (br (decide ((x17 : List UInt8) ≠ ([]))) (R (.returned (.int .i64 1)) w10) (R (.returned (.int .i64 0)) w10))) (R (.returned (.int .i64 0)) w10))))) (∃ (x18 : Int), World.cell? w10 (p7.add 0) = some (.int .i64 x18) ∧ (br (decide ((x18 : Int) = 2)) (∃ (x19 : List UInt8), World.cell? w10 (p7.add 5) = some (.string ⟨⟨x19⟩⟩) ∧ (br (decide ((x19 : List UInt8) ≠ ([]))) (R (.returned (.int .i64 1)) w10) (R (.returned (.int .i64 0)) w10))) (R (.returned (.int .i64 0)) w10))))))))) (∃ (x20 : Int), World.cell? w10 (p7.add 0) = some (.int .i64 x20) ∧ (br (decide ((x20 : Int) ≠ 3)) (∃ (x21 : Int), World.cell? w10 (p7.add 4) = some (.int .i64 x21) ∧ (br (decide ((x21 : Int) ≠ 0)) (R (.returned (.int .i64 1)) w10) (∃ (x22 : Int), World.cell? w10 (p7.add 0) = some (.int .i64 x22) ∧ (br (decide ((x22 : Int) = 2)) (∃ (x23 : List UInt8), World.cell? w10 (p7.add 5) = some (.string ⟨⟨x23⟩⟩) ∧ (br (decide ((x23 : List UInt8) ≠ ([]))) (R (.returned (.int .i64 1)) w10) (R (.returned (.int .i64 0)) w10))) (R (.returned (.int .i64 0)) w10))))) (∃ (x24 : Int), World.cell? w10 (p7.add 0) = some (.int .i64 x24) ∧ (br (decide ((x24 : Int) = 2)) (∃ (x25 : List UInt8), World.cell? w10 (p7.add 5) = some (.string ⟨⟨x25⟩⟩) ∧ (br (decide ((x25 : List UInt8) ≠ ([]))) (R (.returned (.int .i64 1)) w10) (R (.returned (.int .i64 0)) w10))) (R (.returned (.int .i64 0)) w10)))))))) → K9 w10) → (∀ (K26 : Bool → World → Prop), (∀ (t3_27 : Bool) (w28 : World), (∀ _ : Env, (br t3_27 (R (.returned (.int .i64 8)) w28) (∀ (K29 : Bool → World → Prop), (∀ (t12_30 : Bool) (w31 : World), (∀ _ : Env, (br t12_30 (R (.returned (.int .i64 2)) w31) (∃ (x32 : Int), World.cell? w31 (p7.add 4) = some (.int .i64 x32) ∧ (br (decide ((x32 : Int) ≠ ((-10000)))) (∃ (x33 : Int), World.cell? w31 (p7.add 4) = some (.int .i64 x33) ∧ (br (decide ((x33 : Int) < 0)) (R (.returned (.int .i64 2)) w31) (∃ (x34 : Int), World.cell? w31 (p7.add 4) = some (.int .i64 x34) ∧ (br (decide ((10000 : Int) < x34)) (R (.returned (.int .i64 2)) w31) (K9 w31))))) (K9 w31))))) → K29 t12_30 w31) → (∃ (x35 : Int), World.cell? w28 (p7.add 1) = some (.int .i64 x35) ∧ (Calls Tryz.prog 75 ⟨[.int .i64 x35]⟩ w28 fun (e36 : Ending) (w37 : World) =>
  ∃ (x38 : Bool), e36 = .returned (.bool x38) ∧ (br (!x38) (K29 true w37) (∃ (x39 : Int), World.cell? w37 (p7.add 2) = some (.int .i64 x39) ∧ (Calls Tryz.prog 75 ⟨[.int .i64 x39]⟩ w37 fun (e40 : Ending) (w41 : World) =>
  ∃ (x42 : Bool), e40 = .returned (.bool x42) ∧ (br (!x42) (K29 true w41) (∃ (x43 : Int), World.cell? w41 (p7.add 3) = some (.int .i64 x43) ∧ (Calls Tryz.prog 75 ⟨[.int .i64 x43]⟩ w41 fun (e44 : Ending) (w45 : World) =>
  ∃ (x46 : Bool), e44 = .returned (.bool x46) ∧ (K29 (!x46) w45)))))))))))) → K26 t3_27 w28) → (∃ (x47 : Int), World.cell? w8 (p7.add 0) = some (.int .i64 x47) ∧ (br (decide ((x47 : Int) < 1)) (K26 true w8) (∃ (x48 : Int), World.cell? w8 (p7.add 0) = some (.int .i64 x48) ∧ (K26 (decide ((3 : Int) < x48)) w8)))))
set_option maxRecDepth 100000 in
theorem e_paragraph_checkItem (x_1 : Int) (x_2 : Int) (x_3 : Int) (x_4 : Int) (x_5 : Int) (x_6 : List UInt8) (R : Ending → World → Prop) (w : World) : fnV Tryz.prog Tryz.f123 an_paragraph_checkItem [.agg ⟨[.int .i64 x_1, .int .i64 x_2, .int .i64 x_3, .int .i64 x_4, .int .i64 x_5, .string ⟨⟨x_6⟩⟩]⟩] R w = sh_paragraph_checkItem x_1 x_2 x_3 x_4 x_5 x_6 R w := by kernel_rfl
theorem c_paragraph_checkItem {x_1 : Int} {x_2 : Int} {x_3 : Int} {x_4 : Int} {x_5 : Int} {x_6 : List UInt8} {R : Ending → World → Prop} {w : World} (h : sh_paragraph_checkItem x_1 x_2 x_3 x_4 x_5 x_6 R w) : Calls Tryz.prog F_paragraph_checkItem ⟨[.agg ⟨[.int .i64 x_1, .int .i64 x_2, .int .i64 x_3, .int .i64 x_4, .int .i64 x_5, .string ⟨⟨x_6⟩⟩]⟩]⟩ w R := calls_of_fnV Tryz.func123 (by rw [e_paragraph_checkItem]; exact h)

def an_fixedpoint_Badness : Ann := .two (.leaf) (.two (.leaf) (.cut 245792 [(5, .one (.int .u64))] (.two (.leaf) (.two (.leaf) (.leaf))) (.two (.leaf) (.two (.two (.leaf) (.two (.two (.leaf) (.leaf)) (.leaf))) (.two (.two (.leaf) (.two (.two (.leaf) (.leaf)) (.leaf))) (.two (.leaf) (.two (.leaf) (.two (.leaf) (.two (.leaf) (.two (.one (.loop 72056494526303744 [(9, .one (.int .i64)), (10, .one (.int .i64))] (.two (.two (.leaf) (.two (.leaf) (.leaf))) (.one (.two (.leaf) (.cut 17732923532771328 [(53, .one (.bool))] (.one (.leaf)) (.two (.leaf) (.leaf)))))))) (.two (.leaf) (.leaf))))))))))))
set_option maxRecDepth 100000 in
def sh_fixedpoint_Badness (change_1 : Int) (total_2 : Int) (R : Ending → World → Prop) (w : World) : Prop :=
  ∀ (K3 : Int → World → Prop), (∀ (c_4 : Int) (w5 : World), (∀ _ : Env, (br (decide ((((min c_4 1073741824)) : Int) = 0)) (R (.returned (.int .i64 0)) w5) (br (decide ((total_2 : Int) ≤ 0)) (R (.returned (.int .i64 10000)) w5) (Calls Tryz.prog 175 ⟨[.agg ⟨[.int .u64 0, .int .u64 (IntKind.u64.wrap ((min total_2 1073741824)))]⟩, .int .u64 (IntKind.u64.wrap ((min total_2 1073741824)))]⟩ w5 fun (e6 : Ending) (w7 : World) =>
  ∃ (x8 : Int) (x9 : Int), e6 = .returned (.agg ⟨[.int .u64 x8, .int .u64 x9]⟩) ∧ (Calls Tryz.prog 175 ⟨[.agg ⟨[.int .u64 x8, .int .u64 x9]⟩, .int .u64 (IntKind.u64.wrap ((min total_2 1073741824)))]⟩ w7 fun (e10 : Ending) (w11 : World) =>
  ∃ (x12 : Int) (x13 : Int), e10 = .returned (.agg ⟨[.int .u64 x12, .int .u64 x13]⟩) ∧ (al w11 238 [.int .u64 0, .int .u64 0] fun p14 w15 =>
  stL w15 p14 0 [.int .u64 x12, .int .u64 x13] fun w16 =>
  Calls Tryz.prog 175 ⟨[.agg ⟨[.int .u64 0, .int .u64 ((min c_4 1073741824))]⟩, .int .u64 ((min c_4 1073741824))]⟩ w16 fun (e17 : Ending) (w18 : World) =>
  ∃ (x19 : Int) (x20 : Int), e17 = .returned (.agg ⟨[.int .u64 x19, .int .u64 x20]⟩) ∧ (Calls Tryz.prog 175 ⟨[.agg ⟨[.int .u64 x19, .int .u64 x20]⟩, .int .u64 ((min c_4 1073741824))]⟩ w18 fun (e21 : Ending) (w22 : World) =>
  ∃ (x23 : Int) (x24 : Int), e21 = .returned (.agg ⟨[.int .u64 x23, .int .u64 x24]⟩) ∧ (Calls Tryz.prog 175 ⟨[.agg ⟨[.int .u64 x23, .int .u64 x24]⟩, .int .u64 100]⟩ w22 fun (e25 : Ending) (w26 : World) =>
  ∃ (x27 : Int) (x28 : Int), e25 = .returned (.agg ⟨[.int .u64 x27, .int .u64 x28]⟩) ∧ (al w26 238 [.int .u64 0, .int .u64 0] fun p29 w30 =>
  stL w30 p29 0 [.int .u64 x27, .int .u64 x28] fun w31 =>
  ∃ (I32 : Int → Int → World → Nat → Prop), (∃ m37 : Nat, I32 0 10001 w31 m37) ∧ ∀ (low_33 : Int) (high_34 : Int) (w35 : World) (m36 : Nat), I32 low_33 high_34 w35 m36 → ∀ _ : Env, (br (decide ((1 : Int) < (IntKind.i64.wrap (high_34 - low_33)))) (idiv 2 (∀ (K38 : Bool → World → Prop), (∀ (t53_39 : Bool) (w40 : World), (∀ _ : Env, (br t53_39 (∃ m41 : Nat, m41 < m36 ∧ I32 low_33 (IntKind.i64.wrap (Int.tdiv (IntKind.i64.wrap (low_33 + high_34)) 2)) w40 m41) (∃ m42 : Nat, m42 < m36 ∧ I32 (IntKind.i64.wrap (Int.tdiv (IntKind.i64.wrap (low_33 + high_34)) 2)) high_34 w40 m42))) → K38 t53_39 w40) → (drw w35 fun w43 =>
  (∃ (x44 : Int), World.cell? w43 (p14.add 0) = some (.int .u64 x44) ∧ (∃ (x45 : Int), World.cell? w43 (p14.add 1) = some (.int .u64 x45) ∧ (((Calls Tryz.prog 175 ⟨[.agg ⟨[.int .u64 x44, .int .u64 x45]⟩, .int .u64 (IntKind.u64.wrap (IntKind.i64.wrap (Int.tdiv (IntKind.i64.wrap (low_33 + high_34)) 2)))]⟩ w43 fun (e46 : Ending) (w47 : World) =>
  ∃ (x48 : Int) (x49 : Int), e46 = .returned (.agg ⟨[.int .u64 x48, .int .u64 x49]⟩) ∧ (∃ (x50 : Int), World.cell? w47 (p29.add 0) = some (.int .u64 x50) ∧ (∃ (x51 : Int), World.cell? w47 (p29.add 1) = some (.int .u64 x51) ∧ ((Calls Tryz.prog 176 ⟨[.agg ⟨[.int .u64 x48, .int .u64 x49]⟩, .agg ⟨[.int .u64 x50, .int .u64 x51]⟩]⟩ w47 fun (e52 : Ending) (w53 : World) =>
  ∃ (x54 : Bool), e52 = .returned (.bool x54) ∧ (K38 x54 w53)) ∧ True)))) ∧ (∃ (x55 : Int), World.cell? w43 (p29.add 0) = some (.int .u64 x55) ∧ (∃ (x56 : Int), World.cell? w43 (p29.add 1) = some (.int .u64 x56) ∧ ((Calls Tryz.prog 175 ⟨[.agg ⟨[.int .u64 x44, .int .u64 x45]⟩, .int .u64 (IntKind.u64.wrap (IntKind.i64.wrap (Int.tdiv (IntKind.i64.wrap (low_33 + high_34)) 2)))]⟩ w43 fun (e57 : Ending) (w58 : World) =>
  ∃ (x59 : Int) (x60 : Int), e57 = .returned (.agg ⟨[.int .u64 x59, .int .u64 x60]⟩) ∧ ((Calls Tryz.prog 176 ⟨[.agg ⟨[.int .u64 x59, .int .u64 x60]⟩, .agg ⟨[.int .u64 x55, .int .u64 x56]⟩]⟩ w58 fun (e61 : Ending) (w62 : World) =>
  ∃ (x63 : Bool), e61 = .returned (.bool x63) ∧ (K38 x63 w62)) ∧ True)) ∧ True))) ∧ True) ∧ (∃ (x64 : Int), World.cell? w43 (p29.add 0) = some (.int .u64 x64) ∧ (∃ (x65 : Int), World.cell? w43 (p29.add 1) = some (.int .u64 x65) ∧ (((Calls Tryz.prog 175 ⟨[.agg ⟨[.int .u64 x44, .int .u64 x45]⟩, .int .u64 (IntKind.u64.wrap (IntKind.i64.wrap (Int.tdiv (IntKind.i64.wrap (low_33 + high_34)) 2)))]⟩ w43 fun (e66 : Ending) (w67 : World) =>
  ∃ (x68 : Int) (x69 : Int), e66 = .returned (.agg ⟨[.int .u64 x68, .int .u64 x69]⟩) ∧ ((Calls Tryz.prog 176 ⟨[.agg ⟨[.int .u64 x68, .int .u64 x69]⟩, .agg ⟨[.int .u64 x64, .int .u64 x65]⟩]⟩ w67 fun (e70 : Ending) (w71 : World) =>
  ∃ (x72 : Bool), e70 = .returned (.bool x72) ∧ (K38 x72 w71)) ∧ True)) ∧ True) ∧ True))) ∧ True))) ∧ (∃ (x73 : Int), World.cell? w43 (p14.add 0) = some (.int .u64 x73) ∧ (∃ (x74 : Int), World.cell? w43 (p14.add 1) = some (.int .u64 x74) ∧ ((Calls Tryz.prog 175 ⟨[.agg ⟨[.int .u64 x73, .int .u64 x74]⟩, .int .u64 (IntKind.u64.wrap (IntKind.i64.wrap (Int.tdiv (IntKind.i64.wrap (low_33 + high_34)) 2)))]⟩ w43 fun (e75 : Ending) (w76 : World) =>
  ∃ (x77 : Int) (x78 : Int), e75 = .returned (.agg ⟨[.int .u64 x77, .int .u64 x78]⟩) ∧ (∃ (x79 : Int), World.cell? w76 (p29.add 0) = some (.int .u64 x79) ∧ (∃ (x80 : Int), World.cell? w76 (p29.add 1) = some (.int .u64 x80) ∧ ((Calls Tryz.prog 176 ⟨[.agg ⟨[.int .u64 x77, .int .u64 x78]⟩, .agg ⟨[.int .u64 x79, .int .u64 x80]⟩]⟩ w76 fun (e81 : Ending) (w82 : World) =>
  ∃ (x83 : Bool), e81 = .returned (.bool x83) ∧ (K38 x83 w82)) ∧ True)))) ∧ (∃ (x84 : Int), World.cell? w43 (p29.add 0) = some (.int .u64 x84) ∧ (∃ (x85 : Int), World.cell? w43 (p29.add 1) = some (.int .u64 x85) ∧ ((Calls Tryz.prog 175 ⟨[.agg ⟨[.int .u64 x73, .int .u64 x74]⟩, .int .u64 (IntKind.u64.wrap (IntKind.i64.wrap (Int.tdiv (IntKind.i64.wrap (low_33 + high_34)) 2)))]⟩ w43 fun (e86 : Ending) (w87 : World) =>
  ∃ (x88 : Int) (x89 : Int), e86 = .returned (.agg ⟨[.int .u64 x88, .int .u64 x89]⟩) ∧ ((Calls Tryz.prog 176 ⟨[.agg ⟨[.int .u64 x88, .int .u64 x89]⟩, .agg ⟨[.int .u64 x84, .int .u64 x85]⟩]⟩ w87 fun (e90 : Ending) (w91 : World) =>
  ∃ (x92 : Bool), e90 = .returned (.bool x92) ∧ (K38 x92 w91)) ∧ True)) ∧ True))) ∧ True))) ∧ (∃ (x93 : Int), World.cell? w43 (p29.add 0) = some (.int .u64 x93) ∧ (∃ (x94 : Int), World.cell? w43 (p29.add 1) = some (.int .u64 x94) ∧ ((∃ (x95 : Int), World.cell? w43 (p14.add 0) = some (.int .u64 x95) ∧ (∃ (x96 : Int), World.cell? w43 (p14.add 1) = some (.int .u64 x96) ∧ ((Calls Tryz.prog 175 ⟨[.agg ⟨[.int .u64 x95, .int .u64 x96]⟩, .int .u64 (IntKind.u64.wrap (IntKind.i64.wrap (Int.tdiv (IntKind.i64.wrap (low_33 + high_34)) 2)))]⟩ w43 fun (e97 : Ending) (w98 : World) =>
  ∃ (x99 : Int) (x100 : Int), e97 = .returned (.agg ⟨[.int .u64 x99, .int .u64 x100]⟩) ∧ ((Calls Tryz.prog 176 ⟨[.agg ⟨[.int .u64 x99, .int .u64 x100]⟩, .agg ⟨[.int .u64 x93, .int .u64 x94]⟩]⟩ w98 fun (e101 : Ending) (w102 : World) =>
  ∃ (x103 : Bool), e101 = .returned (.bool x103) ∧ (K38 x103 w102)) ∧ True)) ∧ True))) ∧ True))) ∧ True))) (R (.returned (.int .i64 low_33)) w35))))))))))) → K3 c_4 w5) → (br (decide ((change_1 : Int) < 0)) (K3 (IntKind.u64.wrap (0 - (IntKind.u64.wrap change_1))) w) (K3 (IntKind.u64.wrap change_1) w))
set_option maxRecDepth 100000 in
theorem e_fixedpoint_Badness (change_1 : Int) (total_2 : Int) (R : Ending → World → Prop) (w : World) : fnV Tryz.prog Tryz.f128 an_fixedpoint_Badness [.int .i64 change_1, .int .i64 total_2] R w = sh_fixedpoint_Badness change_1 total_2 R w := by kernel_rfl
theorem c_fixedpoint_Badness {change_1 : Int} {total_2 : Int} {R : Ending → World → Prop} {w : World} (h : sh_fixedpoint_Badness change_1 total_2 R w) : Calls Tryz.prog F_fixedpoint_Badness ⟨[.int .i64 change_1, .int .i64 total_2]⟩ w R := calls_of_fnV Tryz.func128 (by rw [e_fixedpoint_Badness]; exact h)

def an_math_bits_Mul64 : Ann := .two (.leaf) (.two (.leaf) (.two (.leaf) (.two (.leaf) (.two (.leaf) (.two (.leaf) (.two (.leaf) (.two (.leaf) (.two (.leaf) (.two (.leaf) (.two (.leaf) (.two (.leaf) (.leaf))))))))))))
def sh_math_bits_Mul64 (x_1 : Int) (y_2 : Int) (R : Ending → World → Prop) (w : World) : Prop :=
  shf 32 (shf 32 (shf 32 (shf 32 (shf 32 (R (.returned (.tuple ⟨[.int .u64 (IntKind.u64.wrap ((IntKind.u64.wrap ((IntKind.u64.wrap ((shR .u64 x_1 32) * (shR .u64 y_2 32))) + (shR .u64 (IntKind.u64.wrap ((IntKind.u64.wrap ((shR .u64 x_1 32) * (bitA .u64 y_2 4294967295))) + (shR .u64 (IntKind.u64.wrap ((bitA .u64 x_1 4294967295) * (bitA .u64 y_2 4294967295))) 32))) 32))) + (shR .u64 (IntKind.u64.wrap ((bitA .u64 (IntKind.u64.wrap ((IntKind.u64.wrap ((shR .u64 x_1 32) * (bitA .u64 y_2 4294967295))) + (shR .u64 (IntKind.u64.wrap ((bitA .u64 x_1 4294967295) * (bitA .u64 y_2 4294967295))) 32))) 4294967295) + (IntKind.u64.wrap ((bitA .u64 x_1 4294967295) * (shR .u64 y_2 32))))) 32))), .int .u64 (IntKind.u64.wrap (x_1 * y_2))]⟩)) w)))))
set_option maxRecDepth 100000 in
theorem e_math_bits_Mul64 (x_1 : Int) (y_2 : Int) (R : Ending → World → Prop) (w : World) : fnV Tryz.prog Tryz.f154 an_math_bits_Mul64 [.int .u64 x_1, .int .u64 y_2] R w = sh_math_bits_Mul64 x_1 y_2 R w := by kernel_rfl
theorem c_math_bits_Mul64 {x_1 : Int} {y_2 : Int} {R : Ending → World → Prop} {w : World} (h : sh_math_bits_Mul64 x_1 y_2 R w) : Calls Tryz.prog F_math_bits_Mul64 ⟨[.int .u64 x_1, .int .u64 y_2]⟩ w R := calls_of_fnV Tryz.func154 (by rw [e_math_bits_Mul64]; exact h)

def an_charset_Check : Ann := .two (.leaf) (.two (.two (.leaf) (.two (.two (.leaf) (.leaf)) (.leaf))) (.two (.two (.leaf) (.one (.rf [2, 10] 0))) (.two (.leaf) (.leaf))))
def sh_charset_Check (s_1 : List UInt8) (R : Ending → World → Prop) (w : World) : Prop :=
  al w 41 [.int .i64 0] fun p2 w3 =>
  br (decide ((65536 : Int) < ((List.length s_1 : Int)))) (stL w3 p2 0 [.int .i64 4] fun w4 =>
  ∃ (x5 : Int), World.cell? w4 p2 = some (.int .i64 x5) ∧ (R (.returned (.int .i64 x5)) w4)) (Calls Tryz.prog 48 ⟨[.string ⟨⟨s_1⟩⟩]⟩ w3 fun (e6 : Ending) (w7 : World) =>
  ∃ (x8 : Fn) (x8a : Array Value) (x8b : Array Value), e6 = .returned (.func x8 x8a x8b) ∧ (∀ base9 : Env, RFw Tryz.prog none 22 (cdAt Tryz.f155 [1, 1, 0, 1, 2]) (upd (upd base9 10 (.func x8 x8a x8b)) 2 (.pointer (some p2))) [] w7 0 (fun ds10 w11 =>
  stL w11 p2 0 [.int .i64 0] fun w15 =>
  retD ds10 w15 fun w16 =>
  ∃ (x17 : Int), World.cell? w16 p2 = some (.int .i64 x17) ∧ (R (.returned (.int .i64 x17)) w16)) (fun ds10 w11 =>
  retD ds10 w11 fun w18 =>
  ∃ (x19 : Int), World.cell? w18 p2 = some (.int .i64 x19) ∧ (R (.returned (.int .i64 x19)) w18)) (fun ds10 w11 =>
  stL w11 p2 0 [.int .i64 0] fun w12 =>
  retD ds10 w12 fun w13 =>
  ∃ (x14 : Int), World.cell? w13 p2 = some (.int .i64 x14) ∧ (R (.returned (.int .i64 x14)) w13))))
set_option maxRecDepth 100000 in
theorem e_charset_Check (s_1 : List UInt8) (R : Ending → World → Prop) (w : World) : fnV Tryz.prog Tryz.f155 an_charset_Check [.string ⟨⟨s_1⟩⟩] R w = sh_charset_Check s_1 R w := by kernel_rfl
theorem c_charset_Check {s_1 : List UInt8} {R : Ending → World → Prop} {w : World} (h : sh_charset_Check s_1 R w) : Calls Tryz.prog F_charset_Check ⟨[.string ⟨⟨s_1⟩⟩]⟩ w R := calls_of_fnV Tryz.func155 (by rw [e_charset_Check]; exact h)
def anA_charset_Check_1 : Ann := .leaf
def anB_charset_Check_1 : Ann := .one (.two (.leaf) (.two (.leaf) (.two (.two (.leaf) (.leaf)) (.leaf))))
def rf_charset_Check_1 (t2_20 : Option Addr) (t10_21 : Fn) (t10_21a : Array Value) (t10_21b : Array Value) (t11_22 : Value) (t12_23 : List UInt8) (l : Nat) (Kn Kr Kx : World → World → Prop) (w : World) : Prop :=
  Ext w w ∧ ∀ w24 : World, Upd l w w24 → (sidx t12_23 0 fun b25 =>
  Calls Tryz.prog 91 ⟨[.int .u8 ((b25.toNat : Int))]⟩ w24 fun (e26 : Ending) (w27 : World) =>
  ∃ (x28 : Int), e26 = .returned (.int .i64 x28) ∧ (br (decide ((x28 : Int) = 0)) (dr t2_20 fun p30 =>
  stL w27 p30 0 [.int .i64 11] fun w29 =>
  Kr w24 w29) (br (decide ((x28 : Int) = 2)) (dr t2_20 fun p32 =>
  stL w27 p32 0 [.int .i64 11] fun w31 =>
  Kr w24 w31) (Kn w24 w27))))
set_option maxRecDepth 100000 in
theorem er_charset_Check_1 (base : Env) (t2_20 : Option Addr) (t10_21 : Fn) (t10_21a : Array Value) (t10_21b : Array Value) (t11_22 : Value) (t12_23 : List UInt8) (l : Nat) (Kn Kr Kx : World → World → Prop) (w : World) : fragV Tryz.prog 22 anA_charset_Check_1 anB_charset_Check_1 (cdAt Tryz.f155 [1, 1, 0, 1, 2, 5]) (cdAt Tryz.f155 [1, 1, 0, 1, 2, 6]) l 0 Kn Kr Kx (updPs [11, 12] [t11_22, .string ⟨⟨t12_23⟩⟩] (upd (upd base 10 (.func t10_21 t10_21a t10_21b)) 2 (.pointer t2_20))) w = rf_charset_Check_1 t2_20 t10_21 t10_21a t10_21b t11_22 t12_23 l Kn Kr Kx w := by kernel_rfl
theorem cd_charset_Check_1 : cdAt Tryz.f155 [1, 1, 0, 1, 2] = .rangeFunc (Operand.tmp 10) #[11, 12] (cdAt Tryz.f155 [1, 1, 0, 1, 2, 5]) (cdAt Tryz.f155 [1, 1, 0, 1, 2, 6]) := by kernel_rfl

def an_slices_ContainsFunc_of_byte_byte : Ann := .two (.leaf) (.two (.leaf) (.leaf))
def sh_slices_ContainsFunc_of_byte_byte (s_1 : Option Addr) (s_1n : Nat) (s_1c : Nat) (f_2 : Fn) (f_2a : Array Value) (f_2b : Array Value) (R : Ending → World → Prop) (w : World) : Prop :=
  Calls Tryz.prog 196 ⟨[.slice s_1 s_1n s_1c, .func f_2 f_2a f_2b]⟩ w fun (e3 : Ending) (w4 : World) =>
  ∃ (x5 : Int), e3 = .returned (.int .i64 x5) ∧ (R (.returned (.bool (decide ((0 : Int) ≤ x5)))) w4)
set_option maxRecDepth 100000 in
theorem e_slices_ContainsFunc_of_byte_byte (s_1 : Option Addr) (s_1n : Nat) (s_1c : Nat) (f_2 : Fn) (f_2a : Array Value) (f_2b : Array Value) (R : Ending → World → Prop) (w : World) : fnV Tryz.prog Tryz.f156 an_slices_ContainsFunc_of_byte_byte [.slice s_1 s_1n s_1c, .func f_2 f_2a f_2b] R w = sh_slices_ContainsFunc_of_byte_byte s_1 s_1n s_1c f_2 f_2a f_2b R w := by kernel_rfl
theorem c_slices_ContainsFunc_of_byte_byte {s_1 : Option Addr} {s_1n : Nat} {s_1c : Nat} {f_2 : Fn} {f_2a : Array Value} {f_2b : Array Value} {R : Ending → World → Prop} {w : World} (h : sh_slices_ContainsFunc_of_byte_byte s_1 s_1n s_1c f_2 f_2a f_2b R w) : Calls Tryz.prog F_slices_ContainsFunc_of_byte_byte ⟨[.slice s_1 s_1n s_1c, .func f_2 f_2a f_2b]⟩ w R := calls_of_fnV Tryz.func156 (by rw [e_slices_ContainsFunc_of_byte_byte]; exact h)

def an_charset_IsWord_1 : Ann := .two (.leaf) (.two (.leaf) (.two (.leaf) (.leaf)))
def sh_charset_IsWord_1 (c_1 : Int) (R : Ending → World → Prop) (w : World) : Prop :=
  Calls Tryz.prog 91 ⟨[.int .u8 c_1]⟩ w fun (e2 : Ending) (w3 : World) =>
  ∃ (x4 : Int), e2 = .returned (.int .i64 x4) ∧ (br (decide ((x4 : Int) = 5)) (R (.returned (.bool true)) w3) (R (.returned (.bool (decide ((x4 : Int) = 6)))) w3))
set_option maxRecDepth 100000 in
theorem e_charset_IsWord_1 (c_1 : Int) (R : Ending → World → Prop) (w : World) : fnV Tryz.prog Tryz.f157 an_charset_IsWord_1 [.int .u8 c_1] R w = sh_charset_IsWord_1 c_1 R w := by kernel_rfl
theorem c_charset_IsWord_1 {c_1 : Int} {R : Ending → World → Prop} {w : World} (h : sh_charset_IsWord_1 c_1 R w) : Calls Tryz.prog F_charset_IsWord_1 ⟨[.int .u8 c_1]⟩ w R := calls_of_fnV Tryz.func157 (by rw [e_charset_IsWord_1]; exact h)

def an_hyphenation_checkPattern_1 : Ann := .two (.leaf) (.two (.leaf) (.two (.leaf) (.leaf)))
def sh_hyphenation_checkPattern_1 (c_1 : Int) (R : Ending → World → Prop) (w : World) : Prop :=
  Calls Tryz.prog 91 ⟨[.int .u8 c_1]⟩ w fun (e2 : Ending) (w3 : World) =>
  ∃ (x4 : Int), e2 = .returned (.int .i64 x4) ∧ (br (decide ((x4 : Int) = 1)) (R (.returned (.bool true)) w3) (br (decide ((x4 : Int) = 2)) (R (.returned (.bool true)) w3) (R (.returned (.bool (decide ((x4 : Int) = 4)))) w3)))
set_option maxRecDepth 100000 in
theorem e_hyphenation_checkPattern_1 (c_1 : Int) (R : Ending → World → Prop) (w : World) : fnV Tryz.prog Tryz.f165 an_hyphenation_checkPattern_1 [.int .u8 c_1] R w = sh_hyphenation_checkPattern_1 c_1 R w := by kernel_rfl
theorem c_hyphenation_checkPattern_1 {c_1 : Int} {R : Ending → World → Prop} {w : World} (h : sh_hyphenation_checkPattern_1 c_1 R w) : Calls Tryz.prog F_hyphenation_checkPattern_1 ⟨[.int .u8 c_1]⟩ w R := calls_of_fnV Tryz.func165 (by rw [e_hyphenation_checkPattern_1]; exact h)

def an_hyphenation_units : Ann := .two (.leaf) (.two (.leaf) (.leaf))
def sh_hyphenation_units (s_1 : List UInt8) (R : Ending → World → Prop) (w : World) : Prop :=
  Calls Tryz.prog 15 ⟨[.string ⟨⟨s_1⟩⟩]⟩ w fun (e2 : Ending) (w3 : World) =>
  ∃ (x4 : Option Addr) (x4n : Nat) (x4c : Nat), e2 = .returned (.slice x4 x4n x4c) ∧ (R (.returned (.slice x4 x4n x4c)) w3)
set_option maxRecDepth 100000 in
theorem e_hyphenation_units (s_1 : List UInt8) (R : Ending → World → Prop) (w : World) : fnV Tryz.prog Tryz.f166 an_hyphenation_units [.string ⟨⟨s_1⟩⟩] R w = sh_hyphenation_units s_1 R w := by kernel_rfl
theorem c_hyphenation_units {s_1 : List UInt8} {R : Ending → World → Prop} {w : World} (h : sh_hyphenation_units s_1 R w) : Calls Tryz.prog F_hyphenation_units ⟨[.string ⟨⟨s_1⟩⟩]⟩ w R := calls_of_fnV Tryz.func166 (by rw [e_hyphenation_units]; exact h)

def an_slices_ContainsFunc_of_int_int : Ann := .two (.leaf) (.two (.leaf) (.leaf))
def sh_slices_ContainsFunc_of_int_int (s_1 : Option Addr) (s_1n : Nat) (s_1c : Nat) (f_2 : Fn) (f_2a : Array Value) (f_2b : Array Value) (R : Ending → World → Prop) (w : World) : Prop :=
  Calls Tryz.prog 207 ⟨[.slice s_1 s_1n s_1c, .func f_2 f_2a f_2b]⟩ w fun (e3 : Ending) (w4 : World) =>
  ∃ (x5 : Int), e3 = .returned (.int .i64 x5) ∧ (R (.returned (.bool (decide ((0 : Int) ≤ x5)))) w4)
set_option maxRecDepth 100000 in
theorem e_slices_ContainsFunc_of_int_int (s_1 : Option Addr) (s_1n : Nat) (s_1c : Nat) (f_2 : Fn) (f_2a : Array Value) (f_2b : Array Value) (R : Ending → World → Prop) (w : World) : fnV Tryz.prog Tryz.f167 an_slices_ContainsFunc_of_int_int [.slice s_1 s_1n s_1c, .func f_2 f_2a f_2b] R w = sh_slices_ContainsFunc_of_int_int s_1 s_1n s_1c f_2 f_2a f_2b R w := by kernel_rfl
theorem c_slices_ContainsFunc_of_int_int {s_1 : Option Addr} {s_1n : Nat} {s_1c : Nat} {f_2 : Fn} {f_2a : Array Value} {f_2b : Array Value} {R : Ending → World → Prop} {w : World} (h : sh_slices_ContainsFunc_of_int_int s_1 s_1n s_1c f_2 f_2a f_2b R w) : Calls Tryz.prog F_slices_ContainsFunc_of_int_int ⟨[.slice s_1 s_1n s_1c, .func f_2 f_2a f_2b]⟩ w R := calls_of_fnV Tryz.func167 (by rw [e_slices_ContainsFunc_of_int_int]; exact h)

def an_hyphenation_checkPattern_2 : Ann := .two (.leaf) (.two (.leaf) (.leaf))
def sh_hyphenation_checkPattern_2 (n_1 : Int) (R : Ending → World → Prop) (w : World) : Prop :=
  br (decide ((n_1 : Int) < 0)) (R (.returned (.bool true)) w) (R (.returned (.bool (decide ((9 : Int) < n_1)))) w)
set_option maxRecDepth 100000 in
theorem e_hyphenation_checkPattern_2 (n_1 : Int) (R : Ending → World → Prop) (w : World) : fnV Tryz.prog Tryz.f168 an_hyphenation_checkPattern_2 [.int .i64 n_1] R w = sh_hyphenation_checkPattern_2 n_1 R w := by kernel_rfl
theorem c_hyphenation_checkPattern_2 {n_1 : Int} {R : Ending → World → Prop} {w : World} (h : sh_hyphenation_checkPattern_2 n_1 R w) : Calls Tryz.prog F_hyphenation_checkPattern_2 ⟨[.int .i64 n_1]⟩ w R := calls_of_fnV Tryz.func168 (by rw [e_hyphenation_checkPattern_2]; exact h)

def an_hyphenation_check : Ann := .two (.leaf) (.two (.one (.two (.leaf) (.two (.two (.leaf) (.leaf)) (.two (.leaf) (.two (.two (.leaf) (.leaf)) (.leaf)))))) (.two (.leaf) (.leaf)))
def sh_hyphenation_check (p_1 : Option Addr) (p_1n : Nat) (p_1c : Nat) (w_2 : List UInt8) (R : Ending → World → Prop) (w : World) : Prop :=
  Calls Tryz.prog 76 ⟨[.slice p_1 p_1n p_1c]⟩ w fun (e3 : Ending) (w4 : World) =>
  ∃ (x5 : Int), e3 = .returned (.int .i64 x5) ∧ (br (decide ((x5 : Int) ≠ 0)) (R (.returned (.int .i64 1)) w4) (Calls Tryz.prog 109 ⟨[.string ⟨⟨w_2⟩⟩]⟩ w4 fun (e6 : Ending) (w7 : World) =>
  ∃ (x8 : Bool), e6 = .returned (.bool x8) ∧ (br (!x8) (R (.returned (.int .i64 11)) w7) (R (.returned (.int .i64 0)) w7))))
set_option maxRecDepth 100000 in
theorem e_hyphenation_check (p_1 : Option Addr) (p_1n : Nat) (p_1c : Nat) (w_2 : List UInt8) (R : Ending → World → Prop) (w : World) : fnV Tryz.prog Tryz.f171 an_hyphenation_check [.slice p_1 p_1n p_1c, .string ⟨⟨w_2⟩⟩] R w = sh_hyphenation_check p_1 p_1n p_1c w_2 R w := by kernel_rfl
theorem c_hyphenation_check {p_1 : Option Addr} {p_1n : Nat} {p_1c : Nat} {w_2 : List UInt8} {R : Ending → World → Prop} {w : World} (h : sh_hyphenation_check p_1 p_1n p_1c w_2 R w) : Calls Tryz.prog F_hyphenation_check ⟨[.slice p_1 p_1n p_1c, .string ⟨⟨w_2⟩⟩]⟩ w R := calls_of_fnV Tryz.func171 (by rw [e_hyphenation_check]; exact h)

def an_hyphenation_points : Ann := .two (.leaf) (.two (.leaf) (.two (.leaf) (.two (.leaf) (.two (.two (.leaf) (.one (.loop 18014398509223616 [(6, .one (.slice)), (7, .one (.slice)), (9, .one (.int .i64)), (18, .one (.int .i64))] (.two (.leaf) (.two (.two (.leaf) (.leaf)) (.two (.one (.two (.leaf) (.two (.leaf) (.cut 35183298347008 [(44, .one (.bool))] (.leaf) (.two (.leaf) (.leaf)))))) (.leaf))))))) (.two (.leaf) (.leaf))))))
def sh_hyphenation_points (p_1 : Option Addr) (p_1n : Nat) (p_1c : Nat) (w_2 : List UInt8) (R : Ending → World → Prop) (w : World) : Prop :=
  Calls Tryz.prog 166 ⟨[.string ⟨⟨w_2⟩⟩]⟩ w fun (e3 : Ending) (w4 : World) =>
  ∃ (x5 : Option Addr) (x5n : Nat) (x5c : Nat), e3 = .returned (.slice x5 x5n x5c) ∧ (Calls Tryz.prog 209 ⟨[.slice p_1 p_1n p_1c, .string ⟨⟨w_2⟩⟩]⟩ w4 fun (e6 : Ending) (w7 : World) =>
  ∃ (x8 : Option Addr) (x8n : Nat) (x8c : Nat), e6 = .returned (.slice x8 x8n x8c) ∧ (∃ (I9 : Option Addr → Nat → Nat → Option Addr → Nat → Nat → Int → Int → World → Nat → Prop), (∃ m16 : Nat, I9 none 0 0 none 0 0 0 0 w7 m16) ∧ ∀ (at_10 : Option Addr) (at_10n : Nat) (at_10c : Nat) (high_11 : Option Addr) (high_11n : Nat) (high_11c : Nat) (offset_12 : Int) (t18_13 : Int) (w14 : World) (m15 : Nat), I9 at_10 at_10n at_10c high_11 high_11n high_11c offset_12 t18_13 w14 m15 → ∀ _ : Env, (br (decide ((t18_13 : Int) < ((x8n : Int)))) (idx x8 x8n t18_13 1 fun p17 =>
  ∃ (x18 : Int), World.cell? w14 p17 = some (.int .i64 x18) ∧ (idx x5 x5n t18_13 1 fun p19 =>
  ∃ (x20 : List UInt8), World.cell? w14 p19 = some (.string ⟨⟨x20⟩⟩) ∧ (∀ (K21 : Bool → World → Prop), (∀ (t44_22 : Bool) (w23 : World), (∀ _ : Env, (br t44_22 (al w23 3 [.int .i64 (IntKind.i64.wrap (offset_12 + ((List.length x20 : Int))))] fun p24 w25 =>
  app Tryz.prog [40, 40] 40 (.slice at_10 at_10n at_10c) (.slice (some p24) 1 1) w25 fun a26 a26n a26c w27 =>
  al w27 3 [.int .i64 x18] fun p28 w29 =>
  app Tryz.prog [40, 40] 40 (.slice high_11 high_11n high_11c) (.slice (some p28) 1 1) w29 fun a30 a30n a30c w31 =>
  ∃ m32 : Nat, m32 < m15 ∧ I9 a26 a26n a26c a30 a30n a30c (IntKind.i64.wrap (offset_12 + ((List.length x20 : Int)))) (IntKind.i64.wrap (t18_13 + 1)) w31 m32) (∃ m33 : Nat, m33 < m15 ∧ I9 at_10 at_10n at_10c high_11 high_11n high_11c (IntKind.i64.wrap (offset_12 + ((List.length x20 : Int)))) (IntKind.i64.wrap (t18_13 + 1)) w23 m33))) → K21 t44_22 w23) → (idiv 2 (br (decide (((Int.tmod x18 2) : Int) = 1)) (br (decide ((1 : Int) ≤ t18_13)) (K21 (decide ((2 : Int) ≤ (IntKind.i64.wrap ((IntKind.i64.wrap (((x5n : Int)) - t18_13)) - 1)))) w14) (K21 false w14)) (K21 false w14)))))) (R (.returned (.tuple ⟨[.slice at_10 at_10n at_10c, .slice high_11 high_11n high_11c]⟩)) w14))))
set_option maxRecDepth 100000 in
theorem e_hyphenation_points (p_1 : Option Addr) (p_1n : Nat) (p_1c : Nat) (w_2 : List UInt8) (R : Ending → World → Prop) (w : World) : fnV Tryz.prog Tryz.f172 an_hyphenation_points [.slice p_1 p_1n p_1c, .string ⟨⟨w_2⟩⟩] R w = sh_hyphenation_points p_1 p_1n p_1c w_2 R w := by kernel_rfl
theorem c_hyphenation_points {p_1 : Option Addr} {p_1n : Nat} {p_1c : Nat} {w_2 : List UInt8} {R : Ending → World → Prop} {w : World} (h : sh_hyphenation_points p_1 p_1n p_1c w_2 R w) : Calls Tryz.prog F_hyphenation_points ⟨[.slice p_1 p_1n p_1c, .string ⟨⟨w_2⟩⟩]⟩ w R := calls_of_fnV Tryz.func172 (by rw [e_hyphenation_points]; exact h)

def an_fixedpoint_wide_times : Ann := .two (.leaf) (.two (.leaf) (.two (.leaf) (.leaf)))
def sh_fixedpoint_wide_times (w_1 : Int) (w_2 : Int) (n_3 : Int) (R : Ending → World → Prop) (w : World) : Prop :=
  al w 238 [.int .u64 w_1, .int .u64 w_2] fun p4 w5 =>
  al w5 238 [.int .u64 0, .int .u64 0] fun p6 w7 =>
  ∃ (x8 : Int), World.cell? w7 (p4.add 1) = some (.int .u64 x8) ∧ (Calls Tryz.prog 154 ⟨[.int .u64 x8, .int .u64 n_3]⟩ w7 fun (e9 : Ending) (w10 : World) =>
  ∃ (x11 : Int) (x12 : Int), e9 = .returned (.tuple ⟨[.int .u64 x11, .int .u64 x12]⟩) ∧ (∃ (x13 : Int), World.cell? w10 (p4.add 0) = some (.int .u64 x13) ∧ (stL w10 p6 0 [.int .u64 (IntKind.u64.wrap (x11 + (IntKind.u64.wrap (x13 * n_3)))), .int .u64 x12] fun w14 =>
  ∃ (x15 : Int), World.cell? w14 (p6.add 0) = some (.int .u64 x15) ∧ (∃ (x16 : Int), World.cell? w14 (p6.add 1) = some (.int .u64 x16) ∧ (R (.returned (.agg ⟨[.int .u64 x15, .int .u64 x16]⟩)) w14)))))
set_option maxRecDepth 100000 in
theorem e_fixedpoint_wide_times (w_1 : Int) (w_2 : Int) (n_3 : Int) (R : Ending → World → Prop) (w : World) : fnV Tryz.prog Tryz.f175 an_fixedpoint_wide_times [.agg ⟨[.int .u64 w_1, .int .u64 w_2]⟩, .int .u64 n_3] R w = sh_fixedpoint_wide_times w_1 w_2 n_3 R w := by kernel_rfl
theorem c_fixedpoint_wide_times {w_1 : Int} {w_2 : Int} {n_3 : Int} {R : Ending → World → Prop} {w : World} (h : sh_fixedpoint_wide_times w_1 w_2 n_3 R w) : Calls Tryz.prog F_fixedpoint_wide_times ⟨[.agg ⟨[.int .u64 w_1, .int .u64 w_2]⟩, .int .u64 n_3]⟩ w R := calls_of_fnV Tryz.func175 (by rw [e_fixedpoint_wide_times]; exact h)

def an_fixedpoint_wide_above : Ann := .two (.leaf) (.two (.two (.leaf) (.two (.two (.leaf) (.leaf)) (.leaf))) (.two (.leaf) (.leaf)))
def sh_fixedpoint_wide_above (w_1 : Int) (w_2 : Int) (x_3 : Int) (x_4 : Int) (R : Ending → World → Prop) (w : World) : Prop :=
  al w 238 [.int .u64 w_1, .int .u64 w_2] fun p5 w6 =>
  al w6 238 [.int .u64 x_3, .int .u64 x_4] fun p7 w8 =>
  ∃ (x9 : Int), World.cell? w8 (p5.add 0) = some (.int .u64 x9) ∧ (∃ (x10 : Int), World.cell? w8 (p7.add 0) = some (.int .u64 x10) ∧ (br (decide ((x9 : Int) ≠ x10)) (∃ (x11 : Int), World.cell? w8 (p5.add 0) = some (.int .u64 x11) ∧ (∃ (x12 : Int), World.cell? w8 (p7.add 0) = some (.int .u64 x12) ∧ (R (.returned (.bool (decide ((x12 : Int) < x11)))) w8))) (∃ (x13 : Int), World.cell? w8 (p5.add 0) = some (.int .u64 x13) ∧ (∃ (x14 : Int), World.cell? w8 (p5.add 1) = some (.int .u64 x14) ∧ (∃ (x15 : Int), World.cell? w8 (p7.add 0) = some (.int .u64 x15) ∧ (∃ (x16 : Int), World.cell? w8 (p7.add 1) = some (.int .u64 x16) ∧ (br (!(decide ((x13 : Int) = x15) && (decide ((x14 : Int) = x16) && true))) (∃ (x17 : Int), World.cell? w8 (p5.add 1) = some (.int .u64 x17) ∧ (∃ (x18 : Int), World.cell? w8 (p7.add 1) = some (.int .u64 x18) ∧ (R (.returned (.bool (decide ((x18 : Int) < x17)))) w8))) (R (.returned (.bool false)) w8))))))))
set_option maxRecDepth 100000 in
theorem e_fixedpoint_wide_above (w_1 : Int) (w_2 : Int) (x_3 : Int) (x_4 : Int) (R : Ending → World → Prop) (w : World) : fnV Tryz.prog Tryz.f176 an_fixedpoint_wide_above [.agg ⟨[.int .u64 w_1, .int .u64 w_2]⟩, .agg ⟨[.int .u64 x_3, .int .u64 x_4]⟩] R w = sh_fixedpoint_wide_above w_1 w_2 x_3 x_4 R w := by kernel_rfl
theorem c_fixedpoint_wide_above {w_1 : Int} {w_2 : Int} {x_3 : Int} {x_4 : Int} {R : Ending → World → Prop} {w : World} (h : sh_fixedpoint_wide_above w_1 w_2 x_3 x_4 R w) : Calls Tryz.prog F_fixedpoint_wide_above ⟨[.agg ⟨[.int .u64 w_1, .int .u64 w_2]⟩, .agg ⟨[.int .u64 x_3, .int .u64 x_4]⟩]⟩ w R := calls_of_fnV Tryz.func176 (by rw [e_fixedpoint_wide_above]; exact h)

def an_slices_IndexFunc_of_byte_byte : Ann := .two (.leaf) (.two (.two (.leaf) (.one (.loop 524080 [(8, .one (.int .i64))] (.two (.leaf) (.two (.two (.leaf) (.leaf)) (.two (.one (.two (.leaf) (.two (.leaf) (.two (.two (.leaf) (.leaf)) (.leaf))))) (.leaf))))))) (.two (.leaf) (.leaf)))
def sh_slices_IndexFunc_of_byte_byte (s_1 : Option Addr) (s_1n : Nat) (s_1c : Nat) (f_2 : Fn) (f_2a : Array Value) (f_2b : Array Value) (R : Ending → World → Prop) (w : World) : Prop :=
  ∃ (I3 : Int → World → Nat → Prop), (∃ m7 : Nat, I3 0 w m7) ∧ ∀ (t8_4 : Int) (w5 : World) (m6 : Nat), I3 t8_4 w5 m6 → ∀ _ : Env, (br (decide ((t8_4 : Int) < ((s_1n : Int)))) (idx s_1 s_1n t8_4 1 fun p8 =>
  ∃ (x9 : Int), World.cell? w5 p8 = some (.int .u8 x9) ∧ (CallV Tryz.prog (.func f_2 f_2a f_2b) [.int .u8 x9] w5 fun (e10 : Ending) (w11 : World) =>
  ∃ (x12 : Bool), e10 = .returned (.bool x12) ∧ (br x12 (R (.returned (.int .i64 t8_4)) w11) (∃ m13 : Nat, m13 < m6 ∧ I3 (IntKind.i64.wrap (t8_4 + 1)) w11 m13)))) (R (.returned (.int .i64 ((-1)))) w5))
set_option maxRecDepth 100000 in
theorem e_slices_IndexFunc_of_byte_byte (s_1 : Option Addr) (s_1n : Nat) (s_1c : Nat) (f_2 : Fn) (f_2a : Array Value) (f_2b : Array Value) (R : Ending → World → Prop) (w : World) : fnV Tryz.prog Tryz.f196 an_slices_IndexFunc_of_byte_byte [.slice s_1 s_1n s_1c, .func f_2 f_2a f_2b] R w = sh_slices_IndexFunc_of_byte_byte s_1 s_1n s_1c f_2 f_2a f_2b R w := by kernel_rfl
theorem c_slices_IndexFunc_of_byte_byte {s_1 : Option Addr} {s_1n : Nat} {s_1c : Nat} {f_2 : Fn} {f_2a : Array Value} {f_2b : Array Value} {R : Ending → World → Prop} {w : World} (h : sh_slices_IndexFunc_of_byte_byte s_1 s_1n s_1c f_2 f_2a f_2b R w) : Calls Tryz.prog F_slices_IndexFunc_of_byte_byte ⟨[.slice s_1 s_1n s_1c, .func f_2 f_2a f_2b]⟩ w R := calls_of_fnV Tryz.func196 (by rw [e_slices_IndexFunc_of_byte_byte]; exact h)

def an_slices_IndexFunc_of_int_int : Ann := .two (.leaf) (.two (.two (.leaf) (.one (.loop 524080 [(8, .one (.int .i64))] (.two (.leaf) (.two (.two (.leaf) (.leaf)) (.two (.one (.two (.leaf) (.two (.leaf) (.two (.two (.leaf) (.leaf)) (.leaf))))) (.leaf))))))) (.two (.leaf) (.leaf)))
def sh_slices_IndexFunc_of_int_int (s_1 : Option Addr) (s_1n : Nat) (s_1c : Nat) (f_2 : Fn) (f_2a : Array Value) (f_2b : Array Value) (R : Ending → World → Prop) (w : World) : Prop :=
  ∃ (I3 : Int → World → Nat → Prop), (∃ m7 : Nat, I3 0 w m7) ∧ ∀ (t8_4 : Int) (w5 : World) (m6 : Nat), I3 t8_4 w5 m6 → ∀ _ : Env, (br (decide ((t8_4 : Int) < ((s_1n : Int)))) (idx s_1 s_1n t8_4 1 fun p8 =>
  ∃ (x9 : Int), World.cell? w5 p8 = some (.int .i64 x9) ∧ (CallV Tryz.prog (.func f_2 f_2a f_2b) [.int .i64 x9] w5 fun (e10 : Ending) (w11 : World) =>
  ∃ (x12 : Bool), e10 = .returned (.bool x12) ∧ (br x12 (R (.returned (.int .i64 t8_4)) w11) (∃ m13 : Nat, m13 < m6 ∧ I3 (IntKind.i64.wrap (t8_4 + 1)) w11 m13)))) (R (.returned (.int .i64 ((-1)))) w5))
set_option maxRecDepth 100000 in
theorem e_slices_IndexFunc_of_int_int (s_1 : Option Addr) (s_1n : Nat) (s_1c : Nat) (f_2 : Fn) (f_2a : Array Value) (f_2b : Array Value) (R : Ending → World → Prop) (w : World) : fnV Tryz.prog Tryz.f207 an_slices_IndexFunc_of_int_int [.slice s_1 s_1n s_1c, .func f_2 f_2a f_2b] R w = sh_slices_IndexFunc_of_int_int s_1 s_1n s_1c f_2 f_2a f_2b R w := by kernel_rfl
theorem c_slices_IndexFunc_of_int_int {s_1 : Option Addr} {s_1n : Nat} {s_1c : Nat} {f_2 : Fn} {f_2a : Array Value} {f_2b : Array Value} {R : Ending → World → Prop} {w : World} (h : sh_slices_IndexFunc_of_int_int s_1 s_1n s_1c f_2 f_2a f_2b R w) : Calls Tryz.prog F_slices_IndexFunc_of_int_int ⟨[.slice s_1 s_1n s_1c, .func f_2 f_2a f_2b]⟩ w R := calls_of_fnV Tryz.func207 (by rw [e_slices_IndexFunc_of_int_int]; exact h)

def an_hyphenation_levels : Ann := .two (.leaf) (.two (.leaf) (.two (.leaf) (.two (.leaf) (.two (.two (.leaf) (.one (.loopD 2251834106315264 [(26, .one (.int .i64))] (.two (.leaf) (.two (.two (.leaf) (.leaf)) (.two (.one (.two (.leaf) (.two (.leaf) (.one (.rf [4, 5, 6, 7, 9, 24, 25, 26, 34] 0))))) (.leaf))))))) (.two (.leaf) (.leaf))))))
def sh_hyphenation_levels (p_1 : Option Addr) (p_1n : Nat) (p_1c : Nat) (w_2 : List UInt8) (R : Ending → World → Prop) (w : World) : Prop :=
  al w 9 [.string ⟨⟨[46]⟩⟩] fun p3 w4 =>
  Calls Tryz.prog 231 ⟨[.string ⟨⟨w_2⟩⟩]⟩ w4 fun (e5 : Ending) (w6 : World) =>
  ∃ (x7 : Option Addr) (x7n : Nat) (x7c : Nat), e5 = .returned (.slice x7 x7n x7c) ∧ (al w6 9 [.string ⟨⟨[46]⟩⟩] fun p8 w9 =>
  al w9 23 [.slice (some p3) 1 1, .slice x7 x7n x7c, .slice (some p8) 1 1] fun p10 w11 =>
  Calls Tryz.prog 230 ⟨[.slice (some p10) 3 3]⟩ w11 fun (e12 : Ending) (w13 : World) =>
  ∃ (x14 : Option Addr) (x14n : Nat) (x14c : Nat), e12 = .returned (.slice x14 x14n x14c) ∧ (mks w13 3 8 [.int .i64 0] (IntKind.i64.wrap (((x14n : Int)) + 1)) (IntKind.i64.wrap (((x14n : Int)) + 1)) fun p15 w16 =>
  al w16 40 [.slice none 0 0] fun p17 w18 =>
  stL w18 p17 0 [.slice (some p15) (Int.toNat (IntKind.i64.wrap (((x14n : Int)) + 1))) (Int.toNat (IntKind.i64.wrap (((x14n : Int)) + 1)))] fun w19 =>
  al w19 296 [.nilFunc] fun p20 w21 =>
  stL w21 p20 0 [.func (.func 232) ⟨[]⟩ ⟨[.pointer (some p17)]⟩] fun w22 =>
  ∃ (I23 : Int → List Deferred → World → Nat → Prop), (∃ m28 : Nat, I23 0 [] w22 m28) ∧ ∀ (t26_24 : Int) (ds25 : List Deferred) (w26 : World) (m27 : Nat), I23 t26_24 ds25 w26 m27 → ∀ _ : Env, (br (decide ((t26_24 : Int) < ((p_1n : Int)))) (idx p_1 p_1n t26_24 2 fun p29 =>
  ∃ (x30 : List UInt8), World.cell? w26 (p29.add 0) = some (.string ⟨⟨x30⟩⟩) ∧ (∃ (x31 : Option Addr) (x31n : Nat) (x31c : Nat), World.cell? w26 (p29.add 1) = some (.slice x31 x31n x31c) ∧ (al w26 85 [.string ⟨⟨[]⟩⟩, .slice none 0 0] fun p32 w33 =>
  stL w33 p32 0 [.string ⟨⟨x30⟩⟩, .slice x31 x31n x31c] fun w34 =>
  ∃ (x35 : List UInt8), World.cell? w34 (p32.add 0) = some (.string ⟨⟨x35⟩⟩) ∧ (Calls Tryz.prog 231 ⟨[.string ⟨⟨x35⟩⟩]⟩ w34 fun (e36 : Ending) (w37 : World) =>
  ∃ (x38 : Option Addr) (x38n : Nat) (x38c : Nat), e36 = .returned (.slice x38 x38n x38c) ∧ (Calls Tryz.prog 233 ⟨[.slice x38 x38n x38c, .slice x14 x14n x14c]⟩ w37 fun (e39 : Ending) (w40 : World) =>
  ∃ (x41 : Fn) (x41a : Array Value) (x41b : Array Value), e39 = .returned (.func x41 x41a x41b) ∧ (∀ base42 : Env, RFw Tryz.prog none 57 (cdAt Tryz.f209 [1, 1, 1, 1, 0, 1, 2, 2, 1, 1, 0, 2, 1, 1, 2]) (upd (upd (upd (upd (upd (upd (upd (upd (upd base42 34 (.func x41 x41a x41b)) 26 (.int .i64 t26_24)) 25 (.int .i64 ((p_1n : Int)))) 24 (.slice p_1 p_1n p_1c)) 9 (.pointer (some p32))) 7 (.pointer (some p20))) 6 (.pointer (some p17))) 5 (.slice x14 x14n x14c)) 4 (.slice none 0 0)) ds25 w40 0 (fun ds43 w44 =>
  ∃ m48 : Nat, m48 < m27 ∧ I23 (IntKind.i64.wrap (t26_24 + 1)) ds43 w44 m48) (fun ds43 w44 =>
  retD ds43 w44 fun w49 =>
  R (.returned (.slice none 0 0)) w49) (fun ds43 w44 =>
  ∃ (x45 : Option Addr) (x45n : Nat) (x45c : Nat), World.cell? w44 p17 = some (.slice x45 x45n x45c) ∧ (sls x45 x45c 2 (IntKind.i64.wrap (((x14n : Int)) - 1)) 1 fun a46 a46n a46c =>
  retD ds43 w44 fun w47 =>
  R (.returned (.slice a46 a46n a46c)) w47)))))))) (∃ (x50 : Option Addr) (x50n : Nat) (x50c : Nat), World.cell? w26 p17 = some (.slice x50 x50n x50c) ∧ (sls x50 x50c 2 (IntKind.i64.wrap (((x14n : Int)) - 1)) 1 fun a51 a51n a51c =>
  retD ds25 w26 fun w52 =>
  R (.returned (.slice a51 a51n a51c)) w52)))))
set_option maxRecDepth 100000 in
theorem e_hyphenation_levels (p_1 : Option Addr) (p_1n : Nat) (p_1c : Nat) (w_2 : List UInt8) (R : Ending → World → Prop) (w : World) : fnV Tryz.prog Tryz.f209 an_hyphenation_levels [.slice p_1 p_1n p_1c, .string ⟨⟨w_2⟩⟩] R w = sh_hyphenation_levels p_1 p_1n p_1c w_2 R w := by kernel_rfl
theorem c_hyphenation_levels {p_1 : Option Addr} {p_1n : Nat} {p_1c : Nat} {w_2 : List UInt8} {R : Ending → World → Prop} {w : World} (h : sh_hyphenation_levels p_1 p_1n p_1c w_2 R w) : Calls Tryz.prog F_hyphenation_levels ⟨[.slice p_1 p_1n p_1c, .string ⟨⟨w_2⟩⟩]⟩ w R := calls_of_fnV Tryz.func209 (by rw [e_hyphenation_levels]; exact h)
def anA_hyphenation_levels_1 : Ann := .leaf
def anB_hyphenation_levels_1 : Ann := .one (.two (.leaf) (.one (.loop 2251250057877504 [(39, .one (.int .i64))] (.two (.leaf) (.two (.two (.leaf) (.leaf)) (.two (.one (.two (.leaf) (.leaf))) (.leaf)))))))
def rf_hyphenation_levels_1 (t4_53 : Option Addr) (t4_53n : Nat) (t4_53c : Nat) (l_54 : Option Addr) (l_54n : Nat) (l_54c : Nat) (all_55 : Option Addr) (raise_56 : Option Addr) (x_57 : Option Addr) (t24_58 : Option Addr) (t24_58n : Nat) (t24_58c : Nat) (t25_59 : Int) (t26_60 : Int) (t34_61 : Fn) (t34_61a : Array Value) (t34_61b : Array Value) (t35_62 : Int) (l : Nat) (Kn Kr Kx : World → World → Prop) (w : World) : Prop :=
  Ext w w ∧ ∀ w63 : World, Upd l w w63 → (dr x_57 fun p64 =>
  ∃ (x65 : Option Addr) (x65n : Nat) (x65c : Nat), World.cell? w63 (p64.add 1) = some (.slice x65 x65n x65c) ∧ (∃ (I66 : Int → World → Nat → Prop), (∃ m70 : Nat, I66 0 w63 m70) ∧ ∀ (t39_67 : Int) (w68 : World) (m69 : Nat), I66 t39_67 w68 m69 → ∀ _ : Env, (br (decide ((t39_67 : Int) < ((x65n : Int)))) (idx x65 x65n t39_67 1 fun p71 =>
  ∃ (x72 : Int), World.cell? w68 p71 = some (.int .i64 x72) ∧ (dr raise_56 fun p73 =>
  ∃ (x74 : Fn) (x74a : Array Value) (x74b : Array Value), World.cell? w68 p73 = some (.func x74 x74a x74b) ∧ (CallV Tryz.prog (.func x74 x74a x74b) [.int .i64 (IntKind.i64.wrap (t35_62 + t39_67)), .int .i64 x72] w68 fun (e75 : Ending) (w76 : World) =>
  e75 = .returned (.tuple ⟨[]⟩) ∧ (∃ m77 : Nat, m77 < m69 ∧ I66 (IntKind.i64.wrap (t39_67 + 1)) w76 m77)))) (Kn w63 w68))))
set_option maxRecDepth 100000 in
theorem er_hyphenation_levels_1 (base : Env) (t4_53 : Option Addr) (t4_53n : Nat) (t4_53c : Nat) (l_54 : Option Addr) (l_54n : Nat) (l_54c : Nat) (all_55 : Option Addr) (raise_56 : Option Addr) (x_57 : Option Addr) (t24_58 : Option Addr) (t24_58n : Nat) (t24_58c : Nat) (t25_59 : Int) (t26_60 : Int) (t34_61 : Fn) (t34_61a : Array Value) (t34_61b : Array Value) (t35_62 : Int) (l : Nat) (Kn Kr Kx : World → World → Prop) (w : World) : fragV Tryz.prog 57 anA_hyphenation_levels_1 anB_hyphenation_levels_1 (cdAt Tryz.f209 [1, 1, 1, 1, 0, 1, 2, 2, 1, 1, 0, 2, 1, 1, 2, 5]) (cdAt Tryz.f209 [1, 1, 1, 1, 0, 1, 2, 2, 1, 1, 0, 2, 1, 1, 2, 6]) l 0 Kn Kr Kx (updPs [35] [.int .i64 t35_62] (upd (upd (upd (upd (upd (upd (upd (upd (upd base 34 (.func t34_61 t34_61a t34_61b)) 26 (.int .i64 t26_60)) 25 (.int .i64 t25_59)) 24 (.slice t24_58 t24_58n t24_58c)) 9 (.pointer x_57)) 7 (.pointer raise_56)) 6 (.pointer all_55)) 5 (.slice l_54 l_54n l_54c)) 4 (.slice t4_53 t4_53n t4_53c))) w = rf_hyphenation_levels_1 t4_53 t4_53n t4_53c l_54 l_54n l_54c all_55 raise_56 x_57 t24_58 t24_58n t24_58c t25_59 t26_60 t34_61 t34_61a t34_61b t35_62 l Kn Kr Kx w := by kernel_rfl
theorem cd_hyphenation_levels_1 : cdAt Tryz.f209 [1, 1, 1, 1, 0, 1, 2, 2, 1, 1, 0, 2, 1, 1, 2] = .rangeFunc (Operand.tmp 34) #[35] (cdAt Tryz.f209 [1, 1, 1, 1, 0, 1, 2, 2, 1, 1, 0, 2, 1, 1, 2, 5]) (cdAt Tryz.f209 [1, 1, 1, 1, 0, 1, 2, 2, 1, 1, 0, 2, 1, 1, 2, 6]) := by kernel_rfl

def an_slices_Concat_of_string_string : Ann := .two (.leaf) (.two (.leaf) (.two (.two (.leaf) (.one (.loop 8386600 [(3, .one (.int .i64)), (11, .one (.int .i64))] (.two (.leaf) (.two (.two (.leaf) (.leaf)) (.two (.one (.two (.leaf) (.two (.leaf) (.two (.leaf) (.two (.leaf) (.leaf)))))) (.leaf))))))) (.two (.leaf) (.two (.two (.leaf) (.one (.loop 34225520960 [(6, .one (.slice)), (27, .one (.int .i64))] (.two (.leaf) (.two (.two (.leaf) (.leaf)) (.two (.one (.two (.leaf) (.leaf))) (.leaf))))))) (.two (.leaf) (.leaf))))))
def sh_slices_Concat_of_string_string (slices_1 : Option Addr) (slices_1n : Nat) (slices_1c : Nat) (R : Ending → World → Prop) (w : World) : Prop :=
  ∃ (I2 : Int → Int → World → Nat → Prop), (∃ m7 : Nat, I2 0 0 w m7) ∧ ∀ (size_3 : Int) (t11_4 : Int) (w5 : World) (m6 : Nat), I2 size_3 t11_4 w5 m6 → ∀ _ : Env, (br (decide ((t11_4 : Int) < ((slices_1n : Int)))) (idx slices_1 slices_1n t11_4 1 fun p8 =>
  ∃ (x9 : Option Addr) (x9n : Nat) (x9c : Nat), World.cell? w5 p8 = some (.slice x9 x9n x9c) ∧ (br (decide (((IntKind.i64.wrap (size_3 + ((x9n : Int)))) : Int) < 0)) (False) (∃ m10 : Nat, m10 < m6 ∧ I2 (IntKind.i64.wrap (size_3 + ((x9n : Int)))) (IntKind.i64.wrap (t11_4 + 1)) w5 m10))) (Calls Tryz.prog 244 ⟨[.slice none 0 0, .int .i64 size_3]⟩ w5 fun (e11 : Ending) (w12 : World) =>
  ∃ (x13 : Option Addr) (x13n : Nat) (x13c : Nat), e11 = .returned (.slice x13 x13n x13c) ∧ (∃ (I14 : Option Addr → Nat → Nat → Int → World → Nat → Prop), (∃ m19 : Nat, I14 x13 x13n x13c 0 w12 m19) ∧ ∀ (newslice_15 : Option Addr) (newslice_15n : Nat) (newslice_15c : Nat) (t27_16 : Int) (w17 : World) (m18 : Nat), I14 newslice_15 newslice_15n newslice_15c t27_16 w17 m18 → ∀ _ : Env, (br (decide ((t27_16 : Int) < ((slices_1n : Int)))) (idx slices_1 slices_1n t27_16 1 fun p20 =>
  ∃ (x21 : Option Addr) (x21n : Nat) (x21c : Nat), World.cell? w17 p20 = some (.slice x21 x21n x21c) ∧ (app Tryz.prog [23, 23] 23 (.slice newslice_15 newslice_15n newslice_15c) (.slice x21 x21n x21c) w17 fun a22 a22n a22c w23 =>
  ∃ m24 : Nat, m24 < m18 ∧ I14 a22 a22n a22c (IntKind.i64.wrap (t27_16 + 1)) w23 m24)) (R (.returned (.slice newslice_15 newslice_15n newslice_15c)) w17)))))
set_option maxRecDepth 100000 in
theorem e_slices_Concat_of_string_string (slices_1 : Option Addr) (slices_1n : Nat) (slices_1c : Nat) (R : Ending → World → Prop) (w : World) : fnV Tryz.prog Tryz.f230 an_slices_Concat_of_string_string [.slice slices_1 slices_1n slices_1c] R w = sh_slices_Concat_of_string_string slices_1 slices_1n slices_1c R w := by kernel_rfl
theorem c_slices_Concat_of_string_string {slices_1 : Option Addr} {slices_1n : Nat} {slices_1c : Nat} {R : Ending → World → Prop} {w : World} (h : sh_slices_Concat_of_string_string slices_1 slices_1n slices_1c R w) : Calls Tryz.prog F_slices_Concat_of_string_string ⟨[.slice slices_1 slices_1n slices_1c]⟩ w R := calls_of_fnV Tryz.func230 (by rw [e_slices_Concat_of_string_string]; exact h)

def an_hyphenation_folded : Ann := .two (.leaf) (.two (.leaf) (.leaf))
def sh_hyphenation_folded (s_1 : List UInt8) (R : Ending → World → Prop) (w : World) : Prop :=
  Calls Tryz.prog 245 ⟨[.string ⟨⟨s_1⟩⟩]⟩ w fun (e2 : Ending) (w3 : World) =>
  ∃ (x4 : List UInt8), e2 = .returned (.string ⟨⟨x4⟩⟩) ∧ (Calls Tryz.prog 166 ⟨[.string ⟨⟨x4⟩⟩]⟩ w3 fun (e5 : Ending) (w6 : World) =>
  ∃ (x7 : Option Addr) (x7n : Nat) (x7c : Nat), e5 = .returned (.slice x7 x7n x7c) ∧ (R (.returned (.slice x7 x7n x7c)) w6))
set_option maxRecDepth 100000 in
theorem e_hyphenation_folded (s_1 : List UInt8) (R : Ending → World → Prop) (w : World) : fnV Tryz.prog Tryz.f231 an_hyphenation_folded [.string ⟨⟨s_1⟩⟩] R w = sh_hyphenation_folded s_1 R w := by kernel_rfl
theorem c_hyphenation_folded {s_1 : List UInt8} {R : Ending → World → Prop} {w : World} (h : sh_hyphenation_folded s_1 R w) : Calls Tryz.prog F_hyphenation_folded ⟨[.string ⟨⟨s_1⟩⟩]⟩ w R := calls_of_fnV Tryz.func231 (by rw [e_hyphenation_folded]; exact h)

def an_hyphenation_levels_1 : Ann := .leaf
def sh_hyphenation_levels_1 (at_1 : Int) (level_2 : Int) (t2_3 : Option Addr) (R : Ending → World → Prop) (w : World) : Prop :=
  drw w fun w4 =>
  dr t2_3 fun p5 =>
  ∃ (x6 : Option Addr) (x6n : Nat) (x6c : Nat), World.cell? w4 p5 = some (.slice x6 x6n x6c) ∧ (dr t2_3 fun p7 =>
  ∃ (x8 : Option Addr) (x8n : Nat) (x8c : Nat), World.cell? w4 p7 = some (.slice x8 x8n x8c) ∧ (idx x8 x8n at_1 1 fun p9 =>
  ∃ (x10 : Int), World.cell? w4 p9 = some (.int .i64 x10) ∧ (idx x6 x6n at_1 1 fun p11 =>
  (stL w4 p11 0 [.int .i64 ((max x10 level_2))] fun w12 =>
  R (.returned (.tuple ⟨[]⟩)) w12) ∧ True)))
set_option maxRecDepth 100000 in
theorem e_hyphenation_levels_1 (at_1 : Int) (level_2 : Int) (t2_3 : Option Addr) (R : Ending → World → Prop) (w : World) : fnV Tryz.prog Tryz.f232 an_hyphenation_levels_1 [.int .i64 at_1, .int .i64 level_2, .pointer t2_3] R w = sh_hyphenation_levels_1 at_1 level_2 t2_3 R w := by kernel_rfl
theorem c_hyphenation_levels_1 {at_1 : Int} {level_2 : Int} {t2_3 : Option Addr} {R : Ending → World → Prop} {w : World} (h : sh_hyphenation_levels_1 at_1 level_2 t2_3 R w) : Calls Tryz.prog F_hyphenation_levels_1 ⟨[.int .i64 at_1, .int .i64 level_2, .pointer t2_3]⟩ w R := calls_of_fnV Tryz.func232 (by rw [e_hyphenation_levels_1]; exact h)

def an_hyphenation_places : Ann := .two (.leaf) (.two (.leaf) (.leaf))
def sh_hyphenation_places (pattern_1 : Option Addr) (pattern_1n : Nat) (pattern_1c : Nat) (l_2 : Option Addr) (l_2n : Nat) (l_2c : Nat) (R : Ending → World → Prop) (w : World) : Prop :=
  al w 23 [.slice pattern_1 pattern_1n pattern_1c] fun p3 w4 =>
  al w4 23 [.slice l_2 l_2n l_2c] fun p5 w6 =>
  R (.returned (.func (.func 246) ⟨[]⟩ ⟨[.pointer (some p3), .pointer (some p5)]⟩)) w6
set_option maxRecDepth 100000 in
theorem e_hyphenation_places (pattern_1 : Option Addr) (pattern_1n : Nat) (pattern_1c : Nat) (l_2 : Option Addr) (l_2n : Nat) (l_2c : Nat) (R : Ending → World → Prop) (w : World) : fnV Tryz.prog Tryz.f233 an_hyphenation_places [.slice pattern_1 pattern_1n pattern_1c, .slice l_2 l_2n l_2c] R w = sh_hyphenation_places pattern_1 pattern_1n pattern_1c l_2 l_2n l_2c R w := by kernel_rfl
theorem c_hyphenation_places {pattern_1 : Option Addr} {pattern_1n : Nat} {pattern_1c : Nat} {l_2 : Option Addr} {l_2n : Nat} {l_2c : Nat} {R : Ending → World → Prop} {w : World} (h : sh_hyphenation_places pattern_1 pattern_1n pattern_1c l_2 l_2n l_2c R w) : Calls Tryz.prog F_hyphenation_places ⟨[.slice pattern_1 pattern_1n pattern_1c, .slice l_2 l_2n l_2c]⟩ w R := calls_of_fnV Tryz.func233 (by rw [e_hyphenation_places]; exact h)

def an_slices_Grow_of_string_string : Ann := .two (.leaf) (.cut 224 [] (.two (.leaf) (.two (.leaf) (.leaf))) (.two (.two (.leaf) (.two (.leaf) (.two (.leaf) (.leaf)))) (.two (.leaf) (.leaf))))
def sh_slices_Grow_of_string_string (s_1 : Option Addr) (s_1n : Nat) (s_1c : Nat) (n_2 : Int) (R : Ending → World → Prop) (w : World) : Prop :=
  ∀ (K3 : World → Prop), (∀  (w4 : World), (∀ _ : Env, (br (decide ((0 : Int) < (IntKind.i64.wrap (n_2 - (IntKind.i64.wrap (((s_1c : Int)) - ((s_1n : Int)))))))) (sls s_1 s_1c 0 ((s_1c : Int)) 1 fun a5 a5n a5c =>
  app Tryz.prog [23, 3] 23 (.slice a5 a5n a5c) (.int .i64 (IntKind.i64.wrap (n_2 - (IntKind.i64.wrap (((s_1c : Int)) - ((s_1n : Int))))))) w4 fun a6 a6n a6c w7 =>
  sls a6 a6c 0 ((s_1n : Int)) 1 fun a8 a8n a8c =>
  R (.returned (.slice a8 a8n a8c)) w7) (R (.returned (.slice s_1 s_1n s_1c)) w4))) → K3 w4) → (br (decide ((n_2 : Int) < 0)) (False) (K3 w))
set_option maxRecDepth 100000 in
theorem e_slices_Grow_of_string_string (s_1 : Option Addr) (s_1n : Nat) (s_1c : Nat) (n_2 : Int) (R : Ending → World → Prop) (w : World) : fnV Tryz.prog Tryz.f244 an_slices_Grow_of_string_string [.slice s_1 s_1n s_1c, .int .i64 n_2] R w = sh_slices_Grow_of_string_string s_1 s_1n s_1c n_2 R w := by kernel_rfl
theorem c_slices_Grow_of_string_string {s_1 : Option Addr} {s_1n : Nat} {s_1c : Nat} {n_2 : Int} {R : Ending → World → Prop} {w : World} (h : sh_slices_Grow_of_string_string s_1 s_1n s_1c n_2 R w) : Calls Tryz.prog F_slices_Grow_of_string_string ⟨[.slice s_1 s_1n s_1c, .int .i64 n_2]⟩ w R := calls_of_fnV Tryz.func244 (by rw [e_slices_Grow_of_string_string]; exact h)

def an_charset_Fold : Ann := .two (.leaf) (.two (.leaf) (.two (.two (.leaf) (.one (.loop 268434480 [(10, .one (.int .i64))] (.two (.leaf) (.two (.two (.leaf) (.leaf)) (.two (.one (.two (.leaf) (.cut 2064384 [(20, .one (.bool))] (.leaf) (.two (.leaf) (.leaf))))) (.leaf))))))) (.two (.leaf) (.leaf))))
def sh_charset_Fold (s_1 : List UInt8) (R : Ending → World → Prop) (w : World) : Prop :=
  s2b Tryz.prog w 5 s_1 fun a2 a2n a2c w3 =>
  ∃ (I4 : Int → World → Nat → Prop), (∃ m8 : Nat, I4 0 w3 m8) ∧ ∀ (t10_5 : Int) (w6 : World) (m7 : Nat), I4 t10_5 w6 m7 → ∀ _ : Env, (br (decide ((t10_5 : Int) < ((a2n : Int)))) (idx a2 a2n t10_5 1 fun p9 =>
  ∃ (x10 : Int), World.cell? w6 p9 = some (.int .u8 x10) ∧ (∀ (K11 : Bool → World → Prop), (∀ (t20_12 : Bool) (w13 : World), (∀ _ : Env, (br t20_12 (idx a2 a2n t10_5 1 fun p14 =>
  stL w13 p14 0 [.int .u8 (IntKind.u8.wrap ((IntKind.u8.wrap (x10 - 65)) + 97))] fun w15 =>
  ∃ m16 : Nat, m16 < m7 ∧ I4 (IntKind.i64.wrap (t10_5 + 1)) w15 m16) (∃ m17 : Nat, m17 < m7 ∧ I4 (IntKind.i64.wrap (t10_5 + 1)) w13 m17))) → K11 t20_12 w13) → (br (decide ((65 : Int) ≤ x10)) (K11 (decide ((x10 : Int) ≤ 90)) w6) (K11 false w6)))) (b2s Tryz.prog w6 a2 a2n a2c fun s18 =>
  R (.returned (.string ⟨⟨s18⟩⟩)) w6))
set_option maxRecDepth 100000 in
theorem e_charset_Fold (s_1 : List UInt8) (R : Ending → World → Prop) (w : World) : fnV Tryz.prog Tryz.f245 an_charset_Fold [.string ⟨⟨s_1⟩⟩] R w = sh_charset_Fold s_1 R w := by kernel_rfl
theorem c_charset_Fold {s_1 : List UInt8} {R : Ending → World → Prop} {w : World} (h : sh_charset_Fold s_1 R w) : Calls Tryz.prog F_charset_Fold ⟨[.string ⟨⟨s_1⟩⟩]⟩ w R := calls_of_fnV Tryz.func245 (by rw [e_charset_Fold]; exact h)

def an_hyphenation_places_1 : Ann := .two (.leaf) (.one (.loop 536870896 [(4, .one (.int .i64))] (.two (.two (.leaf) (.two (.leaf) (.leaf))) (.two (.one (.two (.leaf) (.two (.leaf) (.leaf)))) (.leaf)))))
def sh_hyphenation_places_1 (yield_1 : Fn) (yield_1a : Array Value) (yield_1b : Array Value) (t1_2 : Option Addr) (t2_3 : Option Addr) (R : Ending → World → Prop) (w : World) : Prop :=
  ∃ (I4 : Int → World → Nat → Prop), (∃ m8 : Nat, I4 0 w m8) ∧ ∀ (at_5 : Int) (w6 : World) (m7 : Nat), I4 at_5 w6 m7 → ∀ _ : Env, (dr t1_2 fun p9 =>
  ∃ (x10 : Option Addr) (x10n : Nat) (x10c : Nat), World.cell? w6 p9 = some (.slice x10 x10n x10c) ∧ (dr t2_3 fun p11 =>
  ∃ (x12 : Option Addr) (x12n : Nat) (x12c : Nat), World.cell? w6 p11 = some (.slice x12 x12n x12c) ∧ (br (decide (((IntKind.i64.wrap (at_5 + ((x10n : Int)))) : Int) ≤ ((x12n : Int)))) (drw w6 fun w13 =>
  dr t2_3 fun p14 =>
  ∃ (x15 : Option Addr) (x15n : Nat) (x15c : Nat), World.cell? w13 p14 = some (.slice x15 x15n x15c) ∧ (dr t1_2 fun p16 =>
  ∃ (x17 : Option Addr) (x17n : Nat) (x17c : Nat), World.cell? w13 p16 = some (.slice x17 x17n x17c) ∧ (sls x15 x15c at_5 (IntKind.i64.wrap (at_5 + ((x17n : Int)))) 1 fun a18 a18n a18c =>
  dr t1_2 fun p19 =>
  ∃ (x20 : Option Addr) (x20n : Nat) (x20c : Nat), World.cell? w13 p19 = some (.slice x20 x20n x20c) ∧ ((Calls Tryz.prog 30 ⟨[.slice a18 a18n a18c, .slice x20 x20n x20c]⟩ w13 fun (e21 : Ending) (w22 : World) =>
  ∃ (x23 : Bool), e21 = .returned (.bool x23) ∧ (br x23 ((CallV Tryz.prog (.func yield_1 yield_1a yield_1b) [.int .i64 at_5] w22 fun (e24 : Ending) (w25 : World) =>
  ∃ (x26 : Bool), e24 = .returned (.bool x26) ∧ (br (!x26) (R (.returned (.tuple ⟨[]⟩)) w25) (∃ m27 : Nat, m27 < m7 ∧ I4 (IntKind.i64.wrap (at_5 + 1)) w25 m27))) ∧ True) ((∃ m28 : Nat, m28 < m7 ∧ I4 (IntKind.i64.wrap (at_5 + 1)) w22 m28) ∧ True))) ∧ True)))) (R (.returned (.tuple ⟨[]⟩)) w6))))
set_option maxRecDepth 100000 in
theorem e_hyphenation_places_1 (yield_1 : Fn) (yield_1a : Array Value) (yield_1b : Array Value) (t1_2 : Option Addr) (t2_3 : Option Addr) (R : Ending → World → Prop) (w : World) : fnV Tryz.prog Tryz.f246 an_hyphenation_places_1 [.func yield_1 yield_1a yield_1b, .pointer t1_2, .pointer t2_3] R w = sh_hyphenation_places_1 yield_1 yield_1a yield_1b t1_2 t2_3 R w := by kernel_rfl
theorem c_hyphenation_places_1 {yield_1 : Fn} {yield_1a : Array Value} {yield_1b : Array Value} {t1_2 : Option Addr} {t2_3 : Option Addr} {R : Ending → World → Prop} {w : World} (h : sh_hyphenation_places_1 yield_1 yield_1a yield_1b t1_2 t2_3 R w) : Calls Tryz.prog F_hyphenation_places_1 ⟨[.func yield_1 yield_1a yield_1b, .pointer t1_2, .pointer t2_3]⟩ w R := calls_of_fnV Tryz.func246 (by rw [e_hyphenation_places_1]; exact h)

end Go.Proofs
