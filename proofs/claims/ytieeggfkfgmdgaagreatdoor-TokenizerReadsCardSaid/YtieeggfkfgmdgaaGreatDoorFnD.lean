/- Written by program: for each function its verification condition, that it is the code's (by the kernel), and that it gives the call. -/
import Derived.Test.YtieeggfkfgmdgaaGreatDoorFn
namespace Go.Proofs
open Go Go.Sh
def an_rewriting_step : Ann := .two (.leaf) (.two (.two (.leaf) (.one (.rf [1, 4, 5, 9] 0))) (.two (.leaf) (.leaf)))
def sh_rewriting_step (rules_1 : Option Addr) (rules_1n : Nat) (rules_1c : Nat) (w_2 : List UInt8) (R : Ending → World → Prop) (w : World) : Prop :=
  al w 9 [.string ⟨⟨[]⟩⟩] fun p3 w4 =>
  al w4 4 [.bool false] fun p5 w6 =>
  Calls Tryz.prog 189 ⟨[.slice rules_1 rules_1n rules_1c, .string ⟨⟨w_2⟩⟩]⟩ w6 fun (e7 : Ending) (w8 : World) =>
  ∃ (x9 : Fn) (x9a : Array Value) (x9b : Array Value), e7 = .returned (.func x9 x9a x9b) ∧ (∀ base10 : Env, RFw Tryz.prog none 13 (cdAt Tryz.f158 [1, 0, 1, 2]) (upd (upd (upd (upd base10 9 (.func x9 x9a x9b)) 5 (.pointer (some p5))) 4 (.pointer (some p3))) 1 (.string ⟨⟨w_2⟩⟩)) [] w8 0 (fun ds11 w12 =>
  stL w12 p3 0 [.string ⟨⟨w_2⟩⟩] fun w18 =>
  stL w18 p5 0 [.bool false] fun w19 =>
  retD ds11 w19 fun w20 =>
  ∃ (x21 : List UInt8), World.cell? w20 p3 = some (.string ⟨⟨x21⟩⟩) ∧ (∃ (x22 : Bool), World.cell? w20 p5 = some (.bool x22) ∧ (R (.returned (.tuple ⟨[.string ⟨⟨x21⟩⟩, .bool x22]⟩)) w20))) (fun ds11 w12 =>
  retD ds11 w12 fun w23 =>
  ∃ (x24 : List UInt8), World.cell? w23 p3 = some (.string ⟨⟨x24⟩⟩) ∧ (∃ (x25 : Bool), World.cell? w23 p5 = some (.bool x25) ∧ (R (.returned (.tuple ⟨[.string ⟨⟨x24⟩⟩, .bool x25]⟩)) w23))) (fun ds11 w12 =>
  stL w12 p3 0 [.string ⟨⟨w_2⟩⟩] fun w13 =>
  stL w13 p5 0 [.bool false] fun w14 =>
  retD ds11 w14 fun w15 =>
  ∃ (x16 : List UInt8), World.cell? w15 p3 = some (.string ⟨⟨x16⟩⟩) ∧ (∃ (x17 : Bool), World.cell? w15 p5 = some (.bool x17) ∧ (R (.returned (.tuple ⟨[.string ⟨⟨x16⟩⟩, .bool x17]⟩)) w15))))
set_option maxRecDepth 100000 in
theorem e_rewriting_step (rules_1 : Option Addr) (rules_1n : Nat) (rules_1c : Nat) (w_2 : List UInt8) (R : Ending → World → Prop) (w : World) : fnV Tryz.prog Tryz.f158 an_rewriting_step [.slice rules_1 rules_1n rules_1c, .string ⟨⟨w_2⟩⟩] R w = sh_rewriting_step rules_1 rules_1n rules_1c w_2 R w := by kernel_rfl
theorem c_rewriting_step {rules_1 : Option Addr} {rules_1n : Nat} {rules_1c : Nat} {w_2 : List UInt8} {R : Ending → World → Prop} {w : World} (h : sh_rewriting_step rules_1 rules_1n rules_1c w_2 R w) : Calls Tryz.prog F_rewriting_step ⟨[.slice rules_1 rules_1n rules_1c, .string ⟨⟨w_2⟩⟩]⟩ w R := calls_of_fnV Tryz.func158 (by rw [e_rewriting_step]; exact h)
def anA_rewriting_step_1 : Ann := .leaf
def anB_rewriting_step_1 : Ann := .one (.two (.leaf) (.leaf))
def rf_rewriting_step_1 (w_26 : List UInt8) (t4_27 : Option Addr) (t5_28 : Option Addr) (t9_29 : Fn) (t9_29a : Array Value) (t9_29b : Array Value) (t10_30 : List UInt8) (l : Nat) (Kn Kr Kx : World → World → Prop) (w : World) : Prop :=
  Ext w w ∧ ∀ w31 : World, Upd l w w31 → (dr t4_27 fun p33 =>
  stL w31 p33 0 [.string ⟨⟨t10_30⟩⟩] fun w32 =>
  dr t5_28 fun p35 =>
  stL w32 p35 0 [.bool true] fun w34 =>
  Kr w31 w34)
set_option maxRecDepth 100000 in
theorem er_rewriting_step_1 (base : Env) (w_26 : List UInt8) (t4_27 : Option Addr) (t5_28 : Option Addr) (t9_29 : Fn) (t9_29a : Array Value) (t9_29b : Array Value) (t10_30 : List UInt8) (l : Nat) (Kn Kr Kx : World → World → Prop) (w : World) : fragV Tryz.prog 13 anA_rewriting_step_1 anB_rewriting_step_1 (cdAt Tryz.f158 [1, 0, 1, 2, 5]) (cdAt Tryz.f158 [1, 0, 1, 2, 6]) l 0 Kn Kr Kx (updPs [10] [.string ⟨⟨t10_30⟩⟩] (upd (upd (upd (upd base 9 (.func t9_29 t9_29a t9_29b)) 5 (.pointer t5_28)) 4 (.pointer t4_27)) 1 (.string ⟨⟨w_26⟩⟩))) w = rf_rewriting_step_1 w_26 t4_27 t5_28 t9_29 t9_29a t9_29b t10_30 l Kn Kr Kx w := by kernel_rfl
theorem cd_rewriting_step_1 : cdAt Tryz.f158 [1, 0, 1, 2] = .rangeFunc (Operand.tmp 9) #[10] (cdAt Tryz.f158 [1, 0, 1, 2, 5]) (cdAt Tryz.f158 [1, 0, 1, 2, 6]) := by kernel_rfl

def an_slices_insertionSortCmpFunc_of_string : Ann := .two (.leaf) (.one (.loop 9007199254737664 [(8, .one (.int .i64))] (.two (.two (.leaf) (.two (.leaf) (.leaf))) (.two (.one (.two (.leaf) (.one (.loop 9007199254479360 [(9, .one (.int .i64))] (.cut 34359476224 [] (.two (.leaf) (.two (.leaf) (.leaf))) (.two (.one (.leaf)) (.leaf))))))) (.leaf)))))
def sh_slices_insertionSortCmpFunc_of_string (data_1 : Option Addr) (data_1n : Nat) (data_1c : Nat) (a_2 : Int) (b_3 : Int) (cmp_4 : Fn) (cmp_4a : Array Value) (cmp_4b : Array Value) (R : Ending → World → Prop) (w : World) : Prop :=
  ∃ (I5 : Int → World → Nat → Prop), (∃ m9 : Nat, I5 (IntKind.i64.wrap (a_2 + 1)) w m9) ∧ ∀ (i_6 : Int) (w7 : World) (m8 : Nat), I5 i_6 w7 m8 → ∀ _ : Env, (br (decide ((i_6 : Int) < b_3)) (∃ (I10 : Int → World → Nat → Prop), (∃ m14 : Nat, I10 i_6 w7 m14) ∧ ∀ (j_11 : Int) (w12 : World) (m13 : Nat), I10 j_11 w12 m13 → ∀ _ : Env, (∀ (K15 : World → Prop), (∀  (w16 : World), (∀ _ : Env, (drw w16 fun w17 =>
  idx data_1 data_1n (IntKind.i64.wrap (j_11 - 1)) 1 fun p18 =>
  ∃ (x19 : List UInt8), World.cell? w17 p18 = some (.string ⟨⟨x19⟩⟩) ∧ (idx data_1 data_1n j_11 1 fun p20 =>
  ∃ (x21 : List UInt8), World.cell? w17 p20 = some (.string ⟨⟨x21⟩⟩) ∧ (idx data_1 data_1n j_11 1 fun p22 =>
  (stL w17 p22 0 [.string ⟨⟨x19⟩⟩] fun w23 =>
  idx data_1 data_1n (IntKind.i64.wrap (j_11 - 1)) 1 fun p24 =>
  (stL w23 p24 0 [.string ⟨⟨x21⟩⟩] fun w25 =>
  ∃ m26 : Nat, m26 < m13 ∧ I10 (IntKind.i64.wrap (j_11 - 1)) w25 m26) ∧ True) ∧ True)))) → K15 w16) → (drw w12 fun w27 =>
  br (decide ((a_2 : Int) < j_11)) (idx data_1 data_1n j_11 1 fun p28 =>
  ∃ (x29 : List UInt8), World.cell? w27 p28 = some (.string ⟨⟨x29⟩⟩) ∧ (idx data_1 data_1n (IntKind.i64.wrap (j_11 - 1)) 1 fun p30 =>
  ∃ (x31 : List UInt8), World.cell? w27 p30 = some (.string ⟨⟨x31⟩⟩) ∧ ((CallV Tryz.prog (.func cmp_4 cmp_4a cmp_4b) [.string ⟨⟨x29⟩⟩, .string ⟨⟨x31⟩⟩] w27 fun (e32 : Ending) (w33 : World) =>
  ∃ (x34 : Int), e32 = .returned (.int .i64 x34) ∧ (br (decide ((x34 : Int) < 0)) (K15 w33) (∃ m35 : Nat, m35 < m8 ∧ I5 (IntKind.i64.wrap (i_6 + 1)) w33 m35))) ∧ True))) ((∃ m36 : Nat, m36 < m8 ∧ I5 (IntKind.i64.wrap (i_6 + 1)) w27 m36) ∧ True)))) (R (.returned (.tuple ⟨[]⟩)) w7))
set_option maxRecDepth 100000 in
theorem e_slices_insertionSortCmpFunc_of_string (data_1 : Option Addr) (data_1n : Nat) (data_1c : Nat) (a_2 : Int) (b_3 : Int) (cmp_4 : Fn) (cmp_4a : Array Value) (cmp_4b : Array Value) (R : Ending → World → Prop) (w : World) : fnV Tryz.prog Tryz.f159 an_slices_insertionSortCmpFunc_of_string [.slice data_1 data_1n data_1c, .int .i64 a_2, .int .i64 b_3, .func cmp_4 cmp_4a cmp_4b] R w = sh_slices_insertionSortCmpFunc_of_string data_1 data_1n data_1c a_2 b_3 cmp_4 cmp_4a cmp_4b R w := by kernel_rfl
theorem c_slices_insertionSortCmpFunc_of_string {data_1 : Option Addr} {data_1n : Nat} {data_1c : Nat} {a_2 : Int} {b_3 : Int} {cmp_4 : Fn} {cmp_4a : Array Value} {cmp_4b : Array Value} {R : Ending → World → Prop} {w : World} (h : sh_slices_insertionSortCmpFunc_of_string data_1 data_1n data_1c a_2 b_3 cmp_4 cmp_4a cmp_4b R w) : Calls Tryz.prog F_slices_insertionSortCmpFunc_of_string ⟨[.slice data_1 data_1n data_1c, .int .i64 a_2, .int .i64 b_3, .func cmp_4 cmp_4a cmp_4b]⟩ w R := calls_of_fnV Tryz.func159 (by rw [e_slices_insertionSortCmpFunc_of_string]; exact h)

def an_ref01_Letters : Ann := .two (.leaf) (.two (.leaf) (.two (.two (.leaf) (.one (.loop 16777208 [(3, .one (.int .i64)), (4, .one (.int .i64))] (.two (.two (.leaf) (.two (.leaf) (.leaf))) (.two (.one (.two (.leaf) (.two (.leaf) (.two (.leaf) (.leaf))))) (.leaf)))))) (.two (.leaf) (.leaf))))
def sh_ref01_Letters (s_1 : List UInt8) (R : Ending → World → Prop) (w : World) : Prop :=
  ∃ (I2 : Int → Int → World → Nat → Prop), (∃ m7 : Nat, I2 0 0 w m7) ∧ ∀ (n_3 : Int) (i_4 : Int) (w5 : World) (m6 : Nat), I2 n_3 i_4 w5 m6 → ∀ _ : Env, (br (decide ((i_4 : Int) < ((List.length s_1 : Int)))) (sidx s_1 i_4 fun b8 =>
  Calls Tryz.prog 75 ⟨[.int .u8 ((b8.toNat : Int))]⟩ w5 fun (e9 : Ending) (w10 : World) =>
  ∃ (x11 : Int), e9 = .returned (.int .i64 x11) ∧ (br (decide ((x11 : Int) = 1)) (∃ m12 : Nat, m12 < m6 ∧ I2 (IntKind.i64.wrap (n_3 + 1)) (IntKind.i64.wrap (i_4 + 1)) w10 m12) (br (decide ((x11 : Int) = 3)) (∃ m13 : Nat, m13 < m6 ∧ I2 (IntKind.i64.wrap (n_3 + 1)) (IntKind.i64.wrap (i_4 + 1)) w10 m13) (∃ m14 : Nat, m14 < m6 ∧ I2 n_3 (IntKind.i64.wrap (i_4 + 1)) w10 m14)))) (R (.returned (.int .i64 n_3)) w5))
set_option maxRecDepth 100000 in
theorem e_ref01_Letters (s_1 : List UInt8) (R : Ending → World → Prop) (w : World) : fnV Tryz.prog Tryz.f169 an_ref01_Letters [.string ⟨⟨s_1⟩⟩] R w = sh_ref01_Letters s_1 R w := by kernel_rfl
theorem c_ref01_Letters {s_1 : List UInt8} {R : Ending → World → Prop} {w : World} (h : sh_ref01_Letters s_1 R w) : Calls Tryz.prog F_ref01_Letters ⟨[.string ⟨⟨s_1⟩⟩]⟩ w R := calls_of_fnV Tryz.func169 (by rw [e_ref01_Letters]; exact h)

def an_ref14_Trace : Ann := .two (.leaf) (.two (.two (.leaf) (.two (.leaf) (.two (.two (.leaf) (.leaf)) (.leaf)))) (.two (.leaf) (.one (.loop 34359477170 [(1, .one (.str)), (7, .one (.slice))] (.one (.two (.leaf) (.two (.two (.leaf) (.two (.two (.leaf) (.leaf)) (.leaf))) (.two (.two (.leaf) (.two (.two (.leaf) (.leaf)) (.leaf))) (.two (.leaf) (.leaf))))))))))
def sh_ref14_Trace (rules_1 : Option Addr) (rules_1n : Nat) (rules_1c : Nat) (w_2 : List UInt8) (R : Ending → World → Prop) (w : World) : Prop :=
  Calls Tryz.prog 195 ⟨[.slice rules_1 rules_1n rules_1c, .string ⟨⟨w_2⟩⟩]⟩ w fun (e3 : Ending) (w4 : World) =>
  ∃ (x5 : Int), e3 = .returned (.int .i64 x5) ∧ (br (decide ((x5 : Int) ≠ 0)) (R (.returned (.tuple ⟨[.slice none 0 0, .int .i64 x5]⟩)) w4) (al w4 9 [.string ⟨⟨w_2⟩⟩] fun p6 w7 =>
  ∃ (I8 : List UInt8 → Option Addr → Nat → Nat → World → Nat → Prop), (∃ m13 : Nat, I8 w_2 (some p6) 1 1 w7 m13) ∧ ∀ (w_9 : List UInt8) (out_10 : Option Addr) (out_10n : Nat) (out_10c : Nat) (w11 : World) (m12 : Nat), I8 w_9 out_10 out_10n out_10c w11 m12 → ∀ _ : Env, (Calls Tryz.prog 196 ⟨[.slice rules_1 rules_1n rules_1c, .string ⟨⟨w_9⟩⟩]⟩ w11 fun (e14 : Ending) (w15 : World) =>
  ∃ (x16 : List UInt8) (x17 : Bool), e14 = .returned (.tuple ⟨[.string ⟨⟨x16⟩⟩, .bool x17]⟩) ∧ (br (!x17) (R (.returned (.tuple ⟨[.slice out_10 out_10n out_10c, .int .i64 0]⟩)) w15) (br (decide ((((out_10n : Int)) : Int) = 4096)) (R (.returned (.tuple ⟨[.slice none 0 0, .int .i64 4]⟩)) w15) (al w15 9 [.string ⟨⟨x16⟩⟩] fun p18 w19 =>
  app Tryz.prog [48, 48] 48 (.slice out_10 out_10n out_10c) (.slice (some p18) 1 1) w19 fun a20 a20n a20c w21 =>
  ∃ m22 : Nat, m22 < m12 ∧ I8 x16 a20 a20n a20c w21 m22))))))
set_option maxRecDepth 100000 in
theorem e_ref14_Trace (rules_1 : Option Addr) (rules_1n : Nat) (rules_1c : Nat) (w_2 : List UInt8) (R : Ending → World → Prop) (w : World) : fnV Tryz.prog Tryz.f170 an_ref14_Trace [.slice rules_1 rules_1n rules_1c, .string ⟨⟨w_2⟩⟩] R w = sh_ref14_Trace rules_1 rules_1n rules_1c w_2 R w := by kernel_rfl
theorem c_ref14_Trace {rules_1 : Option Addr} {rules_1n : Nat} {rules_1c : Nat} {w_2 : List UInt8} {R : Ending → World → Prop} {w : World} (h : sh_ref14_Trace rules_1 rules_1n rules_1c w_2 R w) : Calls Tryz.prog F_ref14_Trace ⟨[.slice rules_1 rules_1n rules_1c, .string ⟨⟨w_2⟩⟩]⟩ w R := calls_of_fnV Tryz.func170 (by rw [e_ref14_Trace]; exact h)

def an_rewriting_results : Ann := .two (.leaf) (.two (.leaf) (.leaf))
def sh_rewriting_results (rules_1 : Option Addr) (rules_1n : Nat) (rules_1c : Nat) (w_2 : List UInt8) (R : Ending → World → Prop) (w : World) : Prop :=
  al w 23 [.slice rules_1 rules_1n rules_1c] fun p3 w4 =>
  al w4 9 [.string ⟨⟨w_2⟩⟩] fun p5 w6 =>
  R (.returned (.func (.func 207) ⟨[]⟩ ⟨[.pointer (some p5), .pointer (some p3)]⟩)) w6
set_option maxRecDepth 100000 in
theorem e_rewriting_results (rules_1 : Option Addr) (rules_1n : Nat) (rules_1c : Nat) (w_2 : List UInt8) (R : Ending → World → Prop) (w : World) : fnV Tryz.prog Tryz.f189 an_rewriting_results [.slice rules_1 rules_1n rules_1c, .string ⟨⟨w_2⟩⟩] R w = sh_rewriting_results rules_1 rules_1n rules_1c w_2 R w := by kernel_rfl
theorem c_rewriting_results {rules_1 : Option Addr} {rules_1n : Nat} {rules_1c : Nat} {w_2 : List UInt8} {R : Ending → World → Prop} {w : World} (h : sh_rewriting_results rules_1 rules_1n rules_1c w_2 R w) : Calls Tryz.prog F_rewriting_results ⟨[.slice rules_1 rules_1n rules_1c, .string ⟨⟨w_2⟩⟩]⟩ w R := calls_of_fnV Tryz.func189 (by rw [e_rewriting_results]; exact h)

def an_ref14_check : Ann := .two (.leaf) (.two (.two (.leaf) (.two (.two (.leaf) (.leaf)) (.leaf))) (.two (.two (.leaf) (.two (.two (.leaf) (.leaf)) (.leaf))) (.two (.two (.leaf) (.two (.two (.leaf) (.leaf)) (.leaf))) (.two (.leaf) (.leaf)))))
def sh_ref14_check (rules_1 : Option Addr) (rules_1n : Nat) (rules_1c : Nat) (w_2 : List UInt8) (R : Ending → World → Prop) (w : World) : Prop :=
  Calls Tryz.prog 86 ⟨[.slice rules_1 rules_1n rules_1c]⟩ w fun (e3 : Ending) (w4 : World) =>
  ∃ (x5 : Int), e3 = .returned (.int .i64 x5) ∧ (br (decide ((x5 : Int) ≠ 0)) (R (.returned (.int .i64 1)) w4) (br (decide ((64 : Int) < ((List.length w_2 : Int)))) (R (.returned (.int .i64 4)) w4) (Calls Tryz.prog 125 ⟨[.string ⟨⟨w_2⟩⟩]⟩ w4 fun (e6 : Ending) (w7 : World) =>
  ∃ (x8 : Bool), e6 = .returned (.bool x8) ∧ (br (!x8) (R (.returned (.int .i64 11)) w7) (R (.returned (.int .i64 0)) w7)))))
set_option maxRecDepth 100000 in
theorem e_ref14_check (rules_1 : Option Addr) (rules_1n : Nat) (rules_1c : Nat) (w_2 : List UInt8) (R : Ending → World → Prop) (w : World) : fnV Tryz.prog Tryz.f195 an_ref14_check [.slice rules_1 rules_1n rules_1c, .string ⟨⟨w_2⟩⟩] R w = sh_ref14_check rules_1 rules_1n rules_1c w_2 R w := by kernel_rfl
theorem c_ref14_check {rules_1 : Option Addr} {rules_1n : Nat} {rules_1c : Nat} {w_2 : List UInt8} {R : Ending → World → Prop} {w : World} (h : sh_ref14_check rules_1 rules_1n rules_1c w_2 R w) : Calls Tryz.prog F_ref14_check ⟨[.slice rules_1 rules_1n rules_1c, .string ⟨⟨w_2⟩⟩]⟩ w R := calls_of_fnV Tryz.func195 (by rw [e_ref14_check]; exact h)

def an_ref14_step : Ann := .two (.leaf) (.two (.two (.leaf) (.one (.loop 34359738352 [(6, .one (.int .i64))] (.two (.two (.leaf) (.two (.leaf) (.leaf))) (.two (.one (.two (.leaf) (.one (.loop 34359722160 [(7, .one (.int .i64))] (.two (.two (.leaf) (.two (.leaf) (.leaf))) (.two (.one (.two (.leaf) (.two (.two (.leaf) (.leaf)) (.leaf)))) (.leaf))))))) (.leaf)))))) (.two (.leaf) (.leaf)))
def sh_ref14_step (rules_1 : Option Addr) (rules_1n : Nat) (rules_1c : Nat) (w_2 : List UInt8) (R : Ending → World → Prop) (w : World) : Prop :=
  ∃ (I3 : Int → World → Nat → Prop), (∃ m7 : Nat, I3 0 w m7) ∧ ∀ (i_4 : Int) (w5 : World) (m6 : Nat), I3 i_4 w5 m6 → ∀ _ : Env, (br (decide ((i_4 : Int) < ((List.length w_2 : Int)))) (∃ (I8 : Int → World → Nat → Prop), (∃ m12 : Nat, I8 0 w5 m12) ∧ ∀ (k_9 : Int) (w10 : World) (m11 : Nat), I8 k_9 w10 m11 → ∀ _ : Env, (br (decide ((k_9 : Int) < ((rules_1n : Int)))) (idx rules_1 rules_1n k_9 2 fun p13 =>
  ∃ (x14 : List UInt8), World.cell? w10 (p13.add 0) = some (.string ⟨⟨x14⟩⟩) ∧ (Calls Tryz.prog 210 ⟨[.string ⟨⟨w_2⟩⟩, .string ⟨⟨x14⟩⟩, .int .i64 i_4]⟩ w10 fun (e15 : Ending) (w16 : World) =>
  ∃ (x17 : Bool), e15 = .returned (.bool x17) ∧ (br x17 (idx rules_1 rules_1n k_9 2 fun p18 =>
  ∃ (x19 : List UInt8), World.cell? w16 (p18.add 0) = some (.string ⟨⟨x19⟩⟩) ∧ (∃ (x20 : List UInt8), World.cell? w16 (p18.add 1) = some (.string ⟨⟨x20⟩⟩) ∧ (Calls Tryz.prog 211 ⟨[.agg ⟨[.string ⟨⟨x19⟩⟩, .string ⟨⟨x20⟩⟩]⟩, .string ⟨⟨w_2⟩⟩, .int .i64 i_4]⟩ w16 fun (e21 : Ending) (w22 : World) =>
  ∃ (x23 : List UInt8), e21 = .returned (.string ⟨⟨x23⟩⟩) ∧ (R (.returned (.tuple ⟨[.string ⟨⟨x23⟩⟩, .bool true]⟩)) w22)))) (∃ m24 : Nat, m24 < m11 ∧ I8 (IntKind.i64.wrap (k_9 + 1)) w16 m24)))) (∃ m25 : Nat, m25 < m6 ∧ I3 (IntKind.i64.wrap (i_4 + 1)) w10 m25))) (R (.returned (.tuple ⟨[.string ⟨⟨w_2⟩⟩, .bool false]⟩)) w5))
set_option maxRecDepth 100000 in
theorem e_ref14_step (rules_1 : Option Addr) (rules_1n : Nat) (rules_1c : Nat) (w_2 : List UInt8) (R : Ending → World → Prop) (w : World) : fnV Tryz.prog Tryz.f196 an_ref14_step [.slice rules_1 rules_1n rules_1c, .string ⟨⟨w_2⟩⟩] R w = sh_ref14_step rules_1 rules_1n rules_1c w_2 R w := by kernel_rfl
theorem c_ref14_step {rules_1 : Option Addr} {rules_1n : Nat} {rules_1c : Nat} {w_2 : List UInt8} {R : Ending → World → Prop} {w : World} (h : sh_ref14_step rules_1 rules_1n rules_1c w_2 R w) : Calls Tryz.prog F_ref14_step ⟨[.slice rules_1 rules_1n rules_1c, .string ⟨⟨w_2⟩⟩]⟩ w R := calls_of_fnV Tryz.func196 (by rw [e_ref14_step]; exact h)

def an_rewriting_results_1 : Ann := .two (.leaf) (.one (.loop 35184372087248 [(11, .one (.int .i64))] (.two (.leaf) (.two (.two (.leaf) (.leaf)) (.two (.one (.two (.leaf) (.two (.leaf) (.one (.loop 17592185979328 [(16, .one (.int .i64))] (.two (.leaf) (.two (.two (.leaf) (.leaf)) (.two (.one (.two (.leaf) (.two (.leaf) (.two (.leaf) (.two (.leaf) (.leaf)))))) (.leaf))))))))) (.leaf))))))
def sh_rewriting_results_1 (yield_1 : Fn) (yield_1a : Array Value) (yield_1b : Array Value) (t1_2 : Option Addr) (t2_3 : Option Addr) (R : Ending → World → Prop) (w : World) : Prop :=
  dr t1_2 fun p4 =>
  ∃ (x5 : List UInt8), World.cell? w p4 = some (.string ⟨⟨x5⟩⟩) ∧ (∃ (I6 : Int → World → Nat → Prop), (∃ m10 : Nat, I6 0 w m10) ∧ ∀ (t11_7 : Int) (w8 : World) (m9 : Nat), I6 t11_7 w8 m9 → ∀ _ : Env, (br (decide ((t11_7 : Int) < ((List.length x5 : Int)))) (dr t2_3 fun p11 =>
  ∃ (x12 : Option Addr) (x12n : Nat) (x12c : Nat), World.cell? w8 p11 = some (.slice x12 x12n x12c) ∧ (∃ (I13 : Int → World → Nat → Prop), (∃ m17 : Nat, I13 0 w8 m17) ∧ ∀ (t16_14 : Int) (w15 : World) (m16 : Nat), I13 t16_14 w15 m16 → ∀ _ : Env, (br (decide ((t16_14 : Int) < ((x12n : Int)))) (idx x12 x12n t16_14 2 fun p18 =>
  ∃ (x19 : List UInt8), World.cell? w15 (p18.add 0) = some (.string ⟨⟨x19⟩⟩) ∧ (∃ (x20 : List UInt8), World.cell? w15 (p18.add 1) = some (.string ⟨⟨x20⟩⟩) ∧ (al w15 91 [.string ⟨⟨[]⟩⟩, .string ⟨⟨[]⟩⟩] fun p21 w22 =>
  stL w22 p21 0 [.string ⟨⟨x19⟩⟩, .string ⟨⟨x20⟩⟩] fun w23 =>
  drw w23 fun w24 =>
  dr t1_2 fun p25 =>
  ∃ (x26 : List UInt8), World.cell? w24 p25 = some (.string ⟨⟨x26⟩⟩) ∧ (ssl x26 t11_7 (List.length x26 : Int) fun s27 =>
  ∃ (x28 : List UInt8), World.cell? w24 (p21.add 0) = some (.string ⟨⟨x28⟩⟩) ∧ ((Calls Tryz.prog 208 ⟨[.string ⟨⟨s27⟩⟩, .string ⟨⟨x28⟩⟩]⟩ w24 fun (e29 : Ending) (w30 : World) =>
  ∃ (x31 : List UInt8) (x32 : Bool), e29 = .returned (.tuple ⟨[.string ⟨⟨x31⟩⟩, .bool x32]⟩) ∧ (drw w30 fun w33 =>
  br x32 (dr t1_2 fun p34 =>
  ∃ (x35 : List UInt8), World.cell? w33 p34 = some (.string ⟨⟨x35⟩⟩) ∧ (ssl x35 0 t11_7 fun s36 =>
  ∃ (x37 : List UInt8), World.cell? w33 (p21.add 1) = some (.string ⟨⟨x37⟩⟩) ∧ (sadd s36 x37 fun s38 =>
  sadd s38 x31 fun s39 =>
  (CallV Tryz.prog (.func yield_1 yield_1a yield_1b) [.string ⟨⟨s39⟩⟩] w33 fun (e40 : Ending) (w41 : World) =>
  ∃ (x42 : Bool), e40 = .returned (.bool x42) ∧ (br (!x42) (R (.returned (.tuple ⟨[]⟩)) w41) (∃ m43 : Nat, m43 < m16 ∧ I13 (IntKind.i64.wrap (t16_14 + 1)) w41 m43))) ∧ True))) ((∃ m44 : Nat, m44 < m16 ∧ I13 (IntKind.i64.wrap (t16_14 + 1)) w33 m44) ∧ True))) ∧ True))))) (∃ m45 : Nat, m45 < m9 ∧ I6 (IntKind.i64.wrap (t11_7 + 1)) w15 m45)))) (R (.returned (.tuple ⟨[]⟩)) w8)))
set_option maxRecDepth 100000 in
theorem e_rewriting_results_1 (yield_1 : Fn) (yield_1a : Array Value) (yield_1b : Array Value) (t1_2 : Option Addr) (t2_3 : Option Addr) (R : Ending → World → Prop) (w : World) : fnV Tryz.prog Tryz.f207 an_rewriting_results_1 [.func yield_1 yield_1a yield_1b, .pointer t1_2, .pointer t2_3] R w = sh_rewriting_results_1 yield_1 yield_1a yield_1b t1_2 t2_3 R w := by kernel_rfl
theorem c_rewriting_results_1 {yield_1 : Fn} {yield_1a : Array Value} {yield_1b : Array Value} {t1_2 : Option Addr} {t2_3 : Option Addr} {R : Ending → World → Prop} {w : World} (h : sh_rewriting_results_1 yield_1 yield_1a yield_1b t1_2 t2_3 R w) : Calls Tryz.prog F_rewriting_results_1 ⟨[.func yield_1 yield_1a yield_1b, .pointer t1_2, .pointer t2_3]⟩ w R := calls_of_fnV Tryz.func207 (by rw [e_rewriting_results_1]; exact h)

def an_strings_CutPrefix : Ann := .two (.leaf) (.two (.leaf) (.leaf))
def sh_strings_CutPrefix (s_1 : List UInt8) (prefix_2 : List UInt8) (R : Ending → World → Prop) (w : World) : Prop :=
  Calls Tryz.prog 218 ⟨[.string ⟨⟨s_1⟩⟩, .string ⟨⟨prefix_2⟩⟩]⟩ w fun (e3 : Ending) (w4 : World) =>
  ∃ (x5 : List UInt8) (x6 : Bool), e3 = .returned (.tuple ⟨[.string ⟨⟨x5⟩⟩, .bool x6]⟩) ∧ (R (.returned (.tuple ⟨[.string ⟨⟨x5⟩⟩, .bool x6]⟩)) w4)
set_option maxRecDepth 100000 in
theorem e_strings_CutPrefix (s_1 : List UInt8) (prefix_2 : List UInt8) (R : Ending → World → Prop) (w : World) : fnV Tryz.prog Tryz.f208 an_strings_CutPrefix [.string ⟨⟨s_1⟩⟩, .string ⟨⟨prefix_2⟩⟩] R w = sh_strings_CutPrefix s_1 prefix_2 R w := by kernel_rfl
theorem c_strings_CutPrefix {s_1 : List UInt8} {prefix_2 : List UInt8} {R : Ending → World → Prop} {w : World} (h : sh_strings_CutPrefix s_1 prefix_2 R w) : Calls Tryz.prog F_strings_CutPrefix ⟨[.string ⟨⟨s_1⟩⟩, .string ⟨⟨prefix_2⟩⟩]⟩ w R := calls_of_fnV Tryz.func208 (by rw [e_strings_CutPrefix]; exact h)

def an_ref14_at : Ann := .two (.leaf) (.two (.leaf) (.leaf))
def sh_ref14_at (w_1 : List UInt8) (u_2 : List UInt8) (i_3 : Int) (R : Ending → World → Prop) (w : World) : Prop :=
  br (decide (((IntKind.i64.wrap (i_3 + ((List.length u_2 : Int)))) : Int) ≤ ((List.length w_1 : Int)))) (ssl w_1 i_3 (IntKind.i64.wrap (i_3 + ((List.length u_2 : Int)))) fun s4 =>
  R (.returned (.bool (decide ((s4 : List UInt8) = u_2)))) w) (R (.returned (.bool false)) w)
set_option maxRecDepth 100000 in
theorem e_ref14_at (w_1 : List UInt8) (u_2 : List UInt8) (i_3 : Int) (R : Ending → World → Prop) (w : World) : fnV Tryz.prog Tryz.f210 an_ref14_at [.string ⟨⟨w_1⟩⟩, .string ⟨⟨u_2⟩⟩, .int .i64 i_3] R w = sh_ref14_at w_1 u_2 i_3 R w := by kernel_rfl
theorem c_ref14_at {w_1 : List UInt8} {u_2 : List UInt8} {i_3 : Int} {R : Ending → World → Prop} {w : World} (h : sh_ref14_at w_1 u_2 i_3 R w) : Calls Tryz.prog F_ref14_at ⟨[.string ⟨⟨w_1⟩⟩, .string ⟨⟨u_2⟩⟩, .int .i64 i_3]⟩ w R := calls_of_fnV Tryz.func210 (by rw [e_ref14_at]; exact h)

def an_ref14_replace : Ann := .two (.leaf) (.two (.leaf) (.leaf))
def sh_ref14_replace (r_1 : List UInt8) (r_2 : List UInt8) (w_3 : List UInt8) (i_4 : Int) (R : Ending → World → Prop) (w : World) : Prop :=
  al w 91 [.string ⟨⟨r_1⟩⟩, .string ⟨⟨r_2⟩⟩] fun p5 w6 =>
  drw w6 fun w7 =>
  ssl w_3 0 i_4 fun s8 =>
  ∃ (x9 : List UInt8), World.cell? w7 (p5.add 1) = some (.string ⟨⟨x9⟩⟩) ∧ (sadd s8 x9 fun s10 =>
  ∃ (x11 : List UInt8), World.cell? w7 (p5.add 0) = some (.string ⟨⟨x11⟩⟩) ∧ (ssl w_3 (IntKind.i64.wrap (i_4 + ((List.length x11 : Int)))) (List.length w_3 : Int) fun s12 =>
  sadd s10 s12 fun s13 =>
  R (.returned (.string ⟨⟨s13⟩⟩)) w7))
set_option maxRecDepth 100000 in
theorem e_ref14_replace (r_1 : List UInt8) (r_2 : List UInt8) (w_3 : List UInt8) (i_4 : Int) (R : Ending → World → Prop) (w : World) : fnV Tryz.prog Tryz.f211 an_ref14_replace [.agg ⟨[.string ⟨⟨r_1⟩⟩, .string ⟨⟨r_2⟩⟩]⟩, .string ⟨⟨w_3⟩⟩, .int .i64 i_4] R w = sh_ref14_replace r_1 r_2 w_3 i_4 R w := by kernel_rfl
theorem c_ref14_replace {r_1 : List UInt8} {r_2 : List UInt8} {w_3 : List UInt8} {i_4 : Int} {R : Ending → World → Prop} {w : World} (h : sh_ref14_replace r_1 r_2 w_3 i_4 R w) : Calls Tryz.prog F_ref14_replace ⟨[.agg ⟨[.string ⟨⟨r_1⟩⟩, .string ⟨⟨r_2⟩⟩]⟩, .string ⟨⟨w_3⟩⟩, .int .i64 i_4]⟩ w R := calls_of_fnV Tryz.func211 (by rw [e_ref14_replace]; exact h)

def an_internal_stringslite_CutPrefix : Ann := .two (.leaf) (.two (.two (.leaf) (.two (.two (.leaf) (.leaf)) (.leaf))) (.two (.leaf) (.leaf)))
def sh_internal_stringslite_CutPrefix (s_1 : List UInt8) (prefix_2 : List UInt8) (R : Ending → World → Prop) (w : World) : Prop :=
  Calls Tryz.prog 221 ⟨[.string ⟨⟨s_1⟩⟩, .string ⟨⟨prefix_2⟩⟩]⟩ w fun (e3 : Ending) (w4 : World) =>
  ∃ (x5 : Bool), e3 = .returned (.bool x5) ∧ (br (!x5) (R (.returned (.tuple ⟨[.string ⟨⟨s_1⟩⟩, .bool false]⟩)) w4) (ssl s_1 ((List.length prefix_2 : Int)) (List.length s_1 : Int) fun s6 =>
  R (.returned (.tuple ⟨[.string ⟨⟨s6⟩⟩, .bool true]⟩)) w4))
set_option maxRecDepth 100000 in
theorem e_internal_stringslite_CutPrefix (s_1 : List UInt8) (prefix_2 : List UInt8) (R : Ending → World → Prop) (w : World) : fnV Tryz.prog Tryz.f218 an_internal_stringslite_CutPrefix [.string ⟨⟨s_1⟩⟩, .string ⟨⟨prefix_2⟩⟩] R w = sh_internal_stringslite_CutPrefix s_1 prefix_2 R w := by kernel_rfl
theorem c_internal_stringslite_CutPrefix {s_1 : List UInt8} {prefix_2 : List UInt8} {R : Ending → World → Prop} {w : World} (h : sh_internal_stringslite_CutPrefix s_1 prefix_2 R w) : Calls Tryz.prog F_internal_stringslite_CutPrefix ⟨[.string ⟨⟨s_1⟩⟩, .string ⟨⟨prefix_2⟩⟩]⟩ w R := calls_of_fnV Tryz.func218 (by rw [e_internal_stringslite_CutPrefix]; exact h)

def an_internal_stringslite_HasPrefix : Ann := .two (.leaf) (.two (.leaf) (.leaf))
def sh_internal_stringslite_HasPrefix (s_1 : List UInt8) (prefix_2 : List UInt8) (R : Ending → World → Prop) (w : World) : Prop :=
  br (decide ((((List.length prefix_2 : Int)) : Int) ≤ ((List.length s_1 : Int)))) (ssl s_1 0 ((List.length prefix_2 : Int)) fun s3 =>
  R (.returned (.bool (decide ((s3 : List UInt8) = prefix_2)))) w) (R (.returned (.bool false)) w)
set_option maxRecDepth 100000 in
theorem e_internal_stringslite_HasPrefix (s_1 : List UInt8) (prefix_2 : List UInt8) (R : Ending → World → Prop) (w : World) : fnV Tryz.prog Tryz.f221 an_internal_stringslite_HasPrefix [.string ⟨⟨s_1⟩⟩, .string ⟨⟨prefix_2⟩⟩] R w = sh_internal_stringslite_HasPrefix s_1 prefix_2 R w := by kernel_rfl
theorem c_internal_stringslite_HasPrefix {s_1 : List UInt8} {prefix_2 : List UInt8} {R : Ending → World → Prop} {w : World} (h : sh_internal_stringslite_HasPrefix s_1 prefix_2 R w) : Calls Tryz.prog F_internal_stringslite_HasPrefix ⟨[.string ⟨⟨s_1⟩⟩, .string ⟨⟨prefix_2⟩⟩]⟩ w R := calls_of_fnV Tryz.func221 (by rw [e_internal_stringslite_HasPrefix]; exact h)

end Go.Proofs
