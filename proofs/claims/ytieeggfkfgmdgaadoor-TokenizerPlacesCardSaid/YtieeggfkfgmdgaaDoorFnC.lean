/- Written by program: for each function its verification condition, that it is the code's (by the kernel), and that it gives the call. -/
import Derived.Test.YtieeggfkfgmdgaaDoorFn
namespace Go.Proofs
open Go Go.Sh
def an_rewriting_step : Ann := .two (.leaf) (.two (.two (.leaf) (.one (.rf [1, 4, 5, 9] 0))) (.two (.leaf) (.leaf)))
def sh_rewriting_step (rules_1 : Option Addr) (rules_1n : Nat) (rules_1c : Nat) (w_2 : List UInt8) (R : Ending → World → Prop) (w : World) : Prop :=
  al w 9 [.string ⟨⟨[]⟩⟩] fun p3 w4 =>
  al w4 4 [.bool false] fun p5 w6 =>
  Calls Tryd.prog 94 ⟨[.slice rules_1 rules_1n rules_1c, .string ⟨⟨w_2⟩⟩]⟩ w6 fun (e7 : Ending) (w8 : World) =>
  ∃ (x9 : Fn) (x9a : Array Value) (x9b : Array Value), e7 = .returned (.func x9 x9a x9b) ∧ (∀ base10 : Env, RFw Tryd.prog none 13 (cdAt Tryd.f87 [1, 0, 1, 2]) (upd (upd (upd (upd base10 9 (.func x9 x9a x9b)) 5 (.pointer (some p5))) 4 (.pointer (some p3))) 1 (.string ⟨⟨w_2⟩⟩)) [] w8 0 (fun ds11 w12 =>
  stL w12 p3 0 [.string ⟨⟨w_2⟩⟩] fun w18 =>
  stL w18 p5 0 [.bool false] fun w19 =>
  retD ds11 w19 fun w20 =>
  ∃ (x21 : List UInt8), World.cell? w20 p3 = some (.string ⟨⟨x21⟩⟩) ∧ (∃ (x22 : Bool), World.cell? w20 p5 = some (.bool x22) ∧ (R (.returned (.tuple ⟨[.string ⟨⟨x21⟩⟩, .bool x22]⟩)) w20))) (fun ds11 w12 =>
  retD ds11 w12 fun w23 =>
  ∃ (x24 : List UInt8), World.cell? w23 p3 = some (.string ⟨⟨x24⟩⟩) ∧ (∃ (x25 : Bool), World.cell? w23 p5 = some (.bool x25) ∧ (R (.returned (.tuple ⟨[.string ⟨⟨x24⟩⟩, .bool x25]⟩)) w23))) (fun ds11 w12 =>
  stL w12 p3 0 [.string ⟨⟨w_2⟩⟩] fun w13 =>
  stL w13 p5 0 [.bool false] fun w14 =>
  retD ds11 w14 fun w15 =>
  ∃ (x16 : List UInt8), World.cell? w15 p3 = some (.string ⟨⟨x16⟩⟩) ∧ (∃ (x17 : Bool), World.cell? w15 p5 = some (.bool x17) ∧ (R (.returned (.tuple ⟨[.string ⟨⟨x16⟩⟩, .bool x17]⟩)) w15))))
set_option maxRecDepth 100000 in
theorem e_rewriting_step (rules_1 : Option Addr) (rules_1n : Nat) (rules_1c : Nat) (w_2 : List UInt8) (R : Ending → World → Prop) (w : World) : fnV Tryd.prog Tryd.f87 an_rewriting_step [.slice rules_1 rules_1n rules_1c, .string ⟨⟨w_2⟩⟩] R w = sh_rewriting_step rules_1 rules_1n rules_1c w_2 R w := by kernel_rfl
theorem c_rewriting_step {rules_1 : Option Addr} {rules_1n : Nat} {rules_1c : Nat} {w_2 : List UInt8} {R : Ending → World → Prop} {w : World} (h : sh_rewriting_step rules_1 rules_1n rules_1c w_2 R w) : Calls Tryd.prog F_rewriting_step ⟨[.slice rules_1 rules_1n rules_1c, .string ⟨⟨w_2⟩⟩]⟩ w R := calls_of_fnV Tryd.func87 (by rw [e_rewriting_step]; exact h)
def anA_rewriting_step_1 : Ann := .leaf
def anB_rewriting_step_1 : Ann := .one (.two (.leaf) (.leaf))
def rf_rewriting_step_1 (w_26 : List UInt8) (t4_27 : Option Addr) (t5_28 : Option Addr) (t9_29 : Fn) (t9_29a : Array Value) (t9_29b : Array Value) (t10_30 : List UInt8) (l : Nat) (Kn Kr Kx : World → World → Prop) (w : World) : Prop :=
  Ext w w ∧ ∀ w31 : World, Upd l w w31 → (dr t4_27 fun p33 =>
  stL w31 p33 0 [.string ⟨⟨t10_30⟩⟩] fun w32 =>
  dr t5_28 fun p35 =>
  stL w32 p35 0 [.bool true] fun w34 =>
  Kr w31 w34)
set_option maxRecDepth 100000 in
theorem er_rewriting_step_1 (base : Env) (w_26 : List UInt8) (t4_27 : Option Addr) (t5_28 : Option Addr) (t9_29 : Fn) (t9_29a : Array Value) (t9_29b : Array Value) (t10_30 : List UInt8) (l : Nat) (Kn Kr Kx : World → World → Prop) (w : World) : fragV Tryd.prog 13 anA_rewriting_step_1 anB_rewriting_step_1 (cdAt Tryd.f87 [1, 0, 1, 2, 5]) (cdAt Tryd.f87 [1, 0, 1, 2, 6]) l 0 Kn Kr Kx (updPs [10] [.string ⟨⟨t10_30⟩⟩] (upd (upd (upd (upd base 9 (.func t9_29 t9_29a t9_29b)) 5 (.pointer t5_28)) 4 (.pointer t4_27)) 1 (.string ⟨⟨w_26⟩⟩))) w = rf_rewriting_step_1 w_26 t4_27 t5_28 t9_29 t9_29a t9_29b t10_30 l Kn Kr Kx w := by kernel_rfl
theorem cd_rewriting_step_1 : cdAt Tryd.f87 [1, 0, 1, 2] = .rangeFunc (Operand.tmp 9) #[10] (cdAt Tryd.f87 [1, 0, 1, 2, 5]) (cdAt Tryd.f87 [1, 0, 1, 2, 6]) := by kernel_rfl

def an_rewriting_results : Ann := .two (.leaf) (.two (.leaf) (.leaf))
def sh_rewriting_results (rules_1 : Option Addr) (rules_1n : Nat) (rules_1c : Nat) (w_2 : List UInt8) (R : Ending → World → Prop) (w : World) : Prop :=
  al w 37 [.slice rules_1 rules_1n rules_1c] fun p3 w4 =>
  al w4 9 [.string ⟨⟨w_2⟩⟩] fun p5 w6 =>
  R (.returned (.func (.func 97) ⟨[]⟩ ⟨[.pointer (some p5), .pointer (some p3)]⟩)) w6
set_option maxRecDepth 100000 in
theorem e_rewriting_results (rules_1 : Option Addr) (rules_1n : Nat) (rules_1c : Nat) (w_2 : List UInt8) (R : Ending → World → Prop) (w : World) : fnV Tryd.prog Tryd.f94 an_rewriting_results [.slice rules_1 rules_1n rules_1c, .string ⟨⟨w_2⟩⟩] R w = sh_rewriting_results rules_1 rules_1n rules_1c w_2 R w := by kernel_rfl
theorem c_rewriting_results {rules_1 : Option Addr} {rules_1n : Nat} {rules_1c : Nat} {w_2 : List UInt8} {R : Ending → World → Prop} {w : World} (h : sh_rewriting_results rules_1 rules_1n rules_1c w_2 R w) : Calls Tryd.prog F_rewriting_results ⟨[.slice rules_1 rules_1n rules_1c, .string ⟨⟨w_2⟩⟩]⟩ w R := calls_of_fnV Tryd.func94 (by rw [e_rewriting_results]; exact h)

def an_rewriting_results_1 : Ann := .two (.leaf) (.one (.loop 35184372087248 [(11, .one (.int .i64))] (.two (.leaf) (.two (.two (.leaf) (.leaf)) (.two (.one (.two (.leaf) (.two (.leaf) (.one (.loop 17592185979328 [(16, .one (.int .i64))] (.two (.leaf) (.two (.two (.leaf) (.leaf)) (.two (.one (.two (.leaf) (.two (.leaf) (.two (.leaf) (.two (.leaf) (.leaf)))))) (.leaf))))))))) (.leaf))))))
def sh_rewriting_results_1 (yield_1 : Fn) (yield_1a : Array Value) (yield_1b : Array Value) (t1_2 : Option Addr) (t2_3 : Option Addr) (R : Ending → World → Prop) (w : World) : Prop :=
  dr t1_2 fun p4 =>
  ∃ (x5 : List UInt8), World.cell? w p4 = some (.string ⟨⟨x5⟩⟩) ∧ (∃ (I6 : Int → World → Nat → Prop), (∃ m10 : Nat, I6 0 w m10) ∧ ∀ (t11_7 : Int) (w8 : World) (m9 : Nat), I6 t11_7 w8 m9 → ∀ _ : Env, (br (decide ((t11_7 : Int) < ((List.length x5 : Int)))) (dr t2_3 fun p11 =>
  ∃ (x12 : Option Addr) (x12n : Nat) (x12c : Nat), World.cell? w8 p11 = some (.slice x12 x12n x12c) ∧ (∃ (I13 : Int → World → Nat → Prop), (∃ m17 : Nat, I13 0 w8 m17) ∧ ∀ (t16_14 : Int) (w15 : World) (m16 : Nat), I13 t16_14 w15 m16 → ∀ _ : Env, (br (decide ((t16_14 : Int) < ((x12n : Int)))) (idx x12 x12n t16_14 2 fun p18 =>
  ∃ (x19 : List UInt8), World.cell? w15 (p18.add 0) = some (.string ⟨⟨x19⟩⟩) ∧ (∃ (x20 : List UInt8), World.cell? w15 (p18.add 1) = some (.string ⟨⟨x20⟩⟩) ∧ (al w15 77 [.string ⟨⟨[]⟩⟩, .string ⟨⟨[]⟩⟩] fun p21 w22 =>
  stL w22 p21 0 [.string ⟨⟨x19⟩⟩, .string ⟨⟨x20⟩⟩] fun w23 =>
  drw w23 fun w24 =>
  dr t1_2 fun p25 =>
  ∃ (x26 : List UInt8), World.cell? w24 p25 = some (.string ⟨⟨x26⟩⟩) ∧ (ssl x26 t11_7 (List.length x26 : Int) fun s27 =>
  ∃ (x28 : List UInt8), World.cell? w24 (p21.add 0) = some (.string ⟨⟨x28⟩⟩) ∧ ((Calls Tryd.prog 98 ⟨[.string ⟨⟨s27⟩⟩, .string ⟨⟨x28⟩⟩]⟩ w24 fun (e29 : Ending) (w30 : World) =>
  ∃ (x31 : List UInt8) (x32 : Bool), e29 = .returned (.tuple ⟨[.string ⟨⟨x31⟩⟩, .bool x32]⟩) ∧ (drw w30 fun w33 =>
  br x32 (dr t1_2 fun p34 =>
  ∃ (x35 : List UInt8), World.cell? w33 p34 = some (.string ⟨⟨x35⟩⟩) ∧ (ssl x35 0 t11_7 fun s36 =>
  ∃ (x37 : List UInt8), World.cell? w33 (p21.add 1) = some (.string ⟨⟨x37⟩⟩) ∧ (sadd s36 x37 fun s38 =>
  sadd s38 x31 fun s39 =>
  (CallV Tryd.prog (.func yield_1 yield_1a yield_1b) [.string ⟨⟨s39⟩⟩] w33 fun (e40 : Ending) (w41 : World) =>
  ∃ (x42 : Bool), e40 = .returned (.bool x42) ∧ (br (!x42) (R (.returned (.tuple ⟨[]⟩)) w41) (∃ m43 : Nat, m43 < m16 ∧ I13 (IntKind.i64.wrap (t16_14 + 1)) w41 m43))) ∧ True))) ((∃ m44 : Nat, m44 < m16 ∧ I13 (IntKind.i64.wrap (t16_14 + 1)) w33 m44) ∧ True))) ∧ True))))) (∃ m45 : Nat, m45 < m9 ∧ I6 (IntKind.i64.wrap (t11_7 + 1)) w15 m45)))) (R (.returned (.tuple ⟨[]⟩)) w8)))
set_option maxRecDepth 100000 in
theorem e_rewriting_results_1 (yield_1 : Fn) (yield_1a : Array Value) (yield_1b : Array Value) (t1_2 : Option Addr) (t2_3 : Option Addr) (R : Ending → World → Prop) (w : World) : fnV Tryd.prog Tryd.f97 an_rewriting_results_1 [.func yield_1 yield_1a yield_1b, .pointer t1_2, .pointer t2_3] R w = sh_rewriting_results_1 yield_1 yield_1a yield_1b t1_2 t2_3 R w := by kernel_rfl
theorem c_rewriting_results_1 {yield_1 : Fn} {yield_1a : Array Value} {yield_1b : Array Value} {t1_2 : Option Addr} {t2_3 : Option Addr} {R : Ending → World → Prop} {w : World} (h : sh_rewriting_results_1 yield_1 yield_1a yield_1b t1_2 t2_3 R w) : Calls Tryd.prog F_rewriting_results_1 ⟨[.func yield_1 yield_1a yield_1b, .pointer t1_2, .pointer t2_3]⟩ w R := calls_of_fnV Tryd.func97 (by rw [e_rewriting_results_1]; exact h)

def an_strings_CutPrefix : Ann := .two (.leaf) (.two (.leaf) (.leaf))
def sh_strings_CutPrefix (s_1 : List UInt8) (prefix_2 : List UInt8) (R : Ending → World → Prop) (w : World) : Prop :=
  Calls Tryd.prog 99 ⟨[.string ⟨⟨s_1⟩⟩, .string ⟨⟨prefix_2⟩⟩]⟩ w fun (e3 : Ending) (w4 : World) =>
  ∃ (x5 : List UInt8) (x6 : Bool), e3 = .returned (.tuple ⟨[.string ⟨⟨x5⟩⟩, .bool x6]⟩) ∧ (R (.returned (.tuple ⟨[.string ⟨⟨x5⟩⟩, .bool x6]⟩)) w4)
set_option maxRecDepth 100000 in
theorem e_strings_CutPrefix (s_1 : List UInt8) (prefix_2 : List UInt8) (R : Ending → World → Prop) (w : World) : fnV Tryd.prog Tryd.f98 an_strings_CutPrefix [.string ⟨⟨s_1⟩⟩, .string ⟨⟨prefix_2⟩⟩] R w = sh_strings_CutPrefix s_1 prefix_2 R w := by kernel_rfl
theorem c_strings_CutPrefix {s_1 : List UInt8} {prefix_2 : List UInt8} {R : Ending → World → Prop} {w : World} (h : sh_strings_CutPrefix s_1 prefix_2 R w) : Calls Tryd.prog F_strings_CutPrefix ⟨[.string ⟨⟨s_1⟩⟩, .string ⟨⟨prefix_2⟩⟩]⟩ w R := calls_of_fnV Tryd.func98 (by rw [e_strings_CutPrefix]; exact h)

def an_internal_stringslite_CutPrefix : Ann := .two (.leaf) (.two (.two (.leaf) (.two (.two (.leaf) (.leaf)) (.leaf))) (.two (.leaf) (.leaf)))
def sh_internal_stringslite_CutPrefix (s_1 : List UInt8) (prefix_2 : List UInt8) (R : Ending → World → Prop) (w : World) : Prop :=
  Calls Tryd.prog 100 ⟨[.string ⟨⟨s_1⟩⟩, .string ⟨⟨prefix_2⟩⟩]⟩ w fun (e3 : Ending) (w4 : World) =>
  ∃ (x5 : Bool), e3 = .returned (.bool x5) ∧ (br (!x5) (R (.returned (.tuple ⟨[.string ⟨⟨s_1⟩⟩, .bool false]⟩)) w4) (ssl s_1 ((List.length prefix_2 : Int)) (List.length s_1 : Int) fun s6 =>
  R (.returned (.tuple ⟨[.string ⟨⟨s6⟩⟩, .bool true]⟩)) w4))
set_option maxRecDepth 100000 in
theorem e_internal_stringslite_CutPrefix (s_1 : List UInt8) (prefix_2 : List UInt8) (R : Ending → World → Prop) (w : World) : fnV Tryd.prog Tryd.f99 an_internal_stringslite_CutPrefix [.string ⟨⟨s_1⟩⟩, .string ⟨⟨prefix_2⟩⟩] R w = sh_internal_stringslite_CutPrefix s_1 prefix_2 R w := by kernel_rfl
theorem c_internal_stringslite_CutPrefix {s_1 : List UInt8} {prefix_2 : List UInt8} {R : Ending → World → Prop} {w : World} (h : sh_internal_stringslite_CutPrefix s_1 prefix_2 R w) : Calls Tryd.prog F_internal_stringslite_CutPrefix ⟨[.string ⟨⟨s_1⟩⟩, .string ⟨⟨prefix_2⟩⟩]⟩ w R := calls_of_fnV Tryd.func99 (by rw [e_internal_stringslite_CutPrefix]; exact h)

def an_internal_stringslite_HasPrefix : Ann := .two (.leaf) (.two (.leaf) (.leaf))
def sh_internal_stringslite_HasPrefix (s_1 : List UInt8) (prefix_2 : List UInt8) (R : Ending → World → Prop) (w : World) : Prop :=
  br (decide ((((List.length prefix_2 : Int)) : Int) ≤ ((List.length s_1 : Int)))) (ssl s_1 0 ((List.length prefix_2 : Int)) fun s3 =>
  R (.returned (.bool (decide ((s3 : List UInt8) = prefix_2)))) w) (R (.returned (.bool false)) w)
set_option maxRecDepth 100000 in
theorem e_internal_stringslite_HasPrefix (s_1 : List UInt8) (prefix_2 : List UInt8) (R : Ending → World → Prop) (w : World) : fnV Tryd.prog Tryd.f100 an_internal_stringslite_HasPrefix [.string ⟨⟨s_1⟩⟩, .string ⟨⟨prefix_2⟩⟩] R w = sh_internal_stringslite_HasPrefix s_1 prefix_2 R w := by kernel_rfl
theorem c_internal_stringslite_HasPrefix {s_1 : List UInt8} {prefix_2 : List UInt8} {R : Ending → World → Prop} {w : World} (h : sh_internal_stringslite_HasPrefix s_1 prefix_2 R w) : Calls Tryd.prog F_internal_stringslite_HasPrefix ⟨[.string ⟨⟨s_1⟩⟩, .string ⟨⟨prefix_2⟩⟩]⟩ w R := calls_of_fnV Tryd.func100 (by rw [e_internal_stringslite_HasPrefix]; exact h)

end Go.Proofs
