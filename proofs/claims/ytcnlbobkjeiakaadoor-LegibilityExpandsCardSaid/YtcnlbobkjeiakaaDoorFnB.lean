/- Written by program: for each function its verification condition, that it is the code's (by the kernel), and that it gives the call. -/
import Derived.Test.YtcnlbobkjeiakaaDoorFn
namespace Go.Proofs
open Go Go.Sh
def an_transcript_Check : Ann := .two (.leaf) (.two (.leaf) (.two (.leaf) (.two (.two (.leaf) (.one (.rf [0, 2, 4, 10] 0))) (.two (.two (.leaf) (.one (.rf [0, 2, 28] 0))) (.two (.two (.leaf) (.two (.two (.leaf) (.leaf)) (.leaf))) (.two (.leaf) (.leaf)))))))
def sh_transcript_Check (l_1 : Option Addr) (l_1n : Nat) (l_1c : Nat) (R : Ending → World → Prop) (w : World) : Prop :=
  al w 25 [.int .i64 0] fun p2 w3 =>
  al w3 3 [.int .i64 0] fun p4 w5 =>
  stL w5 p4 0 [.int .i64 4096] fun w6 =>
  al w6 24 [.nilFunc] fun p7 w8 =>
  stL w8 p7 0 [.func (.func 72) ⟨[]⟩ ⟨[.pointer (some p4)]⟩] fun w9 =>
  Calls Tryd.prog 52 ⟨[.slice l_1 l_1n l_1c]⟩ w9 fun (e10 : Ending) (w11 : World) =>
  ∃ (x12 : Fn) (x12a : Array Value) (x12b : Array Value), e10 = .returned (.func x12 x12a x12b) ∧ (∀ base13 : Env, RFw Tryd.prog none 39 (cdAt Tryd.f34 [1, 1, 1, 0, 1, 2]) (upd (upd (upd (upd base13 10 (.func x12 x12a x12b)) 4 (.pointer (some p7))) 2 (.pointer (some p2))) 0 (.slice l_1 l_1n l_1c)) [] w11 0 (fun ds14 w15 =>
  Calls Tryd.prog 52 ⟨[.slice l_1 l_1n l_1c]⟩ w15 fun (e33 : Ending) (w34 : World) =>
  ∃ (x35 : Fn) (x35a : Array Value) (x35b : Array Value), e33 = .returned (.func x35 x35a x35b) ∧ (∀ base36 : Env, RFw Tryd.prog none 39 (cdAt Tryd.f34 [1, 1, 1, 1, 0, 1, 2]) (upd (upd (upd base36 28 (.func x35 x35a x35b)) 2 (.pointer (some p2))) 0 (.slice l_1 l_1n l_1c)) ds14 w34 0 (fun ds37 w38 =>
  Calls Tryd.prog 74 ⟨[.slice l_1 l_1n l_1c]⟩ w38 fun (e39 : Ending) (w40 : World) =>
  ∃ (x41 : List UInt8), e39 = .returned (.string ⟨⟨x41⟩⟩) ∧ (br (decide ((65536 : Int) < ((List.length x41 : Int)))) (stL w40 p2 0 [.int .i64 4] fun w42 =>
  retD ds37 w42 fun w43 =>
  ∃ (x44 : Int), World.cell? w43 p2 = some (.int .i64 x44) ∧ (R (.returned (.int .i64 x44)) w43)) (stL w40 p2 0 [.int .i64 0] fun w45 =>
  retD ds37 w45 fun w46 =>
  ∃ (x47 : Int), World.cell? w46 p2 = some (.int .i64 x47) ∧ (R (.returned (.int .i64 x47)) w46)))) (fun ds37 w38 =>
  retD ds37 w38 fun w48 =>
  ∃ (x49 : Int), World.cell? w48 p2 = some (.int .i64 x49) ∧ (R (.returned (.int .i64 x49)) w48)) (fun ds37 w38 =>
  False))) (fun ds14 w15 =>
  retD ds14 w15 fun w50 =>
  ∃ (x51 : Int), World.cell? w50 p2 = some (.int .i64 x51) ∧ (R (.returned (.int .i64 x51)) w50)) (fun ds14 w15 =>
  Calls Tryd.prog 52 ⟨[.slice l_1 l_1n l_1c]⟩ w15 fun (e16 : Ending) (w17 : World) =>
  ∃ (x18 : Fn) (x18a : Array Value) (x18b : Array Value), e16 = .returned (.func x18 x18a x18b) ∧ (∀ base19 : Env, RFw Tryd.prog none 39 (cdAt Tryd.f34 [1, 1, 1, 1, 0, 1, 2]) (upd (upd (upd base19 28 (.func x18 x18a x18b)) 2 (.pointer (some p2))) 0 (.slice l_1 l_1n l_1c)) ds14 w17 0 (fun ds20 w21 =>
  Calls Tryd.prog 74 ⟨[.slice l_1 l_1n l_1c]⟩ w21 fun (e22 : Ending) (w23 : World) =>
  ∃ (x24 : List UInt8), e22 = .returned (.string ⟨⟨x24⟩⟩) ∧ (br (decide ((65536 : Int) < ((List.length x24 : Int)))) (stL w23 p2 0 [.int .i64 4] fun w25 =>
  retD ds20 w25 fun w26 =>
  ∃ (x27 : Int), World.cell? w26 p2 = some (.int .i64 x27) ∧ (R (.returned (.int .i64 x27)) w26)) (stL w23 p2 0 [.int .i64 0] fun w28 =>
  retD ds20 w28 fun w29 =>
  ∃ (x30 : Int), World.cell? w29 p2 = some (.int .i64 x30) ∧ (R (.returned (.int .i64 x30)) w29)))) (fun ds20 w21 =>
  retD ds20 w21 fun w31 =>
  ∃ (x32 : Int), World.cell? w31 p2 = some (.int .i64 x32) ∧ (R (.returned (.int .i64 x32)) w31)) (fun ds20 w21 =>
  False))))
set_option maxRecDepth 100000 in
theorem e_transcript_Check (l_1 : Option Addr) (l_1n : Nat) (l_1c : Nat) (R : Ending → World → Prop) (w : World) : fnV Tryd.prog Tryd.f34 an_transcript_Check [.slice l_1 l_1n l_1c] R w = sh_transcript_Check l_1 l_1n l_1c R w := by kernel_rfl
theorem c_transcript_Check {l_1 : Option Addr} {l_1n : Nat} {l_1c : Nat} {R : Ending → World → Prop} {w : World} (h : sh_transcript_Check l_1 l_1n l_1c R w) : Calls Tryd.prog F_transcript_Check ⟨[.slice l_1 l_1n l_1c]⟩ w R := calls_of_fnV Tryd.func34 (by rw [e_transcript_Check]; exact h)
def anA_transcript_Check_1 : Ann := .leaf
def anB_transcript_Check_1 : Ann := .one (.two (.leaf) (.two (.two (.leaf) (.leaf)) (.leaf)))
def rf_transcript_Check_1 (l_52 : Option Addr) (l_52n : Nat) (l_52c : Nat) (t2_53 : Option Addr) (spend_54 : Option Addr) (t10_55 : Fn) (t10_55a : Array Value) (t10_55b : Array Value) (t11_56 : Int) (t11_57 : List UInt8) (t11_58 : Int) (t11_59 : Option Addr) (t11_59n : Nat) (t11_59c : Nat) (t11_60 : Int) (t11_61 : Bool) (l : Nat) (Kn Kr Kx : World → World → Prop) (w : World) : Prop :=
  al w 72 [.int .i64 0, .string ⟨⟨[]⟩⟩, .int .i64 0, .slice none 0 0, .int .i64 0, .bool false] fun p63 w64 =>
  stL w64 p63 0 [.int .i64 t11_56, .string ⟨⟨t11_57⟩⟩, .int .i64 t11_58, .slice t11_59 t11_59n t11_59c, .int .i64 t11_60, .bool t11_61] fun w65 =>
  Ext w w65 ∧ ∀ w62 : World, Upd l w65 w62 → (dr spend_54 fun p66 =>
  ∃ (x67 : Fn) (x67a : Array Value) (x67b : Array Value), World.cell? w62 p66 = some (.func x67 x67a x67b) ∧ (CallV Tryd.prog (.func x67 x67a x67b) [] w62 fun (e68 : Ending) (w69 : World) =>
  ∃ (x70 : Bool), e68 = .returned (.bool x70) ∧ (br (!x70) (dr t2_53 fun p72 =>
  stL w69 p72 0 [.int .i64 4] fun w71 =>
  Kr w62 w71) (∃ (x73 : Int), World.cell? w69 (p63.add 4) = some (.int .i64 x73) ∧ (br (decide ((16 : Int) ≤ x73)) (∃ (x74 : Option Addr) (x74n : Nat) (x74c : Nat), World.cell? w69 ((p63.add 0).add 3) = some (.slice x74 x74n x74c) ∧ (br (decide ((0 : Int) < ((x74n : Int)))) (dr t2_53 fun p76 =>
  stL w69 p76 0 [.int .i64 4] fun w75 =>
  Kr w62 w75) (Kn w62 w69))) (Kn w62 w69))))))
set_option maxRecDepth 100000 in
theorem er_transcript_Check_1 (base : Env) (l_52 : Option Addr) (l_52n : Nat) (l_52c : Nat) (t2_53 : Option Addr) (spend_54 : Option Addr) (t10_55 : Fn) (t10_55a : Array Value) (t10_55b : Array Value) (t11_56 : Int) (t11_57 : List UInt8) (t11_58 : Int) (t11_59 : Option Addr) (t11_59n : Nat) (t11_59c : Nat) (t11_60 : Int) (t11_61 : Bool) (l : Nat) (Kn Kr Kx : World → World → Prop) (w : World) : fragV Tryd.prog 39 anA_transcript_Check_1 anB_transcript_Check_1 (cdAt Tryd.f34 [1, 1, 1, 0, 1, 2, 5]) (cdAt Tryd.f34 [1, 1, 1, 0, 1, 2, 6]) l 0 Kn Kr Kx (updPs [11] [.agg ⟨[.int .i64 t11_56, .string ⟨⟨t11_57⟩⟩, .int .i64 t11_58, .slice t11_59 t11_59n t11_59c, .int .i64 t11_60, .bool t11_61]⟩] (upd (upd (upd (upd base 10 (.func t10_55 t10_55a t10_55b)) 4 (.pointer spend_54)) 2 (.pointer t2_53)) 0 (.slice l_52 l_52n l_52c))) w = rf_transcript_Check_1 l_52 l_52n l_52c t2_53 spend_54 t10_55 t10_55a t10_55b t11_56 t11_57 t11_58 t11_59 t11_59n t11_59c t11_60 t11_61 l Kn Kr Kx w := by kernel_rfl
theorem cd_transcript_Check_1 : cdAt Tryd.f34 [1, 1, 1, 0, 1, 2] = .rangeFunc (Operand.tmp 10) #[11] (cdAt Tryd.f34 [1, 1, 1, 0, 1, 2, 5]) (cdAt Tryd.f34 [1, 1, 1, 0, 1, 2, 6]) := by kernel_rfl
def anA_transcript_Check_2 : Ann := .leaf
def anB_transcript_Check_2 : Ann := .one (.two (.leaf) (.two (.leaf) (.two (.two (.leaf) (.leaf)) (.leaf))))
def rf_transcript_Check_2 (l_77 : Option Addr) (l_77n : Nat) (l_77c : Nat) (t2_78 : Option Addr) (t28_79 : Fn) (t28_79a : Array Value) (t28_79b : Array Value) (t29_80 : Int) (t29_81 : List UInt8) (t29_82 : Int) (t29_83 : Option Addr) (t29_83n : Nat) (t29_83c : Nat) (t29_84 : Int) (t29_85 : Bool) (l : Nat) (Kn Kr Kx : World → World → Prop) (w : World) : Prop :=
  al w 72 [.int .i64 0, .string ⟨⟨[]⟩⟩, .int .i64 0, .slice none 0 0, .int .i64 0, .bool false] fun p87 w88 =>
  stL w88 p87 0 [.int .i64 t29_80, .string ⟨⟨t29_81⟩⟩, .int .i64 t29_82, .slice t29_83 t29_83n t29_83c, .int .i64 t29_84, .bool t29_85] fun w89 =>
  Ext w w89 ∧ ∀ w86 : World, Upd l w89 w86 → (∃ (x90 : Int), World.cell? w86 (p87.add 0) = some (.int .i64 x90) ∧ (∃ (x91 : List UInt8), World.cell? w86 (p87.add 1) = some (.string ⟨⟨x91⟩⟩) ∧ (∃ (x92 : Int), World.cell? w86 (p87.add 2) = some (.int .i64 x92) ∧ (∃ (x93 : Option Addr) (x93n : Nat) (x93c : Nat), World.cell? w86 (p87.add 3) = some (.slice x93 x93n x93c) ∧ (∃ (x94 : Int), World.cell? w86 (p87.add 4) = some (.int .i64 x94) ∧ (∃ (x95 : Bool), World.cell? w86 (p87.add 5) = some (.bool x95) ∧ (Calls Tryd.prog 73 ⟨[.agg ⟨[.int .i64 x90, .string ⟨⟨x91⟩⟩, .int .i64 x92, .slice x93 x93n x93c, .int .i64 x94, .bool x95]⟩]⟩ w86 fun (e96 : Ending) (w97 : World) =>
  ∃ (x98 : Int), e96 = .returned (.int .i64 x98) ∧ (br (decide ((x98 : Int) ≠ 0)) (dr t2_78 fun p100 =>
  stL w97 p100 0 [.int .i64 x98] fun w99 =>
  Kr w86 w99) (Kn w86 w97)))))))))
set_option maxRecDepth 100000 in
theorem er_transcript_Check_2 (base : Env) (l_77 : Option Addr) (l_77n : Nat) (l_77c : Nat) (t2_78 : Option Addr) (t28_79 : Fn) (t28_79a : Array Value) (t28_79b : Array Value) (t29_80 : Int) (t29_81 : List UInt8) (t29_82 : Int) (t29_83 : Option Addr) (t29_83n : Nat) (t29_83c : Nat) (t29_84 : Int) (t29_85 : Bool) (l : Nat) (Kn Kr Kx : World → World → Prop) (w : World) : fragV Tryd.prog 39 anA_transcript_Check_2 anB_transcript_Check_2 (cdAt Tryd.f34 [1, 1, 1, 1, 0, 1, 2, 5]) (cdAt Tryd.f34 [1, 1, 1, 1, 0, 1, 2, 6]) l 0 Kn Kr Kx (updPs [29] [.agg ⟨[.int .i64 t29_80, .string ⟨⟨t29_81⟩⟩, .int .i64 t29_82, .slice t29_83 t29_83n t29_83c, .int .i64 t29_84, .bool t29_85]⟩] (upd (upd (upd base 28 (.func t28_79 t28_79a t28_79b)) 2 (.pointer t2_78)) 0 (.slice l_77 l_77n l_77c))) w = rf_transcript_Check_2 l_77 l_77n l_77c t2_78 t28_79 t28_79a t28_79b t29_80 t29_81 t29_82 t29_83 t29_83n t29_83c t29_84 t29_85 l Kn Kr Kx w := by kernel_rfl
theorem cd_transcript_Check_2 : cdAt Tryd.f34 [1, 1, 1, 1, 0, 1, 2] = .rangeFunc (Operand.tmp 28) #[29] (cdAt Tryd.f34 [1, 1, 1, 1, 0, 1, 2, 5]) (cdAt Tryd.f34 [1, 1, 1, 1, 0, 1, 2, 6]) := by kernel_rfl

def an_slices_ContainsFunc_of_string_string : Ann := .two (.leaf) (.two (.leaf) (.leaf))
def sh_slices_ContainsFunc_of_string_string (s_1 : Option Addr) (s_1n : Nat) (s_1c : Nat) (f_2 : Fn) (f_2a : Array Value) (f_2b : Array Value) (R : Ending → World → Prop) (w : World) : Prop :=
  Calls Tryd.prog 75 ⟨[.slice s_1 s_1n s_1c, .func f_2 f_2a f_2b]⟩ w fun (e3 : Ending) (w4 : World) =>
  ∃ (x5 : Int), e3 = .returned (.int .i64 x5) ∧ (R (.returned (.bool (decide ((0 : Int) ≤ x5)))) w4)
set_option maxRecDepth 100000 in
theorem e_slices_ContainsFunc_of_string_string (s_1 : Option Addr) (s_1n : Nat) (s_1c : Nat) (f_2 : Fn) (f_2a : Array Value) (f_2b : Array Value) (R : Ending → World → Prop) (w : World) : fnV Tryd.prog Tryd.f35 an_slices_ContainsFunc_of_string_string [.slice s_1 s_1n s_1c, .func f_2 f_2a f_2b] R w = sh_slices_ContainsFunc_of_string_string s_1 s_1n s_1c f_2 f_2a f_2b R w := by kernel_rfl
theorem c_slices_ContainsFunc_of_string_string {s_1 : Option Addr} {s_1n : Nat} {s_1c : Nat} {f_2 : Fn} {f_2a : Array Value} {f_2b : Array Value} {R : Ending → World → Prop} {w : World} (h : sh_slices_ContainsFunc_of_string_string s_1 s_1n s_1c f_2 f_2a f_2b R w) : Calls Tryd.prog F_slices_ContainsFunc_of_string_string ⟨[.slice s_1 s_1n s_1c, .func f_2 f_2a f_2b]⟩ w R := calls_of_fnV Tryd.func35 (by rw [e_slices_ContainsFunc_of_string_string]; exact h)

def an_law12_LegibilitySupplies_1 : Ann := .two (.leaf) (.two (.leaf) (.leaf))
def sh_law12_LegibilitySupplies_1 (s_1 : List UInt8) (R : Ending → World → Prop) (w : World) : Prop :=
  R (.returned (.bool (decide ((70 : Int) < ((List.length s_1 : Int)))))) w
set_option maxRecDepth 100000 in
theorem e_law12_LegibilitySupplies_1 (s_1 : List UInt8) (R : Ending → World → Prop) (w : World) : fnV Tryd.prog Tryd.f36 an_law12_LegibilitySupplies_1 [.string ⟨⟨s_1⟩⟩] R w = sh_law12_LegibilitySupplies_1 s_1 R w := by kernel_rfl
theorem c_law12_LegibilitySupplies_1 {s_1 : List UInt8} {R : Ending → World → Prop} {w : World} (h : sh_law12_LegibilitySupplies_1 s_1 R w) : Calls Tryd.prog F_law12_LegibilitySupplies_1 ⟨[.string ⟨⟨s_1⟩⟩]⟩ w R := calls_of_fnV Tryd.func36 (by rw [e_law12_LegibilitySupplies_1]; exact h)

def an_legibility_Supply : Ann := .two (.leaf) (.two (.two (.leaf) (.two (.leaf) (.two (.two (.leaf) (.leaf)) (.leaf)))) (.two (.leaf) (.two (.leaf) (.two (.leaf) (.two (.leaf) (.cut 534773808 [] (.two (.leaf) (.two (.two (.leaf) (.leaf)) (.leaf))) (.two (.leaf) (.two (.two (.leaf) (.two (.leaf) (.two (.two (.leaf) (.leaf)) (.leaf)))) (.two (.leaf) (.leaf))))))))))
def sh_legibility_Supply (l_1 : Option Addr) (l_1n : Nat) (l_1c : Nat) (words_2 : Option Addr) (words_2n : Nat) (words_2c : Nat) (R : Ending → World → Prop) (w : World) : Prop :=
  al w 38 [.slice words_2 words_2n words_2c] fun p3 w4 =>
  Calls Tryd.prog 48 ⟨[.slice l_1 l_1n l_1c]⟩ w4 fun (e5 : Ending) (w6 : World) =>
  ∃ (x7 : Int), e5 = .returned (.int .i64 x7) ∧ (br (decide ((x7 : Int) ≠ 0)) (R (.returned (.tuple ⟨[.slice none 0 0, .int .i64 x7]⟩)) w6) (al w6 3 [.int .i64 0] fun p8 w9 =>
  al w9 4 [.bool false] fun p10 w11 =>
  stL w11 p8 0 [.int .i64 0] fun w12 =>
  stL w12 p10 0 [.bool true] fun w13 =>
  al w13 97 [.nilFunc] fun p14 w15 =>
  stL w15 p14 0 [.func (.func 76) ⟨[]⟩ ⟨[.pointer (some p14), .pointer (some p8), .pointer (some p3), .pointer (some p10)]⟩] fun w16 =>
  ∃ (x17 : Fn) (x17a : Array Value) (x17b : Array Value), World.cell? w16 p14 = some (.func x17 x17a x17b) ∧ (CallV Tryd.prog (.func x17 x17a x17b) [.slice l_1 l_1n l_1c] w16 fun (e18 : Ending) (w19 : World) =>
  ∃ (x20 : Option Addr) (x20n : Nat) (x20c : Nat), e18 = .returned (.slice x20 x20n x20c) ∧ (∀ (K21 : World → Prop), (∀  (w22 : World), (∀ _ : Env, (Calls Tryd.prog 77 ⟨[.slice x20 x20n x20c]⟩ w22 fun (e23 : Ending) (w24 : World) =>
  ∃ (x25 : Option Addr) (x25n : Nat) (x25c : Nat), e23 = .returned (.slice x25 x25n x25c) ∧ (Calls Tryd.prog 34 ⟨[.slice x25 x25n x25c]⟩ w24 fun (e26 : Ending) (w27 : World) =>
  ∃ (x28 : Int), e26 = .returned (.int .i64 x28) ∧ (br (decide ((x28 : Int) ≠ 0)) (R (.returned (.tuple ⟨[.slice none 0 0, .int .i64 x28]⟩)) w27) (R (.returned (.tuple ⟨[.slice x25 x25n x25c, .int .i64 0]⟩)) w27))))) → K21 w22) → (∃ (x29 : Bool), World.cell? w19 p10 = some (.bool x29) ∧ (br (!x29) (R (.returned (.tuple ⟨[.slice none 0 0, .int .i64 9]⟩)) w19) (∃ (x30 : Int), World.cell? w19 p8 = some (.int .i64 x30) ∧ (∃ (x31 : Option Addr) (x31n : Nat) (x31c : Nat), World.cell? w19 p3 = some (.slice x31 x31n x31c) ∧ (br (decide ((x30 : Int) ≠ ((x31n : Int)))) (R (.returned (.tuple ⟨[.slice none 0 0, .int .i64 9]⟩)) w19) (K21 w19))))))))))
set_option maxRecDepth 100000 in
theorem e_legibility_Supply (l_1 : Option Addr) (l_1n : Nat) (l_1c : Nat) (words_2 : Option Addr) (words_2n : Nat) (words_2c : Nat) (R : Ending → World → Prop) (w : World) : fnV Tryd.prog Tryd.f37 an_legibility_Supply [.slice l_1 l_1n l_1c, .slice words_2 words_2n words_2c] R w = sh_legibility_Supply l_1 l_1n l_1c words_2 words_2n words_2c R w := by kernel_rfl
theorem c_legibility_Supply {l_1 : Option Addr} {l_1n : Nat} {l_1c : Nat} {words_2 : Option Addr} {words_2n : Nat} {words_2c : Nat} {R : Ending → World → Prop} {w : World} (h : sh_legibility_Supply l_1 l_1n l_1c words_2 words_2n words_2c R w) : Calls Tryd.prog F_legibility_Supply ⟨[.slice l_1 l_1n l_1c, .slice words_2 words_2n words_2c]⟩ w R := calls_of_fnV Tryd.func37 (by rw [e_legibility_Supply]; exact h)

def an_legibility_Fits : Ann := .two (.leaf) (.cut 32688 [] (.two (.leaf) (.two (.two (.leaf) (.leaf)) (.leaf))) (.two (.two (.leaf) (.two (.two (.leaf) (.leaf)) (.leaf))) (.two (.two (.leaf) (.one (.loop 1099507433584 [(22, .one (.int .i64))] (.two (.leaf) (.two (.two (.leaf) (.leaf)) (.two (.one (.two (.leaf) (.two (.leaf) (.two (.two (.leaf) (.leaf)) (.leaf))))) (.leaf))))))) (.two (.leaf) (.leaf)))))
def sh_legibility_Fits (pattern_1 : List UInt8) (w_2 : List UInt8) (R : Ending → World → Prop) (w : World) : Prop :=
  ∀ (K3 : World → Prop), (∀  (w4 : World), (∀ _ : Env, (br (decide ((((List.length pattern_1 : Int)) : Int) ≠ ((List.length w_2 : Int)))) (R (.returned (.tuple ⟨[.bool false, .int .i64 0]⟩)) w4) (∃ (I5 : Int → World → Nat → Prop), (∃ m9 : Nat, I5 0 w4 m9) ∧ ∀ (t22_6 : Int) (w7 : World) (m8 : Nat), I5 t22_6 w7 m8 → ∀ _ : Env, (br (decide ((t22_6 : Int) < ((List.length w_2 : Int)))) (drw w7 fun w10 =>
  sidx w_2 t22_6 fun b11 =>
  sidx pattern_1 t22_6 fun b12 =>
  br (decide ((((b11.toNat : Int)) : Int) ≠ ((b12.toNat : Int)))) (sidx pattern_1 t22_6 fun b13 =>
  sidx ([95]) 0 fun b14 =>
  br (decide ((((b13.toNat : Int)) : Int) ≠ ((b14.toNat : Int)))) (R (.returned (.tuple ⟨[.bool false, .int .i64 0]⟩)) w10) (∃ m15 : Nat, m15 < m8 ∧ I5 (IntKind.i64.wrap (t22_6 + 1)) w10 m15)) (∃ m16 : Nat, m16 < m8 ∧ I5 (IntKind.i64.wrap (t22_6 + 1)) w10 m16)) (R (.returned (.tuple ⟨[.bool true, .int .i64 0]⟩)) w7))))) → K3 w4) → (br (decide ((65536 : Int) < ((List.length pattern_1 : Int)))) (R (.returned (.tuple ⟨[.bool false, .int .i64 4]⟩)) w) (br (decide ((65536 : Int) < ((List.length w_2 : Int)))) (R (.returned (.tuple ⟨[.bool false, .int .i64 4]⟩)) w) (K3 w)))
set_option maxRecDepth 100000 in
theorem e_legibility_Fits (pattern_1 : List UInt8) (w_2 : List UInt8) (R : Ending → World → Prop) (w : World) : fnV Tryd.prog Tryd.f38 an_legibility_Fits [.string ⟨⟨pattern_1⟩⟩, .string ⟨⟨w_2⟩⟩] R w = sh_legibility_Fits pattern_1 w_2 R w := by kernel_rfl
theorem c_legibility_Fits {pattern_1 : List UInt8} {w_2 : List UInt8} {R : Ending → World → Prop} {w : World} (h : sh_legibility_Fits pattern_1 w_2 R w) : Calls Tryd.prog F_legibility_Fits ⟨[.string ⟨⟨pattern_1⟩⟩, .string ⟨⟨w_2⟩⟩]⟩ w R := calls_of_fnV Tryd.func38 (by rw [e_legibility_Fits]; exact h)

def an_ref10_size : Ann := .two (.leaf) (.two (.leaf) (.two (.two (.leaf) (.one (.loop 576460752303423424 [(9, .one (.int .i64)), (10, .one (.int .i64)), (11, .one (.int .i64))] (.two (.two (.leaf) (.two (.leaf) (.leaf))) (.two (.one (.two (.leaf) (.two (.two (.leaf) (.two (.two (.leaf) (.leaf)) (.leaf))) (.two (.two (.leaf) (.two (.leaf) (.leaf))) (.two (.two (.leaf) (.two (.two (.leaf) (.leaf)) (.leaf))) (.two (.leaf) (.two (.two (.leaf) (.two (.two (.leaf) (.leaf)) (.leaf))) (.two (.leaf) (.leaf))))))))) (.leaf)))))) (.two (.leaf) (.leaf))))
def sh_ref10_size (l_1 : Option Addr) (l_1n : Nat) (l_1c : Nat) (depth_2 : Int) (most_3 : Int) (R : Ending → World → Prop) (w : World) : Prop :=
  ∃ (I4 : Int → Int → Int → World → Nat → Prop), (∃ m10 : Nat, I4 0 0 0 w m10) ∧ ∀ (n_5 : Int) (deep_6 : Int) (i_7 : Int) (w8 : World) (m9 : Nat), I4 n_5 deep_6 i_7 w8 m9 → ∀ _ : Env, (br (decide ((i_7 : Int) < ((l_1n : Int)))) (br (decide ((most_3 : Int) < (IntKind.i64.wrap (n_5 + 1)))) (R (.returned (.tuple ⟨[.int .i64 0, .int .i64 0, .bool false]⟩)) w8) (idx l_1 l_1n i_7 4 fun p11 =>
  ∃ (x12 : Option Addr) (x12n : Nat) (x12c : Nat), World.cell? w8 (p11.add 3) = some (.slice x12 x12n x12c) ∧ (br (decide ((((x12n : Int)) : Int) = 0)) (∃ m13 : Nat, m13 < m9 ∧ I4 (IntKind.i64.wrap (n_5 + 1)) deep_6 (IntKind.i64.wrap (i_7 + 1)) w8 m13) (br (decide ((depth_2 : Int) = 0)) (R (.returned (.tuple ⟨[.int .i64 0, .int .i64 0, .bool false]⟩)) w8) (idx l_1 l_1n i_7 4 fun p14 =>
  ∃ (x15 : Option Addr) (x15n : Nat) (x15c : Nat), World.cell? w8 (p14.add 3) = some (.slice x15 x15n x15c) ∧ (Calls Tryd.prog 44 ⟨[.slice x15 x15n x15c, .int .i64 (IntKind.i64.wrap (depth_2 - 1)), .int .i64 (IntKind.i64.wrap (most_3 - (IntKind.i64.wrap (n_5 + 1))))]⟩ w8 fun (e16 : Ending) (w17 : World) =>
  ∃ (x18 : Int) (x19 : Int) (x20 : Bool), e16 = .returned (.tuple ⟨[.int .i64 x18, .int .i64 x19, .bool x20]⟩) ∧ (br (!x20) (R (.returned (.tuple ⟨[.int .i64 0, .int .i64 0, .bool false]⟩)) w17) (∃ m21 : Nat, m21 < m9 ∧ I4 (IntKind.i64.wrap ((IntKind.i64.wrap (n_5 + 1)) + x18)) ((max deep_6 (IntKind.i64.wrap (x19 + 1)))) (IntKind.i64.wrap (i_7 + 1)) w17 m21)))))))) (R (.returned (.tuple ⟨[.int .i64 n_5, .int .i64 deep_6, .bool true]⟩)) w8))
set_option maxRecDepth 100000 in
theorem e_ref10_size (l_1 : Option Addr) (l_1n : Nat) (l_1c : Nat) (depth_2 : Int) (most_3 : Int) (R : Ending → World → Prop) (w : World) : fnV Tryd.prog Tryd.f44 an_ref10_size [.slice l_1 l_1n l_1c, .int .i64 depth_2, .int .i64 most_3] R w = sh_ref10_size l_1 l_1n l_1c depth_2 most_3 R w := by kernel_rfl
theorem c_ref10_size {l_1 : Option Addr} {l_1n : Nat} {l_1c : Nat} {depth_2 : Int} {most_3 : Int} {R : Ending → World → Prop} {w : World} (h : sh_ref10_size l_1 l_1n l_1c depth_2 most_3 R w) : Calls Tryd.prog F_ref10_size ⟨[.slice l_1 l_1n l_1c, .int .i64 depth_2, .int .i64 most_3]⟩ w R := calls_of_fnV Tryd.func44 (by rw [e_ref10_size]; exact h)

def an_ref10_long : Ann := .two (.leaf) (.two (.two (.leaf) (.one (.loop 8796093022192 [(5, .one (.int .i64))] (.two (.two (.leaf) (.two (.leaf) (.leaf))) (.two (.one (.two (.leaf) (.two (.leaf) (.two (.two (.leaf) (.leaf)) (.leaf))))) (.leaf)))))) (.two (.leaf) (.leaf)))
def sh_ref10_long (l_1 : Option Addr) (l_1n : Nat) (l_1c : Nat) (depth_2 : Int) (R : Ending → World → Prop) (w : World) : Prop :=
  ∃ (I3 : Int → World → Nat → Prop), (∃ m7 : Nat, I3 0 w m7) ∧ ∀ (i_4 : Int) (w5 : World) (m6 : Nat), I3 i_4 w5 m6 → ∀ _ : Env, (br (decide ((i_4 : Int) < ((l_1n : Int)))) (idx l_1 l_1n i_4 4 fun p8 =>
  ∃ (x9 : List UInt8), World.cell? w5 (p8.add 1) = some (.string ⟨⟨x9⟩⟩) ∧ (br (decide ((depth_2 : Int) = 0)) (R (.returned (.bool true)) w5) (br (decide ((60 : Int) < ((List.length x9 : Int)))) (br (decide ((((List.length x9 : Int)) : Int) ≤ 65536)) (R (.returned (.bool true)) w5) (br (decide ((65540 : Int) < ((List.length x9 : Int)))) (R (.returned (.bool true)) w5) (idx l_1 l_1n i_4 4 fun p10 =>
  ∃ (x11 : Option Addr) (x11n : Nat) (x11c : Nat), World.cell? w5 (p10.add 3) = some (.slice x11 x11n x11c) ∧ (Calls Tryd.prog 45 ⟨[.slice x11 x11n x11c, .int .i64 (IntKind.i64.wrap (depth_2 - 1))]⟩ w5 fun (e12 : Ending) (w13 : World) =>
  ∃ (x14 : Bool), e12 = .returned (.bool x14) ∧ (br x14 (R (.returned (.bool true)) w13) (∃ m15 : Nat, m15 < m6 ∧ I3 (IntKind.i64.wrap (i_4 + 1)) w13 m15)))))) (br (decide ((65540 : Int) < ((List.length x9 : Int)))) (R (.returned (.bool true)) w5) (idx l_1 l_1n i_4 4 fun p16 =>
  ∃ (x17 : Option Addr) (x17n : Nat) (x17c : Nat), World.cell? w5 (p16.add 3) = some (.slice x17 x17n x17c) ∧ (Calls Tryd.prog 45 ⟨[.slice x17 x17n x17c, .int .i64 (IntKind.i64.wrap (depth_2 - 1))]⟩ w5 fun (e18 : Ending) (w19 : World) =>
  ∃ (x20 : Bool), e18 = .returned (.bool x20) ∧ (br x20 (R (.returned (.bool true)) w19) (∃ m21 : Nat, m21 < m6 ∧ I3 (IntKind.i64.wrap (i_4 + 1)) w19 m21)))))))) (R (.returned (.bool false)) w5))
set_option maxRecDepth 100000 in
theorem e_ref10_long (l_1 : Option Addr) (l_1n : Nat) (l_1c : Nat) (depth_2 : Int) (R : Ending → World → Prop) (w : World) : fnV Tryd.prog Tryd.f45 an_ref10_long [.slice l_1 l_1n l_1c, .int .i64 depth_2] R w = sh_ref10_long l_1 l_1n l_1c depth_2 R w := by kernel_rfl
theorem c_ref10_long {l_1 : Option Addr} {l_1n : Nat} {l_1c : Nat} {depth_2 : Int} {R : Ending → World → Prop} {w : World} (h : sh_ref10_long l_1 l_1n l_1c depth_2 R w) : Calls Tryd.prog F_ref10_long ⟨[.slice l_1 l_1n l_1c, .int .i64 depth_2]⟩ w R := calls_of_fnV Tryd.func45 (by rw [e_ref10_long]; exact h)

def an_law12_sample : Ann := .two (.leaf) (.two (.leaf) (.leaf))
def sh_law12_sample  (R : Ending → World → Prop) (w : World) : Prop :=
  al w 37 [.int .i64 1, .string ⟨⟨[111, 109, 105, 110, 117, 115]⟩⟩, .int .i64 0, .slice none 0 0] fun p1 w2 =>
  al w2 37 [.int .i64 1, .string ⟨⟨[100]⟩⟩, .int .i64 0, .slice none 0 0, .int .i64 10, .string ⟨⟨[110, 115]⟩⟩, .int .i64 0, .slice (some p1) 1 1, .int .i64 6, .string ⟨⟨[]⟩⟩, .int .i64 2, .slice none 0 0] fun p3 w4 =>
  R (.returned (.slice (some p3) 3 3)) w4
set_option maxRecDepth 100000 in
theorem e_law12_sample  (R : Ending → World → Prop) (w : World) : fnV Tryd.prog Tryd.f46 an_law12_sample [] R w = sh_law12_sample  R w := by kernel_rfl
theorem c_law12_sample  {R : Ending → World → Prop} {w : World} (h : sh_law12_sample  R w) : Calls Tryd.prog F_law12_sample ⟨[]⟩ w R := calls_of_fnV Tryd.func46 (by rw [e_law12_sample]; exact h)

def an_slices_Equal_of_api_Rewrite_api_Rewrite : Ann := .two (.leaf) (.two (.two (.leaf) (.two (.two (.leaf) (.leaf)) (.leaf))) (.two (.two (.leaf) (.one (.loop 67100720 [(13, .one (.int .i64))] (.two (.leaf) (.two (.two (.leaf) (.leaf)) (.two (.one (.two (.leaf) (.two (.leaf) (.two (.two (.leaf) (.leaf)) (.leaf))))) (.leaf))))))) (.two (.leaf) (.leaf))))
def sh_slices_Equal_of_api_Rewrite_api_Rewrite (s1_1 : Option Addr) (s1_1n : Nat) (s1_1c : Nat) (s2_2 : Option Addr) (s2_2n : Nat) (s2_2c : Nat) (R : Ending → World → Prop) (w : World) : Prop :=
  br (decide ((((s1_1n : Int)) : Int) ≠ ((s2_2n : Int)))) (R (.returned (.bool false)) w) (∃ (I3 : Int → World → Nat → Prop), (∃ m7 : Nat, I3 0 w m7) ∧ ∀ (t13_4 : Int) (w5 : World) (m6 : Nat), I3 t13_4 w5 m6 → ∀ _ : Env, (br (decide ((t13_4 : Int) < ((s1_1n : Int)))) (drw w5 fun w8 =>
  idx s1_1 s1_1n t13_4 2 fun p9 =>
  ∃ (x10 : List UInt8), World.cell? w8 (p9.add 0) = some (.string ⟨⟨x10⟩⟩) ∧ (∃ (x11 : List UInt8), World.cell? w8 (p9.add 1) = some (.string ⟨⟨x11⟩⟩) ∧ (idx s2_2 s2_2n t13_4 2 fun p12 =>
  ∃ (x13 : List UInt8), World.cell? w8 (p12.add 0) = some (.string ⟨⟨x13⟩⟩) ∧ (∃ (x14 : List UInt8), World.cell? w8 (p12.add 1) = some (.string ⟨⟨x14⟩⟩) ∧ (br (!(decide ((x10 : List UInt8) = x13) && (decide ((x11 : List UInt8) = x14) && true))) (R (.returned (.bool false)) w8) (∃ m15 : Nat, m15 < m6 ∧ I3 (IntKind.i64.wrap (t13_4 + 1)) w8 m15)))))) (R (.returned (.bool true)) w5)))
set_option maxRecDepth 100000 in
theorem e_slices_Equal_of_api_Rewrite_api_Rewrite (s1_1 : Option Addr) (s1_1n : Nat) (s1_1c : Nat) (s2_2 : Option Addr) (s2_2n : Nat) (s2_2c : Nat) (R : Ending → World → Prop) (w : World) : fnV Tryd.prog Tryd.f47 an_slices_Equal_of_api_Rewrite_api_Rewrite [.slice s1_1 s1_1n s1_1c, .slice s2_2 s2_2n s2_2c] R w = sh_slices_Equal_of_api_Rewrite_api_Rewrite s1_1 s1_1n s1_1c s2_2 s2_2n s2_2c R w := by kernel_rfl
theorem c_slices_Equal_of_api_Rewrite_api_Rewrite {s1_1 : Option Addr} {s1_1n : Nat} {s1_1c : Nat} {s2_2 : Option Addr} {s2_2n : Nat} {s2_2c : Nat} {R : Ending → World → Prop} {w : World} (h : sh_slices_Equal_of_api_Rewrite_api_Rewrite s1_1 s1_1n s1_1c s2_2 s2_2n s2_2c R w) : Calls Tryd.prog F_slices_Equal_of_api_Rewrite_api_Rewrite ⟨[.slice s1_1 s1_1n s1_1c, .slice s2_2 s2_2n s2_2c]⟩ w R := calls_of_fnV Tryd.func47 (by rw [e_slices_Equal_of_api_Rewrite_api_Rewrite]; exact h)

def an_legibility_check : Ann := .two (.leaf) (.two (.two (.leaf) (.two (.two (.leaf) (.leaf)) (.leaf))) (.two (.two (.leaf) (.one (.rf [2, 8] 0))) (.two (.leaf) (.leaf))))
def sh_legibility_check (l_1 : Option Addr) (l_1n : Nat) (l_1c : Nat) (R : Ending → World → Prop) (w : World) : Prop :=
  al w 25 [.int .i64 0] fun p2 w3 =>
  Calls Tryd.prog 34 ⟨[.slice l_1 l_1n l_1c]⟩ w3 fun (e4 : Ending) (w5 : World) =>
  ∃ (x6 : Int), e4 = .returned (.int .i64 x6) ∧ (br (decide ((x6 : Int) ≠ 0)) (stL w5 p2 0 [.int .i64 1] fun w7 =>
  ∃ (x8 : Int), World.cell? w7 p2 = some (.int .i64 x8) ∧ (R (.returned (.int .i64 x8)) w7)) (Calls Tryd.prog 57 ⟨[.slice l_1 l_1n l_1c]⟩ w5 fun (e9 : Ending) (w10 : World) =>
  ∃ (x11 : Fn) (x11a : Array Value) (x11b : Array Value), e9 = .returned (.func x11 x11a x11b) ∧ (∀ base12 : Env, RFw Tryd.prog none 19 (cdAt Tryd.f48 [1, 1, 0, 1, 2]) (upd (upd base12 8 (.func x11 x11a x11b)) 2 (.pointer (some p2))) [] w10 0 (fun ds13 w14 =>
  stL w14 p2 0 [.int .i64 0] fun w18 =>
  retD ds13 w18 fun w19 =>
  ∃ (x20 : Int), World.cell? w19 p2 = some (.int .i64 x20) ∧ (R (.returned (.int .i64 x20)) w19)) (fun ds13 w14 =>
  retD ds13 w14 fun w21 =>
  ∃ (x22 : Int), World.cell? w21 p2 = some (.int .i64 x22) ∧ (R (.returned (.int .i64 x22)) w21)) (fun ds13 w14 =>
  stL w14 p2 0 [.int .i64 0] fun w15 =>
  retD ds13 w15 fun w16 =>
  ∃ (x17 : Int), World.cell? w16 p2 = some (.int .i64 x17) ∧ (R (.returned (.int .i64 x17)) w16)))))
set_option maxRecDepth 100000 in
theorem e_legibility_check (l_1 : Option Addr) (l_1n : Nat) (l_1c : Nat) (R : Ending → World → Prop) (w : World) : fnV Tryd.prog Tryd.f48 an_legibility_check [.slice l_1 l_1n l_1c] R w = sh_legibility_check l_1 l_1n l_1c R w := by kernel_rfl
theorem c_legibility_check {l_1 : Option Addr} {l_1n : Nat} {l_1c : Nat} {R : Ending → World → Prop} {w : World} (h : sh_legibility_check l_1 l_1n l_1c R w) : Calls Tryd.prog F_legibility_check ⟨[.slice l_1 l_1n l_1c]⟩ w R := calls_of_fnV Tryd.func48 (by rw [e_legibility_check]; exact h)
def anA_legibility_check_1 : Ann := .leaf
def anB_legibility_check_1 : Ann := .one (.two (.leaf) (.two (.two (.leaf) (.leaf)) (.leaf)))
def rf_legibility_check_1 (t2_23 : Option Addr) (t8_24 : Fn) (t8_24a : Array Value) (t8_24b : Array Value) (t9_25 : Int) (t9_26 : List UInt8) (t9_27 : Int) (t9_28 : Option Addr) (t9_28n : Nat) (t9_28c : Nat) (t10_29 : Value) (l : Nat) (Kn Kr Kx : World → World → Prop) (w : World) : Prop :=
  al w 37 [.int .i64 0, .string ⟨⟨[]⟩⟩, .int .i64 0, .slice none 0 0] fun p31 w32 =>
  stL w32 p31 0 [.int .i64 t9_25, .string ⟨⟨t9_26⟩⟩, .int .i64 t9_27, .slice t9_28 t9_28n t9_28c] fun w33 =>
  Ext w w33 ∧ ∀ w30 : World, Upd l w33 w30 → (∃ (x34 : Int), World.cell? w30 (p31.add 0) = some (.int .i64 x34) ∧ (br (decide ((x34 : Int) = 8)) (dr t2_23 fun p36 =>
  stL w30 p36 0 [.int .i64 13] fun w35 =>
  Kr w30 w35) (∃ (x37 : Int), World.cell? w30 (p31.add 0) = some (.int .i64 x37) ∧ (br (decide ((x37 : Int) = 9)) (dr t2_23 fun p39 =>
  stL w30 p39 0 [.int .i64 13] fun w38 =>
  Kr w30 w38) (Kn w30 w30)))))
set_option maxRecDepth 100000 in
theorem er_legibility_check_1 (base : Env) (t2_23 : Option Addr) (t8_24 : Fn) (t8_24a : Array Value) (t8_24b : Array Value) (t9_25 : Int) (t9_26 : List UInt8) (t9_27 : Int) (t9_28 : Option Addr) (t9_28n : Nat) (t9_28c : Nat) (t10_29 : Value) (l : Nat) (Kn Kr Kx : World → World → Prop) (w : World) : fragV Tryd.prog 19 anA_legibility_check_1 anB_legibility_check_1 (cdAt Tryd.f48 [1, 1, 0, 1, 2, 5]) (cdAt Tryd.f48 [1, 1, 0, 1, 2, 6]) l 0 Kn Kr Kx (updPs [9, 10] [.agg ⟨[.int .i64 t9_25, .string ⟨⟨t9_26⟩⟩, .int .i64 t9_27, .slice t9_28 t9_28n t9_28c]⟩, t10_29] (upd (upd base 8 (.func t8_24 t8_24a t8_24b)) 2 (.pointer t2_23))) w = rf_legibility_check_1 t2_23 t8_24 t8_24a t8_24b t9_25 t9_26 t9_27 t9_28 t9_28n t9_28c t10_29 l Kn Kr Kx w := by kernel_rfl
theorem cd_legibility_check_1 : cdAt Tryd.f48 [1, 1, 0, 1, 2] = .rangeFunc (Operand.tmp 8) #[9, 10] (cdAt Tryd.f48 [1, 1, 0, 1, 2, 5]) (cdAt Tryd.f48 [1, 1, 0, 1, 2, 6]) := by kernel_rfl

def an_legibility_limited : Ann := .two (.leaf) (.two (.two (.leaf) (.two (.two (.leaf) (.leaf)) (.leaf))) (.two (.leaf) (.leaf)))
def sh_legibility_limited (s_1 : List UInt8) (R : Ending → World → Prop) (w : World) : Prop :=
  br (decide ((65536 : Int) < ((List.length s_1 : Int)))) (R (.returned (.tuple ⟨[.string ⟨⟨[]⟩⟩, .int .i64 4]⟩)) w) (R (.returned (.tuple ⟨[.string ⟨⟨s_1⟩⟩, .int .i64 0]⟩)) w)
set_option maxRecDepth 100000 in
theorem e_legibility_limited (s_1 : List UInt8) (R : Ending → World → Prop) (w : World) : fnV Tryd.prog Tryd.f49 an_legibility_limited [.string ⟨⟨s_1⟩⟩] R w = sh_legibility_limited s_1 R w := by kernel_rfl
theorem c_legibility_limited {s_1 : List UInt8} {R : Ending → World → Prop} {w : World} (h : sh_legibility_limited s_1 R w) : Calls Tryd.prog F_legibility_limited ⟨[.string ⟨⟨s_1⟩⟩]⟩ w R := calls_of_fnV Tryd.func49 (by rw [e_legibility_limited]; exact h)

def an_legibility_pattern : Ann := .two (.leaf) (.two (.leaf) (.two (.two (.leaf) (.one (.rf [2, 3, 6] 0))) (.two (.leaf) (.leaf))))
def sh_legibility_pattern (l_1 : Option Addr) (l_1n : Nat) (l_1c : Nat) (R : Ending → World → Prop) (w : World) : Prop :=
  al w 84 [.pointer none, .slice none 0 0] fun p2 w3 =>
  Calls Tryd.prog 57 ⟨[.slice l_1 l_1n l_1c]⟩ w3 fun (e4 : Ending) (w5 : World) =>
  ∃ (x6 : Fn) (x6a : Array Value) (x6b : Array Value), e4 = .returned (.func x6 x6a x6b) ∧ (∀ base7 : Env, RFw Tryd.prog none 23 (cdAt Tryd.f50 [1, 1, 0, 1, 2]) (upd (upd (upd base7 6 (.func x6 x6a x6b)) 3 (.pointer (some p2))) 2 (.string ⟨⟨[]⟩⟩)) [] w5 0 (fun ds8 w9 =>
  Calls Tryd.prog 62 ⟨[.pointer (some p2)]⟩ w9 fun (e14 : Ending) (w15 : World) =>
  ∃ (x16 : List UInt8), e14 = .returned (.string ⟨⟨x16⟩⟩) ∧ (retD ds8 w15 fun w17 =>
  R (.returned (.string ⟨⟨x16⟩⟩)) w17)) (fun ds8 w9 =>
  retD ds8 w9 fun w18 =>
  R (.returned (.string ⟨⟨[]⟩⟩)) w18) (fun ds8 w9 =>
  Calls Tryd.prog 62 ⟨[.pointer (some p2)]⟩ w9 fun (e10 : Ending) (w11 : World) =>
  ∃ (x12 : List UInt8), e10 = .returned (.string ⟨⟨x12⟩⟩) ∧ (retD ds8 w11 fun w13 =>
  R (.returned (.string ⟨⟨x12⟩⟩)) w13)))
set_option maxRecDepth 100000 in
theorem e_legibility_pattern (l_1 : Option Addr) (l_1n : Nat) (l_1c : Nat) (R : Ending → World → Prop) (w : World) : fnV Tryd.prog Tryd.f50 an_legibility_pattern [.slice l_1 l_1n l_1c] R w = sh_legibility_pattern l_1 l_1n l_1c R w := by kernel_rfl
theorem c_legibility_pattern {l_1 : Option Addr} {l_1n : Nat} {l_1c : Nat} {R : Ending → World → Prop} {w : World} (h : sh_legibility_pattern l_1 l_1n l_1c R w) : Calls Tryd.prog F_legibility_pattern ⟨[.slice l_1 l_1n l_1c]⟩ w R := calls_of_fnV Tryd.func50 (by rw [e_legibility_pattern]; exact h)
def anA_legibility_pattern_1 : Ann := .leaf
def anB_legibility_pattern_1 : Ann := .one (.two (.leaf) (.one (.two (.leaf) (.two (.leaf) (.two (.leaf) (.two (.leaf) (.leaf)))))))
def rf_legibility_pattern_1 (t2_19 : List UInt8) (w_20 : Option Addr) (t6_21 : Fn) (t6_21a : Array Value) (t6_21b : Array Value) (t7_22 : Int) (t7_23 : List UInt8) (t7_24 : Int) (t7_25 : Option Addr) (t7_25n : Nat) (t7_25c : Nat) (t8_26 : Value) (l : Nat) (Kn Kr Kx : World → World → Prop) (w : World) : Prop :=
  al w 37 [.int .i64 0, .string ⟨⟨[]⟩⟩, .int .i64 0, .slice none 0 0] fun p28 w29 =>
  stL w29 p28 0 [.int .i64 t7_22, .string ⟨⟨t7_23⟩⟩, .int .i64 t7_24, .slice t7_25 t7_25n t7_25c] fun w30 =>
  Ext w w30 ∧ ∀ w27 : World, Upd l w30 w27 → (∃ (x31 : Int), World.cell? w27 (p28.add 0) = some (.int .i64 x31) ∧ (br (decide ((x31 : Int) = 1)) (∃ (x32 : List UInt8), World.cell? w27 (p28.add 1) = some (.string ⟨⟨x32⟩⟩) ∧ (Calls Tryd.prog 61 ⟨[.pointer w_20, .string ⟨⟨x32⟩⟩]⟩ w27 fun (e33 : Ending) (w34 : World) =>
  ∃ (x35 : Int) (x36 : Value), e33 = .returned (.tuple ⟨[.int .i64 x35, x36]⟩) ∧ (Kn w27 w34))) (br (decide ((x31 : Int) = 6)) (∃ (x37 : Int), World.cell? w27 (p28.add 2) = some (.int .i64 x37) ∧ (Calls Tryd.prog 40 ⟨[.string ⟨⟨[95]⟩⟩, .int .i64 x37]⟩ w27 fun (e38 : Ending) (w39 : World) =>
  ∃ (x40 : List UInt8), e38 = .returned (.string ⟨⟨x40⟩⟩) ∧ (Calls Tryd.prog 61 ⟨[.pointer w_20, .string ⟨⟨x40⟩⟩]⟩ w39 fun (e41 : Ending) (w42 : World) =>
  ∃ (x43 : Int) (x44 : Value), e41 = .returned (.tuple ⟨[.int .i64 x43, x44]⟩) ∧ (Kn w27 w42)))) (Kn w27 w27))))
set_option maxRecDepth 100000 in
theorem er_legibility_pattern_1 (base : Env) (t2_19 : List UInt8) (w_20 : Option Addr) (t6_21 : Fn) (t6_21a : Array Value) (t6_21b : Array Value) (t7_22 : Int) (t7_23 : List UInt8) (t7_24 : Int) (t7_25 : Option Addr) (t7_25n : Nat) (t7_25c : Nat) (t8_26 : Value) (l : Nat) (Kn Kr Kx : World → World → Prop) (w : World) : fragV Tryd.prog 23 anA_legibility_pattern_1 anB_legibility_pattern_1 (cdAt Tryd.f50 [1, 1, 0, 1, 2, 5]) (cdAt Tryd.f50 [1, 1, 0, 1, 2, 6]) l 0 Kn Kr Kx (updPs [7, 8] [.agg ⟨[.int .i64 t7_22, .string ⟨⟨t7_23⟩⟩, .int .i64 t7_24, .slice t7_25 t7_25n t7_25c]⟩, t8_26] (upd (upd (upd base 6 (.func t6_21 t6_21a t6_21b)) 3 (.pointer w_20)) 2 (.string ⟨⟨t2_19⟩⟩))) w = rf_legibility_pattern_1 t2_19 w_20 t6_21 t6_21a t6_21b t7_22 t7_23 t7_24 t7_25 t7_25n t7_25c t8_26 l Kn Kr Kx w := by kernel_rfl
theorem cd_legibility_pattern_1 : cdAt Tryd.f50 [1, 1, 0, 1, 2] = .rangeFunc (Operand.tmp 6) #[7, 8] (cdAt Tryd.f50 [1, 1, 0, 1, 2, 5]) (cdAt Tryd.f50 [1, 1, 0, 1, 2, 6]) := by kernel_rfl

def an_legibility_written : Ann := .two (.leaf) (.two (.leaf) (.two (.two (.leaf) (.one (.loop 2147483424 [(8, .one (.int .i64))] (.two (.leaf) (.two (.two (.leaf) (.leaf)) (.two (.one (.two (.leaf) (.two (.leaf) (.one (.cut 1835008 [(18, .one (.bool))] (.two (.leaf) (.two (.leaf) (.leaf))) (.two (.leaf) (.two (.leaf) (.two (.leaf) (.leaf))))))))) (.leaf))))))) (.two (.leaf) (.leaf))))
def sh_legibility_written (l_1 : Option Addr) (l_1n : Nat) (l_1c : Nat) (R : Ending → World → Prop) (w : World) : Prop :=
  al w 84 [.pointer none, .slice none 0 0] fun p2 w3 =>
  ∃ (I4 : Int → World → Nat → Prop), (∃ m8 : Nat, I4 0 w3 m8) ∧ ∀ (t8_5 : Int) (w6 : World) (m7 : Nat), I4 t8_5 w6 m7 → ∀ _ : Env, (br (decide ((t8_5 : Int) < ((l_1n : Int)))) (idx l_1 l_1n t8_5 4 fun p9 =>
  ∃ (x10 : Int), World.cell? w6 (p9.add 0) = some (.int .i64 x10) ∧ (∃ (x11 : List UInt8), World.cell? w6 (p9.add 1) = some (.string ⟨⟨x11⟩⟩) ∧ (∃ (x12 : Int), World.cell? w6 (p9.add 2) = some (.int .i64 x12) ∧ (∃ (x13 : Option Addr) (x13n : Nat) (x13c : Nat), World.cell? w6 (p9.add 3) = some (.slice x13 x13n x13c) ∧ (al w6 37 [.int .i64 0, .string ⟨⟨[]⟩⟩, .int .i64 0, .slice none 0 0] fun p14 w15 =>
  stL w15 p14 0 [.int .i64 x10, .string ⟨⟨x11⟩⟩, .int .i64 x12, .slice x13 x13n x13c] fun w16 =>
  ∃ (x17 : Int), World.cell? w16 (p14.add 0) = some (.int .i64 x17) ∧ (∀ (K18 : Bool → World → Prop), (∀ (t18_19 : Bool) (w20 : World), (∀ _ : Env, (br t18_19 (∃ (x21 : List UInt8), World.cell? w20 (p14.add 1) = some (.string ⟨⟨x21⟩⟩) ∧ (Calls Tryd.prog 61 ⟨[.pointer (some p2), .string ⟨⟨x21⟩⟩]⟩ w20 fun (e22 : Ending) (w23 : World) =>
  ∃ (x24 : Int) (x25 : Value), e22 = .returned (.tuple ⟨[.int .i64 x24, x25]⟩) ∧ (∃ m26 : Nat, m26 < m7 ∧ I4 (IntKind.i64.wrap (t8_5 + 1)) w23 m26))) (br (decide ((x17 : Int) = 6)) (∃ (x27 : Int), World.cell? w20 (p14.add 2) = some (.int .i64 x27) ∧ (Calls Tryd.prog 40 ⟨[.string ⟨⟨[95]⟩⟩, .int .i64 x27]⟩ w20 fun (e28 : Ending) (w29 : World) =>
  ∃ (x30 : List UInt8), e28 = .returned (.string ⟨⟨x30⟩⟩) ∧ (Calls Tryd.prog 61 ⟨[.pointer (some p2), .string ⟨⟨x30⟩⟩]⟩ w29 fun (e31 : Ending) (w32 : World) =>
  ∃ (x33 : Int) (x34 : Value), e31 = .returned (.tuple ⟨[.int .i64 x33, x34]⟩) ∧ (∃ m35 : Nat, m35 < m7 ∧ I4 (IntKind.i64.wrap (t8_5 + 1)) w32 m35)))) (∃ (x36 : Option Addr) (x36n : Nat) (x36c : Nat), World.cell? w20 (p14.add 3) = some (.slice x36 x36n x36c) ∧ (Calls Tryd.prog 51 ⟨[.slice x36 x36n x36c]⟩ w20 fun (e37 : Ending) (w38 : World) =>
  ∃ (x39 : List UInt8), e37 = .returned (.string ⟨⟨x39⟩⟩) ∧ (Calls Tryd.prog 61 ⟨[.pointer (some p2), .string ⟨⟨x39⟩⟩]⟩ w38 fun (e40 : Ending) (w41 : World) =>
  ∃ (x42 : Int) (x43 : Value), e40 = .returned (.tuple ⟨[.int .i64 x42, x43]⟩) ∧ (∃ m44 : Nat, m44 < m7 ∧ I4 (IntKind.i64.wrap (t8_5 + 1)) w41 m44))))))) → K18 t18_19 w20) → (br (decide ((x17 : Int) = 1)) (K18 (decide ((x17 : Int) = 1)) w16) (K18 (decide ((x17 : Int) = 10)) w16)))))))) (Calls Tryd.prog 62 ⟨[.pointer (some p2)]⟩ w6 fun (e45 : Ending) (w46 : World) =>
  ∃ (x47 : List UInt8), e45 = .returned (.string ⟨⟨x47⟩⟩) ∧ (R (.returned (.string ⟨⟨x47⟩⟩)) w46)))
set_option maxRecDepth 100000 in
theorem e_legibility_written (l_1 : Option Addr) (l_1n : Nat) (l_1c : Nat) (R : Ending → World → Prop) (w : World) : fnV Tryd.prog Tryd.f51 an_legibility_written [.slice l_1 l_1n l_1c] R w = sh_legibility_written l_1 l_1n l_1c R w := by kernel_rfl
theorem c_legibility_written {l_1 : Option Addr} {l_1n : Nat} {l_1c : Nat} {R : Ending → World → Prop} {w : World} (h : sh_legibility_written l_1 l_1n l_1c R w) : Calls Tryd.prog F_legibility_written ⟨[.slice l_1 l_1n l_1c]⟩ w R := calls_of_fnV Tryd.func51 (by rw [e_legibility_written]; exact h)

def an_transcript_places : Ann := .two (.leaf) (.two (.leaf) (.leaf))
def sh_transcript_places (l_1 : Option Addr) (l_1n : Nat) (l_1c : Nat) (R : Ending → World → Prop) (w : World) : Prop :=
  al w 22 [.slice l_1 l_1n l_1c] fun p2 w3 =>
  R (.returned (.func (.func 85) ⟨[]⟩ ⟨[.pointer (some p2)]⟩)) w3
set_option maxRecDepth 100000 in
theorem e_transcript_places (l_1 : Option Addr) (l_1n : Nat) (l_1c : Nat) (R : Ending → World → Prop) (w : World) : fnV Tryd.prog Tryd.f52 an_transcript_places [.slice l_1 l_1n l_1c] R w = sh_transcript_places l_1 l_1n l_1c R w := by kernel_rfl
theorem c_transcript_places {l_1 : Option Addr} {l_1n : Nat} {l_1c : Nat} {R : Ending → World → Prop} {w : World} (h : sh_transcript_places l_1 l_1n l_1c R w) : Calls Tryd.prog F_transcript_places ⟨[.slice l_1 l_1n l_1c]⟩ w R := calls_of_fnV Tryd.func52 (by rw [e_transcript_places]; exact h)

def an_ref12_check : Ann := .two (.leaf) (.two (.two (.leaf) (.two (.two (.leaf) (.leaf)) (.leaf))) (.two (.two (.leaf) (.two (.two (.leaf) (.leaf)) (.leaf))) (.two (.leaf) (.leaf))))
def sh_ref12_check (l_1 : Option Addr) (l_1n : Nat) (l_1c : Nat) (R : Ending → World → Prop) (w : World) : Prop :=
  Calls Tryd.prog 87 ⟨[.slice l_1 l_1n l_1c]⟩ w fun (e2 : Ending) (w3 : World) =>
  ∃ (x4 : Int), e2 = .returned (.int .i64 x4) ∧ (br (decide ((x4 : Int) ≠ 0)) (R (.returned (.int .i64 1)) w3) (Calls Tryd.prog 88 ⟨[.slice l_1 l_1n l_1c]⟩ w3 fun (e5 : Ending) (w6 : World) =>
  ∃ (x7 : Bool), e5 = .returned (.bool x7) ∧ (br (!x7) (R (.returned (.int .i64 13)) w6) (R (.returned (.int .i64 0)) w6))))
set_option maxRecDepth 100000 in
theorem e_ref12_check (l_1 : Option Addr) (l_1n : Nat) (l_1c : Nat) (R : Ending → World → Prop) (w : World) : fnV Tryd.prog Tryd.f54 an_ref12_check [.slice l_1 l_1n l_1c] R w = sh_ref12_check l_1 l_1n l_1c R w := by kernel_rfl
theorem c_ref12_check {l_1 : Option Addr} {l_1n : Nat} {l_1c : Nat} {R : Ending → World → Prop} {w : World} (h : sh_ref12_check l_1 l_1n l_1c R w) : Calls Tryd.prog F_ref12_check ⟨[.slice l_1 l_1n l_1c]⟩ w R := calls_of_fnV Tryd.func54 (by rw [e_ref12_check]; exact h)

def an_ref12_pattern : Ann := .two (.leaf) (.two (.leaf) (.two (.two (.leaf) (.one (.loop 70368744177656 [(3, .one (.str)), (4, .one (.int .i64))] (.two (.two (.leaf) (.two (.leaf) (.leaf))) (.two (.one (.cut 16775176 [(3, .one (.str))] (.two (.leaf) (.two (.leaf) (.leaf))) (.cut 274861129736 [(3, .one (.str))] (.two (.leaf) (.two (.leaf) (.leaf))) (.leaf)))) (.leaf)))))) (.two (.leaf) (.leaf))))
def sh_ref12_pattern (l_1 : Option Addr) (l_1n : Nat) (l_1c : Nat) (R : Ending → World → Prop) (w : World) : Prop :=
  ∃ (I2 : List UInt8 → Int → World → Nat → Prop), (∃ m7 : Nat, I2 ([]) 0 w m7) ∧ ∀ (out_3 : List UInt8) (i_4 : Int) (w5 : World) (m6 : Nat), I2 out_3 i_4 w5 m6 → ∀ _ : Env, (br (decide ((i_4 : Int) < ((l_1n : Int)))) (∀ (K8 : List UInt8 → World → Prop), (∀ (out_9 : List UInt8) (w10 : World), (∀ _ : Env, (∀ (K11 : List UInt8 → World → Prop), (∀ (out_12 : List UInt8) (w13 : World), (∀ _ : Env, (idx l_1 l_1n i_4 4 fun p14 =>
  ∃ (x15 : Option Addr) (x15n : Nat) (x15c : Nat), World.cell? w13 (p14.add 3) = some (.slice x15 x15n x15c) ∧ (Calls Tryd.prog 55 ⟨[.slice x15 x15n x15c]⟩ w13 fun (e16 : Ending) (w17 : World) =>
  ∃ (x18 : List UInt8), e16 = .returned (.string ⟨⟨x18⟩⟩) ∧ (sadd out_12 x18 fun s19 =>
  ∃ m20 : Nat, m20 < m6 ∧ I2 s19 (IntKind.i64.wrap (i_4 + 1)) w17 m20)))) → K11 out_12 w13) → (idx l_1 l_1n i_4 4 fun p21 =>
  ∃ (x22 : Int), World.cell? w10 (p21.add 0) = some (.int .i64 x22) ∧ (br (decide ((x22 : Int) = 6)) (idx l_1 l_1n i_4 4 fun p23 =>
  ∃ (x24 : Int), World.cell? w10 (p23.add 2) = some (.int .i64 x24) ∧ (Calls Tryd.prog 89 ⟨[.int .i64 x24]⟩ w10 fun (e25 : Ending) (w26 : World) =>
  ∃ (x27 : List UInt8), e25 = .returned (.string ⟨⟨x27⟩⟩) ∧ (sadd out_9 x27 fun s28 =>
  K11 s28 w26))) (K11 out_9 w10))))) → K8 out_9 w10) → (idx l_1 l_1n i_4 4 fun p29 =>
  ∃ (x30 : Int), World.cell? w5 (p29.add 0) = some (.int .i64 x30) ∧ (br (decide ((x30 : Int) = 1)) (idx l_1 l_1n i_4 4 fun p31 =>
  ∃ (x32 : List UInt8), World.cell? w5 (p31.add 1) = some (.string ⟨⟨x32⟩⟩) ∧ (sadd out_3 x32 fun s33 =>
  K8 s33 w5)) (K8 out_3 w5)))) (R (.returned (.string ⟨⟨out_3⟩⟩)) w5))
set_option maxRecDepth 100000 in
theorem e_ref12_pattern (l_1 : Option Addr) (l_1n : Nat) (l_1c : Nat) (R : Ending → World → Prop) (w : World) : fnV Tryd.prog Tryd.f55 an_ref12_pattern [.slice l_1 l_1n l_1c] R w = sh_ref12_pattern l_1 l_1n l_1c R w := by kernel_rfl
theorem c_ref12_pattern {l_1 : Option Addr} {l_1n : Nat} {l_1c : Nat} {R : Ending → World → Prop} {w : World} (h : sh_ref12_pattern l_1 l_1n l_1c R w) : Calls Tryd.prog F_ref12_pattern ⟨[.slice l_1 l_1n l_1c]⟩ w R := calls_of_fnV Tryd.func55 (by rw [e_ref12_pattern]; exact h)

def an_ref12_written : Ann := .two (.leaf) (.two (.leaf) (.two (.two (.leaf) (.one (.loop 1152921504606846968 [(3, .one (.str)), (4, .one (.int .i64))] (.two (.two (.leaf) (.two (.leaf) (.leaf))) (.two (.one (.cut 4294965256 [(3, .one (.str))] (.cut 33552384 [(24, .one (.bool))] (.leaf) (.two (.leaf) (.leaf))) (.cut 70364449210376 [(3, .one (.str))] (.two (.leaf) (.two (.leaf) (.leaf))) (.two (.leaf) (.two (.leaf) (.leaf)))))) (.leaf)))))) (.two (.leaf) (.leaf))))
def sh_ref12_written (l_1 : Option Addr) (l_1n : Nat) (l_1c : Nat) (R : Ending → World → Prop) (w : World) : Prop :=
  ∃ (I2 : List UInt8 → Int → World → Nat → Prop), (∃ m7 : Nat, I2 ([]) 0 w m7) ∧ ∀ (out_3 : List UInt8) (i_4 : Int) (w5 : World) (m6 : Nat), I2 out_3 i_4 w5 m6 → ∀ _ : Env, (br (decide ((i_4 : Int) < ((l_1n : Int)))) (∀ (K8 : List UInt8 → World → Prop), (∀ (out_9 : List UInt8) (w10 : World), (∀ _ : Env, (∀ (K11 : List UInt8 → World → Prop), (∀ (out_12 : List UInt8) (w13 : World), (∀ _ : Env, (idx l_1 l_1n i_4 4 fun p14 =>
  ∃ (x15 : Int), World.cell? w13 (p14.add 0) = some (.int .i64 x15) ∧ (br (decide ((x15 : Int) ≠ 10)) (idx l_1 l_1n i_4 4 fun p16 =>
  ∃ (x17 : Option Addr) (x17n : Nat) (x17c : Nat), World.cell? w13 (p16.add 3) = some (.slice x17 x17n x17c) ∧ (Calls Tryd.prog 56 ⟨[.slice x17 x17n x17c]⟩ w13 fun (e18 : Ending) (w19 : World) =>
  ∃ (x20 : List UInt8), e18 = .returned (.string ⟨⟨x20⟩⟩) ∧ (sadd out_12 x20 fun s21 =>
  ∃ m22 : Nat, m22 < m6 ∧ I2 s21 (IntKind.i64.wrap (i_4 + 1)) w19 m22))) (∃ m23 : Nat, m23 < m6 ∧ I2 out_12 (IntKind.i64.wrap (i_4 + 1)) w13 m23)))) → K11 out_12 w13) → (idx l_1 l_1n i_4 4 fun p24 =>
  ∃ (x25 : Int), World.cell? w10 (p24.add 0) = some (.int .i64 x25) ∧ (br (decide ((x25 : Int) = 6)) (idx l_1 l_1n i_4 4 fun p26 =>
  ∃ (x27 : Int), World.cell? w10 (p26.add 2) = some (.int .i64 x27) ∧ (Calls Tryd.prog 89 ⟨[.int .i64 x27]⟩ w10 fun (e28 : Ending) (w29 : World) =>
  ∃ (x30 : List UInt8), e28 = .returned (.string ⟨⟨x30⟩⟩) ∧ (sadd out_9 x30 fun s31 =>
  K11 s31 w29))) (K11 out_9 w10))))) → K8 out_9 w10) → (∀ (K32 : Bool → World → Prop), (∀ (t24_33 : Bool) (w34 : World), (∀ _ : Env, (br t24_33 (idx l_1 l_1n i_4 4 fun p35 =>
  ∃ (x36 : List UInt8), World.cell? w34 (p35.add 1) = some (.string ⟨⟨x36⟩⟩) ∧ (sadd out_3 x36 fun s37 =>
  K8 s37 w34)) (K8 out_3 w34))) → K32 t24_33 w34) → (idx l_1 l_1n i_4 4 fun p38 =>
  ∃ (x39 : Int), World.cell? w5 (p38.add 0) = some (.int .i64 x39) ∧ (br (decide ((x39 : Int) = 1)) (K32 true w5) (idx l_1 l_1n i_4 4 fun p40 =>
  ∃ (x41 : Int), World.cell? w5 (p40.add 0) = some (.int .i64 x41) ∧ (K32 (decide ((x41 : Int) = 10)) w5)))))) (R (.returned (.string ⟨⟨out_3⟩⟩)) w5))
set_option maxRecDepth 100000 in
theorem e_ref12_written (l_1 : Option Addr) (l_1n : Nat) (l_1c : Nat) (R : Ending → World → Prop) (w : World) : fnV Tryd.prog Tryd.f56 an_ref12_written [.slice l_1 l_1n l_1c] R w = sh_ref12_written l_1 l_1n l_1c R w := by kernel_rfl
theorem c_ref12_written {l_1 : Option Addr} {l_1n : Nat} {l_1c : Nat} {R : Ending → World → Prop} {w : World} (h : sh_ref12_written l_1 l_1n l_1c R w) : Calls Tryd.prog F_ref12_written ⟨[.slice l_1 l_1n l_1c]⟩ w R := calls_of_fnV Tryd.func56 (by rw [e_ref12_written]; exact h)

def an_legibility_all : Ann := .two (.leaf) (.two (.leaf) (.leaf))
def sh_legibility_all (l_1 : Option Addr) (l_1n : Nat) (l_1c : Nat) (R : Ending → World → Prop) (w : World) : Prop :=
  al w 22 [.slice l_1 l_1n l_1c] fun p2 w3 =>
  R (.returned (.func (.func 90) ⟨[]⟩ ⟨[.pointer (some p2)]⟩)) w3
set_option maxRecDepth 100000 in
theorem e_legibility_all (l_1 : Option Addr) (l_1n : Nat) (l_1c : Nat) (R : Ending → World → Prop) (w : World) : fnV Tryd.prog Tryd.f57 an_legibility_all [.slice l_1 l_1n l_1c] R w = sh_legibility_all l_1 l_1n l_1c R w := by kernel_rfl
theorem c_legibility_all {l_1 : Option Addr} {l_1n : Nat} {l_1c : Nat} {R : Ending → World → Prop} {w : World} (h : sh_legibility_all l_1 l_1n l_1c R w) : Calls Tryd.prog F_legibility_all ⟨[.slice l_1 l_1n l_1c]⟩ w R := calls_of_fnV Tryd.func57 (by rw [e_legibility_all]; exact h)

def an_ref12_gaps : Ann := .two (.leaf) (.two (.leaf) (.two (.two (.leaf) (.one (.loop 17179869144 [(3, .one (.slice)), (4, .one (.int .i64))] (.two (.two (.leaf) (.two (.leaf) (.leaf))) (.two (.one (.cut 67104776 [(3, .one (.slice))] (.two (.leaf) (.two (.leaf) (.leaf))) (.leaf))) (.leaf)))))) (.two (.leaf) (.leaf))))
def sh_ref12_gaps (l_1 : Option Addr) (l_1n : Nat) (l_1c : Nat) (R : Ending → World → Prop) (w : World) : Prop :=
  al w 3 [] fun p2 w3 =>
  ∃ (I4 : Option Addr → Nat → Nat → Int → World → Nat → Prop), (∃ m9 : Nat, I4 (some p2) 0 0 0 w3 m9) ∧ ∀ (out_5 : Option Addr) (out_5n : Nat) (out_5c : Nat) (i_6 : Int) (w7 : World) (m8 : Nat), I4 out_5 out_5n out_5c i_6 w7 m8 → ∀ _ : Env, (br (decide ((i_6 : Int) < ((l_1n : Int)))) (∀ (K10 : Option Addr → Nat → Nat → World → Prop), (∀ (out_11 : Option Addr) (out_11n : Nat) (out_11c : Nat) (w12 : World), (∀ _ : Env, (idx l_1 l_1n i_6 4 fun p13 =>
  ∃ (x14 : Option Addr) (x14n : Nat) (x14c : Nat), World.cell? w12 (p13.add 3) = some (.slice x14 x14n x14c) ∧ (Calls Tryd.prog 58 ⟨[.slice x14 x14n x14c]⟩ w12 fun (e15 : Ending) (w16 : World) =>
  ∃ (x17 : Option Addr) (x17n : Nat) (x17c : Nat), e15 = .returned (.slice x17 x17n x17c) ∧ (app Tryd.prog [76, 76] 76 (.slice out_11 out_11n out_11c) (.slice x17 x17n x17c) w16 fun a18 a18n a18c w19 =>
  ∃ m20 : Nat, m20 < m8 ∧ I4 a18 a18n a18c (IntKind.i64.wrap (i_6 + 1)) w19 m20)))) → K10 out_11 out_11n out_11c w12) → (idx l_1 l_1n i_6 4 fun p21 =>
  ∃ (x22 : Int), World.cell? w7 (p21.add 0) = some (.int .i64 x22) ∧ (br (decide ((x22 : Int) = 6)) (idx l_1 l_1n i_6 4 fun p23 =>
  ∃ (x24 : Int), World.cell? w7 (p23.add 2) = some (.int .i64 x24) ∧ (al w7 3 [.int .i64 x24] fun p25 w26 =>
  app Tryd.prog [76, 76] 76 (.slice out_5 out_5n out_5c) (.slice (some p25) 1 1) w26 fun a27 a27n a27c w28 =>
  K10 a27 a27n a27c w28)) (K10 out_5 out_5n out_5c w7)))) (R (.returned (.slice out_5 out_5n out_5c)) w7))
set_option maxRecDepth 100000 in
theorem e_ref12_gaps (l_1 : Option Addr) (l_1n : Nat) (l_1c : Nat) (R : Ending → World → Prop) (w : World) : fnV Tryd.prog Tryd.f58 an_ref12_gaps [.slice l_1 l_1n l_1c] R w = sh_ref12_gaps l_1 l_1n l_1c R w := by kernel_rfl
theorem c_ref12_gaps {l_1 : Option Addr} {l_1n : Nat} {l_1c : Nat} {R : Ending → World → Prop} {w : World} (h : sh_ref12_gaps l_1 l_1n l_1c R w) : Calls Tryd.prog F_ref12_gaps ⟨[.slice l_1 l_1n l_1c]⟩ w R := calls_of_fnV Tryd.func58 (by rw [e_ref12_gaps]; exact h)

def an_ref12_unclear : Ann := .two (.leaf) (.two (.leaf) (.two (.two (.leaf) (.one (.loop 140737488355296 [(5, .one (.int .i64)), (6, .one (.int .i64))] (.two (.two (.leaf) (.two (.leaf) (.leaf))) (.two (.one (.cut 1073733664 [(5, .one (.int .i64))] (.cut 4186112 [(21, .one (.bool))] (.leaf) (.two (.leaf) (.leaf))) (.leaf))) (.leaf)))))) (.two (.leaf) (.leaf))))
def sh_ref12_unclear (l_1 : Option Addr) (l_1n : Nat) (l_1c : Nat) (within_2 : Bool) (R : Ending → World → Prop) (w : World) : Prop :=
  ∃ (I3 : Int → Int → World → Nat → Prop), (∃ m8 : Nat, I3 0 0 w m8) ∧ ∀ (n_4 : Int) (i_5 : Int) (w6 : World) (m7 : Nat), I3 n_4 i_5 w6 m7 → ∀ _ : Env, (br (decide ((i_5 : Int) < ((l_1n : Int)))) (∀ (K9 : Int → World → Prop), (∀ (n_10 : Int) (w11 : World), (∀ _ : Env, (drw w11 fun w12 =>
  idx l_1 l_1n i_5 4 fun p13 =>
  ∃ (x14 : Option Addr) (x14n : Nat) (x14c : Nat), World.cell? w12 (p13.add 3) = some (.slice x14 x14n x14c) ∧ (br within_2 ((Calls Tryd.prog 59 ⟨[.slice x14 x14n x14c, .bool true]⟩ w12 fun (e15 : Ending) (w16 : World) =>
  ∃ (x17 : Int), e15 = .returned (.int .i64 x17) ∧ (∃ m18 : Nat, m18 < m7 ∧ I3 (IntKind.i64.wrap (n_10 + x17)) (IntKind.i64.wrap (i_5 + 1)) w16 m18)) ∧ True) (idx l_1 l_1n i_5 4 fun p19 =>
  ∃ (x20 : Int), World.cell? w12 (p19.add 0) = some (.int .i64 x20) ∧ ((Calls Tryd.prog 59 ⟨[.slice x14 x14n x14c, .bool (decide ((x20 : Int) = 7))]⟩ w12 fun (e21 : Ending) (w22 : World) =>
  ∃ (x23 : Int), e21 = .returned (.int .i64 x23) ∧ (∃ m24 : Nat, m24 < m7 ∧ I3 (IntKind.i64.wrap (n_10 + x23)) (IntKind.i64.wrap (i_5 + 1)) w22 m24)) ∧ True))))) → K9 n_10 w11) → (∀ (K25 : Bool → World → Prop), (∀ (t21_26 : Bool) (w27 : World), (∀ _ : Env, (br t21_26 (idx l_1 l_1n i_5 4 fun p28 =>
  ∃ (x29 : List UInt8), World.cell? w27 (p28.add 1) = some (.string ⟨⟨x29⟩⟩) ∧ (K9 (IntKind.i64.wrap (n_4 + ((List.length x29 : Int)))) w27)) (K9 n_4 w27))) → K25 t21_26 w27) → (br within_2 (idx l_1 l_1n i_5 4 fun p30 =>
  ∃ (x31 : Int), World.cell? w6 (p30.add 0) = some (.int .i64 x31) ∧ (K25 (decide ((x31 : Int) = 1)) w6)) (K25 false w6)))) (R (.returned (.int .i64 n_4)) w6))
set_option maxRecDepth 100000 in
theorem e_ref12_unclear (l_1 : Option Addr) (l_1n : Nat) (l_1c : Nat) (within_2 : Bool) (R : Ending → World → Prop) (w : World) : fnV Tryd.prog Tryd.f59 an_ref12_unclear [.slice l_1 l_1n l_1c, .bool within_2] R w = sh_ref12_unclear l_1 l_1n l_1c within_2 R w := by kernel_rfl
theorem c_ref12_unclear {l_1 : Option Addr} {l_1n : Nat} {l_1c : Nat} {within_2 : Bool} {R : Ending → World → Prop} {w : World} (h : sh_ref12_unclear l_1 l_1n l_1c within_2 R w) : Calls Tryd.prog F_ref12_unclear ⟨[.slice l_1 l_1n l_1c, .bool within_2]⟩ w R := calls_of_fnV Tryd.func59 (by rw [e_ref12_unclear]; exact h)

def an_ref12_pairs : Ann := .two (.leaf) (.two (.leaf) (.two (.two (.leaf) (.one (.loop 2199023255512 [(3, .one (.slice)), (4, .one (.int .i64))] (.two (.two (.leaf) (.two (.leaf) (.leaf))) (.two (.one (.cut 8589930504 [(3, .one (.slice))] (.two (.leaf) (.two (.one (.leaf)) (.leaf))) (.leaf))) (.leaf)))))) (.two (.leaf) (.leaf))))
def sh_ref12_pairs (l_1 : Option Addr) (l_1n : Nat) (l_1c : Nat) (R : Ending → World → Prop) (w : World) : Prop :=
  al w 42 [] fun p2 w3 =>
  ∃ (I4 : Option Addr → Nat → Nat → Int → World → Nat → Prop), (∃ m9 : Nat, I4 (some p2) 0 0 0 w3 m9) ∧ ∀ (out_5 : Option Addr) (out_5n : Nat) (out_5c : Nat) (i_6 : Int) (w7 : World) (m8 : Nat), I4 out_5 out_5n out_5c i_6 w7 m8 → ∀ _ : Env, (br (decide ((i_6 : Int) < ((l_1n : Int)))) (∀ (K10 : Option Addr → Nat → Nat → World → Prop), (∀ (out_11 : Option Addr) (out_11n : Nat) (out_11c : Nat) (w12 : World), (∀ _ : Env, (idx l_1 l_1n i_6 4 fun p13 =>
  ∃ (x14 : Option Addr) (x14n : Nat) (x14c : Nat), World.cell? w12 (p13.add 3) = some (.slice x14 x14n x14c) ∧ (Calls Tryd.prog 60 ⟨[.slice x14 x14n x14c]⟩ w12 fun (e15 : Ending) (w16 : World) =>
  ∃ (x17 : Option Addr) (x17n : Nat) (x17c : Nat), e15 = .returned (.slice x17 x17n x17c) ∧ (app Tryd.prog [32, 32] 32 (.slice out_11 out_11n out_11c) (.slice x17 x17n x17c) w16 fun a18 a18n a18c w19 =>
  ∃ m20 : Nat, m20 < m8 ∧ I4 a18 a18n a18c (IntKind.i64.wrap (i_6 + 1)) w19 m20)))) → K10 out_11 out_11n out_11c w12) → (idx l_1 l_1n i_6 4 fun p21 =>
  ∃ (x22 : Int), World.cell? w7 (p21.add 0) = some (.int .i64 x22) ∧ (br (decide ((x22 : Int) = 10)) (drw w7 fun w23 =>
  idx l_1 l_1n i_6 4 fun p24 =>
  idx l_1 l_1n i_6 4 fun p25 =>
  ∃ (x26 : Option Addr) (x26n : Nat) (x26c : Nat), World.cell? w23 (p25.add 3) = some (.slice x26 x26n x26c) ∧ ((∃ (x27 : List UInt8), World.cell? w23 (p24.add 1) = some (.string ⟨⟨x27⟩⟩) ∧ ((Calls Tryd.prog 55 ⟨[.slice x26 x26n x26c]⟩ w23 fun (e28 : Ending) (w29 : World) =>
  ∃ (x30 : List UInt8), e28 = .returned (.string ⟨⟨x30⟩⟩) ∧ ((al w29 42 [.string ⟨⟨x27⟩⟩, .string ⟨⟨x30⟩⟩] fun p31 w32 =>
  (app Tryd.prog [32, 32] 32 (.slice out_5 out_5n out_5c) (.slice (some p31) 1 1) w32 fun a33 a33n a33c w34 =>
  K10 a33 a33n a33c w34) ∧ True) ∧ True)) ∧ True)) ∧ (Calls Tryd.prog 55 ⟨[.slice x26 x26n x26c]⟩ w23 fun (e35 : Ending) (w36 : World) =>
  ∃ (x37 : List UInt8), e35 = .returned (.string ⟨⟨x37⟩⟩) ∧ (∃ (x38 : List UInt8), World.cell? w36 (p24.add 1) = some (.string ⟨⟨x38⟩⟩) ∧ ((al w36 42 [.string ⟨⟨x38⟩⟩, .string ⟨⟨x37⟩⟩] fun p39 w40 =>
  (app Tryd.prog [32, 32] 32 (.slice out_5 out_5n out_5c) (.slice (some p39) 1 1) w40 fun a41 a41n a41c w42 =>
  K10 a41 a41n a41c w42) ∧ True) ∧ True))) ∧ True)) (K10 out_5 out_5n out_5c w7)))) (R (.returned (.slice out_5 out_5n out_5c)) w7))
set_option maxRecDepth 100000 in
theorem e_ref12_pairs (l_1 : Option Addr) (l_1n : Nat) (l_1c : Nat) (R : Ending → World → Prop) (w : World) : fnV Tryd.prog Tryd.f60 an_ref12_pairs [.slice l_1 l_1n l_1c] R w = sh_ref12_pairs l_1 l_1n l_1c R w := by kernel_rfl
theorem c_ref12_pairs {l_1 : Option Addr} {l_1n : Nat} {l_1c : Nat} {R : Ending → World → Prop} {w : World} (h : sh_ref12_pairs l_1 l_1n l_1c R w) : Calls Tryd.prog F_ref12_pairs ⟨[.slice l_1 l_1n l_1c]⟩ w R := calls_of_fnV Tryd.func60 (by rw [e_ref12_pairs]; exact h)

def an_strings_Builder_WriteString : Ann := .two (.leaf) (.two (.leaf) (.two (.leaf) (.two (.leaf) (.leaf))))
def sh_strings_Builder_WriteString (b_1 : Option Addr) (s_2 : List UInt8) (R : Ending → World → Prop) (w : World) : Prop :=
  Calls Tryd.prog 92 ⟨[.pointer b_1]⟩ w fun (e3 : Ending) (w4 : World) =>
  e3 = .returned (.tuple ⟨[]⟩) ∧ (dr b_1 fun p5 =>
  ∃ (x6 : Option Addr) (x6n : Nat) (x6c : Nat), World.cell? w4 (p5.add 1) = some (.slice x6 x6n x6c) ∧ (app Tryd.prog [82, 9] 82 (.slice x6 x6n x6c) (.string ⟨⟨s_2⟩⟩) w4 fun a7 a7n a7c w8 =>
  dr b_1 fun p9 =>
  stL w8 (p9.add 1) 0 [.slice a7 a7n a7c] fun w10 =>
  R (.returned (.tuple ⟨[.int .i64 ((List.length s_2 : Int)), .nilIface]⟩)) w10))
set_option maxRecDepth 100000 in
theorem e_strings_Builder_WriteString (b_1 : Option Addr) (s_2 : List UInt8) (R : Ending → World → Prop) (w : World) : fnV Tryd.prog Tryd.f61 an_strings_Builder_WriteString [.pointer b_1, .string ⟨⟨s_2⟩⟩] R w = sh_strings_Builder_WriteString b_1 s_2 R w := by kernel_rfl
theorem c_strings_Builder_WriteString {b_1 : Option Addr} {s_2 : List UInt8} {R : Ending → World → Prop} {w : World} (h : sh_strings_Builder_WriteString b_1 s_2 R w) : Calls Tryd.prog F_strings_Builder_WriteString ⟨[.pointer b_1, .string ⟨⟨s_2⟩⟩]⟩ w R := calls_of_fnV Tryd.func61 (by rw [e_strings_Builder_WriteString]; exact h)

def an_slices_DeleteFunc_of_string_string : Ann := .two (.leaf) (.two (.leaf) (.two (.two (.leaf) (.two (.two (.leaf) (.leaf)) (.leaf))) (.two (.two (.leaf) (.one (.loop 68719411424 [(5, .one (.int .i64)), (6, .one (.int .i64))] (.two (.two (.leaf) (.two (.leaf) (.leaf))) (.two (.one (.two (.leaf) (.two (.leaf) (.two (.two (.leaf) (.leaf)) (.leaf))))) (.leaf)))))) (.two (.leaf) (.two (.leaf) (.leaf))))))
def sh_slices_DeleteFunc_of_string_string (s_1 : Option Addr) (s_1n : Nat) (s_1c : Nat) (del_2 : Fn) (del_2a : Array Value) (del_2b : Array Value) (R : Ending → World → Prop) (w : World) : Prop :=
  Calls Tryd.prog 75 ⟨[.slice s_1 s_1n s_1c, .func del_2 del_2a del_2b]⟩ w fun (e3 : Ending) (w4 : World) =>
  ∃ (x5 : Int), e3 = .returned (.int .i64 x5) ∧ (br (decide ((x5 : Int) = ((-1)))) (R (.returned (.slice s_1 s_1n s_1c)) w4) (∃ (I6 : Int → Int → World → Nat → Prop), (∃ m11 : Nat, I6 x5 (IntKind.i64.wrap (x5 + 1)) w4 m11) ∧ ∀ (i_7 : Int) (j_8 : Int) (w9 : World) (m10 : Nat), I6 i_7 j_8 w9 m10 → ∀ _ : Env, (br (decide ((j_8 : Int) < ((s_1n : Int)))) (idx s_1 s_1n j_8 1 fun p12 =>
  ∃ (x13 : List UInt8), World.cell? w9 p12 = some (.string ⟨⟨x13⟩⟩) ∧ (CallV Tryd.prog (.func del_2 del_2a del_2b) [.string ⟨⟨x13⟩⟩] w9 fun (e14 : Ending) (w15 : World) =>
  ∃ (x16 : Bool), e14 = .returned (.bool x16) ∧ (br (!x16) (idx s_1 s_1n i_7 1 fun p17 =>
  stL w15 p17 0 [.string ⟨⟨x13⟩⟩] fun w18 =>
  ∃ m19 : Nat, m19 < m10 ∧ I6 (IntKind.i64.wrap (i_7 + 1)) (IntKind.i64.wrap (j_8 + 1)) w18 m19) (∃ m20 : Nat, m20 < m10 ∧ I6 i_7 (IntKind.i64.wrap (j_8 + 1)) w15 m20)))) (sls s_1 s_1c i_7 (s_1n : Int) 1 fun a21 a21n a21c =>
  clr Tryd.prog [38] 0 [.slice a21 a21n a21c] w9 fun w22 =>
  sls s_1 s_1c 0 i_7 1 fun a23 a23n a23c =>
  R (.returned (.slice a23 a23n a23c)) w22))))
set_option maxRecDepth 100000 in
theorem e_slices_DeleteFunc_of_string_string (s_1 : Option Addr) (s_1n : Nat) (s_1c : Nat) (del_2 : Fn) (del_2a : Array Value) (del_2b : Array Value) (R : Ending → World → Prop) (w : World) : fnV Tryd.prog Tryd.f63 an_slices_DeleteFunc_of_string_string [.slice s_1 s_1n s_1c, .func del_2 del_2a del_2b] R w = sh_slices_DeleteFunc_of_string_string s_1 s_1n s_1c del_2 del_2a del_2b R w := by kernel_rfl
theorem c_slices_DeleteFunc_of_string_string {s_1 : Option Addr} {s_1n : Nat} {s_1c : Nat} {del_2 : Fn} {del_2a : Array Value} {del_2b : Array Value} {R : Ending → World → Prop} {w : World} (h : sh_slices_DeleteFunc_of_string_string s_1 s_1n s_1c del_2 del_2a del_2b R w) : Calls Tryd.prog F_slices_DeleteFunc_of_string_string ⟨[.slice s_1 s_1n s_1c, .func del_2 del_2a del_2b]⟩ w R := calls_of_fnV Tryd.func63 (by rw [e_slices_DeleteFunc_of_string_string]; exact h)

def an_legibility_Conflicts_1 : Ann := .two (.leaf) (.two (.leaf) (.leaf))
def sh_legibility_Conflicts_1 (s_1 : List UInt8) (t1_2 : Option Addr) (R : Ending → World → Prop) (w : World) : Prop :=
  dr t1_2 fun p3 =>
  ∃ (x4 : Value), World.cell? w p3 = some (x4) ∧ (∃ (x5 : Bool), lkAt Tryd.prog 91 x4 (.string ⟨⟨s_1⟩⟩) w (.bool x5) ∧ (R (.returned (.bool (!x5))) w))
set_option maxRecDepth 100000 in
theorem e_legibility_Conflicts_1 (s_1 : List UInt8) (t1_2 : Option Addr) (R : Ending → World → Prop) (w : World) : fnV Tryd.prog Tryd.f64 an_legibility_Conflicts_1 [.string ⟨⟨s_1⟩⟩, .pointer t1_2] R w = sh_legibility_Conflicts_1 s_1 t1_2 R w := by kernel_rfl
theorem c_legibility_Conflicts_1 {s_1 : List UInt8} {t1_2 : Option Addr} {R : Ending → World → Prop} {w : World} (h : sh_legibility_Conflicts_1 s_1 t1_2 R w) : Calls Tryd.prog F_legibility_Conflicts_1 ⟨[.string ⟨⟨s_1⟩⟩, .pointer t1_2]⟩ w R := calls_of_fnV Tryd.func64 (by rw [e_legibility_Conflicts_1]; exact h)

def an_slices_Index_of_string_string : Ann := .two (.leaf) (.two (.two (.leaf) (.one (.loop 524080 [(8, .one (.int .i64))] (.two (.leaf) (.two (.two (.leaf) (.leaf)) (.two (.one (.two (.leaf) (.two (.leaf) (.two (.two (.leaf) (.leaf)) (.leaf))))) (.leaf))))))) (.two (.leaf) (.leaf)))
def sh_slices_Index_of_string_string (s_1 : Option Addr) (s_1n : Nat) (s_1c : Nat) (v_2 : List UInt8) (R : Ending → World → Prop) (w : World) : Prop :=
  ∃ (I3 : Int → World → Nat → Prop), (∃ m7 : Nat, I3 0 w m7) ∧ ∀ (t8_4 : Int) (w5 : World) (m6 : Nat), I3 t8_4 w5 m6 → ∀ _ : Env, (br (decide ((t8_4 : Int) < ((s_1n : Int)))) (idx s_1 s_1n t8_4 1 fun p8 =>
  ∃ (x9 : List UInt8), World.cell? w5 p8 = some (.string ⟨⟨x9⟩⟩) ∧ (br (decide ((v_2 : List UInt8) = x9)) (R (.returned (.int .i64 t8_4)) w5) (∃ m10 : Nat, m10 < m6 ∧ I3 (IntKind.i64.wrap (t8_4 + 1)) w5 m10))) (R (.returned (.int .i64 ((-1)))) w5))
set_option maxRecDepth 100000 in
theorem e_slices_Index_of_string_string (s_1 : Option Addr) (s_1n : Nat) (s_1c : Nat) (v_2 : List UInt8) (R : Ending → World → Prop) (w : World) : fnV Tryd.prog Tryd.f65 an_slices_Index_of_string_string [.slice s_1 s_1n s_1c, .string ⟨⟨v_2⟩⟩] R w = sh_slices_Index_of_string_string s_1 s_1n s_1c v_2 R w := by kernel_rfl
theorem c_slices_Index_of_string_string {s_1 : Option Addr} {s_1n : Nat} {s_1c : Nat} {v_2 : List UInt8} {R : Ending → World → Prop} {w : World} (h : sh_slices_Index_of_string_string s_1 s_1n s_1c v_2 R w) : Calls Tryd.prog F_slices_Index_of_string_string ⟨[.slice s_1 s_1n s_1c, .string ⟨⟨v_2⟩⟩]⟩ w R := calls_of_fnV Tryd.func65 (by rw [e_slices_Index_of_string_string]; exact h)

def an_slices_IndexFunc_of_api_Rewrite_api_Rewrite : Ann := .two (.leaf) (.two (.two (.leaf) (.one (.loop 524080 [(8, .one (.int .i64))] (.two (.leaf) (.two (.two (.leaf) (.leaf)) (.two (.one (.two (.leaf) (.two (.leaf) (.two (.two (.leaf) (.leaf)) (.leaf))))) (.leaf))))))) (.two (.leaf) (.leaf)))
def sh_slices_IndexFunc_of_api_Rewrite_api_Rewrite (s_1 : Option Addr) (s_1n : Nat) (s_1c : Nat) (f_2 : Fn) (f_2a : Array Value) (f_2b : Array Value) (R : Ending → World → Prop) (w : World) : Prop :=
  ∃ (I3 : Int → World → Nat → Prop), (∃ m7 : Nat, I3 0 w m7) ∧ ∀ (t8_4 : Int) (w5 : World) (m6 : Nat), I3 t8_4 w5 m6 → ∀ _ : Env, (br (decide ((t8_4 : Int) < ((s_1n : Int)))) (idx s_1 s_1n t8_4 2 fun p8 =>
  ∃ (x9 : List UInt8), World.cell? w5 (p8.add 0) = some (.string ⟨⟨x9⟩⟩) ∧ (∃ (x10 : List UInt8), World.cell? w5 (p8.add 1) = some (.string ⟨⟨x10⟩⟩) ∧ (CallV Tryd.prog (.func f_2 f_2a f_2b) [.agg ⟨[.string ⟨⟨x9⟩⟩, .string ⟨⟨x10⟩⟩]⟩] w5 fun (e11 : Ending) (w12 : World) =>
  ∃ (x13 : Bool), e11 = .returned (.bool x13) ∧ (br x13 (R (.returned (.int .i64 t8_4)) w12) (∃ m14 : Nat, m14 < m6 ∧ I3 (IntKind.i64.wrap (t8_4 + 1)) w12 m14))))) (R (.returned (.int .i64 ((-1)))) w5))
set_option maxRecDepth 100000 in
theorem e_slices_IndexFunc_of_api_Rewrite_api_Rewrite (s_1 : Option Addr) (s_1n : Nat) (s_1c : Nat) (f_2 : Fn) (f_2a : Array Value) (f_2b : Array Value) (R : Ending → World → Prop) (w : World) : fnV Tryd.prog Tryd.f66 an_slices_IndexFunc_of_api_Rewrite_api_Rewrite [.slice s_1 s_1n s_1c, .func f_2 f_2a f_2b] R w = sh_slices_IndexFunc_of_api_Rewrite_api_Rewrite s_1 s_1n s_1c f_2 f_2a f_2b R w := by kernel_rfl
theorem c_slices_IndexFunc_of_api_Rewrite_api_Rewrite {s_1 : Option Addr} {s_1n : Nat} {s_1c : Nat} {f_2 : Fn} {f_2a : Array Value} {f_2b : Array Value} {R : Ending → World → Prop} {w : World} (h : sh_slices_IndexFunc_of_api_Rewrite_api_Rewrite s_1 s_1n s_1c f_2 f_2a f_2b R w) : Calls Tryd.prog F_slices_IndexFunc_of_api_Rewrite_api_Rewrite ⟨[.slice s_1 s_1n s_1c, .func f_2 f_2a f_2b]⟩ w R := calls_of_fnV Tryd.func66 (by rw [e_slices_IndexFunc_of_api_Rewrite_api_Rewrite]; exact h)

def an_charset_IsWord : Ann := .two (.leaf) (.cut 65524 [] (.two (.leaf) (.two (.two (.leaf) (.leaf)) (.leaf))) (.cut 33488908 [] (.two (.leaf) (.two (.leaf) (.two (.two (.leaf) (.leaf)) (.leaf)))) (.two (.leaf) (.leaf))))
def sh_charset_IsWord (s_1 : List UInt8) (R : Ending → World → Prop) (w : World) : Prop :=
  ∀ (K2 : World → Prop), (∀  (w3 : World), (∀ _ : Env, (∀ (K4 : World → Prop), (∀  (w5 : World), (∀ _ : Env, (s2b Tryd.prog w5 5 s_1 fun a6 a6n a6c w7 =>
  Calls Tryd.prog 94 ⟨[.slice a6 a6n a6c, .func (.func 95) #[] #[]]⟩ w7 fun (e8 : Ending) (w9 : World) =>
  ∃ (x10 : Bool), e8 = .returned (.bool x10) ∧ (R (.returned (.bool (!x10))) w9))) → K4 w5) → (sidx s_1 0 fun b11 =>
  Calls Tryd.prog 93 ⟨[.int .u8 ((b11.toNat : Int))]⟩ w3 fun (e12 : Ending) (w13 : World) =>
  ∃ (x14 : Int), e12 = .returned (.int .i64 x14) ∧ (br (decide ((x14 : Int) ≠ 1)) (br (decide ((x14 : Int) ≠ 3)) (R (.returned (.bool false)) w13) (K4 w13)) (K4 w13))))) → K2 w3) → (br (decide ((s_1 : List UInt8) = ([]))) (R (.returned (.bool false)) w) (br (decide ((64 : Int) < ((List.length s_1 : Int)))) (R (.returned (.bool false)) w) (Calls Tryd.prog 68 ⟨[.string ⟨⟨s_1⟩⟩]⟩ w fun (e15 : Ending) (w16 : World) =>
  ∃ (x17 : Int), e15 = .returned (.int .i64 x17) ∧ (br (decide ((x17 : Int) ≠ 0)) (R (.returned (.bool false)) w16) (K2 w16)))))
set_option maxRecDepth 100000 in
theorem e_charset_IsWord (s_1 : List UInt8) (R : Ending → World → Prop) (w : World) : fnV Tryd.prog Tryd.f67 an_charset_IsWord [.string ⟨⟨s_1⟩⟩] R w = sh_charset_IsWord s_1 R w := by kernel_rfl
theorem c_charset_IsWord {s_1 : List UInt8} {R : Ending → World → Prop} {w : World} (h : sh_charset_IsWord s_1 R w) : Calls Tryd.prog F_charset_IsWord ⟨[.string ⟨⟨s_1⟩⟩]⟩ w R := calls_of_fnV Tryd.func67 (by rw [e_charset_IsWord]; exact h)

def an_charset_Check : Ann := .two (.leaf) (.two (.two (.leaf) (.two (.two (.leaf) (.leaf)) (.leaf))) (.two (.two (.leaf) (.one (.rf [2, 10] 0))) (.two (.leaf) (.leaf))))
def sh_charset_Check (s_1 : List UInt8) (R : Ending → World → Prop) (w : World) : Prop :=
  al w 25 [.int .i64 0] fun p2 w3 =>
  br (decide ((65536 : Int) < ((List.length s_1 : Int)))) (stL w3 p2 0 [.int .i64 4] fun w4 =>
  ∃ (x5 : Int), World.cell? w4 p2 = some (.int .i64 x5) ∧ (R (.returned (.int .i64 x5)) w4)) (Calls Tryd.prog 96 ⟨[.string ⟨⟨s_1⟩⟩]⟩ w3 fun (e6 : Ending) (w7 : World) =>
  ∃ (x8 : Fn) (x8a : Array Value) (x8b : Array Value), e6 = .returned (.func x8 x8a x8b) ∧ (∀ base9 : Env, RFw Tryd.prog none 22 (cdAt Tryd.f68 [1, 1, 0, 1, 2]) (upd (upd base9 10 (.func x8 x8a x8b)) 2 (.pointer (some p2))) [] w7 0 (fun ds10 w11 =>
  stL w11 p2 0 [.int .i64 0] fun w15 =>
  retD ds10 w15 fun w16 =>
  ∃ (x17 : Int), World.cell? w16 p2 = some (.int .i64 x17) ∧ (R (.returned (.int .i64 x17)) w16)) (fun ds10 w11 =>
  retD ds10 w11 fun w18 =>
  ∃ (x19 : Int), World.cell? w18 p2 = some (.int .i64 x19) ∧ (R (.returned (.int .i64 x19)) w18)) (fun ds10 w11 =>
  stL w11 p2 0 [.int .i64 0] fun w12 =>
  retD ds10 w12 fun w13 =>
  ∃ (x14 : Int), World.cell? w13 p2 = some (.int .i64 x14) ∧ (R (.returned (.int .i64 x14)) w13))))
set_option maxRecDepth 100000 in
theorem e_charset_Check (s_1 : List UInt8) (R : Ending → World → Prop) (w : World) : fnV Tryd.prog Tryd.f68 an_charset_Check [.string ⟨⟨s_1⟩⟩] R w = sh_charset_Check s_1 R w := by kernel_rfl
theorem c_charset_Check {s_1 : List UInt8} {R : Ending → World → Prop} {w : World} (h : sh_charset_Check s_1 R w) : Calls Tryd.prog F_charset_Check ⟨[.string ⟨⟨s_1⟩⟩]⟩ w R := calls_of_fnV Tryd.func68 (by rw [e_charset_Check]; exact h)
def anA_charset_Check_1 : Ann := .leaf
def anB_charset_Check_1 : Ann := .one (.two (.leaf) (.two (.leaf) (.two (.two (.leaf) (.leaf)) (.leaf))))
def rf_charset_Check_1 (t2_20 : Option Addr) (t10_21 : Fn) (t10_21a : Array Value) (t10_21b : Array Value) (t11_22 : Value) (t12_23 : List UInt8) (l : Nat) (Kn Kr Kx : World → World → Prop) (w : World) : Prop :=
  Ext w w ∧ ∀ w24 : World, Upd l w w24 → (sidx t12_23 0 fun b25 =>
  Calls Tryd.prog 93 ⟨[.int .u8 ((b25.toNat : Int))]⟩ w24 fun (e26 : Ending) (w27 : World) =>
  ∃ (x28 : Int), e26 = .returned (.int .i64 x28) ∧ (br (decide ((x28 : Int) = 0)) (dr t2_20 fun p30 =>
  stL w27 p30 0 [.int .i64 11] fun w29 =>
  Kr w24 w29) (br (decide ((x28 : Int) = 2)) (dr t2_20 fun p32 =>
  stL w27 p32 0 [.int .i64 11] fun w31 =>
  Kr w24 w31) (Kn w24 w27))))
set_option maxRecDepth 100000 in
theorem er_charset_Check_1 (base : Env) (t2_20 : Option Addr) (t10_21 : Fn) (t10_21a : Array Value) (t10_21b : Array Value) (t11_22 : Value) (t12_23 : List UInt8) (l : Nat) (Kn Kr Kx : World → World → Prop) (w : World) : fragV Tryd.prog 22 anA_charset_Check_1 anB_charset_Check_1 (cdAt Tryd.f68 [1, 1, 0, 1, 2, 5]) (cdAt Tryd.f68 [1, 1, 0, 1, 2, 6]) l 0 Kn Kr Kx (updPs [11, 12] [t11_22, .string ⟨⟨t12_23⟩⟩] (upd (upd base 10 (.func t10_21 t10_21a t10_21b)) 2 (.pointer t2_20))) w = rf_charset_Check_1 t2_20 t10_21 t10_21a t10_21b t11_22 t12_23 l Kn Kr Kx w := by kernel_rfl
theorem cd_charset_Check_1 : cdAt Tryd.f68 [1, 1, 0, 1, 2] = .rangeFunc (Operand.tmp 10) #[11, 12] (cdAt Tryd.f68 [1, 1, 0, 1, 2, 5]) (cdAt Tryd.f68 [1, 1, 0, 1, 2, 6]) := by kernel_rfl

def an_legibility_Expand_1 : Ann := .two (.leaf) (.two (.leaf) (.two (.two (.leaf) (.one (.loopD 129127209615478457216 [(15, .one (.int .i64))] (.two (.leaf) (.two (.two (.leaf) (.leaf)) (.two (.one (.two (.leaf) (.two (.two (.leaf) (.two (.cut 1069547520 [] (.two (.leaf) (.two (.leaf) (.leaf))) (.two (.leaf) (.leaf))) (.leaf))) (.two (.leaf) (.two (.leaf) (.two (.two (.leaf) (.one (.rf [1, 2, 4, 5, 8, 9, 13, 14, 15, 39] 0))) (.leaf))))))) (.leaf))))))) (.two (.leaf) (.leaf))))
def sh_legibility_Expand_1 (l_1 : Option Addr) (l_1n : Nat) (l_1c : Nat) (t1_2 : Option Addr) (t2_3 : Option Addr) (R : Ending → World → Prop) (w : World) : Prop :=
  al w 22 [.slice none 0 0] fun p4 w5 =>
  ∃ (I6 : Int → List Deferred → World → Nat → Prop), (∃ m11 : Nat, I6 0 [] w5 m11) ∧ ∀ (t15_7 : Int) (ds8 : List Deferred) (w9 : World) (m10 : Nat), I6 t15_7 ds8 w9 m10 → ∀ _ : Env, (br (decide ((t15_7 : Int) < ((l_1n : Int)))) (idx l_1 l_1n t15_7 4 fun p12 =>
  ∃ (x13 : Int), World.cell? w9 (p12.add 0) = some (.int .i64 x13) ∧ (∃ (x14 : List UInt8), World.cell? w9 (p12.add 1) = some (.string ⟨⟨x14⟩⟩) ∧ (∃ (x15 : Int), World.cell? w9 (p12.add 2) = some (.int .i64 x15) ∧ (∃ (x16 : Option Addr) (x16n : Nat) (x16c : Nat), World.cell? w9 (p12.add 3) = some (.slice x16 x16n x16c) ∧ (al w9 37 [.int .i64 0, .string ⟨⟨[]⟩⟩, .int .i64 0, .slice none 0 0] fun p17 w18 =>
  stL w18 p17 0 [.int .i64 x13, .string ⟨⟨x14⟩⟩, .int .i64 x15, .slice x16 x16n x16c] fun w19 =>
  ∃ (x20 : Int), World.cell? w19 (p17.add 0) = some (.int .i64 x20) ∧ (br (decide ((x20 : Int) ≠ 1)) (∀ (K21 : World → Prop), (∀  (w22 : World), (∀ _ : Env, (drw w22 fun w23 =>
  ∃ (x24 : Option Addr) (x24n : Nat) (x24c : Nat), World.cell? w23 p4 = some (.slice x24 x24n x24c) ∧ (∃ (x25 : Int), World.cell? w23 (p17.add 0) = some (.int .i64 x25) ∧ (∃ (x26 : List UInt8), World.cell? w23 (p17.add 1) = some (.string ⟨⟨x26⟩⟩) ∧ (∃ (x27 : Int), World.cell? w23 (p17.add 2) = some (.int .i64 x27) ∧ (∃ (x28 : Option Addr) (x28n : Nat) (x28c : Nat), World.cell? w23 (p17.add 3) = some (.slice x28 x28n x28c) ∧ ((al w23 37 [.int .i64 0, .string ⟨⟨[]⟩⟩, .int .i64 0, .slice none 0 0] fun p29 w30 =>
  (app Tryd.prog [22, 22] 22 (.slice x24 x24n x24c) (.slice (some p29) 1 1) w30 fun a31 a31n a31c w32 =>
  idx a31 a31n ((x24n : Int)) 4 fun p33 =>
  (stL w32 p33 0 [.int .i64 x25, .string ⟨⟨x26⟩⟩, .int .i64 x27, .slice x28 x28n x28c] fun w34 =>
  (stL w34 p4 0 [.slice a31 a31n a31c] fun w35 =>
  ∃ m36 : Nat, m36 < m10 ∧ I6 (IntKind.i64.wrap (t15_7 + 1)) ds8 w35 m36) ∧ True) ∧ (stL w32 p4 0 [.slice a31 a31n a31c] fun w37 =>
  (stL w37 p33 0 [.int .i64 x25, .string ⟨⟨x26⟩⟩, .int .i64 x27, .slice x28 x28n x28c] fun w38 =>
  ∃ m39 : Nat, m39 < m10 ∧ I6 (IntKind.i64.wrap (t15_7 + 1)) ds8 w38 m39) ∧ True) ∧ True) ∧ True) ∧ True))))))) → K21 w22) → (∃ (x40 : Int), World.cell? w19 (p17.add 0) = some (.int .i64 x40) ∧ (br (decide ((x40 : Int) ≠ 10)) (dr t1_2 fun p41 =>
  ∃ (x42 : Fn) (x42a : Array Value) (x42b : Array Value), World.cell? w19 p41 = some (.func x42 x42a x42b) ∧ (∃ (x43 : Option Addr) (x43n : Nat) (x43c : Nat), World.cell? w19 (p17.add 3) = some (.slice x43 x43n x43c) ∧ (CallV Tryd.prog (.func x42 x42a x42b) [.slice x43 x43n x43c] w19 fun (e44 : Ending) (w45 : World) =>
  ∃ (x46 : Option Addr) (x46n : Nat) (x46c : Nat), e44 = .returned (.slice x46 x46n x46c) ∧ (stL w45 (p17.add 3) 0 [.slice x46 x46n x46c] fun w47 =>
  K21 w47)))) (K21 w19)))) (al w19 9 [.string ⟨⟨[]⟩⟩] fun p48 w49 =>
  stL w49 p48 0 [.string ⟨⟨[]⟩⟩] fun w50 =>
  al w50 1 [.nilFunc] fun p51 w52 =>
  stL w52 p51 0 [.func (.func 70) ⟨[]⟩ ⟨[.pointer (some p48), .pointer (some p4)]⟩] fun w53 =>
  ∃ (x54 : List UInt8), World.cell? w53 (p17.add 1) = some (.string ⟨⟨x54⟩⟩) ∧ (Calls Tryd.prog 71 ⟨[.string ⟨⟨x54⟩⟩]⟩ w53 fun (e55 : Ending) (w56 : World) =>
  ∃ (x57 : Fn) (x57a : Array Value) (x57b : Array Value), e55 = .returned (.func x57 x57a x57b) ∧ (∀ base58 : Env, RFw Tryd.prog none 68 (cdAt Tryd.f69 [1, 1, 0, 1, 2, 2, 1, 1, 0, 2, 1, 1, 1, 1, 0, 1, 2]) (upd (upd (upd (upd (upd (upd (upd (upd (upd (upd base58 39 (.func x57 x57a x57b)) 15 (.int .i64 t15_7)) 14 (.int .i64 ((l_1n : Int)))) 13 (.slice l_1 l_1n l_1c)) 9 (.pointer (some p51))) 8 (.pointer (some p48))) 5 (.pointer (some p4))) 4 (.slice none 0 0)) 2 (.pointer t2_3)) 1 (.pointer t1_2)) ds8 w56 0 (fun ds59 w60 =>
  ∃ (x63 : Fn) (x63a : Array Value) (x63b : Array Value), World.cell? w60 p51 = some (.func x63 x63a x63b) ∧ (CallV Tryd.prog (.func x63 x63a x63b) [] w60 fun (e64 : Ending) (w65 : World) =>
  e64 = .returned (.tuple ⟨[]⟩) ∧ (∃ m66 : Nat, m66 < m10 ∧ I6 (IntKind.i64.wrap (t15_7 + 1)) ds59 w65 m66))) (fun ds59 w60 =>
  retD ds59 w60 fun w67 =>
  R (.returned (.slice none 0 0)) w67) (fun ds59 w60 =>
  ∃ (x61 : Option Addr) (x61n : Nat) (x61c : Nat), World.cell? w60 p4 = some (.slice x61 x61n x61c) ∧ (retD ds59 w60 fun w62 =>
  R (.returned (.slice x61 x61n x61c)) w62))))))))))) (∃ (x68 : Option Addr) (x68n : Nat) (x68c : Nat), World.cell? w9 p4 = some (.slice x68 x68n x68c) ∧ (retD ds8 w9 fun w69 =>
  R (.returned (.slice x68 x68n x68c)) w69)))
set_option maxRecDepth 100000 in
theorem e_legibility_Expand_1 (l_1 : Option Addr) (l_1n : Nat) (l_1c : Nat) (t1_2 : Option Addr) (t2_3 : Option Addr) (R : Ending → World → Prop) (w : World) : fnV Tryd.prog Tryd.f69 an_legibility_Expand_1 [.slice l_1 l_1n l_1c, .pointer t1_2, .pointer t2_3] R w = sh_legibility_Expand_1 l_1 l_1n l_1c t1_2 t2_3 R w := by kernel_rfl
theorem c_legibility_Expand_1 {l_1 : Option Addr} {l_1n : Nat} {l_1c : Nat} {t1_2 : Option Addr} {t2_3 : Option Addr} {R : Ending → World → Prop} {w : World} (h : sh_legibility_Expand_1 l_1 l_1n l_1c t1_2 t2_3 R w) : Calls Tryd.prog F_legibility_Expand_1 ⟨[.slice l_1 l_1n l_1c, .pointer t1_2, .pointer t2_3]⟩ w R := calls_of_fnV Tryd.func69 (by rw [e_legibility_Expand_1]; exact h)
def anA_legibility_Expand_1_1 : Ann := .leaf
def anB_legibility_Expand_1_1 : Ann := .one (.two (.leaf) (.two (.two (.leaf) (.two (.two (.leaf) (.leaf)) (.leaf))) (.two (.leaf) (.one (.leaf)))))
def rf_legibility_Expand_1_1 (t1_70 : Option Addr) (t2_71 : Option Addr) (t4_72 : Option Addr) (t4_72n : Nat) (t4_72c : Nat) (out_73 : Option Addr) (rest_74 : Option Addr) (flush_75 : Option Addr) (t13_76 : Option Addr) (t13_76n : Nat) (t13_76c : Nat) (t14_77 : Int) (t15_78 : Int) (t39_79 : Fn) (t39_79a : Array Value) (t39_79b : Array Value) (t40_80 : List UInt8) (l : Nat) (Kn Kr Kx : World → World → Prop) (w : World) : Prop :=
  Ext w w ∧ ∀ w81 : World, Upd l w w81 → (dr t2_71 fun p82 =>
  ∃ (x83 : Value), World.cell? w81 p82 = some (x83) ∧ (∃ (x84 : List UInt8), ∃ (b85 : Bool), lkAt2 Tryd.prog 90 x83 (.string ⟨⟨t40_80⟩⟩) w81 (.string ⟨⟨x84⟩⟩) b85 ∧ (br (!b85) (dr rest_74 fun p86 =>
  ∃ (x87 : List UInt8), World.cell? w81 p86 = some (.string ⟨⟨x87⟩⟩) ∧ (sadd x87 t40_80 fun s88 =>
  dr rest_74 fun p90 =>
  stL w81 p90 0 [.string ⟨⟨s88⟩⟩] fun w89 =>
  Kn w81 w89)) (dr flush_75 fun p91 =>
  ∃ (x92 : Fn) (x92a : Array Value) (x92b : Array Value), World.cell? w81 p91 = some (.func x92 x92a x92b) ∧ (CallV Tryd.prog (.func x92 x92a x92b) [] w81 fun (e93 : Ending) (w94 : World) =>
  e93 = .returned (.tuple ⟨[]⟩) ∧ (drw w94 fun w95 =>
  dr out_73 fun p96 =>
  ∃ (x97 : Option Addr) (x97n : Nat) (x97c : Nat), World.cell? w95 p96 = some (.slice x97 x97n x97c) ∧ ((al w95 37 [.int .i64 1, .string ⟨⟨x84⟩⟩, .int .i64 0, .slice none 0 0] fun p98 w99 =>
  (al w99 37 [.int .i64 0, .string ⟨⟨[]⟩⟩, .int .i64 0, .slice none 0 0] fun p100 w101 =>
  (app Tryd.prog [22, 22] 22 (.slice x97 x97n x97c) (.slice (some p100) 1 1) w101 fun a102 a102n a102c w103 =>
  idx a102 a102n ((x97n : Int)) 4 fun p104 =>
  (stL w103 p104 0 [.int .i64 10, .string ⟨⟨t40_80⟩⟩, .int .i64 0, .slice (some p98) 1 1] fun w105 =>
  (dr out_73 fun p107 =>
  stL w105 p107 0 [.slice a102 a102n a102c] fun w106 =>
  Kn w81 w106) ∧ True) ∧ (dr out_73 fun p109 =>
  stL w103 p109 0 [.slice a102 a102n a102c] fun w108 =>
  (stL w108 p104 0 [.int .i64 10, .string ⟨⟨t40_80⟩⟩, .int .i64 0, .slice (some p98) 1 1] fun w110 =>
  Kn w81 w110) ∧ True) ∧ True) ∧ True) ∧ True) ∧ (al w95 37 [.int .i64 0, .string ⟨⟨[]⟩⟩, .int .i64 0, .slice none 0 0] fun p111 w112 =>
  (al w112 37 [.int .i64 1, .string ⟨⟨x84⟩⟩, .int .i64 0, .slice none 0 0] fun p113 w114 =>
  (app Tryd.prog [22, 22] 22 (.slice x97 x97n x97c) (.slice (some p111) 1 1) w114 fun a115 a115n a115c w116 =>
  idx a115 a115n ((x97n : Int)) 4 fun p117 =>
  (stL w116 p117 0 [.int .i64 10, .string ⟨⟨t40_80⟩⟩, .int .i64 0, .slice (some p113) 1 1] fun w118 =>
  (dr out_73 fun p120 =>
  stL w118 p120 0 [.slice a115 a115n a115c] fun w119 =>
  Kn w81 w119) ∧ True) ∧ (dr out_73 fun p122 =>
  stL w116 p122 0 [.slice a115 a115n a115c] fun w121 =>
  (stL w121 p117 0 [.int .i64 10, .string ⟨⟨t40_80⟩⟩, .int .i64 0, .slice (some p113) 1 1] fun w123 =>
  Kn w81 w123) ∧ True) ∧ True) ∧ True) ∧ True) ∧ True)))))))
set_option maxRecDepth 100000 in
theorem er_legibility_Expand_1_1 (base : Env) (t1_70 : Option Addr) (t2_71 : Option Addr) (t4_72 : Option Addr) (t4_72n : Nat) (t4_72c : Nat) (out_73 : Option Addr) (rest_74 : Option Addr) (flush_75 : Option Addr) (t13_76 : Option Addr) (t13_76n : Nat) (t13_76c : Nat) (t14_77 : Int) (t15_78 : Int) (t39_79 : Fn) (t39_79a : Array Value) (t39_79b : Array Value) (t40_80 : List UInt8) (l : Nat) (Kn Kr Kx : World → World → Prop) (w : World) : fragV Tryd.prog 68 anA_legibility_Expand_1_1 anB_legibility_Expand_1_1 (cdAt Tryd.f69 [1, 1, 0, 1, 2, 2, 1, 1, 0, 2, 1, 1, 1, 1, 0, 1, 2, 5]) (cdAt Tryd.f69 [1, 1, 0, 1, 2, 2, 1, 1, 0, 2, 1, 1, 1, 1, 0, 1, 2, 6]) l 0 Kn Kr Kx (updPs [40] [.string ⟨⟨t40_80⟩⟩] (upd (upd (upd (upd (upd (upd (upd (upd (upd (upd base 39 (.func t39_79 t39_79a t39_79b)) 15 (.int .i64 t15_78)) 14 (.int .i64 t14_77)) 13 (.slice t13_76 t13_76n t13_76c)) 9 (.pointer flush_75)) 8 (.pointer rest_74)) 5 (.pointer out_73)) 4 (.slice t4_72 t4_72n t4_72c)) 2 (.pointer t2_71)) 1 (.pointer t1_70))) w = rf_legibility_Expand_1_1 t1_70 t2_71 t4_72 t4_72n t4_72c out_73 rest_74 flush_75 t13_76 t13_76n t13_76c t14_77 t15_78 t39_79 t39_79a t39_79b t40_80 l Kn Kr Kx w := by kernel_rfl
theorem cd_legibility_Expand_1_1 : cdAt Tryd.f69 [1, 1, 0, 1, 2, 2, 1, 1, 0, 2, 1, 1, 1, 1, 0, 1, 2] = .rangeFunc (Operand.tmp 39) #[40] (cdAt Tryd.f69 [1, 1, 0, 1, 2, 2, 1, 1, 0, 2, 1, 1, 1, 1, 0, 1, 2, 5]) (cdAt Tryd.f69 [1, 1, 0, 1, 2, 2, 1, 1, 0, 2, 1, 1, 1, 1, 0, 1, 2, 6]) := by kernel_rfl

def an_legibility_Expand_1_1 : Ann := .two (.two (.leaf) (.two (.leaf) (.leaf))) (.leaf)
def sh_legibility_Expand_1_1 (t0_1 : Option Addr) (t1_2 : Option Addr) (R : Ending → World → Prop) (w : World) : Prop :=
  dr t0_1 fun p3 =>
  ∃ (x4 : List UInt8), World.cell? w p3 = some (.string ⟨⟨x4⟩⟩) ∧ (br (decide ((x4 : List UInt8) ≠ ([]))) (drw w fun w5 =>
  dr t1_2 fun p6 =>
  ∃ (x7 : Option Addr) (x7n : Nat) (x7c : Nat), World.cell? w5 p6 = some (.slice x7 x7n x7c) ∧ (dr t0_1 fun p8 =>
  ∃ (x9 : List UInt8), World.cell? w5 p8 = some (.string ⟨⟨x9⟩⟩) ∧ ((al w5 37 [.int .i64 0, .string ⟨⟨[]⟩⟩, .int .i64 0, .slice none 0 0] fun p10 w11 =>
  (app Tryd.prog [22, 22] 22 (.slice x7 x7n x7c) (.slice (some p10) 1 1) w11 fun a12 a12n a12c w13 =>
  idx a12 a12n ((x7n : Int)) 4 fun p14 =>
  (stL w13 p14 0 [.int .i64 1, .string ⟨⟨x9⟩⟩, .int .i64 0, .slice none 0 0] fun w15 =>
  (dr t1_2 fun p17 =>
  stL w15 p17 0 [.slice a12 a12n a12c] fun w16 =>
  dr t0_1 fun p19 =>
  stL w16 p19 0 [.string ⟨⟨[]⟩⟩] fun w18 =>
  R (.returned (.tuple ⟨[]⟩)) w18) ∧ True) ∧ (dr t1_2 fun p21 =>
  stL w13 p21 0 [.slice a12 a12n a12c] fun w20 =>
  (stL w20 p14 0 [.int .i64 1, .string ⟨⟨x9⟩⟩, .int .i64 0, .slice none 0 0] fun w22 =>
  dr t0_1 fun p24 =>
  stL w22 p24 0 [.string ⟨⟨[]⟩⟩] fun w23 =>
  R (.returned (.tuple ⟨[]⟩)) w23) ∧ True) ∧ True) ∧ True) ∧ True))) (dr t0_1 fun p26 =>
  stL w p26 0 [.string ⟨⟨[]⟩⟩] fun w25 =>
  R (.returned (.tuple ⟨[]⟩)) w25))
set_option maxRecDepth 100000 in
theorem e_legibility_Expand_1_1 (t0_1 : Option Addr) (t1_2 : Option Addr) (R : Ending → World → Prop) (w : World) : fnV Tryd.prog Tryd.f70 an_legibility_Expand_1_1 [.pointer t0_1, .pointer t1_2] R w = sh_legibility_Expand_1_1 t0_1 t1_2 R w := by kernel_rfl
theorem c_legibility_Expand_1_1 {t0_1 : Option Addr} {t1_2 : Option Addr} {R : Ending → World → Prop} {w : World} (h : sh_legibility_Expand_1_1 t0_1 t1_2 R w) : Calls Tryd.prog F_legibility_Expand_1_1 ⟨[.pointer t0_1, .pointer t1_2]⟩ w R := calls_of_fnV Tryd.func70 (by rw [e_legibility_Expand_1_1]; exact h)

def an_legibility_parts : Ann := .two (.leaf) (.two (.leaf) (.leaf))
def sh_legibility_parts (s_1 : List UInt8) (R : Ending → World → Prop) (w : World) : Prop :=
  al w 9 [.string ⟨⟨s_1⟩⟩] fun p2 w3 =>
  R (.returned (.func (.func 97) ⟨[]⟩ ⟨[.pointer (some p2)]⟩)) w3
set_option maxRecDepth 100000 in
theorem e_legibility_parts (s_1 : List UInt8) (R : Ending → World → Prop) (w : World) : fnV Tryd.prog Tryd.f71 an_legibility_parts [.string ⟨⟨s_1⟩⟩] R w = sh_legibility_parts s_1 R w := by kernel_rfl
theorem c_legibility_parts {s_1 : List UInt8} {R : Ending → World → Prop} {w : World} (h : sh_legibility_parts s_1 R w) : Calls Tryd.prog F_legibility_parts ⟨[.string ⟨⟨s_1⟩⟩]⟩ w R := calls_of_fnV Tryd.func71 (by rw [e_legibility_parts]; exact h)

def an_transcript_Check_1 : Ann := .two (.leaf) (.two (.leaf) (.two (.leaf) (.leaf)))
def sh_transcript_Check_1 (t0_1 : Option Addr) (R : Ending → World → Prop) (w : World) : Prop :=
  dr t0_1 fun p2 =>
  ∃ (x3 : Int), World.cell? w p2 = some (.int .i64 x3) ∧ (dr t0_1 fun p5 =>
  stL w p5 0 [.int .i64 (IntKind.i64.wrap (x3 - 1))] fun w4 =>
  dr t0_1 fun p6 =>
  ∃ (x7 : Int), World.cell? w4 p6 = some (.int .i64 x7) ∧ (R (.returned (.bool (decide ((0 : Int) ≤ x7)))) w4))
set_option maxRecDepth 100000 in
theorem e_transcript_Check_1 (t0_1 : Option Addr) (R : Ending → World → Prop) (w : World) : fnV Tryd.prog Tryd.f72 an_transcript_Check_1 [.pointer t0_1] R w = sh_transcript_Check_1 t0_1 R w := by kernel_rfl
theorem c_transcript_Check_1 {t0_1 : Option Addr} {R : Ending → World → Prop} {w : World} (h : sh_transcript_Check_1 t0_1 R w) : Calls Tryd.prog F_transcript_Check_1 ⟨[.pointer t0_1]⟩ w R := calls_of_fnV Tryd.func72 (by rw [e_transcript_Check_1]; exact h)

def an_transcript_right : Ann := .two (.leaf) (.two (.leaf) (.cut 65284 [] (.two (.leaf) (.two (.two (.leaf) (.leaf)) (.leaf))) (.two (.leaf) (.two (.leaf) (.two (.one (.cut 9007199246352384 [(23, .one (.bool))] (.leaf) (.two (.two (.leaf) (.leaf)) (.cut 4722357475670390472704 [(53, .one (.bool))] (.leaf) (.two (.two (.leaf) (.leaf)) (.cut 4830980911975647053611008 [(72, .one (.bool))] (.leaf) (.two (.two (.leaf) (.leaf)) (.cut 1298074209798003628674107383480320 [(82, .one (.bool))] (.cut 4946924453863062582897672192 [(82, .one (.bool))] (.leaf) (.two (.leaf) (.leaf))) (.two (.two (.leaf) (.leaf)) (.cut 43556141667805908689605042618642248761344 [(110, .one (.bool))] (.cut 331008924731595261318819140987781120 [(110, .one (.bool))] (.leaf) (.two (.leaf) (.cut 20936639007827058705142093823497732096 [(110, .one (.bool))] (.leaf) (.two (.leaf) (.leaf))))) (.two (.two (.leaf) (.leaf)) (.cut 11106816456299431447444547186572914421923840 [(135, .one (.bool))] (.leaf) (.two (.two (.leaf) (.leaf)) (.two (.leaf) (.two (.two (.leaf) (.leaf)) (.leaf)))))))))))))))) (.two (.leaf) (.leaf)))))))
def sh_transcript_right (p_1 : Int) (p_2 : List UInt8) (p_3 : Int) (p_4 : Option Addr) (p_4n : Nat) (p_4c : Nat) (p_5 : Int) (p_6 : Bool) (R : Ending → World → Prop) (w : World) : Prop :=
  al w 72 [.int .i64 p_1, .string ⟨⟨p_2⟩⟩, .int .i64 p_3, .slice p_4 p_4n p_4c, .int .i64 p_5, .bool p_6] fun p7 w8 =>
  ∃ (x9 : Int), World.cell? w8 ((p7.add 0).add 0) = some (.int .i64 x9) ∧ (∃ (x10 : List UInt8), World.cell? w8 ((p7.add 0).add 1) = some (.string ⟨⟨x10⟩⟩) ∧ (∃ (x11 : Int), World.cell? w8 ((p7.add 0).add 2) = some (.int .i64 x11) ∧ (∃ (x12 : Option Addr) (x12n : Nat) (x12c : Nat), World.cell? w8 ((p7.add 0).add 3) = some (.slice x12 x12n x12c) ∧ (al w8 37 [.int .i64 0, .string ⟨⟨[]⟩⟩, .int .i64 0, .slice none 0 0] fun p13 w14 =>
  stL w14 p13 0 [.int .i64 x9, .string ⟨⟨x10⟩⟩, .int .i64 x11, .slice x12 x12n x12c] fun w15 =>
  ∀ (K16 : World → Prop), (∀  (w17 : World), (∀ _ : Env, (∃ (x18 : Int), World.cell? w17 (p13.add 0) = some (.int .i64 x18) ∧ (idx (some (⟨0, 0, none⟩)) 12 x18 4 fun p19 =>
  ∃ (x20 : List UInt8), World.cell? w17 (p19.add 0) = some (.string ⟨⟨x20⟩⟩) ∧ (∃ (x21 : Bool), World.cell? w17 (p19.add 1) = some (.bool x21) ∧ (∃ (x22 : Bool), World.cell? w17 (p19.add 2) = some (.bool x22) ∧ (∃ (x23 : Bool), World.cell? w17 (p19.add 3) = some (.bool x23) ∧ (al w17 123 [.string ⟨⟨[]⟩⟩, .bool false, .bool false, .bool false] fun p24 w25 =>
  stL w25 p24 0 [.string ⟨⟨x20⟩⟩, .bool x21, .bool x22, .bool x23] fun w26 =>
  ∃ (x27 : Int), World.cell? w26 (p13.add 0) = some (.int .i64 x27) ∧ (∀ (K28 : Bool → World → Prop), (∀ (t23_29 : Bool) (w30 : World), (∀ _ : Env, (br t23_29 (R (.returned (.int .i64 8)) w30) (∀ (K31 : Bool → World → Prop), (∀ (t53_32 : Bool) (w33 : World), (∀ _ : Env, (br t53_32 (R (.returned (.int .i64 5)) w33) (∀ (K34 : Bool → World → Prop), (∀ (t72_35 : Bool) (w36 : World), (∀ _ : Env, (br t72_35 (R (.returned (.int .i64 11)) w36) (∀ (K37 : Bool → World → Prop), (∀ (t82_38 : Bool) (w39 : World), (∀ _ : Env, (br t82_38 (R (.returned (.int .i64 14)) w39) (∀ (K40 : Bool → World → Prop), (∀ (t110_41 : Bool) (w42 : World), (∀ _ : Env, (br t110_41 (R (.returned (.int .i64 2)) w42) (∀ (K43 : Bool → World → Prop), (∀ (t135_44 : Bool) (w45 : World), (∀ _ : Env, (br t135_44 (R (.returned (.int .i64 10)) w45) (∃ (x46 : Int), World.cell? w45 (p13.add 0) = some (.int .i64 x46) ∧ (br (decide ((x46 : Int) = 4)) (∃ (x47 : Int), World.cell? w45 (p7.add 4) = some (.int .i64 x47) ∧ (br (decide ((0 : Int) < x47)) (R (.returned (.int .i64 12)) w45) (R (.returned (.int .i64 0)) w45))) (R (.returned (.int .i64 0)) w45))))) → K43 t135_44 w45) → (∃ (x48 : Int), World.cell? w42 (p13.add 0) = some (.int .i64 x48) ∧ (br (decide ((x48 : Int) = 1)) (∃ (x49 : Bool), World.cell? w42 (p7.add 5) = some (.bool x49) ∧ (K43 x49 w42)) (K43 false w42)))))) → K40 t110_41 w42) → (∀ (K50 : Bool → World → Prop), (∀ (t110_51 : Bool) (w52 : World), (∀ _ : Env, (br t110_51 (K40 t110_51 w52) (∀ (K53 : Bool → World → Prop), (∀ (t110_54 : Bool) (w55 : World), (∀ _ : Env, (br t110_54 (K40 t110_54 w55) (∃ (x56 : Bool), World.cell? w55 (p24.add 2) = some (.bool x56) ∧ (br x56 (br (!(decide ((x27 : Int) = 6))) (∃ (x57 : Int), World.cell? w55 (p13.add 2) = some (.int .i64 x57) ∧ (K40 (decide ((8 : Int) < x57)) w55)) (K40 false w55)) (K40 false w55))))) → K53 t110_54 w55) → (br (decide ((x27 : Int) = 6)) (∃ (x58 : Int), World.cell? w52 (p13.add 2) = some (.int .i64 x58) ∧ (K53 (decide ((64 : Int) < x58)) w52)) (K53 false w52))))) → K50 t110_51 w52) → (∃ (x59 : Bool), World.cell? w39 (p24.add 2) = some (.bool x59) ∧ (br x59 (∃ (x60 : Int), World.cell? w39 (p13.add 2) = some (.int .i64 x60) ∧ (K50 (decide ((x60 : Int) < 1)) w39)) (K50 false w39))))))) → K37 t82_38 w39) → (∀ (K61 : Bool → World → Prop), (∀ (t82_62 : Bool) (w63 : World), (∀ _ : Env, (br t82_62 (K37 t82_62 w63) (∃ (x64 : Bool), World.cell? w63 (p24.add 1) = some (.bool x64) ∧ (br x64 (∃ (x65 : Int), World.cell? w63 (p13.add 0) = some (.int .i64 x65) ∧ (br (decide ((x65 : Int) ≠ 1)) (∃ (x66 : Int), World.cell? w63 (p13.add 0) = some (.int .i64 x66) ∧ (br (decide ((x66 : Int) ≠ 10)) (∃ (x67 : List UInt8), World.cell? w63 (p13.add 1) = some (.string ⟨⟨x67⟩⟩) ∧ (Calls Tryd.prog 99 ⟨[.string ⟨⟨x67⟩⟩]⟩ w63 fun (e68 : Ending) (w69 : World) =>
  ∃ (x70 : Bool), e68 = .returned (.bool x70) ∧ (K37 (!x70) w69))) (K37 false w63))) (K37 false w63))) (K37 false w63))))) → K61 t82_62 w63) → (∃ (x71 : Int), World.cell? w36 (p13.add 0) = some (.int .i64 x71) ∧ (br (decide ((x71 : Int) = 10)) (∃ (x72 : List UInt8), World.cell? w36 (p13.add 1) = some (.string ⟨⟨x72⟩⟩) ∧ (Calls Tryd.prog 67 ⟨[.string ⟨⟨x72⟩⟩]⟩ w36 fun (e73 : Ending) (w74 : World) =>
  ∃ (x75 : Bool), e73 = .returned (.bool x75) ∧ (K61 (!x75) w74))) (K61 false w36))))))) → K34 t72_35 w36) → (∃ (x76 : Int), World.cell? w33 (p13.add 0) = some (.int .i64 x76) ∧ (br (decide ((x76 : Int) = 1)) (∃ (x77 : List UInt8), World.cell? w33 (p13.add 1) = some (.string ⟨⟨x77⟩⟩) ∧ (Calls Tryd.prog 68 ⟨[.string ⟨⟨x77⟩⟩]⟩ w33 fun (e78 : Ending) (w79 : World) =>
  ∃ (x80 : Int), e78 = .returned (.int .i64 x80) ∧ (K34 (decide ((x80 : Int) ≠ 0)) w79))) (K34 false w33)))))) → K31 t53_32 w33) → (∃ (x81 : Int), World.cell? w30 (p13.add 0) = some (.int .i64 x81) ∧ (br (decide ((x81 : Int) = 1)) (∃ (x82 : List UInt8), World.cell? w30 (p13.add 1) = some (.string ⟨⟨x82⟩⟩) ∧ (br (decide ((x82 : List UInt8) = ([]))) (K31 true w30) (∃ (x83 : Bool), World.cell? w30 (p24.add 3) = some (.bool x83) ∧ (br x83 (∃ (x84 : Option Addr) (x84n : Nat) (x84c : Nat), World.cell? w30 (p13.add 3) = some (.slice x84 x84n x84c) ∧ (K31 (decide ((((x84n : Int)) : Int) = 0)) w30)) (K31 false w30))))) (∃ (x85 : Bool), World.cell? w30 (p24.add 3) = some (.bool x85) ∧ (br x85 (∃ (x86 : Option Addr) (x86n : Nat) (x86c : Nat), World.cell? w30 (p13.add 3) = some (.slice x86 x86n x86c) ∧ (K31 (decide ((((x86n : Int)) : Int) = 0)) w30)) (K31 false w30)))))))) → K28 t23_29 w30) → (∃ (x87 : Bool), World.cell? w26 (p24.add 1) = some (.bool x87) ∧ (br (!x87) (∃ (x88 : List UInt8), World.cell? w26 (p13.add 1) = some (.string ⟨⟨x88⟩⟩) ∧ (br (decide ((x88 : List UInt8) ≠ ([]))) (K28 true w26) (∃ (x89 : Bool), World.cell? w26 (p24.add 2) = some (.bool x89) ∧ (br (!x89) (∃ (x90 : Int), World.cell? w26 (p13.add 2) = some (.int .i64 x90) ∧ (br (decide ((x90 : Int) ≠ 0)) (K28 true w26) (∃ (x91 : Bool), World.cell? w26 (p24.add 3) = some (.bool x91) ∧ (br (!x91) (∃ (x92 : Option Addr) (x92n : Nat) (x92c : Nat), World.cell? w26 (p13.add 3) = some (.slice x92 x92n x92c) ∧ (K28 (decide ((0 : Int) < ((x92n : Int)))) w26)) (K28 false w26))))) (∃ (x93 : Bool), World.cell? w26 (p24.add 3) = some (.bool x93) ∧ (br (!x93) (∃ (x94 : Option Addr) (x94n : Nat) (x94c : Nat), World.cell? w26 (p13.add 3) = some (.slice x94 x94n x94c) ∧ (K28 (decide ((0 : Int) < ((x94n : Int)))) w26)) (K28 false w26))))))) (∃ (x95 : Bool), World.cell? w26 (p24.add 2) = some (.bool x95) ∧ (br (!x95) (∃ (x96 : Int), World.cell? w26 (p13.add 2) = some (.int .i64 x96) ∧ (br (decide ((x96 : Int) ≠ 0)) (K28 true w26) (∃ (x97 : Bool), World.cell? w26 (p24.add 3) = some (.bool x97) ∧ (br (!x97) (∃ (x98 : Option Addr) (x98n : Nat) (x98c : Nat), World.cell? w26 (p13.add 3) = some (.slice x98 x98n x98c) ∧ (K28 (decide ((0 : Int) < ((x98n : Int)))) w26)) (K28 false w26))))) (∃ (x99 : Bool), World.cell? w26 (p24.add 3) = some (.bool x99) ∧ (br (!x99) (∃ (x100 : Option Addr) (x100n : Nat) (x100c : Nat), World.cell? w26 (p13.add 3) = some (.slice x100 x100n x100c) ∧ (K28 (decide ((0 : Int) < ((x100n : Int)))) w26)) (K28 false w26))))))))))))))) → K16 w17) → (∃ (x101 : Int), World.cell? w15 (p13.add 0) = some (.int .i64 x101) ∧ (br (decide ((x101 : Int) < 1)) (R (.returned (.int .i64 8)) w15) (∃ (x102 : Int), World.cell? w15 (p13.add 0) = some (.int .i64 x102) ∧ (br (decide ((11 : Int) < x102)) (R (.returned (.int .i64 8)) w15) (K16 w15)))))))))
set_option maxRecDepth 100000 in
theorem e_transcript_right (p_1 : Int) (p_2 : List UInt8) (p_3 : Int) (p_4 : Option Addr) (p_4n : Nat) (p_4c : Nat) (p_5 : Int) (p_6 : Bool) (R : Ending → World → Prop) (w : World) : fnV Tryd.prog Tryd.f73 an_transcript_right [.agg ⟨[.int .i64 p_1, .string ⟨⟨p_2⟩⟩, .int .i64 p_3, .slice p_4 p_4n p_4c, .int .i64 p_5, .bool p_6]⟩] R w = sh_transcript_right p_1 p_2 p_3 p_4 p_4n p_4c p_5 p_6 R w := by kernel_rfl
theorem c_transcript_right {p_1 : Int} {p_2 : List UInt8} {p_3 : Int} {p_4 : Option Addr} {p_4n : Nat} {p_4c : Nat} {p_5 : Int} {p_6 : Bool} {R : Ending → World → Prop} {w : World} (h : sh_transcript_right p_1 p_2 p_3 p_4 p_4n p_4c p_5 p_6 R w) : Calls Tryd.prog F_transcript_right ⟨[.agg ⟨[.int .i64 p_1, .string ⟨⟨p_2⟩⟩, .int .i64 p_3, .slice p_4 p_4n p_4c, .int .i64 p_5, .bool p_6]⟩]⟩ w R := calls_of_fnV Tryd.func73 (by rw [e_transcript_right]; exact h)

def an_transcript_marked : Ann := .two (.leaf) (.two (.leaf) (.two (.leaf) (.two (.leaf) (.two (.leaf) (.two (.leaf) (.leaf))))))
def sh_transcript_marked (l_1 : Option Addr) (l_1n : Nat) (l_1c : Nat) (R : Ending → World → Prop) (w : World) : Prop :=
  al w 84 [.pointer none, .slice none 0 0] fun p2 w3 =>
  al w3 125 [.nilFunc] fun p4 w5 =>
  stL w5 p4 0 [.func (.func 100) ⟨[]⟩ ⟨[.pointer (some p2), .pointer (some p4)]⟩] fun w6 =>
  ∃ (x7 : Fn) (x7a : Array Value) (x7b : Array Value), World.cell? w6 p4 = some (.func x7 x7a x7b) ∧ (CallV Tryd.prog (.func x7 x7a x7b) [.slice l_1 l_1n l_1c] w6 fun (e8 : Ending) (w9 : World) =>
  e8 = .returned (.tuple ⟨[]⟩) ∧ (Calls Tryd.prog 62 ⟨[.pointer (some p2)]⟩ w9 fun (e10 : Ending) (w11 : World) =>
  ∃ (x12 : List UInt8), e10 = .returned (.string ⟨⟨x12⟩⟩) ∧ (R (.returned (.string ⟨⟨x12⟩⟩)) w11)))
set_option maxRecDepth 100000 in
theorem e_transcript_marked (l_1 : Option Addr) (l_1n : Nat) (l_1c : Nat) (R : Ending → World → Prop) (w : World) : fnV Tryd.prog Tryd.f74 an_transcript_marked [.slice l_1 l_1n l_1c] R w = sh_transcript_marked l_1 l_1n l_1c R w := by kernel_rfl
theorem c_transcript_marked {l_1 : Option Addr} {l_1n : Nat} {l_1c : Nat} {R : Ending → World → Prop} {w : World} (h : sh_transcript_marked l_1 l_1n l_1c R w) : Calls Tryd.prog F_transcript_marked ⟨[.slice l_1 l_1n l_1c]⟩ w R := calls_of_fnV Tryd.func74 (by rw [e_transcript_marked]; exact h)

def an_slices_IndexFunc_of_string_string : Ann := .two (.leaf) (.two (.two (.leaf) (.one (.loop 524080 [(8, .one (.int .i64))] (.two (.leaf) (.two (.two (.leaf) (.leaf)) (.two (.one (.two (.leaf) (.two (.leaf) (.two (.two (.leaf) (.leaf)) (.leaf))))) (.leaf))))))) (.two (.leaf) (.leaf)))
def sh_slices_IndexFunc_of_string_string (s_1 : Option Addr) (s_1n : Nat) (s_1c : Nat) (f_2 : Fn) (f_2a : Array Value) (f_2b : Array Value) (R : Ending → World → Prop) (w : World) : Prop :=
  ∃ (I3 : Int → World → Nat → Prop), (∃ m7 : Nat, I3 0 w m7) ∧ ∀ (t8_4 : Int) (w5 : World) (m6 : Nat), I3 t8_4 w5 m6 → ∀ _ : Env, (br (decide ((t8_4 : Int) < ((s_1n : Int)))) (idx s_1 s_1n t8_4 1 fun p8 =>
  ∃ (x9 : List UInt8), World.cell? w5 p8 = some (.string ⟨⟨x9⟩⟩) ∧ (CallV Tryd.prog (.func f_2 f_2a f_2b) [.string ⟨⟨x9⟩⟩] w5 fun (e10 : Ending) (w11 : World) =>
  ∃ (x12 : Bool), e10 = .returned (.bool x12) ∧ (br x12 (R (.returned (.int .i64 t8_4)) w11) (∃ m13 : Nat, m13 < m6 ∧ I3 (IntKind.i64.wrap (t8_4 + 1)) w11 m13)))) (R (.returned (.int .i64 ((-1)))) w5))
set_option maxRecDepth 100000 in
theorem e_slices_IndexFunc_of_string_string (s_1 : Option Addr) (s_1n : Nat) (s_1c : Nat) (f_2 : Fn) (f_2a : Array Value) (f_2b : Array Value) (R : Ending → World → Prop) (w : World) : fnV Tryd.prog Tryd.f75 an_slices_IndexFunc_of_string_string [.slice s_1 s_1n s_1c, .func f_2 f_2a f_2b] R w = sh_slices_IndexFunc_of_string_string s_1 s_1n s_1c f_2 f_2a f_2b R w := by kernel_rfl
theorem c_slices_IndexFunc_of_string_string {s_1 : Option Addr} {s_1n : Nat} {s_1c : Nat} {f_2 : Fn} {f_2a : Array Value} {f_2b : Array Value} {R : Ending → World → Prop} {w : World} (h : sh_slices_IndexFunc_of_string_string s_1 s_1n s_1c f_2 f_2a f_2b R w) : Calls Tryd.prog F_slices_IndexFunc_of_string_string ⟨[.slice s_1 s_1n s_1c, .func f_2 f_2a f_2b]⟩ w R := calls_of_fnV Tryd.func75 (by rw [e_slices_IndexFunc_of_string_string]; exact h)

def an_legibility_Supply_1 : Ann := .two (.leaf) (.two (.leaf) (.two (.two (.leaf) (.one (.loop 9007199254737536 [(7, .one (.slice)), (12, .one (.int .i64))] (.two (.leaf) (.two (.two (.leaf) (.leaf)) (.two (.one (.two (.leaf) (.two (.two (.leaf) (.two (.two (.leaf) (.two (.leaf) (.leaf))) (.leaf))) (.two (.cut 4397778075648 [(41, .one (.bool))] (.leaf) (.two (.leaf) (.leaf))) (.leaf))))) (.leaf))))))) (.two (.leaf) (.leaf))))
def sh_legibility_Supply_1 (l_1 : Option Addr) (l_1n : Nat) (l_1c : Nat) (t1_2 : Option Addr) (t2_3 : Option Addr) (t3_4 : Option Addr) (t4_5 : Option Addr) (R : Ending → World → Prop) (w : World) : Prop :=
  ∃ (I6 : Option Addr → Nat → Nat → Int → World → Nat → Prop), (∃ m11 : Nat, I6 none 0 0 0 w m11) ∧ ∀ (out_7 : Option Addr) (out_7n : Nat) (out_7c : Nat) (t12_8 : Int) (w9 : World) (m10 : Nat), I6 out_7 out_7n out_7c t12_8 w9 m10 → ∀ _ : Env, (br (decide ((t12_8 : Int) < ((l_1n : Int)))) (idx l_1 l_1n t12_8 4 fun p12 =>
  ∃ (x13 : Int), World.cell? w9 (p12.add 0) = some (.int .i64 x13) ∧ (∃ (x14 : List UInt8), World.cell? w9 (p12.add 1) = some (.string ⟨⟨x14⟩⟩) ∧ (∃ (x15 : Int), World.cell? w9 (p12.add 2) = some (.int .i64 x15) ∧ (∃ (x16 : Option Addr) (x16n : Nat) (x16c : Nat), World.cell? w9 (p12.add 3) = some (.slice x16 x16n x16c) ∧ (al w9 37 [.int .i64 0, .string ⟨⟨[]⟩⟩, .int .i64 0, .slice none 0 0] fun p17 w18 =>
  stL w18 p17 0 [.int .i64 x13, .string ⟨⟨x14⟩⟩, .int .i64 x15, .slice x16 x16n x16c] fun w19 =>
  ∃ (x20 : Int), World.cell? w19 (p17.add 0) = some (.int .i64 x20) ∧ (br (decide ((x20 : Int) ≠ 6)) (dr t1_2 fun p21 =>
  ∃ (x22 : Fn) (x22a : Array Value) (x22b : Array Value), World.cell? w19 p21 = some (.func x22 x22a x22b) ∧ (∃ (x23 : Option Addr) (x23n : Nat) (x23c : Nat), World.cell? w19 (p17.add 3) = some (.slice x23 x23n x23c) ∧ (CallV Tryd.prog (.func x22 x22a x22b) [.slice x23 x23n x23c] w19 fun (e24 : Ending) (w25 : World) =>
  ∃ (x26 : Option Addr) (x26n : Nat) (x26c : Nat), e24 = .returned (.slice x26 x26n x26c) ∧ (stL w25 (p17.add 3) 0 [.slice x26 x26n x26c] fun w27 =>
  ∃ (x28 : Int), World.cell? w27 (p17.add 0) = some (.int .i64 x28) ∧ (∃ (x29 : List UInt8), World.cell? w27 (p17.add 1) = some (.string ⟨⟨x29⟩⟩) ∧ (∃ (x30 : Int), World.cell? w27 (p17.add 2) = some (.int .i64 x30) ∧ (∃ (x31 : Option Addr) (x31n : Nat) (x31c : Nat), World.cell? w27 (p17.add 3) = some (.slice x31 x31n x31c) ∧ (al w27 37 [.int .i64 x28, .string ⟨⟨x29⟩⟩, .int .i64 x30, .slice x31 x31n x31c] fun p32 w33 =>
  app Tryd.prog [22, 22] 22 (.slice out_7 out_7n out_7c) (.slice (some p32) 1 1) w33 fun a34 a34n a34c w35 =>
  ∃ m36 : Nat, m36 < m10 ∧ I6 a34 a34n a34c (IntKind.i64.wrap (t12_8 + 1)) w35 m36)))))))) (∀ (K37 : Bool → World → Prop), (∀ (t41_38 : Bool) (w39 : World), (∀ _ : Env, (br t41_38 (dr t4_5 fun p41 =>
  stL w39 p41 0 [.bool false] fun w40 =>
  dr t2_3 fun p42 =>
  ∃ (x43 : Int), World.cell? w40 p42 = some (.int .i64 x43) ∧ (dr t2_3 fun p45 =>
  stL w40 p45 0 [.int .i64 (IntKind.i64.wrap (x43 + 1))] fun w44 =>
  ∃ m46 : Nat, m46 < m10 ∧ I6 out_7 out_7n out_7c (IntKind.i64.wrap (t12_8 + 1)) w44 m46)) (dr t3_4 fun p47 =>
  ∃ (x48 : Option Addr) (x48n : Nat) (x48c : Nat), World.cell? w39 p47 = some (.slice x48 x48n x48c) ∧ (dr t2_3 fun p49 =>
  ∃ (x50 : Int), World.cell? w39 p49 = some (.int .i64 x50) ∧ (idx x48 x48n x50 1 fun p51 =>
  ∃ (x52 : List UInt8), World.cell? w39 p51 = some (.string ⟨⟨x52⟩⟩) ∧ (al w39 37 [.int .i64 1, .string ⟨⟨x52⟩⟩, .int .i64 0, .slice none 0 0] fun p53 w54 =>
  app Tryd.prog [22, 22] 22 (.slice out_7 out_7n out_7c) (.slice (some p53) 1 1) w54 fun a55 a55n a55c w56 =>
  dr t2_3 fun p57 =>
  ∃ (x58 : Int), World.cell? w56 p57 = some (.int .i64 x58) ∧ (dr t2_3 fun p60 =>
  stL w56 p60 0 [.int .i64 (IntKind.i64.wrap (x58 + 1))] fun w59 =>
  ∃ m61 : Nat, m61 < m10 ∧ I6 a55 a55n a55c (IntKind.i64.wrap (t12_8 + 1)) w59 m61))))))) → K37 t41_38 w39) → (drw w19 fun w62 =>
  dr t2_3 fun p63 =>
  ∃ (x64 : Int), World.cell? w62 p63 = some (.int .i64 x64) ∧ (dr t3_4 fun p65 =>
  ∃ (x66 : Option Addr) (x66n : Nat) (x66c : Nat), World.cell? w62 p65 = some (.slice x66 x66n x66c) ∧ (br (decide ((((x66n : Int)) : Int) ≤ x64)) (K37 true w62) (dr t3_4 fun p67 =>
  ∃ (x68 : Option Addr) (x68n : Nat) (x68c : Nat), World.cell? w62 p67 = some (.slice x68 x68n x68c) ∧ (dr t2_3 fun p69 =>
  ∃ (x70 : Int), World.cell? w62 p69 = some (.int .i64 x70) ∧ (idx x68 x68n x70 1 fun p71 =>
  ∃ (x72 : List UInt8), World.cell? w62 p71 = some (.string ⟨⟨x72⟩⟩) ∧ (∃ (x73 : Int), World.cell? w62 (p17.add 2) = some (.int .i64 x73) ∧ (K37 (decide ((((List.length x72 : Int)) : Int) ≠ x73)) w62))))))))))))))) (R (.returned (.slice out_7 out_7n out_7c)) w9))
set_option maxRecDepth 100000 in
theorem e_legibility_Supply_1 (l_1 : Option Addr) (l_1n : Nat) (l_1c : Nat) (t1_2 : Option Addr) (t2_3 : Option Addr) (t3_4 : Option Addr) (t4_5 : Option Addr) (R : Ending → World → Prop) (w : World) : fnV Tryd.prog Tryd.f76 an_legibility_Supply_1 [.slice l_1 l_1n l_1c, .pointer t1_2, .pointer t2_3, .pointer t3_4, .pointer t4_5] R w = sh_legibility_Supply_1 l_1 l_1n l_1c t1_2 t2_3 t3_4 t4_5 R w := by kernel_rfl
theorem c_legibility_Supply_1 {l_1 : Option Addr} {l_1n : Nat} {l_1c : Nat} {t1_2 : Option Addr} {t2_3 : Option Addr} {t3_4 : Option Addr} {t4_5 : Option Addr} {R : Ending → World → Prop} {w : World} (h : sh_legibility_Supply_1 l_1 l_1n l_1c t1_2 t2_3 t3_4 t4_5 R w) : Calls Tryd.prog F_legibility_Supply_1 ⟨[.slice l_1 l_1n l_1c, .pointer t1_2, .pointer t2_3, .pointer t3_4, .pointer t4_5]⟩ w R := calls_of_fnV Tryd.func76 (by rw [e_legibility_Supply_1]; exact h)

end Go.Proofs
