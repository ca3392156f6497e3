/- Written by program: for each function its verification condition, that it is the code's (by the kernel), and that it gives the call. -/
import Derived.Test.YtieeggfkfgmdgaaGreatDoorFn
namespace Go.Proofs
open Go Go.Sh
def an_law15_TokenizerNames : Ann := .two (.leaf) (.cut 65284 [] (.two (.leaf) (.two (.two (.leaf) (.leaf)) (.leaf))) (.two (.leaf) (.two (.two (.leaf) (.one (.loop 281474975662132 [(20, .one (.int .i64))] (.two (.leaf) (.two (.two (.leaf) (.leaf)) (.two (.one (.two (.leaf) (.two (.leaf) (.two (.two (.leaf) (.leaf)) (.leaf))))) (.leaf))))))) (.two (.two (.leaf) (.one (.loop 36892362247512260740 [(50, .one (.int .i64))] (.two (.leaf) (.two (.two (.leaf) (.leaf)) (.two (.one (.two (.leaf) (.two (.leaf) (.two (.two (.leaf) (.leaf)) (.leaf))))) (.leaf))))))) (.two (.leaf) (.leaf))))))
def sh_law15_TokenizerNames (l_1 : Option Addr) (l_1n : Nat) (l_1c : Nat) (R : Ending → World → Prop) (w : World) : Prop :=
  ∀ (K2 : World → Prop), (∀  (w3 : World), (∀ _ : Env, (Calls Tryz.prog 24 ⟨[.slice l_1 l_1n l_1c]⟩ w3 fun (e4 : Ending) (w5 : World) =>
  ∃ (x6 : Option Addr) (x6n : Nat) (x6c : Nat), e4 = .returned (.slice x6 x6n x6c) ∧ (∃ (I7 : Int → World → Nat → Prop), (∃ m11 : Nat, I7 0 w5 m11) ∧ ∀ (t20_8 : Int) (w9 : World) (m10 : Nat), I7 t20_8 w9 m10 → ∀ _ : Env, (br (decide ((t20_8 : Int) < ((x6n : Int)))) (idx x6 x6n t20_8 1 fun p12 =>
  ∃ (x13 : List UInt8), World.cell? w9 p12 = some (.string ⟨⟨x13⟩⟩) ∧ (al w9 9 [.string ⟨⟨[]⟩⟩] fun p14 w15 =>
  stL w15 p14 0 [.string ⟨⟨x13⟩⟩] fun w16 =>
  drw w16 fun w17 =>
  ∃ (x18 : List UInt8), World.cell? w17 p14 = some (.string ⟨⟨x18⟩⟩) ∧ (br (decide ((x18 : List UInt8) = ([]))) (((R (.returned (.bool false)) w17) ∧ True) ∧ True) (br (decide ((0 : Int) < t20_8)) (idx x6 x6n (IntKind.i64.wrap (t20_8 - 1)) 1 fun p19 =>
  ∃ (x20 : List UInt8), World.cell? w17 p19 = some (.string ⟨⟨x20⟩⟩) ∧ (∃ (x21 : List UInt8), World.cell? w17 p14 = some (.string ⟨⟨x21⟩⟩) ∧ ((Calls Tryz.prog 25 ⟨[.string ⟨⟨x20⟩⟩, .string ⟨⟨x21⟩⟩]⟩ w17 fun (e22 : Ending) (w23 : World) =>
  ∃ (x24 : Int), e22 = .returned (.int .i64 x24) ∧ (br (decide ((0 : Int) ≤ x24)) ((R (.returned (.bool false)) w23) ∧ True) ((Calls Tryz.prog 26 ⟨[.slice l_1 l_1n l_1c, .func (.func 27) ⟨[]⟩ ⟨[.pointer (some p14)]⟩]⟩ w23 fun (e25 : Ending) (w26 : World) =>
  ∃ (x27 : Bool), e25 = .returned (.bool x27) ∧ (br (!x27) (R (.returned (.bool false)) w26) (∃ m28 : Nat, m28 < m10 ∧ I7 (IntKind.i64.wrap (t20_8 + 1)) w26 m28))) ∧ True))) ∧ True))) (((Calls Tryz.prog 26 ⟨[.slice l_1 l_1n l_1c, .func (.func 27) ⟨[]⟩ ⟨[.pointer (some p14)]⟩]⟩ w17 fun (e29 : Ending) (w30 : World) =>
  ∃ (x31 : Bool), e29 = .returned (.bool x31) ∧ (br (!x31) (R (.returned (.bool false)) w30) (∃ m32 : Nat, m32 < m10 ∧ I7 (IntKind.i64.wrap (t20_8 + 1)) w30 m32))) ∧ True) ∧ True))))) (∃ (I33 : Int → World → Nat → Prop), (∃ m37 : Nat, I33 0 w9 m37) ∧ ∀ (t50_34 : Int) (w35 : World) (m36 : Nat), I33 t50_34 w35 m36 → ∀ _ : Env, (br (decide ((t50_34 : Int) < ((l_1n : Int)))) (idx l_1 l_1n t50_34 6 fun p38 =>
  ∃ (x39 : List UInt8), World.cell? w35 (p38.add 0) = some (.string ⟨⟨x39⟩⟩) ∧ (∃ (x40 : List UInt8), World.cell? w35 (p38.add 1) = some (.string ⟨⟨x40⟩⟩) ∧ (∃ (x41 : List UInt8), World.cell? w35 (p38.add 2) = some (.string ⟨⟨x41⟩⟩) ∧ (∃ (x42 : Int), World.cell? w35 (p38.add 3) = some (.int .i64 x42) ∧ (∃ (x43 : Int), World.cell? w35 (p38.add 4) = some (.int .i64 x43) ∧ (∃ (x44 : List UInt8), World.cell? w35 (p38.add 5) = some (.string ⟨⟨x44⟩⟩) ∧ (al w35 31 [.string ⟨⟨[]⟩⟩, .string ⟨⟨[]⟩⟩, .string ⟨⟨[]⟩⟩, .int .i64 0, .int .i64 0, .string ⟨⟨[]⟩⟩] fun p45 w46 =>
  stL w46 p45 0 [.string ⟨⟨x39⟩⟩, .string ⟨⟨x40⟩⟩, .string ⟨⟨x41⟩⟩, .int .i64 x42, .int .i64 x43, .string ⟨⟨x44⟩⟩] fun w47 =>
  ∃ (x48 : List UInt8), World.cell? w47 (p45.add 5) = some (.string ⟨⟨x48⟩⟩) ∧ (br (decide ((x48 : List UInt8) ≠ ([]))) (∃ (x49 : List UInt8), World.cell? w47 (p45.add 5) = some (.string ⟨⟨x49⟩⟩) ∧ (Calls Tryz.prog 28 ⟨[.slice x6 x6n x6c, .string ⟨⟨x49⟩⟩]⟩ w47 fun (e50 : Ending) (w51 : World) =>
  ∃ (x52 : Bool), e50 = .returned (.bool x52) ∧ (br (!x52) (R (.returned (.bool false)) w51) (∃ m53 : Nat, m53 < m36 ∧ I33 (IntKind.i64.wrap (t50_34 + 1)) w51 m53)))) (∃ m54 : Nat, m54 < m36 ∧ I33 (IntKind.i64.wrap (t50_34 + 1)) w47 m54))))))))) (Calls Tryz.prog 10 ⟨[]⟩ w35 fun (e55 : Ending) (w56 : World) =>
  ∃ (x57 : Bool), e55 = .returned (.bool x57) ∧ (R (.returned (.bool x57)) w56)))))))) → K2 w3) → (Calls Tryz.prog 23 ⟨[.slice l_1 l_1n l_1c, .int .i64 10]⟩ w fun (e58 : Ending) (w59 : World) =>
  ∃ (x60 : Bool), e58 = .returned (.bool x60) ∧ (br x60 (Calls Tryz.prog 10 ⟨[]⟩ w59 fun (e61 : Ending) (w62 : World) =>
  ∃ (x63 : Bool), e61 = .returned (.bool x63) ∧ (R (.returned (.bool x63)) w62)) (br (decide ((10 : Int) < ((l_1n : Int)))) (Calls Tryz.prog 10 ⟨[]⟩ w59 fun (e64 : Ending) (w65 : World) =>
  ∃ (x66 : Bool), e64 = .returned (.bool x66) ∧ (R (.returned (.bool x66)) w65)) (K2 w59))))
set_option maxRecDepth 100000 in
theorem e_law15_TokenizerNames (l_1 : Option Addr) (l_1n : Nat) (l_1c : Nat) (R : Ending → World → Prop) (w : World) : fnV Tryz.prog Tryz.f6 an_law15_TokenizerNames [.slice l_1 l_1n l_1c] R w = sh_law15_TokenizerNames l_1 l_1n l_1c R w := by kernel_rfl
theorem c_law15_TokenizerNames {l_1 : Option Addr} {l_1n : Nat} {l_1c : Nat} {R : Ending → World → Prop} {w : World} (h : sh_law15_TokenizerNames l_1 l_1n l_1c R w) : Calls Tryz.prog F_law15_TokenizerNames ⟨[.slice l_1 l_1n l_1c]⟩ w R := calls_of_fnV Tryz.func6 (by rw [e_law15_TokenizerNames]; exact h)

def an_law15_TokenizerStrings : Ann := .two (.leaf) (.cut 16775172 [] (.two (.leaf) (.two (.two (.leaf) (.leaf)) (.leaf))) (.two (.leaf) (.two (.leaf) (.cut 144115050636902404 [] (.two (.leaf) (.two (.two (.leaf) (.leaf)) (.leaf))) (.two (.leaf) (.two (.leaf) (.two (.leaf) (.leaf))))))))
def sh_law15_TokenizerStrings (s_1 : List UInt8) (R : Ending → World → Prop) (w : World) : Prop :=
  ∀ (K2 : World → Prop), (∀  (w3 : World), (∀ _ : Env, (Calls Tryz.prog 32 ⟨[.string ⟨⟨s_1⟩⟩]⟩ w3 fun (e4 : Ending) (w5 : World) =>
  ∃ (x6 : Option Addr) (x6n : Nat) (x6c : Nat) (x7 : Int), e4 = .returned (.tuple ⟨[.slice x6 x6n x6c, .int .i64 x7]⟩) ∧ (Calls Tryz.prog 39 ⟨[.string ⟨⟨s_1⟩⟩]⟩ w5 fun (e8 : Ending) (w9 : World) =>
  ∃ (x10 : Int) (x11 : List UInt8) (x12 : Int) (x13 : Option Addr) (x13n : Nat) (x13c : Nat), e8 = .returned (.agg ⟨[.int .i64 x10, .string ⟨⟨x11⟩⟩, .int .i64 x12, .slice x13 x13n x13c]⟩) ∧ (al w9 64 [.int .i64 x10, .string ⟨⟨x11⟩⟩, .int .i64 x12, .slice x13 x13n x13c] fun p14 w15 =>
  Calls Tryz.prog 38 ⟨[.agg ⟨[.string ⟨⟨[]⟩⟩, .int .i64 0]⟩, .slice (some p14) 1 1, .slice none 0 0]⟩ w15 fun (e16 : Ending) (w17 : World) =>
  ∃ (x18 : Option Addr) (x18n : Nat) (x18c : Nat) (x19 : Int), e16 = .returned (.tuple ⟨[.slice x18 x18n x18c, .int .i64 x19]⟩) ∧ (∀ (K20 : World → Prop), (∀  (w21 : World), (∀ _ : Env, (Calls Tryz.prog 30 ⟨[.slice x18 x18n x18c]⟩ w21 fun (e22 : Ending) (w23 : World) =>
  ∃ (x24 : List UInt8) (x25 : Int), e22 = .returned (.tuple ⟨[.string ⟨⟨x24⟩⟩, .int .i64 x25]⟩) ∧ (Calls Tryz.prog 32 ⟨[.string ⟨⟨x24⟩⟩]⟩ w23 fun (e26 : Ending) (w27 : World) =>
  ∃ (x28 : Option Addr) (x28n : Nat) (x28c : Nat) (x29 : Int), e26 = .returned (.tuple ⟨[.slice x28 x28n x28c, .int .i64 x29]⟩) ∧ (br (decide ((x25 : Int) = 0)) (br (decide ((x29 : Int) = 0)) (Calls Tryz.prog 21 ⟨[.slice x28 x28n x28c, .slice x6 x6n x6c]⟩ w27 fun (e30 : Ending) (w31 : World) =>
  ∃ (x32 : Bool), e30 = .returned (.bool x32) ∧ (br x32 (Calls Tryz.prog 41 ⟨[.string ⟨⟨s_1⟩⟩]⟩ w31 fun (e33 : Ending) (w34 : World) =>
  ∃ (x35 : Option Addr) (x35n : Nat) (x35c : Nat), e33 = .returned (.slice x35 x35n x35c) ∧ (Calls Tryz.prog 40 ⟨[.slice x35 x35n x35c, .string ⟨⟨[32]⟩⟩]⟩ w34 fun (e36 : Ending) (w37 : World) =>
  ∃ (x38 : List UInt8), e36 = .returned (.string ⟨⟨x38⟩⟩) ∧ (br (decide ((x24 : List UInt8) = x38)) (Calls Tryz.prog 10 ⟨[]⟩ w37 fun (e39 : Ending) (w40 : World) =>
  ∃ (x41 : Bool), e39 = .returned (.bool x41) ∧ (R (.returned (.bool x41)) w40)) (R (.returned (.bool false)) w37)))) (R (.returned (.bool false)) w31))) (R (.returned (.bool false)) w27)) (R (.returned (.bool false)) w27))))) → K20 w21) → (br (decide ((x7 : Int) ≠ 0)) (R (.returned (.bool false)) w17) (br (decide ((x19 : Int) ≠ 0)) (R (.returned (.bool false)) w17) (Calls Tryz.prog 22 ⟨[.slice x18 x18n x18c]⟩ w17 fun (e42 : Ending) (w43 : World) =>
  ∃ (x44 : Option Addr) (x44n : Nat) (x44c : Nat), e42 = .returned (.slice x44 x44n x44c) ∧ (Calls Tryz.prog 21 ⟨[.slice x44 x44n x44c, .slice x6 x6n x6c]⟩ w43 fun (e45 : Ending) (w46 : World) =>
  ∃ (x47 : Bool), e45 = .returned (.bool x47) ∧ (br (!x47) (R (.returned (.bool false)) w46) (Calls Tryz.prog 40 ⟨[.slice x6 x6n x6c, .string ⟨⟨[]⟩⟩]⟩ w46 fun (e48 : Ending) (w49 : World) =>
  ∃ (x50 : List UInt8), e48 = .returned (.string ⟨⟨x50⟩⟩) ∧ (Calls Tryz.prog 13 ⟨[.string ⟨⟨s_1⟩⟩, .string ⟨⟨[32]⟩⟩, .string ⟨⟨[]⟩⟩]⟩ w49 fun (e51 : Ending) (w52 : World) =>
  ∃ (x53 : List UInt8), e51 = .returned (.string ⟨⟨x53⟩⟩) ∧ (br (decide ((x50 : List UInt8) ≠ x53)) (R (.returned (.bool false)) w52) (K20 w52)))))))))))))) → K2 w3) → (br (decide ((40 : Int) < ((List.length s_1 : Int)))) (Calls Tryz.prog 10 ⟨[]⟩ w fun (e54 : Ending) (w55 : World) =>
  ∃ (x56 : Bool), e54 = .returned (.bool x56) ∧ (R (.returned (.bool x56)) w55)) (br (decide ((s_1 : List UInt8) = ([]))) (Calls Tryz.prog 10 ⟨[]⟩ w fun (e57 : Ending) (w58 : World) =>
  ∃ (x59 : Bool), e57 = .returned (.bool x59) ∧ (R (.returned (.bool x59)) w58)) (Calls Tryz.prog 37 ⟨[.string ⟨⟨s_1⟩⟩]⟩ w fun (e60 : Ending) (w61 : World) =>
  ∃ (x62 : Int), e60 = .returned (.int .i64 x62) ∧ (br (decide ((x62 : Int) ≠ 0)) (Calls Tryz.prog 10 ⟨[]⟩ w61 fun (e63 : Ending) (w64 : World) =>
  ∃ (x65 : Bool), e63 = .returned (.bool x65) ∧ (R (.returned (.bool x65)) w64)) (K2 w61)))))
set_option maxRecDepth 100000 in
theorem e_law15_TokenizerStrings (s_1 : List UInt8) (R : Ending → World → Prop) (w : World) : fnV Tryz.prog Tryz.f8 an_law15_TokenizerStrings [.string ⟨⟨s_1⟩⟩] R w = sh_law15_TokenizerStrings s_1 R w := by kernel_rfl
theorem c_law15_TokenizerStrings {s_1 : List UInt8} {R : Ending → World → Prop} {w : World} (h : sh_law15_TokenizerStrings s_1 R w) : Calls Tryz.prog F_law15_TokenizerStrings ⟨[.string ⟨⟨s_1⟩⟩]⟩ w R := calls_of_fnV Tryz.func8 (by rw [e_law15_TokenizerStrings]; exact h)

def an_law15_awake : Ann := .two (.leaf) (.two (.leaf) (.two (.leaf) (.two (.leaf) (.cut 1152921503533105153 [] (.two (.leaf) (.two (.two (.leaf) (.leaf)) (.leaf))) (.two (.leaf) (.two (.leaf) (.leaf)))))))
def sh_law15_awake  (R : Ending → World → Prop) (w : World) : Prop :=
  Calls Tryz.prog 39 ⟨[.string ⟨⟨[68, 101]⟩⟩]⟩ w fun (e1 : Ending) (w2 : World) =>
  ∃ (x3 : Int) (x4 : List UInt8) (x5 : Int) (x6 : Option Addr) (x6n : Nat) (x6c : Nat), e1 = .returned (.agg ⟨[.int .i64 x3, .string ⟨⟨x4⟩⟩, .int .i64 x5, .slice x6 x6n x6c]⟩) ∧ (Calls Tryz.prog 39 ⟨[.string ⟨⟨[117, 115, 32, 101, 115, 116, 44]⟩⟩]⟩ w2 fun (e7 : Ending) (w8 : World) =>
  ∃ (x9 : Int) (x10 : List UInt8) (x11 : Int) (x12 : Option Addr) (x12n : Nat) (x12c : Nat), e7 = .returned (.agg ⟨[.int .i64 x9, .string ⟨⟨x10⟩⟩, .int .i64 x11, .slice x12 x12n x12c]⟩) ∧ (al w8 64 [.int .i64 x3, .string ⟨⟨x4⟩⟩, .int .i64 x5, .slice x6 x6n x6c, .int .i64 2, .string ⟨⟨[]⟩⟩, .int .i64 0, .slice none 0 0, .int .i64 x9, .string ⟨⟨x10⟩⟩, .int .i64 x11, .slice x12 x12n x12c] fun p13 w14 =>
  Calls Tryz.prog 38 ⟨[.agg ⟨[.string ⟨⟨[]⟩⟩, .int .i64 0]⟩, .slice (some p13) 3 3, .slice none 0 0]⟩ w14 fun (e15 : Ending) (w16 : World) =>
  ∃ (x17 : Option Addr) (x17n : Nat) (x17c : Nat) (x18 : Int), e15 = .returned (.tuple ⟨[.slice x17 x17n x17c, .int .i64 x18]⟩) ∧ (Calls Tryz.prog 32 ⟨[.string ⟨⟨[97, 98, 39, 99, 32, 39, 100]⟩⟩]⟩ w16 fun (e19 : Ending) (w20 : World) =>
  ∃ (x21 : Option Addr) (x21n : Nat) (x21c : Nat) (x22 : Int), e19 = .returned (.tuple ⟨[.slice x21 x21n x21c, .int .i64 x22]⟩) ∧ (Calls Tryz.prog 39 ⟨[.string ⟨⟨[109, 97]⟩⟩]⟩ w20 fun (e23 : Ending) (w24 : World) =>
  ∃ (x25 : Int) (x26 : List UInt8) (x27 : Int) (x28 : Option Addr) (x28n : Nat) (x28c : Nat), e23 = .returned (.agg ⟨[.int .i64 x25, .string ⟨⟨x26⟩⟩, .int .i64 x27, .slice x28 x28n x28c]⟩) ∧ (Calls Tryz.prog 39 ⟨[.string ⟨⟨[117, 115]⟩⟩]⟩ w24 fun (e29 : Ending) (w30 : World) =>
  ∃ (x31 : Int) (x32 : List UInt8) (x33 : Int) (x34 : Option Addr) (x34n : Nat) (x34c : Nat), e29 = .returned (.agg ⟨[.int .i64 x31, .string ⟨⟨x32⟩⟩, .int .i64 x33, .slice x34 x34n x34c]⟩) ∧ (al w30 64 [.int .i64 x25, .string ⟨⟨x26⟩⟩, .int .i64 x27, .slice x28 x28n x28c, .int .i64 6, .string ⟨⟨[]⟩⟩, .int .i64 2, .slice none 0 0, .int .i64 x31, .string ⟨⟨x32⟩⟩, .int .i64 x33, .slice x34 x34n x34c] fun p35 w36 =>
  Calls Tryz.prog 38 ⟨[.agg ⟨[.string ⟨⟨[]⟩⟩, .int .i64 0]⟩, .slice (some p35) 3 3, .slice none 0 0]⟩ w36 fun (e37 : Ending) (w38 : World) =>
  ∃ (x39 : Option Addr) (x39n : Nat) (x39c : Nat) (x40 : Int), e37 = .returned (.tuple ⟨[.slice x39 x39n x39c, .int .i64 x40]⟩) ∧ (∀ (K41 : World → Prop), (∀  (w42 : World), (∀ _ : Env, (al w42 29 [.string ⟨⟨[]⟩⟩, .int .i64 0] fun p43 w44 =>
  stL w44 p43 0 [.string ⟨⟨[]⟩⟩, .int .i64 1] fun w45 =>
  ∃ (x46 : List UInt8), World.cell? w45 (p43.add 0) = some (.string ⟨⟨x46⟩⟩) ∧ (∃ (x47 : Int), World.cell? w45 (p43.add 1) = some (.int .i64 x47) ∧ (∃ (x48 : List UInt8), World.cell? w45 (p43.add 0) = some (.string ⟨⟨x48⟩⟩) ∧ (∃ (x49 : Int), World.cell? w45 (p43.add 1) = some (.int .i64 x49) ∧ (al w45 31 [.string ⟨⟨[68, 101, 117, 115]⟩⟩, .string ⟨⟨[68, 101, 117, 115]⟩⟩, .string ⟨⟨[]⟩⟩, .int .i64 0, .int .i64 0, .string ⟨⟨[]⟩⟩, .string ⟨⟨[101, 115, 116]⟩⟩, .string ⟨⟨[101, 115, 116]⟩⟩, .string ⟨⟨x46⟩⟩, .int .i64 x47, .int .i64 0, .string ⟨⟨[]⟩⟩, .string ⟨⟨[44]⟩⟩, .string ⟨⟨[44]⟩⟩, .string ⟨⟨x48⟩⟩, .int .i64 x49, .int .i64 24, .string ⟨⟨[]⟩⟩] fun p50 w51 =>
  Calls Tryz.prog 45 ⟨[.slice x17 x17n x17c, .slice (some p50) 3 3]⟩ w51 fun (e52 : Ending) (w53 : World) =>
  ∃ (x54 : Bool), e52 = .returned (.bool x54) ∧ (R (.returned (.bool x54)) w53))))))) → K41 w42) → (br (decide ((((max (max x18 x22) x40)) : Int) ≠ 0)) (R (.returned (.bool false)) w38) (al w38 9 [.string ⟨⟨[97, 98, 39, 99]⟩⟩, .string ⟨⟨[39]⟩⟩, .string ⟨⟨[100]⟩⟩] fun p55 w56 =>
  Calls Tryz.prog 21 ⟨[.slice x21 x21n x21c, .slice (some p55) 3 3]⟩ w56 fun (e57 : Ending) (w58 : World) =>
  ∃ (x59 : Bool), e57 = .returned (.bool x59) ∧ (br (!x59) (R (.returned (.bool false)) w58) (br (decide ((((x39n : Int)) : Int) ≠ 3)) (R (.returned (.bool false)) w58) (idx x39 x39n 1 6 fun p60 =>
  ∃ (x61 : List UInt8), World.cell? w58 (p60.add 0) = some (.string ⟨⟨x61⟩⟩) ∧ (br (decide ((x61 : List UInt8) ≠ ([91, 50, 93]))) (R (.returned (.bool false)) w58) (idx x39 x39n 2 6 fun p62 =>
  ∃ (x63 : Int), World.cell? w58 (p62.add 4) = some (.int .i64 x63) ∧ (br (decide ((x63 : Int) ≠ 16)) (R (.returned (.bool false)) w58) (K41 w58))))))))))))))))
set_option maxRecDepth 100000 in
theorem e_law15_awake  (R : Ending → World → Prop) (w : World) : fnV Tryz.prog Tryz.f10 an_law15_awake [] R w = sh_law15_awake  R w := by kernel_rfl
theorem c_law15_awake  {R : Ending → World → Prop} {w : World} (h : sh_law15_awake  R w) : Calls Tryz.prog F_law15_awake ⟨[]⟩ w R := calls_of_fnV Tryz.func10 (by rw [e_law15_awake]; exact h)

def an_transcript_Count : Ann := .two (.leaf) (.two (.two (.leaf) (.two (.two (.leaf) (.leaf)) (.leaf))) (.cut 129072 [(4, .one (.int .i64)), (5, .one (.int .i64))] (.two (.leaf) (.two (.two (.leaf) (.leaf)) (.leaf))) (.two (.leaf) (.two (.two (.leaf) (.one (.rf [3, 4, 5, 6, 18] 0))) (.two (.leaf) (.leaf))))))
def sh_transcript_Count (l_1 : Option Addr) (l_1n : Nat) (l_1c : Nat) (kind_2 : Int) (R : Ending → World → Prop) (w : World) : Prop :=
  al w 3 [.int .i64 kind_2] fun p3 w4 =>
  Calls Tryz.prog 43 ⟨[.slice l_1 l_1n l_1c]⟩ w4 fun (e5 : Ending) (w6 : World) =>
  ∃ (x7 : Int), e5 = .returned (.int .i64 x7) ∧ (br (decide ((x7 : Int) ≠ 0)) (R (.returned (.tuple ⟨[.int .i64 0, .int .i64 1]⟩)) w6) (∀ (K8 : Int → Int → World → Prop), (∀ (t4_9 : Int) (t5_10 : Int) (w11 : World), (∀ _ : Env, (al w11 3 [.int .i64 0] fun p12 w13 =>
  stL w13 p12 0 [.int .i64 0] fun w14 =>
  Calls Tryz.prog 46 ⟨[.slice l_1 l_1n l_1c]⟩ w14 fun (e15 : Ending) (w16 : World) =>
  ∃ (x17 : Fn) (x17a : Array Value) (x17b : Array Value), e15 = .returned (.func x17 x17a x17b) ∧ (∀ base18 : Env, RFw Tryz.prog none 28 (cdAt Tryz.f12 [1, 1, 1, 1, 0, 1, 2]) (upd (upd (upd (upd (upd base18 18 (.func x17 x17a x17b)) 6 (.pointer (some p12))) 5 (.int .i64 t5_10)) 4 (.int .i64 t4_9)) 3 (.pointer (some p3))) [] w16 0 (fun ds19 w20 =>
  ∃ (x23 : Int), World.cell? w20 p12 = some (.int .i64 x23) ∧ (retD ds19 w20 fun w24 =>
  R (.returned (.tuple ⟨[.int .i64 x23, .int .i64 0]⟩)) w24)) (fun ds19 w20 =>
  retD ds19 w20 fun w25 =>
  R (.returned (.tuple ⟨[.int .i64 t4_9, .int .i64 t5_10]⟩)) w25) (fun ds19 w20 =>
  ∃ (x21 : Int), World.cell? w20 p12 = some (.int .i64 x21) ∧ (retD ds19 w20 fun w22 =>
  R (.returned (.tuple ⟨[.int .i64 x21, .int .i64 0]⟩)) w22))))) → K8 t4_9 t5_10 w11) → (∃ (x26 : Int), World.cell? w6 p3 = some (.int .i64 x26) ∧ (br (decide ((x26 : Int) < 1)) (R (.returned (.tuple ⟨[.int .i64 0, .int .i64 8]⟩)) w6) (∃ (x27 : Int), World.cell? w6 p3 = some (.int .i64 x27) ∧ (br (decide ((11 : Int) < x27)) (R (.returned (.tuple ⟨[.int .i64 0, .int .i64 8]⟩)) w6) (K8 0 0 w6)))))))
set_option maxRecDepth 100000 in
theorem e_transcript_Count (l_1 : Option Addr) (l_1n : Nat) (l_1c : Nat) (kind_2 : Int) (R : Ending → World → Prop) (w : World) : fnV Tryz.prog Tryz.f12 an_transcript_Count [.slice l_1 l_1n l_1c, .int .i64 kind_2] R w = sh_transcript_Count l_1 l_1n l_1c kind_2 R w := by kernel_rfl
theorem c_transcript_Count {l_1 : Option Addr} {l_1n : Nat} {l_1c : Nat} {kind_2 : Int} {R : Ending → World → Prop} {w : World} (h : sh_transcript_Count l_1 l_1n l_1c kind_2 R w) : Calls Tryz.prog F_transcript_Count ⟨[.slice l_1 l_1n l_1c, .int .i64 kind_2]⟩ w R := calls_of_fnV Tryz.func12 (by rw [e_transcript_Count]; exact h)
def anA_transcript_Count_1 : Ann := .leaf
def anB_transcript_Count_1 : Ann := .one (.two (.leaf) (.two (.leaf) (.leaf)))
def rf_transcript_Count_1 (kind_28 : Option Addr) (t4_29 : Int) (t5_30 : Int) (n_31 : Option Addr) (t18_32 : Fn) (t18_32a : Array Value) (t18_32b : Array Value) (t19_33 : Int) (t19_34 : List UInt8) (t19_35 : Int) (t19_36 : Option Addr) (t19_36n : Nat) (t19_36c : Nat) (t19_37 : Int) (t19_38 : Bool) (l : Nat) (Kn Kr Kx : World → World → Prop) (w : World) : Prop :=
  al w 80 [.int .i64 0, .string ⟨⟨[]⟩⟩, .int .i64 0, .slice none 0 0, .int .i64 0, .bool false] fun p40 w41 =>
  stL w41 p40 0 [.int .i64 t19_33, .string ⟨⟨t19_34⟩⟩, .int .i64 t19_35, .slice t19_36 t19_36n t19_36c, .int .i64 t19_37, .bool t19_38] fun w42 =>
  Ext w w42 ∧ ∀ w39 : World, Upd l w42 w39 → (∃ (x43 : Int), World.cell? w39 ((p40.add 0).add 0) = some (.int .i64 x43) ∧ (dr kind_28 fun p44 =>
  ∃ (x45 : Int), World.cell? w39 p44 = some (.int .i64 x45) ∧ (br (decide ((x43 : Int) = x45)) (dr n_31 fun p46 =>
  ∃ (x47 : Int), World.cell? w39 p46 = some (.int .i64 x47) ∧ (dr n_31 fun p49 =>
  stL w39 p49 0 [.int .i64 (IntKind.i64.wrap (x47 + 1))] fun w48 =>
  Kn w39 w48)) (Kn w39 w39))))
set_option maxRecDepth 100000 in
theorem er_transcript_Count_1 (base : Env) (kind_28 : Option Addr) (t4_29 : Int) (t5_30 : Int) (n_31 : Option Addr) (t18_32 : Fn) (t18_32a : Array Value) (t18_32b : Array Value) (t19_33 : Int) (t19_34 : List UInt8) (t19_35 : Int) (t19_36 : Option Addr) (t19_36n : Nat) (t19_36c : Nat) (t19_37 : Int) (t19_38 : Bool) (l : Nat) (Kn Kr Kx : World → World → Prop) (w : World) : fragV Tryz.prog 28 anA_transcript_Count_1 anB_transcript_Count_1 (cdAt Tryz.f12 [1, 1, 1, 1, 0, 1, 2, 5]) (cdAt Tryz.f12 [1, 1, 1, 1, 0, 1, 2, 6]) l 0 Kn Kr Kx (updPs [19] [.agg ⟨[.int .i64 t19_33, .string ⟨⟨t19_34⟩⟩, .int .i64 t19_35, .slice t19_36 t19_36n t19_36c, .int .i64 t19_37, .bool t19_38]⟩] (upd (upd (upd (upd (upd base 18 (.func t18_32 t18_32a t18_32b)) 6 (.pointer n_31)) 5 (.int .i64 t5_30)) 4 (.int .i64 t4_29)) 3 (.pointer kind_28))) w = rf_transcript_Count_1 kind_28 t4_29 t5_30 n_31 t18_32 t18_32a t18_32b t19_33 t19_34 t19_35 t19_36 t19_36n t19_36c t19_37 t19_38 l Kn Kr Kx w := by kernel_rfl
theorem cd_transcript_Count_1 : cdAt Tryz.f12 [1, 1, 1, 1, 0, 1, 2] = .rangeFunc (Operand.tmp 18) #[19] (cdAt Tryz.f12 [1, 1, 1, 1, 0, 1, 2, 5]) (cdAt Tryz.f12 [1, 1, 1, 1, 0, 1, 2, 6]) := by kernel_rfl

def an_tokenizer_Check : Ann := .two (.leaf) (.cut 16324 [] (.two (.leaf) (.two (.two (.leaf) (.leaf)) (.leaf))) (.two (.leaf) (.cut 62914564 [] (.two (.leaf) (.two (.two (.leaf) (.leaf)) (.leaf))) (.two (.leaf) (.cut 67108896 [(5, .one (.fn))] (.two (.leaf) (.two (.leaf) (.leaf))) (.cut 134217760 [(5, .one (.fn))] (.two (.leaf) (.two (.leaf) (.leaf))) (.two (.one (.cut 4503599358935040 [(28, .one (.bool))] (.two (.leaf) (.two (.leaf) (.cut 4381135077376 [(28, .one (.bool))] (.leaf) (.two (.leaf) (.leaf))))) (.two (.two (.leaf) (.leaf)) (.two (.leaf) (.two (.two (.leaf) (.leaf)) (.two (.leaf) (.two (.two (.leaf) (.leaf)) (.leaf)))))))) (.two (.leaf) (.leaf)))))))))
def sh_tokenizer_Check (t_1 : List UInt8) (t_2 : List UInt8) (t_3 : List UInt8) (t_4 : Int) (t_5 : Int) (t_6 : List UInt8) (R : Ending → World → Prop) (w : World) : Prop :=
  al w 31 [.string ⟨⟨t_1⟩⟩, .string ⟨⟨t_2⟩⟩, .string ⟨⟨t_3⟩⟩, .int .i64 t_4, .int .i64 t_5, .string ⟨⟨t_6⟩⟩] fun p7 w8 =>
  ∀ (K9 : World → Prop), (∀  (w10 : World), (∀ _ : Env, (drw w10 fun w11 =>
  ∃ (x12 : Int), World.cell? w11 (p7.add 4) = some (.int .i64 x12) ∧ (∃ (x13 : Int), World.cell? w11 (p7.add 4) = some (.int .i64 x13) ∧ (∀ (K14 : World → Prop), (∀  (w15 : World), (∀ _ : Env, (∀ (K16 : Fn → Array Value → Array Value → World → Prop), (∀ (form_17 : Fn) (form_17a : Array Value) (form_17b : Array Value) (w18 : World), (∀ _ : Env, (∀ (K19 : Fn → Array Value → Array Value → World → Prop), (∀ (form_20 : Fn) (form_20a : Array Value) (form_20b : Array Value) (w21 : World), (∀ _ : Env, (∀ (K22 : Bool → World → Prop), (∀ (t28_23 : Bool) (w24 : World), (∀ _ : Env, (br t28_23 (R (.returned (.int .i64 11)) w24) (∃ (x25 : Int), World.cell? w24 ((p7.add 2).add 1) = some (.int .i64 x25) ∧ (br (decide ((x25 : Int) < 0)) (R (.returned (.int .i64 2)) w24) (∃ (x26 : List UInt8), World.cell? w24 ((p7.add 2).add 0) = some (.string ⟨⟨x26⟩⟩) ∧ (Calls Tryz.prog 54 ⟨[.string ⟨⟨x26⟩⟩]⟩ w24 fun (e27 : Ending) (w28 : World) =>
  ∃ (x29 : Bool), e27 = .returned (.bool x29) ∧ (br (!x29) (R (.returned (.int .i64 14)) w28) (∃ (x30 : List UInt8), World.cell? w28 (p7.add 5) = some (.string ⟨⟨x30⟩⟩) ∧ (Calls Tryz.prog 54 ⟨[.string ⟨⟨x30⟩⟩]⟩ w28 fun (e31 : Ending) (w32 : World) =>
  ∃ (x33 : Bool), e31 = .returned (.bool x33) ∧ (br (!x33) (R (.returned (.int .i64 14)) w32) (R (.returned (.int .i64 0)) w32))))))))))) → K22 t28_23 w24) → (∃ (x34 : List UInt8), World.cell? w21 (p7.add 0) = some (.string ⟨⟨x34⟩⟩) ∧ (CallV Tryz.prog (.func form_20 form_20a form_20b) [.string ⟨⟨x34⟩⟩] w21 fun (e35 : Ending) (w36 : World) =>
  ∃ (x37 : Bool), e35 = .returned (.bool x37) ∧ (br (!x37) (K22 (!x37) w36) (∀ (K38 : Bool → World → Prop), (∀ (t28_39 : Bool) (w40 : World), (∀ _ : Env, (br t28_39 (K22 t28_39 w40) (∃ (x41 : List UInt8), World.cell? w40 (p7.add 0) = some (.string ⟨⟨x41⟩⟩) ∧ (∃ (x42 : List UInt8), World.cell? w40 (p7.add 1) = some (.string ⟨⟨x42⟩⟩) ∧ (∃ (x43 : List UInt8), World.cell? w40 (p7.add 2) = some (.string ⟨⟨x43⟩⟩) ∧ (∃ (x44 : Int), World.cell? w40 (p7.add 3) = some (.int .i64 x44) ∧ (∃ (x45 : Int), World.cell? w40 (p7.add 4) = some (.int .i64 x45) ∧ (∃ (x46 : List UInt8), World.cell? w40 (p7.add 5) = some (.string ⟨⟨x46⟩⟩) ∧ (Calls Tryz.prog 52 ⟨[.agg ⟨[.string ⟨⟨x41⟩⟩, .string ⟨⟨x42⟩⟩, .string ⟨⟨x43⟩⟩, .int .i64 x44, .int .i64 x45, .string ⟨⟨x46⟩⟩]⟩]⟩ w40 fun (e47 : Ending) (w48 : World) =>
  ∃ (x49 : Bool), e47 = .returned (.bool x49) ∧ (br (!x49) (∃ (x50 : List UInt8), World.cell? w48 (p7.add 1) = some (.string ⟨⟨x50⟩⟩) ∧ (∃ (x51 : List UInt8), World.cell? w48 (p7.add 0) = some (.string ⟨⟨x51⟩⟩) ∧ (K22 (decide ((x50 : List UInt8) ≠ x51)) w48))) (K22 false w48))))))))))) → K38 t28_39 w40) → (∃ (x52 : List UInt8), World.cell? w36 (p7.add 0) = some (.string ⟨⟨x52⟩⟩) ∧ (∃ (x53 : List UInt8), World.cell? w36 (p7.add 1) = some (.string ⟨⟨x53⟩⟩) ∧ (∃ (x54 : List UInt8), World.cell? w36 (p7.add 2) = some (.string ⟨⟨x54⟩⟩) ∧ (∃ (x55 : Int), World.cell? w36 (p7.add 3) = some (.int .i64 x55) ∧ (∃ (x56 : Int), World.cell? w36 (p7.add 4) = some (.int .i64 x56) ∧ (∃ (x57 : List UInt8), World.cell? w36 (p7.add 5) = some (.string ⟨⟨x57⟩⟩) ∧ (Calls Tryz.prog 52 ⟨[.agg ⟨[.string ⟨⟨x52⟩⟩, .string ⟨⟨x53⟩⟩, .string ⟨⟨x54⟩⟩, .int .i64 x55, .int .i64 x56, .string ⟨⟨x57⟩⟩]⟩]⟩ w36 fun (e58 : Ending) (w59 : World) =>
  ∃ (x60 : Bool), e58 = .returned (.bool x60) ∧ (br x60 (∃ (x61 : List UInt8), World.cell? w59 (p7.add 1) = some (.string ⟨⟨x61⟩⟩) ∧ (Calls Tryz.prog 53 ⟨[.string ⟨⟨x61⟩⟩]⟩ w59 fun (e62 : Ending) (w63 : World) =>
  ∃ (x64 : Bool), e62 = .returned (.bool x64) ∧ (K38 (!x64) w63))) (K38 false w59))))))))))))))) → K19 form_20 form_20a form_20b w21) → (br (decide (((bitA .i64 x13 8) : Int) ≠ 0)) (K19 (.func 51) #[] #[] w18) (K19 form_17 form_17a form_17b w18)))) → K16 form_17 form_17a form_17b w18) → (br (decide (((bitA .i64 x12 2) : Int) ≠ 0)) (K16 (.func 50) #[] #[] w15) (K16 (.func 15) #[] #[] w15)))) → K14 w15) → (br (decide (((bitA .i64 x12 2) : Int) ≠ 0)) (br (decide (((bitA .i64 x13 8) : Int) ≠ 0)) (R (.returned (.int .i64 8)) w11) (K14 w11)) (K14 w11)))))) → K9 w10) → (∃ (x65 : Int), World.cell? w8 (p7.add 4) = some (.int .i64 x65) ∧ (br (decide ((x65 : Int) < 0)) (R (.returned (.int .i64 2)) w8) (∃ (x66 : Int), World.cell? w8 (p7.add 4) = some (.int .i64 x66) ∧ (br (decide ((31 : Int) < x66)) (R (.returned (.int .i64 2)) w8) (K9 w8)))))
set_option maxRecDepth 100000 in
theorem e_tokenizer_Check (t_1 : List UInt8) (t_2 : List UInt8) (t_3 : List UInt8) (t_4 : Int) (t_5 : Int) (t_6 : List UInt8) (R : Ending → World → Prop) (w : World) : fnV Tryz.prog Tryz.f14 an_tokenizer_Check [.agg ⟨[.string ⟨⟨t_1⟩⟩, .string ⟨⟨t_2⟩⟩, .string ⟨⟨t_3⟩⟩, .int .i64 t_4, .int .i64 t_5, .string ⟨⟨t_6⟩⟩]⟩] R w = sh_tokenizer_Check t_1 t_2 t_3 t_4 t_5 t_6 R w := by kernel_rfl
theorem c_tokenizer_Check {t_1 : List UInt8} {t_2 : List UInt8} {t_3 : List UInt8} {t_4 : Int} {t_5 : Int} {t_6 : List UInt8} {R : Ending → World → Prop} {w : World} (h : sh_tokenizer_Check t_1 t_2 t_3 t_4 t_5 t_6 R w) : Calls Tryz.prog F_tokenizer_Check ⟨[.agg ⟨[.string ⟨⟨t_1⟩⟩, .string ⟨⟨t_2⟩⟩, .string ⟨⟨t_3⟩⟩, .int .i64 t_4, .int .i64 t_5, .string ⟨⟨t_6⟩⟩]⟩]⟩ w R := calls_of_fnV Tryz.func14 (by rw [e_tokenizer_Check]; exact h)

def an_charset_IsWord : Ann := .two (.leaf) (.cut 65524 [] (.two (.leaf) (.two (.two (.leaf) (.leaf)) (.leaf))) (.cut 33488908 [] (.two (.leaf) (.two (.leaf) (.two (.two (.leaf) (.leaf)) (.leaf)))) (.two (.leaf) (.leaf))))
def sh_charset_IsWord (s_1 : List UInt8) (R : Ending → World → Prop) (w : World) : Prop :=
  ∀ (K2 : World → Prop), (∀  (w3 : World), (∀ _ : Env, (∀ (K4 : World → Prop), (∀  (w5 : World), (∀ _ : Env, (s2b Tryz.prog w5 5 s_1 fun a6 a6n a6c w7 =>
  Calls Tryz.prog 56 ⟨[.slice a6 a6n a6c, .func (.func 57) #[] #[]]⟩ w7 fun (e8 : Ending) (w9 : World) =>
  ∃ (x10 : Bool), e8 = .returned (.bool x10) ∧ (R (.returned (.bool (!x10))) w9))) → K4 w5) → (sidx s_1 0 fun b11 =>
  Calls Tryz.prog 55 ⟨[.int .u8 ((b11.toNat : Int))]⟩ w3 fun (e12 : Ending) (w13 : World) =>
  ∃ (x14 : Int), e12 = .returned (.int .i64 x14) ∧ (br (decide ((x14 : Int) ≠ 1)) (br (decide ((x14 : Int) ≠ 3)) (R (.returned (.bool false)) w13) (K4 w13)) (K4 w13))))) → K2 w3) → (br (decide ((s_1 : List UInt8) = ([]))) (R (.returned (.bool false)) w) (br (decide ((64 : Int) < ((List.length s_1 : Int)))) (R (.returned (.bool false)) w) (Calls Tryz.prog 37 ⟨[.string ⟨⟨s_1⟩⟩]⟩ w fun (e15 : Ending) (w16 : World) =>
  ∃ (x17 : Int), e15 = .returned (.int .i64 x17) ∧ (br (decide ((x17 : Int) ≠ 0)) (R (.returned (.bool false)) w16) (K2 w16)))))
set_option maxRecDepth 100000 in
theorem e_charset_IsWord (s_1 : List UInt8) (R : Ending → World → Prop) (w : World) : fnV Tryz.prog Tryz.f15 an_charset_IsWord [.string ⟨⟨s_1⟩⟩] R w = sh_charset_IsWord s_1 R w := by kernel_rfl
theorem c_charset_IsWord {s_1 : List UInt8} {R : Ending → World → Prop} {w : World} (h : sh_charset_IsWord s_1 R w) : Calls Tryz.prog F_charset_IsWord ⟨[.string ⟨⟨s_1⟩⟩]⟩ w R := calls_of_fnV Tryz.func15 (by rw [e_charset_IsWord]; exact h)

def an_rewriting_Check : Ann := .two (.leaf) (.two (.two (.leaf) (.two (.two (.leaf) (.leaf)) (.leaf))) (.two (.two (.leaf) (.one (.loop 2095156 [(11, .one (.int .i64))] (.two (.leaf) (.two (.two (.leaf) (.leaf)) (.two (.one (.two (.leaf) (.two (.leaf) (.two (.leaf) (.two (.two (.leaf) (.leaf)) (.leaf)))))) (.leaf))))))) (.two (.leaf) (.leaf))))
def sh_rewriting_Check (rules_1 : Option Addr) (rules_1n : Nat) (rules_1c : Nat) (R : Ending → World → Prop) (w : World) : Prop :=
  br (decide ((64 : Int) < ((rules_1n : Int)))) (R (.returned (.int .i64 4)) w) (∃ (I2 : Int → World → Nat → Prop), (∃ m6 : Nat, I2 0 w m6) ∧ ∀ (t11_3 : Int) (w4 : World) (m5 : Nat), I2 t11_3 w4 m5 → ∀ _ : Env, (br (decide ((t11_3 : Int) < ((rules_1n : Int)))) (idx rules_1 rules_1n t11_3 2 fun p7 =>
  ∃ (x8 : List UInt8), World.cell? w4 (p7.add 0) = some (.string ⟨⟨x8⟩⟩) ∧ (∃ (x9 : List UInt8), World.cell? w4 (p7.add 1) = some (.string ⟨⟨x9⟩⟩) ∧ (al w4 91 [.string ⟨⟨[]⟩⟩, .string ⟨⟨[]⟩⟩] fun p10 w11 =>
  stL w11 p10 0 [.string ⟨⟨x8⟩⟩, .string ⟨⟨x9⟩⟩] fun w12 =>
  ∃ (x13 : List UInt8), World.cell? w12 (p10.add 0) = some (.string ⟨⟨x13⟩⟩) ∧ (∃ (x14 : List UInt8), World.cell? w12 (p10.add 1) = some (.string ⟨⟨x14⟩⟩) ∧ (Calls Tryz.prog 58 ⟨[.agg ⟨[.string ⟨⟨x13⟩⟩, .string ⟨⟨x14⟩⟩]⟩]⟩ w12 fun (e15 : Ending) (w16 : World) =>
  ∃ (x17 : Int), e15 = .returned (.int .i64 x17) ∧ (br (decide ((x17 : Int) ≠ 0)) (R (.returned (.int .i64 x17)) w16) (∃ m18 : Nat, m18 < m5 ∧ I2 (IntKind.i64.wrap (t11_3 + 1)) w16 m18))))))) (R (.returned (.int .i64 0)) w4)))
set_option maxRecDepth 100000 in
theorem e_rewriting_Check (rules_1 : Option Addr) (rules_1n : Nat) (rules_1c : Nat) (R : Ending → World → Prop) (w : World) : fnV Tryz.prog Tryz.f17 an_rewriting_Check [.slice rules_1 rules_1n rules_1c] R w = sh_rewriting_Check rules_1 rules_1n rules_1c R w := by kernel_rfl
theorem c_rewriting_Check {rules_1 : Option Addr} {rules_1n : Nat} {rules_1c : Nat} {R : Ending → World → Prop} {w : World} (h : sh_rewriting_Check rules_1 rules_1n rules_1c R w) : Calls Tryz.prog F_rewriting_Check ⟨[.slice rules_1 rules_1n rules_1c]⟩ w R := calls_of_fnV Tryz.func17 (by rw [e_rewriting_Check]; exact h)

def an_rewriting_Normalize : Ann := .two (.leaf) (.two (.leaf) (.two (.two (.leaf) (.two (.two (.leaf) (.leaf)) (.leaf))) (.two (.leaf) (.leaf))))
def sh_rewriting_Normalize (rules_1 : Option Addr) (rules_1n : Nat) (rules_1c : Nat) (w_2 : List UInt8) (R : Ending → World → Prop) (w : World) : Prop :=
  Calls Tryz.prog 59 ⟨[.slice rules_1 rules_1n rules_1c, .string ⟨⟨w_2⟩⟩]⟩ w fun (e3 : Ending) (w4 : World) =>
  ∃ (x5 : Option Addr) (x5n : Nat) (x5c : Nat) (x6 : Int), e3 = .returned (.tuple ⟨[.slice x5 x5n x5c, .int .i64 x6]⟩) ∧ (br (decide ((x6 : Int) ≠ 0)) (R (.returned (.tuple ⟨[.string ⟨⟨[]⟩⟩, .int .i64 x6]⟩)) w4) (idx x5 x5n (IntKind.i64.wrap (((x5n : Int)) - 1)) 1 fun p7 =>
  ∃ (x8 : List UInt8), World.cell? w4 p7 = some (.string ⟨⟨x8⟩⟩) ∧ (R (.returned (.tuple ⟨[.string ⟨⟨x8⟩⟩, .int .i64 0]⟩)) w4)))
set_option maxRecDepth 100000 in
theorem e_rewriting_Normalize (rules_1 : Option Addr) (rules_1n : Nat) (rules_1c : Nat) (w_2 : List UInt8) (R : Ending → World → Prop) (w : World) : fnV Tryz.prog Tryz.f18 an_rewriting_Normalize [.slice rules_1 rules_1n rules_1c, .string ⟨⟨w_2⟩⟩] R w = sh_rewriting_Normalize rules_1 rules_1n rules_1c w_2 R w := by kernel_rfl
theorem c_rewriting_Normalize {rules_1 : Option Addr} {rules_1n : Nat} {rules_1c : Nat} {w_2 : List UInt8} {R : Ending → World → Prop} {w : World} (h : sh_rewriting_Normalize rules_1 rules_1n rules_1c w_2 R w) : Calls Tryz.prog F_rewriting_Normalize ⟨[.slice rules_1 rules_1n rules_1c, .string ⟨⟨w_2⟩⟩]⟩ w R := calls_of_fnV Tryz.func18 (by rw [e_rewriting_Normalize]; exact h)

def an_slices_Equal_of_string_string : Ann := .two (.leaf) (.two (.two (.leaf) (.two (.two (.leaf) (.leaf)) (.leaf))) (.two (.two (.leaf) (.one (.loop 67100720 [(13, .one (.int .i64))] (.two (.leaf) (.two (.two (.leaf) (.leaf)) (.two (.one (.two (.leaf) (.two (.leaf) (.two (.two (.leaf) (.leaf)) (.leaf))))) (.leaf))))))) (.two (.leaf) (.leaf))))
def sh_slices_Equal_of_string_string (s1_1 : Option Addr) (s1_1n : Nat) (s1_1c : Nat) (s2_2 : Option Addr) (s2_2n : Nat) (s2_2c : Nat) (R : Ending → World → Prop) (w : World) : Prop :=
  br (decide ((((s1_1n : Int)) : Int) ≠ ((s2_2n : Int)))) (R (.returned (.bool false)) w) (∃ (I3 : Int → World → Nat → Prop), (∃ m7 : Nat, I3 0 w m7) ∧ ∀ (t13_4 : Int) (w5 : World) (m6 : Nat), I3 t13_4 w5 m6 → ∀ _ : Env, (br (decide ((t13_4 : Int) < ((s1_1n : Int)))) (drw w5 fun w8 =>
  idx s1_1 s1_1n t13_4 1 fun p9 =>
  ∃ (x10 : List UInt8), World.cell? w8 p9 = some (.string ⟨⟨x10⟩⟩) ∧ (idx s2_2 s2_2n t13_4 1 fun p11 =>
  ∃ (x12 : List UInt8), World.cell? w8 p11 = some (.string ⟨⟨x12⟩⟩) ∧ (br (decide ((x10 : List UInt8) ≠ x12)) (R (.returned (.bool false)) w8) (∃ m13 : Nat, m13 < m6 ∧ I3 (IntKind.i64.wrap (t13_4 + 1)) w8 m13)))) (R (.returned (.bool true)) w5)))
set_option maxRecDepth 100000 in
theorem e_slices_Equal_of_string_string (s1_1 : Option Addr) (s1_1n : Nat) (s1_1c : Nat) (s2_2 : Option Addr) (s2_2n : Nat) (s2_2c : Nat) (R : Ending → World → Prop) (w : World) : fnV Tryz.prog Tryz.f21 an_slices_Equal_of_string_string [.slice s1_1 s1_1n s1_1c, .slice s2_2 s2_2n s2_2c] R w = sh_slices_Equal_of_string_string s1_1 s1_1n s1_1c s2_2 s2_2n s2_2c R w := by kernel_rfl
theorem c_slices_Equal_of_string_string {s1_1 : Option Addr} {s1_1n : Nat} {s1_1c : Nat} {s2_2 : Option Addr} {s2_2n : Nat} {s2_2c : Nat} {R : Ending → World → Prop} {w : World} (h : sh_slices_Equal_of_string_string s1_1 s1_1n s1_1c s2_2 s2_2n s2_2c R w) : Calls Tryz.prog F_slices_Equal_of_string_string ⟨[.slice s1_1 s1_1n s1_1c, .slice s2_2 s2_2n s2_2c]⟩ w R := calls_of_fnV Tryz.func21 (by rw [e_slices_Equal_of_string_string]; exact h)

def an_tokenizer_Words : Ann := .two (.leaf) (.two (.leaf) (.two (.two (.leaf) (.one (.loop 261928 [(3, .one (.slice)), (8, .one (.int .i64))] (.two (.leaf) (.two (.two (.leaf) (.leaf)) (.two (.one (.two (.leaf) (.leaf))) (.leaf))))))) (.two (.leaf) (.leaf))))
def sh_tokenizer_Words (l_1 : Option Addr) (l_1n : Nat) (l_1c : Nat) (R : Ending → World → Prop) (w : World) : Prop :=
  ∃ (I2 : Option Addr → Nat → Nat → Int → World → Nat → Prop), (∃ m7 : Nat, I2 none 0 0 0 w m7) ∧ ∀ (out_3 : Option Addr) (out_3n : Nat) (out_3c : Nat) (t8_4 : Int) (w5 : World) (m6 : Nat), I2 out_3 out_3n out_3c t8_4 w5 m6 → ∀ _ : Env, (br (decide ((t8_4 : Int) < ((l_1n : Int)))) (idx l_1 l_1n t8_4 6 fun p8 =>
  ∃ (x9 : List UInt8), World.cell? w5 (p8.add 0) = some (.string ⟨⟨x9⟩⟩) ∧ (∃ (x10 : List UInt8), World.cell? w5 (p8.add 1) = some (.string ⟨⟨x10⟩⟩) ∧ (∃ (x11 : List UInt8), World.cell? w5 (p8.add 2) = some (.string ⟨⟨x11⟩⟩) ∧ (∃ (x12 : Int), World.cell? w5 (p8.add 3) = some (.int .i64 x12) ∧ (∃ (x13 : Int), World.cell? w5 (p8.add 4) = some (.int .i64 x13) ∧ (∃ (x14 : List UInt8), World.cell? w5 (p8.add 5) = some (.string ⟨⟨x14⟩⟩) ∧ (al w5 31 [.string ⟨⟨[]⟩⟩, .string ⟨⟨[]⟩⟩, .string ⟨⟨[]⟩⟩, .int .i64 0, .int .i64 0, .string ⟨⟨[]⟩⟩] fun p15 w16 =>
  stL w16 p15 0 [.string ⟨⟨x9⟩⟩, .string ⟨⟨x10⟩⟩, .string ⟨⟨x11⟩⟩, .int .i64 x12, .int .i64 x13, .string ⟨⟨x14⟩⟩] fun w17 =>
  ∃ (x18 : List UInt8), World.cell? w17 (p15.add 0) = some (.string ⟨⟨x18⟩⟩) ∧ (al w17 9 [.string ⟨⟨x18⟩⟩] fun p19 w20 =>
  app Tryz.prog [48, 48] 48 (.slice out_3 out_3n out_3c) (.slice (some p19) 1 1) w20 fun a21 a21n a21c w22 =>
  ∃ m23 : Nat, m23 < m6 ∧ I2 a21 a21n a21c (IntKind.i64.wrap (t8_4 + 1)) w22 m23)))))))) (R (.returned (.slice out_3 out_3n out_3c)) w5))
set_option maxRecDepth 100000 in
theorem e_tokenizer_Words (l_1 : Option Addr) (l_1n : Nat) (l_1c : Nat) (R : Ending → World → Prop) (w : World) : fnV Tryz.prog Tryz.f22 an_tokenizer_Words [.slice l_1 l_1n l_1c] R w = sh_tokenizer_Words l_1 l_1n l_1c R w := by kernel_rfl
theorem c_tokenizer_Words {l_1 : Option Addr} {l_1n : Nat} {l_1c : Nat} {R : Ending → World → Prop} {w : World} (h : sh_tokenizer_Words l_1 l_1n l_1c R w) : Calls Tryz.prog F_tokenizer_Words ⟨[.slice l_1 l_1n l_1c]⟩ w R := calls_of_fnV Tryz.func22 (by rw [e_tokenizer_Words]; exact h)

def an_ref15_Great : Ann := .two (.leaf) (.cut 1048528 [] (.two (.leaf) (.two (.two (.leaf) (.leaf)) (.leaf))) (.two (.two (.leaf) (.one (.loop 144115188074807344 [(5, .one (.int .i64))] (.two (.two (.leaf) (.two (.leaf) (.leaf))) (.two (.one (.two (.leaf) (.two (.two (.leaf) (.leaf)) (.leaf)))) (.leaf)))))) (.two (.leaf) (.leaf))))
def sh_ref15_Great (l_1 : Option Addr) (l_1n : Nat) (l_1c : Nat) (n_2 : Int) (R : Ending → World → Prop) (w : World) : Prop :=
  ∀ (K3 : World → Prop), (∀  (w4 : World), (∀ _ : Env, (∃ (I5 : Int → World → Nat → Prop), (∃ m9 : Nat, I5 0 w4 m9) ∧ ∀ (i_6 : Int) (w7 : World) (m8 : Nat), I5 i_6 w7 m8 → ∀ _ : Env, (br (decide ((i_6 : Int) < ((l_1n : Int)))) (idx l_1 l_1n i_6 6 fun p10 =>
  ∃ (x11 : List UInt8), World.cell? w7 (p10.add 0) = some (.string ⟨⟨x11⟩⟩) ∧ (Calls Tryz.prog 63 ⟨[.string ⟨⟨x11⟩⟩]⟩ w7 fun (e12 : Ending) (w13 : World) =>
  ∃ (x14 : Bool), e12 = .returned (.bool x14) ∧ (br x14 (R (.returned (.bool true)) w13) (idx l_1 l_1n i_6 6 fun p15 =>
  ∃ (x16 : List UInt8), World.cell? w13 (p15.add 1) = some (.string ⟨⟨x16⟩⟩) ∧ (Calls Tryz.prog 63 ⟨[.string ⟨⟨x16⟩⟩]⟩ w13 fun (e17 : Ending) (w18 : World) =>
  ∃ (x19 : Bool), e17 = .returned (.bool x19) ∧ (br x19 (R (.returned (.bool true)) w18) (idx l_1 l_1n i_6 6 fun p20 =>
  ∃ (x21 : List UInt8), World.cell? w18 (p20.add 5) = some (.string ⟨⟨x21⟩⟩) ∧ (Calls Tryz.prog 63 ⟨[.string ⟨⟨x21⟩⟩]⟩ w18 fun (e22 : Ending) (w23 : World) =>
  ∃ (x24 : Bool), e22 = .returned (.bool x24) ∧ (br x24 (R (.returned (.bool true)) w23) (idx l_1 l_1n i_6 6 fun p25 =>
  ∃ (x26 : List UInt8), World.cell? w23 ((p25.add 2).add 0) = some (.string ⟨⟨x26⟩⟩) ∧ (Calls Tryz.prog 63 ⟨[.string ⟨⟨x26⟩⟩]⟩ w23 fun (e27 : Ending) (w28 : World) =>
  ∃ (x29 : Bool), e27 = .returned (.bool x29) ∧ (br x29 (R (.returned (.bool true)) w28) (∃ m30 : Nat, m30 < m8 ∧ I5 (IntKind.i64.wrap (i_6 + 1)) w28 m30))))))))))))) (R (.returned (.bool false)) w7)))) → K3 w4) → (br (decide ((n_2 : Int) < ((l_1n : Int)))) (br (decide ((((l_1n : Int)) : Int) ≤ 1024)) (R (.returned (.bool true)) w) (br (decide ((1026 : Int) < ((l_1n : Int)))) (R (.returned (.bool true)) w) (K3 w))) (br (decide ((1026 : Int) < ((l_1n : Int)))) (R (.returned (.bool true)) w) (K3 w)))
set_option maxRecDepth 100000 in
theorem e_ref15_Great (l_1 : Option Addr) (l_1n : Nat) (l_1c : Nat) (n_2 : Int) (R : Ending → World → Prop) (w : World) : fnV Tryz.prog Tryz.f23 an_ref15_Great [.slice l_1 l_1n l_1c, .int .i64 n_2] R w = sh_ref15_Great l_1 l_1n l_1c n_2 R w := by kernel_rfl
theorem c_ref15_Great {l_1 : Option Addr} {l_1n : Nat} {l_1c : Nat} {n_2 : Int} {R : Ending → World → Prop} {w : World} (h : sh_ref15_Great l_1 l_1n l_1c n_2 R w) : Calls Tryz.prog F_ref15_Great ⟨[.slice l_1 l_1n l_1c, .int .i64 n_2]⟩ w R := calls_of_fnV Tryz.func23 (by rw [e_ref15_Great]; exact h)

def an_tokenizer_Names : Ann := .two (.leaf) (.two (.leaf) (.two (.two (.leaf) (.one (.loop 2096936 [(3, .one (.slice)), (8, .one (.int .i64))] (.two (.leaf) (.two (.two (.leaf) (.leaf)) (.two (.one (.two (.leaf) (.two (.leaf) (.two (.leaf) (.leaf))))) (.leaf))))))) (.two (.leaf) (.two (.leaf) (.leaf)))))
def sh_tokenizer_Names (l_1 : Option Addr) (l_1n : Nat) (l_1c : Nat) (R : Ending → World → Prop) (w : World) : Prop :=
  ∃ (I2 : Option Addr → Nat → Nat → Int → World → Nat → Prop), (∃ m7 : Nat, I2 none 0 0 0 w m7) ∧ ∀ (out_3 : Option Addr) (out_3n : Nat) (out_3c : Nat) (t8_4 : Int) (w5 : World) (m6 : Nat), I2 out_3 out_3n out_3c t8_4 w5 m6 → ∀ _ : Env, (br (decide ((t8_4 : Int) < ((l_1n : Int)))) (idx l_1 l_1n t8_4 6 fun p8 =>
  ∃ (x9 : List UInt8), World.cell? w5 (p8.add 0) = some (.string ⟨⟨x9⟩⟩) ∧ (∃ (x10 : List UInt8), World.cell? w5 (p8.add 1) = some (.string ⟨⟨x10⟩⟩) ∧ (∃ (x11 : List UInt8), World.cell? w5 (p8.add 2) = some (.string ⟨⟨x11⟩⟩) ∧ (∃ (x12 : Int), World.cell? w5 (p8.add 3) = some (.int .i64 x12) ∧ (∃ (x13 : Int), World.cell? w5 (p8.add 4) = some (.int .i64 x13) ∧ (∃ (x14 : List UInt8), World.cell? w5 (p8.add 5) = some (.string ⟨⟨x14⟩⟩) ∧ (al w5 31 [.string ⟨⟨[]⟩⟩, .string ⟨⟨[]⟩⟩, .string ⟨⟨[]⟩⟩, .int .i64 0, .int .i64 0, .string ⟨⟨[]⟩⟩] fun p15 w16 =>
  stL w16 p15 0 [.string ⟨⟨x9⟩⟩, .string ⟨⟨x10⟩⟩, .string ⟨⟨x11⟩⟩, .int .i64 x12, .int .i64 x13, .string ⟨⟨x14⟩⟩] fun w17 =>
  ∃ (x18 : List UInt8), World.cell? w17 (p15.add 5) = some (.string ⟨⟨x18⟩⟩) ∧ (br (decide ((x18 : List UInt8) ≠ ([]))) (∃ (x19 : List UInt8), World.cell? w17 (p15.add 5) = some (.string ⟨⟨x19⟩⟩) ∧ (al w17 9 [.string ⟨⟨x19⟩⟩] fun p20 w21 =>
  app Tryz.prog [48, 48] 48 (.slice out_3 out_3n out_3c) (.slice (some p20) 1 1) w21 fun a22 a22n a22c w23 =>
  ∃ m24 : Nat, m24 < m6 ∧ I2 a22 a22n a22c (IntKind.i64.wrap (t8_4 + 1)) w23 m24)) (∃ m25 : Nat, m25 < m6 ∧ I2 out_3 out_3n out_3c (IntKind.i64.wrap (t8_4 + 1)) w17 m25))))))))) (Calls Tryz.prog 64 ⟨[.slice out_3 out_3n out_3c, .func (.func 25) #[] #[]]⟩ w5 fun (e26 : Ending) (w27 : World) =>
  e26 = .returned (.tuple ⟨[]⟩) ∧ (Calls Tryz.prog 65 ⟨[.slice out_3 out_3n out_3c]⟩ w27 fun (e28 : Ending) (w29 : World) =>
  ∃ (x30 : Option Addr) (x30n : Nat) (x30c : Nat), e28 = .returned (.slice x30 x30n x30c) ∧ (R (.returned (.slice x30 x30n x30c)) w29))))
set_option maxRecDepth 100000 in
theorem e_tokenizer_Names (l_1 : Option Addr) (l_1n : Nat) (l_1c : Nat) (R : Ending → World → Prop) (w : World) : fnV Tryz.prog Tryz.f24 an_tokenizer_Names [.slice l_1 l_1n l_1c] R w = sh_tokenizer_Names l_1 l_1n l_1c R w := by kernel_rfl
theorem c_tokenizer_Names {l_1 : Option Addr} {l_1n : Nat} {l_1c : Nat} {R : Ending → World → Prop} {w : World} (h : sh_tokenizer_Names l_1 l_1n l_1c R w) : Calls Tryz.prog F_tokenizer_Names ⟨[.slice l_1 l_1n l_1c]⟩ w R := calls_of_fnV Tryz.func24 (by rw [e_tokenizer_Names]; exact h)

def an_charset_Compare : Ann := .two (.leaf) (.two (.leaf) (.two (.two (.leaf) (.one (.loop 134214032 [(12, .one (.int .i64))] (.two (.leaf) (.two (.two (.leaf) (.leaf)) (.two (.one (.two (.leaf) (.two (.leaf) (.two (.leaf) (.two (.two (.leaf) (.leaf)) (.leaf)))))) (.leaf))))))) (.two (.leaf) (.leaf))))
def sh_charset_Compare (a_1 : List UInt8) (b_2 : List UInt8) (R : Ending → World → Prop) (w : World) : Prop :=
  al w 97 [.func (.func 66) #[] #[], .func (.func 68) #[] #[], .func (.func 69) #[] #[]] fun p3 w4 =>
  ∃ (I5 : Int → World → Nat → Prop), (∃ m9 : Nat, I5 0 w4 m9) ∧ ∀ (t12_6 : Int) (w7 : World) (m8 : Nat), I5 t12_6 w7 m8 → ∀ _ : Env, (br (decide ((t12_6 : Int) < ((3 : Nat)))) (idx (some p3) 3 t12_6 1 fun p10 =>
  ∃ (x11 : Fn) (x11a : Array Value) (x11b : Array Value), World.cell? w7 p10 = some (.func x11 x11a x11b) ∧ (CallV Tryz.prog (.func x11 x11a x11b) [.string ⟨⟨a_1⟩⟩] w7 fun (e12 : Ending) (w13 : World) =>
  ∃ (x14 : List UInt8), e12 = .returned (.string ⟨⟨x14⟩⟩) ∧ (CallV Tryz.prog (.func x11 x11a x11b) [.string ⟨⟨b_2⟩⟩] w13 fun (e15 : Ending) (w16 : World) =>
  ∃ (x17 : List UInt8), e15 = .returned (.string ⟨⟨x17⟩⟩) ∧ (Calls Tryz.prog 70 ⟨[.string ⟨⟨x14⟩⟩, .string ⟨⟨x17⟩⟩]⟩ w16 fun (e18 : Ending) (w19 : World) =>
  ∃ (x20 : Int), e18 = .returned (.int .i64 x20) ∧ (br (decide ((x20 : Int) ≠ 0)) (R (.returned (.int .i64 x20)) w19) (∃ m21 : Nat, m21 < m8 ∧ I5 (IntKind.i64.wrap (t12_6 + 1)) w19 m21)))))) (R (.returned (.int .i64 0)) w7))
set_option maxRecDepth 100000 in
theorem e_charset_Compare (a_1 : List UInt8) (b_2 : List UInt8) (R : Ending → World → Prop) (w : World) : fnV Tryz.prog Tryz.f25 an_charset_Compare [.string ⟨⟨a_1⟩⟩, .string ⟨⟨b_2⟩⟩] R w = sh_charset_Compare a_1 b_2 R w := by kernel_rfl
theorem c_charset_Compare {a_1 : List UInt8} {b_2 : List UInt8} {R : Ending → World → Prop} {w : World} (h : sh_charset_Compare a_1 b_2 R w) : Calls Tryz.prog F_charset_Compare ⟨[.string ⟨⟨a_1⟩⟩, .string ⟨⟨b_2⟩⟩]⟩ w R := calls_of_fnV Tryz.func25 (by rw [e_charset_Compare]; exact h)

def an_slices_ContainsFunc_of_api_Token_api_Token : Ann := .two (.leaf) (.two (.leaf) (.leaf))
def sh_slices_ContainsFunc_of_api_Token_api_Token (s_1 : Option Addr) (s_1n : Nat) (s_1c : Nat) (f_2 : Fn) (f_2a : Array Value) (f_2b : Array Value) (R : Ending → World → Prop) (w : World) : Prop :=
  Calls Tryz.prog 71 ⟨[.slice s_1 s_1n s_1c, .func f_2 f_2a f_2b]⟩ w fun (e3 : Ending) (w4 : World) =>
  ∃ (x5 : Int), e3 = .returned (.int .i64 x5) ∧ (R (.returned (.bool (decide ((0 : Int) ≤ x5)))) w4)
set_option maxRecDepth 100000 in
theorem e_slices_ContainsFunc_of_api_Token_api_Token (s_1 : Option Addr) (s_1n : Nat) (s_1c : Nat) (f_2 : Fn) (f_2a : Array Value) (f_2b : Array Value) (R : Ending → World → Prop) (w : World) : fnV Tryz.prog Tryz.f26 an_slices_ContainsFunc_of_api_Token_api_Token [.slice s_1 s_1n s_1c, .func f_2 f_2a f_2b] R w = sh_slices_ContainsFunc_of_api_Token_api_Token s_1 s_1n s_1c f_2 f_2a f_2b R w := by kernel_rfl
theorem c_slices_ContainsFunc_of_api_Token_api_Token {s_1 : Option Addr} {s_1n : Nat} {s_1c : Nat} {f_2 : Fn} {f_2a : Array Value} {f_2b : Array Value} {R : Ending → World → Prop} {w : World} (h : sh_slices_ContainsFunc_of_api_Token_api_Token s_1 s_1n s_1c f_2 f_2a f_2b R w) : Calls Tryz.prog F_slices_ContainsFunc_of_api_Token_api_Token ⟨[.slice s_1 s_1n s_1c, .func f_2 f_2a f_2b]⟩ w R := calls_of_fnV Tryz.func26 (by rw [e_slices_ContainsFunc_of_api_Token_api_Token]; exact h)

def an_law15_TokenizerNames_1 : Ann := .two (.leaf) (.two (.leaf) (.leaf))
def sh_law15_TokenizerNames_1 (t_1 : List UInt8) (t_2 : List UInt8) (t_3 : List UInt8) (t_4 : Int) (t_5 : Int) (t_6 : List UInt8) (t1_7 : Option Addr) (R : Ending → World → Prop) (w : World) : Prop :=
  al w 31 [.string ⟨⟨t_1⟩⟩, .string ⟨⟨t_2⟩⟩, .string ⟨⟨t_3⟩⟩, .int .i64 t_4, .int .i64 t_5, .string ⟨⟨t_6⟩⟩] fun p8 w9 =>
  ∃ (x10 : List UInt8), World.cell? w9 (p8.add 5) = some (.string ⟨⟨x10⟩⟩) ∧ (dr t1_7 fun p11 =>
  ∃ (x12 : List UInt8), World.cell? w9 p11 = some (.string ⟨⟨x12⟩⟩) ∧ (R (.returned (.bool (decide ((x10 : List UInt8) = x12)))) w9))
set_option maxRecDepth 100000 in
theorem e_law15_TokenizerNames_1 (t_1 : List UInt8) (t_2 : List UInt8) (t_3 : List UInt8) (t_4 : Int) (t_5 : Int) (t_6 : List UInt8) (t1_7 : Option Addr) (R : Ending → World → Prop) (w : World) : fnV Tryz.prog Tryz.f27 an_law15_TokenizerNames_1 [.agg ⟨[.string ⟨⟨t_1⟩⟩, .string ⟨⟨t_2⟩⟩, .string ⟨⟨t_3⟩⟩, .int .i64 t_4, .int .i64 t_5, .string ⟨⟨t_6⟩⟩]⟩, .pointer t1_7] R w = sh_law15_TokenizerNames_1 t_1 t_2 t_3 t_4 t_5 t_6 t1_7 R w := by kernel_rfl
theorem c_law15_TokenizerNames_1 {t_1 : List UInt8} {t_2 : List UInt8} {t_3 : List UInt8} {t_4 : Int} {t_5 : Int} {t_6 : List UInt8} {t1_7 : Option Addr} {R : Ending → World → Prop} {w : World} (h : sh_law15_TokenizerNames_1 t_1 t_2 t_3 t_4 t_5 t_6 t1_7 R w) : Calls Tryz.prog F_law15_TokenizerNames_1 ⟨[.agg ⟨[.string ⟨⟨t_1⟩⟩, .string ⟨⟨t_2⟩⟩, .string ⟨⟨t_3⟩⟩, .int .i64 t_4, .int .i64 t_5, .string ⟨⟨t_6⟩⟩]⟩, .pointer t1_7]⟩ w R := calls_of_fnV Tryz.func27 (by rw [e_law15_TokenizerNames_1]; exact h)

def an_slices_Contains_of_string_string : Ann := .two (.leaf) (.two (.leaf) (.leaf))
def sh_slices_Contains_of_string_string (s_1 : Option Addr) (s_1n : Nat) (s_1c : Nat) (v_2 : List UInt8) (R : Ending → World → Prop) (w : World) : Prop :=
  Calls Tryz.prog 72 ⟨[.slice s_1 s_1n s_1c, .string ⟨⟨v_2⟩⟩]⟩ w fun (e3 : Ending) (w4 : World) =>
  ∃ (x5 : Int), e3 = .returned (.int .i64 x5) ∧ (R (.returned (.bool (decide ((0 : Int) ≤ x5)))) w4)
set_option maxRecDepth 100000 in
theorem e_slices_Contains_of_string_string (s_1 : Option Addr) (s_1n : Nat) (s_1c : Nat) (v_2 : List UInt8) (R : Ending → World → Prop) (w : World) : fnV Tryz.prog Tryz.f28 an_slices_Contains_of_string_string [.slice s_1 s_1n s_1c, .string ⟨⟨v_2⟩⟩] R w = sh_slices_Contains_of_string_string s_1 s_1n s_1c v_2 R w := by kernel_rfl
theorem c_slices_Contains_of_string_string {s_1 : Option Addr} {s_1n : Nat} {s_1c : Nat} {v_2 : List UInt8} {R : Ending → World → Prop} {w : World} (h : sh_slices_Contains_of_string_string s_1 s_1n s_1c v_2 R w) : Calls Tryz.prog F_slices_Contains_of_string_string ⟨[.slice s_1 s_1n s_1c, .string ⟨⟨v_2⟩⟩]⟩ w R := calls_of_fnV Tryz.func28 (by rw [e_slices_Contains_of_string_string]; exact h)

def an_tokenizer_Text : Ann := .two (.leaf) (.two (.two (.leaf) (.two (.two (.leaf) (.leaf)) (.leaf))) (.two (.two (.leaf) (.two (.two (.leaf) (.leaf)) (.leaf))) (.two (.leaf) (.two (.two (.leaf) (.one (.loop 4294951008 [(14, .one (.int .i64))] (.two (.leaf) (.two (.two (.leaf) (.leaf)) (.two (.one (.two (.leaf) (.two (.two (.leaf) (.two (.leaf) (.leaf))) (.leaf)))) (.leaf))))))) (.two (.two (.leaf) (.two (.two (.leaf) (.leaf)) (.leaf))) (.two (.leaf) (.leaf)))))))
def sh_tokenizer_Text (l_1 : Option Addr) (l_1n : Nat) (l_1c : Nat) (R : Ending → World → Prop) (w : World) : Prop :=
  br (decide ((1024 : Int) < ((l_1n : Int)))) (R (.returned (.tuple ⟨[.string ⟨⟨[]⟩⟩, .int .i64 4]⟩)) w) (Calls Tryz.prog 26 ⟨[.slice l_1 l_1n l_1c, .func (.func 60) #[] #[]]⟩ w fun (e2 : Ending) (w3 : World) =>
  ∃ (x4 : Bool), e2 = .returned (.bool x4) ∧ (br x4 (R (.returned (.tuple ⟨[.string ⟨⟨[]⟩⟩, .int .i64 1]⟩)) w3) (al w3 75 [.pointer none, .slice none 0 0] fun p5 w6 =>
  ∃ (I7 : Int → World → Nat → Prop), (∃ m11 : Nat, I7 0 w6 m11) ∧ ∀ (t14_8 : Int) (w9 : World) (m10 : Nat), I7 t14_8 w9 m10 → ∀ _ : Env, (br (decide ((t14_8 : Int) < ((l_1n : Int)))) (idx l_1 l_1n t14_8 6 fun p12 =>
  ∃ (x13 : List UInt8), World.cell? w9 (p12.add 0) = some (.string ⟨⟨x13⟩⟩) ∧ (∃ (x14 : List UInt8), World.cell? w9 (p12.add 1) = some (.string ⟨⟨x14⟩⟩) ∧ (∃ (x15 : List UInt8), World.cell? w9 (p12.add 2) = some (.string ⟨⟨x15⟩⟩) ∧ (∃ (x16 : Int), World.cell? w9 (p12.add 3) = some (.int .i64 x16) ∧ (∃ (x17 : Int), World.cell? w9 (p12.add 4) = some (.int .i64 x17) ∧ (∃ (x18 : List UInt8), World.cell? w9 (p12.add 5) = some (.string ⟨⟨x18⟩⟩) ∧ (al w9 31 [.string ⟨⟨[]⟩⟩, .string ⟨⟨[]⟩⟩, .string ⟨⟨[]⟩⟩, .int .i64 0, .int .i64 0, .string ⟨⟨[]⟩⟩] fun p19 w20 =>
  stL w20 p19 0 [.string ⟨⟨x13⟩⟩, .string ⟨⟨x14⟩⟩, .string ⟨⟨x15⟩⟩, .int .i64 x16, .int .i64 x17, .string ⟨⟨x18⟩⟩] fun w21 =>
  br (decide ((0 : Int) < t14_8)) (∃ (x22 : Int), World.cell? w21 (p19.add 4) = some (.int .i64 x22) ∧ (br (decide (((bitA .i64 x22 16) : Int) = 0)) (Calls Tryz.prog 79 ⟨[.pointer (some p5), .int .u8 32]⟩ w21 fun (e23 : Ending) (w24 : World) =>
  ∃ (x25 : Value), e23 = .returned (x25) ∧ (∃ (x26 : List UInt8), World.cell? w24 (p19.add 0) = some (.string ⟨⟨x26⟩⟩) ∧ (Calls Tryz.prog 47 ⟨[.pointer (some p5), .string ⟨⟨x26⟩⟩]⟩ w24 fun (e27 : Ending) (w28 : World) =>
  ∃ (x29 : Int) (x30 : Value), e27 = .returned (.tuple ⟨[.int .i64 x29, x30]⟩) ∧ (∃ m31 : Nat, m31 < m10 ∧ I7 (IntKind.i64.wrap (t14_8 + 1)) w28 m31)))) (∃ (x32 : List UInt8), World.cell? w21 (p19.add 0) = some (.string ⟨⟨x32⟩⟩) ∧ (Calls Tryz.prog 47 ⟨[.pointer (some p5), .string ⟨⟨x32⟩⟩]⟩ w21 fun (e33 : Ending) (w34 : World) =>
  ∃ (x35 : Int) (x36 : Value), e33 = .returned (.tuple ⟨[.int .i64 x35, x36]⟩) ∧ (∃ m37 : Nat, m37 < m10 ∧ I7 (IntKind.i64.wrap (t14_8 + 1)) w34 m37))))) (∃ (x38 : List UInt8), World.cell? w21 (p19.add 0) = some (.string ⟨⟨x38⟩⟩) ∧ (Calls Tryz.prog 47 ⟨[.pointer (some p5), .string ⟨⟨x38⟩⟩]⟩ w21 fun (e39 : Ending) (w40 : World) =>
  ∃ (x41 : Int) (x42 : Value), e39 = .returned (.tuple ⟨[.int .i64 x41, x42]⟩) ∧ (∃ m43 : Nat, m43 < m10 ∧ I7 (IntKind.i64.wrap (t14_8 + 1)) w40 m43)))))))))) (Calls Tryz.prog 80 ⟨[.pointer (some p5)]⟩ w9 fun (e44 : Ending) (w45 : World) =>
  ∃ (x46 : Int), e44 = .returned (.int .i64 x46) ∧ (br (decide ((65536 : Int) < x46)) (R (.returned (.tuple ⟨[.string ⟨⟨[]⟩⟩, .int .i64 4]⟩)) w45) (Calls Tryz.prog 48 ⟨[.pointer (some p5)]⟩ w45 fun (e47 : Ending) (w48 : World) =>
  ∃ (x49 : List UInt8), e47 = .returned (.string ⟨⟨x49⟩⟩) ∧ (R (.returned (.tuple ⟨[.string ⟨⟨x49⟩⟩, .int .i64 0]⟩)) w48))))))))
set_option maxRecDepth 100000 in
theorem e_tokenizer_Text (l_1 : Option Addr) (l_1n : Nat) (l_1c : Nat) (R : Ending → World → Prop) (w : World) : fnV Tryz.prog Tryz.f30 an_tokenizer_Text [.slice l_1 l_1n l_1c] R w = sh_tokenizer_Text l_1 l_1n l_1c R w := by kernel_rfl
theorem c_tokenizer_Text {l_1 : Option Addr} {l_1n : Nat} {l_1c : Nat} {R : Ending → World → Prop} {w : World} (h : sh_tokenizer_Text l_1 l_1n l_1c R w) : Calls Tryz.prog F_tokenizer_Text ⟨[.slice l_1 l_1n l_1c]⟩ w R := calls_of_fnV Tryz.func30 (by rw [e_tokenizer_Text]; exact h)

def an_tokenizer_Split : Ann := .two (.leaf) (.two (.two (.leaf) (.two (.leaf) (.two (.two (.leaf) (.leaf)) (.leaf)))) (.two (.two (.leaf) (.two (.two (.leaf) (.leaf)) (.leaf))) (.two (.leaf) (.two (.leaf) (.leaf)))))
def sh_tokenizer_Split (s_1 : List UInt8) (R : Ending → World → Prop) (w : World) : Prop :=
  Calls Tryz.prog 37 ⟨[.string ⟨⟨s_1⟩⟩]⟩ w fun (e2 : Ending) (w3 : World) =>
  ∃ (x4 : Int), e2 = .returned (.int .i64 x4) ∧ (br (decide ((x4 : Int) ≠ 0)) (R (.returned (.tuple ⟨[.slice none 0 0, .int .i64 x4]⟩)) w3) (br (decide ((s_1 : List UInt8) = ([]))) (R (.returned (.tuple ⟨[.slice none 0 0, .int .i64 0]⟩)) w3) (al w3 64 [.int .i64 1, .string ⟨⟨s_1⟩⟩, .int .i64 0, .slice none 0 0] fun p5 w6 =>
  Calls Tryz.prog 38 ⟨[.agg ⟨[.string ⟨⟨[]⟩⟩, .int .i64 0]⟩, .slice (some p5) 1 1, .slice none 0 0]⟩ w6 fun (e7 : Ending) (w8 : World) =>
  ∃ (x9 : Option Addr) (x9n : Nat) (x9c : Nat) (x10 : Int), e7 = .returned (.tuple ⟨[.slice x9 x9n x9c, .int .i64 x10]⟩) ∧ (Calls Tryz.prog 22 ⟨[.slice x9 x9n x9c]⟩ w8 fun (e11 : Ending) (w12 : World) =>
  ∃ (x13 : Option Addr) (x13n : Nat) (x13c : Nat), e11 = .returned (.slice x13 x13n x13c) ∧ (R (.returned (.tuple ⟨[.slice x13 x13n x13c, .int .i64 x10]⟩)) w12)))))
set_option maxRecDepth 100000 in
theorem e_tokenizer_Split (s_1 : List UInt8) (R : Ending → World → Prop) (w : World) : fnV Tryz.prog Tryz.f32 an_tokenizer_Split [.string ⟨⟨s_1⟩⟩] R w = sh_tokenizer_Split s_1 R w := by kernel_rfl
theorem c_tokenizer_Split {s_1 : List UInt8} {R : Ending → World → Prop} {w : World} (h : sh_tokenizer_Split s_1 R w) : Calls Tryz.prog F_tokenizer_Split ⟨[.string ⟨⟨s_1⟩⟩]⟩ w R := calls_of_fnV Tryz.func32 (by rw [e_tokenizer_Split]; exact h)

def an_charset_Check : Ann := .two (.leaf) (.two (.two (.leaf) (.two (.two (.leaf) (.leaf)) (.leaf))) (.two (.two (.leaf) (.one (.rf [2, 10] 0))) (.two (.leaf) (.leaf))))
def sh_charset_Check (s_1 : List UInt8) (R : Ending → World → Prop) (w : World) : Prop :=
  al w 32 [.int .i64 0] fun p2 w3 =>
  br (decide ((65536 : Int) < ((List.length s_1 : Int)))) (stL w3 p2 0 [.int .i64 4] fun w4 =>
  ∃ (x5 : Int), World.cell? w4 p2 = some (.int .i64 x5) ∧ (R (.returned (.int .i64 x5)) w4)) (Calls Tryz.prog 89 ⟨[.string ⟨⟨s_1⟩⟩]⟩ w3 fun (e6 : Ending) (w7 : World) =>
  ∃ (x8 : Fn) (x8a : Array Value) (x8b : Array Value), e6 = .returned (.func x8 x8a x8b) ∧ (∀ base9 : Env, RFw Tryz.prog none 22 (cdAt Tryz.f37 [1, 1, 0, 1, 2]) (upd (upd base9 10 (.func x8 x8a x8b)) 2 (.pointer (some p2))) [] w7 0 (fun ds10 w11 =>
  stL w11 p2 0 [.int .i64 0] fun w15 =>
  retD ds10 w15 fun w16 =>
  ∃ (x17 : Int), World.cell? w16 p2 = some (.int .i64 x17) ∧ (R (.returned (.int .i64 x17)) w16)) (fun ds10 w11 =>
  retD ds10 w11 fun w18 =>
  ∃ (x19 : Int), World.cell? w18 p2 = some (.int .i64 x19) ∧ (R (.returned (.int .i64 x19)) w18)) (fun ds10 w11 =>
  stL w11 p2 0 [.int .i64 0] fun w12 =>
  retD ds10 w12 fun w13 =>
  ∃ (x14 : Int), World.cell? w13 p2 = some (.int .i64 x14) ∧ (R (.returned (.int .i64 x14)) w13))))
set_option maxRecDepth 100000 in
theorem e_charset_Check (s_1 : List UInt8) (R : Ending → World → Prop) (w : World) : fnV Tryz.prog Tryz.f37 an_charset_Check [.string ⟨⟨s_1⟩⟩] R w = sh_charset_Check s_1 R w := by kernel_rfl
theorem c_charset_Check {s_1 : List UInt8} {R : Ending → World → Prop} {w : World} (h : sh_charset_Check s_1 R w) : Calls Tryz.prog F_charset_Check ⟨[.string ⟨⟨s_1⟩⟩]⟩ w R := calls_of_fnV Tryz.func37 (by rw [e_charset_Check]; exact h)
def anA_charset_Check_1 : Ann := .leaf
def anB_charset_Check_1 : Ann := .one (.two (.leaf) (.two (.leaf) (.two (.two (.leaf) (.leaf)) (.leaf))))
def rf_charset_Check_1 (t2_20 : Option Addr) (t10_21 : Fn) (t10_21a : Array Value) (t10_21b : Array Value) (t11_22 : Value) (t12_23 : List UInt8) (l : Nat) (Kn Kr Kx : World → World → Prop) (w : World) : Prop :=
  Ext w w ∧ ∀ w24 : World, Upd l w w24 → (sidx t12_23 0 fun b25 =>
  Calls Tryz.prog 55 ⟨[.int .u8 ((b25.toNat : Int))]⟩ w24 fun (e26 : Ending) (w27 : World) =>
  ∃ (x28 : Int), e26 = .returned (.int .i64 x28) ∧ (br (decide ((x28 : Int) = 0)) (dr t2_20 fun p30 =>
  stL w27 p30 0 [.int .i64 11] fun w29 =>
  Kr w24 w29) (br (decide ((x28 : Int) = 2)) (dr t2_20 fun p32 =>
  stL w27 p32 0 [.int .i64 11] fun w31 =>
  Kr w24 w31) (Kn w24 w27))))
set_option maxRecDepth 100000 in
theorem er_charset_Check_1 (base : Env) (t2_20 : Option Addr) (t10_21 : Fn) (t10_21a : Array Value) (t10_21b : Array Value) (t11_22 : Value) (t12_23 : List UInt8) (l : Nat) (Kn Kr Kx : World → World → Prop) (w : World) : fragV Tryz.prog 22 anA_charset_Check_1 anB_charset_Check_1 (cdAt Tryz.f37 [1, 1, 0, 1, 2, 5]) (cdAt Tryz.f37 [1, 1, 0, 1, 2, 6]) l 0 Kn Kr Kx (updPs [11, 12] [t11_22, .string ⟨⟨t12_23⟩⟩] (upd (upd base 10 (.func t10_21 t10_21a t10_21b)) 2 (.pointer t2_20))) w = rf_charset_Check_1 t2_20 t10_21 t10_21a t10_21b t11_22 t12_23 l Kn Kr Kx w := by kernel_rfl
theorem cd_charset_Check_1 : cdAt Tryz.f37 [1, 1, 0, 1, 2] = .rangeFunc (Operand.tmp 10) #[11, 12] (cdAt Tryz.f37 [1, 1, 0, 1, 2, 5]) (cdAt Tryz.f37 [1, 1, 0, 1, 2, 6]) := by kernel_rfl

def an_tokenizer_Tokens : Ann := .two (.leaf) (.cut 4178112 [(6, .one (.slice)), (7, .one (.int .i64))] (.two (.leaf) (.two (.two (.leaf) (.leaf)) (.leaf))) (.cut 1069547712 [(6, .one (.slice)), (7, .one (.int .i64))] (.two (.leaf) (.two (.two (.leaf) (.leaf)) (.leaf))) (.two (.two (.leaf) (.two (.two (.leaf) (.leaf)) (.leaf))) (.two (.leaf) (.two (.leaf) (.two (.two (.leaf) (.two (.two (.leaf) (.leaf)) (.leaf))) (.two (.leaf) (.two (.two (.leaf) (.one (.rf [2, 6, 7, 12, 50] 0))) (.two (.leaf) (.cut 18410715276690587840 [] (.two (.leaf) (.two (.two (.leaf) (.leaf)) (.leaf))) (.two (.leaf) (.leaf))))))))))))
def sh_tokenizer_Tokens (start_1 : List UInt8) (start_2 : Int) (l_3 : Option Addr) (l_3n : Nat) (l_3c : Nat) (rules_4 : Option Addr) (rules_4n : Nat) (rules_4c : Nat) (R : Ending → World → Prop) (w : World) : Prop :=
  al w 29 [.string ⟨⟨start_1⟩⟩, .int .i64 start_2] fun p5 w6 =>
  ∀ (K7 : Option Addr → Nat → Nat → Int → World → Prop), (∀ (t6_8 : Option Addr) (t6_8n : Nat) (t6_8c : Nat) (t7_9 : Int) (w10 : World), (∀ _ : Env, (∀ (K11 : Option Addr → Nat → Nat → Int → World → Prop), (∀ (t6_12 : Option Addr) (t6_12n : Nat) (t6_12c : Nat) (t7_13 : Int) (w14 : World), (∀ _ : Env, (∃ (x15 : List UInt8), World.cell? w14 (p5.add 0) = some (.string ⟨⟨x15⟩⟩) ∧ (Calls Tryz.prog 54 ⟨[.string ⟨⟨x15⟩⟩]⟩ w14 fun (e16 : Ending) (w17 : World) =>
  ∃ (x18 : Bool), e16 = .returned (.bool x18) ∧ (br (!x18) (R (.returned (.tuple ⟨[.slice none 0 0, .int .i64 14]⟩)) w17) (Calls Tryz.prog 12 ⟨[.slice l_3 l_3n l_3c, .int .i64 8]⟩ w17 fun (e19 : Ending) (w20 : World) =>
  ∃ (x21 : Int) (x22 : Int), e19 = .returned (.tuple ⟨[.int .i64 x21, .int .i64 x22]⟩) ∧ (Calls Tryz.prog 12 ⟨[.slice l_3 l_3n l_3c, .int .i64 9]⟩ w20 fun (e23 : Ending) (w24 : World) =>
  ∃ (x25 : Int) (x26 : Int), e23 = .returned (.tuple ⟨[.int .i64 x25, .int .i64 x26]⟩) ∧ (br (decide ((0 : Int) < (IntKind.i64.wrap (x21 + x25)))) (R (.returned (.tuple ⟨[.slice none 0 0, .int .i64 13]⟩)) w24) (al w24 113 [.slice none 0 0, .pointer none, .slice none 0 0, .bool false, .bool false, .bool false] fun p27 w28 =>
  ∃ (x29 : List UInt8), World.cell? w28 (p5.add 0) = some (.string ⟨⟨x29⟩⟩) ∧ (∃ (x30 : Int), World.cell? w28 (p5.add 1) = some (.int .i64 x30) ∧ (Calls Tryz.prog 90 ⟨[.agg ⟨[.string ⟨⟨x29⟩⟩, .int .i64 x30]⟩, .slice l_3 l_3n l_3c]⟩ w28 fun (e31 : Ending) (w32 : World) =>
  ∃ (x33 : Fn) (x33a : Array Value) (x33b : Array Value), e31 = .returned (.func x33 x33a x33b) ∧ (∀ base34 : Env, RFw Tryz.prog none 70 (cdAt Tryz.f38 [1, 1, 1, 1, 1, 1, 1, 1, 0, 1, 2]) (upd (upd (upd (upd (upd base34 50 (.func x33 x33a x33b)) 12 (.pointer (some p27))) 7 (.int .i64 t7_13)) 6 (.slice t6_12 t6_12n t6_12c)) 2 (.slice rules_4 rules_4n rules_4c)) [] w32 0 (fun ds35 w36 =>
  Calls Tryz.prog 92 ⟨[.pointer (some p27)]⟩ w36 fun (e54 : Ending) (w55 : World) =>
  e54 = .returned (.tuple ⟨[]⟩) ∧ (∀ (K56 : World → Prop), (∀  (w57 : World), (∀ _ : Env, (∃ (x58 : Option Addr) (x58n : Nat) (x58c : Nat), World.cell? w57 (p27.add 0) = some (.slice x58 x58n x58c) ∧ (Calls Tryz.prog 61 ⟨[.slice rules_4 rules_4n rules_4c, .slice x58 x58n x58c]⟩ w57 fun (e59 : Ending) (w60 : World) =>
  ∃ (x61 : Option Addr) (x61n : Nat) (x61c : Nat) (x62 : Int), e59 = .returned (.tuple ⟨[.slice x61 x61n x61c, .int .i64 x62]⟩) ∧ (retD ds35 w60 fun w63 =>
  R (.returned (.tuple ⟨[.slice x61 x61n x61c, .int .i64 x62]⟩)) w63)))) → K56 w57) → (∃ (x64 : Option Addr) (x64n : Nat) (x64c : Nat), World.cell? w55 (p27.add 0) = some (.slice x64 x64n x64c) ∧ (br (decide ((1024 : Int) < ((x64n : Int)))) (retD ds35 w55 fun w65 =>
  R (.returned (.tuple ⟨[.slice none 0 0, .int .i64 4]⟩)) w65) (∃ (x66 : Option Addr) (x66n : Nat) (x66c : Nat), World.cell? w55 (p27.add 0) = some (.slice x66 x66n x66c) ∧ (Calls Tryz.prog 26 ⟨[.slice x66 x66n x66c, .func (.func 93) #[] #[]]⟩ w55 fun (e67 : Ending) (w68 : World) =>
  ∃ (x69 : Bool), e67 = .returned (.bool x69) ∧ (br x69 (retD ds35 w68 fun w70 =>
  R (.returned (.tuple ⟨[.slice none 0 0, .int .i64 4]⟩)) w70) (K56 w68)))))))) (fun ds35 w36 =>
  retD ds35 w36 fun w71 =>
  R (.returned (.tuple ⟨[.slice t6_12 t6_12n t6_12c, .int .i64 t7_13]⟩)) w71) (fun ds35 w36 =>
  Calls Tryz.prog 92 ⟨[.pointer (some p27)]⟩ w36 fun (e37 : Ending) (w38 : World) =>
  e37 = .returned (.tuple ⟨[]⟩) ∧ (∀ (K39 : World → Prop), (∀  (w40 : World), (∀ _ : Env, (∃ (x41 : Option Addr) (x41n : Nat) (x41c : Nat), World.cell? w40 (p27.add 0) = some (.slice x41 x41n x41c) ∧ (Calls Tryz.prog 61 ⟨[.slice rules_4 rules_4n rules_4c, .slice x41 x41n x41c]⟩ w40 fun (e42 : Ending) (w43 : World) =>
  ∃ (x44 : Option Addr) (x44n : Nat) (x44c : Nat) (x45 : Int), e42 = .returned (.tuple ⟨[.slice x44 x44n x44c, .int .i64 x45]⟩) ∧ (retD ds35 w43 fun w46 =>
  R (.returned (.tuple ⟨[.slice x44 x44n x44c, .int .i64 x45]⟩)) w46)))) → K39 w40) → (∃ (x47 : Option Addr) (x47n : Nat) (x47c : Nat), World.cell? w38 (p27.add 0) = some (.slice x47 x47n x47c) ∧ (br (decide ((1024 : Int) < ((x47n : Int)))) (retD ds35 w38 fun w48 =>
  R (.returned (.tuple ⟨[.slice none 0 0, .int .i64 4]⟩)) w48) (∃ (x49 : Option Addr) (x49n : Nat) (x49c : Nat), World.cell? w38 (p27.add 0) = some (.slice x49 x49n x49c) ∧ (Calls Tryz.prog 26 ⟨[.slice x49 x49n x49c, .func (.func 93) #[] #[]]⟩ w38 fun (e50 : Ending) (w51 : World) =>
  ∃ (x52 : Bool), e50 = .returned (.bool x52) ∧ (br x52 (retD ds35 w51 fun w53 =>
  R (.returned (.tuple ⟨[.slice none 0 0, .int .i64 4]⟩)) w53) (K39 w51))))))))))))))))))) → K11 t6_12 t6_12n t6_12c t7_13 w14) → (∃ (x72 : Int), World.cell? w10 (p5.add 1) = some (.int .i64 x72) ∧ (br (decide ((x72 : Int) < 0)) (R (.returned (.tuple ⟨[.slice none 0 0, .int .i64 2]⟩)) w10) (∃ (x73 : Int), World.cell? w10 (p5.add 1) = some (.int .i64 x73) ∧ (br (decide ((4096 : Int) < x73)) (R (.returned (.tuple ⟨[.slice none 0 0, .int .i64 2]⟩)) w10) (K11 t6_8 t6_8n t6_8c t7_9 w10))))))) → K7 t6_8 t6_8n t6_8c t7_9 w10) → (Calls Tryz.prog 43 ⟨[.slice l_3 l_3n l_3c]⟩ w6 fun (e74 : Ending) (w75 : World) =>
  ∃ (x76 : Int), e74 = .returned (.int .i64 x76) ∧ (br (decide ((x76 : Int) ≠ 0)) (R (.returned (.tuple ⟨[.slice none 0 0, .int .i64 1]⟩)) w75) (Calls Tryz.prog 17 ⟨[.slice rules_4 rules_4n rules_4c]⟩ w75 fun (e77 : Ending) (w78 : World) =>
  ∃ (x79 : Int), e77 = .returned (.int .i64 x79) ∧ (br (decide ((x79 : Int) ≠ 0)) (R (.returned (.tuple ⟨[.slice none 0 0, .int .i64 1]⟩)) w78) (K7 none 0 0 0 w78)))))
set_option maxRecDepth 100000 in
theorem e_tokenizer_Tokens (start_1 : List UInt8) (start_2 : Int) (l_3 : Option Addr) (l_3n : Nat) (l_3c : Nat) (rules_4 : Option Addr) (rules_4n : Nat) (rules_4c : Nat) (R : Ending → World → Prop) (w : World) : fnV Tryz.prog Tryz.f38 an_tokenizer_Tokens [.agg ⟨[.string ⟨⟨start_1⟩⟩, .int .i64 start_2]⟩, .slice l_3 l_3n l_3c, .slice rules_4 rules_4n rules_4c] R w = sh_tokenizer_Tokens start_1 start_2 l_3 l_3n l_3c rules_4 rules_4n rules_4c R w := by kernel_rfl
theorem c_tokenizer_Tokens {start_1 : List UInt8} {start_2 : Int} {l_3 : Option Addr} {l_3n : Nat} {l_3c : Nat} {rules_4 : Option Addr} {rules_4n : Nat} {rules_4c : Nat} {R : Ending → World → Prop} {w : World} (h : sh_tokenizer_Tokens start_1 start_2 l_3 l_3n l_3c rules_4 rules_4n rules_4c R w) : Calls Tryz.prog F_tokenizer_Tokens ⟨[.agg ⟨[.string ⟨⟨start_1⟩⟩, .int .i64 start_2]⟩, .slice l_3 l_3n l_3c, .slice rules_4 rules_4n rules_4c]⟩ w R := calls_of_fnV Tryz.func38 (by rw [e_tokenizer_Tokens]; exact h)
def anA_tokenizer_Tokens_1 : Ann := .leaf
def anB_tokenizer_Tokens_1 : Ann := .one (.leaf)
def rf_tokenizer_Tokens_1 (rules_80 : Option Addr) (rules_80n : Nat) (rules_80c : Nat) (t6_81 : Option Addr) (t6_81n : Nat) (t6_81c : Nat) (t7_82 : Int) (b_83 : Option Addr) (t50_84 : Fn) (t50_84a : Array Value) (t50_84b : Array Value) (t51_85 : Int) (t51_86 : Int) (t51_87 : Int) (t51_88 : List UInt8) (t51_89 : Int) (t51_90 : Bool) (t51_91 : List UInt8) (l : Nat) (Kn Kr Kx : World → World → Prop) (w : World) : Prop :=
  al w 118 [.int .i64 0, .int .u8 0, .int .i64 0, .string ⟨⟨[]⟩⟩, .int .i64 0, .bool false, .string ⟨⟨[]⟩⟩] fun p93 w94 =>
  stL w94 p93 0 [.int .i64 t51_85, .int .u8 t51_86, .int .i64 t51_87, .string ⟨⟨t51_88⟩⟩, .int .i64 t51_89, .bool t51_90, .string ⟨⟨t51_91⟩⟩] fun w95 =>
  Ext w w95 ∧ ∀ w92 : World, Upd l w95 w92 → (∃ (x96 : Int), World.cell? w92 (p93.add 0) = some (.int .i64 x96) ∧ (∃ (x97 : Int), World.cell? w92 (p93.add 1) = some (.int .u8 x97) ∧ (∃ (x98 : Int), World.cell? w92 (p93.add 2) = some (.int .i64 x98) ∧ (∃ (x99 : List UInt8), World.cell? w92 (p93.add 3) = some (.string ⟨⟨x99⟩⟩) ∧ (∃ (x100 : Int), World.cell? w92 (p93.add 4) = some (.int .i64 x100) ∧ (∃ (x101 : Bool), World.cell? w92 (p93.add 5) = some (.bool x101) ∧ (∃ (x102 : List UInt8), World.cell? w92 (p93.add 6) = some (.string ⟨⟨x102⟩⟩) ∧ (Calls Tryz.prog 91 ⟨[.pointer b_83, .agg ⟨[.int .i64 x96, .int .u8 x97, .int .i64 x98, .string ⟨⟨x99⟩⟩, .int .i64 x100, .bool x101, .string ⟨⟨x102⟩⟩]⟩]⟩ w92 fun (e103 : Ending) (w104 : World) =>
  e103 = .returned (.tuple ⟨[]⟩) ∧ (Kn w92 w104)))))))))
set_option maxRecDepth 100000 in
theorem er_tokenizer_Tokens_1 (base : Env) (rules_80 : Option Addr) (rules_80n : Nat) (rules_80c : Nat) (t6_81 : Option Addr) (t6_81n : Nat) (t6_81c : Nat) (t7_82 : Int) (b_83 : Option Addr) (t50_84 : Fn) (t50_84a : Array Value) (t50_84b : Array Value) (t51_85 : Int) (t51_86 : Int) (t51_87 : Int) (t51_88 : List UInt8) (t51_89 : Int) (t51_90 : Bool) (t51_91 : List UInt8) (l : Nat) (Kn Kr Kx : World → World → Prop) (w : World) : fragV Tryz.prog 70 anA_tokenizer_Tokens_1 anB_tokenizer_Tokens_1 (cdAt Tryz.f38 [1, 1, 1, 1, 1, 1, 1, 1, 0, 1, 2, 5]) (cdAt Tryz.f38 [1, 1, 1, 1, 1, 1, 1, 1, 0, 1, 2, 6]) l 0 Kn Kr Kx (updPs [51] [.agg ⟨[.int .i64 t51_85, .int .u8 t51_86, .int .i64 t51_87, .string ⟨⟨t51_88⟩⟩, .int .i64 t51_89, .bool t51_90, .string ⟨⟨t51_91⟩⟩]⟩] (upd (upd (upd (upd (upd base 50 (.func t50_84 t50_84a t50_84b)) 12 (.pointer b_83)) 7 (.int .i64 t7_82)) 6 (.slice t6_81 t6_81n t6_81c)) 2 (.slice rules_80 rules_80n rules_80c))) w = rf_tokenizer_Tokens_1 rules_80 rules_80n rules_80c t6_81 t6_81n t6_81c t7_82 b_83 t50_84 t50_84a t50_84b t51_85 t51_86 t51_87 t51_88 t51_89 t51_90 t51_91 l Kn Kr Kx w := by kernel_rfl
theorem cd_tokenizer_Tokens_1 : cdAt Tryz.f38 [1, 1, 1, 1, 1, 1, 1, 1, 0, 1, 2] = .rangeFunc (Operand.tmp 50) #[51] (cdAt Tryz.f38 [1, 1, 1, 1, 1, 1, 1, 1, 0, 1, 2, 5]) (cdAt Tryz.f38 [1, 1, 1, 1, 1, 1, 1, 1, 0, 1, 2, 6]) := by kernel_rfl

def an_law15_text : Ann := .two (.leaf) (.two (.leaf) (.leaf))
def sh_law15_text (s_1 : List UInt8) (R : Ending → World → Prop) (w : World) : Prop :=
  al w 64 [.int .i64 0, .string ⟨⟨[]⟩⟩, .int .i64 0, .slice none 0 0] fun p2 w3 =>
  stL w3 p2 0 [.int .i64 1, .string ⟨⟨s_1⟩⟩, .int .i64 0, .slice none 0 0] fun w4 =>
  ∃ (x5 : Int), World.cell? w4 (p2.add 0) = some (.int .i64 x5) ∧ (∃ (x6 : List UInt8), World.cell? w4 (p2.add 1) = some (.string ⟨⟨x6⟩⟩) ∧ (∃ (x7 : Int), World.cell? w4 (p2.add 2) = some (.int .i64 x7) ∧ (∃ (x8 : Option Addr) (x8n : Nat) (x8c : Nat), World.cell? w4 (p2.add 3) = some (.slice x8 x8n x8c) ∧ (R (.returned (.agg ⟨[.int .i64 x5, .string ⟨⟨x6⟩⟩, .int .i64 x7, .slice x8 x8n x8c]⟩)) w4))))
set_option maxRecDepth 100000 in
theorem e_law15_text (s_1 : List UInt8) (R : Ending → World → Prop) (w : World) : fnV Tryz.prog Tryz.f39 an_law15_text [.string ⟨⟨s_1⟩⟩] R w = sh_law15_text s_1 R w := by kernel_rfl
theorem c_law15_text {s_1 : List UInt8} {R : Ending → World → Prop} {w : World} (h : sh_law15_text s_1 R w) : Calls Tryz.prog F_law15_text ⟨[.string ⟨⟨s_1⟩⟩]⟩ w R := calls_of_fnV Tryz.func39 (by rw [e_law15_text]; exact h)

def an_transcript_Check : Ann := .two (.leaf) (.two (.leaf) (.two (.leaf) (.two (.two (.leaf) (.one (.rf [0, 2, 4, 10] 0))) (.two (.two (.leaf) (.one (.rf [0, 2, 28] 0))) (.two (.two (.leaf) (.two (.two (.leaf) (.leaf)) (.leaf))) (.two (.leaf) (.leaf)))))))
def sh_transcript_Check (l_1 : Option Addr) (l_1n : Nat) (l_1c : Nat) (R : Ending → World → Prop) (w : World) : Prop :=
  al w 32 [.int .i64 0] fun p2 w3 =>
  al w3 3 [.int .i64 0] fun p4 w5 =>
  stL w5 p4 0 [.int .i64 4096] fun w6 =>
  al w6 27 [.nilFunc] fun p7 w8 =>
  stL w8 p7 0 [.func (.func 98) ⟨[]⟩ ⟨[.pointer (some p4)]⟩] fun w9 =>
  Calls Tryz.prog 46 ⟨[.slice l_1 l_1n l_1c]⟩ w9 fun (e10 : Ending) (w11 : World) =>
  ∃ (x12 : Fn) (x12a : Array Value) (x12b : Array Value), e10 = .returned (.func x12 x12a x12b) ∧ (∀ base13 : Env, RFw Tryz.prog none 39 (cdAt Tryz.f43 [1, 1, 1, 0, 1, 2]) (upd (upd (upd (upd base13 10 (.func x12 x12a x12b)) 4 (.pointer (some p7))) 2 (.pointer (some p2))) 0 (.slice l_1 l_1n l_1c)) [] w11 0 (fun ds14 w15 =>
  Calls Tryz.prog 46 ⟨[.slice l_1 l_1n l_1c]⟩ w15 fun (e33 : Ending) (w34 : World) =>
  ∃ (x35 : Fn) (x35a : Array Value) (x35b : Array Value), e33 = .returned (.func x35 x35a x35b) ∧ (∀ base36 : Env, RFw Tryz.prog none 39 (cdAt Tryz.f43 [1, 1, 1, 1, 0, 1, 2]) (upd (upd (upd base36 28 (.func x35 x35a x35b)) 2 (.pointer (some p2))) 0 (.slice l_1 l_1n l_1c)) ds14 w34 0 (fun ds37 w38 =>
  Calls Tryz.prog 100 ⟨[.slice l_1 l_1n l_1c]⟩ w38 fun (e39 : Ending) (w40 : World) =>
  ∃ (x41 : List UInt8), e39 = .returned (.string ⟨⟨x41⟩⟩) ∧ (br (decide ((65536 : Int) < ((List.length x41 : Int)))) (stL w40 p2 0 [.int .i64 4] fun w42 =>
  retD ds37 w42 fun w43 =>
  ∃ (x44 : Int), World.cell? w43 p2 = some (.int .i64 x44) ∧ (R (.returned (.int .i64 x44)) w43)) (stL w40 p2 0 [.int .i64 0] fun w45 =>
  retD ds37 w45 fun w46 =>
  ∃ (x47 : Int), World.cell? w46 p2 = some (.int .i64 x47) ∧ (R (.returned (.int .i64 x47)) w46)))) (fun ds37 w38 =>
  retD ds37 w38 fun w48 =>
  ∃ (x49 : Int), World.cell? w48 p2 = some (.int .i64 x49) ∧ (R (.returned (.int .i64 x49)) w48)) (fun ds37 w38 =>
  False))) (fun ds14 w15 =>
  retD ds14 w15 fun w50 =>
  ∃ (x51 : Int), World.cell? w50 p2 = some (.int .i64 x51) ∧ (R (.returned (.int .i64 x51)) w50)) (fun ds14 w15 =>
  Calls Tryz.prog 46 ⟨[.slice l_1 l_1n l_1c]⟩ w15 fun (e16 : Ending) (w17 : World) =>
  ∃ (x18 : Fn) (x18a : Array Value) (x18b : Array Value), e16 = .returned (.func x18 x18a x18b) ∧ (∀ base19 : Env, RFw Tryz.prog none 39 (cdAt Tryz.f43 [1, 1, 1, 1, 0, 1, 2]) (upd (upd (upd base19 28 (.func x18 x18a x18b)) 2 (.pointer (some p2))) 0 (.slice l_1 l_1n l_1c)) ds14 w17 0 (fun ds20 w21 =>
  Calls Tryz.prog 100 ⟨[.slice l_1 l_1n l_1c]⟩ w21 fun (e22 : Ending) (w23 : World) =>
  ∃ (x24 : List UInt8), e22 = .returned (.string ⟨⟨x24⟩⟩) ∧ (br (decide ((65536 : Int) < ((List.length x24 : Int)))) (stL w23 p2 0 [.int .i64 4] fun w25 =>
  retD ds20 w25 fun w26 =>
  ∃ (x27 : Int), World.cell? w26 p2 = some (.int .i64 x27) ∧ (R (.returned (.int .i64 x27)) w26)) (stL w23 p2 0 [.int .i64 0] fun w28 =>
  retD ds20 w28 fun w29 =>
  ∃ (x30 : Int), World.cell? w29 p2 = some (.int .i64 x30) ∧ (R (.returned (.int .i64 x30)) w29)))) (fun ds20 w21 =>
  retD ds20 w21 fun w31 =>
  ∃ (x32 : Int), World.cell? w31 p2 = some (.int .i64 x32) ∧ (R (.returned (.int .i64 x32)) w31)) (fun ds20 w21 =>
  False))))
set_option maxRecDepth 100000 in
theorem e_transcript_Check (l_1 : Option Addr) (l_1n : Nat) (l_1c : Nat) (R : Ending → World → Prop) (w : World) : fnV Tryz.prog Tryz.f43 an_transcript_Check [.slice l_1 l_1n l_1c] R w = sh_transcript_Check l_1 l_1n l_1c R w := by kernel_rfl
theorem c_transcript_Check {l_1 : Option Addr} {l_1n : Nat} {l_1c : Nat} {R : Ending → World → Prop} {w : World} (h : sh_transcript_Check l_1 l_1n l_1c R w) : Calls Tryz.prog F_transcript_Check ⟨[.slice l_1 l_1n l_1c]⟩ w R := calls_of_fnV Tryz.func43 (by rw [e_transcript_Check]; exact h)
def anA_transcript_Check_1 : Ann := .leaf
def anB_transcript_Check_1 : Ann := .one (.two (.leaf) (.two (.two (.leaf) (.leaf)) (.leaf)))
def rf_transcript_Check_1 (l_52 : Option Addr) (l_52n : Nat) (l_52c : Nat) (t2_53 : Option Addr) (spend_54 : Option Addr) (t10_55 : Fn) (t10_55a : Array Value) (t10_55b : Array Value) (t11_56 : Int) (t11_57 : List UInt8) (t11_58 : Int) (t11_59 : Option Addr) (t11_59n : Nat) (t11_59c : Nat) (t11_60 : Int) (t11_61 : Bool) (l : Nat) (Kn Kr Kx : World → World → Prop) (w : World) : Prop :=
  al w 80 [.int .i64 0, .string ⟨⟨[]⟩⟩, .int .i64 0, .slice none 0 0, .int .i64 0, .bool false] fun p63 w64 =>
  stL w64 p63 0 [.int .i64 t11_56, .string ⟨⟨t11_57⟩⟩, .int .i64 t11_58, .slice t11_59 t11_59n t11_59c, .int .i64 t11_60, .bool t11_61] fun w65 =>
  Ext w w65 ∧ ∀ w62 : World, Upd l w65 w62 → (dr spend_54 fun p66 =>
  ∃ (x67 : Fn) (x67a : Array Value) (x67b : Array Value), World.cell? w62 p66 = some (.func x67 x67a x67b) ∧ (CallV Tryz.prog (.func x67 x67a x67b) [] w62 fun (e68 : Ending) (w69 : World) =>
  ∃ (x70 : Bool), e68 = .returned (.bool x70) ∧ (br (!x70) (dr t2_53 fun p72 =>
  stL w69 p72 0 [.int .i64 4] fun w71 =>
  Kr w62 w71) (∃ (x73 : Int), World.cell? w69 (p63.add 4) = some (.int .i64 x73) ∧ (br (decide ((16 : Int) ≤ x73)) (∃ (x74 : Option Addr) (x74n : Nat) (x74c : Nat), World.cell? w69 ((p63.add 0).add 3) = some (.slice x74 x74n x74c) ∧ (br (decide ((0 : Int) < ((x74n : Int)))) (dr t2_53 fun p76 =>
  stL w69 p76 0 [.int .i64 4] fun w75 =>
  Kr w62 w75) (Kn w62 w69))) (Kn w62 w69))))))
set_option maxRecDepth 100000 in
theorem er_transcript_Check_1 (base : Env) (l_52 : Option Addr) (l_52n : Nat) (l_52c : Nat) (t2_53 : Option Addr) (spend_54 : Option Addr) (t10_55 : Fn) (t10_55a : Array Value) (t10_55b : Array Value) (t11_56 : Int) (t11_57 : List UInt8) (t11_58 : Int) (t11_59 : Option Addr) (t11_59n : Nat) (t11_59c : Nat) (t11_60 : Int) (t11_61 : Bool) (l : Nat) (Kn Kr Kx : World → World → Prop) (w : World) : fragV Tryz.prog 39 anA_transcript_Check_1 anB_transcript_Check_1 (cdAt Tryz.f43 [1, 1, 1, 0, 1, 2, 5]) (cdAt Tryz.f43 [1, 1, 1, 0, 1, 2, 6]) l 0 Kn Kr Kx (updPs [11] [.agg ⟨[.int .i64 t11_56, .string ⟨⟨t11_57⟩⟩, .int .i64 t11_58, .slice t11_59 t11_59n t11_59c, .int .i64 t11_60, .bool t11_61]⟩] (upd (upd (upd (upd base 10 (.func t10_55 t10_55a t10_55b)) 4 (.pointer spend_54)) 2 (.pointer t2_53)) 0 (.slice l_52 l_52n l_52c))) w = rf_transcript_Check_1 l_52 l_52n l_52c t2_53 spend_54 t10_55 t10_55a t10_55b t11_56 t11_57 t11_58 t11_59 t11_59n t11_59c t11_60 t11_61 l Kn Kr Kx w := by kernel_rfl
theorem cd_transcript_Check_1 : cdAt Tryz.f43 [1, 1, 1, 0, 1, 2] = .rangeFunc (Operand.tmp 10) #[11] (cdAt Tryz.f43 [1, 1, 1, 0, 1, 2, 5]) (cdAt Tryz.f43 [1, 1, 1, 0, 1, 2, 6]) := by kernel_rfl
def anA_transcript_Check_2 : Ann := .leaf
def anB_transcript_Check_2 : Ann := .one (.two (.leaf) (.two (.leaf) (.two (.two (.leaf) (.leaf)) (.leaf))))
def rf_transcript_Check_2 (l_77 : Option Addr) (l_77n : Nat) (l_77c : Nat) (t2_78 : Option Addr) (t28_79 : Fn) (t28_79a : Array Value) (t28_79b : Array Value) (t29_80 : Int) (t29_81 : List UInt8) (t29_82 : Int) (t29_83 : Option Addr) (t29_83n : Nat) (t29_83c : Nat) (t29_84 : Int) (t29_85 : Bool) (l : Nat) (Kn Kr Kx : World → World → Prop) (w : World) : Prop :=
  al w 80 [.int .i64 0, .string ⟨⟨[]⟩⟩, .int .i64 0, .slice none 0 0, .int .i64 0, .bool false] fun p87 w88 =>
  stL w88 p87 0 [.int .i64 t29_80, .string ⟨⟨t29_81⟩⟩, .int .i64 t29_82, .slice t29_83 t29_83n t29_83c, .int .i64 t29_84, .bool t29_85] fun w89 =>
  Ext w w89 ∧ ∀ w86 : World, Upd l w89 w86 → (∃ (x90 : Int), World.cell? w86 (p87.add 0) = some (.int .i64 x90) ∧ (∃ (x91 : List UInt8), World.cell? w86 (p87.add 1) = some (.string ⟨⟨x91⟩⟩) ∧ (∃ (x92 : Int), World.cell? w86 (p87.add 2) = some (.int .i64 x92) ∧ (∃ (x93 : Option Addr) (x93n : Nat) (x93c : Nat), World.cell? w86 (p87.add 3) = some (.slice x93 x93n x93c) ∧ (∃ (x94 : Int), World.cell? w86 (p87.add 4) = some (.int .i64 x94) ∧ (∃ (x95 : Bool), World.cell? w86 (p87.add 5) = some (.bool x95) ∧ (Calls Tryz.prog 99 ⟨[.agg ⟨[.int .i64 x90, .string ⟨⟨x91⟩⟩, .int .i64 x92, .slice x93 x93n x93c, .int .i64 x94, .bool x95]⟩]⟩ w86 fun (e96 : Ending) (w97 : World) =>
  ∃ (x98 : Int), e96 = .returned (.int .i64 x98) ∧ (br (decide ((x98 : Int) ≠ 0)) (dr t2_78 fun p100 =>
  stL w97 p100 0 [.int .i64 x98] fun w99 =>
  Kr w86 w99) (Kn w86 w97)))))))))
set_option maxRecDepth 100000 in
theorem er_transcript_Check_2 (base : Env) (l_77 : Option Addr) (l_77n : Nat) (l_77c : Nat) (t2_78 : Option Addr) (t28_79 : Fn) (t28_79a : Array Value) (t28_79b : Array Value) (t29_80 : Int) (t29_81 : List UInt8) (t29_82 : Int) (t29_83 : Option Addr) (t29_83n : Nat) (t29_83c : Nat) (t29_84 : Int) (t29_85 : Bool) (l : Nat) (Kn Kr Kx : World → World → Prop) (w : World) : fragV Tryz.prog 39 anA_transcript_Check_2 anB_transcript_Check_2 (cdAt Tryz.f43 [1, 1, 1, 1, 0, 1, 2, 5]) (cdAt Tryz.f43 [1, 1, 1, 1, 0, 1, 2, 6]) l 0 Kn Kr Kx (updPs [29] [.agg ⟨[.int .i64 t29_80, .string ⟨⟨t29_81⟩⟩, .int .i64 t29_82, .slice t29_83 t29_83n t29_83c, .int .i64 t29_84, .bool t29_85]⟩] (upd (upd (upd base 28 (.func t28_79 t28_79a t28_79b)) 2 (.pointer t2_78)) 0 (.slice l_77 l_77n l_77c))) w = rf_transcript_Check_2 l_77 l_77n l_77c t2_78 t28_79 t28_79a t28_79b t29_80 t29_81 t29_82 t29_83 t29_83n t29_83c t29_84 t29_85 l Kn Kr Kx w := by kernel_rfl
theorem cd_transcript_Check_2 : cdAt Tryz.f43 [1, 1, 1, 1, 0, 1, 2] = .rangeFunc (Operand.tmp 28) #[29] (cdAt Tryz.f43 [1, 1, 1, 1, 0, 1, 2, 5]) (cdAt Tryz.f43 [1, 1, 1, 1, 0, 1, 2, 6]) := by kernel_rfl

def an_slices_Equal_of_api_Token_api_Token : Ann := .two (.leaf) (.two (.two (.leaf) (.two (.two (.leaf) (.leaf)) (.leaf))) (.two (.two (.leaf) (.one (.loop 67100720 [(13, .one (.int .i64))] (.two (.leaf) (.two (.two (.leaf) (.leaf)) (.two (.one (.two (.leaf) (.two (.leaf) (.two (.two (.leaf) (.leaf)) (.leaf))))) (.leaf))))))) (.two (.leaf) (.leaf))))
def sh_slices_Equal_of_api_Token_api_Token (s1_1 : Option Addr) (s1_1n : Nat) (s1_1c : Nat) (s2_2 : Option Addr) (s2_2n : Nat) (s2_2c : Nat) (R : Ending → World → Prop) (w : World) : Prop :=
  br (decide ((((s1_1n : Int)) : Int) ≠ ((s2_2n : Int)))) (R (.returned (.bool false)) w) (∃ (I3 : Int → World → Nat → Prop), (∃ m7 : Nat, I3 0 w m7) ∧ ∀ (t13_4 : Int) (w5 : World) (m6 : Nat), I3 t13_4 w5 m6 → ∀ _ : Env, (br (decide ((t13_4 : Int) < ((s1_1n : Int)))) (drw w5 fun w8 =>
  idx s1_1 s1_1n t13_4 6 fun p9 =>
  ∃ (x10 : List UInt8), World.cell? w8 (p9.add 0) = some (.string ⟨⟨x10⟩⟩) ∧ (∃ (x11 : List UInt8), World.cell? w8 (p9.add 1) = some (.string ⟨⟨x11⟩⟩) ∧ (∃ (x12 : List UInt8), World.cell? w8 (p9.add 2) = some (.string ⟨⟨x12⟩⟩) ∧ (∃ (x13 : Int), World.cell? w8 (p9.add 3) = some (.int .i64 x13) ∧ (∃ (x14 : Int), World.cell? w8 (p9.add 4) = some (.int .i64 x14) ∧ (∃ (x15 : List UInt8), World.cell? w8 (p9.add 5) = some (.string ⟨⟨x15⟩⟩) ∧ (idx s2_2 s2_2n t13_4 6 fun p16 =>
  ∃ (x17 : List UInt8), World.cell? w8 (p16.add 0) = some (.string ⟨⟨x17⟩⟩) ∧ (∃ (x18 : List UInt8), World.cell? w8 (p16.add 1) = some (.string ⟨⟨x18⟩⟩) ∧ (∃ (x19 : List UInt8), World.cell? w8 (p16.add 2) = some (.string ⟨⟨x19⟩⟩) ∧ (∃ (x20 : Int), World.cell? w8 (p16.add 3) = some (.int .i64 x20) ∧ (∃ (x21 : Int), World.cell? w8 (p16.add 4) = some (.int .i64 x21) ∧ (∃ (x22 : List UInt8), World.cell? w8 (p16.add 5) = some (.string ⟨⟨x22⟩⟩) ∧ (br (!(decide ((x10 : List UInt8) = x17) && (decide ((x11 : List UInt8) = x18) && ((decide ((x12 : List UInt8) = x19) && (decide ((x13 : Int) = x20) && true)) && (decide ((x14 : Int) = x21) && (decide ((x15 : List UInt8) = x22) && true)))))) (R (.returned (.bool false)) w8) (∃ m23 : Nat, m23 < m6 ∧ I3 (IntKind.i64.wrap (t13_4 + 1)) w8 m23)))))))))))))) (R (.returned (.bool true)) w5)))
set_option maxRecDepth 100000 in
theorem e_slices_Equal_of_api_Token_api_Token (s1_1 : Option Addr) (s1_1n : Nat) (s1_1c : Nat) (s2_2 : Option Addr) (s2_2n : Nat) (s2_2c : Nat) (R : Ending → World → Prop) (w : World) : fnV Tryz.prog Tryz.f45 an_slices_Equal_of_api_Token_api_Token [.slice s1_1 s1_1n s1_1c, .slice s2_2 s2_2n s2_2c] R w = sh_slices_Equal_of_api_Token_api_Token s1_1 s1_1n s1_1c s2_2 s2_2n s2_2c R w := by kernel_rfl
theorem c_slices_Equal_of_api_Token_api_Token {s1_1 : Option Addr} {s1_1n : Nat} {s1_1c : Nat} {s2_2 : Option Addr} {s2_2n : Nat} {s2_2c : Nat} {R : Ending → World → Prop} {w : World} (h : sh_slices_Equal_of_api_Token_api_Token s1_1 s1_1n s1_1c s2_2 s2_2n s2_2c R w) : Calls Tryz.prog F_slices_Equal_of_api_Token_api_Token ⟨[.slice s1_1 s1_1n s1_1c, .slice s2_2 s2_2n s2_2c]⟩ w R := calls_of_fnV Tryz.func45 (by rw [e_slices_Equal_of_api_Token_api_Token]; exact h)

def an_transcript_places : Ann := .two (.leaf) (.two (.leaf) (.leaf))
def sh_transcript_places (l_1 : Option Addr) (l_1n : Nat) (l_1c : Nat) (R : Ending → World → Prop) (w : World) : Prop :=
  al w 22 [.slice l_1 l_1n l_1c] fun p2 w3 =>
  R (.returned (.func (.func 102) ⟨[]⟩ ⟨[.pointer (some p2)]⟩)) w3
set_option maxRecDepth 100000 in
theorem e_transcript_places (l_1 : Option Addr) (l_1n : Nat) (l_1c : Nat) (R : Ending → World → Prop) (w : World) : fnV Tryz.prog Tryz.f46 an_transcript_places [.slice l_1 l_1n l_1c] R w = sh_transcript_places l_1 l_1n l_1c R w := by kernel_rfl
theorem c_transcript_places {l_1 : Option Addr} {l_1n : Nat} {l_1c : Nat} {R : Ending → World → Prop} {w : World} (h : sh_transcript_places l_1 l_1n l_1c R w) : Calls Tryz.prog F_transcript_places ⟨[.slice l_1 l_1n l_1c]⟩ w R := calls_of_fnV Tryz.func46 (by rw [e_transcript_places]; exact h)

def an_strings_Builder_WriteString : Ann := .two (.leaf) (.two (.leaf) (.two (.leaf) (.two (.leaf) (.leaf))))
def sh_strings_Builder_WriteString (b_1 : Option Addr) (s_2 : List UInt8) (R : Ending → World → Prop) (w : World) : Prop :=
  Calls Tryz.prog 104 ⟨[.pointer b_1]⟩ w fun (e3 : Ending) (w4 : World) =>
  e3 = .returned (.tuple ⟨[]⟩) ∧ (dr b_1 fun p5 =>
  ∃ (x6 : Option Addr) (x6n : Nat) (x6c : Nat), World.cell? w4 (p5.add 1) = some (.slice x6 x6n x6c) ∧ (app Tryz.prog [73, 9] 73 (.slice x6 x6n x6c) (.string ⟨⟨s_2⟩⟩) w4 fun a7 a7n a7c w8 =>
  dr b_1 fun p9 =>
  stL w8 (p9.add 1) 0 [.slice a7 a7n a7c] fun w10 =>
  R (.returned (.tuple ⟨[.int .i64 ((List.length s_2 : Int)), .nilIface]⟩)) w10))
set_option maxRecDepth 100000 in
theorem e_strings_Builder_WriteString (b_1 : Option Addr) (s_2 : List UInt8) (R : Ending → World → Prop) (w : World) : fnV Tryz.prog Tryz.f47 an_strings_Builder_WriteString [.pointer b_1, .string ⟨⟨s_2⟩⟩] R w = sh_strings_Builder_WriteString b_1 s_2 R w := by kernel_rfl
theorem c_strings_Builder_WriteString {b_1 : Option Addr} {s_2 : List UInt8} {R : Ending → World → Prop} {w : World} (h : sh_strings_Builder_WriteString b_1 s_2 R w) : Calls Tryz.prog F_strings_Builder_WriteString ⟨[.pointer b_1, .string ⟨⟨s_2⟩⟩]⟩ w R := calls_of_fnV Tryz.func47 (by rw [e_strings_Builder_WriteString]; exact h)

def an_tokenizer_gap : Ann := .two (.leaf) (.cut 2097124 [] (.two (.leaf) (.two (.two (.leaf) (.leaf)) (.leaf))) (.two (.leaf) (.two (.leaf) (.leaf))))
def sh_tokenizer_gap (s_1 : List UInt8) (R : Ending → World → Prop) (w : World) : Prop :=
  ∀ (K2 : World → Prop), (∀  (w3 : World), (∀ _ : Env, (ssl s_1 1 (IntKind.i64.wrap (((List.length s_1 : Int)) - 1)) fun s4 =>
  Calls Tryz.prog 108 ⟨[.string ⟨⟨s4⟩⟩]⟩ w3 fun (e5 : Ending) (w6 : World) =>
  ∃ (x7 : Int) (x8 : Value), e5 = .returned (.tuple ⟨[.int .i64 x7, x8]⟩) ∧ (ifc x8 fun b9 =>
  br b9 (br (decide ((1 : Int) ≤ x7)) (br (decide ((x7 : Int) ≤ 64)) (Calls Tryz.prog 109 ⟨[.int .i64 x7]⟩ w6 fun (e10 : Ending) (w11 : World) =>
  ∃ (x12 : List UInt8), e10 = .returned (.string ⟨⟨x12⟩⟩) ∧ (sadd ([91]) x12 fun s13 =>
  sadd s13 ([93]) fun s14 =>
  R (.returned (.bool (decide ((s_1 : List UInt8) = s14)))) w11)) (R (.returned (.bool false)) w6)) (R (.returned (.bool false)) w6)) (R (.returned (.bool false)) w6)))) → K2 w3) → (br (decide ((((List.length s_1 : Int)) : Int) < 3)) (R (.returned (.bool false)) w) (sidx s_1 0 fun b15 =>
  br (decide ((((b15.toNat : Int)) : Int) ≠ 91)) (R (.returned (.bool false)) w) (sidx s_1 (IntKind.i64.wrap (((List.length s_1 : Int)) - 1)) fun b16 =>
  br (decide ((((b16.toNat : Int)) : Int) ≠ 93)) (R (.returned (.bool false)) w) (K2 w))))
set_option maxRecDepth 100000 in
theorem e_tokenizer_gap (s_1 : List UInt8) (R : Ending → World → Prop) (w : World) : fnV Tryz.prog Tryz.f50 an_tokenizer_gap [.string ⟨⟨s_1⟩⟩] R w = sh_tokenizer_gap s_1 R w := by kernel_rfl
theorem c_tokenizer_gap {s_1 : List UInt8} {R : Ending → World → Prop} {w : World} (h : sh_tokenizer_gap s_1 R w) : Calls Tryz.prog F_tokenizer_gap ⟨[.string ⟨⟨s_1⟩⟩]⟩ w R := calls_of_fnV Tryz.func50 (by rw [e_tokenizer_gap]; exact h)

def an_tokenizer_mark : Ann := .two (.leaf) (.two (.two (.leaf) (.two (.two (.leaf) (.leaf)) (.leaf))) (.two (.leaf) (.two (.leaf) (.leaf))))
def sh_tokenizer_mark (s_1 : List UInt8) (R : Ending → World → Prop) (w : World) : Prop :=
  br (decide ((((List.length s_1 : Int)) : Int) ≠ 1)) (R (.returned (.bool false)) w) (sidx s_1 0 fun b2 =>
  Calls Tryz.prog 55 ⟨[.int .u8 ((b2.toNat : Int))]⟩ w fun (e3 : Ending) (w4 : World) =>
  ∃ (x5 : Int), e3 = .returned (.int .i64 x5) ∧ (br (decide ((x5 : Int) = 5)) (R (.returned (.bool true)) w4) (R (.returned (.bool (decide ((x5 : Int) = 4)))) w4)))
set_option maxRecDepth 100000 in
theorem e_tokenizer_mark (s_1 : List UInt8) (R : Ending → World → Prop) (w : World) : fnV Tryz.prog Tryz.f51 an_tokenizer_mark [.string ⟨⟨s_1⟩⟩] R w = sh_tokenizer_mark s_1 R w := by kernel_rfl
theorem c_tokenizer_mark {s_1 : List UInt8} {R : Ending → World → Prop} {w : World} (h : sh_tokenizer_mark s_1 R w) : Calls Tryz.prog F_tokenizer_mark ⟨[.string ⟨⟨s_1⟩⟩]⟩ w R := calls_of_fnV Tryz.func51 (by rw [e_tokenizer_mark]; exact h)

def an_tokenizer_isWord : Ann := .two (.leaf) (.two (.leaf) (.leaf))
def sh_tokenizer_isWord (t_1 : List UInt8) (t_2 : List UInt8) (t_3 : List UInt8) (t_4 : Int) (t_5 : Int) (t_6 : List UInt8) (R : Ending → World → Prop) (w : World) : Prop :=
  al w 31 [.string ⟨⟨t_1⟩⟩, .string ⟨⟨t_2⟩⟩, .string ⟨⟨t_3⟩⟩, .int .i64 t_4, .int .i64 t_5, .string ⟨⟨t_6⟩⟩] fun p7 w8 =>
  ∃ (x9 : Int), World.cell? w8 (p7.add 4) = some (.int .i64 x9) ∧ (R (.returned (.bool (decide (((bitA .i64 x9 10) : Int) = 0)))) w8)
set_option maxRecDepth 100000 in
theorem e_tokenizer_isWord (t_1 : List UInt8) (t_2 : List UInt8) (t_3 : List UInt8) (t_4 : Int) (t_5 : Int) (t_6 : List UInt8) (R : Ending → World → Prop) (w : World) : fnV Tryz.prog Tryz.f52 an_tokenizer_isWord [.agg ⟨[.string ⟨⟨t_1⟩⟩, .string ⟨⟨t_2⟩⟩, .string ⟨⟨t_3⟩⟩, .int .i64 t_4, .int .i64 t_5, .string ⟨⟨t_6⟩⟩]⟩] R w = sh_tokenizer_isWord t_1 t_2 t_3 t_4 t_5 t_6 R w := by kernel_rfl
theorem c_tokenizer_isWord {t_1 : List UInt8} {t_2 : List UInt8} {t_3 : List UInt8} {t_4 : Int} {t_5 : Int} {t_6 : List UInt8} {R : Ending → World → Prop} {w : World} (h : sh_tokenizer_isWord t_1 t_2 t_3 t_4 t_5 t_6 R w) : Calls Tryz.prog F_tokenizer_isWord ⟨[.agg ⟨[.string ⟨⟨t_1⟩⟩, .string ⟨⟨t_2⟩⟩, .string ⟨⟨t_3⟩⟩, .int .i64 t_4, .int .i64 t_5, .string ⟨⟨t_6⟩⟩]⟩]⟩ w R := calls_of_fnV Tryz.func52 (by rw [e_tokenizer_isWord]; exact h)

def an_tokenizer_norm : Ann := .two (.leaf) (.two (.two (.leaf) (.one (.loop 32716 [(6, .one (.int .i64))] (.two (.leaf) (.two (.two (.leaf) (.leaf)) (.two (.one (.two (.leaf) (.two (.leaf) (.two (.two (.leaf) (.leaf)) (.leaf))))) (.leaf))))))) (.two (.leaf) (.leaf)))
def sh_tokenizer_norm (s_1 : List UInt8) (R : Ending → World → Prop) (w : World) : Prop :=
  ∃ (I2 : Int → World → Nat → Prop), (∃ m6 : Nat, I2 0 w m6) ∧ ∀ (t6_3 : Int) (w4 : World) (m5 : Nat), I2 t6_3 w4 m5 → ∀ _ : Env, (br (decide ((t6_3 : Int) < ((List.length s_1 : Int)))) (sidx s_1 t6_3 fun b7 =>
  Calls Tryz.prog 110 ⟨[.int .u8 ((b7.toNat : Int))]⟩ w4 fun (e8 : Ending) (w9 : World) =>
  ∃ (x10 : Bool), e8 = .returned (.bool x10) ∧ (br (!x10) (R (.returned (.bool false)) w9) (∃ m11 : Nat, m11 < m5 ∧ I2 (IntKind.i64.wrap (t6_3 + 1)) w9 m11))) (br (decide ((s_1 : List UInt8) ≠ ([]))) (R (.returned (.bool (decide ((((List.length s_1 : Int)) : Int) ≤ 64)))) w4) (R (.returned (.bool false)) w4)))
set_option maxRecDepth 100000 in
theorem e_tokenizer_norm (s_1 : List UInt8) (R : Ending → World → Prop) (w : World) : fnV Tryz.prog Tryz.f53 an_tokenizer_norm [.string ⟨⟨s_1⟩⟩] R w = sh_tokenizer_norm s_1 R w := by kernel_rfl
theorem c_tokenizer_norm {s_1 : List UInt8} {R : Ending → World → Prop} {w : World} (h : sh_tokenizer_norm s_1 R w) : Calls Tryz.prog F_tokenizer_norm ⟨[.string ⟨⟨s_1⟩⟩]⟩ w R := calls_of_fnV Tryz.func53 (by rw [e_tokenizer_norm]; exact h)

def an_tokenizer_named : Ann := .two (.leaf) (.two (.leaf) (.leaf))
def sh_tokenizer_named (s_1 : List UInt8) (R : Ending → World → Prop) (w : World) : Prop :=
  br (decide ((s_1 : List UInt8) = ([]))) (R (.returned (.bool true)) w) (Calls Tryz.prog 111 ⟨[.string ⟨⟨s_1⟩⟩]⟩ w fun (e2 : Ending) (w3 : World) =>
  ∃ (x4 : Bool), e2 = .returned (.bool x4) ∧ (R (.returned (.bool x4)) w3))
set_option maxRecDepth 100000 in
theorem e_tokenizer_named (s_1 : List UInt8) (R : Ending → World → Prop) (w : World) : fnV Tryz.prog Tryz.f54 an_tokenizer_named [.string ⟨⟨s_1⟩⟩] R w = sh_tokenizer_named s_1 R w := by kernel_rfl
theorem c_tokenizer_named {s_1 : List UInt8} {R : Ending → World → Prop} {w : World} (h : sh_tokenizer_named s_1 R w) : Calls Tryz.prog F_tokenizer_named ⟨[.string ⟨⟨s_1⟩⟩]⟩ w R := calls_of_fnV Tryz.func54 (by rw [e_tokenizer_named]; exact h)

def an_charset_Kind : Ann := .two (.leaf) (.two (.one (.cut 262136 [(3, .one (.bool))] (.leaf) (.two (.two (.leaf) (.leaf)) (.cut 536608768 [(18, .one (.bool))] (.leaf) (.two (.two (.leaf) (.leaf)) (.cut 68182605824 [(29, .one (.bool))] (.leaf) (.two (.two (.leaf) (.leaf)) (.two (.leaf) (.two (.two (.leaf) (.leaf)) (.two (.leaf) (.two (.two (.leaf) (.leaf)) (.two (.leaf) (.two (.two (.leaf) (.leaf)) (.leaf)))))))))))))) (.two (.leaf) (.leaf)))
def sh_charset_Kind (c_1 : Int) (R : Ending → World → Prop) (w : World) : Prop :=
  ∀ (K2 : Bool → World → Prop), (∀ (t3_3 : Bool) (w4 : World), (∀ _ : Env, (br t3_3 (R (.returned (.int .i64 1)) w4) (∀ (K5 : Bool → World → Prop), (∀ (t18_6 : Bool) (w7 : World), (∀ _ : Env, (br t18_6 (R (.returned (.int .i64 2)) w7) (∀ (K8 : Bool → World → Prop), (∀ (t29_9 : Bool) (w10 : World), (∀ _ : Env, (br t29_9 (R (.returned (.int .i64 3)) w10) (br (decide ((c_1 : Int) = 39)) (R (.returned (.int .i64 4)) w10) (br (decide ((c_1 : Int) = 32)) (R (.returned (.int .i64 6)) w10) (br (decide ((c_1 : Int) ≠ 0)) (Calls Tryz.prog 112 ⟨[.string ⟨⟨[46, 44, 59, 58, 33, 63, 40, 41, 45]⟩⟩, .int .u8 c_1]⟩ w10 fun (e11 : Ending) (w12 : World) =>
  ∃ (x13 : Int), e11 = .returned (.int .i64 x13) ∧ (br (decide ((0 : Int) ≤ x13)) (R (.returned (.int .i64 5)) w12) (R (.returned (.int .i64 0)) w12))) (R (.returned (.int .i64 0)) w10)))))) → K8 t29_9 w10) → (br (decide ((48 : Int) ≤ c_1)) (K8 (decide ((c_1 : Int) ≤ 57)) w7) (K8 false w7))))) → K5 t18_6 w7) → (br (decide ((c_1 : Int) = 94)) (K5 true w4) (br (decide ((c_1 : Int) = 126)) (K5 true w4) (K5 (decide ((c_1 : Int) = 37)) w4)))))) → K2 t3_3 w4) → (br (decide ((97 : Int) ≤ c_1)) (br (decide ((c_1 : Int) ≤ 122)) (K2 true w) (br (decide ((65 : Int) ≤ c_1)) (K2 (decide ((c_1 : Int) ≤ 90)) w) (K2 false w))) (br (decide ((65 : Int) ≤ c_1)) (K2 (decide ((c_1 : Int) ≤ 90)) w) (K2 false w)))
set_option maxRecDepth 100000 in
theorem e_charset_Kind (c_1 : Int) (R : Ending → World → Prop) (w : World) : fnV Tryz.prog Tryz.f55 an_charset_Kind [.int .u8 c_1] R w = sh_charset_Kind c_1 R w := by kernel_rfl
theorem c_charset_Kind {c_1 : Int} {R : Ending → World → Prop} {w : World} (h : sh_charset_Kind c_1 R w) : Calls Tryz.prog F_charset_Kind ⟨[.int .u8 c_1]⟩ w R := calls_of_fnV Tryz.func55 (by rw [e_charset_Kind]; exact h)

def an_slices_ContainsFunc_of_byte_byte : Ann := .two (.leaf) (.two (.leaf) (.leaf))
def sh_slices_ContainsFunc_of_byte_byte (s_1 : Option Addr) (s_1n : Nat) (s_1c : Nat) (f_2 : Fn) (f_2a : Array Value) (f_2b : Array Value) (R : Ending → World → Prop) (w : World) : Prop :=
  Calls Tryz.prog 113 ⟨[.slice s_1 s_1n s_1c, .func f_2 f_2a f_2b]⟩ w fun (e3 : Ending) (w4 : World) =>
  ∃ (x5 : Int), e3 = .returned (.int .i64 x5) ∧ (R (.returned (.bool (decide ((0 : Int) ≤ x5)))) w4)
set_option maxRecDepth 100000 in
theorem e_slices_ContainsFunc_of_byte_byte (s_1 : Option Addr) (s_1n : Nat) (s_1c : Nat) (f_2 : Fn) (f_2a : Array Value) (f_2b : Array Value) (R : Ending → World → Prop) (w : World) : fnV Tryz.prog Tryz.f56 an_slices_ContainsFunc_of_byte_byte [.slice s_1 s_1n s_1c, .func f_2 f_2a f_2b] R w = sh_slices_ContainsFunc_of_byte_byte s_1 s_1n s_1c f_2 f_2a f_2b R w := by kernel_rfl
theorem c_slices_ContainsFunc_of_byte_byte {s_1 : Option Addr} {s_1n : Nat} {s_1c : Nat} {f_2 : Fn} {f_2a : Array Value} {f_2b : Array Value} {R : Ending → World → Prop} {w : World} (h : sh_slices_ContainsFunc_of_byte_byte s_1 s_1n s_1c f_2 f_2a f_2b R w) : Calls Tryz.prog F_slices_ContainsFunc_of_byte_byte ⟨[.slice s_1 s_1n s_1c, .func f_2 f_2a f_2b]⟩ w R := calls_of_fnV Tryz.func56 (by rw [e_slices_ContainsFunc_of_byte_byte]; exact h)

def an_charset_IsWord_1 : Ann := .two (.leaf) (.two (.leaf) (.two (.leaf) (.leaf)))
def sh_charset_IsWord_1 (c_1 : Int) (R : Ending → World → Prop) (w : World) : Prop :=
  Calls Tryz.prog 55 ⟨[.int .u8 c_1]⟩ w fun (e2 : Ending) (w3 : World) =>
  ∃ (x4 : Int), e2 = .returned (.int .i64 x4) ∧ (br (decide ((x4 : Int) = 5)) (R (.returned (.bool true)) w3) (R (.returned (.bool (decide ((x4 : Int) = 6)))) w3))
set_option maxRecDepth 100000 in
theorem e_charset_IsWord_1 (c_1 : Int) (R : Ending → World → Prop) (w : World) : fnV Tryz.prog Tryz.f57 an_charset_IsWord_1 [.int .u8 c_1] R w = sh_charset_IsWord_1 c_1 R w := by kernel_rfl
theorem c_charset_IsWord_1 {c_1 : Int} {R : Ending → World → Prop} {w : World} (h : sh_charset_IsWord_1 c_1 R w) : Calls Tryz.prog F_charset_IsWord_1 ⟨[.int .u8 c_1]⟩ w R := calls_of_fnV Tryz.func57 (by rw [e_charset_IsWord_1]; exact h)

def an_rewriting_right : Ann := .two (.leaf) (.two (.one (.cut 4088 [(3, .one (.bool))] (.leaf) (.two (.two (.leaf) (.leaf)) (.cut 8384512 [(12, .one (.bool))] (.leaf) (.two (.two (.leaf) (.leaf)) (.cut 17171480576 [(23, .one (.bool))] (.leaf) (.two (.two (.leaf) (.leaf)) (.two (.leaf) (.two (.two (.leaf) (.leaf)) (.leaf)))))))))) (.two (.leaf) (.leaf)))
def sh_rewriting_right (x_1 : List UInt8) (x_2 : List UInt8) (R : Ending → World → Prop) (w : World) : Prop :=
  al w 91 [.string ⟨⟨x_1⟩⟩, .string ⟨⟨x_2⟩⟩] fun p3 w4 =>
  ∀ (K5 : Bool → World → Prop), (∀ (t3_6 : Bool) (w7 : World), (∀ _ : Env, (br t3_6 (R (.returned (.int .i64 5)) w7) (∀ (K8 : Bool → World → Prop), (∀ (t12_9 : Bool) (w10 : World), (∀ _ : Env, (br t12_9 (R (.returned (.int .i64 4)) w10) (∀ (K11 : Bool → World → Prop), (∀ (t23_12 : Bool) (w13 : World), (∀ _ : Env, (br t23_12 (R (.returned (.int .i64 11)) w13) (∃ (x14 : List UInt8), World.cell? w13 (p3.add 1) = some (.string ⟨⟨x14⟩⟩) ∧ (∃ (x15 : List UInt8), World.cell? w13 (p3.add 0) = some (.string ⟨⟨x15⟩⟩) ∧ (br (decide ((((List.length x15 : Int)) : Int) < ((List.length x14 : Int)))) (R (.returned (.int .i64 24)) w13) (∃ (x16 : List UInt8), World.cell? w13 (p3.add 1) = some (.string ⟨⟨x16⟩⟩) ∧ (∃ (x17 : List UInt8), World.cell? w13 (p3.add 0) = some (.string ⟨⟨x17⟩⟩) ∧ (br (decide ((((List.length x16 : Int)) : Int) = ((List.length x17 : Int)))) (∃ (x18 : List UInt8), World.cell? w13 (p3.add 1) = some (.string ⟨⟨x18⟩⟩) ∧ (∃ (x19 : List UInt8), World.cell? w13 (p3.add 0) = some (.string ⟨⟨x19⟩⟩) ∧ (br (!(Op.bytesLess x18 x19)) (R (.returned (.int .i64 24)) w13) (R (.returned (.int .i64 0)) w13)))) (R (.returned (.int .i64 0)) w13))))))))) → K11 t23_12 w13) → (∃ (x20 : List UInt8), World.cell? w10 (p3.add 0) = some (.string ⟨⟨x20⟩⟩) ∧ (Calls Tryz.prog 114 ⟨[.string ⟨⟨x20⟩⟩]⟩ w10 fun (e21 : Ending) (w22 : World) =>
  ∃ (x23 : Bool), e21 = .returned (.bool x23) ∧ (br (!x23) (K11 true w22) (∃ (x24 : List UInt8), World.cell? w22 (p3.add 1) = some (.string ⟨⟨x24⟩⟩) ∧ (Calls Tryz.prog 114 ⟨[.string ⟨⟨x24⟩⟩]⟩ w22 fun (e25 : Ending) (w26 : World) =>
  ∃ (x27 : Bool), e25 = .returned (.bool x27) ∧ (K11 (!x27) w26))))))))) → K8 t12_9 w10) → (∃ (x28 : List UInt8), World.cell? w7 (p3.add 0) = some (.string ⟨⟨x28⟩⟩) ∧ (br (decide ((64 : Int) < ((List.length x28 : Int)))) (K8 true w7) (∃ (x29 : List UInt8), World.cell? w7 (p3.add 1) = some (.string ⟨⟨x29⟩⟩) ∧ (K8 (decide ((64 : Int) < ((List.length x29 : Int)))) w7))))))) → K5 t3_6 w7) → (∃ (x30 : List UInt8), World.cell? w4 (p3.add 0) = some (.string ⟨⟨x30⟩⟩) ∧ (br (decide ((x30 : List UInt8) = ([]))) (K5 true w4) (∃ (x31 : List UInt8), World.cell? w4 (p3.add 1) = some (.string ⟨⟨x31⟩⟩) ∧ (K5 (decide ((x31 : List UInt8) = ([]))) w4))))
set_option maxRecDepth 100000 in
theorem e_rewriting_right (x_1 : List UInt8) (x_2 : List UInt8) (R : Ending → World → Prop) (w : World) : fnV Tryz.prog Tryz.f58 an_rewriting_right [.agg ⟨[.string ⟨⟨x_1⟩⟩, .string ⟨⟨x_2⟩⟩]⟩] R w = sh_rewriting_right x_1 x_2 R w := by kernel_rfl
theorem c_rewriting_right {x_1 : List UInt8} {x_2 : List UInt8} {R : Ending → World → Prop} {w : World} (h : sh_rewriting_right x_1 x_2 R w) : Calls Tryz.prog F_rewriting_right ⟨[.agg ⟨[.string ⟨⟨x_1⟩⟩, .string ⟨⟨x_2⟩⟩]⟩]⟩ w R := calls_of_fnV Tryz.func58 (by rw [e_rewriting_right]; exact h)

def an_rewriting_Trace : Ann := .two (.leaf) (.two (.two (.leaf) (.two (.leaf) (.two (.two (.leaf) (.leaf)) (.leaf)))) (.two (.leaf) (.leaf)))
def sh_rewriting_Trace (rules_1 : Option Addr) (rules_1n : Nat) (rules_1c : Nat) (w_2 : List UInt8) (R : Ending → World → Prop) (w : World) : Prop :=
  Calls Tryz.prog 115 ⟨[.slice rules_1 rules_1n rules_1c, .string ⟨⟨w_2⟩⟩]⟩ w fun (e3 : Ending) (w4 : World) =>
  ∃ (x5 : Int), e3 = .returned (.int .i64 x5) ∧ (br (decide ((x5 : Int) ≠ 0)) (R (.returned (.tuple ⟨[.slice none 0 0, .int .i64 x5]⟩)) w4) (Calls Tryz.prog 116 ⟨[.slice rules_1 rules_1n rules_1c, .string ⟨⟨w_2⟩⟩]⟩ w4 fun (e6 : Ending) (w7 : World) =>
  ∃ (x8 : Option Addr) (x8n : Nat) (x8c : Nat) (x9 : Int), e6 = .returned (.tuple ⟨[.slice x8 x8n x8c, .int .i64 x9]⟩) ∧ (R (.returned (.tuple ⟨[.slice x8 x8n x8c, .int .i64 x9]⟩)) w7)))
set_option maxRecDepth 100000 in
theorem e_rewriting_Trace (rules_1 : Option Addr) (rules_1n : Nat) (rules_1c : Nat) (w_2 : List UInt8) (R : Ending → World → Prop) (w : World) : fnV Tryz.prog Tryz.f59 an_rewriting_Trace [.slice rules_1 rules_1n rules_1c, .string ⟨⟨w_2⟩⟩] R w = sh_rewriting_Trace rules_1 rules_1n rules_1c w_2 R w := by kernel_rfl
theorem c_rewriting_Trace {rules_1 : Option Addr} {rules_1n : Nat} {rules_1c : Nat} {w_2 : List UInt8} {R : Ending → World → Prop} {w : World} (h : sh_rewriting_Trace rules_1 rules_1n rules_1c w_2 R w) : Calls Tryz.prog F_rewriting_Trace ⟨[.slice rules_1 rules_1n rules_1c, .string ⟨⟨w_2⟩⟩]⟩ w R := calls_of_fnV Tryz.func59 (by rw [e_rewriting_Trace]; exact h)

def an_tokenizer_bad : Ann := .two (.leaf) (.two (.leaf) (.leaf))
def sh_tokenizer_bad (t_1 : List UInt8) (t_2 : List UInt8) (t_3 : List UInt8) (t_4 : Int) (t_5 : Int) (t_6 : List UInt8) (R : Ending → World → Prop) (w : World) : Prop :=
  al w 31 [.string ⟨⟨t_1⟩⟩, .string ⟨⟨t_2⟩⟩, .string ⟨⟨t_3⟩⟩, .int .i64 t_4, .int .i64 t_5, .string ⟨⟨t_6⟩⟩] fun p7 w8 =>
  ∃ (x9 : List UInt8), World.cell? w8 (p7.add 0) = some (.string ⟨⟨x9⟩⟩) ∧ (∃ (x10 : List UInt8), World.cell? w8 (p7.add 1) = some (.string ⟨⟨x10⟩⟩) ∧ (∃ (x11 : List UInt8), World.cell? w8 (p7.add 2) = some (.string ⟨⟨x11⟩⟩) ∧ (∃ (x12 : Int), World.cell? w8 (p7.add 3) = some (.int .i64 x12) ∧ (∃ (x13 : Int), World.cell? w8 (p7.add 4) = some (.int .i64 x13) ∧ (∃ (x14 : List UInt8), World.cell? w8 (p7.add 5) = some (.string ⟨⟨x14⟩⟩) ∧ (Calls Tryz.prog 14 ⟨[.agg ⟨[.string ⟨⟨x9⟩⟩, .string ⟨⟨x10⟩⟩, .string ⟨⟨x11⟩⟩, .int .i64 x12, .int .i64 x13, .string ⟨⟨x14⟩⟩]⟩]⟩ w8 fun (e15 : Ending) (w16 : World) =>
  ∃ (x17 : Int), e15 = .returned (.int .i64 x17) ∧ (R (.returned (.bool (decide ((x17 : Int) ≠ 0)))) w16)))))))
set_option maxRecDepth 100000 in
theorem e_tokenizer_bad (t_1 : List UInt8) (t_2 : List UInt8) (t_3 : List UInt8) (t_4 : Int) (t_5 : Int) (t_6 : List UInt8) (R : Ending → World → Prop) (w : World) : fnV Tryz.prog Tryz.f60 an_tokenizer_bad [.agg ⟨[.string ⟨⟨t_1⟩⟩, .string ⟨⟨t_2⟩⟩, .string ⟨⟨t_3⟩⟩, .int .i64 t_4, .int .i64 t_5, .string ⟨⟨t_6⟩⟩]⟩] R w = sh_tokenizer_bad t_1 t_2 t_3 t_4 t_5 t_6 R w := by kernel_rfl
theorem c_tokenizer_bad {t_1 : List UInt8} {t_2 : List UInt8} {t_3 : List UInt8} {t_4 : Int} {t_5 : Int} {t_6 : List UInt8} {R : Ending → World → Prop} {w : World} (h : sh_tokenizer_bad t_1 t_2 t_3 t_4 t_5 t_6 R w) : Calls Tryz.prog F_tokenizer_bad ⟨[.agg ⟨[.string ⟨⟨t_1⟩⟩, .string ⟨⟨t_2⟩⟩, .string ⟨⟨t_3⟩⟩, .int .i64 t_4, .int .i64 t_5, .string ⟨⟨t_6⟩⟩]⟩]⟩ w R := calls_of_fnV Tryz.func60 (by rw [e_tokenizer_bad]; exact h)

end Go.Proofs
