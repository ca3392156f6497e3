/- Written by program: for each function its verification condition, that it is the code's (by the kernel), and that it gives the call. -/
import Derived.Test.YtieeggfkfgmdgaaDoorFn
namespace Go.Proofs
open Go Go.Sh
def an_law15_TokenizerPlaces : Ann := .two (.leaf) (.two (.leaf) (.two (.two (.leaf) (.two (.two (.leaf) (.leaf)) (.leaf))) (.two (.leaf) (.two (.leaf) (.two (.leaf) (.two (.leaf) (.cut 9221120237041090624 [] (.two (.leaf) (.two (.two (.leaf) (.leaf)) (.leaf))) (.two (.leaf) (.two (.two (.leaf) (.one (.loop 356811923176489970264571455468885636678549568 [(17, .one (.bool)), (65, .one (.int .i64))] (.two (.leaf) (.two (.two (.leaf) (.leaf)) (.two (.one (.two (.leaf) (.cut 42535295865117306752330205211559723072 [] (.two (.leaf) (.two (.two (.leaf) (.leaf)) (.leaf))) (.cut 5401982574869898107481071892979320487936 [(17, .one (.bool))] (.leaf) (.two (.leaf) (.cut 2776704114074857861861136796643228605480960 [] (.two (.leaf) (.two (.leaf) (.leaf))) (.two (.leaf) (.two (.two (.leaf) (.leaf)) (.leaf))))))))) (.leaf))))))) (.two (.leaf) (.leaf)))))))))))
def sh_law15_TokenizerPlaces (l_1 : Option Addr) (l_1n : Nat) (l_1c : Nat) (hand_2 : Int) (line_3 : Int) (R : Ending → World → Prop) (w : World) : Prop :=
  Calls Tryd.prog 4 ⟨[.slice l_1 l_1n l_1c, .int .u8 hand_2, .slice none 0 0]⟩ w fun (e4 : Ending) (w5 : World) =>
  ∃ (x6 : Option Addr) (x6n : Nat) (x6c : Nat) (x7 : Option Addr) (x7n : Nat) (x7c : Nat) (x8 : Bool), e4 = .returned (.tuple ⟨[.slice x6 x6n x6c, .slice x7 x7n x7c, .bool x8]⟩) ∧ (br (!x8) (Calls Tryd.prog 5 ⟨[]⟩ w5 fun (e9 : Ending) (w10 : World) =>
  ∃ (x11 : Bool), e9 = .returned (.bool x11) ∧ (R (.returned (.bool x11)) w10)) (Calls Tryd.prog 6 ⟨[.slice x7 x7n x7c, .int .i64 2]⟩ w5 fun (e12 : Ending) (w13 : World) =>
  ∃ (x14 : Int) (x15 : Int), e12 = .returned (.tuple ⟨[.int .i64 x14, .int .i64 x15]⟩) ∧ (Calls Tryd.prog 6 ⟨[.slice x7 x7n x7c, .int .i64 3]⟩ w13 fun (e16 : Ending) (w17 : World) =>
  ∃ (x18 : Int) (x19 : Int), e16 = .returned (.tuple ⟨[.int .i64 x18, .int .i64 x19]⟩) ∧ (idiv 100 (Calls Tryd.prog 7 ⟨[.agg ⟨[.string ⟨⟨[112]⟩⟩, .int .i64 (Int.tmod (IntKind.i64.wrap line_3) 100)]⟩, .slice x7 x7n x7c, .slice none 0 0]⟩ w17 fun (e20 : Ending) (w21 : World) =>
  ∃ (x22 : Option Addr) (x22n : Nat) (x22c : Nat) (x23 : Int), e20 = .returned (.tuple ⟨[.slice x22 x22n x22c, .int .i64 x23]⟩) ∧ (∀ (K24 : World → Prop), (∀  (w25 : World), (∀ _ : Env, (∃ (I26 : Bool → Int → World → Nat → Prop), (∃ m31 : Nat, I26 true 0 w25 m31) ∧ ∀ (first_27 : Bool) (t65_28 : Int) (w29 : World) (m30 : Nat), I26 first_27 t65_28 w29 m30 → ∀ _ : Env, (br (decide ((t65_28 : Int) < ((x6n : Int)))) (idx x6 x6n t65_28 6 fun p32 =>
  ∃ (x33 : List UInt8), World.cell? w29 (p32.add 0) = some (.string ⟨⟨x33⟩⟩) ∧ (∃ (x34 : List UInt8), World.cell? w29 (p32.add 1) = some (.string ⟨⟨x34⟩⟩) ∧ (∃ (x35 : List UInt8), World.cell? w29 (p32.add 2) = some (.string ⟨⟨x35⟩⟩) ∧ (∃ (x36 : Int), World.cell? w29 (p32.add 3) = some (.int .i64 x36) ∧ (∃ (x37 : Int), World.cell? w29 (p32.add 4) = some (.int .i64 x37) ∧ (∃ (x38 : List UInt8), World.cell? w29 (p32.add 5) = some (.string ⟨⟨x38⟩⟩) ∧ (al w29 35 [.string ⟨⟨[]⟩⟩, .string ⟨⟨[]⟩⟩, .string ⟨⟨[]⟩⟩, .int .i64 0, .int .i64 0, .string ⟨⟨[]⟩⟩] fun p39 w40 =>
  stL w40 p39 0 [.string ⟨⟨x33⟩⟩, .string ⟨⟨x34⟩⟩, .string ⟨⟨x35⟩⟩, .int .i64 x36, .int .i64 x37, .string ⟨⟨x38⟩⟩] fun w41 =>
  ∀ (K42 : World → Prop), (∀  (w43 : World), (∀ _ : Env, (∀ (K44 : Bool → World → Prop), (∀ (first_45 : Bool) (w46 : World), (∀ _ : Env, (∃ (x47 : List UInt8), World.cell? w46 (p39.add 0) = some (.string ⟨⟨x47⟩⟩) ∧ (∃ (x48 : List UInt8), World.cell? w46 (p39.add 1) = some (.string ⟨⟨x48⟩⟩) ∧ (∃ (x49 : List UInt8), World.cell? w46 (p39.add 2) = some (.string ⟨⟨x49⟩⟩) ∧ (∃ (x50 : Int), World.cell? w46 (p39.add 3) = some (.int .i64 x50) ∧ (∃ (x51 : Int), World.cell? w46 (p39.add 4) = some (.int .i64 x51) ∧ (∃ (x52 : List UInt8), World.cell? w46 (p39.add 5) = some (.string ⟨⟨x52⟩⟩) ∧ (al w46 35 [.string ⟨⟨[]⟩⟩, .string ⟨⟨[]⟩⟩, .string ⟨⟨[]⟩⟩, .int .i64 0, .int .i64 0, .string ⟨⟨[]⟩⟩] fun p53 w54 =>
  stL w54 p53 0 [.string ⟨⟨x47⟩⟩, .string ⟨⟨x48⟩⟩, .string ⟨⟨x49⟩⟩, .int .i64 x50, .int .i64 x51, .string ⟨⟨x52⟩⟩] fun w55 =>
  ∀ (K56 : World → Prop), (∀  (w57 : World), (∀ _ : Env, (drw w57 fun w58 =>
  idx x22 x22n t65_28 6 fun p59 =>
  ∃ (x60 : List UInt8), World.cell? w58 (p59.add 0) = some (.string ⟨⟨x60⟩⟩) ∧ (∃ (x61 : List UInt8), World.cell? w58 (p59.add 1) = some (.string ⟨⟨x61⟩⟩) ∧ (∃ (x62 : List UInt8), World.cell? w58 (p59.add 2) = some (.string ⟨⟨x62⟩⟩) ∧ (∃ (x63 : Int), World.cell? w58 (p59.add 3) = some (.int .i64 x63) ∧ (∃ (x64 : Int), World.cell? w58 (p59.add 4) = some (.int .i64 x64) ∧ (∃ (x65 : List UInt8), World.cell? w58 (p59.add 5) = some (.string ⟨⟨x65⟩⟩) ∧ (∃ (x66 : List UInt8), World.cell? w58 (p53.add 0) = some (.string ⟨⟨x66⟩⟩) ∧ (∃ (x67 : List UInt8), World.cell? w58 (p53.add 1) = some (.string ⟨⟨x67⟩⟩) ∧ (∃ (x68 : List UInt8), World.cell? w58 (p53.add 2) = some (.string ⟨⟨x68⟩⟩) ∧ (∃ (x69 : Int), World.cell? w58 (p53.add 3) = some (.int .i64 x69) ∧ (∃ (x70 : Int), World.cell? w58 (p53.add 4) = some (.int .i64 x70) ∧ (∃ (x71 : List UInt8), World.cell? w58 (p53.add 5) = some (.string ⟨⟨x71⟩⟩) ∧ (br (!(decide ((x60 : List UInt8) = x66) && (decide ((x61 : List UInt8) = x67) && ((decide ((x62 : List UInt8) = x68) && (decide ((x63 : Int) = x69) && true)) && (decide ((x64 : Int) = x70) && (decide ((x65 : List UInt8) = x71) && true)))))) (R (.returned (.bool false)) w58) (∃ m72 : Nat, m72 < m30 ∧ I26 first_45 (IntKind.i64.wrap (t65_28 + 1)) w58 m72))))))))))))))) → K56 w57) → (br first_45 (∃ (x73 : Int), World.cell? w55 ((p39.add 2).add 1) = some (.int .i64 x73) ∧ (stL w55 (p53.add 2) 0 [.string ⟨⟨[112]⟩⟩, .int .i64 (IntKind.i64.wrap (x73 + (Int.tmod (IntKind.i64.wrap line_3) 100)))] fun w74 =>
  K56 w74)) (K56 w55)))))))))) → K44 first_45 w46) → (br first_27 (∃ (x75 : List UInt8), World.cell? w43 ((p39.add 2).add 0) = some (.string ⟨⟨x75⟩⟩) ∧ (K44 (decide ((x75 : List UInt8) = ([]))) w43)) (K44 false w43)))) → K42 w43) → (drw w41 fun w76 =>
  ∃ (x77 : Int), World.cell? w76 ((p39.add 2).add 1) = some (.int .i64 x77) ∧ (br (decide ((x77 : Int) < 0)) (R (.returned (.bool false)) w76) (∃ (x78 : Int), World.cell? w76 ((p39.add 2).add 1) = some (.int .i64 x78) ∧ (br (decide ((x14 : Int) < x78)) (R (.returned (.bool false)) w76) (br (decide ((x18 : Int) = 0)) (∃ (x79 : List UInt8), World.cell? w76 ((p39.add 2).add 0) = some (.string ⟨⟨x79⟩⟩) ∧ (br (decide ((x79 : List UInt8) ≠ ([]))) (R (.returned (.bool false)) w76) (br (decide ((0 : Int) < t65_28)) (∃ (x80 : List UInt8), World.cell? w76 ((p39.add 2).add 0) = some (.string ⟨⟨x80⟩⟩) ∧ (idx x6 x6n (IntKind.i64.wrap (t65_28 - 1)) 6 fun p81 =>
  ∃ (x82 : List UInt8), World.cell? w76 ((p81.add 2).add 0) = some (.string ⟨⟨x82⟩⟩) ∧ (br (decide ((x80 : List UInt8) = x82)) (br (decide ((x18 : Int) = 0)) (∃ (x83 : Int), World.cell? w76 ((p39.add 2).add 1) = some (.int .i64 x83) ∧ (idx x6 x6n (IntKind.i64.wrap (t65_28 - 1)) 6 fun p84 =>
  ∃ (x85 : Int), World.cell? w76 ((p84.add 2).add 1) = some (.int .i64 x85) ∧ (br (decide ((x83 : Int) < x85)) (R (.returned (.bool false)) w76) (K42 w76)))) (K42 w76)) (K42 w76)))) (K42 w76)))) (br (decide ((0 : Int) < t65_28)) (∃ (x86 : List UInt8), World.cell? w76 ((p39.add 2).add 0) = some (.string ⟨⟨x86⟩⟩) ∧ (idx x6 x6n (IntKind.i64.wrap (t65_28 - 1)) 6 fun p87 =>
  ∃ (x88 : List UInt8), World.cell? w76 ((p87.add 2).add 0) = some (.string ⟨⟨x88⟩⟩) ∧ (br (decide ((x86 : List UInt8) = x88)) (br (decide ((x18 : Int) = 0)) (∃ (x89 : Int), World.cell? w76 ((p39.add 2).add 1) = some (.int .i64 x89) ∧ (idx x6 x6n (IntKind.i64.wrap (t65_28 - 1)) 6 fun p90 =>
  ∃ (x91 : Int), World.cell? w76 ((p90.add 2).add 1) = some (.int .i64 x91) ∧ (br (decide ((x89 : Int) < x91)) (R (.returned (.bool false)) w76) (K42 w76)))) (K42 w76)) (K42 w76)))) (K42 w76)))))))))))))) (Calls Tryd.prog 5 ⟨[]⟩ w29 fun (e92 : Ending) (w93 : World) =>
  ∃ (x94 : Bool), e92 = .returned (.bool x94) ∧ (R (.returned (.bool x94)) w93))))) → K24 w25) → (br (decide ((((max (max x15 x19) x23)) : Int) ≠ 0)) (R (.returned (.bool false)) w21) (br (decide ((((x22n : Int)) : Int) ≠ ((x6n : Int)))) (R (.returned (.bool false)) w21) (K24 w21)))))))))
set_option maxRecDepth 100000 in
theorem e_law15_TokenizerPlaces (l_1 : Option Addr) (l_1n : Nat) (l_1c : Nat) (hand_2 : Int) (line_3 : Int) (R : Ending → World → Prop) (w : World) : fnV Tryd.prog Tryd.f3 an_law15_TokenizerPlaces [.slice l_1 l_1n l_1c, .int .u8 hand_2, .int .u8 line_3] R w = sh_law15_TokenizerPlaces l_1 l_1n l_1c hand_2 line_3 R w := by kernel_rfl
theorem c_law15_TokenizerPlaces {l_1 : Option Addr} {l_1n : Nat} {l_1c : Nat} {hand_2 : Int} {line_3 : Int} {R : Ending → World → Prop} {w : World} (h : sh_law15_TokenizerPlaces l_1 l_1n l_1c hand_2 line_3 R w) : Calls Tryd.prog F_law15_TokenizerPlaces ⟨[.slice l_1 l_1n l_1c, .int .u8 hand_2, .int .u8 line_3]⟩ w R := calls_of_fnV Tryd.func3 (by rw [e_law15_TokenizerPlaces]; exact h)

def an_law15_tokens : Ann := .two (.leaf) (.cut 67101120 [] (.two (.leaf) (.two (.two (.leaf) (.leaf)) (.leaf))) (.two (.leaf) (.two (.leaf) (.two (.leaf) (.leaf)))))
def sh_law15_tokens (l_1 : Option Addr) (l_1n : Nat) (l_1c : Nat) (hand_2 : Int) (rules_3 : Option Addr) (rules_3n : Nat) (rules_3c : Nat) (R : Ending → World → Prop) (w : World) : Prop :=
  ∀ (K4 : World → Prop), (∀  (w5 : World), (∀ _ : Env, (idiv 9 (Calls Tryd.prog 11 ⟨[.slice l_1 l_1n l_1c, .int .i64 (Int.tmod (IntKind.i64.wrap hand_2) 9)]⟩ w5 fun (e6 : Ending) (w7 : World) =>
  ∃ (x8 : Option Addr) (x8n : Nat) (x8c : Nat) (x9 : Int), e6 = .returned (.tuple ⟨[.slice x8 x8n x8c, .int .i64 x9]⟩) ∧ (Calls Tryd.prog 7 ⟨[.agg ⟨[.string ⟨⟨[]⟩⟩, .int .i64 0]⟩, .slice x8 x8n x8c, .slice rules_3 rules_3n rules_3c]⟩ w7 fun (e10 : Ending) (w11 : World) =>
  ∃ (x12 : Option Addr) (x12n : Nat) (x12c : Nat) (x13 : Int), e10 = .returned (.tuple ⟨[.slice x12 x12n x12c, .int .i64 x13]⟩) ∧ (br (decide ((x9 : Int) = 0)) (R (.returned (.tuple ⟨[.slice x12 x12n x12c, .slice x8 x8n x8c, .bool (decide ((x13 : Int) = 0))]⟩)) w11) (R (.returned (.tuple ⟨[.slice x12 x12n x12c, .slice x8 x8n x8c, .bool false]⟩)) w11)))))) → K4 w5) → (Calls Tryd.prog 8 ⟨[.slice l_1 l_1n l_1c, .slice rules_3 rules_3n rules_3c]⟩ w fun (e14 : Ending) (w15 : World) =>
  ∃ (x16 : Bool), e14 = .returned (.bool x16) ∧ (br x16 (R (.returned (.tuple ⟨[.slice none 0 0, .slice none 0 0, .bool false]⟩)) w15) (Calls Tryd.prog 9 ⟨[.slice l_1 l_1n l_1c]⟩ w15 fun (e17 : Ending) (w18 : World) =>
  ∃ (x19 : Int), e17 = .returned (.int .i64 x19) ∧ (br (decide ((x19 : Int) ≠ 0)) (R (.returned (.tuple ⟨[.slice none 0 0, .slice none 0 0, .bool false]⟩)) w18) (Calls Tryd.prog 10 ⟨[.slice rules_3 rules_3n rules_3c]⟩ w18 fun (e20 : Ending) (w21 : World) =>
  ∃ (x22 : Int), e20 = .returned (.int .i64 x22) ∧ (br (decide ((x22 : Int) ≠ 0)) (R (.returned (.tuple ⟨[.slice none 0 0, .slice none 0 0, .bool false]⟩)) w21) (K4 w21)))))))
set_option maxRecDepth 100000 in
theorem e_law15_tokens (l_1 : Option Addr) (l_1n : Nat) (l_1c : Nat) (hand_2 : Int) (rules_3 : Option Addr) (rules_3n : Nat) (rules_3c : Nat) (R : Ending → World → Prop) (w : World) : fnV Tryd.prog Tryd.f4 an_law15_tokens [.slice l_1 l_1n l_1c, .int .u8 hand_2, .slice rules_3 rules_3n rules_3c] R w = sh_law15_tokens l_1 l_1n l_1c hand_2 rules_3 rules_3n rules_3c R w := by kernel_rfl
theorem c_law15_tokens {l_1 : Option Addr} {l_1n : Nat} {l_1c : Nat} {hand_2 : Int} {rules_3 : Option Addr} {rules_3n : Nat} {rules_3c : Nat} {R : Ending → World → Prop} {w : World} (h : sh_law15_tokens l_1 l_1n l_1c hand_2 rules_3 rules_3n rules_3c R w) : Calls Tryd.prog F_law15_tokens ⟨[.slice l_1 l_1n l_1c, .int .u8 hand_2, .slice rules_3 rules_3n rules_3c]⟩ w R := calls_of_fnV Tryd.func4 (by rw [e_law15_tokens]; exact h)

def an_law15_awake : Ann := .two (.leaf) (.two (.leaf) (.two (.leaf) (.two (.leaf) (.cut 1152921503533105153 [] (.two (.leaf) (.two (.two (.leaf) (.leaf)) (.leaf))) (.two (.leaf) (.two (.leaf) (.leaf)))))))
def sh_law15_awake  (R : Ending → World → Prop) (w : World) : Prop :=
  Calls Tryd.prog 12 ⟨[.string ⟨⟨[68, 101]⟩⟩]⟩ w fun (e1 : Ending) (w2 : World) =>
  ∃ (x3 : Int) (x4 : List UInt8) (x5 : Int) (x6 : Option Addr) (x6n : Nat) (x6c : Nat), e1 = .returned (.agg ⟨[.int .i64 x3, .string ⟨⟨x4⟩⟩, .int .i64 x5, .slice x6 x6n x6c]⟩) ∧ (Calls Tryd.prog 12 ⟨[.string ⟨⟨[117, 115, 32, 101, 115, 116, 44]⟩⟩]⟩ w2 fun (e7 : Ending) (w8 : World) =>
  ∃ (x9 : Int) (x10 : List UInt8) (x11 : Int) (x12 : Option Addr) (x12n : Nat) (x12c : Nat), e7 = .returned (.agg ⟨[.int .i64 x9, .string ⟨⟨x10⟩⟩, .int .i64 x11, .slice x12 x12n x12c]⟩) ∧ (al w8 44 [.int .i64 x3, .string ⟨⟨x4⟩⟩, .int .i64 x5, .slice x6 x6n x6c, .int .i64 2, .string ⟨⟨[]⟩⟩, .int .i64 0, .slice none 0 0, .int .i64 x9, .string ⟨⟨x10⟩⟩, .int .i64 x11, .slice x12 x12n x12c] fun p13 w14 =>
  Calls Tryd.prog 7 ⟨[.agg ⟨[.string ⟨⟨[]⟩⟩, .int .i64 0]⟩, .slice (some p13) 3 3, .slice none 0 0]⟩ w14 fun (e15 : Ending) (w16 : World) =>
  ∃ (x17 : Option Addr) (x17n : Nat) (x17c : Nat) (x18 : Int), e15 = .returned (.tuple ⟨[.slice x17 x17n x17c, .int .i64 x18]⟩) ∧ (Calls Tryd.prog 13 ⟨[.string ⟨⟨[97, 98, 39, 99, 32, 39, 100]⟩⟩]⟩ w16 fun (e19 : Ending) (w20 : World) =>
  ∃ (x21 : Option Addr) (x21n : Nat) (x21c : Nat) (x22 : Int), e19 = .returned (.tuple ⟨[.slice x21 x21n x21c, .int .i64 x22]⟩) ∧ (Calls Tryd.prog 12 ⟨[.string ⟨⟨[109, 97]⟩⟩]⟩ w20 fun (e23 : Ending) (w24 : World) =>
  ∃ (x25 : Int) (x26 : List UInt8) (x27 : Int) (x28 : Option Addr) (x28n : Nat) (x28c : Nat), e23 = .returned (.agg ⟨[.int .i64 x25, .string ⟨⟨x26⟩⟩, .int .i64 x27, .slice x28 x28n x28c]⟩) ∧ (Calls Tryd.prog 12 ⟨[.string ⟨⟨[117, 115]⟩⟩]⟩ w24 fun (e29 : Ending) (w30 : World) =>
  ∃ (x31 : Int) (x32 : List UInt8) (x33 : Int) (x34 : Option Addr) (x34n : Nat) (x34c : Nat), e29 = .returned (.agg ⟨[.int .i64 x31, .string ⟨⟨x32⟩⟩, .int .i64 x33, .slice x34 x34n x34c]⟩) ∧ (al w30 44 [.int .i64 x25, .string ⟨⟨x26⟩⟩, .int .i64 x27, .slice x28 x28n x28c, .int .i64 6, .string ⟨⟨[]⟩⟩, .int .i64 2, .slice none 0 0, .int .i64 x31, .string ⟨⟨x32⟩⟩, .int .i64 x33, .slice x34 x34n x34c] fun p35 w36 =>
  Calls Tryd.prog 7 ⟨[.agg ⟨[.string ⟨⟨[]⟩⟩, .int .i64 0]⟩, .slice (some p35) 3 3, .slice none 0 0]⟩ w36 fun (e37 : Ending) (w38 : World) =>
  ∃ (x39 : Option Addr) (x39n : Nat) (x39c : Nat) (x40 : Int), e37 = .returned (.tuple ⟨[.slice x39 x39n x39c, .int .i64 x40]⟩) ∧ (∀ (K41 : World → Prop), (∀  (w42 : World), (∀ _ : Env, (al w42 33 [.string ⟨⟨[]⟩⟩, .int .i64 0] fun p43 w44 =>
  stL w44 p43 0 [.string ⟨⟨[]⟩⟩, .int .i64 1] fun w45 =>
  ∃ (x46 : List UInt8), World.cell? w45 (p43.add 0) = some (.string ⟨⟨x46⟩⟩) ∧ (∃ (x47 : Int), World.cell? w45 (p43.add 1) = some (.int .i64 x47) ∧ (∃ (x48 : List UInt8), World.cell? w45 (p43.add 0) = some (.string ⟨⟨x48⟩⟩) ∧ (∃ (x49 : Int), World.cell? w45 (p43.add 1) = some (.int .i64 x49) ∧ (al w45 35 [.string ⟨⟨[68, 101, 117, 115]⟩⟩, .string ⟨⟨[68, 101, 117, 115]⟩⟩, .string ⟨⟨[]⟩⟩, .int .i64 0, .int .i64 0, .string ⟨⟨[]⟩⟩, .string ⟨⟨[101, 115, 116]⟩⟩, .string ⟨⟨[101, 115, 116]⟩⟩, .string ⟨⟨x46⟩⟩, .int .i64 x47, .int .i64 0, .string ⟨⟨[]⟩⟩, .string ⟨⟨[44]⟩⟩, .string ⟨⟨[44]⟩⟩, .string ⟨⟨x48⟩⟩, .int .i64 x49, .int .i64 24, .string ⟨⟨[]⟩⟩] fun p50 w51 =>
  Calls Tryd.prog 15 ⟨[.slice x17 x17n x17c, .slice (some p50) 3 3]⟩ w51 fun (e52 : Ending) (w53 : World) =>
  ∃ (x54 : Bool), e52 = .returned (.bool x54) ∧ (R (.returned (.bool x54)) w53))))))) → K41 w42) → (br (decide ((((max (max x18 x22) x40)) : Int) ≠ 0)) (R (.returned (.bool false)) w38) (al w38 9 [.string ⟨⟨[97, 98, 39, 99]⟩⟩, .string ⟨⟨[39]⟩⟩, .string ⟨⟨[100]⟩⟩] fun p55 w56 =>
  Calls Tryd.prog 14 ⟨[.slice x21 x21n x21c, .slice (some p55) 3 3]⟩ w56 fun (e57 : Ending) (w58 : World) =>
  ∃ (x59 : Bool), e57 = .returned (.bool x59) ∧ (br (!x59) (R (.returned (.bool false)) w58) (br (decide ((((x39n : Int)) : Int) ≠ 3)) (R (.returned (.bool false)) w58) (idx x39 x39n 1 6 fun p60 =>
  ∃ (x61 : List UInt8), World.cell? w58 (p60.add 0) = some (.string ⟨⟨x61⟩⟩) ∧ (br (decide ((x61 : List UInt8) ≠ ([91, 50, 93]))) (R (.returned (.bool false)) w58) (idx x39 x39n 2 6 fun p62 =>
  ∃ (x63 : Int), World.cell? w58 (p62.add 4) = some (.int .i64 x63) ∧ (br (decide ((x63 : Int) ≠ 16)) (R (.returned (.bool false)) w58) (K41 w58))))))))))))))))
set_option maxRecDepth 100000 in
theorem e_law15_awake  (R : Ending → World → Prop) (w : World) : fnV Tryd.prog Tryd.f5 an_law15_awake [] R w = sh_law15_awake  R w := by kernel_rfl
theorem c_law15_awake  {R : Ending → World → Prop} {w : World} (h : sh_law15_awake  R w) : Calls Tryd.prog F_law15_awake ⟨[]⟩ w R := calls_of_fnV Tryd.func5 (by rw [e_law15_awake]; exact h)

def an_transcript_Count : Ann := .two (.leaf) (.two (.two (.leaf) (.two (.two (.leaf) (.leaf)) (.leaf))) (.cut 129072 [(4, .one (.int .i64)), (5, .one (.int .i64))] (.two (.leaf) (.two (.two (.leaf) (.leaf)) (.leaf))) (.two (.leaf) (.two (.two (.leaf) (.one (.rf [3, 4, 5, 6, 18] 0))) (.two (.leaf) (.leaf))))))
def sh_transcript_Count (l_1 : Option Addr) (l_1n : Nat) (l_1c : Nat) (kind_2 : Int) (R : Ending → World → Prop) (w : World) : Prop :=
  al w 3 [.int .i64 kind_2] fun p3 w4 =>
  Calls Tryd.prog 9 ⟨[.slice l_1 l_1n l_1c]⟩ w4 fun (e5 : Ending) (w6 : World) =>
  ∃ (x7 : Int), e5 = .returned (.int .i64 x7) ∧ (br (decide ((x7 : Int) ≠ 0)) (R (.returned (.tuple ⟨[.int .i64 0, .int .i64 1]⟩)) w6) (∀ (K8 : Int → Int → World → Prop), (∀ (t4_9 : Int) (t5_10 : Int) (w11 : World), (∀ _ : Env, (al w11 3 [.int .i64 0] fun p12 w13 =>
  stL w13 p12 0 [.int .i64 0] fun w14 =>
  Calls Tryd.prog 16 ⟨[.slice l_1 l_1n l_1c]⟩ w14 fun (e15 : Ending) (w16 : World) =>
  ∃ (x17 : Fn) (x17a : Array Value) (x17b : Array Value), e15 = .returned (.func x17 x17a x17b) ∧ (∀ base18 : Env, RFw Tryd.prog none 28 (cdAt Tryd.f6 [1, 1, 1, 1, 0, 1, 2]) (upd (upd (upd (upd (upd base18 18 (.func x17 x17a x17b)) 6 (.pointer (some p12))) 5 (.int .i64 t5_10)) 4 (.int .i64 t4_9)) 3 (.pointer (some p3))) [] w16 0 (fun ds19 w20 =>
  ∃ (x23 : Int), World.cell? w20 p12 = some (.int .i64 x23) ∧ (retD ds19 w20 fun w24 =>
  R (.returned (.tuple ⟨[.int .i64 x23, .int .i64 0]⟩)) w24)) (fun ds19 w20 =>
  retD ds19 w20 fun w25 =>
  R (.returned (.tuple ⟨[.int .i64 t4_9, .int .i64 t5_10]⟩)) w25) (fun ds19 w20 =>
  ∃ (x21 : Int), World.cell? w20 p12 = some (.int .i64 x21) ∧ (retD ds19 w20 fun w22 =>
  R (.returned (.tuple ⟨[.int .i64 x21, .int .i64 0]⟩)) w22))))) → K8 t4_9 t5_10 w11) → (∃ (x26 : Int), World.cell? w6 p3 = some (.int .i64 x26) ∧ (br (decide ((x26 : Int) < 1)) (R (.returned (.tuple ⟨[.int .i64 0, .int .i64 8]⟩)) w6) (∃ (x27 : Int), World.cell? w6 p3 = some (.int .i64 x27) ∧ (br (decide ((11 : Int) < x27)) (R (.returned (.tuple ⟨[.int .i64 0, .int .i64 8]⟩)) w6) (K8 0 0 w6)))))))
set_option maxRecDepth 100000 in
theorem e_transcript_Count (l_1 : Option Addr) (l_1n : Nat) (l_1c : Nat) (kind_2 : Int) (R : Ending → World → Prop) (w : World) : fnV Tryd.prog Tryd.f6 an_transcript_Count [.slice l_1 l_1n l_1c, .int .i64 kind_2] R w = sh_transcript_Count l_1 l_1n l_1c kind_2 R w := by kernel_rfl
theorem c_transcript_Count {l_1 : Option Addr} {l_1n : Nat} {l_1c : Nat} {kind_2 : Int} {R : Ending → World → Prop} {w : World} (h : sh_transcript_Count l_1 l_1n l_1c kind_2 R w) : Calls Tryd.prog F_transcript_Count ⟨[.slice l_1 l_1n l_1c, .int .i64 kind_2]⟩ w R := calls_of_fnV Tryd.func6 (by rw [e_transcript_Count]; exact h)
def anA_transcript_Count_1 : Ann := .leaf
def anB_transcript_Count_1 : Ann := .one (.two (.leaf) (.two (.leaf) (.leaf)))
def rf_transcript_Count_1 (kind_28 : Option Addr) (t4_29 : Int) (t5_30 : Int) (n_31 : Option Addr) (t18_32 : Fn) (t18_32a : Array Value) (t18_32b : Array Value) (t19_33 : Int) (t19_34 : List UInt8) (t19_35 : Int) (t19_36 : Option Addr) (t19_36n : Nat) (t19_36c : Nat) (t19_37 : Int) (t19_38 : Bool) (l : Nat) (Kn Kr Kx : World → World → Prop) (w : World) : Prop :=
  al w 55 [.int .i64 0, .string ⟨⟨[]⟩⟩, .int .i64 0, .slice none 0 0, .int .i64 0, .bool false] fun p40 w41 =>
  stL w41 p40 0 [.int .i64 t19_33, .string ⟨⟨t19_34⟩⟩, .int .i64 t19_35, .slice t19_36 t19_36n t19_36c, .int .i64 t19_37, .bool t19_38] fun w42 =>
  Ext w w42 ∧ ∀ w39 : World, Upd l w42 w39 → (∃ (x43 : Int), World.cell? w39 ((p40.add 0).add 0) = some (.int .i64 x43) ∧ (dr kind_28 fun p44 =>
  ∃ (x45 : Int), World.cell? w39 p44 = some (.int .i64 x45) ∧ (br (decide ((x43 : Int) = x45)) (dr n_31 fun p46 =>
  ∃ (x47 : Int), World.cell? w39 p46 = some (.int .i64 x47) ∧ (dr n_31 fun p49 =>
  stL w39 p49 0 [.int .i64 (IntKind.i64.wrap (x47 + 1))] fun w48 =>
  Kn w39 w48)) (Kn w39 w39))))
set_option maxRecDepth 100000 in
theorem er_transcript_Count_1 (base : Env) (kind_28 : Option Addr) (t4_29 : Int) (t5_30 : Int) (n_31 : Option Addr) (t18_32 : Fn) (t18_32a : Array Value) (t18_32b : Array Value) (t19_33 : Int) (t19_34 : List UInt8) (t19_35 : Int) (t19_36 : Option Addr) (t19_36n : Nat) (t19_36c : Nat) (t19_37 : Int) (t19_38 : Bool) (l : Nat) (Kn Kr Kx : World → World → Prop) (w : World) : fragV Tryd.prog 28 anA_transcript_Count_1 anB_transcript_Count_1 (cdAt Tryd.f6 [1, 1, 1, 1, 0, 1, 2, 5]) (cdAt Tryd.f6 [1, 1, 1, 1, 0, 1, 2, 6]) l 0 Kn Kr Kx (updPs [19] [.agg ⟨[.int .i64 t19_33, .string ⟨⟨t19_34⟩⟩, .int .i64 t19_35, .slice t19_36 t19_36n t19_36c, .int .i64 t19_37, .bool t19_38]⟩] (upd (upd (upd (upd (upd base 18 (.func t18_32 t18_32a t18_32b)) 6 (.pointer n_31)) 5 (.int .i64 t5_30)) 4 (.int .i64 t4_29)) 3 (.pointer kind_28))) w = rf_transcript_Count_1 kind_28 t4_29 t5_30 n_31 t18_32 t18_32a t18_32b t19_33 t19_34 t19_35 t19_36 t19_36n t19_36c t19_37 t19_38 l Kn Kr Kx w := by kernel_rfl
theorem cd_transcript_Count_1 : cdAt Tryd.f6 [1, 1, 1, 1, 0, 1, 2] = .rangeFunc (Operand.tmp 18) #[19] (cdAt Tryd.f6 [1, 1, 1, 1, 0, 1, 2, 5]) (cdAt Tryd.f6 [1, 1, 1, 1, 0, 1, 2, 6]) := by kernel_rfl

def an_tokenizer_Tokens : Ann := .two (.leaf) (.cut 4178112 [(6, .one (.slice)), (7, .one (.int .i64))] (.two (.leaf) (.two (.two (.leaf) (.leaf)) (.leaf))) (.cut 1069547712 [(6, .one (.slice)), (7, .one (.int .i64))] (.two (.leaf) (.two (.two (.leaf) (.leaf)) (.leaf))) (.two (.two (.leaf) (.two (.two (.leaf) (.leaf)) (.leaf))) (.two (.leaf) (.two (.leaf) (.two (.two (.leaf) (.two (.two (.leaf) (.leaf)) (.leaf))) (.two (.leaf) (.two (.two (.leaf) (.one (.rf [2, 6, 7, 12, 50] 0))) (.two (.leaf) (.cut 18410715276690587840 [] (.two (.leaf) (.two (.two (.leaf) (.leaf)) (.leaf))) (.two (.leaf) (.leaf))))))))))))
def sh_tokenizer_Tokens (start_1 : List UInt8) (start_2 : Int) (l_3 : Option Addr) (l_3n : Nat) (l_3c : Nat) (rules_4 : Option Addr) (rules_4n : Nat) (rules_4c : Nat) (R : Ending → World → Prop) (w : World) : Prop :=
  al w 33 [.string ⟨⟨start_1⟩⟩, .int .i64 start_2] fun p5 w6 =>
  ∀ (K7 : Option Addr → Nat → Nat → Int → World → Prop), (∀ (t6_8 : Option Addr) (t6_8n : Nat) (t6_8c : Nat) (t7_9 : Int) (w10 : World), (∀ _ : Env, (∀ (K11 : Option Addr → Nat → Nat → Int → World → Prop), (∀ (t6_12 : Option Addr) (t6_12n : Nat) (t6_12c : Nat) (t7_13 : Int) (w14 : World), (∀ _ : Env, (∃ (x15 : List UInt8), World.cell? w14 (p5.add 0) = some (.string ⟨⟨x15⟩⟩) ∧ (Calls Tryd.prog 17 ⟨[.string ⟨⟨x15⟩⟩]⟩ w14 fun (e16 : Ending) (w17 : World) =>
  ∃ (x18 : Bool), e16 = .returned (.bool x18) ∧ (br (!x18) (R (.returned (.tuple ⟨[.slice none 0 0, .int .i64 14]⟩)) w17) (Calls Tryd.prog 6 ⟨[.slice l_3 l_3n l_3c, .int .i64 8]⟩ w17 fun (e19 : Ending) (w20 : World) =>
  ∃ (x21 : Int) (x22 : Int), e19 = .returned (.tuple ⟨[.int .i64 x21, .int .i64 x22]⟩) ∧ (Calls Tryd.prog 6 ⟨[.slice l_3 l_3n l_3c, .int .i64 9]⟩ w20 fun (e23 : Ending) (w24 : World) =>
  ∃ (x25 : Int) (x26 : Int), e23 = .returned (.tuple ⟨[.int .i64 x25, .int .i64 x26]⟩) ∧ (br (decide ((0 : Int) < (IntKind.i64.wrap (x21 + x25)))) (R (.returned (.tuple ⟨[.slice none 0 0, .int .i64 13]⟩)) w24) (al w24 62 [.slice none 0 0, .pointer none, .slice none 0 0, .bool false, .bool false, .bool false] fun p27 w28 =>
  ∃ (x29 : List UInt8), World.cell? w28 (p5.add 0) = some (.string ⟨⟨x29⟩⟩) ∧ (∃ (x30 : Int), World.cell? w28 (p5.add 1) = some (.int .i64 x30) ∧ (Calls Tryd.prog 18 ⟨[.agg ⟨[.string ⟨⟨x29⟩⟩, .int .i64 x30]⟩, .slice l_3 l_3n l_3c]⟩ w28 fun (e31 : Ending) (w32 : World) =>
  ∃ (x33 : Fn) (x33a : Array Value) (x33b : Array Value), e31 = .returned (.func x33 x33a x33b) ∧ (∀ base34 : Env, RFw Tryd.prog none 70 (cdAt Tryd.f7 [1, 1, 1, 1, 1, 1, 1, 1, 0, 1, 2]) (upd (upd (upd (upd (upd base34 50 (.func x33 x33a x33b)) 12 (.pointer (some p27))) 7 (.int .i64 t7_13)) 6 (.slice t6_12 t6_12n t6_12c)) 2 (.slice rules_4 rules_4n rules_4c)) [] w32 0 (fun ds35 w36 =>
  Calls Tryd.prog 20 ⟨[.pointer (some p27)]⟩ w36 fun (e54 : Ending) (w55 : World) =>
  e54 = .returned (.tuple ⟨[]⟩) ∧ (∀ (K56 : World → Prop), (∀  (w57 : World), (∀ _ : Env, (∃ (x58 : Option Addr) (x58n : Nat) (x58c : Nat), World.cell? w57 (p27.add 0) = some (.slice x58 x58n x58c) ∧ (Calls Tryd.prog 23 ⟨[.slice rules_4 rules_4n rules_4c, .slice x58 x58n x58c]⟩ w57 fun (e59 : Ending) (w60 : World) =>
  ∃ (x61 : Option Addr) (x61n : Nat) (x61c : Nat) (x62 : Int), e59 = .returned (.tuple ⟨[.slice x61 x61n x61c, .int .i64 x62]⟩) ∧ (retD ds35 w60 fun w63 =>
  R (.returned (.tuple ⟨[.slice x61 x61n x61c, .int .i64 x62]⟩)) w63)))) → K56 w57) → (∃ (x64 : Option Addr) (x64n : Nat) (x64c : Nat), World.cell? w55 (p27.add 0) = some (.slice x64 x64n x64c) ∧ (br (decide ((1024 : Int) < ((x64n : Int)))) (retD ds35 w55 fun w65 =>
  R (.returned (.tuple ⟨[.slice none 0 0, .int .i64 4]⟩)) w65) (∃ (x66 : Option Addr) (x66n : Nat) (x66c : Nat), World.cell? w55 (p27.add 0) = some (.slice x66 x66n x66c) ∧ (Calls Tryd.prog 21 ⟨[.slice x66 x66n x66c, .func (.func 22) #[] #[]]⟩ w55 fun (e67 : Ending) (w68 : World) =>
  ∃ (x69 : Bool), e67 = .returned (.bool x69) ∧ (br x69 (retD ds35 w68 fun w70 =>
  R (.returned (.tuple ⟨[.slice none 0 0, .int .i64 4]⟩)) w70) (K56 w68)))))))) (fun ds35 w36 =>
  retD ds35 w36 fun w71 =>
  R (.returned (.tuple ⟨[.slice t6_12 t6_12n t6_12c, .int .i64 t7_13]⟩)) w71) (fun ds35 w36 =>
  Calls Tryd.prog 20 ⟨[.pointer (some p27)]⟩ w36 fun (e37 : Ending) (w38 : World) =>
  e37 = .returned (.tuple ⟨[]⟩) ∧ (∀ (K39 : World → Prop), (∀  (w40 : World), (∀ _ : Env, (∃ (x41 : Option Addr) (x41n : Nat) (x41c : Nat), World.cell? w40 (p27.add 0) = some (.slice x41 x41n x41c) ∧ (Calls Tryd.prog 23 ⟨[.slice rules_4 rules_4n rules_4c, .slice x41 x41n x41c]⟩ w40 fun (e42 : Ending) (w43 : World) =>
  ∃ (x44 : Option Addr) (x44n : Nat) (x44c : Nat) (x45 : Int), e42 = .returned (.tuple ⟨[.slice x44 x44n x44c, .int .i64 x45]⟩) ∧ (retD ds35 w43 fun w46 =>
  R (.returned (.tuple ⟨[.slice x44 x44n x44c, .int .i64 x45]⟩)) w46)))) → K39 w40) → (∃ (x47 : Option Addr) (x47n : Nat) (x47c : Nat), World.cell? w38 (p27.add 0) = some (.slice x47 x47n x47c) ∧ (br (decide ((1024 : Int) < ((x47n : Int)))) (retD ds35 w38 fun w48 =>
  R (.returned (.tuple ⟨[.slice none 0 0, .int .i64 4]⟩)) w48) (∃ (x49 : Option Addr) (x49n : Nat) (x49c : Nat), World.cell? w38 (p27.add 0) = some (.slice x49 x49n x49c) ∧ (Calls Tryd.prog 21 ⟨[.slice x49 x49n x49c, .func (.func 22) #[] #[]]⟩ w38 fun (e50 : Ending) (w51 : World) =>
  ∃ (x52 : Bool), e50 = .returned (.bool x52) ∧ (br x52 (retD ds35 w51 fun w53 =>
  R (.returned (.tuple ⟨[.slice none 0 0, .int .i64 4]⟩)) w53) (K39 w51))))))))))))))))))) → K11 t6_12 t6_12n t6_12c t7_13 w14) → (∃ (x72 : Int), World.cell? w10 (p5.add 1) = some (.int .i64 x72) ∧ (br (decide ((x72 : Int) < 0)) (R (.returned (.tuple ⟨[.slice none 0 0, .int .i64 2]⟩)) w10) (∃ (x73 : Int), World.cell? w10 (p5.add 1) = some (.int .i64 x73) ∧ (br (decide ((4096 : Int) < x73)) (R (.returned (.tuple ⟨[.slice none 0 0, .int .i64 2]⟩)) w10) (K11 t6_8 t6_8n t6_8c t7_9 w10))))))) → K7 t6_8 t6_8n t6_8c t7_9 w10) → (Calls Tryd.prog 9 ⟨[.slice l_3 l_3n l_3c]⟩ w6 fun (e74 : Ending) (w75 : World) =>
  ∃ (x76 : Int), e74 = .returned (.int .i64 x76) ∧ (br (decide ((x76 : Int) ≠ 0)) (R (.returned (.tuple ⟨[.slice none 0 0, .int .i64 1]⟩)) w75) (Calls Tryd.prog 10 ⟨[.slice rules_4 rules_4n rules_4c]⟩ w75 fun (e77 : Ending) (w78 : World) =>
  ∃ (x79 : Int), e77 = .returned (.int .i64 x79) ∧ (br (decide ((x79 : Int) ≠ 0)) (R (.returned (.tuple ⟨[.slice none 0 0, .int .i64 1]⟩)) w78) (K7 none 0 0 0 w78)))))
set_option maxRecDepth 100000 in
theorem e_tokenizer_Tokens (start_1 : List UInt8) (start_2 : Int) (l_3 : Option Addr) (l_3n : Nat) (l_3c : Nat) (rules_4 : Option Addr) (rules_4n : Nat) (rules_4c : Nat) (R : Ending → World → Prop) (w : World) : fnV Tryd.prog Tryd.f7 an_tokenizer_Tokens [.agg ⟨[.string ⟨⟨start_1⟩⟩, .int .i64 start_2]⟩, .slice l_3 l_3n l_3c, .slice rules_4 rules_4n rules_4c] R w = sh_tokenizer_Tokens start_1 start_2 l_3 l_3n l_3c rules_4 rules_4n rules_4c R w := by kernel_rfl
theorem c_tokenizer_Tokens {start_1 : List UInt8} {start_2 : Int} {l_3 : Option Addr} {l_3n : Nat} {l_3c : Nat} {rules_4 : Option Addr} {rules_4n : Nat} {rules_4c : Nat} {R : Ending → World → Prop} {w : World} (h : sh_tokenizer_Tokens start_1 start_2 l_3 l_3n l_3c rules_4 rules_4n rules_4c R w) : Calls Tryd.prog F_tokenizer_Tokens ⟨[.agg ⟨[.string ⟨⟨start_1⟩⟩, .int .i64 start_2]⟩, .slice l_3 l_3n l_3c, .slice rules_4 rules_4n rules_4c]⟩ w R := calls_of_fnV Tryd.func7 (by rw [e_tokenizer_Tokens]; exact h)
def anA_tokenizer_Tokens_1 : Ann := .leaf
def anB_tokenizer_Tokens_1 : Ann := .one (.leaf)
def rf_tokenizer_Tokens_1 (rules_80 : Option Addr) (rules_80n : Nat) (rules_80c : Nat) (t6_81 : Option Addr) (t6_81n : Nat) (t6_81c : Nat) (t7_82 : Int) (b_83 : Option Addr) (t50_84 : Fn) (t50_84a : Array Value) (t50_84b : Array Value) (t51_85 : Int) (t51_86 : Int) (t51_87 : Int) (t51_88 : List UInt8) (t51_89 : Int) (t51_90 : Bool) (t51_91 : List UInt8) (l : Nat) (Kn Kr Kx : World → World → Prop) (w : World) : Prop :=
  al w 67 [.int .i64 0, .int .u8 0, .int .i64 0, .string ⟨⟨[]⟩⟩, .int .i64 0, .bool false, .string ⟨⟨[]⟩⟩] fun p93 w94 =>
  stL w94 p93 0 [.int .i64 t51_85, .int .u8 t51_86, .int .i64 t51_87, .string ⟨⟨t51_88⟩⟩, .int .i64 t51_89, .bool t51_90, .string ⟨⟨t51_91⟩⟩] fun w95 =>
  Ext w w95 ∧ ∀ w92 : World, Upd l w95 w92 → (∃ (x96 : Int), World.cell? w92 (p93.add 0) = some (.int .i64 x96) ∧ (∃ (x97 : Int), World.cell? w92 (p93.add 1) = some (.int .u8 x97) ∧ (∃ (x98 : Int), World.cell? w92 (p93.add 2) = some (.int .i64 x98) ∧ (∃ (x99 : List UInt8), World.cell? w92 (p93.add 3) = some (.string ⟨⟨x99⟩⟩) ∧ (∃ (x100 : Int), World.cell? w92 (p93.add 4) = some (.int .i64 x100) ∧ (∃ (x101 : Bool), World.cell? w92 (p93.add 5) = some (.bool x101) ∧ (∃ (x102 : List UInt8), World.cell? w92 (p93.add 6) = some (.string ⟨⟨x102⟩⟩) ∧ (Calls Tryd.prog 19 ⟨[.pointer b_83, .agg ⟨[.int .i64 x96, .int .u8 x97, .int .i64 x98, .string ⟨⟨x99⟩⟩, .int .i64 x100, .bool x101, .string ⟨⟨x102⟩⟩]⟩]⟩ w92 fun (e103 : Ending) (w104 : World) =>
  e103 = .returned (.tuple ⟨[]⟩) ∧ (Kn w92 w104)))))))))
set_option maxRecDepth 100000 in
theorem er_tokenizer_Tokens_1 (base : Env) (rules_80 : Option Addr) (rules_80n : Nat) (rules_80c : Nat) (t6_81 : Option Addr) (t6_81n : Nat) (t6_81c : Nat) (t7_82 : Int) (b_83 : Option Addr) (t50_84 : Fn) (t50_84a : Array Value) (t50_84b : Array Value) (t51_85 : Int) (t51_86 : Int) (t51_87 : Int) (t51_88 : List UInt8) (t51_89 : Int) (t51_90 : Bool) (t51_91 : List UInt8) (l : Nat) (Kn Kr Kx : World → World → Prop) (w : World) : fragV Tryd.prog 70 anA_tokenizer_Tokens_1 anB_tokenizer_Tokens_1 (cdAt Tryd.f7 [1, 1, 1, 1, 1, 1, 1, 1, 0, 1, 2, 5]) (cdAt Tryd.f7 [1, 1, 1, 1, 1, 1, 1, 1, 0, 1, 2, 6]) l 0 Kn Kr Kx (updPs [51] [.agg ⟨[.int .i64 t51_85, .int .u8 t51_86, .int .i64 t51_87, .string ⟨⟨t51_88⟩⟩, .int .i64 t51_89, .bool t51_90, .string ⟨⟨t51_91⟩⟩]⟩] (upd (upd (upd (upd (upd base 50 (.func t50_84 t50_84a t50_84b)) 12 (.pointer b_83)) 7 (.int .i64 t7_82)) 6 (.slice t6_81 t6_81n t6_81c)) 2 (.slice rules_80 rules_80n rules_80c))) w = rf_tokenizer_Tokens_1 rules_80 rules_80n rules_80c t6_81 t6_81n t6_81c t7_82 b_83 t50_84 t50_84a t50_84b t51_85 t51_86 t51_87 t51_88 t51_89 t51_90 t51_91 l Kn Kr Kx w := by kernel_rfl
theorem cd_tokenizer_Tokens_1 : cdAt Tryd.f7 [1, 1, 1, 1, 1, 1, 1, 1, 0, 1, 2] = .rangeFunc (Operand.tmp 50) #[51] (cdAt Tryd.f7 [1, 1, 1, 1, 1, 1, 1, 1, 0, 1, 2, 5]) (cdAt Tryd.f7 [1, 1, 1, 1, 1, 1, 1, 1, 0, 1, 2, 6]) := by kernel_rfl

def an_law15_great : Ann := .two (.leaf) (.two (.leaf) (.leaf))
def sh_law15_great (l_1 : Option Addr) (l_1n : Nat) (l_1c : Nat) (rules_2 : Option Addr) (rules_2n : Nat) (rules_2c : Nat) (R : Ending → World → Prop) (w : World) : Prop :=
  Calls Tryd.prog 24 ⟨[.slice l_1 l_1n l_1c, .int .i64 24]⟩ w fun (e3 : Ending) (w4 : World) =>
  ∃ (x5 : Bool), e3 = .returned (.bool x5) ∧ (br x5 (R (.returned (.bool true)) w4) (Calls Tryd.prog 25 ⟨[.slice rules_2 rules_2n rules_2c]⟩ w4 fun (e6 : Ending) (w7 : World) =>
  ∃ (x8 : Bool), e6 = .returned (.bool x8) ∧ (R (.returned (.bool x8)) w7)))
set_option maxRecDepth 100000 in
theorem e_law15_great (l_1 : Option Addr) (l_1n : Nat) (l_1c : Nat) (rules_2 : Option Addr) (rules_2n : Nat) (rules_2c : Nat) (R : Ending → World → Prop) (w : World) : fnV Tryd.prog Tryd.f8 an_law15_great [.slice l_1 l_1n l_1c, .slice rules_2 rules_2n rules_2c] R w = sh_law15_great l_1 l_1n l_1c rules_2 rules_2n rules_2c R w := by kernel_rfl
theorem c_law15_great {l_1 : Option Addr} {l_1n : Nat} {l_1c : Nat} {rules_2 : Option Addr} {rules_2n : Nat} {rules_2c : Nat} {R : Ending → World → Prop} {w : World} (h : sh_law15_great l_1 l_1n l_1c rules_2 rules_2n rules_2c R w) : Calls Tryd.prog F_law15_great ⟨[.slice l_1 l_1n l_1c, .slice rules_2 rules_2n rules_2c]⟩ w R := calls_of_fnV Tryd.func8 (by rw [e_law15_great]; exact h)

def an_transcript_Check : Ann := .two (.leaf) (.two (.leaf) (.two (.leaf) (.two (.two (.leaf) (.one (.rf [0, 2, 4, 10] 0))) (.two (.two (.leaf) (.one (.rf [0, 2, 28] 0))) (.two (.two (.leaf) (.two (.two (.leaf) (.leaf)) (.leaf))) (.two (.leaf) (.leaf)))))))
def sh_transcript_Check (l_1 : Option Addr) (l_1n : Nat) (l_1c : Nat) (R : Ending → World → Prop) (w : World) : Prop :=
  al w 27 [.int .i64 0] fun p2 w3 =>
  al w3 3 [.int .i64 0] fun p4 w5 =>
  stL w5 p4 0 [.int .i64 4096] fun w6 =>
  al w6 26 [.nilFunc] fun p7 w8 =>
  stL w8 p7 0 [.func (.func 26) ⟨[]⟩ ⟨[.pointer (some p4)]⟩] fun w9 =>
  Calls Tryd.prog 16 ⟨[.slice l_1 l_1n l_1c]⟩ w9 fun (e10 : Ending) (w11 : World) =>
  ∃ (x12 : Fn) (x12a : Array Value) (x12b : Array Value), e10 = .returned (.func x12 x12a x12b) ∧ (∀ base13 : Env, RFw Tryd.prog none 39 (cdAt Tryd.f9 [1, 1, 1, 0, 1, 2]) (upd (upd (upd (upd base13 10 (.func x12 x12a x12b)) 4 (.pointer (some p7))) 2 (.pointer (some p2))) 0 (.slice l_1 l_1n l_1c)) [] w11 0 (fun ds14 w15 =>
  Calls Tryd.prog 16 ⟨[.slice l_1 l_1n l_1c]⟩ w15 fun (e33 : Ending) (w34 : World) =>
  ∃ (x35 : Fn) (x35a : Array Value) (x35b : Array Value), e33 = .returned (.func x35 x35a x35b) ∧ (∀ base36 : Env, RFw Tryd.prog none 39 (cdAt Tryd.f9 [1, 1, 1, 1, 0, 1, 2]) (upd (upd (upd base36 28 (.func x35 x35a x35b)) 2 (.pointer (some p2))) 0 (.slice l_1 l_1n l_1c)) ds14 w34 0 (fun ds37 w38 =>
  Calls Tryd.prog 28 ⟨[.slice l_1 l_1n l_1c]⟩ w38 fun (e39 : Ending) (w40 : World) =>
  ∃ (x41 : List UInt8), e39 = .returned (.string ⟨⟨x41⟩⟩) ∧ (br (decide ((65536 : Int) < ((List.length x41 : Int)))) (stL w40 p2 0 [.int .i64 4] fun w42 =>
  retD ds37 w42 fun w43 =>
  ∃ (x44 : Int), World.cell? w43 p2 = some (.int .i64 x44) ∧ (R (.returned (.int .i64 x44)) w43)) (stL w40 p2 0 [.int .i64 0] fun w45 =>
  retD ds37 w45 fun w46 =>
  ∃ (x47 : Int), World.cell? w46 p2 = some (.int .i64 x47) ∧ (R (.returned (.int .i64 x47)) w46)))) (fun ds37 w38 =>
  retD ds37 w38 fun w48 =>
  ∃ (x49 : Int), World.cell? w48 p2 = some (.int .i64 x49) ∧ (R (.returned (.int .i64 x49)) w48)) (fun ds37 w38 =>
  False))) (fun ds14 w15 =>
  retD ds14 w15 fun w50 =>
  ∃ (x51 : Int), World.cell? w50 p2 = some (.int .i64 x51) ∧ (R (.returned (.int .i64 x51)) w50)) (fun ds14 w15 =>
  Calls Tryd.prog 16 ⟨[.slice l_1 l_1n l_1c]⟩ w15 fun (e16 : Ending) (w17 : World) =>
  ∃ (x18 : Fn) (x18a : Array Value) (x18b : Array Value), e16 = .returned (.func x18 x18a x18b) ∧ (∀ base19 : Env, RFw Tryd.prog none 39 (cdAt Tryd.f9 [1, 1, 1, 1, 0, 1, 2]) (upd (upd (upd base19 28 (.func x18 x18a x18b)) 2 (.pointer (some p2))) 0 (.slice l_1 l_1n l_1c)) ds14 w17 0 (fun ds20 w21 =>
  Calls Tryd.prog 28 ⟨[.slice l_1 l_1n l_1c]⟩ w21 fun (e22 : Ending) (w23 : World) =>
  ∃ (x24 : List UInt8), e22 = .returned (.string ⟨⟨x24⟩⟩) ∧ (br (decide ((65536 : Int) < ((List.length x24 : Int)))) (stL w23 p2 0 [.int .i64 4] fun w25 =>
  retD ds20 w25 fun w26 =>
  ∃ (x27 : Int), World.cell? w26 p2 = some (.int .i64 x27) ∧ (R (.returned (.int .i64 x27)) w26)) (stL w23 p2 0 [.int .i64 0] fun w28 =>
  retD ds20 w28 fun w29 =>
  ∃ (x30 : Int), World.cell? w29 p2 = some (.int .i64 x30) ∧ (R (.returned (.int .i64 x30)) w29)))) (fun ds20 w21 =>
  retD ds20 w21 fun w31 =>
  ∃ (x32 : Int), World.cell? w31 p2 = some (.int .i64 x32) ∧ (R (.returned (.int .i64 x32)) w31)) (fun ds20 w21 =>
  False))))
set_option maxRecDepth 100000 in
theorem e_transcript_Check (l_1 : Option Addr) (l_1n : Nat) (l_1c : Nat) (R : Ending → World → Prop) (w : World) : fnV Tryd.prog Tryd.f9 an_transcript_Check [.slice l_1 l_1n l_1c] R w = sh_transcript_Check l_1 l_1n l_1c R w := by kernel_rfl
theorem c_transcript_Check {l_1 : Option Addr} {l_1n : Nat} {l_1c : Nat} {R : Ending → World → Prop} {w : World} (h : sh_transcript_Check l_1 l_1n l_1c R w) : Calls Tryd.prog F_transcript_Check ⟨[.slice l_1 l_1n l_1c]⟩ w R := calls_of_fnV Tryd.func9 (by rw [e_transcript_Check]; exact h)
def anA_transcript_Check_1 : Ann := .leaf
def anB_transcript_Check_1 : Ann := .one (.two (.leaf) (.two (.two (.leaf) (.leaf)) (.leaf)))
def rf_transcript_Check_1 (l_52 : Option Addr) (l_52n : Nat) (l_52c : Nat) (t2_53 : Option Addr) (spend_54 : Option Addr) (t10_55 : Fn) (t10_55a : Array Value) (t10_55b : Array Value) (t11_56 : Int) (t11_57 : List UInt8) (t11_58 : Int) (t11_59 : Option Addr) (t11_59n : Nat) (t11_59c : Nat) (t11_60 : Int) (t11_61 : Bool) (l : Nat) (Kn Kr Kx : World → World → Prop) (w : World) : Prop :=
  al w 55 [.int .i64 0, .string ⟨⟨[]⟩⟩, .int .i64 0, .slice none 0 0, .int .i64 0, .bool false] fun p63 w64 =>
  stL w64 p63 0 [.int .i64 t11_56, .string ⟨⟨t11_57⟩⟩, .int .i64 t11_58, .slice t11_59 t11_59n t11_59c, .int .i64 t11_60, .bool t11_61] fun w65 =>
  Ext w w65 ∧ ∀ w62 : World, Upd l w65 w62 → (dr spend_54 fun p66 =>
  ∃ (x67 : Fn) (x67a : Array Value) (x67b : Array Value), World.cell? w62 p66 = some (.func x67 x67a x67b) ∧ (CallV Tryd.prog (.func x67 x67a x67b) [] w62 fun (e68 : Ending) (w69 : World) =>
  ∃ (x70 : Bool), e68 = .returned (.bool x70) ∧ (br (!x70) (dr t2_53 fun p72 =>
  stL w69 p72 0 [.int .i64 4] fun w71 =>
  Kr w62 w71) (∃ (x73 : Int), World.cell? w69 (p63.add 4) = some (.int .i64 x73) ∧ (br (decide ((16 : Int) ≤ x73)) (∃ (x74 : Option Addr) (x74n : Nat) (x74c : Nat), World.cell? w69 ((p63.add 0).add 3) = some (.slice x74 x74n x74c) ∧ (br (decide ((0 : Int) < ((x74n : Int)))) (dr t2_53 fun p76 =>
  stL w69 p76 0 [.int .i64 4] fun w75 =>
  Kr w62 w75) (Kn w62 w69))) (Kn w62 w69))))))
set_option maxRecDepth 100000 in
theorem er_transcript_Check_1 (base : Env) (l_52 : Option Addr) (l_52n : Nat) (l_52c : Nat) (t2_53 : Option Addr) (spend_54 : Option Addr) (t10_55 : Fn) (t10_55a : Array Value) (t10_55b : Array Value) (t11_56 : Int) (t11_57 : List UInt8) (t11_58 : Int) (t11_59 : Option Addr) (t11_59n : Nat) (t11_59c : Nat) (t11_60 : Int) (t11_61 : Bool) (l : Nat) (Kn Kr Kx : World → World → Prop) (w : World) : fragV Tryd.prog 39 anA_transcript_Check_1 anB_transcript_Check_1 (cdAt Tryd.f9 [1, 1, 1, 0, 1, 2, 5]) (cdAt Tryd.f9 [1, 1, 1, 0, 1, 2, 6]) l 0 Kn Kr Kx (updPs [11] [.agg ⟨[.int .i64 t11_56, .string ⟨⟨t11_57⟩⟩, .int .i64 t11_58, .slice t11_59 t11_59n t11_59c, .int .i64 t11_60, .bool t11_61]⟩] (upd (upd (upd (upd base 10 (.func t10_55 t10_55a t10_55b)) 4 (.pointer spend_54)) 2 (.pointer t2_53)) 0 (.slice l_52 l_52n l_52c))) w = rf_transcript_Check_1 l_52 l_52n l_52c t2_53 spend_54 t10_55 t10_55a t10_55b t11_56 t11_57 t11_58 t11_59 t11_59n t11_59c t11_60 t11_61 l Kn Kr Kx w := by kernel_rfl
theorem cd_transcript_Check_1 : cdAt Tryd.f9 [1, 1, 1, 0, 1, 2] = .rangeFunc (Operand.tmp 10) #[11] (cdAt Tryd.f9 [1, 1, 1, 0, 1, 2, 5]) (cdAt Tryd.f9 [1, 1, 1, 0, 1, 2, 6]) := by kernel_rfl
def anA_transcript_Check_2 : Ann := .leaf
def anB_transcript_Check_2 : Ann := .one (.two (.leaf) (.two (.leaf) (.two (.two (.leaf) (.leaf)) (.leaf))))
def rf_transcript_Check_2 (l_77 : Option Addr) (l_77n : Nat) (l_77c : Nat) (t2_78 : Option Addr) (t28_79 : Fn) (t28_79a : Array Value) (t28_79b : Array Value) (t29_80 : Int) (t29_81 : List UInt8) (t29_82 : Int) (t29_83 : Option Addr) (t29_83n : Nat) (t29_83c : Nat) (t29_84 : Int) (t29_85 : Bool) (l : Nat) (Kn Kr Kx : World → World → Prop) (w : World) : Prop :=
  al w 55 [.int .i64 0, .string ⟨⟨[]⟩⟩, .int .i64 0, .slice none 0 0, .int .i64 0, .bool false] fun p87 w88 =>
  stL w88 p87 0 [.int .i64 t29_80, .string ⟨⟨t29_81⟩⟩, .int .i64 t29_82, .slice t29_83 t29_83n t29_83c, .int .i64 t29_84, .bool t29_85] fun w89 =>
  Ext w w89 ∧ ∀ w86 : World, Upd l w89 w86 → (∃ (x90 : Int), World.cell? w86 (p87.add 0) = some (.int .i64 x90) ∧ (∃ (x91 : List UInt8), World.cell? w86 (p87.add 1) = some (.string ⟨⟨x91⟩⟩) ∧ (∃ (x92 : Int), World.cell? w86 (p87.add 2) = some (.int .i64 x92) ∧ (∃ (x93 : Option Addr) (x93n : Nat) (x93c : Nat), World.cell? w86 (p87.add 3) = some (.slice x93 x93n x93c) ∧ (∃ (x94 : Int), World.cell? w86 (p87.add 4) = some (.int .i64 x94) ∧ (∃ (x95 : Bool), World.cell? w86 (p87.add 5) = some (.bool x95) ∧ (Calls Tryd.prog 27 ⟨[.agg ⟨[.int .i64 x90, .string ⟨⟨x91⟩⟩, .int .i64 x92, .slice x93 x93n x93c, .int .i64 x94, .bool x95]⟩]⟩ w86 fun (e96 : Ending) (w97 : World) =>
  ∃ (x98 : Int), e96 = .returned (.int .i64 x98) ∧ (br (decide ((x98 : Int) ≠ 0)) (dr t2_78 fun p100 =>
  stL w97 p100 0 [.int .i64 x98] fun w99 =>
  Kr w86 w99) (Kn w86 w97)))))))))
set_option maxRecDepth 100000 in
theorem er_transcript_Check_2 (base : Env) (l_77 : Option Addr) (l_77n : Nat) (l_77c : Nat) (t2_78 : Option Addr) (t28_79 : Fn) (t28_79a : Array Value) (t28_79b : Array Value) (t29_80 : Int) (t29_81 : List UInt8) (t29_82 : Int) (t29_83 : Option Addr) (t29_83n : Nat) (t29_83c : Nat) (t29_84 : Int) (t29_85 : Bool) (l : Nat) (Kn Kr Kx : World → World → Prop) (w : World) : fragV Tryd.prog 39 anA_transcript_Check_2 anB_transcript_Check_2 (cdAt Tryd.f9 [1, 1, 1, 1, 0, 1, 2, 5]) (cdAt Tryd.f9 [1, 1, 1, 1, 0, 1, 2, 6]) l 0 Kn Kr Kx (updPs [29] [.agg ⟨[.int .i64 t29_80, .string ⟨⟨t29_81⟩⟩, .int .i64 t29_82, .slice t29_83 t29_83n t29_83c, .int .i64 t29_84, .bool t29_85]⟩] (upd (upd (upd base 28 (.func t28_79 t28_79a t28_79b)) 2 (.pointer t2_78)) 0 (.slice l_77 l_77n l_77c))) w = rf_transcript_Check_2 l_77 l_77n l_77c t2_78 t28_79 t28_79a t28_79b t29_80 t29_81 t29_82 t29_83 t29_83n t29_83c t29_84 t29_85 l Kn Kr Kx w := by kernel_rfl
theorem cd_transcript_Check_2 : cdAt Tryd.f9 [1, 1, 1, 1, 0, 1, 2] = .rangeFunc (Operand.tmp 28) #[29] (cdAt Tryd.f9 [1, 1, 1, 1, 0, 1, 2, 5]) (cdAt Tryd.f9 [1, 1, 1, 1, 0, 1, 2, 6]) := by kernel_rfl

def an_rewriting_Check : Ann := .two (.leaf) (.two (.two (.leaf) (.two (.two (.leaf) (.leaf)) (.leaf))) (.two (.two (.leaf) (.one (.loop 2095156 [(11, .one (.int .i64))] (.two (.leaf) (.two (.two (.leaf) (.leaf)) (.two (.one (.two (.leaf) (.two (.leaf) (.two (.leaf) (.two (.two (.leaf) (.leaf)) (.leaf)))))) (.leaf))))))) (.two (.leaf) (.leaf))))
def sh_rewriting_Check (rules_1 : Option Addr) (rules_1n : Nat) (rules_1c : Nat) (R : Ending → World → Prop) (w : World) : Prop :=
  br (decide ((64 : Int) < ((rules_1n : Int)))) (R (.returned (.int .i64 4)) w) (∃ (I2 : Int → World → Nat → Prop), (∃ m6 : Nat, I2 0 w m6) ∧ ∀ (t11_3 : Int) (w4 : World) (m5 : Nat), I2 t11_3 w4 m5 → ∀ _ : Env, (br (decide ((t11_3 : Int) < ((rules_1n : Int)))) (idx rules_1 rules_1n t11_3 2 fun p7 =>
  ∃ (x8 : List UInt8), World.cell? w4 (p7.add 0) = some (.string ⟨⟨x8⟩⟩) ∧ (∃ (x9 : List UInt8), World.cell? w4 (p7.add 1) = some (.string ⟨⟨x9⟩⟩) ∧ (al w4 77 [.string ⟨⟨[]⟩⟩, .string ⟨⟨[]⟩⟩] fun p10 w11 =>
  stL w11 p10 0 [.string ⟨⟨x8⟩⟩, .string ⟨⟨x9⟩⟩] fun w12 =>
  ∃ (x13 : List UInt8), World.cell? w12 (p10.add 0) = some (.string ⟨⟨x13⟩⟩) ∧ (∃ (x14 : List UInt8), World.cell? w12 (p10.add 1) = some (.string ⟨⟨x14⟩⟩) ∧ (Calls Tryd.prog 29 ⟨[.agg ⟨[.string ⟨⟨x13⟩⟩, .string ⟨⟨x14⟩⟩]⟩]⟩ w12 fun (e15 : Ending) (w16 : World) =>
  ∃ (x17 : Int), e15 = .returned (.int .i64 x17) ∧ (br (decide ((x17 : Int) ≠ 0)) (R (.returned (.int .i64 x17)) w16) (∃ m18 : Nat, m18 < m5 ∧ I2 (IntKind.i64.wrap (t11_3 + 1)) w16 m18))))))) (R (.returned (.int .i64 0)) w4)))
set_option maxRecDepth 100000 in
theorem e_rewriting_Check (rules_1 : Option Addr) (rules_1n : Nat) (rules_1c : Nat) (R : Ending → World → Prop) (w : World) : fnV Tryd.prog Tryd.f10 an_rewriting_Check [.slice rules_1 rules_1n rules_1c] R w = sh_rewriting_Check rules_1 rules_1n rules_1c R w := by kernel_rfl
theorem c_rewriting_Check {rules_1 : Option Addr} {rules_1n : Nat} {rules_1c : Nat} {R : Ending → World → Prop} {w : World} (h : sh_rewriting_Check rules_1 rules_1n rules_1c R w) : Calls Tryd.prog F_rewriting_Check ⟨[.slice rules_1 rules_1n rules_1c]⟩ w R := calls_of_fnV Tryd.func10 (by rw [e_rewriting_Check]; exact h)

def an_hands_State : Ann := .two (.leaf) (.two (.two (.leaf) (.two (.two (.leaf) (.leaf)) (.leaf))) (.cut 32304 [] (.two (.leaf) (.two (.two (.leaf) (.leaf)) (.leaf))) (.two (.leaf) (.leaf))))
def sh_hands_State (l_1 : Option Addr) (l_1n : Nat) (l_1c : Nat) (hand_2 : Int) (R : Ending → World → Prop) (w : World) : Prop :=
  Calls Tryd.prog 9 ⟨[.slice l_1 l_1n l_1c]⟩ w fun (e3 : Ending) (w4 : World) =>
  ∃ (x5 : Int), e3 = .returned (.int .i64 x5) ∧ (br (decide ((x5 : Int) ≠ 0)) (R (.returned (.tuple ⟨[.slice none 0 0, .int .i64 1]⟩)) w4) (∀ (K6 : World → Prop), (∀  (w7 : World), (∀ _ : Env, (Calls Tryd.prog 30 ⟨[.slice l_1 l_1n l_1c, .int .i64 hand_2]⟩ w7 fun (e8 : Ending) (w9 : World) =>
  ∃ (x10 : Option Addr) (x10n : Nat) (x10c : Nat), e8 = .returned (.slice x10 x10n x10c) ∧ (R (.returned (.tuple ⟨[.slice x10 x10n x10c, .int .i64 0]⟩)) w9))) → K6 w7) → (br (decide ((hand_2 : Int) < 0)) (R (.returned (.tuple ⟨[.slice none 0 0, .int .i64 13]⟩)) w4) (br (decide ((8 : Int) < hand_2)) (R (.returned (.tuple ⟨[.slice none 0 0, .int .i64 13]⟩)) w4) (K6 w4)))))
set_option maxRecDepth 100000 in
theorem e_hands_State (l_1 : Option Addr) (l_1n : Nat) (l_1c : Nat) (hand_2 : Int) (R : Ending → World → Prop) (w : World) : fnV Tryd.prog Tryd.f11 an_hands_State [.slice l_1 l_1n l_1c, .int .i64 hand_2] R w = sh_hands_State l_1 l_1n l_1c hand_2 R w := by kernel_rfl
theorem c_hands_State {l_1 : Option Addr} {l_1n : Nat} {l_1c : Nat} {hand_2 : Int} {R : Ending → World → Prop} {w : World} (h : sh_hands_State l_1 l_1n l_1c hand_2 R w) : Calls Tryd.prog F_hands_State ⟨[.slice l_1 l_1n l_1c, .int .i64 hand_2]⟩ w R := calls_of_fnV Tryd.func11 (by rw [e_hands_State]; exact h)

def an_law15_text : Ann := .two (.leaf) (.two (.leaf) (.leaf))
def sh_law15_text (s_1 : List UInt8) (R : Ending → World → Prop) (w : World) : Prop :=
  al w 44 [.int .i64 0, .string ⟨⟨[]⟩⟩, .int .i64 0, .slice none 0 0] fun p2 w3 =>
  stL w3 p2 0 [.int .i64 1, .string ⟨⟨s_1⟩⟩, .int .i64 0, .slice none 0 0] fun w4 =>
  ∃ (x5 : Int), World.cell? w4 (p2.add 0) = some (.int .i64 x5) ∧ (∃ (x6 : List UInt8), World.cell? w4 (p2.add 1) = some (.string ⟨⟨x6⟩⟩) ∧ (∃ (x7 : Int), World.cell? w4 (p2.add 2) = some (.int .i64 x7) ∧ (∃ (x8 : Option Addr) (x8n : Nat) (x8c : Nat), World.cell? w4 (p2.add 3) = some (.slice x8 x8n x8c) ∧ (R (.returned (.agg ⟨[.int .i64 x5, .string ⟨⟨x6⟩⟩, .int .i64 x7, .slice x8 x8n x8c]⟩)) w4))))
set_option maxRecDepth 100000 in
theorem e_law15_text (s_1 : List UInt8) (R : Ending → World → Prop) (w : World) : fnV Tryd.prog Tryd.f12 an_law15_text [.string ⟨⟨s_1⟩⟩] R w = sh_law15_text s_1 R w := by kernel_rfl
theorem c_law15_text {s_1 : List UInt8} {R : Ending → World → Prop} {w : World} (h : sh_law15_text s_1 R w) : Calls Tryd.prog F_law15_text ⟨[.string ⟨⟨s_1⟩⟩]⟩ w R := calls_of_fnV Tryd.func12 (by rw [e_law15_text]; exact h)

def an_tokenizer_Split : Ann := .two (.leaf) (.two (.two (.leaf) (.two (.leaf) (.two (.two (.leaf) (.leaf)) (.leaf)))) (.two (.two (.leaf) (.two (.two (.leaf) (.leaf)) (.leaf))) (.two (.leaf) (.two (.leaf) (.leaf)))))
def sh_tokenizer_Split (s_1 : List UInt8) (R : Ending → World → Prop) (w : World) : Prop :=
  Calls Tryd.prog 31 ⟨[.string ⟨⟨s_1⟩⟩]⟩ w fun (e2 : Ending) (w3 : World) =>
  ∃ (x4 : Int), e2 = .returned (.int .i64 x4) ∧ (br (decide ((x4 : Int) ≠ 0)) (R (.returned (.tuple ⟨[.slice none 0 0, .int .i64 x4]⟩)) w3) (br (decide ((s_1 : List UInt8) = ([]))) (R (.returned (.tuple ⟨[.slice none 0 0, .int .i64 0]⟩)) w3) (al w3 44 [.int .i64 1, .string ⟨⟨s_1⟩⟩, .int .i64 0, .slice none 0 0] fun p5 w6 =>
  Calls Tryd.prog 7 ⟨[.agg ⟨[.string ⟨⟨[]⟩⟩, .int .i64 0]⟩, .slice (some p5) 1 1, .slice none 0 0]⟩ w6 fun (e7 : Ending) (w8 : World) =>
  ∃ (x9 : Option Addr) (x9n : Nat) (x9c : Nat) (x10 : Int), e7 = .returned (.tuple ⟨[.slice x9 x9n x9c, .int .i64 x10]⟩) ∧ (Calls Tryd.prog 32 ⟨[.slice x9 x9n x9c]⟩ w8 fun (e11 : Ending) (w12 : World) =>
  ∃ (x13 : Option Addr) (x13n : Nat) (x13c : Nat), e11 = .returned (.slice x13 x13n x13c) ∧ (R (.returned (.tuple ⟨[.slice x13 x13n x13c, .int .i64 x10]⟩)) w12)))))
set_option maxRecDepth 100000 in
theorem e_tokenizer_Split (s_1 : List UInt8) (R : Ending → World → Prop) (w : World) : fnV Tryd.prog Tryd.f13 an_tokenizer_Split [.string ⟨⟨s_1⟩⟩] R w = sh_tokenizer_Split s_1 R w := by kernel_rfl
theorem c_tokenizer_Split {s_1 : List UInt8} {R : Ending → World → Prop} {w : World} (h : sh_tokenizer_Split s_1 R w) : Calls Tryd.prog F_tokenizer_Split ⟨[.string ⟨⟨s_1⟩⟩]⟩ w R := calls_of_fnV Tryd.func13 (by rw [e_tokenizer_Split]; exact h)

def an_slices_Equal_of_string_string : Ann := .two (.leaf) (.two (.two (.leaf) (.two (.two (.leaf) (.leaf)) (.leaf))) (.two (.two (.leaf) (.one (.loop 67100720 [(13, .one (.int .i64))] (.two (.leaf) (.two (.two (.leaf) (.leaf)) (.two (.one (.two (.leaf) (.two (.leaf) (.two (.two (.leaf) (.leaf)) (.leaf))))) (.leaf))))))) (.two (.leaf) (.leaf))))
def sh_slices_Equal_of_string_string (s1_1 : Option Addr) (s1_1n : Nat) (s1_1c : Nat) (s2_2 : Option Addr) (s2_2n : Nat) (s2_2c : Nat) (R : Ending → World → Prop) (w : World) : Prop :=
  br (decide ((((s1_1n : Int)) : Int) ≠ ((s2_2n : Int)))) (R (.returned (.bool false)) w) (∃ (I3 : Int → World → Nat → Prop), (∃ m7 : Nat, I3 0 w m7) ∧ ∀ (t13_4 : Int) (w5 : World) (m6 : Nat), I3 t13_4 w5 m6 → ∀ _ : Env, (br (decide ((t13_4 : Int) < ((s1_1n : Int)))) (drw w5 fun w8 =>
  idx s1_1 s1_1n t13_4 1 fun p9 =>
  ∃ (x10 : List UInt8), World.cell? w8 p9 = some (.string ⟨⟨x10⟩⟩) ∧ (idx s2_2 s2_2n t13_4 1 fun p11 =>
  ∃ (x12 : List UInt8), World.cell? w8 p11 = some (.string ⟨⟨x12⟩⟩) ∧ (br (decide ((x10 : List UInt8) ≠ x12)) (R (.returned (.bool false)) w8) (∃ m13 : Nat, m13 < m6 ∧ I3 (IntKind.i64.wrap (t13_4 + 1)) w8 m13)))) (R (.returned (.bool true)) w5)))
set_option maxRecDepth 100000 in
theorem e_slices_Equal_of_string_string (s1_1 : Option Addr) (s1_1n : Nat) (s1_1c : Nat) (s2_2 : Option Addr) (s2_2n : Nat) (s2_2c : Nat) (R : Ending → World → Prop) (w : World) : fnV Tryd.prog Tryd.f14 an_slices_Equal_of_string_string [.slice s1_1 s1_1n s1_1c, .slice s2_2 s2_2n s2_2c] R w = sh_slices_Equal_of_string_string s1_1 s1_1n s1_1c s2_2 s2_2n s2_2c R w := by kernel_rfl
theorem c_slices_Equal_of_string_string {s1_1 : Option Addr} {s1_1n : Nat} {s1_1c : Nat} {s2_2 : Option Addr} {s2_2n : Nat} {s2_2c : Nat} {R : Ending → World → Prop} {w : World} (h : sh_slices_Equal_of_string_string s1_1 s1_1n s1_1c s2_2 s2_2n s2_2c R w) : Calls Tryd.prog F_slices_Equal_of_string_string ⟨[.slice s1_1 s1_1n s1_1c, .slice s2_2 s2_2n s2_2c]⟩ w R := calls_of_fnV Tryd.func14 (by rw [e_slices_Equal_of_string_string]; exact h)

def an_slices_Equal_of_api_Token_api_Token : Ann := .two (.leaf) (.two (.two (.leaf) (.two (.two (.leaf) (.leaf)) (.leaf))) (.two (.two (.leaf) (.one (.loop 67100720 [(13, .one (.int .i64))] (.two (.leaf) (.two (.two (.leaf) (.leaf)) (.two (.one (.two (.leaf) (.two (.leaf) (.two (.two (.leaf) (.leaf)) (.leaf))))) (.leaf))))))) (.two (.leaf) (.leaf))))
def sh_slices_Equal_of_api_Token_api_Token (s1_1 : Option Addr) (s1_1n : Nat) (s1_1c : Nat) (s2_2 : Option Addr) (s2_2n : Nat) (s2_2c : Nat) (R : Ending → World → Prop) (w : World) : Prop :=
  br (decide ((((s1_1n : Int)) : Int) ≠ ((s2_2n : Int)))) (R (.returned (.bool false)) w) (∃ (I3 : Int → World → Nat → Prop), (∃ m7 : Nat, I3 0 w m7) ∧ ∀ (t13_4 : Int) (w5 : World) (m6 : Nat), I3 t13_4 w5 m6 → ∀ _ : Env, (br (decide ((t13_4 : Int) < ((s1_1n : Int)))) (drw w5 fun w8 =>
  idx s1_1 s1_1n t13_4 6 fun p9 =>
  ∃ (x10 : List UInt8), World.cell? w8 (p9.add 0) = some (.string ⟨⟨x10⟩⟩) ∧ (∃ (x11 : List UInt8), World.cell? w8 (p9.add 1) = some (.string ⟨⟨x11⟩⟩) ∧ (∃ (x12 : List UInt8), World.cell? w8 (p9.add 2) = some (.string ⟨⟨x12⟩⟩) ∧ (∃ (x13 : Int), World.cell? w8 (p9.add 3) = some (.int .i64 x13) ∧ (∃ (x14 : Int), World.cell? w8 (p9.add 4) = some (.int .i64 x14) ∧ (∃ (x15 : List UInt8), World.cell? w8 (p9.add 5) = some (.string ⟨⟨x15⟩⟩) ∧ (idx s2_2 s2_2n t13_4 6 fun p16 =>
  ∃ (x17 : List UInt8), World.cell? w8 (p16.add 0) = some (.string ⟨⟨x17⟩⟩) ∧ (∃ (x18 : List UInt8), World.cell? w8 (p16.add 1) = some (.string ⟨⟨x18⟩⟩) ∧ (∃ (x19 : List UInt8), World.cell? w8 (p16.add 2) = some (.string ⟨⟨x19⟩⟩) ∧ (∃ (x20 : Int), World.cell? w8 (p16.add 3) = some (.int .i64 x20) ∧ (∃ (x21 : Int), World.cell? w8 (p16.add 4) = some (.int .i64 x21) ∧ (∃ (x22 : List UInt8), World.cell? w8 (p16.add 5) = some (.string ⟨⟨x22⟩⟩) ∧ (br (!(decide ((x10 : List UInt8) = x17) && (decide ((x11 : List UInt8) = x18) && ((decide ((x12 : List UInt8) = x19) && (decide ((x13 : Int) = x20) && true)) && (decide ((x14 : Int) = x21) && (decide ((x15 : List UInt8) = x22) && true)))))) (R (.returned (.bool false)) w8) (∃ m23 : Nat, m23 < m6 ∧ I3 (IntKind.i64.wrap (t13_4 + 1)) w8 m23)))))))))))))) (R (.returned (.bool true)) w5)))
set_option maxRecDepth 100000 in
theorem e_slices_Equal_of_api_Token_api_Token (s1_1 : Option Addr) (s1_1n : Nat) (s1_1c : Nat) (s2_2 : Option Addr) (s2_2n : Nat) (s2_2c : Nat) (R : Ending → World → Prop) (w : World) : fnV Tryd.prog Tryd.f15 an_slices_Equal_of_api_Token_api_Token [.slice s1_1 s1_1n s1_1c, .slice s2_2 s2_2n s2_2c] R w = sh_slices_Equal_of_api_Token_api_Token s1_1 s1_1n s1_1c s2_2 s2_2n s2_2c R w := by kernel_rfl
theorem c_slices_Equal_of_api_Token_api_Token {s1_1 : Option Addr} {s1_1n : Nat} {s1_1c : Nat} {s2_2 : Option Addr} {s2_2n : Nat} {s2_2c : Nat} {R : Ending → World → Prop} {w : World} (h : sh_slices_Equal_of_api_Token_api_Token s1_1 s1_1n s1_1c s2_2 s2_2n s2_2c R w) : Calls Tryd.prog F_slices_Equal_of_api_Token_api_Token ⟨[.slice s1_1 s1_1n s1_1c, .slice s2_2 s2_2n s2_2c]⟩ w R := calls_of_fnV Tryd.func15 (by rw [e_slices_Equal_of_api_Token_api_Token]; exact h)

def an_transcript_places : Ann := .two (.leaf) (.two (.leaf) (.leaf))
def sh_transcript_places (l_1 : Option Addr) (l_1n : Nat) (l_1c : Nat) (R : Ending → World → Prop) (w : World) : Prop :=
  al w 22 [.slice l_1 l_1n l_1c] fun p2 w3 =>
  R (.returned (.func (.func 33) ⟨[]⟩ ⟨[.pointer (some p2)]⟩)) w3
set_option maxRecDepth 100000 in
theorem e_transcript_places (l_1 : Option Addr) (l_1n : Nat) (l_1c : Nat) (R : Ending → World → Prop) (w : World) : fnV Tryd.prog Tryd.f16 an_transcript_places [.slice l_1 l_1n l_1c] R w = sh_transcript_places l_1 l_1n l_1c R w := by kernel_rfl
theorem c_transcript_places {l_1 : Option Addr} {l_1n : Nat} {l_1c : Nat} {R : Ending → World → Prop} {w : World} (h : sh_transcript_places l_1 l_1n l_1c R w) : Calls Tryd.prog F_transcript_places ⟨[.slice l_1 l_1n l_1c]⟩ w R := calls_of_fnV Tryd.func16 (by rw [e_transcript_places]; exact h)

def an_tokenizer_named : Ann := .two (.leaf) (.two (.leaf) (.leaf))
def sh_tokenizer_named (s_1 : List UInt8) (R : Ending → World → Prop) (w : World) : Prop :=
  br (decide ((s_1 : List UInt8) = ([]))) (R (.returned (.bool true)) w) (Calls Tryd.prog 35 ⟨[.string ⟨⟨s_1⟩⟩]⟩ w fun (e2 : Ending) (w3 : World) =>
  ∃ (x4 : Bool), e2 = .returned (.bool x4) ∧ (R (.returned (.bool x4)) w3))
set_option maxRecDepth 100000 in
theorem e_tokenizer_named (s_1 : List UInt8) (R : Ending → World → Prop) (w : World) : fnV Tryd.prog Tryd.f17 an_tokenizer_named [.string ⟨⟨s_1⟩⟩] R w = sh_tokenizer_named s_1 R w := by kernel_rfl
theorem c_tokenizer_named {s_1 : List UInt8} {R : Ending → World → Prop} {w : World} (h : sh_tokenizer_named s_1 R w) : Calls Tryd.prog F_tokenizer_named ⟨[.string ⟨⟨s_1⟩⟩]⟩ w R := calls_of_fnV Tryd.func17 (by rw [e_tokenizer_named]; exact h)

def an_tokenizer_atoms : Ann := .two (.leaf) (.two (.leaf) (.leaf))
def sh_tokenizer_atoms (start_1 : List UInt8) (start_2 : Int) (l_3 : Option Addr) (l_3n : Nat) (l_3c : Nat) (R : Ending → World → Prop) (w : World) : Prop :=
  al w 33 [.string ⟨⟨start_1⟩⟩, .int .i64 start_2] fun p4 w5 =>
  al w5 22 [.slice l_3 l_3n l_3c] fun p6 w7 =>
  R (.returned (.func (.func 36) ⟨[]⟩ ⟨[.pointer (some p4), .pointer (some p6)]⟩)) w7
set_option maxRecDepth 100000 in
theorem e_tokenizer_atoms (start_1 : List UInt8) (start_2 : Int) (l_3 : Option Addr) (l_3n : Nat) (l_3c : Nat) (R : Ending → World → Prop) (w : World) : fnV Tryd.prog Tryd.f18 an_tokenizer_atoms [.agg ⟨[.string ⟨⟨start_1⟩⟩, .int .i64 start_2]⟩, .slice l_3 l_3n l_3c] R w = sh_tokenizer_atoms start_1 start_2 l_3 l_3n l_3c R w := by kernel_rfl
theorem c_tokenizer_atoms {start_1 : List UInt8} {start_2 : Int} {l_3 : Option Addr} {l_3n : Nat} {l_3c : Nat} {R : Ending → World → Prop} {w : World} (h : sh_tokenizer_atoms start_1 start_2 l_3 l_3n l_3c R w) : Calls Tryd.prog F_tokenizer_atoms ⟨[.agg ⟨[.string ⟨⟨start_1⟩⟩, .int .i64 start_2]⟩, .slice l_3 l_3n l_3c]⟩ w R := calls_of_fnV Tryd.func18 (by rw [e_tokenizer_atoms]; exact h)

def an_tokenizer_builder_add : Ann := .two (.leaf) (.two (.leaf) (.one (.two (.leaf) (.two (.leaf) (.two (.leaf) (.two (.two (.leaf) (.two (.leaf) (.cut 128849018896 [(4, .one (.int .i64))] (.two (.leaf) (.two (.leaf) (.leaf))) (.two (.leaf) (.leaf))))) (.two (.leaf) (.leaf))))))))
def sh_tokenizer_builder_add (b_1 : Option Addr) (x_2 : Int) (x_3 : Int) (x_4 : Int) (x_5 : List UInt8) (x_6 : Int) (x_7 : Bool) (x_8 : List UInt8) (R : Ending → World → Prop) (w : World) : Prop :=
  al w 67 [.int .i64 x_2, .int .u8 x_3, .int .i64 x_4, .string ⟨⟨x_5⟩⟩, .int .i64 x_6, .bool x_7, .string ⟨⟨x_8⟩⟩] fun p9 w10 =>
  ∃ (x11 : Int), World.cell? w10 (p9.add 0) = some (.int .i64 x11) ∧ (br (decide ((x11 : Int) = 1)) (∃ (x12 : Int), World.cell? w10 (p9.add 0) = some (.int .i64 x12) ∧ (∃ (x13 : Int), World.cell? w10 (p9.add 1) = some (.int .u8 x13) ∧ (∃ (x14 : Int), World.cell? w10 (p9.add 2) = some (.int .i64 x14) ∧ (∃ (x15 : List UInt8), World.cell? w10 (p9.add 3) = some (.string ⟨⟨x15⟩⟩) ∧ (∃ (x16 : Int), World.cell? w10 (p9.add 4) = some (.int .i64 x16) ∧ (∃ (x17 : Bool), World.cell? w10 (p9.add 5) = some (.bool x17) ∧ (∃ (x18 : List UInt8), World.cell? w10 (p9.add 6) = some (.string ⟨⟨x18⟩⟩) ∧ (Calls Tryd.prog 38 ⟨[.pointer b_1, .agg ⟨[.int .i64 x12, .int .u8 x13, .int .i64 x14, .string ⟨⟨x15⟩⟩, .int .i64 x16, .bool x17, .string ⟨⟨x18⟩⟩]⟩]⟩ w10 fun (e19 : Ending) (w20 : World) =>
  e19 = .returned (.tuple ⟨[]⟩) ∧ (R (.returned (.tuple ⟨[]⟩)) w20))))))))) (br (decide ((x11 : Int) = 6)) (Calls Tryd.prog 20 ⟨[.pointer b_1]⟩ w10 fun (e21 : Ending) (w22 : World) =>
  e21 = .returned (.tuple ⟨[]⟩) ∧ (∀ (K23 : Int → World → Prop), (∀ (flags_24 : Int) (w25 : World), (∀ _ : Env, (∃ (x26 : Int), World.cell? w25 (p9.add 0) = some (.int .i64 x26) ∧ (∃ (x27 : Int), World.cell? w25 (p9.add 1) = some (.int .u8 x27) ∧ (∃ (x28 : Int), World.cell? w25 (p9.add 2) = some (.int .i64 x28) ∧ (∃ (x29 : List UInt8), World.cell? w25 (p9.add 3) = some (.string ⟨⟨x29⟩⟩) ∧ (∃ (x30 : Int), World.cell? w25 (p9.add 4) = some (.int .i64 x30) ∧ (∃ (x31 : Bool), World.cell? w25 (p9.add 5) = some (.bool x31) ∧ (∃ (x32 : List UInt8), World.cell? w25 (p9.add 6) = some (.string ⟨⟨x32⟩⟩) ∧ (Calls Tryd.prog 39 ⟨[.pointer b_1, .agg ⟨[.int .i64 x26, .int .u8 x27, .int .i64 x28, .string ⟨⟨x29⟩⟩, .int .i64 x30, .bool x31, .string ⟨⟨x32⟩⟩]⟩, .int .i64 flags_24]⟩ w25 fun (e33 : Ending) (w34 : World) =>
  e33 = .returned (.tuple ⟨[]⟩) ∧ (drw w34 fun w35 =>
  (Calls Tryd.prog 41 ⟨[.pointer b_1]⟩ w35 fun (e36 : Ending) (w37 : World) =>
  ∃ (x38 : Option Addr), e36 = .returned (.pointer x38) ∧ (∃ (x39 : Int), World.cell? w37 (p9.add 2) = some (.int .i64 x39) ∧ ((Calls Tryd.prog 40 ⟨[.int .i64 x39]⟩ w37 fun (e40 : Ending) (w41 : World) =>
  ∃ (x42 : List UInt8), e40 = .returned (.string ⟨⟨x42⟩⟩) ∧ (sadd ([91]) x42 fun s43 =>
  sadd s43 ([93]) fun s44 =>
  dr x38 fun p45 =>
  (stL w41 (p45.add 0) 0 [.string ⟨⟨s44⟩⟩] fun w46 =>
  R (.returned (.tuple ⟨[]⟩)) w46) ∧ True)) ∧ True))) ∧ ((Calls Tryd.prog 41 ⟨[.pointer b_1]⟩ w35 fun (e47 : Ending) (w48 : World) =>
  ∃ (x49 : Option Addr), e47 = .returned (.pointer x49) ∧ (∃ (x50 : Int), World.cell? w48 (p9.add 2) = some (.int .i64 x50) ∧ ((Calls Tryd.prog 40 ⟨[.int .i64 x50]⟩ w48 fun (e51 : Ending) (w52 : World) =>
  ∃ (x53 : List UInt8), e51 = .returned (.string ⟨⟨x53⟩⟩) ∧ (sadd ([91]) x53 fun s54 =>
  sadd s54 ([93]) fun s55 =>
  dr x49 fun p56 =>
  (stL w52 (p56.add 0) 0 [.string ⟨⟨s55⟩⟩] fun w57 =>
  R (.returned (.tuple ⟨[]⟩)) w57) ∧ True)) ∧ True))) ∧ (∃ (x58 : Int), World.cell? w35 (p9.add 2) = some (.int .i64 x58) ∧ ((Calls Tryd.prog 41 ⟨[.pointer b_1]⟩ w35 fun (e59 : Ending) (w60 : World) =>
  ∃ (x61 : Option Addr), e59 = .returned (.pointer x61) ∧ ((Calls Tryd.prog 40 ⟨[.int .i64 x58]⟩ w60 fun (e62 : Ending) (w63 : World) =>
  ∃ (x64 : List UInt8), e62 = .returned (.string ⟨⟨x64⟩⟩) ∧ (sadd ([91]) x64 fun s65 =>
  sadd s65 ([93]) fun s66 =>
  dr x61 fun p67 =>
  (stL w63 (p67.add 0) 0 [.string ⟨⟨s66⟩⟩] fun w68 =>
  R (.returned (.tuple ⟨[]⟩)) w68) ∧ True)) ∧ True)) ∧ True)) ∧ True) ∧ True)))))))))) → K23 flags_24 w25) → (∃ (x69 : Bool), World.cell? w22 (p9.add 5) = some (.bool x69) ∧ (br x69 (K23 (bitO .i64 2 1) w22) (K23 2 w22))))) (Calls Tryd.prog 20 ⟨[.pointer b_1]⟩ w10 fun (e70 : Ending) (w71 : World) =>
  e70 = .returned (.tuple ⟨[]⟩) ∧ (drw w71 fun w72 =>
  dr b_1 fun p73 =>
  ∃ (x74 : Bool), World.cell? w72 (p73.add 5) = some (.bool x74) ∧ (br x74 ((dr b_1 fun p75 =>
  (stL w72 (p75.add 4) 0 [.bool false] fun w76 =>
  dr b_1 fun p77 =>
  (stL w76 (p77.add 5) 0 [.bool true] fun w78 =>
  R (.returned (.tuple ⟨[]⟩)) w78) ∧ True) ∧ True) ∧ (dr b_1 fun p79 =>
  ((stL w72 (p79.add 4) 0 [.bool false] fun w80 =>
  dr b_1 fun p81 =>
  (stL w80 (p81.add 5) 0 [.bool true] fun w82 =>
  R (.returned (.tuple ⟨[]⟩)) w82) ∧ True) ∧ True) ∧ (((stL w72 (p79.add 4) 0 [.bool false] fun w83 =>
  dr b_1 fun p84 =>
  (stL w83 (p84.add 5) 0 [.bool true] fun w85 =>
  R (.returned (.tuple ⟨[]⟩)) w85) ∧ True) ∧ True) ∧ (stL w72 (p79.add 4) 0 [.bool false] fun w86 =>
  dr b_1 fun p87 =>
  (stL w86 (p87.add 5) 0 [.bool true] fun w88 =>
  R (.returned (.tuple ⟨[]⟩)) w88) ∧ True) ∧ True) ∧ True) ∧ True) ((∃ (x89 : Int), World.cell? w72 (p9.add 0) = some (.int .i64 x89) ∧ (dr b_1 fun p90 =>
  (stL w72 (p90.add 4) 0 [.bool false] fun w91 =>
  dr b_1 fun p92 =>
  (stL w91 (p92.add 5) 0 [.bool (decide ((x89 : Int) = 5))] fun w93 =>
  R (.returned (.tuple ⟨[]⟩)) w93) ∧ True) ∧ True)) ∧ (dr b_1 fun p94 =>
  (∃ (x95 : Int), World.cell? w72 (p9.add 0) = some (.int .i64 x95) ∧ ((stL w72 (p94.add 4) 0 [.bool false] fun w96 =>
  dr b_1 fun p97 =>
  (stL w96 (p97.add 5) 0 [.bool (decide ((x95 : Int) = 5))] fun w98 =>
  R (.returned (.tuple ⟨[]⟩)) w98) ∧ True) ∧ True)) ∧ ((∃ (x99 : Int), World.cell? w72 (p9.add 0) = some (.int .i64 x99) ∧ ((stL w72 (p94.add 4) 0 [.bool false] fun w100 =>
  dr b_1 fun p101 =>
  (stL w100 (p101.add 5) 0 [.bool (decide ((x99 : Int) = 5))] fun w102 =>
  R (.returned (.tuple ⟨[]⟩)) w102) ∧ True) ∧ True)) ∧ (stL w72 (p94.add 4) 0 [.bool false] fun w103 =>
  ∃ (x104 : Int), World.cell? w103 (p9.add 0) = some (.int .i64 x104) ∧ (dr b_1 fun p105 =>
  (stL w103 (p105.add 5) 0 [.bool (decide ((x104 : Int) = 5))] fun w106 =>
  R (.returned (.tuple ⟨[]⟩)) w106) ∧ True)) ∧ True) ∧ True) ∧ True))))))
set_option maxRecDepth 100000 in
theorem e_tokenizer_builder_add (b_1 : Option Addr) (x_2 : Int) (x_3 : Int) (x_4 : Int) (x_5 : List UInt8) (x_6 : Int) (x_7 : Bool) (x_8 : List UInt8) (R : Ending → World → Prop) (w : World) : fnV Tryd.prog Tryd.f19 an_tokenizer_builder_add [.pointer b_1, .agg ⟨[.int .i64 x_2, .int .u8 x_3, .int .i64 x_4, .string ⟨⟨x_5⟩⟩, .int .i64 x_6, .bool x_7, .string ⟨⟨x_8⟩⟩]⟩] R w = sh_tokenizer_builder_add b_1 x_2 x_3 x_4 x_5 x_6 x_7 x_8 R w := by kernel_rfl
theorem c_tokenizer_builder_add {b_1 : Option Addr} {x_2 : Int} {x_3 : Int} {x_4 : Int} {x_5 : List UInt8} {x_6 : Int} {x_7 : Bool} {x_8 : List UInt8} {R : Ending → World → Prop} {w : World} (h : sh_tokenizer_builder_add b_1 x_2 x_3 x_4 x_5 x_6 x_7 x_8 R w) : Calls Tryd.prog F_tokenizer_builder_add ⟨[.pointer b_1, .agg ⟨[.int .i64 x_2, .int .u8 x_3, .int .i64 x_4, .string ⟨⟨x_5⟩⟩, .int .i64 x_6, .bool x_7, .string ⟨⟨x_8⟩⟩]⟩]⟩ w R := calls_of_fnV Tryd.func19 (by rw [e_tokenizer_builder_add]; exact h)

def an_tokenizer_builder_end : Ann := .cut 16380 [] (.two (.leaf) (.two (.leaf) (.leaf))) (.two (.leaf) (.leaf))
def sh_tokenizer_builder_end (b_1 : Option Addr) (R : Ending → World → Prop) (w : World) : Prop :=
  ∀ (K2 : World → Prop), (∀  (w3 : World), (∀ _ : Env, (dr b_1 fun p4 =>
  stL w3 (p4.add 3) 0 [.bool false] fun w5 =>
  dr b_1 fun p6 =>
  Calls Tryd.prog 43 ⟨[.pointer (some (p6.add 1))]⟩ w5 fun (e7 : Ending) (w8 : World) =>
  e7 = .returned (.tuple ⟨[]⟩) ∧ (R (.returned (.tuple ⟨[]⟩)) w8))) → K2 w3) → (dr b_1 fun p9 =>
  ∃ (x10 : Bool), World.cell? w (p9.add 3) = some (.bool x10) ∧ (br x10 (drw w fun w11 =>
  (Calls Tryd.prog 41 ⟨[.pointer b_1]⟩ w11 fun (e12 : Ending) (w13 : World) =>
  ∃ (x14 : Option Addr), e12 = .returned (.pointer x14) ∧ (dr b_1 fun p15 =>
  (Calls Tryd.prog 42 ⟨[.pointer (some (p15.add 1))]⟩ w13 fun (e16 : Ending) (w17 : World) =>
  ∃ (x18 : List UInt8), e16 = .returned (.string ⟨⟨x18⟩⟩) ∧ (dr x14 fun p19 =>
  (stL w17 (p19.add 0) 0 [.string ⟨⟨x18⟩⟩] fun w20 =>
  K2 w20) ∧ True)) ∧ True)) ∧ ((Calls Tryd.prog 41 ⟨[.pointer b_1]⟩ w11 fun (e21 : Ending) (w22 : World) =>
  ∃ (x23 : Option Addr), e21 = .returned (.pointer x23) ∧ (dr b_1 fun p24 =>
  (Calls Tryd.prog 42 ⟨[.pointer (some (p24.add 1))]⟩ w22 fun (e25 : Ending) (w26 : World) =>
  ∃ (x27 : List UInt8), e25 = .returned (.string ⟨⟨x27⟩⟩) ∧ (dr x23 fun p28 =>
  (stL w26 (p28.add 0) 0 [.string ⟨⟨x27⟩⟩] fun w29 =>
  K2 w29) ∧ True)) ∧ True)) ∧ (dr b_1 fun p30 =>
  (Calls Tryd.prog 41 ⟨[.pointer b_1]⟩ w11 fun (e31 : Ending) (w32 : World) =>
  ∃ (x33 : Option Addr), e31 = .returned (.pointer x33) ∧ ((Calls Tryd.prog 42 ⟨[.pointer (some (p30.add 1))]⟩ w32 fun (e34 : Ending) (w35 : World) =>
  ∃ (x36 : List UInt8), e34 = .returned (.string ⟨⟨x36⟩⟩) ∧ (dr x33 fun p37 =>
  (stL w35 (p37.add 0) 0 [.string ⟨⟨x36⟩⟩] fun w38 =>
  K2 w38) ∧ True)) ∧ True)) ∧ ((Calls Tryd.prog 41 ⟨[.pointer b_1]⟩ w11 fun (e39 : Ending) (w40 : World) =>
  ∃ (x41 : Option Addr), e39 = .returned (.pointer x41) ∧ ((Calls Tryd.prog 42 ⟨[.pointer (some (p30.add 1))]⟩ w40 fun (e42 : Ending) (w43 : World) =>
  ∃ (x44 : List UInt8), e42 = .returned (.string ⟨⟨x44⟩⟩) ∧ (dr x41 fun p45 =>
  (stL w43 (p45.add 0) 0 [.string ⟨⟨x44⟩⟩] fun w46 =>
  K2 w46) ∧ True)) ∧ True)) ∧ True) ∧ True) ∧ True) ∧ True) (K2 w)))
set_option maxRecDepth 100000 in
theorem e_tokenizer_builder_end (b_1 : Option Addr) (R : Ending → World → Prop) (w : World) : fnV Tryd.prog Tryd.f20 an_tokenizer_builder_end [.pointer b_1] R w = sh_tokenizer_builder_end b_1 R w := by kernel_rfl
theorem c_tokenizer_builder_end {b_1 : Option Addr} {R : Ending → World → Prop} {w : World} (h : sh_tokenizer_builder_end b_1 R w) : Calls Tryd.prog F_tokenizer_builder_end ⟨[.pointer b_1]⟩ w R := calls_of_fnV Tryd.func20 (by rw [e_tokenizer_builder_end]; exact h)

def an_slices_ContainsFunc_of_api_Token_api_Token : Ann := .two (.leaf) (.two (.leaf) (.leaf))
def sh_slices_ContainsFunc_of_api_Token_api_Token (s_1 : Option Addr) (s_1n : Nat) (s_1c : Nat) (f_2 : Fn) (f_2a : Array Value) (f_2b : Array Value) (R : Ending → World → Prop) (w : World) : Prop :=
  Calls Tryd.prog 44 ⟨[.slice s_1 s_1n s_1c, .func f_2 f_2a f_2b]⟩ w fun (e3 : Ending) (w4 : World) =>
  ∃ (x5 : Int), e3 = .returned (.int .i64 x5) ∧ (R (.returned (.bool (decide ((0 : Int) ≤ x5)))) w4)
set_option maxRecDepth 100000 in
theorem e_slices_ContainsFunc_of_api_Token_api_Token (s_1 : Option Addr) (s_1n : Nat) (s_1c : Nat) (f_2 : Fn) (f_2a : Array Value) (f_2b : Array Value) (R : Ending → World → Prop) (w : World) : fnV Tryd.prog Tryd.f21 an_slices_ContainsFunc_of_api_Token_api_Token [.slice s_1 s_1n s_1c, .func f_2 f_2a f_2b] R w = sh_slices_ContainsFunc_of_api_Token_api_Token s_1 s_1n s_1c f_2 f_2a f_2b R w := by kernel_rfl
theorem c_slices_ContainsFunc_of_api_Token_api_Token {s_1 : Option Addr} {s_1n : Nat} {s_1c : Nat} {f_2 : Fn} {f_2a : Array Value} {f_2b : Array Value} {R : Ending → World → Prop} {w : World} (h : sh_slices_ContainsFunc_of_api_Token_api_Token s_1 s_1n s_1c f_2 f_2a f_2b R w) : Calls Tryd.prog F_slices_ContainsFunc_of_api_Token_api_Token ⟨[.slice s_1 s_1n s_1c, .func f_2 f_2a f_2b]⟩ w R := calls_of_fnV Tryd.func21 (by rw [e_slices_ContainsFunc_of_api_Token_api_Token]; exact h)

def an_tokenizer_Tokens_1 : Ann := .two (.leaf) (.two (.leaf) (.leaf))
def sh_tokenizer_Tokens_1 (t_1 : List UInt8) (t_2 : List UInt8) (t_3 : List UInt8) (t_4 : Int) (t_5 : Int) (t_6 : List UInt8) (R : Ending → World → Prop) (w : World) : Prop :=
  al w 35 [.string ⟨⟨t_1⟩⟩, .string ⟨⟨t_2⟩⟩, .string ⟨⟨t_3⟩⟩, .int .i64 t_4, .int .i64 t_5, .string ⟨⟨t_6⟩⟩] fun p7 w8 =>
  ∃ (x9 : List UInt8), World.cell? w8 (p7.add 0) = some (.string ⟨⟨x9⟩⟩) ∧ (R (.returned (.bool (decide ((64 : Int) < ((List.length x9 : Int)))))) w8)
set_option maxRecDepth 100000 in
theorem e_tokenizer_Tokens_1 (t_1 : List UInt8) (t_2 : List UInt8) (t_3 : List UInt8) (t_4 : Int) (t_5 : Int) (t_6 : List UInt8) (R : Ending → World → Prop) (w : World) : fnV Tryd.prog Tryd.f22 an_tokenizer_Tokens_1 [.agg ⟨[.string ⟨⟨t_1⟩⟩, .string ⟨⟨t_2⟩⟩, .string ⟨⟨t_3⟩⟩, .int .i64 t_4, .int .i64 t_5, .string ⟨⟨t_6⟩⟩]⟩] R w = sh_tokenizer_Tokens_1 t_1 t_2 t_3 t_4 t_5 t_6 R w := by kernel_rfl
theorem c_tokenizer_Tokens_1 {t_1 : List UInt8} {t_2 : List UInt8} {t_3 : List UInt8} {t_4 : Int} {t_5 : Int} {t_6 : List UInt8} {R : Ending → World → Prop} {w : World} (h : sh_tokenizer_Tokens_1 t_1 t_2 t_3 t_4 t_5 t_6 R w) : Calls Tryd.prog F_tokenizer_Tokens_1 ⟨[.agg ⟨[.string ⟨⟨t_1⟩⟩, .string ⟨⟨t_2⟩⟩, .string ⟨⟨t_3⟩⟩, .int .i64 t_4, .int .i64 t_5, .string ⟨⟨t_6⟩⟩]⟩]⟩ w R := calls_of_fnV Tryd.func22 (by rw [e_tokenizer_Tokens_1]; exact h)

def an_tokenizer_normalized : Ann := .two (.leaf) (.two (.two (.leaf) (.one (.loop 281474976709104 [(11, .one (.int .i64))] (.two (.leaf) (.two (.two (.leaf) (.leaf)) (.two (.one (.two (.leaf) (.two (.leaf) (.two (.two (.leaf) (.two (.leaf) (.leaf))) (.two (.leaf) (.two (.two (.leaf) (.two (.two (.leaf) (.leaf)) (.leaf))) (.leaf))))))) (.leaf))))))) (.two (.leaf) (.leaf)))
def sh_tokenizer_normalized (rules_1 : Option Addr) (rules_1n : Nat) (rules_1c : Nat) (l_2 : Option Addr) (l_2n : Nat) (l_2c : Nat) (R : Ending → World → Prop) (w : World) : Prop :=
  ∃ (I3 : Int → World → Nat → Prop), (∃ m7 : Nat, I3 0 w m7) ∧ ∀ (t11_4 : Int) (w5 : World) (m6 : Nat), I3 t11_4 w5 m6 → ∀ _ : Env, (br (decide ((t11_4 : Int) < ((l_2n : Int)))) (idx l_2 l_2n t11_4 6 fun p8 =>
  ∃ (x9 : List UInt8), World.cell? w5 (p8.add 0) = some (.string ⟨⟨x9⟩⟩) ∧ (idx l_2 l_2n t11_4 6 fun p10 =>
  stL w5 (p10.add 1) 0 [.string ⟨⟨x9⟩⟩] fun w11 =>
  idx l_2 l_2n t11_4 6 fun p12 =>
  ∃ (x13 : List UInt8), World.cell? w11 (p12.add 0) = some (.string ⟨⟨x13⟩⟩) ∧ (∃ (x14 : List UInt8), World.cell? w11 (p12.add 1) = some (.string ⟨⟨x14⟩⟩) ∧ (∃ (x15 : List UInt8), World.cell? w11 (p12.add 2) = some (.string ⟨⟨x15⟩⟩) ∧ (∃ (x16 : Int), World.cell? w11 (p12.add 3) = some (.int .i64 x16) ∧ (∃ (x17 : Int), World.cell? w11 (p12.add 4) = some (.int .i64 x17) ∧ (∃ (x18 : List UInt8), World.cell? w11 (p12.add 5) = some (.string ⟨⟨x18⟩⟩) ∧ (Calls Tryd.prog 45 ⟨[.agg ⟨[.string ⟨⟨x13⟩⟩, .string ⟨⟨x14⟩⟩, .string ⟨⟨x15⟩⟩, .int .i64 x16, .int .i64 x17, .string ⟨⟨x18⟩⟩]⟩]⟩ w11 fun (e19 : Ending) (w20 : World) =>
  ∃ (x21 : Bool), e19 = .returned (.bool x21) ∧ (br (!x21) (∃ m22 : Nat, m22 < m6 ∧ I3 (IntKind.i64.wrap (t11_4 + 1)) w20 m22) (idx l_2 l_2n t11_4 6 fun p23 =>
  ∃ (x24 : List UInt8), World.cell? w20 (p23.add 0) = some (.string ⟨⟨x24⟩⟩) ∧ (Calls Tryd.prog 46 ⟨[.slice rules_1 rules_1n rules_1c, .string ⟨⟨x24⟩⟩]⟩ w20 fun (e25 : Ending) (w26 : World) =>
  ∃ (x27 : List UInt8) (x28 : Int), e25 = .returned (.tuple ⟨[.string ⟨⟨x27⟩⟩, .int .i64 x28]⟩) ∧ (br (decide ((x28 : Int) ≠ 0)) (R (.returned (.tuple ⟨[.slice none 0 0, .int .i64 x28]⟩)) w26) (idx l_2 l_2n t11_4 6 fun p29 =>
  stL w26 (p29.add 1) 0 [.string ⟨⟨x27⟩⟩] fun w30 =>
  ∃ m31 : Nat, m31 < m6 ∧ I3 (IntKind.i64.wrap (t11_4 + 1)) w30 m31))))))))))))) (R (.returned (.tuple ⟨[.slice l_2 l_2n l_2c, .int .i64 0]⟩)) w5))
set_option maxRecDepth 100000 in
theorem e_tokenizer_normalized (rules_1 : Option Addr) (rules_1n : Nat) (rules_1c : Nat) (l_2 : Option Addr) (l_2n : Nat) (l_2c : Nat) (R : Ending → World → Prop) (w : World) : fnV Tryd.prog Tryd.f23 an_tokenizer_normalized [.slice rules_1 rules_1n rules_1c, .slice l_2 l_2n l_2c] R w = sh_tokenizer_normalized rules_1 rules_1n rules_1c l_2 l_2n l_2c R w := by kernel_rfl
theorem c_tokenizer_normalized {rules_1 : Option Addr} {rules_1n : Nat} {rules_1c : Nat} {l_2 : Option Addr} {l_2n : Nat} {l_2c : Nat} {R : Ending → World → Prop} {w : World} (h : sh_tokenizer_normalized rules_1 rules_1n rules_1c l_2 l_2n l_2c R w) : Calls Tryd.prog F_tokenizer_normalized ⟨[.slice rules_1 rules_1n rules_1c, .slice l_2 l_2n l_2c]⟩ w R := calls_of_fnV Tryd.func23 (by rw [e_tokenizer_normalized]; exact h)

def an_ref11_Great : Ann := .two (.leaf) (.two (.leaf) (.two (.leaf) (.leaf)))
def sh_ref11_Great (l_1 : Option Addr) (l_1n : Nat) (l_1c : Nat) (n_2 : Int) (R : Ending → World → Prop) (w : World) : Prop :=
  Calls Tryd.prog 47 ⟨[.slice l_1 l_1n l_1c, .int .i64 0, .int .i64 0]⟩ w fun (e3 : Ending) (w4 : World) =>
  ∃ (x5 : Int) (x6 : Bool), e3 = .returned (.tuple ⟨[.int .i64 x5, .bool x6]⟩) ∧ (br x6 (R (.returned (.bool true)) w4) (R (.returned (.bool (decide ((n_2 : Int) < x5)))) w4))
set_option maxRecDepth 100000 in
theorem e_ref11_Great (l_1 : Option Addr) (l_1n : Nat) (l_1c : Nat) (n_2 : Int) (R : Ending → World → Prop) (w : World) : fnV Tryd.prog Tryd.f24 an_ref11_Great [.slice l_1 l_1n l_1c, .int .i64 n_2] R w = sh_ref11_Great l_1 l_1n l_1c n_2 R w := by kernel_rfl
theorem c_ref11_Great {l_1 : Option Addr} {l_1n : Nat} {l_1c : Nat} {n_2 : Int} {R : Ending → World → Prop} {w : World} (h : sh_ref11_Great l_1 l_1n l_1c n_2 R w) : Calls Tryd.prog F_ref11_Great ⟨[.slice l_1 l_1n l_1c, .int .i64 n_2]⟩ w R := calls_of_fnV Tryd.func24 (by rw [e_ref11_Great]; exact h)

def an_ref15_GreatRules : Ann := .two (.leaf) (.cut 131060 [] (.two (.leaf) (.two (.two (.leaf) (.leaf)) (.leaf))) (.two (.two (.leaf) (.one (.loop 37778931862957161578508 [(3, .one (.int .i64))] (.two (.two (.leaf) (.two (.leaf) (.leaf))) (.two (.one (.two (.leaf) (.two (.two (.leaf) (.leaf)) (.leaf)))) (.leaf)))))) (.two (.leaf) (.leaf))))
def sh_ref15_GreatRules (l_1 : Option Addr) (l_1n : Nat) (l_1c : Nat) (R : Ending → World → Prop) (w : World) : Prop :=
  ∀ (K2 : World → Prop), (∀  (w3 : World), (∀ _ : Env, (∃ (I4 : Int → World → Nat → Prop), (∃ m8 : Nat, I4 0 w3 m8) ∧ ∀ (i_5 : Int) (w6 : World) (m7 : Nat), I4 i_5 w6 m7 → ∀ _ : Env, (br (decide ((i_5 : Int) < ((l_1n : Int)))) (idx l_1 l_1n i_5 2 fun p9 =>
  ∃ (x10 : List UInt8), World.cell? w6 (p9.add 0) = some (.string ⟨⟨x10⟩⟩) ∧ (br (decide ((8 : Int) < ((List.length x10 : Int)))) (idx l_1 l_1n i_5 2 fun p11 =>
  ∃ (x12 : List UInt8), World.cell? w6 (p11.add 0) = some (.string ⟨⟨x12⟩⟩) ∧ (br (decide ((((List.length x12 : Int)) : Int) ≤ 64)) (R (.returned (.bool true)) w6) (idx l_1 l_1n i_5 2 fun p13 =>
  ∃ (x14 : List UInt8), World.cell? w6 (p13.add 1) = some (.string ⟨⟨x14⟩⟩) ∧ (br (decide ((8 : Int) < ((List.length x14 : Int)))) (idx l_1 l_1n i_5 2 fun p15 =>
  ∃ (x16 : List UInt8), World.cell? w6 (p15.add 1) = some (.string ⟨⟨x16⟩⟩) ∧ (br (decide ((((List.length x16 : Int)) : Int) ≤ 64)) (R (.returned (.bool true)) w6) (idx l_1 l_1n i_5 2 fun p17 =>
  ∃ (x18 : List UInt8), World.cell? w6 (p17.add 0) = some (.string ⟨⟨x18⟩⟩) ∧ (br (decide ((66 : Int) < ((List.length x18 : Int)))) (R (.returned (.bool true)) w6) (idx l_1 l_1n i_5 2 fun p19 =>
  ∃ (x20 : List UInt8), World.cell? w6 (p19.add 1) = some (.string ⟨⟨x20⟩⟩) ∧ (br (decide ((66 : Int) < ((List.length x20 : Int)))) (R (.returned (.bool true)) w6) (∃ m21 : Nat, m21 < m7 ∧ I4 (IntKind.i64.wrap (i_5 + 1)) w6 m21))))))) (idx l_1 l_1n i_5 2 fun p22 =>
  ∃ (x23 : List UInt8), World.cell? w6 (p22.add 0) = some (.string ⟨⟨x23⟩⟩) ∧ (br (decide ((66 : Int) < ((List.length x23 : Int)))) (R (.returned (.bool true)) w6) (idx l_1 l_1n i_5 2 fun p24 =>
  ∃ (x25 : List UInt8), World.cell? w6 (p24.add 1) = some (.string ⟨⟨x25⟩⟩) ∧ (br (decide ((66 : Int) < ((List.length x25 : Int)))) (R (.returned (.bool true)) w6) (∃ m26 : Nat, m26 < m7 ∧ I4 (IntKind.i64.wrap (i_5 + 1)) w6 m26))))))))) (idx l_1 l_1n i_5 2 fun p27 =>
  ∃ (x28 : List UInt8), World.cell? w6 (p27.add 1) = some (.string ⟨⟨x28⟩⟩) ∧ (br (decide ((8 : Int) < ((List.length x28 : Int)))) (idx l_1 l_1n i_5 2 fun p29 =>
  ∃ (x30 : List UInt8), World.cell? w6 (p29.add 1) = some (.string ⟨⟨x30⟩⟩) ∧ (br (decide ((((List.length x30 : Int)) : Int) ≤ 64)) (R (.returned (.bool true)) w6) (idx l_1 l_1n i_5 2 fun p31 =>
  ∃ (x32 : List UInt8), World.cell? w6 (p31.add 0) = some (.string ⟨⟨x32⟩⟩) ∧ (br (decide ((66 : Int) < ((List.length x32 : Int)))) (R (.returned (.bool true)) w6) (idx l_1 l_1n i_5 2 fun p33 =>
  ∃ (x34 : List UInt8), World.cell? w6 (p33.add 1) = some (.string ⟨⟨x34⟩⟩) ∧ (br (decide ((66 : Int) < ((List.length x34 : Int)))) (R (.returned (.bool true)) w6) (∃ m35 : Nat, m35 < m7 ∧ I4 (IntKind.i64.wrap (i_5 + 1)) w6 m35))))))) (idx l_1 l_1n i_5 2 fun p36 =>
  ∃ (x37 : List UInt8), World.cell? w6 (p36.add 0) = some (.string ⟨⟨x37⟩⟩) ∧ (br (decide ((66 : Int) < ((List.length x37 : Int)))) (R (.returned (.bool true)) w6) (idx l_1 l_1n i_5 2 fun p38 =>
  ∃ (x39 : List UInt8), World.cell? w6 (p38.add 1) = some (.string ⟨⟨x39⟩⟩) ∧ (br (decide ((66 : Int) < ((List.length x39 : Int)))) (R (.returned (.bool true)) w6) (∃ m40 : Nat, m40 < m7 ∧ I4 (IntKind.i64.wrap (i_5 + 1)) w6 m40))))))))) (R (.returned (.bool false)) w6)))) → K2 w3) → (br (decide ((5 : Int) < ((l_1n : Int)))) (br (decide ((((l_1n : Int)) : Int) ≤ 64)) (R (.returned (.bool true)) w) (br (decide ((66 : Int) < ((l_1n : Int)))) (R (.returned (.bool true)) w) (K2 w))) (br (decide ((66 : Int) < ((l_1n : Int)))) (R (.returned (.bool true)) w) (K2 w)))
set_option maxRecDepth 100000 in
theorem e_ref15_GreatRules (l_1 : Option Addr) (l_1n : Nat) (l_1c : Nat) (R : Ending → World → Prop) (w : World) : fnV Tryd.prog Tryd.f25 an_ref15_GreatRules [.slice l_1 l_1n l_1c] R w = sh_ref15_GreatRules l_1 l_1n l_1c R w := by kernel_rfl
theorem c_ref15_GreatRules {l_1 : Option Addr} {l_1n : Nat} {l_1c : Nat} {R : Ending → World → Prop} {w : World} (h : sh_ref15_GreatRules l_1 l_1n l_1c R w) : Calls Tryd.prog F_ref15_GreatRules ⟨[.slice l_1 l_1n l_1c]⟩ w R := calls_of_fnV Tryd.func25 (by rw [e_ref15_GreatRules]; exact h)

def an_transcript_Check_1 : Ann := .two (.leaf) (.two (.leaf) (.two (.leaf) (.leaf)))
def sh_transcript_Check_1 (t0_1 : Option Addr) (R : Ending → World → Prop) (w : World) : Prop :=
  dr t0_1 fun p2 =>
  ∃ (x3 : Int), World.cell? w p2 = some (.int .i64 x3) ∧ (dr t0_1 fun p5 =>
  stL w p5 0 [.int .i64 (IntKind.i64.wrap (x3 - 1))] fun w4 =>
  dr t0_1 fun p6 =>
  ∃ (x7 : Int), World.cell? w4 p6 = some (.int .i64 x7) ∧ (R (.returned (.bool (decide ((0 : Int) ≤ x7)))) w4))
set_option maxRecDepth 100000 in
theorem e_transcript_Check_1 (t0_1 : Option Addr) (R : Ending → World → Prop) (w : World) : fnV Tryd.prog Tryd.f26 an_transcript_Check_1 [.pointer t0_1] R w = sh_transcript_Check_1 t0_1 R w := by kernel_rfl
theorem c_transcript_Check_1 {t0_1 : Option Addr} {R : Ending → World → Prop} {w : World} (h : sh_transcript_Check_1 t0_1 R w) : Calls Tryd.prog F_transcript_Check_1 ⟨[.pointer t0_1]⟩ w R := calls_of_fnV Tryd.func26 (by rw [e_transcript_Check_1]; exact h)

def an_transcript_right : Ann := .two (.leaf) (.two (.leaf) (.cut 65284 [] (.two (.leaf) (.two (.two (.leaf) (.leaf)) (.leaf))) (.two (.leaf) (.two (.leaf) (.two (.one (.cut 9007199246352384 [(23, .one (.bool))] (.leaf) (.two (.two (.leaf) (.leaf)) (.cut 4722357475670390472704 [(53, .one (.bool))] (.leaf) (.two (.two (.leaf) (.leaf)) (.cut 4830980911975647053611008 [(72, .one (.bool))] (.leaf) (.two (.two (.leaf) (.leaf)) (.cut 1298074209798003628674107383480320 [(82, .one (.bool))] (.cut 4946924453863062582897672192 [(82, .one (.bool))] (.leaf) (.two (.leaf) (.leaf))) (.two (.two (.leaf) (.leaf)) (.cut 43556141667805908689605042618642248761344 [(110, .one (.bool))] (.cut 331008924731595261318819140987781120 [(110, .one (.bool))] (.leaf) (.two (.leaf) (.cut 20936639007827058705142093823497732096 [(110, .one (.bool))] (.leaf) (.two (.leaf) (.leaf))))) (.two (.two (.leaf) (.leaf)) (.cut 11106816456299431447444547186572914421923840 [(135, .one (.bool))] (.leaf) (.two (.two (.leaf) (.leaf)) (.two (.leaf) (.two (.two (.leaf) (.leaf)) (.leaf)))))))))))))))) (.two (.leaf) (.leaf)))))))
def sh_transcript_right (p_1 : Int) (p_2 : List UInt8) (p_3 : Int) (p_4 : Option Addr) (p_4n : Nat) (p_4c : Nat) (p_5 : Int) (p_6 : Bool) (R : Ending → World → Prop) (w : World) : Prop :=
  al w 55 [.int .i64 p_1, .string ⟨⟨p_2⟩⟩, .int .i64 p_3, .slice p_4 p_4n p_4c, .int .i64 p_5, .bool p_6] fun p7 w8 =>
  ∃ (x9 : Int), World.cell? w8 ((p7.add 0).add 0) = some (.int .i64 x9) ∧ (∃ (x10 : List UInt8), World.cell? w8 ((p7.add 0).add 1) = some (.string ⟨⟨x10⟩⟩) ∧ (∃ (x11 : Int), World.cell? w8 ((p7.add 0).add 2) = some (.int .i64 x11) ∧ (∃ (x12 : Option Addr) (x12n : Nat) (x12c : Nat), World.cell? w8 ((p7.add 0).add 3) = some (.slice x12 x12n x12c) ∧ (al w8 44 [.int .i64 0, .string ⟨⟨[]⟩⟩, .int .i64 0, .slice none 0 0] fun p13 w14 =>
  stL w14 p13 0 [.int .i64 x9, .string ⟨⟨x10⟩⟩, .int .i64 x11, .slice x12 x12n x12c] fun w15 =>
  ∀ (K16 : World → Prop), (∀  (w17 : World), (∀ _ : Env, (∃ (x18 : Int), World.cell? w17 (p13.add 0) = some (.int .i64 x18) ∧ (idx (some (⟨0, 0, none⟩)) 12 x18 4 fun p19 =>
  ∃ (x20 : List UInt8), World.cell? w17 (p19.add 0) = some (.string ⟨⟨x20⟩⟩) ∧ (∃ (x21 : Bool), World.cell? w17 (p19.add 1) = some (.bool x21) ∧ (∃ (x22 : Bool), World.cell? w17 (p19.add 2) = some (.bool x22) ∧ (∃ (x23 : Bool), World.cell? w17 (p19.add 3) = some (.bool x23) ∧ (al w17 97 [.string ⟨⟨[]⟩⟩, .bool false, .bool false, .bool false] fun p24 w25 =>
  stL w25 p24 0 [.string ⟨⟨x20⟩⟩, .bool x21, .bool x22, .bool x23] fun w26 =>
  ∃ (x27 : Int), World.cell? w26 (p13.add 0) = some (.int .i64 x27) ∧ (∀ (K28 : Bool → World → Prop), (∀ (t23_29 : Bool) (w30 : World), (∀ _ : Env, (br t23_29 (R (.returned (.int .i64 8)) w30) (∀ (K31 : Bool → World → Prop), (∀ (t53_32 : Bool) (w33 : World), (∀ _ : Env, (br t53_32 (R (.returned (.int .i64 5)) w33) (∀ (K34 : Bool → World → Prop), (∀ (t72_35 : Bool) (w36 : World), (∀ _ : Env, (br t72_35 (R (.returned (.int .i64 11)) w36) (∀ (K37 : Bool → World → Prop), (∀ (t82_38 : Bool) (w39 : World), (∀ _ : Env, (br t82_38 (R (.returned (.int .i64 14)) w39) (∀ (K40 : Bool → World → Prop), (∀ (t110_41 : Bool) (w42 : World), (∀ _ : Env, (br t110_41 (R (.returned (.int .i64 2)) w42) (∀ (K43 : Bool → World → Prop), (∀ (t135_44 : Bool) (w45 : World), (∀ _ : Env, (br t135_44 (R (.returned (.int .i64 10)) w45) (∃ (x46 : Int), World.cell? w45 (p13.add 0) = some (.int .i64 x46) ∧ (br (decide ((x46 : Int) = 4)) (∃ (x47 : Int), World.cell? w45 (p7.add 4) = some (.int .i64 x47) ∧ (br (decide ((0 : Int) < x47)) (R (.returned (.int .i64 12)) w45) (R (.returned (.int .i64 0)) w45))) (R (.returned (.int .i64 0)) w45))))) → K43 t135_44 w45) → (∃ (x48 : Int), World.cell? w42 (p13.add 0) = some (.int .i64 x48) ∧ (br (decide ((x48 : Int) = 1)) (∃ (x49 : Bool), World.cell? w42 (p7.add 5) = some (.bool x49) ∧ (K43 x49 w42)) (K43 false w42)))))) → K40 t110_41 w42) → (∀ (K50 : Bool → World → Prop), (∀ (t110_51 : Bool) (w52 : World), (∀ _ : Env, (br t110_51 (K40 t110_51 w52) (∀ (K53 : Bool → World → Prop), (∀ (t110_54 : Bool) (w55 : World), (∀ _ : Env, (br t110_54 (K40 t110_54 w55) (∃ (x56 : Bool), World.cell? w55 (p24.add 2) = some (.bool x56) ∧ (br x56 (br (!(decide ((x27 : Int) = 6))) (∃ (x57 : Int), World.cell? w55 (p13.add 2) = some (.int .i64 x57) ∧ (K40 (decide ((8 : Int) < x57)) w55)) (K40 false w55)) (K40 false w55))))) → K53 t110_54 w55) → (br (decide ((x27 : Int) = 6)) (∃ (x58 : Int), World.cell? w52 (p13.add 2) = some (.int .i64 x58) ∧ (K53 (decide ((64 : Int) < x58)) w52)) (K53 false w52))))) → K50 t110_51 w52) → (∃ (x59 : Bool), World.cell? w39 (p24.add 2) = some (.bool x59) ∧ (br x59 (∃ (x60 : Int), World.cell? w39 (p13.add 2) = some (.int .i64 x60) ∧ (K50 (decide ((x60 : Int) < 1)) w39)) (K50 false w39))))))) → K37 t82_38 w39) → (∀ (K61 : Bool → World → Prop), (∀ (t82_62 : Bool) (w63 : World), (∀ _ : Env, (br t82_62 (K37 t82_62 w63) (∃ (x64 : Bool), World.cell? w63 (p24.add 1) = some (.bool x64) ∧ (br x64 (∃ (x65 : Int), World.cell? w63 (p13.add 0) = some (.int .i64 x65) ∧ (br (decide ((x65 : Int) ≠ 1)) (∃ (x66 : Int), World.cell? w63 (p13.add 0) = some (.int .i64 x66) ∧ (br (decide ((x66 : Int) ≠ 10)) (∃ (x67 : List UInt8), World.cell? w63 (p13.add 1) = some (.string ⟨⟨x67⟩⟩) ∧ (Calls Tryd.prog 35 ⟨[.string ⟨⟨x67⟩⟩]⟩ w63 fun (e68 : Ending) (w69 : World) =>
  ∃ (x70 : Bool), e68 = .returned (.bool x70) ∧ (K37 (!x70) w69))) (K37 false w63))) (K37 false w63))) (K37 false w63))))) → K61 t82_62 w63) → (∃ (x71 : Int), World.cell? w36 (p13.add 0) = some (.int .i64 x71) ∧ (br (decide ((x71 : Int) = 10)) (∃ (x72 : List UInt8), World.cell? w36 (p13.add 1) = some (.string ⟨⟨x72⟩⟩) ∧ (Calls Tryd.prog 48 ⟨[.string ⟨⟨x72⟩⟩]⟩ w36 fun (e73 : Ending) (w74 : World) =>
  ∃ (x75 : Bool), e73 = .returned (.bool x75) ∧ (K61 (!x75) w74))) (K61 false w36))))))) → K34 t72_35 w36) → (∃ (x76 : Int), World.cell? w33 (p13.add 0) = some (.int .i64 x76) ∧ (br (decide ((x76 : Int) = 1)) (∃ (x77 : List UInt8), World.cell? w33 (p13.add 1) = some (.string ⟨⟨x77⟩⟩) ∧ (Calls Tryd.prog 31 ⟨[.string ⟨⟨x77⟩⟩]⟩ w33 fun (e78 : Ending) (w79 : World) =>
  ∃ (x80 : Int), e78 = .returned (.int .i64 x80) ∧ (K34 (decide ((x80 : Int) ≠ 0)) w79))) (K34 false w33)))))) → K31 t53_32 w33) → (∃ (x81 : Int), World.cell? w30 (p13.add 0) = some (.int .i64 x81) ∧ (br (decide ((x81 : Int) = 1)) (∃ (x82 : List UInt8), World.cell? w30 (p13.add 1) = some (.string ⟨⟨x82⟩⟩) ∧ (br (decide ((x82 : List UInt8) = ([]))) (K31 true w30) (∃ (x83 : Bool), World.cell? w30 (p24.add 3) = some (.bool x83) ∧ (br x83 (∃ (x84 : Option Addr) (x84n : Nat) (x84c : Nat), World.cell? w30 (p13.add 3) = some (.slice x84 x84n x84c) ∧ (K31 (decide ((((x84n : Int)) : Int) = 0)) w30)) (K31 false w30))))) (∃ (x85 : Bool), World.cell? w30 (p24.add 3) = some (.bool x85) ∧ (br x85 (∃ (x86 : Option Addr) (x86n : Nat) (x86c : Nat), World.cell? w30 (p13.add 3) = some (.slice x86 x86n x86c) ∧ (K31 (decide ((((x86n : Int)) : Int) = 0)) w30)) (K31 false w30)))))))) → K28 t23_29 w30) → (∃ (x87 : Bool), World.cell? w26 (p24.add 1) = some (.bool x87) ∧ (br (!x87) (∃ (x88 : List UInt8), World.cell? w26 (p13.add 1) = some (.string ⟨⟨x88⟩⟩) ∧ (br (decide ((x88 : List UInt8) ≠ ([]))) (K28 true w26) (∃ (x89 : Bool), World.cell? w26 (p24.add 2) = some (.bool x89) ∧ (br (!x89) (∃ (x90 : Int), World.cell? w26 (p13.add 2) = some (.int .i64 x90) ∧ (br (decide ((x90 : Int) ≠ 0)) (K28 true w26) (∃ (x91 : Bool), World.cell? w26 (p24.add 3) = some (.bool x91) ∧ (br (!x91) (∃ (x92 : Option Addr) (x92n : Nat) (x92c : Nat), World.cell? w26 (p13.add 3) = some (.slice x92 x92n x92c) ∧ (K28 (decide ((0 : Int) < ((x92n : Int)))) w26)) (K28 false w26))))) (∃ (x93 : Bool), World.cell? w26 (p24.add 3) = some (.bool x93) ∧ (br (!x93) (∃ (x94 : Option Addr) (x94n : Nat) (x94c : Nat), World.cell? w26 (p13.add 3) = some (.slice x94 x94n x94c) ∧ (K28 (decide ((0 : Int) < ((x94n : Int)))) w26)) (K28 false w26))))))) (∃ (x95 : Bool), World.cell? w26 (p24.add 2) = some (.bool x95) ∧ (br (!x95) (∃ (x96 : Int), World.cell? w26 (p13.add 2) = some (.int .i64 x96) ∧ (br (decide ((x96 : Int) ≠ 0)) (K28 true w26) (∃ (x97 : Bool), World.cell? w26 (p24.add 3) = some (.bool x97) ∧ (br (!x97) (∃ (x98 : Option Addr) (x98n : Nat) (x98c : Nat), World.cell? w26 (p13.add 3) = some (.slice x98 x98n x98c) ∧ (K28 (decide ((0 : Int) < ((x98n : Int)))) w26)) (K28 false w26))))) (∃ (x99 : Bool), World.cell? w26 (p24.add 3) = some (.bool x99) ∧ (br (!x99) (∃ (x100 : Option Addr) (x100n : Nat) (x100c : Nat), World.cell? w26 (p13.add 3) = some (.slice x100 x100n x100c) ∧ (K28 (decide ((0 : Int) < ((x100n : Int)))) w26)) (K28 false w26))))))))))))))) → K16 w17) → (∃ (x101 : Int), World.cell? w15 (p13.add 0) = some (.int .i64 x101) ∧ (br (decide ((x101 : Int) < 1)) (R (.returned (.int .i64 8)) w15) (∃ (x102 : Int), World.cell? w15 (p13.add 0) = some (.int .i64 x102) ∧ (br (decide ((11 : Int) < x102)) (R (.returned (.int .i64 8)) w15) (K16 w15)))))))))
set_option maxRecDepth 100000 in
theorem e_transcript_right (p_1 : Int) (p_2 : List UInt8) (p_3 : Int) (p_4 : Option Addr) (p_4n : Nat) (p_4c : Nat) (p_5 : Int) (p_6 : Bool) (R : Ending → World → Prop) (w : World) : fnV Tryd.prog Tryd.f27 an_transcript_right [.agg ⟨[.int .i64 p_1, .string ⟨⟨p_2⟩⟩, .int .i64 p_3, .slice p_4 p_4n p_4c, .int .i64 p_5, .bool p_6]⟩] R w = sh_transcript_right p_1 p_2 p_3 p_4 p_4n p_4c p_5 p_6 R w := by kernel_rfl
theorem c_transcript_right {p_1 : Int} {p_2 : List UInt8} {p_3 : Int} {p_4 : Option Addr} {p_4n : Nat} {p_4c : Nat} {p_5 : Int} {p_6 : Bool} {R : Ending → World → Prop} {w : World} (h : sh_transcript_right p_1 p_2 p_3 p_4 p_4n p_4c p_5 p_6 R w) : Calls Tryd.prog F_transcript_right ⟨[.agg ⟨[.int .i64 p_1, .string ⟨⟨p_2⟩⟩, .int .i64 p_3, .slice p_4 p_4n p_4c, .int .i64 p_5, .bool p_6]⟩]⟩ w R := calls_of_fnV Tryd.func27 (by rw [e_transcript_right]; exact h)

def an_transcript_marked : Ann := .two (.leaf) (.two (.leaf) (.two (.leaf) (.two (.leaf) (.two (.leaf) (.two (.leaf) (.leaf))))))
def sh_transcript_marked (l_1 : Option Addr) (l_1n : Nat) (l_1c : Nat) (R : Ending → World → Prop) (w : World) : Prop :=
  al w 60 [.pointer none, .slice none 0 0] fun p2 w3 =>
  al w3 99 [.nilFunc] fun p4 w5 =>
  stL w5 p4 0 [.func (.func 49) ⟨[]⟩ ⟨[.pointer (some p2), .pointer (some p4)]⟩] fun w6 =>
  ∃ (x7 : Fn) (x7a : Array Value) (x7b : Array Value), World.cell? w6 p4 = some (.func x7 x7a x7b) ∧ (CallV Tryd.prog (.func x7 x7a x7b) [.slice l_1 l_1n l_1c] w6 fun (e8 : Ending) (w9 : World) =>
  e8 = .returned (.tuple ⟨[]⟩) ∧ (Calls Tryd.prog 42 ⟨[.pointer (some p2)]⟩ w9 fun (e10 : Ending) (w11 : World) =>
  ∃ (x12 : List UInt8), e10 = .returned (.string ⟨⟨x12⟩⟩) ∧ (R (.returned (.string ⟨⟨x12⟩⟩)) w11)))
set_option maxRecDepth 100000 in
theorem e_transcript_marked (l_1 : Option Addr) (l_1n : Nat) (l_1c : Nat) (R : Ending → World → Prop) (w : World) : fnV Tryd.prog Tryd.f28 an_transcript_marked [.slice l_1 l_1n l_1c] R w = sh_transcript_marked l_1 l_1n l_1c R w := by kernel_rfl
theorem c_transcript_marked {l_1 : Option Addr} {l_1n : Nat} {l_1c : Nat} {R : Ending → World → Prop} {w : World} (h : sh_transcript_marked l_1 l_1n l_1c R w) : Calls Tryd.prog F_transcript_marked ⟨[.slice l_1 l_1n l_1c]⟩ w R := calls_of_fnV Tryd.func28 (by rw [e_transcript_marked]; exact h)

def an_rewriting_right : Ann := .two (.leaf) (.two (.one (.cut 4088 [(3, .one (.bool))] (.leaf) (.two (.two (.leaf) (.leaf)) (.cut 8384512 [(12, .one (.bool))] (.leaf) (.two (.two (.leaf) (.leaf)) (.cut 17171480576 [(23, .one (.bool))] (.leaf) (.two (.two (.leaf) (.leaf)) (.two (.leaf) (.two (.two (.leaf) (.leaf)) (.leaf)))))))))) (.two (.leaf) (.leaf)))
def sh_rewriting_right (x_1 : List UInt8) (x_2 : List UInt8) (R : Ending → World → Prop) (w : World) : Prop :=
  al w 77 [.string ⟨⟨x_1⟩⟩, .string ⟨⟨x_2⟩⟩] fun p3 w4 =>
  ∀ (K5 : Bool → World → Prop), (∀ (t3_6 : Bool) (w7 : World), (∀ _ : Env, (br t3_6 (R (.returned (.int .i64 5)) w7) (∀ (K8 : Bool → World → Prop), (∀ (t12_9 : Bool) (w10 : World), (∀ _ : Env, (br t12_9 (R (.returned (.int .i64 4)) w10) (∀ (K11 : Bool → World → Prop), (∀ (t23_12 : Bool) (w13 : World), (∀ _ : Env, (br t23_12 (R (.returned (.int .i64 11)) w13) (∃ (x14 : List UInt8), World.cell? w13 (p3.add 1) = some (.string ⟨⟨x14⟩⟩) ∧ (∃ (x15 : List UInt8), World.cell? w13 (p3.add 0) = some (.string ⟨⟨x15⟩⟩) ∧ (br (decide ((((List.length x15 : Int)) : Int) < ((List.length x14 : Int)))) (R (.returned (.int .i64 24)) w13) (∃ (x16 : List UInt8), World.cell? w13 (p3.add 1) = some (.string ⟨⟨x16⟩⟩) ∧ (∃ (x17 : List UInt8), World.cell? w13 (p3.add 0) = some (.string ⟨⟨x17⟩⟩) ∧ (br (decide ((((List.length x16 : Int)) : Int) = ((List.length x17 : Int)))) (∃ (x18 : List UInt8), World.cell? w13 (p3.add 1) = some (.string ⟨⟨x18⟩⟩) ∧ (∃ (x19 : List UInt8), World.cell? w13 (p3.add 0) = some (.string ⟨⟨x19⟩⟩) ∧ (br (!(Op.bytesLess x18 x19)) (R (.returned (.int .i64 24)) w13) (R (.returned (.int .i64 0)) w13)))) (R (.returned (.int .i64 0)) w13))))))))) → K11 t23_12 w13) → (∃ (x20 : List UInt8), World.cell? w10 (p3.add 0) = some (.string ⟨⟨x20⟩⟩) ∧ (Calls Tryd.prog 52 ⟨[.string ⟨⟨x20⟩⟩]⟩ w10 fun (e21 : Ending) (w22 : World) =>
  ∃ (x23 : Bool), e21 = .returned (.bool x23) ∧ (br (!x23) (K11 true w22) (∃ (x24 : List UInt8), World.cell? w22 (p3.add 1) = some (.string ⟨⟨x24⟩⟩) ∧ (Calls Tryd.prog 52 ⟨[.string ⟨⟨x24⟩⟩]⟩ w22 fun (e25 : Ending) (w26 : World) =>
  ∃ (x27 : Bool), e25 = .returned (.bool x27) ∧ (K11 (!x27) w26))))))))) → K8 t12_9 w10) → (∃ (x28 : List UInt8), World.cell? w7 (p3.add 0) = some (.string ⟨⟨x28⟩⟩) ∧ (br (decide ((64 : Int) < ((List.length x28 : Int)))) (K8 true w7) (∃ (x29 : List UInt8), World.cell? w7 (p3.add 1) = some (.string ⟨⟨x29⟩⟩) ∧ (K8 (decide ((64 : Int) < ((List.length x29 : Int)))) w7))))))) → K5 t3_6 w7) → (∃ (x30 : List UInt8), World.cell? w4 (p3.add 0) = some (.string ⟨⟨x30⟩⟩) ∧ (br (decide ((x30 : List UInt8) = ([]))) (K5 true w4) (∃ (x31 : List UInt8), World.cell? w4 (p3.add 1) = some (.string ⟨⟨x31⟩⟩) ∧ (K5 (decide ((x31 : List UInt8) = ([]))) w4))))
set_option maxRecDepth 100000 in
theorem e_rewriting_right (x_1 : List UInt8) (x_2 : List UInt8) (R : Ending → World → Prop) (w : World) : fnV Tryd.prog Tryd.f29 an_rewriting_right [.agg ⟨[.string ⟨⟨x_1⟩⟩, .string ⟨⟨x_2⟩⟩]⟩] R w = sh_rewriting_right x_1 x_2 R w := by kernel_rfl
theorem c_rewriting_right {x_1 : List UInt8} {x_2 : List UInt8} {R : Ending → World → Prop} {w : World} (h : sh_rewriting_right x_1 x_2 R w) : Calls Tryd.prog F_rewriting_right ⟨[.agg ⟨[.string ⟨⟨x_1⟩⟩, .string ⟨⟨x_2⟩⟩]⟩]⟩ w R := calls_of_fnV Tryd.func29 (by rw [e_rewriting_right]; exact h)

def an_hands_resolved : Ann := .two (.leaf) (.two (.leaf) (.leaf))
def sh_hands_resolved (l_1 : Option Addr) (l_1n : Nat) (l_1c : Nat) (hand_2 : Int) (R : Ending → World → Prop) (w : World) : Prop :=
  al w 3 [.int .i64 hand_2] fun p3 w4 =>
  Calls Tryd.prog 53 ⟨[.slice l_1 l_1n l_1c, .func (.func 54) ⟨[]⟩ ⟨[.pointer (some p3)]⟩]⟩ w4 fun (e5 : Ending) (w6 : World) =>
  ∃ (x7 : Option Addr) (x7n : Nat) (x7c : Nat), e5 = .returned (.slice x7 x7n x7c) ∧ (R (.returned (.slice x7 x7n x7c)) w6)
set_option maxRecDepth 100000 in
theorem e_hands_resolved (l_1 : Option Addr) (l_1n : Nat) (l_1c : Nat) (hand_2 : Int) (R : Ending → World → Prop) (w : World) : fnV Tryd.prog Tryd.f30 an_hands_resolved [.slice l_1 l_1n l_1c, .int .i64 hand_2] R w = sh_hands_resolved l_1 l_1n l_1c hand_2 R w := by kernel_rfl
theorem c_hands_resolved {l_1 : Option Addr} {l_1n : Nat} {l_1c : Nat} {hand_2 : Int} {R : Ending → World → Prop} {w : World} (h : sh_hands_resolved l_1 l_1n l_1c hand_2 R w) : Calls Tryd.prog F_hands_resolved ⟨[.slice l_1 l_1n l_1c, .int .i64 hand_2]⟩ w R := calls_of_fnV Tryd.func30 (by rw [e_hands_resolved]; exact h)

def an_charset_Check : Ann := .two (.leaf) (.two (.two (.leaf) (.two (.two (.leaf) (.leaf)) (.leaf))) (.two (.two (.leaf) (.one (.rf [2, 10] 0))) (.two (.leaf) (.leaf))))
def sh_charset_Check (s_1 : List UInt8) (R : Ending → World → Prop) (w : World) : Prop :=
  al w 27 [.int .i64 0] fun p2 w3 =>
  br (decide ((65536 : Int) < ((List.length s_1 : Int)))) (stL w3 p2 0 [.int .i64 4] fun w4 =>
  ∃ (x5 : Int), World.cell? w4 p2 = some (.int .i64 x5) ∧ (R (.returned (.int .i64 x5)) w4)) (Calls Tryd.prog 56 ⟨[.string ⟨⟨s_1⟩⟩]⟩ w3 fun (e6 : Ending) (w7 : World) =>
  ∃ (x8 : Fn) (x8a : Array Value) (x8b : Array Value), e6 = .returned (.func x8 x8a x8b) ∧ (∀ base9 : Env, RFw Tryd.prog none 22 (cdAt Tryd.f31 [1, 1, 0, 1, 2]) (upd (upd base9 10 (.func x8 x8a x8b)) 2 (.pointer (some p2))) [] w7 0 (fun ds10 w11 =>
  stL w11 p2 0 [.int .i64 0] fun w15 =>
  retD ds10 w15 fun w16 =>
  ∃ (x17 : Int), World.cell? w16 p2 = some (.int .i64 x17) ∧ (R (.returned (.int .i64 x17)) w16)) (fun ds10 w11 =>
  retD ds10 w11 fun w18 =>
  ∃ (x19 : Int), World.cell? w18 p2 = some (.int .i64 x19) ∧ (R (.returned (.int .i64 x19)) w18)) (fun ds10 w11 =>
  stL w11 p2 0 [.int .i64 0] fun w12 =>
  retD ds10 w12 fun w13 =>
  ∃ (x14 : Int), World.cell? w13 p2 = some (.int .i64 x14) ∧ (R (.returned (.int .i64 x14)) w13))))
set_option maxRecDepth 100000 in
theorem e_charset_Check (s_1 : List UInt8) (R : Ending → World → Prop) (w : World) : fnV Tryd.prog Tryd.f31 an_charset_Check [.string ⟨⟨s_1⟩⟩] R w = sh_charset_Check s_1 R w := by kernel_rfl
theorem c_charset_Check {s_1 : List UInt8} {R : Ending → World → Prop} {w : World} (h : sh_charset_Check s_1 R w) : Calls Tryd.prog F_charset_Check ⟨[.string ⟨⟨s_1⟩⟩]⟩ w R := calls_of_fnV Tryd.func31 (by rw [e_charset_Check]; exact h)
def anA_charset_Check_1 : Ann := .leaf
def anB_charset_Check_1 : Ann := .one (.two (.leaf) (.two (.leaf) (.two (.two (.leaf) (.leaf)) (.leaf))))
def rf_charset_Check_1 (t2_20 : Option Addr) (t10_21 : Fn) (t10_21a : Array Value) (t10_21b : Array Value) (t11_22 : Value) (t12_23 : List UInt8) (l : Nat) (Kn Kr Kx : World → World → Prop) (w : World) : Prop :=
  Ext w w ∧ ∀ w24 : World, Upd l w w24 → (sidx t12_23 0 fun b25 =>
  Calls Tryd.prog 57 ⟨[.int .u8 ((b25.toNat : Int))]⟩ w24 fun (e26 : Ending) (w27 : World) =>
  ∃ (x28 : Int), e26 = .returned (.int .i64 x28) ∧ (br (decide ((x28 : Int) = 0)) (dr t2_20 fun p30 =>
  stL w27 p30 0 [.int .i64 11] fun w29 =>
  Kr w24 w29) (br (decide ((x28 : Int) = 2)) (dr t2_20 fun p32 =>
  stL w27 p32 0 [.int .i64 11] fun w31 =>
  Kr w24 w31) (Kn w24 w27))))
set_option maxRecDepth 100000 in
theorem er_charset_Check_1 (base : Env) (t2_20 : Option Addr) (t10_21 : Fn) (t10_21a : Array Value) (t10_21b : Array Value) (t11_22 : Value) (t12_23 : List UInt8) (l : Nat) (Kn Kr Kx : World → World → Prop) (w : World) : fragV Tryd.prog 22 anA_charset_Check_1 anB_charset_Check_1 (cdAt Tryd.f31 [1, 1, 0, 1, 2, 5]) (cdAt Tryd.f31 [1, 1, 0, 1, 2, 6]) l 0 Kn Kr Kx (updPs [11, 12] [t11_22, .string ⟨⟨t12_23⟩⟩] (upd (upd base 10 (.func t10_21 t10_21a t10_21b)) 2 (.pointer t2_20))) w = rf_charset_Check_1 t2_20 t10_21 t10_21a t10_21b t11_22 t12_23 l Kn Kr Kx w := by kernel_rfl
theorem cd_charset_Check_1 : cdAt Tryd.f31 [1, 1, 0, 1, 2] = .rangeFunc (Operand.tmp 10) #[11, 12] (cdAt Tryd.f31 [1, 1, 0, 1, 2, 5]) (cdAt Tryd.f31 [1, 1, 0, 1, 2, 6]) := by kernel_rfl

def an_tokenizer_Words : Ann := .two (.leaf) (.two (.leaf) (.two (.two (.leaf) (.one (.loop 261928 [(3, .one (.slice)), (8, .one (.int .i64))] (.two (.leaf) (.two (.two (.leaf) (.leaf)) (.two (.one (.two (.leaf) (.leaf))) (.leaf))))))) (.two (.leaf) (.leaf))))
def sh_tokenizer_Words (l_1 : Option Addr) (l_1n : Nat) (l_1c : Nat) (R : Ending → World → Prop) (w : World) : Prop :=
  ∃ (I2 : Option Addr → Nat → Nat → Int → World → Nat → Prop), (∃ m7 : Nat, I2 none 0 0 0 w m7) ∧ ∀ (out_3 : Option Addr) (out_3n : Nat) (out_3c : Nat) (t8_4 : Int) (w5 : World) (m6 : Nat), I2 out_3 out_3n out_3c t8_4 w5 m6 → ∀ _ : Env, (br (decide ((t8_4 : Int) < ((l_1n : Int)))) (idx l_1 l_1n t8_4 6 fun p8 =>
  ∃ (x9 : List UInt8), World.cell? w5 (p8.add 0) = some (.string ⟨⟨x9⟩⟩) ∧ (∃ (x10 : List UInt8), World.cell? w5 (p8.add 1) = some (.string ⟨⟨x10⟩⟩) ∧ (∃ (x11 : List UInt8), World.cell? w5 (p8.add 2) = some (.string ⟨⟨x11⟩⟩) ∧ (∃ (x12 : Int), World.cell? w5 (p8.add 3) = some (.int .i64 x12) ∧ (∃ (x13 : Int), World.cell? w5 (p8.add 4) = some (.int .i64 x13) ∧ (∃ (x14 : List UInt8), World.cell? w5 (p8.add 5) = some (.string ⟨⟨x14⟩⟩) ∧ (al w5 35 [.string ⟨⟨[]⟩⟩, .string ⟨⟨[]⟩⟩, .string ⟨⟨[]⟩⟩, .int .i64 0, .int .i64 0, .string ⟨⟨[]⟩⟩] fun p15 w16 =>
  stL w16 p15 0 [.string ⟨⟨x9⟩⟩, .string ⟨⟨x10⟩⟩, .string ⟨⟨x11⟩⟩, .int .i64 x12, .int .i64 x13, .string ⟨⟨x14⟩⟩] fun w17 =>
  ∃ (x18 : List UInt8), World.cell? w17 (p15.add 0) = some (.string ⟨⟨x18⟩⟩) ∧ (al w17 9 [.string ⟨⟨x18⟩⟩] fun p19 w20 =>
  app Tryd.prog [46, 46] 46 (.slice out_3 out_3n out_3c) (.slice (some p19) 1 1) w20 fun a21 a21n a21c w22 =>
  ∃ m23 : Nat, m23 < m6 ∧ I2 a21 a21n a21c (IntKind.i64.wrap (t8_4 + 1)) w22 m23)))))))) (R (.returned (.slice out_3 out_3n out_3c)) w5))
set_option maxRecDepth 100000 in
theorem e_tokenizer_Words (l_1 : Option Addr) (l_1n : Nat) (l_1c : Nat) (R : Ending → World → Prop) (w : World) : fnV Tryd.prog Tryd.f32 an_tokenizer_Words [.slice l_1 l_1n l_1c] R w = sh_tokenizer_Words l_1 l_1n l_1c R w := by kernel_rfl
theorem c_tokenizer_Words {l_1 : Option Addr} {l_1n : Nat} {l_1c : Nat} {R : Ending → World → Prop} {w : World} (h : sh_tokenizer_Words l_1 l_1n l_1c R w) : Calls Tryd.prog F_tokenizer_Words ⟨[.slice l_1 l_1n l_1c]⟩ w R := calls_of_fnV Tryd.func32 (by rw [e_tokenizer_Words]; exact h)

def an_transcript_places_1 : Ann := .two (.leaf) (.two (.leaf) (.two (.leaf) (.leaf)))
def sh_transcript_places_1 (yield_1 : Fn) (yield_1a : Array Value) (yield_1b : Array Value) (t1_2 : Option Addr) (R : Ending → World → Prop) (w : World) : Prop :=
  al w 82 [.func yield_1 yield_1a yield_1b] fun p3 w4 =>
  al w4 72 [.nilFunc] fun p5 w6 =>
  stL w6 p5 0 [.func (.func 34) ⟨[]⟩ ⟨[.pointer (some p3), .pointer (some p5)]⟩] fun w7 =>
  ∃ (x8 : Fn) (x8a : Array Value) (x8b : Array Value), World.cell? w7 p5 = some (.func x8 x8a x8b) ∧ (dr t1_2 fun p9 =>
  ∃ (x10 : Option Addr) (x10n : Nat) (x10c : Nat), World.cell? w7 p9 = some (.slice x10 x10n x10c) ∧ (CallV Tryd.prog (.func x8 x8a x8b) [.slice x10 x10n x10c, .int .i64 0] w7 fun (e11 : Ending) (w12 : World) =>
  ∃ (x13 : Bool), e11 = .returned (.bool x13) ∧ (R (.returned (.tuple ⟨[]⟩)) w12)))
set_option maxRecDepth 100000 in
theorem e_transcript_places_1 (yield_1 : Fn) (yield_1a : Array Value) (yield_1b : Array Value) (t1_2 : Option Addr) (R : Ending → World → Prop) (w : World) : fnV Tryd.prog Tryd.f33 an_transcript_places_1 [.func yield_1 yield_1a yield_1b, .pointer t1_2] R w = sh_transcript_places_1 yield_1 yield_1a yield_1b t1_2 R w := by kernel_rfl
theorem c_transcript_places_1 {yield_1 : Fn} {yield_1a : Array Value} {yield_1b : Array Value} {t1_2 : Option Addr} {R : Ending → World → Prop} {w : World} (h : sh_transcript_places_1 yield_1 yield_1a yield_1b t1_2 R w) : Calls Tryd.prog F_transcript_places_1 ⟨[.func yield_1 yield_1a yield_1b, .pointer t1_2]⟩ w R := calls_of_fnV Tryd.func33 (by rw [e_transcript_places_1]; exact h)

end Go.Proofs
