/- Written by program: for each function its verification condition, that it is the code's (by the kernel), and that it gives the call. -/
import Derived.Test.YtcnlbobkjeiakaaGreatDoorFn
namespace Go.Proofs
open Go Go.Sh
def an_law12_LegibilityChanges : Ann := .two (.leaf) (.cut 562949945033728 [] (.two (.leaf) (.two (.two (.leaf) (.leaf)) (.leaf))) (.two (.leaf) (.two (.leaf) (.two (.leaf) (.two (.leaf) (.cut 9903510869550076459902567424 [] (.two (.leaf) (.two (.two (.leaf) (.leaf)) (.leaf))) (.two (.leaf) (.two (.leaf) (.two (.leaf) (.two (.leaf) (.two (.leaf) (.leaf))))))))))))
def sh_law12_LegibilityChanges (l_1 : Option Addr) (l_1n : Nat) (l_1c : Nat) (words_2 : Option Addr) (words_2n : Nat) (words_2c : Nat) (pairs_3 : Option Addr) (pairs_3n : Nat) (pairs_3c : Nat) (p_4 : List UInt8) (w_5 : List UInt8) (R : Ending → World → Prop) (w : World) : Prop :=
  ∀ (K6 : World → Prop), (∀  (w7 : World), (∀ _ : Env, (Calls Tryz.prog 9 ⟨[.slice l_1 l_1n l_1c, .slice words_2 words_2n words_2c]⟩ w7 fun (e8 : Ending) (w9 : World) =>
  ∃ (x10 : Option Addr) (x10n : Nat) (x10c : Nat) (x11 : Int), e8 = .returned (.tuple ⟨[.slice x10 x10n x10c, .int .i64 x11]⟩) ∧ (Calls Tryz.prog 10 ⟨[.slice l_1 l_1n l_1c, .slice words_2 words_2n words_2c]⟩ w9 fun (e12 : Ending) (w13 : World) =>
  ∃ (x14 : Option Addr) (x14n : Nat) (x14c : Nat) (x15 : Int), e12 = .returned (.tuple ⟨[.slice x14 x14n x14c, .int .i64 x15]⟩) ∧ (Calls Tryz.prog 11 ⟨[.slice l_1 l_1n l_1c, .slice pairs_3 pairs_3n pairs_3c]⟩ w13 fun (e16 : Ending) (w17 : World) =>
  ∃ (x18 : Option Addr) (x18n : Nat) (x18c : Nat) (x19 : Int), e16 = .returned (.tuple ⟨[.slice x18 x18n x18c, .int .i64 x19]⟩) ∧ (Calls Tryz.prog 12 ⟨[.slice l_1 l_1n l_1c, .slice pairs_3 pairs_3n pairs_3c]⟩ w17 fun (e20 : Ending) (w21 : World) =>
  ∃ (x22 : Option Addr) (x22n : Nat) (x22c : Nat) (x23 : Int), e20 = .returned (.tuple ⟨[.slice x22 x22n x22c, .int .i64 x23]⟩) ∧ (∀ (K24 : World → Prop), (∀  (w25 : World), (∀ _ : Env, (Calls Tryz.prog 14 ⟨[.slice pairs_3 pairs_3n pairs_3c]⟩ w25 fun (e26 : Ending) (w27 : World) =>
  ∃ (x28 : Option Addr) (x28n : Nat) (x28c : Nat) (x29 : Int), e26 = .returned (.tuple ⟨[.slice x28 x28n x28c, .int .i64 x29]⟩) ∧ (Calls Tryz.prog 15 ⟨[.slice pairs_3 pairs_3n pairs_3c]⟩ w27 fun (e30 : Ending) (w31 : World) =>
  ∃ (x32 : Option Addr) (x32n : Nat) (x32c : Nat) (x33 : Int), e30 = .returned (.tuple ⟨[.slice x32 x32n x32c, .int .i64 x33]⟩) ∧ (Calls Tryz.prog 16 ⟨[.string ⟨⟨p_4⟩⟩, .string ⟨⟨w_5⟩⟩]⟩ w31 fun (e34 : Ending) (w35 : World) =>
  ∃ (x36 : Bool) (x37 : Int), e34 = .returned (.tuple ⟨[.bool x36, .int .i64 x37]⟩) ∧ (Calls Tryz.prog 17 ⟨[.string ⟨⟨p_4⟩⟩, .string ⟨⟨w_5⟩⟩]⟩ w35 fun (e38 : Ending) (w39 : World) =>
  ∃ (x40 : Bool) (x41 : Int), e38 = .returned (.tuple ⟨[.bool x40, .int .i64 x41]⟩) ∧ (Calls Tryz.prog 18 ⟨[.slice x28 x28n x28c, .slice x32 x32n x32c]⟩ w39 fun (e42 : Ending) (w43 : World) =>
  ∃ (x44 : Bool), e42 = .returned (.bool x44) ∧ (br x44 (br (decide ((x29 : Int) = x33)) (br (decide ((x36 : Bool) = x40)) (br (decide ((x37 : Int) = x41)) (Calls Tryz.prog 8 ⟨[]⟩ w43 fun (e45 : Ending) (w46 : World) =>
  ∃ (x47 : Bool), e45 = .returned (.bool x47) ∧ (R (.returned (.bool x47)) w46)) (R (.returned (.bool false)) w43)) (R (.returned (.bool false)) w43)) (R (.returned (.bool false)) w43)) (R (.returned (.bool false)) w43)))))))) → K24 w25) → (Calls Tryz.prog 13 ⟨[.slice x10 x10n x10c, .slice x14 x14n x14c]⟩ w21 fun (e48 : Ending) (w49 : World) =>
  ∃ (x50 : Bool), e48 = .returned (.bool x50) ∧ (br (!x50) (R (.returned (.bool false)) w49) (br (decide ((x11 : Int) ≠ x15)) (R (.returned (.bool false)) w49) (Calls Tryz.prog 13 ⟨[.slice x18 x18n x18c, .slice x22 x22n x22c]⟩ w49 fun (e51 : Ending) (w52 : World) =>
  ∃ (x53 : Bool), e51 = .returned (.bool x53) ∧ (br (!x53) (R (.returned (.bool false)) w52) (br (decide ((x19 : Int) ≠ x23)) (R (.returned (.bool false)) w52) (K24 w52))))))))))))) → K6 w7) → (Calls Tryz.prog 4 ⟨[.slice l_1 l_1n l_1c]⟩ w fun (e54 : Ending) (w55 : World) =>
  ∃ (x56 : Bool), e54 = .returned (.bool x56) ∧ (br x56 (Calls Tryz.prog 8 ⟨[]⟩ w55 fun (e57 : Ending) (w58 : World) =>
  ∃ (x59 : Bool), e57 = .returned (.bool x59) ∧ (R (.returned (.bool x59)) w58)) (Calls Tryz.prog 5 ⟨[.slice pairs_3 pairs_3n pairs_3c]⟩ w55 fun (e60 : Ending) (w61 : World) =>
  ∃ (x62 : Bool), e60 = .returned (.bool x62) ∧ (br x62 (Calls Tryz.prog 8 ⟨[]⟩ w61 fun (e63 : Ending) (w64 : World) =>
  ∃ (x65 : Bool), e63 = .returned (.bool x65) ∧ (R (.returned (.bool x65)) w64)) (br (decide ((8 : Int) < ((words_2n : Int)))) (Calls Tryz.prog 8 ⟨[]⟩ w61 fun (e66 : Ending) (w67 : World) =>
  ∃ (x68 : Bool), e66 = .returned (.bool x68) ∧ (R (.returned (.bool x68)) w67)) (Calls Tryz.prog 6 ⟨[.slice words_2 words_2n words_2c, .func (.func 7) #[] #[]]⟩ w61 fun (e69 : Ending) (w70 : World) =>
  ∃ (x71 : Bool), e69 = .returned (.bool x71) ∧ (br x71 (Calls Tryz.prog 8 ⟨[]⟩ w70 fun (e72 : Ending) (w73 : World) =>
  ∃ (x74 : Bool), e72 = .returned (.bool x74) ∧ (R (.returned (.bool x74)) w73)) (br (decide ((100 : Int) < ((List.length p_4 : Int)))) (Calls Tryz.prog 8 ⟨[]⟩ w70 fun (e75 : Ending) (w76 : World) =>
  ∃ (x77 : Bool), e75 = .returned (.bool x77) ∧ (R (.returned (.bool x77)) w76)) (br (decide ((100 : Int) < ((List.length w_5 : Int)))) (Calls Tryz.prog 8 ⟨[]⟩ w70 fun (e78 : Ending) (w79 : World) =>
  ∃ (x80 : Bool), e78 = .returned (.bool x80) ∧ (R (.returned (.bool x80)) w79)) (K6 w70))))))))))
set_option maxRecDepth 100000 in
theorem e_law12_LegibilityChanges (l_1 : Option Addr) (l_1n : Nat) (l_1c : Nat) (words_2 : Option Addr) (words_2n : Nat) (words_2c : Nat) (pairs_3 : Option Addr) (pairs_3n : Nat) (pairs_3c : Nat) (p_4 : List UInt8) (w_5 : List UInt8) (R : Ending → World → Prop) (w : World) : fnV Tryz.prog Tryz.f3 an_law12_LegibilityChanges [.slice l_1 l_1n l_1c, .slice words_2 words_2n words_2c, .slice pairs_3 pairs_3n pairs_3c, .string ⟨⟨p_4⟩⟩, .string ⟨⟨w_5⟩⟩] R w = sh_law12_LegibilityChanges l_1 l_1n l_1c words_2 words_2n words_2c pairs_3 pairs_3n pairs_3c p_4 w_5 R w := by kernel_rfl
theorem c_law12_LegibilityChanges {l_1 : Option Addr} {l_1n : Nat} {l_1c : Nat} {words_2 : Option Addr} {words_2n : Nat} {words_2c : Nat} {pairs_3 : Option Addr} {pairs_3n : Nat} {pairs_3c : Nat} {p_4 : List UInt8} {w_5 : List UInt8} {R : Ending → World → Prop} {w : World} (h : sh_law12_LegibilityChanges l_1 l_1n l_1c words_2 words_2n words_2c pairs_3 pairs_3n pairs_3c p_4 w_5 R w) : Calls Tryz.prog F_law12_LegibilityChanges ⟨[.slice l_1 l_1n l_1c, .slice words_2 words_2n words_2c, .slice pairs_3 pairs_3n pairs_3c, .string ⟨⟨p_4⟩⟩, .string ⟨⟨w_5⟩⟩]⟩ w R := calls_of_fnV Tryz.func3 (by rw [e_law12_LegibilityChanges]; exact h)

def an_ref10_Great : Ann := .two (.leaf) (.two (.cut 32640 [(14, .one (.bool))] (.leaf) (.two (.two (.leaf) (.two (.leaf) (.leaf))) (.leaf))) (.two (.two (.leaf) (.one (.loop 1099377410116 [(6, .one (.int .i64))] (.two (.two (.leaf) (.two (.leaf) (.leaf))) (.two (.one (.two (.leaf) (.two (.two (.leaf) (.leaf)) (.leaf)))) (.leaf)))))) (.two (.leaf) (.leaf))))
def sh_ref10_Great (l_1 : Option Addr) (l_1n : Nat) (l_1c : Nat) (R : Ending → World → Prop) (w : World) : Prop :=
  ∀ (K2 : Bool → World → Prop), (∀ (t14_3 : Bool) (w4 : World), (∀ _ : Env, (br t14_3 (Calls Tryz.prog 19 ⟨[.slice l_1 l_1n l_1c, .int .i64 20, .int .i64 40]⟩ w4 fun (e5 : Ending) (w6 : World) =>
  ∃ (x7 : Int) (x8 : Int) (x9 : Bool), e5 = .returned (.tuple ⟨[.int .i64 x7, .int .i64 x8, .bool x9]⟩) ∧ (br (!x9) (R (.returned (.bool true)) w6) (Calls Tryz.prog 20 ⟨[.slice l_1 l_1n l_1c, .int .i64 20]⟩ w6 fun (e10 : Ending) (w11 : World) =>
  ∃ (x12 : Bool), e10 = .returned (.bool x12) ∧ (R (.returned (.bool x12)) w11)))) (∃ (I13 : Int → World → Nat → Prop), (∃ m17 : Nat, I13 0 w4 m17) ∧ ∀ (i_14 : Int) (w15 : World) (m16 : Nat), I13 i_14 w15 m16 → ∀ _ : Env, (br (decide ((i_14 : Int) < ((l_1n : Int)))) (idx l_1 l_1n i_14 4 fun p18 =>
  ∃ (x19 : Option Addr) (x19n : Nat) (x19c : Nat), World.cell? w15 (p18.add 3) = some (.slice x19 x19n x19c) ∧ (br (decide ((0 : Int) < ((x19n : Int)))) (R (.returned (.bool true)) w15) (∃ m20 : Nat, m20 < m16 ∧ I13 (IntKind.i64.wrap (i_14 + 1)) w15 m20))) (Calls Tryz.prog 20 ⟨[.slice l_1 l_1n l_1c, .int .i64 20]⟩ w15 fun (e21 : Ending) (w22 : World) =>
  ∃ (x23 : Bool), e21 = .returned (.bool x23) ∧ (R (.returned (.bool x23)) w22)))))) → K2 t14_3 w4) → (br (decide ((((l_1n : Int)) : Int) ≤ 4096)) (K2 true w) (K2 (decide ((4100 : Int) < ((l_1n : Int)))) w))
set_option maxRecDepth 100000 in
theorem e_ref10_Great (l_1 : Option Addr) (l_1n : Nat) (l_1c : Nat) (R : Ending → World → Prop) (w : World) : fnV Tryz.prog Tryz.f4 an_ref10_Great [.slice l_1 l_1n l_1c] R w = sh_ref10_Great l_1 l_1n l_1c R w := by kernel_rfl
theorem c_ref10_Great {l_1 : Option Addr} {l_1n : Nat} {l_1c : Nat} {R : Ending → World → Prop} {w : World} (h : sh_ref10_Great l_1 l_1n l_1c R w) : Calls Tryz.prog F_ref10_Great ⟨[.slice l_1 l_1n l_1c]⟩ w R := calls_of_fnV Tryz.func4 (by rw [e_ref10_Great]; exact h)

def an_ref12_GreatRewrites : Ann := .two (.leaf) (.two (.two (.leaf) (.two (.two (.leaf) (.leaf)) (.leaf))) (.two (.two (.leaf) (.one (.loop 140737488355212 [(3, .one (.int .i64))] (.two (.two (.leaf) (.two (.leaf) (.leaf))) (.two (.one (.two (.leaf) (.two (.two (.leaf) (.leaf)) (.leaf)))) (.leaf)))))) (.two (.leaf) (.leaf))))
def sh_ref12_GreatRewrites (l_1 : Option Addr) (l_1n : Nat) (l_1c : Nat) (R : Ending → World → Prop) (w : World) : Prop :=
  br (decide ((4099 : Int) < ((l_1n : Int)))) (R (.returned (.bool true)) w) (∃ (I2 : Int → World → Nat → Prop), (∃ m6 : Nat, I2 0 w m6) ∧ ∀ (i_3 : Int) (w4 : World) (m5 : Nat), I2 i_3 w4 m5 → ∀ _ : Env, (br (decide ((i_3 : Int) < ((l_1n : Int)))) (idx l_1 l_1n i_3 2 fun p7 =>
  ∃ (x8 : List UInt8), World.cell? w4 (p7.add 0) = some (.string ⟨⟨x8⟩⟩) ∧ (br (decide ((30 : Int) < ((List.length x8 : Int)))) (R (.returned (.bool true)) w4) (idx l_1 l_1n i_3 2 fun p9 =>
  ∃ (x10 : List UInt8), World.cell? w4 (p9.add 1) = some (.string ⟨⟨x10⟩⟩) ∧ (br (decide ((30 : Int) < ((List.length x10 : Int)))) (R (.returned (.bool true)) w4) (br (decide ((8 : Int) < ((l_1n : Int)))) (br (decide ((((l_1n : Int)) : Int) ≤ 4096)) (R (.returned (.bool true)) w4) (idx l_1 l_1n i_3 2 fun p11 =>
  ∃ (x12 : List UInt8), World.cell? w4 (p11.add 0) = some (.string ⟨⟨x12⟩⟩) ∧ (∃ (x13 : List UInt8), World.cell? w4 (p11.add 1) = some (.string ⟨⟨x13⟩⟩) ∧ (br (!(decide ((x12 : List UInt8) = ([])) && (decide ((x13 : List UInt8) = ([])) && true))) (R (.returned (.bool true)) w4) (∃ m14 : Nat, m14 < m5 ∧ I2 (IntKind.i64.wrap (i_3 + 1)) w4 m14))))) (∃ m15 : Nat, m15 < m5 ∧ I2 (IntKind.i64.wrap (i_3 + 1)) w4 m15)))))) (R (.returned (.bool false)) w4)))
set_option maxRecDepth 100000 in
theorem e_ref12_GreatRewrites (l_1 : Option Addr) (l_1n : Nat) (l_1c : Nat) (R : Ending → World → Prop) (w : World) : fnV Tryz.prog Tryz.f5 an_ref12_GreatRewrites [.slice l_1 l_1n l_1c] R w = sh_ref12_GreatRewrites l_1 l_1n l_1c R w := by kernel_rfl
theorem c_ref12_GreatRewrites {l_1 : Option Addr} {l_1n : Nat} {l_1c : Nat} {R : Ending → World → Prop} {w : World} (h : sh_ref12_GreatRewrites l_1 l_1n l_1c R w) : Calls Tryz.prog F_ref12_GreatRewrites ⟨[.slice l_1 l_1n l_1c]⟩ w R := calls_of_fnV Tryz.func5 (by rw [e_ref12_GreatRewrites]; exact h)

def an_slices_ContainsFunc_of_string_string : Ann := .two (.leaf) (.two (.leaf) (.leaf))
def sh_slices_ContainsFunc_of_string_string (s_1 : Option Addr) (s_1n : Nat) (s_1c : Nat) (f_2 : Fn) (f_2a : Array Value) (f_2b : Array Value) (R : Ending → World → Prop) (w : World) : Prop :=
  Calls Tryz.prog 21 ⟨[.slice s_1 s_1n s_1c, .func f_2 f_2a f_2b]⟩ w fun (e3 : Ending) (w4 : World) =>
  ∃ (x5 : Int), e3 = .returned (.int .i64 x5) ∧ (R (.returned (.bool (decide ((0 : Int) ≤ x5)))) w4)
set_option maxRecDepth 100000 in
theorem e_slices_ContainsFunc_of_string_string (s_1 : Option Addr) (s_1n : Nat) (s_1c : Nat) (f_2 : Fn) (f_2a : Array Value) (f_2b : Array Value) (R : Ending → World → Prop) (w : World) : fnV Tryz.prog Tryz.f6 an_slices_ContainsFunc_of_string_string [.slice s_1 s_1n s_1c, .func f_2 f_2a f_2b] R w = sh_slices_ContainsFunc_of_string_string s_1 s_1n s_1c f_2 f_2a f_2b R w := by kernel_rfl
theorem c_slices_ContainsFunc_of_string_string {s_1 : Option Addr} {s_1n : Nat} {s_1c : Nat} {f_2 : Fn} {f_2a : Array Value} {f_2b : Array Value} {R : Ending → World → Prop} {w : World} (h : sh_slices_ContainsFunc_of_string_string s_1 s_1n s_1c f_2 f_2a f_2b R w) : Calls Tryz.prog F_slices_ContainsFunc_of_string_string ⟨[.slice s_1 s_1n s_1c, .func f_2 f_2a f_2b]⟩ w R := calls_of_fnV Tryz.func6 (by rw [e_slices_ContainsFunc_of_string_string]; exact h)

def an_law12_LegibilityChanges_1 : Ann := .two (.leaf) (.two (.leaf) (.leaf))
def sh_law12_LegibilityChanges_1 (s_1 : List UInt8) (R : Ending → World → Prop) (w : World) : Prop :=
  R (.returned (.bool (decide ((70 : Int) < ((List.length s_1 : Int)))))) w
set_option maxRecDepth 100000 in
theorem e_law12_LegibilityChanges_1 (s_1 : List UInt8) (R : Ending → World → Prop) (w : World) : fnV Tryz.prog Tryz.f7 an_law12_LegibilityChanges_1 [.string ⟨⟨s_1⟩⟩] R w = sh_law12_LegibilityChanges_1 s_1 R w := by kernel_rfl
theorem c_law12_LegibilityChanges_1 {s_1 : List UInt8} {R : Ending → World → Prop} {w : World} (h : sh_law12_LegibilityChanges_1 s_1 R w) : Calls Tryz.prog F_law12_LegibilityChanges_1 ⟨[.string ⟨⟨s_1⟩⟩]⟩ w R := calls_of_fnV Tryz.func7 (by rw [e_law12_LegibilityChanges_1]; exact h)

def an_law12_awake : Ann := .two (.leaf) (.two (.leaf) (.two (.leaf) (.two (.leaf) (.two (.leaf) (.two (.leaf) (.leaf))))))
def sh_law12_awake  (R : Ending → World → Prop) (w : World) : Prop :=
  Calls Tryz.prog 23 ⟨[]⟩ w fun (e1 : Ending) (w2 : World) =>
  ∃ (x3 : Option Addr) (x3n : Nat) (x3c : Nat), e1 = .returned (.slice x3 x3n x3c) ∧ (Calls Tryz.prog 22 ⟨[.slice x3 x3n x3c]⟩ w2 fun (e4 : Ending) (w5 : World) =>
  ∃ (x6 : List UInt8) (x7 : Int), e4 = .returned (.tuple ⟨[.string ⟨⟨x6⟩⟩, .int .i64 x7]⟩) ∧ (Calls Tryz.prog 23 ⟨[]⟩ w5 fun (e8 : Ending) (w9 : World) =>
  ∃ (x10 : Option Addr) (x10n : Nat) (x10c : Nat), e8 = .returned (.slice x10 x10n x10c) ∧ (Calls Tryz.prog 24 ⟨[.slice x10 x10n x10c]⟩ w9 fun (e11 : Ending) (w12 : World) =>
  ∃ (x13 : List UInt8) (x14 : Int), e11 = .returned (.tuple ⟨[.string ⟨⟨x13⟩⟩, .int .i64 x14]⟩) ∧ (Calls Tryz.prog 23 ⟨[]⟩ w12 fun (e15 : Ending) (w16 : World) =>
  ∃ (x17 : Option Addr) (x17n : Nat) (x17c : Nat), e15 = .returned (.slice x17 x17n x17c) ∧ (Calls Tryz.prog 25 ⟨[.slice x17 x17n x17c]⟩ w16 fun (e18 : Ending) (w19 : World) =>
  ∃ (x20 : Option Addr) (x20n : Nat) (x20c : Nat) (x21 : Int), e18 = .returned (.tuple ⟨[.slice x20 x20n x20c, .int .i64 x21]⟩) ∧ (Calls Tryz.prog 16 ⟨[.string ⟨⟨[100, 111, 109, 105, 110, 117, 115, 95, 95]⟩⟩, .string ⟨⟨[100, 111, 109, 105, 110, 117, 115, 109, 101]⟩⟩]⟩ w19 fun (e22 : Ending) (w23 : World) =>
  ∃ (x24 : Bool) (x25 : Int), e22 = .returned (.tuple ⟨[.bool x24, .int .i64 x25]⟩) ∧ (br (decide ((((max (max (max x7 x14) x21) x25)) : Int) = 0)) (br (decide ((x6 : List UInt8) = ([100, 111, 109, 105, 110, 117, 115, 95, 95]))) (br (decide ((x13 : List UInt8) = ([100, 110, 115, 95, 95]))) (al w23 47 [.string ⟨⟨[110, 115]⟩⟩, .string ⟨⟨[111, 109, 105, 110, 117, 115]⟩⟩] fun p26 w27 =>
  Calls Tryz.prog 26 ⟨[.slice x20 x20n x20c, .slice (some p26) 1 1]⟩ w27 fun (e28 : Ending) (w29 : World) =>
  ∃ (x30 : Bool), e28 = .returned (.bool x30) ∧ (br x30 (R (.returned (.bool x24)) w29) (R (.returned (.bool false)) w29))) (R (.returned (.bool false)) w23)) (R (.returned (.bool false)) w23)) (R (.returned (.bool false)) w23))))))))
set_option maxRecDepth 100000 in
theorem e_law12_awake  (R : Ending → World → Prop) (w : World) : fnV Tryz.prog Tryz.f8 an_law12_awake [] R w = sh_law12_awake  R w := by kernel_rfl
theorem c_law12_awake  {R : Ending → World → Prop} {w : World} (h : sh_law12_awake  R w) : Calls Tryz.prog F_law12_awake ⟨[]⟩ w R := calls_of_fnV Tryz.func8 (by rw [e_law12_awake]; exact h)

def an_legibility_Supply : Ann := .two (.leaf) (.two (.two (.leaf) (.two (.leaf) (.two (.two (.leaf) (.leaf)) (.leaf)))) (.two (.leaf) (.two (.leaf) (.two (.leaf) (.two (.leaf) (.cut 534773808 [] (.two (.leaf) (.two (.two (.leaf) (.leaf)) (.leaf))) (.two (.leaf) (.two (.two (.leaf) (.two (.leaf) (.two (.two (.leaf) (.leaf)) (.leaf)))) (.two (.leaf) (.leaf))))))))))
def sh_legibility_Supply (l_1 : Option Addr) (l_1n : Nat) (l_1c : Nat) (words_2 : Option Addr) (words_2n : Nat) (words_2c : Nat) (R : Ending → World → Prop) (w : World) : Prop :=
  al w 23 [.slice words_2 words_2n words_2c] fun p3 w4 =>
  Calls Tryz.prog 27 ⟨[.slice l_1 l_1n l_1c]⟩ w4 fun (e5 : Ending) (w6 : World) =>
  ∃ (x7 : Int), e5 = .returned (.int .i64 x7) ∧ (br (decide ((x7 : Int) ≠ 0)) (R (.returned (.tuple ⟨[.slice none 0 0, .int .i64 x7]⟩)) w6) (al w6 3 [.int .i64 0] fun p8 w9 =>
  al w9 4 [.bool false] fun p10 w11 =>
  stL w11 p8 0 [.int .i64 0] fun w12 =>
  stL w12 p10 0 [.bool true] fun w13 =>
  al w13 56 [.nilFunc] fun p14 w15 =>
  stL w15 p14 0 [.func (.func 28) ⟨[]⟩ ⟨[.pointer (some p14), .pointer (some p8), .pointer (some p3), .pointer (some p10)]⟩] fun w16 =>
  ∃ (x17 : Fn) (x17a : Array Value) (x17b : Array Value), World.cell? w16 p14 = some (.func x17 x17a x17b) ∧ (CallV Tryz.prog (.func x17 x17a x17b) [.slice l_1 l_1n l_1c] w16 fun (e18 : Ending) (w19 : World) =>
  ∃ (x20 : Option Addr) (x20n : Nat) (x20c : Nat), e18 = .returned (.slice x20 x20n x20c) ∧ (∀ (K21 : World → Prop), (∀  (w22 : World), (∀ _ : Env, (Calls Tryz.prog 29 ⟨[.slice x20 x20n x20c]⟩ w22 fun (e23 : Ending) (w24 : World) =>
  ∃ (x25 : Option Addr) (x25n : Nat) (x25c : Nat), e23 = .returned (.slice x25 x25n x25c) ∧ (Calls Tryz.prog 30 ⟨[.slice x25 x25n x25c]⟩ w24 fun (e26 : Ending) (w27 : World) =>
  ∃ (x28 : Int), e26 = .returned (.int .i64 x28) ∧ (br (decide ((x28 : Int) ≠ 0)) (R (.returned (.tuple ⟨[.slice none 0 0, .int .i64 x28]⟩)) w27) (R (.returned (.tuple ⟨[.slice x25 x25n x25c, .int .i64 0]⟩)) w27))))) → K21 w22) → (∃ (x29 : Bool), World.cell? w19 p10 = some (.bool x29) ∧ (br (!x29) (R (.returned (.tuple ⟨[.slice none 0 0, .int .i64 9]⟩)) w19) (∃ (x30 : Int), World.cell? w19 p8 = some (.int .i64 x30) ∧ (∃ (x31 : Option Addr) (x31n : Nat) (x31c : Nat), World.cell? w19 p3 = some (.slice x31 x31n x31c) ∧ (br (decide ((x30 : Int) ≠ ((x31n : Int)))) (R (.returned (.tuple ⟨[.slice none 0 0, .int .i64 9]⟩)) w19) (K21 w19))))))))))
set_option maxRecDepth 100000 in
theorem e_legibility_Supply (l_1 : Option Addr) (l_1n : Nat) (l_1c : Nat) (words_2 : Option Addr) (words_2n : Nat) (words_2c : Nat) (R : Ending → World → Prop) (w : World) : fnV Tryz.prog Tryz.f9 an_legibility_Supply [.slice l_1 l_1n l_1c, .slice words_2 words_2n words_2c] R w = sh_legibility_Supply l_1 l_1n l_1c words_2 words_2n words_2c R w := by kernel_rfl
theorem c_legibility_Supply {l_1 : Option Addr} {l_1n : Nat} {l_1c : Nat} {words_2 : Option Addr} {words_2n : Nat} {words_2c : Nat} {R : Ending → World → Prop} {w : World} (h : sh_legibility_Supply l_1 l_1n l_1c words_2 words_2n words_2c R w) : Calls Tryz.prog F_legibility_Supply ⟨[.slice l_1 l_1n l_1c, .slice words_2 words_2n words_2c]⟩ w R := calls_of_fnV Tryz.func9 (by rw [e_legibility_Supply]; exact h)

def an_ref12_Supply : Ann := .two (.leaf) (.two (.two (.leaf) (.two (.leaf) (.two (.two (.leaf) (.leaf)) (.leaf)))) (.two (.leaf) (.two (.two (.leaf) (.two (.two (.leaf) (.leaf)) (.leaf))) (.two (.two (.leaf) (.one (.loop 1099494850864 [(8, .one (.int .i64))] (.two (.two (.leaf) (.two (.leaf) (.leaf))) (.two (.one (.two (.leaf) (.two (.two (.leaf) (.leaf)) (.leaf)))) (.leaf)))))) (.two (.leaf) (.two (.leaf) (.two (.two (.leaf) (.two (.leaf) (.two (.two (.leaf) (.leaf)) (.leaf)))) (.two (.leaf) (.leaf)))))))))
def sh_ref12_Supply (l_1 : Option Addr) (l_1n : Nat) (l_1c : Nat) (words_2 : Option Addr) (words_2n : Nat) (words_2c : Nat) (R : Ending → World → Prop) (w : World) : Prop :=
  Calls Tryz.prog 31 ⟨[.slice l_1 l_1n l_1c]⟩ w fun (e3 : Ending) (w4 : World) =>
  ∃ (x5 : Int), e3 = .returned (.int .i64 x5) ∧ (br (decide ((x5 : Int) ≠ 0)) (R (.returned (.tuple ⟨[.slice none 0 0, .int .i64 x5]⟩)) w4) (Calls Tryz.prog 32 ⟨[.slice l_1 l_1n l_1c]⟩ w4 fun (e6 : Ending) (w7 : World) =>
  ∃ (x8 : Option Addr) (x8n : Nat) (x8c : Nat), e6 = .returned (.slice x8 x8n x8c) ∧ (br (decide ((((x8n : Int)) : Int) ≠ ((words_2n : Int)))) (R (.returned (.tuple ⟨[.slice none 0 0, .int .i64 9]⟩)) w7) (∃ (I9 : Int → World → Nat → Prop), (∃ m13 : Nat, I9 0 w7 m13) ∧ ∀ (i_10 : Int) (w11 : World) (m12 : Nat), I9 i_10 w11 m12 → ∀ _ : Env, (br (decide ((i_10 : Int) < ((x8n : Int)))) (drw w11 fun w14 =>
  idx words_2 words_2n i_10 1 fun p15 =>
  ∃ (x16 : List UInt8), World.cell? w14 p15 = some (.string ⟨⟨x16⟩⟩) ∧ (idx x8 x8n i_10 1 fun p17 =>
  ∃ (x18 : Int), World.cell? w14 p17 = some (.int .i64 x18) ∧ (br (decide ((((List.length x16 : Int)) : Int) ≠ x18)) (R (.returned (.tuple ⟨[.slice none 0 0, .int .i64 9]⟩)) w14) (∃ m19 : Nat, m19 < m12 ∧ I9 (IntKind.i64.wrap (i_10 + 1)) w14 m19)))) (Calls Tryz.prog 33 ⟨[.slice l_1 l_1n l_1c, .slice words_2 words_2n words_2c]⟩ w11 fun (e20 : Ending) (w21 : World) =>
  ∃ (x22 : Option Addr) (x22n : Nat) (x22c : Nat) (x23 : Option Addr) (x23n : Nat) (x23c : Nat), e20 = .returned (.tuple ⟨[.slice x22 x22n x22c, .slice x23 x23n x23c]⟩) ∧ (Calls Tryz.prog 34 ⟨[.slice x22 x22n x22c]⟩ w21 fun (e24 : Ending) (w25 : World) =>
  ∃ (x26 : Option Addr) (x26n : Nat) (x26c : Nat), e24 = .returned (.slice x26 x26n x26c) ∧ (Calls Tryz.prog 35 ⟨[.slice x26 x26n x26c]⟩ w25 fun (e27 : Ending) (w28 : World) =>
  ∃ (x29 : Int), e27 = .returned (.int .i64 x29) ∧ (br (decide ((x29 : Int) ≠ 0)) (R (.returned (.tuple ⟨[.slice none 0 0, .int .i64 x29]⟩)) w28) (R (.returned (.tuple ⟨[.slice x26 x26n x26c, .int .i64 0]⟩)) w28))))))))))
set_option maxRecDepth 100000 in
theorem e_ref12_Supply (l_1 : Option Addr) (l_1n : Nat) (l_1c : Nat) (words_2 : Option Addr) (words_2n : Nat) (words_2c : Nat) (R : Ending → World → Prop) (w : World) : fnV Tryz.prog Tryz.f10 an_ref12_Supply [.slice l_1 l_1n l_1c, .slice words_2 words_2n words_2c] R w = sh_ref12_Supply l_1 l_1n l_1c words_2 words_2n words_2c R w := by kernel_rfl
theorem c_ref12_Supply {l_1 : Option Addr} {l_1n : Nat} {l_1c : Nat} {words_2 : Option Addr} {words_2n : Nat} {words_2c : Nat} {R : Ending → World → Prop} {w : World} (h : sh_ref12_Supply l_1 l_1n l_1c words_2 words_2n words_2c R w) : Calls Tryz.prog F_ref12_Supply ⟨[.slice l_1 l_1n l_1c, .slice words_2 words_2n words_2c]⟩ w R := calls_of_fnV Tryz.func10 (by rw [e_ref12_Supply]; exact h)

def an_legibility_Expand : Ann := .two (.leaf) (.two (.two (.leaf) (.two (.leaf) (.two (.two (.leaf) (.leaf)) (.leaf)))) (.two (.two (.leaf) (.two (.two (.leaf) (.leaf)) (.leaf))) (.two (.leaf) (.two (.two (.leaf) (.one (.loop 1152921504539741744 [(26, .one (.int .i64))] (.two (.leaf) (.two (.two (.leaf) (.leaf)) (.two (.one (.two (.leaf) (.cut 35183298347056 [] (.two (.leaf) (.two (.two (.leaf) (.leaf)) (.leaf))) (.two (.leaf) (.two (.leaf) (.two (.leaf) (.leaf))))))) (.leaf))))))) (.two (.leaf) (.two (.leaf) (.two (.leaf) (.two (.two (.leaf) (.two (.leaf) (.two (.two (.leaf) (.leaf)) (.leaf)))) (.two (.leaf) (.leaf))))))))))
def sh_legibility_Expand (l_1 : Option Addr) (l_1n : Nat) (l_1c : Nat) (pairs_2 : Option Addr) (pairs_2n : Nat) (pairs_2c : Nat) (R : Ending → World → Prop) (w : World) : Prop :=
  Calls Tryz.prog 27 ⟨[.slice l_1 l_1n l_1c]⟩ w fun (e3 : Ending) (w4 : World) =>
  ∃ (x5 : Int), e3 = .returned (.int .i64 x5) ∧ (br (decide ((x5 : Int) ≠ 0)) (R (.returned (.tuple ⟨[.slice none 0 0, .int .i64 x5]⟩)) w4) (br (decide ((4096 : Int) < ((pairs_2n : Int)))) (R (.returned (.tuple ⟨[.slice none 0 0, .int .i64 4]⟩)) w4) (mkm w4 fun b6 w7 =>
  al w7 61 [.map none] fun p8 w9 =>
  stL w9 p8 0 [.map (some b6)] fun w10 =>
  ∃ (I11 : Int → World → Nat → Prop), (∃ m15 : Nat, I11 0 w10 m15) ∧ ∀ (t26_12 : Int) (w13 : World) (m14 : Nat), I11 t26_12 w13 m14 → ∀ _ : Env, (br (decide ((t26_12 : Int) < ((pairs_2n : Int)))) (idx pairs_2 pairs_2n t26_12 2 fun p16 =>
  ∃ (x17 : List UInt8), World.cell? w13 (p16.add 0) = some (.string ⟨⟨x17⟩⟩) ∧ (∃ (x18 : List UInt8), World.cell? w13 (p16.add 1) = some (.string ⟨⟨x18⟩⟩) ∧ (al w13 47 [.string ⟨⟨[]⟩⟩, .string ⟨⟨[]⟩⟩] fun p19 w20 =>
  stL w20 p19 0 [.string ⟨⟨x17⟩⟩, .string ⟨⟨x18⟩⟩] fun w21 =>
  ∀ (K22 : World → Prop), (∀  (w23 : World), (∀ _ : Env, (∃ (x24 : Value), World.cell? w23 p8 = some (x24) ∧ (∃ (x25 : List UInt8), World.cell? w23 (p19.add 0) = some (.string ⟨⟨x25⟩⟩) ∧ (∃ (x26 : List UInt8), ∃ (b27 : Bool), lkAt2 Tryz.prog 61 x24 (.string ⟨⟨x25⟩⟩) w23 (.string ⟨⟨x26⟩⟩) b27 ∧ (br (!b27) (∃ (x28 : Value), World.cell? w23 p8 = some (x28) ∧ (∃ (x29 : List UInt8), World.cell? w23 (p19.add 0) = some (.string ⟨⟨x29⟩⟩) ∧ (∃ (x30 : List UInt8), World.cell? w23 (p19.add 1) = some (.string ⟨⟨x30⟩⟩) ∧ (mupd Tryz.prog 61 x28 (.string ⟨⟨x29⟩⟩) (.string ⟨⟨x30⟩⟩) w23 fun w31 =>
  ∃ m32 : Nat, m32 < m14 ∧ I11 (IntKind.i64.wrap (t26_12 + 1)) w31 m32)))) (∃ m33 : Nat, m33 < m14 ∧ I11 (IntKind.i64.wrap (t26_12 + 1)) w23 m33)))))) → K22 w23) → (∃ (x34 : List UInt8), World.cell? w21 (p19.add 0) = some (.string ⟨⟨x34⟩⟩) ∧ (Calls Tryz.prog 36 ⟨[.string ⟨⟨x34⟩⟩]⟩ w21 fun (e35 : Ending) (w36 : World) =>
  ∃ (x37 : Bool), e35 = .returned (.bool x37) ∧ (br (!x37) (R (.returned (.tuple ⟨[.slice none 0 0, .int .i64 24]⟩)) w36) (∃ (x38 : List UInt8), World.cell? w36 (p19.add 1) = some (.string ⟨⟨x38⟩⟩) ∧ (br (decide ((x38 : List UInt8) = ([]))) (R (.returned (.tuple ⟨[.slice none 0 0, .int .i64 24]⟩)) w36) (∃ (x39 : List UInt8), World.cell? w36 (p19.add 1) = some (.string ⟨⟨x39⟩⟩) ∧ (Calls Tryz.prog 37 ⟨[.string ⟨⟨x39⟩⟩]⟩ w36 fun (e40 : Ending) (w41 : World) =>
  ∃ (x42 : Int), e40 = .returned (.int .i64 x42) ∧ (br (decide ((x42 : Int) ≠ 0)) (R (.returned (.tuple ⟨[.slice none 0 0, .int .i64 24]⟩)) w41) (K22 w41)))))))))))) (al w13 56 [.nilFunc] fun p43 w44 =>
  stL w44 p43 0 [.func (.func 38) ⟨[]⟩ ⟨[.pointer (some p43), .pointer (some p8)]⟩] fun w45 =>
  ∃ (x46 : Fn) (x46a : Array Value) (x46b : Array Value), World.cell? w45 p43 = some (.func x46 x46a x46b) ∧ (CallV Tryz.prog (.func x46 x46a x46b) [.slice l_1 l_1n l_1c] w45 fun (e47 : Ending) (w48 : World) =>
  ∃ (x49 : Option Addr) (x49n : Nat) (x49c : Nat), e47 = .returned (.slice x49 x49n x49c) ∧ (Calls Tryz.prog 30 ⟨[.slice x49 x49n x49c]⟩ w48 fun (e50 : Ending) (w51 : World) =>
  ∃ (x52 : Int), e50 = .returned (.int .i64 x52) ∧ (br (decide ((x52 : Int) ≠ 0)) (R (.returned (.tuple ⟨[.slice none 0 0, .int .i64 x52]⟩)) w51) (R (.returned (.tuple ⟨[.slice x49 x49n x49c, .int .i64 0]⟩)) w51)))))))))
set_option maxRecDepth 100000 in
theorem e_legibility_Expand (l_1 : Option Addr) (l_1n : Nat) (l_1c : Nat) (pairs_2 : Option Addr) (pairs_2n : Nat) (pairs_2c : Nat) (R : Ending → World → Prop) (w : World) : fnV Tryz.prog Tryz.f11 an_legibility_Expand [.slice l_1 l_1n l_1c, .slice pairs_2 pairs_2n pairs_2c] R w = sh_legibility_Expand l_1 l_1n l_1c pairs_2 pairs_2n pairs_2c R w := by kernel_rfl
theorem c_legibility_Expand {l_1 : Option Addr} {l_1n : Nat} {l_1c : Nat} {pairs_2 : Option Addr} {pairs_2n : Nat} {pairs_2c : Nat} {R : Ending → World → Prop} {w : World} (h : sh_legibility_Expand l_1 l_1n l_1c pairs_2 pairs_2n pairs_2c R w) : Calls Tryz.prog F_legibility_Expand ⟨[.slice l_1 l_1n l_1c, .slice pairs_2 pairs_2n pairs_2c]⟩ w R := calls_of_fnV Tryz.func11 (by rw [e_legibility_Expand]; exact h)

def an_ref12_Expand : Ann := .two (.leaf) (.two (.two (.leaf) (.two (.leaf) (.two (.two (.leaf) (.leaf)) (.leaf)))) (.two (.two (.leaf) (.two (.two (.leaf) (.leaf)) (.leaf))) (.two (.two (.leaf) (.one (.loop 281474976448688 [(7, .one (.int .i64))] (.two (.two (.leaf) (.two (.leaf) (.leaf))) (.two (.one (.two (.leaf) (.two (.two (.leaf) (.leaf)) (.leaf)))) (.leaf)))))) (.two (.leaf) (.two (.two (.leaf) (.two (.leaf) (.two (.two (.leaf) (.leaf)) (.leaf)))) (.two (.leaf) (.leaf)))))))
def sh_ref12_Expand (l_1 : Option Addr) (l_1n : Nat) (l_1c : Nat) (pairs_2 : Option Addr) (pairs_2n : Nat) (pairs_2c : Nat) (R : Ending → World → Prop) (w : World) : Prop :=
  Calls Tryz.prog 31 ⟨[.slice l_1 l_1n l_1c]⟩ w fun (e3 : Ending) (w4 : World) =>
  ∃ (x5 : Int), e3 = .returned (.int .i64 x5) ∧ (br (decide ((x5 : Int) ≠ 0)) (R (.returned (.tuple ⟨[.slice none 0 0, .int .i64 x5]⟩)) w4) (br (decide ((4096 : Int) < ((pairs_2n : Int)))) (R (.returned (.tuple ⟨[.slice none 0 0, .int .i64 4]⟩)) w4) (∃ (I6 : Int → World → Nat → Prop), (∃ m10 : Nat, I6 0 w4 m10) ∧ ∀ (i_7 : Int) (w8 : World) (m9 : Nat), I6 i_7 w8 m9 → ∀ _ : Env, (br (decide ((i_7 : Int) < ((pairs_2n : Int)))) (idx pairs_2 pairs_2n i_7 2 fun p11 =>
  ∃ (x12 : List UInt8), World.cell? w8 (p11.add 0) = some (.string ⟨⟨x12⟩⟩) ∧ (Calls Tryz.prog 41 ⟨[.string ⟨⟨x12⟩⟩]⟩ w8 fun (e13 : Ending) (w14 : World) =>
  ∃ (x15 : Bool), e13 = .returned (.bool x15) ∧ (br (!x15) (R (.returned (.tuple ⟨[.slice none 0 0, .int .i64 24]⟩)) w14) (idx pairs_2 pairs_2n i_7 2 fun p16 =>
  ∃ (x17 : List UInt8), World.cell? w14 (p16.add 1) = some (.string ⟨⟨x17⟩⟩) ∧ (br (decide ((x17 : List UInt8) = ([]))) (R (.returned (.tuple ⟨[.slice none 0 0, .int .i64 24]⟩)) w14) (idx pairs_2 pairs_2n i_7 2 fun p18 =>
  ∃ (x19 : List UInt8), World.cell? w14 (p18.add 1) = some (.string ⟨⟨x19⟩⟩) ∧ (Calls Tryz.prog 42 ⟨[.string ⟨⟨x19⟩⟩]⟩ w14 fun (e20 : Ending) (w21 : World) =>
  ∃ (x22 : Int), e20 = .returned (.int .i64 x22) ∧ (br (decide ((x22 : Int) ≠ 0)) (R (.returned (.tuple ⟨[.slice none 0 0, .int .i64 24]⟩)) w21) (∃ m23 : Nat, m23 < m9 ∧ I6 (IntKind.i64.wrap (i_7 + 1)) w21 m23))))))))) (Calls Tryz.prog 43 ⟨[.slice l_1 l_1n l_1c, .slice pairs_2 pairs_2n pairs_2c]⟩ w8 fun (e24 : Ending) (w25 : World) =>
  ∃ (x26 : Option Addr) (x26n : Nat) (x26c : Nat), e24 = .returned (.slice x26 x26n x26c) ∧ (Calls Tryz.prog 35 ⟨[.slice x26 x26n x26c]⟩ w25 fun (e27 : Ending) (w28 : World) =>
  ∃ (x29 : Int), e27 = .returned (.int .i64 x29) ∧ (br (decide ((x29 : Int) ≠ 0)) (R (.returned (.tuple ⟨[.slice none 0 0, .int .i64 x29]⟩)) w28) (R (.returned (.tuple ⟨[.slice x26 x26n x26c, .int .i64 0]⟩)) w28))))))))
set_option maxRecDepth 100000 in
theorem e_ref12_Expand (l_1 : Option Addr) (l_1n : Nat) (l_1c : Nat) (pairs_2 : Option Addr) (pairs_2n : Nat) (pairs_2c : Nat) (R : Ending → World → Prop) (w : World) : fnV Tryz.prog Tryz.f12 an_ref12_Expand [.slice l_1 l_1n l_1c, .slice pairs_2 pairs_2n pairs_2c] R w = sh_ref12_Expand l_1 l_1n l_1c pairs_2 pairs_2n pairs_2c R w := by kernel_rfl
theorem c_ref12_Expand {l_1 : Option Addr} {l_1n : Nat} {l_1c : Nat} {pairs_2 : Option Addr} {pairs_2n : Nat} {pairs_2c : Nat} {R : Ending → World → Prop} {w : World} (h : sh_ref12_Expand l_1 l_1n l_1c pairs_2 pairs_2n pairs_2c R w) : Calls Tryz.prog F_ref12_Expand ⟨[.slice l_1 l_1n l_1c, .slice pairs_2 pairs_2n pairs_2c]⟩ w R := calls_of_fnV Tryz.func12 (by rw [e_ref12_Expand]; exact h)

def an_ref10_Same : Ann := .two (.leaf) (.two (.two (.leaf) (.two (.two (.leaf) (.leaf)) (.leaf))) (.two (.two (.leaf) (.one (.loop 295147905179352823856 [(5, .one (.int .i64))] (.two (.two (.leaf) (.two (.leaf) (.leaf))) (.two (.one (.two (.leaf) (.two (.two (.leaf) (.leaf)) (.leaf)))) (.leaf)))))) (.two (.leaf) (.leaf))))
def sh_ref10_Same (a_1 : Option Addr) (a_1n : Nat) (a_1c : Nat) (b_2 : Option Addr) (b_2n : Nat) (b_2c : Nat) (R : Ending → World → Prop) (w : World) : Prop :=
  br (decide ((((a_1n : Int)) : Int) ≠ ((b_2n : Int)))) (R (.returned (.bool false)) w) (∃ (I3 : Int → World → Nat → Prop), (∃ m7 : Nat, I3 0 w m7) ∧ ∀ (i_4 : Int) (w5 : World) (m6 : Nat), I3 i_4 w5 m6 → ∀ _ : Env, (br (decide ((i_4 : Int) < ((a_1n : Int)))) (drw w5 fun w8 =>
  idx a_1 a_1n i_4 4 fun p9 =>
  ∃ (x10 : Int), World.cell? w8 (p9.add 0) = some (.int .i64 x10) ∧ (idx b_2 b_2n i_4 4 fun p11 =>
  ∃ (x12 : Int), World.cell? w8 (p11.add 0) = some (.int .i64 x12) ∧ (br (decide ((x10 : Int) ≠ x12)) ((R (.returned (.bool false)) w8) ∧ True) (idx a_1 a_1n i_4 4 fun p13 =>
  ∃ (x14 : List UInt8), World.cell? w8 (p13.add 1) = some (.string ⟨⟨x14⟩⟩) ∧ (idx b_2 b_2n i_4 4 fun p15 =>
  ∃ (x16 : List UInt8), World.cell? w8 (p15.add 1) = some (.string ⟨⟨x16⟩⟩) ∧ (br (decide ((x14 : List UInt8) ≠ x16)) ((R (.returned (.bool false)) w8) ∧ True) (idx a_1 a_1n i_4 4 fun p17 =>
  ∃ (x18 : Int), World.cell? w8 (p17.add 2) = some (.int .i64 x18) ∧ (idx b_2 b_2n i_4 4 fun p19 =>
  ∃ (x20 : Int), World.cell? w8 (p19.add 2) = some (.int .i64 x20) ∧ (br (decide ((x18 : Int) ≠ x20)) ((R (.returned (.bool false)) w8) ∧ True) (idx a_1 a_1n i_4 4 fun p21 =>
  ∃ (x22 : Option Addr) (x22n : Nat) (x22c : Nat), World.cell? w8 (p21.add 3) = some (.slice x22 x22n x22c) ∧ (idx b_2 b_2n i_4 4 fun p23 =>
  ∃ (x24 : Option Addr) (x24n : Nat) (x24c : Nat), World.cell? w8 (p23.add 3) = some (.slice x24 x24n x24c) ∧ ((Calls Tryz.prog 13 ⟨[.slice x22 x22n x22c, .slice x24 x24n x24c]⟩ w8 fun (e25 : Ending) (w26 : World) =>
  ∃ (x27 : Bool), e25 = .returned (.bool x27) ∧ (br (!x27) (R (.returned (.bool false)) w26) (∃ m28 : Nat, m28 < m6 ∧ I3 (IntKind.i64.wrap (i_4 + 1)) w26 m28))) ∧ True)))))))))))) (R (.returned (.bool true)) w5)))
set_option maxRecDepth 100000 in
theorem e_ref10_Same (a_1 : Option Addr) (a_1n : Nat) (a_1c : Nat) (b_2 : Option Addr) (b_2n : Nat) (b_2c : Nat) (R : Ending → World → Prop) (w : World) : fnV Tryz.prog Tryz.f13 an_ref10_Same [.slice a_1 a_1n a_1c, .slice b_2 b_2n b_2c] R w = sh_ref10_Same a_1 a_1n a_1c b_2 b_2n b_2c R w := by kernel_rfl
theorem c_ref10_Same {a_1 : Option Addr} {a_1n : Nat} {a_1c : Nat} {b_2 : Option Addr} {b_2n : Nat} {b_2c : Nat} {R : Ending → World → Prop} {w : World} (h : sh_ref10_Same a_1 a_1n a_1c b_2 b_2n b_2c R w) : Calls Tryz.prog F_ref10_Same ⟨[.slice a_1 a_1n a_1c, .slice b_2 b_2n b_2c]⟩ w R := calls_of_fnV Tryz.func13 (by rw [e_ref10_Same]; exact h)

def an_legibility_Conflicts : Ann := .two (.leaf) (.two (.two (.leaf) (.two (.two (.leaf) (.leaf)) (.leaf))) (.two (.leaf) (.two (.leaf) (.two (.two (.leaf) (.one (.loop 562949953161024 [(6, .one (.slice)), (18, .one (.int .i64))] (.two (.leaf) (.two (.two (.leaf) (.leaf)) (.two (.one (.two (.leaf) (.two (.leaf) (.two (.leaf) (.two (.two (.leaf) (.leaf)) (.two (.leaf) (.two (.leaf) (.leaf)))))))) (.leaf))))))) (.two (.leaf) (.leaf))))))
def sh_legibility_Conflicts (l_1 : Option Addr) (l_1n : Nat) (l_1c : Nat) (R : Ending → World → Prop) (w : World) : Prop :=
  br (decide ((4096 : Int) < ((l_1n : Int)))) (R (.returned (.tuple ⟨[.slice none 0 0, .int .i64 4]⟩)) w) (mkm w fun b2 w3 =>
  mkm w3 fun b4 w5 =>
  al w5 68 [.map none] fun p6 w7 =>
  stL w7 p6 0 [.map (some b4)] fun w8 =>
  ∃ (I9 : Option Addr → Nat → Nat → Int → World → Nat → Prop), (∃ m14 : Nat, I9 none 0 0 0 w8 m14) ∧ ∀ (order_10 : Option Addr) (order_10n : Nat) (order_10c : Nat) (t18_11 : Int) (w12 : World) (m13 : Nat), I9 order_10 order_10n order_10c t18_11 w12 m13 → ∀ _ : Env, (br (decide ((t18_11 : Int) < ((l_1n : Int)))) (idx l_1 l_1n t18_11 2 fun p15 =>
  ∃ (x16 : List UInt8), World.cell? w12 (p15.add 0) = some (.string ⟨⟨x16⟩⟩) ∧ (∃ (x17 : List UInt8), World.cell? w12 (p15.add 1) = some (.string ⟨⟨x17⟩⟩) ∧ (al w12 47 [.string ⟨⟨[]⟩⟩, .string ⟨⟨[]⟩⟩] fun p18 w19 =>
  stL w19 p18 0 [.string ⟨⟨x16⟩⟩, .string ⟨⟨x17⟩⟩] fun w20 =>
  ∃ (x21 : List UInt8), World.cell? w20 (p18.add 0) = some (.string ⟨⟨x21⟩⟩) ∧ (∃ (x22 : List UInt8), ∃ (b23 : Bool), lkAt2 Tryz.prog 61 (.map (some b2)) (.string ⟨⟨x21⟩⟩) w20 (.string ⟨⟨x22⟩⟩) b23 ∧ (br (!b23) (∃ (x24 : List UInt8), World.cell? w20 (p18.add 0) = some (.string ⟨⟨x24⟩⟩) ∧ (∃ (x25 : List UInt8), World.cell? w20 (p18.add 1) = some (.string ⟨⟨x25⟩⟩) ∧ (mupd Tryz.prog 61 (.map (some b2)) (.string ⟨⟨x24⟩⟩) (.string ⟨⟨x25⟩⟩) w20 fun w26 =>
  ∃ (x27 : List UInt8), World.cell? w26 (p18.add 0) = some (.string ⟨⟨x27⟩⟩) ∧ (al w26 9 [.string ⟨⟨x27⟩⟩] fun p28 w29 =>
  app Tryz.prog [23, 23] 23 (.slice order_10 order_10n order_10c) (.slice (some p28) 1 1) w29 fun a30 a30n a30c w31 =>
  ∃ m32 : Nat, m32 < m13 ∧ I9 a30 a30n a30c (IntKind.i64.wrap (t18_11 + 1)) w31 m32)))) (∃ (x33 : List UInt8), World.cell? w20 (p18.add 1) = some (.string ⟨⟨x33⟩⟩) ∧ (br (decide ((x22 : List UInt8) ≠ x33)) (∃ (x34 : Value), World.cell? w20 p6 = some (x34) ∧ (∃ (x35 : List UInt8), World.cell? w20 (p18.add 0) = some (.string ⟨⟨x35⟩⟩) ∧ (mupd Tryz.prog 68 x34 (.string ⟨⟨x35⟩⟩) (.bool true) w20 fun w36 =>
  ∃ m37 : Nat, m37 < m13 ∧ I9 order_10 order_10n order_10c (IntKind.i64.wrap (t18_11 + 1)) w36 m37))) (∃ m38 : Nat, m38 < m13 ∧ I9 order_10 order_10n order_10c (IntKind.i64.wrap (t18_11 + 1)) w20 m38)))))))) (Calls Tryz.prog 44 ⟨[.slice order_10 order_10n order_10c, .func (.func 45) ⟨[]⟩ ⟨[.pointer (some p6)]⟩]⟩ w12 fun (e39 : Ending) (w40 : World) =>
  ∃ (x41 : Option Addr) (x41n : Nat) (x41c : Nat), e39 = .returned (.slice x41 x41n x41c) ∧ (R (.returned (.tuple ⟨[.slice x41 x41n x41c, .int .i64 0]⟩)) w40))))
set_option maxRecDepth 100000 in
theorem e_legibility_Conflicts (l_1 : Option Addr) (l_1n : Nat) (l_1c : Nat) (R : Ending → World → Prop) (w : World) : fnV Tryz.prog Tryz.f14 an_legibility_Conflicts [.slice l_1 l_1n l_1c] R w = sh_legibility_Conflicts l_1 l_1n l_1c R w := by kernel_rfl
theorem c_legibility_Conflicts {l_1 : Option Addr} {l_1n : Nat} {l_1c : Nat} {R : Ending → World → Prop} {w : World} (h : sh_legibility_Conflicts l_1 l_1n l_1c R w) : Calls Tryz.prog F_legibility_Conflicts ⟨[.slice l_1 l_1n l_1c]⟩ w R := calls_of_fnV Tryz.func14 (by rw [e_legibility_Conflicts]; exact h)

def an_ref12_Conflicts : Ann := .two (.leaf) (.two (.two (.leaf) (.two (.two (.leaf) (.leaf)) (.leaf))) (.two (.leaf) (.two (.two (.leaf) (.one (.loop 295147905179352818160 [(4, .one (.slice)), (5, .one (.int .i64))] (.two (.two (.leaf) (.two (.leaf) (.leaf))) (.two (.one (.two (.leaf) (.two (.two (.leaf) (.one (.loop 72057594037404096 [(6, .one (.bool)), (7, .one (.bool)), (8, .one (.int .i64))] (.two (.two (.leaf) (.two (.leaf) (.leaf))) (.two (.one (.two (.leaf) (.two (.cut 4329327034432 [(6, .one (.bool))] (.leaf) (.leaf)) (.leaf)))) (.leaf)))))) (.cut 1080863910568919040 [(59, .one (.bool))] (.leaf) (.two (.leaf) (.leaf)))))) (.leaf)))))) (.two (.leaf) (.leaf)))))
def sh_ref12_Conflicts (l_1 : Option Addr) (l_1n : Nat) (l_1c : Nat) (R : Ending → World → Prop) (w : World) : Prop :=
  br (decide ((4096 : Int) < ((l_1n : Int)))) (R (.returned (.tuple ⟨[.slice none 0 0, .int .i64 4]⟩)) w) (al w 9 [] fun p2 w3 =>
  ∃ (I4 : Option Addr → Nat → Nat → Int → World → Nat → Prop), (∃ m9 : Nat, I4 (some p2) 0 0 0 w3 m9) ∧ ∀ (out_5 : Option Addr) (out_5n : Nat) (out_5c : Nat) (i_6 : Int) (w7 : World) (m8 : Nat), I4 out_5 out_5n out_5c i_6 w7 m8 → ∀ _ : Env, (br (decide ((i_6 : Int) < ((l_1n : Int)))) (∃ (I10 : Bool → Bool → Int → World → Nat → Prop), (∃ m16 : Nat, I10 true false 0 w7 m16) ∧ ∀ (first_11 : Bool) (several_12 : Bool) (k_13 : Int) (w14 : World) (m15 : Nat), I10 first_11 several_12 k_13 w14 m15 → ∀ _ : Env, (br (decide ((k_13 : Int) < ((l_1n : Int)))) (drw w14 fun w17 =>
  idx l_1 l_1n k_13 2 fun p18 =>
  ∃ (x19 : List UInt8), World.cell? w17 (p18.add 0) = some (.string ⟨⟨x19⟩⟩) ∧ (idx l_1 l_1n i_6 2 fun p20 =>
  ∃ (x21 : List UInt8), World.cell? w17 (p20.add 0) = some (.string ⟨⟨x21⟩⟩) ∧ (br (decide ((x19 : List UInt8) = x21)) (∀ (K22 : Bool → World → Prop), (∀ (first_23 : Bool) (w24 : World), (∀ _ : Env, (drw w24 fun w25 =>
  br several_12 (∃ m26 : Nat, m26 < m15 ∧ I10 first_23 true (IntKind.i64.wrap (k_13 + 1)) w25 m26) (idx l_1 l_1n k_13 2 fun p27 =>
  ∃ (x28 : List UInt8), World.cell? w25 (p27.add 1) = some (.string ⟨⟨x28⟩⟩) ∧ (idx l_1 l_1n i_6 2 fun p29 =>
  ∃ (x30 : List UInt8), World.cell? w25 (p29.add 1) = some (.string ⟨⟨x30⟩⟩) ∧ (∃ m31 : Nat, m31 < m15 ∧ I10 first_23 (decide ((x28 : List UInt8) ≠ x30)) (IntKind.i64.wrap (k_13 + 1)) w25 m31))))) → K22 first_23 w24) → (br first_11 (K22 (decide ((i_6 : Int) ≤ k_13)) w17) (K22 false w17))) (∃ m32 : Nat, m32 < m15 ∧ I10 first_11 several_12 (IntKind.i64.wrap (k_13 + 1)) w17 m32)))) (∀ (K33 : Bool → World → Prop), (∀ (t59_34 : Bool) (w35 : World), (∀ _ : Env, (br t59_34 (idx l_1 l_1n i_6 2 fun p36 =>
  ∃ (x37 : List UInt8), World.cell? w35 (p36.add 0) = some (.string ⟨⟨x37⟩⟩) ∧ (al w35 9 [.string ⟨⟨x37⟩⟩] fun p38 w39 =>
  app Tryz.prog [23, 23] 23 (.slice out_5 out_5n out_5c) (.slice (some p38) 1 1) w39 fun a40 a40n a40c w41 =>
  ∃ m42 : Nat, m42 < m8 ∧ I4 a40 a40n a40c (IntKind.i64.wrap (i_6 + 1)) w41 m42)) (∃ m43 : Nat, m43 < m8 ∧ I4 out_5 out_5n out_5c (IntKind.i64.wrap (i_6 + 1)) w35 m43))) → K33 t59_34 w35) → (br first_11 (K33 several_12 w14) (K33 false w14))))) (R (.returned (.tuple ⟨[.slice out_5 out_5n out_5c, .int .i64 0]⟩)) w7)))
set_option maxRecDepth 100000 in
theorem e_ref12_Conflicts (l_1 : Option Addr) (l_1n : Nat) (l_1c : Nat) (R : Ending → World → Prop) (w : World) : fnV Tryz.prog Tryz.f15 an_ref12_Conflicts [.slice l_1 l_1n l_1c] R w = sh_ref12_Conflicts l_1 l_1n l_1c R w := by kernel_rfl
theorem c_ref12_Conflicts {l_1 : Option Addr} {l_1n : Nat} {l_1c : Nat} {R : Ending → World → Prop} {w : World} (h : sh_ref12_Conflicts l_1 l_1n l_1c R w) : Calls Tryz.prog F_ref12_Conflicts ⟨[.slice l_1 l_1n l_1c]⟩ w R := calls_of_fnV Tryz.func15 (by rw [e_ref12_Conflicts]; exact h)

def an_legibility_Fits : Ann := .two (.leaf) (.cut 32688 [] (.two (.leaf) (.two (.two (.leaf) (.leaf)) (.leaf))) (.two (.two (.leaf) (.two (.two (.leaf) (.leaf)) (.leaf))) (.two (.two (.leaf) (.one (.loop 1099507433584 [(22, .one (.int .i64))] (.two (.leaf) (.two (.two (.leaf) (.leaf)) (.two (.one (.two (.leaf) (.two (.leaf) (.two (.two (.leaf) (.leaf)) (.leaf))))) (.leaf))))))) (.two (.leaf) (.leaf)))))
def sh_legibility_Fits (pattern_1 : List UInt8) (w_2 : List UInt8) (R : Ending → World → Prop) (w : World) : Prop :=
  ∀ (K3 : World → Prop), (∀  (w4 : World), (∀ _ : Env, (br (decide ((((List.length pattern_1 : Int)) : Int) ≠ ((List.length w_2 : Int)))) (R (.returned (.tuple ⟨[.bool false, .int .i64 0]⟩)) w4) (∃ (I5 : Int → World → Nat → Prop), (∃ m9 : Nat, I5 0 w4 m9) ∧ ∀ (t22_6 : Int) (w7 : World) (m8 : Nat), I5 t22_6 w7 m8 → ∀ _ : Env, (br (decide ((t22_6 : Int) < ((List.length w_2 : Int)))) (drw w7 fun w10 =>
  sidx w_2 t22_6 fun b11 =>
  sidx pattern_1 t22_6 fun b12 =>
  br (decide ((((b11.toNat : Int)) : Int) ≠ ((b12.toNat : Int)))) (sidx pattern_1 t22_6 fun b13 =>
  sidx ([95]) 0 fun b14 =>
  br (decide ((((b13.toNat : Int)) : Int) ≠ ((b14.toNat : Int)))) (R (.returned (.tuple ⟨[.bool false, .int .i64 0]⟩)) w10) (∃ m15 : Nat, m15 < m8 ∧ I5 (IntKind.i64.wrap (t22_6 + 1)) w10 m15)) (∃ m16 : Nat, m16 < m8 ∧ I5 (IntKind.i64.wrap (t22_6 + 1)) w10 m16)) (R (.returned (.tuple ⟨[.bool true, .int .i64 0]⟩)) w7))))) → K3 w4) → (br (decide ((65536 : Int) < ((List.length pattern_1 : Int)))) (R (.returned (.tuple ⟨[.bool false, .int .i64 4]⟩)) w) (br (decide ((65536 : Int) < ((List.length w_2 : Int)))) (R (.returned (.tuple ⟨[.bool false, .int .i64 4]⟩)) w) (K3 w)))
set_option maxRecDepth 100000 in
theorem e_legibility_Fits (pattern_1 : List UInt8) (w_2 : List UInt8) (R : Ending → World → Prop) (w : World) : fnV Tryz.prog Tryz.f16 an_legibility_Fits [.string ⟨⟨pattern_1⟩⟩, .string ⟨⟨w_2⟩⟩] R w = sh_legibility_Fits pattern_1 w_2 R w := by kernel_rfl
theorem c_legibility_Fits {pattern_1 : List UInt8} {w_2 : List UInt8} {R : Ending → World → Prop} {w : World} (h : sh_legibility_Fits pattern_1 w_2 R w) : Calls Tryz.prog F_legibility_Fits ⟨[.string ⟨⟨pattern_1⟩⟩, .string ⟨⟨w_2⟩⟩]⟩ w R := calls_of_fnV Tryz.func16 (by rw [e_legibility_Fits]; exact h)

def an_ref12_Fits : Ann := .two (.leaf) (.cut 32688 [] (.two (.leaf) (.two (.two (.leaf) (.leaf)) (.leaf))) (.two (.two (.leaf) (.two (.two (.leaf) (.leaf)) (.leaf))) (.two (.two (.leaf) (.one (.loop 549754765424 [(6, .one (.int .i64))] (.two (.two (.leaf) (.two (.leaf) (.leaf))) (.two (.one (.two (.leaf) (.two (.two (.leaf) (.leaf)) (.leaf)))) (.leaf)))))) (.two (.leaf) (.leaf)))))
def sh_ref12_Fits (p_1 : List UInt8) (w_2 : List UInt8) (R : Ending → World → Prop) (w : World) : Prop :=
  ∀ (K3 : World → Prop), (∀  (w4 : World), (∀ _ : Env, (br (decide ((((List.length p_1 : Int)) : Int) ≠ ((List.length w_2 : Int)))) (R (.returned (.tuple ⟨[.bool false, .int .i64 0]⟩)) w4) (∃ (I5 : Int → World → Nat → Prop), (∃ m9 : Nat, I5 0 w4 m9) ∧ ∀ (i_6 : Int) (w7 : World) (m8 : Nat), I5 i_6 w7 m8 → ∀ _ : Env, (br (decide ((i_6 : Int) < ((List.length p_1 : Int)))) (drw w7 fun w10 =>
  sidx p_1 i_6 fun b11 =>
  br (decide ((((b11.toNat : Int)) : Int) ≠ 95)) (sidx p_1 i_6 fun b12 =>
  sidx w_2 i_6 fun b13 =>
  br (decide ((((b12.toNat : Int)) : Int) ≠ ((b13.toNat : Int)))) (R (.returned (.tuple ⟨[.bool false, .int .i64 0]⟩)) w10) (∃ m14 : Nat, m14 < m8 ∧ I5 (IntKind.i64.wrap (i_6 + 1)) w10 m14)) (∃ m15 : Nat, m15 < m8 ∧ I5 (IntKind.i64.wrap (i_6 + 1)) w10 m15)) (R (.returned (.tuple ⟨[.bool true, .int .i64 0]⟩)) w7))))) → K3 w4) → (br (decide ((65536 : Int) < ((List.length p_1 : Int)))) (R (.returned (.tuple ⟨[.bool false, .int .i64 4]⟩)) w) (br (decide ((65536 : Int) < ((List.length w_2 : Int)))) (R (.returned (.tuple ⟨[.bool false, .int .i64 4]⟩)) w) (K3 w)))
set_option maxRecDepth 100000 in
theorem e_ref12_Fits (p_1 : List UInt8) (w_2 : List UInt8) (R : Ending → World → Prop) (w : World) : fnV Tryz.prog Tryz.f17 an_ref12_Fits [.string ⟨⟨p_1⟩⟩, .string ⟨⟨w_2⟩⟩] R w = sh_ref12_Fits p_1 w_2 R w := by kernel_rfl
theorem c_ref12_Fits {p_1 : List UInt8} {w_2 : List UInt8} {R : Ending → World → Prop} {w : World} (h : sh_ref12_Fits p_1 w_2 R w) : Calls Tryz.prog F_ref12_Fits ⟨[.string ⟨⟨p_1⟩⟩, .string ⟨⟨w_2⟩⟩]⟩ w R := calls_of_fnV Tryz.func17 (by rw [e_ref12_Fits]; exact h)

def an_slices_Equal_of_string_string : Ann := .two (.leaf) (.two (.two (.leaf) (.two (.two (.leaf) (.leaf)) (.leaf))) (.two (.two (.leaf) (.one (.loop 67100720 [(13, .one (.int .i64))] (.two (.leaf) (.two (.two (.leaf) (.leaf)) (.two (.one (.two (.leaf) (.two (.leaf) (.two (.two (.leaf) (.leaf)) (.leaf))))) (.leaf))))))) (.two (.leaf) (.leaf))))
def sh_slices_Equal_of_string_string (s1_1 : Option Addr) (s1_1n : Nat) (s1_1c : Nat) (s2_2 : Option Addr) (s2_2n : Nat) (s2_2c : Nat) (R : Ending → World → Prop) (w : World) : Prop :=
  br (decide ((((s1_1n : Int)) : Int) ≠ ((s2_2n : Int)))) (R (.returned (.bool false)) w) (∃ (I3 : Int → World → Nat → Prop), (∃ m7 : Nat, I3 0 w m7) ∧ ∀ (t13_4 : Int) (w5 : World) (m6 : Nat), I3 t13_4 w5 m6 → ∀ _ : Env, (br (decide ((t13_4 : Int) < ((s1_1n : Int)))) (drw w5 fun w8 =>
  idx s1_1 s1_1n t13_4 1 fun p9 =>
  ∃ (x10 : List UInt8), World.cell? w8 p9 = some (.string ⟨⟨x10⟩⟩) ∧ (idx s2_2 s2_2n t13_4 1 fun p11 =>
  ∃ (x12 : List UInt8), World.cell? w8 p11 = some (.string ⟨⟨x12⟩⟩) ∧ (br (decide ((x10 : List UInt8) ≠ x12)) (R (.returned (.bool false)) w8) (∃ m13 : Nat, m13 < m6 ∧ I3 (IntKind.i64.wrap (t13_4 + 1)) w8 m13)))) (R (.returned (.bool true)) w5)))
set_option maxRecDepth 100000 in
theorem e_slices_Equal_of_string_string (s1_1 : Option Addr) (s1_1n : Nat) (s1_1c : Nat) (s2_2 : Option Addr) (s2_2n : Nat) (s2_2c : Nat) (R : Ending → World → Prop) (w : World) : fnV Tryz.prog Tryz.f18 an_slices_Equal_of_string_string [.slice s1_1 s1_1n s1_1c, .slice s2_2 s2_2n s2_2c] R w = sh_slices_Equal_of_string_string s1_1 s1_1n s1_1c s2_2 s2_2n s2_2c R w := by kernel_rfl
theorem c_slices_Equal_of_string_string {s1_1 : Option Addr} {s1_1n : Nat} {s1_1c : Nat} {s2_2 : Option Addr} {s2_2n : Nat} {s2_2c : Nat} {R : Ending → World → Prop} {w : World} (h : sh_slices_Equal_of_string_string s1_1 s1_1n s1_1c s2_2 s2_2n s2_2c R w) : Calls Tryz.prog F_slices_Equal_of_string_string ⟨[.slice s1_1 s1_1n s1_1c, .slice s2_2 s2_2n s2_2c]⟩ w R := calls_of_fnV Tryz.func18 (by rw [e_slices_Equal_of_string_string]; exact h)

def an_ref10_size : Ann := .two (.leaf) (.two (.leaf) (.two (.two (.leaf) (.one (.loop 576460752303423424 [(9, .one (.int .i64)), (10, .one (.int .i64)), (11, .one (.int .i64))] (.two (.two (.leaf) (.two (.leaf) (.leaf))) (.two (.one (.two (.leaf) (.two (.two (.leaf) (.two (.two (.leaf) (.leaf)) (.leaf))) (.two (.two (.leaf) (.two (.leaf) (.leaf))) (.two (.two (.leaf) (.two (.two (.leaf) (.leaf)) (.leaf))) (.two (.leaf) (.two (.two (.leaf) (.two (.two (.leaf) (.leaf)) (.leaf))) (.two (.leaf) (.leaf))))))))) (.leaf)))))) (.two (.leaf) (.leaf))))
def sh_ref10_size (l_1 : Option Addr) (l_1n : Nat) (l_1c : Nat) (depth_2 : Int) (most_3 : Int) (R : Ending → World → Prop) (w : World) : Prop :=
  ∃ (I4 : Int → Int → Int → World → Nat → Prop), (∃ m10 : Nat, I4 0 0 0 w m10) ∧ ∀ (n_5 : Int) (deep_6 : Int) (i_7 : Int) (w8 : World) (m9 : Nat), I4 n_5 deep_6 i_7 w8 m9 → ∀ _ : Env, (br (decide ((i_7 : Int) < ((l_1n : Int)))) (br (decide ((most_3 : Int) < (IntKind.i64.wrap (n_5 + 1)))) (R (.returned (.tuple ⟨[.int .i64 0, .int .i64 0, .bool false]⟩)) w8) (idx l_1 l_1n i_7 4 fun p11 =>
  ∃ (x12 : Option Addr) (x12n : Nat) (x12c : Nat), World.cell? w8 (p11.add 3) = some (.slice x12 x12n x12c) ∧ (br (decide ((((x12n : Int)) : Int) = 0)) (∃ m13 : Nat, m13 < m9 ∧ I4 (IntKind.i64.wrap (n_5 + 1)) deep_6 (IntKind.i64.wrap (i_7 + 1)) w8 m13) (br (decide ((depth_2 : Int) = 0)) (R (.returned (.tuple ⟨[.int .i64 0, .int .i64 0, .bool false]⟩)) w8) (idx l_1 l_1n i_7 4 fun p14 =>
  ∃ (x15 : Option Addr) (x15n : Nat) (x15c : Nat), World.cell? w8 (p14.add 3) = some (.slice x15 x15n x15c) ∧ (Calls Tryz.prog 19 ⟨[.slice x15 x15n x15c, .int .i64 (IntKind.i64.wrap (depth_2 - 1)), .int .i64 (IntKind.i64.wrap (most_3 - (IntKind.i64.wrap (n_5 + 1))))]⟩ w8 fun (e16 : Ending) (w17 : World) =>
  ∃ (x18 : Int) (x19 : Int) (x20 : Bool), e16 = .returned (.tuple ⟨[.int .i64 x18, .int .i64 x19, .bool x20]⟩) ∧ (br (!x20) (R (.returned (.tuple ⟨[.int .i64 0, .int .i64 0, .bool false]⟩)) w17) (∃ m21 : Nat, m21 < m9 ∧ I4 (IntKind.i64.wrap ((IntKind.i64.wrap (n_5 + 1)) + x18)) ((max deep_6 (IntKind.i64.wrap (x19 + 1)))) (IntKind.i64.wrap (i_7 + 1)) w17 m21)))))))) (R (.returned (.tuple ⟨[.int .i64 n_5, .int .i64 deep_6, .bool true]⟩)) w8))
set_option maxRecDepth 100000 in
theorem e_ref10_size (l_1 : Option Addr) (l_1n : Nat) (l_1c : Nat) (depth_2 : Int) (most_3 : Int) (R : Ending → World → Prop) (w : World) : fnV Tryz.prog Tryz.f19 an_ref10_size [.slice l_1 l_1n l_1c, .int .i64 depth_2, .int .i64 most_3] R w = sh_ref10_size l_1 l_1n l_1c depth_2 most_3 R w := by kernel_rfl
theorem c_ref10_size {l_1 : Option Addr} {l_1n : Nat} {l_1c : Nat} {depth_2 : Int} {most_3 : Int} {R : Ending → World → Prop} {w : World} (h : sh_ref10_size l_1 l_1n l_1c depth_2 most_3 R w) : Calls Tryz.prog F_ref10_size ⟨[.slice l_1 l_1n l_1c, .int .i64 depth_2, .int .i64 most_3]⟩ w R := calls_of_fnV Tryz.func19 (by rw [e_ref10_size]; exact h)

def an_ref10_long : Ann := .two (.leaf) (.two (.two (.leaf) (.one (.loop 8796093022192 [(5, .one (.int .i64))] (.two (.two (.leaf) (.two (.leaf) (.leaf))) (.two (.one (.two (.leaf) (.two (.leaf) (.two (.two (.leaf) (.leaf)) (.leaf))))) (.leaf)))))) (.two (.leaf) (.leaf)))
def sh_ref10_long (l_1 : Option Addr) (l_1n : Nat) (l_1c : Nat) (depth_2 : Int) (R : Ending → World → Prop) (w : World) : Prop :=
  ∃ (I3 : Int → World → Nat → Prop), (∃ m7 : Nat, I3 0 w m7) ∧ ∀ (i_4 : Int) (w5 : World) (m6 : Nat), I3 i_4 w5 m6 → ∀ _ : Env, (br (decide ((i_4 : Int) < ((l_1n : Int)))) (idx l_1 l_1n i_4 4 fun p8 =>
  ∃ (x9 : List UInt8), World.cell? w5 (p8.add 1) = some (.string ⟨⟨x9⟩⟩) ∧ (br (decide ((depth_2 : Int) = 0)) (R (.returned (.bool true)) w5) (br (decide ((60 : Int) < ((List.length x9 : Int)))) (br (decide ((((List.length x9 : Int)) : Int) ≤ 65536)) (R (.returned (.bool true)) w5) (br (decide ((65540 : Int) < ((List.length x9 : Int)))) (R (.returned (.bool true)) w5) (idx l_1 l_1n i_4 4 fun p10 =>
  ∃ (x11 : Option Addr) (x11n : Nat) (x11c : Nat), World.cell? w5 (p10.add 3) = some (.slice x11 x11n x11c) ∧ (Calls Tryz.prog 20 ⟨[.slice x11 x11n x11c, .int .i64 (IntKind.i64.wrap (depth_2 - 1))]⟩ w5 fun (e12 : Ending) (w13 : World) =>
  ∃ (x14 : Bool), e12 = .returned (.bool x14) ∧ (br x14 (R (.returned (.bool true)) w13) (∃ m15 : Nat, m15 < m6 ∧ I3 (IntKind.i64.wrap (i_4 + 1)) w13 m15)))))) (br (decide ((65540 : Int) < ((List.length x9 : Int)))) (R (.returned (.bool true)) w5) (idx l_1 l_1n i_4 4 fun p16 =>
  ∃ (x17 : Option Addr) (x17n : Nat) (x17c : Nat), World.cell? w5 (p16.add 3) = some (.slice x17 x17n x17c) ∧ (Calls Tryz.prog 20 ⟨[.slice x17 x17n x17c, .int .i64 (IntKind.i64.wrap (depth_2 - 1))]⟩ w5 fun (e18 : Ending) (w19 : World) =>
  ∃ (x20 : Bool), e18 = .returned (.bool x20) ∧ (br x20 (R (.returned (.bool true)) w19) (∃ m21 : Nat, m21 < m6 ∧ I3 (IntKind.i64.wrap (i_4 + 1)) w19 m21)))))))) (R (.returned (.bool false)) w5))
set_option maxRecDepth 100000 in
theorem e_ref10_long (l_1 : Option Addr) (l_1n : Nat) (l_1c : Nat) (depth_2 : Int) (R : Ending → World → Prop) (w : World) : fnV Tryz.prog Tryz.f20 an_ref10_long [.slice l_1 l_1n l_1c, .int .i64 depth_2] R w = sh_ref10_long l_1 l_1n l_1c depth_2 R w := by kernel_rfl
theorem c_ref10_long {l_1 : Option Addr} {l_1n : Nat} {l_1c : Nat} {depth_2 : Int} {R : Ending → World → Prop} {w : World} (h : sh_ref10_long l_1 l_1n l_1c depth_2 R w) : Calls Tryz.prog F_ref10_long ⟨[.slice l_1 l_1n l_1c, .int .i64 depth_2]⟩ w R := calls_of_fnV Tryz.func20 (by rw [e_ref10_long]; exact h)

def an_slices_IndexFunc_of_string_string : Ann := .two (.leaf) (.two (.two (.leaf) (.one (.loop 524080 [(8, .one (.int .i64))] (.two (.leaf) (.two (.two (.leaf) (.leaf)) (.two (.one (.two (.leaf) (.two (.leaf) (.two (.two (.leaf) (.leaf)) (.leaf))))) (.leaf))))))) (.two (.leaf) (.leaf)))
def sh_slices_IndexFunc_of_string_string (s_1 : Option Addr) (s_1n : Nat) (s_1c : Nat) (f_2 : Fn) (f_2a : Array Value) (f_2b : Array Value) (R : Ending → World → Prop) (w : World) : Prop :=
  ∃ (I3 : Int → World → Nat → Prop), (∃ m7 : Nat, I3 0 w m7) ∧ ∀ (t8_4 : Int) (w5 : World) (m6 : Nat), I3 t8_4 w5 m6 → ∀ _ : Env, (br (decide ((t8_4 : Int) < ((s_1n : Int)))) (idx s_1 s_1n t8_4 1 fun p8 =>
  ∃ (x9 : List UInt8), World.cell? w5 p8 = some (.string ⟨⟨x9⟩⟩) ∧ (CallV Tryz.prog (.func f_2 f_2a f_2b) [.string ⟨⟨x9⟩⟩] w5 fun (e10 : Ending) (w11 : World) =>
  ∃ (x12 : Bool), e10 = .returned (.bool x12) ∧ (br x12 (R (.returned (.int .i64 t8_4)) w11) (∃ m13 : Nat, m13 < m6 ∧ I3 (IntKind.i64.wrap (t8_4 + 1)) w11 m13)))) (R (.returned (.int .i64 ((-1)))) w5))
set_option maxRecDepth 100000 in
theorem e_slices_IndexFunc_of_string_string (s_1 : Option Addr) (s_1n : Nat) (s_1c : Nat) (f_2 : Fn) (f_2a : Array Value) (f_2b : Array Value) (R : Ending → World → Prop) (w : World) : fnV Tryz.prog Tryz.f21 an_slices_IndexFunc_of_string_string [.slice s_1 s_1n s_1c, .func f_2 f_2a f_2b] R w = sh_slices_IndexFunc_of_string_string s_1 s_1n s_1c f_2 f_2a f_2b R w := by kernel_rfl
theorem c_slices_IndexFunc_of_string_string {s_1 : Option Addr} {s_1n : Nat} {s_1c : Nat} {f_2 : Fn} {f_2a : Array Value} {f_2b : Array Value} {R : Ending → World → Prop} {w : World} (h : sh_slices_IndexFunc_of_string_string s_1 s_1n s_1c f_2 f_2a f_2b R w) : Calls Tryz.prog F_slices_IndexFunc_of_string_string ⟨[.slice s_1 s_1n s_1c, .func f_2 f_2a f_2b]⟩ w R := calls_of_fnV Tryz.func21 (by rw [e_slices_IndexFunc_of_string_string]; exact h)

def an_legibility_Pattern : Ann := .two (.leaf) (.two (.two (.leaf) (.two (.leaf) (.two (.two (.leaf) (.leaf)) (.leaf)))) (.two (.leaf) (.leaf)))
def sh_legibility_Pattern (l_1 : Option Addr) (l_1n : Nat) (l_1c : Nat) (R : Ending → World → Prop) (w : World) : Prop :=
  Calls Tryz.prog 27 ⟨[.slice l_1 l_1n l_1c]⟩ w fun (e2 : Ending) (w3 : World) =>
  ∃ (x4 : Int), e2 = .returned (.int .i64 x4) ∧ (br (decide ((x4 : Int) ≠ 0)) (R (.returned (.tuple ⟨[.string ⟨⟨[]⟩⟩, .int .i64 x4]⟩)) w3) (Calls Tryz.prog 47 ⟨[.slice l_1 l_1n l_1c]⟩ w3 fun (e5 : Ending) (w6 : World) =>
  ∃ (x7 : List UInt8), e5 = .returned (.string ⟨⟨x7⟩⟩) ∧ (Calls Tryz.prog 46 ⟨[.string ⟨⟨x7⟩⟩]⟩ w6 fun (e8 : Ending) (w9 : World) =>
  ∃ (x10 : List UInt8) (x11 : Int), e8 = .returned (.tuple ⟨[.string ⟨⟨x10⟩⟩, .int .i64 x11]⟩) ∧ (R (.returned (.tuple ⟨[.string ⟨⟨x10⟩⟩, .int .i64 x11]⟩)) w9))))
set_option maxRecDepth 100000 in
theorem e_legibility_Pattern (l_1 : Option Addr) (l_1n : Nat) (l_1c : Nat) (R : Ending → World → Prop) (w : World) : fnV Tryz.prog Tryz.f22 an_legibility_Pattern [.slice l_1 l_1n l_1c] R w = sh_legibility_Pattern l_1 l_1n l_1c R w := by kernel_rfl
theorem c_legibility_Pattern {l_1 : Option Addr} {l_1n : Nat} {l_1c : Nat} {R : Ending → World → Prop} {w : World} (h : sh_legibility_Pattern l_1 l_1n l_1c R w) : Calls Tryz.prog F_legibility_Pattern ⟨[.slice l_1 l_1n l_1c]⟩ w R := calls_of_fnV Tryz.func22 (by rw [e_legibility_Pattern]; exact h)

def an_law12_sample : Ann := .two (.leaf) (.two (.leaf) (.leaf))
def sh_law12_sample  (R : Ending → World → Prop) (w : World) : Prop :=
  al w 45 [.int .i64 1, .string ⟨⟨[111, 109, 105, 110, 117, 115]⟩⟩, .int .i64 0, .slice none 0 0] fun p1 w2 =>
  al w2 45 [.int .i64 1, .string ⟨⟨[100]⟩⟩, .int .i64 0, .slice none 0 0, .int .i64 10, .string ⟨⟨[110, 115]⟩⟩, .int .i64 0, .slice (some p1) 1 1, .int .i64 6, .string ⟨⟨[]⟩⟩, .int .i64 2, .slice none 0 0] fun p3 w4 =>
  R (.returned (.slice (some p3) 3 3)) w4
set_option maxRecDepth 100000 in
theorem e_law12_sample  (R : Ending → World → Prop) (w : World) : fnV Tryz.prog Tryz.f23 an_law12_sample [] R w = sh_law12_sample  R w := by kernel_rfl
theorem c_law12_sample  {R : Ending → World → Prop} {w : World} (h : sh_law12_sample  R w) : Calls Tryz.prog F_law12_sample ⟨[]⟩ w R := calls_of_fnV Tryz.func23 (by rw [e_law12_sample]; exact h)

def an_legibility_Written : Ann := .two (.leaf) (.two (.two (.leaf) (.two (.leaf) (.two (.two (.leaf) (.leaf)) (.leaf)))) (.two (.leaf) (.leaf)))
def sh_legibility_Written (l_1 : Option Addr) (l_1n : Nat) (l_1c : Nat) (R : Ending → World → Prop) (w : World) : Prop :=
  Calls Tryz.prog 27 ⟨[.slice l_1 l_1n l_1c]⟩ w fun (e2 : Ending) (w3 : World) =>
  ∃ (x4 : Int), e2 = .returned (.int .i64 x4) ∧ (br (decide ((x4 : Int) ≠ 0)) (R (.returned (.tuple ⟨[.string ⟨⟨[]⟩⟩, .int .i64 x4]⟩)) w3) (Calls Tryz.prog 48 ⟨[.slice l_1 l_1n l_1c]⟩ w3 fun (e5 : Ending) (w6 : World) =>
  ∃ (x7 : List UInt8), e5 = .returned (.string ⟨⟨x7⟩⟩) ∧ (Calls Tryz.prog 46 ⟨[.string ⟨⟨x7⟩⟩]⟩ w6 fun (e8 : Ending) (w9 : World) =>
  ∃ (x10 : List UInt8) (x11 : Int), e8 = .returned (.tuple ⟨[.string ⟨⟨x10⟩⟩, .int .i64 x11]⟩) ∧ (R (.returned (.tuple ⟨[.string ⟨⟨x10⟩⟩, .int .i64 x11]⟩)) w9))))
set_option maxRecDepth 100000 in
theorem e_legibility_Written (l_1 : Option Addr) (l_1n : Nat) (l_1c : Nat) (R : Ending → World → Prop) (w : World) : fnV Tryz.prog Tryz.f24 an_legibility_Written [.slice l_1 l_1n l_1c] R w = sh_legibility_Written l_1 l_1n l_1c R w := by kernel_rfl
theorem c_legibility_Written {l_1 : Option Addr} {l_1n : Nat} {l_1c : Nat} {R : Ending → World → Prop} {w : World} (h : sh_legibility_Written l_1 l_1n l_1c R w) : Calls Tryz.prog F_legibility_Written ⟨[.slice l_1 l_1n l_1c]⟩ w R := calls_of_fnV Tryz.func24 (by rw [e_legibility_Written]; exact h)

def an_legibility_Pairs : Ann := .two (.leaf) (.two (.two (.leaf) (.two (.leaf) (.two (.two (.leaf) (.leaf)) (.leaf)))) (.two (.leaf) (.two (.leaf) (.two (.two (.leaf) (.one (.rf [2, 3, 5, 6, 18] 0))) (.two (.leaf) (.leaf))))))
def sh_legibility_Pairs (l_1 : Option Addr) (l_1n : Nat) (l_1c : Nat) (R : Ending → World → Prop) (w : World) : Prop :=
  al w 24 [.slice none 0 0] fun p2 w3 =>
  al w3 30 [.int .i64 0] fun p4 w5 =>
  Calls Tryz.prog 27 ⟨[.slice l_1 l_1n l_1c]⟩ w5 fun (e6 : Ending) (w7 : World) =>
  ∃ (x8 : Int), e6 = .returned (.int .i64 x8) ∧ (br (decide ((x8 : Int) ≠ 0)) (stL w7 p2 0 [.slice none 0 0] fun w9 =>
  stL w9 p4 0 [.int .i64 x8] fun w10 =>
  ∃ (x11 : Option Addr) (x11n : Nat) (x11c : Nat), World.cell? w10 p2 = some (.slice x11 x11n x11c) ∧ (∃ (x12 : Int), World.cell? w10 p4 = some (.int .i64 x12) ∧ (R (.returned (.tuple ⟨[.slice x11 x11n x11c, .int .i64 x12]⟩)) w10))) (al w7 24 [.slice none 0 0] fun p13 w14 =>
  mkm w14 fun b15 w16 =>
  al w16 72 [.map none] fun p17 w18 =>
  stL w18 p17 0 [.map (some b15)] fun w19 =>
  Calls Tryz.prog 49 ⟨[.slice l_1 l_1n l_1c]⟩ w19 fun (e20 : Ending) (w21 : World) =>
  ∃ (x22 : Fn) (x22a : Array Value) (x22b : Array Value), e20 = .returned (.func x22 x22a x22b) ∧ (∀ base23 : Env, RFw Tryz.prog none 49 (cdAt Tryz.f25 [1, 1, 1, 1, 0, 1, 2]) (upd (upd (upd (upd (upd base23 18 (.func x22 x22a x22b)) 6 (.pointer (some p17))) 5 (.pointer (some p13))) 3 (.pointer (some p4))) 2 (.pointer (some p2))) [] w21 0 (fun ds24 w25 =>
  ∃ (x32 : Option Addr) (x32n : Nat) (x32c : Nat), World.cell? w25 p13 = some (.slice x32 x32n x32c) ∧ (stL w25 p2 0 [.slice x32 x32n x32c] fun w33 =>
  stL w33 p4 0 [.int .i64 0] fun w34 =>
  retD ds24 w34 fun w35 =>
  ∃ (x36 : Option Addr) (x36n : Nat) (x36c : Nat), World.cell? w35 p2 = some (.slice x36 x36n x36c) ∧ (∃ (x37 : Int), World.cell? w35 p4 = some (.int .i64 x37) ∧ (R (.returned (.tuple ⟨[.slice x36 x36n x36c, .int .i64 x37]⟩)) w35)))) (fun ds24 w25 =>
  retD ds24 w25 fun w38 =>
  ∃ (x39 : Option Addr) (x39n : Nat) (x39c : Nat), World.cell? w38 p2 = some (.slice x39 x39n x39c) ∧ (∃ (x40 : Int), World.cell? w38 p4 = some (.int .i64 x40) ∧ (R (.returned (.tuple ⟨[.slice x39 x39n x39c, .int .i64 x40]⟩)) w38))) (fun ds24 w25 =>
  ∃ (x26 : Option Addr) (x26n : Nat) (x26c : Nat), World.cell? w25 p13 = some (.slice x26 x26n x26c) ∧ (stL w25 p2 0 [.slice x26 x26n x26c] fun w27 =>
  stL w27 p4 0 [.int .i64 0] fun w28 =>
  retD ds24 w28 fun w29 =>
  ∃ (x30 : Option Addr) (x30n : Nat) (x30c : Nat), World.cell? w29 p2 = some (.slice x30 x30n x30c) ∧ (∃ (x31 : Int), World.cell? w29 p4 = some (.int .i64 x31) ∧ (R (.returned (.tuple ⟨[.slice x30 x30n x30c, .int .i64 x31]⟩)) w29)))))))
set_option maxRecDepth 100000 in
theorem e_legibility_Pairs (l_1 : Option Addr) (l_1n : Nat) (l_1c : Nat) (R : Ending → World → Prop) (w : World) : fnV Tryz.prog Tryz.f25 an_legibility_Pairs [.slice l_1 l_1n l_1c] R w = sh_legibility_Pairs l_1 l_1n l_1c R w := by kernel_rfl
theorem c_legibility_Pairs {l_1 : Option Addr} {l_1n : Nat} {l_1c : Nat} {R : Ending → World → Prop} {w : World} (h : sh_legibility_Pairs l_1 l_1n l_1c R w) : Calls Tryz.prog F_legibility_Pairs ⟨[.slice l_1 l_1n l_1c]⟩ w R := calls_of_fnV Tryz.func25 (by rw [e_legibility_Pairs]; exact h)
def anA_legibility_Pairs_1 : Ann := .leaf
def anB_legibility_Pairs_1 : Ann := .one (.two (.two (.leaf) (.two (.leaf) (.leaf))) (.two (.leaf) (.two (.two (.leaf) (.two (.two (.leaf) (.leaf)) (.leaf))) (.two (.leaf) (.two (.leaf) (.two (.two (.leaf) (.leaf)) (.leaf)))))))
def rf_legibility_Pairs_1 (t2_41 : Option Addr) (t3_42 : Option Addr) (out_43 : Option Addr) (seen_44 : Option Addr) (t18_45 : Fn) (t18_45a : Array Value) (t18_45b : Array Value) (t19_46 : Int) (t19_47 : List UInt8) (t19_48 : Int) (t19_49 : Option Addr) (t19_49n : Nat) (t19_49c : Nat) (t20_50 : Value) (l : Nat) (Kn Kr Kx : World → World → Prop) (w : World) : Prop :=
  al w 45 [.int .i64 0, .string ⟨⟨[]⟩⟩, .int .i64 0, .slice none 0 0] fun p52 w53 =>
  stL w53 p52 0 [.int .i64 t19_46, .string ⟨⟨t19_47⟩⟩, .int .i64 t19_48, .slice t19_49 t19_49n t19_49c] fun w54 =>
  Ext w w54 ∧ ∀ w51 : World, Upd l w54 w51 → (∃ (x55 : Int), World.cell? w51 (p52.add 0) = some (.int .i64 x55) ∧ (br (decide ((x55 : Int) ≠ 10)) (Kn w51 w51) (∃ (x56 : Option Addr) (x56n : Nat) (x56c : Nat), World.cell? w51 (p52.add 3) = some (.slice x56 x56n x56c) ∧ (Calls Tryz.prog 47 ⟨[.slice x56 x56n x56c]⟩ w51 fun (e57 : Ending) (w58 : World) =>
  ∃ (x59 : List UInt8), e57 = .returned (.string ⟨⟨x59⟩⟩) ∧ (Calls Tryz.prog 46 ⟨[.string ⟨⟨x59⟩⟩]⟩ w58 fun (e60 : Ending) (w61 : World) =>
  ∃ (x62 : List UInt8) (x63 : Int), e60 = .returned (.tuple ⟨[.string ⟨⟨x62⟩⟩, .int .i64 x63]⟩) ∧ (br (decide ((x63 : Int) ≠ 0)) (dr t2_41 fun p65 =>
  stL w61 p65 0 [.slice none 0 0] fun w64 =>
  dr t3_42 fun p67 =>
  stL w64 p67 0 [.int .i64 x63] fun w66 =>
  Kr w51 w66) (∃ (x68 : List UInt8), World.cell? w61 (p52.add 1) = some (.string ⟨⟨x68⟩⟩) ∧ (al w61 47 [.string ⟨⟨[]⟩⟩, .string ⟨⟨[]⟩⟩] fun p69 w70 =>
  stL w70 p69 0 [.string ⟨⟨x68⟩⟩, .string ⟨⟨x62⟩⟩] fun w71 =>
  dr seen_44 fun p72 =>
  ∃ (x73 : Value), World.cell? w71 p72 = some (x73) ∧ (∃ (x74 : List UInt8), World.cell? w71 (p69.add 0) = some (.string ⟨⟨x74⟩⟩) ∧ (∃ (x75 : List UInt8), World.cell? w71 (p69.add 1) = some (.string ⟨⟨x75⟩⟩) ∧ (∃ (x76 : Bool), lkAt Tryz.prog 72 x73 (.agg ⟨[.string ⟨⟨x74⟩⟩, .string ⟨⟨x75⟩⟩]⟩) w71 (.bool x76) ∧ (br (!x76) (dr seen_44 fun p77 =>
  ∃ (x78 : Value), World.cell? w71 p77 = some (x78) ∧ (∃ (x79 : List UInt8), World.cell? w71 (p69.add 0) = some (.string ⟨⟨x79⟩⟩) ∧ (∃ (x80 : List UInt8), World.cell? w71 (p69.add 1) = some (.string ⟨⟨x80⟩⟩) ∧ (mupd Tryz.prog 72 x78 (.agg ⟨[.string ⟨⟨x79⟩⟩, .string ⟨⟨x80⟩⟩]⟩) (.bool true) w71 fun w81 =>
  dr out_43 fun p82 =>
  ∃ (x83 : Option Addr) (x83n : Nat) (x83c : Nat), World.cell? w81 p82 = some (.slice x83 x83n x83c) ∧ (∃ (x84 : List UInt8), World.cell? w81 (p69.add 0) = some (.string ⟨⟨x84⟩⟩) ∧ (∃ (x85 : List UInt8), World.cell? w81 (p69.add 1) = some (.string ⟨⟨x85⟩⟩) ∧ (al w81 47 [.string ⟨⟨x84⟩⟩, .string ⟨⟨x85⟩⟩] fun p86 w87 =>
  app Tryz.prog [24, 24] 24 (.slice x83 x83n x83c) (.slice (some p86) 1 1) w87 fun a88 a88n a88c w89 =>
  dr out_43 fun p91 =>
  stL w89 p91 0 [.slice a88 a88n a88c] fun w90 =>
  Kn w51 w90))))))) (Kn w51 w71)))))))))))))
set_option maxRecDepth 100000 in
theorem er_legibility_Pairs_1 (base : Env) (t2_41 : Option Addr) (t3_42 : Option Addr) (out_43 : Option Addr) (seen_44 : Option Addr) (t18_45 : Fn) (t18_45a : Array Value) (t18_45b : Array Value) (t19_46 : Int) (t19_47 : List UInt8) (t19_48 : Int) (t19_49 : Option Addr) (t19_49n : Nat) (t19_49c : Nat) (t20_50 : Value) (l : Nat) (Kn Kr Kx : World → World → Prop) (w : World) : fragV Tryz.prog 49 anA_legibility_Pairs_1 anB_legibility_Pairs_1 (cdAt Tryz.f25 [1, 1, 1, 1, 0, 1, 2, 5]) (cdAt Tryz.f25 [1, 1, 1, 1, 0, 1, 2, 6]) l 0 Kn Kr Kx (updPs [19, 20] [.agg ⟨[.int .i64 t19_46, .string ⟨⟨t19_47⟩⟩, .int .i64 t19_48, .slice t19_49 t19_49n t19_49c]⟩, t20_50] (upd (upd (upd (upd (upd base 18 (.func t18_45 t18_45a t18_45b)) 6 (.pointer seen_44)) 5 (.pointer out_43)) 3 (.pointer t3_42)) 2 (.pointer t2_41))) w = rf_legibility_Pairs_1 t2_41 t3_42 out_43 seen_44 t18_45 t18_45a t18_45b t19_46 t19_47 t19_48 t19_49 t19_49n t19_49c t20_50 l Kn Kr Kx w := by kernel_rfl
theorem cd_legibility_Pairs_1 : cdAt Tryz.f25 [1, 1, 1, 1, 0, 1, 2] = .rangeFunc (Operand.tmp 18) #[19, 20] (cdAt Tryz.f25 [1, 1, 1, 1, 0, 1, 2, 5]) (cdAt Tryz.f25 [1, 1, 1, 1, 0, 1, 2, 6]) := by kernel_rfl

def an_slices_Equal_of_api_Rewrite_api_Rewrite : Ann := .two (.leaf) (.two (.two (.leaf) (.two (.two (.leaf) (.leaf)) (.leaf))) (.two (.two (.leaf) (.one (.loop 67100720 [(13, .one (.int .i64))] (.two (.leaf) (.two (.two (.leaf) (.leaf)) (.two (.one (.two (.leaf) (.two (.leaf) (.two (.two (.leaf) (.leaf)) (.leaf))))) (.leaf))))))) (.two (.leaf) (.leaf))))
def sh_slices_Equal_of_api_Rewrite_api_Rewrite (s1_1 : Option Addr) (s1_1n : Nat) (s1_1c : Nat) (s2_2 : Option Addr) (s2_2n : Nat) (s2_2c : Nat) (R : Ending → World → Prop) (w : World) : Prop :=
  br (decide ((((s1_1n : Int)) : Int) ≠ ((s2_2n : Int)))) (R (.returned (.bool false)) w) (∃ (I3 : Int → World → Nat → Prop), (∃ m7 : Nat, I3 0 w m7) ∧ ∀ (t13_4 : Int) (w5 : World) (m6 : Nat), I3 t13_4 w5 m6 → ∀ _ : Env, (br (decide ((t13_4 : Int) < ((s1_1n : Int)))) (drw w5 fun w8 =>
  idx s1_1 s1_1n t13_4 2 fun p9 =>
  ∃ (x10 : List UInt8), World.cell? w8 (p9.add 0) = some (.string ⟨⟨x10⟩⟩) ∧ (∃ (x11 : List UInt8), World.cell? w8 (p9.add 1) = some (.string ⟨⟨x11⟩⟩) ∧ (idx s2_2 s2_2n t13_4 2 fun p12 =>
  ∃ (x13 : List UInt8), World.cell? w8 (p12.add 0) = some (.string ⟨⟨x13⟩⟩) ∧ (∃ (x14 : List UInt8), World.cell? w8 (p12.add 1) = some (.string ⟨⟨x14⟩⟩) ∧ (br (!(decide ((x10 : List UInt8) = x13) && (decide ((x11 : List UInt8) = x14) && true))) (R (.returned (.bool false)) w8) (∃ m15 : Nat, m15 < m6 ∧ I3 (IntKind.i64.wrap (t13_4 + 1)) w8 m15)))))) (R (.returned (.bool true)) w5)))
set_option maxRecDepth 100000 in
theorem e_slices_Equal_of_api_Rewrite_api_Rewrite (s1_1 : Option Addr) (s1_1n : Nat) (s1_1c : Nat) (s2_2 : Option Addr) (s2_2n : Nat) (s2_2c : Nat) (R : Ending → World → Prop) (w : World) : fnV Tryz.prog Tryz.f26 an_slices_Equal_of_api_Rewrite_api_Rewrite [.slice s1_1 s1_1n s1_1c, .slice s2_2 s2_2n s2_2c] R w = sh_slices_Equal_of_api_Rewrite_api_Rewrite s1_1 s1_1n s1_1c s2_2 s2_2n s2_2c R w := by kernel_rfl
theorem c_slices_Equal_of_api_Rewrite_api_Rewrite {s1_1 : Option Addr} {s1_1n : Nat} {s1_1c : Nat} {s2_2 : Option Addr} {s2_2n : Nat} {s2_2c : Nat} {R : Ending → World → Prop} {w : World} (h : sh_slices_Equal_of_api_Rewrite_api_Rewrite s1_1 s1_1n s1_1c s2_2 s2_2n s2_2c R w) : Calls Tryz.prog F_slices_Equal_of_api_Rewrite_api_Rewrite ⟨[.slice s1_1 s1_1n s1_1c, .slice s2_2 s2_2n s2_2c]⟩ w R := calls_of_fnV Tryz.func26 (by rw [e_slices_Equal_of_api_Rewrite_api_Rewrite]; exact h)

def an_legibility_check : Ann := .two (.leaf) (.two (.two (.leaf) (.two (.two (.leaf) (.leaf)) (.leaf))) (.two (.two (.leaf) (.one (.rf [2, 8] 0))) (.two (.leaf) (.leaf))))
def sh_legibility_check (l_1 : Option Addr) (l_1n : Nat) (l_1c : Nat) (R : Ending → World → Prop) (w : World) : Prop :=
  al w 30 [.int .i64 0] fun p2 w3 =>
  Calls Tryz.prog 30 ⟨[.slice l_1 l_1n l_1c]⟩ w3 fun (e4 : Ending) (w5 : World) =>
  ∃ (x6 : Int), e4 = .returned (.int .i64 x6) ∧ (br (decide ((x6 : Int) ≠ 0)) (stL w5 p2 0 [.int .i64 1] fun w7 =>
  ∃ (x8 : Int), World.cell? w7 p2 = some (.int .i64 x8) ∧ (R (.returned (.int .i64 x8)) w7)) (Calls Tryz.prog 49 ⟨[.slice l_1 l_1n l_1c]⟩ w5 fun (e9 : Ending) (w10 : World) =>
  ∃ (x11 : Fn) (x11a : Array Value) (x11b : Array Value), e9 = .returned (.func x11 x11a x11b) ∧ (∀ base12 : Env, RFw Tryz.prog none 19 (cdAt Tryz.f27 [1, 1, 0, 1, 2]) (upd (upd base12 8 (.func x11 x11a x11b)) 2 (.pointer (some p2))) [] w10 0 (fun ds13 w14 =>
  stL w14 p2 0 [.int .i64 0] fun w18 =>
  retD ds13 w18 fun w19 =>
  ∃ (x20 : Int), World.cell? w19 p2 = some (.int .i64 x20) ∧ (R (.returned (.int .i64 x20)) w19)) (fun ds13 w14 =>
  retD ds13 w14 fun w21 =>
  ∃ (x22 : Int), World.cell? w21 p2 = some (.int .i64 x22) ∧ (R (.returned (.int .i64 x22)) w21)) (fun ds13 w14 =>
  stL w14 p2 0 [.int .i64 0] fun w15 =>
  retD ds13 w15 fun w16 =>
  ∃ (x17 : Int), World.cell? w16 p2 = some (.int .i64 x17) ∧ (R (.returned (.int .i64 x17)) w16)))))
set_option maxRecDepth 100000 in
theorem e_legibility_check (l_1 : Option Addr) (l_1n : Nat) (l_1c : Nat) (R : Ending → World → Prop) (w : World) : fnV Tryz.prog Tryz.f27 an_legibility_check [.slice l_1 l_1n l_1c] R w = sh_legibility_check l_1 l_1n l_1c R w := by kernel_rfl
theorem c_legibility_check {l_1 : Option Addr} {l_1n : Nat} {l_1c : Nat} {R : Ending → World → Prop} {w : World} (h : sh_legibility_check l_1 l_1n l_1c R w) : Calls Tryz.prog F_legibility_check ⟨[.slice l_1 l_1n l_1c]⟩ w R := calls_of_fnV Tryz.func27 (by rw [e_legibility_check]; exact h)
def anA_legibility_check_1 : Ann := .leaf
def anB_legibility_check_1 : Ann := .one (.two (.leaf) (.two (.two (.leaf) (.leaf)) (.leaf)))
def rf_legibility_check_1 (t2_23 : Option Addr) (t8_24 : Fn) (t8_24a : Array Value) (t8_24b : Array Value) (t9_25 : Int) (t9_26 : List UInt8) (t9_27 : Int) (t9_28 : Option Addr) (t9_28n : Nat) (t9_28c : Nat) (t10_29 : Value) (l : Nat) (Kn Kr Kx : World → World → Prop) (w : World) : Prop :=
  al w 45 [.int .i64 0, .string ⟨⟨[]⟩⟩, .int .i64 0, .slice none 0 0] fun p31 w32 =>
  stL w32 p31 0 [.int .i64 t9_25, .string ⟨⟨t9_26⟩⟩, .int .i64 t9_27, .slice t9_28 t9_28n t9_28c] fun w33 =>
  Ext w w33 ∧ ∀ w30 : World, Upd l w33 w30 → (∃ (x34 : Int), World.cell? w30 (p31.add 0) = some (.int .i64 x34) ∧ (br (decide ((x34 : Int) = 8)) (dr t2_23 fun p36 =>
  stL w30 p36 0 [.int .i64 13] fun w35 =>
  Kr w30 w35) (∃ (x37 : Int), World.cell? w30 (p31.add 0) = some (.int .i64 x37) ∧ (br (decide ((x37 : Int) = 9)) (dr t2_23 fun p39 =>
  stL w30 p39 0 [.int .i64 13] fun w38 =>
  Kr w30 w38) (Kn w30 w30)))))
set_option maxRecDepth 100000 in
theorem er_legibility_check_1 (base : Env) (t2_23 : Option Addr) (t8_24 : Fn) (t8_24a : Array Value) (t8_24b : Array Value) (t9_25 : Int) (t9_26 : List UInt8) (t9_27 : Int) (t9_28 : Option Addr) (t9_28n : Nat) (t9_28c : Nat) (t10_29 : Value) (l : Nat) (Kn Kr Kx : World → World → Prop) (w : World) : fragV Tryz.prog 19 anA_legibility_check_1 anB_legibility_check_1 (cdAt Tryz.f27 [1, 1, 0, 1, 2, 5]) (cdAt Tryz.f27 [1, 1, 0, 1, 2, 6]) l 0 Kn Kr Kx (updPs [9, 10] [.agg ⟨[.int .i64 t9_25, .string ⟨⟨t9_26⟩⟩, .int .i64 t9_27, .slice t9_28 t9_28n t9_28c]⟩, t10_29] (upd (upd base 8 (.func t8_24 t8_24a t8_24b)) 2 (.pointer t2_23))) w = rf_legibility_check_1 t2_23 t8_24 t8_24a t8_24b t9_25 t9_26 t9_27 t9_28 t9_28n t9_28c t10_29 l Kn Kr Kx w := by kernel_rfl
theorem cd_legibility_check_1 : cdAt Tryz.f27 [1, 1, 0, 1, 2] = .rangeFunc (Operand.tmp 8) #[9, 10] (cdAt Tryz.f27 [1, 1, 0, 1, 2, 5]) (cdAt Tryz.f27 [1, 1, 0, 1, 2, 6]) := by kernel_rfl

def an_legibility_Supply_1 : Ann := .two (.leaf) (.two (.leaf) (.two (.two (.leaf) (.one (.loop 9007199254737536 [(7, .one (.slice)), (12, .one (.int .i64))] (.two (.leaf) (.two (.two (.leaf) (.leaf)) (.two (.one (.two (.leaf) (.two (.two (.leaf) (.two (.two (.leaf) (.two (.leaf) (.leaf))) (.leaf))) (.two (.cut 4397778075648 [(41, .one (.bool))] (.leaf) (.two (.leaf) (.leaf))) (.leaf))))) (.leaf))))))) (.two (.leaf) (.leaf))))
def sh_legibility_Supply_1 (l_1 : Option Addr) (l_1n : Nat) (l_1c : Nat) (t1_2 : Option Addr) (t2_3 : Option Addr) (t3_4 : Option Addr) (t4_5 : Option Addr) (R : Ending → World → Prop) (w : World) : Prop :=
  ∃ (I6 : Option Addr → Nat → Nat → Int → World → Nat → Prop), (∃ m11 : Nat, I6 none 0 0 0 w m11) ∧ ∀ (out_7 : Option Addr) (out_7n : Nat) (out_7c : Nat) (t12_8 : Int) (w9 : World) (m10 : Nat), I6 out_7 out_7n out_7c t12_8 w9 m10 → ∀ _ : Env, (br (decide ((t12_8 : Int) < ((l_1n : Int)))) (idx l_1 l_1n t12_8 4 fun p12 =>
  ∃ (x13 : Int), World.cell? w9 (p12.add 0) = some (.int .i64 x13) ∧ (∃ (x14 : List UInt8), World.cell? w9 (p12.add 1) = some (.string ⟨⟨x14⟩⟩) ∧ (∃ (x15 : Int), World.cell? w9 (p12.add 2) = some (.int .i64 x15) ∧ (∃ (x16 : Option Addr) (x16n : Nat) (x16c : Nat), World.cell? w9 (p12.add 3) = some (.slice x16 x16n x16c) ∧ (al w9 45 [.int .i64 0, .string ⟨⟨[]⟩⟩, .int .i64 0, .slice none 0 0] fun p17 w18 =>
  stL w18 p17 0 [.int .i64 x13, .string ⟨⟨x14⟩⟩, .int .i64 x15, .slice x16 x16n x16c] fun w19 =>
  ∃ (x20 : Int), World.cell? w19 (p17.add 0) = some (.int .i64 x20) ∧ (br (decide ((x20 : Int) ≠ 6)) (dr t1_2 fun p21 =>
  ∃ (x22 : Fn) (x22a : Array Value) (x22b : Array Value), World.cell? w19 p21 = some (.func x22 x22a x22b) ∧ (∃ (x23 : Option Addr) (x23n : Nat) (x23c : Nat), World.cell? w19 (p17.add 3) = some (.slice x23 x23n x23c) ∧ (CallV Tryz.prog (.func x22 x22a x22b) [.slice x23 x23n x23c] w19 fun (e24 : Ending) (w25 : World) =>
  ∃ (x26 : Option Addr) (x26n : Nat) (x26c : Nat), e24 = .returned (.slice x26 x26n x26c) ∧ (stL w25 (p17.add 3) 0 [.slice x26 x26n x26c] fun w27 =>
  ∃ (x28 : Int), World.cell? w27 (p17.add 0) = some (.int .i64 x28) ∧ (∃ (x29 : List UInt8), World.cell? w27 (p17.add 1) = some (.string ⟨⟨x29⟩⟩) ∧ (∃ (x30 : Int), World.cell? w27 (p17.add 2) = some (.int .i64 x30) ∧ (∃ (x31 : Option Addr) (x31n : Nat) (x31c : Nat), World.cell? w27 (p17.add 3) = some (.slice x31 x31n x31c) ∧ (al w27 45 [.int .i64 x28, .string ⟨⟨x29⟩⟩, .int .i64 x30, .slice x31 x31n x31c] fun p32 w33 =>
  app Tryz.prog [22, 22] 22 (.slice out_7 out_7n out_7c) (.slice (some p32) 1 1) w33 fun a34 a34n a34c w35 =>
  ∃ m36 : Nat, m36 < m10 ∧ I6 a34 a34n a34c (IntKind.i64.wrap (t12_8 + 1)) w35 m36)))))))) (∀ (K37 : Bool → World → Prop), (∀ (t41_38 : Bool) (w39 : World), (∀ _ : Env, (br t41_38 (dr t4_5 fun p41 =>
  stL w39 p41 0 [.bool false] fun w40 =>
  dr t2_3 fun p42 =>
  ∃ (x43 : Int), World.cell? w40 p42 = some (.int .i64 x43) ∧ (dr t2_3 fun p45 =>
  stL w40 p45 0 [.int .i64 (IntKind.i64.wrap (x43 + 1))] fun w44 =>
  ∃ m46 : Nat, m46 < m10 ∧ I6 out_7 out_7n out_7c (IntKind.i64.wrap (t12_8 + 1)) w44 m46)) (dr t3_4 fun p47 =>
  ∃ (x48 : Option Addr) (x48n : Nat) (x48c : Nat), World.cell? w39 p47 = some (.slice x48 x48n x48c) ∧ (dr t2_3 fun p49 =>
  ∃ (x50 : Int), World.cell? w39 p49 = some (.int .i64 x50) ∧ (idx x48 x48n x50 1 fun p51 =>
  ∃ (x52 : List UInt8), World.cell? w39 p51 = some (.string ⟨⟨x52⟩⟩) ∧ (al w39 45 [.int .i64 1, .string ⟨⟨x52⟩⟩, .int .i64 0, .slice none 0 0] fun p53 w54 =>
  app Tryz.prog [22, 22] 22 (.slice out_7 out_7n out_7c) (.slice (some p53) 1 1) w54 fun a55 a55n a55c w56 =>
  dr t2_3 fun p57 =>
  ∃ (x58 : Int), World.cell? w56 p57 = some (.int .i64 x58) ∧ (dr t2_3 fun p60 =>
  stL w56 p60 0 [.int .i64 (IntKind.i64.wrap (x58 + 1))] fun w59 =>
  ∃ m61 : Nat, m61 < m10 ∧ I6 a55 a55n a55c (IntKind.i64.wrap (t12_8 + 1)) w59 m61))))))) → K37 t41_38 w39) → (drw w19 fun w62 =>
  dr t2_3 fun p63 =>
  ∃ (x64 : Int), World.cell? w62 p63 = some (.int .i64 x64) ∧ (dr t3_4 fun p65 =>
  ∃ (x66 : Option Addr) (x66n : Nat) (x66c : Nat), World.cell? w62 p65 = some (.slice x66 x66n x66c) ∧ (br (decide ((((x66n : Int)) : Int) ≤ x64)) (K37 true w62) (dr t3_4 fun p67 =>
  ∃ (x68 : Option Addr) (x68n : Nat) (x68c : Nat), World.cell? w62 p67 = some (.slice x68 x68n x68c) ∧ (dr t2_3 fun p69 =>
  ∃ (x70 : Int), World.cell? w62 p69 = some (.int .i64 x70) ∧ (idx x68 x68n x70 1 fun p71 =>
  ∃ (x72 : List UInt8), World.cell? w62 p71 = some (.string ⟨⟨x72⟩⟩) ∧ (∃ (x73 : Int), World.cell? w62 (p17.add 2) = some (.int .i64 x73) ∧ (K37 (decide ((((List.length x72 : Int)) : Int) ≠ x73)) w62))))))))))))))) (R (.returned (.slice out_7 out_7n out_7c)) w9))
set_option maxRecDepth 100000 in
theorem e_legibility_Supply_1 (l_1 : Option Addr) (l_1n : Nat) (l_1c : Nat) (t1_2 : Option Addr) (t2_3 : Option Addr) (t3_4 : Option Addr) (t4_5 : Option Addr) (R : Ending → World → Prop) (w : World) : fnV Tryz.prog Tryz.f28 an_legibility_Supply_1 [.slice l_1 l_1n l_1c, .pointer t1_2, .pointer t2_3, .pointer t3_4, .pointer t4_5] R w = sh_legibility_Supply_1 l_1 l_1n l_1c t1_2 t2_3 t3_4 t4_5 R w := by kernel_rfl
theorem c_legibility_Supply_1 {l_1 : Option Addr} {l_1n : Nat} {l_1c : Nat} {t1_2 : Option Addr} {t2_3 : Option Addr} {t3_4 : Option Addr} {t4_5 : Option Addr} {R : Ending → World → Prop} {w : World} (h : sh_legibility_Supply_1 l_1 l_1n l_1c t1_2 t2_3 t3_4 t4_5 R w) : Calls Tryz.prog F_legibility_Supply_1 ⟨[.slice l_1 l_1n l_1c, .pointer t1_2, .pointer t2_3, .pointer t3_4, .pointer t4_5]⟩ w R := calls_of_fnV Tryz.func28 (by rw [e_legibility_Supply_1]; exact h)

def an_transcript_Merge : Ann := .two (.leaf) (.two (.leaf) (.two (.two (.leaf) (.one (.loop 288230376151711336 [(3, .one (.slice)), (9, .one (.int .i64))] (.two (.leaf) (.two (.two (.leaf) (.leaf)) (.two (.one (.two (.leaf) (.cut 2088960 [] (.two (.leaf) (.two (.leaf) (.leaf))) (.two (.two (.leaf) (.cut 549739036672 [(38, .one (.bool))] (.leaf) (.two (.two (.leaf) (.leaf)) (.leaf)))) (.two (.leaf) (.leaf)))))) (.leaf))))))) (.two (.leaf) (.leaf))))
def sh_transcript_Merge (l_1 : Option Addr) (l_1n : Nat) (l_1c : Nat) (R : Ending → World → Prop) (w : World) : Prop :=
  ∃ (I2 : Option Addr → Nat → Nat → Int → World → Nat → Prop), (∃ m7 : Nat, I2 none 0 0 0 w m7) ∧ ∀ (out_3 : Option Addr) (out_3n : Nat) (out_3c : Nat) (t9_4 : Int) (w5 : World) (m6 : Nat), I2 out_3 out_3n out_3c t9_4 w5 m6 → ∀ _ : Env, (br (decide ((t9_4 : Int) < ((l_1n : Int)))) (idx l_1 l_1n t9_4 4 fun p8 =>
  ∃ (x9 : Int), World.cell? w5 (p8.add 0) = some (.int .i64 x9) ∧ (∃ (x10 : List UInt8), World.cell? w5 (p8.add 1) = some (.string ⟨⟨x10⟩⟩) ∧ (∃ (x11 : Int), World.cell? w5 (p8.add 2) = some (.int .i64 x11) ∧ (∃ (x12 : Option Addr) (x12n : Nat) (x12c : Nat), World.cell? w5 (p8.add 3) = some (.slice x12 x12n x12c) ∧ (al w5 45 [.int .i64 0, .string ⟨⟨[]⟩⟩, .int .i64 0, .slice none 0 0] fun p13 w14 =>
  stL w14 p13 0 [.int .i64 x9, .string ⟨⟨x10⟩⟩, .int .i64 x11, .slice x12 x12n x12c] fun w15 =>
  ∀ (K16 : World → Prop), (∀  (w17 : World), (∀ _ : Env, (∀ (K18 : Bool → World → Prop), (∀ (t38_19 : Bool) (w20 : World), (∀ _ : Env, (br t38_19 (drw w20 fun w21 =>
  idx out_3 out_3n (IntKind.i64.wrap (((out_3n : Int)) - 1)) 4 fun p22 =>
  ∃ (x23 : List UInt8), World.cell? w21 (p22.add 1) = some (.string ⟨⟨x23⟩⟩) ∧ (∃ (x24 : List UInt8), World.cell? w21 (p13.add 1) = some (.string ⟨⟨x24⟩⟩) ∧ (sadd x23 x24 fun s25 =>
  idx out_3 out_3n (IntKind.i64.wrap (((out_3n : Int)) - 1)) 4 fun p26 =>
  (stL w21 (p26.add 1) 0 [.string ⟨⟨s25⟩⟩] fun w27 =>
  ∃ m28 : Nat, m28 < m6 ∧ I2 out_3 out_3n out_3c (IntKind.i64.wrap (t9_4 + 1)) w27 m28) ∧ True))) (∃ (x29 : Option Addr) (x29n : Nat) (x29c : Nat), World.cell? w20 (p13.add 3) = some (.slice x29 x29n x29c) ∧ (Calls Tryz.prog 29 ⟨[.slice x29 x29n x29c]⟩ w20 fun (e30 : Ending) (w31 : World) =>
  ∃ (x32 : Option Addr) (x32n : Nat) (x32c : Nat), e30 = .returned (.slice x32 x32n x32c) ∧ (stL w31 (p13.add 3) 0 [.slice x32 x32n x32c] fun w33 =>
  ∃ (x34 : Int), World.cell? w33 (p13.add 0) = some (.int .i64 x34) ∧ (∃ (x35 : List UInt8), World.cell? w33 (p13.add 1) = some (.string ⟨⟨x35⟩⟩) ∧ (∃ (x36 : Int), World.cell? w33 (p13.add 2) = some (.int .i64 x36) ∧ (∃ (x37 : Option Addr) (x37n : Nat) (x37c : Nat), World.cell? w33 (p13.add 3) = some (.slice x37 x37n x37c) ∧ (al w33 45 [.int .i64 x34, .string ⟨⟨x35⟩⟩, .int .i64 x36, .slice x37 x37n x37c] fun p38 w39 =>
  app Tryz.prog [22, 22] 22 (.slice out_3 out_3n out_3c) (.slice (some p38) 1 1) w39 fun a40 a40n a40c w41 =>
  ∃ m42 : Nat, m42 < m6 ∧ I2 a40 a40n a40c (IntKind.i64.wrap (t9_4 + 1)) w41 m42))))))))) → K18 t38_19 w20) → (br (decide ((0 : Int) ≤ (IntKind.i64.wrap (((out_3n : Int)) - 1)))) (∃ (x43 : Int), World.cell? w17 (p13.add 0) = some (.int .i64 x43) ∧ (br (decide ((x43 : Int) = 1)) (idx out_3 out_3n (IntKind.i64.wrap (((out_3n : Int)) - 1)) 4 fun p44 =>
  ∃ (x45 : Int), World.cell? w17 (p44.add 0) = some (.int .i64 x45) ∧ (K18 (decide ((x45 : Int) = 1)) w17)) (K18 false w17))) (K18 false w17)))) → K16 w17) → (∃ (x46 : Int), World.cell? w15 (p13.add 0) = some (.int .i64 x46) ∧ (br (decide ((x46 : Int) = 1)) (∃ (x47 : List UInt8), World.cell? w15 (p13.add 1) = some (.string ⟨⟨x47⟩⟩) ∧ (br (decide ((x47 : List UInt8) = ([]))) (∃ m48 : Nat, m48 < m6 ∧ I2 out_3 out_3n out_3c (IntKind.i64.wrap (t9_4 + 1)) w15 m48) (K16 w15))) (K16 w15)))))))) (R (.returned (.slice out_3 out_3n out_3c)) w5))
set_option maxRecDepth 100000 in
theorem e_transcript_Merge (l_1 : Option Addr) (l_1n : Nat) (l_1c : Nat) (R : Ending → World → Prop) (w : World) : fnV Tryz.prog Tryz.f29 an_transcript_Merge [.slice l_1 l_1n l_1c] R w = sh_transcript_Merge l_1 l_1n l_1c R w := by kernel_rfl
theorem c_transcript_Merge {l_1 : Option Addr} {l_1n : Nat} {l_1c : Nat} {R : Ending → World → Prop} {w : World} (h : sh_transcript_Merge l_1 l_1n l_1c R w) : Calls Tryz.prog F_transcript_Merge ⟨[.slice l_1 l_1n l_1c]⟩ w R := calls_of_fnV Tryz.func29 (by rw [e_transcript_Merge]; exact h)

def an_transcript_Check : Ann := .two (.leaf) (.two (.leaf) (.two (.leaf) (.two (.two (.leaf) (.one (.rf [0, 2, 4, 10] 0))) (.two (.two (.leaf) (.one (.rf [0, 2, 28] 0))) (.two (.two (.leaf) (.two (.two (.leaf) (.leaf)) (.leaf))) (.two (.leaf) (.leaf)))))))
def sh_transcript_Check (l_1 : Option Addr) (l_1n : Nat) (l_1c : Nat) (R : Ending → World → Prop) (w : World) : Prop :=
  al w 30 [.int .i64 0] fun p2 w3 =>
  al w3 3 [.int .i64 0] fun p4 w5 =>
  stL w5 p4 0 [.int .i64 4096] fun w6 =>
  al w6 29 [.nilFunc] fun p7 w8 =>
  stL w8 p7 0 [.func (.func 50) ⟨[]⟩ ⟨[.pointer (some p4)]⟩] fun w9 =>
  Calls Tryz.prog 51 ⟨[.slice l_1 l_1n l_1c]⟩ w9 fun (e10 : Ending) (w11 : World) =>
  ∃ (x12 : Fn) (x12a : Array Value) (x12b : Array Value), e10 = .returned (.func x12 x12a x12b) ∧ (∀ base13 : Env, RFw Tryz.prog none 39 (cdAt Tryz.f30 [1, 1, 1, 0, 1, 2]) (upd (upd (upd (upd base13 10 (.func x12 x12a x12b)) 4 (.pointer (some p7))) 2 (.pointer (some p2))) 0 (.slice l_1 l_1n l_1c)) [] w11 0 (fun ds14 w15 =>
  Calls Tryz.prog 51 ⟨[.slice l_1 l_1n l_1c]⟩ w15 fun (e33 : Ending) (w34 : World) =>
  ∃ (x35 : Fn) (x35a : Array Value) (x35b : Array Value), e33 = .returned (.func x35 x35a x35b) ∧ (∀ base36 : Env, RFw Tryz.prog none 39 (cdAt Tryz.f30 [1, 1, 1, 1, 0, 1, 2]) (upd (upd (upd base36 28 (.func x35 x35a x35b)) 2 (.pointer (some p2))) 0 (.slice l_1 l_1n l_1c)) ds14 w34 0 (fun ds37 w38 =>
  Calls Tryz.prog 53 ⟨[.slice l_1 l_1n l_1c]⟩ w38 fun (e39 : Ending) (w40 : World) =>
  ∃ (x41 : List UInt8), e39 = .returned (.string ⟨⟨x41⟩⟩) ∧ (br (decide ((65536 : Int) < ((List.length x41 : Int)))) (stL w40 p2 0 [.int .i64 4] fun w42 =>
  retD ds37 w42 fun w43 =>
  ∃ (x44 : Int), World.cell? w43 p2 = some (.int .i64 x44) ∧ (R (.returned (.int .i64 x44)) w43)) (stL w40 p2 0 [.int .i64 0] fun w45 =>
  retD ds37 w45 fun w46 =>
  ∃ (x47 : Int), World.cell? w46 p2 = some (.int .i64 x47) ∧ (R (.returned (.int .i64 x47)) w46)))) (fun ds37 w38 =>
  retD ds37 w38 fun w48 =>
  ∃ (x49 : Int), World.cell? w48 p2 = some (.int .i64 x49) ∧ (R (.returned (.int .i64 x49)) w48)) (fun ds37 w38 =>
  False))) (fun ds14 w15 =>
  retD ds14 w15 fun w50 =>
  ∃ (x51 : Int), World.cell? w50 p2 = some (.int .i64 x51) ∧ (R (.returned (.int .i64 x51)) w50)) (fun ds14 w15 =>
  Calls Tryz.prog 51 ⟨[.slice l_1 l_1n l_1c]⟩ w15 fun (e16 : Ending) (w17 : World) =>
  ∃ (x18 : Fn) (x18a : Array Value) (x18b : Array Value), e16 = .returned (.func x18 x18a x18b) ∧ (∀ base19 : Env, RFw Tryz.prog none 39 (cdAt Tryz.f30 [1, 1, 1, 1, 0, 1, 2]) (upd (upd (upd base19 28 (.func x18 x18a x18b)) 2 (.pointer (some p2))) 0 (.slice l_1 l_1n l_1c)) ds14 w17 0 (fun ds20 w21 =>
  Calls Tryz.prog 53 ⟨[.slice l_1 l_1n l_1c]⟩ w21 fun (e22 : Ending) (w23 : World) =>
  ∃ (x24 : List UInt8), e22 = .returned (.string ⟨⟨x24⟩⟩) ∧ (br (decide ((65536 : Int) < ((List.length x24 : Int)))) (stL w23 p2 0 [.int .i64 4] fun w25 =>
  retD ds20 w25 fun w26 =>
  ∃ (x27 : Int), World.cell? w26 p2 = some (.int .i64 x27) ∧ (R (.returned (.int .i64 x27)) w26)) (stL w23 p2 0 [.int .i64 0] fun w28 =>
  retD ds20 w28 fun w29 =>
  ∃ (x30 : Int), World.cell? w29 p2 = some (.int .i64 x30) ∧ (R (.returned (.int .i64 x30)) w29)))) (fun ds20 w21 =>
  retD ds20 w21 fun w31 =>
  ∃ (x32 : Int), World.cell? w31 p2 = some (.int .i64 x32) ∧ (R (.returned (.int .i64 x32)) w31)) (fun ds20 w21 =>
  False))))
set_option maxRecDepth 100000 in
theorem e_transcript_Check (l_1 : Option Addr) (l_1n : Nat) (l_1c : Nat) (R : Ending → World → Prop) (w : World) : fnV Tryz.prog Tryz.f30 an_transcript_Check [.slice l_1 l_1n l_1c] R w = sh_transcript_Check l_1 l_1n l_1c R w := by kernel_rfl
theorem c_transcript_Check {l_1 : Option Addr} {l_1n : Nat} {l_1c : Nat} {R : Ending → World → Prop} {w : World} (h : sh_transcript_Check l_1 l_1n l_1c R w) : Calls Tryz.prog F_transcript_Check ⟨[.slice l_1 l_1n l_1c]⟩ w R := calls_of_fnV Tryz.func30 (by rw [e_transcript_Check]; exact h)
def anA_transcript_Check_1 : Ann := .leaf
def anB_transcript_Check_1 : Ann := .one (.two (.leaf) (.two (.two (.leaf) (.leaf)) (.leaf)))
def rf_transcript_Check_1 (l_52 : Option Addr) (l_52n : Nat) (l_52c : Nat) (t2_53 : Option Addr) (spend_54 : Option Addr) (t10_55 : Fn) (t10_55a : Array Value) (t10_55b : Array Value) (t11_56 : Int) (t11_57 : List UInt8) (t11_58 : Int) (t11_59 : Option Addr) (t11_59n : Nat) (t11_59c : Nat) (t11_60 : Int) (t11_61 : Bool) (l : Nat) (Kn Kr Kx : World → World → Prop) (w : World) : Prop :=
  al w 80 [.int .i64 0, .string ⟨⟨[]⟩⟩, .int .i64 0, .slice none 0 0, .int .i64 0, .bool false] fun p63 w64 =>
  stL w64 p63 0 [.int .i64 t11_56, .string ⟨⟨t11_57⟩⟩, .int .i64 t11_58, .slice t11_59 t11_59n t11_59c, .int .i64 t11_60, .bool t11_61] fun w65 =>
  Ext w w65 ∧ ∀ w62 : World, Upd l w65 w62 → (dr spend_54 fun p66 =>
  ∃ (x67 : Fn) (x67a : Array Value) (x67b : Array Value), World.cell? w62 p66 = some (.func x67 x67a x67b) ∧ (CallV Tryz.prog (.func x67 x67a x67b) [] w62 fun (e68 : Ending) (w69 : World) =>
  ∃ (x70 : Bool), e68 = .returned (.bool x70) ∧ (br (!x70) (dr t2_53 fun p72 =>
  stL w69 p72 0 [.int .i64 4] fun w71 =>
  Kr w62 w71) (∃ (x73 : Int), World.cell? w69 (p63.add 4) = some (.int .i64 x73) ∧ (br (decide ((16 : Int) ≤ x73)) (∃ (x74 : Option Addr) (x74n : Nat) (x74c : Nat), World.cell? w69 ((p63.add 0).add 3) = some (.slice x74 x74n x74c) ∧ (br (decide ((0 : Int) < ((x74n : Int)))) (dr t2_53 fun p76 =>
  stL w69 p76 0 [.int .i64 4] fun w75 =>
  Kr w62 w75) (Kn w62 w69))) (Kn w62 w69))))))
set_option maxRecDepth 100000 in
theorem er_transcript_Check_1 (base : Env) (l_52 : Option Addr) (l_52n : Nat) (l_52c : Nat) (t2_53 : Option Addr) (spend_54 : Option Addr) (t10_55 : Fn) (t10_55a : Array Value) (t10_55b : Array Value) (t11_56 : Int) (t11_57 : List UInt8) (t11_58 : Int) (t11_59 : Option Addr) (t11_59n : Nat) (t11_59c : Nat) (t11_60 : Int) (t11_61 : Bool) (l : Nat) (Kn Kr Kx : World → World → Prop) (w : World) : fragV Tryz.prog 39 anA_transcript_Check_1 anB_transcript_Check_1 (cdAt Tryz.f30 [1, 1, 1, 0, 1, 2, 5]) (cdAt Tryz.f30 [1, 1, 1, 0, 1, 2, 6]) l 0 Kn Kr Kx (updPs [11] [.agg ⟨[.int .i64 t11_56, .string ⟨⟨t11_57⟩⟩, .int .i64 t11_58, .slice t11_59 t11_59n t11_59c, .int .i64 t11_60, .bool t11_61]⟩] (upd (upd (upd (upd base 10 (.func t10_55 t10_55a t10_55b)) 4 (.pointer spend_54)) 2 (.pointer t2_53)) 0 (.slice l_52 l_52n l_52c))) w = rf_transcript_Check_1 l_52 l_52n l_52c t2_53 spend_54 t10_55 t10_55a t10_55b t11_56 t11_57 t11_58 t11_59 t11_59n t11_59c t11_60 t11_61 l Kn Kr Kx w := by kernel_rfl
theorem cd_transcript_Check_1 : cdAt Tryz.f30 [1, 1, 1, 0, 1, 2] = .rangeFunc (Operand.tmp 10) #[11] (cdAt Tryz.f30 [1, 1, 1, 0, 1, 2, 5]) (cdAt Tryz.f30 [1, 1, 1, 0, 1, 2, 6]) := by kernel_rfl
def anA_transcript_Check_2 : Ann := .leaf
def anB_transcript_Check_2 : Ann := .one (.two (.leaf) (.two (.leaf) (.two (.two (.leaf) (.leaf)) (.leaf))))
def rf_transcript_Check_2 (l_77 : Option Addr) (l_77n : Nat) (l_77c : Nat) (t2_78 : Option Addr) (t28_79 : Fn) (t28_79a : Array Value) (t28_79b : Array Value) (t29_80 : Int) (t29_81 : List UInt8) (t29_82 : Int) (t29_83 : Option Addr) (t29_83n : Nat) (t29_83c : Nat) (t29_84 : Int) (t29_85 : Bool) (l : Nat) (Kn Kr Kx : World → World → Prop) (w : World) : Prop :=
  al w 80 [.int .i64 0, .string ⟨⟨[]⟩⟩, .int .i64 0, .slice none 0 0, .int .i64 0, .bool false] fun p87 w88 =>
  stL w88 p87 0 [.int .i64 t29_80, .string ⟨⟨t29_81⟩⟩, .int .i64 t29_82, .slice t29_83 t29_83n t29_83c, .int .i64 t29_84, .bool t29_85] fun w89 =>
  Ext w w89 ∧ ∀ w86 : World, Upd l w89 w86 → (∃ (x90 : Int), World.cell? w86 (p87.add 0) = some (.int .i64 x90) ∧ (∃ (x91 : List UInt8), World.cell? w86 (p87.add 1) = some (.string ⟨⟨x91⟩⟩) ∧ (∃ (x92 : Int), World.cell? w86 (p87.add 2) = some (.int .i64 x92) ∧ (∃ (x93 : Option Addr) (x93n : Nat) (x93c : Nat), World.cell? w86 (p87.add 3) = some (.slice x93 x93n x93c) ∧ (∃ (x94 : Int), World.cell? w86 (p87.add 4) = some (.int .i64 x94) ∧ (∃ (x95 : Bool), World.cell? w86 (p87.add 5) = some (.bool x95) ∧ (Calls Tryz.prog 52 ⟨[.agg ⟨[.int .i64 x90, .string ⟨⟨x91⟩⟩, .int .i64 x92, .slice x93 x93n x93c, .int .i64 x94, .bool x95]⟩]⟩ w86 fun (e96 : Ending) (w97 : World) =>
  ∃ (x98 : Int), e96 = .returned (.int .i64 x98) ∧ (br (decide ((x98 : Int) ≠ 0)) (dr t2_78 fun p100 =>
  stL w97 p100 0 [.int .i64 x98] fun w99 =>
  Kr w86 w99) (Kn w86 w97)))))))))
set_option maxRecDepth 100000 in
theorem er_transcript_Check_2 (base : Env) (l_77 : Option Addr) (l_77n : Nat) (l_77c : Nat) (t2_78 : Option Addr) (t28_79 : Fn) (t28_79a : Array Value) (t28_79b : Array Value) (t29_80 : Int) (t29_81 : List UInt8) (t29_82 : Int) (t29_83 : Option Addr) (t29_83n : Nat) (t29_83c : Nat) (t29_84 : Int) (t29_85 : Bool) (l : Nat) (Kn Kr Kx : World → World → Prop) (w : World) : fragV Tryz.prog 39 anA_transcript_Check_2 anB_transcript_Check_2 (cdAt Tryz.f30 [1, 1, 1, 1, 0, 1, 2, 5]) (cdAt Tryz.f30 [1, 1, 1, 1, 0, 1, 2, 6]) l 0 Kn Kr Kx (updPs [29] [.agg ⟨[.int .i64 t29_80, .string ⟨⟨t29_81⟩⟩, .int .i64 t29_82, .slice t29_83 t29_83n t29_83c, .int .i64 t29_84, .bool t29_85]⟩] (upd (upd (upd base 28 (.func t28_79 t28_79a t28_79b)) 2 (.pointer t2_78)) 0 (.slice l_77 l_77n l_77c))) w = rf_transcript_Check_2 l_77 l_77n l_77c t2_78 t28_79 t28_79a t28_79b t29_80 t29_81 t29_82 t29_83 t29_83n t29_83c t29_84 t29_85 l Kn Kr Kx w := by kernel_rfl
theorem cd_transcript_Check_2 : cdAt Tryz.f30 [1, 1, 1, 1, 0, 1, 2] = .rangeFunc (Operand.tmp 28) #[29] (cdAt Tryz.f30 [1, 1, 1, 1, 0, 1, 2, 5]) (cdAt Tryz.f30 [1, 1, 1, 1, 0, 1, 2, 6]) := by kernel_rfl

def an_ref12_check : Ann := .two (.leaf) (.two (.two (.leaf) (.two (.two (.leaf) (.leaf)) (.leaf))) (.two (.two (.leaf) (.two (.two (.leaf) (.leaf)) (.leaf))) (.two (.leaf) (.leaf))))
def sh_ref12_check (l_1 : Option Addr) (l_1n : Nat) (l_1c : Nat) (R : Ending → World → Prop) (w : World) : Prop :=
  Calls Tryz.prog 35 ⟨[.slice l_1 l_1n l_1c]⟩ w fun (e2 : Ending) (w3 : World) =>
  ∃ (x4 : Int), e2 = .returned (.int .i64 x4) ∧ (br (decide ((x4 : Int) ≠ 0)) (R (.returned (.int .i64 1)) w3) (Calls Tryz.prog 54 ⟨[.slice l_1 l_1n l_1c]⟩ w3 fun (e5 : Ending) (w6 : World) =>
  ∃ (x7 : Bool), e5 = .returned (.bool x7) ∧ (br (!x7) (R (.returned (.int .i64 13)) w6) (R (.returned (.int .i64 0)) w6))))
set_option maxRecDepth 100000 in
theorem e_ref12_check (l_1 : Option Addr) (l_1n : Nat) (l_1c : Nat) (R : Ending → World → Prop) (w : World) : fnV Tryz.prog Tryz.f31 an_ref12_check [.slice l_1 l_1n l_1c] R w = sh_ref12_check l_1 l_1n l_1c R w := by kernel_rfl
theorem c_ref12_check {l_1 : Option Addr} {l_1n : Nat} {l_1c : Nat} {R : Ending → World → Prop} {w : World} (h : sh_ref12_check l_1 l_1n l_1c R w) : Calls Tryz.prog F_ref12_check ⟨[.slice l_1 l_1n l_1c]⟩ w R := calls_of_fnV Tryz.func31 (by rw [e_ref12_check]; exact h)

def an_ref12_gaps : Ann := .two (.leaf) (.two (.leaf) (.two (.two (.leaf) (.one (.loop 17179869144 [(3, .one (.slice)), (4, .one (.int .i64))] (.two (.two (.leaf) (.two (.leaf) (.leaf))) (.two (.one (.cut 67104776 [(3, .one (.slice))] (.two (.leaf) (.two (.leaf) (.leaf))) (.leaf))) (.leaf)))))) (.two (.leaf) (.leaf))))
def sh_ref12_gaps (l_1 : Option Addr) (l_1n : Nat) (l_1c : Nat) (R : Ending → World → Prop) (w : World) : Prop :=
  al w 3 [] fun p2 w3 =>
  ∃ (I4 : Option Addr → Nat → Nat → Int → World → Nat → Prop), (∃ m9 : Nat, I4 (some p2) 0 0 0 w3 m9) ∧ ∀ (out_5 : Option Addr) (out_5n : Nat) (out_5c : Nat) (i_6 : Int) (w7 : World) (m8 : Nat), I4 out_5 out_5n out_5c i_6 w7 m8 → ∀ _ : Env, (br (decide ((i_6 : Int) < ((l_1n : Int)))) (∀ (K10 : Option Addr → Nat → Nat → World → Prop), (∀ (out_11 : Option Addr) (out_11n : Nat) (out_11c : Nat) (w12 : World), (∀ _ : Env, (idx l_1 l_1n i_6 4 fun p13 =>
  ∃ (x14 : Option Addr) (x14n : Nat) (x14c : Nat), World.cell? w12 (p13.add 3) = some (.slice x14 x14n x14c) ∧ (Calls Tryz.prog 32 ⟨[.slice x14 x14n x14c]⟩ w12 fun (e15 : Ending) (w16 : World) =>
  ∃ (x17 : Option Addr) (x17n : Nat) (x17c : Nat), e15 = .returned (.slice x17 x17n x17c) ∧ (app Tryz.prog [57, 57] 57 (.slice out_11 out_11n out_11c) (.slice x17 x17n x17c) w16 fun a18 a18n a18c w19 =>
  ∃ m20 : Nat, m20 < m8 ∧ I4 a18 a18n a18c (IntKind.i64.wrap (i_6 + 1)) w19 m20)))) → K10 out_11 out_11n out_11c w12) → (idx l_1 l_1n i_6 4 fun p21 =>
  ∃ (x22 : Int), World.cell? w7 (p21.add 0) = some (.int .i64 x22) ∧ (br (decide ((x22 : Int) = 6)) (idx l_1 l_1n i_6 4 fun p23 =>
  ∃ (x24 : Int), World.cell? w7 (p23.add 2) = some (.int .i64 x24) ∧ (al w7 3 [.int .i64 x24] fun p25 w26 =>
  app Tryz.prog [57, 57] 57 (.slice out_5 out_5n out_5c) (.slice (some p25) 1 1) w26 fun a27 a27n a27c w28 =>
  K10 a27 a27n a27c w28)) (K10 out_5 out_5n out_5c w7)))) (R (.returned (.slice out_5 out_5n out_5c)) w7))
set_option maxRecDepth 100000 in
theorem e_ref12_gaps (l_1 : Option Addr) (l_1n : Nat) (l_1c : Nat) (R : Ending → World → Prop) (w : World) : fnV Tryz.prog Tryz.f32 an_ref12_gaps [.slice l_1 l_1n l_1c] R w = sh_ref12_gaps l_1 l_1n l_1c R w := by kernel_rfl
theorem c_ref12_gaps {l_1 : Option Addr} {l_1n : Nat} {l_1c : Nat} {R : Ending → World → Prop} {w : World} (h : sh_ref12_gaps l_1 l_1n l_1c R w) : Calls Tryz.prog F_ref12_gaps ⟨[.slice l_1 l_1n l_1c]⟩ w R := calls_of_fnV Tryz.func32 (by rw [e_ref12_gaps]; exact h)

def an_ref12_supply : Ann := .two (.leaf) (.two (.leaf) (.two (.two (.leaf) (.one (.loop 2199023254978 [(1, .one (.slice)), (6, .one (.slice)), (7, .one (.int .i64))] (.two (.two (.leaf) (.two (.leaf) (.leaf))) (.two (.one (.two (.leaf) (.cut 535822338 [(1, .one (.slice))] (.two (.leaf) (.two (.two (.leaf) (.leaf)) (.leaf))) (.two (.leaf) (.leaf))))) (.leaf)))))) (.two (.leaf) (.leaf))))
def sh_ref12_supply (l_1 : Option Addr) (l_1n : Nat) (l_1c : Nat) (words_2 : Option Addr) (words_2n : Nat) (words_2c : Nat) (R : Ending → World → Prop) (w : World) : Prop :=
  al w 45 [] fun p3 w4 =>
  ∃ (I5 : Option Addr → Nat → Nat → Option Addr → Nat → Nat → Int → World → Nat → Prop), (∃ m11 : Nat, I5 words_2 words_2n words_2c (some p3) 0 0 0 w4 m11) ∧ ∀ (words_6 : Option Addr) (words_6n : Nat) (words_6c : Nat) (out_7 : Option Addr) (out_7n : Nat) (out_7c : Nat) (i_8 : Int) (w9 : World) (m10 : Nat), I5 words_6 words_6n words_6c out_7 out_7n out_7c i_8 w9 m10 → ∀ _ : Env, (br (decide ((i_8 : Int) < ((l_1n : Int)))) (idx l_1 l_1n i_8 4 fun p12 =>
  ∃ (x13 : Int), World.cell? w9 (p12.add 0) = some (.int .i64 x13) ∧ (∃ (x14 : List UInt8), World.cell? w9 (p12.add 1) = some (.string ⟨⟨x14⟩⟩) ∧ (∃ (x15 : Int), World.cell? w9 (p12.add 2) = some (.int .i64 x15) ∧ (∃ (x16 : Option Addr) (x16n : Nat) (x16c : Nat), World.cell? w9 (p12.add 3) = some (.slice x16 x16n x16c) ∧ (al w9 45 [.int .i64 0, .string ⟨⟨[]⟩⟩, .int .i64 0, .slice none 0 0] fun p17 w18 =>
  stL w18 p17 0 [.int .i64 x13, .string ⟨⟨x14⟩⟩, .int .i64 x15, .slice x16 x16n x16c] fun w19 =>
  ∀ (K20 : Option Addr → Nat → Nat → World → Prop), (∀ (words_21 : Option Addr) (words_21n : Nat) (words_21c : Nat) (w22 : World), (∀ _ : Env, (∃ (x23 : Option Addr) (x23n : Nat) (x23c : Nat), World.cell? w22 (p17.add 3) = some (.slice x23 x23n x23c) ∧ (Calls Tryz.prog 33 ⟨[.slice x23 x23n x23c, .slice words_21 words_21n words_21c]⟩ w22 fun (e24 : Ending) (w25 : World) =>
  ∃ (x26 : Option Addr) (x26n : Nat) (x26c : Nat) (x27 : Option Addr) (x27n : Nat) (x27c : Nat), e24 = .returned (.tuple ⟨[.slice x26 x26n x26c, .slice x27 x27n x27c]⟩) ∧ (stL w25 (p17.add 3) 0 [.slice x26 x26n x26c] fun w28 =>
  ∃ (x29 : Int), World.cell? w28 (p17.add 0) = some (.int .i64 x29) ∧ (∃ (x30 : List UInt8), World.cell? w28 (p17.add 1) = some (.string ⟨⟨x30⟩⟩) ∧ (∃ (x31 : Int), World.cell? w28 (p17.add 2) = some (.int .i64 x31) ∧ (∃ (x32 : Option Addr) (x32n : Nat) (x32c : Nat), World.cell? w28 (p17.add 3) = some (.slice x32 x32n x32c) ∧ (al w28 45 [.int .i64 x29, .string ⟨⟨x30⟩⟩, .int .i64 x31, .slice x32 x32n x32c] fun p33 w34 =>
  app Tryz.prog [22, 22] 22 (.slice out_7 out_7n out_7c) (.slice (some p33) 1 1) w34 fun a35 a35n a35c w36 =>
  ∃ m37 : Nat, m37 < m10 ∧ I5 x27 x27n x27c a35 a35n a35c (IntKind.i64.wrap (i_8 + 1)) w36 m37)))))))) → K20 words_21 words_21n words_21c w22) → (∃ (x38 : Int), World.cell? w19 (p17.add 0) = some (.int .i64 x38) ∧ (br (decide ((x38 : Int) = 6)) (idx words_6 words_6n 0 1 fun p39 =>
  ∃ (x40 : List UInt8), World.cell? w19 p39 = some (.string ⟨⟨x40⟩⟩) ∧ (stL w19 p17 0 [.int .i64 1, .string ⟨⟨x40⟩⟩, .int .i64 0, .slice none 0 0] fun w41 =>
  sls words_6 words_6c 1 (words_6n : Int) 1 fun a42 a42n a42c =>
  K20 a42 a42n a42c w41)) (K20 words_6 words_6n words_6c w19)))))))) (R (.returned (.tuple ⟨[.slice out_7 out_7n out_7c, .slice words_6 words_6n words_6c]⟩)) w9))
set_option maxRecDepth 100000 in
theorem e_ref12_supply (l_1 : Option Addr) (l_1n : Nat) (l_1c : Nat) (words_2 : Option Addr) (words_2n : Nat) (words_2c : Nat) (R : Ending → World → Prop) (w : World) : fnV Tryz.prog Tryz.f33 an_ref12_supply [.slice l_1 l_1n l_1c, .slice words_2 words_2n words_2c] R w = sh_ref12_supply l_1 l_1n l_1c words_2 words_2n words_2c R w := by kernel_rfl
theorem c_ref12_supply {l_1 : Option Addr} {l_1n : Nat} {l_1c : Nat} {words_2 : Option Addr} {words_2n : Nat} {words_2c : Nat} {R : Ending → World → Prop} {w : World} (h : sh_ref12_supply l_1 l_1n l_1c words_2 words_2n words_2c R w) : Calls Tryz.prog F_ref12_supply ⟨[.slice l_1 l_1n l_1c, .slice words_2 words_2n words_2c]⟩ w R := calls_of_fnV Tryz.func33 (by rw [e_ref12_supply]; exact h)

def an_ref10_Merge : Ann := .two (.leaf) (.two (.leaf) (.two (.two (.leaf) (.one (.loop 1180591620717411303288 [(3, .one (.slice)), (4, .one (.int .i64))] (.two (.two (.leaf) (.two (.leaf) (.leaf))) (.two (.one (.two (.leaf) (.cut 66846720 [] (.two (.leaf) (.two (.leaf) (.leaf))) (.cut 17112760320 [] (.two (.leaf) (.two (.leaf) (.leaf))) (.two (.two (.leaf) (.cut 4503530907893760 [(51, .one (.bool))] (.leaf) (.two (.two (.leaf) (.leaf)) (.leaf)))) (.leaf)))))) (.leaf)))))) (.two (.leaf) (.leaf))))
def sh_ref10_Merge (l_1 : Option Addr) (l_1n : Nat) (l_1c : Nat) (R : Ending → World → Prop) (w : World) : Prop :=
  al w 45 [] fun p2 w3 =>
  ∃ (I4 : Option Addr → Nat → Nat → Int → World → Nat → Prop), (∃ m9 : Nat, I4 (some p2) 0 0 0 w3 m9) ∧ ∀ (out_5 : Option Addr) (out_5n : Nat) (out_5c : Nat) (i_6 : Int) (w7 : World) (m8 : Nat), I4 out_5 out_5n out_5c i_6 w7 m8 → ∀ _ : Env, (br (decide ((i_6 : Int) < ((l_1n : Int)))) (idx l_1 l_1n i_6 4 fun p10 =>
  ∃ (x11 : Int), World.cell? w7 (p10.add 0) = some (.int .i64 x11) ∧ (∃ (x12 : List UInt8), World.cell? w7 (p10.add 1) = some (.string ⟨⟨x12⟩⟩) ∧ (∃ (x13 : Int), World.cell? w7 (p10.add 2) = some (.int .i64 x13) ∧ (∃ (x14 : Option Addr) (x14n : Nat) (x14c : Nat), World.cell? w7 (p10.add 3) = some (.slice x14 x14n x14c) ∧ (al w7 45 [.int .i64 0, .string ⟨⟨[]⟩⟩, .int .i64 0, .slice none 0 0] fun p15 w16 =>
  stL w16 p15 0 [.int .i64 x11, .string ⟨⟨x12⟩⟩, .int .i64 x13, .slice x14 x14n x14c] fun w17 =>
  ∀ (K18 : World → Prop), (∀  (w19 : World), (∀ _ : Env, (∀ (K20 : World → Prop), (∀  (w21 : World), (∀ _ : Env, (∀ (K22 : Bool → World → Prop), (∀ (t51_23 : Bool) (w24 : World), (∀ _ : Env, (br t51_23 (drw w24 fun w25 =>
  idx out_5 out_5n (IntKind.i64.wrap (((out_5n : Int)) - 1)) 4 fun p26 =>
  ∃ (x27 : List UInt8), World.cell? w25 (p26.add 1) = some (.string ⟨⟨x27⟩⟩) ∧ (∃ (x28 : List UInt8), World.cell? w25 (p15.add 1) = some (.string ⟨⟨x28⟩⟩) ∧ (sadd x27 x28 fun s29 =>
  idx out_5 out_5n (IntKind.i64.wrap (((out_5n : Int)) - 1)) 4 fun p30 =>
  (stL w25 (p30.add 1) 0 [.string ⟨⟨s29⟩⟩] fun w31 =>
  ∃ m32 : Nat, m32 < m8 ∧ I4 out_5 out_5n out_5c (IntKind.i64.wrap (i_6 + 1)) w31 m32) ∧ True))) (∃ (x33 : Int), World.cell? w24 (p15.add 0) = some (.int .i64 x33) ∧ (∃ (x34 : List UInt8), World.cell? w24 (p15.add 1) = some (.string ⟨⟨x34⟩⟩) ∧ (∃ (x35 : Int), World.cell? w24 (p15.add 2) = some (.int .i64 x35) ∧ (∃ (x36 : Option Addr) (x36n : Nat) (x36c : Nat), World.cell? w24 (p15.add 3) = some (.slice x36 x36n x36c) ∧ (al w24 45 [.int .i64 x33, .string ⟨⟨x34⟩⟩, .int .i64 x35, .slice x36 x36n x36c] fun p37 w38 =>
  app Tryz.prog [22, 22] 22 (.slice out_5 out_5n out_5c) (.slice (some p37) 1 1) w38 fun a39 a39n a39c w40 =>
  ∃ m41 : Nat, m41 < m8 ∧ I4 a39 a39n a39c (IntKind.i64.wrap (i_6 + 1)) w40 m41))))))) → K22 t51_23 w24) → (∃ (x42 : Int), World.cell? w21 (p15.add 0) = some (.int .i64 x42) ∧ (br (decide ((x42 : Int) = 1)) (br (decide ((0 : Int) < ((out_5n : Int)))) (idx out_5 out_5n (IntKind.i64.wrap (((out_5n : Int)) - 1)) 4 fun p43 =>
  ∃ (x44 : Int), World.cell? w21 (p43.add 0) = some (.int .i64 x44) ∧ (K22 (decide ((x44 : Int) = 1)) w21)) (K22 false w21)) (K22 false w21))))) → K20 w21) → (∃ (x45 : Option Addr) (x45n : Nat) (x45c : Nat), World.cell? w19 (p15.add 3) = some (.slice x45 x45n x45c) ∧ (br (decide ((0 : Int) < ((x45n : Int)))) (∃ (x46 : Option Addr) (x46n : Nat) (x46c : Nat), World.cell? w19 (p15.add 3) = some (.slice x46 x46n x46c) ∧ (Calls Tryz.prog 34 ⟨[.slice x46 x46n x46c]⟩ w19 fun (e47 : Ending) (w48 : World) =>
  ∃ (x49 : Option Addr) (x49n : Nat) (x49c : Nat), e47 = .returned (.slice x49 x49n x49c) ∧ (stL w48 (p15.add 3) 0 [.slice x49 x49n x49c] fun w50 =>
  K20 w50))) (K20 w19))))) → K18 w19) → (∃ (x51 : Int), World.cell? w17 (p15.add 0) = some (.int .i64 x51) ∧ (br (decide ((x51 : Int) = 1)) (∃ (x52 : List UInt8), World.cell? w17 (p15.add 1) = some (.string ⟨⟨x52⟩⟩) ∧ (br (decide ((x52 : List UInt8) = ([]))) (∃ m53 : Nat, m53 < m8 ∧ I4 out_5 out_5n out_5c (IntKind.i64.wrap (i_6 + 1)) w17 m53) (K18 w17))) (K18 w17)))))))) (R (.returned (.slice out_5 out_5n out_5c)) w7))
set_option maxRecDepth 100000 in
theorem e_ref10_Merge (l_1 : Option Addr) (l_1n : Nat) (l_1c : Nat) (R : Ending → World → Prop) (w : World) : fnV Tryz.prog Tryz.f34 an_ref10_Merge [.slice l_1 l_1n l_1c] R w = sh_ref10_Merge l_1 l_1n l_1c R w := by kernel_rfl
theorem c_ref10_Merge {l_1 : Option Addr} {l_1n : Nat} {l_1c : Nat} {R : Ending → World → Prop} {w : World} (h : sh_ref10_Merge l_1 l_1n l_1c R w) : Calls Tryz.prog F_ref10_Merge ⟨[.slice l_1 l_1n l_1c]⟩ w R := calls_of_fnV Tryz.func34 (by rw [e_ref10_Merge]; exact h)

end Go.Proofs
