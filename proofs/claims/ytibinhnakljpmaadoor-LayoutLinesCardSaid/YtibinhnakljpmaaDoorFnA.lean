/- Written by program: for each function its verification condition, that it is the code's (by the kernel), and that it gives the call. -/
import Derived.Test.YtibinhnakljpmaaDoorFn
namespace Go.Proofs
open Go Go.Sh
def an_law13_LayoutPositions : Ann := .two (.leaf) (.two (.two (.leaf) (.two (.two (.leaf) (.leaf)) (.leaf))) (.two (.leaf) (.two (.leaf) (.two (.leaf) (.leaf)))))
def sh_law13_LayoutPositions (start_1 : List UInt8) (start_2 : Int) (l_3 : Option Addr) (l_3n : Nat) (l_3c : Nat) (R : Ending → World → Prop) (w : World) : Prop :=
  al w 23 [.string ⟨⟨start_1⟩⟩, .int .i64 start_2] fun p4 w5 =>
  Calls Tryd.prog 10 ⟨[.slice l_3 l_3n l_3c]⟩ w5 fun (e6 : Ending) (w7 : World) =>
  ∃ (x8 : Bool), e6 = .returned (.bool x8) ∧ (br x8 (Calls Tryd.prog 11 ⟨[]⟩ w7 fun (e9 : Ending) (w10 : World) =>
  ∃ (x11 : Bool), e9 = .returned (.bool x11) ∧ (R (.returned (.bool x11)) w10)) (∃ (x12 : List UInt8), World.cell? w7 (p4.add 0) = some (.string ⟨⟨x12⟩⟩) ∧ (∃ (x13 : Int), World.cell? w7 (p4.add 1) = some (.int .i64 x13) ∧ (Calls Tryd.prog 12 ⟨[.agg ⟨[.string ⟨⟨x12⟩⟩, .int .i64 x13]⟩, .slice l_3 l_3n l_3c]⟩ w7 fun (e14 : Ending) (w15 : World) =>
  ∃ (x16 : Option Addr) (x16n : Nat) (x16c : Nat) (x17 : Int), e14 = .returned (.tuple ⟨[.slice x16 x16n x16c, .int .i64 x17]⟩) ∧ (∃ (x18 : List UInt8), World.cell? w15 (p4.add 0) = some (.string ⟨⟨x18⟩⟩) ∧ (∃ (x19 : Int), World.cell? w15 (p4.add 1) = some (.int .i64 x19) ∧ (Calls Tryd.prog 13 ⟨[.agg ⟨[.string ⟨⟨x18⟩⟩, .int .i64 x19]⟩, .slice l_3 l_3n l_3c]⟩ w15 fun (e20 : Ending) (w21 : World) =>
  ∃ (x22 : Option Addr) (x22n : Nat) (x22c : Nat) (x23 : Int), e20 = .returned (.tuple ⟨[.slice x22 x22n x22c, .int .i64 x23]⟩) ∧ (Calls Tryd.prog 14 ⟨[.slice x16 x16n x16c, .slice x22 x22n x22c]⟩ w21 fun (e24 : Ending) (w25 : World) =>
  ∃ (x26 : Bool), e24 = .returned (.bool x26) ∧ (br x26 (br (decide ((x17 : Int) = x23)) (Calls Tryd.prog 11 ⟨[]⟩ w25 fun (e27 : Ending) (w28 : World) =>
  ∃ (x29 : Bool), e27 = .returned (.bool x29) ∧ (R (.returned (.bool x29)) w28)) (R (.returned (.bool false)) w25)) (R (.returned (.bool false)) w25))))))))))
set_option maxRecDepth 100000 in
theorem e_law13_LayoutPositions (start_1 : List UInt8) (start_2 : Int) (l_3 : Option Addr) (l_3n : Nat) (l_3c : Nat) (R : Ending → World → Prop) (w : World) : fnV Tryd.prog Tryd.f3 an_law13_LayoutPositions [.agg ⟨[.string ⟨⟨start_1⟩⟩, .int .i64 start_2]⟩, .slice l_3 l_3n l_3c] R w = sh_law13_LayoutPositions start_1 start_2 l_3 l_3n l_3c R w := by kernel_rfl
theorem c_law13_LayoutPositions {start_1 : List UInt8} {start_2 : Int} {l_3 : Option Addr} {l_3n : Nat} {l_3c : Nat} {R : Ending → World → Prop} {w : World} (h : sh_law13_LayoutPositions start_1 start_2 l_3 l_3n l_3c R w) : Calls Tryd.prog F_law13_LayoutPositions ⟨[.agg ⟨[.string ⟨⟨start_1⟩⟩, .int .i64 start_2]⟩, .slice l_3 l_3n l_3c]⟩ w R := calls_of_fnV Tryd.func3 (by rw [e_law13_LayoutPositions]; exact h)

def an_law13_LayoutCounts : Ann := .two (.leaf) (.two (.leaf) (.two (.two (.leaf) (.two (.two (.leaf) (.leaf)) (.leaf))) (.two (.leaf) (.two (.leaf) (.cut 2194728288320 [] (.two (.leaf) (.two (.two (.leaf) (.leaf)) (.leaf))) (.two (.leaf) (.two (.two (.leaf) (.one (.loop 618970019642619768705409088 [(46, .one (.int .i64))] (.two (.leaf) (.two (.two (.leaf) (.leaf)) (.two (.one (.two (.leaf) (.two (.leaf) (.two (.two (.leaf) (.leaf)) (.leaf))))) (.leaf))))))) (.two (.leaf) (.leaf)))))))))
def sh_law13_LayoutCounts (l_1 : Option Addr) (l_1n : Nat) (l_1c : Nat) (page_2 : Int) (line_3 : Int) (R : Ending → World → Prop) (w : World) : Prop :=
  Calls Tryd.prog 15 ⟨[.slice l_1 l_1n l_1c]⟩ w fun (e4 : Ending) (w5 : World) =>
  ∃ (x6 : List UInt8) (x7 : Bool), e4 = .returned (.tuple ⟨[.string ⟨⟨x6⟩⟩, .bool x7]⟩) ∧ (br (!x7) (Calls Tryd.prog 11 ⟨[]⟩ w5 fun (e8 : Ending) (w9 : World) =>
  ∃ (x10 : Bool), e8 = .returned (.bool x10) ∧ (R (.returned (.bool x10)) w9)) (Calls Tryd.prog 16 ⟨[.int .u8 page_2, .int .u8 line_3]⟩ w5 fun (e11 : Ending) (w12 : World) =>
  ∃ (x13 : List UInt8) (x14 : Int), e11 = .returned (.agg ⟨[.string ⟨⟨x13⟩⟩, .int .i64 x14]⟩) ∧ (al w12 23 [.string ⟨⟨[]⟩⟩, .int .i64 0] fun p15 w16 =>
  stL w16 p15 0 [.string ⟨⟨x13⟩⟩, .int .i64 x14] fun w17 =>
  ∃ (x18 : List UInt8), World.cell? w17 (p15.add 0) = some (.string ⟨⟨x18⟩⟩) ∧ (∃ (x19 : Int), World.cell? w17 (p15.add 1) = some (.int .i64 x19) ∧ (Calls Tryd.prog 12 ⟨[.agg ⟨[.string ⟨⟨x18⟩⟩, .int .i64 x19]⟩, .slice l_1 l_1n l_1c]⟩ w17 fun (e20 : Ending) (w21 : World) =>
  ∃ (x22 : Option Addr) (x22n : Nat) (x22c : Nat) (x23 : Int), e20 = .returned (.tuple ⟨[.slice x22 x22n x22c, .int .i64 x23]⟩) ∧ (∀ (K24 : World → Prop), (∀  (w25 : World), (∀ _ : Env, (Calls Tryd.prog 17 ⟨[.slice l_1 l_1n l_1c, .int .i64 3, .int .i64 2]⟩ w25 fun (e26 : Ending) (w27 : World) =>
  ∃ (x28 : Bool), e26 = .returned (.bool x28) ∧ (∃ (I29 : Int → World → Nat → Prop), (∃ m33 : Nat, I29 0 w27 m33) ∧ ∀ (t46_30 : Int) (w31 : World) (m32 : Nat), I29 t46_30 w31 m32 → ∀ _ : Env, (br (decide ((t46_30 : Int) < ((x22n : Int)))) (idx x22 x22n t46_30 2 fun p34 =>
  ∃ (x35 : List UInt8), World.cell? w31 (p34.add 0) = some (.string ⟨⟨x35⟩⟩) ∧ (∃ (x36 : Int), World.cell? w31 (p34.add 1) = some (.int .i64 x36) ∧ (al w31 23 [.string ⟨⟨[]⟩⟩, .int .i64 0] fun p37 w38 =>
  stL w38 p37 0 [.string ⟨⟨x35⟩⟩, .int .i64 x36] fun w39 =>
  drw w39 fun w40 =>
  br (!x28) (∃ (x41 : List UInt8), World.cell? w40 (p37.add 0) = some (.string ⟨⟨x41⟩⟩) ∧ (∃ (x42 : Int), World.cell? w40 (p37.add 1) = some (.int .i64 x42) ∧ (∃ (x43 : List UInt8), World.cell? w40 (p15.add 0) = some (.string ⟨⟨x43⟩⟩) ∧ (∃ (x44 : Int), World.cell? w40 (p15.add 1) = some (.int .i64 x44) ∧ (br (!(decide ((x41 : List UInt8) = x43) && (decide ((x42 : Int) = x44) && true))) ((R (.returned (.bool false)) w40) ∧ True) (br (decide ((0 : Int) < t46_30)) (∃ (x45 : List UInt8), World.cell? w40 (p37.add 0) = some (.string ⟨⟨x45⟩⟩) ∧ (idx x22 x22n (IntKind.i64.wrap (t46_30 - 1)) 2 fun p46 =>
  ∃ (x47 : List UInt8), World.cell? w40 (p46.add 0) = some (.string ⟨⟨x47⟩⟩) ∧ (br (decide ((x45 : List UInt8) = x47)) (∃ (x48 : Int), World.cell? w40 (p37.add 1) = some (.int .i64 x48) ∧ (idx x22 x22n (IntKind.i64.wrap (t46_30 - 1)) 2 fun p49 =>
  ∃ (x50 : Int), World.cell? w40 (p49.add 1) = some (.int .i64 x50) ∧ (br (decide ((x48 : Int) < x50)) ((Calls Tryd.prog 17 ⟨[.slice l_1 l_1n l_1c, .int .i64 3, .int .i64 3]⟩ w40 fun (e51 : Ending) (w52 : World) =>
  ∃ (x53 : Bool), e51 = .returned (.bool x53) ∧ (br (!x53) (R (.returned (.bool false)) w52) (∃ m54 : Nat, m54 < m32 ∧ I29 (IntKind.i64.wrap (t46_30 + 1)) w52 m54))) ∧ True) ((∃ m55 : Nat, m55 < m32 ∧ I29 (IntKind.i64.wrap (t46_30 + 1)) w40 m55) ∧ True)))) ((∃ m56 : Nat, m56 < m32 ∧ I29 (IntKind.i64.wrap (t46_30 + 1)) w40 m56) ∧ True)))) ((∃ m57 : Nat, m57 < m32 ∧ I29 (IntKind.i64.wrap (t46_30 + 1)) w40 m57) ∧ True))))))) (br (decide ((0 : Int) < t46_30)) (∃ (x58 : List UInt8), World.cell? w40 (p37.add 0) = some (.string ⟨⟨x58⟩⟩) ∧ (idx x22 x22n (IntKind.i64.wrap (t46_30 - 1)) 2 fun p59 =>
  ∃ (x60 : List UInt8), World.cell? w40 (p59.add 0) = some (.string ⟨⟨x60⟩⟩) ∧ (br (decide ((x58 : List UInt8) = x60)) (∃ (x61 : Int), World.cell? w40 (p37.add 1) = some (.int .i64 x61) ∧ (idx x22 x22n (IntKind.i64.wrap (t46_30 - 1)) 2 fun p62 =>
  ∃ (x63 : Int), World.cell? w40 (p62.add 1) = some (.int .i64 x63) ∧ (br (decide ((x61 : Int) < x63)) ((Calls Tryd.prog 17 ⟨[.slice l_1 l_1n l_1c, .int .i64 3, .int .i64 3]⟩ w40 fun (e64 : Ending) (w65 : World) =>
  ∃ (x66 : Bool), e64 = .returned (.bool x66) ∧ (br (!x66) (R (.returned (.bool false)) w65) (∃ m67 : Nat, m67 < m32 ∧ I29 (IntKind.i64.wrap (t46_30 + 1)) w65 m67))) ∧ True) ((∃ m68 : Nat, m68 < m32 ∧ I29 (IntKind.i64.wrap (t46_30 + 1)) w40 m68) ∧ True)))) ((∃ m69 : Nat, m69 < m32 ∧ I29 (IntKind.i64.wrap (t46_30 + 1)) w40 m69) ∧ True)))) ((∃ m70 : Nat, m70 < m32 ∧ I29 (IntKind.i64.wrap (t46_30 + 1)) w40 m70) ∧ True))))) (Calls Tryd.prog 11 ⟨[]⟩ w31 fun (e71 : Ending) (w72 : World) =>
  ∃ (x73 : Bool), e71 = .returned (.bool x73) ∧ (R (.returned (.bool x73)) w72)))))) → K24 w25) → (br (decide ((x23 : Int) ≠ 0)) (R (.returned (.bool false)) w21) (br (decide ((((x22n : Int)) : Int) ≠ ((List.length x6 : Int)))) (R (.returned (.bool false)) w21) (K24 w21)))))))))
set_option maxRecDepth 100000 in
theorem e_law13_LayoutCounts (l_1 : Option Addr) (l_1n : Nat) (l_1c : Nat) (page_2 : Int) (line_3 : Int) (R : Ending → World → Prop) (w : World) : fnV Tryd.prog Tryd.f4 an_law13_LayoutCounts [.slice l_1 l_1n l_1c, .int .u8 page_2, .int .u8 line_3] R w = sh_law13_LayoutCounts l_1 l_1n l_1c page_2 line_3 R w := by kernel_rfl
theorem c_law13_LayoutCounts {l_1 : Option Addr} {l_1n : Nat} {l_1c : Nat} {page_2 : Int} {line_3 : Int} {R : Ending → World → Prop} {w : World} (h : sh_law13_LayoutCounts l_1 l_1n l_1c page_2 line_3 R w) : Calls Tryd.prog F_law13_LayoutCounts ⟨[.slice l_1 l_1n l_1c, .int .u8 page_2, .int .u8 line_3]⟩ w R := calls_of_fnV Tryd.func4 (by rw [e_law13_LayoutCounts]; exact h)

def an_law13_LayoutBroken : Ann := .two (.leaf) (.two (.leaf) (.two (.two (.leaf) (.two (.two (.leaf) (.leaf)) (.leaf))) (.two (.leaf) (.two (.leaf) (.cut 17590038560772 [] (.two (.leaf) (.two (.two (.leaf) (.leaf)) (.leaf))) (.two (.leaf) (.two (.leaf) (.two (.two (.leaf) (.one (.loop 604462909789722401311744 [(10, .one (.slice)), (11, .one (.int .i64))] (.two (.two (.leaf) (.two (.leaf) (.leaf))) (.two (.one (.cut 37778930737057254866944 [(74, .one (.bool))] (.leaf) (.two (.leaf) (.leaf)))) (.leaf)))))) (.two (.leaf) (.leaf))))))))))
def sh_law13_LayoutBroken (l_1 : Option Addr) (l_1n : Nat) (l_1c : Nat) (R : Ending → World → Prop) (w : World) : Prop :=
  Calls Tryd.prog 15 ⟨[.slice l_1 l_1n l_1c]⟩ w fun (e2 : Ending) (w3 : World) =>
  ∃ (x4 : List UInt8) (x5 : Bool), e2 = .returned (.tuple ⟨[.string ⟨⟨x4⟩⟩, .bool x5]⟩) ∧ (br (!x5) (Calls Tryd.prog 11 ⟨[]⟩ w3 fun (e6 : Ending) (w7 : World) =>
  ∃ (x8 : Bool), e6 = .returned (.bool x8) ∧ (R (.returned (.bool x8)) w7)) (Calls Tryd.prog 18 ⟨[.slice l_1 l_1n l_1c]⟩ w3 fun (e9 : Ending) (w10 : World) =>
  ∃ (x11 : Option Addr) (x11n : Nat) (x11c : Nat) (x12 : Int), e9 = .returned (.tuple ⟨[.slice x11 x11n x11c, .int .i64 x12]⟩) ∧ (Calls Tryd.prog 12 ⟨[.agg ⟨[.string ⟨⟨[]⟩⟩, .int .i64 0]⟩, .slice l_1 l_1n l_1c]⟩ w10 fun (e13 : Ending) (w14 : World) =>
  ∃ (x15 : Option Addr) (x15n : Nat) (x15c : Nat) (x16 : Int), e13 = .returned (.tuple ⟨[.slice x15 x15n x15c, .int .i64 x16]⟩) ∧ (∀ (K17 : World → Prop), (∀  (w18 : World), (∀ _ : Env, (∃ (I19 : Option Addr → Nat → Nat → Int → World → Nat → Prop), (∃ m24 : Nat, I19 none 0 0 1 w18 m24) ∧ ∀ (want_20 : Option Addr) (want_20n : Nat) (want_20c : Nat) (i_21 : Int) (w22 : World) (m23 : Nat), I19 want_20 want_20n want_20c i_21 w22 m23 → ∀ _ : Env, (br (decide ((i_21 : Int) < ((List.length x4 : Int)))) (∀ (K25 : Bool → World → Prop), (∀ (t74_26 : Bool) (w27 : World), (∀ _ : Env, (br t74_26 (al w27 3 [.int .i64 i_21] fun p28 w29 =>
  app Tryd.prog [38, 38] 38 (.slice want_20 want_20n want_20c) (.slice (some p28) 1 1) w29 fun a30 a30n a30c w31 =>
  ∃ m32 : Nat, m32 < m23 ∧ I19 a30 a30n a30c (IntKind.i64.wrap (i_21 + 1)) w31 m32) (∃ m33 : Nat, m33 < m23 ∧ I19 want_20 want_20n want_20c (IntKind.i64.wrap (i_21 + 1)) w27 m33))) → K25 t74_26 w27) → (drw w22 fun w34 =>
  idx x15 x15n i_21 2 fun p35 =>
  ∃ (x36 : List UInt8), World.cell? w34 (p35.add 0) = some (.string ⟨⟨x36⟩⟩) ∧ (∃ (x37 : Int), World.cell? w34 (p35.add 1) = some (.int .i64 x37) ∧ (idx x15 x15n (IntKind.i64.wrap (i_21 - 1)) 2 fun p38 =>
  ∃ (x39 : List UInt8), World.cell? w34 (p38.add 0) = some (.string ⟨⟨x39⟩⟩) ∧ (∃ (x40 : Int), World.cell? w34 (p38.add 1) = some (.int .i64 x40) ∧ (br (!(decide ((x36 : List UInt8) = x39) && (decide ((x37 : Int) = x40) && true))) (sidx x4 i_21 fun b41 =>
  (CallV Tryd.prog (.func (.func 19) #[] #[]) [.int .u8 ((b41.toNat : Int))] w34 fun (e42 : Ending) (w43 : World) =>
  ∃ (x44 : Bool), e42 = .returned (.bool x44) ∧ (br x44 (sidx x4 (IntKind.i64.wrap (i_21 - 1)) fun b45 =>
  (CallV Tryd.prog (.func (.func 19) #[] #[]) [.int .u8 ((b45.toNat : Int))] w43 fun (e46 : Ending) (w47 : World) =>
  ∃ (x48 : Bool), e46 = .returned (.bool x48) ∧ (K25 x48 w47)) ∧ True) ((K25 false w43) ∧ True))) ∧ True) (((K25 false w34) ∧ True) ∧ True))))))) (Calls Tryd.prog 21 ⟨[.slice x11 x11n x11c, .slice want_20 want_20n want_20c]⟩ w22 fun (e49 : Ending) (w50 : World) =>
  ∃ (x51 : Bool), e49 = .returned (.bool x51) ∧ (br x51 (br (decide ((((x11n : Int)) : Int) = 0)) (Calls Tryd.prog 11 ⟨[]⟩ w50 fun (e52 : Ending) (w53 : World) =>
  ∃ (x54 : Bool), e52 = .returned (.bool x54) ∧ (R (.returned (.bool x54)) w53)) (Calls Tryd.prog 17 ⟨[.slice l_1 l_1n l_1c, .int .i64 3, .int .i64 2]⟩ w50 fun (e55 : Ending) (w56 : World) =>
  ∃ (x57 : Bool), e55 = .returned (.bool x57) ∧ (br x57 (Calls Tryd.prog 11 ⟨[]⟩ w56 fun (e58 : Ending) (w59 : World) =>
  ∃ (x60 : Bool), e58 = .returned (.bool x60) ∧ (R (.returned (.bool x60)) w59)) (R (.returned (.bool false)) w56)))) (R (.returned (.bool false)) w50)))))) → K17 w18) → (br (decide ((x12 : Int) ≠ 0)) (R (.returned (.bool false)) w14) (br (decide ((x16 : Int) ≠ 0)) (R (.returned (.bool false)) w14) (br (decide ((((x15n : Int)) : Int) ≠ ((List.length x4 : Int)))) (R (.returned (.bool false)) w14) (K17 w14))))))))
set_option maxRecDepth 100000 in
theorem e_law13_LayoutBroken (l_1 : Option Addr) (l_1n : Nat) (l_1c : Nat) (R : Ending → World → Prop) (w : World) : fnV Tryd.prog Tryd.f5 an_law13_LayoutBroken [.slice l_1 l_1n l_1c] R w = sh_law13_LayoutBroken l_1 l_1n l_1c R w := by kernel_rfl
theorem c_law13_LayoutBroken {l_1 : Option Addr} {l_1n : Nat} {l_1c : Nat} {R : Ending → World → Prop} {w : World} (h : sh_law13_LayoutBroken l_1 l_1n l_1c R w) : Calls Tryd.prog F_law13_LayoutBroken ⟨[.slice l_1 l_1n l_1c]⟩ w R := calls_of_fnV Tryd.func5 (by rw [e_law13_LayoutBroken]; exact h)

def an_law13_LayoutStarts : Ann := .two (.leaf) (.two (.leaf) (.two (.leaf) (.cut 1090921693440 [] (.two (.leaf) (.two (.two (.leaf) (.leaf)) (.leaf))) (.two (.leaf) (.two (.leaf) (.cut 72022409665937408 [(15, .one (.slice)), (16, .one (.int .i64))] (.one (.leaf)) (.cut 73714918700800671744 [(17, .one (.slice)), (18, .one (.int .i64))] (.one (.leaf)) (.two (.cut 4648579506574807007232 [(71, .one (.bool))] (.leaf) (.two (.two (.leaf) (.leaf)) (.leaf))) (.two (.leaf) (.cut 158301582523618002652725510400 [] (.two (.leaf) (.two (.two (.leaf) (.leaf)) (.leaf))) (.two (.leaf) (.two (.leaf) (.leaf)))))))))))))
def sh_law13_LayoutStarts (l_1 : Option Addr) (l_1n : Nat) (l_1c : Nat) (m_2 : Option Addr) (m_2n : Nat) (m_2c : Nat) (page_3 : Int) (line_4 : Int) (R : Ending → World → Prop) (w : World) : Prop :=
  Calls Tryd.prog 15 ⟨[.slice l_1 l_1n l_1c]⟩ w fun (e5 : Ending) (w6 : World) =>
  ∃ (x7 : List UInt8) (x8 : Bool), e5 = .returned (.tuple ⟨[.string ⟨⟨x7⟩⟩, .bool x8]⟩) ∧ (Calls Tryd.prog 15 ⟨[.slice m_2 m_2n m_2c]⟩ w6 fun (e9 : Ending) (w10 : World) =>
  ∃ (x11 : List UInt8) (x12 : Bool), e9 = .returned (.tuple ⟨[.string ⟨⟨x11⟩⟩, .bool x12]⟩) ∧ (∀ (K13 : World → Prop), (∀  (w14 : World), (∀ _ : Env, (Calls Tryd.prog 16 ⟨[.int .u8 page_3, .int .u8 line_4]⟩ w14 fun (e15 : Ending) (w16 : World) =>
  ∃ (x17 : List UInt8) (x18 : Int), e15 = .returned (.agg ⟨[.string ⟨⟨x17⟩⟩, .int .i64 x18]⟩) ∧ (al w16 23 [.string ⟨⟨[]⟩⟩, .int .i64 0] fun p19 w20 =>
  stL w20 p19 0 [.string ⟨⟨x17⟩⟩, .int .i64 x18] fun w21 =>
  al w21 45 [.int .i64 5, .string ⟨⟨[]⟩⟩, .int .i64 0, .slice none 0 0] fun p22 w23 =>
  ∀ (K24 : Option Addr → Nat → Nat → Int → World → Prop), (∀ (p_25 : Option Addr) (p_25n : Nat) (p_25c : Nat) (e_26 : Int) (w27 : World), (∀ _ : Env, (∀ (K28 : Option Addr → Nat → Nat → Int → World → Prop), (∀ (both_29 : Option Addr) (both_29n : Nat) (both_29c : Nat) (f_30 : Int) (w31 : World), (∀ _ : Env, (∀ (K32 : Bool → World → Prop), (∀ (t71_33 : Bool) (w34 : World), (∀ _ : Env, (br t71_33 (br (decide ((e_26 : Int) = 1)) (Calls Tryd.prog 11 ⟨[]⟩ w34 fun (e35 : Ending) (w36 : World) =>
  ∃ (x37 : Bool), e35 = .returned (.bool x37) ∧ (R (.returned (.bool x37)) w36)) (br (decide ((f_30 : Int) = 1)) (Calls Tryd.prog 11 ⟨[]⟩ w34 fun (e38 : Ending) (w39 : World) =>
  ∃ (x40 : Bool), e38 = .returned (.bool x40) ∧ (R (.returned (.bool x40)) w39)) (R (.returned (.bool false)) w34))) (∃ (x41 : List UInt8), World.cell? w34 (p19.add 0) = some (.string ⟨⟨x41⟩⟩) ∧ (∃ (x42 : Int), World.cell? w34 (p19.add 1) = some (.int .i64 x42) ∧ (Calls Tryd.prog 12 ⟨[.agg ⟨[.string ⟨⟨x41⟩⟩, .int .i64 x42]⟩, .slice l_1 l_1n l_1c]⟩ w34 fun (e43 : Ending) (w44 : World) =>
  ∃ (x45 : Option Addr) (x45n : Nat) (x45c : Nat) (x46 : Int), e43 = .returned (.tuple ⟨[.slice x45 x45n x45c, .int .i64 x46]⟩) ∧ (∀ (K47 : World → Prop), (∀  (w48 : World), (∀ _ : Env, (idx p_25 p_25n ((List.length x7 : Int)) 2 fun p49 =>
  ∃ (x50 : List UInt8), World.cell? w48 (p49.add 0) = some (.string ⟨⟨x50⟩⟩) ∧ (∃ (x51 : Int), World.cell? w48 (p49.add 1) = some (.int .i64 x51) ∧ (Calls Tryd.prog 12 ⟨[.agg ⟨[.string ⟨⟨x50⟩⟩, .int .i64 x51]⟩, .slice m_2 m_2n m_2c]⟩ w48 fun (e52 : Ending) (w53 : World) =>
  ∃ (x54 : Option Addr) (x54n : Nat) (x54c : Nat) (x55 : Int), e52 = .returned (.tuple ⟨[.slice x54 x54n x54c, .int .i64 x55]⟩) ∧ (br (decide ((x55 : Int) = 0)) (al w53 27 [.slice x45 x45n x45c, .slice x54 x54n x54c] fun p56 w57 =>
  Calls Tryd.prog 24 ⟨[.slice (some p56) 2 2]⟩ w57 fun (e58 : Ending) (w59 : World) =>
  ∃ (x60 : Option Addr) (x60n : Nat) (x60c : Nat), e58 = .returned (.slice x60 x60n x60c) ∧ (Calls Tryd.prog 23 ⟨[.slice both_29 both_29n both_29c, .slice x60 x60n x60c]⟩ w59 fun (e61 : Ending) (w62 : World) =>
  ∃ (x63 : Bool), e61 = .returned (.bool x63) ∧ (br x63 (Calls Tryd.prog 11 ⟨[]⟩ w62 fun (e64 : Ending) (w65 : World) =>
  ∃ (x66 : Bool), e64 = .returned (.bool x66) ∧ (R (.returned (.bool x66)) w65)) (R (.returned (.bool false)) w62)))) (R (.returned (.bool false)) w53)))))) → K47 w48) → (br (decide ((x46 : Int) ≠ 0)) (R (.returned (.bool false)) w44) (br (decide ((((p_25n : Int)) : Int) ≠ (IntKind.i64.wrap (((List.length x7 : Int)) + 1)))) (R (.returned (.bool false)) w44) (K47 w44))))))))) → K32 t71_33 w34) → (br (decide ((e_26 : Int) ≠ 0)) (K32 true w31) (K32 (decide ((f_30 : Int) ≠ 0)) w31)))) → K28 both_29 both_29n both_29c f_30 w31) → (drw w27 fun w67 =>
  (∃ (x68 : List UInt8), World.cell? w67 (p19.add 0) = some (.string ⟨⟨x68⟩⟩) ∧ (∃ (x69 : Int), World.cell? w67 (p19.add 1) = some (.int .i64 x69) ∧ ((al w67 24 [.slice l_1 l_1n l_1c, .slice (some p22) 1 1, .slice m_2 m_2n m_2c] fun p70 w71 =>
  (Calls Tryd.prog 22 ⟨[.slice (some p70) 3 3]⟩ w71 fun (e72 : Ending) (w73 : World) =>
  ∃ (x74 : Option Addr) (x74n : Nat) (x74c : Nat), e72 = .returned (.slice x74 x74n x74c) ∧ ((Calls Tryd.prog 12 ⟨[.agg ⟨[.string ⟨⟨x68⟩⟩, .int .i64 x69]⟩, .slice x74 x74n x74c]⟩ w73 fun (e75 : Ending) (w76 : World) =>
  ∃ (x77 : Option Addr) (x77n : Nat) (x77c : Nat) (x78 : Int), e75 = .returned (.tuple ⟨[.slice x77 x77n x77c, .int .i64 x78]⟩) ∧ (K28 x77 x77n x77c x78 w76)) ∧ True)) ∧ True) ∧ True))) ∧ (al w67 24 [.slice l_1 l_1n l_1c, .slice (some p22) 1 1, .slice m_2 m_2n m_2c] fun p79 w80 =>
  (Calls Tryd.prog 22 ⟨[.slice (some p79) 3 3]⟩ w80 fun (e81 : Ending) (w82 : World) =>
  ∃ (x83 : Option Addr) (x83n : Nat) (x83c : Nat), e81 = .returned (.slice x83 x83n x83c) ∧ (∃ (x84 : List UInt8), World.cell? w82 (p19.add 0) = some (.string ⟨⟨x84⟩⟩) ∧ (∃ (x85 : Int), World.cell? w82 (p19.add 1) = some (.int .i64 x85) ∧ ((Calls Tryd.prog 12 ⟨[.agg ⟨[.string ⟨⟨x84⟩⟩, .int .i64 x85]⟩, .slice x83 x83n x83c]⟩ w82 fun (e86 : Ending) (w87 : World) =>
  ∃ (x88 : Option Addr) (x88n : Nat) (x88c : Nat) (x89 : Int), e86 = .returned (.tuple ⟨[.slice x88 x88n x88c, .int .i64 x89]⟩) ∧ (K28 x88 x88n x88c x89 w87)) ∧ True)))) ∧ True) ∧ True))) → K24 p_25 p_25n p_25c e_26 w27) → (drw w23 fun w90 =>
  (∃ (x91 : List UInt8), World.cell? w90 (p19.add 0) = some (.string ⟨⟨x91⟩⟩) ∧ (∃ (x92 : Int), World.cell? w90 (p19.add 1) = some (.int .i64 x92) ∧ ((al w90 45 [.int .i64 1, .string ⟨⟨[120]⟩⟩, .int .i64 0, .slice none 0 0] fun p93 w94 =>
  (al w94 24 [.slice l_1 l_1n l_1c, .slice (some p22) 1 1, .slice (some p93) 1 1] fun p95 w96 =>
  (Calls Tryd.prog 22 ⟨[.slice (some p95) 3 3]⟩ w96 fun (e97 : Ending) (w98 : World) =>
  ∃ (x99 : Option Addr) (x99n : Nat) (x99c : Nat), e97 = .returned (.slice x99 x99n x99c) ∧ ((Calls Tryd.prog 12 ⟨[.agg ⟨[.string ⟨⟨x91⟩⟩, .int .i64 x92]⟩, .slice x99 x99n x99c]⟩ w98 fun (e100 : Ending) (w101 : World) =>
  ∃ (x102 : Option Addr) (x102n : Nat) (x102c : Nat) (x103 : Int), e100 = .returned (.tuple ⟨[.slice x102 x102n x102c, .int .i64 x103]⟩) ∧ (K24 x102 x102n x102c x103 w101)) ∧ True)) ∧ True) ∧ True) ∧ True))) ∧ (al w90 45 [.int .i64 1, .string ⟨⟨[120]⟩⟩, .int .i64 0, .slice none 0 0] fun p104 w105 =>
  (al w105 24 [.slice l_1 l_1n l_1c, .slice (some p22) 1 1, .slice (some p104) 1 1] fun p106 w107 =>
  (Calls Tryd.prog 22 ⟨[.slice (some p106) 3 3]⟩ w107 fun (e108 : Ending) (w109 : World) =>
  ∃ (x110 : Option Addr) (x110n : Nat) (x110c : Nat), e108 = .returned (.slice x110 x110n x110c) ∧ (∃ (x111 : List UInt8), World.cell? w109 (p19.add 0) = some (.string ⟨⟨x111⟩⟩) ∧ (∃ (x112 : Int), World.cell? w109 (p19.add 1) = some (.int .i64 x112) ∧ ((Calls Tryd.prog 12 ⟨[.agg ⟨[.string ⟨⟨x111⟩⟩, .int .i64 x112]⟩, .slice x110 x110n x110c]⟩ w109 fun (e113 : Ending) (w114 : World) =>
  ∃ (x115 : Option Addr) (x115n : Nat) (x115c : Nat) (x116 : Int), e113 = .returned (.tuple ⟨[.slice x115 x115n x115c, .int .i64 x116]⟩) ∧ (K24 x115 x115n x115c x116 w114)) ∧ True)))) ∧ True) ∧ True) ∧ True)))) → K13 w14) → (br (!x8) (Calls Tryd.prog 11 ⟨[]⟩ w10 fun (e117 : Ending) (w118 : World) =>
  ∃ (x119 : Bool), e117 = .returned (.bool x119) ∧ (R (.returned (.bool x119)) w118)) (br (!x12) (Calls Tryd.prog 11 ⟨[]⟩ w10 fun (e120 : Ending) (w121 : World) =>
  ∃ (x122 : Bool), e120 = .returned (.bool x122) ∧ (R (.returned (.bool x122)) w121)) (K13 w10)))))
set_option maxRecDepth 100000 in
theorem e_law13_LayoutStarts (l_1 : Option Addr) (l_1n : Nat) (l_1c : Nat) (m_2 : Option Addr) (m_2n : Nat) (m_2c : Nat) (page_3 : Int) (line_4 : Int) (R : Ending → World → Prop) (w : World) : fnV Tryd.prog Tryd.f6 an_law13_LayoutStarts [.slice l_1 l_1n l_1c, .slice m_2 m_2n m_2c, .int .u8 page_3, .int .u8 line_4] R w = sh_law13_LayoutStarts l_1 l_1n l_1c m_2 m_2n m_2c page_3 line_4 R w := by kernel_rfl
theorem c_law13_LayoutStarts {l_1 : Option Addr} {l_1n : Nat} {l_1c : Nat} {m_2 : Option Addr} {m_2n : Nat} {m_2c : Nat} {page_3 : Int} {line_4 : Int} {R : Ending → World → Prop} {w : World} (h : sh_law13_LayoutStarts l_1 l_1n l_1c m_2 m_2n m_2c page_3 line_4 R w) : Calls Tryd.prog F_law13_LayoutStarts ⟨[.slice l_1 l_1n l_1c, .slice m_2 m_2n m_2c, .int .u8 page_3, .int .u8 line_4]⟩ w R := calls_of_fnV Tryd.func6 (by rw [e_law13_LayoutStarts]; exact h)

def an_law13_LayoutFind : Ann := .two (.leaf) (.two (.leaf) (.two (.two (.leaf) (.two (.two (.leaf) (.leaf)) (.leaf))) (.two (.leaf) (.two (.leaf) (.two (.leaf) (.cut 558551906910224 [] (.two (.leaf) (.two (.two (.leaf) (.leaf)) (.leaf))) (.two (.two (.leaf) (.two (.two (.leaf) (.leaf)) (.leaf))) (.cut 5070602382023451674508231966736 [] (.two (.leaf) (.two (.two (.leaf) (.leaf)) (.leaf))) (.two (.two (.leaf) (.one (.loop 166143358268312658277763908909416464 [(103, .one (.int .i64))] (.two (.leaf) (.two (.two (.leaf) (.leaf)) (.two (.one (.two (.leaf) (.two (.leaf) (.two (.two (.leaf) (.leaf)) (.leaf))))) (.leaf))))))) (.two (.leaf) (.leaf)))))))))))
def sh_law13_LayoutFind (l_1 : Option Addr) (l_1n : Nat) (l_1c : Nat) (p_2 : List UInt8) (p_3 : Int) (R : Ending → World → Prop) (w : World) : Prop :=
  al w 23 [.string ⟨⟨p_2⟩⟩, .int .i64 p_3] fun p4 w5 =>
  Calls Tryd.prog 15 ⟨[.slice l_1 l_1n l_1c]⟩ w5 fun (e6 : Ending) (w7 : World) =>
  ∃ (x8 : List UInt8) (x9 : Bool), e6 = .returned (.tuple ⟨[.string ⟨⟨x8⟩⟩, .bool x9]⟩) ∧ (br (!x9) (Calls Tryd.prog 11 ⟨[]⟩ w7 fun (e10 : Ending) (w11 : World) =>
  ∃ (x12 : Bool), e10 = .returned (.bool x12) ∧ (R (.returned (.bool x12)) w11)) (Calls Tryd.prog 12 ⟨[.agg ⟨[.string ⟨⟨[]⟩⟩, .int .i64 0]⟩, .slice l_1 l_1n l_1c]⟩ w7 fun (e13 : Ending) (w14 : World) =>
  ∃ (x15 : Option Addr) (x15n : Nat) (x15c : Nat) (x16 : Int), e13 = .returned (.tuple ⟨[.slice x15 x15n x15c, .int .i64 x16]⟩) ∧ (∃ (x17 : List UInt8), World.cell? w14 (p4.add 0) = some (.string ⟨⟨x17⟩⟩) ∧ (∃ (x18 : Int), World.cell? w14 (p4.add 1) = some (.int .i64 x18) ∧ (Calls Tryd.prog 25 ⟨[.slice l_1 l_1n l_1c, .agg ⟨[.string ⟨⟨x17⟩⟩, .int .i64 x18]⟩]⟩ w14 fun (e19 : Ending) (w20 : World) =>
  ∃ (x21 : Int) (x22 : Int) (x23 : Int), e19 = .returned (.tuple ⟨[.int .i64 x21, .int .i64 x22, .int .i64 x23]⟩) ∧ (∃ (x24 : List UInt8), World.cell? w20 (p4.add 0) = some (.string ⟨⟨x24⟩⟩) ∧ (∃ (x25 : Int), World.cell? w20 (p4.add 1) = some (.int .i64 x25) ∧ (Calls Tryd.prog 26 ⟨[.slice l_1 l_1n l_1c, .agg ⟨[.string ⟨⟨x24⟩⟩, .int .i64 x25]⟩]⟩ w20 fun (e26 : Ending) (w27 : World) =>
  ∃ (x28 : List UInt8) (x29 : Int), e26 = .returned (.tuple ⟨[.string ⟨⟨x28⟩⟩, .int .i64 x29]⟩) ∧ (∀ (K30 : World → Prop), (∀  (w31 : World), (∀ _ : Env, (br (decide ((x23 : Int) ≠ 0)) (br (decide ((x23 : Int) = 6)) (br (decide ((x21 : Int) = 0)) (br (decide ((x22 : Int) = 0)) (br (decide ((x28 : List UInt8) = ([]))) (∃ (x32 : List UInt8), World.cell? w31 (p4.add 0) = some (.string ⟨⟨x32⟩⟩) ∧ (∃ (x33 : Int), World.cell? w31 (p4.add 1) = some (.int .i64 x33) ∧ (Calls Tryd.prog 27 ⟨[.slice x15 x15n x15c, .agg ⟨[.string ⟨⟨x32⟩⟩, .int .i64 x33]⟩]⟩ w31 fun (e34 : Ending) (w35 : World) =>
  ∃ (x36 : Bool), e34 = .returned (.bool x36) ∧ (br (!x36) (Calls Tryd.prog 11 ⟨[]⟩ w35 fun (e37 : Ending) (w38 : World) =>
  ∃ (x39 : Bool), e37 = .returned (.bool x39) ∧ (R (.returned (.bool x39)) w38)) (R (.returned (.bool false)) w35))))) (R (.returned (.bool false)) w31)) (R (.returned (.bool false)) w31)) (R (.returned (.bool false)) w31)) (R (.returned (.bool false)) w31)) (∀ (K40 : World → Prop), (∀  (w41 : World), (∀ _ : Env, (∃ (I42 : Int → World → Nat → Prop), (∃ m46 : Nat, I42 0 w41 m46) ∧ ∀ (t103_43 : Int) (w44 : World) (m45 : Nat), I42 t103_43 w44 m45 → ∀ _ : Env, (br (decide ((t103_43 : Int) < x22)) (drw w44 fun w47 =>
  idx x15 x15n t103_43 2 fun p48 =>
  ∃ (x49 : List UInt8), World.cell? w47 (p48.add 0) = some (.string ⟨⟨x49⟩⟩) ∧ (∃ (x50 : Int), World.cell? w47 (p48.add 1) = some (.int .i64 x50) ∧ (∃ (x51 : List UInt8), World.cell? w47 (p4.add 0) = some (.string ⟨⟨x51⟩⟩) ∧ (∃ (x52 : Int), World.cell? w47 (p4.add 1) = some (.int .i64 x52) ∧ (br (decide ((((decide ((x49 : List UInt8) = x51) && (decide ((x50 : Int) = x52) && true))) : Bool) ≠ (decide ((x21 : Int) ≤ t103_43)))) (R (.returned (.bool false)) w47) (∃ m53 : Nat, m53 < m45 ∧ I42 (IntKind.i64.wrap (t103_43 + 1)) w47 m53)))))) (drw w44 fun w54 =>
  br (decide ((x22 : Int) = ((x15n : Int)))) ((Calls Tryd.prog 11 ⟨[]⟩ w54 fun (e55 : Ending) (w56 : World) =>
  ∃ (x57 : Bool), e55 = .returned (.bool x57) ∧ (R (.returned (.bool x57)) w56)) ∧ True) (idx x15 x15n x22 2 fun p58 =>
  ∃ (x59 : List UInt8), World.cell? w54 (p58.add 0) = some (.string ⟨⟨x59⟩⟩) ∧ (∃ (x60 : Int), World.cell? w54 (p58.add 1) = some (.int .i64 x60) ∧ (∃ (x61 : List UInt8), World.cell? w54 (p4.add 0) = some (.string ⟨⟨x61⟩⟩) ∧ (∃ (x62 : Int), World.cell? w54 (p4.add 1) = some (.int .i64 x62) ∧ ((br (!(decide ((x59 : List UInt8) = x61) && (decide ((x60 : Int) = x62) && true))) (Calls Tryd.prog 11 ⟨[]⟩ w54 fun (e63 : Ending) (w64 : World) =>
  ∃ (x65 : Bool), e63 = .returned (.bool x65) ∧ (R (.returned (.bool x65)) w64)) (R (.returned (.bool false)) w54)) ∧ True))))))))) → K40 w41) → (br (decide ((x21 : Int) < 0)) (R (.returned (.bool false)) w31) (br (decide ((x22 : Int) ≤ x21)) (R (.returned (.bool false)) w31) (br (decide ((((x15n : Int)) : Int) < x22)) (R (.returned (.bool false)) w31) (br (decide ((((x15n : Int)) : Int) ≠ ((List.length x8 : Int)))) (R (.returned (.bool false)) w31) (ssl x8 x21 x22 fun s66 =>
  br (decide ((x28 : List UInt8) ≠ s66)) (R (.returned (.bool false)) w31) (K40 w31))))))))) → K30 w31) → (br (decide ((x16 : Int) ≠ 0)) (R (.returned (.bool false)) w27) (br (decide ((x23 : Int) ≠ x29)) (R (.returned (.bool false)) w27) (K30 w27))))))))))))
set_option maxRecDepth 100000 in
theorem e_law13_LayoutFind (l_1 : Option Addr) (l_1n : Nat) (l_1c : Nat) (p_2 : List UInt8) (p_3 : Int) (R : Ending → World → Prop) (w : World) : fnV Tryd.prog Tryd.f7 an_law13_LayoutFind [.slice l_1 l_1n l_1c, .agg ⟨[.string ⟨⟨p_2⟩⟩, .int .i64 p_3]⟩] R w = sh_law13_LayoutFind l_1 l_1n l_1c p_2 p_3 R w := by kernel_rfl
theorem c_law13_LayoutFind {l_1 : Option Addr} {l_1n : Nat} {l_1c : Nat} {p_2 : List UInt8} {p_3 : Int} {R : Ending → World → Prop} {w : World} (h : sh_law13_LayoutFind l_1 l_1n l_1c p_2 p_3 R w) : Calls Tryd.prog F_law13_LayoutFind ⟨[.slice l_1 l_1n l_1c, .agg ⟨[.string ⟨⟨p_2⟩⟩, .int .i64 p_3]⟩]⟩ w R := calls_of_fnV Tryd.func7 (by rw [e_law13_LayoutFind]; exact h)

def an_law13_LayoutOrder : Ann := .two (.leaf) (.two (.two (.leaf) (.two (.leaf) (.two (.two (.leaf) (.leaf)) (.leaf)))) (.two (.leaf) (.two (.leaf) (.two (.leaf) (.two (.leaf) (.two (.cut 2269814212194729984 [(60, .one (.bool))] (.leaf) (.two (.two (.leaf) (.leaf)) (.leaf))) (.two (.leaf) (.leaf))))))))
def sh_law13_LayoutOrder (l_1 : Option Addr) (l_1n : Nat) (l_1c : Nat) (p_2 : List UInt8) (p_3 : Int) (q_4 : List UInt8) (q_5 : Int) (R : Ending → World → Prop) (w : World) : Prop :=
  al w 23 [.string ⟨⟨p_2⟩⟩, .int .i64 p_3] fun p6 w7 =>
  al w7 23 [.string ⟨⟨q_4⟩⟩, .int .i64 q_5] fun p8 w9 =>
  Calls Tryd.prog 15 ⟨[.slice l_1 l_1n l_1c]⟩ w9 fun (e10 : Ending) (w11 : World) =>
  ∃ (x12 : List UInt8) (x13 : Bool), e10 = .returned (.tuple ⟨[.string ⟨⟨x12⟩⟩, .bool x13]⟩) ∧ (br (!x13) (Calls Tryd.prog 11 ⟨[]⟩ w11 fun (e14 : Ending) (w15 : World) =>
  ∃ (x16 : Bool), e14 = .returned (.bool x16) ∧ (R (.returned (.bool x16)) w15)) (∃ (x17 : List UInt8), World.cell? w11 (p6.add 0) = some (.string ⟨⟨x17⟩⟩) ∧ (∃ (x18 : Int), World.cell? w11 (p6.add 1) = some (.int .i64 x18) ∧ (∃ (x19 : List UInt8), World.cell? w11 (p8.add 0) = some (.string ⟨⟨x19⟩⟩) ∧ (∃ (x20 : Int), World.cell? w11 (p8.add 1) = some (.int .i64 x20) ∧ (Calls Tryd.prog 28 ⟨[.slice l_1 l_1n l_1c, .agg ⟨[.string ⟨⟨x17⟩⟩, .int .i64 x18]⟩, .agg ⟨[.string ⟨⟨x19⟩⟩, .int .i64 x20]⟩]⟩ w11 fun (e21 : Ending) (w22 : World) =>
  ∃ (x23 : Int) (x24 : Int), e21 = .returned (.tuple ⟨[.int .i64 x23, .int .i64 x24]⟩) ∧ (∃ (x25 : List UInt8), World.cell? w22 (p8.add 0) = some (.string ⟨⟨x25⟩⟩) ∧ (∃ (x26 : Int), World.cell? w22 (p8.add 1) = some (.int .i64 x26) ∧ (∃ (x27 : List UInt8), World.cell? w22 (p6.add 0) = some (.string ⟨⟨x27⟩⟩) ∧ (∃ (x28 : Int), World.cell? w22 (p6.add 1) = some (.int .i64 x28) ∧ (Calls Tryd.prog 28 ⟨[.slice l_1 l_1n l_1c, .agg ⟨[.string ⟨⟨x25⟩⟩, .int .i64 x26]⟩, .agg ⟨[.string ⟨⟨x27⟩⟩, .int .i64 x28]⟩]⟩ w22 fun (e29 : Ending) (w30 : World) =>
  ∃ (x31 : Int) (x32 : Int), e29 = .returned (.tuple ⟨[.int .i64 x31, .int .i64 x32]⟩) ∧ (∃ (x33 : List UInt8), World.cell? w30 (p6.add 0) = some (.string ⟨⟨x33⟩⟩) ∧ (∃ (x34 : Int), World.cell? w30 (p6.add 1) = some (.int .i64 x34) ∧ (Calls Tryd.prog 25 ⟨[.slice l_1 l_1n l_1c, .agg ⟨[.string ⟨⟨x33⟩⟩, .int .i64 x34]⟩]⟩ w30 fun (e35 : Ending) (w36 : World) =>
  ∃ (x37 : Int) (x38 : Int) (x39 : Int), e35 = .returned (.tuple ⟨[.int .i64 x37, .int .i64 x38, .int .i64 x39]⟩) ∧ (∃ (x40 : List UInt8), World.cell? w36 (p8.add 0) = some (.string ⟨⟨x40⟩⟩) ∧ (∃ (x41 : Int), World.cell? w36 (p8.add 1) = some (.int .i64 x41) ∧ (Calls Tryd.prog 25 ⟨[.slice l_1 l_1n l_1c, .agg ⟨[.string ⟨⟨x40⟩⟩, .int .i64 x41]⟩]⟩ w36 fun (e42 : Ending) (w43 : World) =>
  ∃ (x44 : Int) (x45 : Int) (x46 : Int), e42 = .returned (.tuple ⟨[.int .i64 x44, .int .i64 x45, .int .i64 x46]⟩) ∧ (∀ (K47 : Bool → World → Prop), (∀ (t60_48 : Bool) (w49 : World), (∀ _ : Env, (br t60_48 (br (decide ((x24 : Int) = 6)) (br (decide ((x32 : Int) = 6)) (br (decide ((x23 : Int) = 0)) (br (decide ((x31 : Int) = 0)) (Calls Tryd.prog 11 ⟨[]⟩ w49 fun (e50 : Ending) (w51 : World) =>
  ∃ (x52 : Bool), e50 = .returned (.bool x52) ∧ (R (.returned (.bool x52)) w51)) (R (.returned (.bool false)) w49)) (R (.returned (.bool false)) w49)) (R (.returned (.bool false)) w49)) (R (.returned (.bool false)) w49)) (br (decide ((x24 : Int) = 0)) (br (decide ((x32 : Int) = 0)) (br (decide ((x23 : Int) = (IntKind.i64.wrap (0 - x31)))) (br (decide (((decide ((x23 : Int) < 0)) : Bool) = (decide ((x37 : Int) < x44)))) (∃ (x53 : List UInt8), World.cell? w49 (p6.add 0) = some (.string ⟨⟨x53⟩⟩) ∧ (∃ (x54 : Int), World.cell? w49 (p6.add 1) = some (.int .i64 x54) ∧ (∃ (x55 : List UInt8), World.cell? w49 (p8.add 0) = some (.string ⟨⟨x55⟩⟩) ∧ (∃ (x56 : Int), World.cell? w49 (p8.add 1) = some (.int .i64 x56) ∧ (br (decide (((decide ((x23 : Int) = 0)) : Bool) = ((decide ((x53 : List UInt8) = x55) && (decide ((x54 : Int) = x56) && true))))) (Calls Tryd.prog 11 ⟨[]⟩ w49 fun (e57 : Ending) (w58 : World) =>
  ∃ (x59 : Bool), e57 = .returned (.bool x59) ∧ (R (.returned (.bool x59)) w58)) (R (.returned (.bool false)) w49)))))) (R (.returned (.bool false)) w49)) (R (.returned (.bool false)) w49)) (R (.returned (.bool false)) w49)) (R (.returned (.bool false)) w49)))) → K47 t60_48 w49) → (br (decide ((x39 : Int) ≠ 0)) (K47 true w43) (K47 (decide ((x46 : Int) ≠ 0)) w43))))))))))))))))))))
set_option maxRecDepth 100000 in
theorem e_law13_LayoutOrder (l_1 : Option Addr) (l_1n : Nat) (l_1c : Nat) (p_2 : List UInt8) (p_3 : Int) (q_4 : List UInt8) (q_5 : Int) (R : Ending → World → Prop) (w : World) : fnV Tryd.prog Tryd.f8 an_law13_LayoutOrder [.slice l_1 l_1n l_1c, .agg ⟨[.string ⟨⟨p_2⟩⟩, .int .i64 p_3]⟩, .agg ⟨[.string ⟨⟨q_4⟩⟩, .int .i64 q_5]⟩] R w = sh_law13_LayoutOrder l_1 l_1n l_1c p_2 p_3 q_4 q_5 R w := by kernel_rfl
theorem c_law13_LayoutOrder {l_1 : Option Addr} {l_1n : Nat} {l_1c : Nat} {p_2 : List UInt8} {p_3 : Int} {q_4 : List UInt8} {q_5 : Int} {R : Ending → World → Prop} {w : World} (h : sh_law13_LayoutOrder l_1 l_1n l_1c p_2 p_3 q_4 q_5 R w) : Calls Tryd.prog F_law13_LayoutOrder ⟨[.slice l_1 l_1n l_1c, .agg ⟨[.string ⟨⟨p_2⟩⟩, .int .i64 p_3]⟩, .agg ⟨[.string ⟨⟨q_4⟩⟩, .int .i64 q_5]⟩]⟩ w R := calls_of_fnV Tryd.func8 (by rw [e_law13_LayoutOrder]; exact h)

def an_law13_LayoutLines : Ann := .two (.leaf) (.two (.leaf) (.two (.two (.leaf) (.two (.two (.leaf) (.leaf)) (.leaf))) (.two (.leaf) (.two (.two (.leaf) (.two (.two (.leaf) (.leaf)) (.leaf))) (.two (.leaf) (.two (.two (.leaf) (.two (.two (.leaf) (.leaf)) (.leaf))) (.two (.leaf) (.two (.two (.leaf) (.one (.loop 2417851638666308396006916 [(9, .one (.str)), (49, .one (.int .i64))] (.two (.leaf) (.two (.two (.leaf) (.leaf)) (.two (.one (.two (.leaf) (.cut 36875473748909621248 [] (.two (.leaf) (.two (.leaf) (.leaf))) (.two (.leaf) (.two (.two (.leaf) (.two (.two (.leaf) (.leaf)) (.leaf))) (.leaf)))))) (.leaf))))))) (.two (.leaf) (.leaf))))))))))
def sh_law13_LayoutLines (l_1 : Option Addr) (l_1n : Nat) (l_1c : Nat) (R : Ending → World → Prop) (w : World) : Prop :=
  Calls Tryd.prog 15 ⟨[.slice l_1 l_1n l_1c]⟩ w fun (e2 : Ending) (w3 : World) =>
  ∃ (x4 : List UInt8) (x5 : Bool), e2 = .returned (.tuple ⟨[.string ⟨⟨x4⟩⟩, .bool x5]⟩) ∧ (br (!x5) (Calls Tryd.prog 11 ⟨[]⟩ w3 fun (e6 : Ending) (w7 : World) =>
  ∃ (x8 : Bool), e6 = .returned (.bool x8) ∧ (R (.returned (.bool x8)) w7)) (Calls Tryd.prog 29 ⟨[.slice l_1 l_1n l_1c]⟩ w3 fun (e9 : Ending) (w10 : World) =>
  ∃ (x11 : Option Addr) (x11n : Nat) (x11c : Nat) (x12 : Int), e9 = .returned (.tuple ⟨[.slice x11 x11n x11c, .int .i64 x12]⟩) ∧ (br (decide ((x12 : Int) ≠ 0)) (br (decide ((x12 : Int) = 7)) (br (decide ((((x11n : Int)) : Int) = 0)) (Calls Tryd.prog 11 ⟨[]⟩ w10 fun (e13 : Ending) (w14 : World) =>
  ∃ (x15 : Bool), e13 = .returned (.bool x15) ∧ (R (.returned (.bool x15)) w14)) (R (.returned (.bool false)) w10)) (R (.returned (.bool false)) w10)) (Calls Tryd.prog 12 ⟨[.agg ⟨[.string ⟨⟨[]⟩⟩, .int .i64 0]⟩, .slice l_1 l_1n l_1c]⟩ w10 fun (e16 : Ending) (w17 : World) =>
  ∃ (x18 : Option Addr) (x18n : Nat) (x18c : Nat) (x19 : Int), e16 = .returned (.tuple ⟨[.slice x18 x18n x18c, .int .i64 x19]⟩) ∧ (br (decide ((x19 : Int) ≠ 0)) (R (.returned (.bool false)) w17) (∃ (I20 : List UInt8 → Int → World → Nat → Prop), (∃ m25 : Nat, I20 ([]) 0 w17 m25) ∧ ∀ (all_21 : List UInt8) (t49_22 : Int) (w23 : World) (m24 : Nat), I20 all_21 t49_22 w23 m24 → ∀ _ : Env, (br (decide ((t49_22 : Int) < ((x18n : Int)))) (idx x18 x18n t49_22 2 fun p26 =>
  ∃ (x27 : List UInt8), World.cell? w23 (p26.add 0) = some (.string ⟨⟨x27⟩⟩) ∧ (∃ (x28 : Int), World.cell? w23 (p26.add 1) = some (.int .i64 x28) ∧ (al w23 23 [.string ⟨⟨[]⟩⟩, .int .i64 0] fun p29 w30 =>
  stL w30 p29 0 [.string ⟨⟨x27⟩⟩, .int .i64 x28] fun w31 =>
  ∀ (K32 : World → Prop), (∀  (w33 : World), (∀ _ : Env, (∃ (x34 : List UInt8), World.cell? w33 (p29.add 0) = some (.string ⟨⟨x34⟩⟩) ∧ (∃ (x35 : Int), World.cell? w33 (p29.add 1) = some (.int .i64 x35) ∧ (Calls Tryd.prog 26 ⟨[.slice l_1 l_1n l_1c, .agg ⟨[.string ⟨⟨x34⟩⟩, .int .i64 x35]⟩]⟩ w33 fun (e36 : Ending) (w37 : World) =>
  ∃ (x38 : List UInt8) (x39 : Int), e36 = .returned (.tuple ⟨[.string ⟨⟨x38⟩⟩, .int .i64 x39]⟩) ∧ (br (decide ((x39 : Int) ≠ 0)) (R (.returned (.bool false)) w37) (br (decide ((x38 : List UInt8) = ([]))) (R (.returned (.bool false)) w37) (sadd all_21 x38 fun s40 =>
  ∃ m41 : Nat, m41 < m24 ∧ I20 s40 (IntKind.i64.wrap (t49_22 + 1)) w37 m41))))))) → K32 w33) → (drw w31 fun w42 =>
  br (decide ((0 : Int) < t49_22)) (∃ (x43 : List UInt8), World.cell? w42 (p29.add 0) = some (.string ⟨⟨x43⟩⟩) ∧ (∃ (x44 : Int), World.cell? w42 (p29.add 1) = some (.int .i64 x44) ∧ (idx x18 x18n (IntKind.i64.wrap (t49_22 - 1)) 2 fun p45 =>
  ∃ (x46 : List UInt8), World.cell? w42 (p45.add 0) = some (.string ⟨⟨x46⟩⟩) ∧ (∃ (x47 : Int), World.cell? w42 (p45.add 1) = some (.int .i64 x47) ∧ (br ((decide ((x43 : List UInt8) = x46) && (decide ((x44 : Int) = x47) && true))) (∃ m48 : Nat, m48 < m24 ∧ I20 all_21 (IntKind.i64.wrap (t49_22 + 1)) w42 m48) (K32 w42)))))) (K32 w42))))) (br (decide ((all_21 : List UInt8) = x4)) (Calls Tryd.prog 11 ⟨[]⟩ w23 fun (e49 : Ending) (w50 : World) =>
  ∃ (x51 : Bool), e49 = .returned (.bool x51) ∧ (R (.returned (.bool x51)) w50)) (R (.returned (.bool false)) w23)))))))))
set_option maxRecDepth 100000 in
theorem e_law13_LayoutLines (l_1 : Option Addr) (l_1n : Nat) (l_1c : Nat) (R : Ending → World → Prop) (w : World) : fnV Tryd.prog Tryd.f9 an_law13_LayoutLines [.slice l_1 l_1n l_1c] R w = sh_law13_LayoutLines l_1 l_1n l_1c R w := by kernel_rfl
theorem c_law13_LayoutLines {l_1 : Option Addr} {l_1n : Nat} {l_1c : Nat} {R : Ending → World → Prop} {w : World} (h : sh_law13_LayoutLines l_1 l_1n l_1c R w) : Calls Tryd.prog F_law13_LayoutLines ⟨[.slice l_1 l_1n l_1c]⟩ w R := calls_of_fnV Tryd.func9 (by rw [e_law13_LayoutLines]; exact h)

def an_ref10_Great : Ann := .two (.leaf) (.two (.cut 32640 [(14, .one (.bool))] (.leaf) (.two (.two (.leaf) (.two (.leaf) (.leaf))) (.leaf))) (.two (.two (.leaf) (.one (.loop 1099377410116 [(6, .one (.int .i64))] (.two (.two (.leaf) (.two (.leaf) (.leaf))) (.two (.one (.two (.leaf) (.two (.two (.leaf) (.leaf)) (.leaf)))) (.leaf)))))) (.two (.leaf) (.leaf))))
def sh_ref10_Great (l_1 : Option Addr) (l_1n : Nat) (l_1c : Nat) (R : Ending → World → Prop) (w : World) : Prop :=
  ∀ (K2 : Bool → World → Prop), (∀ (t14_3 : Bool) (w4 : World), (∀ _ : Env, (br t14_3 (Calls Tryd.prog 30 ⟨[.slice l_1 l_1n l_1c, .int .i64 20, .int .i64 40]⟩ w4 fun (e5 : Ending) (w6 : World) =>
  ∃ (x7 : Int) (x8 : Int) (x9 : Bool), e5 = .returned (.tuple ⟨[.int .i64 x7, .int .i64 x8, .bool x9]⟩) ∧ (br (!x9) (R (.returned (.bool true)) w6) (Calls Tryd.prog 31 ⟨[.slice l_1 l_1n l_1c, .int .i64 20]⟩ w6 fun (e10 : Ending) (w11 : World) =>
  ∃ (x12 : Bool), e10 = .returned (.bool x12) ∧ (R (.returned (.bool x12)) w11)))) (∃ (I13 : Int → World → Nat → Prop), (∃ m17 : Nat, I13 0 w4 m17) ∧ ∀ (i_14 : Int) (w15 : World) (m16 : Nat), I13 i_14 w15 m16 → ∀ _ : Env, (br (decide ((i_14 : Int) < ((l_1n : Int)))) (idx l_1 l_1n i_14 4 fun p18 =>
  ∃ (x19 : Option Addr) (x19n : Nat) (x19c : Nat), World.cell? w15 (p18.add 3) = some (.slice x19 x19n x19c) ∧ (br (decide ((0 : Int) < ((x19n : Int)))) (R (.returned (.bool true)) w15) (∃ m20 : Nat, m20 < m16 ∧ I13 (IntKind.i64.wrap (i_14 + 1)) w15 m20))) (Calls Tryd.prog 31 ⟨[.slice l_1 l_1n l_1c, .int .i64 20]⟩ w15 fun (e21 : Ending) (w22 : World) =>
  ∃ (x23 : Bool), e21 = .returned (.bool x23) ∧ (R (.returned (.bool x23)) w22)))))) → K2 t14_3 w4) → (br (decide ((((l_1n : Int)) : Int) ≤ 4096)) (K2 true w) (K2 (decide ((4100 : Int) < ((l_1n : Int)))) w))
set_option maxRecDepth 100000 in
theorem e_ref10_Great (l_1 : Option Addr) (l_1n : Nat) (l_1c : Nat) (R : Ending → World → Prop) (w : World) : fnV Tryd.prog Tryd.f10 an_ref10_Great [.slice l_1 l_1n l_1c] R w = sh_ref10_Great l_1 l_1n l_1c R w := by kernel_rfl
theorem c_ref10_Great {l_1 : Option Addr} {l_1n : Nat} {l_1c : Nat} {R : Ending → World → Prop} {w : World} (h : sh_ref10_Great l_1 l_1n l_1c R w) : Calls Tryd.prog F_ref10_Great ⟨[.slice l_1 l_1n l_1c]⟩ w R := calls_of_fnV Tryd.func10 (by rw [e_ref10_Great]; exact h)

def an_law13_awake : Ann := .two (.leaf) (.two (.leaf) (.two (.leaf) (.two (.leaf) (.two (.leaf) (.two (.leaf) (.leaf))))))
def sh_law13_awake  (R : Ending → World → Prop) (w : World) : Prop :=
  al w 45 [.int .i64 3, .string ⟨⟨[49, 114]⟩⟩, .int .i64 0, .slice none 0 0, .int .i64 2, .string ⟨⟨[]⟩⟩, .int .i64 0, .slice none 0 0, .int .i64 1, .string ⟨⟨[100, 101]⟩⟩, .int .i64 0, .slice none 0 0, .int .i64 2, .string ⟨⟨[]⟩⟩, .int .i64 0, .slice none 0 0, .int .i64 1, .string ⟨⟨[117, 115]⟩⟩, .int .i64 0, .slice none 0 0] fun p1 w2 =>
  Calls Tryd.prog 12 ⟨[.agg ⟨[.string ⟨⟨[]⟩⟩, .int .i64 0]⟩, .slice (some p1) 5 5]⟩ w2 fun (e3 : Ending) (w4 : World) =>
  ∃ (x5 : Option Addr) (x5n : Nat) (x5c : Nat) (x6 : Int), e3 = .returned (.tuple ⟨[.slice x5 x5n x5c, .int .i64 x6]⟩) ∧ (Calls Tryd.prog 18 ⟨[.slice (some p1) 5 5]⟩ w4 fun (e7 : Ending) (w8 : World) =>
  ∃ (x9 : Option Addr) (x9n : Nat) (x9c : Nat) (x10 : Int), e7 = .returned (.tuple ⟨[.slice x9 x9n x9c, .int .i64 x10]⟩) ∧ (al w8 23 [.string ⟨⟨[]⟩⟩, .int .i64 0] fun p11 w12 =>
  al w12 23 [.string ⟨⟨[]⟩⟩, .int .i64 0] fun p13 w14 =>
  stL w14 p11 0 [.string ⟨⟨[49, 114]⟩⟩, .int .i64 1] fun w15 =>
  stL w15 p13 0 [.string ⟨⟨[49, 114]⟩⟩, .int .i64 2] fun w16 =>
  br (decide ((x6 : Int) = 0)) (br (decide ((x10 : Int) = 0)) (∃ (x17 : List UInt8), World.cell? w16 (p11.add 0) = some (.string ⟨⟨x17⟩⟩) ∧ (∃ (x18 : Int), World.cell? w16 (p11.add 1) = some (.int .i64 x18) ∧ (∃ (x19 : List UInt8), World.cell? w16 (p11.add 0) = some (.string ⟨⟨x19⟩⟩) ∧ (∃ (x20 : Int), World.cell? w16 (p11.add 1) = some (.int .i64 x20) ∧ (∃ (x21 : List UInt8), World.cell? w16 (p13.add 0) = some (.string ⟨⟨x21⟩⟩) ∧ (∃ (x22 : Int), World.cell? w16 (p13.add 1) = some (.int .i64 x22) ∧ (∃ (x23 : List UInt8), World.cell? w16 (p13.add 0) = some (.string ⟨⟨x23⟩⟩) ∧ (∃ (x24 : Int), World.cell? w16 (p13.add 1) = some (.int .i64 x24) ∧ (al w16 23 [.string ⟨⟨x17⟩⟩, .int .i64 x18, .string ⟨⟨x19⟩⟩, .int .i64 x20, .string ⟨⟨x21⟩⟩, .int .i64 x22, .string ⟨⟨x23⟩⟩, .int .i64 x24] fun p25 w26 =>
  Calls Tryd.prog 23 ⟨[.slice x5 x5n x5c, .slice (some p25) 4 4]⟩ w26 fun (e27 : Ending) (w28 : World) =>
  ∃ (x29 : Bool), e27 = .returned (.bool x29) ∧ (br x29 (al w28 3 [.int .i64 2] fun p30 w31 =>
  Calls Tryd.prog 21 ⟨[.slice x9 x9n x9c, .slice (some p30) 1 1]⟩ w31 fun (e32 : Ending) (w33 : World) =>
  ∃ (x34 : Bool), e32 = .returned (.bool x34) ∧ (R (.returned (.bool x34)) w33)) (R (.returned (.bool false)) w28))))))))))) (R (.returned (.bool false)) w16)) (R (.returned (.bool false)) w16)))
set_option maxRecDepth 100000 in
theorem e_law13_awake  (R : Ending → World → Prop) (w : World) : fnV Tryd.prog Tryd.f11 an_law13_awake [] R w = sh_law13_awake  R w := by kernel_rfl
theorem c_law13_awake  {R : Ending → World → Prop} {w : World} (h : sh_law13_awake  R w) : Calls Tryd.prog F_law13_awake ⟨[]⟩ w R := calls_of_fnV Tryd.func11 (by rw [e_law13_awake]; exact h)

def an_layout_Positions : Ann := .two (.leaf) (.two (.two (.leaf) (.two (.leaf) (.two (.two (.leaf) (.leaf)) (.leaf)))) (.cut 33488944 [] (.two (.leaf) (.two (.two (.leaf) (.leaf)) (.leaf))) (.cut 8556380208 [] (.two (.leaf) (.two (.two (.leaf) (.leaf)) (.leaf))) (.two (.leaf) (.leaf)))))
def sh_layout_Positions (start_1 : List UInt8) (start_2 : Int) (l_3 : Option Addr) (l_3n : Nat) (l_3c : Nat) (R : Ending → World → Prop) (w : World) : Prop :=
  al w 23 [.string ⟨⟨start_1⟩⟩, .int .i64 start_2] fun p4 w5 =>
  Calls Tryd.prog 32 ⟨[.slice l_3 l_3n l_3c]⟩ w5 fun (e6 : Ending) (w7 : World) =>
  ∃ (x8 : List UInt8) (x9 : Int), e6 = .returned (.tuple ⟨[.string ⟨⟨x8⟩⟩, .int .i64 x9]⟩) ∧ (br (decide ((x9 : Int) ≠ 0)) (R (.returned (.tuple ⟨[.slice none 0 0, .int .i64 x9]⟩)) w7) (∀ (K10 : World → Prop), (∀  (w11 : World), (∀ _ : Env, (∀ (K12 : World → Prop), (∀  (w13 : World), (∀ _ : Env, (∃ (x14 : List UInt8), World.cell? w13 (p4.add 0) = some (.string ⟨⟨x14⟩⟩) ∧ (∃ (x15 : Int), World.cell? w13 (p4.add 1) = some (.int .i64 x15) ∧ (Calls Tryd.prog 34 ⟨[.agg ⟨[.string ⟨⟨x14⟩⟩, .int .i64 x15]⟩, .slice l_3 l_3n l_3c]⟩ w13 fun (e16 : Ending) (w17 : World) =>
  ∃ (x18 : Option Addr) (x18n : Nat) (x18c : Nat), e16 = .returned (.slice x18 x18n x18c) ∧ (R (.returned (.tuple ⟨[.slice x18 x18n x18c, .int .i64 0]⟩)) w17))))) → K12 w13) → (∃ (x19 : Int), World.cell? w11 (p4.add 1) = some (.int .i64 x19) ∧ (br (decide ((x19 : Int) < 0)) (R (.returned (.tuple ⟨[.slice none 0 0, .int .i64 2]⟩)) w11) (∃ (x20 : Int), World.cell? w11 (p4.add 1) = some (.int .i64 x20) ∧ (br (decide ((4096 : Int) < x20)) (R (.returned (.tuple ⟨[.slice none 0 0, .int .i64 2]⟩)) w11) (K12 w11))))))) → K10 w11) → (∃ (x21 : List UInt8), World.cell? w7 (p4.add 0) = some (.string ⟨⟨x21⟩⟩) ∧ (br (decide ((x21 : List UInt8) ≠ ([]))) (∃ (x22 : List UInt8), World.cell? w7 (p4.add 0) = some (.string ⟨⟨x22⟩⟩) ∧ (Calls Tryd.prog 33 ⟨[.string ⟨⟨x22⟩⟩]⟩ w7 fun (e23 : Ending) (w24 : World) =>
  ∃ (x25 : Bool), e23 = .returned (.bool x25) ∧ (br (!x25) (R (.returned (.tuple ⟨[.slice none 0 0, .int .i64 14]⟩)) w24) (K10 w24)))) (K10 w7)))))
set_option maxRecDepth 100000 in
theorem e_layout_Positions (start_1 : List UInt8) (start_2 : Int) (l_3 : Option Addr) (l_3n : Nat) (l_3c : Nat) (R : Ending → World → Prop) (w : World) : fnV Tryd.prog Tryd.f12 an_layout_Positions [.agg ⟨[.string ⟨⟨start_1⟩⟩, .int .i64 start_2]⟩, .slice l_3 l_3n l_3c] R w = sh_layout_Positions start_1 start_2 l_3 l_3n l_3c R w := by kernel_rfl
theorem c_layout_Positions {start_1 : List UInt8} {start_2 : Int} {l_3 : Option Addr} {l_3n : Nat} {l_3c : Nat} {R : Ending → World → Prop} {w : World} (h : sh_layout_Positions start_1 start_2 l_3 l_3n l_3c R w) : Calls Tryd.prog F_layout_Positions ⟨[.agg ⟨[.string ⟨⟨start_1⟩⟩, .int .i64 start_2]⟩, .slice l_3 l_3n l_3c]⟩ w R := calls_of_fnV Tryd.func12 (by rw [e_layout_Positions]; exact h)

def an_ref13_Positions : Ann := .two (.leaf) (.two (.two (.leaf) (.two (.leaf) (.two (.two (.leaf) (.leaf)) (.leaf)))) (.cut 536346672 [] (.two (.leaf) (.two (.two (.leaf) (.leaf)) (.leaf))) (.cut 274341036080 [] (.two (.leaf) (.two (.two (.leaf) (.leaf)) (.leaf))) (.two (.leaf) (.two (.leaf) (.leaf))))))
def sh_ref13_Positions (start_1 : List UInt8) (start_2 : Int) (l_3 : Option Addr) (l_3n : Nat) (l_3c : Nat) (R : Ending → World → Prop) (w : World) : Prop :=
  al w 23 [.string ⟨⟨start_1⟩⟩, .int .i64 start_2] fun p4 w5 =>
  Calls Tryd.prog 35 ⟨[.slice l_3 l_3n l_3c]⟩ w5 fun (e6 : Ending) (w7 : World) =>
  ∃ (x8 : List UInt8) (x9 : Int), e6 = .returned (.tuple ⟨[.string ⟨⟨x8⟩⟩, .int .i64 x9]⟩) ∧ (br (decide ((x9 : Int) ≠ 0)) (al w7 23 [] fun p10 w11 =>
  R (.returned (.tuple ⟨[.slice (some p10) 0 0, .int .i64 x9]⟩)) w11) (∀ (K12 : World → Prop), (∀  (w13 : World), (∀ _ : Env, (∀ (K14 : World → Prop), (∀  (w15 : World), (∀ _ : Env, (∃ (x16 : List UInt8), World.cell? w15 (p4.add 0) = some (.string ⟨⟨x16⟩⟩) ∧ (∃ (x17 : Int), World.cell? w15 (p4.add 1) = some (.int .i64 x17) ∧ (Calls Tryd.prog 37 ⟨[.agg ⟨[.string ⟨⟨x16⟩⟩, .int .i64 x17]⟩, .slice l_3 l_3n l_3c]⟩ w15 fun (e18 : Ending) (w19 : World) =>
  ∃ (x20 : Option Addr) (x20n : Nat) (x20c : Nat) (x21 : List UInt8) (x22 : Int), e18 = .returned (.tuple ⟨[.slice x20 x20n x20c, .agg ⟨[.string ⟨⟨x21⟩⟩, .int .i64 x22]⟩]⟩) ∧ (al w19 23 [.string ⟨⟨[]⟩⟩, .int .i64 0] fun p23 w24 =>
  stL w24 p23 0 [.string ⟨⟨x21⟩⟩, .int .i64 x22] fun w25 =>
  R (.returned (.tuple ⟨[.slice x20 x20n x20c, .int .i64 0]⟩)) w25))))) → K14 w15) → (∃ (x26 : Int), World.cell? w13 (p4.add 1) = some (.int .i64 x26) ∧ (br (decide ((x26 : Int) < 0)) (al w13 23 [] fun p27 w28 =>
  R (.returned (.tuple ⟨[.slice (some p27) 0 0, .int .i64 2]⟩)) w28) (∃ (x29 : Int), World.cell? w13 (p4.add 1) = some (.int .i64 x29) ∧ (br (decide ((4096 : Int) < x29)) (al w13 23 [] fun p30 w31 =>
  R (.returned (.tuple ⟨[.slice (some p30) 0 0, .int .i64 2]⟩)) w31) (K14 w13))))))) → K12 w13) → (∃ (x32 : List UInt8), World.cell? w7 (p4.add 0) = some (.string ⟨⟨x32⟩⟩) ∧ (br (decide ((x32 : List UInt8) ≠ ([]))) (∃ (x33 : List UInt8), World.cell? w7 (p4.add 0) = some (.string ⟨⟨x33⟩⟩) ∧ (Calls Tryd.prog 36 ⟨[.string ⟨⟨x33⟩⟩]⟩ w7 fun (e34 : Ending) (w35 : World) =>
  ∃ (x36 : Bool), e34 = .returned (.bool x36) ∧ (br (!x36) (al w35 23 [] fun p37 w38 =>
  R (.returned (.tuple ⟨[.slice (some p37) 0 0, .int .i64 14]⟩)) w38) (K12 w35)))) (K12 w7)))))
set_option maxRecDepth 100000 in
theorem e_ref13_Positions (start_1 : List UInt8) (start_2 : Int) (l_3 : Option Addr) (l_3n : Nat) (l_3c : Nat) (R : Ending → World → Prop) (w : World) : fnV Tryd.prog Tryd.f13 an_ref13_Positions [.agg ⟨[.string ⟨⟨start_1⟩⟩, .int .i64 start_2]⟩, .slice l_3 l_3n l_3c] R w = sh_ref13_Positions start_1 start_2 l_3 l_3n l_3c R w := by kernel_rfl
theorem c_ref13_Positions {start_1 : List UInt8} {start_2 : Int} {l_3 : Option Addr} {l_3n : Nat} {l_3c : Nat} {R : Ending → World → Prop} {w : World} (h : sh_ref13_Positions start_1 start_2 l_3 l_3n l_3c R w) : Calls Tryd.prog F_ref13_Positions ⟨[.agg ⟨[.string ⟨⟨start_1⟩⟩, .int .i64 start_2]⟩, .slice l_3 l_3n l_3c]⟩ w R := calls_of_fnV Tryd.func13 (by rw [e_ref13_Positions]; exact h)

def an_ref13_SamePositions : Ann := .two (.leaf) (.two (.two (.leaf) (.two (.two (.leaf) (.leaf)) (.leaf))) (.two (.two (.leaf) (.one (.loop 67106864 [(5, .one (.int .i64))] (.two (.two (.leaf) (.two (.leaf) (.leaf))) (.two (.one (.two (.leaf) (.two (.two (.leaf) (.leaf)) (.leaf)))) (.leaf)))))) (.two (.leaf) (.leaf))))
def sh_ref13_SamePositions (a_1 : Option Addr) (a_1n : Nat) (a_1c : Nat) (b_2 : Option Addr) (b_2n : Nat) (b_2c : Nat) (R : Ending → World → Prop) (w : World) : Prop :=
  br (decide ((((a_1n : Int)) : Int) ≠ ((b_2n : Int)))) (R (.returned (.bool false)) w) (∃ (I3 : Int → World → Nat → Prop), (∃ m7 : Nat, I3 0 w m7) ∧ ∀ (i_4 : Int) (w5 : World) (m6 : Nat), I3 i_4 w5 m6 → ∀ _ : Env, (br (decide ((i_4 : Int) < ((a_1n : Int)))) (drw w5 fun w8 =>
  idx a_1 a_1n i_4 2 fun p9 =>
  ∃ (x10 : List UInt8), World.cell? w8 (p9.add 0) = some (.string ⟨⟨x10⟩⟩) ∧ (∃ (x11 : Int), World.cell? w8 (p9.add 1) = some (.int .i64 x11) ∧ (idx b_2 b_2n i_4 2 fun p12 =>
  ∃ (x13 : List UInt8), World.cell? w8 (p12.add 0) = some (.string ⟨⟨x13⟩⟩) ∧ (∃ (x14 : Int), World.cell? w8 (p12.add 1) = some (.int .i64 x14) ∧ (br (!(decide ((x10 : List UInt8) = x13) && (decide ((x11 : Int) = x14) && true))) (R (.returned (.bool false)) w8) (∃ m15 : Nat, m15 < m6 ∧ I3 (IntKind.i64.wrap (i_4 + 1)) w8 m15)))))) (R (.returned (.bool true)) w5)))
set_option maxRecDepth 100000 in
theorem e_ref13_SamePositions (a_1 : Option Addr) (a_1n : Nat) (a_1c : Nat) (b_2 : Option Addr) (b_2n : Nat) (b_2c : Nat) (R : Ending → World → Prop) (w : World) : fnV Tryd.prog Tryd.f14 an_ref13_SamePositions [.slice a_1 a_1n a_1c, .slice b_2 b_2n b_2c] R w = sh_ref13_SamePositions a_1 a_1n a_1c b_2 b_2n b_2c R w := by kernel_rfl
theorem c_ref13_SamePositions {a_1 : Option Addr} {a_1n : Nat} {a_1c : Nat} {b_2 : Option Addr} {b_2n : Nat} {b_2c : Nat} {R : Ending → World → Prop} {w : World} (h : sh_ref13_SamePositions a_1 a_1n a_1c b_2 b_2n b_2c R w) : Calls Tryd.prog F_ref13_SamePositions ⟨[.slice a_1 a_1n a_1c, .slice b_2 b_2n b_2c]⟩ w R := calls_of_fnV Tryd.func14 (by rw [e_ref13_SamePositions]; exact h)

def an_law13_fine : Ann := .two (.leaf) (.two (.two (.leaf) (.two (.two (.leaf) (.leaf)) (.leaf))) (.two (.two (.leaf) (.two (.leaf) (.two (.two (.leaf) (.leaf)) (.leaf)))) (.two (.leaf) (.two (.leaf) (.leaf)))))
def sh_law13_fine (l_1 : Option Addr) (l_1n : Nat) (l_1c : Nat) (R : Ending → World → Prop) (w : World) : Prop :=
  Calls Tryd.prog 10 ⟨[.slice l_1 l_1n l_1c]⟩ w fun (e2 : Ending) (w3 : World) =>
  ∃ (x4 : Bool), e2 = .returned (.bool x4) ∧ (br x4 (R (.returned (.tuple ⟨[.string ⟨⟨[]⟩⟩, .bool false]⟩)) w3) (Calls Tryd.prog 35 ⟨[.slice l_1 l_1n l_1c]⟩ w3 fun (e5 : Ending) (w6 : World) =>
  ∃ (x7 : List UInt8) (x8 : Int), e5 = .returned (.tuple ⟨[.string ⟨⟨x7⟩⟩, .int .i64 x8]⟩) ∧ (br (decide ((x8 : Int) ≠ 0)) (R (.returned (.tuple ⟨[.string ⟨⟨[]⟩⟩, .bool false]⟩)) w6) (Calls Tryd.prog 32 ⟨[.slice l_1 l_1n l_1c]⟩ w6 fun (e9 : Ending) (w10 : World) =>
  ∃ (x11 : List UInt8) (x12 : Int), e9 = .returned (.tuple ⟨[.string ⟨⟨x11⟩⟩, .int .i64 x12]⟩) ∧ (R (.returned (.tuple ⟨[.string ⟨⟨x11⟩⟩, .bool (decide ((x12 : Int) = 0))]⟩)) w10)))))
set_option maxRecDepth 100000 in
theorem e_law13_fine (l_1 : Option Addr) (l_1n : Nat) (l_1c : Nat) (R : Ending → World → Prop) (w : World) : fnV Tryd.prog Tryd.f15 an_law13_fine [.slice l_1 l_1n l_1c] R w = sh_law13_fine l_1 l_1n l_1c R w := by kernel_rfl
theorem c_law13_fine {l_1 : Option Addr} {l_1n : Nat} {l_1c : Nat} {R : Ending → World → Prop} {w : World} (h : sh_law13_fine l_1 l_1n l_1c R w) : Calls Tryd.prog F_law13_fine ⟨[.slice l_1 l_1n l_1c]⟩ w R := calls_of_fnV Tryd.func15 (by rw [e_law13_fine]; exact h)

def an_law13_start : Ann := .two (.leaf) (.two (.two (.leaf) (.two (.two (.leaf) (.leaf)) (.leaf))) (.two (.leaf) (.leaf)))
def sh_law13_start (page_1 : Int) (line_2 : Int) (R : Ending → World → Prop) (w : World) : Prop :=
  al w 23 [.string ⟨⟨[]⟩⟩, .int .i64 0] fun p3 w4 =>
  idiv 4 (br (decide (((Int.tmod page_1 4) : Int) = 0)) (stL w4 p3 0 [.string ⟨⟨[]⟩⟩, .int .i64 (IntKind.i64.wrap line_2)] fun w5 =>
  ∃ (x6 : List UInt8), World.cell? w5 (p3.add 0) = some (.string ⟨⟨x6⟩⟩) ∧ (∃ (x7 : Int), World.cell? w5 (p3.add 1) = some (.int .i64 x7) ∧ (R (.returned (.agg ⟨[.string ⟨⟨x6⟩⟩, .int .i64 x7]⟩)) w5))) (idiv 4 (sadd ([112]) ((Utf8.encode (IntKind.i32.wrap (IntKind.u8.wrap (48 + (Int.tmod page_1 4))))).data.toList) fun s8 =>
  stL w4 p3 0 [.string ⟨⟨s8⟩⟩, .int .i64 (IntKind.i64.wrap line_2)] fun w9 =>
  ∃ (x10 : List UInt8), World.cell? w9 (p3.add 0) = some (.string ⟨⟨x10⟩⟩) ∧ (∃ (x11 : Int), World.cell? w9 (p3.add 1) = some (.int .i64 x11) ∧ (R (.returned (.agg ⟨[.string ⟨⟨x10⟩⟩, .int .i64 x11]⟩)) w9)))))
set_option maxRecDepth 100000 in
theorem e_law13_start (page_1 : Int) (line_2 : Int) (R : Ending → World → Prop) (w : World) : fnV Tryd.prog Tryd.f16 an_law13_start [.int .u8 page_1, .int .u8 line_2] R w = sh_law13_start page_1 line_2 R w := by kernel_rfl
theorem c_law13_start {page_1 : Int} {line_2 : Int} {R : Ending → World → Prop} {w : World} (h : sh_law13_start page_1 line_2 R w) : Calls Tryd.prog F_law13_start ⟨[.int .u8 page_1, .int .u8 line_2]⟩ w R := calls_of_fnV Tryd.func16 (by rw [e_law13_start]; exact h)

def an_law13_has : Ann := .two (.leaf) (.two (.leaf) (.leaf))
def sh_law13_has (l_1 : Option Addr) (l_1n : Nat) (l_1c : Nat) (a_2 : Int) (b_3 : Int) (R : Ending → World → Prop) (w : World) : Prop :=
  al w 3 [.int .i64 a_2] fun p4 w5 =>
  al w5 3 [.int .i64 b_3] fun p6 w7 =>
  Calls Tryd.prog 38 ⟨[.slice l_1 l_1n l_1c, .func (.func 39) ⟨[]⟩ ⟨[.pointer (some p4), .pointer (some p6)]⟩]⟩ w7 fun (e8 : Ending) (w9 : World) =>
  ∃ (x10 : Bool), e8 = .returned (.bool x10) ∧ (R (.returned (.bool x10)) w9)
set_option maxRecDepth 100000 in
theorem e_law13_has (l_1 : Option Addr) (l_1n : Nat) (l_1c : Nat) (a_2 : Int) (b_3 : Int) (R : Ending → World → Prop) (w : World) : fnV Tryd.prog Tryd.f17 an_law13_has [.slice l_1 l_1n l_1c, .int .i64 a_2, .int .i64 b_3] R w = sh_law13_has l_1 l_1n l_1c a_2 b_3 R w := by kernel_rfl
theorem c_law13_has {l_1 : Option Addr} {l_1n : Nat} {l_1c : Nat} {a_2 : Int} {b_3 : Int} {R : Ending → World → Prop} {w : World} (h : sh_law13_has l_1 l_1n l_1c a_2 b_3 R w) : Calls Tryd.prog F_law13_has ⟨[.slice l_1 l_1n l_1c, .int .i64 a_2, .int .i64 b_3]⟩ w R := calls_of_fnV Tryd.func17 (by rw [e_law13_has]; exact h)

def an_layout_Broken : Ann := .two (.leaf) (.two (.leaf) (.two (.two (.leaf) (.two (.two (.leaf) (.leaf)) (.leaf))) (.two (.leaf) (.two (.leaf) (.two (.two (.leaf) (.one (.rf [2, 3, 4, 6, 7, 20] 0))) (.two (.leaf) (.leaf)))))))
def sh_layout_Broken (l_1 : Option Addr) (l_1n : Nat) (l_1c : Nat) (R : Ending → World → Prop) (w : World) : Prop :=
  Calls Tryd.prog 32 ⟨[.slice l_1 l_1n l_1c]⟩ w fun (e2 : Ending) (w3 : World) =>
  ∃ (x4 : List UInt8) (x5 : Int), e2 = .returned (.tuple ⟨[.string ⟨⟨x4⟩⟩, .int .i64 x5]⟩) ∧ (al w3 9 [.string ⟨⟨[]⟩⟩] fun p6 w7 =>
  stL w7 p6 0 [.string ⟨⟨x4⟩⟩] fun w8 =>
  br (decide ((x5 : Int) ≠ 0)) (R (.returned (.tuple ⟨[.slice none 0 0, .int .i64 x5]⟩)) w8) (al w8 42 [.nilFunc] fun p9 w10 =>
  stL w10 p9 0 [.func (.func 40) #[] #[]] fun w11 =>
  al w11 38 [.slice none 0 0] fun p12 w13 =>
  Calls Tryd.prog 34 ⟨[.agg ⟨[.string ⟨⟨[]⟩⟩, .int .i64 0]⟩, .slice l_1 l_1n l_1c]⟩ w13 fun (e14 : Ending) (w15 : World) =>
  ∃ (x16 : Option Addr) (x16n : Nat) (x16c : Nat), e14 = .returned (.slice x16 x16n x16c) ∧ (Calls Tryd.prog 42 ⟨[.slice x16 x16n x16c]⟩ w15 fun (e17 : Ending) (w18 : World) =>
  ∃ (x19 : Fn) (x19a : Array Value) (x19b : Array Value), e17 = .returned (.func x19 x19a x19b) ∧ (∀ base20 : Env, RFw Tryd.prog none 51 (cdAt Tryd.f18 [1, 1, 1, 1, 1, 0, 1, 2]) (upd (upd (upd (upd (upd (upd base20 20 (.func x19 x19a x19b)) 7 (.pointer (some p12))) 6 (.pointer (some p9))) 4 (.pointer (some p6))) 3 (.int .i64 0)) 2 (.slice none 0 0)) [] w18 0 (fun ds21 w22 =>
  ∃ (x25 : Option Addr) (x25n : Nat) (x25c : Nat), World.cell? w22 p12 = some (.slice x25 x25n x25c) ∧ (retD ds21 w22 fun w26 =>
  R (.returned (.tuple ⟨[.slice x25 x25n x25c, .int .i64 0]⟩)) w26)) (fun ds21 w22 =>
  retD ds21 w22 fun w27 =>
  R (.returned (.tuple ⟨[.slice none 0 0, .int .i64 0]⟩)) w27) (fun ds21 w22 =>
  ∃ (x23 : Option Addr) (x23n : Nat) (x23c : Nat), World.cell? w22 p12 = some (.slice x23 x23n x23c) ∧ (retD ds21 w22 fun w24 =>
  R (.returned (.tuple ⟨[.slice x23 x23n x23c, .int .i64 0]⟩)) w24))))))
set_option maxRecDepth 100000 in
theorem e_layout_Broken (l_1 : Option Addr) (l_1n : Nat) (l_1c : Nat) (R : Ending → World → Prop) (w : World) : fnV Tryd.prog Tryd.f18 an_layout_Broken [.slice l_1 l_1n l_1c] R w = sh_layout_Broken l_1 l_1n l_1c R w := by kernel_rfl
theorem c_layout_Broken {l_1 : Option Addr} {l_1n : Nat} {l_1c : Nat} {R : Ending → World → Prop} {w : World} (h : sh_layout_Broken l_1 l_1n l_1c R w) : Calls Tryd.prog F_layout_Broken ⟨[.slice l_1 l_1n l_1c]⟩ w R := calls_of_fnV Tryd.func18 (by rw [e_layout_Broken]; exact h)
def anA_layout_Broken_1 : Ann := .leaf
def anB_layout_Broken_1 : Ann := .one (.cut 70368735789056 [(45, .one (.bool))] (.leaf) (.two (.leaf) (.leaf)))
def rf_layout_Broken_1 (t2_28 : Option Addr) (t2_28n : Nat) (t2_28c : Nat) (t3_29 : Int) (s_30 : Option Addr) (inner_31 : Option Addr) (out_32 : Option Addr) (t20_33 : Fn) (t20_33a : Array Value) (t20_33b : Array Value) (t21_34 : Int) (t22_35 : Value) (l : Nat) (Kn Kr Kx : World → World → Prop) (w : World) : Prop :=
  Ext w w ∧ ∀ w36 : World, Upd l w w36 → (∀ (K37 : Bool → World → Prop), (∀ (t45_38 : Bool) (w39 : World), (∀ _ : Env, (br t45_38 (dr out_32 fun p40 =>
  ∃ (x41 : Option Addr) (x41n : Nat) (x41c : Nat), World.cell? w39 p40 = some (.slice x41 x41n x41c) ∧ (al w39 3 [.int .i64 t21_34] fun p42 w43 =>
  app Tryd.prog [38, 38] 38 (.slice x41 x41n x41c) (.slice (some p42) 1 1) w43 fun a44 a44n a44c w45 =>
  dr out_32 fun p47 =>
  stL w45 p47 0 [.slice a44 a44n a44c] fun w46 =>
  Kn w36 w46)) (Kn w36 w39))) → K37 t45_38 w39) → (drw w36 fun w48 =>
  br (decide ((0 : Int) < t21_34)) (dr s_30 fun p49 =>
  ∃ (x50 : List UInt8), World.cell? w48 p49 = some (.string ⟨⟨x50⟩⟩) ∧ (br (decide ((t21_34 : Int) < ((List.length x50 : Int)))) (dr inner_31 fun p51 =>
  ∃ (x52 : Fn) (x52a : Array Value) (x52b : Array Value), World.cell? w48 p51 = some (.func x52 x52a x52b) ∧ (dr s_30 fun p53 =>
  ∃ (x54 : List UInt8), World.cell? w48 p53 = some (.string ⟨⟨x54⟩⟩) ∧ (sidx x54 (IntKind.i64.wrap (t21_34 - 1)) fun b55 =>
  (CallV Tryd.prog (.func x52 x52a x52b) [.int .u8 ((b55.toNat : Int))] w48 fun (e56 : Ending) (w57 : World) =>
  ∃ (x58 : Bool), e56 = .returned (.bool x58) ∧ (br x58 (dr inner_31 fun p59 =>
  ∃ (x60 : Fn) (x60a : Array Value) (x60b : Array Value), World.cell? w57 p59 = some (.func x60 x60a x60b) ∧ (dr s_30 fun p61 =>
  ∃ (x62 : List UInt8), World.cell? w57 p61 = some (.string ⟨⟨x62⟩⟩) ∧ (sidx x62 t21_34 fun b63 =>
  (CallV Tryd.prog (.func x60 x60a x60b) [.int .u8 ((b63.toNat : Int))] w57 fun (e64 : Ending) (w65 : World) =>
  ∃ (x66 : Bool), e64 = .returned (.bool x66) ∧ (K37 x66 w65)) ∧ True))) ((K37 false w57) ∧ True))) ∧ True))) (((K37 false w48) ∧ True) ∧ True))) (((K37 false w48) ∧ True) ∧ True)))
set_option maxRecDepth 100000 in
theorem er_layout_Broken_1 (base : Env) (t2_28 : Option Addr) (t2_28n : Nat) (t2_28c : Nat) (t3_29 : Int) (s_30 : Option Addr) (inner_31 : Option Addr) (out_32 : Option Addr) (t20_33 : Fn) (t20_33a : Array Value) (t20_33b : Array Value) (t21_34 : Int) (t22_35 : Value) (l : Nat) (Kn Kr Kx : World → World → Prop) (w : World) : fragV Tryd.prog 51 anA_layout_Broken_1 anB_layout_Broken_1 (cdAt Tryd.f18 [1, 1, 1, 1, 1, 0, 1, 2, 5]) (cdAt Tryd.f18 [1, 1, 1, 1, 1, 0, 1, 2, 6]) l 0 Kn Kr Kx (updPs [21, 22] [.int .i64 t21_34, t22_35] (upd (upd (upd (upd (upd (upd base 20 (.func t20_33 t20_33a t20_33b)) 7 (.pointer out_32)) 6 (.pointer inner_31)) 4 (.pointer s_30)) 3 (.int .i64 t3_29)) 2 (.slice t2_28 t2_28n t2_28c))) w = rf_layout_Broken_1 t2_28 t2_28n t2_28c t3_29 s_30 inner_31 out_32 t20_33 t20_33a t20_33b t21_34 t22_35 l Kn Kr Kx w := by kernel_rfl
theorem cd_layout_Broken_1 : cdAt Tryd.f18 [1, 1, 1, 1, 1, 0, 1, 2] = .rangeFunc (Operand.tmp 20) #[21, 22] (cdAt Tryd.f18 [1, 1, 1, 1, 1, 0, 1, 2, 5]) (cdAt Tryd.f18 [1, 1, 1, 1, 1, 0, 1, 2, 6]) := by kernel_rfl

def an_law13_LayoutBroken_1 : Ann := .two (.leaf) (.two (.leaf) (.two (.leaf) (.leaf)))
def sh_law13_LayoutBroken_1 (c_1 : Int) (R : Ending → World → Prop) (w : World) : Prop :=
  Calls Tryd.prog 20 ⟨[.int .u8 c_1]⟩ w fun (e2 : Ending) (w3 : World) =>
  ∃ (x4 : Int), e2 = .returned (.int .i64 x4) ∧ (br (decide ((c_1 : Int) = 95)) (R (.returned (.bool true)) w3) (br (decide ((x4 : Int) = 1)) (R (.returned (.bool true)) w3) (br (decide ((x4 : Int) = 2)) (R (.returned (.bool true)) w3) (br (decide ((x4 : Int) = 3)) (R (.returned (.bool true)) w3) (R (.returned (.bool (decide ((x4 : Int) = 4)))) w3)))))
set_option maxRecDepth 100000 in
theorem e_law13_LayoutBroken_1 (c_1 : Int) (R : Ending → World → Prop) (w : World) : fnV Tryd.prog Tryd.f19 an_law13_LayoutBroken_1 [.int .u8 c_1] R w = sh_law13_LayoutBroken_1 c_1 R w := by kernel_rfl
theorem c_law13_LayoutBroken_1 {c_1 : Int} {R : Ending → World → Prop} {w : World} (h : sh_law13_LayoutBroken_1 c_1 R w) : Calls Tryd.prog F_law13_LayoutBroken_1 ⟨[.int .u8 c_1]⟩ w R := calls_of_fnV Tryd.func19 (by rw [e_law13_LayoutBroken_1]; exact h)

def an_ref01_Kind : Ann := .two (.leaf) (.two (.one (.cut 262136 [(3, .one (.bool))] (.leaf) (.two (.two (.leaf) (.leaf)) (.cut 536608768 [(18, .one (.bool))] (.leaf) (.two (.two (.leaf) (.leaf)) (.cut 68182605824 [(29, .one (.bool))] (.leaf) (.two (.two (.leaf) (.leaf)) (.two (.leaf) (.two (.two (.leaf) (.leaf)) (.cut 18889465930928825040896 [(39, .one (.bool))] (.leaf) (.two (.two (.leaf) (.leaf)) (.two (.leaf) (.two (.two (.leaf) (.leaf)) (.leaf)))))))))))))) (.two (.leaf) (.leaf)))
def sh_ref01_Kind (c_1 : Int) (R : Ending → World → Prop) (w : World) : Prop :=
  ∀ (K2 : Bool → World → Prop), (∀ (t3_3 : Bool) (w4 : World), (∀ _ : Env, (br t3_3 (R (.returned (.int .i64 1)) w4) (∀ (K5 : Bool → World → Prop), (∀ (t18_6 : Bool) (w7 : World), (∀ _ : Env, (br t18_6 (R (.returned (.int .i64 2)) w7) (∀ (K8 : Bool → World → Prop), (∀ (t29_9 : Bool) (w10 : World), (∀ _ : Env, (br t29_9 (R (.returned (.int .i64 3)) w10) (br (decide ((c_1 : Int) = 39)) (R (.returned (.int .i64 4)) w10) (∀ (K11 : Bool → World → Prop), (∀ (t39_12 : Bool) (w13 : World), (∀ _ : Env, (br t39_12 (R (.returned (.int .i64 5)) w13) (br (decide ((c_1 : Int) = 32)) (R (.returned (.int .i64 6)) w13) (R (.returned (.int .i64 0)) w13)))) → K11 t39_12 w13) → (br (decide ((c_1 : Int) = 46)) (K11 true w10) (br (decide ((c_1 : Int) = 44)) (K11 true w10) (br (decide ((c_1 : Int) = 59)) (K11 true w10) (br (decide ((c_1 : Int) = 58)) (K11 true w10) (br (decide ((c_1 : Int) = 33)) (K11 true w10) (br (decide ((c_1 : Int) = 63)) (K11 true w10) (br (decide ((c_1 : Int) = 40)) (K11 true w10) (br (decide ((c_1 : Int) = 41)) (K11 true w10) (K11 (decide ((c_1 : Int) = 45)) w10))))))))))))) → K8 t29_9 w10) → (br (decide ((48 : Int) ≤ c_1)) (K8 (decide ((c_1 : Int) ≤ 57)) w7) (K8 false w7))))) → K5 t18_6 w7) → (br (decide ((c_1 : Int) = 94)) (K5 true w4) (br (decide ((c_1 : Int) = 126)) (K5 true w4) (K5 (decide ((c_1 : Int) = 37)) w4)))))) → K2 t3_3 w4) → (br (decide ((97 : Int) ≤ c_1)) (br (decide ((c_1 : Int) ≤ 122)) (K2 true w) (br (decide ((65 : Int) ≤ c_1)) (K2 (decide ((c_1 : Int) ≤ 90)) w) (K2 false w))) (br (decide ((65 : Int) ≤ c_1)) (K2 (decide ((c_1 : Int) ≤ 90)) w) (K2 false w)))
set_option maxRecDepth 100000 in
theorem e_ref01_Kind (c_1 : Int) (R : Ending → World → Prop) (w : World) : fnV Tryd.prog Tryd.f20 an_ref01_Kind [.int .u8 c_1] R w = sh_ref01_Kind c_1 R w := by kernel_rfl
theorem c_ref01_Kind {c_1 : Int} {R : Ending → World → Prop} {w : World} (h : sh_ref01_Kind c_1 R w) : Calls Tryd.prog F_ref01_Kind ⟨[.int .u8 c_1]⟩ w R := calls_of_fnV Tryd.func20 (by rw [e_ref01_Kind]; exact h)

def an_slices_Equal_of_int_int : Ann := .two (.leaf) (.two (.two (.leaf) (.two (.two (.leaf) (.leaf)) (.leaf))) (.two (.two (.leaf) (.one (.loop 67100720 [(13, .one (.int .i64))] (.two (.leaf) (.two (.two (.leaf) (.leaf)) (.two (.one (.two (.leaf) (.two (.leaf) (.two (.two (.leaf) (.leaf)) (.leaf))))) (.leaf))))))) (.two (.leaf) (.leaf))))
def sh_slices_Equal_of_int_int (s1_1 : Option Addr) (s1_1n : Nat) (s1_1c : Nat) (s2_2 : Option Addr) (s2_2n : Nat) (s2_2c : Nat) (R : Ending → World → Prop) (w : World) : Prop :=
  br (decide ((((s1_1n : Int)) : Int) ≠ ((s2_2n : Int)))) (R (.returned (.bool false)) w) (∃ (I3 : Int → World → Nat → Prop), (∃ m7 : Nat, I3 0 w m7) ∧ ∀ (t13_4 : Int) (w5 : World) (m6 : Nat), I3 t13_4 w5 m6 → ∀ _ : Env, (br (decide ((t13_4 : Int) < ((s1_1n : Int)))) (drw w5 fun w8 =>
  idx s1_1 s1_1n t13_4 1 fun p9 =>
  ∃ (x10 : Int), World.cell? w8 p9 = some (.int .i64 x10) ∧ (idx s2_2 s2_2n t13_4 1 fun p11 =>
  ∃ (x12 : Int), World.cell? w8 p11 = some (.int .i64 x12) ∧ (br (decide ((x10 : Int) ≠ x12)) (R (.returned (.bool false)) w8) (∃ m13 : Nat, m13 < m6 ∧ I3 (IntKind.i64.wrap (t13_4 + 1)) w8 m13)))) (R (.returned (.bool true)) w5)))
set_option maxRecDepth 100000 in
theorem e_slices_Equal_of_int_int (s1_1 : Option Addr) (s1_1n : Nat) (s1_1c : Nat) (s2_2 : Option Addr) (s2_2n : Nat) (s2_2c : Nat) (R : Ending → World → Prop) (w : World) : fnV Tryd.prog Tryd.f21 an_slices_Equal_of_int_int [.slice s1_1 s1_1n s1_1c, .slice s2_2 s2_2n s2_2c] R w = sh_slices_Equal_of_int_int s1_1 s1_1n s1_1c s2_2 s2_2n s2_2c R w := by kernel_rfl
theorem c_slices_Equal_of_int_int {s1_1 : Option Addr} {s1_1n : Nat} {s1_1c : Nat} {s2_2 : Option Addr} {s2_2n : Nat} {s2_2c : Nat} {R : Ending → World → Prop} {w : World} (h : sh_slices_Equal_of_int_int s1_1 s1_1n s1_1c s2_2 s2_2n s2_2c R w) : Calls Tryd.prog F_slices_Equal_of_int_int ⟨[.slice s1_1 s1_1n s1_1c, .slice s2_2 s2_2n s2_2c]⟩ w R := calls_of_fnV Tryd.func21 (by rw [e_slices_Equal_of_int_int]; exact h)

def an_slices_Concat_of_api_Node_api_Node : Ann := .two (.leaf) (.two (.leaf) (.two (.two (.leaf) (.one (.loop 8386600 [(3, .one (.int .i64)), (11, .one (.int .i64))] (.two (.leaf) (.two (.two (.leaf) (.leaf)) (.two (.one (.two (.leaf) (.two (.leaf) (.two (.leaf) (.two (.leaf) (.leaf)))))) (.leaf))))))) (.two (.leaf) (.two (.two (.leaf) (.one (.loop 34225520960 [(6, .one (.slice)), (27, .one (.int .i64))] (.two (.leaf) (.two (.two (.leaf) (.leaf)) (.two (.one (.two (.leaf) (.leaf))) (.leaf))))))) (.two (.leaf) (.leaf))))))
def sh_slices_Concat_of_api_Node_api_Node (slices_1 : Option Addr) (slices_1n : Nat) (slices_1c : Nat) (R : Ending → World → Prop) (w : World) : Prop :=
  ∃ (I2 : Int → Int → World → Nat → Prop), (∃ m7 : Nat, I2 0 0 w m7) ∧ ∀ (size_3 : Int) (t11_4 : Int) (w5 : World) (m6 : Nat), I2 size_3 t11_4 w5 m6 → ∀ _ : Env, (br (decide ((t11_4 : Int) < ((slices_1n : Int)))) (idx slices_1 slices_1n t11_4 1 fun p8 =>
  ∃ (x9 : Option Addr) (x9n : Nat) (x9c : Nat), World.cell? w5 p8 = some (.slice x9 x9n x9c) ∧ (br (decide (((IntKind.i64.wrap (size_3 + ((x9n : Int)))) : Int) < 0)) (False) (∃ m10 : Nat, m10 < m6 ∧ I2 (IntKind.i64.wrap (size_3 + ((x9n : Int)))) (IntKind.i64.wrap (t11_4 + 1)) w5 m10))) (Calls Tryd.prog 43 ⟨[.slice none 0 0, .int .i64 size_3]⟩ w5 fun (e11 : Ending) (w12 : World) =>
  ∃ (x13 : Option Addr) (x13n : Nat) (x13c : Nat), e11 = .returned (.slice x13 x13n x13c) ∧ (∃ (I14 : Option Addr → Nat → Nat → Int → World → Nat → Prop), (∃ m19 : Nat, I14 x13 x13n x13c 0 w12 m19) ∧ ∀ (newslice_15 : Option Addr) (newslice_15n : Nat) (newslice_15c : Nat) (t27_16 : Int) (w17 : World) (m18 : Nat), I14 newslice_15 newslice_15n newslice_15c t27_16 w17 m18 → ∀ _ : Env, (br (decide ((t27_16 : Int) < ((slices_1n : Int)))) (idx slices_1 slices_1n t27_16 1 fun p20 =>
  ∃ (x21 : Option Addr) (x21n : Nat) (x21c : Nat), World.cell? w17 p20 = some (.slice x21 x21n x21c) ∧ (app Tryd.prog [24, 24] 24 (.slice newslice_15 newslice_15n newslice_15c) (.slice x21 x21n x21c) w17 fun a22 a22n a22c w23 =>
  ∃ m24 : Nat, m24 < m18 ∧ I14 a22 a22n a22c (IntKind.i64.wrap (t27_16 + 1)) w23 m24)) (R (.returned (.slice newslice_15 newslice_15n newslice_15c)) w17)))))
set_option maxRecDepth 100000 in
theorem e_slices_Concat_of_api_Node_api_Node (slices_1 : Option Addr) (slices_1n : Nat) (slices_1c : Nat) (R : Ending → World → Prop) (w : World) : fnV Tryd.prog Tryd.f22 an_slices_Concat_of_api_Node_api_Node [.slice slices_1 slices_1n slices_1c] R w = sh_slices_Concat_of_api_Node_api_Node slices_1 slices_1n slices_1c R w := by kernel_rfl
theorem c_slices_Concat_of_api_Node_api_Node {slices_1 : Option Addr} {slices_1n : Nat} {slices_1c : Nat} {R : Ending → World → Prop} {w : World} (h : sh_slices_Concat_of_api_Node_api_Node slices_1 slices_1n slices_1c R w) : Calls Tryd.prog F_slices_Concat_of_api_Node_api_Node ⟨[.slice slices_1 slices_1n slices_1c]⟩ w R := calls_of_fnV Tryd.func22 (by rw [e_slices_Concat_of_api_Node_api_Node]; exact h)

def an_slices_Equal_of_api_Position_api_Position : Ann := .two (.leaf) (.two (.two (.leaf) (.two (.two (.leaf) (.leaf)) (.leaf))) (.two (.two (.leaf) (.one (.loop 67100720 [(13, .one (.int .i64))] (.two (.leaf) (.two (.two (.leaf) (.leaf)) (.two (.one (.two (.leaf) (.two (.leaf) (.two (.two (.leaf) (.leaf)) (.leaf))))) (.leaf))))))) (.two (.leaf) (.leaf))))
def sh_slices_Equal_of_api_Position_api_Position (s1_1 : Option Addr) (s1_1n : Nat) (s1_1c : Nat) (s2_2 : Option Addr) (s2_2n : Nat) (s2_2c : Nat) (R : Ending → World → Prop) (w : World) : Prop :=
  br (decide ((((s1_1n : Int)) : Int) ≠ ((s2_2n : Int)))) (R (.returned (.bool false)) w) (∃ (I3 : Int → World → Nat → Prop), (∃ m7 : Nat, I3 0 w m7) ∧ ∀ (t13_4 : Int) (w5 : World) (m6 : Nat), I3 t13_4 w5 m6 → ∀ _ : Env, (br (decide ((t13_4 : Int) < ((s1_1n : Int)))) (drw w5 fun w8 =>
  idx s1_1 s1_1n t13_4 2 fun p9 =>
  ∃ (x10 : List UInt8), World.cell? w8 (p9.add 0) = some (.string ⟨⟨x10⟩⟩) ∧ (∃ (x11 : Int), World.cell? w8 (p9.add 1) = some (.int .i64 x11) ∧ (idx s2_2 s2_2n t13_4 2 fun p12 =>
  ∃ (x13 : List UInt8), World.cell? w8 (p12.add 0) = some (.string ⟨⟨x13⟩⟩) ∧ (∃ (x14 : Int), World.cell? w8 (p12.add 1) = some (.int .i64 x14) ∧ (br (!(decide ((x10 : List UInt8) = x13) && (decide ((x11 : Int) = x14) && true))) (R (.returned (.bool false)) w8) (∃ m15 : Nat, m15 < m6 ∧ I3 (IntKind.i64.wrap (t13_4 + 1)) w8 m15)))))) (R (.returned (.bool true)) w5)))
set_option maxRecDepth 100000 in
theorem e_slices_Equal_of_api_Position_api_Position (s1_1 : Option Addr) (s1_1n : Nat) (s1_1c : Nat) (s2_2 : Option Addr) (s2_2n : Nat) (s2_2c : Nat) (R : Ending → World → Prop) (w : World) : fnV Tryd.prog Tryd.f23 an_slices_Equal_of_api_Position_api_Position [.slice s1_1 s1_1n s1_1c, .slice s2_2 s2_2n s2_2c] R w = sh_slices_Equal_of_api_Position_api_Position s1_1 s1_1n s1_1c s2_2 s2_2n s2_2c R w := by kernel_rfl
theorem c_slices_Equal_of_api_Position_api_Position {s1_1 : Option Addr} {s1_1n : Nat} {s1_1c : Nat} {s2_2 : Option Addr} {s2_2n : Nat} {s2_2c : Nat} {R : Ending → World → Prop} {w : World} (h : sh_slices_Equal_of_api_Position_api_Position s1_1 s1_1n s1_1c s2_2 s2_2n s2_2c R w) : Calls Tryd.prog F_slices_Equal_of_api_Position_api_Position ⟨[.slice s1_1 s1_1n s1_1c, .slice s2_2 s2_2n s2_2c]⟩ w R := calls_of_fnV Tryd.func23 (by rw [e_slices_Equal_of_api_Position_api_Position]; exact h)

def an_slices_Concat_of_api_Position_api_Position : Ann := .two (.leaf) (.two (.leaf) (.two (.two (.leaf) (.one (.loop 8386600 [(3, .one (.int .i64)), (11, .one (.int .i64))] (.two (.leaf) (.two (.two (.leaf) (.leaf)) (.two (.one (.two (.leaf) (.two (.leaf) (.two (.leaf) (.two (.leaf) (.leaf)))))) (.leaf))))))) (.two (.leaf) (.two (.two (.leaf) (.one (.loop 34225520960 [(6, .one (.slice)), (27, .one (.int .i64))] (.two (.leaf) (.two (.two (.leaf) (.leaf)) (.two (.one (.two (.leaf) (.leaf))) (.leaf))))))) (.two (.leaf) (.leaf))))))
def sh_slices_Concat_of_api_Position_api_Position (slices_1 : Option Addr) (slices_1n : Nat) (slices_1c : Nat) (R : Ending → World → Prop) (w : World) : Prop :=
  ∃ (I2 : Int → Int → World → Nat → Prop), (∃ m7 : Nat, I2 0 0 w m7) ∧ ∀ (size_3 : Int) (t11_4 : Int) (w5 : World) (m6 : Nat), I2 size_3 t11_4 w5 m6 → ∀ _ : Env, (br (decide ((t11_4 : Int) < ((slices_1n : Int)))) (idx slices_1 slices_1n t11_4 1 fun p8 =>
  ∃ (x9 : Option Addr) (x9n : Nat) (x9c : Nat), World.cell? w5 p8 = some (.slice x9 x9n x9c) ∧ (br (decide (((IntKind.i64.wrap (size_3 + ((x9n : Int)))) : Int) < 0)) (False) (∃ m10 : Nat, m10 < m6 ∧ I2 (IntKind.i64.wrap (size_3 + ((x9n : Int)))) (IntKind.i64.wrap (t11_4 + 1)) w5 m10))) (Calls Tryd.prog 44 ⟨[.slice none 0 0, .int .i64 size_3]⟩ w5 fun (e11 : Ending) (w12 : World) =>
  ∃ (x13 : Option Addr) (x13n : Nat) (x13c : Nat), e11 = .returned (.slice x13 x13n x13c) ∧ (∃ (I14 : Option Addr → Nat → Nat → Int → World → Nat → Prop), (∃ m19 : Nat, I14 x13 x13n x13c 0 w12 m19) ∧ ∀ (newslice_15 : Option Addr) (newslice_15n : Nat) (newslice_15c : Nat) (t27_16 : Int) (w17 : World) (m18 : Nat), I14 newslice_15 newslice_15n newslice_15c t27_16 w17 m18 → ∀ _ : Env, (br (decide ((t27_16 : Int) < ((slices_1n : Int)))) (idx slices_1 slices_1n t27_16 1 fun p20 =>
  ∃ (x21 : Option Addr) (x21n : Nat) (x21c : Nat), World.cell? w17 p20 = some (.slice x21 x21n x21c) ∧ (app Tryd.prog [27, 27] 27 (.slice newslice_15 newslice_15n newslice_15c) (.slice x21 x21n x21c) w17 fun a22 a22n a22c w23 =>
  ∃ m24 : Nat, m24 < m18 ∧ I14 a22 a22n a22c (IntKind.i64.wrap (t27_16 + 1)) w23 m24)) (R (.returned (.slice newslice_15 newslice_15n newslice_15c)) w17)))))
set_option maxRecDepth 100000 in
theorem e_slices_Concat_of_api_Position_api_Position (slices_1 : Option Addr) (slices_1n : Nat) (slices_1c : Nat) (R : Ending → World → Prop) (w : World) : fnV Tryd.prog Tryd.f24 an_slices_Concat_of_api_Position_api_Position [.slice slices_1 slices_1n slices_1c] R w = sh_slices_Concat_of_api_Position_api_Position slices_1 slices_1n slices_1c R w := by kernel_rfl
theorem c_slices_Concat_of_api_Position_api_Position {slices_1 : Option Addr} {slices_1n : Nat} {slices_1c : Nat} {R : Ending → World → Prop} {w : World} (h : sh_slices_Concat_of_api_Position_api_Position slices_1 slices_1n slices_1c R w) : Calls Tryd.prog F_slices_Concat_of_api_Position_api_Position ⟨[.slice slices_1 slices_1n slices_1c]⟩ w R := calls_of_fnV Tryd.func24 (by rw [e_slices_Concat_of_api_Position_api_Position]; exact h)

def an_layout_Find : Ann := .two (.leaf) (.two (.two (.leaf) (.two (.leaf) (.two (.two (.leaf) (.leaf)) (.leaf)))) (.two (.leaf) (.two (.two (.leaf) (.one (.rf [3, 4, 5, 6, 9, 24] 0))) (.two (.leaf) (.leaf)))))
def sh_layout_Find (l_1 : Option Addr) (l_1n : Nat) (l_1c : Nat) (p_2 : List UInt8) (p_3 : Int) (R : Ending → World → Prop) (w : World) : Prop :=
  al w 23 [.string ⟨⟨p_2⟩⟩, .int .i64 p_3] fun p4 w5 =>
  al w5 3 [.int .i64 0] fun p6 w7 =>
  al w7 3 [.int .i64 0] fun p8 w9 =>
  al w9 28 [.int .i64 0] fun p10 w11 =>
  Calls Tryd.prog 32 ⟨[.slice l_1 l_1n l_1c]⟩ w11 fun (e12 : Ending) (w13 : World) =>
  ∃ (x14 : List UInt8) (x15 : Int), e12 = .returned (.tuple ⟨[.string ⟨⟨x14⟩⟩, .int .i64 x15]⟩) ∧ (br (decide ((x15 : Int) ≠ 0)) (stL w13 p6 0 [.int .i64 0] fun w16 =>
  stL w16 p8 0 [.int .i64 0] fun w17 =>
  stL w17 p10 0 [.int .i64 x15] fun w18 =>
  ∃ (x19 : Int), World.cell? w18 p6 = some (.int .i64 x19) ∧ (∃ (x20 : Int), World.cell? w18 p8 = some (.int .i64 x20) ∧ (∃ (x21 : Int), World.cell? w18 p10 = some (.int .i64 x21) ∧ (R (.returned (.tuple ⟨[.int .i64 x19, .int .i64 x20, .int .i64 x21]⟩)) w18)))) (Calls Tryd.prog 34 ⟨[.agg ⟨[.string ⟨⟨[]⟩⟩, .int .i64 0]⟩, .slice l_1 l_1n l_1c]⟩ w13 fun (e22 : Ending) (w23 : World) =>
  ∃ (x24 : Option Addr) (x24n : Nat) (x24c : Nat), e22 = .returned (.slice x24 x24n x24c) ∧ (al w23 27 [.slice none 0 0] fun p25 w26 =>
  stL w26 p25 0 [.slice x24 x24n x24c] fun w27 =>
  ∃ (x28 : Option Addr) (x28n : Nat) (x28c : Nat), World.cell? w27 p25 = some (.slice x28 x28n x28c) ∧ (Calls Tryd.prog 42 ⟨[.slice x28 x28n x28c]⟩ w27 fun (e29 : Ending) (w30 : World) =>
  ∃ (x31 : Fn) (x31a : Array Value) (x31b : Array Value), e29 = .returned (.func x31 x31a x31b) ∧ (∀ base32 : Env, RFw Tryd.prog none 35 (cdAt Tryd.f25 [1, 1, 1, 0, 1, 2]) (upd (upd (upd (upd (upd (upd base32 24 (.func x31 x31a x31b)) 9 (.pointer (some p25))) 6 (.pointer (some p10))) 5 (.pointer (some p8))) 4 (.pointer (some p6))) 3 (.pointer (some p4))) [] w30 0 (fun ds33 w34 =>
  stL w34 p6 0 [.int .i64 0] fun w42 =>
  stL w42 p8 0 [.int .i64 0] fun w43 =>
  stL w43 p10 0 [.int .i64 6] fun w44 =>
  retD ds33 w44 fun w45 =>
  ∃ (x46 : Int), World.cell? w45 p6 = some (.int .i64 x46) ∧ (∃ (x47 : Int), World.cell? w45 p8 = some (.int .i64 x47) ∧ (∃ (x48 : Int), World.cell? w45 p10 = some (.int .i64 x48) ∧ (R (.returned (.tuple ⟨[.int .i64 x46, .int .i64 x47, .int .i64 x48]⟩)) w45)))) (fun ds33 w34 =>
  retD ds33 w34 fun w49 =>
  ∃ (x50 : Int), World.cell? w49 p6 = some (.int .i64 x50) ∧ (∃ (x51 : Int), World.cell? w49 p8 = some (.int .i64 x51) ∧ (∃ (x52 : Int), World.cell? w49 p10 = some (.int .i64 x52) ∧ (R (.returned (.tuple ⟨[.int .i64 x50, .int .i64 x51, .int .i64 x52]⟩)) w49)))) (fun ds33 w34 =>
  stL w34 p6 0 [.int .i64 0] fun w35 =>
  stL w35 p8 0 [.int .i64 0] fun w36 =>
  stL w36 p10 0 [.int .i64 6] fun w37 =>
  retD ds33 w37 fun w38 =>
  ∃ (x39 : Int), World.cell? w38 p6 = some (.int .i64 x39) ∧ (∃ (x40 : Int), World.cell? w38 p8 = some (.int .i64 x40) ∧ (∃ (x41 : Int), World.cell? w38 p10 = some (.int .i64 x41) ∧ (R (.returned (.tuple ⟨[.int .i64 x39, .int .i64 x40, .int .i64 x41]⟩)) w38)))))))))
set_option maxRecDepth 100000 in
theorem e_layout_Find (l_1 : Option Addr) (l_1n : Nat) (l_1c : Nat) (p_2 : List UInt8) (p_3 : Int) (R : Ending → World → Prop) (w : World) : fnV Tryd.prog Tryd.f25 an_layout_Find [.slice l_1 l_1n l_1c, .agg ⟨[.string ⟨⟨p_2⟩⟩, .int .i64 p_3]⟩] R w = sh_layout_Find l_1 l_1n l_1c p_2 p_3 R w := by kernel_rfl
theorem c_layout_Find {l_1 : Option Addr} {l_1n : Nat} {l_1c : Nat} {p_2 : List UInt8} {p_3 : Int} {R : Ending → World → Prop} {w : World} (h : sh_layout_Find l_1 l_1n l_1c p_2 p_3 R w) : Calls Tryd.prog F_layout_Find ⟨[.slice l_1 l_1n l_1c, .agg ⟨[.string ⟨⟨p_2⟩⟩, .int .i64 p_3]⟩]⟩ w R := calls_of_fnV Tryd.func25 (by rw [e_layout_Find]; exact h)
def anA_layout_Find_1 : Ann := .two (.leaf) (.leaf)
def anB_layout_Find_1 : Ann := .one (.two (.leaf) (.two (.two (.leaf) (.leaf)) (.leaf)))
def rf_layout_Find_1 (p_53 : Option Addr) (t4_54 : Option Addr) (t5_55 : Option Addr) (t6_56 : Option Addr) (all_57 : Option Addr) (t24_58 : Fn) (t24_58a : Array Value) (t24_58b : Array Value) (t25_59 : Int) (t26_60 : Int) (l : Nat) (Kn Kr Kx : World → World → Prop) (w : World) : Prop :=
  Ext w w ∧ ∀ w61 : World, Upd l w w61 → (drw w61 fun w62 =>
  dr all_57 fun p63 =>
  ∃ (x64 : Option Addr) (x64n : Nat) (x64c : Nat), World.cell? w62 p63 = some (.slice x64 x64n x64c) ∧ (idx x64 x64n t25_59 2 fun p65 =>
  ∃ (x66 : List UInt8), World.cell? w62 (p65.add 0) = some (.string ⟨⟨x66⟩⟩) ∧ (∃ (x67 : Int), World.cell? w62 (p65.add 1) = some (.int .i64 x67) ∧ (dr p_53 fun p68 =>
  ∃ (x69 : List UInt8), World.cell? w62 (p68.add 0) = some (.string ⟨⟨x69⟩⟩) ∧ (∃ (x70 : Int), World.cell? w62 (p68.add 1) = some (.int .i64 x70) ∧ (br ((decide ((x66 : List UInt8) = x69) && (decide ((x67 : Int) = x70) && true))) (dr t4_54 fun p72 =>
  stL w62 p72 0 [.int .i64 t25_59] fun w71 =>
  dr t5_55 fun p74 =>
  stL w71 p74 0 [.int .i64 t26_60] fun w73 =>
  dr t6_56 fun p76 =>
  stL w73 p76 0 [.int .i64 0] fun w75 =>
  Kr w61 w75) (Kn w61 w62)))))))
set_option maxRecDepth 100000 in
theorem er_layout_Find_1 (base : Env) (p_53 : Option Addr) (t4_54 : Option Addr) (t5_55 : Option Addr) (t6_56 : Option Addr) (all_57 : Option Addr) (t24_58 : Fn) (t24_58a : Array Value) (t24_58b : Array Value) (t25_59 : Int) (t26_60 : Int) (l : Nat) (Kn Kr Kx : World → World → Prop) (w : World) : fragV Tryd.prog 35 anA_layout_Find_1 anB_layout_Find_1 (cdAt Tryd.f25 [1, 1, 1, 0, 1, 2, 5]) (cdAt Tryd.f25 [1, 1, 1, 0, 1, 2, 6]) l 0 Kn Kr Kx (updPs [25, 26] [.int .i64 t25_59, .int .i64 t26_60] (upd (upd (upd (upd (upd (upd base 24 (.func t24_58 t24_58a t24_58b)) 9 (.pointer all_57)) 6 (.pointer t6_56)) 5 (.pointer t5_55)) 4 (.pointer t4_54)) 3 (.pointer p_53))) w = rf_layout_Find_1 p_53 t4_54 t5_55 t6_56 all_57 t24_58 t24_58a t24_58b t25_59 t26_60 l Kn Kr Kx w := by kernel_rfl
theorem cd_layout_Find_1 : cdAt Tryd.f25 [1, 1, 1, 0, 1, 2] = .rangeFunc (Operand.tmp 24) #[25, 26] (cdAt Tryd.f25 [1, 1, 1, 0, 1, 2, 5]) (cdAt Tryd.f25 [1, 1, 1, 0, 1, 2, 6]) := by kernel_rfl

def an_layout_Line : Ann := .two (.leaf) (.two (.leaf) (.two (.two (.leaf) (.two (.two (.leaf) (.leaf)) (.leaf))) (.two (.leaf) (.two (.two (.leaf) (.two (.two (.leaf) (.leaf)) (.leaf))) (.two (.leaf) (.leaf))))))
def sh_layout_Line (l_1 : Option Addr) (l_1n : Nat) (l_1c : Nat) (p_2 : List UInt8) (p_3 : Int) (R : Ending → World → Prop) (w : World) : Prop :=
  al w 23 [.string ⟨⟨p_2⟩⟩, .int .i64 p_3] fun p4 w5 =>
  Calls Tryd.prog 32 ⟨[.slice l_1 l_1n l_1c]⟩ w5 fun (e6 : Ending) (w7 : World) =>
  ∃ (x8 : List UInt8) (x9 : Int), e6 = .returned (.tuple ⟨[.string ⟨⟨x8⟩⟩, .int .i64 x9]⟩) ∧ (br (decide ((x9 : Int) ≠ 0)) (R (.returned (.tuple ⟨[.string ⟨⟨[]⟩⟩, .int .i64 x9]⟩)) w7) (∃ (x10 : List UInt8), World.cell? w7 (p4.add 0) = some (.string ⟨⟨x10⟩⟩) ∧ (∃ (x11 : Int), World.cell? w7 (p4.add 1) = some (.int .i64 x11) ∧ (Calls Tryd.prog 25 ⟨[.slice l_1 l_1n l_1c, .agg ⟨[.string ⟨⟨x10⟩⟩, .int .i64 x11]⟩]⟩ w7 fun (e12 : Ending) (w13 : World) =>
  ∃ (x14 : Int) (x15 : Int) (x16 : Int), e12 = .returned (.tuple ⟨[.int .i64 x14, .int .i64 x15, .int .i64 x16]⟩) ∧ (br (decide ((x16 : Int) ≠ 0)) (R (.returned (.tuple ⟨[.string ⟨⟨[]⟩⟩, .int .i64 x16]⟩)) w13) (ssl x8 x14 x15 fun s17 =>
  R (.returned (.tuple ⟨[.string ⟨⟨s17⟩⟩, .int .i64 0]⟩)) w13))))))
set_option maxRecDepth 100000 in
theorem e_layout_Line (l_1 : Option Addr) (l_1n : Nat) (l_1c : Nat) (p_2 : List UInt8) (p_3 : Int) (R : Ending → World → Prop) (w : World) : fnV Tryd.prog Tryd.f26 an_layout_Line [.slice l_1 l_1n l_1c, .agg ⟨[.string ⟨⟨p_2⟩⟩, .int .i64 p_3]⟩] R w = sh_layout_Line l_1 l_1n l_1c p_2 p_3 R w := by kernel_rfl
theorem c_layout_Line {l_1 : Option Addr} {l_1n : Nat} {l_1c : Nat} {p_2 : List UInt8} {p_3 : Int} {R : Ending → World → Prop} {w : World} (h : sh_layout_Line l_1 l_1n l_1c p_2 p_3 R w) : Calls Tryd.prog F_layout_Line ⟨[.slice l_1 l_1n l_1c, .agg ⟨[.string ⟨⟨p_2⟩⟩, .int .i64 p_3]⟩]⟩ w R := calls_of_fnV Tryd.func26 (by rw [e_layout_Line]; exact h)

def an_slices_Contains_of_api_Position_api_Position : Ann := .two (.leaf) (.two (.leaf) (.leaf))
def sh_slices_Contains_of_api_Position_api_Position (s_1 : Option Addr) (s_1n : Nat) (s_1c : Nat) (v_2 : List UInt8) (v_3 : Int) (R : Ending → World → Prop) (w : World) : Prop :=
  al w 23 [.string ⟨⟨v_2⟩⟩, .int .i64 v_3] fun p4 w5 =>
  ∃ (x6 : List UInt8), World.cell? w5 (p4.add 0) = some (.string ⟨⟨x6⟩⟩) ∧ (∃ (x7 : Int), World.cell? w5 (p4.add 1) = some (.int .i64 x7) ∧ (Calls Tryd.prog 45 ⟨[.slice s_1 s_1n s_1c, .agg ⟨[.string ⟨⟨x6⟩⟩, .int .i64 x7]⟩]⟩ w5 fun (e8 : Ending) (w9 : World) =>
  ∃ (x10 : Int), e8 = .returned (.int .i64 x10) ∧ (R (.returned (.bool (decide ((0 : Int) ≤ x10)))) w9)))
set_option maxRecDepth 100000 in
theorem e_slices_Contains_of_api_Position_api_Position (s_1 : Option Addr) (s_1n : Nat) (s_1c : Nat) (v_2 : List UInt8) (v_3 : Int) (R : Ending → World → Prop) (w : World) : fnV Tryd.prog Tryd.f27 an_slices_Contains_of_api_Position_api_Position [.slice s_1 s_1n s_1c, .agg ⟨[.string ⟨⟨v_2⟩⟩, .int .i64 v_3]⟩] R w = sh_slices_Contains_of_api_Position_api_Position s_1 s_1n s_1c v_2 v_3 R w := by kernel_rfl
theorem c_slices_Contains_of_api_Position_api_Position {s_1 : Option Addr} {s_1n : Nat} {s_1c : Nat} {v_2 : List UInt8} {v_3 : Int} {R : Ending → World → Prop} {w : World} (h : sh_slices_Contains_of_api_Position_api_Position s_1 s_1n s_1c v_2 v_3 R w) : Calls Tryd.prog F_slices_Contains_of_api_Position_api_Position ⟨[.slice s_1 s_1n s_1c, .agg ⟨[.string ⟨⟨v_2⟩⟩, .int .i64 v_3]⟩]⟩ w R := calls_of_fnV Tryd.func27 (by rw [e_slices_Contains_of_api_Position_api_Position]; exact h)

def an_layout_Compare : Ann := .two (.leaf) (.two (.leaf) (.two (.two (.leaf) (.two (.two (.leaf) (.leaf)) (.leaf))) (.two (.leaf) (.two (.two (.leaf) (.two (.two (.leaf) (.leaf)) (.leaf))) (.two (.leaf) (.leaf))))))
def sh_layout_Compare (l_1 : Option Addr) (l_1n : Nat) (l_1c : Nat) (p_2 : List UInt8) (p_3 : Int) (q_4 : List UInt8) (q_5 : Int) (R : Ending → World → Prop) (w : World) : Prop :=
  al w 23 [.string ⟨⟨p_2⟩⟩, .int .i64 p_3] fun p6 w7 =>
  al w7 23 [.string ⟨⟨q_4⟩⟩, .int .i64 q_5] fun p8 w9 =>
  ∃ (x10 : List UInt8), World.cell? w9 (p6.add 0) = some (.string ⟨⟨x10⟩⟩) ∧ (∃ (x11 : Int), World.cell? w9 (p6.add 1) = some (.int .i64 x11) ∧ (Calls Tryd.prog 25 ⟨[.slice l_1 l_1n l_1c, .agg ⟨[.string ⟨⟨x10⟩⟩, .int .i64 x11]⟩]⟩ w9 fun (e12 : Ending) (w13 : World) =>
  ∃ (x14 : Int) (x15 : Int) (x16 : Int), e12 = .returned (.tuple ⟨[.int .i64 x14, .int .i64 x15, .int .i64 x16]⟩) ∧ (br (decide ((x16 : Int) ≠ 0)) (R (.returned (.tuple ⟨[.int .i64 0, .int .i64 x16]⟩)) w13) (∃ (x17 : List UInt8), World.cell? w13 (p8.add 0) = some (.string ⟨⟨x17⟩⟩) ∧ (∃ (x18 : Int), World.cell? w13 (p8.add 1) = some (.int .i64 x18) ∧ (Calls Tryd.prog 25 ⟨[.slice l_1 l_1n l_1c, .agg ⟨[.string ⟨⟨x17⟩⟩, .int .i64 x18]⟩]⟩ w13 fun (e19 : Ending) (w20 : World) =>
  ∃ (x21 : Int) (x22 : Int) (x23 : Int), e19 = .returned (.tuple ⟨[.int .i64 x21, .int .i64 x22, .int .i64 x23]⟩) ∧ (br (decide ((x23 : Int) ≠ 0)) (R (.returned (.tuple ⟨[.int .i64 0, .int .i64 x23]⟩)) w20) (Calls Tryd.prog 46 ⟨[.int .i64 x14, .int .i64 x21]⟩ w20 fun (e24 : Ending) (w25 : World) =>
  ∃ (x26 : Int), e24 = .returned (.int .i64 x26) ∧ (R (.returned (.tuple ⟨[.int .i64 x26, .int .i64 0]⟩)) w25)))))))))
set_option maxRecDepth 100000 in
theorem e_layout_Compare (l_1 : Option Addr) (l_1n : Nat) (l_1c : Nat) (p_2 : List UInt8) (p_3 : Int) (q_4 : List UInt8) (q_5 : Int) (R : Ending → World → Prop) (w : World) : fnV Tryd.prog Tryd.f28 an_layout_Compare [.slice l_1 l_1n l_1c, .agg ⟨[.string ⟨⟨p_2⟩⟩, .int .i64 p_3]⟩, .agg ⟨[.string ⟨⟨q_4⟩⟩, .int .i64 q_5]⟩] R w = sh_layout_Compare l_1 l_1n l_1c p_2 p_3 q_4 q_5 R w := by kernel_rfl
theorem c_layout_Compare {l_1 : Option Addr} {l_1n : Nat} {l_1c : Nat} {p_2 : List UInt8} {p_3 : Int} {q_4 : List UInt8} {q_5 : Int} {R : Ending → World → Prop} {w : World} (h : sh_layout_Compare l_1 l_1n l_1c p_2 p_3 q_4 q_5 R w) : Calls Tryd.prog F_layout_Compare ⟨[.slice l_1 l_1n l_1c, .agg ⟨[.string ⟨⟨p_2⟩⟩, .int .i64 p_3]⟩, .agg ⟨[.string ⟨⟨q_4⟩⟩, .int .i64 q_5]⟩]⟩ w R := calls_of_fnV Tryd.func28 (by rw [e_layout_Compare]; exact h)

def an_layout_Pages : Ann := .two (.leaf) (.two (.two (.leaf) (.two (.leaf) (.two (.two (.leaf) (.leaf)) (.leaf)))) (.two (.leaf) (.two (.leaf) (.two (.leaf) (.two (.leaf) (.two (.two (.leaf) (.two (.two (.leaf) (.leaf)) (.leaf))) (.two (.leaf) (.leaf))))))))
def sh_layout_Pages (l_1 : Option Addr) (l_1n : Nat) (l_1c : Nat) (R : Ending → World → Prop) (w : World) : Prop :=
  Calls Tryd.prog 32 ⟨[.slice l_1 l_1n l_1c]⟩ w fun (e2 : Ending) (w3 : World) =>
  ∃ (x4 : List UInt8) (x5 : Int), e2 = .returned (.tuple ⟨[.string ⟨⟨x4⟩⟩, .int .i64 x5]⟩) ∧ (br (decide ((x5 : Int) ≠ 0)) (R (.returned (.tuple ⟨[.slice none 0 0, .int .i64 x5]⟩)) w3) (al w3 58 [.slice none 0 0] fun p6 w7 =>
  mkm w7 fun b8 w9 =>
  al w9 80 [.map none] fun p10 w11 =>
  stL w11 p10 0 [.map (some b8)] fun w12 =>
  al w12 4 [.bool false] fun p13 w14 =>
  stL w14 p13 0 [.bool false] fun w15 =>
  Calls Tryd.prog 47 ⟨[.slice l_1 l_1n l_1c, .int .i64 3, .func (.func 48) ⟨[]⟩ ⟨[.pointer (some p13), .pointer (some p10), .pointer (some p6)]⟩]⟩ w15 fun (e16 : Ending) (w17 : World) =>
  e16 = .returned (.tuple ⟨[]⟩) ∧ (∃ (x18 : Bool), World.cell? w17 p13 = some (.bool x18) ∧ (br x18 (R (.returned (.tuple ⟨[.slice none 0 0, .int .i64 7]⟩)) w17) (∃ (x19 : Option Addr) (x19n : Nat) (x19c : Nat), World.cell? w17 p6 = some (.slice x19 x19n x19c) ∧ (R (.returned (.tuple ⟨[.slice x19 x19n x19c, .int .i64 0]⟩)) w17))))))
set_option maxRecDepth 100000 in
theorem e_layout_Pages (l_1 : Option Addr) (l_1n : Nat) (l_1c : Nat) (R : Ending → World → Prop) (w : World) : fnV Tryd.prog Tryd.f29 an_layout_Pages [.slice l_1 l_1n l_1c] R w = sh_layout_Pages l_1 l_1n l_1c R w := by kernel_rfl
theorem c_layout_Pages {l_1 : Option Addr} {l_1n : Nat} {l_1c : Nat} {R : Ending → World → Prop} {w : World} (h : sh_layout_Pages l_1 l_1n l_1c R w) : Calls Tryd.prog F_layout_Pages ⟨[.slice l_1 l_1n l_1c]⟩ w R := calls_of_fnV Tryd.func29 (by rw [e_layout_Pages]; exact h)

def an_ref10_size : Ann := .two (.leaf) (.two (.leaf) (.two (.two (.leaf) (.one (.loop 576460752303423424 [(9, .one (.int .i64)), (10, .one (.int .i64)), (11, .one (.int .i64))] (.two (.two (.leaf) (.two (.leaf) (.leaf))) (.two (.one (.two (.leaf) (.two (.two (.leaf) (.two (.two (.leaf) (.leaf)) (.leaf))) (.two (.two (.leaf) (.two (.leaf) (.leaf))) (.two (.two (.leaf) (.two (.two (.leaf) (.leaf)) (.leaf))) (.two (.leaf) (.two (.two (.leaf) (.two (.two (.leaf) (.leaf)) (.leaf))) (.two (.leaf) (.leaf))))))))) (.leaf)))))) (.two (.leaf) (.leaf))))
def sh_ref10_size (l_1 : Option Addr) (l_1n : Nat) (l_1c : Nat) (depth_2 : Int) (most_3 : Int) (R : Ending → World → Prop) (w : World) : Prop :=
  ∃ (I4 : Int → Int → Int → World → Nat → Prop), (∃ m10 : Nat, I4 0 0 0 w m10) ∧ ∀ (n_5 : Int) (deep_6 : Int) (i_7 : Int) (w8 : World) (m9 : Nat), I4 n_5 deep_6 i_7 w8 m9 → ∀ _ : Env, (br (decide ((i_7 : Int) < ((l_1n : Int)))) (br (decide ((most_3 : Int) < (IntKind.i64.wrap (n_5 + 1)))) (R (.returned (.tuple ⟨[.int .i64 0, .int .i64 0, .bool false]⟩)) w8) (idx l_1 l_1n i_7 4 fun p11 =>
  ∃ (x12 : Option Addr) (x12n : Nat) (x12c : Nat), World.cell? w8 (p11.add 3) = some (.slice x12 x12n x12c) ∧ (br (decide ((((x12n : Int)) : Int) = 0)) (∃ m13 : Nat, m13 < m9 ∧ I4 (IntKind.i64.wrap (n_5 + 1)) deep_6 (IntKind.i64.wrap (i_7 + 1)) w8 m13) (br (decide ((depth_2 : Int) = 0)) (R (.returned (.tuple ⟨[.int .i64 0, .int .i64 0, .bool false]⟩)) w8) (idx l_1 l_1n i_7 4 fun p14 =>
  ∃ (x15 : Option Addr) (x15n : Nat) (x15c : Nat), World.cell? w8 (p14.add 3) = some (.slice x15 x15n x15c) ∧ (Calls Tryd.prog 30 ⟨[.slice x15 x15n x15c, .int .i64 (IntKind.i64.wrap (depth_2 - 1)), .int .i64 (IntKind.i64.wrap (most_3 - (IntKind.i64.wrap (n_5 + 1))))]⟩ w8 fun (e16 : Ending) (w17 : World) =>
  ∃ (x18 : Int) (x19 : Int) (x20 : Bool), e16 = .returned (.tuple ⟨[.int .i64 x18, .int .i64 x19, .bool x20]⟩) ∧ (br (!x20) (R (.returned (.tuple ⟨[.int .i64 0, .int .i64 0, .bool false]⟩)) w17) (∃ m21 : Nat, m21 < m9 ∧ I4 (IntKind.i64.wrap ((IntKind.i64.wrap (n_5 + 1)) + x18)) ((max deep_6 (IntKind.i64.wrap (x19 + 1)))) (IntKind.i64.wrap (i_7 + 1)) w17 m21)))))))) (R (.returned (.tuple ⟨[.int .i64 n_5, .int .i64 deep_6, .bool true]⟩)) w8))
set_option maxRecDepth 100000 in
theorem e_ref10_size (l_1 : Option Addr) (l_1n : Nat) (l_1c : Nat) (depth_2 : Int) (most_3 : Int) (R : Ending → World → Prop) (w : World) : fnV Tryd.prog Tryd.f30 an_ref10_size [.slice l_1 l_1n l_1c, .int .i64 depth_2, .int .i64 most_3] R w = sh_ref10_size l_1 l_1n l_1c depth_2 most_3 R w := by kernel_rfl
theorem c_ref10_size {l_1 : Option Addr} {l_1n : Nat} {l_1c : Nat} {depth_2 : Int} {most_3 : Int} {R : Ending → World → Prop} {w : World} (h : sh_ref10_size l_1 l_1n l_1c depth_2 most_3 R w) : Calls Tryd.prog F_ref10_size ⟨[.slice l_1 l_1n l_1c, .int .i64 depth_2, .int .i64 most_3]⟩ w R := calls_of_fnV Tryd.func30 (by rw [e_ref10_size]; exact h)

def an_ref10_long : Ann := .two (.leaf) (.two (.two (.leaf) (.one (.loop 8796093022192 [(5, .one (.int .i64))] (.two (.two (.leaf) (.two (.leaf) (.leaf))) (.two (.one (.two (.leaf) (.two (.leaf) (.two (.two (.leaf) (.leaf)) (.leaf))))) (.leaf)))))) (.two (.leaf) (.leaf)))
def sh_ref10_long (l_1 : Option Addr) (l_1n : Nat) (l_1c : Nat) (depth_2 : Int) (R : Ending → World → Prop) (w : World) : Prop :=
  ∃ (I3 : Int → World → Nat → Prop), (∃ m7 : Nat, I3 0 w m7) ∧ ∀ (i_4 : Int) (w5 : World) (m6 : Nat), I3 i_4 w5 m6 → ∀ _ : Env, (br (decide ((i_4 : Int) < ((l_1n : Int)))) (idx l_1 l_1n i_4 4 fun p8 =>
  ∃ (x9 : List UInt8), World.cell? w5 (p8.add 1) = some (.string ⟨⟨x9⟩⟩) ∧ (br (decide ((depth_2 : Int) = 0)) (R (.returned (.bool true)) w5) (br (decide ((60 : Int) < ((List.length x9 : Int)))) (br (decide ((((List.length x9 : Int)) : Int) ≤ 65536)) (R (.returned (.bool true)) w5) (br (decide ((65540 : Int) < ((List.length x9 : Int)))) (R (.returned (.bool true)) w5) (idx l_1 l_1n i_4 4 fun p10 =>
  ∃ (x11 : Option Addr) (x11n : Nat) (x11c : Nat), World.cell? w5 (p10.add 3) = some (.slice x11 x11n x11c) ∧ (Calls Tryd.prog 31 ⟨[.slice x11 x11n x11c, .int .i64 (IntKind.i64.wrap (depth_2 - 1))]⟩ w5 fun (e12 : Ending) (w13 : World) =>
  ∃ (x14 : Bool), e12 = .returned (.bool x14) ∧ (br x14 (R (.returned (.bool true)) w13) (∃ m15 : Nat, m15 < m6 ∧ I3 (IntKind.i64.wrap (i_4 + 1)) w13 m15)))))) (br (decide ((65540 : Int) < ((List.length x9 : Int)))) (R (.returned (.bool true)) w5) (idx l_1 l_1n i_4 4 fun p16 =>
  ∃ (x17 : Option Addr) (x17n : Nat) (x17c : Nat), World.cell? w5 (p16.add 3) = some (.slice x17 x17n x17c) ∧ (Calls Tryd.prog 31 ⟨[.slice x17 x17n x17c, .int .i64 (IntKind.i64.wrap (depth_2 - 1))]⟩ w5 fun (e18 : Ending) (w19 : World) =>
  ∃ (x20 : Bool), e18 = .returned (.bool x20) ∧ (br x20 (R (.returned (.bool true)) w19) (∃ m21 : Nat, m21 < m6 ∧ I3 (IntKind.i64.wrap (i_4 + 1)) w19 m21)))))))) (R (.returned (.bool false)) w5))
set_option maxRecDepth 100000 in
theorem e_ref10_long (l_1 : Option Addr) (l_1n : Nat) (l_1c : Nat) (depth_2 : Int) (R : Ending → World → Prop) (w : World) : fnV Tryd.prog Tryd.f31 an_ref10_long [.slice l_1 l_1n l_1c, .int .i64 depth_2] R w = sh_ref10_long l_1 l_1n l_1c depth_2 R w := by kernel_rfl
theorem c_ref10_long {l_1 : Option Addr} {l_1n : Nat} {l_1c : Nat} {depth_2 : Int} {R : Ending → World → Prop} {w : World} (h : sh_ref10_long l_1 l_1n l_1c depth_2 R w) : Calls Tryd.prog F_ref10_long ⟨[.slice l_1 l_1n l_1c, .int .i64 depth_2]⟩ w R := calls_of_fnV Tryd.func31 (by rw [e_ref10_long]; exact h)

def an_legibility_Pattern : Ann := .two (.leaf) (.two (.two (.leaf) (.two (.leaf) (.two (.two (.leaf) (.leaf)) (.leaf)))) (.two (.leaf) (.leaf)))
def sh_legibility_Pattern (l_1 : Option Addr) (l_1n : Nat) (l_1c : Nat) (R : Ending → World → Prop) (w : World) : Prop :=
  Calls Tryd.prog 49 ⟨[.slice l_1 l_1n l_1c]⟩ w fun (e2 : Ending) (w3 : World) =>
  ∃ (x4 : Int), e2 = .returned (.int .i64 x4) ∧ (br (decide ((x4 : Int) ≠ 0)) (R (.returned (.tuple ⟨[.string ⟨⟨[]⟩⟩, .int .i64 x4]⟩)) w3) (Calls Tryd.prog 51 ⟨[.slice l_1 l_1n l_1c]⟩ w3 fun (e5 : Ending) (w6 : World) =>
  ∃ (x7 : List UInt8), e5 = .returned (.string ⟨⟨x7⟩⟩) ∧ (Calls Tryd.prog 50 ⟨[.string ⟨⟨x7⟩⟩]⟩ w6 fun (e8 : Ending) (w9 : World) =>
  ∃ (x10 : List UInt8) (x11 : Int), e8 = .returned (.tuple ⟨[.string ⟨⟨x10⟩⟩, .int .i64 x11]⟩) ∧ (R (.returned (.tuple ⟨[.string ⟨⟨x10⟩⟩, .int .i64 x11]⟩)) w9))))
set_option maxRecDepth 100000 in
theorem e_legibility_Pattern (l_1 : Option Addr) (l_1n : Nat) (l_1c : Nat) (R : Ending → World → Prop) (w : World) : fnV Tryd.prog Tryd.f32 an_legibility_Pattern [.slice l_1 l_1n l_1c] R w = sh_legibility_Pattern l_1 l_1n l_1c R w := by kernel_rfl
theorem c_legibility_Pattern {l_1 : Option Addr} {l_1n : Nat} {l_1c : Nat} {R : Ending → World → Prop} {w : World} (h : sh_legibility_Pattern l_1 l_1n l_1c R w) : Calls Tryd.prog F_legibility_Pattern ⟨[.slice l_1 l_1n l_1c]⟩ w R := calls_of_fnV Tryd.func32 (by rw [e_legibility_Pattern]; exact h)

def an_charset_IsName : Ann := .two (.leaf) (.two (.leaf) (.leaf))
def sh_charset_IsName (s_1 : List UInt8) (R : Ending → World → Prop) (w : World) : Prop :=
  br (decide ((s_1 : List UInt8) ≠ ([]))) (br (decide ((((List.length s_1 : Int)) : Int) ≤ 16)) (Calls Tryd.prog 52 ⟨[.string ⟨⟨s_1⟩⟩]⟩ w fun (e2 : Ending) (w3 : World) =>
  ∃ (x4 : Int), e2 = .returned (.int .i64 x4) ∧ (R (.returned (.bool (decide ((x4 : Int) = ((List.length s_1 : Int)))))) w3)) (R (.returned (.bool false)) w)) (R (.returned (.bool false)) w)
set_option maxRecDepth 100000 in
theorem e_charset_IsName (s_1 : List UInt8) (R : Ending → World → Prop) (w : World) : fnV Tryd.prog Tryd.f33 an_charset_IsName [.string ⟨⟨s_1⟩⟩] R w = sh_charset_IsName s_1 R w := by kernel_rfl
theorem c_charset_IsName {s_1 : List UInt8} {R : Ending → World → Prop} {w : World} (h : sh_charset_IsName s_1 R w) : Calls Tryd.prog F_charset_IsName ⟨[.string ⟨⟨s_1⟩⟩]⟩ w R := calls_of_fnV Tryd.func33 (by rw [e_charset_IsName]; exact h)

def an_layout_positions : Ann := .two (.leaf) (.two (.leaf) (.two (.leaf) (.two (.leaf) (.two (.leaf) (.two (.leaf) (.two (.leaf) (.two (.leaf) (.leaf))))))))
def sh_layout_positions (start_1 : List UInt8) (start_2 : Int) (l_3 : Option Addr) (l_3n : Nat) (l_3c : Nat) (R : Ending → World → Prop) (w : World) : Prop :=
  al w 23 [.string ⟨⟨start_1⟩⟩, .int .i64 start_2] fun p4 w5 =>
  al w5 27 [.slice none 0 0] fun p6 w7 =>
  ∃ (x8 : List UInt8), World.cell? w7 (p4.add 0) = some (.string ⟨⟨x8⟩⟩) ∧ (∃ (x9 : Int), World.cell? w7 (p4.add 1) = some (.int .i64 x9) ∧ (al w7 23 [.string ⟨⟨[]⟩⟩, .int .i64 0] fun p10 w11 =>
  stL w11 p10 0 [.string ⟨⟨x8⟩⟩, .int .i64 x9] fun w12 =>
  al w12 87 [.nilFunc] fun p13 w14 =>
  stL w14 p13 0 [.func (.func 53) ⟨[]⟩ ⟨[.pointer (some p6), .pointer (some p10)]⟩] fun w15 =>
  al w15 88 [.nilFunc] fun p16 w17 =>
  stL w17 p16 0 [.func (.func 54) ⟨[]⟩ ⟨[.pointer (some p13), .pointer (some p10), .pointer (some p16)]⟩] fun w18 =>
  ∃ (x19 : Fn) (x19a : Array Value) (x19b : Array Value), World.cell? w18 p16 = some (.func x19 x19a x19b) ∧ (CallV Tryd.prog (.func x19 x19a x19b) [.slice l_3 l_3n l_3c] w18 fun (e20 : Ending) (w21 : World) =>
  e20 = .returned (.tuple ⟨[]⟩) ∧ (∃ (x22 : Option Addr) (x22n : Nat) (x22c : Nat), World.cell? w21 p6 = some (.slice x22 x22n x22c) ∧ (R (.returned (.slice x22 x22n x22c)) w21)))))
set_option maxRecDepth 100000 in
theorem e_layout_positions (start_1 : List UInt8) (start_2 : Int) (l_3 : Option Addr) (l_3n : Nat) (l_3c : Nat) (R : Ending → World → Prop) (w : World) : fnV Tryd.prog Tryd.f34 an_layout_positions [.agg ⟨[.string ⟨⟨start_1⟩⟩, .int .i64 start_2]⟩, .slice l_3 l_3n l_3c] R w = sh_layout_positions start_1 start_2 l_3 l_3n l_3c R w := by kernel_rfl
theorem c_layout_positions {start_1 : List UInt8} {start_2 : Int} {l_3 : Option Addr} {l_3n : Nat} {l_3c : Nat} {R : Ending → World → Prop} {w : World} (h : sh_layout_positions start_1 start_2 l_3 l_3n l_3c R w) : Calls Tryd.prog F_layout_positions ⟨[.agg ⟨[.string ⟨⟨start_1⟩⟩, .int .i64 start_2]⟩, .slice l_3 l_3n l_3c]⟩ w R := calls_of_fnV Tryd.func34 (by rw [e_layout_positions]; exact h)

def an_ref12_Pattern : Ann := .two (.leaf) (.two (.two (.leaf) (.two (.leaf) (.two (.two (.leaf) (.leaf)) (.leaf)))) (.two (.leaf) (.two (.two (.leaf) (.two (.two (.leaf) (.leaf)) (.leaf))) (.two (.leaf) (.leaf)))))
def sh_ref12_Pattern (l_1 : Option Addr) (l_1n : Nat) (l_1c : Nat) (R : Ending → World → Prop) (w : World) : Prop :=
  Calls Tryd.prog 55 ⟨[.slice l_1 l_1n l_1c]⟩ w fun (e2 : Ending) (w3 : World) =>
  ∃ (x4 : Int), e2 = .returned (.int .i64 x4) ∧ (br (decide ((x4 : Int) ≠ 0)) (R (.returned (.tuple ⟨[.string ⟨⟨[]⟩⟩, .int .i64 x4]⟩)) w3) (Calls Tryd.prog 56 ⟨[.slice l_1 l_1n l_1c]⟩ w3 fun (e5 : Ending) (w6 : World) =>
  ∃ (x7 : List UInt8), e5 = .returned (.string ⟨⟨x7⟩⟩) ∧ (br (decide ((65536 : Int) < ((List.length x7 : Int)))) (R (.returned (.tuple ⟨[.string ⟨⟨[]⟩⟩, .int .i64 4]⟩)) w6) (R (.returned (.tuple ⟨[.string ⟨⟨x7⟩⟩, .int .i64 0]⟩)) w6))))
set_option maxRecDepth 100000 in
theorem e_ref12_Pattern (l_1 : Option Addr) (l_1n : Nat) (l_1c : Nat) (R : Ending → World → Prop) (w : World) : fnV Tryd.prog Tryd.f35 an_ref12_Pattern [.slice l_1 l_1n l_1c] R w = sh_ref12_Pattern l_1 l_1n l_1c R w := by kernel_rfl
theorem c_ref12_Pattern {l_1 : Option Addr} {l_1n : Nat} {l_1c : Nat} {R : Ending → World → Prop} {w : World} (h : sh_ref12_Pattern l_1 l_1n l_1c R w) : Calls Tryd.prog F_ref12_Pattern ⟨[.slice l_1 l_1n l_1c]⟩ w R := calls_of_fnV Tryd.func35 (by rw [e_ref12_Pattern]; exact h)

def an_ref01_IsName : Ann := .two (.leaf) (.two (.leaf) (.leaf))
def sh_ref01_IsName (s_1 : List UInt8) (R : Ending → World → Prop) (w : World) : Prop :=
  br (decide ((((List.length s_1 : Int)) : Int) ≤ 16)) (Calls Tryd.prog 57 ⟨[.string ⟨⟨s_1⟩⟩]⟩ w fun (e2 : Ending) (w3 : World) =>
  ∃ (x4 : Bool), e2 = .returned (.bool x4) ∧ (br x4 (Calls Tryd.prog 58 ⟨[.string ⟨⟨s_1⟩⟩]⟩ w3 fun (e5 : Ending) (w6 : World) =>
  ∃ (x7 : Int), e5 = .returned (.int .i64 x7) ∧ (R (.returned (.bool (decide ((x7 : Int) = ((List.length s_1 : Int)))))) w6)) (R (.returned (.bool false)) w3))) (R (.returned (.bool false)) w)
set_option maxRecDepth 100000 in
theorem e_ref01_IsName (s_1 : List UInt8) (R : Ending → World → Prop) (w : World) : fnV Tryd.prog Tryd.f36 an_ref01_IsName [.string ⟨⟨s_1⟩⟩] R w = sh_ref01_IsName s_1 R w := by kernel_rfl
theorem c_ref01_IsName {s_1 : List UInt8} {R : Ending → World → Prop} {w : World} (h : sh_ref01_IsName s_1 R w) : Calls Tryd.prog F_ref01_IsName ⟨[.string ⟨⟨s_1⟩⟩]⟩ w R := calls_of_fnV Tryd.func36 (by rw [e_ref01_IsName]; exact h)

def an_ref13_walk : Ann := .two (.leaf) (.two (.leaf) (.two (.two (.leaf) (.one (.loop 73786976294838198208 [(6, .one (.slice)), (7, .one (.int .i64))] (.two (.two (.leaf) (.two (.leaf) (.leaf))) (.two (.one (.two (.leaf) (.two (.leaf) (.cut 70368727400960 [(9, .one (.int .i64))] (.two (.leaf) (.one (.two (.leaf) (.two (.leaf) (.two (.leaf) (.two (.leaf) (.two (.leaf) (.two (.leaf) (.two (.leaf) (.two (.leaf) (.leaf))))))))))) (.two (.two (.leaf) (.one (.loop 35958428274787392 [(6, .one (.slice)), (10, .one (.int .i64))] (.two (.two (.leaf) (.two (.leaf) (.leaf))) (.two (.one (.leaf)) (.leaf)))))) (.two (.leaf) (.leaf))))))) (.leaf)))))) (.two (.leaf) (.leaf))))
def sh_ref13_walk (at_1 : List UInt8) (at_2 : Int) (l_3 : Option Addr) (l_3n : Nat) (l_3c : Nat) (R : Ending → World → Prop) (w : World) : Prop :=
  al w 23 [.string ⟨⟨at_1⟩⟩, .int .i64 at_2] fun p4 w5 =>
  al w5 23 [.string ⟨⟨[]⟩⟩, .int .i64 0] fun p6 w7 =>
  al w7 23 [] fun p8 w9 =>
  ∃ (I10 : Option Addr → Nat → Nat → Int → World → Nat → Prop), (∃ m15 : Nat, I10 (some p8) 0 0 0 w9 m15) ∧ ∀ (out_11 : Option Addr) (out_11n : Nat) (out_11c : Nat) (i_12 : Int) (w13 : World) (m14 : Nat), I10 out_11 out_11n out_11c i_12 w13 m14 → ∀ _ : Env, (br (decide ((i_12 : Int) < ((l_3n : Int)))) (idx l_3 l_3n i_12 4 fun p16 =>
  ∃ (x17 : Int), World.cell? w13 (p16.add 0) = some (.int .i64 x17) ∧ (∃ (x18 : List UInt8), World.cell? w13 (p16.add 1) = some (.string ⟨⟨x18⟩⟩) ∧ (∃ (x19 : Int), World.cell? w13 (p16.add 2) = some (.int .i64 x19) ∧ (∃ (x20 : Option Addr) (x20n : Nat) (x20c : Nat), World.cell? w13 (p16.add 3) = some (.slice x20 x20n x20c) ∧ (al w13 45 [.int .i64 0, .string ⟨⟨[]⟩⟩, .int .i64 0, .slice none 0 0] fun p21 w22 =>
  stL w22 p21 0 [.int .i64 x17, .string ⟨⟨x18⟩⟩, .int .i64 x19, .slice x20 x20n x20c] fun w23 =>
  ∀ (K24 : Int → World → Prop), (∀ (n_25 : Int) (w26 : World), (∀ _ : Env, (∃ (I27 : Option Addr → Nat → Nat → Int → World → Nat → Prop), (∃ m32 : Nat, I27 out_11 out_11n out_11c 0 w26 m32) ∧ ∀ (out_28 : Option Addr) (out_28n : Nat) (out_28c : Nat) (k_29 : Int) (w30 : World) (m31 : Nat), I27 out_28 out_28n out_28c k_29 w30 m31 → ∀ _ : Env, (br (decide ((k_29 : Int) < n_25)) (∃ (x33 : List UInt8), World.cell? w30 (p4.add 0) = some (.string ⟨⟨x33⟩⟩) ∧ (∃ (x34 : Int), World.cell? w30 (p4.add 1) = some (.int .i64 x34) ∧ (al w30 23 [.string ⟨⟨x33⟩⟩, .int .i64 x34] fun p35 w36 =>
  app Tryd.prog [27, 27] 27 (.slice out_28 out_28n out_28c) (.slice (some p35) 1 1) w36 fun a37 a37n a37c w38 =>
  ∃ m39 : Nat, m39 < m31 ∧ I27 a37 a37n a37c (IntKind.i64.wrap (k_29 + 1)) w38 m39))) (∃ (x40 : List UInt8), World.cell? w30 (p4.add 0) = some (.string ⟨⟨x40⟩⟩) ∧ (∃ (x41 : Int), World.cell? w30 (p4.add 1) = some (.int .i64 x41) ∧ (∃ (x42 : Option Addr) (x42n : Nat) (x42c : Nat), World.cell? w30 (p21.add 3) = some (.slice x42 x42n x42c) ∧ (Calls Tryd.prog 37 ⟨[.agg ⟨[.string ⟨⟨x40⟩⟩, .int .i64 x41]⟩, .slice x42 x42n x42c]⟩ w30 fun (e43 : Ending) (w44 : World) =>
  ∃ (x45 : Option Addr) (x45n : Nat) (x45c : Nat) (x46 : List UInt8) (x47 : Int), e43 = .returned (.tuple ⟨[.slice x45 x45n x45c, .agg ⟨[.string ⟨⟨x46⟩⟩, .int .i64 x47]⟩]⟩) ∧ (al w44 23 [.string ⟨⟨[]⟩⟩, .int .i64 0] fun p48 w49 =>
  stL w49 p48 0 [.string ⟨⟨x46⟩⟩, .int .i64 x47] fun w50 =>
  drw w50 fun w51 =>
  (app Tryd.prog [27, 27] 27 (.slice out_28 out_28n out_28c) (.slice x45 x45n x45c) w51 fun a52 a52n a52c w53 =>
  ∃ (x54 : List UInt8), World.cell? w53 (p48.add 0) = some (.string ⟨⟨x54⟩⟩) ∧ (∃ (x55 : Int), World.cell? w53 (p48.add 1) = some (.int .i64 x55) ∧ ((stL w53 p4 0 [.string ⟨⟨x54⟩⟩, .int .i64 x55] fun w56 =>
  ∃ m57 : Nat, m57 < m14 ∧ I10 a52 a52n a52c (IntKind.i64.wrap (i_12 + 1)) w56 m57) ∧ True))) ∧ (∃ (x58 : List UInt8), World.cell? w51 (p48.add 0) = some (.string ⟨⟨x58⟩⟩) ∧ (∃ (x59 : Int), World.cell? w51 (p48.add 1) = some (.int .i64 x59) ∧ ((app Tryd.prog [27, 27] 27 (.slice out_28 out_28n out_28c) (.slice x45 x45n x45c) w51 fun a60 a60n a60c w61 =>
  (stL w61 p4 0 [.string ⟨⟨x58⟩⟩, .int .i64 x59] fun w62 =>
  ∃ m63 : Nat, m63 < m14 ∧ I10 a60 a60n a60c (IntKind.i64.wrap (i_12 + 1)) w62 m63) ∧ True) ∧ True))) ∧ True)))))))) → K24 n_25 w26) → (∃ (x64 : Int), World.cell? w23 (p21.add 0) = some (.int .i64 x64) ∧ (br (decide ((x64 : Int) = 3)) (∃ (x65 : List UInt8), World.cell? w23 (p21.add 1) = some (.string ⟨⟨x65⟩⟩) ∧ (stL w23 p4 0 [.string ⟨⟨x65⟩⟩, .int .i64 0] fun w66 =>
  K24 0 w66)) (br (decide ((x64 : Int) = 2)) (∃ (x67 : Int), World.cell? w23 (p4.add 1) = some (.int .i64 x67) ∧ (stL w23 (p4.add 1) 0 [.int .i64 (IntKind.i64.wrap (x67 + 1))] fun w68 =>
  K24 0 w68)) (br (decide ((x64 : Int) = 1)) (∃ (x69 : List UInt8), World.cell? w23 (p21.add 1) = some (.string ⟨⟨x69⟩⟩) ∧ (K24 ((List.length x69 : Int)) w23)) (br (decide ((x64 : Int) = 6)) (∃ (x70 : Int), World.cell? w23 (p21.add 2) = some (.int .i64 x70) ∧ (K24 x70 w23)) (K24 0 w23))))))))))) (drw w13 fun w71 =>
  ∃ (x72 : List UInt8), World.cell? w71 (p4.add 0) = some (.string ⟨⟨x72⟩⟩) ∧ (∃ (x73 : Int), World.cell? w71 (p4.add 1) = some (.int .i64 x73) ∧ ((stL w71 p6 0 [.string ⟨⟨x72⟩⟩, .int .i64 x73] fun w74 =>
  ∃ (x75 : List UInt8), World.cell? w74 (p6.add 0) = some (.string ⟨⟨x75⟩⟩) ∧ (∃ (x76 : Int), World.cell? w74 (p6.add 1) = some (.int .i64 x76) ∧ (R (.returned (.tuple ⟨[.slice out_11 out_11n out_11c, .agg ⟨[.string ⟨⟨x75⟩⟩, .int .i64 x76]⟩]⟩)) w74))) ∧ True))))
set_option maxRecDepth 100000 in
theorem e_ref13_walk (at_1 : List UInt8) (at_2 : Int) (l_3 : Option Addr) (l_3n : Nat) (l_3c : Nat) (R : Ending → World → Prop) (w : World) : fnV Tryd.prog Tryd.f37 an_ref13_walk [.agg ⟨[.string ⟨⟨at_1⟩⟩, .int .i64 at_2]⟩, .slice l_3 l_3n l_3c] R w = sh_ref13_walk at_1 at_2 l_3 l_3n l_3c R w := by kernel_rfl
theorem c_ref13_walk {at_1 : List UInt8} {at_2 : Int} {l_3 : Option Addr} {l_3n : Nat} {l_3c : Nat} {R : Ending → World → Prop} {w : World} (h : sh_ref13_walk at_1 at_2 l_3 l_3n l_3c R w) : Calls Tryd.prog F_ref13_walk ⟨[.agg ⟨[.string ⟨⟨at_1⟩⟩, .int .i64 at_2]⟩, .slice l_3 l_3n l_3c]⟩ w R := calls_of_fnV Tryd.func37 (by rw [e_ref13_walk]; exact h)

def an_slices_ContainsFunc_of_api_Node_api_Node : Ann := .two (.leaf) (.two (.leaf) (.leaf))
def sh_slices_ContainsFunc_of_api_Node_api_Node (s_1 : Option Addr) (s_1n : Nat) (s_1c : Nat) (f_2 : Fn) (f_2a : Array Value) (f_2b : Array Value) (R : Ending → World → Prop) (w : World) : Prop :=
  Calls Tryd.prog 59 ⟨[.slice s_1 s_1n s_1c, .func f_2 f_2a f_2b]⟩ w fun (e3 : Ending) (w4 : World) =>
  ∃ (x5 : Int), e3 = .returned (.int .i64 x5) ∧ (R (.returned (.bool (decide ((0 : Int) ≤ x5)))) w4)
set_option maxRecDepth 100000 in
theorem e_slices_ContainsFunc_of_api_Node_api_Node (s_1 : Option Addr) (s_1n : Nat) (s_1c : Nat) (f_2 : Fn) (f_2a : Array Value) (f_2b : Array Value) (R : Ending → World → Prop) (w : World) : fnV Tryd.prog Tryd.f38 an_slices_ContainsFunc_of_api_Node_api_Node [.slice s_1 s_1n s_1c, .func f_2 f_2a f_2b] R w = sh_slices_ContainsFunc_of_api_Node_api_Node s_1 s_1n s_1c f_2 f_2a f_2b R w := by kernel_rfl
theorem c_slices_ContainsFunc_of_api_Node_api_Node {s_1 : Option Addr} {s_1n : Nat} {s_1c : Nat} {f_2 : Fn} {f_2a : Array Value} {f_2b : Array Value} {R : Ending → World → Prop} {w : World} (h : sh_slices_ContainsFunc_of_api_Node_api_Node s_1 s_1n s_1c f_2 f_2a f_2b R w) : Calls Tryd.prog F_slices_ContainsFunc_of_api_Node_api_Node ⟨[.slice s_1 s_1n s_1c, .func f_2 f_2a f_2b]⟩ w R := calls_of_fnV Tryd.func38 (by rw [e_slices_ContainsFunc_of_api_Node_api_Node]; exact h)

def an_law13_has_1 : Ann := .two (.leaf) (.two (.leaf) (.leaf))
def sh_law13_has_1 (x_1 : Int) (x_2 : List UInt8) (x_3 : Int) (x_4 : Option Addr) (x_4n : Nat) (x_4c : Nat) (t1_5 : Option Addr) (t2_6 : Option Addr) (R : Ending → World → Prop) (w : World) : Prop :=
  al w 45 [.int .i64 x_1, .string ⟨⟨x_2⟩⟩, .int .i64 x_3, .slice x_4 x_4n x_4c] fun p7 w8 =>
  ∃ (x9 : Int), World.cell? w8 (p7.add 0) = some (.int .i64 x9) ∧ (dr t1_5 fun p10 =>
  ∃ (x11 : Int), World.cell? w8 p10 = some (.int .i64 x11) ∧ (br (decide ((x9 : Int) = x11)) (R (.returned (.bool true)) w8) (∃ (x12 : Int), World.cell? w8 (p7.add 0) = some (.int .i64 x12) ∧ (dr t2_6 fun p13 =>
  ∃ (x14 : Int), World.cell? w8 p13 = some (.int .i64 x14) ∧ (br (decide ((x12 : Int) = x14)) (R (.returned (.bool true)) w8) (∃ (x15 : Option Addr) (x15n : Nat) (x15c : Nat), World.cell? w8 (p7.add 3) = some (.slice x15 x15n x15c) ∧ (dr t1_5 fun p16 =>
  ∃ (x17 : Int), World.cell? w8 p16 = some (.int .i64 x17) ∧ (dr t2_6 fun p18 =>
  ∃ (x19 : Int), World.cell? w8 p18 = some (.int .i64 x19) ∧ (Calls Tryd.prog 17 ⟨[.slice x15 x15n x15c, .int .i64 x17, .int .i64 x19]⟩ w8 fun (e20 : Ending) (w21 : World) =>
  ∃ (x22 : Bool), e20 = .returned (.bool x22) ∧ (R (.returned (.bool x22)) w21))))))))))
set_option maxRecDepth 100000 in
theorem e_law13_has_1 (x_1 : Int) (x_2 : List UInt8) (x_3 : Int) (x_4 : Option Addr) (x_4n : Nat) (x_4c : Nat) (t1_5 : Option Addr) (t2_6 : Option Addr) (R : Ending → World → Prop) (w : World) : fnV Tryd.prog Tryd.f39 an_law13_has_1 [.agg ⟨[.int .i64 x_1, .string ⟨⟨x_2⟩⟩, .int .i64 x_3, .slice x_4 x_4n x_4c]⟩, .pointer t1_5, .pointer t2_6] R w = sh_law13_has_1 x_1 x_2 x_3 x_4 x_4n x_4c t1_5 t2_6 R w := by kernel_rfl
theorem c_law13_has_1 {x_1 : Int} {x_2 : List UInt8} {x_3 : Int} {x_4 : Option Addr} {x_4n : Nat} {x_4c : Nat} {t1_5 : Option Addr} {t2_6 : Option Addr} {R : Ending → World → Prop} {w : World} (h : sh_law13_has_1 x_1 x_2 x_3 x_4 x_4n x_4c t1_5 t2_6 R w) : Calls Tryd.prog F_law13_has_1 ⟨[.agg ⟨[.int .i64 x_1, .string ⟨⟨x_2⟩⟩, .int .i64 x_3, .slice x_4 x_4n x_4c]⟩, .pointer t1_5, .pointer t2_6]⟩ w R := calls_of_fnV Tryd.func39 (by rw [e_law13_has_1]; exact h)

def an_layout_Broken_1 : Ann := .two (.leaf) (.two (.two (.leaf) (.one (.two (.two (.leaf) (.two (.leaf) (.two (.leaf) (.two (.leaf) (.two (.leaf) (.two (.leaf) (.leaf))))))) (.two (.two (.leaf) (.leaf)) (.leaf))))) (.two (.leaf) (.leaf)))
def sh_layout_Broken_1 (c_1 : Int) (R : Ending → World → Prop) (w : World) : Prop :=
  Calls Tryd.prog 41 ⟨[.int .u8 c_1]⟩ w fun (e2 : Ending) (w3 : World) =>
  ∃ (x4 : Int), e2 = .returned (.int .i64 x4) ∧ (br (decide ((x4 : Int) = 1)) (br (decide ((x4 : Int) = 1)) (R (.returned (.bool true)) w3) (R (.returned (.bool (decide ((c_1 : Int) = 95)))) w3)) (br (decide ((x4 : Int) = 2)) (br (decide ((x4 : Int) = 2)) (R (.returned (.bool true)) w3) (R (.returned (.bool (decide ((c_1 : Int) = 95)))) w3)) (br (decide ((x4 : Int) = 3)) (br (decide ((x4 : Int) = 3)) (R (.returned (.bool true)) w3) (R (.returned (.bool (decide ((c_1 : Int) = 95)))) w3)) (br (decide ((x4 : Int) = 4)) (R (.returned (.bool true)) w3) (R (.returned (.bool (decide ((c_1 : Int) = 95)))) w3)))))
set_option maxRecDepth 100000 in
theorem e_layout_Broken_1 (c_1 : Int) (R : Ending → World → Prop) (w : World) : fnV Tryd.prog Tryd.f40 an_layout_Broken_1 [.int .u8 c_1] R w = sh_layout_Broken_1 c_1 R w := by kernel_rfl
theorem c_layout_Broken_1 {c_1 : Int} {R : Ending → World → Prop} {w : World} (h : sh_layout_Broken_1 c_1 R w) : Calls Tryd.prog F_layout_Broken_1 ⟨[.int .u8 c_1]⟩ w R := calls_of_fnV Tryd.func40 (by rw [e_layout_Broken_1]; exact h)

def an_charset_Kind : Ann := .two (.leaf) (.two (.one (.cut 262136 [(3, .one (.bool))] (.leaf) (.two (.two (.leaf) (.leaf)) (.cut 536608768 [(18, .one (.bool))] (.leaf) (.two (.two (.leaf) (.leaf)) (.cut 68182605824 [(29, .one (.bool))] (.leaf) (.two (.two (.leaf) (.leaf)) (.two (.leaf) (.two (.two (.leaf) (.leaf)) (.two (.leaf) (.two (.two (.leaf) (.leaf)) (.two (.leaf) (.two (.two (.leaf) (.leaf)) (.leaf)))))))))))))) (.two (.leaf) (.leaf)))
def sh_charset_Kind (c_1 : Int) (R : Ending → World → Prop) (w : World) : Prop :=
  ∀ (K2 : Bool → World → Prop), (∀ (t3_3 : Bool) (w4 : World), (∀ _ : Env, (br t3_3 (R (.returned (.int .i64 1)) w4) (∀ (K5 : Bool → World → Prop), (∀ (t18_6 : Bool) (w7 : World), (∀ _ : Env, (br t18_6 (R (.returned (.int .i64 2)) w7) (∀ (K8 : Bool → World → Prop), (∀ (t29_9 : Bool) (w10 : World), (∀ _ : Env, (br t29_9 (R (.returned (.int .i64 3)) w10) (br (decide ((c_1 : Int) = 39)) (R (.returned (.int .i64 4)) w10) (br (decide ((c_1 : Int) = 32)) (R (.returned (.int .i64 6)) w10) (br (decide ((c_1 : Int) ≠ 0)) (Calls Tryd.prog 60 ⟨[.string ⟨⟨[46, 44, 59, 58, 33, 63, 40, 41, 45]⟩⟩, .int .u8 c_1]⟩ w10 fun (e11 : Ending) (w12 : World) =>
  ∃ (x13 : Int), e11 = .returned (.int .i64 x13) ∧ (br (decide ((0 : Int) ≤ x13)) (R (.returned (.int .i64 5)) w12) (R (.returned (.int .i64 0)) w12))) (R (.returned (.int .i64 0)) w10)))))) → K8 t29_9 w10) → (br (decide ((48 : Int) ≤ c_1)) (K8 (decide ((c_1 : Int) ≤ 57)) w7) (K8 false w7))))) → K5 t18_6 w7) → (br (decide ((c_1 : Int) = 94)) (K5 true w4) (br (decide ((c_1 : Int) = 126)) (K5 true w4) (K5 (decide ((c_1 : Int) = 37)) w4)))))) → K2 t3_3 w4) → (br (decide ((97 : Int) ≤ c_1)) (br (decide ((c_1 : Int) ≤ 122)) (K2 true w) (br (decide ((65 : Int) ≤ c_1)) (K2 (decide ((c_1 : Int) ≤ 90)) w) (K2 false w))) (br (decide ((65 : Int) ≤ c_1)) (K2 (decide ((c_1 : Int) ≤ 90)) w) (K2 false w)))
set_option maxRecDepth 100000 in
theorem e_charset_Kind (c_1 : Int) (R : Ending → World → Prop) (w : World) : fnV Tryd.prog Tryd.f41 an_charset_Kind [.int .u8 c_1] R w = sh_charset_Kind c_1 R w := by kernel_rfl
theorem c_charset_Kind {c_1 : Int} {R : Ending → World → Prop} {w : World} (h : sh_charset_Kind c_1 R w) : Calls Tryd.prog F_charset_Kind ⟨[.int .u8 c_1]⟩ w R := calls_of_fnV Tryd.func41 (by rw [e_charset_Kind]; exact h)

def an_layout_rows : Ann := .two (.leaf) (.two (.leaf) (.leaf))
def sh_layout_rows (l_1 : Option Addr) (l_1n : Nat) (l_1c : Nat) (R : Ending → World → Prop) (w : World) : Prop :=
  al w 27 [.slice l_1 l_1n l_1c] fun p2 w3 =>
  R (.returned (.func (.func 61) ⟨[]⟩ ⟨[.pointer (some p2)]⟩)) w3
set_option maxRecDepth 100000 in
theorem e_layout_rows (l_1 : Option Addr) (l_1n : Nat) (l_1c : Nat) (R : Ending → World → Prop) (w : World) : fnV Tryd.prog Tryd.f42 an_layout_rows [.slice l_1 l_1n l_1c] R w = sh_layout_rows l_1 l_1n l_1c R w := by kernel_rfl
theorem c_layout_rows {l_1 : Option Addr} {l_1n : Nat} {l_1c : Nat} {R : Ending → World → Prop} {w : World} (h : sh_layout_rows l_1 l_1n l_1c R w) : Calls Tryd.prog F_layout_rows ⟨[.slice l_1 l_1n l_1c]⟩ w R := calls_of_fnV Tryd.func42 (by rw [e_layout_rows]; exact h)

def an_slices_Grow_of_api_Node_api_Node : Ann := .two (.leaf) (.cut 224 [] (.two (.leaf) (.two (.leaf) (.leaf))) (.two (.two (.leaf) (.two (.leaf) (.two (.leaf) (.leaf)))) (.two (.leaf) (.leaf))))
def sh_slices_Grow_of_api_Node_api_Node (s_1 : Option Addr) (s_1n : Nat) (s_1c : Nat) (n_2 : Int) (R : Ending → World → Prop) (w : World) : Prop :=
  ∀ (K3 : World → Prop), (∀  (w4 : World), (∀ _ : Env, (br (decide ((0 : Int) < (IntKind.i64.wrap (n_2 - (IntKind.i64.wrap (((s_1c : Int)) - ((s_1n : Int)))))))) (sls s_1 s_1c 0 ((s_1c : Int)) 4 fun a5 a5n a5c =>
  app Tryd.prog [24, 3] 24 (.slice a5 a5n a5c) (.int .i64 (IntKind.i64.wrap (n_2 - (IntKind.i64.wrap (((s_1c : Int)) - ((s_1n : Int))))))) w4 fun a6 a6n a6c w7 =>
  sls a6 a6c 0 ((s_1n : Int)) 4 fun a8 a8n a8c =>
  R (.returned (.slice a8 a8n a8c)) w7) (R (.returned (.slice s_1 s_1n s_1c)) w4))) → K3 w4) → (br (decide ((n_2 : Int) < 0)) (False) (K3 w))
set_option maxRecDepth 100000 in
theorem e_slices_Grow_of_api_Node_api_Node (s_1 : Option Addr) (s_1n : Nat) (s_1c : Nat) (n_2 : Int) (R : Ending → World → Prop) (w : World) : fnV Tryd.prog Tryd.f43 an_slices_Grow_of_api_Node_api_Node [.slice s_1 s_1n s_1c, .int .i64 n_2] R w = sh_slices_Grow_of_api_Node_api_Node s_1 s_1n s_1c n_2 R w := by kernel_rfl
theorem c_slices_Grow_of_api_Node_api_Node {s_1 : Option Addr} {s_1n : Nat} {s_1c : Nat} {n_2 : Int} {R : Ending → World → Prop} {w : World} (h : sh_slices_Grow_of_api_Node_api_Node s_1 s_1n s_1c n_2 R w) : Calls Tryd.prog F_slices_Grow_of_api_Node_api_Node ⟨[.slice s_1 s_1n s_1c, .int .i64 n_2]⟩ w R := calls_of_fnV Tryd.func43 (by rw [e_slices_Grow_of_api_Node_api_Node]; exact h)

def an_slices_Grow_of_api_Position_api_Position : Ann := .two (.leaf) (.cut 224 [] (.two (.leaf) (.two (.leaf) (.leaf))) (.two (.two (.leaf) (.two (.leaf) (.two (.leaf) (.leaf)))) (.two (.leaf) (.leaf))))
def sh_slices_Grow_of_api_Position_api_Position (s_1 : Option Addr) (s_1n : Nat) (s_1c : Nat) (n_2 : Int) (R : Ending → World → Prop) (w : World) : Prop :=
  ∀ (K3 : World → Prop), (∀  (w4 : World), (∀ _ : Env, (br (decide ((0 : Int) < (IntKind.i64.wrap (n_2 - (IntKind.i64.wrap (((s_1c : Int)) - ((s_1n : Int)))))))) (sls s_1 s_1c 0 ((s_1c : Int)) 2 fun a5 a5n a5c =>
  app Tryd.prog [27, 3] 27 (.slice a5 a5n a5c) (.int .i64 (IntKind.i64.wrap (n_2 - (IntKind.i64.wrap (((s_1c : Int)) - ((s_1n : Int))))))) w4 fun a6 a6n a6c w7 =>
  sls a6 a6c 0 ((s_1n : Int)) 2 fun a8 a8n a8c =>
  R (.returned (.slice a8 a8n a8c)) w7) (R (.returned (.slice s_1 s_1n s_1c)) w4))) → K3 w4) → (br (decide ((n_2 : Int) < 0)) (False) (K3 w))
set_option maxRecDepth 100000 in
theorem e_slices_Grow_of_api_Position_api_Position (s_1 : Option Addr) (s_1n : Nat) (s_1c : Nat) (n_2 : Int) (R : Ending → World → Prop) (w : World) : fnV Tryd.prog Tryd.f44 an_slices_Grow_of_api_Position_api_Position [.slice s_1 s_1n s_1c, .int .i64 n_2] R w = sh_slices_Grow_of_api_Position_api_Position s_1 s_1n s_1c n_2 R w := by kernel_rfl
theorem c_slices_Grow_of_api_Position_api_Position {s_1 : Option Addr} {s_1n : Nat} {s_1c : Nat} {n_2 : Int} {R : Ending → World → Prop} {w : World} (h : sh_slices_Grow_of_api_Position_api_Position s_1 s_1n s_1c n_2 R w) : Calls Tryd.prog F_slices_Grow_of_api_Position_api_Position ⟨[.slice s_1 s_1n s_1c, .int .i64 n_2]⟩ w R := calls_of_fnV Tryd.func44 (by rw [e_slices_Grow_of_api_Position_api_Position]; exact h)

def an_slices_Index_of_api_Position_api_Position : Ann := .two (.leaf) (.two (.two (.leaf) (.one (.loop 524080 [(8, .one (.int .i64))] (.two (.leaf) (.two (.two (.leaf) (.leaf)) (.two (.one (.two (.leaf) (.two (.leaf) (.two (.two (.leaf) (.leaf)) (.leaf))))) (.leaf))))))) (.two (.leaf) (.leaf)))
def sh_slices_Index_of_api_Position_api_Position (s_1 : Option Addr) (s_1n : Nat) (s_1c : Nat) (v_2 : List UInt8) (v_3 : Int) (R : Ending → World → Prop) (w : World) : Prop :=
  al w 23 [.string ⟨⟨v_2⟩⟩, .int .i64 v_3] fun p4 w5 =>
  ∃ (I6 : Int → World → Nat → Prop), (∃ m10 : Nat, I6 0 w5 m10) ∧ ∀ (t8_7 : Int) (w8 : World) (m9 : Nat), I6 t8_7 w8 m9 → ∀ _ : Env, (br (decide ((t8_7 : Int) < ((s_1n : Int)))) (drw w8 fun w11 =>
  ∃ (x12 : List UInt8), World.cell? w11 (p4.add 0) = some (.string ⟨⟨x12⟩⟩) ∧ (∃ (x13 : Int), World.cell? w11 (p4.add 1) = some (.int .i64 x13) ∧ (idx s_1 s_1n t8_7 2 fun p14 =>
  ∃ (x15 : List UInt8), World.cell? w11 (p14.add 0) = some (.string ⟨⟨x15⟩⟩) ∧ (∃ (x16 : Int), World.cell? w11 (p14.add 1) = some (.int .i64 x16) ∧ (br ((decide ((x12 : List UInt8) = x15) && (decide ((x13 : Int) = x16) && true))) (R (.returned (.int .i64 t8_7)) w11) (∃ m17 : Nat, m17 < m9 ∧ I6 (IntKind.i64.wrap (t8_7 + 1)) w11 m17)))))) (R (.returned (.int .i64 ((-1)))) w8))
set_option maxRecDepth 100000 in
theorem e_slices_Index_of_api_Position_api_Position (s_1 : Option Addr) (s_1n : Nat) (s_1c : Nat) (v_2 : List UInt8) (v_3 : Int) (R : Ending → World → Prop) (w : World) : fnV Tryd.prog Tryd.f45 an_slices_Index_of_api_Position_api_Position [.slice s_1 s_1n s_1c, .agg ⟨[.string ⟨⟨v_2⟩⟩, .int .i64 v_3]⟩] R w = sh_slices_Index_of_api_Position_api_Position s_1 s_1n s_1c v_2 v_3 R w := by kernel_rfl
theorem c_slices_Index_of_api_Position_api_Position {s_1 : Option Addr} {s_1n : Nat} {s_1c : Nat} {v_2 : List UInt8} {v_3 : Int} {R : Ending → World → Prop} {w : World} (h : sh_slices_Index_of_api_Position_api_Position s_1 s_1n s_1c v_2 v_3 R w) : Calls Tryd.prog F_slices_Index_of_api_Position_api_Position ⟨[.slice s_1 s_1n s_1c, .agg ⟨[.string ⟨⟨v_2⟩⟩, .int .i64 v_3]⟩]⟩ w R := calls_of_fnV Tryd.func45 (by rw [e_slices_Index_of_api_Position_api_Position]; exact h)

def an_cmp_Compare_of_int : Ann := .two (.leaf) (.two (.leaf) (.two (.leaf) (.two (.two (.leaf) (.two (.two (.two (.leaf) (.two (.two (.leaf) (.leaf)) (.leaf))) (.two (.leaf) (.leaf))) (.leaf))) (.two (.two (.leaf) (.two (.two (.leaf) (.leaf)) (.leaf))) (.two (.two (.leaf) (.two (.two (.leaf) (.leaf)) (.leaf))) (.two (.two (.leaf) (.two (.two (.leaf) (.leaf)) (.leaf))) (.two (.leaf) (.leaf))))))))
def sh_cmp_Compare_of_int (x_1 : Int) (y_2 : Int) (R : Ending → World → Prop) (w : World) : Prop :=
  Calls Tryd.prog 62 ⟨[.int .i64 x_1]⟩ w fun (e3 : Ending) (w4 : World) =>
  ∃ (x5 : Bool), e3 = .returned (.bool x5) ∧ (Calls Tryd.prog 62 ⟨[.int .i64 y_2]⟩ w4 fun (e6 : Ending) (w7 : World) =>
  ∃ (x8 : Bool), e6 = .returned (.bool x8) ∧ (br x5 (br x8 (R (.returned (.int .i64 0)) w7) (R (.returned (.int .i64 ((-1)))) w7)) (br x8 (R (.returned (.int .i64 1)) w7) (br (decide ((x_1 : Int) < y_2)) (R (.returned (.int .i64 ((-1)))) w7) (br (decide ((y_2 : Int) < x_1)) (R (.returned (.int .i64 1)) w7) (R (.returned (.int .i64 0)) w7))))))
set_option maxRecDepth 100000 in
theorem e_cmp_Compare_of_int (x_1 : Int) (y_2 : Int) (R : Ending → World → Prop) (w : World) : fnV Tryd.prog Tryd.f46 an_cmp_Compare_of_int [.int .i64 x_1, .int .i64 y_2] R w = sh_cmp_Compare_of_int x_1 y_2 R w := by kernel_rfl
theorem c_cmp_Compare_of_int {x_1 : Int} {y_2 : Int} {R : Ending → World → Prop} {w : World} (h : sh_cmp_Compare_of_int x_1 y_2 R w) : Calls Tryd.prog F_cmp_Compare_of_int ⟨[.int .i64 x_1, .int .i64 y_2]⟩ w R := calls_of_fnV Tryd.func46 (by rw [e_cmp_Compare_of_int]; exact h)

def an_layout_collect : Ann := .two (.leaf) (.one (.loop 134216832 [(10, .one (.int .i64))] (.two (.leaf) (.two (.two (.leaf) (.leaf)) (.two (.one (.two (.leaf) (.cut 2080768 [] (.two (.leaf) (.two (.leaf) (.leaf))) (.leaf)))) (.leaf))))))
def sh_layout_collect (l_1 : Option Addr) (l_1n : Nat) (l_1c : Nat) (kind_2 : Int) (with_3 : Fn) (with_3a : Array Value) (with_3b : Array Value) (R : Ending → World → Prop) (w : World) : Prop :=
  ∃ (I4 : Int → World → Nat → Prop), (∃ m8 : Nat, I4 0 w m8) ∧ ∀ (t10_5 : Int) (w6 : World) (m7 : Nat), I4 t10_5 w6 m7 → ∀ _ : Env, (br (decide ((t10_5 : Int) < ((l_1n : Int)))) (idx l_1 l_1n t10_5 4 fun p9 =>
  ∃ (x10 : Int), World.cell? w6 (p9.add 0) = some (.int .i64 x10) ∧ (∃ (x11 : List UInt8), World.cell? w6 (p9.add 1) = some (.string ⟨⟨x11⟩⟩) ∧ (∃ (x12 : Int), World.cell? w6 (p9.add 2) = some (.int .i64 x12) ∧ (∃ (x13 : Option Addr) (x13n : Nat) (x13c : Nat), World.cell? w6 (p9.add 3) = some (.slice x13 x13n x13c) ∧ (al w6 45 [.int .i64 0, .string ⟨⟨[]⟩⟩, .int .i64 0, .slice none 0 0] fun p14 w15 =>
  stL w15 p14 0 [.int .i64 x10, .string ⟨⟨x11⟩⟩, .int .i64 x12, .slice x13 x13n x13c] fun w16 =>
  ∀ (K17 : World → Prop), (∀  (w18 : World), (∀ _ : Env, (∃ (x19 : Option Addr) (x19n : Nat) (x19c : Nat), World.cell? w18 (p14.add 3) = some (.slice x19 x19n x19c) ∧ (Calls Tryd.prog 47 ⟨[.slice x19 x19n x19c, .int .i64 kind_2, .func with_3 with_3a with_3b]⟩ w18 fun (e20 : Ending) (w21 : World) =>
  e20 = .returned (.tuple ⟨[]⟩) ∧ (∃ m22 : Nat, m22 < m7 ∧ I4 (IntKind.i64.wrap (t10_5 + 1)) w21 m22)))) → K17 w18) → (∃ (x23 : Int), World.cell? w16 (p14.add 0) = some (.int .i64 x23) ∧ (br (decide ((x23 : Int) = kind_2)) (∃ (x24 : Int), World.cell? w16 (p14.add 0) = some (.int .i64 x24) ∧ (∃ (x25 : List UInt8), World.cell? w16 (p14.add 1) = some (.string ⟨⟨x25⟩⟩) ∧ (∃ (x26 : Int), World.cell? w16 (p14.add 2) = some (.int .i64 x26) ∧ (∃ (x27 : Option Addr) (x27n : Nat) (x27c : Nat), World.cell? w16 (p14.add 3) = some (.slice x27 x27n x27c) ∧ (CallV Tryd.prog (.func with_3 with_3a with_3b) [.agg ⟨[.int .i64 x24, .string ⟨⟨x25⟩⟩, .int .i64 x26, .slice x27 x27n x27c]⟩] w16 fun (e28 : Ending) (w29 : World) =>
  e28 = .returned (.tuple ⟨[]⟩) ∧ (K17 w29)))))) (K17 w16)))))))) (R (.returned (.tuple ⟨[]⟩)) w6))
set_option maxRecDepth 100000 in
theorem e_layout_collect (l_1 : Option Addr) (l_1n : Nat) (l_1c : Nat) (kind_2 : Int) (with_3 : Fn) (with_3a : Array Value) (with_3b : Array Value) (R : Ending → World → Prop) (w : World) : fnV Tryd.prog Tryd.f47 an_layout_collect [.slice l_1 l_1n l_1c, .int .i64 kind_2, .func with_3 with_3a with_3b] R w = sh_layout_collect l_1 l_1n l_1c kind_2 with_3 with_3a with_3b R w := by kernel_rfl
theorem c_layout_collect {l_1 : Option Addr} {l_1n : Nat} {l_1c : Nat} {kind_2 : Int} {with_3 : Fn} {with_3a : Array Value} {with_3b : Array Value} {R : Ending → World → Prop} {w : World} (h : sh_layout_collect l_1 l_1n l_1c kind_2 with_3 with_3a with_3b R w) : Calls Tryd.prog F_layout_collect ⟨[.slice l_1 l_1n l_1c, .int .i64 kind_2, .func with_3 with_3a with_3b]⟩ w R := calls_of_fnV Tryd.func47 (by rw [e_layout_collect]; exact h)

def an_layout_Pages_1 : Ann := .two (.leaf) (.cut 4064 [] (.leaf) (.two (.leaf) (.leaf)))
def sh_layout_Pages_1 (x_1 : Int) (x_2 : List UInt8) (x_3 : Int) (x_4 : Option Addr) (x_4n : Nat) (x_4c : Nat) (t1_5 : Option Addr) (t2_6 : Option Addr) (t3_7 : Option Addr) (R : Ending → World → Prop) (w : World) : Prop :=
  al w 45 [.int .i64 x_1, .string ⟨⟨x_2⟩⟩, .int .i64 x_3, .slice x_4 x_4n x_4c] fun p8 w9 =>
  ∀ (K10 : World → Prop), (∀  (w11 : World), (∀ _ : Env, (dr t2_6 fun p12 =>
  ∃ (x13 : Value), World.cell? w11 p12 = some (x13) ∧ (∃ (x14 : List UInt8), World.cell? w11 (p8.add 1) = some (.string ⟨⟨x14⟩⟩) ∧ (mupd Tryd.prog 80 x13 (.string ⟨⟨x14⟩⟩) (.bool true) w11 fun w15 =>
  dr t3_7 fun p16 =>
  ∃ (x17 : Option Addr) (x17n : Nat) (x17c : Nat), World.cell? w15 p16 = some (.slice x17 x17n x17c) ∧ (∃ (x18 : List UInt8), World.cell? w15 (p8.add 1) = some (.string ⟨⟨x18⟩⟩) ∧ (al w15 9 [.string ⟨⟨x18⟩⟩] fun p19 w20 =>
  app Tryd.prog [58, 58] 58 (.slice x17 x17n x17c) (.slice (some p19) 1 1) w20 fun a21 a21n a21c w22 =>
  dr t3_7 fun p24 =>
  stL w22 p24 0 [.slice a21 a21n a21c] fun w23 =>
  R (.returned (.tuple ⟨[]⟩)) w23)))))) → K10 w11) → (dr t1_5 fun p25 =>
  ∃ (x26 : Bool), World.cell? w9 p25 = some (.bool x26) ∧ (br x26 (dr t1_5 fun p28 =>
  stL w9 p28 0 [.bool true] fun w27 =>
  K10 w27) (dr t2_6 fun p29 =>
  ∃ (x30 : Value), World.cell? w9 p29 = some (x30) ∧ (∃ (x31 : List UInt8), World.cell? w9 (p8.add 1) = some (.string ⟨⟨x31⟩⟩) ∧ (∃ (x32 : Bool), lkAt Tryd.prog 80 x30 (.string ⟨⟨x31⟩⟩) w9 (.bool x32) ∧ (dr t1_5 fun p34 =>
  stL w9 p34 0 [.bool x32] fun w33 =>
  K10 w33))))))
set_option maxRecDepth 100000 in
theorem e_layout_Pages_1 (x_1 : Int) (x_2 : List UInt8) (x_3 : Int) (x_4 : Option Addr) (x_4n : Nat) (x_4c : Nat) (t1_5 : Option Addr) (t2_6 : Option Addr) (t3_7 : Option Addr) (R : Ending → World → Prop) (w : World) : fnV Tryd.prog Tryd.f48 an_layout_Pages_1 [.agg ⟨[.int .i64 x_1, .string ⟨⟨x_2⟩⟩, .int .i64 x_3, .slice x_4 x_4n x_4c]⟩, .pointer t1_5, .pointer t2_6, .pointer t3_7] R w = sh_layout_Pages_1 x_1 x_2 x_3 x_4 x_4n x_4c t1_5 t2_6 t3_7 R w := by kernel_rfl
theorem c_layout_Pages_1 {x_1 : Int} {x_2 : List UInt8} {x_3 : Int} {x_4 : Option Addr} {x_4n : Nat} {x_4c : Nat} {t1_5 : Option Addr} {t2_6 : Option Addr} {t3_7 : Option Addr} {R : Ending → World → Prop} {w : World} (h : sh_layout_Pages_1 x_1 x_2 x_3 x_4 x_4n x_4c t1_5 t2_6 t3_7 R w) : Calls Tryd.prog F_layout_Pages_1 ⟨[.agg ⟨[.int .i64 x_1, .string ⟨⟨x_2⟩⟩, .int .i64 x_3, .slice x_4 x_4n x_4c]⟩, .pointer t1_5, .pointer t2_6, .pointer t3_7]⟩ w R := calls_of_fnV Tryd.func48 (by rw [e_layout_Pages_1]; exact h)

def an_legibility_check : Ann := .two (.leaf) (.two (.two (.leaf) (.two (.two (.leaf) (.leaf)) (.leaf))) (.two (.two (.leaf) (.one (.rf [2, 8] 0))) (.two (.leaf) (.leaf))))
def sh_legibility_check (l_1 : Option Addr) (l_1n : Nat) (l_1c : Nat) (R : Ending → World → Prop) (w : World) : Prop :=
  al w 28 [.int .i64 0] fun p2 w3 =>
  Calls Tryd.prog 63 ⟨[.slice l_1 l_1n l_1c]⟩ w3 fun (e4 : Ending) (w5 : World) =>
  ∃ (x6 : Int), e4 = .returned (.int .i64 x6) ∧ (br (decide ((x6 : Int) ≠ 0)) (stL w5 p2 0 [.int .i64 1] fun w7 =>
  ∃ (x8 : Int), World.cell? w7 p2 = some (.int .i64 x8) ∧ (R (.returned (.int .i64 x8)) w7)) (Calls Tryd.prog 64 ⟨[.slice l_1 l_1n l_1c]⟩ w5 fun (e9 : Ending) (w10 : World) =>
  ∃ (x11 : Fn) (x11a : Array Value) (x11b : Array Value), e9 = .returned (.func x11 x11a x11b) ∧ (∀ base12 : Env, RFw Tryd.prog none 19 (cdAt Tryd.f49 [1, 1, 0, 1, 2]) (upd (upd base12 8 (.func x11 x11a x11b)) 2 (.pointer (some p2))) [] w10 0 (fun ds13 w14 =>
  stL w14 p2 0 [.int .i64 0] fun w18 =>
  retD ds13 w18 fun w19 =>
  ∃ (x20 : Int), World.cell? w19 p2 = some (.int .i64 x20) ∧ (R (.returned (.int .i64 x20)) w19)) (fun ds13 w14 =>
  retD ds13 w14 fun w21 =>
  ∃ (x22 : Int), World.cell? w21 p2 = some (.int .i64 x22) ∧ (R (.returned (.int .i64 x22)) w21)) (fun ds13 w14 =>
  stL w14 p2 0 [.int .i64 0] fun w15 =>
  retD ds13 w15 fun w16 =>
  ∃ (x17 : Int), World.cell? w16 p2 = some (.int .i64 x17) ∧ (R (.returned (.int .i64 x17)) w16)))))
set_option maxRecDepth 100000 in
theorem e_legibility_check (l_1 : Option Addr) (l_1n : Nat) (l_1c : Nat) (R : Ending → World → Prop) (w : World) : fnV Tryd.prog Tryd.f49 an_legibility_check [.slice l_1 l_1n l_1c] R w = sh_legibility_check l_1 l_1n l_1c R w := by kernel_rfl
theorem c_legibility_check {l_1 : Option Addr} {l_1n : Nat} {l_1c : Nat} {R : Ending → World → Prop} {w : World} (h : sh_legibility_check l_1 l_1n l_1c R w) : Calls Tryd.prog F_legibility_check ⟨[.slice l_1 l_1n l_1c]⟩ w R := calls_of_fnV Tryd.func49 (by rw [e_legibility_check]; exact h)
def anA_legibility_check_1 : Ann := .leaf
def anB_legibility_check_1 : Ann := .one (.two (.leaf) (.two (.two (.leaf) (.leaf)) (.leaf)))
def rf_legibility_check_1 (t2_23 : Option Addr) (t8_24 : Fn) (t8_24a : Array Value) (t8_24b : Array Value) (t9_25 : Int) (t9_26 : List UInt8) (t9_27 : Int) (t9_28 : Option Addr) (t9_28n : Nat) (t9_28c : Nat) (t10_29 : Value) (l : Nat) (Kn Kr Kx : World → World → Prop) (w : World) : Prop :=
  al w 45 [.int .i64 0, .string ⟨⟨[]⟩⟩, .int .i64 0, .slice none 0 0] fun p31 w32 =>
  stL w32 p31 0 [.int .i64 t9_25, .string ⟨⟨t9_26⟩⟩, .int .i64 t9_27, .slice t9_28 t9_28n t9_28c] fun w33 =>
  Ext w w33 ∧ ∀ w30 : World, Upd l w33 w30 → (∃ (x34 : Int), World.cell? w30 (p31.add 0) = some (.int .i64 x34) ∧ (br (decide ((x34 : Int) = 8)) (dr t2_23 fun p36 =>
  stL w30 p36 0 [.int .i64 13] fun w35 =>
  Kr w30 w35) (∃ (x37 : Int), World.cell? w30 (p31.add 0) = some (.int .i64 x37) ∧ (br (decide ((x37 : Int) = 9)) (dr t2_23 fun p39 =>
  stL w30 p39 0 [.int .i64 13] fun w38 =>
  Kr w30 w38) (Kn w30 w30)))))
set_option maxRecDepth 100000 in
theorem er_legibility_check_1 (base : Env) (t2_23 : Option Addr) (t8_24 : Fn) (t8_24a : Array Value) (t8_24b : Array Value) (t9_25 : Int) (t9_26 : List UInt8) (t9_27 : Int) (t9_28 : Option Addr) (t9_28n : Nat) (t9_28c : Nat) (t10_29 : Value) (l : Nat) (Kn Kr Kx : World → World → Prop) (w : World) : fragV Tryd.prog 19 anA_legibility_check_1 anB_legibility_check_1 (cdAt Tryd.f49 [1, 1, 0, 1, 2, 5]) (cdAt Tryd.f49 [1, 1, 0, 1, 2, 6]) l 0 Kn Kr Kx (updPs [9, 10] [.agg ⟨[.int .i64 t9_25, .string ⟨⟨t9_26⟩⟩, .int .i64 t9_27, .slice t9_28 t9_28n t9_28c]⟩, t10_29] (upd (upd base 8 (.func t8_24 t8_24a t8_24b)) 2 (.pointer t2_23))) w = rf_legibility_check_1 t2_23 t8_24 t8_24a t8_24b t9_25 t9_26 t9_27 t9_28 t9_28n t9_28c t10_29 l Kn Kr Kx w := by kernel_rfl
theorem cd_legibility_check_1 : cdAt Tryd.f49 [1, 1, 0, 1, 2] = .rangeFunc (Operand.tmp 8) #[9, 10] (cdAt Tryd.f49 [1, 1, 0, 1, 2, 5]) (cdAt Tryd.f49 [1, 1, 0, 1, 2, 6]) := by kernel_rfl

def an_legibility_limited : Ann := .two (.leaf) (.two (.two (.leaf) (.two (.two (.leaf) (.leaf)) (.leaf))) (.two (.leaf) (.leaf)))
def sh_legibility_limited (s_1 : List UInt8) (R : Ending → World → Prop) (w : World) : Prop :=
  br (decide ((65536 : Int) < ((List.length s_1 : Int)))) (R (.returned (.tuple ⟨[.string ⟨⟨[]⟩⟩, .int .i64 4]⟩)) w) (R (.returned (.tuple ⟨[.string ⟨⟨s_1⟩⟩, .int .i64 0]⟩)) w)
set_option maxRecDepth 100000 in
theorem e_legibility_limited (s_1 : List UInt8) (R : Ending → World → Prop) (w : World) : fnV Tryd.prog Tryd.f50 an_legibility_limited [.string ⟨⟨s_1⟩⟩] R w = sh_legibility_limited s_1 R w := by kernel_rfl
theorem c_legibility_limited {s_1 : List UInt8} {R : Ending → World → Prop} {w : World} (h : sh_legibility_limited s_1 R w) : Calls Tryd.prog F_legibility_limited ⟨[.string ⟨⟨s_1⟩⟩]⟩ w R := calls_of_fnV Tryd.func50 (by rw [e_legibility_limited]; exact h)

def an_legibility_pattern : Ann := .two (.leaf) (.two (.leaf) (.two (.two (.leaf) (.one (.rf [2, 3, 6] 0))) (.two (.leaf) (.leaf))))
def sh_legibility_pattern (l_1 : Option Addr) (l_1n : Nat) (l_1c : Nat) (R : Ending → World → Prop) (w : World) : Prop :=
  al w 99 [.pointer none, .slice none 0 0] fun p2 w3 =>
  Calls Tryd.prog 64 ⟨[.slice l_1 l_1n l_1c]⟩ w3 fun (e4 : Ending) (w5 : World) =>
  ∃ (x6 : Fn) (x6a : Array Value) (x6b : Array Value), e4 = .returned (.func x6 x6a x6b) ∧ (∀ base7 : Env, RFw Tryd.prog none 23 (cdAt Tryd.f51 [1, 1, 0, 1, 2]) (upd (upd (upd base7 6 (.func x6 x6a x6b)) 3 (.pointer (some p2))) 2 (.string ⟨⟨[]⟩⟩)) [] w5 0 (fun ds8 w9 =>
  Calls Tryd.prog 67 ⟨[.pointer (some p2)]⟩ w9 fun (e14 : Ending) (w15 : World) =>
  ∃ (x16 : List UInt8), e14 = .returned (.string ⟨⟨x16⟩⟩) ∧ (retD ds8 w15 fun w17 =>
  R (.returned (.string ⟨⟨x16⟩⟩)) w17)) (fun ds8 w9 =>
  retD ds8 w9 fun w18 =>
  R (.returned (.string ⟨⟨[]⟩⟩)) w18) (fun ds8 w9 =>
  Calls Tryd.prog 67 ⟨[.pointer (some p2)]⟩ w9 fun (e10 : Ending) (w11 : World) =>
  ∃ (x12 : List UInt8), e10 = .returned (.string ⟨⟨x12⟩⟩) ∧ (retD ds8 w11 fun w13 =>
  R (.returned (.string ⟨⟨x12⟩⟩)) w13)))
set_option maxRecDepth 100000 in
theorem e_legibility_pattern (l_1 : Option Addr) (l_1n : Nat) (l_1c : Nat) (R : Ending → World → Prop) (w : World) : fnV Tryd.prog Tryd.f51 an_legibility_pattern [.slice l_1 l_1n l_1c] R w = sh_legibility_pattern l_1 l_1n l_1c R w := by kernel_rfl
theorem c_legibility_pattern {l_1 : Option Addr} {l_1n : Nat} {l_1c : Nat} {R : Ending → World → Prop} {w : World} (h : sh_legibility_pattern l_1 l_1n l_1c R w) : Calls Tryd.prog F_legibility_pattern ⟨[.slice l_1 l_1n l_1c]⟩ w R := calls_of_fnV Tryd.func51 (by rw [e_legibility_pattern]; exact h)
def anA_legibility_pattern_1 : Ann := .leaf
def anB_legibility_pattern_1 : Ann := .one (.two (.leaf) (.one (.two (.leaf) (.two (.leaf) (.two (.leaf) (.two (.leaf) (.leaf)))))))
def rf_legibility_pattern_1 (t2_19 : List UInt8) (w_20 : Option Addr) (t6_21 : Fn) (t6_21a : Array Value) (t6_21b : Array Value) (t7_22 : Int) (t7_23 : List UInt8) (t7_24 : Int) (t7_25 : Option Addr) (t7_25n : Nat) (t7_25c : Nat) (t8_26 : Value) (l : Nat) (Kn Kr Kx : World → World → Prop) (w : World) : Prop :=
  al w 45 [.int .i64 0, .string ⟨⟨[]⟩⟩, .int .i64 0, .slice none 0 0] fun p28 w29 =>
  stL w29 p28 0 [.int .i64 t7_22, .string ⟨⟨t7_23⟩⟩, .int .i64 t7_24, .slice t7_25 t7_25n t7_25c] fun w30 =>
  Ext w w30 ∧ ∀ w27 : World, Upd l w30 w27 → (∃ (x31 : Int), World.cell? w27 (p28.add 0) = some (.int .i64 x31) ∧ (br (decide ((x31 : Int) = 1)) (∃ (x32 : List UInt8), World.cell? w27 (p28.add 1) = some (.string ⟨⟨x32⟩⟩) ∧ (Calls Tryd.prog 65 ⟨[.pointer w_20, .string ⟨⟨x32⟩⟩]⟩ w27 fun (e33 : Ending) (w34 : World) =>
  ∃ (x35 : Int) (x36 : Value), e33 = .returned (.tuple ⟨[.int .i64 x35, x36]⟩) ∧ (Kn w27 w34))) (br (decide ((x31 : Int) = 6)) (∃ (x37 : Int), World.cell? w27 (p28.add 2) = some (.int .i64 x37) ∧ (Calls Tryd.prog 66 ⟨[.string ⟨⟨[95]⟩⟩, .int .i64 x37]⟩ w27 fun (e38 : Ending) (w39 : World) =>
  ∃ (x40 : List UInt8), e38 = .returned (.string ⟨⟨x40⟩⟩) ∧ (Calls Tryd.prog 65 ⟨[.pointer w_20, .string ⟨⟨x40⟩⟩]⟩ w39 fun (e41 : Ending) (w42 : World) =>
  ∃ (x43 : Int) (x44 : Value), e41 = .returned (.tuple ⟨[.int .i64 x43, x44]⟩) ∧ (Kn w27 w42)))) (Kn w27 w27))))
set_option maxRecDepth 100000 in
theorem er_legibility_pattern_1 (base : Env) (t2_19 : List UInt8) (w_20 : Option Addr) (t6_21 : Fn) (t6_21a : Array Value) (t6_21b : Array Value) (t7_22 : Int) (t7_23 : List UInt8) (t7_24 : Int) (t7_25 : Option Addr) (t7_25n : Nat) (t7_25c : Nat) (t8_26 : Value) (l : Nat) (Kn Kr Kx : World → World → Prop) (w : World) : fragV Tryd.prog 23 anA_legibility_pattern_1 anB_legibility_pattern_1 (cdAt Tryd.f51 [1, 1, 0, 1, 2, 5]) (cdAt Tryd.f51 [1, 1, 0, 1, 2, 6]) l 0 Kn Kr Kx (updPs [7, 8] [.agg ⟨[.int .i64 t7_22, .string ⟨⟨t7_23⟩⟩, .int .i64 t7_24, .slice t7_25 t7_25n t7_25c]⟩, t8_26] (upd (upd (upd base 6 (.func t6_21 t6_21a t6_21b)) 3 (.pointer w_20)) 2 (.string ⟨⟨t2_19⟩⟩))) w = rf_legibility_pattern_1 t2_19 w_20 t6_21 t6_21a t6_21b t7_22 t7_23 t7_24 t7_25 t7_25n t7_25c t8_26 l Kn Kr Kx w := by kernel_rfl
theorem cd_legibility_pattern_1 : cdAt Tryd.f51 [1, 1, 0, 1, 2] = .rangeFunc (Operand.tmp 6) #[7, 8] (cdAt Tryd.f51 [1, 1, 0, 1, 2, 5]) (cdAt Tryd.f51 [1, 1, 0, 1, 2, 6]) := by kernel_rfl

def an_charset_Letters : Ann := .two (.leaf) (.two (.leaf) (.two (.two (.leaf) (.one (.loop 16777016 [(3, .one (.int .i64)), (8, .one (.int .i64))] (.two (.leaf) (.two (.two (.leaf) (.leaf)) (.two (.one (.two (.leaf) (.two (.leaf) (.two (.leaf) (.two (.leaf) (.leaf)))))) (.leaf))))))) (.two (.leaf) (.leaf))))
def sh_charset_Letters (s_1 : List UInt8) (R : Ending → World → Prop) (w : World) : Prop :=
  ∃ (I2 : Int → Int → World → Nat → Prop), (∃ m7 : Nat, I2 0 0 w m7) ∧ ∀ (n_3 : Int) (t8_4 : Int) (w5 : World) (m6 : Nat), I2 n_3 t8_4 w5 m6 → ∀ _ : Env, (br (decide ((t8_4 : Int) < ((List.length s_1 : Int)))) (sidx s_1 t8_4 fun b8 =>
  Calls Tryd.prog 41 ⟨[.int .u8 ((b8.toNat : Int))]⟩ w5 fun (e9 : Ending) (w10 : World) =>
  ∃ (x11 : Int), e9 = .returned (.int .i64 x11) ∧ (br (decide ((x11 : Int) = 1)) (∃ m12 : Nat, m12 < m6 ∧ I2 (IntKind.i64.wrap (n_3 + 1)) (IntKind.i64.wrap (t8_4 + 1)) w10 m12) (br (decide ((x11 : Int) = 3)) (∃ m13 : Nat, m13 < m6 ∧ I2 (IntKind.i64.wrap (n_3 + 1)) (IntKind.i64.wrap (t8_4 + 1)) w10 m13) (∃ m14 : Nat, m14 < m6 ∧ I2 n_3 (IntKind.i64.wrap (t8_4 + 1)) w10 m14)))) (R (.returned (.int .i64 n_3)) w5))
set_option maxRecDepth 100000 in
theorem e_charset_Letters (s_1 : List UInt8) (R : Ending → World → Prop) (w : World) : fnV Tryd.prog Tryd.f52 an_charset_Letters [.string ⟨⟨s_1⟩⟩] R w = sh_charset_Letters s_1 R w := by kernel_rfl
theorem c_charset_Letters {s_1 : List UInt8} {R : Ending → World → Prop} {w : World} (h : sh_charset_Letters s_1 R w) : Calls Tryd.prog F_charset_Letters ⟨[.string ⟨⟨s_1⟩⟩]⟩ w R := calls_of_fnV Tryd.func52 (by rw [e_charset_Letters]; exact h)

def an_layout_positions_1 : Ann := .two (.leaf) (.one (.loop 4064 [(5, .one (.int .i64))] (.two (.leaf) (.two (.two (.leaf) (.leaf)) (.two (.one (.leaf)) (.leaf))))))
def sh_layout_positions_1 (n_1 : Int) (t1_2 : Option Addr) (t2_3 : Option Addr) (R : Ending → World → Prop) (w : World) : Prop :=
  ∃ (I4 : Int → World → Nat → Prop), (∃ m8 : Nat, I4 0 w m8) ∧ ∀ (t5_5 : Int) (w6 : World) (m7 : Nat), I4 t5_5 w6 m7 → ∀ _ : Env, (br (decide ((t5_5 : Int) < n_1)) (dr t1_2 fun p9 =>
  ∃ (x10 : Option Addr) (x10n : Nat) (x10c : Nat), World.cell? w6 p9 = some (.slice x10 x10n x10c) ∧ (dr t2_3 fun p11 =>
  ∃ (x12 : List UInt8), World.cell? w6 (p11.add 0) = some (.string ⟨⟨x12⟩⟩) ∧ (∃ (x13 : Int), World.cell? w6 (p11.add 1) = some (.int .i64 x13) ∧ (al w6 23 [.string ⟨⟨x12⟩⟩, .int .i64 x13] fun p14 w15 =>
  app Tryd.prog [27, 27] 27 (.slice x10 x10n x10c) (.slice (some p14) 1 1) w15 fun a16 a16n a16c w17 =>
  dr t1_2 fun p19 =>
  stL w17 p19 0 [.slice a16 a16n a16c] fun w18 =>
  ∃ m20 : Nat, m20 < m7 ∧ I4 (IntKind.i64.wrap (t5_5 + 1)) w18 m20)))) (R (.returned (.tuple ⟨[]⟩)) w6))
set_option maxRecDepth 100000 in
theorem e_layout_positions_1 (n_1 : Int) (t1_2 : Option Addr) (t2_3 : Option Addr) (R : Ending → World → Prop) (w : World) : fnV Tryd.prog Tryd.f53 an_layout_positions_1 [.int .i64 n_1, .pointer t1_2, .pointer t2_3] R w = sh_layout_positions_1 n_1 t1_2 t2_3 R w := by kernel_rfl
theorem c_layout_positions_1 {n_1 : Int} {t1_2 : Option Addr} {t2_3 : Option Addr} {R : Ending → World → Prop} {w : World} (h : sh_layout_positions_1 n_1 t1_2 t2_3 R w) : Calls Tryd.prog F_layout_positions_1 ⟨[.int .i64 n_1, .pointer t1_2, .pointer t2_3]⟩ w R := calls_of_fnV Tryd.func53 (by rw [e_layout_positions_1]; exact h)

def an_layout_positions_2 : Ann := .two (.leaf) (.one (.loop 17592186043968 [(9, .one (.int .i64))] (.two (.leaf) (.two (.two (.leaf) (.leaf)) (.two (.one (.two (.leaf) (.two (.two (.leaf) (.one (.two (.leaf) (.two (.leaf) (.two (.leaf) (.two (.leaf) (.two (.leaf) (.two (.leaf) (.two (.leaf) (.two (.leaf) (.leaf))))))))))) (.leaf)))) (.leaf))))))
def sh_layout_positions_2 (l_1 : Option Addr) (l_1n : Nat) (l_1c : Nat) (t1_2 : Option Addr) (t2_3 : Option Addr) (t3_4 : Option Addr) (R : Ending → World → Prop) (w : World) : Prop :=
  ∃ (I5 : Int → World → Nat → Prop), (∃ m9 : Nat, I5 0 w m9) ∧ ∀ (t9_6 : Int) (w7 : World) (m8 : Nat), I5 t9_6 w7 m8 → ∀ _ : Env, (br (decide ((t9_6 : Int) < ((l_1n : Int)))) (idx l_1 l_1n t9_6 4 fun p10 =>
  ∃ (x11 : Int), World.cell? w7 (p10.add 0) = some (.int .i64 x11) ∧ (∃ (x12 : List UInt8), World.cell? w7 (p10.add 1) = some (.string ⟨⟨x12⟩⟩) ∧ (∃ (x13 : Int), World.cell? w7 (p10.add 2) = some (.int .i64 x13) ∧ (∃ (x14 : Option Addr) (x14n : Nat) (x14c : Nat), World.cell? w7 (p10.add 3) = some (.slice x14 x14n x14c) ∧ (al w7 45 [.int .i64 0, .string ⟨⟨[]⟩⟩, .int .i64 0, .slice none 0 0] fun p15 w16 =>
  stL w16 p15 0 [.int .i64 x11, .string ⟨⟨x12⟩⟩, .int .i64 x13, .slice x14 x14n x14c] fun w17 =>
  ∃ (x18 : Int), World.cell? w17 (p15.add 0) = some (.int .i64 x18) ∧ (br (decide ((x18 : Int) = 1)) (dr t1_2 fun p19 =>
  ∃ (x20 : Fn) (x20a : Array Value) (x20b : Array Value), World.cell? w17 p19 = some (.func x20 x20a x20b) ∧ (∃ (x21 : List UInt8), World.cell? w17 (p15.add 1) = some (.string ⟨⟨x21⟩⟩) ∧ (CallV Tryd.prog (.func x20 x20a x20b) [.int .i64 ((List.length x21 : Int))] w17 fun (e22 : Ending) (w23 : World) =>
  e22 = .returned (.tuple ⟨[]⟩) ∧ (dr t3_4 fun p24 =>
  ∃ (x25 : Fn) (x25a : Array Value) (x25b : Array Value), World.cell? w23 p24 = some (.func x25 x25a x25b) ∧ (∃ (x26 : Option Addr) (x26n : Nat) (x26c : Nat), World.cell? w23 (p15.add 3) = some (.slice x26 x26n x26c) ∧ (CallV Tryd.prog (.func x25 x25a x25b) [.slice x26 x26n x26c] w23 fun (e27 : Ending) (w28 : World) =>
  e27 = .returned (.tuple ⟨[]⟩) ∧ (∃ m29 : Nat, m29 < m8 ∧ I5 (IntKind.i64.wrap (t9_6 + 1)) w28 m29))))))) (br (decide ((x18 : Int) = 6)) (dr t1_2 fun p30 =>
  ∃ (x31 : Fn) (x31a : Array Value) (x31b : Array Value), World.cell? w17 p30 = some (.func x31 x31a x31b) ∧ (∃ (x32 : Int), World.cell? w17 (p15.add 2) = some (.int .i64 x32) ∧ (CallV Tryd.prog (.func x31 x31a x31b) [.int .i64 x32] w17 fun (e33 : Ending) (w34 : World) =>
  e33 = .returned (.tuple ⟨[]⟩) ∧ (dr t3_4 fun p35 =>
  ∃ (x36 : Fn) (x36a : Array Value) (x36b : Array Value), World.cell? w34 p35 = some (.func x36 x36a x36b) ∧ (∃ (x37 : Option Addr) (x37n : Nat) (x37c : Nat), World.cell? w34 (p15.add 3) = some (.slice x37 x37n x37c) ∧ (CallV Tryd.prog (.func x36 x36a x36b) [.slice x37 x37n x37c] w34 fun (e38 : Ending) (w39 : World) =>
  e38 = .returned (.tuple ⟨[]⟩) ∧ (∃ m40 : Nat, m40 < m8 ∧ I5 (IntKind.i64.wrap (t9_6 + 1)) w39 m40))))))) (br (decide ((x18 : Int) = 3)) (∃ (x41 : List UInt8), World.cell? w17 (p15.add 1) = some (.string ⟨⟨x41⟩⟩) ∧ (dr t2_3 fun p43 =>
  stL w17 p43 0 [.string ⟨⟨x41⟩⟩, .int .i64 0] fun w42 =>
  dr t3_4 fun p44 =>
  ∃ (x45 : Fn) (x45a : Array Value) (x45b : Array Value), World.cell? w42 p44 = some (.func x45 x45a x45b) ∧ (∃ (x46 : Option Addr) (x46n : Nat) (x46c : Nat), World.cell? w42 (p15.add 3) = some (.slice x46 x46n x46c) ∧ (CallV Tryd.prog (.func x45 x45a x45b) [.slice x46 x46n x46c] w42 fun (e47 : Ending) (w48 : World) =>
  e47 = .returned (.tuple ⟨[]⟩) ∧ (∃ m49 : Nat, m49 < m8 ∧ I5 (IntKind.i64.wrap (t9_6 + 1)) w48 m49))))) (br (decide ((x18 : Int) = 2)) (dr t2_3 fun p50 =>
  ∃ (x51 : Int), World.cell? w17 (p50.add 1) = some (.int .i64 x51) ∧ (dr t2_3 fun p52 =>
  stL w17 (p52.add 1) 0 [.int .i64 (IntKind.i64.wrap (x51 + 1))] fun w53 =>
  dr t3_4 fun p54 =>
  ∃ (x55 : Fn) (x55a : Array Value) (x55b : Array Value), World.cell? w53 p54 = some (.func x55 x55a x55b) ∧ (∃ (x56 : Option Addr) (x56n : Nat) (x56c : Nat), World.cell? w53 (p15.add 3) = some (.slice x56 x56n x56c) ∧ (CallV Tryd.prog (.func x55 x55a x55b) [.slice x56 x56n x56c] w53 fun (e57 : Ending) (w58 : World) =>
  e57 = .returned (.tuple ⟨[]⟩) ∧ (∃ m59 : Nat, m59 < m8 ∧ I5 (IntKind.i64.wrap (t9_6 + 1)) w58 m59))))) (dr t3_4 fun p60 =>
  ∃ (x61 : Fn) (x61a : Array Value) (x61b : Array Value), World.cell? w17 p60 = some (.func x61 x61a x61b) ∧ (∃ (x62 : Option Addr) (x62n : Nat) (x62c : Nat), World.cell? w17 (p15.add 3) = some (.slice x62 x62n x62c) ∧ (CallV Tryd.prog (.func x61 x61a x61b) [.slice x62 x62n x62c] w17 fun (e63 : Ending) (w64 : World) =>
  e63 = .returned (.tuple ⟨[]⟩) ∧ (∃ m65 : Nat, m65 < m8 ∧ I5 (IntKind.i64.wrap (t9_6 + 1)) w64 m65))))))))))))) (R (.returned (.tuple ⟨[]⟩)) w7))
set_option maxRecDepth 100000 in
theorem e_layout_positions_2 (l_1 : Option Addr) (l_1n : Nat) (l_1c : Nat) (t1_2 : Option Addr) (t2_3 : Option Addr) (t3_4 : Option Addr) (R : Ending → World → Prop) (w : World) : fnV Tryd.prog Tryd.f54 an_layout_positions_2 [.slice l_1 l_1n l_1c, .pointer t1_2, .pointer t2_3, .pointer t3_4] R w = sh_layout_positions_2 l_1 l_1n l_1c t1_2 t2_3 t3_4 R w := by kernel_rfl
theorem c_layout_positions_2 {l_1 : Option Addr} {l_1n : Nat} {l_1c : Nat} {t1_2 : Option Addr} {t2_3 : Option Addr} {t3_4 : Option Addr} {R : Ending → World → Prop} {w : World} (h : sh_layout_positions_2 l_1 l_1n l_1c t1_2 t2_3 t3_4 R w) : Calls Tryd.prog F_layout_positions_2 ⟨[.slice l_1 l_1n l_1c, .pointer t1_2, .pointer t2_3, .pointer t3_4]⟩ w R := calls_of_fnV Tryd.func54 (by rw [e_layout_positions_2]; exact h)

def an_ref12_check : Ann := .two (.leaf) (.two (.two (.leaf) (.two (.two (.leaf) (.leaf)) (.leaf))) (.two (.two (.leaf) (.two (.two (.leaf) (.leaf)) (.leaf))) (.two (.leaf) (.leaf))))
def sh_ref12_check (l_1 : Option Addr) (l_1n : Nat) (l_1c : Nat) (R : Ending → World → Prop) (w : World) : Prop :=
  Calls Tryd.prog 68 ⟨[.slice l_1 l_1n l_1c]⟩ w fun (e2 : Ending) (w3 : World) =>
  ∃ (x4 : Int), e2 = .returned (.int .i64 x4) ∧ (br (decide ((x4 : Int) ≠ 0)) (R (.returned (.int .i64 1)) w3) (Calls Tryd.prog 69 ⟨[.slice l_1 l_1n l_1c]⟩ w3 fun (e5 : Ending) (w6 : World) =>
  ∃ (x7 : Bool), e5 = .returned (.bool x7) ∧ (br (!x7) (R (.returned (.int .i64 13)) w6) (R (.returned (.int .i64 0)) w6))))
set_option maxRecDepth 100000 in
theorem e_ref12_check (l_1 : Option Addr) (l_1n : Nat) (l_1c : Nat) (R : Ending → World → Prop) (w : World) : fnV Tryd.prog Tryd.f55 an_ref12_check [.slice l_1 l_1n l_1c] R w = sh_ref12_check l_1 l_1n l_1c R w := by kernel_rfl
theorem c_ref12_check {l_1 : Option Addr} {l_1n : Nat} {l_1c : Nat} {R : Ending → World → Prop} {w : World} (h : sh_ref12_check l_1 l_1n l_1c R w) : Calls Tryd.prog F_ref12_check ⟨[.slice l_1 l_1n l_1c]⟩ w R := calls_of_fnV Tryd.func55 (by rw [e_ref12_check]; exact h)

def an_ref12_pattern : Ann := .two (.leaf) (.two (.leaf) (.two (.two (.leaf) (.one (.loop 70368744177656 [(3, .one (.str)), (4, .one (.int .i64))] (.two (.two (.leaf) (.two (.leaf) (.leaf))) (.two (.one (.cut 16775176 [(3, .one (.str))] (.two (.leaf) (.two (.leaf) (.leaf))) (.cut 274861129736 [(3, .one (.str))] (.two (.leaf) (.two (.leaf) (.leaf))) (.leaf)))) (.leaf)))))) (.two (.leaf) (.leaf))))
def sh_ref12_pattern (l_1 : Option Addr) (l_1n : Nat) (l_1c : Nat) (R : Ending → World → Prop) (w : World) : Prop :=
  ∃ (I2 : List UInt8 → Int → World → Nat → Prop), (∃ m7 : Nat, I2 ([]) 0 w m7) ∧ ∀ (out_3 : List UInt8) (i_4 : Int) (w5 : World) (m6 : Nat), I2 out_3 i_4 w5 m6 → ∀ _ : Env, (br (decide ((i_4 : Int) < ((l_1n : Int)))) (∀ (K8 : List UInt8 → World → Prop), (∀ (out_9 : List UInt8) (w10 : World), (∀ _ : Env, (∀ (K11 : List UInt8 → World → Prop), (∀ (out_12 : List UInt8) (w13 : World), (∀ _ : Env, (idx l_1 l_1n i_4 4 fun p14 =>
  ∃ (x15 : Option Addr) (x15n : Nat) (x15c : Nat), World.cell? w13 (p14.add 3) = some (.slice x15 x15n x15c) ∧ (Calls Tryd.prog 56 ⟨[.slice x15 x15n x15c]⟩ w13 fun (e16 : Ending) (w17 : World) =>
  ∃ (x18 : List UInt8), e16 = .returned (.string ⟨⟨x18⟩⟩) ∧ (sadd out_12 x18 fun s19 =>
  ∃ m20 : Nat, m20 < m6 ∧ I2 s19 (IntKind.i64.wrap (i_4 + 1)) w17 m20)))) → K11 out_12 w13) → (idx l_1 l_1n i_4 4 fun p21 =>
  ∃ (x22 : Int), World.cell? w10 (p21.add 0) = some (.int .i64 x22) ∧ (br (decide ((x22 : Int) = 6)) (idx l_1 l_1n i_4 4 fun p23 =>
  ∃ (x24 : Int), World.cell? w10 (p23.add 2) = some (.int .i64 x24) ∧ (Calls Tryd.prog 70 ⟨[.int .i64 x24]⟩ w10 fun (e25 : Ending) (w26 : World) =>
  ∃ (x27 : List UInt8), e25 = .returned (.string ⟨⟨x27⟩⟩) ∧ (sadd out_9 x27 fun s28 =>
  K11 s28 w26))) (K11 out_9 w10))))) → K8 out_9 w10) → (idx l_1 l_1n i_4 4 fun p29 =>
  ∃ (x30 : Int), World.cell? w5 (p29.add 0) = some (.int .i64 x30) ∧ (br (decide ((x30 : Int) = 1)) (idx l_1 l_1n i_4 4 fun p31 =>
  ∃ (x32 : List UInt8), World.cell? w5 (p31.add 1) = some (.string ⟨⟨x32⟩⟩) ∧ (sadd out_3 x32 fun s33 =>
  K8 s33 w5)) (K8 out_3 w5)))) (R (.returned (.string ⟨⟨out_3⟩⟩)) w5))
set_option maxRecDepth 100000 in
theorem e_ref12_pattern (l_1 : Option Addr) (l_1n : Nat) (l_1c : Nat) (R : Ending → World → Prop) (w : World) : fnV Tryd.prog Tryd.f56 an_ref12_pattern [.slice l_1 l_1n l_1c] R w = sh_ref12_pattern l_1 l_1n l_1c R w := by kernel_rfl
theorem c_ref12_pattern {l_1 : Option Addr} {l_1n : Nat} {l_1c : Nat} {R : Ending → World → Prop} {w : World} (h : sh_ref12_pattern l_1 l_1n l_1c R w) : Calls Tryd.prog F_ref12_pattern ⟨[.slice l_1 l_1n l_1c]⟩ w R := calls_of_fnV Tryd.func56 (by rw [e_ref12_pattern]; exact h)

def an_ref01_IsWord : Ann := .two (.leaf) (.cut 262116 [] (.two (.leaf) (.two (.two (.leaf) (.leaf)) (.leaf))) (.cut 133955596 [] (.two (.leaf) (.two (.leaf) (.two (.two (.leaf) (.leaf)) (.leaf)))) (.two (.two (.leaf) (.one (.loop 274743689236 [(4, .one (.int .i64))] (.two (.two (.leaf) (.two (.leaf) (.leaf))) (.two (.one (.two (.leaf) (.two (.two (.leaf) (.leaf)) (.leaf)))) (.leaf)))))) (.two (.leaf) (.leaf)))))
def sh_ref01_IsWord (s_1 : List UInt8) (R : Ending → World → Prop) (w : World) : Prop :=
  ∀ (K2 : World → Prop), (∀  (w3 : World), (∀ _ : Env, (∀ (K4 : World → Prop), (∀  (w5 : World), (∀ _ : Env, (∃ (I6 : Int → World → Nat → Prop), (∃ m10 : Nat, I6 0 w5 m10) ∧ ∀ (i_7 : Int) (w8 : World) (m9 : Nat), I6 i_7 w8 m9 → ∀ _ : Env, (br (decide ((i_7 : Int) < ((List.length s_1 : Int)))) (sidx s_1 i_7 fun b11 =>
  Calls Tryd.prog 20 ⟨[.int .u8 ((b11.toNat : Int))]⟩ w8 fun (e12 : Ending) (w13 : World) =>
  ∃ (x14 : Int), e12 = .returned (.int .i64 x14) ∧ (br (decide ((4 : Int) < x14)) (R (.returned (.bool false)) w13) (∃ m15 : Nat, m15 < m9 ∧ I6 (IntKind.i64.wrap (i_7 + 1)) w13 m15))) (R (.returned (.bool true)) w8)))) → K4 w5) → (sidx s_1 0 fun b16 =>
  Calls Tryd.prog 20 ⟨[.int .u8 ((b16.toNat : Int))]⟩ w3 fun (e17 : Ending) (w18 : World) =>
  ∃ (x19 : Int), e17 = .returned (.int .i64 x19) ∧ (br (decide ((x19 : Int) ≠ 1)) (br (decide ((x19 : Int) ≠ 3)) (R (.returned (.bool false)) w18) (K4 w18)) (K4 w18))))) → K2 w3) → (br (decide ((((List.length s_1 : Int)) : Int) < 1)) (R (.returned (.bool false)) w) (br (decide ((64 : Int) < ((List.length s_1 : Int)))) (R (.returned (.bool false)) w) (Calls Tryd.prog 71 ⟨[.string ⟨⟨s_1⟩⟩]⟩ w fun (e20 : Ending) (w21 : World) =>
  ∃ (x22 : Int), e20 = .returned (.int .i64 x22) ∧ (br (decide ((x22 : Int) ≠ 0)) (R (.returned (.bool false)) w21) (K2 w21)))))
set_option maxRecDepth 100000 in
theorem e_ref01_IsWord (s_1 : List UInt8) (R : Ending → World → Prop) (w : World) : fnV Tryd.prog Tryd.f57 an_ref01_IsWord [.string ⟨⟨s_1⟩⟩] R w = sh_ref01_IsWord s_1 R w := by kernel_rfl
theorem c_ref01_IsWord {s_1 : List UInt8} {R : Ending → World → Prop} {w : World} (h : sh_ref01_IsWord s_1 R w) : Calls Tryd.prog F_ref01_IsWord ⟨[.string ⟨⟨s_1⟩⟩]⟩ w R := calls_of_fnV Tryd.func57 (by rw [e_ref01_IsWord]; exact h)

def an_ref01_Letters : Ann := .two (.leaf) (.two (.leaf) (.two (.two (.leaf) (.one (.loop 16777208 [(3, .one (.int .i64)), (4, .one (.int .i64))] (.two (.two (.leaf) (.two (.leaf) (.leaf))) (.two (.one (.two (.leaf) (.two (.leaf) (.two (.leaf) (.leaf))))) (.leaf)))))) (.two (.leaf) (.leaf))))
def sh_ref01_Letters (s_1 : List UInt8) (R : Ending → World → Prop) (w : World) : Prop :=
  ∃ (I2 : Int → Int → World → Nat → Prop), (∃ m7 : Nat, I2 0 0 w m7) ∧ ∀ (n_3 : Int) (i_4 : Int) (w5 : World) (m6 : Nat), I2 n_3 i_4 w5 m6 → ∀ _ : Env, (br (decide ((i_4 : Int) < ((List.length s_1 : Int)))) (sidx s_1 i_4 fun b8 =>
  Calls Tryd.prog 20 ⟨[.int .u8 ((b8.toNat : Int))]⟩ w5 fun (e9 : Ending) (w10 : World) =>
  ∃ (x11 : Int), e9 = .returned (.int .i64 x11) ∧ (br (decide ((x11 : Int) = 1)) (∃ m12 : Nat, m12 < m6 ∧ I2 (IntKind.i64.wrap (n_3 + 1)) (IntKind.i64.wrap (i_4 + 1)) w10 m12) (br (decide ((x11 : Int) = 3)) (∃ m13 : Nat, m13 < m6 ∧ I2 (IntKind.i64.wrap (n_3 + 1)) (IntKind.i64.wrap (i_4 + 1)) w10 m13) (∃ m14 : Nat, m14 < m6 ∧ I2 n_3 (IntKind.i64.wrap (i_4 + 1)) w10 m14)))) (R (.returned (.int .i64 n_3)) w5))
set_option maxRecDepth 100000 in
theorem e_ref01_Letters (s_1 : List UInt8) (R : Ending → World → Prop) (w : World) : fnV Tryd.prog Tryd.f58 an_ref01_Letters [.string ⟨⟨s_1⟩⟩] R w = sh_ref01_Letters s_1 R w := by kernel_rfl
theorem c_ref01_Letters {s_1 : List UInt8} {R : Ending → World → Prop} {w : World} (h : sh_ref01_Letters s_1 R w) : Calls Tryd.prog F_ref01_Letters ⟨[.string ⟨⟨s_1⟩⟩]⟩ w R := calls_of_fnV Tryd.func58 (by rw [e_ref01_Letters]; exact h)

def an_slices_IndexFunc_of_api_Node_api_Node : Ann := .two (.leaf) (.two (.two (.leaf) (.one (.loop 524080 [(8, .one (.int .i64))] (.two (.leaf) (.two (.two (.leaf) (.leaf)) (.two (.one (.two (.leaf) (.two (.leaf) (.two (.two (.leaf) (.leaf)) (.leaf))))) (.leaf))))))) (.two (.leaf) (.leaf)))
def sh_slices_IndexFunc_of_api_Node_api_Node (s_1 : Option Addr) (s_1n : Nat) (s_1c : Nat) (f_2 : Fn) (f_2a : Array Value) (f_2b : Array Value) (R : Ending → World → Prop) (w : World) : Prop :=
  ∃ (I3 : Int → World → Nat → Prop), (∃ m7 : Nat, I3 0 w m7) ∧ ∀ (t8_4 : Int) (w5 : World) (m6 : Nat), I3 t8_4 w5 m6 → ∀ _ : Env, (br (decide ((t8_4 : Int) < ((s_1n : Int)))) (idx s_1 s_1n t8_4 4 fun p8 =>
  ∃ (x9 : Int), World.cell? w5 (p8.add 0) = some (.int .i64 x9) ∧ (∃ (x10 : List UInt8), World.cell? w5 (p8.add 1) = some (.string ⟨⟨x10⟩⟩) ∧ (∃ (x11 : Int), World.cell? w5 (p8.add 2) = some (.int .i64 x11) ∧ (∃ (x12 : Option Addr) (x12n : Nat) (x12c : Nat), World.cell? w5 (p8.add 3) = some (.slice x12 x12n x12c) ∧ (CallV Tryd.prog (.func f_2 f_2a f_2b) [.agg ⟨[.int .i64 x9, .string ⟨⟨x10⟩⟩, .int .i64 x11, .slice x12 x12n x12c]⟩] w5 fun (e13 : Ending) (w14 : World) =>
  ∃ (x15 : Bool), e13 = .returned (.bool x15) ∧ (br x15 (R (.returned (.int .i64 t8_4)) w14) (∃ m16 : Nat, m16 < m6 ∧ I3 (IntKind.i64.wrap (t8_4 + 1)) w14 m16))))))) (R (.returned (.int .i64 ((-1)))) w5))
set_option maxRecDepth 100000 in
theorem e_slices_IndexFunc_of_api_Node_api_Node (s_1 : Option Addr) (s_1n : Nat) (s_1c : Nat) (f_2 : Fn) (f_2a : Array Value) (f_2b : Array Value) (R : Ending → World → Prop) (w : World) : fnV Tryd.prog Tryd.f59 an_slices_IndexFunc_of_api_Node_api_Node [.slice s_1 s_1n s_1c, .func f_2 f_2a f_2b] R w = sh_slices_IndexFunc_of_api_Node_api_Node s_1 s_1n s_1c f_2 f_2a f_2b R w := by kernel_rfl
theorem c_slices_IndexFunc_of_api_Node_api_Node {s_1 : Option Addr} {s_1n : Nat} {s_1c : Nat} {f_2 : Fn} {f_2a : Array Value} {f_2b : Array Value} {R : Ending → World → Prop} {w : World} (h : sh_slices_IndexFunc_of_api_Node_api_Node s_1 s_1n s_1c f_2 f_2a f_2b R w) : Calls Tryd.prog F_slices_IndexFunc_of_api_Node_api_Node ⟨[.slice s_1 s_1n s_1c, .func f_2 f_2a f_2b]⟩ w R := calls_of_fnV Tryd.func59 (by rw [e_slices_IndexFunc_of_api_Node_api_Node]; exact h)

def an_layout_rows_1 : Ann := .two (.leaf) (.one (.loop 17179869176 [(3, .one (.int .i64))] (.two (.two (.leaf) (.two (.leaf) (.leaf))) (.one (.two (.leaf) (.cut 268433424 [(4, .one (.int .i64))] (.one (.loop 268433424 [(4, .one (.int .i64))] (.two (.two (.leaf) (.two (.leaf) (.leaf))) (.one (.leaf))))) (.two (.two (.leaf) (.two (.leaf) (.leaf))) (.leaf))))))))
def sh_layout_rows_1 (yield_1 : Fn) (yield_1a : Array Value) (yield_1b : Array Value) (t1_2 : Option Addr) (R : Ending → World → Prop) (w : World) : Prop :=
  ∃ (I3 : Int → World → Nat → Prop), (∃ m7 : Nat, I3 0 w m7) ∧ ∀ (from_4 : Int) (w5 : World) (m6 : Nat), I3 from_4 w5 m6 → ∀ _ : Env, (dr t1_2 fun p8 =>
  ∃ (x9 : Option Addr) (x9n : Nat) (x9c : Nat), World.cell? w5 p8 = some (.slice x9 x9n x9c) ∧ (br (decide ((from_4 : Int) < ((x9n : Int)))) (∀ (K10 : Int → World → Prop), (∀ (to_11 : Int) (w12 : World), (∀ _ : Env, (CallV Tryd.prog (.func yield_1 yield_1a yield_1b) [.int .i64 from_4, .int .i64 to_11] w12 fun (e13 : Ending) (w14 : World) =>
  ∃ (x15 : Bool), e13 = .returned (.bool x15) ∧ (br (!x15) (R (.returned (.tuple ⟨[]⟩)) w14) (∃ m16 : Nat, m16 < m6 ∧ I3 to_11 w14 m16)))) → K10 to_11 w12) → (∃ (I17 : Int → World → Nat → Prop), (∃ m21 : Nat, I17 (IntKind.i64.wrap (from_4 + 1)) w5 m21) ∧ ∀ (to_18 : Int) (w19 : World) (m20 : Nat), I17 to_18 w19 m20 → ∀ _ : Env, (drw w19 fun w22 =>
  dr t1_2 fun p23 =>
  ∃ (x24 : Option Addr) (x24n : Nat) (x24c : Nat), World.cell? w22 p23 = some (.slice x24 x24n x24c) ∧ (br (decide ((to_18 : Int) < ((x24n : Int)))) (dr t1_2 fun p25 =>
  ∃ (x26 : Option Addr) (x26n : Nat) (x26c : Nat), World.cell? w22 p25 = some (.slice x26 x26n x26c) ∧ (idx x26 x26n to_18 2 fun p27 =>
  ∃ (x28 : List UInt8), World.cell? w22 (p27.add 0) = some (.string ⟨⟨x28⟩⟩) ∧ (∃ (x29 : Int), World.cell? w22 (p27.add 1) = some (.int .i64 x29) ∧ (dr t1_2 fun p30 =>
  ∃ (x31 : Option Addr) (x31n : Nat) (x31c : Nat), World.cell? w22 p30 = some (.slice x31 x31n x31c) ∧ (idx x31 x31n from_4 2 fun p32 =>
  ∃ (x33 : List UInt8), World.cell? w22 (p32.add 0) = some (.string ⟨⟨x33⟩⟩) ∧ (∃ (x34 : Int), World.cell? w22 (p32.add 1) = some (.int .i64 x34) ∧ (br ((decide ((x28 : List UInt8) = x33) && (decide ((x29 : Int) = x34) && true))) (∃ m35 : Nat, m35 < m20 ∧ I17 (IntKind.i64.wrap (to_18 + 1)) w22 m35) (K10 to_18 w22)))))))) (K10 to_18 w22))))) (R (.returned (.tuple ⟨[]⟩)) w5)))
set_option maxRecDepth 100000 in
theorem e_layout_rows_1 (yield_1 : Fn) (yield_1a : Array Value) (yield_1b : Array Value) (t1_2 : Option Addr) (R : Ending → World → Prop) (w : World) : fnV Tryd.prog Tryd.f61 an_layout_rows_1 [.func yield_1 yield_1a yield_1b, .pointer t1_2] R w = sh_layout_rows_1 yield_1 yield_1a yield_1b t1_2 R w := by kernel_rfl
theorem c_layout_rows_1 {yield_1 : Fn} {yield_1a : Array Value} {yield_1b : Array Value} {t1_2 : Option Addr} {R : Ending → World → Prop} {w : World} (h : sh_layout_rows_1 yield_1 yield_1a yield_1b t1_2 R w) : Calls Tryd.prog F_layout_rows_1 ⟨[.func yield_1 yield_1a yield_1b, .pointer t1_2]⟩ w R := calls_of_fnV Tryd.func61 (by rw [e_layout_rows_1]; exact h)

def an_transcript_Check : Ann := .two (.leaf) (.two (.leaf) (.two (.leaf) (.two (.two (.leaf) (.one (.rf [0, 2, 4, 10] 0))) (.two (.two (.leaf) (.one (.rf [0, 2, 28] 0))) (.two (.two (.leaf) (.two (.two (.leaf) (.leaf)) (.leaf))) (.two (.leaf) (.leaf)))))))
def sh_transcript_Check (l_1 : Option Addr) (l_1n : Nat) (l_1c : Nat) (R : Ending → World → Prop) (w : World) : Prop :=
  al w 28 [.int .i64 0] fun p2 w3 =>
  al w3 3 [.int .i64 0] fun p4 w5 =>
  stL w5 p4 0 [.int .i64 4096] fun w6 =>
  al w6 26 [.nilFunc] fun p7 w8 =>
  stL w8 p7 0 [.func (.func 73) ⟨[]⟩ ⟨[.pointer (some p4)]⟩] fun w9 =>
  Calls Tryd.prog 74 ⟨[.slice l_1 l_1n l_1c]⟩ w9 fun (e10 : Ending) (w11 : World) =>
  ∃ (x12 : Fn) (x12a : Array Value) (x12b : Array Value), e10 = .returned (.func x12 x12a x12b) ∧ (∀ base13 : Env, RFw Tryd.prog none 39 (cdAt Tryd.f63 [1, 1, 1, 0, 1, 2]) (upd (upd (upd (upd base13 10 (.func x12 x12a x12b)) 4 (.pointer (some p7))) 2 (.pointer (some p2))) 0 (.slice l_1 l_1n l_1c)) [] w11 0 (fun ds14 w15 =>
  Calls Tryd.prog 74 ⟨[.slice l_1 l_1n l_1c]⟩ w15 fun (e33 : Ending) (w34 : World) =>
  ∃ (x35 : Fn) (x35a : Array Value) (x35b : Array Value), e33 = .returned (.func x35 x35a x35b) ∧ (∀ base36 : Env, RFw Tryd.prog none 39 (cdAt Tryd.f63 [1, 1, 1, 1, 0, 1, 2]) (upd (upd (upd base36 28 (.func x35 x35a x35b)) 2 (.pointer (some p2))) 0 (.slice l_1 l_1n l_1c)) ds14 w34 0 (fun ds37 w38 =>
  Calls Tryd.prog 76 ⟨[.slice l_1 l_1n l_1c]⟩ w38 fun (e39 : Ending) (w40 : World) =>
  ∃ (x41 : List UInt8), e39 = .returned (.string ⟨⟨x41⟩⟩) ∧ (br (decide ((65536 : Int) < ((List.length x41 : Int)))) (stL w40 p2 0 [.int .i64 4] fun w42 =>
  retD ds37 w42 fun w43 =>
  ∃ (x44 : Int), World.cell? w43 p2 = some (.int .i64 x44) ∧ (R (.returned (.int .i64 x44)) w43)) (stL w40 p2 0 [.int .i64 0] fun w45 =>
  retD ds37 w45 fun w46 =>
  ∃ (x47 : Int), World.cell? w46 p2 = some (.int .i64 x47) ∧ (R (.returned (.int .i64 x47)) w46)))) (fun ds37 w38 =>
  retD ds37 w38 fun w48 =>
  ∃ (x49 : Int), World.cell? w48 p2 = some (.int .i64 x49) ∧ (R (.returned (.int .i64 x49)) w48)) (fun ds37 w38 =>
  False))) (fun ds14 w15 =>
  retD ds14 w15 fun w50 =>
  ∃ (x51 : Int), World.cell? w50 p2 = some (.int .i64 x51) ∧ (R (.returned (.int .i64 x51)) w50)) (fun ds14 w15 =>
  Calls Tryd.prog 74 ⟨[.slice l_1 l_1n l_1c]⟩ w15 fun (e16 : Ending) (w17 : World) =>
  ∃ (x18 : Fn) (x18a : Array Value) (x18b : Array Value), e16 = .returned (.func x18 x18a x18b) ∧ (∀ base19 : Env, RFw Tryd.prog none 39 (cdAt Tryd.f63 [1, 1, 1, 1, 0, 1, 2]) (upd (upd (upd base19 28 (.func x18 x18a x18b)) 2 (.pointer (some p2))) 0 (.slice l_1 l_1n l_1c)) ds14 w17 0 (fun ds20 w21 =>
  Calls Tryd.prog 76 ⟨[.slice l_1 l_1n l_1c]⟩ w21 fun (e22 : Ending) (w23 : World) =>
  ∃ (x24 : List UInt8), e22 = .returned (.string ⟨⟨x24⟩⟩) ∧ (br (decide ((65536 : Int) < ((List.length x24 : Int)))) (stL w23 p2 0 [.int .i64 4] fun w25 =>
  retD ds20 w25 fun w26 =>
  ∃ (x27 : Int), World.cell? w26 p2 = some (.int .i64 x27) ∧ (R (.returned (.int .i64 x27)) w26)) (stL w23 p2 0 [.int .i64 0] fun w28 =>
  retD ds20 w28 fun w29 =>
  ∃ (x30 : Int), World.cell? w29 p2 = some (.int .i64 x30) ∧ (R (.returned (.int .i64 x30)) w29)))) (fun ds20 w21 =>
  retD ds20 w21 fun w31 =>
  ∃ (x32 : Int), World.cell? w31 p2 = some (.int .i64 x32) ∧ (R (.returned (.int .i64 x32)) w31)) (fun ds20 w21 =>
  False))))
set_option maxRecDepth 100000 in
theorem e_transcript_Check (l_1 : Option Addr) (l_1n : Nat) (l_1c : Nat) (R : Ending → World → Prop) (w : World) : fnV Tryd.prog Tryd.f63 an_transcript_Check [.slice l_1 l_1n l_1c] R w = sh_transcript_Check l_1 l_1n l_1c R w := by kernel_rfl
theorem c_transcript_Check {l_1 : Option Addr} {l_1n : Nat} {l_1c : Nat} {R : Ending → World → Prop} {w : World} (h : sh_transcript_Check l_1 l_1n l_1c R w) : Calls Tryd.prog F_transcript_Check ⟨[.slice l_1 l_1n l_1c]⟩ w R := calls_of_fnV Tryd.func63 (by rw [e_transcript_Check]; exact h)
def anA_transcript_Check_1 : Ann := .leaf
def anB_transcript_Check_1 : Ann := .one (.two (.leaf) (.two (.two (.leaf) (.leaf)) (.leaf)))
def rf_transcript_Check_1 (l_52 : Option Addr) (l_52n : Nat) (l_52c : Nat) (t2_53 : Option Addr) (spend_54 : Option Addr) (t10_55 : Fn) (t10_55a : Array Value) (t10_55b : Array Value) (t11_56 : Int) (t11_57 : List UInt8) (t11_58 : Int) (t11_59 : Option Addr) (t11_59n : Nat) (t11_59c : Nat) (t11_60 : Int) (t11_61 : Bool) (l : Nat) (Kn Kr Kx : World → World → Prop) (w : World) : Prop :=
  al w 112 [.int .i64 0, .string ⟨⟨[]⟩⟩, .int .i64 0, .slice none 0 0, .int .i64 0, .bool false] fun p63 w64 =>
  stL w64 p63 0 [.int .i64 t11_56, .string ⟨⟨t11_57⟩⟩, .int .i64 t11_58, .slice t11_59 t11_59n t11_59c, .int .i64 t11_60, .bool t11_61] fun w65 =>
  Ext w w65 ∧ ∀ w62 : World, Upd l w65 w62 → (dr spend_54 fun p66 =>
  ∃ (x67 : Fn) (x67a : Array Value) (x67b : Array Value), World.cell? w62 p66 = some (.func x67 x67a x67b) ∧ (CallV Tryd.prog (.func x67 x67a x67b) [] w62 fun (e68 : Ending) (w69 : World) =>
  ∃ (x70 : Bool), e68 = .returned (.bool x70) ∧ (br (!x70) (dr t2_53 fun p72 =>
  stL w69 p72 0 [.int .i64 4] fun w71 =>
  Kr w62 w71) (∃ (x73 : Int), World.cell? w69 (p63.add 4) = some (.int .i64 x73) ∧ (br (decide ((16 : Int) ≤ x73)) (∃ (x74 : Option Addr) (x74n : Nat) (x74c : Nat), World.cell? w69 ((p63.add 0).add 3) = some (.slice x74 x74n x74c) ∧ (br (decide ((0 : Int) < ((x74n : Int)))) (dr t2_53 fun p76 =>
  stL w69 p76 0 [.int .i64 4] fun w75 =>
  Kr w62 w75) (Kn w62 w69))) (Kn w62 w69))))))
set_option maxRecDepth 100000 in
theorem er_transcript_Check_1 (base : Env) (l_52 : Option Addr) (l_52n : Nat) (l_52c : Nat) (t2_53 : Option Addr) (spend_54 : Option Addr) (t10_55 : Fn) (t10_55a : Array Value) (t10_55b : Array Value) (t11_56 : Int) (t11_57 : List UInt8) (t11_58 : Int) (t11_59 : Option Addr) (t11_59n : Nat) (t11_59c : Nat) (t11_60 : Int) (t11_61 : Bool) (l : Nat) (Kn Kr Kx : World → World → Prop) (w : World) : fragV Tryd.prog 39 anA_transcript_Check_1 anB_transcript_Check_1 (cdAt Tryd.f63 [1, 1, 1, 0, 1, 2, 5]) (cdAt Tryd.f63 [1, 1, 1, 0, 1, 2, 6]) l 0 Kn Kr Kx (updPs [11] [.agg ⟨[.int .i64 t11_56, .string ⟨⟨t11_57⟩⟩, .int .i64 t11_58, .slice t11_59 t11_59n t11_59c, .int .i64 t11_60, .bool t11_61]⟩] (upd (upd (upd (upd base 10 (.func t10_55 t10_55a t10_55b)) 4 (.pointer spend_54)) 2 (.pointer t2_53)) 0 (.slice l_52 l_52n l_52c))) w = rf_transcript_Check_1 l_52 l_52n l_52c t2_53 spend_54 t10_55 t10_55a t10_55b t11_56 t11_57 t11_58 t11_59 t11_59n t11_59c t11_60 t11_61 l Kn Kr Kx w := by kernel_rfl
theorem cd_transcript_Check_1 : cdAt Tryd.f63 [1, 1, 1, 0, 1, 2] = .rangeFunc (Operand.tmp 10) #[11] (cdAt Tryd.f63 [1, 1, 1, 0, 1, 2, 5]) (cdAt Tryd.f63 [1, 1, 1, 0, 1, 2, 6]) := by kernel_rfl
def anA_transcript_Check_2 : Ann := .leaf
def anB_transcript_Check_2 : Ann := .one (.two (.leaf) (.two (.leaf) (.two (.two (.leaf) (.leaf)) (.leaf))))
def rf_transcript_Check_2 (l_77 : Option Addr) (l_77n : Nat) (l_77c : Nat) (t2_78 : Option Addr) (t28_79 : Fn) (t28_79a : Array Value) (t28_79b : Array Value) (t29_80 : Int) (t29_81 : List UInt8) (t29_82 : Int) (t29_83 : Option Addr) (t29_83n : Nat) (t29_83c : Nat) (t29_84 : Int) (t29_85 : Bool) (l : Nat) (Kn Kr Kx : World → World → Prop) (w : World) : Prop :=
  al w 112 [.int .i64 0, .string ⟨⟨[]⟩⟩, .int .i64 0, .slice none 0 0, .int .i64 0, .bool false] fun p87 w88 =>
  stL w88 p87 0 [.int .i64 t29_80, .string ⟨⟨t29_81⟩⟩, .int .i64 t29_82, .slice t29_83 t29_83n t29_83c, .int .i64 t29_84, .bool t29_85] fun w89 =>
  Ext w w89 ∧ ∀ w86 : World, Upd l w89 w86 → (∃ (x90 : Int), World.cell? w86 (p87.add 0) = some (.int .i64 x90) ∧ (∃ (x91 : List UInt8), World.cell? w86 (p87.add 1) = some (.string ⟨⟨x91⟩⟩) ∧ (∃ (x92 : Int), World.cell? w86 (p87.add 2) = some (.int .i64 x92) ∧ (∃ (x93 : Option Addr) (x93n : Nat) (x93c : Nat), World.cell? w86 (p87.add 3) = some (.slice x93 x93n x93c) ∧ (∃ (x94 : Int), World.cell? w86 (p87.add 4) = some (.int .i64 x94) ∧ (∃ (x95 : Bool), World.cell? w86 (p87.add 5) = some (.bool x95) ∧ (Calls Tryd.prog 75 ⟨[.agg ⟨[.int .i64 x90, .string ⟨⟨x91⟩⟩, .int .i64 x92, .slice x93 x93n x93c, .int .i64 x94, .bool x95]⟩]⟩ w86 fun (e96 : Ending) (w97 : World) =>
  ∃ (x98 : Int), e96 = .returned (.int .i64 x98) ∧ (br (decide ((x98 : Int) ≠ 0)) (dr t2_78 fun p100 =>
  stL w97 p100 0 [.int .i64 x98] fun w99 =>
  Kr w86 w99) (Kn w86 w97)))))))))
set_option maxRecDepth 100000 in
theorem er_transcript_Check_2 (base : Env) (l_77 : Option Addr) (l_77n : Nat) (l_77c : Nat) (t2_78 : Option Addr) (t28_79 : Fn) (t28_79a : Array Value) (t28_79b : Array Value) (t29_80 : Int) (t29_81 : List UInt8) (t29_82 : Int) (t29_83 : Option Addr) (t29_83n : Nat) (t29_83c : Nat) (t29_84 : Int) (t29_85 : Bool) (l : Nat) (Kn Kr Kx : World → World → Prop) (w : World) : fragV Tryd.prog 39 anA_transcript_Check_2 anB_transcript_Check_2 (cdAt Tryd.f63 [1, 1, 1, 1, 0, 1, 2, 5]) (cdAt Tryd.f63 [1, 1, 1, 1, 0, 1, 2, 6]) l 0 Kn Kr Kx (updPs [29] [.agg ⟨[.int .i64 t29_80, .string ⟨⟨t29_81⟩⟩, .int .i64 t29_82, .slice t29_83 t29_83n t29_83c, .int .i64 t29_84, .bool t29_85]⟩] (upd (upd (upd base 28 (.func t28_79 t28_79a t28_79b)) 2 (.pointer t2_78)) 0 (.slice l_77 l_77n l_77c))) w = rf_transcript_Check_2 l_77 l_77n l_77c t2_78 t28_79 t28_79a t28_79b t29_80 t29_81 t29_82 t29_83 t29_83n t29_83c t29_84 t29_85 l Kn Kr Kx w := by kernel_rfl
theorem cd_transcript_Check_2 : cdAt Tryd.f63 [1, 1, 1, 1, 0, 1, 2] = .rangeFunc (Operand.tmp 28) #[29] (cdAt Tryd.f63 [1, 1, 1, 1, 0, 1, 2, 5]) (cdAt Tryd.f63 [1, 1, 1, 1, 0, 1, 2, 6]) := by kernel_rfl

def an_legibility_all : Ann := .two (.leaf) (.two (.leaf) (.leaf))
def sh_legibility_all (l_1 : Option Addr) (l_1n : Nat) (l_1c : Nat) (R : Ending → World → Prop) (w : World) : Prop :=
  al w 24 [.slice l_1 l_1n l_1c] fun p2 w3 =>
  R (.returned (.func (.func 77) ⟨[]⟩ ⟨[.pointer (some p2)]⟩)) w3
set_option maxRecDepth 100000 in
theorem e_legibility_all (l_1 : Option Addr) (l_1n : Nat) (l_1c : Nat) (R : Ending → World → Prop) (w : World) : fnV Tryd.prog Tryd.f64 an_legibility_all [.slice l_1 l_1n l_1c] R w = sh_legibility_all l_1 l_1n l_1c R w := by kernel_rfl
theorem c_legibility_all {l_1 : Option Addr} {l_1n : Nat} {l_1c : Nat} {R : Ending → World → Prop} {w : World} (h : sh_legibility_all l_1 l_1n l_1c R w) : Calls Tryd.prog F_legibility_all ⟨[.slice l_1 l_1n l_1c]⟩ w R := calls_of_fnV Tryd.func64 (by rw [e_legibility_all]; exact h)

def an_strings_Builder_WriteString : Ann := .two (.leaf) (.two (.leaf) (.two (.leaf) (.two (.leaf) (.leaf))))
def sh_strings_Builder_WriteString (b_1 : Option Addr) (s_2 : List UInt8) (R : Ending → World → Prop) (w : World) : Prop :=
  Calls Tryd.prog 79 ⟨[.pointer b_1]⟩ w fun (e3 : Ending) (w4 : World) =>
  e3 = .returned (.tuple ⟨[]⟩) ∧ (dr b_1 fun p5 =>
  ∃ (x6 : Option Addr) (x6n : Nat) (x6c : Nat), World.cell? w4 (p5.add 1) = some (.slice x6 x6n x6c) ∧ (app Tryd.prog [97, 9] 97 (.slice x6 x6n x6c) (.string ⟨⟨s_2⟩⟩) w4 fun a7 a7n a7c w8 =>
  dr b_1 fun p9 =>
  stL w8 (p9.add 1) 0 [.slice a7 a7n a7c] fun w10 =>
  R (.returned (.tuple ⟨[.int .i64 ((List.length s_2 : Int)), .nilIface]⟩)) w10))
set_option maxRecDepth 100000 in
theorem e_strings_Builder_WriteString (b_1 : Option Addr) (s_2 : List UInt8) (R : Ending → World → Prop) (w : World) : fnV Tryd.prog Tryd.f65 an_strings_Builder_WriteString [.pointer b_1, .string ⟨⟨s_2⟩⟩] R w = sh_strings_Builder_WriteString b_1 s_2 R w := by kernel_rfl
theorem c_strings_Builder_WriteString {b_1 : Option Addr} {s_2 : List UInt8} {R : Ending → World → Prop} {w : World} (h : sh_strings_Builder_WriteString b_1 s_2 R w) : Calls Tryd.prog F_strings_Builder_WriteString ⟨[.pointer b_1, .string ⟨⟨s_2⟩⟩]⟩ w R := calls_of_fnV Tryd.func65 (by rw [e_strings_Builder_WriteString]; exact h)

def an_ref10_Check : Ann := .two (.leaf) (.two (.two (.leaf) (.two (.leaf) (.two (.two (.leaf) (.leaf)) (.leaf)))) (.two (.two (.leaf) (.two (.leaf) (.two (.two (.leaf) (.leaf)) (.leaf)))) (.two (.two (.leaf) (.two (.two (.leaf) (.leaf)) (.leaf))) (.two (.leaf) (.leaf)))))
def sh_ref10_Check (l_1 : Option Addr) (l_1n : Nat) (l_1c : Nat) (R : Ending → World → Prop) (w : World) : Prop :=
  Calls Tryd.prog 30 ⟨[.slice l_1 l_1n l_1c, .int .i64 16, .int .i64 4096]⟩ w fun (e2 : Ending) (w3 : World) =>
  ∃ (x4 : Int) (x5 : Int) (x6 : Bool), e2 = .returned (.tuple ⟨[.int .i64 x4, .int .i64 x5, .bool x6]⟩) ∧ (br (!x6) (R (.returned (.int .i64 4)) w3) (Calls Tryd.prog 84 ⟨[.slice l_1 l_1n l_1c, .bool false]⟩ w3 fun (e7 : Ending) (w8 : World) =>
  ∃ (x9 : Int), e7 = .returned (.int .i64 x9) ∧ (br (decide ((x9 : Int) ≠ 0)) (R (.returned (.int .i64 x9)) w8) (Calls Tryd.prog 85 ⟨[.slice l_1 l_1n l_1c]⟩ w8 fun (e10 : Ending) (w11 : World) =>
  ∃ (x12 : List UInt8), e10 = .returned (.string ⟨⟨x12⟩⟩) ∧ (br (decide ((65536 : Int) < ((List.length x12 : Int)))) (R (.returned (.int .i64 4)) w11) (R (.returned (.int .i64 0)) w11))))))
set_option maxRecDepth 100000 in
theorem e_ref10_Check (l_1 : Option Addr) (l_1n : Nat) (l_1c : Nat) (R : Ending → World → Prop) (w : World) : fnV Tryd.prog Tryd.f68 an_ref10_Check [.slice l_1 l_1n l_1c] R w = sh_ref10_Check l_1 l_1n l_1c R w := by kernel_rfl
theorem c_ref10_Check {l_1 : Option Addr} {l_1n : Nat} {l_1c : Nat} {R : Ending → World → Prop} {w : World} (h : sh_ref10_Check l_1 l_1n l_1c R w) : Calls Tryd.prog F_ref10_Check ⟨[.slice l_1 l_1n l_1c]⟩ w R := calls_of_fnV Tryd.func68 (by rw [e_ref10_Check]; exact h)

def an_ref12_clean : Ann := .two (.leaf) (.two (.two (.leaf) (.one (.loop 8589934588 [(3, .one (.int .i64))] (.two (.two (.leaf) (.two (.leaf) (.leaf))) (.two (.one (.two (.leaf) (.two (.two (.leaf) (.leaf)) (.leaf)))) (.leaf)))))) (.two (.leaf) (.leaf)))
def sh_ref12_clean (l_1 : Option Addr) (l_1n : Nat) (l_1c : Nat) (R : Ending → World → Prop) (w : World) : Prop :=
  ∃ (I2 : Int → World → Nat → Prop), (∃ m6 : Nat, I2 0 w m6) ∧ ∀ (i_3 : Int) (w4 : World) (m5 : Nat), I2 i_3 w4 m5 → ∀ _ : Env, (br (decide ((i_3 : Int) < ((l_1n : Int)))) (idx l_1 l_1n i_3 4 fun p7 =>
  ∃ (x8 : Int), World.cell? w4 (p7.add 0) = some (.int .i64 x8) ∧ (br (decide ((x8 : Int) = 8)) (R (.returned (.bool false)) w4) (idx l_1 l_1n i_3 4 fun p9 =>
  ∃ (x10 : Int), World.cell? w4 (p9.add 0) = some (.int .i64 x10) ∧ (br (decide ((x10 : Int) = 9)) (R (.returned (.bool false)) w4) (idx l_1 l_1n i_3 4 fun p11 =>
  ∃ (x12 : Option Addr) (x12n : Nat) (x12c : Nat), World.cell? w4 (p11.add 3) = some (.slice x12 x12n x12c) ∧ (Calls Tryd.prog 69 ⟨[.slice x12 x12n x12c]⟩ w4 fun (e13 : Ending) (w14 : World) =>
  ∃ (x15 : Bool), e13 = .returned (.bool x15) ∧ (br (!x15) (R (.returned (.bool false)) w14) (∃ m16 : Nat, m16 < m5 ∧ I2 (IntKind.i64.wrap (i_3 + 1)) w14 m16)))))))) (R (.returned (.bool true)) w4))
set_option maxRecDepth 100000 in
theorem e_ref12_clean (l_1 : Option Addr) (l_1n : Nat) (l_1c : Nat) (R : Ending → World → Prop) (w : World) : fnV Tryd.prog Tryd.f69 an_ref12_clean [.slice l_1 l_1n l_1c] R w = sh_ref12_clean l_1 l_1n l_1c R w := by kernel_rfl
theorem c_ref12_clean {l_1 : Option Addr} {l_1n : Nat} {l_1c : Nat} {R : Ending → World → Prop} {w : World} (h : sh_ref12_clean l_1 l_1n l_1c R w) : Calls Tryd.prog F_ref12_clean ⟨[.slice l_1 l_1n l_1c]⟩ w R := calls_of_fnV Tryd.func69 (by rw [e_ref12_clean]; exact h)

def an_ref12_lost : Ann := .two (.leaf) (.two (.leaf) (.two (.two (.leaf) (.one (.loop 4088 [(3, .one (.str)), (4, .one (.int .i64))] (.two (.two (.leaf) (.two (.leaf) (.leaf))) (.two (.one (.leaf)) (.leaf)))))) (.two (.leaf) (.leaf))))
def sh_ref12_lost (n_1 : Int) (R : Ending → World → Prop) (w : World) : Prop :=
  ∃ (I2 : List UInt8 → Int → World → Nat → Prop), (∃ m7 : Nat, I2 ([]) 0 w m7) ∧ ∀ (out_3 : List UInt8) (i_4 : Int) (w5 : World) (m6 : Nat), I2 out_3 i_4 w5 m6 → ∀ _ : Env, (br (decide ((i_4 : Int) < n_1)) (sadd out_3 ([95]) fun s8 =>
  ∃ m9 : Nat, m9 < m6 ∧ I2 s8 (IntKind.i64.wrap (i_4 + 1)) w5 m9) (R (.returned (.string ⟨⟨out_3⟩⟩)) w5))
set_option maxRecDepth 100000 in
theorem e_ref12_lost (n_1 : Int) (R : Ending → World → Prop) (w : World) : fnV Tryd.prog Tryd.f70 an_ref12_lost [.int .i64 n_1] R w = sh_ref12_lost n_1 R w := by kernel_rfl
theorem c_ref12_lost {n_1 : Int} {R : Ending → World → Prop} {w : World} (h : sh_ref12_lost n_1 R w) : Calls Tryd.prog F_ref12_lost ⟨[.int .i64 n_1]⟩ w R := calls_of_fnV Tryd.func70 (by rw [e_ref12_lost]; exact h)

def an_ref01_Check : Ann := .two (.leaf) (.two (.two (.leaf) (.two (.two (.leaf) (.leaf)) (.leaf))) (.two (.leaf) (.two (.two (.leaf) (.one (.loop 17179867188 [(4, .one (.int .i64))] (.two (.two (.leaf) (.two (.leaf) (.leaf))) (.two (.one (.two (.leaf) (.two (.leaf) (.two (.two (.leaf) (.leaf)) (.leaf))))) (.leaf)))))) (.two (.leaf) (.leaf)))))
def sh_ref01_Check (s_1 : List UInt8) (R : Ending → World → Prop) (w : World) : Prop :=
  br (decide ((65536 : Int) < ((List.length s_1 : Int)))) (R (.returned (.int .i64 4)) w) (Calls Tryd.prog 86 ⟨[.string ⟨⟨s_1⟩⟩]⟩ w fun (e2 : Ending) (w3 : World) =>
  ∃ (x4 : Option Addr) (x4n : Nat) (x4c : Nat), e2 = .returned (.slice x4 x4n x4c) ∧ (∃ (I5 : Int → World → Nat → Prop), (∃ m9 : Nat, I5 0 w3 m9) ∧ ∀ (i_6 : Int) (w7 : World) (m8 : Nat), I5 i_6 w7 m8 → ∀ _ : Env, (br (decide ((i_6 : Int) < ((List.length s_1 : Int)))) (sidx s_1 i_6 fun b10 =>
  Calls Tryd.prog 20 ⟨[.int .u8 ((b10.toNat : Int))]⟩ w7 fun (e11 : Ending) (w12 : World) =>
  ∃ (x13 : Int), e11 = .returned (.int .i64 x13) ∧ (br (decide ((x13 : Int) = 0)) (R (.returned (.int .i64 11)) w12) (br (decide ((x13 : Int) = 2)) (idx x4 x4n i_6 1 fun p14 =>
  ∃ (x15 : Bool), World.cell? w12 p14 = some (.bool x15) ∧ (br (!x15) (R (.returned (.int .i64 11)) w12) (∃ m16 : Nat, m16 < m8 ∧ I5 (IntKind.i64.wrap (i_6 + 1)) w12 m16))) (∃ m17 : Nat, m17 < m8 ∧ I5 (IntKind.i64.wrap (i_6 + 1)) w12 m17)))) (R (.returned (.int .i64 0)) w7))))
set_option maxRecDepth 100000 in
theorem e_ref01_Check (s_1 : List UInt8) (R : Ending → World → Prop) (w : World) : fnV Tryd.prog Tryd.f71 an_ref01_Check [.string ⟨⟨s_1⟩⟩] R w = sh_ref01_Check s_1 R w := by kernel_rfl
theorem c_ref01_Check {s_1 : List UInt8} {R : Ending → World → Prop} {w : World} (h : sh_ref01_Check s_1 R w) : Calls Tryd.prog F_ref01_Check ⟨[.string ⟨⟨s_1⟩⟩]⟩ w R := calls_of_fnV Tryd.func71 (by rw [e_ref01_Check]; exact h)

def an_transcript_Check_1 : Ann := .two (.leaf) (.two (.leaf) (.two (.leaf) (.leaf)))
def sh_transcript_Check_1 (t0_1 : Option Addr) (R : Ending → World → Prop) (w : World) : Prop :=
  dr t0_1 fun p2 =>
  ∃ (x3 : Int), World.cell? w p2 = some (.int .i64 x3) ∧ (dr t0_1 fun p5 =>
  stL w p5 0 [.int .i64 (IntKind.i64.wrap (x3 - 1))] fun w4 =>
  dr t0_1 fun p6 =>
  ∃ (x7 : Int), World.cell? w4 p6 = some (.int .i64 x7) ∧ (R (.returned (.bool (decide ((0 : Int) ≤ x7)))) w4))
set_option maxRecDepth 100000 in
theorem e_transcript_Check_1 (t0_1 : Option Addr) (R : Ending → World → Prop) (w : World) : fnV Tryd.prog Tryd.f73 an_transcript_Check_1 [.pointer t0_1] R w = sh_transcript_Check_1 t0_1 R w := by kernel_rfl
theorem c_transcript_Check_1 {t0_1 : Option Addr} {R : Ending → World → Prop} {w : World} (h : sh_transcript_Check_1 t0_1 R w) : Calls Tryd.prog F_transcript_Check_1 ⟨[.pointer t0_1]⟩ w R := calls_of_fnV Tryd.func73 (by rw [e_transcript_Check_1]; exact h)

def an_transcript_places : Ann := .two (.leaf) (.two (.leaf) (.leaf))
def sh_transcript_places (l_1 : Option Addr) (l_1n : Nat) (l_1c : Nat) (R : Ending → World → Prop) (w : World) : Prop :=
  al w 24 [.slice l_1 l_1n l_1c] fun p2 w3 =>
  R (.returned (.func (.func 88) ⟨[]⟩ ⟨[.pointer (some p2)]⟩)) w3
set_option maxRecDepth 100000 in
theorem e_transcript_places (l_1 : Option Addr) (l_1n : Nat) (l_1c : Nat) (R : Ending → World → Prop) (w : World) : fnV Tryd.prog Tryd.f74 an_transcript_places [.slice l_1 l_1n l_1c] R w = sh_transcript_places l_1 l_1n l_1c R w := by kernel_rfl
theorem c_transcript_places {l_1 : Option Addr} {l_1n : Nat} {l_1c : Nat} {R : Ending → World → Prop} {w : World} (h : sh_transcript_places l_1 l_1n l_1c R w) : Calls Tryd.prog F_transcript_places ⟨[.slice l_1 l_1n l_1c]⟩ w R := calls_of_fnV Tryd.func74 (by rw [e_transcript_places]; exact h)

def an_transcript_right : Ann := .two (.leaf) (.two (.leaf) (.cut 65284 [] (.two (.leaf) (.two (.two (.leaf) (.leaf)) (.leaf))) (.two (.leaf) (.two (.leaf) (.two (.one (.cut 9007199246352384 [(23, .one (.bool))] (.leaf) (.two (.two (.leaf) (.leaf)) (.cut 4722357475670390472704 [(53, .one (.bool))] (.leaf) (.two (.two (.leaf) (.leaf)) (.cut 4830980911975647053611008 [(72, .one (.bool))] (.leaf) (.two (.two (.leaf) (.leaf)) (.cut 1298074209798003628674107383480320 [(82, .one (.bool))] (.cut 4946924453863062582897672192 [(82, .one (.bool))] (.leaf) (.two (.leaf) (.leaf))) (.two (.two (.leaf) (.leaf)) (.cut 43556141667805908689605042618642248761344 [(110, .one (.bool))] (.cut 331008924731595261318819140987781120 [(110, .one (.bool))] (.leaf) (.two (.leaf) (.cut 20936639007827058705142093823497732096 [(110, .one (.bool))] (.leaf) (.two (.leaf) (.leaf))))) (.two (.two (.leaf) (.leaf)) (.cut 11106816456299431447444547186572914421923840 [(135, .one (.bool))] (.leaf) (.two (.two (.leaf) (.leaf)) (.two (.leaf) (.two (.two (.leaf) (.leaf)) (.leaf)))))))))))))))) (.two (.leaf) (.leaf)))))))
def sh_transcript_right (p_1 : Int) (p_2 : List UInt8) (p_3 : Int) (p_4 : Option Addr) (p_4n : Nat) (p_4c : Nat) (p_5 : Int) (p_6 : Bool) (R : Ending → World → Prop) (w : World) : Prop :=
  al w 112 [.int .i64 p_1, .string ⟨⟨p_2⟩⟩, .int .i64 p_3, .slice p_4 p_4n p_4c, .int .i64 p_5, .bool p_6] fun p7 w8 =>
  ∃ (x9 : Int), World.cell? w8 ((p7.add 0).add 0) = some (.int .i64 x9) ∧ (∃ (x10 : List UInt8), World.cell? w8 ((p7.add 0).add 1) = some (.string ⟨⟨x10⟩⟩) ∧ (∃ (x11 : Int), World.cell? w8 ((p7.add 0).add 2) = some (.int .i64 x11) ∧ (∃ (x12 : Option Addr) (x12n : Nat) (x12c : Nat), World.cell? w8 ((p7.add 0).add 3) = some (.slice x12 x12n x12c) ∧ (al w8 45 [.int .i64 0, .string ⟨⟨[]⟩⟩, .int .i64 0, .slice none 0 0] fun p13 w14 =>
  stL w14 p13 0 [.int .i64 x9, .string ⟨⟨x10⟩⟩, .int .i64 x11, .slice x12 x12n x12c] fun w15 =>
  ∀ (K16 : World → Prop), (∀  (w17 : World), (∀ _ : Env, (∃ (x18 : Int), World.cell? w17 (p13.add 0) = some (.int .i64 x18) ∧ (idx (some (⟨0, 0, none⟩)) 12 x18 4 fun p19 =>
  ∃ (x20 : List UInt8), World.cell? w17 (p19.add 0) = some (.string ⟨⟨x20⟩⟩) ∧ (∃ (x21 : Bool), World.cell? w17 (p19.add 1) = some (.bool x21) ∧ (∃ (x22 : Bool), World.cell? w17 (p19.add 2) = some (.bool x22) ∧ (∃ (x23 : Bool), World.cell? w17 (p19.add 3) = some (.bool x23) ∧ (al w17 127 [.string ⟨⟨[]⟩⟩, .bool false, .bool false, .bool false] fun p24 w25 =>
  stL w25 p24 0 [.string ⟨⟨x20⟩⟩, .bool x21, .bool x22, .bool x23] fun w26 =>
  ∃ (x27 : Int), World.cell? w26 (p13.add 0) = some (.int .i64 x27) ∧ (∀ (K28 : Bool → World → Prop), (∀ (t23_29 : Bool) (w30 : World), (∀ _ : Env, (br t23_29 (R (.returned (.int .i64 8)) w30) (∀ (K31 : Bool → World → Prop), (∀ (t53_32 : Bool) (w33 : World), (∀ _ : Env, (br t53_32 (R (.returned (.int .i64 5)) w33) (∀ (K34 : Bool → World → Prop), (∀ (t72_35 : Bool) (w36 : World), (∀ _ : Env, (br t72_35 (R (.returned (.int .i64 11)) w36) (∀ (K37 : Bool → World → Prop), (∀ (t82_38 : Bool) (w39 : World), (∀ _ : Env, (br t82_38 (R (.returned (.int .i64 14)) w39) (∀ (K40 : Bool → World → Prop), (∀ (t110_41 : Bool) (w42 : World), (∀ _ : Env, (br t110_41 (R (.returned (.int .i64 2)) w42) (∀ (K43 : Bool → World → Prop), (∀ (t135_44 : Bool) (w45 : World), (∀ _ : Env, (br t135_44 (R (.returned (.int .i64 10)) w45) (∃ (x46 : Int), World.cell? w45 (p13.add 0) = some (.int .i64 x46) ∧ (br (decide ((x46 : Int) = 4)) (∃ (x47 : Int), World.cell? w45 (p7.add 4) = some (.int .i64 x47) ∧ (br (decide ((0 : Int) < x47)) (R (.returned (.int .i64 12)) w45) (R (.returned (.int .i64 0)) w45))) (R (.returned (.int .i64 0)) w45))))) → K43 t135_44 w45) → (∃ (x48 : Int), World.cell? w42 (p13.add 0) = some (.int .i64 x48) ∧ (br (decide ((x48 : Int) = 1)) (∃ (x49 : Bool), World.cell? w42 (p7.add 5) = some (.bool x49) ∧ (K43 x49 w42)) (K43 false w42)))))) → K40 t110_41 w42) → (∀ (K50 : Bool → World → Prop), (∀ (t110_51 : Bool) (w52 : World), (∀ _ : Env, (br t110_51 (K40 t110_51 w52) (∀ (K53 : Bool → World → Prop), (∀ (t110_54 : Bool) (w55 : World), (∀ _ : Env, (br t110_54 (K40 t110_54 w55) (∃ (x56 : Bool), World.cell? w55 (p24.add 2) = some (.bool x56) ∧ (br x56 (br (!(decide ((x27 : Int) = 6))) (∃ (x57 : Int), World.cell? w55 (p13.add 2) = some (.int .i64 x57) ∧ (K40 (decide ((8 : Int) < x57)) w55)) (K40 false w55)) (K40 false w55))))) → K53 t110_54 w55) → (br (decide ((x27 : Int) = 6)) (∃ (x58 : Int), World.cell? w52 (p13.add 2) = some (.int .i64 x58) ∧ (K53 (decide ((64 : Int) < x58)) w52)) (K53 false w52))))) → K50 t110_51 w52) → (∃ (x59 : Bool), World.cell? w39 (p24.add 2) = some (.bool x59) ∧ (br x59 (∃ (x60 : Int), World.cell? w39 (p13.add 2) = some (.int .i64 x60) ∧ (K50 (decide ((x60 : Int) < 1)) w39)) (K50 false w39))))))) → K37 t82_38 w39) → (∀ (K61 : Bool → World → Prop), (∀ (t82_62 : Bool) (w63 : World), (∀ _ : Env, (br t82_62 (K37 t82_62 w63) (∃ (x64 : Bool), World.cell? w63 (p24.add 1) = some (.bool x64) ∧ (br x64 (∃ (x65 : Int), World.cell? w63 (p13.add 0) = some (.int .i64 x65) ∧ (br (decide ((x65 : Int) ≠ 1)) (∃ (x66 : Int), World.cell? w63 (p13.add 0) = some (.int .i64 x66) ∧ (br (decide ((x66 : Int) ≠ 10)) (∃ (x67 : List UInt8), World.cell? w63 (p13.add 1) = some (.string ⟨⟨x67⟩⟩) ∧ (Calls Tryd.prog 33 ⟨[.string ⟨⟨x67⟩⟩]⟩ w63 fun (e68 : Ending) (w69 : World) =>
  ∃ (x70 : Bool), e68 = .returned (.bool x70) ∧ (K37 (!x70) w69))) (K37 false w63))) (K37 false w63))) (K37 false w63))))) → K61 t82_62 w63) → (∃ (x71 : Int), World.cell? w36 (p13.add 0) = some (.int .i64 x71) ∧ (br (decide ((x71 : Int) = 10)) (∃ (x72 : List UInt8), World.cell? w36 (p13.add 1) = some (.string ⟨⟨x72⟩⟩) ∧ (Calls Tryd.prog 91 ⟨[.string ⟨⟨x72⟩⟩]⟩ w36 fun (e73 : Ending) (w74 : World) =>
  ∃ (x75 : Bool), e73 = .returned (.bool x75) ∧ (K61 (!x75) w74))) (K61 false w36))))))) → K34 t72_35 w36) → (∃ (x76 : Int), World.cell? w33 (p13.add 0) = some (.int .i64 x76) ∧ (br (decide ((x76 : Int) = 1)) (∃ (x77 : List UInt8), World.cell? w33 (p13.add 1) = some (.string ⟨⟨x77⟩⟩) ∧ (Calls Tryd.prog 90 ⟨[.string ⟨⟨x77⟩⟩]⟩ w33 fun (e78 : Ending) (w79 : World) =>
  ∃ (x80 : Int), e78 = .returned (.int .i64 x80) ∧ (K34 (decide ((x80 : Int) ≠ 0)) w79))) (K34 false w33)))))) → K31 t53_32 w33) → (∃ (x81 : Int), World.cell? w30 (p13.add 0) = some (.int .i64 x81) ∧ (br (decide ((x81 : Int) = 1)) (∃ (x82 : List UInt8), World.cell? w30 (p13.add 1) = some (.string ⟨⟨x82⟩⟩) ∧ (br (decide ((x82 : List UInt8) = ([]))) (K31 true w30) (∃ (x83 : Bool), World.cell? w30 (p24.add 3) = some (.bool x83) ∧ (br x83 (∃ (x84 : Option Addr) (x84n : Nat) (x84c : Nat), World.cell? w30 (p13.add 3) = some (.slice x84 x84n x84c) ∧ (K31 (decide ((((x84n : Int)) : Int) = 0)) w30)) (K31 false w30))))) (∃ (x85 : Bool), World.cell? w30 (p24.add 3) = some (.bool x85) ∧ (br x85 (∃ (x86 : Option Addr) (x86n : Nat) (x86c : Nat), World.cell? w30 (p13.add 3) = some (.slice x86 x86n x86c) ∧ (K31 (decide ((((x86n : Int)) : Int) = 0)) w30)) (K31 false w30)))))))) → K28 t23_29 w30) → (∃ (x87 : Bool), World.cell? w26 (p24.add 1) = some (.bool x87) ∧ (br (!x87) (∃ (x88 : List UInt8), World.cell? w26 (p13.add 1) = some (.string ⟨⟨x88⟩⟩) ∧ (br (decide ((x88 : List UInt8) ≠ ([]))) (K28 true w26) (∃ (x89 : Bool), World.cell? w26 (p24.add 2) = some (.bool x89) ∧ (br (!x89) (∃ (x90 : Int), World.cell? w26 (p13.add 2) = some (.int .i64 x90) ∧ (br (decide ((x90 : Int) ≠ 0)) (K28 true w26) (∃ (x91 : Bool), World.cell? w26 (p24.add 3) = some (.bool x91) ∧ (br (!x91) (∃ (x92 : Option Addr) (x92n : Nat) (x92c : Nat), World.cell? w26 (p13.add 3) = some (.slice x92 x92n x92c) ∧ (K28 (decide ((0 : Int) < ((x92n : Int)))) w26)) (K28 false w26))))) (∃ (x93 : Bool), World.cell? w26 (p24.add 3) = some (.bool x93) ∧ (br (!x93) (∃ (x94 : Option Addr) (x94n : Nat) (x94c : Nat), World.cell? w26 (p13.add 3) = some (.slice x94 x94n x94c) ∧ (K28 (decide ((0 : Int) < ((x94n : Int)))) w26)) (K28 false w26))))))) (∃ (x95 : Bool), World.cell? w26 (p24.add 2) = some (.bool x95) ∧ (br (!x95) (∃ (x96 : Int), World.cell? w26 (p13.add 2) = some (.int .i64 x96) ∧ (br (decide ((x96 : Int) ≠ 0)) (K28 true w26) (∃ (x97 : Bool), World.cell? w26 (p24.add 3) = some (.bool x97) ∧ (br (!x97) (∃ (x98 : Option Addr) (x98n : Nat) (x98c : Nat), World.cell? w26 (p13.add 3) = some (.slice x98 x98n x98c) ∧ (K28 (decide ((0 : Int) < ((x98n : Int)))) w26)) (K28 false w26))))) (∃ (x99 : Bool), World.cell? w26 (p24.add 3) = some (.bool x99) ∧ (br (!x99) (∃ (x100 : Option Addr) (x100n : Nat) (x100c : Nat), World.cell? w26 (p13.add 3) = some (.slice x100 x100n x100c) ∧ (K28 (decide ((0 : Int) < ((x100n : Int)))) w26)) (K28 false w26))))))))))))))) → K16 w17) → (∃ (x101 : Int), World.cell? w15 (p13.add 0) = some (.int .i64 x101) ∧ (br (decide ((x101 : Int) < 1)) (R (.returned (.int .i64 8)) w15) (∃ (x102 : Int), World.cell? w15 (p13.add 0) = some (.int .i64 x102) ∧ (br (decide ((11 : Int) < x102)) (R (.returned (.int .i64 8)) w15) (K16 w15)))))))))
set_option maxRecDepth 100000 in
theorem e_transcript_right (p_1 : Int) (p_2 : List UInt8) (p_3 : Int) (p_4 : Option Addr) (p_4n : Nat) (p_4c : Nat) (p_5 : Int) (p_6 : Bool) (R : Ending → World → Prop) (w : World) : fnV Tryd.prog Tryd.f75 an_transcript_right [.agg ⟨[.int .i64 p_1, .string ⟨⟨p_2⟩⟩, .int .i64 p_3, .slice p_4 p_4n p_4c, .int .i64 p_5, .bool p_6]⟩] R w = sh_transcript_right p_1 p_2 p_3 p_4 p_4n p_4c p_5 p_6 R w := by kernel_rfl
theorem c_transcript_right {p_1 : Int} {p_2 : List UInt8} {p_3 : Int} {p_4 : Option Addr} {p_4n : Nat} {p_4c : Nat} {p_5 : Int} {p_6 : Bool} {R : Ending → World → Prop} {w : World} (h : sh_transcript_right p_1 p_2 p_3 p_4 p_4n p_4c p_5 p_6 R w) : Calls Tryd.prog F_transcript_right ⟨[.agg ⟨[.int .i64 p_1, .string ⟨⟨p_2⟩⟩, .int .i64 p_3, .slice p_4 p_4n p_4c, .int .i64 p_5, .bool p_6]⟩]⟩ w R := calls_of_fnV Tryd.func75 (by rw [e_transcript_right]; exact h)

def an_transcript_marked : Ann := .two (.leaf) (.two (.leaf) (.two (.leaf) (.two (.leaf) (.two (.leaf) (.two (.leaf) (.leaf))))))
def sh_transcript_marked (l_1 : Option Addr) (l_1n : Nat) (l_1c : Nat) (R : Ending → World → Prop) (w : World) : Prop :=
  al w 99 [.pointer none, .slice none 0 0] fun p2 w3 =>
  al w3 88 [.nilFunc] fun p4 w5 =>
  stL w5 p4 0 [.func (.func 92) ⟨[]⟩ ⟨[.pointer (some p2), .pointer (some p4)]⟩] fun w6 =>
  ∃ (x7 : Fn) (x7a : Array Value) (x7b : Array Value), World.cell? w6 p4 = some (.func x7 x7a x7b) ∧ (CallV Tryd.prog (.func x7 x7a x7b) [.slice l_1 l_1n l_1c] w6 fun (e8 : Ending) (w9 : World) =>
  e8 = .returned (.tuple ⟨[]⟩) ∧ (Calls Tryd.prog 67 ⟨[.pointer (some p2)]⟩ w9 fun (e10 : Ending) (w11 : World) =>
  ∃ (x12 : List UInt8), e10 = .returned (.string ⟨⟨x12⟩⟩) ∧ (R (.returned (.string ⟨⟨x12⟩⟩)) w11)))
set_option maxRecDepth 100000 in
theorem e_transcript_marked (l_1 : Option Addr) (l_1n : Nat) (l_1c : Nat) (R : Ending → World → Prop) (w : World) : fnV Tryd.prog Tryd.f76 an_transcript_marked [.slice l_1 l_1n l_1c] R w = sh_transcript_marked l_1 l_1n l_1c R w := by kernel_rfl
theorem c_transcript_marked {l_1 : Option Addr} {l_1n : Nat} {l_1c : Nat} {R : Ending → World → Prop} {w : World} (h : sh_transcript_marked l_1 l_1n l_1c R w) : Calls Tryd.prog F_transcript_marked ⟨[.slice l_1 l_1n l_1c]⟩ w R := calls_of_fnV Tryd.func76 (by rw [e_transcript_marked]; exact h)

def an_legibility_all_1 : Ann := .two (.leaf) (.two (.leaf) (.two (.leaf) (.leaf)))
def sh_legibility_all_1 (yield_1 : Fn) (yield_1a : Array Value) (yield_1b : Array Value) (t1_2 : Option Addr) (R : Ending → World → Prop) (w : World) : Prop :=
  al w 114 [.func yield_1 yield_1a yield_1b] fun p3 w4 =>
  al w4 115 [.nilFunc] fun p5 w6 =>
  stL w6 p5 0 [.func (.func 78) ⟨[]⟩ ⟨[.pointer (some p3), .pointer (some p5)]⟩] fun w7 =>
  ∃ (x8 : Fn) (x8a : Array Value) (x8b : Array Value), World.cell? w7 p5 = some (.func x8 x8a x8b) ∧ (dr t1_2 fun p9 =>
  ∃ (x10 : Option Addr) (x10n : Nat) (x10c : Nat), World.cell? w7 p9 = some (.slice x10 x10n x10c) ∧ (CallV Tryd.prog (.func x8 x8a x8b) [.slice x10 x10n x10c, .bool false] w7 fun (e11 : Ending) (w12 : World) =>
  ∃ (x13 : Bool), e11 = .returned (.bool x13) ∧ (R (.returned (.tuple ⟨[]⟩)) w12)))
set_option maxRecDepth 100000 in
theorem e_legibility_all_1 (yield_1 : Fn) (yield_1a : Array Value) (yield_1b : Array Value) (t1_2 : Option Addr) (R : Ending → World → Prop) (w : World) : fnV Tryd.prog Tryd.f77 an_legibility_all_1 [.func yield_1 yield_1a yield_1b, .pointer t1_2] R w = sh_legibility_all_1 yield_1 yield_1a yield_1b t1_2 R w := by kernel_rfl
theorem c_legibility_all_1 {yield_1 : Fn} {yield_1a : Array Value} {yield_1b : Array Value} {t1_2 : Option Addr} {R : Ending → World → Prop} {w : World} (h : sh_legibility_all_1 yield_1 yield_1a yield_1b t1_2 R w) : Calls Tryd.prog F_legibility_all_1 ⟨[.func yield_1 yield_1a yield_1b, .pointer t1_2]⟩ w R := calls_of_fnV Tryd.func77 (by rw [e_legibility_all_1]; exact h)

def an_legibility_all_1_1 : Ann := .two (.leaf) (.two (.two (.leaf) (.one (.loop 17179867456 [(11, .one (.int .i64))] (.two (.leaf) (.two (.two (.leaf) (.leaf)) (.two (.one (.two (.leaf) (.two (.leaf) (.two (.two (.leaf) (.leaf)) (.leaf))))) (.leaf))))))) (.two (.leaf) (.leaf)))
def sh_legibility_all_1_1 (l_1 : Option Addr) (l_1n : Nat) (l_1c : Nat) (unclear_2 : Bool) (t2_3 : Option Addr) (t3_4 : Option Addr) (R : Ending → World → Prop) (w : World) : Prop :=
  ∃ (I5 : Int → World → Nat → Prop), (∃ m9 : Nat, I5 0 w m9) ∧ ∀ (t11_6 : Int) (w7 : World) (m8 : Nat), I5 t11_6 w7 m8 → ∀ _ : Env, (br (decide ((t11_6 : Int) < ((l_1n : Int)))) (idx l_1 l_1n t11_6 4 fun p10 =>
  ∃ (x11 : Int), World.cell? w7 (p10.add 0) = some (.int .i64 x11) ∧ (∃ (x12 : List UInt8), World.cell? w7 (p10.add 1) = some (.string ⟨⟨x12⟩⟩) ∧ (∃ (x13 : Int), World.cell? w7 (p10.add 2) = some (.int .i64 x13) ∧ (∃ (x14 : Option Addr) (x14n : Nat) (x14c : Nat), World.cell? w7 (p10.add 3) = some (.slice x14 x14n x14c) ∧ (al w7 45 [.int .i64 0, .string ⟨⟨[]⟩⟩, .int .i64 0, .slice none 0 0] fun p15 w16 =>
  stL w16 p15 0 [.int .i64 x11, .string ⟨⟨x12⟩⟩, .int .i64 x13, .slice x14 x14n x14c] fun w17 =>
  dr t2_3 fun p18 =>
  ∃ (x19 : Fn) (x19a : Array Value) (x19b : Array Value), World.cell? w17 p18 = some (.func x19 x19a x19b) ∧ (∃ (x20 : Int), World.cell? w17 (p15.add 0) = some (.int .i64 x20) ∧ (∃ (x21 : List UInt8), World.cell? w17 (p15.add 1) = some (.string ⟨⟨x21⟩⟩) ∧ (∃ (x22 : Int), World.cell? w17 (p15.add 2) = some (.int .i64 x22) ∧ (∃ (x23 : Option Addr) (x23n : Nat) (x23c : Nat), World.cell? w17 (p15.add 3) = some (.slice x23 x23n x23c) ∧ (CallV Tryd.prog (.func x19 x19a x19b) [.agg ⟨[.int .i64 x20, .string ⟨⟨x21⟩⟩, .int .i64 x22, .slice x23 x23n x23c]⟩, .bool unclear_2] w17 fun (e24 : Ending) (w25 : World) =>
  ∃ (x26 : Bool), e24 = .returned (.bool x26) ∧ (br (!x26) (R (.returned (.bool false)) w25) (dr t3_4 fun p27 =>
  ∃ (x28 : Fn) (x28a : Array Value) (x28b : Array Value), World.cell? w25 p27 = some (.func x28 x28a x28b) ∧ (∃ (x29 : Option Addr) (x29n : Nat) (x29c : Nat), World.cell? w25 (p15.add 3) = some (.slice x29 x29n x29c) ∧ (br unclear_2 (CallV Tryd.prog (.func x28 x28a x28b) [.slice x29 x29n x29c, .bool true] w25 fun (e30 : Ending) (w31 : World) =>
  ∃ (x32 : Bool), e30 = .returned (.bool x32) ∧ (br (!x32) (R (.returned (.bool false)) w31) (∃ m33 : Nat, m33 < m8 ∧ I5 (IntKind.i64.wrap (t11_6 + 1)) w31 m33))) (∃ (x34 : Int), World.cell? w25 (p15.add 0) = some (.int .i64 x34) ∧ (CallV Tryd.prog (.func x28 x28a x28b) [.slice x29 x29n x29c, .bool (decide ((x34 : Int) = 7))] w25 fun (e35 : Ending) (w36 : World) =>
  ∃ (x37 : Bool), e35 = .returned (.bool x37) ∧ (br (!x37) (R (.returned (.bool false)) w36) (∃ m38 : Nat, m38 < m8 ∧ I5 (IntKind.i64.wrap (t11_6 + 1)) w36 m38)))))))))))))))))) (R (.returned (.bool true)) w7))
set_option maxRecDepth 100000 in
theorem e_legibility_all_1_1 (l_1 : Option Addr) (l_1n : Nat) (l_1c : Nat) (unclear_2 : Bool) (t2_3 : Option Addr) (t3_4 : Option Addr) (R : Ending → World → Prop) (w : World) : fnV Tryd.prog Tryd.f78 an_legibility_all_1_1 [.slice l_1 l_1n l_1c, .bool unclear_2, .pointer t2_3, .pointer t3_4] R w = sh_legibility_all_1_1 l_1 l_1n l_1c unclear_2 t2_3 t3_4 R w := by kernel_rfl
theorem c_legibility_all_1_1 {l_1 : Option Addr} {l_1n : Nat} {l_1c : Nat} {unclear_2 : Bool} {t2_3 : Option Addr} {t3_4 : Option Addr} {R : Ending → World → Prop} {w : World} (h : sh_legibility_all_1_1 l_1 l_1n l_1c unclear_2 t2_3 t3_4 R w) : Calls Tryd.prog F_legibility_all_1_1 ⟨[.slice l_1 l_1n l_1c, .bool unclear_2, .pointer t2_3, .pointer t3_4]⟩ w R := calls_of_fnV Tryd.func78 (by rw [e_legibility_all_1_1]; exact h)

def an_ref10_all : Ann := .two (.leaf) (.two (.two (.leaf) (.one (.loop 8796093022192 [(5, .one (.int .i64))] (.two (.two (.leaf) (.two (.leaf) (.leaf))) (.two (.one (.two (.cut 2147467328 [(6, .one (.int .i64))] (.leaf) (.two (.leaf) (.two (.two (.leaf) (.leaf)) (.leaf)))) (.two (.leaf) (.two (.leaf) (.two (.two (.leaf) (.leaf)) (.leaf)))))) (.leaf)))))) (.two (.leaf) (.leaf)))
def sh_ref10_all (l_1 : Option Addr) (l_1n : Nat) (l_1c : Nat) (within_2 : Bool) (R : Ending → World → Prop) (w : World) : Prop :=
  ∃ (I3 : Int → World → Nat → Prop), (∃ m7 : Nat, I3 0 w m7) ∧ ∀ (i_4 : Int) (w5 : World) (m6 : Nat), I3 i_4 w5 m6 → ∀ _ : Env, (br (decide ((i_4 : Int) < ((l_1n : Int)))) (∀ (K8 : Int → World → Prop), (∀ (e_9 : Int) (w10 : World), (∀ _ : Env, (br (decide ((e_9 : Int) ≠ 0)) (R (.returned (.int .i64 e_9)) w10) (idx l_1 l_1n i_4 4 fun p11 =>
  ∃ (x12 : Option Addr) (x12n : Nat) (x12c : Nat), World.cell? w10 (p11.add 3) = some (.slice x12 x12n x12c) ∧ (Calls Tryd.prog 84 ⟨[.slice x12 x12n x12c, .bool true]⟩ w10 fun (e13 : Ending) (w14 : World) =>
  ∃ (x15 : Int), e13 = .returned (.int .i64 x15) ∧ (br (decide ((x15 : Int) ≠ 0)) (R (.returned (.int .i64 x15)) w14) (∃ m16 : Nat, m16 < m6 ∧ I3 (IntKind.i64.wrap (i_4 + 1)) w14 m16)))))) → K8 e_9 w10) → (drw w5 fun w17 =>
  idx l_1 l_1n i_4 4 fun p18 =>
  ∃ (x19 : Int), World.cell? w17 (p18.add 0) = some (.int .i64 x19) ∧ (∃ (x20 : List UInt8), World.cell? w17 (p18.add 1) = some (.string ⟨⟨x20⟩⟩) ∧ (∃ (x21 : Int), World.cell? w17 (p18.add 2) = some (.int .i64 x21) ∧ (∃ (x22 : Option Addr) (x22n : Nat) (x22c : Nat), World.cell? w17 (p18.add 3) = some (.slice x22 x22n x22c) ∧ (br (decide ((0 : Int) < i_4)) (idx l_1 l_1n (IntKind.i64.wrap (i_4 - 1)) 4 fun p23 =>
  ∃ (x24 : Int), World.cell? w17 (p23.add 0) = some (.int .i64 x24) ∧ ((Calls Tryd.prog 99 ⟨[.agg ⟨[.int .i64 x19, .string ⟨⟨x20⟩⟩, .int .i64 x21, .slice x22 x22n x22c]⟩, .bool (decide ((x24 : Int) = 1)), .bool within_2]⟩ w17 fun (e25 : Ending) (w26 : World) =>
  ∃ (x27 : Int), e25 = .returned (.int .i64 x27) ∧ (K8 x27 w26)) ∧ True)) ((Calls Tryd.prog 99 ⟨[.agg ⟨[.int .i64 x19, .string ⟨⟨x20⟩⟩, .int .i64 x21, .slice x22 x22n x22c]⟩, .bool false, .bool within_2]⟩ w17 fun (e28 : Ending) (w29 : World) =>
  ∃ (x30 : Int), e28 = .returned (.int .i64 x30) ∧ (K8 x30 w29)) ∧ True))))))) (R (.returned (.int .i64 0)) w5))
set_option maxRecDepth 100000 in
theorem e_ref10_all (l_1 : Option Addr) (l_1n : Nat) (l_1c : Nat) (within_2 : Bool) (R : Ending → World → Prop) (w : World) : fnV Tryd.prog Tryd.f84 an_ref10_all [.slice l_1 l_1n l_1c, .bool within_2] R w = sh_ref10_all l_1 l_1n l_1c within_2 R w := by kernel_rfl
theorem c_ref10_all {l_1 : Option Addr} {l_1n : Nat} {l_1c : Nat} {within_2 : Bool} {R : Ending → World → Prop} {w : World} (h : sh_ref10_all l_1 l_1n l_1c within_2 R w) : Calls Tryd.prog F_ref10_all ⟨[.slice l_1 l_1n l_1c, .bool within_2]⟩ w R := calls_of_fnV Tryd.func84 (by rw [e_ref10_all]; exact h)

def an_ref10_print : Ann := .two (.leaf) (.two (.leaf) (.two (.two (.leaf) (.one (.loop 147573952589676412920 [(3, .one (.str)), (4, .one (.int .i64))] (.two (.two (.leaf) (.two (.leaf) (.leaf))) (.two (.one (.two (.leaf) (.two (.two (.leaf) (.two (.two (.leaf) (.leaf)) (.leaf))) (.two (.leaf) (.cut 68451041344 [(6, .one (.str))] (.two (.leaf) (.two (.leaf) (.leaf))) (.cut 35115652612160 [(6, .one (.str))] (.two (.leaf) (.two (.leaf) (.leaf))) (.two (.two (.leaf) (.two (.two (.leaf) (.leaf)) (.leaf))) (.leaf)))))))) (.leaf)))))) (.two (.leaf) (.leaf))))
def sh_ref10_print (l_1 : Option Addr) (l_1n : Nat) (l_1c : Nat) (R : Ending → World → Prop) (w : World) : Prop :=
  ∃ (I2 : List UInt8 → Int → World → Nat → Prop), (∃ m7 : Nat, I2 ([]) 0 w m7) ∧ ∀ (out_3 : List UInt8) (i_4 : Int) (w5 : World) (m6 : Nat), I2 out_3 i_4 w5 m6 → ∀ _ : Env, (br (decide ((i_4 : Int) < ((l_1n : Int)))) (idx l_1 l_1n i_4 4 fun p8 =>
  ∃ (x9 : Int), World.cell? w5 (p8.add 0) = some (.int .i64 x9) ∧ (∃ (x10 : List UInt8), World.cell? w5 (p8.add 1) = some (.string ⟨⟨x10⟩⟩) ∧ (∃ (x11 : Int), World.cell? w5 (p8.add 2) = some (.int .i64 x11) ∧ (∃ (x12 : Option Addr) (x12n : Nat) (x12c : Nat), World.cell? w5 (p8.add 3) = some (.slice x12 x12n x12c) ∧ (al w5 45 [.int .i64 0, .string ⟨⟨[]⟩⟩, .int .i64 0, .slice none 0 0] fun p13 w14 =>
  stL w14 p13 0 [.int .i64 x9, .string ⟨⟨x10⟩⟩, .int .i64 x11, .slice x12 x12n x12c] fun w15 =>
  ∃ (x16 : Int), World.cell? w15 (p13.add 0) = some (.int .i64 x16) ∧ (br (decide ((x16 : Int) = 1)) (∃ (x17 : List UInt8), World.cell? w15 (p13.add 1) = some (.string ⟨⟨x17⟩⟩) ∧ (sadd out_3 x17 fun s18 =>
  ∃ m19 : Nat, m19 < m6 ∧ I2 s18 (IntKind.i64.wrap (i_4 + 1)) w15 m19)) (∃ (x20 : Int), World.cell? w15 (p13.add 0) = some (.int .i64 x20) ∧ (Calls Tryd.prog 100 ⟨[.int .i64 x20]⟩ w15 fun (e21 : Ending) (w22 : World) =>
  ∃ (x23 : List UInt8), e21 = .returned (.string ⟨⟨x23⟩⟩) ∧ (sadd ([60]) x23 fun s24 =>
  ∀ (K25 : List UInt8 → World → Prop), (∀ (tag_26 : List UInt8) (w27 : World), (∀ _ : Env, (∀ (K28 : List UInt8 → World → Prop), (∀ (tag_29 : List UInt8) (w30 : World), (∀ _ : Env, (∃ (x31 : Int), World.cell? w30 (p13.add 0) = some (.int .i64 x31) ∧ (Calls Tryd.prog 104 ⟨[.int .i64 x31]⟩ w30 fun (e32 : Ending) (w33 : World) =>
  ∃ (x34 : Bool), e32 = .returned (.bool x34) ∧ (br (!x34) (sadd out_3 tag_29 fun s35 =>
  sadd s35 ([47, 62]) fun s36 =>
  ∃ m37 : Nat, m37 < m6 ∧ I2 s36 (IntKind.i64.wrap (i_4 + 1)) w33 m37) (drw w33 fun w38 =>
  sadd out_3 tag_29 fun s39 =>
  sadd s39 ([62]) fun s40 =>
  ∃ (x41 : Option Addr) (x41n : Nat) (x41c : Nat), World.cell? w38 (p13.add 3) = some (.slice x41 x41n x41c) ∧ ((Calls Tryd.prog 85 ⟨[.slice x41 x41n x41c]⟩ w38 fun (e42 : Ending) (w43 : World) =>
  ∃ (x44 : List UInt8), e42 = .returned (.string ⟨⟨x44⟩⟩) ∧ (sadd s40 x44 fun s45 =>
  sadd s45 ([60, 47]) fun s46 =>
  ∃ (x47 : Int), World.cell? w43 (p13.add 0) = some (.int .i64 x47) ∧ ((Calls Tryd.prog 100 ⟨[.int .i64 x47]⟩ w43 fun (e48 : Ending) (w49 : World) =>
  ∃ (x50 : List UInt8), e48 = .returned (.string ⟨⟨x50⟩⟩) ∧ (sadd s46 x50 fun s51 =>
  sadd s51 ([62]) fun s52 =>
  ∃ m53 : Nat, m53 < m6 ∧ I2 s52 (IntKind.i64.wrap (i_4 + 1)) w49 m53)) ∧ True))) ∧ ((Calls Tryd.prog 85 ⟨[.slice x41 x41n x41c]⟩ w38 fun (e54 : Ending) (w55 : World) =>
  ∃ (x56 : List UInt8), e54 = .returned (.string ⟨⟨x56⟩⟩) ∧ (sadd s40 x56 fun s57 =>
  sadd s57 ([60, 47]) fun s58 =>
  ∃ (x59 : Int), World.cell? w55 (p13.add 0) = some (.int .i64 x59) ∧ ((Calls Tryd.prog 100 ⟨[.int .i64 x59]⟩ w55 fun (e60 : Ending) (w61 : World) =>
  ∃ (x62 : List UInt8), e60 = .returned (.string ⟨⟨x62⟩⟩) ∧ (sadd s58 x62 fun s63 =>
  sadd s63 ([62]) fun s64 =>
  ∃ m65 : Nat, m65 < m6 ∧ I2 s64 (IntKind.i64.wrap (i_4 + 1)) w61 m65)) ∧ True))) ∧ (∃ (x66 : Int), World.cell? w38 (p13.add 0) = some (.int .i64 x66) ∧ ((Calls Tryd.prog 85 ⟨[.slice x41 x41n x41c]⟩ w38 fun (e67 : Ending) (w68 : World) =>
  ∃ (x69 : List UInt8), e67 = .returned (.string ⟨⟨x69⟩⟩) ∧ (sadd s40 x69 fun s70 =>
  sadd s70 ([60, 47]) fun s71 =>
  (Calls Tryd.prog 100 ⟨[.int .i64 x66]⟩ w68 fun (e72 : Ending) (w73 : World) =>
  ∃ (x74 : List UInt8), e72 = .returned (.string ⟨⟨x74⟩⟩) ∧ (sadd s71 x74 fun s75 =>
  sadd s75 ([62]) fun s76 =>
  ∃ m77 : Nat, m77 < m6 ∧ I2 s76 (IntKind.i64.wrap (i_4 + 1)) w73 m77)) ∧ True)) ∧ True)) ∧ True) ∧ True)))))) → K28 tag_29 w30) → (∃ (x78 : Int), World.cell? w27 (p13.add 0) = some (.int .i64 x78) ∧ (Calls Tryd.prog 102 ⟨[.int .i64 x78]⟩ w27 fun (e79 : Ending) (w80 : World) =>
  ∃ (x81 : Bool), e79 = .returned (.bool x81) ∧ (br x81 (sadd tag_26 ([32]) fun s82 =>
  ∃ (x83 : Int), World.cell? w80 (p13.add 2) = some (.int .i64 x83) ∧ (Calls Tryd.prog 103 ⟨[.int .i64 x83]⟩ w80 fun (e84 : Ending) (w85 : World) =>
  ∃ (x86 : List UInt8), e84 = .returned (.string ⟨⟨x86⟩⟩) ∧ (sadd s82 x86 fun s87 =>
  K28 s87 w85))) (K28 tag_26 w80)))))) → K25 tag_26 w27) → (∃ (x88 : Int), World.cell? w22 (p13.add 0) = some (.int .i64 x88) ∧ (Calls Tryd.prog 101 ⟨[.int .i64 x88]⟩ w22 fun (e89 : Ending) (w90 : World) =>
  ∃ (x91 : Bool), e89 = .returned (.bool x91) ∧ (br x91 (sadd s24 ([32]) fun s92 =>
  ∃ (x93 : List UInt8), World.cell? w90 (p13.add 1) = some (.string ⟨⟨x93⟩⟩) ∧ (sadd s92 x93 fun s94 =>
  K25 s94 w90)) (K25 s24 w90))))))))))))) (R (.returned (.string ⟨⟨out_3⟩⟩)) w5))
set_option maxRecDepth 100000 in
theorem e_ref10_print (l_1 : Option Addr) (l_1n : Nat) (l_1c : Nat) (R : Ending → World → Prop) (w : World) : fnV Tryd.prog Tryd.f85 an_ref10_print [.slice l_1 l_1n l_1c] R w = sh_ref10_print l_1 l_1n l_1c R w := by kernel_rfl
theorem c_ref10_print {l_1 : Option Addr} {l_1n : Nat} {l_1c : Nat} {R : Ending → World → Prop} {w : World} (h : sh_ref10_print l_1 l_1n l_1c R w) : Calls Tryd.prog F_ref10_print ⟨[.slice l_1 l_1n l_1c]⟩ w R := calls_of_fnV Tryd.func85 (by rw [e_ref10_print]; exact h)

def an_ref01_right : Ann := .two (.leaf) (.two (.leaf) (.two (.two (.leaf) (.one (.loop 549755813848 [(3, .one (.slice)), (4, .one (.int .i64))] (.two (.two (.leaf) (.two (.leaf) (.leaf))) (.two (.one (.leaf)) (.leaf)))))) (.two (.leaf) (.leaf))))
def sh_ref01_right (s_1 : List UInt8) (R : Ending → World → Prop) (w : World) : Prop :=
  al w 4 [] fun p2 w3 =>
  ∃ (I4 : Option Addr → Nat → Nat → Int → World → Nat → Prop), (∃ m9 : Nat, I4 (some p2) 0 0 0 w3 m9) ∧ ∀ (out_5 : Option Addr) (out_5n : Nat) (out_5c : Nat) (i_6 : Int) (w7 : World) (m8 : Nat), I4 out_5 out_5n out_5c i_6 w7 m8 → ∀ _ : Env, (br (decide ((i_6 : Int) < ((List.length s_1 : Int)))) (sidx s_1 i_6 fun b10 =>
  Calls Tryd.prog 20 ⟨[.int .u8 ((b10.toNat : Int))]⟩ w7 fun (e11 : Ending) (w12 : World) =>
  ∃ (x13 : Int), e11 = .returned (.int .i64 x13) ∧ (br (decide ((x13 : Int) = 2)) (br (decide ((0 : Int) < i_6)) (sidx s_1 (IntKind.i64.wrap (i_6 - 1)) fun b14 =>
  Calls Tryd.prog 20 ⟨[.int .u8 ((b14.toNat : Int))]⟩ w12 fun (e15 : Ending) (w16 : World) =>
  ∃ (x17 : Int), e15 = .returned (.int .i64 x17) ∧ (br (decide ((x17 : Int) = 1)) (al w16 4 [.bool true] fun p18 w19 =>
  app Tryd.prog [123, 123] 123 (.slice out_5 out_5n out_5c) (.slice (some p18) 1 1) w19 fun a20 a20n a20c w21 =>
  ∃ m22 : Nat, m22 < m8 ∧ I4 a20 a20n a20c (IntKind.i64.wrap (i_6 + 1)) w21 m22) (idx out_5 out_5n (IntKind.i64.wrap (i_6 - 1)) 1 fun p23 =>
  ∃ (x24 : Bool), World.cell? w16 p23 = some (.bool x24) ∧ (al w16 4 [.bool x24] fun p25 w26 =>
  app Tryd.prog [123, 123] 123 (.slice out_5 out_5n out_5c) (.slice (some p25) 1 1) w26 fun a27 a27n a27c w28 =>
  ∃ m29 : Nat, m29 < m8 ∧ I4 a27 a27n a27c (IntKind.i64.wrap (i_6 + 1)) w28 m29)))) (al w12 4 [.bool false] fun p30 w31 =>
  app Tryd.prog [123, 123] 123 (.slice out_5 out_5n out_5c) (.slice (some p30) 1 1) w31 fun a32 a32n a32c w33 =>
  ∃ m34 : Nat, m34 < m8 ∧ I4 a32 a32n a32c (IntKind.i64.wrap (i_6 + 1)) w33 m34)) (al w12 4 [.bool false] fun p35 w36 =>
  app Tryd.prog [123, 123] 123 (.slice out_5 out_5n out_5c) (.slice (some p35) 1 1) w36 fun a37 a37n a37c w38 =>
  ∃ m39 : Nat, m39 < m8 ∧ I4 a37 a37n a37c (IntKind.i64.wrap (i_6 + 1)) w38 m39))) (R (.returned (.slice out_5 out_5n out_5c)) w7))
set_option maxRecDepth 100000 in
theorem e_ref01_right (s_1 : List UInt8) (R : Ending → World → Prop) (w : World) : fnV Tryd.prog Tryd.f86 an_ref01_right [.string ⟨⟨s_1⟩⟩] R w = sh_ref01_right s_1 R w := by kernel_rfl
theorem c_ref01_right {s_1 : List UInt8} {R : Ending → World → Prop} {w : World} (h : sh_ref01_right s_1 R w) : Calls Tryd.prog F_ref01_right ⟨[.string ⟨⟨s_1⟩⟩]⟩ w R := calls_of_fnV Tryd.func86 (by rw [e_ref01_right]; exact h)

def an_transcript_places_1 : Ann := .two (.leaf) (.two (.leaf) (.two (.leaf) (.leaf)))
def sh_transcript_places_1 (yield_1 : Fn) (yield_1a : Array Value) (yield_1b : Array Value) (t1_2 : Option Addr) (R : Ending → World → Prop) (w : World) : Prop :=
  al w 125 [.func yield_1 yield_1a yield_1b] fun p3 w4 =>
  al w4 63 [.nilFunc] fun p5 w6 =>
  stL w6 p5 0 [.func (.func 89) ⟨[]⟩ ⟨[.pointer (some p3), .pointer (some p5)]⟩] fun w7 =>
  ∃ (x8 : Fn) (x8a : Array Value) (x8b : Array Value), World.cell? w7 p5 = some (.func x8 x8a x8b) ∧ (dr t1_2 fun p9 =>
  ∃ (x10 : Option Addr) (x10n : Nat) (x10c : Nat), World.cell? w7 p9 = some (.slice x10 x10n x10c) ∧ (CallV Tryd.prog (.func x8 x8a x8b) [.slice x10 x10n x10c, .int .i64 0] w7 fun (e11 : Ending) (w12 : World) =>
  ∃ (x13 : Bool), e11 = .returned (.bool x13) ∧ (R (.returned (.tuple ⟨[]⟩)) w12)))
set_option maxRecDepth 100000 in
theorem e_transcript_places_1 (yield_1 : Fn) (yield_1a : Array Value) (yield_1b : Array Value) (t1_2 : Option Addr) (R : Ending → World → Prop) (w : World) : fnV Tryd.prog Tryd.f88 an_transcript_places_1 [.func yield_1 yield_1a yield_1b, .pointer t1_2] R w = sh_transcript_places_1 yield_1 yield_1a yield_1b t1_2 R w := by kernel_rfl
theorem c_transcript_places_1 {yield_1 : Fn} {yield_1a : Array Value} {yield_1b : Array Value} {t1_2 : Option Addr} {R : Ending → World → Prop} {w : World} (h : sh_transcript_places_1 yield_1 yield_1a yield_1b t1_2 R w) : Calls Tryd.prog F_transcript_places_1 ⟨[.func yield_1 yield_1a yield_1b, .pointer t1_2]⟩ w R := calls_of_fnV Tryd.func88 (by rw [e_transcript_places_1]; exact h)

def an_transcript_places_1_1 : Ann := .two (.leaf) (.two (.leaf) (.two (.two (.leaf) (.one (.loop 1099511624384 [(7, .one (.bool)), (12, .one (.int .i64))] (.two (.leaf) (.two (.two (.leaf) (.leaf)) (.two (.one (.two (.leaf) (.two (.two (.leaf) (.two (.two (.leaf) (.leaf)) (.leaf))) (.leaf)))) (.leaf))))))) (.two (.leaf) (.leaf))))
def sh_transcript_places_1_1 (l_1 : Option Addr) (l_1n : Nat) (l_1c : Nat) (depth_2 : Int) (t2_3 : Option Addr) (t3_4 : Option Addr) (R : Ending → World → Prop) (w : World) : Prop :=
  ∃ (I5 : Bool → Int → World → Nat → Prop), (∃ m10 : Nat, I5 false 0 w m10) ∧ ∀ (text_6 : Bool) (t12_7 : Int) (w8 : World) (m9 : Nat), I5 text_6 t12_7 w8 m9 → ∀ _ : Env, (br (decide ((t12_7 : Int) < ((l_1n : Int)))) (idx l_1 l_1n t12_7 4 fun p11 =>
  ∃ (x12 : Int), World.cell? w8 (p11.add 0) = some (.int .i64 x12) ∧ (∃ (x13 : List UInt8), World.cell? w8 (p11.add 1) = some (.string ⟨⟨x13⟩⟩) ∧ (∃ (x14 : Int), World.cell? w8 (p11.add 2) = some (.int .i64 x14) ∧ (∃ (x15 : Option Addr) (x15n : Nat) (x15c : Nat), World.cell? w8 (p11.add 3) = some (.slice x15 x15n x15c) ∧ (al w8 45 [.int .i64 0, .string ⟨⟨[]⟩⟩, .int .i64 0, .slice none 0 0] fun p16 w17 =>
  stL w17 p16 0 [.int .i64 x12, .string ⟨⟨x13⟩⟩, .int .i64 x14, .slice x15 x15n x15c] fun w18 =>
  dr t2_3 fun p19 =>
  ∃ (x20 : Fn) (x20a : Array Value) (x20b : Array Value), World.cell? w18 p19 = some (.func x20 x20a x20b) ∧ (∃ (x21 : Int), World.cell? w18 (p16.add 0) = some (.int .i64 x21) ∧ (∃ (x22 : List UInt8), World.cell? w18 (p16.add 1) = some (.string ⟨⟨x22⟩⟩) ∧ (∃ (x23 : Int), World.cell? w18 (p16.add 2) = some (.int .i64 x23) ∧ (∃ (x24 : Option Addr) (x24n : Nat) (x24c : Nat), World.cell? w18 (p16.add 3) = some (.slice x24 x24n x24c) ∧ (CallV Tryd.prog (.func x20 x20a x20b) [.agg ⟨[.int .i64 x21, .string ⟨⟨x22⟩⟩, .int .i64 x23, .slice x24 x24n x24c, .int .i64 depth_2, .bool text_6]⟩] w18 fun (e25 : Ending) (w26 : World) =>
  ∃ (x27 : Bool), e25 = .returned (.bool x27) ∧ (br (!x27) (R (.returned (.bool false)) w26) (br (decide ((depth_2 : Int) ≤ 16)) (dr t3_4 fun p28 =>
  ∃ (x29 : Fn) (x29a : Array Value) (x29b : Array Value), World.cell? w26 p28 = some (.func x29 x29a x29b) ∧ (∃ (x30 : Option Addr) (x30n : Nat) (x30c : Nat), World.cell? w26 (p16.add 3) = some (.slice x30 x30n x30c) ∧ (CallV Tryd.prog (.func x29 x29a x29b) [.slice x30 x30n x30c, .int .i64 (IntKind.i64.wrap (depth_2 + 1))] w26 fun (e31 : Ending) (w32 : World) =>
  ∃ (x33 : Bool), e31 = .returned (.bool x33) ∧ (br (!x33) (R (.returned (.bool false)) w32) (∃ (x34 : Int), World.cell? w32 (p16.add 0) = some (.int .i64 x34) ∧ (∃ m35 : Nat, m35 < m9 ∧ I5 (decide ((x34 : Int) = 1)) (IntKind.i64.wrap (t12_7 + 1)) w32 m35)))))) (∃ (x36 : Int), World.cell? w26 (p16.add 0) = some (.int .i64 x36) ∧ (∃ m37 : Nat, m37 < m9 ∧ I5 (decide ((x36 : Int) = 1)) (IntKind.i64.wrap (t12_7 + 1)) w26 m37)))))))))))))) (R (.returned (.bool true)) w8))
set_option maxRecDepth 100000 in
theorem e_transcript_places_1_1 (l_1 : Option Addr) (l_1n : Nat) (l_1c : Nat) (depth_2 : Int) (t2_3 : Option Addr) (t3_4 : Option Addr) (R : Ending → World → Prop) (w : World) : fnV Tryd.prog Tryd.f89 an_transcript_places_1_1 [.slice l_1 l_1n l_1c, .int .i64 depth_2, .pointer t2_3, .pointer t3_4] R w = sh_transcript_places_1_1 l_1 l_1n l_1c depth_2 t2_3 t3_4 R w := by kernel_rfl
theorem c_transcript_places_1_1 {l_1 : Option Addr} {l_1n : Nat} {l_1c : Nat} {depth_2 : Int} {t2_3 : Option Addr} {t3_4 : Option Addr} {R : Ending → World → Prop} {w : World} (h : sh_transcript_places_1_1 l_1 l_1n l_1c depth_2 t2_3 t3_4 R w) : Calls Tryd.prog F_transcript_places_1_1 ⟨[.slice l_1 l_1n l_1c, .int .i64 depth_2, .pointer t2_3, .pointer t3_4]⟩ w R := calls_of_fnV Tryd.func89 (by rw [e_transcript_places_1_1]; exact h)

def an_charset_Check : Ann := .two (.leaf) (.two (.two (.leaf) (.two (.two (.leaf) (.leaf)) (.leaf))) (.two (.two (.leaf) (.one (.rf [2, 10] 0))) (.two (.leaf) (.leaf))))
def sh_charset_Check (s_1 : List UInt8) (R : Ending → World → Prop) (w : World) : Prop :=
  al w 28 [.int .i64 0] fun p2 w3 =>
  br (decide ((65536 : Int) < ((List.length s_1 : Int)))) (stL w3 p2 0 [.int .i64 4] fun w4 =>
  ∃ (x5 : Int), World.cell? w4 p2 = some (.int .i64 x5) ∧ (R (.returned (.int .i64 x5)) w4)) (Calls Tryd.prog 105 ⟨[.string ⟨⟨s_1⟩⟩]⟩ w3 fun (e6 : Ending) (w7 : World) =>
  ∃ (x8 : Fn) (x8a : Array Value) (x8b : Array Value), e6 = .returned (.func x8 x8a x8b) ∧ (∀ base9 : Env, RFw Tryd.prog none 22 (cdAt Tryd.f90 [1, 1, 0, 1, 2]) (upd (upd base9 10 (.func x8 x8a x8b)) 2 (.pointer (some p2))) [] w7 0 (fun ds10 w11 =>
  stL w11 p2 0 [.int .i64 0] fun w15 =>
  retD ds10 w15 fun w16 =>
  ∃ (x17 : Int), World.cell? w16 p2 = some (.int .i64 x17) ∧ (R (.returned (.int .i64 x17)) w16)) (fun ds10 w11 =>
  retD ds10 w11 fun w18 =>
  ∃ (x19 : Int), World.cell? w18 p2 = some (.int .i64 x19) ∧ (R (.returned (.int .i64 x19)) w18)) (fun ds10 w11 =>
  stL w11 p2 0 [.int .i64 0] fun w12 =>
  retD ds10 w12 fun w13 =>
  ∃ (x14 : Int), World.cell? w13 p2 = some (.int .i64 x14) ∧ (R (.returned (.int .i64 x14)) w13))))
set_option maxRecDepth 100000 in
theorem e_charset_Check (s_1 : List UInt8) (R : Ending → World → Prop) (w : World) : fnV Tryd.prog Tryd.f90 an_charset_Check [.string ⟨⟨s_1⟩⟩] R w = sh_charset_Check s_1 R w := by kernel_rfl
theorem c_charset_Check {s_1 : List UInt8} {R : Ending → World → Prop} {w : World} (h : sh_charset_Check s_1 R w) : Calls Tryd.prog F_charset_Check ⟨[.string ⟨⟨s_1⟩⟩]⟩ w R := calls_of_fnV Tryd.func90 (by rw [e_charset_Check]; exact h)
def anA_charset_Check_1 : Ann := .leaf
def anB_charset_Check_1 : Ann := .one (.two (.leaf) (.two (.leaf) (.two (.two (.leaf) (.leaf)) (.leaf))))
def rf_charset_Check_1 (t2_20 : Option Addr) (t10_21 : Fn) (t10_21a : Array Value) (t10_21b : Array Value) (t11_22 : Value) (t12_23 : List UInt8) (l : Nat) (Kn Kr Kx : World → World → Prop) (w : World) : Prop :=
  Ext w w ∧ ∀ w24 : World, Upd l w w24 → (sidx t12_23 0 fun b25 =>
  Calls Tryd.prog 41 ⟨[.int .u8 ((b25.toNat : Int))]⟩ w24 fun (e26 : Ending) (w27 : World) =>
  ∃ (x28 : Int), e26 = .returned (.int .i64 x28) ∧ (br (decide ((x28 : Int) = 0)) (dr t2_20 fun p30 =>
  stL w27 p30 0 [.int .i64 11] fun w29 =>
  Kr w24 w29) (br (decide ((x28 : Int) = 2)) (dr t2_20 fun p32 =>
  stL w27 p32 0 [.int .i64 11] fun w31 =>
  Kr w24 w31) (Kn w24 w27))))
set_option maxRecDepth 100000 in
theorem er_charset_Check_1 (base : Env) (t2_20 : Option Addr) (t10_21 : Fn) (t10_21a : Array Value) (t10_21b : Array Value) (t11_22 : Value) (t12_23 : List UInt8) (l : Nat) (Kn Kr Kx : World → World → Prop) (w : World) : fragV Tryd.prog 22 anA_charset_Check_1 anB_charset_Check_1 (cdAt Tryd.f90 [1, 1, 0, 1, 2, 5]) (cdAt Tryd.f90 [1, 1, 0, 1, 2, 6]) l 0 Kn Kr Kx (updPs [11, 12] [t11_22, .string ⟨⟨t12_23⟩⟩] (upd (upd base 10 (.func t10_21 t10_21a t10_21b)) 2 (.pointer t2_20))) w = rf_charset_Check_1 t2_20 t10_21 t10_21a t10_21b t11_22 t12_23 l Kn Kr Kx w := by kernel_rfl
theorem cd_charset_Check_1 : cdAt Tryd.f90 [1, 1, 0, 1, 2] = .rangeFunc (Operand.tmp 10) #[11, 12] (cdAt Tryd.f90 [1, 1, 0, 1, 2, 5]) (cdAt Tryd.f90 [1, 1, 0, 1, 2, 6]) := by kernel_rfl

def an_charset_IsWord : Ann := .two (.leaf) (.cut 65524 [] (.two (.leaf) (.two (.two (.leaf) (.leaf)) (.leaf))) (.cut 33488908 [] (.two (.leaf) (.two (.leaf) (.two (.two (.leaf) (.leaf)) (.leaf)))) (.two (.leaf) (.leaf))))
def sh_charset_IsWord (s_1 : List UInt8) (R : Ending → World → Prop) (w : World) : Prop :=
  ∀ (K2 : World → Prop), (∀  (w3 : World), (∀ _ : Env, (∀ (K4 : World → Prop), (∀  (w5 : World), (∀ _ : Env, (s2b Tryd.prog w5 5 s_1 fun a6 a6n a6c w7 =>
  Calls Tryd.prog 106 ⟨[.slice a6 a6n a6c, .func (.func 107) #[] #[]]⟩ w7 fun (e8 : Ending) (w9 : World) =>
  ∃ (x10 : Bool), e8 = .returned (.bool x10) ∧ (R (.returned (.bool (!x10))) w9))) → K4 w5) → (sidx s_1 0 fun b11 =>
  Calls Tryd.prog 41 ⟨[.int .u8 ((b11.toNat : Int))]⟩ w3 fun (e12 : Ending) (w13 : World) =>
  ∃ (x14 : Int), e12 = .returned (.int .i64 x14) ∧ (br (decide ((x14 : Int) ≠ 1)) (br (decide ((x14 : Int) ≠ 3)) (R (.returned (.bool false)) w13) (K4 w13)) (K4 w13))))) → K2 w3) → (br (decide ((s_1 : List UInt8) = ([]))) (R (.returned (.bool false)) w) (br (decide ((64 : Int) < ((List.length s_1 : Int)))) (R (.returned (.bool false)) w) (Calls Tryd.prog 90 ⟨[.string ⟨⟨s_1⟩⟩]⟩ w fun (e15 : Ending) (w16 : World) =>
  ∃ (x17 : Int), e15 = .returned (.int .i64 x17) ∧ (br (decide ((x17 : Int) ≠ 0)) (R (.returned (.bool false)) w16) (K2 w16)))))
set_option maxRecDepth 100000 in
theorem e_charset_IsWord (s_1 : List UInt8) (R : Ending → World → Prop) (w : World) : fnV Tryd.prog Tryd.f91 an_charset_IsWord [.string ⟨⟨s_1⟩⟩] R w = sh_charset_IsWord s_1 R w := by kernel_rfl
theorem c_charset_IsWord {s_1 : List UInt8} {R : Ending → World → Prop} {w : World} (h : sh_charset_IsWord s_1 R w) : Calls Tryd.prog F_charset_IsWord ⟨[.string ⟨⟨s_1⟩⟩]⟩ w R := calls_of_fnV Tryd.func91 (by rw [e_charset_IsWord]; exact h)

end Go.Proofs
