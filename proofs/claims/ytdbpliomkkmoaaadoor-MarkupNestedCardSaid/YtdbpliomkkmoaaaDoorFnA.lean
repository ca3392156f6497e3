/- Written by program: for each function its verification condition, that it is the code's (by the kernel), and that it gives the call. -/
import Derived.Test.YtdbpliomkkmoaaaDoorFn
namespace Go.Proofs
open Go Go.Sh
def an_law09_MarkupLossless : Ann := .two (.leaf) (.cut 2088976 [] (.two (.leaf) (.two (.two (.leaf) (.leaf)) (.leaf))) (.cut 281474974614000 [] (.two (.leaf) (.two (.leaf) (.two (.two (.leaf) (.two (.leaf) (.two (.two (.leaf) (.leaf)) (.leaf)))) (.two (.leaf) (.two (.two (.leaf) (.leaf)) (.leaf)))))) (.two (.leaf) (.two (.two (.leaf) (.two (.two (.leaf) (.leaf)) (.leaf))) (.two (.leaf) (.two (.leaf) (.leaf)))))))
def sh_law09_MarkupLossless (s_1 : List UInt8) (l_2 : Option Addr) (l_2n : Nat) (l_2c : Nat) (R : Ending → World → Prop) (w : World) : Prop :=
  ∀ (K3 : World → Prop), (∀  (w4 : World), (∀ _ : Env, (∀ (K5 : World → Prop), (∀  (w6 : World), (∀ _ : Env, (Calls Tryd.prog 12 ⟨[.slice l_2 l_2n l_2c]⟩ w6 fun (e7 : Ending) (w8 : World) =>
  ∃ (x9 : List UInt8) (x10 : Int), e7 = .returned (.tuple ⟨[.string ⟨⟨x9⟩⟩, .int .i64 x10]⟩) ∧ (br (decide ((x10 : Int) ≠ 0)) (Calls Tryd.prog 13 ⟨[.slice l_2 l_2n l_2c]⟩ w8 fun (e11 : Ending) (w12 : World) =>
  ∃ (x13 : Int), e11 = .returned (.int .i64 x13) ∧ (br (decide ((x13 : Int) ≠ 0)) (br (decide ((x9 : List UInt8) = ([]))) (Calls Tryd.prog 10 ⟨[]⟩ w12 fun (e14 : Ending) (w15 : World) =>
  ∃ (x16 : Bool), e14 = .returned (.bool x16) ∧ (R (.returned (.bool x16)) w15)) (R (.returned (.bool false)) w12)) (R (.returned (.bool false)) w12))) (Calls Tryd.prog 11 ⟨[.string ⟨⟨x9⟩⟩]⟩ w8 fun (e17 : Ending) (w18 : World) =>
  ∃ (x19 : Option Addr) (x19n : Nat) (x19c : Nat) (x20 : Int), e17 = .returned (.tuple ⟨[.slice x19 x19n x19c, .int .i64 x20]⟩) ∧ (br (decide ((x20 : Int) = 0)) (Calls Tryd.prog 14 ⟨[.slice l_2 l_2n l_2c, .slice x19 x19n x19c]⟩ w18 fun (e21 : Ending) (w22 : World) =>
  ∃ (x23 : Bool), e21 = .returned (.bool x23) ∧ (br x23 (Calls Tryd.prog 10 ⟨[]⟩ w22 fun (e24 : Ending) (w25 : World) =>
  ∃ (x26 : Bool), e24 = .returned (.bool x26) ∧ (R (.returned (.bool x26)) w25)) (R (.returned (.bool false)) w22))) (R (.returned (.bool false)) w18)))))) → K5 w6) → (Calls Tryd.prog 11 ⟨[.string ⟨⟨s_1⟩⟩]⟩ w4 fun (e27 : Ending) (w28 : World) =>
  ∃ (x29 : Option Addr) (x29n : Nat) (x29c : Nat) (x30 : Int), e27 = .returned (.tuple ⟨[.slice x29 x29n x29c, .int .i64 x30]⟩) ∧ (br (decide ((x30 : Int) = 0)) (Calls Tryd.prog 12 ⟨[.slice x29 x29n x29c]⟩ w28 fun (e31 : Ending) (w32 : World) =>
  ∃ (x33 : List UInt8) (x34 : Int), e31 = .returned (.tuple ⟨[.string ⟨⟨x33⟩⟩, .int .i64 x34]⟩) ∧ (br (decide ((x34 : Int) ≠ 0)) (R (.returned (.bool false)) w32) (br (decide ((x33 : List UInt8) ≠ s_1)) (R (.returned (.bool false)) w32) (Calls Tryd.prog 13 ⟨[.slice x29 x29n x29c]⟩ w32 fun (e35 : Ending) (w36 : World) =>
  ∃ (x37 : Int), e35 = .returned (.int .i64 x37) ∧ (br (decide ((x37 : Int) ≠ 0)) (R (.returned (.bool false)) w36) (K5 w36)))))) (br (decide ((((x29n : Int)) : Int) ≠ 0)) (R (.returned (.bool false)) w28) (K5 w28)))))) → K3 w4) → (br (decide ((200 : Int) < ((List.length s_1 : Int)))) (Calls Tryd.prog 10 ⟨[]⟩ w fun (e38 : Ending) (w39 : World) =>
  ∃ (x40 : Bool), e38 = .returned (.bool x40) ∧ (R (.returned (.bool x40)) w39)) (Calls Tryd.prog 9 ⟨[.slice l_2 l_2n l_2c]⟩ w fun (e41 : Ending) (w42 : World) =>
  ∃ (x43 : Bool), e41 = .returned (.bool x43) ∧ (br x43 (Calls Tryd.prog 10 ⟨[]⟩ w42 fun (e44 : Ending) (w45 : World) =>
  ∃ (x46 : Bool), e44 = .returned (.bool x46) ∧ (R (.returned (.bool x46)) w45)) (K3 w42))))
set_option maxRecDepth 100000 in
theorem e_law09_MarkupLossless (s_1 : List UInt8) (l_2 : Option Addr) (l_2n : Nat) (l_2c : Nat) (R : Ending → World → Prop) (w : World) : fnV Tryd.prog Tryd.f3 an_law09_MarkupLossless [.string ⟨⟨s_1⟩⟩, .slice l_2 l_2n l_2c] R w = sh_law09_MarkupLossless s_1 l_2 l_2n l_2c R w := by kernel_rfl
theorem c_law09_MarkupLossless {s_1 : List UInt8} {l_2 : Option Addr} {l_2n : Nat} {l_2c : Nat} {R : Ending → World → Prop} {w : World} (h : sh_law09_MarkupLossless s_1 l_2 l_2n l_2c R w) : Calls Tryd.prog F_law09_MarkupLossless ⟨[.string ⟨⟨s_1⟩⟩, .slice l_2 l_2n l_2c]⟩ w R := calls_of_fnV Tryd.func3 (by rw [e_law09_MarkupLossless]; exact h)

def an_law09_MarkupStrips : Ann := .two (.leaf) (.two (.two (.leaf) (.two (.two (.leaf) (.leaf)) (.leaf))) (.two (.leaf) (.cut 134184964 [] (.two (.leaf) (.two (.two (.leaf) (.leaf)) (.leaf))) (.two (.two (.leaf) (.two (.two (.leaf) (.leaf)) (.leaf))) (.two (.two (.leaf) (.one (.loop 35115652612132 [(36, .one (.int .i64))] (.two (.leaf) (.two (.two (.leaf) (.leaf)) (.two (.one (.two (.leaf) (.two (.leaf) (.two (.two (.leaf) (.leaf)) (.leaf))))) (.leaf))))))) (.two (.leaf) (.leaf)))))))
def sh_law09_MarkupStrips (s_1 : List UInt8) (R : Ending → World → Prop) (w : World) : Prop :=
  br (decide ((200 : Int) < ((List.length s_1 : Int)))) (Calls Tryd.prog 10 ⟨[]⟩ w fun (e2 : Ending) (w3 : World) =>
  ∃ (x4 : Bool), e2 = .returned (.bool x4) ∧ (R (.returned (.bool x4)) w3)) (Calls Tryd.prog 15 ⟨[.string ⟨⟨s_1⟩⟩]⟩ w fun (e5 : Ending) (w6 : World) =>
  ∃ (x7 : List UInt8) (x8 : Int), e5 = .returned (.tuple ⟨[.string ⟨⟨x7⟩⟩, .int .i64 x8]⟩) ∧ (∀ (K9 : World → Prop), (∀  (w10 : World), (∀ _ : Env, (br (decide ((x8 : Int) ≠ 0)) (br (decide ((x7 : List UInt8) = ([]))) (Calls Tryd.prog 10 ⟨[]⟩ w10 fun (e11 : Ending) (w12 : World) =>
  ∃ (x13 : Bool), e11 = .returned (.bool x13) ∧ (R (.returned (.bool x13)) w12)) (R (.returned (.bool false)) w10)) (∃ (I14 : Int → World → Nat → Prop), (∃ m18 : Nat, I14 0 w10 m18) ∧ ∀ (t36_15 : Int) (w16 : World) (m17 : Nat), I14 t36_15 w16 m17 → ∀ _ : Env, (br (decide ((t36_15 : Int) < ((List.length x7 : Int)))) (sidx x7 t36_15 fun b19 =>
  Calls Tryd.prog 17 ⟨[.int .u8 ((b19.toNat : Int))]⟩ w16 fun (e20 : Ending) (w21 : World) =>
  ∃ (x22 : Int), e20 = .returned (.int .i64 x22) ∧ (br (decide ((x22 : Int) = 0)) (R (.returned (.bool false)) w21) (∃ m23 : Nat, m23 < m17 ∧ I14 (IntKind.i64.wrap (t36_15 + 1)) w21 m23))) (br (decide ((((List.length x7 : Int)) : Int) ≤ ((List.length s_1 : Int)))) (Calls Tryd.prog 18 ⟨[.string ⟨⟨x7⟩⟩, .string ⟨⟨[60, 62, 47]⟩⟩]⟩ w16 fun (e24 : Ending) (w25 : World) =>
  ∃ (x26 : Bool), e24 = .returned (.bool x26) ∧ (br (!x26) (Calls Tryd.prog 10 ⟨[]⟩ w25 fun (e27 : Ending) (w28 : World) =>
  ∃ (x29 : Bool), e27 = .returned (.bool x29) ∧ (R (.returned (.bool x29)) w28)) (R (.returned (.bool false)) w25))) (R (.returned (.bool false)) w16)))))) → K9 w10) → (Calls Tryd.prog 16 ⟨[.string ⟨⟨s_1⟩⟩]⟩ w6 fun (e30 : Ending) (w31 : World) =>
  ∃ (x32 : Int), e30 = .returned (.int .i64 x32) ∧ (br (decide ((x32 : Int) = 0)) (br (decide ((x8 : Int) ≠ 0)) (R (.returned (.bool false)) w31) (br (decide ((x7 : List UInt8) ≠ s_1)) (R (.returned (.bool false)) w31) (K9 w31))) (K9 w31)))))
set_option maxRecDepth 100000 in
theorem e_law09_MarkupStrips (s_1 : List UInt8) (R : Ending → World → Prop) (w : World) : fnV Tryd.prog Tryd.f4 an_law09_MarkupStrips [.string ⟨⟨s_1⟩⟩] R w = sh_law09_MarkupStrips s_1 R w := by kernel_rfl
theorem c_law09_MarkupStrips {s_1 : List UInt8} {R : Ending → World → Prop} {w : World} (h : sh_law09_MarkupStrips s_1 R w) : Calls Tryd.prog F_law09_MarkupStrips ⟨[.string ⟨⟨s_1⟩⟩]⟩ w R := calls_of_fnV Tryd.func4 (by rw [e_law09_MarkupStrips]; exact h)

def an_law09_MarkupTags : Ann := .two (.leaf) (.two (.leaf) (.two (.cut 2147467264 [(30, .one (.bool))] (.leaf) (.two (.two (.leaf) (.leaf)) (.leaf))) (.two (.two (.leaf) (.one (.loop 19807040628566075602292973540 [(43, .one (.int .i64))] (.two (.leaf) (.two (.two (.leaf) (.leaf)) (.two (.one (.two (.leaf) (.two (.leaf) (.cut 17732923532771392 [(6, .one (.str))] (.two (.leaf) (.two (.leaf) (.leaf))) (.two (.leaf) (.two (.leaf) (.two (.leaf) (.two (.leaf) (.two (.two (.leaf) (.leaf)) (.leaf)))))))))) (.leaf))))))) (.two (.leaf) (.leaf)))))
def sh_law09_MarkupTags (value_1 : List UInt8) (R : Ending → World → Prop) (w : World) : Prop :=
  Calls Tryd.prog 19 ⟨[]⟩ w fun (e2 : Ending) (w3 : World) =>
  ∃ (x4 : Option Addr) (x4n : Nat) (x4c : Nat), e2 = .returned (.slice x4 x4n x4c) ∧ (∀ (K5 : Bool → World → Prop), (∀ (t30_6 : Bool) (w7 : World), (∀ _ : Env, (br t30_6 (br (decide ((((x4n : Int)) : Int) = 10)) (Calls Tryd.prog 20 ⟨[.slice x4 x4n x4c]⟩ w7 fun (e8 : Ending) (w9 : World) =>
  ∃ (x10 : Bool), e8 = .returned (.bool x10) ∧ (br x10 (Calls Tryd.prog 10 ⟨[]⟩ w9 fun (e11 : Ending) (w12 : World) =>
  ∃ (x13 : Bool), e11 = .returned (.bool x13) ∧ (R (.returned (.bool x13)) w12)) (R (.returned (.bool false)) w9))) (R (.returned (.bool false)) w7)) (∃ (I14 : Int → World → Nat → Prop), (∃ m18 : Nat, I14 0 w7 m18) ∧ ∀ (t43_15 : Int) (w16 : World) (m17 : Nat), I14 t43_15 w16 m17 → ∀ _ : Env, (br (decide ((t43_15 : Int) < ((x4n : Int)))) (idx x4 x4n t43_15 1 fun p19 =>
  ∃ (x20 : List UInt8), World.cell? w16 p19 = some (.string ⟨⟨x20⟩⟩) ∧ (∀ (K21 : List UInt8 → World → Prop), (∀ (s_22 : List UInt8) (w23 : World), (∀ _ : Env, (sadd ([60]) s_22 fun s24 =>
  sadd s24 ([62]) fun s25 =>
  Calls Tryd.prog 11 ⟨[.string ⟨⟨s25⟩⟩]⟩ w23 fun (e26 : Ending) (w27 : World) =>
  ∃ (x28 : Option Addr) (x28n : Nat) (x28c : Nat) (x29 : Int), e26 = .returned (.tuple ⟨[.slice x28 x28n x28c, .int .i64 x29]⟩) ∧ (sadd ([60]) s_22 fun s30 =>
  sadd s30 ([47, 62]) fun s31 =>
  Calls Tryd.prog 11 ⟨[.string ⟨⟨s31⟩⟩]⟩ w27 fun (e32 : Ending) (w33 : World) =>
  ∃ (x34 : Option Addr) (x34n : Nat) (x34c : Nat) (x35 : Int), e32 = .returned (.tuple ⟨[.slice x34 x34n x34c, .int .i64 x35]⟩) ∧ (sadd ([60, 47]) x20 fun s36 =>
  sadd s36 ([62]) fun s37 =>
  Calls Tryd.prog 11 ⟨[.string ⟨⟨s37⟩⟩]⟩ w33 fun (e38 : Ending) (w39 : World) =>
  ∃ (x40 : Option Addr) (x40n : Nat) (x40c : Nat) (x41 : Int), e38 = .returned (.tuple ⟨[.slice x40 x40n x40c, .int .i64 x41]⟩) ∧ (br (decide ((x29 : Int) = 0)) (br (decide ((x35 : Int) = 0)) (R (.returned (.bool false)) w39) (br (decide ((x41 : Int) ≠ 0)) (R (.returned (.bool false)) w39) (br (decide ((x35 : Int) = 0)) (br (decide ((x41 : Int) = 0)) (R (.returned (.bool false)) w39) (∃ m42 : Nat, m42 < m17 ∧ I14 (IntKind.i64.wrap (t43_15 + 1)) w39 m42)) (∃ m43 : Nat, m43 < m17 ∧ I14 (IntKind.i64.wrap (t43_15 + 1)) w39 m43)))) (br (decide ((x35 : Int) = 0)) (br (decide ((x41 : Int) = 0)) (R (.returned (.bool false)) w39) (∃ m44 : Nat, m44 < m17 ∧ I14 (IntKind.i64.wrap (t43_15 + 1)) w39 m44)) (∃ m45 : Nat, m45 < m17 ∧ I14 (IntKind.i64.wrap (t43_15 + 1)) w39 m45))))))) → K21 s_22 w23) → (br (decide ((value_1 : List UInt8) ≠ ([]))) (sadd ([32]) value_1 fun s46 =>
  sadd x20 s46 fun s47 =>
  K21 s47 w16) (K21 x20 w16)))) (Calls Tryd.prog 10 ⟨[]⟩ w16 fun (e48 : Ending) (w49 : World) =>
  ∃ (x50 : Bool), e48 = .returned (.bool x50) ∧ (R (.returned (.bool x50)) w49)))))) → K5 t30_6 w7) → (br (decide ((20 : Int) < ((List.length value_1 : Int)))) (K5 true w3) (Calls Tryd.prog 18 ⟨[.string ⟨⟨value_1⟩⟩, .string ⟨⟨[32, 60, 62, 47]⟩⟩]⟩ w3 fun (e51 : Ending) (w52 : World) =>
  ∃ (x53 : Bool), e51 = .returned (.bool x53) ∧ (br x53 (K5 true w52) (br (decide ((((x4n : Int)) : Int) ≠ 10)) (K5 true w52) (Calls Tryd.prog 20 ⟨[.slice x4 x4n x4c]⟩ w52 fun (e54 : Ending) (w55 : World) =>
  ∃ (x56 : Bool), e54 = .returned (.bool x56) ∧ (K5 (!x56) w55)))))))
set_option maxRecDepth 100000 in
theorem e_law09_MarkupTags (value_1 : List UInt8) (R : Ending → World → Prop) (w : World) : fnV Tryd.prog Tryd.f5 an_law09_MarkupTags [.string ⟨⟨value_1⟩⟩] R w = sh_law09_MarkupTags value_1 R w := by kernel_rfl
theorem c_law09_MarkupTags {value_1 : List UInt8} {R : Ending → World → Prop} {w : World} (h : sh_law09_MarkupTags value_1 R w) : Calls Tryd.prog F_law09_MarkupTags ⟨[.string ⟨⟨value_1⟩⟩]⟩ w R := calls_of_fnV Tryd.func5 (by rw [e_law09_MarkupTags]; exact h)

def an_law09_MarkupOffsets : Ann := .two (.leaf) (.two (.leaf) (.cut 33423364 [] (.two (.leaf) (.two (.two (.leaf) (.leaf)) (.leaf))) (.two (.two (.leaf) (.one (.loop 37778931862957027492068 [(27, .one (.int .i64))] (.two (.leaf) (.two (.two (.leaf) (.leaf)) (.two (.one (.two (.leaf) (.two (.leaf) (.two (.leaf) (.two (.two (.leaf) (.leaf)) (.leaf)))))) (.leaf))))))) (.cut 38647847295805176428888068 [] (.two (.leaf) (.two (.two (.leaf) (.leaf)) (.leaf))) (.two (.leaf) (.two (.leaf) (.two (.leaf) (.leaf))))))))
def sh_law09_MarkupOffsets (s_1 : List UInt8) (R : Ending → World → Prop) (w : World) : Prop :=
  Calls Tryd.prog 11 ⟨[.string ⟨⟨s_1⟩⟩]⟩ w fun (e2 : Ending) (w3 : World) =>
  ∃ (x4 : Option Addr) (x4n : Nat) (x4c : Nat) (x5 : Int), e2 = .returned (.tuple ⟨[.slice x4 x4n x4c, .int .i64 x5]⟩) ∧ (∀ (K6 : World → Prop), (∀  (w7 : World), (∀ _ : Env, (∃ (I8 : Int → World → Nat → Prop), (∃ m12 : Nat, I8 0 w7 m12) ∧ ∀ (t27_9 : Int) (w10 : World) (m11 : Nat), I8 t27_9 w10 m11 → ∀ _ : Env, (br (decide ((t27_9 : Int) < ((List.length s_1 : Int)))) (Calls Tryd.prog 21 ⟨[.slice x4 x4n x4c, .int .i64 t27_9]⟩ w10 fun (e13 : Ending) (w14 : World) =>
  ∃ (x15 : Int) (x16 : Int), e13 = .returned (.tuple ⟨[.int .i64 x15, .int .i64 x16]⟩) ∧ (br (decide ((x16 : Int) ≠ 0)) (R (.returned (.bool false)) w14) (br (decide ((x15 : Int) < 0)) (R (.returned (.bool false)) w14) (br (decide ((((x4n : Int)) : Int) ≤ x15)) (R (.returned (.bool false)) w14) (idx x4 x4n x15 4 fun p17 =>
  ∃ (x18 : Int), World.cell? w14 (p17.add 3) = some (.int .i64 x18) ∧ (br (decide ((t27_9 : Int) < x18)) (R (.returned (.bool false)) w14) (br (decide (((IntKind.i64.wrap (x15 + 1)) : Int) < ((x4n : Int)))) (idx x4 x4n (IntKind.i64.wrap (x15 + 1)) 4 fun p19 =>
  ∃ (x20 : Int), World.cell? w14 (p19.add 3) = some (.int .i64 x20) ∧ (br (decide ((x20 : Int) ≤ t27_9)) (R (.returned (.bool false)) w14) (∃ m21 : Nat, m21 < m11 ∧ I8 (IntKind.i64.wrap (t27_9 + 1)) w14 m21))) (∃ m22 : Nat, m22 < m11 ∧ I8 (IntKind.i64.wrap (t27_9 + 1)) w14 m22)))))))) (∀ (K23 : World → Prop), (∀  (w24 : World), (∀ _ : Env, (Calls Tryd.prog 21 ⟨[.slice x4 x4n x4c, .int .i64 ((List.length s_1 : Int))]⟩ w24 fun (e25 : Ending) (w26 : World) =>
  ∃ (x27 : Int) (x28 : Int), e25 = .returned (.tuple ⟨[.int .i64 x27, .int .i64 x28]⟩) ∧ (Calls Tryd.prog 21 ⟨[.slice x4 x4n x4c, .int .i64 ((-1))]⟩ w26 fun (e29 : Ending) (w30 : World) =>
  ∃ (x31 : Int) (x32 : Int), e29 = .returned (.tuple ⟨[.int .i64 x31, .int .i64 x32]⟩) ∧ (br (decide ((x28 : Int) = 2)) (br (decide ((x32 : Int) = 2)) (Calls Tryd.prog 10 ⟨[]⟩ w30 fun (e33 : Ending) (w34 : World) =>
  ∃ (x35 : Bool), e33 = .returned (.bool x35) ∧ (R (.returned (.bool x35)) w34)) (R (.returned (.bool false)) w30)) (R (.returned (.bool false)) w30))))) → K23 w24) → (br (decide ((0 : Int) < ((x4n : Int)))) (idx x4 x4n 0 4 fun p36 =>
  ∃ (x37 : Int), World.cell? w10 (p36.add 3) = some (.int .i64 x37) ∧ (br (decide ((x37 : Int) ≠ 0)) (R (.returned (.bool false)) w10) (K23 w10))) (K23 w10)))))) → K6 w7) → (br (decide ((60 : Int) < ((List.length s_1 : Int)))) (Calls Tryd.prog 10 ⟨[]⟩ w3 fun (e38 : Ending) (w39 : World) =>
  ∃ (x40 : Bool), e38 = .returned (.bool x40) ∧ (R (.returned (.bool x40)) w39)) (br (decide ((x5 : Int) ≠ 0)) (Calls Tryd.prog 10 ⟨[]⟩ w3 fun (e41 : Ending) (w42 : World) =>
  ∃ (x43 : Bool), e41 = .returned (.bool x43) ∧ (R (.returned (.bool x43)) w42)) (K6 w3))))
set_option maxRecDepth 100000 in
theorem e_law09_MarkupOffsets (s_1 : List UInt8) (R : Ending → World → Prop) (w : World) : fnV Tryd.prog Tryd.f6 an_law09_MarkupOffsets [.string ⟨⟨s_1⟩⟩] R w = sh_law09_MarkupOffsets s_1 R w := by kernel_rfl
theorem c_law09_MarkupOffsets {s_1 : List UInt8} {R : Ending → World → Prop} {w : World} (h : sh_law09_MarkupOffsets s_1 R w) : Calls Tryd.prog F_law09_MarkupOffsets ⟨[.string ⟨⟨s_1⟩⟩]⟩ w R := calls_of_fnV Tryd.func6 (by rw [e_law09_MarkupOffsets]; exact h)

def an_law09_MarkupJoined : Ann := .two (.leaf) (.cut 66977808 [] (.two (.leaf) (.two (.two (.leaf) (.leaf)) (.leaf))) (.two (.leaf) (.two (.leaf) (.cut 8727373545488 [] (.two (.leaf) (.two (.two (.leaf) (.leaf)) (.leaf))) (.two (.leaf) (.two (.leaf) (.two (.leaf) (.two (.leaf) (.cut 302083880951067617263632 [] (.two (.leaf) (.two (.two (.leaf) (.leaf)) (.leaf))) (.cut 154440273455768877068714000 [] (.two (.leaf) (.two (.two (.leaf) (.leaf)) (.leaf))) (.two (.cut 5192296703792322717857961966829568 [(111, .one (.bool))] (.leaf) (.two (.two (.leaf) (.leaf)) (.leaf))) (.two (.leaf) (.leaf)))))))))))))
def sh_law09_MarkupJoined (s_1 : List UInt8) (t_2 : List UInt8) (R : Ending → World → Prop) (w : World) : Prop :=
  ∀ (K3 : World → Prop), (∀  (w4 : World), (∀ _ : Env, (Calls Tryd.prog 11 ⟨[.string ⟨⟨s_1⟩⟩]⟩ w4 fun (e5 : Ending) (w6 : World) =>
  ∃ (x7 : Option Addr) (x7n : Nat) (x7c : Nat) (x8 : Int), e5 = .returned (.tuple ⟨[.slice x7 x7n x7c, .int .i64 x8]⟩) ∧ (Calls Tryd.prog 11 ⟨[.string ⟨⟨t_2⟩⟩]⟩ w6 fun (e9 : Ending) (w10 : World) =>
  ∃ (x11 : Option Addr) (x11n : Nat) (x11c : Nat) (x12 : Int), e9 = .returned (.tuple ⟨[.slice x11 x11n x11c, .int .i64 x12]⟩) ∧ (∀ (K13 : World → Prop), (∀  (w14 : World), (∀ _ : Env, (sadd s_1 t_2 fun s15 =>
  Calls Tryd.prog 11 ⟨[.string ⟨⟨s15⟩⟩]⟩ w14 fun (e16 : Ending) (w17 : World) =>
  ∃ (x18 : Option Addr) (x18n : Nat) (x18c : Nat) (x19 : Int), e16 = .returned (.tuple ⟨[.slice x18 x18n x18c, .int .i64 x19]⟩) ∧ (Calls Tryd.prog 15 ⟨[.string ⟨⟨s_1⟩⟩]⟩ w17 fun (e20 : Ending) (w21 : World) =>
  ∃ (x22 : List UInt8) (x23 : Int), e20 = .returned (.tuple ⟨[.string ⟨⟨x22⟩⟩, .int .i64 x23]⟩) ∧ (Calls Tryd.prog 15 ⟨[.string ⟨⟨t_2⟩⟩]⟩ w21 fun (e24 : Ending) (w25 : World) =>
  ∃ (x26 : List UInt8) (x27 : Int), e24 = .returned (.tuple ⟨[.string ⟨⟨x26⟩⟩, .int .i64 x27]⟩) ∧ (sadd s_1 t_2 fun s28 =>
  Calls Tryd.prog 15 ⟨[.string ⟨⟨s28⟩⟩]⟩ w25 fun (e29 : Ending) (w30 : World) =>
  ∃ (x31 : List UInt8) (x32 : Int), e29 = .returned (.tuple ⟨[.string ⟨⟨x31⟩⟩, .int .i64 x32]⟩) ∧ (∀ (K33 : World → Prop), (∀  (w34 : World), (∀ _ : Env, (∀ (K35 : World → Prop), (∀  (w36 : World), (∀ _ : Env, (∀ (K37 : Bool → World → Prop), (∀ (t111_38 : Bool) (w39 : World), (∀ _ : Env, (br t111_38 (br (decide ((x19 : Int) = 0)) (br (decide ((((x18n : Int)) : Int) = (IntKind.i64.wrap ((IntKind.i64.wrap (((x7n : Int)) + ((x11n : Int)))) - 1)))) (Calls Tryd.prog 10 ⟨[]⟩ w39 fun (e40 : Ending) (w41 : World) =>
  ∃ (x42 : Bool), e40 = .returned (.bool x42) ∧ (R (.returned (.bool x42)) w41)) (br (decide ((x19 : Int) = 11)) (Calls Tryd.prog 10 ⟨[]⟩ w39 fun (e43 : Ending) (w44 : World) =>
  ∃ (x45 : Bool), e43 = .returned (.bool x45) ∧ (R (.returned (.bool x45)) w44)) (R (.returned (.bool false)) w39))) (br (decide ((x19 : Int) = 11)) (Calls Tryd.prog 10 ⟨[]⟩ w39 fun (e46 : Ending) (w47 : World) =>
  ∃ (x48 : Bool), e46 = .returned (.bool x48) ∧ (R (.returned (.bool x48)) w47)) (R (.returned (.bool false)) w39))) (br (decide ((x19 : Int) = 0)) (Calls Tryd.prog 23 ⟨[.slice x11 x11n x11c, .int .i64 ((List.length s_1 : Int))]⟩ w39 fun (e49 : Ending) (w50 : World) =>
  ∃ (x51 : Option Addr) (x51n : Nat) (x51c : Nat), e49 = .returned (.slice x51 x51n x51c) ∧ (al w50 22 [.slice x7 x7n x7c, .slice x51 x51n x51c] fun p52 w53 =>
  Calls Tryd.prog 22 ⟨[.slice (some p52) 2 2]⟩ w53 fun (e54 : Ending) (w55 : World) =>
  ∃ (x56 : Option Addr) (x56n : Nat) (x56c : Nat), e54 = .returned (.slice x56 x56n x56c) ∧ (Calls Tryd.prog 14 ⟨[.slice x18 x18n x18c, .slice x56 x56n x56c]⟩ w55 fun (e57 : Ending) (w58 : World) =>
  ∃ (x59 : Bool), e57 = .returned (.bool x59) ∧ (br x59 (Calls Tryd.prog 10 ⟨[]⟩ w58 fun (e60 : Ending) (w61 : World) =>
  ∃ (x62 : Bool), e60 = .returned (.bool x62) ∧ (R (.returned (.bool x62)) w61)) (R (.returned (.bool false)) w58))))) (R (.returned (.bool false)) w39)))) → K37 t111_38 w39) → (br (decide ((0 : Int) < ((x7n : Int)))) (br (decide ((0 : Int) < ((x11n : Int)))) (idx x7 x7n (IntKind.i64.wrap (((x7n : Int)) - 1)) 4 fun p63 =>
  ∃ (x64 : Int), World.cell? w36 (p63.add 0) = some (.int .i64 x64) ∧ (br (decide ((x64 : Int) = 1)) (idx x11 x11n 0 4 fun p65 =>
  ∃ (x66 : Int), World.cell? w36 (p65.add 0) = some (.int .i64 x66) ∧ (K37 (decide ((x66 : Int) = 1)) w36)) (K37 false w36))) (K37 false w36)) (K37 false w36)))) → K35 w36) → (br (decide ((x19 : Int) = 0)) (sadd x22 x26 fun s67 =>
  br (decide ((x31 : List UInt8) ≠ s67)) (R (.returned (.bool false)) w34) (K35 w34)) (K35 w34)))) → K33 w34) → (br (decide ((x19 : Int) ≠ x32)) (R (.returned (.bool false)) w30) (br (decide ((x23 : Int) ≠ 0)) (R (.returned (.bool false)) w30) (br (decide ((x27 : Int) ≠ 0)) (R (.returned (.bool false)) w30) (K33 w30)))))))))) → K13 w14) → (br (decide ((x8 : Int) ≠ 0)) (Calls Tryd.prog 10 ⟨[]⟩ w10 fun (e68 : Ending) (w69 : World) =>
  ∃ (x70 : Bool), e68 = .returned (.bool x70) ∧ (R (.returned (.bool x70)) w69)) (br (decide ((x12 : Int) ≠ 0)) (Calls Tryd.prog 10 ⟨[]⟩ w10 fun (e71 : Ending) (w72 : World) =>
  ∃ (x73 : Bool), e71 = .returned (.bool x73) ∧ (R (.returned (.bool x73)) w72)) (K13 w10))))))) → K3 w4) → (br (decide ((200 : Int) < ((List.length s_1 : Int)))) (Calls Tryd.prog 10 ⟨[]⟩ w fun (e74 : Ending) (w75 : World) =>
  ∃ (x76 : Bool), e74 = .returned (.bool x76) ∧ (R (.returned (.bool x76)) w75)) (br (decide ((200 : Int) < ((List.length t_2 : Int)))) (Calls Tryd.prog 10 ⟨[]⟩ w fun (e77 : Ending) (w78 : World) =>
  ∃ (x79 : Bool), e77 = .returned (.bool x79) ∧ (R (.returned (.bool x79)) w78)) (K3 w)))
set_option maxRecDepth 100000 in
theorem e_law09_MarkupJoined (s_1 : List UInt8) (t_2 : List UInt8) (R : Ending → World → Prop) (w : World) : fnV Tryd.prog Tryd.f7 an_law09_MarkupJoined [.string ⟨⟨s_1⟩⟩, .string ⟨⟨t_2⟩⟩] R w = sh_law09_MarkupJoined s_1 t_2 R w := by kernel_rfl
theorem c_law09_MarkupJoined {s_1 : List UInt8} {t_2 : List UInt8} {R : Ending → World → Prop} {w : World} (h : sh_law09_MarkupJoined s_1 t_2 R w) : Calls Tryd.prog F_law09_MarkupJoined ⟨[.string ⟨⟨s_1⟩⟩, .string ⟨⟨t_2⟩⟩]⟩ w R := calls_of_fnV Tryd.func7 (by rw [e_law09_MarkupJoined]; exact h)

def an_law09_MarkupNested : Ann := .two (.leaf) (.cut 17179738176 [] (.two (.leaf) (.two (.two (.leaf) (.leaf)) (.leaf))) (.two (.leaf) (.cut 1125831187366208 [] (.two (.leaf) (.two (.leaf) (.two (.two (.leaf) (.leaf)) (.leaf)))) (.two (.leaf) (.two (.leaf) (.two (.leaf) (.two (.two (.leaf) (.one (.loop 2475880077417839045191433216 [(10, .one (.int .i64)), (11, .one (.int .i64)), (12, .one (.slice)), (60, .one (.int .i64))] (.two (.leaf) (.two (.two (.leaf) (.leaf)) (.two (.one (.two (.leaf) (.cut 37742038374809742607360 [(10, .one (.int .i64))] (.two (.leaf) (.one (.two (.leaf) (.two (.leaf) (.two (.leaf) (.two (.leaf) (.leaf))))))) (.two (.leaf) (.cut 77069021000432609887518720 [(85, .one (.bool))] (.leaf) (.two (.leaf) (.leaf))))))) (.leaf))))))) (.cut 5068126520834346845437014573120 [] (.two (.leaf) (.two (.two (.leaf) (.leaf)) (.leaf))) (.two (.two (.leaf) (.two (.two (.leaf) (.leaf)) (.leaf))) (.two (.leaf) (.two (.leaf) (.two (.leaf) (.two (.leaf) (.leaf))))))))))))))
def sh_law09_MarkupNested (l_1 : Option Addr) (l_1n : Nat) (l_1c : Nat) (m_2 : Option Addr) (m_2n : Nat) (m_2c : Nat) (pick_3 : Int) (R : Ending → World → Prop) (w : World) : Prop :=
  ∀ (K4 : World → Prop), (∀  (w5 : World), (∀ _ : Env, (al w5 44 [.int .i64 4, .string ⟨⟨[108, 98]⟩⟩, .string ⟨⟨[]⟩⟩, .int .i64 0] fun p6 w7 =>
  ∀ (K8 : World → Prop), (∀  (w9 : World), (∀ _ : Env, (al w9 44 [.int .i64 2, .string ⟨⟨[117, 110, 99, 108, 101, 97, 114]⟩⟩, .string ⟨⟨[]⟩⟩, .int .i64 0] fun p10 w11 =>
  al w11 44 [.int .i64 3, .string ⟨⟨[117, 110, 99, 108, 101, 97, 114]⟩⟩, .string ⟨⟨[]⟩⟩, .int .i64 0] fun p12 w13 =>
  al w13 22 [.slice (some p10) 1 1, .slice l_1 l_1n l_1c, .slice (some p12) 1 1] fun p14 w15 =>
  Calls Tryd.prog 22 ⟨[.slice (some p14) 3 3]⟩ w15 fun (e16 : Ending) (w17 : World) =>
  ∃ (x18 : Option Addr) (x18n : Nat) (x18c : Nat), e16 = .returned (.slice x18 x18n x18c) ∧ (Calls Tryd.prog 25 ⟨[.slice x18 x18n x18c]⟩ w17 fun (e19 : Ending) (w20 : World) =>
  ∃ (x21 : Option Addr) (x21n : Nat) (x21c : Nat), e19 = .returned (.slice x21 x21n x21c) ∧ (∃ (I22 : Int → Int → Option Addr → Nat → Nat → Int → World → Nat → Prop), (∃ m29 : Nat, I22 0 0 none 0 0 0 w20 m29) ∧ ∀ (depth_23 : Int) (most_24 : Int) (tags_25 : Option Addr) (tags_25n : Nat) (tags_25c : Nat) (t60_26 : Int) (w27 : World) (m28 : Nat), I22 depth_23 most_24 tags_25 tags_25n tags_25c t60_26 w27 m28 → ∀ _ : Env, (br (decide ((t60_26 : Int) < ((l_1n : Int)))) (idx l_1 l_1n t60_26 4 fun p30 =>
  ∃ (x31 : Int), World.cell? w27 (p30.add 0) = some (.int .i64 x31) ∧ (∃ (x32 : List UInt8), World.cell? w27 (p30.add 1) = some (.string ⟨⟨x32⟩⟩) ∧ (∃ (x33 : List UInt8), World.cell? w27 (p30.add 2) = some (.string ⟨⟨x33⟩⟩) ∧ (∃ (x34 : Int), World.cell? w27 (p30.add 3) = some (.int .i64 x34) ∧ (al w27 44 [.int .i64 0, .string ⟨⟨[]⟩⟩, .string ⟨⟨[]⟩⟩, .int .i64 0] fun p35 w36 =>
  stL w36 p35 0 [.int .i64 x31, .string ⟨⟨x32⟩⟩, .string ⟨⟨x33⟩⟩, .int .i64 x34] fun w37 =>
  ∀ (K38 : Int → World → Prop), (∀ (depth_39 : Int) (w40 : World), (∀ _ : Env, (∀ (K41 : Bool → World → Prop), (∀ (t85_42 : Bool) (w43 : World), (∀ _ : Env, (br t85_42 (al w43 3 [.int .i64 t60_26] fun p44 w45 =>
  app Tryd.prog [48, 48] 48 (.slice tags_25 tags_25n tags_25c) (.slice (some p44) 1 1) w45 fun a46 a46n a46c w47 =>
  ∃ m48 : Nat, m48 < m28 ∧ I22 depth_39 ((max most_24 depth_39)) a46 a46n a46c (IntKind.i64.wrap (t60_26 + 1)) w47 m48) (∃ m49 : Nat, m49 < m28 ∧ I22 depth_39 ((max most_24 depth_39)) tags_25 tags_25n tags_25c (IntKind.i64.wrap (t60_26 + 1)) w43 m49))) → K41 t85_42 w43) → (∃ (x50 : Int), World.cell? w40 (p35.add 0) = some (.int .i64 x50) ∧ (br (decide ((x50 : Int) = 2)) (K41 true w40) (∃ (x51 : Int), World.cell? w40 (p35.add 0) = some (.int .i64 x51) ∧ (K41 (decide ((x51 : Int) = 3)) w40)))))) → K38 depth_39 w40) → (∃ (x52 : Int), World.cell? w37 (p35.add 0) = some (.int .i64 x52) ∧ (br (decide ((x52 : Int) = 2)) (K38 (IntKind.i64.wrap (depth_23 + 1)) w37) (br (decide ((x52 : Int) = 3)) (K38 (IntKind.i64.wrap (depth_23 - 1)) w37) (K38 depth_23 w37))))))))) (∀ (K53 : World → Prop), (∀  (w54 : World), (∀ _ : Env, (br (decide ((((tags_25n : Int)) : Int) = 0)) (Calls Tryd.prog 10 ⟨[]⟩ w54 fun (e55 : Ending) (w56 : World) =>
  ∃ (x57 : Bool), e55 = .returned (.bool x57) ∧ (R (.returned (.bool x57)) w56)) (idiv ((tags_25n : Int)) (idx tags_25 tags_25n (Int.tmod (IntKind.i64.wrap pick_3) ((tags_25n : Int))) 1 fun p58 =>
  ∃ (x59 : Int), World.cell? w54 p58 = some (.int .i64 x59) ∧ (Calls Tryd.prog 26 ⟨[.slice l_1 l_1n l_1c]⟩ w54 fun (e60 : Ending) (w61 : World) =>
  ∃ (x62 : Option Addr) (x62n : Nat) (x62c : Nat), e60 = .returned (.slice x62 x62n x62c) ∧ (idx (some p6) 1 0 4 fun p63 =>
  ∃ (x64 : Int), World.cell? w61 (p63.add 0) = some (.int .i64 x64) ∧ (∃ (x65 : List UInt8), World.cell? w61 (p63.add 1) = some (.string ⟨⟨x65⟩⟩) ∧ (∃ (x66 : List UInt8), World.cell? w61 (p63.add 2) = some (.string ⟨⟨x66⟩⟩) ∧ (∃ (x67 : Int), World.cell? w61 (p63.add 3) = some (.int .i64 x67) ∧ (idx x62 x62n x59 4 fun p68 =>
  stL w61 p68 0 [.int .i64 x64, .string ⟨⟨x65⟩⟩, .string ⟨⟨x66⟩⟩, .int .i64 x67] fun w69 =>
  Calls Tryd.prog 25 ⟨[.slice x62 x62n x62c]⟩ w69 fun (e70 : Ending) (w71 : World) =>
  ∃ (x72 : Option Addr) (x72n : Nat) (x72c : Nat), e70 = .returned (.slice x72 x72n x72c) ∧ (Calls Tryd.prog 24 ⟨[.slice x72 x72n x72c]⟩ w71 fun (e73 : Ending) (w74 : World) =>
  ∃ (x75 : Int), e73 = .returned (.int .i64 x75) ∧ (br (decide ((x75 : Int) = 12)) (Calls Tryd.prog 10 ⟨[]⟩ w74 fun (e76 : Ending) (w77 : World) =>
  ∃ (x78 : Bool), e76 = .returned (.bool x78) ∧ (R (.returned (.bool x78)) w77)) (R (.returned (.bool false)) w74))))))))))))) → K53 w54) → (Calls Tryd.prog 13 ⟨[.slice x21 x21n x21c]⟩ w27 fun (e79 : Ending) (w80 : World) =>
  ∃ (x81 : Int), e79 = .returned (.int .i64 x81) ∧ (br (decide ((x81 : Int) = 0)) (Calls Tryd.prog 24 ⟨[.slice x21 x21n x21c]⟩ w80 fun (e82 : Ending) (w83 : World) =>
  ∃ (x84 : Int), e82 = .returned (.int .i64 x84) ∧ (br (decide (((decide ((x84 : Int) = 0)) : Bool) ≠ (decide ((most_24 : Int) < 16)))) (R (.returned (.bool false)) w83) (K53 w83))) (K53 w80))))))))) → K8 w9) → (al w7 22 [.slice l_1 l_1n l_1c, .slice (some p6) 1 1, .slice m_2 m_2n m_2c] fun p85 w86 =>
  Calls Tryd.prog 22 ⟨[.slice (some p85) 3 3]⟩ w86 fun (e87 : Ending) (w88 : World) =>
  ∃ (x89 : Option Addr) (x89n : Nat) (x89c : Nat), e87 = .returned (.slice x89 x89n x89c) ∧ (Calls Tryd.prog 25 ⟨[.slice x89 x89n x89c]⟩ w88 fun (e90 : Ending) (w91 : World) =>
  ∃ (x92 : Option Addr) (x92n : Nat) (x92c : Nat), e90 = .returned (.slice x92 x92n x92c) ∧ (Calls Tryd.prog 13 ⟨[.slice x92 x92n x92c]⟩ w91 fun (e93 : Ending) (w94 : World) =>
  ∃ (x95 : Int), e93 = .returned (.int .i64 x95) ∧ (br (decide ((x95 : Int) = 0)) (Calls Tryd.prog 24 ⟨[.slice x92 x92n x92c]⟩ w94 fun (e96 : Ending) (w97 : World) =>
  ∃ (x98 : Int), e96 = .returned (.int .i64 x98) ∧ (br (decide ((x98 : Int) ≠ 0)) (R (.returned (.bool false)) w97) (K8 w97))) (K8 w94))))))) → K4 w5) → (Calls Tryd.prog 9 ⟨[.slice l_1 l_1n l_1c]⟩ w fun (e99 : Ending) (w100 : World) =>
  ∃ (x101 : Bool), e99 = .returned (.bool x101) ∧ (br x101 (Calls Tryd.prog 10 ⟨[]⟩ w100 fun (e102 : Ending) (w103 : World) =>
  ∃ (x104 : Bool), e102 = .returned (.bool x104) ∧ (R (.returned (.bool x104)) w103)) (Calls Tryd.prog 9 ⟨[.slice m_2 m_2n m_2c]⟩ w100 fun (e105 : Ending) (w106 : World) =>
  ∃ (x107 : Bool), e105 = .returned (.bool x107) ∧ (br x107 (Calls Tryd.prog 10 ⟨[]⟩ w106 fun (e108 : Ending) (w109 : World) =>
  ∃ (x110 : Bool), e108 = .returned (.bool x110) ∧ (R (.returned (.bool x110)) w109)) (Calls Tryd.prog 24 ⟨[.slice l_1 l_1n l_1c]⟩ w106 fun (e111 : Ending) (w112 : World) =>
  ∃ (x113 : Int), e111 = .returned (.int .i64 x113) ∧ (br (decide ((x113 : Int) ≠ 0)) (Calls Tryd.prog 10 ⟨[]⟩ w112 fun (e114 : Ending) (w115 : World) =>
  ∃ (x116 : Bool), e114 = .returned (.bool x116) ∧ (R (.returned (.bool x116)) w115)) (Calls Tryd.prog 24 ⟨[.slice m_2 m_2n m_2c]⟩ w112 fun (e117 : Ending) (w118 : World) =>
  ∃ (x119 : Int), e117 = .returned (.int .i64 x119) ∧ (br (decide ((x119 : Int) ≠ 0)) (Calls Tryd.prog 10 ⟨[]⟩ w118 fun (e120 : Ending) (w121 : World) =>
  ∃ (x122 : Bool), e120 = .returned (.bool x122) ∧ (R (.returned (.bool x122)) w121)) (K4 w118)))))))))
set_option maxRecDepth 100000 in
theorem e_law09_MarkupNested (l_1 : Option Addr) (l_1n : Nat) (l_1c : Nat) (m_2 : Option Addr) (m_2n : Nat) (m_2c : Nat) (pick_3 : Int) (R : Ending → World → Prop) (w : World) : fnV Tryd.prog Tryd.f8 an_law09_MarkupNested [.slice l_1 l_1n l_1c, .slice m_2 m_2n m_2c, .int .u8 pick_3] R w = sh_law09_MarkupNested l_1 l_1n l_1c m_2 m_2n m_2c pick_3 R w := by kernel_rfl
theorem c_law09_MarkupNested {l_1 : Option Addr} {l_1n : Nat} {l_1c : Nat} {m_2 : Option Addr} {m_2n : Nat} {m_2c : Nat} {pick_3 : Int} {R : Ending → World → Prop} {w : World} (h : sh_law09_MarkupNested l_1 l_1n l_1c m_2 m_2n m_2c pick_3 R w) : Calls Tryd.prog F_law09_MarkupNested ⟨[.slice l_1 l_1n l_1c, .slice m_2 m_2n m_2c, .int .u8 pick_3]⟩ w R := calls_of_fnV Tryd.func8 (by rw [e_law09_MarkupNested]; exact h)

def an_ref09_GreatList : Ann := .two (.leaf) (.two (.two (.leaf) (.one (.loop 2199023255548 [(3, .one (.int .i64))] (.two (.two (.leaf) (.two (.leaf) (.leaf))) (.two (.one (.two (.leaf) (.two (.leaf) (.two (.two (.leaf) (.leaf)) (.leaf))))) (.leaf)))))) (.two (.leaf) (.leaf)))
def sh_ref09_GreatList (l_1 : Option Addr) (l_1n : Nat) (l_1c : Nat) (R : Ending → World → Prop) (w : World) : Prop :=
  ∃ (I2 : Int → World → Nat → Prop), (∃ m6 : Nat, I2 0 w m6) ∧ ∀ (i_3 : Int) (w4 : World) (m5 : Nat), I2 i_3 w4 m5 → ∀ _ : Env, (br (decide ((i_3 : Int) < ((l_1n : Int)))) (drw w4 fun w7 =>
  idx l_1 l_1n i_3 4 fun p8 =>
  ∃ (x9 : List UInt8), World.cell? w7 (p8.add 1) = some (.string ⟨⟨x9⟩⟩) ∧ (idx l_1 l_1n i_3 4 fun p10 =>
  ∃ (x11 : List UInt8), World.cell? w7 (p10.add 2) = some (.string ⟨⟨x11⟩⟩) ∧ (br (decide ((80 : Int) < (IntKind.i64.wrap (((List.length x9 : Int)) + ((List.length x11 : Int)))))) (br (decide (((IntKind.i64.wrap (i_3 + 1)) : Int) < ((l_1n : Int)))) (R (.returned (.bool true)) w7) (br (decide (((IntKind.i64.wrap (((List.length x9 : Int)) + ((List.length x11 : Int)))) : Int) < 65456)) (R (.returned (.bool true)) w7) (br (decide ((65536 : Int) < (IntKind.i64.wrap (((List.length x9 : Int)) + ((List.length x11 : Int)))))) (R (.returned (.bool true)) w7) (∃ m12 : Nat, m12 < m5 ∧ I2 (IntKind.i64.wrap (i_3 + 1)) w7 m12)))) (∃ m13 : Nat, m13 < m5 ∧ I2 (IntKind.i64.wrap (i_3 + 1)) w7 m13)))) (R (.returned (.bool (decide ((24 : Int) < ((l_1n : Int)))))) w4))
set_option maxRecDepth 100000 in
theorem e_ref09_GreatList (l_1 : Option Addr) (l_1n : Nat) (l_1c : Nat) (R : Ending → World → Prop) (w : World) : fnV Tryd.prog Tryd.f9 an_ref09_GreatList [.slice l_1 l_1n l_1c] R w = sh_ref09_GreatList l_1 l_1n l_1c R w := by kernel_rfl
theorem c_ref09_GreatList {l_1 : Option Addr} {l_1n : Nat} {l_1c : Nat} {R : Ending → World → Prop} {w : World} (h : sh_ref09_GreatList l_1 l_1n l_1c R w) : Calls Tryd.prog F_ref09_GreatList ⟨[.slice l_1 l_1n l_1c]⟩ w R := calls_of_fnV Tryd.func9 (by rw [e_ref09_GreatList]; exact h)

def an_law09_awake : Ann := .two (.leaf) (.two (.leaf) (.two (.leaf) (.two (.leaf) (.two (.leaf) (.leaf)))))
def sh_law09_awake  (R : Ending → World → Prop) (w : World) : Prop :=
  Calls Tryd.prog 11 ⟨[.string ⟨⟨[100, 101, 60, 97, 100, 100, 32, 49, 62, 117, 115, 60, 47, 97, 100, 100, 62, 60, 108, 98, 47, 62]⟩⟩]⟩ w fun (e1 : Ending) (w2 : World) =>
  ∃ (x3 : Option Addr) (x3n : Nat) (x3c : Nat) (x4 : Int), e1 = .returned (.tuple ⟨[.slice x3 x3n x3c, .int .i64 x4]⟩) ∧ (al w2 44 [.int .i64 1, .string ⟨⟨[]⟩⟩, .string ⟨⟨[100, 101]⟩⟩, .int .i64 0, .int .i64 2, .string ⟨⟨[97, 100, 100]⟩⟩, .string ⟨⟨[49]⟩⟩, .int .i64 2, .int .i64 1, .string ⟨⟨[]⟩⟩, .string ⟨⟨[117, 115]⟩⟩, .int .i64 9, .int .i64 3, .string ⟨⟨[97, 100, 100]⟩⟩, .string ⟨⟨[]⟩⟩, .int .i64 11, .int .i64 4, .string ⟨⟨[108, 98]⟩⟩, .string ⟨⟨[]⟩⟩, .int .i64 17] fun p5 w6 =>
  Calls Tryd.prog 12 ⟨[.slice (some p5) 5 5]⟩ w6 fun (e7 : Ending) (w8 : World) =>
  ∃ (x9 : List UInt8) (x10 : Int), e7 = .returned (.tuple ⟨[.string ⟨⟨x9⟩⟩, .int .i64 x10]⟩) ∧ (br (decide ((x4 : Int) = 0)) (br (decide ((x10 : Int) = 0)) (Calls Tryd.prog 14 ⟨[.slice x3 x3n x3c, .slice (some p5) 5 5]⟩ w8 fun (e11 : Ending) (w12 : World) =>
  ∃ (x13 : Bool), e11 = .returned (.bool x13) ∧ (br x13 (R (.returned (.bool (decide ((x9 : List UInt8) = ([100, 101, 60, 97, 100, 100, 32, 49, 62, 117, 115, 60, 47, 97, 100, 100, 62, 60, 108, 98, 47, 62]))))) w12) (R (.returned (.bool false)) w12))) (R (.returned (.bool false)) w8)) (R (.returned (.bool false)) w8)))
set_option maxRecDepth 100000 in
theorem e_law09_awake  (R : Ending → World → Prop) (w : World) : fnV Tryd.prog Tryd.f10 an_law09_awake [] R w = sh_law09_awake  R w := by kernel_rfl
theorem c_law09_awake  {R : Ending → World → Prop} {w : World} (h : sh_law09_awake  R w) : Calls Tryd.prog F_law09_awake ⟨[]⟩ w R := calls_of_fnV Tryd.func10 (by rw [e_law09_awake]; exact h)

def an_markup_Scan : Ann := .two (.leaf) (.two (.two (.leaf) (.two (.two (.leaf) (.leaf)) (.leaf))) (.two (.leaf) (.two (.two (.leaf) (.one (.rf [2, 3, 4, 14] 0))) (.two (.leaf) (.leaf)))))
def sh_markup_Scan (s_1 : List UInt8) (R : Ending → World → Prop) (w : World) : Prop :=
  al w 22 [.slice none 0 0] fun p2 w3 =>
  al w3 25 [.int .i64 0] fun p4 w5 =>
  br (decide ((65536 : Int) < ((List.length s_1 : Int)))) (stL w5 p2 0 [.slice none 0 0] fun w6 =>
  stL w6 p4 0 [.int .i64 4] fun w7 =>
  ∃ (x8 : Option Addr) (x8n : Nat) (x8c : Nat), World.cell? w7 p2 = some (.slice x8 x8n x8c) ∧ (∃ (x9 : Int), World.cell? w7 p4 = some (.int .i64 x9) ∧ (R (.returned (.tuple ⟨[.slice x8 x8n x8c, .int .i64 x9]⟩)) w7))) (al w5 22 [.slice none 0 0] fun p10 w11 =>
  Calls Tryd.prog 27 ⟨[.string ⟨⟨s_1⟩⟩]⟩ w11 fun (e12 : Ending) (w13 : World) =>
  ∃ (x14 : Fn) (x14a : Array Value) (x14b : Array Value), e12 = .returned (.func x14 x14a x14b) ∧ (∀ base15 : Env, RFw Tryd.prog none 49 (cdAt Tryd.f11 [1, 1, 1, 0, 1, 2]) (upd (upd (upd (upd base15 14 (.func x14 x14a x14b)) 4 (.pointer (some p10))) 3 (.pointer (some p4))) 2 (.pointer (some p2))) [] w13 0 (fun ds16 w17 =>
  ∃ (x24 : Option Addr) (x24n : Nat) (x24c : Nat), World.cell? w17 p10 = some (.slice x24 x24n x24c) ∧ (stL w17 p2 0 [.slice x24 x24n x24c] fun w25 =>
  stL w25 p4 0 [.int .i64 0] fun w26 =>
  retD ds16 w26 fun w27 =>
  ∃ (x28 : Option Addr) (x28n : Nat) (x28c : Nat), World.cell? w27 p2 = some (.slice x28 x28n x28c) ∧ (∃ (x29 : Int), World.cell? w27 p4 = some (.int .i64 x29) ∧ (R (.returned (.tuple ⟨[.slice x28 x28n x28c, .int .i64 x29]⟩)) w27)))) (fun ds16 w17 =>
  retD ds16 w17 fun w30 =>
  ∃ (x31 : Option Addr) (x31n : Nat) (x31c : Nat), World.cell? w30 p2 = some (.slice x31 x31n x31c) ∧ (∃ (x32 : Int), World.cell? w30 p4 = some (.int .i64 x32) ∧ (R (.returned (.tuple ⟨[.slice x31 x31n x31c, .int .i64 x32]⟩)) w30))) (fun ds16 w17 =>
  ∃ (x18 : Option Addr) (x18n : Nat) (x18c : Nat), World.cell? w17 p10 = some (.slice x18 x18n x18c) ∧ (stL w17 p2 0 [.slice x18 x18n x18c] fun w19 =>
  stL w19 p4 0 [.int .i64 0] fun w20 =>
  retD ds16 w20 fun w21 =>
  ∃ (x22 : Option Addr) (x22n : Nat) (x22c : Nat), World.cell? w21 p2 = some (.slice x22 x22n x22c) ∧ (∃ (x23 : Int), World.cell? w21 p4 = some (.int .i64 x23) ∧ (R (.returned (.tuple ⟨[.slice x22 x22n x22c, .int .i64 x23]⟩)) w21))))))
set_option maxRecDepth 100000 in
theorem e_markup_Scan (s_1 : List UInt8) (R : Ending → World → Prop) (w : World) : fnV Tryd.prog Tryd.f11 an_markup_Scan [.string ⟨⟨s_1⟩⟩] R w = sh_markup_Scan s_1 R w := by kernel_rfl
theorem c_markup_Scan {s_1 : List UInt8} {R : Ending → World → Prop} {w : World} (h : sh_markup_Scan s_1 R w) : Calls Tryd.prog F_markup_Scan ⟨[.string ⟨⟨s_1⟩⟩]⟩ w R := calls_of_fnV Tryd.func11 (by rw [e_markup_Scan]; exact h)
def anA_markup_Scan_1 : Ann := .two (.leaf) (.leaf)
def anB_markup_Scan_1 : Ann := .one (.two (.leaf) (.cut 4398045987584 [] (.one (.two (.leaf) (.two (.two (.leaf) (.two (.two (.leaf) (.leaf)) (.leaf))) (.two (.leaf) (.two (.two (.leaf) (.leaf)) (.two (.leaf) (.two (.two (.leaf) (.two (.two (.leaf) (.leaf)) (.leaf))) (.leaf)))))))) (.two (.leaf) (.leaf))))
def rf_markup_Scan_1 (t2_33 : Option Addr) (t3_34 : Option Addr) (out_35 : Option Addr) (t14_36 : Fn) (t14_36a : Array Value) (t14_36b : Array Value) (t15_37 : Int) (t16_38 : List UInt8) (l : Nat) (Kn Kr Kx : World → World → Prop) (w : World) : Prop :=
  Ext w w ∧ ∀ w39 : World, Upd l w w39 → (al w39 44 [.int .i64 0, .string ⟨⟨[]⟩⟩, .string ⟨⟨[]⟩⟩, .int .i64 0] fun p40 w41 =>
  stL w41 p40 0 [.int .i64 1, .string ⟨⟨[]⟩⟩, .string ⟨⟨t16_38⟩⟩, .int .i64 0] fun w42 =>
  ∀ (K43 : World → Prop), (∀  (w44 : World), (∀ _ : Env, (stL w44 (p40.add 3) 0 [.int .i64 t15_37] fun w45 =>
  dr out_35 fun p46 =>
  ∃ (x47 : Option Addr) (x47n : Nat) (x47c : Nat), World.cell? w45 p46 = some (.slice x47 x47n x47c) ∧ (∃ (x48 : Int), World.cell? w45 (p40.add 0) = some (.int .i64 x48) ∧ (∃ (x49 : List UInt8), World.cell? w45 (p40.add 1) = some (.string ⟨⟨x49⟩⟩) ∧ (∃ (x50 : List UInt8), World.cell? w45 (p40.add 2) = some (.string ⟨⟨x50⟩⟩) ∧ (∃ (x51 : Int), World.cell? w45 (p40.add 3) = some (.int .i64 x51) ∧ (al w45 44 [.int .i64 x48, .string ⟨⟨x49⟩⟩, .string ⟨⟨x50⟩⟩, .int .i64 x51] fun p52 w53 =>
  app Tryd.prog [22, 22] 22 (.slice x47 x47n x47c) (.slice (some p52) 1 1) w53 fun a54 a54n a54c w55 =>
  dr out_35 fun p57 =>
  stL w55 p57 0 [.slice a54 a54n a54c] fun w56 =>
  Kn w39 w56))))))) → K43 w44) → (sidx t16_38 0 fun b58 =>
  br (decide ((((b58.toNat : Int)) : Int) ≠ 60)) (Calls Tryd.prog 28 ⟨[.string ⟨⟨t16_38⟩⟩]⟩ w42 fun (e59 : Ending) (w60 : World) =>
  ∃ (x61 : Int), e59 = .returned (.int .i64 x61) ∧ (br (decide ((x61 : Int) ≠ 0)) (dr t2_33 fun p63 =>
  stL w60 p63 0 [.slice none 0 0] fun w62 =>
  dr t3_34 fun p65 =>
  stL w62 p65 0 [.int .i64 11] fun w64 =>
  Kr w39 w64) (K43 w60))) (sidx t16_38 (IntKind.i64.wrap (((List.length t16_38 : Int)) - 1)) fun b66 =>
  br (decide ((((b66.toNat : Int)) : Int) ≠ 62)) (dr t2_33 fun p68 =>
  stL w42 p68 0 [.slice none 0 0] fun w67 =>
  dr t3_34 fun p70 =>
  stL w67 p70 0 [.int .i64 3] fun w69 =>
  Kr w39 w69) (Calls Tryd.prog 29 ⟨[.string ⟨⟨t16_38⟩⟩]⟩ w42 fun (e71 : Ending) (w72 : World) =>
  ∃ (x73 : Int) (x74 : List UInt8) (x75 : List UInt8) (x76 : Int) (x77 : Int), e71 = .returned (.tuple ⟨[.agg ⟨[.int .i64 x73, .string ⟨⟨x74⟩⟩, .string ⟨⟨x75⟩⟩, .int .i64 x76]⟩, .int .i64 x77]⟩) ∧ (al w72 44 [.int .i64 0, .string ⟨⟨[]⟩⟩, .string ⟨⟨[]⟩⟩, .int .i64 0] fun p78 w79 =>
  stL w79 p78 0 [.int .i64 x73, .string ⟨⟨x74⟩⟩, .string ⟨⟨x75⟩⟩, .int .i64 x76] fun w80 =>
  br (decide ((x77 : Int) ≠ 0)) (dr t2_33 fun p82 =>
  stL w80 p82 0 [.slice none 0 0] fun w81 =>
  dr t3_34 fun p84 =>
  stL w81 p84 0 [.int .i64 x77] fun w83 =>
  Kr w39 w83) (∃ (x85 : Int), World.cell? w80 (p78.add 0) = some (.int .i64 x85) ∧ (∃ (x86 : List UInt8), World.cell? w80 (p78.add 1) = some (.string ⟨⟨x86⟩⟩) ∧ (∃ (x87 : List UInt8), World.cell? w80 (p78.add 2) = some (.string ⟨⟨x87⟩⟩) ∧ (∃ (x88 : Int), World.cell? w80 (p78.add 3) = some (.int .i64 x88) ∧ (stL w80 p40 0 [.int .i64 x85, .string ⟨⟨x86⟩⟩, .string ⟨⟨x87⟩⟩, .int .i64 x88] fun w89 =>
  K43 w89))))))))))
set_option maxRecDepth 100000 in
theorem er_markup_Scan_1 (base : Env) (t2_33 : Option Addr) (t3_34 : Option Addr) (out_35 : Option Addr) (t14_36 : Fn) (t14_36a : Array Value) (t14_36b : Array Value) (t15_37 : Int) (t16_38 : List UInt8) (l : Nat) (Kn Kr Kx : World → World → Prop) (w : World) : fragV Tryd.prog 49 anA_markup_Scan_1 anB_markup_Scan_1 (cdAt Tryd.f11 [1, 1, 1, 0, 1, 2, 5]) (cdAt Tryd.f11 [1, 1, 1, 0, 1, 2, 6]) l 0 Kn Kr Kx (updPs [15, 16] [.int .i64 t15_37, .string ⟨⟨t16_38⟩⟩] (upd (upd (upd (upd base 14 (.func t14_36 t14_36a t14_36b)) 4 (.pointer out_35)) 3 (.pointer t3_34)) 2 (.pointer t2_33))) w = rf_markup_Scan_1 t2_33 t3_34 out_35 t14_36 t14_36a t14_36b t15_37 t16_38 l Kn Kr Kx w := by kernel_rfl
theorem cd_markup_Scan_1 : cdAt Tryd.f11 [1, 1, 1, 0, 1, 2] = .rangeFunc (Operand.tmp 14) #[15, 16] (cdAt Tryd.f11 [1, 1, 1, 0, 1, 2, 5]) (cdAt Tryd.f11 [1, 1, 1, 0, 1, 2, 6]) := by kernel_rfl

def an_markup_Print : Ann := .two (.leaf) (.two (.two (.leaf) (.two (.two (.leaf) (.leaf)) (.leaf))) (.two (.leaf) (.two (.two (.leaf) (.one (.loop 1044544 [(12, .one (.int .i64))] (.two (.leaf) (.two (.two (.leaf) (.leaf)) (.two (.one (.two (.leaf) (.leaf))) (.leaf))))))) (.two (.leaf) (.leaf)))))
def sh_markup_Print (l_1 : Option Addr) (l_1n : Nat) (l_1c : Nat) (R : Ending → World → Prop) (w : World) : Prop :=
  Calls Tryd.prog 13 ⟨[.slice l_1 l_1n l_1c]⟩ w fun (e2 : Ending) (w3 : World) =>
  ∃ (x4 : Int), e2 = .returned (.int .i64 x4) ∧ (br (decide ((x4 : Int) ≠ 0)) (R (.returned (.tuple ⟨[.string ⟨⟨[]⟩⟩, .int .i64 1]⟩)) w3) (al w3 58 [.pointer none, .slice none 0 0] fun p5 w6 =>
  ∃ (I7 : Int → World → Nat → Prop), (∃ m11 : Nat, I7 0 w6 m11) ∧ ∀ (t12_8 : Int) (w9 : World) (m10 : Nat), I7 t12_8 w9 m10 → ∀ _ : Env, (br (decide ((t12_8 : Int) < ((l_1n : Int)))) (idx l_1 l_1n t12_8 4 fun p12 =>
  ∃ (x13 : Int), World.cell? w9 (p12.add 0) = some (.int .i64 x13) ∧ (∃ (x14 : List UInt8), World.cell? w9 (p12.add 1) = some (.string ⟨⟨x14⟩⟩) ∧ (∃ (x15 : List UInt8), World.cell? w9 (p12.add 2) = some (.string ⟨⟨x15⟩⟩) ∧ (∃ (x16 : Int), World.cell? w9 (p12.add 3) = some (.int .i64 x16) ∧ (al w9 44 [.int .i64 0, .string ⟨⟨[]⟩⟩, .string ⟨⟨[]⟩⟩, .int .i64 0] fun p17 w18 =>
  stL w18 p17 0 [.int .i64 x13, .string ⟨⟨x14⟩⟩, .string ⟨⟨x15⟩⟩, .int .i64 x16] fun w19 =>
  ∃ (x20 : Int), World.cell? w19 (p17.add 0) = some (.int .i64 x20) ∧ (∃ (x21 : List UInt8), World.cell? w19 (p17.add 1) = some (.string ⟨⟨x21⟩⟩) ∧ (∃ (x22 : List UInt8), World.cell? w19 (p17.add 2) = some (.string ⟨⟨x22⟩⟩) ∧ (∃ (x23 : Int), World.cell? w19 (p17.add 3) = some (.int .i64 x23) ∧ (Calls Tryd.prog 31 ⟨[.agg ⟨[.int .i64 x20, .string ⟨⟨x21⟩⟩, .string ⟨⟨x22⟩⟩, .int .i64 x23]⟩]⟩ w19 fun (e24 : Ending) (w25 : World) =>
  ∃ (x26 : List UInt8), e24 = .returned (.string ⟨⟨x26⟩⟩) ∧ (Calls Tryd.prog 30 ⟨[.pointer (some p5), .string ⟨⟨x26⟩⟩]⟩ w25 fun (e27 : Ending) (w28 : World) =>
  ∃ (x29 : Int) (x30 : Value), e27 = .returned (.tuple ⟨[.int .i64 x29, x30]⟩) ∧ (∃ m31 : Nat, m31 < m10 ∧ I7 (IntKind.i64.wrap (t12_8 + 1)) w28 m31))))))))))) (Calls Tryd.prog 32 ⟨[.pointer (some p5)]⟩ w9 fun (e32 : Ending) (w33 : World) =>
  ∃ (x34 : List UInt8), e32 = .returned (.string ⟨⟨x34⟩⟩) ∧ (R (.returned (.tuple ⟨[.string ⟨⟨x34⟩⟩, .int .i64 0]⟩)) w33)))))
set_option maxRecDepth 100000 in
theorem e_markup_Print (l_1 : Option Addr) (l_1n : Nat) (l_1c : Nat) (R : Ending → World → Prop) (w : World) : fnV Tryd.prog Tryd.f12 an_markup_Print [.slice l_1 l_1n l_1c] R w = sh_markup_Print l_1 l_1n l_1c R w := by kernel_rfl
theorem c_markup_Print {l_1 : Option Addr} {l_1n : Nat} {l_1c : Nat} {R : Ending → World → Prop} {w : World} (h : sh_markup_Print l_1 l_1n l_1c R w) : Calls Tryd.prog F_markup_Print ⟨[.slice l_1 l_1n l_1c]⟩ w R := calls_of_fnV Tryd.func12 (by rw [e_markup_Print]; exact h)

def an_markup_Check : Ann := .two (.leaf) (.two (.leaf) (.two (.two (.leaf) (.one (.loop 9007199254740604 [(3, .one (.int .i64)), (9, .one (.int .i64))] (.two (.leaf) (.two (.two (.leaf) (.leaf)) (.two (.one (.two (.leaf) (.two (.two (.leaf) (.two (.leaf) (.two (.two (.leaf) (.leaf)) (.leaf)))) (.cut 34359214084 [] (.two (.leaf) (.two (.two (.leaf) (.leaf)) (.leaf))) (.cut 8761733283844 [] (.two (.leaf) (.two (.two (.leaf) (.leaf)) (.leaf))) (.two (.two (.leaf) (.two (.two (.leaf) (.leaf)) (.leaf))) (.leaf))))))) (.leaf))))))) (.two (.two (.leaf) (.two (.two (.leaf) (.leaf)) (.leaf))) (.two (.leaf) (.leaf)))))
def sh_markup_Check (l_1 : Option Addr) (l_1n : Nat) (l_1c : Nat) (R : Ending → World → Prop) (w : World) : Prop :=
  ∃ (I2 : Int → Int → World → Nat → Prop), (∃ m7 : Nat, I2 0 0 w m7) ∧ ∀ (at_3 : Int) (t9_4 : Int) (w5 : World) (m6 : Nat), I2 at_3 t9_4 w5 m6 → ∀ _ : Env, (br (decide ((t9_4 : Int) < ((l_1n : Int)))) (idx l_1 l_1n t9_4 4 fun p8 =>
  ∃ (x9 : Int), World.cell? w5 (p8.add 0) = some (.int .i64 x9) ∧ (∃ (x10 : List UInt8), World.cell? w5 (p8.add 1) = some (.string ⟨⟨x10⟩⟩) ∧ (∃ (x11 : List UInt8), World.cell? w5 (p8.add 2) = some (.string ⟨⟨x11⟩⟩) ∧ (∃ (x12 : Int), World.cell? w5 (p8.add 3) = some (.int .i64 x12) ∧ (al w5 44 [.int .i64 0, .string ⟨⟨[]⟩⟩, .string ⟨⟨[]⟩⟩, .int .i64 0] fun p13 w14 =>
  stL w14 p13 0 [.int .i64 x9, .string ⟨⟨x10⟩⟩, .string ⟨⟨x11⟩⟩, .int .i64 x12] fun w15 =>
  ∃ (x16 : Int), World.cell? w15 (p13.add 0) = some (.int .i64 x16) ∧ (∃ (x17 : List UInt8), World.cell? w15 (p13.add 1) = some (.string ⟨⟨x17⟩⟩) ∧ (∃ (x18 : List UInt8), World.cell? w15 (p13.add 2) = some (.string ⟨⟨x18⟩⟩) ∧ (∃ (x19 : Int), World.cell? w15 (p13.add 3) = some (.int .i64 x19) ∧ (Calls Tryd.prog 33 ⟨[.agg ⟨[.int .i64 x16, .string ⟨⟨x17⟩⟩, .string ⟨⟨x18⟩⟩, .int .i64 x19]⟩]⟩ w15 fun (e20 : Ending) (w21 : World) =>
  ∃ (x22 : Int), e20 = .returned (.int .i64 x22) ∧ (br (decide ((x22 : Int) ≠ 0)) (R (.returned (.int .i64 x22)) w21) (∀ (K23 : World → Prop), (∀  (w24 : World), (∀ _ : Env, (∀ (K25 : World → Prop), (∀  (w26 : World), (∀ _ : Env, (∃ (x27 : Int), World.cell? w26 (p13.add 3) = some (.int .i64 x27) ∧ (br (decide ((x27 : Int) ≠ at_3)) (R (.returned (.int .i64 9)) w26) (∃ (x28 : Int), World.cell? w26 (p13.add 0) = some (.int .i64 x28) ∧ (∃ (x29 : List UInt8), World.cell? w26 (p13.add 1) = some (.string ⟨⟨x29⟩⟩) ∧ (∃ (x30 : List UInt8), World.cell? w26 (p13.add 2) = some (.string ⟨⟨x30⟩⟩) ∧ (∃ (x31 : Int), World.cell? w26 (p13.add 3) = some (.int .i64 x31) ∧ (Calls Tryd.prog 31 ⟨[.agg ⟨[.int .i64 x28, .string ⟨⟨x29⟩⟩, .string ⟨⟨x30⟩⟩, .int .i64 x31]⟩]⟩ w26 fun (e32 : Ending) (w33 : World) =>
  ∃ (x34 : List UInt8), e32 = .returned (.string ⟨⟨x34⟩⟩) ∧ (∃ m35 : Nat, m35 < m6 ∧ I2 (IntKind.i64.wrap (at_3 + ((List.length x34 : Int)))) (IntKind.i64.wrap (t9_4 + 1)) w33 m35))))))))) → K25 w26) → (∃ (x36 : Int), World.cell? w24 (p13.add 0) = some (.int .i64 x36) ∧ (br (decide ((x36 : Int) ≠ 1)) (∃ (x37 : Int), World.cell? w24 (p13.add 0) = some (.int .i64 x37) ∧ (∃ (x38 : List UInt8), World.cell? w24 (p13.add 1) = some (.string ⟨⟨x38⟩⟩) ∧ (∃ (x39 : List UInt8), World.cell? w24 (p13.add 2) = some (.string ⟨⟨x39⟩⟩) ∧ (∃ (x40 : Int), World.cell? w24 (p13.add 3) = some (.int .i64 x40) ∧ (Calls Tryd.prog 34 ⟨[.agg ⟨[.int .i64 x37, .string ⟨⟨x38⟩⟩, .string ⟨⟨x39⟩⟩, .int .i64 x40]⟩]⟩ w24 fun (e41 : Ending) (w42 : World) =>
  ∃ (x43 : Bool), e41 = .returned (.bool x43) ∧ (br (!x43) (R (.returned (.int .i64 3)) w42) (K25 w42))))))) (K25 w24))))) → K23 w24) → (∃ (x44 : Int), World.cell? w21 (p13.add 0) = some (.int .i64 x44) ∧ (br (decide ((x44 : Int) = 1)) (br (decide ((0 : Int) < t9_4)) (idx l_1 l_1n (IntKind.i64.wrap (t9_4 - 1)) 4 fun p45 =>
  ∃ (x46 : Int), World.cell? w21 (p45.add 0) = some (.int .i64 x46) ∧ (br (decide ((x46 : Int) = 1)) (R (.returned (.int .i64 10)) w21) (K23 w21))) (K23 w21)) (K23 w21)))))))))))))) (br (decide ((65536 : Int) < at_3)) (R (.returned (.int .i64 4)) w5) (R (.returned (.int .i64 0)) w5)))
set_option maxRecDepth 100000 in
theorem e_markup_Check (l_1 : Option Addr) (l_1n : Nat) (l_1c : Nat) (R : Ending → World → Prop) (w : World) : fnV Tryd.prog Tryd.f13 an_markup_Check [.slice l_1 l_1n l_1c] R w = sh_markup_Check l_1 l_1n l_1c R w := by kernel_rfl
theorem c_markup_Check {l_1 : Option Addr} {l_1n : Nat} {l_1c : Nat} {R : Ending → World → Prop} {w : World} (h : sh_markup_Check l_1 l_1n l_1c R w) : Calls Tryd.prog F_markup_Check ⟨[.slice l_1 l_1n l_1c]⟩ w R := calls_of_fnV Tryd.func13 (by rw [e_markup_Check]; exact h)

def an_ref09_Same : Ann := .two (.leaf) (.two (.two (.leaf) (.two (.two (.leaf) (.leaf)) (.leaf))) (.two (.two (.leaf) (.one (.loop 67106864 [(5, .one (.int .i64))] (.two (.two (.leaf) (.two (.leaf) (.leaf))) (.two (.one (.two (.leaf) (.two (.two (.leaf) (.leaf)) (.leaf)))) (.leaf)))))) (.two (.leaf) (.leaf))))
def sh_ref09_Same (a_1 : Option Addr) (a_1n : Nat) (a_1c : Nat) (b_2 : Option Addr) (b_2n : Nat) (b_2c : Nat) (R : Ending → World → Prop) (w : World) : Prop :=
  br (decide ((((a_1n : Int)) : Int) ≠ ((b_2n : Int)))) (R (.returned (.bool false)) w) (∃ (I3 : Int → World → Nat → Prop), (∃ m7 : Nat, I3 0 w m7) ∧ ∀ (i_4 : Int) (w5 : World) (m6 : Nat), I3 i_4 w5 m6 → ∀ _ : Env, (br (decide ((i_4 : Int) < ((a_1n : Int)))) (drw w5 fun w8 =>
  idx a_1 a_1n i_4 4 fun p9 =>
  ∃ (x10 : Int), World.cell? w8 (p9.add 0) = some (.int .i64 x10) ∧ (∃ (x11 : List UInt8), World.cell? w8 (p9.add 1) = some (.string ⟨⟨x11⟩⟩) ∧ (∃ (x12 : List UInt8), World.cell? w8 (p9.add 2) = some (.string ⟨⟨x12⟩⟩) ∧ (∃ (x13 : Int), World.cell? w8 (p9.add 3) = some (.int .i64 x13) ∧ (idx b_2 b_2n i_4 4 fun p14 =>
  ∃ (x15 : Int), World.cell? w8 (p14.add 0) = some (.int .i64 x15) ∧ (∃ (x16 : List UInt8), World.cell? w8 (p14.add 1) = some (.string ⟨⟨x16⟩⟩) ∧ (∃ (x17 : List UInt8), World.cell? w8 (p14.add 2) = some (.string ⟨⟨x17⟩⟩) ∧ (∃ (x18 : Int), World.cell? w8 (p14.add 3) = some (.int .i64 x18) ∧ (br (!(decide ((x10 : Int) = x15) && (decide ((x11 : List UInt8) = x16) && (decide ((x12 : List UInt8) = x17) && (decide ((x13 : Int) = x18) && true))))) (R (.returned (.bool false)) w8) (∃ m19 : Nat, m19 < m6 ∧ I3 (IntKind.i64.wrap (i_4 + 1)) w8 m19)))))))))) (R (.returned (.bool true)) w5)))
set_option maxRecDepth 100000 in
theorem e_ref09_Same (a_1 : Option Addr) (a_1n : Nat) (a_1c : Nat) (b_2 : Option Addr) (b_2n : Nat) (b_2c : Nat) (R : Ending → World → Prop) (w : World) : fnV Tryd.prog Tryd.f14 an_ref09_Same [.slice a_1 a_1n a_1c, .slice b_2 b_2n b_2c] R w = sh_ref09_Same a_1 a_1n a_1c b_2 b_2n b_2c R w := by kernel_rfl
theorem c_ref09_Same {a_1 : Option Addr} {a_1n : Nat} {a_1c : Nat} {b_2 : Option Addr} {b_2n : Nat} {b_2c : Nat} {R : Ending → World → Prop} {w : World} (h : sh_ref09_Same a_1 a_1n a_1c b_2 b_2n b_2c R w) : Calls Tryd.prog F_ref09_Same ⟨[.slice a_1 a_1n a_1c, .slice b_2 b_2n b_2c]⟩ w R := calls_of_fnV Tryd.func14 (by rw [e_ref09_Same]; exact h)

def an_markup_Strip : Ann := .two (.leaf) (.two (.leaf) (.two (.two (.leaf) (.two (.two (.leaf) (.leaf)) (.leaf))) (.two (.leaf) (.two (.two (.leaf) (.one (.loop 1073217792 [(19, .one (.int .i64))] (.two (.leaf) (.two (.two (.leaf) (.leaf)) (.two (.one (.two (.leaf) (.two (.leaf) (.two (.leaf) (.leaf))))) (.leaf))))))) (.two (.leaf) (.leaf))))))
def sh_markup_Strip (s_1 : List UInt8) (R : Ending → World → Prop) (w : World) : Prop :=
  Calls Tryd.prog 11 ⟨[.string ⟨⟨s_1⟩⟩]⟩ w fun (e2 : Ending) (w3 : World) =>
  ∃ (x4 : Option Addr) (x4n : Nat) (x4c : Nat) (x5 : Int), e2 = .returned (.tuple ⟨[.slice x4 x4n x4c, .int .i64 x5]⟩) ∧ (br (decide ((x5 : Int) ≠ 0)) (R (.returned (.tuple ⟨[.string ⟨⟨[]⟩⟩, .int .i64 x5]⟩)) w3) (al w3 58 [.pointer none, .slice none 0 0] fun p6 w7 =>
  ∃ (I8 : Int → World → Nat → Prop), (∃ m12 : Nat, I8 0 w7 m12) ∧ ∀ (t19_9 : Int) (w10 : World) (m11 : Nat), I8 t19_9 w10 m11 → ∀ _ : Env, (br (decide ((t19_9 : Int) < ((x4n : Int)))) (idx x4 x4n t19_9 4 fun p13 =>
  ∃ (x14 : Int), World.cell? w10 (p13.add 0) = some (.int .i64 x14) ∧ (∃ (x15 : List UInt8), World.cell? w10 (p13.add 1) = some (.string ⟨⟨x15⟩⟩) ∧ (∃ (x16 : List UInt8), World.cell? w10 (p13.add 2) = some (.string ⟨⟨x16⟩⟩) ∧ (∃ (x17 : Int), World.cell? w10 (p13.add 3) = some (.int .i64 x17) ∧ (al w10 44 [.int .i64 0, .string ⟨⟨[]⟩⟩, .string ⟨⟨[]⟩⟩, .int .i64 0] fun p18 w19 =>
  stL w19 p18 0 [.int .i64 x14, .string ⟨⟨x15⟩⟩, .string ⟨⟨x16⟩⟩, .int .i64 x17] fun w20 =>
  ∃ (x21 : Int), World.cell? w20 (p18.add 0) = some (.int .i64 x21) ∧ (br (decide ((x21 : Int) = 1)) (∃ (x22 : List UInt8), World.cell? w20 (p18.add 2) = some (.string ⟨⟨x22⟩⟩) ∧ (Calls Tryd.prog 30 ⟨[.pointer (some p6), .string ⟨⟨x22⟩⟩]⟩ w20 fun (e23 : Ending) (w24 : World) =>
  ∃ (x25 : Int) (x26 : Value), e23 = .returned (.tuple ⟨[.int .i64 x25, x26]⟩) ∧ (∃ m27 : Nat, m27 < m11 ∧ I8 (IntKind.i64.wrap (t19_9 + 1)) w24 m27))) (∃ m28 : Nat, m28 < m11 ∧ I8 (IntKind.i64.wrap (t19_9 + 1)) w20 m28))))))) (Calls Tryd.prog 32 ⟨[.pointer (some p6)]⟩ w10 fun (e29 : Ending) (w30 : World) =>
  ∃ (x31 : List UInt8), e29 = .returned (.string ⟨⟨x31⟩⟩) ∧ (R (.returned (.tuple ⟨[.string ⟨⟨x31⟩⟩, .int .i64 0]⟩)) w30)))))
set_option maxRecDepth 100000 in
theorem e_markup_Strip (s_1 : List UInt8) (R : Ending → World → Prop) (w : World) : fnV Tryd.prog Tryd.f15 an_markup_Strip [.string ⟨⟨s_1⟩⟩] R w = sh_markup_Strip s_1 R w := by kernel_rfl
theorem c_markup_Strip {s_1 : List UInt8} {R : Ending → World → Prop} {w : World} (h : sh_markup_Strip s_1 R w) : Calls Tryd.prog F_markup_Strip ⟨[.string ⟨⟨s_1⟩⟩]⟩ w R := calls_of_fnV Tryd.func15 (by rw [e_markup_Strip]; exact h)

def an_ref01_Check : Ann := .two (.leaf) (.two (.two (.leaf) (.two (.two (.leaf) (.leaf)) (.leaf))) (.two (.leaf) (.two (.two (.leaf) (.one (.loop 17179867188 [(4, .one (.int .i64))] (.two (.two (.leaf) (.two (.leaf) (.leaf))) (.two (.one (.two (.leaf) (.two (.leaf) (.two (.two (.leaf) (.leaf)) (.leaf))))) (.leaf)))))) (.two (.leaf) (.leaf)))))
def sh_ref01_Check (s_1 : List UInt8) (R : Ending → World → Prop) (w : World) : Prop :=
  br (decide ((65536 : Int) < ((List.length s_1 : Int)))) (R (.returned (.int .i64 4)) w) (Calls Tryd.prog 35 ⟨[.string ⟨⟨s_1⟩⟩]⟩ w fun (e2 : Ending) (w3 : World) =>
  ∃ (x4 : Option Addr) (x4n : Nat) (x4c : Nat), e2 = .returned (.slice x4 x4n x4c) ∧ (∃ (I5 : Int → World → Nat → Prop), (∃ m9 : Nat, I5 0 w3 m9) ∧ ∀ (i_6 : Int) (w7 : World) (m8 : Nat), I5 i_6 w7 m8 → ∀ _ : Env, (br (decide ((i_6 : Int) < ((List.length s_1 : Int)))) (sidx s_1 i_6 fun b10 =>
  Calls Tryd.prog 17 ⟨[.int .u8 ((b10.toNat : Int))]⟩ w7 fun (e11 : Ending) (w12 : World) =>
  ∃ (x13 : Int), e11 = .returned (.int .i64 x13) ∧ (br (decide ((x13 : Int) = 0)) (R (.returned (.int .i64 11)) w12) (br (decide ((x13 : Int) = 2)) (idx x4 x4n i_6 1 fun p14 =>
  ∃ (x15 : Bool), World.cell? w12 p14 = some (.bool x15) ∧ (br (!x15) (R (.returned (.int .i64 11)) w12) (∃ m16 : Nat, m16 < m8 ∧ I5 (IntKind.i64.wrap (i_6 + 1)) w12 m16))) (∃ m17 : Nat, m17 < m8 ∧ I5 (IntKind.i64.wrap (i_6 + 1)) w12 m17)))) (R (.returned (.int .i64 0)) w7))))
set_option maxRecDepth 100000 in
theorem e_ref01_Check (s_1 : List UInt8) (R : Ending → World → Prop) (w : World) : fnV Tryd.prog Tryd.f16 an_ref01_Check [.string ⟨⟨s_1⟩⟩] R w = sh_ref01_Check s_1 R w := by kernel_rfl
theorem c_ref01_Check {s_1 : List UInt8} {R : Ending → World → Prop} {w : World} (h : sh_ref01_Check s_1 R w) : Calls Tryd.prog F_ref01_Check ⟨[.string ⟨⟨s_1⟩⟩]⟩ w R := calls_of_fnV Tryd.func16 (by rw [e_ref01_Check]; exact h)

def an_ref01_Kind : Ann := .two (.leaf) (.two (.one (.cut 262136 [(3, .one (.bool))] (.leaf) (.two (.two (.leaf) (.leaf)) (.cut 536608768 [(18, .one (.bool))] (.leaf) (.two (.two (.leaf) (.leaf)) (.cut 68182605824 [(29, .one (.bool))] (.leaf) (.two (.two (.leaf) (.leaf)) (.two (.leaf) (.two (.two (.leaf) (.leaf)) (.cut 18889465930928825040896 [(39, .one (.bool))] (.leaf) (.two (.two (.leaf) (.leaf)) (.two (.leaf) (.two (.two (.leaf) (.leaf)) (.leaf)))))))))))))) (.two (.leaf) (.leaf)))
def sh_ref01_Kind (c_1 : Int) (R : Ending → World → Prop) (w : World) : Prop :=
  ∀ (K2 : Bool → World → Prop), (∀ (t3_3 : Bool) (w4 : World), (∀ _ : Env, (br t3_3 (R (.returned (.int .i64 1)) w4) (∀ (K5 : Bool → World → Prop), (∀ (t18_6 : Bool) (w7 : World), (∀ _ : Env, (br t18_6 (R (.returned (.int .i64 2)) w7) (∀ (K8 : Bool → World → Prop), (∀ (t29_9 : Bool) (w10 : World), (∀ _ : Env, (br t29_9 (R (.returned (.int .i64 3)) w10) (br (decide ((c_1 : Int) = 39)) (R (.returned (.int .i64 4)) w10) (∀ (K11 : Bool → World → Prop), (∀ (t39_12 : Bool) (w13 : World), (∀ _ : Env, (br t39_12 (R (.returned (.int .i64 5)) w13) (br (decide ((c_1 : Int) = 32)) (R (.returned (.int .i64 6)) w13) (R (.returned (.int .i64 0)) w13)))) → K11 t39_12 w13) → (br (decide ((c_1 : Int) = 46)) (K11 true w10) (br (decide ((c_1 : Int) = 44)) (K11 true w10) (br (decide ((c_1 : Int) = 59)) (K11 true w10) (br (decide ((c_1 : Int) = 58)) (K11 true w10) (br (decide ((c_1 : Int) = 33)) (K11 true w10) (br (decide ((c_1 : Int) = 63)) (K11 true w10) (br (decide ((c_1 : Int) = 40)) (K11 true w10) (br (decide ((c_1 : Int) = 41)) (K11 true w10) (K11 (decide ((c_1 : Int) = 45)) w10))))))))))))) → K8 t29_9 w10) → (br (decide ((48 : Int) ≤ c_1)) (K8 (decide ((c_1 : Int) ≤ 57)) w7) (K8 false w7))))) → K5 t18_6 w7) → (br (decide ((c_1 : Int) = 94)) (K5 true w4) (br (decide ((c_1 : Int) = 126)) (K5 true w4) (K5 (decide ((c_1 : Int) = 37)) w4)))))) → K2 t3_3 w4) → (br (decide ((97 : Int) ≤ c_1)) (br (decide ((c_1 : Int) ≤ 122)) (K2 true w) (br (decide ((65 : Int) ≤ c_1)) (K2 (decide ((c_1 : Int) ≤ 90)) w) (K2 false w))) (br (decide ((65 : Int) ≤ c_1)) (K2 (decide ((c_1 : Int) ≤ 90)) w) (K2 false w)))
set_option maxRecDepth 100000 in
theorem e_ref01_Kind (c_1 : Int) (R : Ending → World → Prop) (w : World) : fnV Tryd.prog Tryd.f17 an_ref01_Kind [.int .u8 c_1] R w = sh_ref01_Kind c_1 R w := by kernel_rfl
theorem c_ref01_Kind {c_1 : Int} {R : Ending → World → Prop} {w : World} (h : sh_ref01_Kind c_1 R w) : Calls Tryd.prog F_ref01_Kind ⟨[.int .u8 c_1]⟩ w R := calls_of_fnV Tryd.func17 (by rw [e_ref01_Kind]; exact h)

def an_law09_some : Ann := .two (.leaf) (.two (.leaf) (.leaf))
def sh_law09_some (s_1 : List UInt8) (characters_2 : List UInt8) (R : Ending → World → Prop) (w : World) : Prop :=
  al w 9 [.string ⟨⟨characters_2⟩⟩] fun p3 w4 =>
  s2b Tryd.prog w4 5 s_1 fun a5 a5n a5c w6 =>
  Calls Tryd.prog 36 ⟨[.slice a5 a5n a5c, .func (.func 37) ⟨[]⟩ ⟨[.pointer (some p3)]⟩]⟩ w6 fun (e7 : Ending) (w8 : World) =>
  ∃ (x9 : Bool), e7 = .returned (.bool x9) ∧ (R (.returned (.bool x9)) w8)
set_option maxRecDepth 100000 in
theorem e_law09_some (s_1 : List UInt8) (characters_2 : List UInt8) (R : Ending → World → Prop) (w : World) : fnV Tryd.prog Tryd.f18 an_law09_some [.string ⟨⟨s_1⟩⟩, .string ⟨⟨characters_2⟩⟩] R w = sh_law09_some s_1 characters_2 R w := by kernel_rfl
theorem c_law09_some {s_1 : List UInt8} {characters_2 : List UInt8} {R : Ending → World → Prop} {w : World} (h : sh_law09_some s_1 characters_2 R w) : Calls Tryd.prog F_law09_some ⟨[.string ⟨⟨s_1⟩⟩, .string ⟨⟨characters_2⟩⟩]⟩ w R := calls_of_fnV Tryd.func18 (by rw [e_law09_some]; exact h)

def an_markup_Tags : Ann := .two (.leaf) (.two (.leaf) (.two (.two (.leaf) (.one (.loop 65482 [(1, .one (.slice)), (6, .one (.int .i64))] (.two (.leaf) (.two (.two (.leaf) (.leaf)) (.two (.one (.two (.leaf) (.leaf))) (.leaf))))))) (.two (.leaf) (.leaf))))
def sh_markup_Tags  (R : Ending → World → Prop) (w : World) : Prop :=
  Calls Tryd.prog 39 ⟨[]⟩ w fun (e1 : Ending) (w2 : World) =>
  ∃ (x3 : Option Addr) (x3n : Nat) (x3c : Nat), e1 = .returned (.slice x3 x3n x3c) ∧ (∃ (I4 : Option Addr → Nat → Nat → Int → World → Nat → Prop), (∃ m9 : Nat, I4 none 0 0 0 w2 m9) ∧ ∀ (out_5 : Option Addr) (out_5n : Nat) (out_5c : Nat) (t6_6 : Int) (w7 : World) (m8 : Nat), I4 out_5 out_5n out_5c t6_6 w7 m8 → ∀ _ : Env, (br (decide ((t6_6 : Int) < ((x3n : Int)))) (idx x3 x3n t6_6 3 fun p10 =>
  ∃ (x11 : List UInt8), World.cell? w7 (p10.add 0) = some (.string ⟨⟨x11⟩⟩) ∧ (∃ (x12 : Bool), World.cell? w7 (p10.add 1) = some (.bool x12) ∧ (∃ (x13 : Value), World.cell? w7 (p10.add 2) = some (x13) ∧ (al w7 75 [.string ⟨⟨[]⟩⟩, .bool false, .nilFunc] fun p14 w15 =>
  stL w15 p14 0 [.string ⟨⟨x11⟩⟩, .bool x12, x13] fun w16 =>
  ∃ (x17 : List UInt8), World.cell? w16 (p14.add 0) = some (.string ⟨⟨x17⟩⟩) ∧ (al w16 9 [.string ⟨⟨x17⟩⟩] fun p18 w19 =>
  app Tryd.prog [38, 38] 38 (.slice out_5 out_5n out_5c) (.slice (some p18) 1 1) w19 fun a20 a20n a20c w21 =>
  ∃ m22 : Nat, m22 < m8 ∧ I4 a20 a20n a20c (IntKind.i64.wrap (t6_6 + 1)) w21 m22))))) (R (.returned (.slice out_5 out_5n out_5c)) w7)))
set_option maxRecDepth 100000 in
theorem e_markup_Tags  (R : Ending → World → Prop) (w : World) : fnV Tryd.prog Tryd.f19 an_markup_Tags [] R w = sh_markup_Tags  R w := by kernel_rfl
theorem c_markup_Tags  {R : Ending → World → Prop} {w : World} (h : sh_markup_Tags  R w) : Calls Tryd.prog F_markup_Tags ⟨[]⟩ w R := calls_of_fnV Tryd.func19 (by rw [e_markup_Tags]; exact h)

def an_slices_IsSorted_of_string_string : Ann := .two (.leaf) (.two (.two (.leaf) (.one (.loop 2097036 [(3, .one (.int .i64))] (.two (.two (.leaf) (.two (.leaf) (.leaf))) (.two (.one (.two (.leaf) (.two (.two (.leaf) (.leaf)) (.leaf)))) (.leaf)))))) (.two (.leaf) (.leaf)))
def sh_slices_IsSorted_of_string_string (x_1 : Option Addr) (x_1n : Nat) (x_1c : Nat) (R : Ending → World → Prop) (w : World) : Prop :=
  ∃ (I2 : Int → World → Nat → Prop), (∃ m6 : Nat, I2 (IntKind.i64.wrap (((x_1n : Int)) - 1)) w m6) ∧ ∀ (i_3 : Int) (w4 : World) (m5 : Nat), I2 i_3 w4 m5 → ∀ _ : Env, (br (decide ((0 : Int) < i_3)) (drw w4 fun w7 =>
  idx x_1 x_1n i_3 1 fun p8 =>
  ∃ (x9 : List UInt8), World.cell? w7 p8 = some (.string ⟨⟨x9⟩⟩) ∧ (idx x_1 x_1n (IntKind.i64.wrap (i_3 - 1)) 1 fun p10 =>
  ∃ (x11 : List UInt8), World.cell? w7 p10 = some (.string ⟨⟨x11⟩⟩) ∧ ((Calls Tryd.prog 40 ⟨[.string ⟨⟨x9⟩⟩, .string ⟨⟨x11⟩⟩]⟩ w7 fun (e12 : Ending) (w13 : World) =>
  ∃ (x14 : Bool), e12 = .returned (.bool x14) ∧ (br x14 (R (.returned (.bool false)) w13) (∃ m15 : Nat, m15 < m5 ∧ I2 (IntKind.i64.wrap (i_3 - 1)) w13 m15))) ∧ True))) (R (.returned (.bool true)) w4))
set_option maxRecDepth 100000 in
theorem e_slices_IsSorted_of_string_string (x_1 : Option Addr) (x_1n : Nat) (x_1c : Nat) (R : Ending → World → Prop) (w : World) : fnV Tryd.prog Tryd.f20 an_slices_IsSorted_of_string_string [.slice x_1 x_1n x_1c] R w = sh_slices_IsSorted_of_string_string x_1 x_1n x_1c R w := by kernel_rfl
theorem c_slices_IsSorted_of_string_string {x_1 : Option Addr} {x_1n : Nat} {x_1c : Nat} {R : Ending → World → Prop} {w : World} (h : sh_slices_IsSorted_of_string_string x_1 x_1n x_1c R w) : Calls Tryd.prog F_slices_IsSorted_of_string_string ⟨[.slice x_1 x_1n x_1c]⟩ w R := calls_of_fnV Tryd.func20 (by rw [e_slices_IsSorted_of_string_string]; exact h)

def an_markup_Find : Ann := .two (.leaf) (.two (.two (.leaf) (.two (.two (.leaf) (.leaf)) (.leaf))) (.two (.two (.leaf) (.one (.rf [3, 4, 5, 12] 0))) (.two (.leaf) (.leaf))))
def sh_markup_Find (l_1 : Option Addr) (l_1n : Nat) (l_1c : Nat) (offset_2 : Int) (R : Ending → World → Prop) (w : World) : Prop :=
  al w 3 [.int .i64 offset_2] fun p3 w4 =>
  al w4 3 [.int .i64 0] fun p5 w6 =>
  al w6 25 [.int .i64 0] fun p7 w8 =>
  Calls Tryd.prog 13 ⟨[.slice l_1 l_1n l_1c]⟩ w8 fun (e9 : Ending) (w10 : World) =>
  ∃ (x11 : Int), e9 = .returned (.int .i64 x11) ∧ (br (decide ((x11 : Int) ≠ 0)) (stL w10 p5 0 [.int .i64 0] fun w12 =>
  stL w12 p7 0 [.int .i64 1] fun w13 =>
  ∃ (x14 : Int), World.cell? w13 p5 = some (.int .i64 x14) ∧ (∃ (x15 : Int), World.cell? w13 p7 = some (.int .i64 x15) ∧ (R (.returned (.tuple ⟨[.int .i64 x14, .int .i64 x15]⟩)) w13))) (Calls Tryd.prog 41 ⟨[.slice l_1 l_1n l_1c]⟩ w10 fun (e16 : Ending) (w17 : World) =>
  ∃ (x18 : Fn) (x18a : Array Value) (x18b : Array Value), e16 = .returned (.func x18 x18a x18b) ∧ (∀ base19 : Env, RFw Tryd.prog none 28 (cdAt Tryd.f21 [1, 1, 0, 1, 2]) (upd (upd (upd (upd base19 12 (.func x18 x18a x18b)) 5 (.pointer (some p7))) 4 (.pointer (some p5))) 3 (.pointer (some p3))) [] w17 0 (fun ds20 w21 =>
  stL w21 p5 0 [.int .i64 0] fun w27 =>
  stL w27 p7 0 [.int .i64 2] fun w28 =>
  retD ds20 w28 fun w29 =>
  ∃ (x30 : Int), World.cell? w29 p5 = some (.int .i64 x30) ∧ (∃ (x31 : Int), World.cell? w29 p7 = some (.int .i64 x31) ∧ (R (.returned (.tuple ⟨[.int .i64 x30, .int .i64 x31]⟩)) w29))) (fun ds20 w21 =>
  retD ds20 w21 fun w32 =>
  ∃ (x33 : Int), World.cell? w32 p5 = some (.int .i64 x33) ∧ (∃ (x34 : Int), World.cell? w32 p7 = some (.int .i64 x34) ∧ (R (.returned (.tuple ⟨[.int .i64 x33, .int .i64 x34]⟩)) w32))) (fun ds20 w21 =>
  stL w21 p5 0 [.int .i64 0] fun w22 =>
  stL w22 p7 0 [.int .i64 2] fun w23 =>
  retD ds20 w23 fun w24 =>
  ∃ (x25 : Int), World.cell? w24 p5 = some (.int .i64 x25) ∧ (∃ (x26 : Int), World.cell? w24 p7 = some (.int .i64 x26) ∧ (R (.returned (.tuple ⟨[.int .i64 x25, .int .i64 x26]⟩)) w24))))))
set_option maxRecDepth 100000 in
theorem e_markup_Find (l_1 : Option Addr) (l_1n : Nat) (l_1c : Nat) (offset_2 : Int) (R : Ending → World → Prop) (w : World) : fnV Tryd.prog Tryd.f21 an_markup_Find [.slice l_1 l_1n l_1c, .int .i64 offset_2] R w = sh_markup_Find l_1 l_1n l_1c offset_2 R w := by kernel_rfl
theorem c_markup_Find {l_1 : Option Addr} {l_1n : Nat} {l_1c : Nat} {offset_2 : Int} {R : Ending → World → Prop} {w : World} (h : sh_markup_Find l_1 l_1n l_1c offset_2 R w) : Calls Tryd.prog F_markup_Find ⟨[.slice l_1 l_1n l_1c, .int .i64 offset_2]⟩ w R := calls_of_fnV Tryd.func21 (by rw [e_markup_Find]; exact h)
def anA_markup_Find_1 : Ann := .two (.leaf) (.leaf)
def anB_markup_Find_1 : Ann := .one (.two (.leaf) (.two (.two (.two (.one (.leaf)) (.two (.leaf) (.leaf))) (.two (.leaf) (.leaf))) (.leaf)))
def rf_markup_Find_1 (offset_35 : Option Addr) (t4_36 : Option Addr) (t5_37 : Option Addr) (t12_38 : Fn) (t12_38a : Array Value) (t12_38b : Array Value) (t13_39 : Int) (t14_40 : Int) (t14_41 : List UInt8) (t14_42 : List UInt8) (t14_43 : Int) (l : Nat) (Kn Kr Kx : World → World → Prop) (w : World) : Prop :=
  al w 44 [.int .i64 0, .string ⟨⟨[]⟩⟩, .string ⟨⟨[]⟩⟩, .int .i64 0] fun p45 w46 =>
  stL w46 p45 0 [.int .i64 t14_40, .string ⟨⟨t14_41⟩⟩, .string ⟨⟨t14_42⟩⟩, .int .i64 t14_43] fun w47 =>
  Ext w w47 ∧ ∀ w44 : World, Upd l w47 w44 → (dr offset_35 fun p48 =>
  ∃ (x49 : Int), World.cell? w44 p48 = some (.int .i64 x49) ∧ (∃ (x50 : Int), World.cell? w44 (p45.add 3) = some (.int .i64 x50) ∧ (br (decide ((x50 : Int) ≤ x49)) (drw w44 fun w51 =>
  ∃ (x52 : Int), World.cell? w51 (p45.add 0) = some (.int .i64 x52) ∧ (∃ (x53 : List UInt8), World.cell? w51 (p45.add 1) = some (.string ⟨⟨x53⟩⟩) ∧ (∃ (x54 : List UInt8), World.cell? w51 (p45.add 2) = some (.string ⟨⟨x54⟩⟩) ∧ (∃ (x55 : Int), World.cell? w51 (p45.add 3) = some (.int .i64 x55) ∧ ((dr offset_35 fun p56 =>
  ∃ (x57 : Int), World.cell? w51 p56 = some (.int .i64 x57) ∧ ((∃ (x58 : Int), World.cell? w51 (p45.add 3) = some (.int .i64 x58) ∧ ((Calls Tryd.prog 31 ⟨[.agg ⟨[.int .i64 x52, .string ⟨⟨x53⟩⟩, .string ⟨⟨x54⟩⟩, .int .i64 x55]⟩]⟩ w51 fun (e59 : Ending) (w60 : World) =>
  ∃ (x61 : List UInt8), e59 = .returned (.string ⟨⟨x61⟩⟩) ∧ (br (decide ((((List.length x61 : Int)) : Int) ≤ (IntKind.i64.wrap (x57 - x58)))) (Kx w44 w60) (dr t4_36 fun p63 =>
  stL w60 p63 0 [.int .i64 t13_39] fun w62 =>
  dr t5_37 fun p65 =>
  stL w62 p65 0 [.int .i64 0] fun w64 =>
  Kr w44 w64))) ∧ True)) ∧ (Calls Tryd.prog 31 ⟨[.agg ⟨[.int .i64 x52, .string ⟨⟨x53⟩⟩, .string ⟨⟨x54⟩⟩, .int .i64 x55]⟩]⟩ w51 fun (e66 : Ending) (w67 : World) =>
  ∃ (x68 : List UInt8), e66 = .returned (.string ⟨⟨x68⟩⟩) ∧ (∃ (x69 : Int), World.cell? w67 (p45.add 3) = some (.int .i64 x69) ∧ (br (decide ((((List.length x68 : Int)) : Int) ≤ (IntKind.i64.wrap (x57 - x69)))) (Kx w44 w67) (dr t4_36 fun p71 =>
  stL w67 p71 0 [.int .i64 t13_39] fun w70 =>
  dr t5_37 fun p73 =>
  stL w70 p73 0 [.int .i64 0] fun w72 =>
  Kr w44 w72)))) ∧ True)) ∧ (∃ (x74 : Int), World.cell? w51 (p45.add 3) = some (.int .i64 x74) ∧ ((Calls Tryd.prog 31 ⟨[.agg ⟨[.int .i64 x52, .string ⟨⟨x53⟩⟩, .string ⟨⟨x54⟩⟩, .int .i64 x55]⟩]⟩ w51 fun (e75 : Ending) (w76 : World) =>
  ∃ (x77 : List UInt8), e75 = .returned (.string ⟨⟨x77⟩⟩) ∧ (dr offset_35 fun p78 =>
  ∃ (x79 : Int), World.cell? w76 p78 = some (.int .i64 x79) ∧ (br (decide ((((List.length x77 : Int)) : Int) ≤ (IntKind.i64.wrap (x79 - x74)))) (Kx w44 w76) (dr t4_36 fun p81 =>
  stL w76 p81 0 [.int .i64 t13_39] fun w80 =>
  dr t5_37 fun p83 =>
  stL w80 p83 0 [.int .i64 0] fun w82 =>
  Kr w44 w82)))) ∧ True)) ∧ (Calls Tryd.prog 31 ⟨[.agg ⟨[.int .i64 x52, .string ⟨⟨x53⟩⟩, .string ⟨⟨x54⟩⟩, .int .i64 x55]⟩]⟩ w51 fun (e84 : Ending) (w85 : World) =>
  ∃ (x86 : List UInt8), e84 = .returned (.string ⟨⟨x86⟩⟩) ∧ (dr offset_35 fun p87 =>
  ∃ (x88 : Int), World.cell? w85 p87 = some (.int .i64 x88) ∧ (∃ (x89 : Int), World.cell? w85 (p45.add 3) = some (.int .i64 x89) ∧ (br (decide ((((List.length x86 : Int)) : Int) ≤ (IntKind.i64.wrap (x88 - x89)))) (Kx w44 w85) (dr t4_36 fun p91 =>
  stL w85 p91 0 [.int .i64 t13_39] fun w90 =>
  dr t5_37 fun p93 =>
  stL w90 p93 0 [.int .i64 0] fun w92 =>
  Kr w44 w92))))) ∧ True))))) (Kn w44 w44))))
set_option maxRecDepth 100000 in
theorem er_markup_Find_1 (base : Env) (offset_35 : Option Addr) (t4_36 : Option Addr) (t5_37 : Option Addr) (t12_38 : Fn) (t12_38a : Array Value) (t12_38b : Array Value) (t13_39 : Int) (t14_40 : Int) (t14_41 : List UInt8) (t14_42 : List UInt8) (t14_43 : Int) (l : Nat) (Kn Kr Kx : World → World → Prop) (w : World) : fragV Tryd.prog 28 anA_markup_Find_1 anB_markup_Find_1 (cdAt Tryd.f21 [1, 1, 0, 1, 2, 5]) (cdAt Tryd.f21 [1, 1, 0, 1, 2, 6]) l 0 Kn Kr Kx (updPs [13, 14] [.int .i64 t13_39, .agg ⟨[.int .i64 t14_40, .string ⟨⟨t14_41⟩⟩, .string ⟨⟨t14_42⟩⟩, .int .i64 t14_43]⟩] (upd (upd (upd (upd base 12 (.func t12_38 t12_38a t12_38b)) 5 (.pointer t5_37)) 4 (.pointer t4_36)) 3 (.pointer offset_35))) w = rf_markup_Find_1 offset_35 t4_36 t5_37 t12_38 t12_38a t12_38b t13_39 t14_40 t14_41 t14_42 t14_43 l Kn Kr Kx w := by kernel_rfl
theorem cd_markup_Find_1 : cdAt Tryd.f21 [1, 1, 0, 1, 2] = .rangeFunc (Operand.tmp 12) #[13, 14] (cdAt Tryd.f21 [1, 1, 0, 1, 2, 5]) (cdAt Tryd.f21 [1, 1, 0, 1, 2, 6]) := by kernel_rfl

def an_slices_Concat_of_api_Lexeme_api_Lexeme : Ann := .two (.leaf) (.two (.leaf) (.two (.two (.leaf) (.one (.loop 8386600 [(3, .one (.int .i64)), (11, .one (.int .i64))] (.two (.leaf) (.two (.two (.leaf) (.leaf)) (.two (.one (.two (.leaf) (.two (.leaf) (.two (.leaf) (.two (.leaf) (.leaf)))))) (.leaf))))))) (.two (.leaf) (.two (.two (.leaf) (.one (.loop 34225520960 [(6, .one (.slice)), (27, .one (.int .i64))] (.two (.leaf) (.two (.two (.leaf) (.leaf)) (.two (.one (.two (.leaf) (.leaf))) (.leaf))))))) (.two (.leaf) (.leaf))))))
def sh_slices_Concat_of_api_Lexeme_api_Lexeme (slices_1 : Option Addr) (slices_1n : Nat) (slices_1c : Nat) (R : Ending → World → Prop) (w : World) : Prop :=
  ∃ (I2 : Int → Int → World → Nat → Prop), (∃ m7 : Nat, I2 0 0 w m7) ∧ ∀ (size_3 : Int) (t11_4 : Int) (w5 : World) (m6 : Nat), I2 size_3 t11_4 w5 m6 → ∀ _ : Env, (br (decide ((t11_4 : Int) < ((slices_1n : Int)))) (idx slices_1 slices_1n t11_4 1 fun p8 =>
  ∃ (x9 : Option Addr) (x9n : Nat) (x9c : Nat), World.cell? w5 p8 = some (.slice x9 x9n x9c) ∧ (br (decide (((IntKind.i64.wrap (size_3 + ((x9n : Int)))) : Int) < 0)) (False) (∃ m10 : Nat, m10 < m6 ∧ I2 (IntKind.i64.wrap (size_3 + ((x9n : Int)))) (IntKind.i64.wrap (t11_4 + 1)) w5 m10))) (Calls Tryd.prog 42 ⟨[.slice none 0 0, .int .i64 size_3]⟩ w5 fun (e11 : Ending) (w12 : World) =>
  ∃ (x13 : Option Addr) (x13n : Nat) (x13c : Nat), e11 = .returned (.slice x13 x13n x13c) ∧ (∃ (I14 : Option Addr → Nat → Nat → Int → World → Nat → Prop), (∃ m19 : Nat, I14 x13 x13n x13c 0 w12 m19) ∧ ∀ (newslice_15 : Option Addr) (newslice_15n : Nat) (newslice_15c : Nat) (t27_16 : Int) (w17 : World) (m18 : Nat), I14 newslice_15 newslice_15n newslice_15c t27_16 w17 m18 → ∀ _ : Env, (br (decide ((t27_16 : Int) < ((slices_1n : Int)))) (idx slices_1 slices_1n t27_16 1 fun p20 =>
  ∃ (x21 : Option Addr) (x21n : Nat) (x21c : Nat), World.cell? w17 p20 = some (.slice x21 x21n x21c) ∧ (app Tryd.prog [22, 22] 22 (.slice newslice_15 newslice_15n newslice_15c) (.slice x21 x21n x21c) w17 fun a22 a22n a22c w23 =>
  ∃ m24 : Nat, m24 < m18 ∧ I14 a22 a22n a22c (IntKind.i64.wrap (t27_16 + 1)) w23 m24)) (R (.returned (.slice newslice_15 newslice_15n newslice_15c)) w17)))))
set_option maxRecDepth 100000 in
theorem e_slices_Concat_of_api_Lexeme_api_Lexeme (slices_1 : Option Addr) (slices_1n : Nat) (slices_1c : Nat) (R : Ending → World → Prop) (w : World) : fnV Tryd.prog Tryd.f22 an_slices_Concat_of_api_Lexeme_api_Lexeme [.slice slices_1 slices_1n slices_1c] R w = sh_slices_Concat_of_api_Lexeme_api_Lexeme slices_1 slices_1n slices_1c R w := by kernel_rfl
theorem c_slices_Concat_of_api_Lexeme_api_Lexeme {slices_1 : Option Addr} {slices_1n : Nat} {slices_1c : Nat} {R : Ending → World → Prop} {w : World} (h : sh_slices_Concat_of_api_Lexeme_api_Lexeme slices_1 slices_1n slices_1c R w) : Calls Tryd.prog F_slices_Concat_of_api_Lexeme_api_Lexeme ⟨[.slice slices_1 slices_1n slices_1c]⟩ w R := calls_of_fnV Tryd.func22 (by rw [e_slices_Concat_of_api_Lexeme_api_Lexeme]; exact h)

def an_law09_shifted : Ann := .two (.leaf) (.two (.leaf) (.two (.two (.leaf) (.one (.loop 16775232 [(11, .one (.int .i64))] (.two (.leaf) (.two (.two (.leaf) (.leaf)) (.two (.one (.two (.leaf) (.leaf))) (.leaf))))))) (.two (.leaf) (.leaf))))
def sh_law09_shifted (l_1 : Option Addr) (l_1n : Nat) (l_1c : Nat) (by_2 : Int) (R : Ending → World → Prop) (w : World) : Prop :=
  Calls Tryd.prog 26 ⟨[.slice l_1 l_1n l_1c]⟩ w fun (e3 : Ending) (w4 : World) =>
  ∃ (x5 : Option Addr) (x5n : Nat) (x5c : Nat), e3 = .returned (.slice x5 x5n x5c) ∧ (∃ (I6 : Int → World → Nat → Prop), (∃ m10 : Nat, I6 0 w4 m10) ∧ ∀ (t11_7 : Int) (w8 : World) (m9 : Nat), I6 t11_7 w8 m9 → ∀ _ : Env, (br (decide ((t11_7 : Int) < ((x5n : Int)))) (idx x5 x5n t11_7 4 fun p11 =>
  ∃ (x12 : Int), World.cell? w8 (p11.add 3) = some (.int .i64 x12) ∧ (idx x5 x5n t11_7 4 fun p13 =>
  stL w8 (p13.add 3) 0 [.int .i64 (IntKind.i64.wrap (x12 + by_2))] fun w14 =>
  ∃ m15 : Nat, m15 < m9 ∧ I6 (IntKind.i64.wrap (t11_7 + 1)) w14 m15)) (R (.returned (.slice x5 x5n x5c)) w8)))
set_option maxRecDepth 100000 in
theorem e_law09_shifted (l_1 : Option Addr) (l_1n : Nat) (l_1c : Nat) (by_2 : Int) (R : Ending → World → Prop) (w : World) : fnV Tryd.prog Tryd.f23 an_law09_shifted [.slice l_1 l_1n l_1c, .int .i64 by_2] R w = sh_law09_shifted l_1 l_1n l_1c by_2 R w := by kernel_rfl
theorem c_law09_shifted {l_1 : Option Addr} {l_1n : Nat} {l_1c : Nat} {by_2 : Int} {R : Ending → World → Prop} {w : World} (h : sh_law09_shifted l_1 l_1n l_1c by_2 R w) : Calls Tryd.prog F_law09_shifted ⟨[.slice l_1 l_1n l_1c, .int .i64 by_2]⟩ w R := calls_of_fnV Tryd.func23 (by rw [e_law09_shifted]; exact h)

def an_markup_Nested : Ann := .two (.leaf) (.two (.two (.leaf) (.two (.two (.leaf) (.leaf)) (.leaf))) (.two (.leaf) (.two (.two (.leaf) (.one (.loop 562949953419308 [(3, .one (.slice)), (11, .one (.int .i64))] (.two (.leaf) (.two (.two (.leaf) (.leaf)) (.two (.one (.two (.leaf) (.two (.leaf) (.one (.two (.leaf) (.two (.two (.leaf) (.two (.leaf) (.two (.two (.leaf) (.leaf)) (.leaf)))) (.two (.leaf) (.two (.cut 8795556151300 [] (.two (.leaf) (.two (.two (.leaf) (.leaf)) (.leaf))) (.leaf)) (.leaf))))))))) (.leaf))))))) (.two (.two (.leaf) (.two (.two (.leaf) (.leaf)) (.leaf))) (.two (.leaf) (.leaf))))))
def sh_markup_Nested (l_1 : Option Addr) (l_1n : Nat) (l_1c : Nat) (R : Ending → World → Prop) (w : World) : Prop :=
  Calls Tryd.prog 13 ⟨[.slice l_1 l_1n l_1c]⟩ w fun (e2 : Ending) (w3 : World) =>
  ∃ (x4 : Int), e2 = .returned (.int .i64 x4) ∧ (br (decide ((x4 : Int) ≠ 0)) (R (.returned (.int .i64 1)) w3) (∃ (I5 : Option Addr → Nat → Nat → Int → World → Nat → Prop), (∃ m10 : Nat, I5 none 0 0 0 w3 m10) ∧ ∀ (open_6 : Option Addr) (open_6n : Nat) (open_6c : Nat) (t11_7 : Int) (w8 : World) (m9 : Nat), I5 open_6 open_6n open_6c t11_7 w8 m9 → ∀ _ : Env, (br (decide ((t11_7 : Int) < ((l_1n : Int)))) (idx l_1 l_1n t11_7 4 fun p11 =>
  ∃ (x12 : Int), World.cell? w8 (p11.add 0) = some (.int .i64 x12) ∧ (∃ (x13 : List UInt8), World.cell? w8 (p11.add 1) = some (.string ⟨⟨x13⟩⟩) ∧ (∃ (x14 : List UInt8), World.cell? w8 (p11.add 2) = some (.string ⟨⟨x14⟩⟩) ∧ (∃ (x15 : Int), World.cell? w8 (p11.add 3) = some (.int .i64 x15) ∧ (al w8 44 [.int .i64 0, .string ⟨⟨[]⟩⟩, .string ⟨⟨[]⟩⟩, .int .i64 0] fun p16 w17 =>
  stL w17 p16 0 [.int .i64 x12, .string ⟨⟨x13⟩⟩, .string ⟨⟨x14⟩⟩, .int .i64 x15] fun w18 =>
  ∃ (x19 : Int), World.cell? w18 (p16.add 0) = some (.int .i64 x19) ∧ (br (decide ((x19 : Int) = 2)) (∃ (x20 : List UInt8), World.cell? w18 (p16.add 1) = some (.string ⟨⟨x20⟩⟩) ∧ (al w18 9 [.string ⟨⟨x20⟩⟩] fun p21 w22 =>
  app Tryd.prog [38, 38] 38 (.slice open_6 open_6n open_6c) (.slice (some p21) 1 1) w22 fun a23 a23n a23c w24 =>
  br (decide ((16 : Int) < ((a23n : Int)))) (R (.returned (.int .i64 4)) w24) (∃ m25 : Nat, m25 < m9 ∧ I5 a23 a23n a23c (IntKind.i64.wrap (t11_7 + 1)) w24 m25))) (br (decide ((x19 : Int) = 3)) (∀ (K26 : World → Prop), (∀  (w27 : World), (∀ _ : Env, (sls open_6 open_6c 0 (IntKind.i64.wrap (((open_6n : Int)) - 1)) 1 fun a28 a28n a28c =>
  ∃ m29 : Nat, m29 < m9 ∧ I5 a28 a28n a28c (IntKind.i64.wrap (t11_7 + 1)) w27 m29)) → K26 w27) → (drw w18 fun w30 =>
  br (decide ((((open_6n : Int)) : Int) = 0)) (R (.returned (.int .i64 12)) w30) (idx open_6 open_6n (IntKind.i64.wrap (((open_6n : Int)) - 1)) 1 fun p31 =>
  ∃ (x32 : List UInt8), World.cell? w30 p31 = some (.string ⟨⟨x32⟩⟩) ∧ (∃ (x33 : List UInt8), World.cell? w30 (p16.add 1) = some (.string ⟨⟨x33⟩⟩) ∧ (br (decide ((x32 : List UInt8) ≠ x33)) (R (.returned (.int .i64 12)) w30) (K26 w30)))))) (∃ m34 : Nat, m34 < m9 ∧ I5 open_6 open_6n open_6c (IntKind.i64.wrap (t11_7 + 1)) w18 m34)))))))) (br (decide ((0 : Int) < ((open_6n : Int)))) (R (.returned (.int .i64 12)) w8) (R (.returned (.int .i64 0)) w8)))))
set_option maxRecDepth 100000 in
theorem e_markup_Nested (l_1 : Option Addr) (l_1n : Nat) (l_1c : Nat) (R : Ending → World → Prop) (w : World) : fnV Tryd.prog Tryd.f24 an_markup_Nested [.slice l_1 l_1n l_1c] R w = sh_markup_Nested l_1 l_1n l_1c R w := by kernel_rfl
theorem c_markup_Nested {l_1 : Option Addr} {l_1n : Nat} {l_1c : Nat} {R : Ending → World → Prop} {w : World} (h : sh_markup_Nested l_1 l_1n l_1c R w) : Calls Tryd.prog F_markup_Nested ⟨[.slice l_1 l_1n l_1c]⟩ w R := calls_of_fnV Tryd.func24 (by rw [e_markup_Nested]; exact h)

def an_law09_at : Ann := .two (.leaf) (.two (.leaf) (.two (.leaf) (.two (.two (.leaf) (.one (.loop 70368744175728 [(4, .one (.int .i64)), (11, .one (.int .i64))] (.two (.leaf) (.two (.two (.leaf) (.leaf)) (.two (.one (.two (.leaf) (.two (.leaf) (.two (.leaf) (.two (.leaf) (.two (.two (.leaf) (.cut 1065151889424 [(4, .one (.int .i64))] (.two (.leaf) (.two (.leaf) (.leaf))) (.two (.leaf) (.two (.leaf) (.leaf))))) (.leaf))))))) (.leaf))))))) (.two (.leaf) (.leaf)))))
def sh_law09_at (l_1 : Option Addr) (l_1n : Nat) (l_1c : Nat) (R : Ending → World → Prop) (w : World) : Prop :=
  Calls Tryd.prog 26 ⟨[.slice l_1 l_1n l_1c]⟩ w fun (e2 : Ending) (w3 : World) =>
  ∃ (x4 : Option Addr) (x4n : Nat) (x4c : Nat), e2 = .returned (.slice x4 x4n x4c) ∧ (∃ (I5 : Int → Int → World → Nat → Prop), (∃ m10 : Nat, I5 0 0 w3 m10) ∧ ∀ (n_6 : Int) (t11_7 : Int) (w8 : World) (m9 : Nat), I5 n_6 t11_7 w8 m9 → ∀ _ : Env, (br (decide ((t11_7 : Int) < ((x4n : Int)))) (idx x4 x4n t11_7 4 fun p11 =>
  ∃ (x12 : Int), World.cell? w8 (p11.add 0) = some (.int .i64 x12) ∧ (∃ (x13 : List UInt8), World.cell? w8 (p11.add 1) = some (.string ⟨⟨x13⟩⟩) ∧ (∃ (x14 : List UInt8), World.cell? w8 (p11.add 2) = some (.string ⟨⟨x14⟩⟩) ∧ (∃ (x15 : Int), World.cell? w8 (p11.add 3) = some (.int .i64 x15) ∧ (al w8 44 [.int .i64 0, .string ⟨⟨[]⟩⟩, .string ⟨⟨[]⟩⟩, .int .i64 0] fun p16 w17 =>
  stL w17 p16 0 [.int .i64 x12, .string ⟨⟨x13⟩⟩, .string ⟨⟨x14⟩⟩, .int .i64 x15] fun w18 =>
  idx x4 x4n t11_7 4 fun p19 =>
  stL w18 (p19.add 3) 0 [.int .i64 n_6] fun w20 =>
  ∃ (x21 : List UInt8), World.cell? w20 (p16.add 1) = some (.string ⟨⟨x21⟩⟩) ∧ (∃ (x22 : List UInt8), World.cell? w20 (p16.add 2) = some (.string ⟨⟨x22⟩⟩) ∧ (∃ (x23 : Int), World.cell? w20 (p16.add 0) = some (.int .i64 x23) ∧ (br (decide ((x23 : Int) ≠ 1)) (∀ (K24 : Int → World → Prop), (∀ (n_25 : Int) (w26 : World), (∀ _ : Env, (∃ (x27 : Int), World.cell? w26 (p16.add 0) = some (.int .i64 x27) ∧ (br (decide ((x27 : Int) ≠ 2)) (∃ m28 : Nat, m28 < m9 ∧ I5 (IntKind.i64.wrap (n_25 + 1)) (IntKind.i64.wrap (t11_7 + 1)) w26 m28) (∃ m29 : Nat, m29 < m9 ∧ I5 n_25 (IntKind.i64.wrap (t11_7 + 1)) w26 m29)))) → K24 n_25 w26) → (∃ (x30 : List UInt8), World.cell? w20 (p16.add 2) = some (.string ⟨⟨x30⟩⟩) ∧ (br (decide ((x30 : List UInt8) ≠ ([]))) (K24 (IntKind.i64.wrap ((IntKind.i64.wrap ((IntKind.i64.wrap (n_6 + (IntKind.i64.wrap (((List.length x21 : Int)) + ((List.length x22 : Int)))))) + 2)) + 1)) w20) (K24 (IntKind.i64.wrap ((IntKind.i64.wrap (n_6 + (IntKind.i64.wrap (((List.length x21 : Int)) + ((List.length x22 : Int)))))) + 2)) w20)))) (∃ m31 : Nat, m31 < m9 ∧ I5 (IntKind.i64.wrap (n_6 + (IntKind.i64.wrap (((List.length x21 : Int)) + ((List.length x22 : Int)))))) (IntKind.i64.wrap (t11_7 + 1)) w20 m31))))))))) (R (.returned (.slice x4 x4n x4c)) w8)))
set_option maxRecDepth 100000 in
theorem e_law09_at (l_1 : Option Addr) (l_1n : Nat) (l_1c : Nat) (R : Ending → World → Prop) (w : World) : fnV Tryd.prog Tryd.f25 an_law09_at [.slice l_1 l_1n l_1c] R w = sh_law09_at l_1 l_1n l_1c R w := by kernel_rfl
theorem c_law09_at {l_1 : Option Addr} {l_1n : Nat} {l_1c : Nat} {R : Ending → World → Prop} {w : World} (h : sh_law09_at l_1 l_1n l_1c R w) : Calls Tryd.prog F_law09_at ⟨[.slice l_1 l_1n l_1c]⟩ w R := calls_of_fnV Tryd.func25 (by rw [e_law09_at]; exact h)

def an_slices_Clone_of_api_Lexeme_api_Lexeme : Ann := .two (.leaf) (.two (.two (.leaf) (.two (.two (.leaf) (.leaf)) (.leaf))) (.two (.leaf) (.leaf)))
def sh_slices_Clone_of_api_Lexeme_api_Lexeme (s_1 : Option Addr) (s_1n : Nat) (s_1c : Nat) (R : Ending → World → Prop) (w : World) : Prop :=
  br (Option.isNone s_1) (R (.returned (.slice none 0 0)) w) (al w 44 [] fun p2 w3 =>
  app Tryd.prog [22, 22] 22 (.slice (some p2) 0 0) (.slice s_1 s_1n s_1c) w3 fun a4 a4n a4c w5 =>
  R (.returned (.slice a4 a4n a4c)) w5)
set_option maxRecDepth 100000 in
theorem e_slices_Clone_of_api_Lexeme_api_Lexeme (s_1 : Option Addr) (s_1n : Nat) (s_1c : Nat) (R : Ending → World → Prop) (w : World) : fnV Tryd.prog Tryd.f26 an_slices_Clone_of_api_Lexeme_api_Lexeme [.slice s_1 s_1n s_1c] R w = sh_slices_Clone_of_api_Lexeme_api_Lexeme s_1 s_1n s_1c R w := by kernel_rfl
theorem c_slices_Clone_of_api_Lexeme_api_Lexeme {s_1 : Option Addr} {s_1n : Nat} {s_1c : Nat} {R : Ending → World → Prop} {w : World} (h : sh_slices_Clone_of_api_Lexeme_api_Lexeme s_1 s_1n s_1c R w) : Calls Tryd.prog F_slices_Clone_of_api_Lexeme_api_Lexeme ⟨[.slice s_1 s_1n s_1c]⟩ w R := calls_of_fnV Tryd.func26 (by rw [e_slices_Clone_of_api_Lexeme_api_Lexeme]; exact h)

def an_markup_parts : Ann := .two (.leaf) (.two (.leaf) (.leaf))
def sh_markup_parts (s_1 : List UInt8) (R : Ending → World → Prop) (w : World) : Prop :=
  al w 9 [.string ⟨⟨s_1⟩⟩] fun p2 w3 =>
  R (.returned (.func (.func 43) ⟨[]⟩ ⟨[.pointer (some p2)]⟩)) w3
set_option maxRecDepth 100000 in
theorem e_markup_parts (s_1 : List UInt8) (R : Ending → World → Prop) (w : World) : fnV Tryd.prog Tryd.f27 an_markup_parts [.string ⟨⟨s_1⟩⟩] R w = sh_markup_parts s_1 R w := by kernel_rfl
theorem c_markup_parts {s_1 : List UInt8} {R : Ending → World → Prop} {w : World} (h : sh_markup_parts s_1 R w) : Calls Tryd.prog F_markup_parts ⟨[.string ⟨⟨s_1⟩⟩]⟩ w R := calls_of_fnV Tryd.func27 (by rw [e_markup_parts]; exact h)

def an_charset_Check : Ann := .two (.leaf) (.two (.two (.leaf) (.two (.two (.leaf) (.leaf)) (.leaf))) (.two (.two (.leaf) (.one (.rf [2, 10] 0))) (.two (.leaf) (.leaf))))
def sh_charset_Check (s_1 : List UInt8) (R : Ending → World → Prop) (w : World) : Prop :=
  al w 25 [.int .i64 0] fun p2 w3 =>
  br (decide ((65536 : Int) < ((List.length s_1 : Int)))) (stL w3 p2 0 [.int .i64 4] fun w4 =>
  ∃ (x5 : Int), World.cell? w4 p2 = some (.int .i64 x5) ∧ (R (.returned (.int .i64 x5)) w4)) (Calls Tryd.prog 44 ⟨[.string ⟨⟨s_1⟩⟩]⟩ w3 fun (e6 : Ending) (w7 : World) =>
  ∃ (x8 : Fn) (x8a : Array Value) (x8b : Array Value), e6 = .returned (.func x8 x8a x8b) ∧ (∀ base9 : Env, RFw Tryd.prog none 22 (cdAt Tryd.f28 [1, 1, 0, 1, 2]) (upd (upd base9 10 (.func x8 x8a x8b)) 2 (.pointer (some p2))) [] w7 0 (fun ds10 w11 =>
  stL w11 p2 0 [.int .i64 0] fun w15 =>
  retD ds10 w15 fun w16 =>
  ∃ (x17 : Int), World.cell? w16 p2 = some (.int .i64 x17) ∧ (R (.returned (.int .i64 x17)) w16)) (fun ds10 w11 =>
  retD ds10 w11 fun w18 =>
  ∃ (x19 : Int), World.cell? w18 p2 = some (.int .i64 x19) ∧ (R (.returned (.int .i64 x19)) w18)) (fun ds10 w11 =>
  stL w11 p2 0 [.int .i64 0] fun w12 =>
  retD ds10 w12 fun w13 =>
  ∃ (x14 : Int), World.cell? w13 p2 = some (.int .i64 x14) ∧ (R (.returned (.int .i64 x14)) w13))))
set_option maxRecDepth 100000 in
theorem e_charset_Check (s_1 : List UInt8) (R : Ending → World → Prop) (w : World) : fnV Tryd.prog Tryd.f28 an_charset_Check [.string ⟨⟨s_1⟩⟩] R w = sh_charset_Check s_1 R w := by kernel_rfl
theorem c_charset_Check {s_1 : List UInt8} {R : Ending → World → Prop} {w : World} (h : sh_charset_Check s_1 R w) : Calls Tryd.prog F_charset_Check ⟨[.string ⟨⟨s_1⟩⟩]⟩ w R := calls_of_fnV Tryd.func28 (by rw [e_charset_Check]; exact h)
def anA_charset_Check_1 : Ann := .leaf
def anB_charset_Check_1 : Ann := .one (.two (.leaf) (.two (.leaf) (.two (.two (.leaf) (.leaf)) (.leaf))))
def rf_charset_Check_1 (t2_20 : Option Addr) (t10_21 : Fn) (t10_21a : Array Value) (t10_21b : Array Value) (t11_22 : Value) (t12_23 : List UInt8) (l : Nat) (Kn Kr Kx : World → World → Prop) (w : World) : Prop :=
  Ext w w ∧ ∀ w24 : World, Upd l w w24 → (sidx t12_23 0 fun b25 =>
  Calls Tryd.prog 45 ⟨[.int .u8 ((b25.toNat : Int))]⟩ w24 fun (e26 : Ending) (w27 : World) =>
  ∃ (x28 : Int), e26 = .returned (.int .i64 x28) ∧ (br (decide ((x28 : Int) = 0)) (dr t2_20 fun p30 =>
  stL w27 p30 0 [.int .i64 11] fun w29 =>
  Kr w24 w29) (br (decide ((x28 : Int) = 2)) (dr t2_20 fun p32 =>
  stL w27 p32 0 [.int .i64 11] fun w31 =>
  Kr w24 w31) (Kn w24 w27))))
set_option maxRecDepth 100000 in
theorem er_charset_Check_1 (base : Env) (t2_20 : Option Addr) (t10_21 : Fn) (t10_21a : Array Value) (t10_21b : Array Value) (t11_22 : Value) (t12_23 : List UInt8) (l : Nat) (Kn Kr Kx : World → World → Prop) (w : World) : fragV Tryd.prog 22 anA_charset_Check_1 anB_charset_Check_1 (cdAt Tryd.f28 [1, 1, 0, 1, 2, 5]) (cdAt Tryd.f28 [1, 1, 0, 1, 2, 6]) l 0 Kn Kr Kx (updPs [11, 12] [t11_22, .string ⟨⟨t12_23⟩⟩] (upd (upd base 10 (.func t10_21 t10_21a t10_21b)) 2 (.pointer t2_20))) w = rf_charset_Check_1 t2_20 t10_21 t10_21a t10_21b t11_22 t12_23 l Kn Kr Kx w := by kernel_rfl
theorem cd_charset_Check_1 : cdAt Tryd.f28 [1, 1, 0, 1, 2] = .rangeFunc (Operand.tmp 10) #[11, 12] (cdAt Tryd.f28 [1, 1, 0, 1, 2, 5]) (cdAt Tryd.f28 [1, 1, 0, 1, 2, 6]) := by kernel_rfl

def an_markup_read : Ann := .two (.leaf) (.two (.leaf) (.two (.leaf) (.cut 133169248 [(5, .one (.str))] (.two (.leaf) (.two (.leaf) (.two (.leaf) (.leaf)))) (.two (.leaf) (.two (.two (.leaf) (.two (.two (.leaf) (.leaf)) (.leaf))) (.two (.leaf) (.cut 1924145348608 [] (.two (.leaf) (.two (.leaf) (.leaf))) (.cut 18012199486233600 [] (.two (.leaf) (.two (.leaf) (.two (.leaf) (.two (.leaf) (.two (.leaf) (.leaf)))))) (.two (.two (.leaf) (.two (.two (.leaf) (.leaf)) (.leaf))) (.two (.leaf) (.leaf)))))))))))
def sh_markup_read (part_1 : List UInt8) (R : Ending → World → Prop) (w : World) : Prop :=
  al w 44 [.int .i64 0, .string ⟨⟨[]⟩⟩, .string ⟨⟨[]⟩⟩, .int .i64 0] fun p2 w3 =>
  ssl part_1 1 (IntKind.i64.wrap (((List.length part_1 : Int)) - 1)) fun s4 =>
  Calls Tryd.prog 46 ⟨[.string ⟨⟨s4⟩⟩, .string ⟨⟨[47]⟩⟩]⟩ w3 fun (e5 : Ending) (w6 : World) =>
  ∃ (x7 : List UInt8), e5 = .returned (.string ⟨⟨x7⟩⟩) ∧ (∀ (K8 : List UInt8 → World → Prop), (∀ (bare_9 : List UInt8) (w10 : World), (∀ _ : Env, (Calls Tryd.prog 48 ⟨[.string ⟨⟨bare_9⟩⟩]⟩ w10 fun (e11 : Ending) (w12 : World) =>
  ∃ (x13 : List UInt8) (x14 : Bool) (x15 : Value) (x16 : Bool), e11 = .returned (.tuple ⟨[.agg ⟨[.string ⟨⟨x13⟩⟩, .bool x14, x15]⟩, .bool x16]⟩) ∧ (al w12 75 [.string ⟨⟨[]⟩⟩, .bool false, .nilFunc] fun p17 w18 =>
  stL w18 p17 0 [.string ⟨⟨x13⟩⟩, .bool x14, x15] fun w19 =>
  br (!x16) (stL w19 p2 0 [.int .i64 0, .string ⟨⟨[]⟩⟩, .string ⟨⟨[]⟩⟩, .int .i64 0] fun w20 =>
  ∃ (x21 : Int), World.cell? w20 (p2.add 0) = some (.int .i64 x21) ∧ (∃ (x22 : List UInt8), World.cell? w20 (p2.add 1) = some (.string ⟨⟨x22⟩⟩) ∧ (∃ (x23 : List UInt8), World.cell? w20 (p2.add 2) = some (.string ⟨⟨x23⟩⟩) ∧ (∃ (x24 : Int), World.cell? w20 (p2.add 3) = some (.int .i64 x24) ∧ (R (.returned (.tuple ⟨[.agg ⟨[.int .i64 x21, .string ⟨⟨x22⟩⟩, .string ⟨⟨x23⟩⟩, .int .i64 x24]⟩, .int .i64 12]⟩)) w20))))) (∃ (x25 : List UInt8), World.cell? w19 (p17.add 0) = some (.string ⟨⟨x25⟩⟩) ∧ (al w19 44 [.int .i64 0, .string ⟨⟨[]⟩⟩, .string ⟨⟨[]⟩⟩, .int .i64 0] fun p26 w27 =>
  stL w27 p26 0 [.int .i64 2, .string ⟨⟨x25⟩⟩, .string ⟨⟨[]⟩⟩, .int .i64 0] fun w28 =>
  ∀ (K29 : World → Prop), (∀  (w30 : World), (∀ _ : Env, (∀ (K31 : World → Prop), (∀  (w32 : World), (∀ _ : Env, (∃ (x33 : Int), World.cell? w32 (p26.add 0) = some (.int .i64 x33) ∧ (br (decide ((x33 : Int) = 3)) (∃ (x34 : Bool), World.cell? w32 (p17.add 1) = some (.bool x34) ∧ (br x34 (stL w32 p2 0 [.int .i64 0, .string ⟨⟨[]⟩⟩, .string ⟨⟨[]⟩⟩, .int .i64 0] fun w35 =>
  ∃ (x36 : Int), World.cell? w35 (p2.add 0) = some (.int .i64 x36) ∧ (∃ (x37 : List UInt8), World.cell? w35 (p2.add 1) = some (.string ⟨⟨x37⟩⟩) ∧ (∃ (x38 : List UInt8), World.cell? w35 (p2.add 2) = some (.string ⟨⟨x38⟩⟩) ∧ (∃ (x39 : Int), World.cell? w35 (p2.add 3) = some (.int .i64 x39) ∧ (R (.returned (.tuple ⟨[.agg ⟨[.int .i64 x36, .string ⟨⟨x37⟩⟩, .string ⟨⟨x38⟩⟩, .int .i64 x39]⟩, .int .i64 3]⟩)) w35))))) (∃ (x40 : Int), World.cell? w32 (p26.add 0) = some (.int .i64 x40) ∧ (∃ (x41 : List UInt8), World.cell? w32 (p26.add 1) = some (.string ⟨⟨x41⟩⟩) ∧ (∃ (x42 : List UInt8), World.cell? w32 (p26.add 2) = some (.string ⟨⟨x42⟩⟩) ∧ (∃ (x43 : Int), World.cell? w32 (p26.add 3) = some (.int .i64 x43) ∧ (Calls Tryd.prog 34 ⟨[.agg ⟨[.int .i64 x40, .string ⟨⟨x41⟩⟩, .string ⟨⟨x42⟩⟩, .int .i64 x43]⟩]⟩ w32 fun (e44 : Ending) (w45 : World) =>
  ∃ (x46 : Bool), e44 = .returned (.bool x46) ∧ (br (!x46) (stL w45 p2 0 [.int .i64 0, .string ⟨⟨[]⟩⟩, .string ⟨⟨[]⟩⟩, .int .i64 0] fun w47 =>
  ∃ (x48 : Int), World.cell? w47 (p2.add 0) = some (.int .i64 x48) ∧ (∃ (x49 : List UInt8), World.cell? w47 (p2.add 1) = some (.string ⟨⟨x49⟩⟩) ∧ (∃ (x50 : List UInt8), World.cell? w47 (p2.add 2) = some (.string ⟨⟨x50⟩⟩) ∧ (∃ (x51 : Int), World.cell? w47 (p2.add 3) = some (.int .i64 x51) ∧ (R (.returned (.tuple ⟨[.agg ⟨[.int .i64 x48, .string ⟨⟨x49⟩⟩, .string ⟨⟨x50⟩⟩, .int .i64 x51]⟩, .int .i64 3]⟩)) w47))))) (∃ (x52 : Int), World.cell? w45 (p26.add 0) = some (.int .i64 x52) ∧ (∃ (x53 : List UInt8), World.cell? w45 (p26.add 1) = some (.string ⟨⟨x53⟩⟩) ∧ (∃ (x54 : List UInt8), World.cell? w45 (p26.add 2) = some (.string ⟨⟨x54⟩⟩) ∧ (∃ (x55 : Int), World.cell? w45 (p26.add 3) = some (.int .i64 x55) ∧ (Calls Tryd.prog 31 ⟨[.agg ⟨[.int .i64 x52, .string ⟨⟨x53⟩⟩, .string ⟨⟨x54⟩⟩, .int .i64 x55]⟩]⟩ w45 fun (e56 : Ending) (w57 : World) =>
  ∃ (x58 : List UInt8), e56 = .returned (.string ⟨⟨x58⟩⟩) ∧ (br (decide ((x58 : List UInt8) ≠ part_1)) (stL w57 p2 0 [.int .i64 0, .string ⟨⟨[]⟩⟩, .string ⟨⟨[]⟩⟩, .int .i64 0] fun w59 =>
  ∃ (x60 : Int), World.cell? w59 (p2.add 0) = some (.int .i64 x60) ∧ (∃ (x61 : List UInt8), World.cell? w59 (p2.add 1) = some (.string ⟨⟨x61⟩⟩) ∧ (∃ (x62 : List UInt8), World.cell? w59 (p2.add 2) = some (.string ⟨⟨x62⟩⟩) ∧ (∃ (x63 : Int), World.cell? w59 (p2.add 3) = some (.int .i64 x63) ∧ (R (.returned (.tuple ⟨[.agg ⟨[.int .i64 x60, .string ⟨⟨x61⟩⟩, .string ⟨⟨x62⟩⟩, .int .i64 x63]⟩, .int .i64 3]⟩)) w59))))) (∃ (x64 : Int), World.cell? w57 (p26.add 0) = some (.int .i64 x64) ∧ (∃ (x65 : List UInt8), World.cell? w57 (p26.add 1) = some (.string ⟨⟨x65⟩⟩) ∧ (∃ (x66 : List UInt8), World.cell? w57 (p26.add 2) = some (.string ⟨⟨x66⟩⟩) ∧ (∃ (x67 : Int), World.cell? w57 (p26.add 3) = some (.int .i64 x67) ∧ (stL w57 p2 0 [.int .i64 x64, .string ⟨⟨x65⟩⟩, .string ⟨⟨x66⟩⟩, .int .i64 x67] fun w68 =>
  ∃ (x69 : Int), World.cell? w68 (p2.add 0) = some (.int .i64 x69) ∧ (∃ (x70 : List UInt8), World.cell? w68 (p2.add 1) = some (.string ⟨⟨x70⟩⟩) ∧ (∃ (x71 : List UInt8), World.cell? w68 (p2.add 2) = some (.string ⟨⟨x71⟩⟩) ∧ (∃ (x72 : Int), World.cell? w68 (p2.add 3) = some (.int .i64 x72) ∧ (R (.returned (.tuple ⟨[.agg ⟨[.int .i64 x69, .string ⟨⟨x70⟩⟩, .string ⟨⟨x71⟩⟩, .int .i64 x72]⟩, .int .i64 0]⟩)) w68))))))))))))))))))))))) (∃ (x73 : Int), World.cell? w32 (p26.add 0) = some (.int .i64 x73) ∧ (∃ (x74 : List UInt8), World.cell? w32 (p26.add 1) = some (.string ⟨⟨x74⟩⟩) ∧ (∃ (x75 : List UInt8), World.cell? w32 (p26.add 2) = some (.string ⟨⟨x75⟩⟩) ∧ (∃ (x76 : Int), World.cell? w32 (p26.add 3) = some (.int .i64 x76) ∧ (Calls Tryd.prog 34 ⟨[.agg ⟨[.int .i64 x73, .string ⟨⟨x74⟩⟩, .string ⟨⟨x75⟩⟩, .int .i64 x76]⟩]⟩ w32 fun (e77 : Ending) (w78 : World) =>
  ∃ (x79 : Bool), e77 = .returned (.bool x79) ∧ (br (!x79) (stL w78 p2 0 [.int .i64 0, .string ⟨⟨[]⟩⟩, .string ⟨⟨[]⟩⟩, .int .i64 0] fun w80 =>
  ∃ (x81 : Int), World.cell? w80 (p2.add 0) = some (.int .i64 x81) ∧ (∃ (x82 : List UInt8), World.cell? w80 (p2.add 1) = some (.string ⟨⟨x82⟩⟩) ∧ (∃ (x83 : List UInt8), World.cell? w80 (p2.add 2) = some (.string ⟨⟨x83⟩⟩) ∧ (∃ (x84 : Int), World.cell? w80 (p2.add 3) = some (.int .i64 x84) ∧ (R (.returned (.tuple ⟨[.agg ⟨[.int .i64 x81, .string ⟨⟨x82⟩⟩, .string ⟨⟨x83⟩⟩, .int .i64 x84]⟩, .int .i64 3]⟩)) w80))))) (∃ (x85 : Int), World.cell? w78 (p26.add 0) = some (.int .i64 x85) ∧ (∃ (x86 : List UInt8), World.cell? w78 (p26.add 1) = some (.string ⟨⟨x86⟩⟩) ∧ (∃ (x87 : List UInt8), World.cell? w78 (p26.add 2) = some (.string ⟨⟨x87⟩⟩) ∧ (∃ (x88 : Int), World.cell? w78 (p26.add 3) = some (.int .i64 x88) ∧ (Calls Tryd.prog 31 ⟨[.agg ⟨[.int .i64 x85, .string ⟨⟨x86⟩⟩, .string ⟨⟨x87⟩⟩, .int .i64 x88]⟩]⟩ w78 fun (e89 : Ending) (w90 : World) =>
  ∃ (x91 : List UInt8), e89 = .returned (.string ⟨⟨x91⟩⟩) ∧ (br (decide ((x91 : List UInt8) ≠ part_1)) (stL w90 p2 0 [.int .i64 0, .string ⟨⟨[]⟩⟩, .string ⟨⟨[]⟩⟩, .int .i64 0] fun w92 =>
  ∃ (x93 : Int), World.cell? w92 (p2.add 0) = some (.int .i64 x93) ∧ (∃ (x94 : List UInt8), World.cell? w92 (p2.add 1) = some (.string ⟨⟨x94⟩⟩) ∧ (∃ (x95 : List UInt8), World.cell? w92 (p2.add 2) = some (.string ⟨⟨x95⟩⟩) ∧ (∃ (x96 : Int), World.cell? w92 (p2.add 3) = some (.int .i64 x96) ∧ (R (.returned (.tuple ⟨[.agg ⟨[.int .i64 x93, .string ⟨⟨x94⟩⟩, .string ⟨⟨x95⟩⟩, .int .i64 x96]⟩, .int .i64 3]⟩)) w92))))) (∃ (x97 : Int), World.cell? w90 (p26.add 0) = some (.int .i64 x97) ∧ (∃ (x98 : List UInt8), World.cell? w90 (p26.add 1) = some (.string ⟨⟨x98⟩⟩) ∧ (∃ (x99 : List UInt8), World.cell? w90 (p26.add 2) = some (.string ⟨⟨x99⟩⟩) ∧ (∃ (x100 : Int), World.cell? w90 (p26.add 3) = some (.int .i64 x100) ∧ (stL w90 p2 0 [.int .i64 x97, .string ⟨⟨x98⟩⟩, .string ⟨⟨x99⟩⟩, .int .i64 x100] fun w101 =>
  ∃ (x102 : Int), World.cell? w101 (p2.add 0) = some (.int .i64 x102) ∧ (∃ (x103 : List UInt8), World.cell? w101 (p2.add 1) = some (.string ⟨⟨x103⟩⟩) ∧ (∃ (x104 : List UInt8), World.cell? w101 (p2.add 2) = some (.string ⟨⟨x104⟩⟩) ∧ (∃ (x105 : Int), World.cell? w101 (p2.add 3) = some (.int .i64 x105) ∧ (R (.returned (.tuple ⟨[.agg ⟨[.int .i64 x102, .string ⟨⟨x103⟩⟩, .string ⟨⟨x104⟩⟩, .int .i64 x105]⟩, .int .i64 0]⟩)) w101)))))))))))))))))))))))) → K31 w32) → (Calls Tryd.prog 49 ⟨[.string ⟨⟨s4⟩⟩, .string ⟨⟨[47]⟩⟩]⟩ w30 fun (e106 : Ending) (w107 : World) =>
  ∃ (x108 : Bool), e106 = .returned (.bool x108) ∧ (br x108 (stL w107 (p26.add 0) 0 [.int .i64 3] fun w109 =>
  K31 w109) (Calls Tryd.prog 51 ⟨[.string ⟨⟨s4⟩⟩, .string ⟨⟨[47]⟩⟩]⟩ w107 fun (e110 : Ending) (w111 : World) =>
  ∃ (x112 : List UInt8), e110 = .returned (.string ⟨⟨x112⟩⟩) ∧ (Calls Tryd.prog 50 ⟨[.string ⟨⟨x112⟩⟩, .string ⟨⟨[32]⟩⟩]⟩ w111 fun (e113 : Ending) (w114 : World) =>
  ∃ (x115 : List UInt8) (x116 : List UInt8) (x117 : Bool), e113 = .returned (.tuple ⟨[.string ⟨⟨x115⟩⟩, .string ⟨⟨x116⟩⟩, .bool x117]⟩) ∧ (br x117 (stL w114 (p26.add 2) 0 [.string ⟨⟨x116⟩⟩] fun w118 =>
  K31 w118) (K31 w114)))))))) → K29 w30) → (∃ (x119 : Bool), World.cell? w28 (p17.add 1) = some (.bool x119) ∧ (br x119 (stL w28 (p26.add 0) 0 [.int .i64 4] fun w120 =>
  K29 w120) (K29 w28)))))))) → K8 bare_9 w10) → (Calls Tryd.prog 47 ⟨[.string ⟨⟨x7⟩⟩, .string ⟨⟨[32, 47]⟩⟩]⟩ w6 fun (e121 : Ending) (w122 : World) =>
  ∃ (x123 : Int), e121 = .returned (.int .i64 x123) ∧ (br (decide ((0 : Int) ≤ x123)) (ssl x7 0 x123 fun s124 =>
  K8 s124 w122) (K8 x7 w122))))
set_option maxRecDepth 100000 in
theorem e_markup_read (part_1 : List UInt8) (R : Ending → World → Prop) (w : World) : fnV Tryd.prog Tryd.f29 an_markup_read [.string ⟨⟨part_1⟩⟩] R w = sh_markup_read part_1 R w := by kernel_rfl
theorem c_markup_read {part_1 : List UInt8} {R : Ending → World → Prop} {w : World} (h : sh_markup_read part_1 R w) : Calls Tryd.prog F_markup_read ⟨[.string ⟨⟨part_1⟩⟩]⟩ w R := calls_of_fnV Tryd.func29 (by rw [e_markup_read]; exact h)

def an_strings_Builder_WriteString : Ann := .two (.leaf) (.two (.leaf) (.two (.leaf) (.two (.leaf) (.leaf))))
def sh_strings_Builder_WriteString (b_1 : Option Addr) (s_2 : List UInt8) (R : Ending → World → Prop) (w : World) : Prop :=
  Calls Tryd.prog 52 ⟨[.pointer b_1]⟩ w fun (e3 : Ending) (w4 : World) =>
  e3 = .returned (.tuple ⟨[]⟩) ∧ (dr b_1 fun p5 =>
  ∃ (x6 : Option Addr) (x6n : Nat) (x6c : Nat), World.cell? w4 (p5.add 1) = some (.slice x6 x6n x6c) ∧ (app Tryd.prog [56, 9] 56 (.slice x6 x6n x6c) (.string ⟨⟨s_2⟩⟩) w4 fun a7 a7n a7c w8 =>
  dr b_1 fun p9 =>
  stL w8 (p9.add 1) 0 [.slice a7 a7n a7c] fun w10 =>
  R (.returned (.tuple ⟨[.int .i64 ((List.length s_2 : Int)), .nilIface]⟩)) w10))
set_option maxRecDepth 100000 in
theorem e_strings_Builder_WriteString (b_1 : Option Addr) (s_2 : List UInt8) (R : Ending → World → Prop) (w : World) : fnV Tryd.prog Tryd.f30 an_strings_Builder_WriteString [.pointer b_1, .string ⟨⟨s_2⟩⟩] R w = sh_strings_Builder_WriteString b_1 s_2 R w := by kernel_rfl
theorem c_strings_Builder_WriteString {b_1 : Option Addr} {s_2 : List UInt8} {R : Ending → World → Prop} {w : World} (h : sh_strings_Builder_WriteString b_1 s_2 R w) : Calls Tryd.prog F_strings_Builder_WriteString ⟨[.pointer b_1, .string ⟨⟨s_2⟩⟩]⟩ w R := calls_of_fnV Tryd.func30 (by rw [e_strings_Builder_WriteString]; exact h)

def an_markup_text : Ann := .two (.leaf) (.two (.leaf) (.cut 16328 [(3, .one (.str))] (.two (.leaf) (.two (.leaf) (.leaf))) (.two (.two (.leaf) (.one (.two (.leaf) (.two (.two (.leaf) (.leaf)) (.two (.leaf) (.two (.two (.leaf) (.leaf)) (.two (.leaf) (.two (.two (.leaf) (.leaf)) (.leaf))))))))) (.two (.leaf) (.leaf)))))
def sh_markup_text (x_1 : Int) (x_2 : List UInt8) (x_3 : List UInt8) (x_4 : Int) (R : Ending → World → Prop) (w : World) : Prop :=
  al w 44 [.int .i64 x_1, .string ⟨⟨x_2⟩⟩, .string ⟨⟨x_3⟩⟩, .int .i64 x_4] fun p5 w6 =>
  ∃ (x7 : List UInt8), World.cell? w6 (p5.add 1) = some (.string ⟨⟨x7⟩⟩) ∧ (∀ (K8 : List UInt8 → World → Prop), (∀ (inner_9 : List UInt8) (w10 : World), (∀ _ : Env, (∃ (x11 : Int), World.cell? w10 (p5.add 0) = some (.int .i64 x11) ∧ (br (decide ((x11 : Int) = 2)) (sadd ([60]) inner_9 fun s12 =>
  sadd s12 ([62]) fun s13 =>
  R (.returned (.string ⟨⟨s13⟩⟩)) w10) (br (decide ((x11 : Int) = 3)) (sadd ([60, 47]) inner_9 fun s14 =>
  sadd s14 ([62]) fun s15 =>
  R (.returned (.string ⟨⟨s15⟩⟩)) w10) (br (decide ((x11 : Int) = 4)) (sadd ([60]) inner_9 fun s16 =>
  sadd s16 ([47, 62]) fun s17 =>
  R (.returned (.string ⟨⟨s17⟩⟩)) w10) (∃ (x18 : List UInt8), World.cell? w10 (p5.add 2) = some (.string ⟨⟨x18⟩⟩) ∧ (R (.returned (.string ⟨⟨x18⟩⟩)) w10))))))) → K8 inner_9 w10) → (∃ (x19 : List UInt8), World.cell? w6 (p5.add 2) = some (.string ⟨⟨x19⟩⟩) ∧ (br (decide ((x19 : List UInt8) ≠ ([]))) (∃ (x20 : List UInt8), World.cell? w6 (p5.add 2) = some (.string ⟨⟨x20⟩⟩) ∧ (sadd ([32]) x20 fun s21 =>
  sadd x7 s21 fun s22 =>
  K8 s22 w6)) (K8 x7 w6))))
set_option maxRecDepth 100000 in
theorem e_markup_text (x_1 : Int) (x_2 : List UInt8) (x_3 : List UInt8) (x_4 : Int) (R : Ending → World → Prop) (w : World) : fnV Tryd.prog Tryd.f31 an_markup_text [.agg ⟨[.int .i64 x_1, .string ⟨⟨x_2⟩⟩, .string ⟨⟨x_3⟩⟩, .int .i64 x_4]⟩] R w = sh_markup_text x_1 x_2 x_3 x_4 R w := by kernel_rfl
theorem c_markup_text {x_1 : Int} {x_2 : List UInt8} {x_3 : List UInt8} {x_4 : Int} {R : Ending → World → Prop} {w : World} (h : sh_markup_text x_1 x_2 x_3 x_4 R w) : Calls Tryd.prog F_markup_text ⟨[.agg ⟨[.int .i64 x_1, .string ⟨⟨x_2⟩⟩, .string ⟨⟨x_3⟩⟩, .int .i64 x_4]⟩]⟩ w R := calls_of_fnV Tryd.func31 (by rw [e_markup_text]; exact h)

end Go.Proofs
