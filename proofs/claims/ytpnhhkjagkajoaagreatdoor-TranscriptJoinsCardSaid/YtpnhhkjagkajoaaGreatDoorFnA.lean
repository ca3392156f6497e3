/- Written by program: for each function its verification condition, that it is the code's (by the kernel), and that it gives the call. -/
import Derived.Test.YtpnhhkjagkajoaaGreatDoorFn
namespace Go.Proofs
open Go Go.Sh
def an_law10_TranscriptWraps : Ann := .two (.leaf) (.two (.two (.leaf) (.two (.two (.leaf) (.leaf)) (.leaf))) (.two (.leaf) (.two (.leaf) (.two (.leaf) (.two (.leaf) (.two (.leaf) (.cut 70931694131085328 [] (.two (.leaf) (.two (.two (.leaf) (.leaf)) (.leaf))) (.two (.one (.two (.leaf) (.two (.two (.leaf) (.leaf)) (.two (.leaf) (.two (.two (.leaf) (.leaf)) (.two (.leaf) (.two (.two (.leaf) (.leaf)) (.leaf)))))))) (.two (.leaf) (.two (.leaf) (.two (.leaf) (.leaf))))))))))))
def sh_law10_TranscriptWraps (l_1 : Option Addr) (l_1n : Nat) (l_1c : Nat) (kind_2 : Int) (R : Ending → World → Prop) (w : World) : Prop :=
  Calls Tryz.prog 15 ⟨[.slice l_1 l_1n l_1c]⟩ w fun (e3 : Ending) (w4 : World) =>
  ∃ (x5 : Bool), e3 = .returned (.bool x5) ∧ (br (!x5) (Calls Tryz.prog 11 ⟨[]⟩ w4 fun (e6 : Ending) (w7 : World) =>
  ∃ (x8 : Bool), e6 = .returned (.bool x8) ∧ (R (.returned (.bool x8)) w7)) (al w4 35 [.int .i64 7, .string ⟨⟨[]⟩⟩, .int .i64 0, .slice l_1 l_1n l_1c, .int .i64 8, .string ⟨⟨[]⟩⟩, .int .i64 8, .slice l_1 l_1n l_1c, .int .i64 9, .string ⟨⟨[]⟩⟩, .int .i64 1, .slice l_1 l_1n l_1c, .int .i64 10, .string ⟨⟨[113]⟩⟩, .int .i64 0, .slice l_1 l_1n l_1c, .int .i64 11, .string ⟨⟨[82, 111, 109, 97]⟩⟩, .int .i64 0, .slice l_1 l_1n l_1c] fun p9 w10 =>
  idiv 5 (idx (some p9) 5 (Int.tmod (IntKind.i64.wrap kind_2) 5) 4 fun p11 =>
  ∃ (x12 : Int), World.cell? w10 (p11.add 0) = some (.int .i64 x12) ∧ (∃ (x13 : List UInt8), World.cell? w10 (p11.add 1) = some (.string ⟨⟨x13⟩⟩) ∧ (∃ (x14 : Int), World.cell? w10 (p11.add 2) = some (.int .i64 x14) ∧ (∃ (x15 : Option Addr) (x15n : Nat) (x15c : Nat), World.cell? w10 (p11.add 3) = some (.slice x15 x15n x15c) ∧ (al w10 35 [.int .i64 0, .string ⟨⟨[]⟩⟩, .int .i64 0, .slice none 0 0] fun p16 w17 =>
  stL w17 p16 0 [.int .i64 x12, .string ⟨⟨x13⟩⟩, .int .i64 x14, .slice x15 x15n x15c] fun w18 =>
  ∃ (x19 : Int), World.cell? w18 (p16.add 0) = some (.int .i64 x19) ∧ (∃ (x20 : List UInt8), World.cell? w18 (p16.add 1) = some (.string ⟨⟨x20⟩⟩) ∧ (∃ (x21 : Int), World.cell? w18 (p16.add 2) = some (.int .i64 x21) ∧ (∃ (x22 : Option Addr) (x22n : Nat) (x22c : Nat), World.cell? w18 (p16.add 3) = some (.slice x22 x22n x22c) ∧ (al w18 35 [.int .i64 x19, .string ⟨⟨x20⟩⟩, .int .i64 x21, .slice x22 x22n x22c] fun p23 w24 =>
  Calls Tryz.prog 17 ⟨[.slice (some p23) 1 1]⟩ w24 fun (e25 : Ending) (w26 : World) =>
  ∃ (x27 : Int), e25 = .returned (.int .i64 x27) ∧ (Calls Tryz.prog 18 ⟨[.slice l_1 l_1n l_1c]⟩ w26 fun (e28 : Ending) (w29 : World) =>
  ∃ (x30 : Int) (x31 : Int), e28 = .returned (.tuple ⟨[.int .i64 x30, .int .i64 x31]⟩) ∧ (Calls Tryz.prog 19 ⟨[.slice l_1 l_1n l_1c]⟩ w29 fun (e32 : Ending) (w33 : World) =>
  ∃ (x34 : List UInt8) (x35 : Int), e32 = .returned (.tuple ⟨[.string ⟨⟨x34⟩⟩, .int .i64 x35]⟩) ∧ (∀ (K36 : World → Prop), (∀  (w37 : World), (∀ _ : Env, (br (decide ((((l_1n : Int)) : Int) = 0)) (br (decide ((x27 : Int) = 5)) (Calls Tryz.prog 11 ⟨[]⟩ w37 fun (e38 : Ending) (w39 : World) =>
  ∃ (x40 : Bool), e38 = .returned (.bool x40) ∧ (R (.returned (.bool x40)) w39)) (R (.returned (.bool false)) w37)) (br (decide ((x30 : Int) = 16)) (br (decide ((x27 : Int) = 4)) (Calls Tryz.prog 11 ⟨[]⟩ w37 fun (e41 : Ending) (w42 : World) =>
  ∃ (x43 : Bool), e41 = .returned (.bool x43) ∧ (R (.returned (.bool x43)) w42)) (R (.returned (.bool false)) w37)) (Calls Tryz.prog 20 ⟨[.slice l_1 l_1n l_1c, .func (.func 21) #[] #[]]⟩ w37 fun (e44 : Ending) (w45 : World) =>
  ∃ (x46 : Bool), e44 = .returned (.bool x46) ∧ (br x46 (br (decide ((x27 : Int) = 12)) (Calls Tryz.prog 11 ⟨[]⟩ w45 fun (e47 : Ending) (w48 : World) =>
  ∃ (x49 : Bool), e47 = .returned (.bool x49) ∧ (R (.returned (.bool x49)) w48)) (R (.returned (.bool false)) w45)) (Calls Tryz.prog 18 ⟨[.slice (some p23) 1 1]⟩ w45 fun (e50 : Ending) (w51 : World) =>
  ∃ (x52 : Int) (x53 : Int), e50 = .returned (.tuple ⟨[.int .i64 x52, .int .i64 x53]⟩) ∧ (Calls Tryz.prog 19 ⟨[.slice (some p23) 1 1]⟩ w51 fun (e54 : Ending) (w55 : World) =>
  ∃ (x56 : List UInt8) (x57 : Int), e54 = .returned (.tuple ⟨[.string ⟨⟨x56⟩⟩, .int .i64 x57]⟩) ∧ (br (decide ((((max (max x27 x53) x57)) : Int) = 0)) (br (decide ((x52 : Int) = (IntKind.i64.wrap (x30 + 1)))) (br (decide ((x56 : List UInt8) = x34)) (Calls Tryz.prog 11 ⟨[]⟩ w55 fun (e58 : Ending) (w59 : World) =>
  ∃ (x60 : Bool), e58 = .returned (.bool x60) ∧ (R (.returned (.bool x60)) w59)) (R (.returned (.bool false)) w55)) (R (.returned (.bool false)) w55)) (R (.returned (.bool false)) w55))))))))) → K36 w37) → (br (decide ((x31 : Int) ≠ 0)) (R (.returned (.bool false)) w33) (br (decide ((x35 : Int) ≠ 0)) (R (.returned (.bool false)) w33) (K36 w33)))))))))))))))))
set_option maxRecDepth 100000 in
theorem e_law10_TranscriptWraps (l_1 : Option Addr) (l_1n : Nat) (l_1c : Nat) (kind_2 : Int) (R : Ending → World → Prop) (w : World) : fnV Tryz.prog Tryz.f5 an_law10_TranscriptWraps [.slice l_1 l_1n l_1c, .int .u8 kind_2] R w = sh_law10_TranscriptWraps l_1 l_1n l_1c kind_2 R w := by kernel_rfl
theorem c_law10_TranscriptWraps {l_1 : Option Addr} {l_1n : Nat} {l_1c : Nat} {kind_2 : Int} {R : Ending → World → Prop} {w : World} (h : sh_law10_TranscriptWraps l_1 l_1n l_1c kind_2 R w) : Calls Tryz.prog F_law10_TranscriptWraps ⟨[.slice l_1 l_1n l_1c, .int .u8 kind_2]⟩ w R := calls_of_fnV Tryz.func5 (by rw [e_law10_TranscriptWraps]; exact h)

def an_law10_TranscriptMerges : Ann := .two (.leaf) (.two (.two (.leaf) (.two (.two (.leaf) (.leaf)) (.leaf))) (.cut 130948 [] (.two (.leaf) (.two (.two (.leaf) (.leaf)) (.leaf))) (.two (.two (.leaf) (.two (.two (.leaf) (.leaf)) (.leaf))) (.two (.leaf) (.two (.leaf) (.leaf))))))
def sh_law10_TranscriptMerges (l_1 : Option Addr) (l_1n : Nat) (l_1c : Nat) (R : Ending → World → Prop) (w : World) : Prop :=
  Calls Tryz.prog 22 ⟨[.slice l_1 l_1n l_1c]⟩ w fun (e2 : Ending) (w3 : World) =>
  ∃ (x4 : Bool), e2 = .returned (.bool x4) ∧ (br x4 (Calls Tryz.prog 11 ⟨[]⟩ w3 fun (e5 : Ending) (w6 : World) =>
  ∃ (x7 : Bool), e5 = .returned (.bool x7) ∧ (R (.returned (.bool x7)) w6)) (∀ (K8 : World → Prop), (∀  (w9 : World), (∀ _ : Env, (Calls Tryz.prog 25 ⟨[.slice l_1 l_1n l_1c]⟩ w9 fun (e10 : Ending) (w11 : World) =>
  ∃ (x12 : Bool), e10 = .returned (.bool x12) ∧ (br x12 (Calls Tryz.prog 11 ⟨[]⟩ w11 fun (e13 : Ending) (w14 : World) =>
  ∃ (x15 : Bool), e13 = .returned (.bool x15) ∧ (R (.returned (.bool x15)) w14)) (Calls Tryz.prog 24 ⟨[.slice l_1 l_1n l_1c]⟩ w11 fun (e16 : Ending) (w17 : World) =>
  ∃ (x18 : Option Addr) (x18n : Nat) (x18c : Nat), e16 = .returned (.slice x18 x18n x18c) ∧ (Calls Tryz.prog 26 ⟨[.slice x18 x18n x18c]⟩ w17 fun (e19 : Ending) (w20 : World) =>
  ∃ (x21 : List UInt8), e19 = .returned (.string ⟨⟨x21⟩⟩) ∧ (Calls Tryz.prog 26 ⟨[.slice l_1 l_1n l_1c]⟩ w20 fun (e22 : Ending) (w23 : World) =>
  ∃ (x24 : List UInt8), e22 = .returned (.string ⟨⟨x24⟩⟩) ∧ (br (decide ((x21 : List UInt8) = x24)) (Calls Tryz.prog 27 ⟨[.slice x18 x18n x18c]⟩ w23 fun (e25 : Ending) (w26 : World) =>
  ∃ (x27 : Bool), e25 = .returned (.bool x27) ∧ (br x27 (Calls Tryz.prog 24 ⟨[.slice x18 x18n x18c]⟩ w26 fun (e28 : Ending) (w29 : World) =>
  ∃ (x30 : Option Addr) (x30n : Nat) (x30c : Nat), e28 = .returned (.slice x30 x30n x30c) ∧ (Calls Tryz.prog 14 ⟨[.slice x30 x30n x30c, .slice x18 x18n x18c]⟩ w29 fun (e31 : Ending) (w32 : World) =>
  ∃ (x33 : Bool), e31 = .returned (.bool x33) ∧ (br x33 (Calls Tryz.prog 11 ⟨[]⟩ w32 fun (e34 : Ending) (w35 : World) =>
  ∃ (x36 : Bool), e34 = .returned (.bool x36) ∧ (R (.returned (.bool x36)) w35)) (R (.returned (.bool false)) w32)))) (R (.returned (.bool false)) w26))) (R (.returned (.bool false)) w23)))))))) → K8 w9) → (Calls Tryz.prog 23 ⟨[.slice l_1 l_1n l_1c]⟩ w3 fun (e37 : Ending) (w38 : World) =>
  ∃ (x39 : Int), e37 = .returned (.int .i64 x39) ∧ (br (decide ((x39 : Int) = 0)) (Calls Tryz.prog 24 ⟨[.slice l_1 l_1n l_1c]⟩ w38 fun (e40 : Ending) (w41 : World) =>
  ∃ (x42 : Option Addr) (x42n : Nat) (x42c : Nat), e40 = .returned (.slice x42 x42n x42c) ∧ (Calls Tryz.prog 14 ⟨[.slice x42 x42n x42c, .slice l_1 l_1n l_1c]⟩ w41 fun (e43 : Ending) (w44 : World) =>
  ∃ (x45 : Bool), e43 = .returned (.bool x45) ∧ (br (!x45) (R (.returned (.bool false)) w44) (K8 w44)))) (K8 w38)))))
set_option maxRecDepth 100000 in
theorem e_law10_TranscriptMerges (l_1 : Option Addr) (l_1n : Nat) (l_1c : Nat) (R : Ending → World → Prop) (w : World) : fnV Tryz.prog Tryz.f6 an_law10_TranscriptMerges [.slice l_1 l_1n l_1c] R w = sh_law10_TranscriptMerges l_1 l_1n l_1c R w := by kernel_rfl
theorem c_law10_TranscriptMerges {l_1 : Option Addr} {l_1n : Nat} {l_1c : Nat} {R : Ending → World → Prop} {w : World} (h : sh_law10_TranscriptMerges l_1 l_1n l_1c R w) : Calls Tryz.prog F_law10_TranscriptMerges ⟨[.slice l_1 l_1n l_1c]⟩ w R := calls_of_fnV Tryz.func6 (by rw [e_law10_TranscriptMerges]; exact h)

def an_law10_TranscriptNodes : Ann := .two (.leaf) (.cut 1065353280 [] (.two (.leaf) (.two (.two (.leaf) (.leaf)) (.leaf))) (.two (.leaf) (.two (.leaf) (.two (.leaf) (.two (.leaf) (.two (.leaf) (.two (.leaf) (.two (.leaf) (.two (.leaf) (.two (.leaf) (.leaf)))))))))))
def sh_law10_TranscriptNodes (a_1 : Option Addr) (a_1n : Nat) (a_1c : Nat) (b_2 : Option Addr) (b_2n : Nat) (b_2c : Nat) (kind_3 : Int) (R : Ending → World → Prop) (w : World) : Prop :=
  ∀ (K4 : World → Prop), (∀  (w5 : World), (∀ _ : Env, (Calls Tryz.prog 16 ⟨[.slice a_1 a_1n a_1c]⟩ w5 fun (e6 : Ending) (w7 : World) =>
  ∃ (x8 : List UInt8) (x9 : Int), e6 = .returned (.tuple ⟨[.string ⟨⟨x8⟩⟩, .int .i64 x9]⟩) ∧ (Calls Tryz.prog 31 ⟨[.slice a_1 a_1n a_1c]⟩ w7 fun (e10 : Ending) (w11 : World) =>
  ∃ (x12 : List UInt8) (x13 : Int), e10 = .returned (.tuple ⟨[.string ⟨⟨x12⟩⟩, .int .i64 x13]⟩) ∧ (Calls Tryz.prog 19 ⟨[.slice a_1 a_1n a_1c]⟩ w11 fun (e14 : Ending) (w15 : World) =>
  ∃ (x16 : List UInt8) (x17 : Int), e14 = .returned (.tuple ⟨[.string ⟨⟨x16⟩⟩, .int .i64 x17]⟩) ∧ (Calls Tryz.prog 32 ⟨[.slice a_1 a_1n a_1c]⟩ w15 fun (e18 : Ending) (w19 : World) =>
  ∃ (x20 : List UInt8) (x21 : Int), e18 = .returned (.tuple ⟨[.string ⟨⟨x20⟩⟩, .int .i64 x21]⟩) ∧ (Calls Tryz.prog 30 ⟨[.slice a_1 a_1n a_1c, .int .i64 kind_3]⟩ w19 fun (e22 : Ending) (w23 : World) =>
  ∃ (x24 : Int) (x25 : Int), e22 = .returned (.tuple ⟨[.int .i64 x24, .int .i64 x25]⟩) ∧ (Calls Tryz.prog 33 ⟨[.slice a_1 a_1n a_1c, .int .i64 kind_3]⟩ w23 fun (e26 : Ending) (w27 : World) =>
  ∃ (x28 : Int) (x29 : Int), e26 = .returned (.tuple ⟨[.int .i64 x28, .int .i64 x29]⟩) ∧ (Calls Tryz.prog 18 ⟨[.slice a_1 a_1n a_1c]⟩ w27 fun (e30 : Ending) (w31 : World) =>
  ∃ (x32 : Int) (x33 : Int), e30 = .returned (.tuple ⟨[.int .i64 x32, .int .i64 x33]⟩) ∧ (Calls Tryz.prog 34 ⟨[.slice a_1 a_1n a_1c]⟩ w31 fun (e34 : Ending) (w35 : World) =>
  ∃ (x36 : Int) (x37 : Int), e34 = .returned (.tuple ⟨[.int .i64 x36, .int .i64 x37]⟩) ∧ (Calls Tryz.prog 17 ⟨[.slice a_1 a_1n a_1c]⟩ w35 fun (e38 : Ending) (w39 : World) =>
  ∃ (x40 : Int), e38 = .returned (.int .i64 x40) ∧ (Calls Tryz.prog 23 ⟨[.slice a_1 a_1n a_1c]⟩ w39 fun (e41 : Ending) (w42 : World) =>
  ∃ (x43 : Int), e41 = .returned (.int .i64 x43) ∧ (br (decide ((x40 : Int) = x43)) (br (decide ((x8 : List UInt8) = x12)) (br (decide ((x9 : Int) = x13)) (br (decide ((x16 : List UInt8) = x20)) (br (decide ((x17 : Int) = x21)) (br (decide ((x24 : Int) = x28)) (br (decide ((x25 : Int) = x29)) (br (decide ((x32 : Int) = x36)) (br (decide ((x33 : Int) = x37)) (Calls Tryz.prog 24 ⟨[.slice a_1 a_1n a_1c]⟩ w42 fun (e44 : Ending) (w45 : World) =>
  ∃ (x46 : Option Addr) (x46n : Nat) (x46c : Nat), e44 = .returned (.slice x46 x46n x46c) ∧ (Calls Tryz.prog 35 ⟨[.slice a_1 a_1n a_1c]⟩ w45 fun (e47 : Ending) (w48 : World) =>
  ∃ (x49 : Option Addr) (x49n : Nat) (x49c : Nat), e47 = .returned (.slice x49 x49n x49c) ∧ (Calls Tryz.prog 14 ⟨[.slice x46 x46n x46c, .slice x49 x49n x49c]⟩ w48 fun (e50 : Ending) (w51 : World) =>
  ∃ (x52 : Bool), e50 = .returned (.bool x52) ∧ (br x52 (Calls Tryz.prog 36 ⟨[.slice a_1 a_1n a_1c, .slice b_2 b_2n b_2c]⟩ w51 fun (e53 : Ending) (w54 : World) =>
  ∃ (x55 : Bool), e53 = .returned (.bool x55) ∧ (Calls Tryz.prog 14 ⟨[.slice a_1 a_1n a_1c, .slice b_2 b_2n b_2c]⟩ w54 fun (e56 : Ending) (w57 : World) =>
  ∃ (x58 : Bool), e56 = .returned (.bool x58) ∧ (br (decide ((x55 : Bool) = x58)) (Calls Tryz.prog 11 ⟨[]⟩ w57 fun (e59 : Ending) (w60 : World) =>
  ∃ (x61 : Bool), e59 = .returned (.bool x61) ∧ (R (.returned (.bool x61)) w60)) (R (.returned (.bool false)) w57)))) (R (.returned (.bool false)) w51))))) (R (.returned (.bool false)) w42)) (R (.returned (.bool false)) w42)) (R (.returned (.bool false)) w42)) (R (.returned (.bool false)) w42)) (R (.returned (.bool false)) w42)) (R (.returned (.bool false)) w42)) (R (.returned (.bool false)) w42)) (R (.returned (.bool false)) w42)) (R (.returned (.bool false)) w42))))))))))))) → K4 w5) → (Calls Tryz.prog 22 ⟨[.slice a_1 a_1n a_1c]⟩ w fun (e62 : Ending) (w63 : World) =>
  ∃ (x64 : Bool), e62 = .returned (.bool x64) ∧ (br x64 (Calls Tryz.prog 11 ⟨[]⟩ w63 fun (e65 : Ending) (w66 : World) =>
  ∃ (x67 : Bool), e65 = .returned (.bool x67) ∧ (R (.returned (.bool x67)) w66)) (Calls Tryz.prog 22 ⟨[.slice b_2 b_2n b_2c]⟩ w63 fun (e68 : Ending) (w69 : World) =>
  ∃ (x70 : Bool), e68 = .returned (.bool x70) ∧ (br x70 (Calls Tryz.prog 11 ⟨[]⟩ w69 fun (e71 : Ending) (w72 : World) =>
  ∃ (x73 : Bool), e71 = .returned (.bool x73) ∧ (R (.returned (.bool x73)) w72)) (K4 w69)))))
set_option maxRecDepth 100000 in
theorem e_law10_TranscriptNodes (a_1 : Option Addr) (a_1n : Nat) (a_1c : Nat) (b_2 : Option Addr) (b_2n : Nat) (b_2c : Nat) (kind_3 : Int) (R : Ending → World → Prop) (w : World) : fnV Tryz.prog Tryz.f8 an_law10_TranscriptNodes [.slice a_1 a_1n a_1c, .slice b_2 b_2n b_2c, .int .i64 kind_3] R w = sh_law10_TranscriptNodes a_1 a_1n a_1c b_2 b_2n b_2c kind_3 R w := by kernel_rfl
theorem c_law10_TranscriptNodes {a_1 : Option Addr} {a_1n : Nat} {a_1c : Nat} {b_2 : Option Addr} {b_2n : Nat} {b_2c : Nat} {kind_3 : Int} {R : Ending → World → Prop} {w : World} (h : sh_law10_TranscriptNodes a_1 a_1n a_1c b_2 b_2n b_2c kind_3 R w) : Calls Tryz.prog F_law10_TranscriptNodes ⟨[.slice a_1 a_1n a_1c, .slice b_2 b_2n b_2c, .int .i64 kind_3]⟩ w R := calls_of_fnV Tryz.func8 (by rw [e_law10_TranscriptNodes]; exact h)

def an_law10_TranscriptJoins : Ann := .two (.leaf) (.cut 535822400 [] (.two (.leaf) (.two (.two (.leaf) (.leaf)) (.leaf))) (.two (.leaf) (.cut 2190433321024 [] (.two (.leaf) (.two (.two (.leaf) (.leaf)) (.leaf))) (.two (.leaf) (.two (.leaf) (.two (.leaf) (.two (.two (.leaf) (.one (.loop 309485009820219168818982464 [(9, .one (.slice)), (10, .one (.slice)), (11, .one (.slice)), (50, .one (.int .i64))] (.two (.leaf) (.two (.two (.leaf) (.leaf)) (.two (.one (.two (.leaf) (.two (.leaf) (.two (.leaf) (.two (.leaf) (.two (.two (.leaf) (.two (.two (.leaf) (.leaf)) (.leaf))) (.leaf))))))) (.leaf))))))) (.two (.leaf) (.leaf)))))))))
def sh_law10_TranscriptJoins (a_1 : Option Addr) (a_1n : Nat) (a_1c : Nat) (b_2 : Option Addr) (b_2n : Nat) (b_2c : Nat) (kind_3 : Int) (R : Ending → World → Prop) (w : World) : Prop :=
  ∀ (K4 : World → Prop), (∀  (w5 : World), (∀ _ : Env, (al w5 24 [.slice a_1 a_1n a_1c, .slice b_2 b_2n b_2c] fun p6 w7 =>
  Calls Tryz.prog 37 ⟨[.slice (some p6) 2 2]⟩ w7 fun (e8 : Ending) (w9 : World) =>
  ∃ (x10 : Option Addr) (x10n : Nat) (x10c : Nat), e8 = .returned (.slice x10 x10n x10c) ∧ (∀ (K11 : World → Prop), (∀  (w12 : World), (∀ _ : Env, (idiv 11 (al w12 24 [.slice a_1 a_1n a_1c, .slice b_2 b_2n b_2c, .slice x10 x10n x10c] fun p13 w14 =>
  ∃ (I15 : Option Addr → Nat → Nat → Option Addr → Nat → Nat → Option Addr → Nat → Nat → Int → World → Nat → Prop), (∃ m22 : Nat, I15 none 0 0 none 0 0 none 0 0 0 w14 m22) ∧ ∀ (texts_16 : Option Addr) (texts_16n : Nat) (texts_16c : Nat) (counts_17 : Option Addr) (counts_17n : Nat) (counts_17c : Nat) (depths_18 : Option Addr) (depths_18n : Nat) (depths_18c : Nat) (t50_19 : Int) (w20 : World) (m21 : Nat), I15 texts_16 texts_16n texts_16c counts_17 counts_17n counts_17c depths_18 depths_18n depths_18c t50_19 w20 m21 → ∀ _ : Env, (br (decide ((t50_19 : Int) < ((3 : Nat)))) (idx (some p13) 3 t50_19 1 fun p23 =>
  ∃ (x24 : Option Addr) (x24n : Nat) (x24c : Nat), World.cell? w20 p23 = some (.slice x24 x24n x24c) ∧ (Calls Tryz.prog 19 ⟨[.slice x24 x24n x24c]⟩ w20 fun (e25 : Ending) (w26 : World) =>
  ∃ (x27 : List UInt8) (x28 : Int), e25 = .returned (.tuple ⟨[.string ⟨⟨x27⟩⟩, .int .i64 x28]⟩) ∧ (Calls Tryz.prog 30 ⟨[.slice x24 x24n x24c, .int .i64 (IntKind.i64.wrap ((Int.tmod (IntKind.i64.wrap kind_3) 11) + 1))]⟩ w26 fun (e29 : Ending) (w30 : World) =>
  ∃ (x31 : Int) (x32 : Int), e29 = .returned (.tuple ⟨[.int .i64 x31, .int .i64 x32]⟩) ∧ (Calls Tryz.prog 18 ⟨[.slice x24 x24n x24c]⟩ w30 fun (e33 : Ending) (w34 : World) =>
  ∃ (x35 : Int) (x36 : Int), e33 = .returned (.tuple ⟨[.int .i64 x35, .int .i64 x36]⟩) ∧ (br (decide ((((max (max x28 x32) x36)) : Int) ≠ 0)) (R (.returned (.bool false)) w34) (al w34 9 [.string ⟨⟨x27⟩⟩] fun p37 w38 =>
  app Tryz.prog [52, 52] 52 (.slice texts_16 texts_16n texts_16c) (.slice (some p37) 1 1) w38 fun a39 a39n a39c w40 =>
  al w40 3 [.int .i64 x31] fun p41 w42 =>
  app Tryz.prog [53, 53] 53 (.slice counts_17 counts_17n counts_17c) (.slice (some p41) 1 1) w42 fun a43 a43n a43c w44 =>
  al w44 3 [.int .i64 x35] fun p45 w46 =>
  app Tryz.prog [53, 53] 53 (.slice depths_18 depths_18n depths_18c) (.slice (some p45) 1 1) w46 fun a47 a47n a47c w48 =>
  ∃ m49 : Nat, m49 < m21 ∧ I15 a39 a39n a39c a43 a43n a43c a47 a47n a47c (IntKind.i64.wrap (t50_19 + 1)) w48 m49)))))) (drw w20 fun w50 =>
  idx texts_16 texts_16n 2 1 fun p51 =>
  ∃ (x52 : List UInt8), World.cell? w50 p51 = some (.string ⟨⟨x52⟩⟩) ∧ (idx texts_16 texts_16n 0 1 fun p53 =>
  ∃ (x54 : List UInt8), World.cell? w50 p53 = some (.string ⟨⟨x54⟩⟩) ∧ (idx texts_16 texts_16n 1 1 fun p55 =>
  ∃ (x56 : List UInt8), World.cell? w50 p55 = some (.string ⟨⟨x56⟩⟩) ∧ (sadd x54 x56 fun s57 =>
  br (decide ((x52 : List UInt8) = s57)) (idx counts_17 counts_17n 2 1 fun p58 =>
  ∃ (x59 : Int), World.cell? w50 p58 = some (.int .i64 x59) ∧ (idx counts_17 counts_17n 0 1 fun p60 =>
  ∃ (x61 : Int), World.cell? w50 p60 = some (.int .i64 x61) ∧ (idx counts_17 counts_17n 1 1 fun p62 =>
  ∃ (x63 : Int), World.cell? w50 p62 = some (.int .i64 x63) ∧ (br (decide ((x59 : Int) = (IntKind.i64.wrap (x61 + x63)))) (idx depths_18 depths_18n 2 1 fun p64 =>
  ∃ (x65 : Int), World.cell? w50 p64 = some (.int .i64 x65) ∧ (idx depths_18 depths_18n 0 1 fun p66 =>
  ∃ (x67 : Int), World.cell? w50 p66 = some (.int .i64 x67) ∧ (idx depths_18 depths_18n 1 1 fun p68 =>
  ∃ (x69 : Int), World.cell? w50 p68 = some (.int .i64 x69) ∧ ((br (decide ((x65 : Int) = ((max x67 x69)))) (Calls Tryz.prog 11 ⟨[]⟩ w50 fun (e70 : Ending) (w71 : World) =>
  ∃ (x72 : Bool), e70 = .returned (.bool x72) ∧ (R (.returned (.bool x72)) w71)) (R (.returned (.bool false)) w50)) ∧ True)))) ((R (.returned (.bool false)) w50) ∧ True))))) ((R (.returned (.bool false)) w50) ∧ True))))))))) → K11 w12) → (Calls Tryz.prog 22 ⟨[.slice x10 x10n x10c]⟩ w9 fun (e73 : Ending) (w74 : World) =>
  ∃ (x75 : Bool), e73 = .returned (.bool x75) ∧ (br x75 (Calls Tryz.prog 11 ⟨[]⟩ w74 fun (e76 : Ending) (w77 : World) =>
  ∃ (x78 : Bool), e76 = .returned (.bool x78) ∧ (R (.returned (.bool x78)) w77)) (Calls Tryz.prog 17 ⟨[.slice x10 x10n x10c]⟩ w74 fun (e79 : Ending) (w80 : World) =>
  ∃ (x81 : Int), e79 = .returned (.int .i64 x81) ∧ (br (decide ((x81 : Int) ≠ 0)) (Calls Tryz.prog 11 ⟨[]⟩ w80 fun (e82 : Ending) (w83 : World) =>
  ∃ (x84 : Bool), e82 = .returned (.bool x84) ∧ (R (.returned (.bool x84)) w83)) (K11 w80)))))))) → K4 w5) → (Calls Tryz.prog 15 ⟨[.slice a_1 a_1n a_1c]⟩ w fun (e85 : Ending) (w86 : World) =>
  ∃ (x87 : Bool), e85 = .returned (.bool x87) ∧ (br (!x87) (Calls Tryz.prog 11 ⟨[]⟩ w86 fun (e88 : Ending) (w89 : World) =>
  ∃ (x90 : Bool), e88 = .returned (.bool x90) ∧ (R (.returned (.bool x90)) w89)) (Calls Tryz.prog 15 ⟨[.slice b_2 b_2n b_2c]⟩ w86 fun (e91 : Ending) (w92 : World) =>
  ∃ (x93 : Bool), e91 = .returned (.bool x93) ∧ (br (!x93) (Calls Tryz.prog 11 ⟨[]⟩ w92 fun (e94 : Ending) (w95 : World) =>
  ∃ (x96 : Bool), e94 = .returned (.bool x96) ∧ (R (.returned (.bool x96)) w95)) (K4 w92)))))
set_option maxRecDepth 100000 in
theorem e_law10_TranscriptJoins (a_1 : Option Addr) (a_1n : Nat) (a_1c : Nat) (b_2 : Option Addr) (b_2n : Nat) (b_2c : Nat) (kind_3 : Int) (R : Ending → World → Prop) (w : World) : fnV Tryz.prog Tryz.f9 an_law10_TranscriptJoins [.slice a_1 a_1n a_1c, .slice b_2 b_2n b_2c, .int .u8 kind_3] R w = sh_law10_TranscriptJoins a_1 a_1n a_1c b_2 b_2n b_2c kind_3 R w := by kernel_rfl
theorem c_law10_TranscriptJoins {a_1 : Option Addr} {a_1n : Nat} {a_1c : Nat} {b_2 : Option Addr} {b_2n : Nat} {b_2c : Nat} {kind_3 : Int} {R : Ending → World → Prop} {w : World} (h : sh_law10_TranscriptJoins a_1 a_1n a_1c b_2 b_2n b_2c kind_3 R w) : Calls Tryz.prog F_law10_TranscriptJoins ⟨[.slice a_1 a_1n a_1c, .slice b_2 b_2n b_2c, .int .u8 kind_3]⟩ w R := calls_of_fnV Tryz.func9 (by rw [e_law10_TranscriptJoins]; exact h)

def an_law10_awake : Ann := .two (.leaf) (.two (.leaf) (.two (.leaf) (.two (.leaf) (.two (.leaf) (.two (.leaf) (.leaf))))))
def sh_law10_awake  (R : Ending → World → Prop) (w : World) : Prop :=
  Calls Tryz.prog 12 ⟨[.string ⟨⟨[100, 101, 60, 97, 100, 100, 32, 49, 62, 117, 115, 60, 47, 97, 100, 100, 62, 60, 108, 98, 47, 62]⟩⟩]⟩ w fun (e1 : Ending) (w2 : World) =>
  ∃ (x3 : Option Addr) (x3n : Nat) (x3c : Nat) (x4 : Int), e1 = .returned (.tuple ⟨[.slice x3 x3n x3c, .int .i64 x4]⟩) ∧ (Calls Tryz.prog 38 ⟨[]⟩ w2 fun (e5 : Ending) (w6 : World) =>
  ∃ (x7 : Option Addr) (x7n : Nat) (x7c : Nat), e5 = .returned (.slice x7 x7n x7c) ∧ (Calls Tryz.prog 16 ⟨[.slice x7 x7n x7c]⟩ w6 fun (e8 : Ending) (w9 : World) =>
  ∃ (x10 : List UInt8) (x11 : Int), e8 = .returned (.tuple ⟨[.string ⟨⟨x10⟩⟩, .int .i64 x11]⟩) ∧ (Calls Tryz.prog 38 ⟨[]⟩ w9 fun (e12 : Ending) (w13 : World) =>
  ∃ (x14 : Option Addr) (x14n : Nat) (x14c : Nat), e12 = .returned (.slice x14 x14n x14c) ∧ (Calls Tryz.prog 19 ⟨[.slice x14 x14n x14c]⟩ w13 fun (e15 : Ending) (w16 : World) =>
  ∃ (x17 : List UInt8) (x18 : Int), e15 = .returned (.tuple ⟨[.string ⟨⟨x17⟩⟩, .int .i64 x18]⟩) ∧ (Calls Tryz.prog 38 ⟨[]⟩ w16 fun (e19 : Ending) (w20 : World) =>
  ∃ (x21 : Option Addr) (x21n : Nat) (x21c : Nat), e19 = .returned (.slice x21 x21n x21c) ∧ (Calls Tryz.prog 18 ⟨[.slice x21 x21n x21c]⟩ w20 fun (e22 : Ending) (w23 : World) =>
  ∃ (x24 : Int) (x25 : Int), e22 = .returned (.tuple ⟨[.int .i64 x24, .int .i64 x25]⟩) ∧ (br (decide ((((max (max (max x4 x11) x18) x25)) : Int) = 0)) (Calls Tryz.prog 38 ⟨[]⟩ w23 fun (e26 : Ending) (w27 : World) =>
  ∃ (x28 : Option Addr) (x28n : Nat) (x28c : Nat), e26 = .returned (.slice x28 x28n x28c) ∧ (Calls Tryz.prog 14 ⟨[.slice x3 x3n x3c, .slice x28 x28n x28c]⟩ w27 fun (e29 : Ending) (w30 : World) =>
  ∃ (x31 : Bool), e29 = .returned (.bool x31) ∧ (br x31 (br (decide ((x10 : List UInt8) = ([100, 101, 60, 97, 100, 100, 32, 49, 62, 117, 115, 60, 47, 97, 100, 100, 62, 60, 108, 98, 47, 62]))) (br (decide ((x17 : List UInt8) = ([100, 101, 117, 115]))) (br (decide ((x24 : Int) = 1)) (Calls Tryz.prog 38 ⟨[]⟩ w30 fun (e32 : Ending) (w33 : World) =>
  ∃ (x34 : Option Addr) (x34n : Nat) (x34c : Nat), e32 = .returned (.slice x34 x34n x34c) ∧ (Calls Tryz.prog 36 ⟨[.slice x3 x3n x3c, .slice x34 x34n x34c]⟩ w33 fun (e35 : Ending) (w36 : World) =>
  ∃ (x37 : Bool), e35 = .returned (.bool x37) ∧ (br x37 (al w36 35 [.int .i64 0, .string ⟨⟨[]⟩⟩, .int .i64 0, .slice none 0 0] fun p38 w39 =>
  Calls Tryz.prog 17 ⟨[.slice (some p38) 1 1]⟩ w39 fun (e40 : Ending) (w41 : World) =>
  ∃ (x42 : Int), e40 = .returned (.int .i64 x42) ∧ (R (.returned (.bool (decide ((x42 : Int) = 8)))) w41)) (R (.returned (.bool false)) w36)))) (R (.returned (.bool false)) w30)) (R (.returned (.bool false)) w30)) (R (.returned (.bool false)) w30)) (R (.returned (.bool false)) w30)))) (R (.returned (.bool false)) w23))))))))
set_option maxRecDepth 100000 in
theorem e_law10_awake  (R : Ending → World → Prop) (w : World) : fnV Tryz.prog Tryz.f11 an_law10_awake [] R w = sh_law10_awake  R w := by kernel_rfl
theorem c_law10_awake  {R : Ending → World → Prop} {w : World} (h : sh_law10_awake  R w) : Calls Tryz.prog F_law10_awake ⟨[]⟩ w R := calls_of_fnV Tryz.func11 (by rw [e_law10_awake]; exact h)

def an_transcript_Parse : Ann := .two (.leaf) (.two (.leaf) (.two (.two (.leaf) (.two (.two (.leaf) (.leaf)) (.leaf))) (.two (.two (.leaf) (.two (.leaf) (.two (.two (.leaf) (.leaf)) (.leaf)))) (.two (.leaf) (.two (.two (.leaf) (.one (.loop 40564819207303340847893428831872 [(7, .one (.slice)), (30, .one (.int .i64))] (.two (.leaf) (.two (.two (.leaf) (.leaf)) (.two (.one (.two (.leaf) (.two (.leaf) (.two (.leaf) (.one (.two (.leaf) (.two (.leaf) (.two (.leaf) (.two (.two (.leaf) (.two (.two (.cut 27670116110564327424 [(64, .one (.bool))] (.leaf) (.two (.two (.leaf) (.leaf)) (.leaf))) (.leaf)) (.leaf))) (.one (.leaf))))))))))) (.leaf))))))) (.two (.leaf) (.two (.two (.leaf) (.two (.leaf) (.two (.two (.leaf) (.leaf)) (.leaf)))) (.two (.leaf) (.leaf)))))))))
def sh_transcript_Parse (s_1 : List UInt8) (R : Ending → World → Prop) (w : World) : Prop :=
  Calls Tryz.prog 28 ⟨[.string ⟨⟨s_1⟩⟩]⟩ w fun (e2 : Ending) (w3 : World) =>
  ∃ (x4 : Option Addr) (x4n : Nat) (x4c : Nat) (x5 : Int), e2 = .returned (.tuple ⟨[.slice x4 x4n x4c, .int .i64 x5]⟩) ∧ (br (decide ((x5 : Int) ≠ 0)) (R (.returned (.tuple ⟨[.slice none 0 0, .int .i64 x5]⟩)) w3) (Calls Tryz.prog 39 ⟨[.slice x4 x4n x4c]⟩ w3 fun (e6 : Ending) (w7 : World) =>
  ∃ (x8 : Int), e6 = .returned (.int .i64 x8) ∧ (br (decide ((x8 : Int) ≠ 0)) (R (.returned (.tuple ⟨[.slice none 0 0, .int .i64 x8]⟩)) w7) (al w7 35 [.int .i64 0, .string ⟨⟨[]⟩⟩, .int .i64 0, .slice none 0 0] fun p9 w10 =>
  ∃ (I11 : Option Addr → Nat → Nat → Int → World → Nat → Prop), (∃ m16 : Nat, I11 (some p9) 1 1 0 w10 m16) ∧ ∀ (open_12 : Option Addr) (open_12n : Nat) (open_12c : Nat) (t30_13 : Int) (w14 : World) (m15 : Nat), I11 open_12 open_12n open_12c t30_13 w14 m15 → ∀ _ : Env, (br (decide ((t30_13 : Int) < ((x4n : Int)))) (idx x4 x4n t30_13 4 fun p17 =>
  ∃ (x18 : Int), World.cell? w14 (p17.add 0) = some (.int .i64 x18) ∧ (∃ (x19 : List UInt8), World.cell? w14 (p17.add 1) = some (.string ⟨⟨x19⟩⟩) ∧ (∃ (x20 : List UInt8), World.cell? w14 (p17.add 2) = some (.string ⟨⟨x20⟩⟩) ∧ (∃ (x21 : Int), World.cell? w14 (p17.add 3) = some (.int .i64 x21) ∧ (al w14 48 [.int .i64 0, .string ⟨⟨[]⟩⟩, .string ⟨⟨[]⟩⟩, .int .i64 0] fun p22 w23 =>
  stL w23 p22 0 [.int .i64 x18, .string ⟨⟨x19⟩⟩, .string ⟨⟨x20⟩⟩, .int .i64 x21] fun w24 =>
  ∃ (x25 : Int), World.cell? w24 (p22.add 0) = some (.int .i64 x25) ∧ (br (decide ((x25 : Int) = 2)) (∃ (x26 : Int), World.cell? w24 (p22.add 0) = some (.int .i64 x26) ∧ (∃ (x27 : List UInt8), World.cell? w24 (p22.add 1) = some (.string ⟨⟨x27⟩⟩) ∧ (∃ (x28 : List UInt8), World.cell? w24 (p22.add 2) = some (.string ⟨⟨x28⟩⟩) ∧ (∃ (x29 : Int), World.cell? w24 (p22.add 3) = some (.int .i64 x29) ∧ (Calls Tryz.prog 40 ⟨[.agg ⟨[.int .i64 x26, .string ⟨⟨x27⟩⟩, .string ⟨⟨x28⟩⟩, .int .i64 x29]⟩]⟩ w24 fun (e30 : Ending) (w31 : World) =>
  ∃ (x32 : Int) (x33 : List UInt8) (x34 : Int) (x35 : Option Addr) (x35n : Nat) (x35c : Nat), e30 = .returned (.agg ⟨[.int .i64 x32, .string ⟨⟨x33⟩⟩, .int .i64 x34, .slice x35 x35n x35c]⟩) ∧ (al w31 35 [.int .i64 x32, .string ⟨⟨x33⟩⟩, .int .i64 x34, .slice x35 x35n x35c] fun p36 w37 =>
  app Tryz.prog [24, 24] 24 (.slice open_12 open_12n open_12c) (.slice (some p36) 1 1) w37 fun a38 a38n a38c w39 =>
  ∃ m40 : Nat, m40 < m15 ∧ I11 a38 a38n a38c (IntKind.i64.wrap (t30_13 + 1)) w39 m40)))))) (br (decide ((x25 : Int) = 3)) (br (decide ((0 : Int) < (IntKind.i64.wrap (((open_12n : Int)) - 1)))) (∀ (K41 : Bool → World → Prop), (∀ (t64_42 : Bool) (w43 : World), (∀ _ : Env, (br t64_42 (drw w43 fun w44 =>
  idx open_12 open_12n (IntKind.i64.wrap ((IntKind.i64.wrap (((open_12n : Int)) - 1)) - 1)) 4 fun p45 =>
  ∃ (x46 : Option Addr) (x46n : Nat) (x46c : Nat), World.cell? w44 (p45.add 3) = some (.slice x46 x46n x46c) ∧ (idx open_12 open_12n (IntKind.i64.wrap (((open_12n : Int)) - 1)) 4 fun p47 =>
  ∃ (x48 : Int), World.cell? w44 (p47.add 0) = some (.int .i64 x48) ∧ (∃ (x49 : List UInt8), World.cell? w44 (p47.add 1) = some (.string ⟨⟨x49⟩⟩) ∧ (∃ (x50 : Int), World.cell? w44 (p47.add 2) = some (.int .i64 x50) ∧ (∃ (x51 : Option Addr) (x51n : Nat) (x51c : Nat), World.cell? w44 (p47.add 3) = some (.slice x51 x51n x51c) ∧ ((al w44 35 [.int .i64 0, .string ⟨⟨[]⟩⟩, .int .i64 0, .slice none 0 0] fun p52 w53 =>
  (app Tryz.prog [24, 24] 24 (.slice x46 x46n x46c) (.slice (some p52) 1 1) w53 fun a54 a54n a54c w55 =>
  idx open_12 open_12n (IntKind.i64.wrap ((IntKind.i64.wrap (((open_12n : Int)) - 1)) - 1)) 4 fun p56 =>
  (stL w55 (p56.add 3) 0 [.slice a54 a54n a54c] fun w57 =>
  idx a54 a54n ((x46n : Int)) 4 fun p58 =>
  stL w57 p58 0 [.int .i64 x48, .string ⟨⟨x49⟩⟩, .int .i64 x50, .slice x51 x51n x51c] fun w59 =>
  sls open_12 open_12c 0 (IntKind.i64.wrap (((open_12n : Int)) - 1)) 4 fun a60 a60n a60c =>
  ∃ m61 : Nat, m61 < m15 ∧ I11 a60 a60n a60c (IntKind.i64.wrap (t30_13 + 1)) w59 m61) ∧ True) ∧ True) ∧ True)))))) (drw w43 fun w62 =>
  idx open_12 open_12n (IntKind.i64.wrap ((IntKind.i64.wrap (((open_12n : Int)) - 1)) - 1)) 4 fun p63 =>
  ∃ (x64 : Option Addr) (x64n : Nat) (x64c : Nat), World.cell? w62 (p63.add 3) = some (.slice x64 x64n x64c) ∧ (idx open_12 open_12n (IntKind.i64.wrap (((open_12n : Int)) - 1)) 4 fun p65 =>
  ∃ (x66 : Int), World.cell? w62 (p65.add 0) = some (.int .i64 x66) ∧ (∃ (x67 : List UInt8), World.cell? w62 (p65.add 1) = some (.string ⟨⟨x67⟩⟩) ∧ (∃ (x68 : Int), World.cell? w62 (p65.add 2) = some (.int .i64 x68) ∧ (∃ (x69 : Option Addr) (x69n : Nat) (x69c : Nat), World.cell? w62 (p65.add 3) = some (.slice x69 x69n x69c) ∧ ((al w62 35 [.int .i64 x66, .string ⟨⟨x67⟩⟩, .int .i64 x68, .slice x69 x69n x69c] fun p70 w71 =>
  (app Tryz.prog [24, 24] 24 (.slice x64 x64n x64c) (.slice (some p70) 1 1) w71 fun a72 a72n a72c w73 =>
  idx open_12 open_12n (IntKind.i64.wrap ((IntKind.i64.wrap (((open_12n : Int)) - 1)) - 1)) 4 fun p74 =>
  (stL w73 (p74.add 3) 0 [.slice a72 a72n a72c] fun w75 =>
  sls open_12 open_12c 0 (IntKind.i64.wrap (((open_12n : Int)) - 1)) 4 fun a76 a76n a76c =>
  ∃ m77 : Nat, m77 < m15 ∧ I11 a76 a76n a76c (IntKind.i64.wrap (t30_13 + 1)) w75 m77) ∧ True) ∧ True) ∧ True)))))))) → K41 t64_42 w43) → (drw w24 fun w78 =>
  (al w78 4 [.bool false] fun p79 w80 =>
  (stL w80 p79 0 [.bool true] fun w81 =>
  (stL w81 p79 0 [.bool false] fun w82 =>
  ∃ (x83 : Bool), World.cell? w82 p79 = some (.bool x83) ∧ (K41 x83 w82)) ∧ True) ∧ (stL w80 p79 0 [.bool false] fun w84 =>
  (stL w84 p79 0 [.bool true] fun w85 =>
  ∃ (x86 : Bool), World.cell? w85 p79 = some (.bool x86) ∧ (K41 x86 w85)) ∧ True) ∧ True) ∧ True)) (∃ m87 : Nat, m87 < m15 ∧ I11 open_12 open_12n open_12c (IntKind.i64.wrap (t30_13 + 1)) w24 m87)) (drw w24 fun w88 =>
  idx open_12 open_12n (IntKind.i64.wrap (((open_12n : Int)) - 1)) 4 fun p89 =>
  ∃ (x90 : Int), World.cell? w88 (p22.add 0) = some (.int .i64 x90) ∧ (∃ (x91 : List UInt8), World.cell? w88 (p22.add 1) = some (.string ⟨⟨x91⟩⟩) ∧ (∃ (x92 : List UInt8), World.cell? w88 (p22.add 2) = some (.string ⟨⟨x92⟩⟩) ∧ (∃ (x93 : Int), World.cell? w88 (p22.add 3) = some (.int .i64 x93) ∧ ((∃ (x94 : Option Addr) (x94n : Nat) (x94c : Nat), World.cell? w88 (p89.add 3) = some (.slice x94 x94n x94c) ∧ ((Calls Tryz.prog 40 ⟨[.agg ⟨[.int .i64 x90, .string ⟨⟨x91⟩⟩, .string ⟨⟨x92⟩⟩, .int .i64 x93]⟩]⟩ w88 fun (e95 : Ending) (w96 : World) =>
  ∃ (x97 : Int) (x98 : List UInt8) (x99 : Int) (x100 : Option Addr) (x100n : Nat) (x100c : Nat), e95 = .returned (.agg ⟨[.int .i64 x97, .string ⟨⟨x98⟩⟩, .int .i64 x99, .slice x100 x100n x100c]⟩) ∧ ((al w96 35 [.int .i64 0, .string ⟨⟨[]⟩⟩, .int .i64 0, .slice none 0 0] fun p101 w102 =>
  (app Tryz.prog [24, 24] 24 (.slice x94 x94n x94c) (.slice (some p101) 1 1) w102 fun a103 a103n a103c w104 =>
  idx a103 a103n ((x94n : Int)) 4 fun p105 =>
  idx open_12 open_12n (IntKind.i64.wrap (((open_12n : Int)) - 1)) 4 fun p106 =>
  (stL w104 p105 0 [.int .i64 x97, .string ⟨⟨x98⟩⟩, .int .i64 x99, .slice x100 x100n x100c] fun w107 =>
  (stL w107 (p106.add 3) 0 [.slice a103 a103n a103c] fun w108 =>
  ∃ m109 : Nat, m109 < m15 ∧ I11 open_12 open_12n open_12c (IntKind.i64.wrap (t30_13 + 1)) w108 m109) ∧ True) ∧ (stL w104 (p106.add 3) 0 [.slice a103 a103n a103c] fun w110 =>
  (stL w110 p105 0 [.int .i64 x97, .string ⟨⟨x98⟩⟩, .int .i64 x99, .slice x100 x100n x100c] fun w111 =>
  ∃ m112 : Nat, m112 < m15 ∧ I11 open_12 open_12n open_12c (IntKind.i64.wrap (t30_13 + 1)) w111 m112) ∧ True) ∧ True) ∧ True) ∧ True)) ∧ (al w88 35 [.int .i64 0, .string ⟨⟨[]⟩⟩, .int .i64 0, .slice none 0 0] fun p113 w114 =>
  (Calls Tryz.prog 40 ⟨[.agg ⟨[.int .i64 x90, .string ⟨⟨x91⟩⟩, .string ⟨⟨x92⟩⟩, .int .i64 x93]⟩]⟩ w114 fun (e115 : Ending) (w116 : World) =>
  ∃ (x117 : Int) (x118 : List UInt8) (x119 : Int) (x120 : Option Addr) (x120n : Nat) (x120c : Nat), e115 = .returned (.agg ⟨[.int .i64 x117, .string ⟨⟨x118⟩⟩, .int .i64 x119, .slice x120 x120n x120c]⟩) ∧ ((app Tryz.prog [24, 24] 24 (.slice x94 x94n x94c) (.slice (some p113) 1 1) w116 fun a121 a121n a121c w122 =>
  idx a121 a121n ((x94n : Int)) 4 fun p123 =>
  idx open_12 open_12n (IntKind.i64.wrap (((open_12n : Int)) - 1)) 4 fun p124 =>
  (stL w122 p123 0 [.int .i64 x117, .string ⟨⟨x118⟩⟩, .int .i64 x119, .slice x120 x120n x120c] fun w125 =>
  (stL w125 (p124.add 3) 0 [.slice a121 a121n a121c] fun w126 =>
  ∃ m127 : Nat, m127 < m15 ∧ I11 open_12 open_12n open_12c (IntKind.i64.wrap (t30_13 + 1)) w126 m127) ∧ True) ∧ (stL w122 (p124.add 3) 0 [.slice a121 a121n a121c] fun w128 =>
  (stL w128 p123 0 [.int .i64 x117, .string ⟨⟨x118⟩⟩, .int .i64 x119, .slice x120 x120n x120c] fun w129 =>
  ∃ m130 : Nat, m130 < m15 ∧ I11 open_12 open_12n open_12c (IntKind.i64.wrap (t30_13 + 1)) w129 m130) ∧ True) ∧ True) ∧ True)) ∧ True) ∧ True)) ∧ (Calls Tryz.prog 40 ⟨[.agg ⟨[.int .i64 x90, .string ⟨⟨x91⟩⟩, .string ⟨⟨x92⟩⟩, .int .i64 x93]⟩]⟩ w88 fun (e131 : Ending) (w132 : World) =>
  ∃ (x133 : Int) (x134 : List UInt8) (x135 : Int) (x136 : Option Addr) (x136n : Nat) (x136c : Nat), e131 = .returned (.agg ⟨[.int .i64 x133, .string ⟨⟨x134⟩⟩, .int .i64 x135, .slice x136 x136n x136c]⟩) ∧ (∃ (x137 : Option Addr) (x137n : Nat) (x137c : Nat), World.cell? w132 (p89.add 3) = some (.slice x137 x137n x137c) ∧ ((al w132 35 [.int .i64 0, .string ⟨⟨[]⟩⟩, .int .i64 0, .slice none 0 0] fun p138 w139 =>
  (app Tryz.prog [24, 24] 24 (.slice x137 x137n x137c) (.slice (some p138) 1 1) w139 fun a140 a140n a140c w141 =>
  idx a140 a140n ((x137n : Int)) 4 fun p142 =>
  idx open_12 open_12n (IntKind.i64.wrap (((open_12n : Int)) - 1)) 4 fun p143 =>
  (stL w141 p142 0 [.int .i64 x133, .string ⟨⟨x134⟩⟩, .int .i64 x135, .slice x136 x136n x136c] fun w144 =>
  (stL w144 (p143.add 3) 0 [.slice a140 a140n a140c] fun w145 =>
  ∃ m146 : Nat, m146 < m15 ∧ I11 open_12 open_12n open_12c (IntKind.i64.wrap (t30_13 + 1)) w145 m146) ∧ True) ∧ (stL w141 (p143.add 3) 0 [.slice a140 a140n a140c] fun w147 =>
  (stL w147 p142 0 [.int .i64 x133, .string ⟨⟨x134⟩⟩, .int .i64 x135, .slice x136 x136n x136c] fun w148 =>
  ∃ m149 : Nat, m149 < m15 ∧ I11 open_12 open_12n open_12c (IntKind.i64.wrap (t30_13 + 1)) w148 m149) ∧ True) ∧ True) ∧ True) ∧ True))) ∧ (al w88 35 [.int .i64 0, .string ⟨⟨[]⟩⟩, .int .i64 0, .slice none 0 0] fun p150 w151 =>
  (Calls Tryz.prog 40 ⟨[.agg ⟨[.int .i64 x90, .string ⟨⟨x91⟩⟩, .string ⟨⟨x92⟩⟩, .int .i64 x93]⟩]⟩ w151 fun (e152 : Ending) (w153 : World) =>
  ∃ (x154 : Int) (x155 : List UInt8) (x156 : Int) (x157 : Option Addr) (x157n : Nat) (x157c : Nat), e152 = .returned (.agg ⟨[.int .i64 x154, .string ⟨⟨x155⟩⟩, .int .i64 x156, .slice x157 x157n x157c]⟩) ∧ (∃ (x158 : Option Addr) (x158n : Nat) (x158c : Nat), World.cell? w153 (p89.add 3) = some (.slice x158 x158n x158c) ∧ ((app Tryz.prog [24, 24] 24 (.slice x158 x158n x158c) (.slice (some p150) 1 1) w153 fun a159 a159n a159c w160 =>
  idx a159 a159n ((x158n : Int)) 4 fun p161 =>
  idx open_12 open_12n (IntKind.i64.wrap (((open_12n : Int)) - 1)) 4 fun p162 =>
  (stL w160 p161 0 [.int .i64 x154, .string ⟨⟨x155⟩⟩, .int .i64 x156, .slice x157 x157n x157c] fun w163 =>
  (stL w163 (p162.add 3) 0 [.slice a159 a159n a159c] fun w164 =>
  ∃ m165 : Nat, m165 < m15 ∧ I11 open_12 open_12n open_12c (IntKind.i64.wrap (t30_13 + 1)) w164 m165) ∧ True) ∧ (stL w160 (p162.add 3) 0 [.slice a159 a159n a159c] fun w166 =>
  (stL w166 p161 0 [.int .i64 x154, .string ⟨⟨x155⟩⟩, .int .i64 x156, .slice x157 x157n x157c] fun w167 =>
  ∃ m168 : Nat, m168 < m15 ∧ I11 open_12 open_12n open_12c (IntKind.i64.wrap (t30_13 + 1)) w167 m168) ∧ True) ∧ True) ∧ True))) ∧ True) ∧ True)))))))))))) (idx open_12 open_12n 0 4 fun p169 =>
  ∃ (x170 : Option Addr) (x170n : Nat) (x170c : Nat), World.cell? w14 (p169.add 3) = some (.slice x170 x170n x170c) ∧ (Calls Tryz.prog 17 ⟨[.slice x170 x170n x170c]⟩ w14 fun (e171 : Ending) (w172 : World) =>
  ∃ (x173 : Int), e171 = .returned (.int .i64 x173) ∧ (br (decide ((x173 : Int) ≠ 0)) (R (.returned (.tuple ⟨[.slice none 0 0, .int .i64 x173]⟩)) w172) (R (.returned (.tuple ⟨[.slice x170 x170n x170c, .int .i64 0]⟩)) w172)))))))))
set_option maxRecDepth 100000 in
theorem e_transcript_Parse (s_1 : List UInt8) (R : Ending → World → Prop) (w : World) : fnV Tryz.prog Tryz.f12 an_transcript_Parse [.string ⟨⟨s_1⟩⟩] R w = sh_transcript_Parse s_1 R w := by kernel_rfl
theorem c_transcript_Parse {s_1 : List UInt8} {R : Ending → World → Prop} {w : World} (h : sh_transcript_Parse s_1 R w) : Calls Tryz.prog F_transcript_Parse ⟨[.string ⟨⟨s_1⟩⟩]⟩ w R := calls_of_fnV Tryz.func12 (by rw [e_transcript_Parse]; exact h)

def an_ref10_Same : Ann := .two (.leaf) (.two (.two (.leaf) (.two (.two (.leaf) (.leaf)) (.leaf))) (.two (.two (.leaf) (.one (.loop 295147905179352823856 [(5, .one (.int .i64))] (.two (.two (.leaf) (.two (.leaf) (.leaf))) (.two (.one (.two (.leaf) (.two (.two (.leaf) (.leaf)) (.leaf)))) (.leaf)))))) (.two (.leaf) (.leaf))))
def sh_ref10_Same (a_1 : Option Addr) (a_1n : Nat) (a_1c : Nat) (b_2 : Option Addr) (b_2n : Nat) (b_2c : Nat) (R : Ending → World → Prop) (w : World) : Prop :=
  br (decide ((((a_1n : Int)) : Int) ≠ ((b_2n : Int)))) (R (.returned (.bool false)) w) (∃ (I3 : Int → World → Nat → Prop), (∃ m7 : Nat, I3 0 w m7) ∧ ∀ (i_4 : Int) (w5 : World) (m6 : Nat), I3 i_4 w5 m6 → ∀ _ : Env, (br (decide ((i_4 : Int) < ((a_1n : Int)))) (drw w5 fun w8 =>
  idx a_1 a_1n i_4 4 fun p9 =>
  ∃ (x10 : Int), World.cell? w8 (p9.add 0) = some (.int .i64 x10) ∧ (idx b_2 b_2n i_4 4 fun p11 =>
  ∃ (x12 : Int), World.cell? w8 (p11.add 0) = some (.int .i64 x12) ∧ (br (decide ((x10 : Int) ≠ x12)) ((R (.returned (.bool false)) w8) ∧ True) (idx a_1 a_1n i_4 4 fun p13 =>
  ∃ (x14 : List UInt8), World.cell? w8 (p13.add 1) = some (.string ⟨⟨x14⟩⟩) ∧ (idx b_2 b_2n i_4 4 fun p15 =>
  ∃ (x16 : List UInt8), World.cell? w8 (p15.add 1) = some (.string ⟨⟨x16⟩⟩) ∧ (br (decide ((x14 : List UInt8) ≠ x16)) ((R (.returned (.bool false)) w8) ∧ True) (idx a_1 a_1n i_4 4 fun p17 =>
  ∃ (x18 : Int), World.cell? w8 (p17.add 2) = some (.int .i64 x18) ∧ (idx b_2 b_2n i_4 4 fun p19 =>
  ∃ (x20 : Int), World.cell? w8 (p19.add 2) = some (.int .i64 x20) ∧ (br (decide ((x18 : Int) ≠ x20)) ((R (.returned (.bool false)) w8) ∧ True) (idx a_1 a_1n i_4 4 fun p21 =>
  ∃ (x22 : Option Addr) (x22n : Nat) (x22c : Nat), World.cell? w8 (p21.add 3) = some (.slice x22 x22n x22c) ∧ (idx b_2 b_2n i_4 4 fun p23 =>
  ∃ (x24 : Option Addr) (x24n : Nat) (x24c : Nat), World.cell? w8 (p23.add 3) = some (.slice x24 x24n x24c) ∧ ((Calls Tryz.prog 14 ⟨[.slice x22 x22n x22c, .slice x24 x24n x24c]⟩ w8 fun (e25 : Ending) (w26 : World) =>
  ∃ (x27 : Bool), e25 = .returned (.bool x27) ∧ (br (!x27) (R (.returned (.bool false)) w26) (∃ m28 : Nat, m28 < m6 ∧ I3 (IntKind.i64.wrap (i_4 + 1)) w26 m28))) ∧ True)))))))))))) (R (.returned (.bool true)) w5)))
set_option maxRecDepth 100000 in
theorem e_ref10_Same (a_1 : Option Addr) (a_1n : Nat) (a_1c : Nat) (b_2 : Option Addr) (b_2n : Nat) (b_2c : Nat) (R : Ending → World → Prop) (w : World) : fnV Tryz.prog Tryz.f14 an_ref10_Same [.slice a_1 a_1n a_1c, .slice b_2 b_2n b_2c] R w = sh_ref10_Same a_1 a_1n a_1c b_2 b_2n b_2c R w := by kernel_rfl
theorem c_ref10_Same {a_1 : Option Addr} {a_1n : Nat} {a_1c : Nat} {b_2 : Option Addr} {b_2n : Nat} {b_2c : Nat} {R : Ending → World → Prop} {w : World} (h : sh_ref10_Same a_1 a_1n a_1c b_2 b_2n b_2c R w) : Calls Tryz.prog F_ref10_Same ⟨[.slice a_1 a_1n a_1c, .slice b_2 b_2n b_2c]⟩ w R := calls_of_fnV Tryz.func14 (by rw [e_ref10_Same]; exact h)

def an_law10_fine : Ann := .two (.leaf) (.two (.leaf) (.leaf))
def sh_law10_fine (l_1 : Option Addr) (l_1n : Nat) (l_1c : Nat) (R : Ending → World → Prop) (w : World) : Prop :=
  Calls Tryz.prog 22 ⟨[.slice l_1 l_1n l_1c]⟩ w fun (e2 : Ending) (w3 : World) =>
  ∃ (x4 : Bool), e2 = .returned (.bool x4) ∧ (br (!x4) (Calls Tryz.prog 23 ⟨[.slice l_1 l_1n l_1c]⟩ w3 fun (e5 : Ending) (w6 : World) =>
  ∃ (x7 : Int), e5 = .returned (.int .i64 x7) ∧ (R (.returned (.bool (decide ((x7 : Int) = 0)))) w6)) (R (.returned (.bool false)) w3))
set_option maxRecDepth 100000 in
theorem e_law10_fine (l_1 : Option Addr) (l_1n : Nat) (l_1c : Nat) (R : Ending → World → Prop) (w : World) : fnV Tryz.prog Tryz.f15 an_law10_fine [.slice l_1 l_1n l_1c] R w = sh_law10_fine l_1 l_1n l_1c R w := by kernel_rfl
theorem c_law10_fine {l_1 : Option Addr} {l_1n : Nat} {l_1c : Nat} {R : Ending → World → Prop} {w : World} (h : sh_law10_fine l_1 l_1n l_1c R w) : Calls Tryz.prog F_law10_fine ⟨[.slice l_1 l_1n l_1c]⟩ w R := calls_of_fnV Tryz.func15 (by rw [e_law10_fine]; exact h)

def an_transcript_Print : Ann := .two (.leaf) (.two (.two (.leaf) (.two (.two (.leaf) (.leaf)) (.leaf))) (.two (.leaf) (.leaf)))
def sh_transcript_Print (l_1 : Option Addr) (l_1n : Nat) (l_1c : Nat) (R : Ending → World → Prop) (w : World) : Prop :=
  Calls Tryz.prog 17 ⟨[.slice l_1 l_1n l_1c]⟩ w fun (e2 : Ending) (w3 : World) =>
  ∃ (x4 : Int), e2 = .returned (.int .i64 x4) ∧ (br (decide ((x4 : Int) ≠ 0)) (R (.returned (.tuple ⟨[.string ⟨⟨[]⟩⟩, .int .i64 1]⟩)) w3) (Calls Tryz.prog 44 ⟨[.slice l_1 l_1n l_1c]⟩ w3 fun (e5 : Ending) (w6 : World) =>
  ∃ (x7 : List UInt8), e5 = .returned (.string ⟨⟨x7⟩⟩) ∧ (R (.returned (.tuple ⟨[.string ⟨⟨x7⟩⟩, .int .i64 0]⟩)) w6)))
set_option maxRecDepth 100000 in
theorem e_transcript_Print (l_1 : Option Addr) (l_1n : Nat) (l_1c : Nat) (R : Ending → World → Prop) (w : World) : fnV Tryz.prog Tryz.f16 an_transcript_Print [.slice l_1 l_1n l_1c] R w = sh_transcript_Print l_1 l_1n l_1c R w := by kernel_rfl
theorem c_transcript_Print {l_1 : Option Addr} {l_1n : Nat} {l_1c : Nat} {R : Ending → World → Prop} {w : World} (h : sh_transcript_Print l_1 l_1n l_1c R w) : Calls Tryz.prog F_transcript_Print ⟨[.slice l_1 l_1n l_1c]⟩ w R := calls_of_fnV Tryz.func16 (by rw [e_transcript_Print]; exact h)

def an_transcript_Check : Ann := .two (.leaf) (.two (.leaf) (.two (.leaf) (.two (.two (.leaf) (.one (.rf [0, 2, 4, 10] 0))) (.two (.two (.leaf) (.one (.rf [0, 2, 28] 0))) (.two (.two (.leaf) (.two (.two (.leaf) (.leaf)) (.leaf))) (.two (.leaf) (.leaf)))))))
def sh_transcript_Check (l_1 : Option Addr) (l_1n : Nat) (l_1c : Nat) (R : Ending → World → Prop) (w : World) : Prop :=
  al w 25 [.int .i64 0] fun p2 w3 =>
  al w3 3 [.int .i64 0] fun p4 w5 =>
  stL w5 p4 0 [.int .i64 4096] fun w6 =>
  al w6 23 [.nilFunc] fun p7 w8 =>
  stL w8 p7 0 [.func (.func 45) ⟨[]⟩ ⟨[.pointer (some p4)]⟩] fun w9 =>
  Calls Tryz.prog 46 ⟨[.slice l_1 l_1n l_1c]⟩ w9 fun (e10 : Ending) (w11 : World) =>
  ∃ (x12 : Fn) (x12a : Array Value) (x12b : Array Value), e10 = .returned (.func x12 x12a x12b) ∧ (∀ base13 : Env, RFw Tryz.prog none 39 (cdAt Tryz.f17 [1, 1, 1, 0, 1, 2]) (upd (upd (upd (upd base13 10 (.func x12 x12a x12b)) 4 (.pointer (some p7))) 2 (.pointer (some p2))) 0 (.slice l_1 l_1n l_1c)) [] w11 0 (fun ds14 w15 =>
  Calls Tryz.prog 46 ⟨[.slice l_1 l_1n l_1c]⟩ w15 fun (e33 : Ending) (w34 : World) =>
  ∃ (x35 : Fn) (x35a : Array Value) (x35b : Array Value), e33 = .returned (.func x35 x35a x35b) ∧ (∀ base36 : Env, RFw Tryz.prog none 39 (cdAt Tryz.f17 [1, 1, 1, 1, 0, 1, 2]) (upd (upd (upd base36 28 (.func x35 x35a x35b)) 2 (.pointer (some p2))) 0 (.slice l_1 l_1n l_1c)) ds14 w34 0 (fun ds37 w38 =>
  Calls Tryz.prog 44 ⟨[.slice l_1 l_1n l_1c]⟩ w38 fun (e39 : Ending) (w40 : World) =>
  ∃ (x41 : List UInt8), e39 = .returned (.string ⟨⟨x41⟩⟩) ∧ (br (decide ((65536 : Int) < ((List.length x41 : Int)))) (stL w40 p2 0 [.int .i64 4] fun w42 =>
  retD ds37 w42 fun w43 =>
  ∃ (x44 : Int), World.cell? w43 p2 = some (.int .i64 x44) ∧ (R (.returned (.int .i64 x44)) w43)) (stL w40 p2 0 [.int .i64 0] fun w45 =>
  retD ds37 w45 fun w46 =>
  ∃ (x47 : Int), World.cell? w46 p2 = some (.int .i64 x47) ∧ (R (.returned (.int .i64 x47)) w46)))) (fun ds37 w38 =>
  retD ds37 w38 fun w48 =>
  ∃ (x49 : Int), World.cell? w48 p2 = some (.int .i64 x49) ∧ (R (.returned (.int .i64 x49)) w48)) (fun ds37 w38 =>
  False))) (fun ds14 w15 =>
  retD ds14 w15 fun w50 =>
  ∃ (x51 : Int), World.cell? w50 p2 = some (.int .i64 x51) ∧ (R (.returned (.int .i64 x51)) w50)) (fun ds14 w15 =>
  Calls Tryz.prog 46 ⟨[.slice l_1 l_1n l_1c]⟩ w15 fun (e16 : Ending) (w17 : World) =>
  ∃ (x18 : Fn) (x18a : Array Value) (x18b : Array Value), e16 = .returned (.func x18 x18a x18b) ∧ (∀ base19 : Env, RFw Tryz.prog none 39 (cdAt Tryz.f17 [1, 1, 1, 1, 0, 1, 2]) (upd (upd (upd base19 28 (.func x18 x18a x18b)) 2 (.pointer (some p2))) 0 (.slice l_1 l_1n l_1c)) ds14 w17 0 (fun ds20 w21 =>
  Calls Tryz.prog 44 ⟨[.slice l_1 l_1n l_1c]⟩ w21 fun (e22 : Ending) (w23 : World) =>
  ∃ (x24 : List UInt8), e22 = .returned (.string ⟨⟨x24⟩⟩) ∧ (br (decide ((65536 : Int) < ((List.length x24 : Int)))) (stL w23 p2 0 [.int .i64 4] fun w25 =>
  retD ds20 w25 fun w26 =>
  ∃ (x27 : Int), World.cell? w26 p2 = some (.int .i64 x27) ∧ (R (.returned (.int .i64 x27)) w26)) (stL w23 p2 0 [.int .i64 0] fun w28 =>
  retD ds20 w28 fun w29 =>
  ∃ (x30 : Int), World.cell? w29 p2 = some (.int .i64 x30) ∧ (R (.returned (.int .i64 x30)) w29)))) (fun ds20 w21 =>
  retD ds20 w21 fun w31 =>
  ∃ (x32 : Int), World.cell? w31 p2 = some (.int .i64 x32) ∧ (R (.returned (.int .i64 x32)) w31)) (fun ds20 w21 =>
  False))))
set_option maxRecDepth 100000 in
theorem e_transcript_Check (l_1 : Option Addr) (l_1n : Nat) (l_1c : Nat) (R : Ending → World → Prop) (w : World) : fnV Tryz.prog Tryz.f17 an_transcript_Check [.slice l_1 l_1n l_1c] R w = sh_transcript_Check l_1 l_1n l_1c R w := by kernel_rfl
theorem c_transcript_Check {l_1 : Option Addr} {l_1n : Nat} {l_1c : Nat} {R : Ending → World → Prop} {w : World} (h : sh_transcript_Check l_1 l_1n l_1c R w) : Calls Tryz.prog F_transcript_Check ⟨[.slice l_1 l_1n l_1c]⟩ w R := calls_of_fnV Tryz.func17 (by rw [e_transcript_Check]; exact h)
def anA_transcript_Check_1 : Ann := .leaf
def anB_transcript_Check_1 : Ann := .one (.two (.leaf) (.two (.two (.leaf) (.leaf)) (.leaf)))
def rf_transcript_Check_1 (l_52 : Option Addr) (l_52n : Nat) (l_52c : Nat) (t2_53 : Option Addr) (spend_54 : Option Addr) (t10_55 : Fn) (t10_55a : Array Value) (t10_55b : Array Value) (t11_56 : Int) (t11_57 : List UInt8) (t11_58 : Int) (t11_59 : Option Addr) (t11_59n : Nat) (t11_59c : Nat) (t11_60 : Int) (t11_61 : Bool) (l : Nat) (Kn Kr Kx : World → World → Prop) (w : World) : Prop :=
  al w 65 [.int .i64 0, .string ⟨⟨[]⟩⟩, .int .i64 0, .slice none 0 0, .int .i64 0, .bool false] fun p63 w64 =>
  stL w64 p63 0 [.int .i64 t11_56, .string ⟨⟨t11_57⟩⟩, .int .i64 t11_58, .slice t11_59 t11_59n t11_59c, .int .i64 t11_60, .bool t11_61] fun w65 =>
  Ext w w65 ∧ ∀ w62 : World, Upd l w65 w62 → (dr spend_54 fun p66 =>
  ∃ (x67 : Fn) (x67a : Array Value) (x67b : Array Value), World.cell? w62 p66 = some (.func x67 x67a x67b) ∧ (CallV Tryz.prog (.func x67 x67a x67b) [] w62 fun (e68 : Ending) (w69 : World) =>
  ∃ (x70 : Bool), e68 = .returned (.bool x70) ∧ (br (!x70) (dr t2_53 fun p72 =>
  stL w69 p72 0 [.int .i64 4] fun w71 =>
  Kr w62 w71) (∃ (x73 : Int), World.cell? w69 (p63.add 4) = some (.int .i64 x73) ∧ (br (decide ((16 : Int) ≤ x73)) (∃ (x74 : Option Addr) (x74n : Nat) (x74c : Nat), World.cell? w69 ((p63.add 0).add 3) = some (.slice x74 x74n x74c) ∧ (br (decide ((0 : Int) < ((x74n : Int)))) (dr t2_53 fun p76 =>
  stL w69 p76 0 [.int .i64 4] fun w75 =>
  Kr w62 w75) (Kn w62 w69))) (Kn w62 w69))))))
set_option maxRecDepth 100000 in
theorem er_transcript_Check_1 (base : Env) (l_52 : Option Addr) (l_52n : Nat) (l_52c : Nat) (t2_53 : Option Addr) (spend_54 : Option Addr) (t10_55 : Fn) (t10_55a : Array Value) (t10_55b : Array Value) (t11_56 : Int) (t11_57 : List UInt8) (t11_58 : Int) (t11_59 : Option Addr) (t11_59n : Nat) (t11_59c : Nat) (t11_60 : Int) (t11_61 : Bool) (l : Nat) (Kn Kr Kx : World → World → Prop) (w : World) : fragV Tryz.prog 39 anA_transcript_Check_1 anB_transcript_Check_1 (cdAt Tryz.f17 [1, 1, 1, 0, 1, 2, 5]) (cdAt Tryz.f17 [1, 1, 1, 0, 1, 2, 6]) l 0 Kn Kr Kx (updPs [11] [.agg ⟨[.int .i64 t11_56, .string ⟨⟨t11_57⟩⟩, .int .i64 t11_58, .slice t11_59 t11_59n t11_59c, .int .i64 t11_60, .bool t11_61]⟩] (upd (upd (upd (upd base 10 (.func t10_55 t10_55a t10_55b)) 4 (.pointer spend_54)) 2 (.pointer t2_53)) 0 (.slice l_52 l_52n l_52c))) w = rf_transcript_Check_1 l_52 l_52n l_52c t2_53 spend_54 t10_55 t10_55a t10_55b t11_56 t11_57 t11_58 t11_59 t11_59n t11_59c t11_60 t11_61 l Kn Kr Kx w := by kernel_rfl
theorem cd_transcript_Check_1 : cdAt Tryz.f17 [1, 1, 1, 0, 1, 2] = .rangeFunc (Operand.tmp 10) #[11] (cdAt Tryz.f17 [1, 1, 1, 0, 1, 2, 5]) (cdAt Tryz.f17 [1, 1, 1, 0, 1, 2, 6]) := by kernel_rfl
def anA_transcript_Check_2 : Ann := .leaf
def anB_transcript_Check_2 : Ann := .one (.two (.leaf) (.two (.leaf) (.two (.two (.leaf) (.leaf)) (.leaf))))
def rf_transcript_Check_2 (l_77 : Option Addr) (l_77n : Nat) (l_77c : Nat) (t2_78 : Option Addr) (t28_79 : Fn) (t28_79a : Array Value) (t28_79b : Array Value) (t29_80 : Int) (t29_81 : List UInt8) (t29_82 : Int) (t29_83 : Option Addr) (t29_83n : Nat) (t29_83c : Nat) (t29_84 : Int) (t29_85 : Bool) (l : Nat) (Kn Kr Kx : World → World → Prop) (w : World) : Prop :=
  al w 65 [.int .i64 0, .string ⟨⟨[]⟩⟩, .int .i64 0, .slice none 0 0, .int .i64 0, .bool false] fun p87 w88 =>
  stL w88 p87 0 [.int .i64 t29_80, .string ⟨⟨t29_81⟩⟩, .int .i64 t29_82, .slice t29_83 t29_83n t29_83c, .int .i64 t29_84, .bool t29_85] fun w89 =>
  Ext w w89 ∧ ∀ w86 : World, Upd l w89 w86 → (∃ (x90 : Int), World.cell? w86 (p87.add 0) = some (.int .i64 x90) ∧ (∃ (x91 : List UInt8), World.cell? w86 (p87.add 1) = some (.string ⟨⟨x91⟩⟩) ∧ (∃ (x92 : Int), World.cell? w86 (p87.add 2) = some (.int .i64 x92) ∧ (∃ (x93 : Option Addr) (x93n : Nat) (x93c : Nat), World.cell? w86 (p87.add 3) = some (.slice x93 x93n x93c) ∧ (∃ (x94 : Int), World.cell? w86 (p87.add 4) = some (.int .i64 x94) ∧ (∃ (x95 : Bool), World.cell? w86 (p87.add 5) = some (.bool x95) ∧ (Calls Tryz.prog 47 ⟨[.agg ⟨[.int .i64 x90, .string ⟨⟨x91⟩⟩, .int .i64 x92, .slice x93 x93n x93c, .int .i64 x94, .bool x95]⟩]⟩ w86 fun (e96 : Ending) (w97 : World) =>
  ∃ (x98 : Int), e96 = .returned (.int .i64 x98) ∧ (br (decide ((x98 : Int) ≠ 0)) (dr t2_78 fun p100 =>
  stL w97 p100 0 [.int .i64 x98] fun w99 =>
  Kr w86 w99) (Kn w86 w97)))))))))
set_option maxRecDepth 100000 in
theorem er_transcript_Check_2 (base : Env) (l_77 : Option Addr) (l_77n : Nat) (l_77c : Nat) (t2_78 : Option Addr) (t28_79 : Fn) (t28_79a : Array Value) (t28_79b : Array Value) (t29_80 : Int) (t29_81 : List UInt8) (t29_82 : Int) (t29_83 : Option Addr) (t29_83n : Nat) (t29_83c : Nat) (t29_84 : Int) (t29_85 : Bool) (l : Nat) (Kn Kr Kx : World → World → Prop) (w : World) : fragV Tryz.prog 39 anA_transcript_Check_2 anB_transcript_Check_2 (cdAt Tryz.f17 [1, 1, 1, 1, 0, 1, 2, 5]) (cdAt Tryz.f17 [1, 1, 1, 1, 0, 1, 2, 6]) l 0 Kn Kr Kx (updPs [29] [.agg ⟨[.int .i64 t29_80, .string ⟨⟨t29_81⟩⟩, .int .i64 t29_82, .slice t29_83 t29_83n t29_83c, .int .i64 t29_84, .bool t29_85]⟩] (upd (upd (upd base 28 (.func t28_79 t28_79a t28_79b)) 2 (.pointer t2_78)) 0 (.slice l_77 l_77n l_77c))) w = rf_transcript_Check_2 l_77 l_77n l_77c t2_78 t28_79 t28_79a t28_79b t29_80 t29_81 t29_82 t29_83 t29_83n t29_83c t29_84 t29_85 l Kn Kr Kx w := by kernel_rfl
theorem cd_transcript_Check_2 : cdAt Tryz.f17 [1, 1, 1, 1, 0, 1, 2] = .rangeFunc (Operand.tmp 28) #[29] (cdAt Tryz.f17 [1, 1, 1, 1, 0, 1, 2, 5]) (cdAt Tryz.f17 [1, 1, 1, 1, 0, 1, 2, 6]) := by kernel_rfl

def an_transcript_Depth : Ann := .two (.leaf) (.two (.two (.leaf) (.two (.two (.leaf) (.leaf)) (.leaf))) (.two (.leaf) (.two (.two (.leaf) (.one (.rf [2, 3, 4, 10] 0))) (.two (.leaf) (.leaf)))))
def sh_transcript_Depth (l_1 : Option Addr) (l_1n : Nat) (l_1c : Nat) (R : Ending → World → Prop) (w : World) : Prop :=
  Calls Tryz.prog 17 ⟨[.slice l_1 l_1n l_1c]⟩ w fun (e2 : Ending) (w3 : World) =>
  ∃ (x4 : Int), e2 = .returned (.int .i64 x4) ∧ (br (decide ((x4 : Int) ≠ 0)) (R (.returned (.tuple ⟨[.int .i64 0, .int .i64 1]⟩)) w3) (al w3 3 [.int .i64 0] fun p5 w6 =>
  stL w6 p5 0 [.int .i64 0] fun w7 =>
  Calls Tryz.prog 46 ⟨[.slice l_1 l_1n l_1c]⟩ w7 fun (e8 : Ending) (w9 : World) =>
  ∃ (x10 : Fn) (x10a : Array Value) (x10b : Array Value), e8 = .returned (.func x10 x10a x10b) ∧ (∀ base11 : Env, RFw Tryz.prog none 23 (cdAt Tryz.f18 [1, 1, 1, 0, 1, 2]) (upd (upd (upd (upd base11 10 (.func x10 x10a x10b)) 4 (.pointer (some p5))) 3 (.int .i64 0)) 2 (.int .i64 0)) [] w9 0 (fun ds12 w13 =>
  ∃ (x16 : Int), World.cell? w13 p5 = some (.int .i64 x16) ∧ (retD ds12 w13 fun w17 =>
  R (.returned (.tuple ⟨[.int .i64 x16, .int .i64 0]⟩)) w17)) (fun ds12 w13 =>
  retD ds12 w13 fun w18 =>
  R (.returned (.tuple ⟨[.int .i64 0, .int .i64 0]⟩)) w18) (fun ds12 w13 =>
  ∃ (x14 : Int), World.cell? w13 p5 = some (.int .i64 x14) ∧ (retD ds12 w13 fun w15 =>
  R (.returned (.tuple ⟨[.int .i64 x14, .int .i64 0]⟩)) w15)))))
set_option maxRecDepth 100000 in
theorem e_transcript_Depth (l_1 : Option Addr) (l_1n : Nat) (l_1c : Nat) (R : Ending → World → Prop) (w : World) : fnV Tryz.prog Tryz.f18 an_transcript_Depth [.slice l_1 l_1n l_1c] R w = sh_transcript_Depth l_1 l_1n l_1c R w := by kernel_rfl
theorem c_transcript_Depth {l_1 : Option Addr} {l_1n : Nat} {l_1c : Nat} {R : Ending → World → Prop} {w : World} (h : sh_transcript_Depth l_1 l_1n l_1c R w) : Calls Tryz.prog F_transcript_Depth ⟨[.slice l_1 l_1n l_1c]⟩ w R := calls_of_fnV Tryz.func18 (by rw [e_transcript_Depth]; exact h)
def anA_transcript_Depth_1 : Ann := .leaf
def anB_transcript_Depth_1 : Ann := .one (.two (.leaf) (.two (.leaf) (.leaf)))
def rf_transcript_Depth_1 (t2_19 : Int) (t3_20 : Int) (n_21 : Option Addr) (t10_22 : Fn) (t10_22a : Array Value) (t10_22b : Array Value) (t11_23 : Int) (t11_24 : List UInt8) (t11_25 : Int) (t11_26 : Option Addr) (t11_26n : Nat) (t11_26c : Nat) (t11_27 : Int) (t11_28 : Bool) (l : Nat) (Kn Kr Kx : World → World → Prop) (w : World) : Prop :=
  al w 65 [.int .i64 0, .string ⟨⟨[]⟩⟩, .int .i64 0, .slice none 0 0, .int .i64 0, .bool false] fun p30 w31 =>
  stL w31 p30 0 [.int .i64 t11_23, .string ⟨⟨t11_24⟩⟩, .int .i64 t11_25, .slice t11_26 t11_26n t11_26c, .int .i64 t11_27, .bool t11_28] fun w32 =>
  Ext w w32 ∧ ∀ w29 : World, Upd l w32 w29 → (∃ (x33 : Option Addr) (x33n : Nat) (x33c : Nat), World.cell? w29 ((p30.add 0).add 3) = some (.slice x33 x33n x33c) ∧ (br (decide ((0 : Int) < ((x33n : Int)))) (dr n_21 fun p34 =>
  ∃ (x35 : Int), World.cell? w29 p34 = some (.int .i64 x35) ∧ (∃ (x36 : Int), World.cell? w29 (p30.add 4) = some (.int .i64 x36) ∧ (dr n_21 fun p38 =>
  stL w29 p38 0 [.int .i64 ((max x35 (IntKind.i64.wrap (x36 + 1))))] fun w37 =>
  Kn w29 w37))) (Kn w29 w29)))
set_option maxRecDepth 100000 in
theorem er_transcript_Depth_1 (base : Env) (t2_19 : Int) (t3_20 : Int) (n_21 : Option Addr) (t10_22 : Fn) (t10_22a : Array Value) (t10_22b : Array Value) (t11_23 : Int) (t11_24 : List UInt8) (t11_25 : Int) (t11_26 : Option Addr) (t11_26n : Nat) (t11_26c : Nat) (t11_27 : Int) (t11_28 : Bool) (l : Nat) (Kn Kr Kx : World → World → Prop) (w : World) : fragV Tryz.prog 23 anA_transcript_Depth_1 anB_transcript_Depth_1 (cdAt Tryz.f18 [1, 1, 1, 0, 1, 2, 5]) (cdAt Tryz.f18 [1, 1, 1, 0, 1, 2, 6]) l 0 Kn Kr Kx (updPs [11] [.agg ⟨[.int .i64 t11_23, .string ⟨⟨t11_24⟩⟩, .int .i64 t11_25, .slice t11_26 t11_26n t11_26c, .int .i64 t11_27, .bool t11_28]⟩] (upd (upd (upd (upd base 10 (.func t10_22 t10_22a t10_22b)) 4 (.pointer n_21)) 3 (.int .i64 t3_20)) 2 (.int .i64 t2_19))) w = rf_transcript_Depth_1 t2_19 t3_20 n_21 t10_22 t10_22a t10_22b t11_23 t11_24 t11_25 t11_26 t11_26n t11_26c t11_27 t11_28 l Kn Kr Kx w := by kernel_rfl
theorem cd_transcript_Depth_1 : cdAt Tryz.f18 [1, 1, 1, 0, 1, 2] = .rangeFunc (Operand.tmp 10) #[11] (cdAt Tryz.f18 [1, 1, 1, 0, 1, 2, 5]) (cdAt Tryz.f18 [1, 1, 1, 0, 1, 2, 6]) := by kernel_rfl

def an_transcript_Characters : Ann := .two (.leaf) (.two (.two (.leaf) (.two (.two (.leaf) (.leaf)) (.leaf))) (.two (.leaf) (.two (.two (.leaf) (.one (.rf [2, 3, 4, 10] 0))) (.two (.leaf) (.leaf)))))
def sh_transcript_Characters (l_1 : Option Addr) (l_1n : Nat) (l_1c : Nat) (R : Ending → World → Prop) (w : World) : Prop :=
  Calls Tryz.prog 17 ⟨[.slice l_1 l_1n l_1c]⟩ w fun (e2 : Ending) (w3 : World) =>
  ∃ (x4 : Int), e2 = .returned (.int .i64 x4) ∧ (br (decide ((x4 : Int) ≠ 0)) (R (.returned (.tuple ⟨[.string ⟨⟨[]⟩⟩, .int .i64 1]⟩)) w3) (al w3 70 [.pointer none, .slice none 0 0] fun p5 w6 =>
  Calls Tryz.prog 46 ⟨[.slice l_1 l_1n l_1c]⟩ w6 fun (e7 : Ending) (w8 : World) =>
  ∃ (x9 : Fn) (x9a : Array Value) (x9b : Array Value), e7 = .returned (.func x9 x9a x9b) ∧ (∀ base10 : Env, RFw Tryz.prog none 21 (cdAt Tryz.f19 [1, 1, 1, 0, 1, 2]) (upd (upd (upd (upd base10 10 (.func x9 x9a x9b)) 4 (.pointer (some p5))) 3 (.int .i64 0)) 2 (.string ⟨⟨[]⟩⟩)) [] w8 0 (fun ds11 w12 =>
  Calls Tryz.prog 49 ⟨[.pointer (some p5)]⟩ w12 fun (e17 : Ending) (w18 : World) =>
  ∃ (x19 : List UInt8), e17 = .returned (.string ⟨⟨x19⟩⟩) ∧ (retD ds11 w18 fun w20 =>
  R (.returned (.tuple ⟨[.string ⟨⟨x19⟩⟩, .int .i64 0]⟩)) w20)) (fun ds11 w12 =>
  retD ds11 w12 fun w21 =>
  R (.returned (.tuple ⟨[.string ⟨⟨[]⟩⟩, .int .i64 0]⟩)) w21) (fun ds11 w12 =>
  Calls Tryz.prog 49 ⟨[.pointer (some p5)]⟩ w12 fun (e13 : Ending) (w14 : World) =>
  ∃ (x15 : List UInt8), e13 = .returned (.string ⟨⟨x15⟩⟩) ∧ (retD ds11 w14 fun w16 =>
  R (.returned (.tuple ⟨[.string ⟨⟨x15⟩⟩, .int .i64 0]⟩)) w16)))))
set_option maxRecDepth 100000 in
theorem e_transcript_Characters (l_1 : Option Addr) (l_1n : Nat) (l_1c : Nat) (R : Ending → World → Prop) (w : World) : fnV Tryz.prog Tryz.f19 an_transcript_Characters [.slice l_1 l_1n l_1c] R w = sh_transcript_Characters l_1 l_1n l_1c R w := by kernel_rfl
theorem c_transcript_Characters {l_1 : Option Addr} {l_1n : Nat} {l_1c : Nat} {R : Ending → World → Prop} {w : World} (h : sh_transcript_Characters l_1 l_1n l_1c R w) : Calls Tryz.prog F_transcript_Characters ⟨[.slice l_1 l_1n l_1c]⟩ w R := calls_of_fnV Tryz.func19 (by rw [e_transcript_Characters]; exact h)
def anA_transcript_Characters_1 : Ann := .leaf
def anB_transcript_Characters_1 : Ann := .one (.two (.leaf) (.two (.leaf) (.leaf)))
def rf_transcript_Characters_1 (t2_22 : List UInt8) (t3_23 : Int) (out_24 : Option Addr) (t10_25 : Fn) (t10_25a : Array Value) (t10_25b : Array Value) (t11_26 : Int) (t11_27 : List UInt8) (t11_28 : Int) (t11_29 : Option Addr) (t11_29n : Nat) (t11_29c : Nat) (t11_30 : Int) (t11_31 : Bool) (l : Nat) (Kn Kr Kx : World → World → Prop) (w : World) : Prop :=
  al w 65 [.int .i64 0, .string ⟨⟨[]⟩⟩, .int .i64 0, .slice none 0 0, .int .i64 0, .bool false] fun p33 w34 =>
  stL w34 p33 0 [.int .i64 t11_26, .string ⟨⟨t11_27⟩⟩, .int .i64 t11_28, .slice t11_29 t11_29n t11_29c, .int .i64 t11_30, .bool t11_31] fun w35 =>
  Ext w w35 ∧ ∀ w32 : World, Upd l w35 w32 → (∃ (x36 : Int), World.cell? w32 ((p33.add 0).add 0) = some (.int .i64 x36) ∧ (br (decide ((x36 : Int) = 1)) (∃ (x37 : List UInt8), World.cell? w32 ((p33.add 0).add 1) = some (.string ⟨⟨x37⟩⟩) ∧ (Calls Tryz.prog 48 ⟨[.pointer out_24, .string ⟨⟨x37⟩⟩]⟩ w32 fun (e38 : Ending) (w39 : World) =>
  ∃ (x40 : Int) (x41 : Value), e38 = .returned (.tuple ⟨[.int .i64 x40, x41]⟩) ∧ (Kn w32 w39))) (Kn w32 w32)))
set_option maxRecDepth 100000 in
theorem er_transcript_Characters_1 (base : Env) (t2_22 : List UInt8) (t3_23 : Int) (out_24 : Option Addr) (t10_25 : Fn) (t10_25a : Array Value) (t10_25b : Array Value) (t11_26 : Int) (t11_27 : List UInt8) (t11_28 : Int) (t11_29 : Option Addr) (t11_29n : Nat) (t11_29c : Nat) (t11_30 : Int) (t11_31 : Bool) (l : Nat) (Kn Kr Kx : World → World → Prop) (w : World) : fragV Tryz.prog 21 anA_transcript_Characters_1 anB_transcript_Characters_1 (cdAt Tryz.f19 [1, 1, 1, 0, 1, 2, 5]) (cdAt Tryz.f19 [1, 1, 1, 0, 1, 2, 6]) l 0 Kn Kr Kx (updPs [11] [.agg ⟨[.int .i64 t11_26, .string ⟨⟨t11_27⟩⟩, .int .i64 t11_28, .slice t11_29 t11_29n t11_29c, .int .i64 t11_30, .bool t11_31]⟩] (upd (upd (upd (upd base 10 (.func t10_25 t10_25a t10_25b)) 4 (.pointer out_24)) 3 (.int .i64 t3_23)) 2 (.string ⟨⟨t2_22⟩⟩))) w = rf_transcript_Characters_1 t2_22 t3_23 out_24 t10_25 t10_25a t10_25b t11_26 t11_27 t11_28 t11_29 t11_29n t11_29c t11_30 t11_31 l Kn Kr Kx w := by kernel_rfl
theorem cd_transcript_Characters_1 : cdAt Tryz.f19 [1, 1, 1, 0, 1, 2] = .rangeFunc (Operand.tmp 10) #[11] (cdAt Tryz.f19 [1, 1, 1, 0, 1, 2, 5]) (cdAt Tryz.f19 [1, 1, 1, 0, 1, 2, 6]) := by kernel_rfl

def an_slices_ContainsFunc_of_api_Node_api_Node : Ann := .two (.leaf) (.two (.leaf) (.leaf))
def sh_slices_ContainsFunc_of_api_Node_api_Node (s_1 : Option Addr) (s_1n : Nat) (s_1c : Nat) (f_2 : Fn) (f_2a : Array Value) (f_2b : Array Value) (R : Ending → World → Prop) (w : World) : Prop :=
  Calls Tryz.prog 50 ⟨[.slice s_1 s_1n s_1c, .func f_2 f_2a f_2b]⟩ w fun (e3 : Ending) (w4 : World) =>
  ∃ (x5 : Int), e3 = .returned (.int .i64 x5) ∧ (R (.returned (.bool (decide ((0 : Int) ≤ x5)))) w4)
set_option maxRecDepth 100000 in
theorem e_slices_ContainsFunc_of_api_Node_api_Node (s_1 : Option Addr) (s_1n : Nat) (s_1c : Nat) (f_2 : Fn) (f_2a : Array Value) (f_2b : Array Value) (R : Ending → World → Prop) (w : World) : fnV Tryz.prog Tryz.f20 an_slices_ContainsFunc_of_api_Node_api_Node [.slice s_1 s_1n s_1c, .func f_2 f_2a f_2b] R w = sh_slices_ContainsFunc_of_api_Node_api_Node s_1 s_1n s_1c f_2 f_2a f_2b R w := by kernel_rfl
theorem c_slices_ContainsFunc_of_api_Node_api_Node {s_1 : Option Addr} {s_1n : Nat} {s_1c : Nat} {f_2 : Fn} {f_2a : Array Value} {f_2b : Array Value} {R : Ending → World → Prop} {w : World} (h : sh_slices_ContainsFunc_of_api_Node_api_Node s_1 s_1n s_1c f_2 f_2a f_2b R w) : Calls Tryz.prog F_slices_ContainsFunc_of_api_Node_api_Node ⟨[.slice s_1 s_1n s_1c, .func f_2 f_2a f_2b]⟩ w R := calls_of_fnV Tryz.func20 (by rw [e_slices_ContainsFunc_of_api_Node_api_Node]; exact h)

def an_law10_TranscriptWraps_1 : Ann := .two (.leaf) (.two (.leaf) (.leaf))
def sh_law10_TranscriptWraps_1 (y_1 : Int) (y_2 : List UInt8) (y_3 : Int) (y_4 : Option Addr) (y_4n : Nat) (y_4c : Nat) (R : Ending → World → Prop) (w : World) : Prop :=
  al w 35 [.int .i64 y_1, .string ⟨⟨y_2⟩⟩, .int .i64 y_3, .slice y_4 y_4n y_4c] fun p5 w6 =>
  ∃ (x7 : Int), World.cell? w6 (p5.add 0) = some (.int .i64 x7) ∧ (R (.returned (.bool (decide ((x7 : Int) = 4)))) w6)
set_option maxRecDepth 100000 in
theorem e_law10_TranscriptWraps_1 (y_1 : Int) (y_2 : List UInt8) (y_3 : Int) (y_4 : Option Addr) (y_4n : Nat) (y_4c : Nat) (R : Ending → World → Prop) (w : World) : fnV Tryz.prog Tryz.f21 an_law10_TranscriptWraps_1 [.agg ⟨[.int .i64 y_1, .string ⟨⟨y_2⟩⟩, .int .i64 y_3, .slice y_4 y_4n y_4c]⟩] R w = sh_law10_TranscriptWraps_1 y_1 y_2 y_3 y_4 y_4n y_4c R w := by kernel_rfl
theorem c_law10_TranscriptWraps_1 {y_1 : Int} {y_2 : List UInt8} {y_3 : Int} {y_4 : Option Addr} {y_4n : Nat} {y_4c : Nat} {R : Ending → World → Prop} {w : World} (h : sh_law10_TranscriptWraps_1 y_1 y_2 y_3 y_4 y_4n y_4c R w) : Calls Tryz.prog F_law10_TranscriptWraps_1 ⟨[.agg ⟨[.int .i64 y_1, .string ⟨⟨y_2⟩⟩, .int .i64 y_3, .slice y_4 y_4n y_4c]⟩]⟩ w R := calls_of_fnV Tryz.func21 (by rw [e_law10_TranscriptWraps_1]; exact h)

def an_ref10_Great : Ann := .two (.leaf) (.two (.cut 32640 [(14, .one (.bool))] (.leaf) (.two (.two (.leaf) (.two (.leaf) (.leaf))) (.leaf))) (.two (.two (.leaf) (.one (.loop 1099377410116 [(6, .one (.int .i64))] (.two (.two (.leaf) (.two (.leaf) (.leaf))) (.two (.one (.two (.leaf) (.two (.two (.leaf) (.leaf)) (.leaf)))) (.leaf)))))) (.two (.leaf) (.leaf))))
def sh_ref10_Great (l_1 : Option Addr) (l_1n : Nat) (l_1c : Nat) (R : Ending → World → Prop) (w : World) : Prop :=
  ∀ (K2 : Bool → World → Prop), (∀ (t14_3 : Bool) (w4 : World), (∀ _ : Env, (br t14_3 (Calls Tryz.prog 51 ⟨[.slice l_1 l_1n l_1c, .int .i64 20, .int .i64 40]⟩ w4 fun (e5 : Ending) (w6 : World) =>
  ∃ (x7 : Int) (x8 : Int) (x9 : Bool), e5 = .returned (.tuple ⟨[.int .i64 x7, .int .i64 x8, .bool x9]⟩) ∧ (br (!x9) (R (.returned (.bool true)) w6) (Calls Tryz.prog 52 ⟨[.slice l_1 l_1n l_1c, .int .i64 20]⟩ w6 fun (e10 : Ending) (w11 : World) =>
  ∃ (x12 : Bool), e10 = .returned (.bool x12) ∧ (R (.returned (.bool x12)) w11)))) (∃ (I13 : Int → World → Nat → Prop), (∃ m17 : Nat, I13 0 w4 m17) ∧ ∀ (i_14 : Int) (w15 : World) (m16 : Nat), I13 i_14 w15 m16 → ∀ _ : Env, (br (decide ((i_14 : Int) < ((l_1n : Int)))) (idx l_1 l_1n i_14 4 fun p18 =>
  ∃ (x19 : Option Addr) (x19n : Nat) (x19c : Nat), World.cell? w15 (p18.add 3) = some (.slice x19 x19n x19c) ∧ (br (decide ((0 : Int) < ((x19n : Int)))) (R (.returned (.bool true)) w15) (∃ m20 : Nat, m20 < m16 ∧ I13 (IntKind.i64.wrap (i_14 + 1)) w15 m20))) (Calls Tryz.prog 52 ⟨[.slice l_1 l_1n l_1c, .int .i64 20]⟩ w15 fun (e21 : Ending) (w22 : World) =>
  ∃ (x23 : Bool), e21 = .returned (.bool x23) ∧ (R (.returned (.bool x23)) w22)))))) → K2 t14_3 w4) → (br (decide ((((l_1n : Int)) : Int) ≤ 4096)) (K2 true w) (K2 (decide ((4100 : Int) < ((l_1n : Int)))) w))
set_option maxRecDepth 100000 in
theorem e_ref10_Great (l_1 : Option Addr) (l_1n : Nat) (l_1c : Nat) (R : Ending → World → Prop) (w : World) : fnV Tryz.prog Tryz.f22 an_ref10_Great [.slice l_1 l_1n l_1c] R w = sh_ref10_Great l_1 l_1n l_1c R w := by kernel_rfl
theorem c_ref10_Great {l_1 : Option Addr} {l_1n : Nat} {l_1c : Nat} {R : Ending → World → Prop} {w : World} (h : sh_ref10_Great l_1 l_1n l_1c R w) : Calls Tryz.prog F_ref10_Great ⟨[.slice l_1 l_1n l_1c]⟩ w R := calls_of_fnV Tryz.func22 (by rw [e_ref10_Great]; exact h)

def an_ref10_Check : Ann := .two (.leaf) (.two (.two (.leaf) (.two (.leaf) (.two (.two (.leaf) (.leaf)) (.leaf)))) (.two (.two (.leaf) (.two (.leaf) (.two (.two (.leaf) (.leaf)) (.leaf)))) (.two (.two (.leaf) (.two (.two (.leaf) (.leaf)) (.leaf))) (.two (.leaf) (.leaf)))))
def sh_ref10_Check (l_1 : Option Addr) (l_1n : Nat) (l_1c : Nat) (R : Ending → World → Prop) (w : World) : Prop :=
  Calls Tryz.prog 51 ⟨[.slice l_1 l_1n l_1c, .int .i64 16, .int .i64 4096]⟩ w fun (e2 : Ending) (w3 : World) =>
  ∃ (x4 : Int) (x5 : Int) (x6 : Bool), e2 = .returned (.tuple ⟨[.int .i64 x4, .int .i64 x5, .bool x6]⟩) ∧ (br (!x6) (R (.returned (.int .i64 4)) w3) (Calls Tryz.prog 53 ⟨[.slice l_1 l_1n l_1c, .bool false]⟩ w3 fun (e7 : Ending) (w8 : World) =>
  ∃ (x9 : Int), e7 = .returned (.int .i64 x9) ∧ (br (decide ((x9 : Int) ≠ 0)) (R (.returned (.int .i64 x9)) w8) (Calls Tryz.prog 54 ⟨[.slice l_1 l_1n l_1c]⟩ w8 fun (e10 : Ending) (w11 : World) =>
  ∃ (x12 : List UInt8), e10 = .returned (.string ⟨⟨x12⟩⟩) ∧ (br (decide ((65536 : Int) < ((List.length x12 : Int)))) (R (.returned (.int .i64 4)) w11) (R (.returned (.int .i64 0)) w11))))))
set_option maxRecDepth 100000 in
theorem e_ref10_Check (l_1 : Option Addr) (l_1n : Nat) (l_1c : Nat) (R : Ending → World → Prop) (w : World) : fnV Tryz.prog Tryz.f23 an_ref10_Check [.slice l_1 l_1n l_1c] R w = sh_ref10_Check l_1 l_1n l_1c R w := by kernel_rfl
theorem c_ref10_Check {l_1 : Option Addr} {l_1n : Nat} {l_1c : Nat} {R : Ending → World → Prop} {w : World} (h : sh_ref10_Check l_1 l_1n l_1c R w) : Calls Tryz.prog F_ref10_Check ⟨[.slice l_1 l_1n l_1c]⟩ w R := calls_of_fnV Tryz.func23 (by rw [e_ref10_Check]; exact h)

def an_transcript_Merge : Ann := .two (.leaf) (.two (.leaf) (.two (.two (.leaf) (.one (.loop 288230376151711336 [(3, .one (.slice)), (9, .one (.int .i64))] (.two (.leaf) (.two (.two (.leaf) (.leaf)) (.two (.one (.two (.leaf) (.cut 2088960 [] (.two (.leaf) (.two (.leaf) (.leaf))) (.two (.two (.leaf) (.cut 549739036672 [(38, .one (.bool))] (.leaf) (.two (.two (.leaf) (.leaf)) (.leaf)))) (.two (.leaf) (.leaf)))))) (.leaf))))))) (.two (.leaf) (.leaf))))
def sh_transcript_Merge (l_1 : Option Addr) (l_1n : Nat) (l_1c : Nat) (R : Ending → World → Prop) (w : World) : Prop :=
  ∃ (I2 : Option Addr → Nat → Nat → Int → World → Nat → Prop), (∃ m7 : Nat, I2 none 0 0 0 w m7) ∧ ∀ (out_3 : Option Addr) (out_3n : Nat) (out_3c : Nat) (t9_4 : Int) (w5 : World) (m6 : Nat), I2 out_3 out_3n out_3c t9_4 w5 m6 → ∀ _ : Env, (br (decide ((t9_4 : Int) < ((l_1n : Int)))) (idx l_1 l_1n t9_4 4 fun p8 =>
  ∃ (x9 : Int), World.cell? w5 (p8.add 0) = some (.int .i64 x9) ∧ (∃ (x10 : List UInt8), World.cell? w5 (p8.add 1) = some (.string ⟨⟨x10⟩⟩) ∧ (∃ (x11 : Int), World.cell? w5 (p8.add 2) = some (.int .i64 x11) ∧ (∃ (x12 : Option Addr) (x12n : Nat) (x12c : Nat), World.cell? w5 (p8.add 3) = some (.slice x12 x12n x12c) ∧ (al w5 35 [.int .i64 0, .string ⟨⟨[]⟩⟩, .int .i64 0, .slice none 0 0] fun p13 w14 =>
  stL w14 p13 0 [.int .i64 x9, .string ⟨⟨x10⟩⟩, .int .i64 x11, .slice x12 x12n x12c] fun w15 =>
  ∀ (K16 : World → Prop), (∀  (w17 : World), (∀ _ : Env, (∀ (K18 : Bool → World → Prop), (∀ (t38_19 : Bool) (w20 : World), (∀ _ : Env, (br t38_19 (drw w20 fun w21 =>
  idx out_3 out_3n (IntKind.i64.wrap (((out_3n : Int)) - 1)) 4 fun p22 =>
  ∃ (x23 : List UInt8), World.cell? w21 (p22.add 1) = some (.string ⟨⟨x23⟩⟩) ∧ (∃ (x24 : List UInt8), World.cell? w21 (p13.add 1) = some (.string ⟨⟨x24⟩⟩) ∧ (sadd x23 x24 fun s25 =>
  idx out_3 out_3n (IntKind.i64.wrap (((out_3n : Int)) - 1)) 4 fun p26 =>
  (stL w21 (p26.add 1) 0 [.string ⟨⟨s25⟩⟩] fun w27 =>
  ∃ m28 : Nat, m28 < m6 ∧ I2 out_3 out_3n out_3c (IntKind.i64.wrap (t9_4 + 1)) w27 m28) ∧ True))) (∃ (x29 : Option Addr) (x29n : Nat) (x29c : Nat), World.cell? w20 (p13.add 3) = some (.slice x29 x29n x29c) ∧ (Calls Tryz.prog 24 ⟨[.slice x29 x29n x29c]⟩ w20 fun (e30 : Ending) (w31 : World) =>
  ∃ (x32 : Option Addr) (x32n : Nat) (x32c : Nat), e30 = .returned (.slice x32 x32n x32c) ∧ (stL w31 (p13.add 3) 0 [.slice x32 x32n x32c] fun w33 =>
  ∃ (x34 : Int), World.cell? w33 (p13.add 0) = some (.int .i64 x34) ∧ (∃ (x35 : List UInt8), World.cell? w33 (p13.add 1) = some (.string ⟨⟨x35⟩⟩) ∧ (∃ (x36 : Int), World.cell? w33 (p13.add 2) = some (.int .i64 x36) ∧ (∃ (x37 : Option Addr) (x37n : Nat) (x37c : Nat), World.cell? w33 (p13.add 3) = some (.slice x37 x37n x37c) ∧ (al w33 35 [.int .i64 x34, .string ⟨⟨x35⟩⟩, .int .i64 x36, .slice x37 x37n x37c] fun p38 w39 =>
  app Tryz.prog [24, 24] 24 (.slice out_3 out_3n out_3c) (.slice (some p38) 1 1) w39 fun a40 a40n a40c w41 =>
  ∃ m42 : Nat, m42 < m6 ∧ I2 a40 a40n a40c (IntKind.i64.wrap (t9_4 + 1)) w41 m42))))))))) → K18 t38_19 w20) → (br (decide ((0 : Int) ≤ (IntKind.i64.wrap (((out_3n : Int)) - 1)))) (∃ (x43 : Int), World.cell? w17 (p13.add 0) = some (.int .i64 x43) ∧ (br (decide ((x43 : Int) = 1)) (idx out_3 out_3n (IntKind.i64.wrap (((out_3n : Int)) - 1)) 4 fun p44 =>
  ∃ (x45 : Int), World.cell? w17 (p44.add 0) = some (.int .i64 x45) ∧ (K18 (decide ((x45 : Int) = 1)) w17)) (K18 false w17))) (K18 false w17)))) → K16 w17) → (∃ (x46 : Int), World.cell? w15 (p13.add 0) = some (.int .i64 x46) ∧ (br (decide ((x46 : Int) = 1)) (∃ (x47 : List UInt8), World.cell? w15 (p13.add 1) = some (.string ⟨⟨x47⟩⟩) ∧ (br (decide ((x47 : List UInt8) = ([]))) (∃ m48 : Nat, m48 < m6 ∧ I2 out_3 out_3n out_3c (IntKind.i64.wrap (t9_4 + 1)) w15 m48) (K16 w15))) (K16 w15)))))))) (R (.returned (.slice out_3 out_3n out_3c)) w5))
set_option maxRecDepth 100000 in
theorem e_transcript_Merge (l_1 : Option Addr) (l_1n : Nat) (l_1c : Nat) (R : Ending → World → Prop) (w : World) : fnV Tryz.prog Tryz.f24 an_transcript_Merge [.slice l_1 l_1n l_1c] R w = sh_transcript_Merge l_1 l_1n l_1c R w := by kernel_rfl
theorem c_transcript_Merge {l_1 : Option Addr} {l_1n : Nat} {l_1c : Nat} {R : Ending → World → Prop} {w : World} (h : sh_transcript_Merge l_1 l_1n l_1c R w) : Calls Tryz.prog F_transcript_Merge ⟨[.slice l_1 l_1n l_1c]⟩ w R := calls_of_fnV Tryz.func24 (by rw [e_transcript_Merge]; exact h)

def an_law10_nested : Ann := .two (.leaf) (.two (.leaf) (.leaf))
def sh_law10_nested (l_1 : Option Addr) (l_1n : Nat) (l_1c : Nat) (R : Ending → World → Prop) (w : World) : Prop :=
  Calls Tryz.prog 20 ⟨[.slice l_1 l_1n l_1c, .func (.func 55) #[] #[]]⟩ w fun (e2 : Ending) (w3 : World) =>
  ∃ (x4 : Bool), e2 = .returned (.bool x4) ∧ (R (.returned (.bool x4)) w3)
set_option maxRecDepth 100000 in
theorem e_law10_nested (l_1 : Option Addr) (l_1n : Nat) (l_1c : Nat) (R : Ending → World → Prop) (w : World) : fnV Tryz.prog Tryz.f25 an_law10_nested [.slice l_1 l_1n l_1c] R w = sh_law10_nested l_1 l_1n l_1c R w := by kernel_rfl
theorem c_law10_nested {l_1 : Option Addr} {l_1n : Nat} {l_1c : Nat} {R : Ending → World → Prop} {w : World} (h : sh_law10_nested l_1 l_1n l_1c R w) : Calls Tryz.prog F_law10_nested ⟨[.slice l_1 l_1n l_1c]⟩ w R := calls_of_fnV Tryz.func25 (by rw [e_law10_nested]; exact h)

def an_law10_plain : Ann := .two (.leaf) (.two (.leaf) (.two (.two (.leaf) (.one (.loop 33554216 [(3, .one (.str)), (8, .one (.int .i64))] (.two (.leaf) (.two (.two (.leaf) (.leaf)) (.two (.one (.two (.leaf) (.cut 520200 [(3, .one (.str))] (.two (.leaf) (.two (.leaf) (.leaf))) (.leaf)))) (.leaf))))))) (.two (.leaf) (.leaf))))
def sh_law10_plain (l_1 : Option Addr) (l_1n : Nat) (l_1c : Nat) (R : Ending → World → Prop) (w : World) : Prop :=
  ∃ (I2 : List UInt8 → Int → World → Nat → Prop), (∃ m7 : Nat, I2 ([]) 0 w m7) ∧ ∀ (out_3 : List UInt8) (t8_4 : Int) (w5 : World) (m6 : Nat), I2 out_3 t8_4 w5 m6 → ∀ _ : Env, (br (decide ((t8_4 : Int) < ((l_1n : Int)))) (idx l_1 l_1n t8_4 4 fun p8 =>
  ∃ (x9 : Int), World.cell? w5 (p8.add 0) = some (.int .i64 x9) ∧ (∃ (x10 : List UInt8), World.cell? w5 (p8.add 1) = some (.string ⟨⟨x10⟩⟩) ∧ (∃ (x11 : Int), World.cell? w5 (p8.add 2) = some (.int .i64 x11) ∧ (∃ (x12 : Option Addr) (x12n : Nat) (x12c : Nat), World.cell? w5 (p8.add 3) = some (.slice x12 x12n x12c) ∧ (al w5 35 [.int .i64 0, .string ⟨⟨[]⟩⟩, .int .i64 0, .slice none 0 0] fun p13 w14 =>
  stL w14 p13 0 [.int .i64 x9, .string ⟨⟨x10⟩⟩, .int .i64 x11, .slice x12 x12n x12c] fun w15 =>
  ∀ (K16 : List UInt8 → World → Prop), (∀ (out_17 : List UInt8) (w18 : World), (∀ _ : Env, (∃ (x19 : Option Addr) (x19n : Nat) (x19c : Nat), World.cell? w18 (p13.add 3) = some (.slice x19 x19n x19c) ∧ (Calls Tryz.prog 26 ⟨[.slice x19 x19n x19c]⟩ w18 fun (e20 : Ending) (w21 : World) =>
  ∃ (x22 : List UInt8), e20 = .returned (.string ⟨⟨x22⟩⟩) ∧ (sadd out_17 x22 fun s23 =>
  ∃ m24 : Nat, m24 < m6 ∧ I2 s23 (IntKind.i64.wrap (t8_4 + 1)) w21 m24)))) → K16 out_17 w18) → (∃ (x25 : Int), World.cell? w15 (p13.add 0) = some (.int .i64 x25) ∧ (br (decide ((x25 : Int) = 1)) (∃ (x26 : List UInt8), World.cell? w15 (p13.add 1) = some (.string ⟨⟨x26⟩⟩) ∧ (sadd out_3 x26 fun s27 =>
  K16 s27 w15)) (K16 out_3 w15)))))))) (R (.returned (.string ⟨⟨out_3⟩⟩)) w5))
set_option maxRecDepth 100000 in
theorem e_law10_plain (l_1 : Option Addr) (l_1n : Nat) (l_1c : Nat) (R : Ending → World → Prop) (w : World) : fnV Tryz.prog Tryz.f26 an_law10_plain [.slice l_1 l_1n l_1c] R w = sh_law10_plain l_1 l_1n l_1c R w := by kernel_rfl
theorem c_law10_plain {l_1 : Option Addr} {l_1n : Nat} {l_1c : Nat} {R : Ending → World → Prop} {w : World} (h : sh_law10_plain l_1 l_1n l_1c R w) : Calls Tryz.prog F_law10_plain ⟨[.slice l_1 l_1n l_1c]⟩ w R := calls_of_fnV Tryz.func26 (by rw [e_law10_plain]; exact h)

def an_law10_merged : Ann := .two (.leaf) (.two (.two (.leaf) (.one (.loop 1099511627676 [(7, .one (.int .i64))] (.two (.leaf) (.two (.two (.leaf) (.leaf)) (.two (.one (.two (.leaf) (.two (.leaf) (.two (.two (.leaf) (.leaf)) (.leaf))))) (.leaf))))))) (.two (.leaf) (.leaf)))
def sh_law10_merged (l_1 : Option Addr) (l_1n : Nat) (l_1c : Nat) (R : Ending → World → Prop) (w : World) : Prop :=
  ∃ (I2 : Int → World → Nat → Prop), (∃ m6 : Nat, I2 0 w m6) ∧ ∀ (t7_3 : Int) (w4 : World) (m5 : Nat), I2 t7_3 w4 m5 → ∀ _ : Env, (br (decide ((t7_3 : Int) < ((l_1n : Int)))) (idx l_1 l_1n t7_3 4 fun p7 =>
  ∃ (x8 : Int), World.cell? w4 (p7.add 0) = some (.int .i64 x8) ∧ (∃ (x9 : List UInt8), World.cell? w4 (p7.add 1) = some (.string ⟨⟨x9⟩⟩) ∧ (∃ (x10 : Int), World.cell? w4 (p7.add 2) = some (.int .i64 x10) ∧ (∃ (x11 : Option Addr) (x11n : Nat) (x11c : Nat), World.cell? w4 (p7.add 3) = some (.slice x11 x11n x11c) ∧ (al w4 35 [.int .i64 0, .string ⟨⟨[]⟩⟩, .int .i64 0, .slice none 0 0] fun p12 w13 =>
  stL w13 p12 0 [.int .i64 x8, .string ⟨⟨x9⟩⟩, .int .i64 x10, .slice x11 x11n x11c] fun w14 =>
  ∃ (x15 : Int), World.cell? w14 (p12.add 0) = some (.int .i64 x15) ∧ (br (decide ((x15 : Int) = 1)) (∃ (x16 : List UInt8), World.cell? w14 (p12.add 1) = some (.string ⟨⟨x16⟩⟩) ∧ (br (decide ((x16 : List UInt8) = ([]))) (R (.returned (.bool false)) w14) (br (decide ((0 : Int) < t7_3)) (idx l_1 l_1n (IntKind.i64.wrap (t7_3 - 1)) 4 fun p17 =>
  ∃ (x18 : Int), World.cell? w14 (p17.add 0) = some (.int .i64 x18) ∧ (br (decide ((x18 : Int) = 1)) (R (.returned (.bool false)) w14) (∃ (x19 : Option Addr) (x19n : Nat) (x19c : Nat), World.cell? w14 (p12.add 3) = some (.slice x19 x19n x19c) ∧ (Calls Tryz.prog 27 ⟨[.slice x19 x19n x19c]⟩ w14 fun (e20 : Ending) (w21 : World) =>
  ∃ (x22 : Bool), e20 = .returned (.bool x22) ∧ (br (!x22) (R (.returned (.bool false)) w21) (∃ m23 : Nat, m23 < m5 ∧ I2 (IntKind.i64.wrap (t7_3 + 1)) w21 m23)))))) (∃ (x24 : Option Addr) (x24n : Nat) (x24c : Nat), World.cell? w14 (p12.add 3) = some (.slice x24 x24n x24c) ∧ (Calls Tryz.prog 27 ⟨[.slice x24 x24n x24c]⟩ w14 fun (e25 : Ending) (w26 : World) =>
  ∃ (x27 : Bool), e25 = .returned (.bool x27) ∧ (br (!x27) (R (.returned (.bool false)) w26) (∃ m28 : Nat, m28 < m5 ∧ I2 (IntKind.i64.wrap (t7_3 + 1)) w26 m28))))))) (∃ (x29 : Option Addr) (x29n : Nat) (x29c : Nat), World.cell? w14 (p12.add 3) = some (.slice x29 x29n x29c) ∧ (Calls Tryz.prog 27 ⟨[.slice x29 x29n x29c]⟩ w14 fun (e30 : Ending) (w31 : World) =>
  ∃ (x32 : Bool), e30 = .returned (.bool x32) ∧ (br (!x32) (R (.returned (.bool false)) w31) (∃ m33 : Nat, m33 < m5 ∧ I2 (IntKind.i64.wrap (t7_3 + 1)) w31 m33)))))))))) (R (.returned (.bool true)) w4))
set_option maxRecDepth 100000 in
theorem e_law10_merged (l_1 : Option Addr) (l_1n : Nat) (l_1c : Nat) (R : Ending → World → Prop) (w : World) : fnV Tryz.prog Tryz.f27 an_law10_merged [.slice l_1 l_1n l_1c] R w = sh_law10_merged l_1 l_1n l_1c R w := by kernel_rfl
theorem c_law10_merged {l_1 : Option Addr} {l_1n : Nat} {l_1c : Nat} {R : Ending → World → Prop} {w : World} (h : sh_law10_merged l_1 l_1n l_1c R w) : Calls Tryz.prog F_law10_merged ⟨[.slice l_1 l_1n l_1c]⟩ w R := calls_of_fnV Tryz.func27 (by rw [e_law10_merged]; exact h)

def an_markup_Scan : Ann := .two (.leaf) (.two (.two (.leaf) (.two (.two (.leaf) (.leaf)) (.leaf))) (.two (.leaf) (.two (.two (.leaf) (.one (.rf [2, 3, 4, 14] 0))) (.two (.leaf) (.leaf)))))
def sh_markup_Scan (s_1 : List UInt8) (R : Ending → World → Prop) (w : World) : Prop :=
  al w 43 [.slice none 0 0] fun p2 w3 =>
  al w3 25 [.int .i64 0] fun p4 w5 =>
  br (decide ((65536 : Int) < ((List.length s_1 : Int)))) (stL w5 p2 0 [.slice none 0 0] fun w6 =>
  stL w6 p4 0 [.int .i64 4] fun w7 =>
  ∃ (x8 : Option Addr) (x8n : Nat) (x8c : Nat), World.cell? w7 p2 = some (.slice x8 x8n x8c) ∧ (∃ (x9 : Int), World.cell? w7 p4 = some (.int .i64 x9) ∧ (R (.returned (.tuple ⟨[.slice x8 x8n x8c, .int .i64 x9]⟩)) w7))) (al w5 43 [.slice none 0 0] fun p10 w11 =>
  Calls Tryz.prog 56 ⟨[.string ⟨⟨s_1⟩⟩]⟩ w11 fun (e12 : Ending) (w13 : World) =>
  ∃ (x14 : Fn) (x14a : Array Value) (x14b : Array Value), e12 = .returned (.func x14 x14a x14b) ∧ (∀ base15 : Env, RFw Tryz.prog none 49 (cdAt Tryz.f28 [1, 1, 1, 0, 1, 2]) (upd (upd (upd (upd base15 14 (.func x14 x14a x14b)) 4 (.pointer (some p10))) 3 (.pointer (some p4))) 2 (.pointer (some p2))) [] w13 0 (fun ds16 w17 =>
  ∃ (x24 : Option Addr) (x24n : Nat) (x24c : Nat), World.cell? w17 p10 = some (.slice x24 x24n x24c) ∧ (stL w17 p2 0 [.slice x24 x24n x24c] fun w25 =>
  stL w25 p4 0 [.int .i64 0] fun w26 =>
  retD ds16 w26 fun w27 =>
  ∃ (x28 : Option Addr) (x28n : Nat) (x28c : Nat), World.cell? w27 p2 = some (.slice x28 x28n x28c) ∧ (∃ (x29 : Int), World.cell? w27 p4 = some (.int .i64 x29) ∧ (R (.returned (.tuple ⟨[.slice x28 x28n x28c, .int .i64 x29]⟩)) w27)))) (fun ds16 w17 =>
  retD ds16 w17 fun w30 =>
  ∃ (x31 : Option Addr) (x31n : Nat) (x31c : Nat), World.cell? w30 p2 = some (.slice x31 x31n x31c) ∧ (∃ (x32 : Int), World.cell? w30 p4 = some (.int .i64 x32) ∧ (R (.returned (.tuple ⟨[.slice x31 x31n x31c, .int .i64 x32]⟩)) w30))) (fun ds16 w17 =>
  ∃ (x18 : Option Addr) (x18n : Nat) (x18c : Nat), World.cell? w17 p10 = some (.slice x18 x18n x18c) ∧ (stL w17 p2 0 [.slice x18 x18n x18c] fun w19 =>
  stL w19 p4 0 [.int .i64 0] fun w20 =>
  retD ds16 w20 fun w21 =>
  ∃ (x22 : Option Addr) (x22n : Nat) (x22c : Nat), World.cell? w21 p2 = some (.slice x22 x22n x22c) ∧ (∃ (x23 : Int), World.cell? w21 p4 = some (.int .i64 x23) ∧ (R (.returned (.tuple ⟨[.slice x22 x22n x22c, .int .i64 x23]⟩)) w21))))))
set_option maxRecDepth 100000 in
theorem e_markup_Scan (s_1 : List UInt8) (R : Ending → World → Prop) (w : World) : fnV Tryz.prog Tryz.f28 an_markup_Scan [.string ⟨⟨s_1⟩⟩] R w = sh_markup_Scan s_1 R w := by kernel_rfl
theorem c_markup_Scan {s_1 : List UInt8} {R : Ending → World → Prop} {w : World} (h : sh_markup_Scan s_1 R w) : Calls Tryz.prog F_markup_Scan ⟨[.string ⟨⟨s_1⟩⟩]⟩ w R := calls_of_fnV Tryz.func28 (by rw [e_markup_Scan]; exact h)
def anA_markup_Scan_1 : Ann := .two (.leaf) (.leaf)
def anB_markup_Scan_1 : Ann := .one (.two (.leaf) (.cut 4398045987584 [] (.one (.two (.leaf) (.two (.two (.leaf) (.two (.two (.leaf) (.leaf)) (.leaf))) (.two (.leaf) (.two (.two (.leaf) (.leaf)) (.two (.leaf) (.two (.two (.leaf) (.two (.two (.leaf) (.leaf)) (.leaf))) (.leaf)))))))) (.two (.leaf) (.leaf))))
def rf_markup_Scan_1 (t2_33 : Option Addr) (t3_34 : Option Addr) (out_35 : Option Addr) (t14_36 : Fn) (t14_36a : Array Value) (t14_36b : Array Value) (t15_37 : Int) (t16_38 : List UInt8) (l : Nat) (Kn Kr Kx : World → World → Prop) (w : World) : Prop :=
  Ext w w ∧ ∀ w39 : World, Upd l w w39 → (al w39 48 [.int .i64 0, .string ⟨⟨[]⟩⟩, .string ⟨⟨[]⟩⟩, .int .i64 0] fun p40 w41 =>
  stL w41 p40 0 [.int .i64 1, .string ⟨⟨[]⟩⟩, .string ⟨⟨t16_38⟩⟩, .int .i64 0] fun w42 =>
  ∀ (K43 : World → Prop), (∀  (w44 : World), (∀ _ : Env, (stL w44 (p40.add 3) 0 [.int .i64 t15_37] fun w45 =>
  dr out_35 fun p46 =>
  ∃ (x47 : Option Addr) (x47n : Nat) (x47c : Nat), World.cell? w45 p46 = some (.slice x47 x47n x47c) ∧ (∃ (x48 : Int), World.cell? w45 (p40.add 0) = some (.int .i64 x48) ∧ (∃ (x49 : List UInt8), World.cell? w45 (p40.add 1) = some (.string ⟨⟨x49⟩⟩) ∧ (∃ (x50 : List UInt8), World.cell? w45 (p40.add 2) = some (.string ⟨⟨x50⟩⟩) ∧ (∃ (x51 : Int), World.cell? w45 (p40.add 3) = some (.int .i64 x51) ∧ (al w45 48 [.int .i64 x48, .string ⟨⟨x49⟩⟩, .string ⟨⟨x50⟩⟩, .int .i64 x51] fun p52 w53 =>
  app Tryz.prog [43, 43] 43 (.slice x47 x47n x47c) (.slice (some p52) 1 1) w53 fun a54 a54n a54c w55 =>
  dr out_35 fun p57 =>
  stL w55 p57 0 [.slice a54 a54n a54c] fun w56 =>
  Kn w39 w56))))))) → K43 w44) → (sidx t16_38 0 fun b58 =>
  br (decide ((((b58.toNat : Int)) : Int) ≠ 60)) (Calls Tryz.prog 57 ⟨[.string ⟨⟨t16_38⟩⟩]⟩ w42 fun (e59 : Ending) (w60 : World) =>
  ∃ (x61 : Int), e59 = .returned (.int .i64 x61) ∧ (br (decide ((x61 : Int) ≠ 0)) (dr t2_33 fun p63 =>
  stL w60 p63 0 [.slice none 0 0] fun w62 =>
  dr t3_34 fun p65 =>
  stL w62 p65 0 [.int .i64 11] fun w64 =>
  Kr w39 w64) (K43 w60))) (sidx t16_38 (IntKind.i64.wrap (((List.length t16_38 : Int)) - 1)) fun b66 =>
  br (decide ((((b66.toNat : Int)) : Int) ≠ 62)) (dr t2_33 fun p68 =>
  stL w42 p68 0 [.slice none 0 0] fun w67 =>
  dr t3_34 fun p70 =>
  stL w67 p70 0 [.int .i64 3] fun w69 =>
  Kr w39 w69) (Calls Tryz.prog 58 ⟨[.string ⟨⟨t16_38⟩⟩]⟩ w42 fun (e71 : Ending) (w72 : World) =>
  ∃ (x73 : Int) (x74 : List UInt8) (x75 : List UInt8) (x76 : Int) (x77 : Int), e71 = .returned (.tuple ⟨[.agg ⟨[.int .i64 x73, .string ⟨⟨x74⟩⟩, .string ⟨⟨x75⟩⟩, .int .i64 x76]⟩, .int .i64 x77]⟩) ∧ (al w72 48 [.int .i64 0, .string ⟨⟨[]⟩⟩, .string ⟨⟨[]⟩⟩, .int .i64 0] fun p78 w79 =>
  stL w79 p78 0 [.int .i64 x73, .string ⟨⟨x74⟩⟩, .string ⟨⟨x75⟩⟩, .int .i64 x76] fun w80 =>
  br (decide ((x77 : Int) ≠ 0)) (dr t2_33 fun p82 =>
  stL w80 p82 0 [.slice none 0 0] fun w81 =>
  dr t3_34 fun p84 =>
  stL w81 p84 0 [.int .i64 x77] fun w83 =>
  Kr w39 w83) (∃ (x85 : Int), World.cell? w80 (p78.add 0) = some (.int .i64 x85) ∧ (∃ (x86 : List UInt8), World.cell? w80 (p78.add 1) = some (.string ⟨⟨x86⟩⟩) ∧ (∃ (x87 : List UInt8), World.cell? w80 (p78.add 2) = some (.string ⟨⟨x87⟩⟩) ∧ (∃ (x88 : Int), World.cell? w80 (p78.add 3) = some (.int .i64 x88) ∧ (stL w80 p40 0 [.int .i64 x85, .string ⟨⟨x86⟩⟩, .string ⟨⟨x87⟩⟩, .int .i64 x88] fun w89 =>
  K43 w89))))))))))
set_option maxRecDepth 100000 in
theorem er_markup_Scan_1 (base : Env) (t2_33 : Option Addr) (t3_34 : Option Addr) (out_35 : Option Addr) (t14_36 : Fn) (t14_36a : Array Value) (t14_36b : Array Value) (t15_37 : Int) (t16_38 : List UInt8) (l : Nat) (Kn Kr Kx : World → World → Prop) (w : World) : fragV Tryz.prog 49 anA_markup_Scan_1 anB_markup_Scan_1 (cdAt Tryz.f28 [1, 1, 1, 0, 1, 2, 5]) (cdAt Tryz.f28 [1, 1, 1, 0, 1, 2, 6]) l 0 Kn Kr Kx (updPs [15, 16] [.int .i64 t15_37, .string ⟨⟨t16_38⟩⟩] (upd (upd (upd (upd base 14 (.func t14_36 t14_36a t14_36b)) 4 (.pointer out_35)) 3 (.pointer t3_34)) 2 (.pointer t2_33))) w = rf_markup_Scan_1 t2_33 t3_34 out_35 t14_36 t14_36a t14_36b t15_37 t16_38 l Kn Kr Kx w := by kernel_rfl
theorem cd_markup_Scan_1 : cdAt Tryz.f28 [1, 1, 1, 0, 1, 2] = .rangeFunc (Operand.tmp 14) #[15, 16] (cdAt Tryz.f28 [1, 1, 1, 0, 1, 2, 5]) (cdAt Tryz.f28 [1, 1, 1, 0, 1, 2, 6]) := by kernel_rfl

def an_transcript_Count : Ann := .two (.leaf) (.two (.two (.leaf) (.two (.two (.leaf) (.leaf)) (.leaf))) (.cut 129072 [(4, .one (.int .i64)), (5, .one (.int .i64))] (.two (.leaf) (.two (.two (.leaf) (.leaf)) (.leaf))) (.two (.leaf) (.two (.two (.leaf) (.one (.rf [3, 4, 5, 6, 18] 0))) (.two (.leaf) (.leaf))))))
def sh_transcript_Count (l_1 : Option Addr) (l_1n : Nat) (l_1c : Nat) (kind_2 : Int) (R : Ending → World → Prop) (w : World) : Prop :=
  al w 3 [.int .i64 kind_2] fun p3 w4 =>
  Calls Tryz.prog 17 ⟨[.slice l_1 l_1n l_1c]⟩ w4 fun (e5 : Ending) (w6 : World) =>
  ∃ (x7 : Int), e5 = .returned (.int .i64 x7) ∧ (br (decide ((x7 : Int) ≠ 0)) (R (.returned (.tuple ⟨[.int .i64 0, .int .i64 1]⟩)) w6) (∀ (K8 : Int → Int → World → Prop), (∀ (t4_9 : Int) (t5_10 : Int) (w11 : World), (∀ _ : Env, (al w11 3 [.int .i64 0] fun p12 w13 =>
  stL w13 p12 0 [.int .i64 0] fun w14 =>
  Calls Tryz.prog 46 ⟨[.slice l_1 l_1n l_1c]⟩ w14 fun (e15 : Ending) (w16 : World) =>
  ∃ (x17 : Fn) (x17a : Array Value) (x17b : Array Value), e15 = .returned (.func x17 x17a x17b) ∧ (∀ base18 : Env, RFw Tryz.prog none 28 (cdAt Tryz.f30 [1, 1, 1, 1, 0, 1, 2]) (upd (upd (upd (upd (upd base18 18 (.func x17 x17a x17b)) 6 (.pointer (some p12))) 5 (.int .i64 t5_10)) 4 (.int .i64 t4_9)) 3 (.pointer (some p3))) [] w16 0 (fun ds19 w20 =>
  ∃ (x23 : Int), World.cell? w20 p12 = some (.int .i64 x23) ∧ (retD ds19 w20 fun w24 =>
  R (.returned (.tuple ⟨[.int .i64 x23, .int .i64 0]⟩)) w24)) (fun ds19 w20 =>
  retD ds19 w20 fun w25 =>
  R (.returned (.tuple ⟨[.int .i64 t4_9, .int .i64 t5_10]⟩)) w25) (fun ds19 w20 =>
  ∃ (x21 : Int), World.cell? w20 p12 = some (.int .i64 x21) ∧ (retD ds19 w20 fun w22 =>
  R (.returned (.tuple ⟨[.int .i64 x21, .int .i64 0]⟩)) w22))))) → K8 t4_9 t5_10 w11) → (∃ (x26 : Int), World.cell? w6 p3 = some (.int .i64 x26) ∧ (br (decide ((x26 : Int) < 1)) (R (.returned (.tuple ⟨[.int .i64 0, .int .i64 8]⟩)) w6) (∃ (x27 : Int), World.cell? w6 p3 = some (.int .i64 x27) ∧ (br (decide ((11 : Int) < x27)) (R (.returned (.tuple ⟨[.int .i64 0, .int .i64 8]⟩)) w6) (K8 0 0 w6)))))))
set_option maxRecDepth 100000 in
theorem e_transcript_Count (l_1 : Option Addr) (l_1n : Nat) (l_1c : Nat) (kind_2 : Int) (R : Ending → World → Prop) (w : World) : fnV Tryz.prog Tryz.f30 an_transcript_Count [.slice l_1 l_1n l_1c, .int .i64 kind_2] R w = sh_transcript_Count l_1 l_1n l_1c kind_2 R w := by kernel_rfl
theorem c_transcript_Count {l_1 : Option Addr} {l_1n : Nat} {l_1c : Nat} {kind_2 : Int} {R : Ending → World → Prop} {w : World} (h : sh_transcript_Count l_1 l_1n l_1c kind_2 R w) : Calls Tryz.prog F_transcript_Count ⟨[.slice l_1 l_1n l_1c, .int .i64 kind_2]⟩ w R := calls_of_fnV Tryz.func30 (by rw [e_transcript_Count]; exact h)
def anA_transcript_Count_1 : Ann := .leaf
def anB_transcript_Count_1 : Ann := .one (.two (.leaf) (.two (.leaf) (.leaf)))
def rf_transcript_Count_1 (kind_28 : Option Addr) (t4_29 : Int) (t5_30 : Int) (n_31 : Option Addr) (t18_32 : Fn) (t18_32a : Array Value) (t18_32b : Array Value) (t19_33 : Int) (t19_34 : List UInt8) (t19_35 : Int) (t19_36 : Option Addr) (t19_36n : Nat) (t19_36c : Nat) (t19_37 : Int) (t19_38 : Bool) (l : Nat) (Kn Kr Kx : World → World → Prop) (w : World) : Prop :=
  al w 65 [.int .i64 0, .string ⟨⟨[]⟩⟩, .int .i64 0, .slice none 0 0, .int .i64 0, .bool false] fun p40 w41 =>
  stL w41 p40 0 [.int .i64 t19_33, .string ⟨⟨t19_34⟩⟩, .int .i64 t19_35, .slice t19_36 t19_36n t19_36c, .int .i64 t19_37, .bool t19_38] fun w42 =>
  Ext w w42 ∧ ∀ w39 : World, Upd l w42 w39 → (∃ (x43 : Int), World.cell? w39 ((p40.add 0).add 0) = some (.int .i64 x43) ∧ (dr kind_28 fun p44 =>
  ∃ (x45 : Int), World.cell? w39 p44 = some (.int .i64 x45) ∧ (br (decide ((x43 : Int) = x45)) (dr n_31 fun p46 =>
  ∃ (x47 : Int), World.cell? w39 p46 = some (.int .i64 x47) ∧ (dr n_31 fun p49 =>
  stL w39 p49 0 [.int .i64 (IntKind.i64.wrap (x47 + 1))] fun w48 =>
  Kn w39 w48)) (Kn w39 w39))))
set_option maxRecDepth 100000 in
theorem er_transcript_Count_1 (base : Env) (kind_28 : Option Addr) (t4_29 : Int) (t5_30 : Int) (n_31 : Option Addr) (t18_32 : Fn) (t18_32a : Array Value) (t18_32b : Array Value) (t19_33 : Int) (t19_34 : List UInt8) (t19_35 : Int) (t19_36 : Option Addr) (t19_36n : Nat) (t19_36c : Nat) (t19_37 : Int) (t19_38 : Bool) (l : Nat) (Kn Kr Kx : World → World → Prop) (w : World) : fragV Tryz.prog 28 anA_transcript_Count_1 anB_transcript_Count_1 (cdAt Tryz.f30 [1, 1, 1, 1, 0, 1, 2, 5]) (cdAt Tryz.f30 [1, 1, 1, 1, 0, 1, 2, 6]) l 0 Kn Kr Kx (updPs [19] [.agg ⟨[.int .i64 t19_33, .string ⟨⟨t19_34⟩⟩, .int .i64 t19_35, .slice t19_36 t19_36n t19_36c, .int .i64 t19_37, .bool t19_38]⟩] (upd (upd (upd (upd (upd base 18 (.func t18_32 t18_32a t18_32b)) 6 (.pointer n_31)) 5 (.int .i64 t5_30)) 4 (.int .i64 t4_29)) 3 (.pointer kind_28))) w = rf_transcript_Count_1 kind_28 t4_29 t5_30 n_31 t18_32 t18_32a t18_32b t19_33 t19_34 t19_35 t19_36 t19_36n t19_36c t19_37 t19_38 l Kn Kr Kx w := by kernel_rfl
theorem cd_transcript_Count_1 : cdAt Tryz.f30 [1, 1, 1, 1, 0, 1, 2] = .rangeFunc (Operand.tmp 18) #[19] (cdAt Tryz.f30 [1, 1, 1, 1, 0, 1, 2, 5]) (cdAt Tryz.f30 [1, 1, 1, 1, 0, 1, 2, 6]) := by kernel_rfl

def an_ref10_Print : Ann := .two (.leaf) (.two (.two (.leaf) (.two (.two (.leaf) (.leaf)) (.leaf))) (.two (.leaf) (.leaf)))
def sh_ref10_Print (l_1 : Option Addr) (l_1n : Nat) (l_1c : Nat) (R : Ending → World → Prop) (w : World) : Prop :=
  Calls Tryz.prog 23 ⟨[.slice l_1 l_1n l_1c]⟩ w fun (e2 : Ending) (w3 : World) =>
  ∃ (x4 : Int), e2 = .returned (.int .i64 x4) ∧ (br (decide ((x4 : Int) ≠ 0)) (R (.returned (.tuple ⟨[.string ⟨⟨[]⟩⟩, .int .i64 1]⟩)) w3) (Calls Tryz.prog 54 ⟨[.slice l_1 l_1n l_1c]⟩ w3 fun (e5 : Ending) (w6 : World) =>
  ∃ (x7 : List UInt8), e5 = .returned (.string ⟨⟨x7⟩⟩) ∧ (R (.returned (.tuple ⟨[.string ⟨⟨x7⟩⟩, .int .i64 0]⟩)) w6)))
set_option maxRecDepth 100000 in
theorem e_ref10_Print (l_1 : Option Addr) (l_1n : Nat) (l_1c : Nat) (R : Ending → World → Prop) (w : World) : fnV Tryz.prog Tryz.f31 an_ref10_Print [.slice l_1 l_1n l_1c] R w = sh_ref10_Print l_1 l_1n l_1c R w := by kernel_rfl
theorem c_ref10_Print {l_1 : Option Addr} {l_1n : Nat} {l_1c : Nat} {R : Ending → World → Prop} {w : World} (h : sh_ref10_Print l_1 l_1n l_1c R w) : Calls Tryz.prog F_ref10_Print ⟨[.slice l_1 l_1n l_1c]⟩ w R := calls_of_fnV Tryz.func31 (by rw [e_ref10_Print]; exact h)

def an_ref10_Characters : Ann := .two (.leaf) (.two (.two (.leaf) (.two (.two (.leaf) (.leaf)) (.leaf))) (.two (.leaf) (.leaf)))
def sh_ref10_Characters (l_1 : Option Addr) (l_1n : Nat) (l_1c : Nat) (R : Ending → World → Prop) (w : World) : Prop :=
  Calls Tryz.prog 23 ⟨[.slice l_1 l_1n l_1c]⟩ w fun (e2 : Ending) (w3 : World) =>
  ∃ (x4 : Int), e2 = .returned (.int .i64 x4) ∧ (br (decide ((x4 : Int) ≠ 0)) (R (.returned (.tuple ⟨[.string ⟨⟨[]⟩⟩, .int .i64 1]⟩)) w3) (Calls Tryz.prog 59 ⟨[.slice l_1 l_1n l_1c]⟩ w3 fun (e5 : Ending) (w6 : World) =>
  ∃ (x7 : List UInt8), e5 = .returned (.string ⟨⟨x7⟩⟩) ∧ (R (.returned (.tuple ⟨[.string ⟨⟨x7⟩⟩, .int .i64 0]⟩)) w6)))
set_option maxRecDepth 100000 in
theorem e_ref10_Characters (l_1 : Option Addr) (l_1n : Nat) (l_1c : Nat) (R : Ending → World → Prop) (w : World) : fnV Tryz.prog Tryz.f32 an_ref10_Characters [.slice l_1 l_1n l_1c] R w = sh_ref10_Characters l_1 l_1n l_1c R w := by kernel_rfl
theorem c_ref10_Characters {l_1 : Option Addr} {l_1n : Nat} {l_1c : Nat} {R : Ending → World → Prop} {w : World} (h : sh_ref10_Characters l_1 l_1n l_1c R w) : Calls Tryz.prog F_ref10_Characters ⟨[.slice l_1 l_1n l_1c]⟩ w R := calls_of_fnV Tryz.func32 (by rw [e_ref10_Characters]; exact h)

def an_ref10_Count : Ann := .two (.leaf) (.two (.two (.leaf) (.two (.two (.leaf) (.leaf)) (.leaf))) (.cut 32304 [] (.two (.leaf) (.two (.two (.leaf) (.leaf)) (.leaf))) (.two (.leaf) (.leaf))))
def sh_ref10_Count (l_1 : Option Addr) (l_1n : Nat) (l_1c : Nat) (kind_2 : Int) (R : Ending → World → Prop) (w : World) : Prop :=
  Calls Tryz.prog 23 ⟨[.slice l_1 l_1n l_1c]⟩ w fun (e3 : Ending) (w4 : World) =>
  ∃ (x5 : Int), e3 = .returned (.int .i64 x5) ∧ (br (decide ((x5 : Int) ≠ 0)) (R (.returned (.tuple ⟨[.int .i64 0, .int .i64 1]⟩)) w4) (∀ (K6 : World → Prop), (∀  (w7 : World), (∀ _ : Env, (Calls Tryz.prog 60 ⟨[.slice l_1 l_1n l_1c, .int .i64 kind_2]⟩ w7 fun (e8 : Ending) (w9 : World) =>
  ∃ (x10 : Int), e8 = .returned (.int .i64 x10) ∧ (R (.returned (.tuple ⟨[.int .i64 x10, .int .i64 0]⟩)) w9))) → K6 w7) → (br (decide ((kind_2 : Int) < 1)) (R (.returned (.tuple ⟨[.int .i64 0, .int .i64 8]⟩)) w4) (br (decide ((11 : Int) < kind_2)) (R (.returned (.tuple ⟨[.int .i64 0, .int .i64 8]⟩)) w4) (K6 w4)))))
set_option maxRecDepth 100000 in
theorem e_ref10_Count (l_1 : Option Addr) (l_1n : Nat) (l_1c : Nat) (kind_2 : Int) (R : Ending → World → Prop) (w : World) : fnV Tryz.prog Tryz.f33 an_ref10_Count [.slice l_1 l_1n l_1c, .int .i64 kind_2] R w = sh_ref10_Count l_1 l_1n l_1c kind_2 R w := by kernel_rfl
theorem c_ref10_Count {l_1 : Option Addr} {l_1n : Nat} {l_1c : Nat} {kind_2 : Int} {R : Ending → World → Prop} {w : World} (h : sh_ref10_Count l_1 l_1n l_1c kind_2 R w) : Calls Tryz.prog F_ref10_Count ⟨[.slice l_1 l_1n l_1c, .int .i64 kind_2]⟩ w R := calls_of_fnV Tryz.func33 (by rw [e_ref10_Count]; exact h)

def an_ref10_Depth : Ann := .two (.leaf) (.two (.two (.leaf) (.two (.two (.leaf) (.leaf)) (.leaf))) (.two (.leaf) (.two (.leaf) (.leaf))))
def sh_ref10_Depth (l_1 : Option Addr) (l_1n : Nat) (l_1c : Nat) (R : Ending → World → Prop) (w : World) : Prop :=
  Calls Tryz.prog 23 ⟨[.slice l_1 l_1n l_1c]⟩ w fun (e2 : Ending) (w3 : World) =>
  ∃ (x4 : Int), e2 = .returned (.int .i64 x4) ∧ (br (decide ((x4 : Int) ≠ 0)) (R (.returned (.tuple ⟨[.int .i64 0, .int .i64 1]⟩)) w3) (Calls Tryz.prog 51 ⟨[.slice l_1 l_1n l_1c, .int .i64 16, .int .i64 4096]⟩ w3 fun (e5 : Ending) (w6 : World) =>
  ∃ (x7 : Int) (x8 : Int) (x9 : Bool), e5 = .returned (.tuple ⟨[.int .i64 x7, .int .i64 x8, .bool x9]⟩) ∧ (R (.returned (.tuple ⟨[.int .i64 x8, .int .i64 0]⟩)) w6)))
set_option maxRecDepth 100000 in
theorem e_ref10_Depth (l_1 : Option Addr) (l_1n : Nat) (l_1c : Nat) (R : Ending → World → Prop) (w : World) : fnV Tryz.prog Tryz.f34 an_ref10_Depth [.slice l_1 l_1n l_1c] R w = sh_ref10_Depth l_1 l_1n l_1c R w := by kernel_rfl
theorem c_ref10_Depth {l_1 : Option Addr} {l_1n : Nat} {l_1c : Nat} {R : Ending → World → Prop} {w : World} (h : sh_ref10_Depth l_1 l_1n l_1c R w) : Calls Tryz.prog F_ref10_Depth ⟨[.slice l_1 l_1n l_1c]⟩ w R := calls_of_fnV Tryz.func34 (by rw [e_ref10_Depth]; exact h)

def an_ref10_Merge : Ann := .two (.leaf) (.two (.leaf) (.two (.two (.leaf) (.one (.loop 1180591620717411303288 [(3, .one (.slice)), (4, .one (.int .i64))] (.two (.two (.leaf) (.two (.leaf) (.leaf))) (.two (.one (.two (.leaf) (.cut 66846720 [] (.two (.leaf) (.two (.leaf) (.leaf))) (.cut 17112760320 [] (.two (.leaf) (.two (.leaf) (.leaf))) (.two (.two (.leaf) (.cut 4503530907893760 [(51, .one (.bool))] (.leaf) (.two (.two (.leaf) (.leaf)) (.leaf)))) (.leaf)))))) (.leaf)))))) (.two (.leaf) (.leaf))))
def sh_ref10_Merge (l_1 : Option Addr) (l_1n : Nat) (l_1c : Nat) (R : Ending → World → Prop) (w : World) : Prop :=
  al w 35 [] fun p2 w3 =>
  ∃ (I4 : Option Addr → Nat → Nat → Int → World → Nat → Prop), (∃ m9 : Nat, I4 (some p2) 0 0 0 w3 m9) ∧ ∀ (out_5 : Option Addr) (out_5n : Nat) (out_5c : Nat) (i_6 : Int) (w7 : World) (m8 : Nat), I4 out_5 out_5n out_5c i_6 w7 m8 → ∀ _ : Env, (br (decide ((i_6 : Int) < ((l_1n : Int)))) (idx l_1 l_1n i_6 4 fun p10 =>
  ∃ (x11 : Int), World.cell? w7 (p10.add 0) = some (.int .i64 x11) ∧ (∃ (x12 : List UInt8), World.cell? w7 (p10.add 1) = some (.string ⟨⟨x12⟩⟩) ∧ (∃ (x13 : Int), World.cell? w7 (p10.add 2) = some (.int .i64 x13) ∧ (∃ (x14 : Option Addr) (x14n : Nat) (x14c : Nat), World.cell? w7 (p10.add 3) = some (.slice x14 x14n x14c) ∧ (al w7 35 [.int .i64 0, .string ⟨⟨[]⟩⟩, .int .i64 0, .slice none 0 0] fun p15 w16 =>
  stL w16 p15 0 [.int .i64 x11, .string ⟨⟨x12⟩⟩, .int .i64 x13, .slice x14 x14n x14c] fun w17 =>
  ∀ (K18 : World → Prop), (∀  (w19 : World), (∀ _ : Env, (∀ (K20 : World → Prop), (∀  (w21 : World), (∀ _ : Env, (∀ (K22 : Bool → World → Prop), (∀ (t51_23 : Bool) (w24 : World), (∀ _ : Env, (br t51_23 (drw w24 fun w25 =>
  idx out_5 out_5n (IntKind.i64.wrap (((out_5n : Int)) - 1)) 4 fun p26 =>
  ∃ (x27 : List UInt8), World.cell? w25 (p26.add 1) = some (.string ⟨⟨x27⟩⟩) ∧ (∃ (x28 : List UInt8), World.cell? w25 (p15.add 1) = some (.string ⟨⟨x28⟩⟩) ∧ (sadd x27 x28 fun s29 =>
  idx out_5 out_5n (IntKind.i64.wrap (((out_5n : Int)) - 1)) 4 fun p30 =>
  (stL w25 (p30.add 1) 0 [.string ⟨⟨s29⟩⟩] fun w31 =>
  ∃ m32 : Nat, m32 < m8 ∧ I4 out_5 out_5n out_5c (IntKind.i64.wrap (i_6 + 1)) w31 m32) ∧ True))) (∃ (x33 : Int), World.cell? w24 (p15.add 0) = some (.int .i64 x33) ∧ (∃ (x34 : List UInt8), World.cell? w24 (p15.add 1) = some (.string ⟨⟨x34⟩⟩) ∧ (∃ (x35 : Int), World.cell? w24 (p15.add 2) = some (.int .i64 x35) ∧ (∃ (x36 : Option Addr) (x36n : Nat) (x36c : Nat), World.cell? w24 (p15.add 3) = some (.slice x36 x36n x36c) ∧ (al w24 35 [.int .i64 x33, .string ⟨⟨x34⟩⟩, .int .i64 x35, .slice x36 x36n x36c] fun p37 w38 =>
  app Tryz.prog [24, 24] 24 (.slice out_5 out_5n out_5c) (.slice (some p37) 1 1) w38 fun a39 a39n a39c w40 =>
  ∃ m41 : Nat, m41 < m8 ∧ I4 a39 a39n a39c (IntKind.i64.wrap (i_6 + 1)) w40 m41))))))) → K22 t51_23 w24) → (∃ (x42 : Int), World.cell? w21 (p15.add 0) = some (.int .i64 x42) ∧ (br (decide ((x42 : Int) = 1)) (br (decide ((0 : Int) < ((out_5n : Int)))) (idx out_5 out_5n (IntKind.i64.wrap (((out_5n : Int)) - 1)) 4 fun p43 =>
  ∃ (x44 : Int), World.cell? w21 (p43.add 0) = some (.int .i64 x44) ∧ (K22 (decide ((x44 : Int) = 1)) w21)) (K22 false w21)) (K22 false w21))))) → K20 w21) → (∃ (x45 : Option Addr) (x45n : Nat) (x45c : Nat), World.cell? w19 (p15.add 3) = some (.slice x45 x45n x45c) ∧ (br (decide ((0 : Int) < ((x45n : Int)))) (∃ (x46 : Option Addr) (x46n : Nat) (x46c : Nat), World.cell? w19 (p15.add 3) = some (.slice x46 x46n x46c) ∧ (Calls Tryz.prog 35 ⟨[.slice x46 x46n x46c]⟩ w19 fun (e47 : Ending) (w48 : World) =>
  ∃ (x49 : Option Addr) (x49n : Nat) (x49c : Nat), e47 = .returned (.slice x49 x49n x49c) ∧ (stL w48 (p15.add 3) 0 [.slice x49 x49n x49c] fun w50 =>
  K20 w50))) (K20 w19))))) → K18 w19) → (∃ (x51 : Int), World.cell? w17 (p15.add 0) = some (.int .i64 x51) ∧ (br (decide ((x51 : Int) = 1)) (∃ (x52 : List UInt8), World.cell? w17 (p15.add 1) = some (.string ⟨⟨x52⟩⟩) ∧ (br (decide ((x52 : List UInt8) = ([]))) (∃ m53 : Nat, m53 < m8 ∧ I4 out_5 out_5n out_5c (IntKind.i64.wrap (i_6 + 1)) w17 m53) (K18 w17))) (K18 w17)))))))) (R (.returned (.slice out_5 out_5n out_5c)) w7))
set_option maxRecDepth 100000 in
theorem e_ref10_Merge (l_1 : Option Addr) (l_1n : Nat) (l_1c : Nat) (R : Ending → World → Prop) (w : World) : fnV Tryz.prog Tryz.f35 an_ref10_Merge [.slice l_1 l_1n l_1c] R w = sh_ref10_Merge l_1 l_1n l_1c R w := by kernel_rfl
theorem c_ref10_Merge {l_1 : Option Addr} {l_1n : Nat} {l_1c : Nat} {R : Ending → World → Prop} {w : World} (h : sh_ref10_Merge l_1 l_1n l_1c R w) : Calls Tryz.prog F_ref10_Merge ⟨[.slice l_1 l_1n l_1c]⟩ w R := calls_of_fnV Tryz.func35 (by rw [e_ref10_Merge]; exact h)

def an_transcript_Same : Ann := .two (.leaf) (.two (.leaf) (.leaf))
def sh_transcript_Same (a_1 : Option Addr) (a_1n : Nat) (a_1c : Nat) (b_2 : Option Addr) (b_2n : Nat) (b_2c : Nat) (R : Ending → World → Prop) (w : World) : Prop :=
  Calls Tryz.prog 61 ⟨[.slice a_1 a_1n a_1c, .slice b_2 b_2n b_2c, .func (.func 62) #[] #[]]⟩ w fun (e3 : Ending) (w4 : World) =>
  ∃ (x5 : Bool), e3 = .returned (.bool x5) ∧ (R (.returned (.bool x5)) w4)
set_option maxRecDepth 100000 in
theorem e_transcript_Same (a_1 : Option Addr) (a_1n : Nat) (a_1c : Nat) (b_2 : Option Addr) (b_2n : Nat) (b_2c : Nat) (R : Ending → World → Prop) (w : World) : fnV Tryz.prog Tryz.f36 an_transcript_Same [.slice a_1 a_1n a_1c, .slice b_2 b_2n b_2c] R w = sh_transcript_Same a_1 a_1n a_1c b_2 b_2n b_2c R w := by kernel_rfl
theorem c_transcript_Same {a_1 : Option Addr} {a_1n : Nat} {a_1c : Nat} {b_2 : Option Addr} {b_2n : Nat} {b_2c : Nat} {R : Ending → World → Prop} {w : World} (h : sh_transcript_Same a_1 a_1n a_1c b_2 b_2n b_2c R w) : Calls Tryz.prog F_transcript_Same ⟨[.slice a_1 a_1n a_1c, .slice b_2 b_2n b_2c]⟩ w R := calls_of_fnV Tryz.func36 (by rw [e_transcript_Same]; exact h)

def an_slices_Concat_of_api_Node_api_Node : Ann := .two (.leaf) (.two (.leaf) (.two (.two (.leaf) (.one (.loop 8386600 [(3, .one (.int .i64)), (11, .one (.int .i64))] (.two (.leaf) (.two (.two (.leaf) (.leaf)) (.two (.one (.two (.leaf) (.two (.leaf) (.two (.leaf) (.two (.leaf) (.leaf)))))) (.leaf))))))) (.two (.leaf) (.two (.two (.leaf) (.one (.loop 34225520960 [(6, .one (.slice)), (27, .one (.int .i64))] (.two (.leaf) (.two (.two (.leaf) (.leaf)) (.two (.one (.two (.leaf) (.leaf))) (.leaf))))))) (.two (.leaf) (.leaf))))))
def sh_slices_Concat_of_api_Node_api_Node (slices_1 : Option Addr) (slices_1n : Nat) (slices_1c : Nat) (R : Ending → World → Prop) (w : World) : Prop :=
  ∃ (I2 : Int → Int → World → Nat → Prop), (∃ m7 : Nat, I2 0 0 w m7) ∧ ∀ (size_3 : Int) (t11_4 : Int) (w5 : World) (m6 : Nat), I2 size_3 t11_4 w5 m6 → ∀ _ : Env, (br (decide ((t11_4 : Int) < ((slices_1n : Int)))) (idx slices_1 slices_1n t11_4 1 fun p8 =>
  ∃ (x9 : Option Addr) (x9n : Nat) (x9c : Nat), World.cell? w5 p8 = some (.slice x9 x9n x9c) ∧ (br (decide (((IntKind.i64.wrap (size_3 + ((x9n : Int)))) : Int) < 0)) (False) (∃ m10 : Nat, m10 < m6 ∧ I2 (IntKind.i64.wrap (size_3 + ((x9n : Int)))) (IntKind.i64.wrap (t11_4 + 1)) w5 m10))) (Calls Tryz.prog 63 ⟨[.slice none 0 0, .int .i64 size_3]⟩ w5 fun (e11 : Ending) (w12 : World) =>
  ∃ (x13 : Option Addr) (x13n : Nat) (x13c : Nat), e11 = .returned (.slice x13 x13n x13c) ∧ (∃ (I14 : Option Addr → Nat → Nat → Int → World → Nat → Prop), (∃ m19 : Nat, I14 x13 x13n x13c 0 w12 m19) ∧ ∀ (newslice_15 : Option Addr) (newslice_15n : Nat) (newslice_15c : Nat) (t27_16 : Int) (w17 : World) (m18 : Nat), I14 newslice_15 newslice_15n newslice_15c t27_16 w17 m18 → ∀ _ : Env, (br (decide ((t27_16 : Int) < ((slices_1n : Int)))) (idx slices_1 slices_1n t27_16 1 fun p20 =>
  ∃ (x21 : Option Addr) (x21n : Nat) (x21c : Nat), World.cell? w17 p20 = some (.slice x21 x21n x21c) ∧ (app Tryz.prog [24, 24] 24 (.slice newslice_15 newslice_15n newslice_15c) (.slice x21 x21n x21c) w17 fun a22 a22n a22c w23 =>
  ∃ m24 : Nat, m24 < m18 ∧ I14 a22 a22n a22c (IntKind.i64.wrap (t27_16 + 1)) w23 m24)) (R (.returned (.slice newslice_15 newslice_15n newslice_15c)) w17)))))
set_option maxRecDepth 100000 in
theorem e_slices_Concat_of_api_Node_api_Node (slices_1 : Option Addr) (slices_1n : Nat) (slices_1c : Nat) (R : Ending → World → Prop) (w : World) : fnV Tryz.prog Tryz.f37 an_slices_Concat_of_api_Node_api_Node [.slice slices_1 slices_1n slices_1c] R w = sh_slices_Concat_of_api_Node_api_Node slices_1 slices_1n slices_1c R w := by kernel_rfl
theorem c_slices_Concat_of_api_Node_api_Node {slices_1 : Option Addr} {slices_1n : Nat} {slices_1c : Nat} {R : Ending → World → Prop} {w : World} (h : sh_slices_Concat_of_api_Node_api_Node slices_1 slices_1n slices_1c R w) : Calls Tryz.prog F_slices_Concat_of_api_Node_api_Node ⟨[.slice slices_1 slices_1n slices_1c]⟩ w R := calls_of_fnV Tryz.func37 (by rw [e_slices_Concat_of_api_Node_api_Node]; exact h)

end Go.Proofs
