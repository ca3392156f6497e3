/- Written by program: for each function its verification condition, that it is the code's (by the kernel), and that it gives the call. -/
import Derived.Test.YtcnlbobkjeiakaaDoorFn
namespace Go.Proofs
open Go Go.Sh
def an_law12_LegibilityWriting : Ann := .two (.leaf) (.two (.two (.leaf) (.two (.two (.leaf) (.leaf)) (.leaf))) (.two (.leaf) (.two (.leaf) (.cut 68182605828 [] (.two (.leaf) (.two (.two (.leaf) (.leaf)) (.leaf))) (.two (.leaf) (.cut 4501400604114948 [] (.two (.leaf) (.two (.two (.leaf) (.leaf)) (.leaf))) (.two (.two (.leaf) (.one (.loop 664613997892457936433889131630755372 [(3, .one (.str)), (5, .one (.str)), (54, .one (.int .i64))] (.two (.leaf) (.two (.two (.leaf) (.leaf)) (.two (.one (.two (.leaf) (.two (.leaf) (.two (.leaf) (.two (.leaf) (.cut 1298074195290893793298557287006212 [] (.two (.leaf) (.two (.two (.leaf) (.leaf)) (.leaf))) (.leaf))))))) (.leaf))))))) (.two (.leaf) (.leaf)))))))))
def sh_law12_LegibilityWriting (l_1 : Option Addr) (l_1n : Nat) (l_1c : Nat) (R : Ending → World → Prop) (w : World) : Prop :=
  Calls Tryd.prog 11 ⟨[.slice l_1 l_1n l_1c]⟩ w fun (e2 : Ending) (w3 : World) =>
  ∃ (x4 : Bool), e2 = .returned (.bool x4) ∧ (br x4 (Calls Tryd.prog 12 ⟨[]⟩ w3 fun (e5 : Ending) (w6 : World) =>
  ∃ (x7 : Bool), e5 = .returned (.bool x7) ∧ (R (.returned (.bool x7)) w6)) (Calls Tryd.prog 13 ⟨[.slice l_1 l_1n l_1c]⟩ w3 fun (e8 : Ending) (w9 : World) =>
  ∃ (x10 : List UInt8) (x11 : Int), e8 = .returned (.tuple ⟨[.string ⟨⟨x10⟩⟩, .int .i64 x11]⟩) ∧ (Calls Tryd.prog 14 ⟨[.slice l_1 l_1n l_1c]⟩ w9 fun (e12 : Ending) (w13 : World) =>
  ∃ (x14 : List UInt8) (x15 : Int), e12 = .returned (.tuple ⟨[.string ⟨⟨x14⟩⟩, .int .i64 x15]⟩) ∧ (∀ (K16 : World → Prop), (∀  (w17 : World), (∀ _ : Env, (Calls Tryd.prog 15 ⟨[.slice l_1 l_1n l_1c, .int .i64 10]⟩ w17 fun (e18 : Ending) (w19 : World) =>
  ∃ (x20 : Int) (x21 : Int), e18 = .returned (.tuple ⟨[.int .i64 x20, .int .i64 x21]⟩) ∧ (∀ (K22 : World → Prop), (∀  (w23 : World), (∀ _ : Env, (∃ (I24 : List UInt8 → List UInt8 → Int → World → Nat → Prop), (∃ m30 : Nat, I24 x10 x14 0 w23 m30) ∧ ∀ (p_25 : List UInt8) (w_26 : List UInt8) (t54_27 : Int) (w28 : World) (m29 : Nat), I24 p_25 w_26 t54_27 w28 m29 → ∀ _ : Env, (br (decide ((t54_27 : Int) < ((l_1n : Int)))) (sls l_1 l_1c t54_27 (IntKind.i64.wrap (t54_27 + 1)) 4 fun a31 a31n a31c =>
  Calls Tryd.prog 13 ⟨[.slice a31 a31n a31c]⟩ w28 fun (e32 : Ending) (w33 : World) =>
  ∃ (x34 : List UInt8) (x35 : Int), e32 = .returned (.tuple ⟨[.string ⟨⟨x34⟩⟩, .int .i64 x35]⟩) ∧ (sls l_1 l_1c t54_27 (IntKind.i64.wrap (t54_27 + 1)) 4 fun a36 a36n a36c =>
  Calls Tryd.prog 14 ⟨[.slice a36 a36n a36c]⟩ w33 fun (e37 : Ending) (w38 : World) =>
  ∃ (x39 : List UInt8) (x40 : Int), e37 = .returned (.tuple ⟨[.string ⟨⟨x39⟩⟩, .int .i64 x40]⟩) ∧ (sls l_1 l_1c t54_27 (IntKind.i64.wrap (t54_27 + 1)) 4 fun a41 a41n a41c =>
  Calls Tryd.prog 15 ⟨[.slice a41 a41n a41c, .int .i64 10]⟩ w38 fun (e42 : Ending) (w43 : World) =>
  ∃ (x44 : Int) (x45 : Int), e42 = .returned (.tuple ⟨[.int .i64 x44, .int .i64 x45]⟩) ∧ (∀ (K46 : World → Prop), (∀  (w47 : World), (∀ _ : Env, (drw w47 fun w48 =>
  ssl p_25 ((List.length x34 : Int)) (List.length p_25 : Int) fun s49 =>
  ssl w_26 ((List.length x39 : Int)) (List.length w_26 : Int) fun s50 =>
  ∃ m51 : Nat, m51 < m29 ∧ I24 s49 s50 (IntKind.i64.wrap (t54_27 + 1)) w48 m51)) → K46 w47) → (br (decide ((((max (max x35 x40) x45)) : Int) ≠ 0)) (R (.returned (.bool false)) w43) (br (decide ((x44 : Int) = 0)) (br (decide ((x34 : List UInt8) ≠ x39)) (R (.returned (.bool false)) w43) (Calls Tryd.prog 16 ⟨[.string ⟨⟨p_25⟩⟩, .string ⟨⟨x34⟩⟩]⟩ w43 fun (e52 : Ending) (w53 : World) =>
  ∃ (x54 : Bool), e52 = .returned (.bool x54) ∧ (br (!x54) (R (.returned (.bool false)) w53) (Calls Tryd.prog 16 ⟨[.string ⟨⟨w_26⟩⟩, .string ⟨⟨x39⟩⟩]⟩ w53 fun (e55 : Ending) (w56 : World) =>
  ∃ (x57 : Bool), e55 = .returned (.bool x57) ∧ (br (!x57) (R (.returned (.bool false)) w56) (K46 w56)))))) (Calls Tryd.prog 16 ⟨[.string ⟨⟨p_25⟩⟩, .string ⟨⟨x34⟩⟩]⟩ w43 fun (e58 : Ending) (w59 : World) =>
  ∃ (x60 : Bool), e58 = .returned (.bool x60) ∧ (br (!x60) (R (.returned (.bool false)) w59) (Calls Tryd.prog 16 ⟨[.string ⟨⟨w_26⟩⟩, .string ⟨⟨x39⟩⟩]⟩ w59 fun (e61 : Ending) (w62 : World) =>
  ∃ (x63 : Bool), e61 = .returned (.bool x63) ∧ (br (!x63) (R (.returned (.bool false)) w62) (K46 w62))))))))))) (br (decide ((p_25 : List UInt8) = ([]))) (br (decide ((w_26 : List UInt8) = ([]))) (Calls Tryd.prog 12 ⟨[]⟩ w28 fun (e64 : Ending) (w65 : World) =>
  ∃ (x66 : Bool), e64 = .returned (.bool x66) ∧ (R (.returned (.bool x66)) w65)) (R (.returned (.bool false)) w28)) (R (.returned (.bool false)) w28))))) → K22 w23) → (br (decide ((x21 : Int) ≠ 0)) (R (.returned (.bool false)) w19) (br (decide ((x20 : Int) = 0)) (br (decide ((x10 : List UInt8) ≠ x14)) (R (.returned (.bool false)) w19) (K22 w19)) (K22 w19)))))) → K16 w17) → (br (decide ((x11 : Int) ≠ 0)) (Calls Tryd.prog 12 ⟨[]⟩ w13 fun (e67 : Ending) (w68 : World) =>
  ∃ (x69 : Bool), e67 = .returned (.bool x69) ∧ (R (.returned (.bool x69)) w68)) (br (decide ((x15 : Int) ≠ 0)) (Calls Tryd.prog 12 ⟨[]⟩ w13 fun (e70 : Ending) (w71 : World) =>
  ∃ (x72 : Bool), e70 = .returned (.bool x72) ∧ (R (.returned (.bool x72)) w71)) (K16 w13)))))))
set_option maxRecDepth 100000 in
theorem e_law12_LegibilityWriting (l_1 : Option Addr) (l_1n : Nat) (l_1c : Nat) (R : Ending → World → Prop) (w : World) : fnV Tryd.prog Tryd.f3 an_law12_LegibilityWriting [.slice l_1 l_1n l_1c] R w = sh_law12_LegibilityWriting l_1 l_1n l_1c R w := by kernel_rfl
theorem c_law12_LegibilityWriting {l_1 : Option Addr} {l_1n : Nat} {l_1c : Nat} {R : Ending → World → Prop} {w : World} (h : sh_law12_LegibilityWriting l_1 l_1n l_1c R w) : Calls Tryd.prog F_law12_LegibilityWriting ⟨[.slice l_1 l_1n l_1c]⟩ w R := calls_of_fnV Tryd.func3 (by rw [e_law12_LegibilityWriting]; exact h)

def an_law12_LegibilityReads : Ann := .two (.leaf) (.two (.two (.leaf) (.two (.two (.leaf) (.leaf)) (.leaf))) (.two (.leaf) (.two (.leaf) (.two (.leaf) (.two (.leaf) (.cut 1152917106560335876 [] (.two (.leaf) (.two (.two (.leaf) (.leaf)) (.leaf))) (.two (.leaf) (.two (.leaf) (.two (.leaf) (.two (.leaf) (.two (.leaf) (.two (.leaf) (.two (.leaf) (.leaf))))))))))))))
def sh_law12_LegibilityReads (l_1 : Option Addr) (l_1n : Nat) (l_1c : Nat) (R : Ending → World → Prop) (w : World) : Prop :=
  Calls Tryd.prog 11 ⟨[.slice l_1 l_1n l_1c]⟩ w fun (e2 : Ending) (w3 : World) =>
  ∃ (x4 : Bool), e2 = .returned (.bool x4) ∧ (br x4 (Calls Tryd.prog 12 ⟨[]⟩ w3 fun (e5 : Ending) (w6 : World) =>
  ∃ (x7 : Bool), e5 = .returned (.bool x7) ∧ (R (.returned (.bool x7)) w6)) (Calls Tryd.prog 13 ⟨[.slice l_1 l_1n l_1c]⟩ w3 fun (e8 : Ending) (w9 : World) =>
  ∃ (x10 : List UInt8) (x11 : Int), e8 = .returned (.tuple ⟨[.string ⟨⟨x10⟩⟩, .int .i64 x11]⟩) ∧ (Calls Tryd.prog 17 ⟨[.slice l_1 l_1n l_1c]⟩ w9 fun (e12 : Ending) (w13 : World) =>
  ∃ (x14 : List UInt8) (x15 : Int), e12 = .returned (.tuple ⟨[.string ⟨⟨x14⟩⟩, .int .i64 x15]⟩) ∧ (Calls Tryd.prog 14 ⟨[.slice l_1 l_1n l_1c]⟩ w13 fun (e16 : Ending) (w17 : World) =>
  ∃ (x18 : List UInt8) (x19 : Int), e16 = .returned (.tuple ⟨[.string ⟨⟨x18⟩⟩, .int .i64 x19]⟩) ∧ (Calls Tryd.prog 18 ⟨[.slice l_1 l_1n l_1c]⟩ w17 fun (e20 : Ending) (w21 : World) =>
  ∃ (x22 : List UInt8) (x23 : Int), e20 = .returned (.tuple ⟨[.string ⟨⟨x22⟩⟩, .int .i64 x23]⟩) ∧ (∀ (K24 : World → Prop), (∀  (w25 : World), (∀ _ : Env, (Calls Tryd.prog 19 ⟨[.slice l_1 l_1n l_1c]⟩ w25 fun (e26 : Ending) (w27 : World) =>
  ∃ (x28 : Int) (x29 : Int), e26 = .returned (.tuple ⟨[.int .i64 x28, .int .i64 x29]⟩) ∧ (Calls Tryd.prog 20 ⟨[.slice l_1 l_1n l_1c]⟩ w27 fun (e30 : Ending) (w31 : World) =>
  ∃ (x32 : Int) (x33 : Int), e30 = .returned (.tuple ⟨[.int .i64 x32, .int .i64 x33]⟩) ∧ (Calls Tryd.prog 21 ⟨[.slice l_1 l_1n l_1c]⟩ w31 fun (e34 : Ending) (w35 : World) =>
  ∃ (x36 : Int) (x37 : Int), e34 = .returned (.tuple ⟨[.int .i64 x36, .int .i64 x37]⟩) ∧ (Calls Tryd.prog 22 ⟨[.slice l_1 l_1n l_1c]⟩ w35 fun (e38 : Ending) (w39 : World) =>
  ∃ (x40 : Int) (x41 : Int), e38 = .returned (.tuple ⟨[.int .i64 x40, .int .i64 x41]⟩) ∧ (Calls Tryd.prog 23 ⟨[.slice l_1 l_1n l_1c]⟩ w39 fun (e42 : Ending) (w43 : World) =>
  ∃ (x44 : Option Addr) (x44n : Nat) (x44c : Nat) (x45 : Int), e42 = .returned (.tuple ⟨[.slice x44 x44n x44c, .int .i64 x45]⟩) ∧ (Calls Tryd.prog 24 ⟨[.slice l_1 l_1n l_1c]⟩ w43 fun (e46 : Ending) (w47 : World) =>
  ∃ (x48 : Option Addr) (x48n : Nat) (x48c : Nat) (x49 : Int), e46 = .returned (.tuple ⟨[.slice x48 x48n x48c, .int .i64 x49]⟩) ∧ (br (decide ((x28 : Int) = x32)) (br (decide ((x29 : Int) = x33)) (br (decide ((x36 : Int) = x40)) (br (decide ((x37 : Int) = x41)) (Calls Tryd.prog 25 ⟨[.slice x44 x44n x44c, .slice x48 x48n x48c]⟩ w47 fun (e50 : Ending) (w51 : World) =>
  ∃ (x52 : Bool), e50 = .returned (.bool x52) ∧ (br x52 (br (decide ((x45 : Int) = x49)) (Calls Tryd.prog 12 ⟨[]⟩ w51 fun (e53 : Ending) (w54 : World) =>
  ∃ (x55 : Bool), e53 = .returned (.bool x55) ∧ (R (.returned (.bool x55)) w54)) (R (.returned (.bool false)) w51)) (R (.returned (.bool false)) w51))) (R (.returned (.bool false)) w47)) (R (.returned (.bool false)) w47)) (R (.returned (.bool false)) w47)) (R (.returned (.bool false)) w47))))))))) → K24 w25) → (br (decide ((x10 : List UInt8) ≠ x14)) (R (.returned (.bool false)) w21) (br (decide ((x11 : Int) ≠ x15)) (R (.returned (.bool false)) w21) (br (decide ((x18 : List UInt8) ≠ x22)) (R (.returned (.bool false)) w21) (br (decide ((x19 : Int) ≠ x23)) (R (.returned (.bool false)) w21) (K24 w21)))))))))))
set_option maxRecDepth 100000 in
theorem e_law12_LegibilityReads (l_1 : Option Addr) (l_1n : Nat) (l_1c : Nat) (R : Ending → World → Prop) (w : World) : fnV Tryd.prog Tryd.f4 an_law12_LegibilityReads [.slice l_1 l_1n l_1c] R w = sh_law12_LegibilityReads l_1 l_1n l_1c R w := by kernel_rfl
theorem c_law12_LegibilityReads {l_1 : Option Addr} {l_1n : Nat} {l_1c : Nat} {R : Ending → World → Prop} {w : World} (h : sh_law12_LegibilityReads l_1 l_1n l_1c R w) : Calls Tryd.prog F_law12_LegibilityReads ⟨[.slice l_1 l_1n l_1c]⟩ w R := calls_of_fnV Tryd.func4 (by rw [e_law12_LegibilityReads]; exact h)

def an_law12_LegibilityUnclear : Ann := .two (.leaf) (.two (.two (.leaf) (.two (.two (.leaf) (.leaf)) (.leaf))) (.two (.leaf) (.two (.leaf) (.two (.two (.leaf) (.two (.two (.leaf) (.leaf)) (.leaf))) (.cut 2198486384644 [] (.two (.leaf) (.two (.two (.leaf) (.leaf)) (.leaf))) (.two (.leaf) (.two (.leaf) (.leaf))))))))
def sh_law12_LegibilityUnclear (l_1 : Option Addr) (l_1n : Nat) (l_1c : Nat) (R : Ending → World → Prop) (w : World) : Prop :=
  Calls Tryd.prog 11 ⟨[.slice l_1 l_1n l_1c]⟩ w fun (e2 : Ending) (w3 : World) =>
  ∃ (x4 : Bool), e2 = .returned (.bool x4) ∧ (br x4 (Calls Tryd.prog 12 ⟨[]⟩ w3 fun (e5 : Ending) (w6 : World) =>
  ∃ (x7 : Bool), e5 = .returned (.bool x7) ∧ (R (.returned (.bool x7)) w6)) (Calls Tryd.prog 21 ⟨[.slice l_1 l_1n l_1c]⟩ w3 fun (e8 : Ending) (w9 : World) =>
  ∃ (x10 : Int) (x11 : Int), e8 = .returned (.tuple ⟨[.int .i64 x10, .int .i64 x11]⟩) ∧ (Calls Tryd.prog 26 ⟨[.slice l_1 l_1n l_1c]⟩ w9 fun (e12 : Ending) (w13 : World) =>
  ∃ (x14 : List UInt8) (x15 : Int), e12 = .returned (.tuple ⟨[.string ⟨⟨x14⟩⟩, .int .i64 x15]⟩) ∧ (br (decide ((x11 : Int) ≠ 0)) (br (decide ((x10 : Int) = 0)) (Calls Tryd.prog 12 ⟨[]⟩ w13 fun (e16 : Ending) (w17 : World) =>
  ∃ (x18 : Bool), e16 = .returned (.bool x18) ∧ (R (.returned (.bool x18)) w17)) (R (.returned (.bool false)) w13)) (∀ (K19 : World → Prop), (∀  (w20 : World), (∀ _ : Env, (al w20 37 [.int .i64 7, .string ⟨⟨[]⟩⟩, .int .i64 0, .slice l_1 l_1n l_1c] fun p21 w22 =>
  Calls Tryd.prog 21 ⟨[.slice (some p21) 1 1]⟩ w22 fun (e23 : Ending) (w24 : World) =>
  ∃ (x25 : Int) (x26 : Int), e23 = .returned (.tuple ⟨[.int .i64 x25, .int .i64 x26]⟩) ∧ (br (decide ((x26 : Int) ≠ 0)) (Calls Tryd.prog 12 ⟨[]⟩ w24 fun (e27 : Ending) (w28 : World) =>
  ∃ (x29 : Bool), e27 = .returned (.bool x29) ∧ (R (.returned (.bool x29)) w28)) (br (decide ((x25 : Int) = ((List.length x14 : Int)))) (Calls Tryd.prog 12 ⟨[]⟩ w24 fun (e30 : Ending) (w31 : World) =>
  ∃ (x32 : Bool), e30 = .returned (.bool x32) ∧ (R (.returned (.bool x32)) w31)) (R (.returned (.bool false)) w24))))) → K19 w20) → (br (decide ((x15 : Int) ≠ 0)) (R (.returned (.bool false)) w13) (br (decide ((x10 : Int) < 0)) (R (.returned (.bool false)) w13) (br (decide ((((List.length x14 : Int)) : Int) < x10)) (R (.returned (.bool false)) w13) (K19 w13)))))))))
set_option maxRecDepth 100000 in
theorem e_law12_LegibilityUnclear (l_1 : Option Addr) (l_1n : Nat) (l_1c : Nat) (R : Ending → World → Prop) (w : World) : fnV Tryd.prog Tryd.f5 an_law12_LegibilityUnclear [.slice l_1 l_1n l_1c] R w = sh_law12_LegibilityUnclear l_1 l_1n l_1c R w := by kernel_rfl
theorem c_law12_LegibilityUnclear {l_1 : Option Addr} {l_1n : Nat} {l_1c : Nat} {R : Ending → World → Prop} {w : World} (h : sh_law12_LegibilityUnclear l_1 l_1n l_1c R w) : Calls Tryd.prog F_law12_LegibilityUnclear ⟨[.slice l_1 l_1n l_1c]⟩ w R := calls_of_fnV Tryd.func5 (by rw [e_law12_LegibilityUnclear]; exact h)

def an_law12_LegibilityPairs : Ann := .two (.leaf) (.two (.two (.leaf) (.two (.two (.leaf) (.leaf)) (.leaf))) (.two (.leaf) (.two (.two (.leaf) (.two (.two (.leaf) (.leaf)) (.leaf))) (.two (.leaf) (.two (.leaf) (.cut 4611681620380876804 [] (.two (.leaf) (.two (.two (.leaf) (.leaf)) (.leaf))) (.two (.two (.leaf) (.one (.loop 1267650600209782657422993669636 [(64, .one (.int .i64))] (.two (.leaf) (.two (.two (.leaf) (.leaf)) (.two (.one (.two (.leaf) (.two (.leaf) (.two (.two (.leaf) (.one (.loop 4951757795958279664773904388 [(11, .one (.int .i64)), (71, .one (.int .i64))] (.two (.leaf) (.two (.two (.leaf) (.leaf)) (.two (.one (.two (.leaf) (.cut 19267255250108152471879684 [] (.two (.leaf) (.two (.two (.leaf) (.leaf)) (.leaf))) (.two (.leaf) (.two (.leaf) (.leaf)))))) (.leaf))))))) (.two (.leaf) (.two (.two (.leaf) (.leaf)) (.leaf))))))) (.leaf))))))) (.two (.two (.leaf) (.one (.loop 664608927290057023534297543327399940 [(102, .one (.int .i64))] (.two (.leaf) (.two (.two (.leaf) (.leaf)) (.two (.one (.two (.leaf) (.two (.leaf) (.two (.two (.leaf) (.leaf)) (.leaf))))) (.leaf))))))) (.two (.leaf) (.leaf))))))))))
def sh_law12_LegibilityPairs (l_1 : Option Addr) (l_1n : Nat) (l_1c : Nat) (R : Ending → World → Prop) (w : World) : Prop :=
  Calls Tryd.prog 11 ⟨[.slice l_1 l_1n l_1c]⟩ w fun (e2 : Ending) (w3 : World) =>
  ∃ (x4 : Bool), e2 = .returned (.bool x4) ∧ (br x4 (Calls Tryd.prog 12 ⟨[]⟩ w3 fun (e5 : Ending) (w6 : World) =>
  ∃ (x7 : Bool), e5 = .returned (.bool x7) ∧ (R (.returned (.bool x7)) w6)) (Calls Tryd.prog 23 ⟨[.slice l_1 l_1n l_1c]⟩ w3 fun (e8 : Ending) (w9 : World) =>
  ∃ (x10 : Option Addr) (x10n : Nat) (x10c : Nat) (x11 : Int), e8 = .returned (.tuple ⟨[.slice x10 x10n x10c, .int .i64 x11]⟩) ∧ (br (decide ((x11 : Int) ≠ 0)) (br (decide ((((x10n : Int)) : Int) = 0)) (Calls Tryd.prog 12 ⟨[]⟩ w9 fun (e12 : Ending) (w13 : World) =>
  ∃ (x14 : Bool), e12 = .returned (.bool x14) ∧ (R (.returned (.bool x14)) w13)) (R (.returned (.bool false)) w9)) (Calls Tryd.prog 27 ⟨[.slice x10 x10n x10c]⟩ w9 fun (e15 : Ending) (w16 : World) =>
  ∃ (x17 : Option Addr) (x17n : Nat) (x17c : Nat) (x18 : Int), e15 = .returned (.tuple ⟨[.slice x17 x17n x17c, .int .i64 x18]⟩) ∧ (Calls Tryd.prog 15 ⟨[.slice l_1 l_1n l_1c, .int .i64 10]⟩ w16 fun (e19 : Ending) (w20 : World) =>
  ∃ (x21 : Int) (x22 : Int), e19 = .returned (.tuple ⟨[.int .i64 x21, .int .i64 x22]⟩) ∧ (∀ (K23 : World → Prop), (∀  (w24 : World), (∀ _ : Env, (∃ (I25 : Int → World → Nat → Prop), (∃ m29 : Nat, I25 0 w24 m29) ∧ ∀ (t64_26 : Int) (w27 : World) (m28 : Nat), I25 t64_26 w27 m28 → ∀ _ : Env, (br (decide ((t64_26 : Int) < ((x10n : Int)))) (idx x10 x10n t64_26 2 fun p30 =>
  ∃ (x31 : List UInt8), World.cell? w27 (p30.add 0) = some (.string ⟨⟨x31⟩⟩) ∧ (∃ (x32 : List UInt8), World.cell? w27 (p30.add 1) = some (.string ⟨⟨x32⟩⟩) ∧ (al w27 42 [.string ⟨⟨[]⟩⟩, .string ⟨⟨[]⟩⟩] fun p33 w34 =>
  stL w34 p33 0 [.string ⟨⟨x31⟩⟩, .string ⟨⟨x32⟩⟩] fun w35 =>
  ∃ (I36 : Int → Int → World → Nat → Prop), (∃ m41 : Nat, I36 0 0 w35 m41) ∧ ∀ (count_37 : Int) (t71_38 : Int) (w39 : World) (m40 : Nat), I36 count_37 t71_38 w39 m40 → ∀ _ : Env, (br (decide ((t71_38 : Int) < ((x10n : Int)))) (idx x10 x10n t71_38 2 fun p42 =>
  ∃ (x43 : List UInt8), World.cell? w39 (p42.add 0) = some (.string ⟨⟨x43⟩⟩) ∧ (∃ (x44 : List UInt8), World.cell? w39 (p42.add 1) = some (.string ⟨⟨x44⟩⟩) ∧ (al w39 42 [.string ⟨⟨[]⟩⟩, .string ⟨⟨[]⟩⟩] fun p45 w46 =>
  stL w46 p45 0 [.string ⟨⟨x43⟩⟩, .string ⟨⟨x44⟩⟩] fun w47 =>
  ∀ (K48 : World → Prop), (∀  (w49 : World), (∀ _ : Env, (∃ (x50 : List UInt8), World.cell? w49 (p33.add 0) = some (.string ⟨⟨x50⟩⟩) ∧ (∃ (x51 : List UInt8), World.cell? w49 (p45.add 0) = some (.string ⟨⟨x51⟩⟩) ∧ (br (decide ((x50 : List UInt8) = x51)) (∃ m52 : Nat, m52 < m40 ∧ I36 (IntKind.i64.wrap (count_37 + 1)) (IntKind.i64.wrap (t71_38 + 1)) w49 m52) (∃ m53 : Nat, m53 < m40 ∧ I36 count_37 (IntKind.i64.wrap (t71_38 + 1)) w49 m53))))) → K48 w49) → (br (decide ((t64_26 : Int) ≠ t71_38)) (∃ (x54 : List UInt8), World.cell? w47 (p33.add 0) = some (.string ⟨⟨x54⟩⟩) ∧ (∃ (x55 : List UInt8), World.cell? w47 (p33.add 1) = some (.string ⟨⟨x55⟩⟩) ∧ (∃ (x56 : List UInt8), World.cell? w47 (p45.add 0) = some (.string ⟨⟨x56⟩⟩) ∧ (∃ (x57 : List UInt8), World.cell? w47 (p45.add 1) = some (.string ⟨⟨x57⟩⟩) ∧ (br ((decide ((x54 : List UInt8) = x56) && (decide ((x55 : List UInt8) = x57) && true))) (R (.returned (.bool false)) w47) (K48 w47)))))) (K48 w47))))) (∃ (x58 : List UInt8), World.cell? w39 (p33.add 0) = some (.string ⟨⟨x58⟩⟩) ∧ (Calls Tryd.prog 28 ⟨[.slice x17 x17n x17c, .string ⟨⟨x58⟩⟩]⟩ w39 fun (e59 : Ending) (w60 : World) =>
  ∃ (x61 : Bool), e59 = .returned (.bool x61) ∧ (br (decide ((x61 : Bool) ≠ (decide ((1 : Int) < count_37)))) (R (.returned (.bool false)) w60) (∃ m62 : Nat, m62 < m28 ∧ I25 (IntKind.i64.wrap (t64_26 + 1)) w60 m62)))))))) (∃ (I63 : Int → World → Nat → Prop), (∃ m67 : Nat, I63 0 w27 m67) ∧ ∀ (t102_64 : Int) (w65 : World) (m66 : Nat), I63 t102_64 w65 m66 → ∀ _ : Env, (br (decide ((t102_64 : Int) < ((x17n : Int)))) (idx x17 x17n t102_64 1 fun p68 =>
  ∃ (x69 : List UInt8), World.cell? w65 p68 = some (.string ⟨⟨x69⟩⟩) ∧ (al w65 9 [.string ⟨⟨[]⟩⟩] fun p70 w71 =>
  stL w71 p70 0 [.string ⟨⟨x69⟩⟩] fun w72 =>
  drw w72 fun w73 =>
  sls x17 x17c 0 t102_64 1 fun a74 a74n a74c =>
  ∃ (x75 : List UInt8), World.cell? w73 p70 = some (.string ⟨⟨x75⟩⟩) ∧ ((Calls Tryd.prog 28 ⟨[.slice a74 a74n a74c, .string ⟨⟨x75⟩⟩]⟩ w73 fun (e76 : Ending) (w77 : World) =>
  ∃ (x78 : Bool), e76 = .returned (.bool x78) ∧ (br x78 ((R (.returned (.bool false)) w77) ∧ True) ((Calls Tryd.prog 29 ⟨[.slice x10 x10n x10c, .func (.func 30) ⟨[]⟩ ⟨[.pointer (some p70)]⟩]⟩ w77 fun (e79 : Ending) (w80 : World) =>
  ∃ (x81 : Bool), e79 = .returned (.bool x81) ∧ (br (!x81) (R (.returned (.bool false)) w80) (∃ m82 : Nat, m82 < m66 ∧ I63 (IntKind.i64.wrap (t102_64 + 1)) w80 m82))) ∧ True))) ∧ True))) (Calls Tryd.prog 12 ⟨[]⟩ w65 fun (e83 : Ending) (w84 : World) =>
  ∃ (x85 : Bool), e83 = .returned (.bool x85) ∧ (R (.returned (.bool x85)) w84))))))) → K23 w24) → (br (decide ((x18 : Int) ≠ 0)) (R (.returned (.bool false)) w20) (br (decide ((x22 : Int) ≠ 0)) (R (.returned (.bool false)) w20) (br (decide ((x21 : Int) < ((x10n : Int)))) (R (.returned (.bool false)) w20) (br (decide (((decide ((0 : Int) < x21)) : Bool) ≠ (decide ((0 : Int) < ((x10n : Int)))))) (R (.returned (.bool false)) w20) (K23 w20)))))))))))
set_option maxRecDepth 100000 in
theorem e_law12_LegibilityPairs (l_1 : Option Addr) (l_1n : Nat) (l_1c : Nat) (R : Ending → World → Prop) (w : World) : fnV Tryd.prog Tryd.f6 an_law12_LegibilityPairs [.slice l_1 l_1n l_1c] R w = sh_law12_LegibilityPairs l_1 l_1n l_1c R w := by kernel_rfl
theorem c_law12_LegibilityPairs {l_1 : Option Addr} {l_1n : Nat} {l_1c : Nat} {R : Ending → World → Prop} {w : World} (h : sh_law12_LegibilityPairs l_1 l_1n l_1c R w) : Calls Tryd.prog F_law12_LegibilityPairs ⟨[.slice l_1 l_1n l_1c]⟩ w R := calls_of_fnV Tryd.func6 (by rw [e_law12_LegibilityPairs]; exact h)

def an_law12_LegibilityExpands : Ann := .two (.leaf) (.cut 1040400 [] (.two (.leaf) (.two (.two (.leaf) (.leaf)) (.leaf))) (.two (.leaf) (.two (.two (.leaf) (.two (.two (.leaf) (.leaf)) (.leaf))) (.two (.leaf) (.two (.leaf) (.two (.leaf) (.two (.cut 70931694131085312 [(55, .one (.bool))] (.leaf) (.two (.two (.leaf) (.leaf)) (.leaf))) (.two (.leaf) (.leaf)))))))))
def sh_law12_LegibilityExpands (l_1 : Option Addr) (l_1n : Nat) (l_1c : Nat) (pairs_2 : Option Addr) (pairs_2n : Nat) (pairs_2c : Nat) (R : Ending → World → Prop) (w : World) : Prop :=
  ∀ (K3 : World → Prop), (∀  (w4 : World), (∀ _ : Env, (Calls Tryd.prog 32 ⟨[.slice l_1 l_1n l_1c, .slice pairs_2 pairs_2n pairs_2c]⟩ w4 fun (e5 : Ending) (w6 : World) =>
  ∃ (x7 : Option Addr) (x7n : Nat) (x7c : Nat) (x8 : Int), e5 = .returned (.tuple ⟨[.slice x7 x7n x7c, .int .i64 x8]⟩) ∧ (br (decide ((x8 : Int) ≠ 0)) (br (decide ((((x7n : Int)) : Int) = 0)) (Calls Tryd.prog 12 ⟨[]⟩ w6 fun (e9 : Ending) (w10 : World) =>
  ∃ (x11 : Bool), e9 = .returned (.bool x11) ∧ (R (.returned (.bool x11)) w10)) (R (.returned (.bool false)) w6)) (Calls Tryd.prog 14 ⟨[.slice l_1 l_1n l_1c]⟩ w6 fun (e12 : Ending) (w13 : World) =>
  ∃ (x14 : List UInt8) (x15 : Int), e12 = .returned (.tuple ⟨[.string ⟨⟨x14⟩⟩, .int .i64 x15]⟩) ∧ (Calls Tryd.prog 14 ⟨[.slice x7 x7n x7c]⟩ w13 fun (e16 : Ending) (w17 : World) =>
  ∃ (x18 : List UInt8) (x19 : Int), e16 = .returned (.tuple ⟨[.string ⟨⟨x18⟩⟩, .int .i64 x19]⟩) ∧ (Calls Tryd.prog 32 ⟨[.slice x7 x7n x7c, .slice pairs_2 pairs_2n pairs_2c]⟩ w17 fun (e20 : Ending) (w21 : World) =>
  ∃ (x22 : Option Addr) (x22n : Nat) (x22c : Nat) (x23 : Int), e20 = .returned (.tuple ⟨[.slice x22 x22n x22c, .int .i64 x23]⟩) ∧ (∀ (K24 : Bool → World → Prop), (∀ (t55_25 : Bool) (w26 : World), (∀ _ : Env, (br t55_25 (br (decide ((x15 : Int) = x19)) (Calls Tryd.prog 12 ⟨[]⟩ w26 fun (e27 : Ending) (w28 : World) =>
  ∃ (x29 : Bool), e27 = .returned (.bool x29) ∧ (R (.returned (.bool x29)) w28)) (R (.returned (.bool false)) w26)) (br (decide ((x14 : List UInt8) = x18)) (br (decide ((x23 : Int) = 0)) (Calls Tryd.prog 33 ⟨[.slice x7 x7n x7c, .slice x22 x22n x22c]⟩ w26 fun (e30 : Ending) (w31 : World) =>
  ∃ (x32 : Bool), e30 = .returned (.bool x32) ∧ (br x32 (Calls Tryd.prog 34 ⟨[.slice x7 x7n x7c]⟩ w31 fun (e33 : Ending) (w34 : World) =>
  ∃ (x35 : Int), e33 = .returned (.int .i64 x35) ∧ (br (decide ((x35 : Int) = 0)) (Calls Tryd.prog 12 ⟨[]⟩ w34 fun (e36 : Ending) (w37 : World) =>
  ∃ (x38 : Bool), e36 = .returned (.bool x38) ∧ (R (.returned (.bool x38)) w37)) (R (.returned (.bool false)) w34))) (R (.returned (.bool false)) w31))) (R (.returned (.bool false)) w26)) (R (.returned (.bool false)) w26)))) → K24 t55_25 w26) → (br (decide ((x15 : Int) ≠ 0)) (K24 true w21) (K24 (decide ((x19 : Int) ≠ 0)) w21))))))))) → K3 w4) → (Calls Tryd.prog 11 ⟨[.slice l_1 l_1n l_1c]⟩ w fun (e39 : Ending) (w40 : World) =>
  ∃ (x41 : Bool), e39 = .returned (.bool x41) ∧ (br x41 (Calls Tryd.prog 12 ⟨[]⟩ w40 fun (e42 : Ending) (w43 : World) =>
  ∃ (x44 : Bool), e42 = .returned (.bool x44) ∧ (R (.returned (.bool x44)) w43)) (Calls Tryd.prog 31 ⟨[.slice pairs_2 pairs_2n pairs_2c]⟩ w40 fun (e45 : Ending) (w46 : World) =>
  ∃ (x47 : Bool), e45 = .returned (.bool x47) ∧ (br x47 (Calls Tryd.prog 12 ⟨[]⟩ w46 fun (e48 : Ending) (w49 : World) =>
  ∃ (x50 : Bool), e48 = .returned (.bool x50) ∧ (R (.returned (.bool x50)) w49)) (K3 w46)))))
set_option maxRecDepth 100000 in
theorem e_law12_LegibilityExpands (l_1 : Option Addr) (l_1n : Nat) (l_1c : Nat) (pairs_2 : Option Addr) (pairs_2n : Nat) (pairs_2c : Nat) (R : Ending → World → Prop) (w : World) : fnV Tryd.prog Tryd.f7 an_law12_LegibilityExpands [.slice l_1 l_1n l_1c, .slice pairs_2 pairs_2n pairs_2c] R w = sh_law12_LegibilityExpands l_1 l_1n l_1c pairs_2 pairs_2n pairs_2c R w := by kernel_rfl
theorem c_law12_LegibilityExpands {l_1 : Option Addr} {l_1n : Nat} {l_1c : Nat} {pairs_2 : Option Addr} {pairs_2n : Nat} {pairs_2c : Nat} {R : Ending → World → Prop} {w : World} (h : sh_law12_LegibilityExpands l_1 l_1n l_1c pairs_2 pairs_2n pairs_2c R w) : Calls Tryd.prog F_law12_LegibilityExpands ⟨[.slice l_1 l_1n l_1c, .slice pairs_2 pairs_2n pairs_2c]⟩ w R := calls_of_fnV Tryd.func7 (by rw [e_law12_LegibilityExpands]; exact h)

def an_law12_LegibilitySupplies : Ann := .two (.leaf) (.cut 536739856 [] (.two (.leaf) (.two (.two (.leaf) (.leaf)) (.leaf))) (.two (.leaf) (.two (.two (.leaf) (.two (.two (.leaf) (.leaf)) (.leaf))) (.two (.leaf) (.two (.leaf) (.two (.leaf) (.two (.leaf) (.cut 9671388110172959688097808 [] (.two (.leaf) (.two (.two (.leaf) (.leaf)) (.leaf))) (.two (.leaf) (.two (.two (.leaf) (.one (.loop 1267611914602001733363112706048 [(15, .one (.str)), (85, .one (.int .i64))] (.two (.leaf) (.two (.two (.leaf) (.leaf)) (.two (.one (.two (.leaf) (.two (.leaf) (.two (.leaf) (.leaf))))) (.leaf))))))) (.two (.leaf) (.leaf))))))))))))
def sh_law12_LegibilitySupplies (l_1 : Option Addr) (l_1n : Nat) (l_1c : Nat) (words_2 : Option Addr) (words_2n : Nat) (words_2c : Nat) (R : Ending → World → Prop) (w : World) : Prop :=
  ∀ (K3 : World → Prop), (∀  (w4 : World), (∀ _ : Env, (Calls Tryd.prog 37 ⟨[.slice l_1 l_1n l_1c, .slice words_2 words_2n words_2c]⟩ w4 fun (e5 : Ending) (w6 : World) =>
  ∃ (x7 : Option Addr) (x7n : Nat) (x7c : Nat) (x8 : Int), e5 = .returned (.tuple ⟨[.slice x7 x7n x7c, .int .i64 x8]⟩) ∧ (br (decide ((x8 : Int) ≠ 0)) (br (decide ((((x7n : Int)) : Int) = 0)) (Calls Tryd.prog 12 ⟨[]⟩ w6 fun (e9 : Ending) (w10 : World) =>
  ∃ (x11 : Bool), e9 = .returned (.bool x11) ∧ (R (.returned (.bool x11)) w10)) (R (.returned (.bool false)) w6)) (Calls Tryd.prog 13 ⟨[.slice l_1 l_1n l_1c]⟩ w6 fun (e12 : Ending) (w13 : World) =>
  ∃ (x14 : List UInt8) (x15 : Int), e12 = .returned (.tuple ⟨[.string ⟨⟨x14⟩⟩, .int .i64 x15]⟩) ∧ (Calls Tryd.prog 13 ⟨[.slice x7 x7n x7c]⟩ w13 fun (e16 : Ending) (w17 : World) =>
  ∃ (x18 : List UInt8) (x19 : Int), e16 = .returned (.tuple ⟨[.string ⟨⟨x18⟩⟩, .int .i64 x19]⟩) ∧ (Calls Tryd.prog 19 ⟨[.slice x7 x7n x7c]⟩ w17 fun (e20 : Ending) (w21 : World) =>
  ∃ (x22 : Int) (x23 : Int), e20 = .returned (.tuple ⟨[.int .i64 x22, .int .i64 x23]⟩) ∧ (Calls Tryd.prog 38 ⟨[.string ⟨⟨x14⟩⟩, .string ⟨⟨x18⟩⟩]⟩ w21 fun (e24 : Ending) (w25 : World) =>
  ∃ (x26 : Bool) (x27 : Int), e24 = .returned (.tuple ⟨[.bool x26, .int .i64 x27]⟩) ∧ (∀ (K28 : World → Prop), (∀  (w29 : World), (∀ _ : Env, (∃ (I30 : List UInt8 → Int → World → Nat → Prop), (∃ m35 : Nat, I30 ([]) 0 w29 m35) ∧ ∀ (cut_31 : List UInt8) (t85_32 : Int) (w33 : World) (m34 : Nat), I30 cut_31 t85_32 w33 m34 → ∀ _ : Env, (br (decide ((t85_32 : Int) < ((List.length x14 : Int)))) (sidx x14 t85_32 fun b36 =>
  br (decide ((((b36.toNat : Int)) : Int) = 95)) (ssl x18 t85_32 (IntKind.i64.wrap (t85_32 + 1)) fun s37 =>
  sadd cut_31 s37 fun s38 =>
  ∃ m39 : Nat, m39 < m34 ∧ I30 s38 (IntKind.i64.wrap (t85_32 + 1)) w33 m39) (∃ m40 : Nat, m40 < m34 ∧ I30 cut_31 (IntKind.i64.wrap (t85_32 + 1)) w33 m40)) (Calls Tryd.prog 39 ⟨[.slice words_2 words_2n words_2c, .string ⟨⟨[]⟩⟩]⟩ w33 fun (e41 : Ending) (w42 : World) =>
  ∃ (x43 : List UInt8), e41 = .returned (.string ⟨⟨x43⟩⟩) ∧ (br (decide ((cut_31 : List UInt8) = x43)) (Calls Tryd.prog 12 ⟨[]⟩ w42 fun (e44 : Ending) (w45 : World) =>
  ∃ (x46 : Bool), e44 = .returned (.bool x46) ∧ (R (.returned (.bool x46)) w45)) (R (.returned (.bool false)) w42)))))) → K28 w29) → (br (decide ((((max (max (max x15 x19) x23) x27)) : Int) ≠ 0)) (R (.returned (.bool false)) w25) (br (decide ((x22 : Int) ≠ 0)) (R (.returned (.bool false)) w25) (br (!x26) (R (.returned (.bool false)) w25) (Calls Tryd.prog 34 ⟨[.slice x7 x7n x7c]⟩ w25 fun (e47 : Ending) (w48 : World) =>
  ∃ (x49 : Int), e47 = .returned (.int .i64 x49) ∧ (br (decide ((x49 : Int) ≠ 0)) (R (.returned (.bool false)) w48) (K28 w48)))))))))))))) → K3 w4) → (Calls Tryd.prog 11 ⟨[.slice l_1 l_1n l_1c]⟩ w fun (e50 : Ending) (w51 : World) =>
  ∃ (x52 : Bool), e50 = .returned (.bool x52) ∧ (br x52 (Calls Tryd.prog 12 ⟨[]⟩ w51 fun (e53 : Ending) (w54 : World) =>
  ∃ (x55 : Bool), e53 = .returned (.bool x55) ∧ (R (.returned (.bool x55)) w54)) (br (decide ((8 : Int) < ((words_2n : Int)))) (Calls Tryd.prog 12 ⟨[]⟩ w51 fun (e56 : Ending) (w57 : World) =>
  ∃ (x58 : Bool), e56 = .returned (.bool x58) ∧ (R (.returned (.bool x58)) w57)) (Calls Tryd.prog 35 ⟨[.slice words_2 words_2n words_2c, .func (.func 36) #[] #[]]⟩ w51 fun (e59 : Ending) (w60 : World) =>
  ∃ (x61 : Bool), e59 = .returned (.bool x61) ∧ (br x61 (Calls Tryd.prog 12 ⟨[]⟩ w60 fun (e62 : Ending) (w63 : World) =>
  ∃ (x64 : Bool), e62 = .returned (.bool x64) ∧ (R (.returned (.bool x64)) w63)) (K3 w60))))))
set_option maxRecDepth 100000 in
theorem e_law12_LegibilitySupplies (l_1 : Option Addr) (l_1n : Nat) (l_1c : Nat) (words_2 : Option Addr) (words_2n : Nat) (words_2c : Nat) (R : Ending → World → Prop) (w : World) : fnV Tryd.prog Tryd.f8 an_law12_LegibilitySupplies [.slice l_1 l_1n l_1c, .slice words_2 words_2n words_2c] R w = sh_law12_LegibilitySupplies l_1 l_1n l_1c words_2 words_2n words_2c R w := by kernel_rfl
theorem c_law12_LegibilitySupplies {l_1 : Option Addr} {l_1n : Nat} {l_1c : Nat} {words_2 : Option Addr} {words_2n : Nat} {words_2c : Nat} {R : Ending → World → Prop} {w : World} (h : sh_law12_LegibilitySupplies l_1 l_1n l_1c words_2 words_2n words_2c R w) : Calls Tryd.prog F_law12_LegibilitySupplies ⟨[.slice l_1 l_1n l_1c, .slice words_2 words_2n words_2c]⟩ w R := calls_of_fnV Tryd.func8 (by rw [e_law12_LegibilitySupplies]; exact h)

def an_law12_LegibilityFits : Ann := .two (.leaf) (.cut 1046544 [] (.two (.leaf) (.two (.two (.leaf) (.leaf)) (.leaf))) (.two (.leaf) (.two (.leaf) (.cut 9007197107257728 [(7, .one (.bool))] (.two (.leaf) (.one (.loop 9007197107257728 [(7, .one (.bool)), (8, .one (.int .i64))] (.cut 272730423296 [] (.two (.leaf) (.two (.leaf) (.leaf))) (.two (.one (.leaf)) (.leaf)))))) (.two (.leaf) (.two (.leaf) (.leaf)))))))
def sh_law12_LegibilityFits (p_1 : List UInt8) (w_2 : List UInt8) (R : Ending → World → Prop) (w : World) : Prop :=
  ∀ (K3 : World → Prop), (∀  (w4 : World), (∀ _ : Env, (Calls Tryd.prog 38 ⟨[.string ⟨⟨p_1⟩⟩, .string ⟨⟨w_2⟩⟩]⟩ w4 fun (e5 : Ending) (w6 : World) =>
  ∃ (x7 : Bool) (x8 : Int), e5 = .returned (.tuple ⟨[.bool x7, .int .i64 x8]⟩) ∧ (∀ (K9 : Bool → World → Prop), (∀ (want_10 : Bool) (w11 : World), (∀ _ : Env, (Calls Tryd.prog 40 ⟨[.string ⟨⟨[95]⟩⟩, .int .i64 ((List.length w_2 : Int))]⟩ w11 fun (e12 : Ending) (w13 : World) =>
  ∃ (x14 : List UInt8), e12 = .returned (.string ⟨⟨x14⟩⟩) ∧ (Calls Tryd.prog 38 ⟨[.string ⟨⟨x14⟩⟩, .string ⟨⟨w_2⟩⟩]⟩ w13 fun (e15 : Ending) (w16 : World) =>
  ∃ (x17 : Bool) (x18 : Int), e15 = .returned (.tuple ⟨[.bool x17, .int .i64 x18]⟩) ∧ (br (decide ((x8 : Int) = 0)) (br (decide ((x18 : Int) = 0)) (br (decide ((x7 : Bool) = want_10)) (br x17 (Calls Tryd.prog 41 ⟨[.string ⟨⟨p_1⟩⟩, .string ⟨⟨[95]⟩⟩]⟩ w16 fun (e19 : Ending) (w20 : World) =>
  ∃ (x21 : Bool), e19 = .returned (.bool x21) ∧ (br x21 (Calls Tryd.prog 12 ⟨[]⟩ w20 fun (e22 : Ending) (w23 : World) =>
  ∃ (x24 : Bool), e22 = .returned (.bool x24) ∧ (R (.returned (.bool x24)) w23)) (br (decide ((x7 : Bool) = (decide ((p_1 : List UInt8) = w_2)))) (Calls Tryd.prog 12 ⟨[]⟩ w20 fun (e25 : Ending) (w26 : World) =>
  ∃ (x27 : Bool), e25 = .returned (.bool x27) ∧ (R (.returned (.bool x27)) w26)) (R (.returned (.bool false)) w20)))) (R (.returned (.bool false)) w16)) (R (.returned (.bool false)) w16)) (R (.returned (.bool false)) w16)) (R (.returned (.bool false)) w16))))) → K9 want_10 w11) → (∃ (I28 : Bool → Int → World → Nat → Prop), (∃ m33 : Nat, I28 (decide ((((List.length p_1 : Int)) : Int) = ((List.length w_2 : Int)))) 0 w6 m33) ∧ ∀ (want_29 : Bool) (i_30 : Int) (w31 : World) (m32 : Nat), I28 want_29 i_30 w31 m32 → ∀ _ : Env, (∀ (K34 : World → Prop), (∀  (w35 : World), (∀ _ : Env, (drw w35 fun w36 =>
  sidx p_1 i_30 fun b37 =>
  sidx w_2 i_30 fun b38 =>
  br (decide ((((b37.toNat : Int)) : Int) = ((b38.toNat : Int)))) (∃ m39 : Nat, m39 < m32 ∧ I28 true (IntKind.i64.wrap (i_30 + 1)) w36 m39) (sidx p_1 i_30 fun b40 =>
  ∃ m41 : Nat, m41 < m32 ∧ I28 (decide ((((b40.toNat : Int)) : Int) = 95)) (IntKind.i64.wrap (i_30 + 1)) w36 m41))) → K34 w35) → (br want_29 (br (decide ((i_30 : Int) < ((List.length p_1 : Int)))) (K34 w31) (K9 want_29 w31)) (K9 want_29 w31))))))) → K3 w4) → (br (decide ((100 : Int) < ((List.length p_1 : Int)))) (Calls Tryd.prog 12 ⟨[]⟩ w fun (e42 : Ending) (w43 : World) =>
  ∃ (x44 : Bool), e42 = .returned (.bool x44) ∧ (R (.returned (.bool x44)) w43)) (br (decide ((100 : Int) < ((List.length w_2 : Int)))) (Calls Tryd.prog 12 ⟨[]⟩ w fun (e45 : Ending) (w46 : World) =>
  ∃ (x47 : Bool), e45 = .returned (.bool x47) ∧ (R (.returned (.bool x47)) w46)) (K3 w)))
set_option maxRecDepth 100000 in
theorem e_law12_LegibilityFits (p_1 : List UInt8) (w_2 : List UInt8) (R : Ending → World → Prop) (w : World) : fnV Tryd.prog Tryd.f9 an_law12_LegibilityFits [.string ⟨⟨p_1⟩⟩, .string ⟨⟨w_2⟩⟩] R w = sh_law12_LegibilityFits p_1 w_2 R w := by kernel_rfl
theorem c_law12_LegibilityFits {p_1 : List UInt8} {w_2 : List UInt8} {R : Ending → World → Prop} {w : World} (h : sh_law12_LegibilityFits p_1 w_2 R w) : Calls Tryd.prog F_law12_LegibilityFits ⟨[.string ⟨⟨p_1⟩⟩, .string ⟨⟨w_2⟩⟩]⟩ w R := calls_of_fnV Tryd.func9 (by rw [e_law12_LegibilityFits]; exact h)

def an_law12_LegibilityPatterns : Ann := .two (.leaf) (.two (.two (.leaf) (.two (.two (.leaf) (.leaf)) (.leaf))) (.two (.leaf) (.two (.leaf) (.two (.two (.leaf) (.two (.two (.leaf) (.leaf)) (.leaf))) (.two (.leaf) (.two (.leaf) (.leaf)))))))
def sh_law12_LegibilityPatterns (l_1 : Option Addr) (l_1n : Nat) (l_1c : Nat) (R : Ending → World → Prop) (w : World) : Prop :=
  Calls Tryd.prog 11 ⟨[.slice l_1 l_1n l_1c]⟩ w fun (e2 : Ending) (w3 : World) =>
  ∃ (x4 : Bool), e2 = .returned (.bool x4) ∧ (br x4 (Calls Tryd.prog 12 ⟨[]⟩ w3 fun (e5 : Ending) (w6 : World) =>
  ∃ (x7 : Bool), e5 = .returned (.bool x7) ∧ (R (.returned (.bool x7)) w6)) (Calls Tryd.prog 13 ⟨[.slice l_1 l_1n l_1c]⟩ w3 fun (e8 : Ending) (w9 : World) =>
  ∃ (x10 : List UInt8) (x11 : Int), e8 = .returned (.tuple ⟨[.string ⟨⟨x10⟩⟩, .int .i64 x11]⟩) ∧ (Calls Tryd.prog 19 ⟨[.slice l_1 l_1n l_1c]⟩ w9 fun (e12 : Ending) (w13 : World) =>
  ∃ (x14 : Int) (x15 : Int), e12 = .returned (.tuple ⟨[.int .i64 x14, .int .i64 x15]⟩) ∧ (br (decide ((x11 : Int) ≠ 0)) (br (decide ((x10 : List UInt8) = ([]))) (br (decide ((x11 : Int) = x15)) (Calls Tryd.prog 12 ⟨[]⟩ w13 fun (e16 : Ending) (w17 : World) =>
  ∃ (x18 : Bool), e16 = .returned (.bool x18) ∧ (R (.returned (.bool x18)) w17)) (br (decide ((x11 : Int) = 4)) (br (decide ((x15 : Int) = 0)) (Calls Tryd.prog 12 ⟨[]⟩ w13 fun (e19 : Ending) (w20 : World) =>
  ∃ (x21 : Bool), e19 = .returned (.bool x21) ∧ (R (.returned (.bool x21)) w20)) (R (.returned (.bool false)) w13)) (R (.returned (.bool false)) w13))) (R (.returned (.bool false)) w13)) (Calls Tryd.prog 26 ⟨[.slice l_1 l_1n l_1c]⟩ w13 fun (e22 : Ending) (w23 : World) =>
  ∃ (x24 : List UInt8) (x25 : Int), e22 = .returned (.tuple ⟨[.string ⟨⟨x24⟩⟩, .int .i64 x25]⟩) ∧ (br (decide ((x15 : Int) = 0)) (br (decide ((x25 : Int) = 0)) (Calls Tryd.prog 42 ⟨[.string ⟨⟨x10⟩⟩, .string ⟨⟨[95]⟩⟩]⟩ w23 fun (e26 : Ending) (w27 : World) =>
  ∃ (x28 : Int), e26 = .returned (.int .i64 x28) ∧ (br (decide ((x28 : Int) = x14)) (Calls Tryd.prog 43 ⟨[.string ⟨⟨x10⟩⟩, .string ⟨⟨[95]⟩⟩, .string ⟨⟨[]⟩⟩]⟩ w27 fun (e29 : Ending) (w30 : World) =>
  ∃ (x31 : List UInt8), e29 = .returned (.string ⟨⟨x31⟩⟩) ∧ (br (decide ((x31 : List UInt8) = x24)) (Calls Tryd.prog 12 ⟨[]⟩ w30 fun (e32 : Ending) (w33 : World) =>
  ∃ (x34 : Bool), e32 = .returned (.bool x34) ∧ (R (.returned (.bool x34)) w33)) (R (.returned (.bool false)) w30))) (R (.returned (.bool false)) w27))) (R (.returned (.bool false)) w23)) (R (.returned (.bool false)) w23)))))))
set_option maxRecDepth 100000 in
theorem e_law12_LegibilityPatterns (l_1 : Option Addr) (l_1n : Nat) (l_1c : Nat) (R : Ending → World → Prop) (w : World) : fnV Tryd.prog Tryd.f10 an_law12_LegibilityPatterns [.slice l_1 l_1n l_1c] R w = sh_law12_LegibilityPatterns l_1 l_1n l_1c R w := by kernel_rfl
theorem c_law12_LegibilityPatterns {l_1 : Option Addr} {l_1n : Nat} {l_1c : Nat} {R : Ending → World → Prop} {w : World} (h : sh_law12_LegibilityPatterns l_1 l_1n l_1c R w) : Calls Tryd.prog F_law12_LegibilityPatterns ⟨[.slice l_1 l_1n l_1c]⟩ w R := calls_of_fnV Tryd.func10 (by rw [e_law12_LegibilityPatterns]; exact h)

def an_ref10_Great : Ann := .two (.leaf) (.two (.cut 32640 [(14, .one (.bool))] (.leaf) (.two (.two (.leaf) (.two (.leaf) (.leaf))) (.leaf))) (.two (.two (.leaf) (.one (.loop 1099377410116 [(6, .one (.int .i64))] (.two (.two (.leaf) (.two (.leaf) (.leaf))) (.two (.one (.two (.leaf) (.two (.two (.leaf) (.leaf)) (.leaf)))) (.leaf)))))) (.two (.leaf) (.leaf))))
def sh_ref10_Great (l_1 : Option Addr) (l_1n : Nat) (l_1c : Nat) (R : Ending → World → Prop) (w : World) : Prop :=
  ∀ (K2 : Bool → World → Prop), (∀ (t14_3 : Bool) (w4 : World), (∀ _ : Env, (br t14_3 (Calls Tryd.prog 44 ⟨[.slice l_1 l_1n l_1c, .int .i64 20, .int .i64 40]⟩ w4 fun (e5 : Ending) (w6 : World) =>
  ∃ (x7 : Int) (x8 : Int) (x9 : Bool), e5 = .returned (.tuple ⟨[.int .i64 x7, .int .i64 x8, .bool x9]⟩) ∧ (br (!x9) (R (.returned (.bool true)) w6) (Calls Tryd.prog 45 ⟨[.slice l_1 l_1n l_1c, .int .i64 20]⟩ w6 fun (e10 : Ending) (w11 : World) =>
  ∃ (x12 : Bool), e10 = .returned (.bool x12) ∧ (R (.returned (.bool x12)) w11)))) (∃ (I13 : Int → World → Nat → Prop), (∃ m17 : Nat, I13 0 w4 m17) ∧ ∀ (i_14 : Int) (w15 : World) (m16 : Nat), I13 i_14 w15 m16 → ∀ _ : Env, (br (decide ((i_14 : Int) < ((l_1n : Int)))) (idx l_1 l_1n i_14 4 fun p18 =>
  ∃ (x19 : Option Addr) (x19n : Nat) (x19c : Nat), World.cell? w15 (p18.add 3) = some (.slice x19 x19n x19c) ∧ (br (decide ((0 : Int) < ((x19n : Int)))) (R (.returned (.bool true)) w15) (∃ m20 : Nat, m20 < m16 ∧ I13 (IntKind.i64.wrap (i_14 + 1)) w15 m20))) (Calls Tryd.prog 45 ⟨[.slice l_1 l_1n l_1c, .int .i64 20]⟩ w15 fun (e21 : Ending) (w22 : World) =>
  ∃ (x23 : Bool), e21 = .returned (.bool x23) ∧ (R (.returned (.bool x23)) w22)))))) → K2 t14_3 w4) → (br (decide ((((l_1n : Int)) : Int) ≤ 4096)) (K2 true w) (K2 (decide ((4100 : Int) < ((l_1n : Int)))) w))
set_option maxRecDepth 100000 in
theorem e_ref10_Great (l_1 : Option Addr) (l_1n : Nat) (l_1c : Nat) (R : Ending → World → Prop) (w : World) : fnV Tryd.prog Tryd.f11 an_ref10_Great [.slice l_1 l_1n l_1c] R w = sh_ref10_Great l_1 l_1n l_1c R w := by kernel_rfl
theorem c_ref10_Great {l_1 : Option Addr} {l_1n : Nat} {l_1c : Nat} {R : Ending → World → Prop} {w : World} (h : sh_ref10_Great l_1 l_1n l_1c R w) : Calls Tryd.prog F_ref10_Great ⟨[.slice l_1 l_1n l_1c]⟩ w R := calls_of_fnV Tryd.func11 (by rw [e_ref10_Great]; exact h)

def an_law12_awake : Ann := .two (.leaf) (.two (.leaf) (.two (.leaf) (.two (.leaf) (.two (.leaf) (.two (.leaf) (.leaf))))))
def sh_law12_awake  (R : Ending → World → Prop) (w : World) : Prop :=
  Calls Tryd.prog 46 ⟨[]⟩ w fun (e1 : Ending) (w2 : World) =>
  ∃ (x3 : Option Addr) (x3n : Nat) (x3c : Nat), e1 = .returned (.slice x3 x3n x3c) ∧ (Calls Tryd.prog 13 ⟨[.slice x3 x3n x3c]⟩ w2 fun (e4 : Ending) (w5 : World) =>
  ∃ (x6 : List UInt8) (x7 : Int), e4 = .returned (.tuple ⟨[.string ⟨⟨x6⟩⟩, .int .i64 x7]⟩) ∧ (Calls Tryd.prog 46 ⟨[]⟩ w5 fun (e8 : Ending) (w9 : World) =>
  ∃ (x10 : Option Addr) (x10n : Nat) (x10c : Nat), e8 = .returned (.slice x10 x10n x10c) ∧ (Calls Tryd.prog 14 ⟨[.slice x10 x10n x10c]⟩ w9 fun (e11 : Ending) (w12 : World) =>
  ∃ (x13 : List UInt8) (x14 : Int), e11 = .returned (.tuple ⟨[.string ⟨⟨x13⟩⟩, .int .i64 x14]⟩) ∧ (Calls Tryd.prog 46 ⟨[]⟩ w12 fun (e15 : Ending) (w16 : World) =>
  ∃ (x17 : Option Addr) (x17n : Nat) (x17c : Nat), e15 = .returned (.slice x17 x17n x17c) ∧ (Calls Tryd.prog 23 ⟨[.slice x17 x17n x17c]⟩ w16 fun (e18 : Ending) (w19 : World) =>
  ∃ (x20 : Option Addr) (x20n : Nat) (x20c : Nat) (x21 : Int), e18 = .returned (.tuple ⟨[.slice x20 x20n x20c, .int .i64 x21]⟩) ∧ (Calls Tryd.prog 38 ⟨[.string ⟨⟨[100, 111, 109, 105, 110, 117, 115, 95, 95]⟩⟩, .string ⟨⟨[100, 111, 109, 105, 110, 117, 115, 109, 101]⟩⟩]⟩ w19 fun (e22 : Ending) (w23 : World) =>
  ∃ (x24 : Bool) (x25 : Int), e22 = .returned (.tuple ⟨[.bool x24, .int .i64 x25]⟩) ∧ (br (decide ((((max (max (max x7 x14) x21) x25)) : Int) = 0)) (br (decide ((x6 : List UInt8) = ([100, 111, 109, 105, 110, 117, 115, 95, 95]))) (br (decide ((x13 : List UInt8) = ([100, 110, 115, 95, 95]))) (al w23 42 [.string ⟨⟨[110, 115]⟩⟩, .string ⟨⟨[111, 109, 105, 110, 117, 115]⟩⟩] fun p26 w27 =>
  Calls Tryd.prog 47 ⟨[.slice x20 x20n x20c, .slice (some p26) 1 1]⟩ w27 fun (e28 : Ending) (w29 : World) =>
  ∃ (x30 : Bool), e28 = .returned (.bool x30) ∧ (br x30 (R (.returned (.bool x24)) w29) (R (.returned (.bool false)) w29))) (R (.returned (.bool false)) w23)) (R (.returned (.bool false)) w23)) (R (.returned (.bool false)) w23))))))))
set_option maxRecDepth 100000 in
theorem e_law12_awake  (R : Ending → World → Prop) (w : World) : fnV Tryd.prog Tryd.f12 an_law12_awake [] R w = sh_law12_awake  R w := by kernel_rfl
theorem c_law12_awake  {R : Ending → World → Prop} {w : World} (h : sh_law12_awake  R w) : Calls Tryd.prog F_law12_awake ⟨[]⟩ w R := calls_of_fnV Tryd.func12 (by rw [e_law12_awake]; exact h)

def an_legibility_Pattern : Ann := .two (.leaf) (.two (.two (.leaf) (.two (.leaf) (.two (.two (.leaf) (.leaf)) (.leaf)))) (.two (.leaf) (.leaf)))
def sh_legibility_Pattern (l_1 : Option Addr) (l_1n : Nat) (l_1c : Nat) (R : Ending → World → Prop) (w : World) : Prop :=
  Calls Tryd.prog 48 ⟨[.slice l_1 l_1n l_1c]⟩ w fun (e2 : Ending) (w3 : World) =>
  ∃ (x4 : Int), e2 = .returned (.int .i64 x4) ∧ (br (decide ((x4 : Int) ≠ 0)) (R (.returned (.tuple ⟨[.string ⟨⟨[]⟩⟩, .int .i64 x4]⟩)) w3) (Calls Tryd.prog 50 ⟨[.slice l_1 l_1n l_1c]⟩ w3 fun (e5 : Ending) (w6 : World) =>
  ∃ (x7 : List UInt8), e5 = .returned (.string ⟨⟨x7⟩⟩) ∧ (Calls Tryd.prog 49 ⟨[.string ⟨⟨x7⟩⟩]⟩ w6 fun (e8 : Ending) (w9 : World) =>
  ∃ (x10 : List UInt8) (x11 : Int), e8 = .returned (.tuple ⟨[.string ⟨⟨x10⟩⟩, .int .i64 x11]⟩) ∧ (R (.returned (.tuple ⟨[.string ⟨⟨x10⟩⟩, .int .i64 x11]⟩)) w9))))
set_option maxRecDepth 100000 in
theorem e_legibility_Pattern (l_1 : Option Addr) (l_1n : Nat) (l_1c : Nat) (R : Ending → World → Prop) (w : World) : fnV Tryd.prog Tryd.f13 an_legibility_Pattern [.slice l_1 l_1n l_1c] R w = sh_legibility_Pattern l_1 l_1n l_1c R w := by kernel_rfl
theorem c_legibility_Pattern {l_1 : Option Addr} {l_1n : Nat} {l_1c : Nat} {R : Ending → World → Prop} {w : World} (h : sh_legibility_Pattern l_1 l_1n l_1c R w) : Calls Tryd.prog F_legibility_Pattern ⟨[.slice l_1 l_1n l_1c]⟩ w R := calls_of_fnV Tryd.func13 (by rw [e_legibility_Pattern]; exact h)

def an_legibility_Written : Ann := .two (.leaf) (.two (.two (.leaf) (.two (.leaf) (.two (.two (.leaf) (.leaf)) (.leaf)))) (.two (.leaf) (.leaf)))
def sh_legibility_Written (l_1 : Option Addr) (l_1n : Nat) (l_1c : Nat) (R : Ending → World → Prop) (w : World) : Prop :=
  Calls Tryd.prog 48 ⟨[.slice l_1 l_1n l_1c]⟩ w fun (e2 : Ending) (w3 : World) =>
  ∃ (x4 : Int), e2 = .returned (.int .i64 x4) ∧ (br (decide ((x4 : Int) ≠ 0)) (R (.returned (.tuple ⟨[.string ⟨⟨[]⟩⟩, .int .i64 x4]⟩)) w3) (Calls Tryd.prog 51 ⟨[.slice l_1 l_1n l_1c]⟩ w3 fun (e5 : Ending) (w6 : World) =>
  ∃ (x7 : List UInt8), e5 = .returned (.string ⟨⟨x7⟩⟩) ∧ (Calls Tryd.prog 49 ⟨[.string ⟨⟨x7⟩⟩]⟩ w6 fun (e8 : Ending) (w9 : World) =>
  ∃ (x10 : List UInt8) (x11 : Int), e8 = .returned (.tuple ⟨[.string ⟨⟨x10⟩⟩, .int .i64 x11]⟩) ∧ (R (.returned (.tuple ⟨[.string ⟨⟨x10⟩⟩, .int .i64 x11]⟩)) w9))))
set_option maxRecDepth 100000 in
theorem e_legibility_Written (l_1 : Option Addr) (l_1n : Nat) (l_1c : Nat) (R : Ending → World → Prop) (w : World) : fnV Tryd.prog Tryd.f14 an_legibility_Written [.slice l_1 l_1n l_1c] R w = sh_legibility_Written l_1 l_1n l_1c R w := by kernel_rfl
theorem c_legibility_Written {l_1 : Option Addr} {l_1n : Nat} {l_1c : Nat} {R : Ending → World → Prop} {w : World} (h : sh_legibility_Written l_1 l_1n l_1c R w) : Calls Tryd.prog F_legibility_Written ⟨[.slice l_1 l_1n l_1c]⟩ w R := calls_of_fnV Tryd.func14 (by rw [e_legibility_Written]; exact h)

def an_transcript_Count : Ann := .two (.leaf) (.two (.two (.leaf) (.two (.two (.leaf) (.leaf)) (.leaf))) (.cut 129072 [(4, .one (.int .i64)), (5, .one (.int .i64))] (.two (.leaf) (.two (.two (.leaf) (.leaf)) (.leaf))) (.two (.leaf) (.two (.two (.leaf) (.one (.rf [3, 4, 5, 6, 18] 0))) (.two (.leaf) (.leaf))))))
def sh_transcript_Count (l_1 : Option Addr) (l_1n : Nat) (l_1c : Nat) (kind_2 : Int) (R : Ending → World → Prop) (w : World) : Prop :=
  al w 3 [.int .i64 kind_2] fun p3 w4 =>
  Calls Tryd.prog 34 ⟨[.slice l_1 l_1n l_1c]⟩ w4 fun (e5 : Ending) (w6 : World) =>
  ∃ (x7 : Int), e5 = .returned (.int .i64 x7) ∧ (br (decide ((x7 : Int) ≠ 0)) (R (.returned (.tuple ⟨[.int .i64 0, .int .i64 1]⟩)) w6) (∀ (K8 : Int → Int → World → Prop), (∀ (t4_9 : Int) (t5_10 : Int) (w11 : World), (∀ _ : Env, (al w11 3 [.int .i64 0] fun p12 w13 =>
  stL w13 p12 0 [.int .i64 0] fun w14 =>
  Calls Tryd.prog 52 ⟨[.slice l_1 l_1n l_1c]⟩ w14 fun (e15 : Ending) (w16 : World) =>
  ∃ (x17 : Fn) (x17a : Array Value) (x17b : Array Value), e15 = .returned (.func x17 x17a x17b) ∧ (∀ base18 : Env, RFw Tryd.prog none 28 (cdAt Tryd.f15 [1, 1, 1, 1, 0, 1, 2]) (upd (upd (upd (upd (upd base18 18 (.func x17 x17a x17b)) 6 (.pointer (some p12))) 5 (.int .i64 t5_10)) 4 (.int .i64 t4_9)) 3 (.pointer (some p3))) [] w16 0 (fun ds19 w20 =>
  ∃ (x23 : Int), World.cell? w20 p12 = some (.int .i64 x23) ∧ (retD ds19 w20 fun w24 =>
  R (.returned (.tuple ⟨[.int .i64 x23, .int .i64 0]⟩)) w24)) (fun ds19 w20 =>
  retD ds19 w20 fun w25 =>
  R (.returned (.tuple ⟨[.int .i64 t4_9, .int .i64 t5_10]⟩)) w25) (fun ds19 w20 =>
  ∃ (x21 : Int), World.cell? w20 p12 = some (.int .i64 x21) ∧ (retD ds19 w20 fun w22 =>
  R (.returned (.tuple ⟨[.int .i64 x21, .int .i64 0]⟩)) w22))))) → K8 t4_9 t5_10 w11) → (∃ (x26 : Int), World.cell? w6 p3 = some (.int .i64 x26) ∧ (br (decide ((x26 : Int) < 1)) (R (.returned (.tuple ⟨[.int .i64 0, .int .i64 8]⟩)) w6) (∃ (x27 : Int), World.cell? w6 p3 = some (.int .i64 x27) ∧ (br (decide ((11 : Int) < x27)) (R (.returned (.tuple ⟨[.int .i64 0, .int .i64 8]⟩)) w6) (K8 0 0 w6)))))))
set_option maxRecDepth 100000 in
theorem e_transcript_Count (l_1 : Option Addr) (l_1n : Nat) (l_1c : Nat) (kind_2 : Int) (R : Ending → World → Prop) (w : World) : fnV Tryd.prog Tryd.f15 an_transcript_Count [.slice l_1 l_1n l_1c, .int .i64 kind_2] R w = sh_transcript_Count l_1 l_1n l_1c kind_2 R w := by kernel_rfl
theorem c_transcript_Count {l_1 : Option Addr} {l_1n : Nat} {l_1c : Nat} {kind_2 : Int} {R : Ending → World → Prop} {w : World} (h : sh_transcript_Count l_1 l_1n l_1c kind_2 R w) : Calls Tryd.prog F_transcript_Count ⟨[.slice l_1 l_1n l_1c, .int .i64 kind_2]⟩ w R := calls_of_fnV Tryd.func15 (by rw [e_transcript_Count]; exact h)
def anA_transcript_Count_1 : Ann := .leaf
def anB_transcript_Count_1 : Ann := .one (.two (.leaf) (.two (.leaf) (.leaf)))
def rf_transcript_Count_1 (kind_28 : Option Addr) (t4_29 : Int) (t5_30 : Int) (n_31 : Option Addr) (t18_32 : Fn) (t18_32a : Array Value) (t18_32b : Array Value) (t19_33 : Int) (t19_34 : List UInt8) (t19_35 : Int) (t19_36 : Option Addr) (t19_36n : Nat) (t19_36c : Nat) (t19_37 : Int) (t19_38 : Bool) (l : Nat) (Kn Kr Kx : World → World → Prop) (w : World) : Prop :=
  al w 72 [.int .i64 0, .string ⟨⟨[]⟩⟩, .int .i64 0, .slice none 0 0, .int .i64 0, .bool false] fun p40 w41 =>
  stL w41 p40 0 [.int .i64 t19_33, .string ⟨⟨t19_34⟩⟩, .int .i64 t19_35, .slice t19_36 t19_36n t19_36c, .int .i64 t19_37, .bool t19_38] fun w42 =>
  Ext w w42 ∧ ∀ w39 : World, Upd l w42 w39 → (∃ (x43 : Int), World.cell? w39 ((p40.add 0).add 0) = some (.int .i64 x43) ∧ (dr kind_28 fun p44 =>
  ∃ (x45 : Int), World.cell? w39 p44 = some (.int .i64 x45) ∧ (br (decide ((x43 : Int) = x45)) (dr n_31 fun p46 =>
  ∃ (x47 : Int), World.cell? w39 p46 = some (.int .i64 x47) ∧ (dr n_31 fun p49 =>
  stL w39 p49 0 [.int .i64 (IntKind.i64.wrap (x47 + 1))] fun w48 =>
  Kn w39 w48)) (Kn w39 w39))))
set_option maxRecDepth 100000 in
theorem er_transcript_Count_1 (base : Env) (kind_28 : Option Addr) (t4_29 : Int) (t5_30 : Int) (n_31 : Option Addr) (t18_32 : Fn) (t18_32a : Array Value) (t18_32b : Array Value) (t19_33 : Int) (t19_34 : List UInt8) (t19_35 : Int) (t19_36 : Option Addr) (t19_36n : Nat) (t19_36c : Nat) (t19_37 : Int) (t19_38 : Bool) (l : Nat) (Kn Kr Kx : World → World → Prop) (w : World) : fragV Tryd.prog 28 anA_transcript_Count_1 anB_transcript_Count_1 (cdAt Tryd.f15 [1, 1, 1, 1, 0, 1, 2, 5]) (cdAt Tryd.f15 [1, 1, 1, 1, 0, 1, 2, 6]) l 0 Kn Kr Kx (updPs [19] [.agg ⟨[.int .i64 t19_33, .string ⟨⟨t19_34⟩⟩, .int .i64 t19_35, .slice t19_36 t19_36n t19_36c, .int .i64 t19_37, .bool t19_38]⟩] (upd (upd (upd (upd (upd base 18 (.func t18_32 t18_32a t18_32b)) 6 (.pointer n_31)) 5 (.int .i64 t5_30)) 4 (.int .i64 t4_29)) 3 (.pointer kind_28))) w = rf_transcript_Count_1 kind_28 t4_29 t5_30 n_31 t18_32 t18_32a t18_32b t19_33 t19_34 t19_35 t19_36 t19_36n t19_36c t19_37 t19_38 l Kn Kr Kx w := by kernel_rfl
theorem cd_transcript_Count_1 : cdAt Tryd.f15 [1, 1, 1, 1, 0, 1, 2] = .rangeFunc (Operand.tmp 18) #[19] (cdAt Tryd.f15 [1, 1, 1, 1, 0, 1, 2, 5]) (cdAt Tryd.f15 [1, 1, 1, 1, 0, 1, 2, 6]) := by kernel_rfl

def an_ref12_Pattern : Ann := .two (.leaf) (.two (.two (.leaf) (.two (.leaf) (.two (.two (.leaf) (.leaf)) (.leaf)))) (.two (.leaf) (.two (.two (.leaf) (.two (.two (.leaf) (.leaf)) (.leaf))) (.two (.leaf) (.leaf)))))
def sh_ref12_Pattern (l_1 : Option Addr) (l_1n : Nat) (l_1c : Nat) (R : Ending → World → Prop) (w : World) : Prop :=
  Calls Tryd.prog 54 ⟨[.slice l_1 l_1n l_1c]⟩ w fun (e2 : Ending) (w3 : World) =>
  ∃ (x4 : Int), e2 = .returned (.int .i64 x4) ∧ (br (decide ((x4 : Int) ≠ 0)) (R (.returned (.tuple ⟨[.string ⟨⟨[]⟩⟩, .int .i64 x4]⟩)) w3) (Calls Tryd.prog 55 ⟨[.slice l_1 l_1n l_1c]⟩ w3 fun (e5 : Ending) (w6 : World) =>
  ∃ (x7 : List UInt8), e5 = .returned (.string ⟨⟨x7⟩⟩) ∧ (br (decide ((65536 : Int) < ((List.length x7 : Int)))) (R (.returned (.tuple ⟨[.string ⟨⟨[]⟩⟩, .int .i64 4]⟩)) w6) (R (.returned (.tuple ⟨[.string ⟨⟨x7⟩⟩, .int .i64 0]⟩)) w6))))
set_option maxRecDepth 100000 in
theorem e_ref12_Pattern (l_1 : Option Addr) (l_1n : Nat) (l_1c : Nat) (R : Ending → World → Prop) (w : World) : fnV Tryd.prog Tryd.f17 an_ref12_Pattern [.slice l_1 l_1n l_1c] R w = sh_ref12_Pattern l_1 l_1n l_1c R w := by kernel_rfl
theorem c_ref12_Pattern {l_1 : Option Addr} {l_1n : Nat} {l_1c : Nat} {R : Ending → World → Prop} {w : World} (h : sh_ref12_Pattern l_1 l_1n l_1c R w) : Calls Tryd.prog F_ref12_Pattern ⟨[.slice l_1 l_1n l_1c]⟩ w R := calls_of_fnV Tryd.func17 (by rw [e_ref12_Pattern]; exact h)

def an_ref12_Written : Ann := .two (.leaf) (.two (.two (.leaf) (.two (.leaf) (.two (.two (.leaf) (.leaf)) (.leaf)))) (.two (.leaf) (.two (.two (.leaf) (.two (.two (.leaf) (.leaf)) (.leaf))) (.two (.leaf) (.leaf)))))
def sh_ref12_Written (l_1 : Option Addr) (l_1n : Nat) (l_1c : Nat) (R : Ending → World → Prop) (w : World) : Prop :=
  Calls Tryd.prog 54 ⟨[.slice l_1 l_1n l_1c]⟩ w fun (e2 : Ending) (w3 : World) =>
  ∃ (x4 : Int), e2 = .returned (.int .i64 x4) ∧ (br (decide ((x4 : Int) ≠ 0)) (R (.returned (.tuple ⟨[.string ⟨⟨[]⟩⟩, .int .i64 x4]⟩)) w3) (Calls Tryd.prog 56 ⟨[.slice l_1 l_1n l_1c]⟩ w3 fun (e5 : Ending) (w6 : World) =>
  ∃ (x7 : List UInt8), e5 = .returned (.string ⟨⟨x7⟩⟩) ∧ (br (decide ((65536 : Int) < ((List.length x7 : Int)))) (R (.returned (.tuple ⟨[.string ⟨⟨[]⟩⟩, .int .i64 4]⟩)) w6) (R (.returned (.tuple ⟨[.string ⟨⟨x7⟩⟩, .int .i64 0]⟩)) w6))))
set_option maxRecDepth 100000 in
theorem e_ref12_Written (l_1 : Option Addr) (l_1n : Nat) (l_1c : Nat) (R : Ending → World → Prop) (w : World) : fnV Tryd.prog Tryd.f18 an_ref12_Written [.slice l_1 l_1n l_1c] R w = sh_ref12_Written l_1 l_1n l_1c R w := by kernel_rfl
theorem c_ref12_Written {l_1 : Option Addr} {l_1n : Nat} {l_1c : Nat} {R : Ending → World → Prop} {w : World} (h : sh_ref12_Written l_1 l_1n l_1c R w) : Calls Tryd.prog F_ref12_Written ⟨[.slice l_1 l_1n l_1c]⟩ w R := calls_of_fnV Tryd.func18 (by rw [e_ref12_Written]; exact h)

def an_legibility_Lost : Ann := .two (.leaf) (.two (.two (.leaf) (.two (.leaf) (.two (.two (.leaf) (.leaf)) (.leaf)))) (.two (.leaf) (.two (.two (.leaf) (.one (.rf [2, 3, 5, 13] 0))) (.two (.leaf) (.leaf)))))
def sh_legibility_Lost (l_1 : Option Addr) (l_1n : Nat) (l_1c : Nat) (R : Ending → World → Prop) (w : World) : Prop :=
  Calls Tryd.prog 48 ⟨[.slice l_1 l_1n l_1c]⟩ w fun (e2 : Ending) (w3 : World) =>
  ∃ (x4 : Int), e2 = .returned (.int .i64 x4) ∧ (br (decide ((x4 : Int) ≠ 0)) (R (.returned (.tuple ⟨[.int .i64 0, .int .i64 x4]⟩)) w3) (al w3 3 [.int .i64 0] fun p5 w6 =>
  stL w6 p5 0 [.int .i64 0] fun w7 =>
  Calls Tryd.prog 57 ⟨[.slice l_1 l_1n l_1c]⟩ w7 fun (e8 : Ending) (w9 : World) =>
  ∃ (x10 : Fn) (x10a : Array Value) (x10b : Array Value), e8 = .returned (.func x10 x10a x10b) ∧ (∀ base11 : Env, RFw Tryd.prog none 24 (cdAt Tryd.f19 [1, 1, 1, 0, 1, 2]) (upd (upd (upd (upd base11 13 (.func x10 x10a x10b)) 5 (.pointer (some p5))) 3 (.int .i64 0)) 2 (.int .i64 0)) [] w9 0 (fun ds12 w13 =>
  ∃ (x16 : Int), World.cell? w13 p5 = some (.int .i64 x16) ∧ (retD ds12 w13 fun w17 =>
  R (.returned (.tuple ⟨[.int .i64 x16, .int .i64 0]⟩)) w17)) (fun ds12 w13 =>
  retD ds12 w13 fun w18 =>
  R (.returned (.tuple ⟨[.int .i64 0, .int .i64 0]⟩)) w18) (fun ds12 w13 =>
  ∃ (x14 : Int), World.cell? w13 p5 = some (.int .i64 x14) ∧ (retD ds12 w13 fun w15 =>
  R (.returned (.tuple ⟨[.int .i64 x14, .int .i64 0]⟩)) w15)))))
set_option maxRecDepth 100000 in
theorem e_legibility_Lost (l_1 : Option Addr) (l_1n : Nat) (l_1c : Nat) (R : Ending → World → Prop) (w : World) : fnV Tryd.prog Tryd.f19 an_legibility_Lost [.slice l_1 l_1n l_1c] R w = sh_legibility_Lost l_1 l_1n l_1c R w := by kernel_rfl
theorem c_legibility_Lost {l_1 : Option Addr} {l_1n : Nat} {l_1c : Nat} {R : Ending → World → Prop} {w : World} (h : sh_legibility_Lost l_1 l_1n l_1c R w) : Calls Tryd.prog F_legibility_Lost ⟨[.slice l_1 l_1n l_1c]⟩ w R := calls_of_fnV Tryd.func19 (by rw [e_legibility_Lost]; exact h)
def anA_legibility_Lost_1 : Ann := .leaf
def anB_legibility_Lost_1 : Ann := .one (.two (.leaf) (.two (.leaf) (.leaf)))
def rf_legibility_Lost_1 (t2_19 : Int) (t3_20 : Int) (n_21 : Option Addr) (t13_22 : Fn) (t13_22a : Array Value) (t13_22b : Array Value) (t14_23 : Int) (t14_24 : List UInt8) (t14_25 : Int) (t14_26 : Option Addr) (t14_26n : Nat) (t14_26c : Nat) (t15_27 : Value) (l : Nat) (Kn Kr Kx : World → World → Prop) (w : World) : Prop :=
  al w 37 [.int .i64 0, .string ⟨⟨[]⟩⟩, .int .i64 0, .slice none 0 0] fun p29 w30 =>
  stL w30 p29 0 [.int .i64 t14_23, .string ⟨⟨t14_24⟩⟩, .int .i64 t14_25, .slice t14_26 t14_26n t14_26c] fun w31 =>
  Ext w w31 ∧ ∀ w28 : World, Upd l w31 w28 → (∃ (x32 : Int), World.cell? w28 (p29.add 0) = some (.int .i64 x32) ∧ (br (decide ((x32 : Int) = 6)) (dr n_21 fun p33 =>
  ∃ (x34 : Int), World.cell? w28 p33 = some (.int .i64 x34) ∧ (∃ (x35 : Int), World.cell? w28 (p29.add 2) = some (.int .i64 x35) ∧ (dr n_21 fun p37 =>
  stL w28 p37 0 [.int .i64 (IntKind.i64.wrap (x34 + x35))] fun w36 =>
  Kn w28 w36))) (Kn w28 w28)))
set_option maxRecDepth 100000 in
theorem er_legibility_Lost_1 (base : Env) (t2_19 : Int) (t3_20 : Int) (n_21 : Option Addr) (t13_22 : Fn) (t13_22a : Array Value) (t13_22b : Array Value) (t14_23 : Int) (t14_24 : List UInt8) (t14_25 : Int) (t14_26 : Option Addr) (t14_26n : Nat) (t14_26c : Nat) (t15_27 : Value) (l : Nat) (Kn Kr Kx : World → World → Prop) (w : World) : fragV Tryd.prog 24 anA_legibility_Lost_1 anB_legibility_Lost_1 (cdAt Tryd.f19 [1, 1, 1, 0, 1, 2, 5]) (cdAt Tryd.f19 [1, 1, 1, 0, 1, 2, 6]) l 0 Kn Kr Kx (updPs [14, 15] [.agg ⟨[.int .i64 t14_23, .string ⟨⟨t14_24⟩⟩, .int .i64 t14_25, .slice t14_26 t14_26n t14_26c]⟩, t15_27] (upd (upd (upd (upd base 13 (.func t13_22 t13_22a t13_22b)) 5 (.pointer n_21)) 3 (.int .i64 t3_20)) 2 (.int .i64 t2_19))) w = rf_legibility_Lost_1 t2_19 t3_20 n_21 t13_22 t13_22a t13_22b t14_23 t14_24 t14_25 t14_26 t14_26n t14_26c t15_27 l Kn Kr Kx w := by kernel_rfl
theorem cd_legibility_Lost_1 : cdAt Tryd.f19 [1, 1, 1, 0, 1, 2] = .rangeFunc (Operand.tmp 13) #[14, 15] (cdAt Tryd.f19 [1, 1, 1, 0, 1, 2, 5]) (cdAt Tryd.f19 [1, 1, 1, 0, 1, 2, 6]) := by kernel_rfl

def an_ref12_Lost : Ann := .two (.leaf) (.two (.two (.leaf) (.two (.leaf) (.two (.two (.leaf) (.leaf)) (.leaf)))) (.two (.leaf) (.two (.two (.leaf) (.one (.loop 16711840 [(5, .one (.int .i64)), (16, .one (.int .i64))] (.two (.leaf) (.two (.two (.leaf) (.leaf)) (.two (.one (.two (.leaf) (.leaf))) (.leaf))))))) (.two (.leaf) (.leaf)))))
def sh_ref12_Lost (l_1 : Option Addr) (l_1n : Nat) (l_1c : Nat) (R : Ending → World → Prop) (w : World) : Prop :=
  Calls Tryd.prog 54 ⟨[.slice l_1 l_1n l_1c]⟩ w fun (e2 : Ending) (w3 : World) =>
  ∃ (x4 : Int), e2 = .returned (.int .i64 x4) ∧ (br (decide ((x4 : Int) ≠ 0)) (R (.returned (.tuple ⟨[.int .i64 0, .int .i64 x4]⟩)) w3) (Calls Tryd.prog 58 ⟨[.slice l_1 l_1n l_1c]⟩ w3 fun (e5 : Ending) (w6 : World) =>
  ∃ (x7 : Option Addr) (x7n : Nat) (x7c : Nat), e5 = .returned (.slice x7 x7n x7c) ∧ (∃ (I8 : Int → Int → World → Nat → Prop), (∃ m13 : Nat, I8 0 0 w6 m13) ∧ ∀ (n_9 : Int) (t16_10 : Int) (w11 : World) (m12 : Nat), I8 n_9 t16_10 w11 m12 → ∀ _ : Env, (br (decide ((t16_10 : Int) < ((x7n : Int)))) (idx x7 x7n t16_10 1 fun p14 =>
  ∃ (x15 : Int), World.cell? w11 p14 = some (.int .i64 x15) ∧ (∃ m16 : Nat, m16 < m12 ∧ I8 (IntKind.i64.wrap (n_9 + x15)) (IntKind.i64.wrap (t16_10 + 1)) w11 m16)) (R (.returned (.tuple ⟨[.int .i64 n_9, .int .i64 0]⟩)) w11)))))
set_option maxRecDepth 100000 in
theorem e_ref12_Lost (l_1 : Option Addr) (l_1n : Nat) (l_1c : Nat) (R : Ending → World → Prop) (w : World) : fnV Tryd.prog Tryd.f20 an_ref12_Lost [.slice l_1 l_1n l_1c] R w = sh_ref12_Lost l_1 l_1n l_1c R w := by kernel_rfl
theorem c_ref12_Lost {l_1 : Option Addr} {l_1n : Nat} {l_1c : Nat} {R : Ending → World → Prop} {w : World} (h : sh_ref12_Lost l_1 l_1n l_1c R w) : Calls Tryd.prog F_ref12_Lost ⟨[.slice l_1 l_1n l_1c]⟩ w R := calls_of_fnV Tryd.func20 (by rw [e_ref12_Lost]; exact h)

def an_legibility_Unclear : Ann := .two (.leaf) (.two (.two (.leaf) (.two (.leaf) (.two (.two (.leaf) (.leaf)) (.leaf)))) (.two (.leaf) (.two (.two (.leaf) (.one (.rf [2, 3, 5, 14] 0))) (.two (.leaf) (.leaf)))))
def sh_legibility_Unclear (l_1 : Option Addr) (l_1n : Nat) (l_1c : Nat) (R : Ending → World → Prop) (w : World) : Prop :=
  Calls Tryd.prog 48 ⟨[.slice l_1 l_1n l_1c]⟩ w fun (e2 : Ending) (w3 : World) =>
  ∃ (x4 : Int), e2 = .returned (.int .i64 x4) ∧ (br (decide ((x4 : Int) ≠ 0)) (R (.returned (.tuple ⟨[.int .i64 0, .int .i64 x4]⟩)) w3) (al w3 3 [.int .i64 0] fun p5 w6 =>
  stL w6 p5 0 [.int .i64 0] fun w7 =>
  Calls Tryd.prog 57 ⟨[.slice l_1 l_1n l_1c]⟩ w7 fun (e8 : Ending) (w9 : World) =>
  ∃ (x10 : Fn) (x10a : Array Value) (x10b : Array Value), e8 = .returned (.func x10 x10a x10b) ∧ (∀ base11 : Env, RFw Tryd.prog none 29 (cdAt Tryd.f21 [1, 1, 1, 0, 1, 2]) (upd (upd (upd (upd base11 14 (.func x10 x10a x10b)) 5 (.pointer (some p5))) 3 (.int .i64 0)) 2 (.int .i64 0)) [] w9 0 (fun ds12 w13 =>
  ∃ (x16 : Int), World.cell? w13 p5 = some (.int .i64 x16) ∧ (retD ds12 w13 fun w17 =>
  R (.returned (.tuple ⟨[.int .i64 x16, .int .i64 0]⟩)) w17)) (fun ds12 w13 =>
  retD ds12 w13 fun w18 =>
  R (.returned (.tuple ⟨[.int .i64 0, .int .i64 0]⟩)) w18) (fun ds12 w13 =>
  ∃ (x14 : Int), World.cell? w13 p5 = some (.int .i64 x14) ∧ (retD ds12 w13 fun w15 =>
  R (.returned (.tuple ⟨[.int .i64 x14, .int .i64 0]⟩)) w15)))))
set_option maxRecDepth 100000 in
theorem e_legibility_Unclear (l_1 : Option Addr) (l_1n : Nat) (l_1c : Nat) (R : Ending → World → Prop) (w : World) : fnV Tryd.prog Tryd.f21 an_legibility_Unclear [.slice l_1 l_1n l_1c] R w = sh_legibility_Unclear l_1 l_1n l_1c R w := by kernel_rfl
theorem c_legibility_Unclear {l_1 : Option Addr} {l_1n : Nat} {l_1c : Nat} {R : Ending → World → Prop} {w : World} (h : sh_legibility_Unclear l_1 l_1n l_1c R w) : Calls Tryd.prog F_legibility_Unclear ⟨[.slice l_1 l_1n l_1c]⟩ w R := calls_of_fnV Tryd.func21 (by rw [e_legibility_Unclear]; exact h)
def anA_legibility_Unclear_1 : Ann := .two (.leaf) (.leaf)
def anB_legibility_Unclear_1 : Ann := .one (.cut 8257536 [(22, .one (.bool))] (.leaf) (.two (.leaf) (.leaf)))
def rf_legibility_Unclear_1 (t2_19 : Int) (t3_20 : Int) (n_21 : Option Addr) (t14_22 : Fn) (t14_22a : Array Value) (t14_22b : Array Value) (t15_23 : Int) (t15_24 : List UInt8) (t15_25 : Int) (t15_26 : Option Addr) (t15_26n : Nat) (t15_26c : Nat) (t16_27 : Bool) (l : Nat) (Kn Kr Kx : World → World → Prop) (w : World) : Prop :=
  al w 37 [.int .i64 0, .string ⟨⟨[]⟩⟩, .int .i64 0, .slice none 0 0] fun p29 w30 =>
  stL w30 p29 0 [.int .i64 t15_23, .string ⟨⟨t15_24⟩⟩, .int .i64 t15_25, .slice t15_26 t15_26n t15_26c] fun w31 =>
  Ext w w31 ∧ ∀ w28 : World, Upd l w31 w28 → (∀ (K32 : Bool → World → Prop), (∀ (t22_33 : Bool) (w34 : World), (∀ _ : Env, (br t22_33 (dr n_21 fun p35 =>
  ∃ (x36 : Int), World.cell? w34 p35 = some (.int .i64 x36) ∧ (∃ (x37 : List UInt8), World.cell? w34 (p29.add 1) = some (.string ⟨⟨x37⟩⟩) ∧ (dr n_21 fun p39 =>
  stL w34 p39 0 [.int .i64 (IntKind.i64.wrap (x36 + ((List.length x37 : Int))))] fun w38 =>
  Kn w28 w38))) (Kn w28 w34))) → K32 t22_33 w34) → (∃ (x40 : Int), World.cell? w28 (p29.add 0) = some (.int .i64 x40) ∧ (br (decide ((x40 : Int) = 1)) (K32 t16_27 w28) (K32 false w28))))
set_option maxRecDepth 100000 in
theorem er_legibility_Unclear_1 (base : Env) (t2_19 : Int) (t3_20 : Int) (n_21 : Option Addr) (t14_22 : Fn) (t14_22a : Array Value) (t14_22b : Array Value) (t15_23 : Int) (t15_24 : List UInt8) (t15_25 : Int) (t15_26 : Option Addr) (t15_26n : Nat) (t15_26c : Nat) (t16_27 : Bool) (l : Nat) (Kn Kr Kx : World → World → Prop) (w : World) : fragV Tryd.prog 29 anA_legibility_Unclear_1 anB_legibility_Unclear_1 (cdAt Tryd.f21 [1, 1, 1, 0, 1, 2, 5]) (cdAt Tryd.f21 [1, 1, 1, 0, 1, 2, 6]) l 0 Kn Kr Kx (updPs [15, 16] [.agg ⟨[.int .i64 t15_23, .string ⟨⟨t15_24⟩⟩, .int .i64 t15_25, .slice t15_26 t15_26n t15_26c]⟩, .bool t16_27] (upd (upd (upd (upd base 14 (.func t14_22 t14_22a t14_22b)) 5 (.pointer n_21)) 3 (.int .i64 t3_20)) 2 (.int .i64 t2_19))) w = rf_legibility_Unclear_1 t2_19 t3_20 n_21 t14_22 t14_22a t14_22b t15_23 t15_24 t15_25 t15_26 t15_26n t15_26c t16_27 l Kn Kr Kx w := by kernel_rfl
theorem cd_legibility_Unclear_1 : cdAt Tryd.f21 [1, 1, 1, 0, 1, 2] = .rangeFunc (Operand.tmp 14) #[15, 16] (cdAt Tryd.f21 [1, 1, 1, 0, 1, 2, 5]) (cdAt Tryd.f21 [1, 1, 1, 0, 1, 2, 6]) := by kernel_rfl

def an_ref12_Unclear : Ann := .two (.leaf) (.two (.two (.leaf) (.two (.leaf) (.two (.two (.leaf) (.leaf)) (.leaf)))) (.two (.leaf) (.leaf)))
def sh_ref12_Unclear (l_1 : Option Addr) (l_1n : Nat) (l_1c : Nat) (R : Ending → World → Prop) (w : World) : Prop :=
  Calls Tryd.prog 54 ⟨[.slice l_1 l_1n l_1c]⟩ w fun (e2 : Ending) (w3 : World) =>
  ∃ (x4 : Int), e2 = .returned (.int .i64 x4) ∧ (br (decide ((x4 : Int) ≠ 0)) (R (.returned (.tuple ⟨[.int .i64 0, .int .i64 x4]⟩)) w3) (Calls Tryd.prog 59 ⟨[.slice l_1 l_1n l_1c, .bool false]⟩ w3 fun (e5 : Ending) (w6 : World) =>
  ∃ (x7 : Int), e5 = .returned (.int .i64 x7) ∧ (R (.returned (.tuple ⟨[.int .i64 x7, .int .i64 0]⟩)) w6)))
set_option maxRecDepth 100000 in
theorem e_ref12_Unclear (l_1 : Option Addr) (l_1n : Nat) (l_1c : Nat) (R : Ending → World → Prop) (w : World) : fnV Tryd.prog Tryd.f22 an_ref12_Unclear [.slice l_1 l_1n l_1c] R w = sh_ref12_Unclear l_1 l_1n l_1c R w := by kernel_rfl
theorem c_ref12_Unclear {l_1 : Option Addr} {l_1n : Nat} {l_1c : Nat} {R : Ending → World → Prop} {w : World} (h : sh_ref12_Unclear l_1 l_1n l_1c R w) : Calls Tryd.prog F_ref12_Unclear ⟨[.slice l_1 l_1n l_1c]⟩ w R := calls_of_fnV Tryd.func22 (by rw [e_ref12_Unclear]; exact h)

def an_legibility_Pairs : Ann := .two (.leaf) (.two (.two (.leaf) (.two (.leaf) (.two (.two (.leaf) (.leaf)) (.leaf)))) (.two (.leaf) (.two (.leaf) (.two (.two (.leaf) (.one (.rf [2, 3, 5, 6, 18] 0))) (.two (.leaf) (.leaf))))))
def sh_legibility_Pairs (l_1 : Option Addr) (l_1n : Nat) (l_1c : Nat) (R : Ending → World → Prop) (w : World) : Prop :=
  al w 32 [.slice none 0 0] fun p2 w3 =>
  al w3 25 [.int .i64 0] fun p4 w5 =>
  Calls Tryd.prog 48 ⟨[.slice l_1 l_1n l_1c]⟩ w5 fun (e6 : Ending) (w7 : World) =>
  ∃ (x8 : Int), e6 = .returned (.int .i64 x8) ∧ (br (decide ((x8 : Int) ≠ 0)) (stL w7 p2 0 [.slice none 0 0] fun w9 =>
  stL w9 p4 0 [.int .i64 x8] fun w10 =>
  ∃ (x11 : Option Addr) (x11n : Nat) (x11c : Nat), World.cell? w10 p2 = some (.slice x11 x11n x11c) ∧ (∃ (x12 : Int), World.cell? w10 p4 = some (.int .i64 x12) ∧ (R (.returned (.tuple ⟨[.slice x11 x11n x11c, .int .i64 x12]⟩)) w10))) (al w7 32 [.slice none 0 0] fun p13 w14 =>
  mkm w14 fun b15 w16 =>
  al w16 79 [.map none] fun p17 w18 =>
  stL w18 p17 0 [.map (some b15)] fun w19 =>
  Calls Tryd.prog 57 ⟨[.slice l_1 l_1n l_1c]⟩ w19 fun (e20 : Ending) (w21 : World) =>
  ∃ (x22 : Fn) (x22a : Array Value) (x22b : Array Value), e20 = .returned (.func x22 x22a x22b) ∧ (∀ base23 : Env, RFw Tryd.prog none 49 (cdAt Tryd.f23 [1, 1, 1, 1, 0, 1, 2]) (upd (upd (upd (upd (upd base23 18 (.func x22 x22a x22b)) 6 (.pointer (some p17))) 5 (.pointer (some p13))) 3 (.pointer (some p4))) 2 (.pointer (some p2))) [] w21 0 (fun ds24 w25 =>
  ∃ (x32 : Option Addr) (x32n : Nat) (x32c : Nat), World.cell? w25 p13 = some (.slice x32 x32n x32c) ∧ (stL w25 p2 0 [.slice x32 x32n x32c] fun w33 =>
  stL w33 p4 0 [.int .i64 0] fun w34 =>
  retD ds24 w34 fun w35 =>
  ∃ (x36 : Option Addr) (x36n : Nat) (x36c : Nat), World.cell? w35 p2 = some (.slice x36 x36n x36c) ∧ (∃ (x37 : Int), World.cell? w35 p4 = some (.int .i64 x37) ∧ (R (.returned (.tuple ⟨[.slice x36 x36n x36c, .int .i64 x37]⟩)) w35)))) (fun ds24 w25 =>
  retD ds24 w25 fun w38 =>
  ∃ (x39 : Option Addr) (x39n : Nat) (x39c : Nat), World.cell? w38 p2 = some (.slice x39 x39n x39c) ∧ (∃ (x40 : Int), World.cell? w38 p4 = some (.int .i64 x40) ∧ (R (.returned (.tuple ⟨[.slice x39 x39n x39c, .int .i64 x40]⟩)) w38))) (fun ds24 w25 =>
  ∃ (x26 : Option Addr) (x26n : Nat) (x26c : Nat), World.cell? w25 p13 = some (.slice x26 x26n x26c) ∧ (stL w25 p2 0 [.slice x26 x26n x26c] fun w27 =>
  stL w27 p4 0 [.int .i64 0] fun w28 =>
  retD ds24 w28 fun w29 =>
  ∃ (x30 : Option Addr) (x30n : Nat) (x30c : Nat), World.cell? w29 p2 = some (.slice x30 x30n x30c) ∧ (∃ (x31 : Int), World.cell? w29 p4 = some (.int .i64 x31) ∧ (R (.returned (.tuple ⟨[.slice x30 x30n x30c, .int .i64 x31]⟩)) w29)))))))
set_option maxRecDepth 100000 in
theorem e_legibility_Pairs (l_1 : Option Addr) (l_1n : Nat) (l_1c : Nat) (R : Ending → World → Prop) (w : World) : fnV Tryd.prog Tryd.f23 an_legibility_Pairs [.slice l_1 l_1n l_1c] R w = sh_legibility_Pairs l_1 l_1n l_1c R w := by kernel_rfl
theorem c_legibility_Pairs {l_1 : Option Addr} {l_1n : Nat} {l_1c : Nat} {R : Ending → World → Prop} {w : World} (h : sh_legibility_Pairs l_1 l_1n l_1c R w) : Calls Tryd.prog F_legibility_Pairs ⟨[.slice l_1 l_1n l_1c]⟩ w R := calls_of_fnV Tryd.func23 (by rw [e_legibility_Pairs]; exact h)
def anA_legibility_Pairs_1 : Ann := .leaf
def anB_legibility_Pairs_1 : Ann := .one (.two (.two (.leaf) (.two (.leaf) (.leaf))) (.two (.leaf) (.two (.two (.leaf) (.two (.two (.leaf) (.leaf)) (.leaf))) (.two (.leaf) (.two (.leaf) (.two (.two (.leaf) (.leaf)) (.leaf)))))))
def rf_legibility_Pairs_1 (t2_41 : Option Addr) (t3_42 : Option Addr) (out_43 : Option Addr) (seen_44 : Option Addr) (t18_45 : Fn) (t18_45a : Array Value) (t18_45b : Array Value) (t19_46 : Int) (t19_47 : List UInt8) (t19_48 : Int) (t19_49 : Option Addr) (t19_49n : Nat) (t19_49c : Nat) (t20_50 : Value) (l : Nat) (Kn Kr Kx : World → World → Prop) (w : World) : Prop :=
  al w 37 [.int .i64 0, .string ⟨⟨[]⟩⟩, .int .i64 0, .slice none 0 0] fun p52 w53 =>
  stL w53 p52 0 [.int .i64 t19_46, .string ⟨⟨t19_47⟩⟩, .int .i64 t19_48, .slice t19_49 t19_49n t19_49c] fun w54 =>
  Ext w w54 ∧ ∀ w51 : World, Upd l w54 w51 → (∃ (x55 : Int), World.cell? w51 (p52.add 0) = some (.int .i64 x55) ∧ (br (decide ((x55 : Int) ≠ 10)) (Kn w51 w51) (∃ (x56 : Option Addr) (x56n : Nat) (x56c : Nat), World.cell? w51 (p52.add 3) = some (.slice x56 x56n x56c) ∧ (Calls Tryd.prog 50 ⟨[.slice x56 x56n x56c]⟩ w51 fun (e57 : Ending) (w58 : World) =>
  ∃ (x59 : List UInt8), e57 = .returned (.string ⟨⟨x59⟩⟩) ∧ (Calls Tryd.prog 49 ⟨[.string ⟨⟨x59⟩⟩]⟩ w58 fun (e60 : Ending) (w61 : World) =>
  ∃ (x62 : List UInt8) (x63 : Int), e60 = .returned (.tuple ⟨[.string ⟨⟨x62⟩⟩, .int .i64 x63]⟩) ∧ (br (decide ((x63 : Int) ≠ 0)) (dr t2_41 fun p65 =>
  stL w61 p65 0 [.slice none 0 0] fun w64 =>
  dr t3_42 fun p67 =>
  stL w64 p67 0 [.int .i64 x63] fun w66 =>
  Kr w51 w66) (∃ (x68 : List UInt8), World.cell? w61 (p52.add 1) = some (.string ⟨⟨x68⟩⟩) ∧ (al w61 42 [.string ⟨⟨[]⟩⟩, .string ⟨⟨[]⟩⟩] fun p69 w70 =>
  stL w70 p69 0 [.string ⟨⟨x68⟩⟩, .string ⟨⟨x62⟩⟩] fun w71 =>
  dr seen_44 fun p72 =>
  ∃ (x73 : Value), World.cell? w71 p72 = some (x73) ∧ (∃ (x74 : List UInt8), World.cell? w71 (p69.add 0) = some (.string ⟨⟨x74⟩⟩) ∧ (∃ (x75 : List UInt8), World.cell? w71 (p69.add 1) = some (.string ⟨⟨x75⟩⟩) ∧ (∃ (x76 : Bool), lkAt Tryd.prog 79 x73 (.agg ⟨[.string ⟨⟨x74⟩⟩, .string ⟨⟨x75⟩⟩]⟩) w71 (.bool x76) ∧ (br (!x76) (dr seen_44 fun p77 =>
  ∃ (x78 : Value), World.cell? w71 p77 = some (x78) ∧ (∃ (x79 : List UInt8), World.cell? w71 (p69.add 0) = some (.string ⟨⟨x79⟩⟩) ∧ (∃ (x80 : List UInt8), World.cell? w71 (p69.add 1) = some (.string ⟨⟨x80⟩⟩) ∧ (mupd Tryd.prog 79 x78 (.agg ⟨[.string ⟨⟨x79⟩⟩, .string ⟨⟨x80⟩⟩]⟩) (.bool true) w71 fun w81 =>
  dr out_43 fun p82 =>
  ∃ (x83 : Option Addr) (x83n : Nat) (x83c : Nat), World.cell? w81 p82 = some (.slice x83 x83n x83c) ∧ (∃ (x84 : List UInt8), World.cell? w81 (p69.add 0) = some (.string ⟨⟨x84⟩⟩) ∧ (∃ (x85 : List UInt8), World.cell? w81 (p69.add 1) = some (.string ⟨⟨x85⟩⟩) ∧ (al w81 42 [.string ⟨⟨x84⟩⟩, .string ⟨⟨x85⟩⟩] fun p86 w87 =>
  app Tryd.prog [32, 32] 32 (.slice x83 x83n x83c) (.slice (some p86) 1 1) w87 fun a88 a88n a88c w89 =>
  dr out_43 fun p91 =>
  stL w89 p91 0 [.slice a88 a88n a88c] fun w90 =>
  Kn w51 w90))))))) (Kn w51 w71)))))))))))))
set_option maxRecDepth 100000 in
theorem er_legibility_Pairs_1 (base : Env) (t2_41 : Option Addr) (t3_42 : Option Addr) (out_43 : Option Addr) (seen_44 : Option Addr) (t18_45 : Fn) (t18_45a : Array Value) (t18_45b : Array Value) (t19_46 : Int) (t19_47 : List UInt8) (t19_48 : Int) (t19_49 : Option Addr) (t19_49n : Nat) (t19_49c : Nat) (t20_50 : Value) (l : Nat) (Kn Kr Kx : World → World → Prop) (w : World) : fragV Tryd.prog 49 anA_legibility_Pairs_1 anB_legibility_Pairs_1 (cdAt Tryd.f23 [1, 1, 1, 1, 0, 1, 2, 5]) (cdAt Tryd.f23 [1, 1, 1, 1, 0, 1, 2, 6]) l 0 Kn Kr Kx (updPs [19, 20] [.agg ⟨[.int .i64 t19_46, .string ⟨⟨t19_47⟩⟩, .int .i64 t19_48, .slice t19_49 t19_49n t19_49c]⟩, t20_50] (upd (upd (upd (upd (upd base 18 (.func t18_45 t18_45a t18_45b)) 6 (.pointer seen_44)) 5 (.pointer out_43)) 3 (.pointer t3_42)) 2 (.pointer t2_41))) w = rf_legibility_Pairs_1 t2_41 t3_42 out_43 seen_44 t18_45 t18_45a t18_45b t19_46 t19_47 t19_48 t19_49 t19_49n t19_49c t20_50 l Kn Kr Kx w := by kernel_rfl
theorem cd_legibility_Pairs_1 : cdAt Tryd.f23 [1, 1, 1, 1, 0, 1, 2] = .rangeFunc (Operand.tmp 18) #[19, 20] (cdAt Tryd.f23 [1, 1, 1, 1, 0, 1, 2, 5]) (cdAt Tryd.f23 [1, 1, 1, 1, 0, 1, 2, 6]) := by kernel_rfl

def an_ref12_Pairs : Ann := .two (.leaf) (.two (.two (.leaf) (.two (.leaf) (.two (.two (.leaf) (.leaf)) (.leaf)))) (.two (.leaf) (.two (.leaf) (.two (.two (.leaf) (.one (.loop 144115188075594700 [(6, .one (.slice)), (7, .one (.int .i64))] (.two (.two (.leaf) (.two (.leaf) (.leaf))) (.two (.one (.two (.two (.leaf) (.two (.two (.leaf) (.leaf)) (.leaf))) (.two (.leaf) (.two (.two (.leaf) (.one (.loop 281472829227776 [(8, .one (.bool)), (9, .one (.int .i64))] (.two (.two (.leaf) (.two (.leaf) (.leaf))) (.two (.one (.leaf)) (.leaf)))))) (.two (.leaf) (.two (.leaf) (.leaf))))))) (.leaf)))))) (.two (.leaf) (.leaf))))))
def sh_ref12_Pairs (l_1 : Option Addr) (l_1n : Nat) (l_1c : Nat) (R : Ending → World → Prop) (w : World) : Prop :=
  Calls Tryd.prog 54 ⟨[.slice l_1 l_1n l_1c]⟩ w fun (e2 : Ending) (w3 : World) =>
  ∃ (x4 : Int), e2 = .returned (.int .i64 x4) ∧ (br (decide ((x4 : Int) ≠ 0)) (R (.returned (.tuple ⟨[.slice none 0 0, .int .i64 x4]⟩)) w3) (Calls Tryd.prog 60 ⟨[.slice l_1 l_1n l_1c]⟩ w3 fun (e5 : Ending) (w6 : World) =>
  ∃ (x7 : Option Addr) (x7n : Nat) (x7c : Nat), e5 = .returned (.slice x7 x7n x7c) ∧ (al w6 42 [] fun p8 w9 =>
  ∃ (I10 : Option Addr → Nat → Nat → Int → World → Nat → Prop), (∃ m15 : Nat, I10 (some p8) 0 0 0 w9 m15) ∧ ∀ (out_11 : Option Addr) (out_11n : Nat) (out_11c : Nat) (i_12 : Int) (w13 : World) (m14 : Nat), I10 out_11 out_11n out_11c i_12 w13 m14 → ∀ _ : Env, (br (decide ((i_12 : Int) < ((x7n : Int)))) (idx x7 x7n i_12 2 fun p16 =>
  ∃ (x17 : List UInt8), World.cell? w13 (p16.add 1) = some (.string ⟨⟨x17⟩⟩) ∧ (br (decide ((65536 : Int) < ((List.length x17 : Int)))) (R (.returned (.tuple ⟨[.slice none 0 0, .int .i64 4]⟩)) w13) (∃ (I18 : Bool → Int → World → Nat → Prop), (∃ m23 : Nat, I18 false 0 w13 m23) ∧ ∀ (found_19 : Bool) (k_20 : Int) (w21 : World) (m22 : Nat), I18 found_19 k_20 w21 m22 → ∀ _ : Env, (br (decide ((k_20 : Int) < i_12)) (drw w21 fun w24 =>
  br found_19 (∃ m25 : Nat, m25 < m22 ∧ I18 true (IntKind.i64.wrap (k_20 + 1)) w24 m25) (idx x7 x7n k_20 2 fun p26 =>
  ∃ (x27 : List UInt8), World.cell? w24 (p26.add 0) = some (.string ⟨⟨x27⟩⟩) ∧ (∃ (x28 : List UInt8), World.cell? w24 (p26.add 1) = some (.string ⟨⟨x28⟩⟩) ∧ (idx x7 x7n i_12 2 fun p29 =>
  ∃ (x30 : List UInt8), World.cell? w24 (p29.add 0) = some (.string ⟨⟨x30⟩⟩) ∧ (∃ (x31 : List UInt8), World.cell? w24 (p29.add 1) = some (.string ⟨⟨x31⟩⟩) ∧ (∃ m32 : Nat, m32 < m22 ∧ I18 ((decide ((x27 : List UInt8) = x30) && (decide ((x28 : List UInt8) = x31) && true))) (IntKind.i64.wrap (k_20 + 1)) w24 m32)))))) (br (!found_19) (idx x7 x7n i_12 2 fun p33 =>
  ∃ (x34 : List UInt8), World.cell? w21 (p33.add 0) = some (.string ⟨⟨x34⟩⟩) ∧ (∃ (x35 : List UInt8), World.cell? w21 (p33.add 1) = some (.string ⟨⟨x35⟩⟩) ∧ (al w21 42 [.string ⟨⟨x34⟩⟩, .string ⟨⟨x35⟩⟩] fun p36 w37 =>
  app Tryd.prog [32, 32] 32 (.slice out_11 out_11n out_11c) (.slice (some p36) 1 1) w37 fun a38 a38n a38c w39 =>
  ∃ m40 : Nat, m40 < m14 ∧ I10 a38 a38n a38c (IntKind.i64.wrap (i_12 + 1)) w39 m40))) (∃ m41 : Nat, m41 < m14 ∧ I10 out_11 out_11n out_11c (IntKind.i64.wrap (i_12 + 1)) w21 m41)))))) (R (.returned (.tuple ⟨[.slice out_11 out_11n out_11c, .int .i64 0]⟩)) w13)))))
set_option maxRecDepth 100000 in
theorem e_ref12_Pairs (l_1 : Option Addr) (l_1n : Nat) (l_1c : Nat) (R : Ending → World → Prop) (w : World) : fnV Tryd.prog Tryd.f24 an_ref12_Pairs [.slice l_1 l_1n l_1c] R w = sh_ref12_Pairs l_1 l_1n l_1c R w := by kernel_rfl
theorem c_ref12_Pairs {l_1 : Option Addr} {l_1n : Nat} {l_1c : Nat} {R : Ending → World → Prop} {w : World} (h : sh_ref12_Pairs l_1 l_1n l_1c R w) : Calls Tryd.prog F_ref12_Pairs ⟨[.slice l_1 l_1n l_1c]⟩ w R := calls_of_fnV Tryd.func24 (by rw [e_ref12_Pairs]; exact h)

def an_ref12_SameRewrites : Ann := .two (.leaf) (.two (.two (.leaf) (.two (.two (.leaf) (.leaf)) (.leaf))) (.two (.two (.leaf) (.one (.loop 67106864 [(5, .one (.int .i64))] (.two (.two (.leaf) (.two (.leaf) (.leaf))) (.two (.one (.two (.leaf) (.two (.two (.leaf) (.leaf)) (.leaf)))) (.leaf)))))) (.two (.leaf) (.leaf))))
def sh_ref12_SameRewrites (a_1 : Option Addr) (a_1n : Nat) (a_1c : Nat) (b_2 : Option Addr) (b_2n : Nat) (b_2c : Nat) (R : Ending → World → Prop) (w : World) : Prop :=
  br (decide ((((a_1n : Int)) : Int) ≠ ((b_2n : Int)))) (R (.returned (.bool false)) w) (∃ (I3 : Int → World → Nat → Prop), (∃ m7 : Nat, I3 0 w m7) ∧ ∀ (i_4 : Int) (w5 : World) (m6 : Nat), I3 i_4 w5 m6 → ∀ _ : Env, (br (decide ((i_4 : Int) < ((a_1n : Int)))) (drw w5 fun w8 =>
  idx a_1 a_1n i_4 2 fun p9 =>
  ∃ (x10 : List UInt8), World.cell? w8 (p9.add 0) = some (.string ⟨⟨x10⟩⟩) ∧ (∃ (x11 : List UInt8), World.cell? w8 (p9.add 1) = some (.string ⟨⟨x11⟩⟩) ∧ (idx b_2 b_2n i_4 2 fun p12 =>
  ∃ (x13 : List UInt8), World.cell? w8 (p12.add 0) = some (.string ⟨⟨x13⟩⟩) ∧ (∃ (x14 : List UInt8), World.cell? w8 (p12.add 1) = some (.string ⟨⟨x14⟩⟩) ∧ (br (!(decide ((x10 : List UInt8) = x13) && (decide ((x11 : List UInt8) = x14) && true))) (R (.returned (.bool false)) w8) (∃ m15 : Nat, m15 < m6 ∧ I3 (IntKind.i64.wrap (i_4 + 1)) w8 m15)))))) (R (.returned (.bool true)) w5)))
set_option maxRecDepth 100000 in
theorem e_ref12_SameRewrites (a_1 : Option Addr) (a_1n : Nat) (a_1c : Nat) (b_2 : Option Addr) (b_2n : Nat) (b_2c : Nat) (R : Ending → World → Prop) (w : World) : fnV Tryd.prog Tryd.f25 an_ref12_SameRewrites [.slice a_1 a_1n a_1c, .slice b_2 b_2n b_2c] R w = sh_ref12_SameRewrites a_1 a_1n a_1c b_2 b_2n b_2c R w := by kernel_rfl
theorem c_ref12_SameRewrites {a_1 : Option Addr} {a_1n : Nat} {a_1c : Nat} {b_2 : Option Addr} {b_2n : Nat} {b_2c : Nat} {R : Ending → World → Prop} {w : World} (h : sh_ref12_SameRewrites a_1 a_1n a_1c b_2 b_2n b_2c R w) : Calls Tryd.prog F_ref12_SameRewrites ⟨[.slice a_1 a_1n a_1c, .slice b_2 b_2n b_2c]⟩ w R := calls_of_fnV Tryd.func25 (by rw [e_ref12_SameRewrites]; exact h)

def an_transcript_Characters : Ann := .two (.leaf) (.two (.two (.leaf) (.two (.two (.leaf) (.leaf)) (.leaf))) (.two (.leaf) (.two (.two (.leaf) (.one (.rf [2, 3, 4, 10] 0))) (.two (.leaf) (.leaf)))))
def sh_transcript_Characters (l_1 : Option Addr) (l_1n : Nat) (l_1c : Nat) (R : Ending → World → Prop) (w : World) : Prop :=
  Calls Tryd.prog 34 ⟨[.slice l_1 l_1n l_1c]⟩ w fun (e2 : Ending) (w3 : World) =>
  ∃ (x4 : Int), e2 = .returned (.int .i64 x4) ∧ (br (decide ((x4 : Int) ≠ 0)) (R (.returned (.tuple ⟨[.string ⟨⟨[]⟩⟩, .int .i64 1]⟩)) w3) (al w3 84 [.pointer none, .slice none 0 0] fun p5 w6 =>
  Calls Tryd.prog 52 ⟨[.slice l_1 l_1n l_1c]⟩ w6 fun (e7 : Ending) (w8 : World) =>
  ∃ (x9 : Fn) (x9a : Array Value) (x9b : Array Value), e7 = .returned (.func x9 x9a x9b) ∧ (∀ base10 : Env, RFw Tryd.prog none 21 (cdAt Tryd.f26 [1, 1, 1, 0, 1, 2]) (upd (upd (upd (upd base10 10 (.func x9 x9a x9b)) 4 (.pointer (some p5))) 3 (.int .i64 0)) 2 (.string ⟨⟨[]⟩⟩)) [] w8 0 (fun ds11 w12 =>
  Calls Tryd.prog 62 ⟨[.pointer (some p5)]⟩ w12 fun (e17 : Ending) (w18 : World) =>
  ∃ (x19 : List UInt8), e17 = .returned (.string ⟨⟨x19⟩⟩) ∧ (retD ds11 w18 fun w20 =>
  R (.returned (.tuple ⟨[.string ⟨⟨x19⟩⟩, .int .i64 0]⟩)) w20)) (fun ds11 w12 =>
  retD ds11 w12 fun w21 =>
  R (.returned (.tuple ⟨[.string ⟨⟨[]⟩⟩, .int .i64 0]⟩)) w21) (fun ds11 w12 =>
  Calls Tryd.prog 62 ⟨[.pointer (some p5)]⟩ w12 fun (e13 : Ending) (w14 : World) =>
  ∃ (x15 : List UInt8), e13 = .returned (.string ⟨⟨x15⟩⟩) ∧ (retD ds11 w14 fun w16 =>
  R (.returned (.tuple ⟨[.string ⟨⟨x15⟩⟩, .int .i64 0]⟩)) w16)))))
set_option maxRecDepth 100000 in
theorem e_transcript_Characters (l_1 : Option Addr) (l_1n : Nat) (l_1c : Nat) (R : Ending → World → Prop) (w : World) : fnV Tryd.prog Tryd.f26 an_transcript_Characters [.slice l_1 l_1n l_1c] R w = sh_transcript_Characters l_1 l_1n l_1c R w := by kernel_rfl
theorem c_transcript_Characters {l_1 : Option Addr} {l_1n : Nat} {l_1c : Nat} {R : Ending → World → Prop} {w : World} (h : sh_transcript_Characters l_1 l_1n l_1c R w) : Calls Tryd.prog F_transcript_Characters ⟨[.slice l_1 l_1n l_1c]⟩ w R := calls_of_fnV Tryd.func26 (by rw [e_transcript_Characters]; exact h)
def anA_transcript_Characters_1 : Ann := .leaf
def anB_transcript_Characters_1 : Ann := .one (.two (.leaf) (.two (.leaf) (.leaf)))
def rf_transcript_Characters_1 (t2_22 : List UInt8) (t3_23 : Int) (out_24 : Option Addr) (t10_25 : Fn) (t10_25a : Array Value) (t10_25b : Array Value) (t11_26 : Int) (t11_27 : List UInt8) (t11_28 : Int) (t11_29 : Option Addr) (t11_29n : Nat) (t11_29c : Nat) (t11_30 : Int) (t11_31 : Bool) (l : Nat) (Kn Kr Kx : World → World → Prop) (w : World) : Prop :=
  al w 72 [.int .i64 0, .string ⟨⟨[]⟩⟩, .int .i64 0, .slice none 0 0, .int .i64 0, .bool false] fun p33 w34 =>
  stL w34 p33 0 [.int .i64 t11_26, .string ⟨⟨t11_27⟩⟩, .int .i64 t11_28, .slice t11_29 t11_29n t11_29c, .int .i64 t11_30, .bool t11_31] fun w35 =>
  Ext w w35 ∧ ∀ w32 : World, Upd l w35 w32 → (∃ (x36 : Int), World.cell? w32 ((p33.add 0).add 0) = some (.int .i64 x36) ∧ (br (decide ((x36 : Int) = 1)) (∃ (x37 : List UInt8), World.cell? w32 ((p33.add 0).add 1) = some (.string ⟨⟨x37⟩⟩) ∧ (Calls Tryd.prog 61 ⟨[.pointer out_24, .string ⟨⟨x37⟩⟩]⟩ w32 fun (e38 : Ending) (w39 : World) =>
  ∃ (x40 : Int) (x41 : Value), e38 = .returned (.tuple ⟨[.int .i64 x40, x41]⟩) ∧ (Kn w32 w39))) (Kn w32 w32)))
set_option maxRecDepth 100000 in
theorem er_transcript_Characters_1 (base : Env) (t2_22 : List UInt8) (t3_23 : Int) (out_24 : Option Addr) (t10_25 : Fn) (t10_25a : Array Value) (t10_25b : Array Value) (t11_26 : Int) (t11_27 : List UInt8) (t11_28 : Int) (t11_29 : Option Addr) (t11_29n : Nat) (t11_29c : Nat) (t11_30 : Int) (t11_31 : Bool) (l : Nat) (Kn Kr Kx : World → World → Prop) (w : World) : fragV Tryd.prog 21 anA_transcript_Characters_1 anB_transcript_Characters_1 (cdAt Tryd.f26 [1, 1, 1, 0, 1, 2, 5]) (cdAt Tryd.f26 [1, 1, 1, 0, 1, 2, 6]) l 0 Kn Kr Kx (updPs [11] [.agg ⟨[.int .i64 t11_26, .string ⟨⟨t11_27⟩⟩, .int .i64 t11_28, .slice t11_29 t11_29n t11_29c, .int .i64 t11_30, .bool t11_31]⟩] (upd (upd (upd (upd base 10 (.func t10_25 t10_25a t10_25b)) 4 (.pointer out_24)) 3 (.int .i64 t3_23)) 2 (.string ⟨⟨t2_22⟩⟩))) w = rf_transcript_Characters_1 t2_22 t3_23 out_24 t10_25 t10_25a t10_25b t11_26 t11_27 t11_28 t11_29 t11_29n t11_29c t11_30 t11_31 l Kn Kr Kx w := by kernel_rfl
theorem cd_transcript_Characters_1 : cdAt Tryd.f26 [1, 1, 1, 0, 1, 2] = .rangeFunc (Operand.tmp 10) #[11] (cdAt Tryd.f26 [1, 1, 1, 0, 1, 2, 5]) (cdAt Tryd.f26 [1, 1, 1, 0, 1, 2, 6]) := by kernel_rfl

def an_legibility_Conflicts : Ann := .two (.leaf) (.two (.two (.leaf) (.two (.two (.leaf) (.leaf)) (.leaf))) (.two (.leaf) (.two (.leaf) (.two (.two (.leaf) (.one (.loop 562949953161024 [(6, .one (.slice)), (18, .one (.int .i64))] (.two (.leaf) (.two (.two (.leaf) (.leaf)) (.two (.one (.two (.leaf) (.two (.leaf) (.two (.leaf) (.two (.two (.leaf) (.leaf)) (.two (.leaf) (.two (.leaf) (.leaf)))))))) (.leaf))))))) (.two (.leaf) (.leaf))))))
def sh_legibility_Conflicts (l_1 : Option Addr) (l_1n : Nat) (l_1c : Nat) (R : Ending → World → Prop) (w : World) : Prop :=
  br (decide ((4096 : Int) < ((l_1n : Int)))) (R (.returned (.tuple ⟨[.slice none 0 0, .int .i64 4]⟩)) w) (mkm w fun b2 w3 =>
  mkm w3 fun b4 w5 =>
  al w5 91 [.map none] fun p6 w7 =>
  stL w7 p6 0 [.map (some b4)] fun w8 =>
  ∃ (I9 : Option Addr → Nat → Nat → Int → World → Nat → Prop), (∃ m14 : Nat, I9 none 0 0 0 w8 m14) ∧ ∀ (order_10 : Option Addr) (order_10n : Nat) (order_10c : Nat) (t18_11 : Int) (w12 : World) (m13 : Nat), I9 order_10 order_10n order_10c t18_11 w12 m13 → ∀ _ : Env, (br (decide ((t18_11 : Int) < ((l_1n : Int)))) (idx l_1 l_1n t18_11 2 fun p15 =>
  ∃ (x16 : List UInt8), World.cell? w12 (p15.add 0) = some (.string ⟨⟨x16⟩⟩) ∧ (∃ (x17 : List UInt8), World.cell? w12 (p15.add 1) = some (.string ⟨⟨x17⟩⟩) ∧ (al w12 42 [.string ⟨⟨[]⟩⟩, .string ⟨⟨[]⟩⟩] fun p18 w19 =>
  stL w19 p18 0 [.string ⟨⟨x16⟩⟩, .string ⟨⟨x17⟩⟩] fun w20 =>
  ∃ (x21 : List UInt8), World.cell? w20 (p18.add 0) = some (.string ⟨⟨x21⟩⟩) ∧ (∃ (x22 : List UInt8), ∃ (b23 : Bool), lkAt2 Tryd.prog 90 (.map (some b2)) (.string ⟨⟨x21⟩⟩) w20 (.string ⟨⟨x22⟩⟩) b23 ∧ (br (!b23) (∃ (x24 : List UInt8), World.cell? w20 (p18.add 0) = some (.string ⟨⟨x24⟩⟩) ∧ (∃ (x25 : List UInt8), World.cell? w20 (p18.add 1) = some (.string ⟨⟨x25⟩⟩) ∧ (mupd Tryd.prog 90 (.map (some b2)) (.string ⟨⟨x24⟩⟩) (.string ⟨⟨x25⟩⟩) w20 fun w26 =>
  ∃ (x27 : List UInt8), World.cell? w26 (p18.add 0) = some (.string ⟨⟨x27⟩⟩) ∧ (al w26 9 [.string ⟨⟨x27⟩⟩] fun p28 w29 =>
  app Tryd.prog [38, 38] 38 (.slice order_10 order_10n order_10c) (.slice (some p28) 1 1) w29 fun a30 a30n a30c w31 =>
  ∃ m32 : Nat, m32 < m13 ∧ I9 a30 a30n a30c (IntKind.i64.wrap (t18_11 + 1)) w31 m32)))) (∃ (x33 : List UInt8), World.cell? w20 (p18.add 1) = some (.string ⟨⟨x33⟩⟩) ∧ (br (decide ((x22 : List UInt8) ≠ x33)) (∃ (x34 : Value), World.cell? w20 p6 = some (x34) ∧ (∃ (x35 : List UInt8), World.cell? w20 (p18.add 0) = some (.string ⟨⟨x35⟩⟩) ∧ (mupd Tryd.prog 91 x34 (.string ⟨⟨x35⟩⟩) (.bool true) w20 fun w36 =>
  ∃ m37 : Nat, m37 < m13 ∧ I9 order_10 order_10n order_10c (IntKind.i64.wrap (t18_11 + 1)) w36 m37))) (∃ m38 : Nat, m38 < m13 ∧ I9 order_10 order_10n order_10c (IntKind.i64.wrap (t18_11 + 1)) w20 m38)))))))) (Calls Tryd.prog 63 ⟨[.slice order_10 order_10n order_10c, .func (.func 64) ⟨[]⟩ ⟨[.pointer (some p6)]⟩]⟩ w12 fun (e39 : Ending) (w40 : World) =>
  ∃ (x41 : Option Addr) (x41n : Nat) (x41c : Nat), e39 = .returned (.slice x41 x41n x41c) ∧ (R (.returned (.tuple ⟨[.slice x41 x41n x41c, .int .i64 0]⟩)) w40))))
set_option maxRecDepth 100000 in
theorem e_legibility_Conflicts (l_1 : Option Addr) (l_1n : Nat) (l_1c : Nat) (R : Ending → World → Prop) (w : World) : fnV Tryd.prog Tryd.f27 an_legibility_Conflicts [.slice l_1 l_1n l_1c] R w = sh_legibility_Conflicts l_1 l_1n l_1c R w := by kernel_rfl
theorem c_legibility_Conflicts {l_1 : Option Addr} {l_1n : Nat} {l_1c : Nat} {R : Ending → World → Prop} {w : World} (h : sh_legibility_Conflicts l_1 l_1n l_1c R w) : Calls Tryd.prog F_legibility_Conflicts ⟨[.slice l_1 l_1n l_1c]⟩ w R := calls_of_fnV Tryd.func27 (by rw [e_legibility_Conflicts]; exact h)

def an_slices_Contains_of_string_string : Ann := .two (.leaf) (.two (.leaf) (.leaf))
def sh_slices_Contains_of_string_string (s_1 : Option Addr) (s_1n : Nat) (s_1c : Nat) (v_2 : List UInt8) (R : Ending → World → Prop) (w : World) : Prop :=
  Calls Tryd.prog 65 ⟨[.slice s_1 s_1n s_1c, .string ⟨⟨v_2⟩⟩]⟩ w fun (e3 : Ending) (w4 : World) =>
  ∃ (x5 : Int), e3 = .returned (.int .i64 x5) ∧ (R (.returned (.bool (decide ((0 : Int) ≤ x5)))) w4)
set_option maxRecDepth 100000 in
theorem e_slices_Contains_of_string_string (s_1 : Option Addr) (s_1n : Nat) (s_1c : Nat) (v_2 : List UInt8) (R : Ending → World → Prop) (w : World) : fnV Tryd.prog Tryd.f28 an_slices_Contains_of_string_string [.slice s_1 s_1n s_1c, .string ⟨⟨v_2⟩⟩] R w = sh_slices_Contains_of_string_string s_1 s_1n s_1c v_2 R w := by kernel_rfl
theorem c_slices_Contains_of_string_string {s_1 : Option Addr} {s_1n : Nat} {s_1c : Nat} {v_2 : List UInt8} {R : Ending → World → Prop} {w : World} (h : sh_slices_Contains_of_string_string s_1 s_1n s_1c v_2 R w) : Calls Tryd.prog F_slices_Contains_of_string_string ⟨[.slice s_1 s_1n s_1c, .string ⟨⟨v_2⟩⟩]⟩ w R := calls_of_fnV Tryd.func28 (by rw [e_slices_Contains_of_string_string]; exact h)

def an_slices_ContainsFunc_of_api_Rewrite_api_Rewrite : Ann := .two (.leaf) (.two (.leaf) (.leaf))
def sh_slices_ContainsFunc_of_api_Rewrite_api_Rewrite (s_1 : Option Addr) (s_1n : Nat) (s_1c : Nat) (f_2 : Fn) (f_2a : Array Value) (f_2b : Array Value) (R : Ending → World → Prop) (w : World) : Prop :=
  Calls Tryd.prog 66 ⟨[.slice s_1 s_1n s_1c, .func f_2 f_2a f_2b]⟩ w fun (e3 : Ending) (w4 : World) =>
  ∃ (x5 : Int), e3 = .returned (.int .i64 x5) ∧ (R (.returned (.bool (decide ((0 : Int) ≤ x5)))) w4)
set_option maxRecDepth 100000 in
theorem e_slices_ContainsFunc_of_api_Rewrite_api_Rewrite (s_1 : Option Addr) (s_1n : Nat) (s_1c : Nat) (f_2 : Fn) (f_2a : Array Value) (f_2b : Array Value) (R : Ending → World → Prop) (w : World) : fnV Tryd.prog Tryd.f29 an_slices_ContainsFunc_of_api_Rewrite_api_Rewrite [.slice s_1 s_1n s_1c, .func f_2 f_2a f_2b] R w = sh_slices_ContainsFunc_of_api_Rewrite_api_Rewrite s_1 s_1n s_1c f_2 f_2a f_2b R w := by kernel_rfl
theorem c_slices_ContainsFunc_of_api_Rewrite_api_Rewrite {s_1 : Option Addr} {s_1n : Nat} {s_1c : Nat} {f_2 : Fn} {f_2a : Array Value} {f_2b : Array Value} {R : Ending → World → Prop} {w : World} (h : sh_slices_ContainsFunc_of_api_Rewrite_api_Rewrite s_1 s_1n s_1c f_2 f_2a f_2b R w) : Calls Tryd.prog F_slices_ContainsFunc_of_api_Rewrite_api_Rewrite ⟨[.slice s_1 s_1n s_1c, .func f_2 f_2a f_2b]⟩ w R := calls_of_fnV Tryd.func29 (by rw [e_slices_ContainsFunc_of_api_Rewrite_api_Rewrite]; exact h)

def an_law12_LegibilityPairs_1 : Ann := .two (.leaf) (.two (.leaf) (.leaf))
def sh_law12_LegibilityPairs_1 (p_1 : List UInt8) (p_2 : List UInt8) (t1_3 : Option Addr) (R : Ending → World → Prop) (w : World) : Prop :=
  al w 42 [.string ⟨⟨p_1⟩⟩, .string ⟨⟨p_2⟩⟩] fun p4 w5 =>
  ∃ (x6 : List UInt8), World.cell? w5 (p4.add 0) = some (.string ⟨⟨x6⟩⟩) ∧ (dr t1_3 fun p7 =>
  ∃ (x8 : List UInt8), World.cell? w5 p7 = some (.string ⟨⟨x8⟩⟩) ∧ (R (.returned (.bool (decide ((x6 : List UInt8) = x8)))) w5))
set_option maxRecDepth 100000 in
theorem e_law12_LegibilityPairs_1 (p_1 : List UInt8) (p_2 : List UInt8) (t1_3 : Option Addr) (R : Ending → World → Prop) (w : World) : fnV Tryd.prog Tryd.f30 an_law12_LegibilityPairs_1 [.agg ⟨[.string ⟨⟨p_1⟩⟩, .string ⟨⟨p_2⟩⟩]⟩, .pointer t1_3] R w = sh_law12_LegibilityPairs_1 p_1 p_2 t1_3 R w := by kernel_rfl
theorem c_law12_LegibilityPairs_1 {p_1 : List UInt8} {p_2 : List UInt8} {t1_3 : Option Addr} {R : Ending → World → Prop} {w : World} (h : sh_law12_LegibilityPairs_1 p_1 p_2 t1_3 R w) : Calls Tryd.prog F_law12_LegibilityPairs_1 ⟨[.agg ⟨[.string ⟨⟨p_1⟩⟩, .string ⟨⟨p_2⟩⟩]⟩, .pointer t1_3]⟩ w R := calls_of_fnV Tryd.func30 (by rw [e_law12_LegibilityPairs_1]; exact h)

def an_ref12_GreatRewrites : Ann := .two (.leaf) (.two (.two (.leaf) (.two (.two (.leaf) (.leaf)) (.leaf))) (.two (.two (.leaf) (.one (.loop 140737488355212 [(3, .one (.int .i64))] (.two (.two (.leaf) (.two (.leaf) (.leaf))) (.two (.one (.two (.leaf) (.two (.two (.leaf) (.leaf)) (.leaf)))) (.leaf)))))) (.two (.leaf) (.leaf))))
def sh_ref12_GreatRewrites (l_1 : Option Addr) (l_1n : Nat) (l_1c : Nat) (R : Ending → World → Prop) (w : World) : Prop :=
  br (decide ((4099 : Int) < ((l_1n : Int)))) (R (.returned (.bool true)) w) (∃ (I2 : Int → World → Nat → Prop), (∃ m6 : Nat, I2 0 w m6) ∧ ∀ (i_3 : Int) (w4 : World) (m5 : Nat), I2 i_3 w4 m5 → ∀ _ : Env, (br (decide ((i_3 : Int) < ((l_1n : Int)))) (idx l_1 l_1n i_3 2 fun p7 =>
  ∃ (x8 : List UInt8), World.cell? w4 (p7.add 0) = some (.string ⟨⟨x8⟩⟩) ∧ (br (decide ((30 : Int) < ((List.length x8 : Int)))) (R (.returned (.bool true)) w4) (idx l_1 l_1n i_3 2 fun p9 =>
  ∃ (x10 : List UInt8), World.cell? w4 (p9.add 1) = some (.string ⟨⟨x10⟩⟩) ∧ (br (decide ((30 : Int) < ((List.length x10 : Int)))) (R (.returned (.bool true)) w4) (br (decide ((8 : Int) < ((l_1n : Int)))) (br (decide ((((l_1n : Int)) : Int) ≤ 4096)) (R (.returned (.bool true)) w4) (idx l_1 l_1n i_3 2 fun p11 =>
  ∃ (x12 : List UInt8), World.cell? w4 (p11.add 0) = some (.string ⟨⟨x12⟩⟩) ∧ (∃ (x13 : List UInt8), World.cell? w4 (p11.add 1) = some (.string ⟨⟨x13⟩⟩) ∧ (br (!(decide ((x12 : List UInt8) = ([])) && (decide ((x13 : List UInt8) = ([])) && true))) (R (.returned (.bool true)) w4) (∃ m14 : Nat, m14 < m5 ∧ I2 (IntKind.i64.wrap (i_3 + 1)) w4 m14))))) (∃ m15 : Nat, m15 < m5 ∧ I2 (IntKind.i64.wrap (i_3 + 1)) w4 m15)))))) (R (.returned (.bool false)) w4)))
set_option maxRecDepth 100000 in
theorem e_ref12_GreatRewrites (l_1 : Option Addr) (l_1n : Nat) (l_1c : Nat) (R : Ending → World → Prop) (w : World) : fnV Tryd.prog Tryd.f31 an_ref12_GreatRewrites [.slice l_1 l_1n l_1c] R w = sh_ref12_GreatRewrites l_1 l_1n l_1c R w := by kernel_rfl
theorem c_ref12_GreatRewrites {l_1 : Option Addr} {l_1n : Nat} {l_1c : Nat} {R : Ending → World → Prop} {w : World} (h : sh_ref12_GreatRewrites l_1 l_1n l_1c R w) : Calls Tryd.prog F_ref12_GreatRewrites ⟨[.slice l_1 l_1n l_1c]⟩ w R := calls_of_fnV Tryd.func31 (by rw [e_ref12_GreatRewrites]; exact h)

def an_legibility_Expand : Ann := .two (.leaf) (.two (.two (.leaf) (.two (.leaf) (.two (.two (.leaf) (.leaf)) (.leaf)))) (.two (.two (.leaf) (.two (.two (.leaf) (.leaf)) (.leaf))) (.two (.leaf) (.two (.two (.leaf) (.one (.loop 1152921504539741744 [(26, .one (.int .i64))] (.two (.leaf) (.two (.two (.leaf) (.leaf)) (.two (.one (.two (.leaf) (.cut 35183298347056 [] (.two (.leaf) (.two (.two (.leaf) (.leaf)) (.leaf))) (.two (.leaf) (.two (.leaf) (.two (.leaf) (.leaf))))))) (.leaf))))))) (.two (.leaf) (.two (.leaf) (.two (.leaf) (.two (.two (.leaf) (.two (.leaf) (.two (.two (.leaf) (.leaf)) (.leaf)))) (.two (.leaf) (.leaf))))))))))
def sh_legibility_Expand (l_1 : Option Addr) (l_1n : Nat) (l_1c : Nat) (pairs_2 : Option Addr) (pairs_2n : Nat) (pairs_2c : Nat) (R : Ending → World → Prop) (w : World) : Prop :=
  Calls Tryd.prog 48 ⟨[.slice l_1 l_1n l_1c]⟩ w fun (e3 : Ending) (w4 : World) =>
  ∃ (x5 : Int), e3 = .returned (.int .i64 x5) ∧ (br (decide ((x5 : Int) ≠ 0)) (R (.returned (.tuple ⟨[.slice none 0 0, .int .i64 x5]⟩)) w4) (br (decide ((4096 : Int) < ((pairs_2n : Int)))) (R (.returned (.tuple ⟨[.slice none 0 0, .int .i64 4]⟩)) w4) (mkm w4 fun b6 w7 =>
  al w7 90 [.map none] fun p8 w9 =>
  stL w9 p8 0 [.map (some b6)] fun w10 =>
  ∃ (I11 : Int → World → Nat → Prop), (∃ m15 : Nat, I11 0 w10 m15) ∧ ∀ (t26_12 : Int) (w13 : World) (m14 : Nat), I11 t26_12 w13 m14 → ∀ _ : Env, (br (decide ((t26_12 : Int) < ((pairs_2n : Int)))) (idx pairs_2 pairs_2n t26_12 2 fun p16 =>
  ∃ (x17 : List UInt8), World.cell? w13 (p16.add 0) = some (.string ⟨⟨x17⟩⟩) ∧ (∃ (x18 : List UInt8), World.cell? w13 (p16.add 1) = some (.string ⟨⟨x18⟩⟩) ∧ (al w13 42 [.string ⟨⟨[]⟩⟩, .string ⟨⟨[]⟩⟩] fun p19 w20 =>
  stL w20 p19 0 [.string ⟨⟨x17⟩⟩, .string ⟨⟨x18⟩⟩] fun w21 =>
  ∀ (K22 : World → Prop), (∀  (w23 : World), (∀ _ : Env, (∃ (x24 : Value), World.cell? w23 p8 = some (x24) ∧ (∃ (x25 : List UInt8), World.cell? w23 (p19.add 0) = some (.string ⟨⟨x25⟩⟩) ∧ (∃ (x26 : List UInt8), ∃ (b27 : Bool), lkAt2 Tryd.prog 90 x24 (.string ⟨⟨x25⟩⟩) w23 (.string ⟨⟨x26⟩⟩) b27 ∧ (br (!b27) (∃ (x28 : Value), World.cell? w23 p8 = some (x28) ∧ (∃ (x29 : List UInt8), World.cell? w23 (p19.add 0) = some (.string ⟨⟨x29⟩⟩) ∧ (∃ (x30 : List UInt8), World.cell? w23 (p19.add 1) = some (.string ⟨⟨x30⟩⟩) ∧ (mupd Tryd.prog 90 x28 (.string ⟨⟨x29⟩⟩) (.string ⟨⟨x30⟩⟩) w23 fun w31 =>
  ∃ m32 : Nat, m32 < m14 ∧ I11 (IntKind.i64.wrap (t26_12 + 1)) w31 m32)))) (∃ m33 : Nat, m33 < m14 ∧ I11 (IntKind.i64.wrap (t26_12 + 1)) w23 m33)))))) → K22 w23) → (∃ (x34 : List UInt8), World.cell? w21 (p19.add 0) = some (.string ⟨⟨x34⟩⟩) ∧ (Calls Tryd.prog 67 ⟨[.string ⟨⟨x34⟩⟩]⟩ w21 fun (e35 : Ending) (w36 : World) =>
  ∃ (x37 : Bool), e35 = .returned (.bool x37) ∧ (br (!x37) (R (.returned (.tuple ⟨[.slice none 0 0, .int .i64 24]⟩)) w36) (∃ (x38 : List UInt8), World.cell? w36 (p19.add 1) = some (.string ⟨⟨x38⟩⟩) ∧ (br (decide ((x38 : List UInt8) = ([]))) (R (.returned (.tuple ⟨[.slice none 0 0, .int .i64 24]⟩)) w36) (∃ (x39 : List UInt8), World.cell? w36 (p19.add 1) = some (.string ⟨⟨x39⟩⟩) ∧ (Calls Tryd.prog 68 ⟨[.string ⟨⟨x39⟩⟩]⟩ w36 fun (e40 : Ending) (w41 : World) =>
  ∃ (x42 : Int), e40 = .returned (.int .i64 x42) ∧ (br (decide ((x42 : Int) ≠ 0)) (R (.returned (.tuple ⟨[.slice none 0 0, .int .i64 24]⟩)) w41) (K22 w41)))))))))))) (al w13 97 [.nilFunc] fun p43 w44 =>
  stL w44 p43 0 [.func (.func 69) ⟨[]⟩ ⟨[.pointer (some p43), .pointer (some p8)]⟩] fun w45 =>
  ∃ (x46 : Fn) (x46a : Array Value) (x46b : Array Value), World.cell? w45 p43 = some (.func x46 x46a x46b) ∧ (CallV Tryd.prog (.func x46 x46a x46b) [.slice l_1 l_1n l_1c] w45 fun (e47 : Ending) (w48 : World) =>
  ∃ (x49 : Option Addr) (x49n : Nat) (x49c : Nat), e47 = .returned (.slice x49 x49n x49c) ∧ (Calls Tryd.prog 34 ⟨[.slice x49 x49n x49c]⟩ w48 fun (e50 : Ending) (w51 : World) =>
  ∃ (x52 : Int), e50 = .returned (.int .i64 x52) ∧ (br (decide ((x52 : Int) ≠ 0)) (R (.returned (.tuple ⟨[.slice none 0 0, .int .i64 x52]⟩)) w51) (R (.returned (.tuple ⟨[.slice x49 x49n x49c, .int .i64 0]⟩)) w51)))))))))
set_option maxRecDepth 100000 in
theorem e_legibility_Expand (l_1 : Option Addr) (l_1n : Nat) (l_1c : Nat) (pairs_2 : Option Addr) (pairs_2n : Nat) (pairs_2c : Nat) (R : Ending → World → Prop) (w : World) : fnV Tryd.prog Tryd.f32 an_legibility_Expand [.slice l_1 l_1n l_1c, .slice pairs_2 pairs_2n pairs_2c] R w = sh_legibility_Expand l_1 l_1n l_1c pairs_2 pairs_2n pairs_2c R w := by kernel_rfl
theorem c_legibility_Expand {l_1 : Option Addr} {l_1n : Nat} {l_1c : Nat} {pairs_2 : Option Addr} {pairs_2n : Nat} {pairs_2c : Nat} {R : Ending → World → Prop} {w : World} (h : sh_legibility_Expand l_1 l_1n l_1c pairs_2 pairs_2n pairs_2c R w) : Calls Tryd.prog F_legibility_Expand ⟨[.slice l_1 l_1n l_1c, .slice pairs_2 pairs_2n pairs_2c]⟩ w R := calls_of_fnV Tryd.func32 (by rw [e_legibility_Expand]; exact h)

def an_ref10_Same : Ann := .two (.leaf) (.two (.two (.leaf) (.two (.two (.leaf) (.leaf)) (.leaf))) (.two (.two (.leaf) (.one (.loop 295147905179352823856 [(5, .one (.int .i64))] (.two (.two (.leaf) (.two (.leaf) (.leaf))) (.two (.one (.two (.leaf) (.two (.two (.leaf) (.leaf)) (.leaf)))) (.leaf)))))) (.two (.leaf) (.leaf))))
def sh_ref10_Same (a_1 : Option Addr) (a_1n : Nat) (a_1c : Nat) (b_2 : Option Addr) (b_2n : Nat) (b_2c : Nat) (R : Ending → World → Prop) (w : World) : Prop :=
  br (decide ((((a_1n : Int)) : Int) ≠ ((b_2n : Int)))) (R (.returned (.bool false)) w) (∃ (I3 : Int → World → Nat → Prop), (∃ m7 : Nat, I3 0 w m7) ∧ ∀ (i_4 : Int) (w5 : World) (m6 : Nat), I3 i_4 w5 m6 → ∀ _ : Env, (br (decide ((i_4 : Int) < ((a_1n : Int)))) (drw w5 fun w8 =>
  idx a_1 a_1n i_4 4 fun p9 =>
  ∃ (x10 : Int), World.cell? w8 (p9.add 0) = some (.int .i64 x10) ∧ (idx b_2 b_2n i_4 4 fun p11 =>
  ∃ (x12 : Int), World.cell? w8 (p11.add 0) = some (.int .i64 x12) ∧ (br (decide ((x10 : Int) ≠ x12)) ((R (.returned (.bool false)) w8) ∧ True) (idx a_1 a_1n i_4 4 fun p13 =>
  ∃ (x14 : List UInt8), World.cell? w8 (p13.add 1) = some (.string ⟨⟨x14⟩⟩) ∧ (idx b_2 b_2n i_4 4 fun p15 =>
  ∃ (x16 : List UInt8), World.cell? w8 (p15.add 1) = some (.string ⟨⟨x16⟩⟩) ∧ (br (decide ((x14 : List UInt8) ≠ x16)) ((R (.returned (.bool false)) w8) ∧ True) (idx a_1 a_1n i_4 4 fun p17 =>
  ∃ (x18 : Int), World.cell? w8 (p17.add 2) = some (.int .i64 x18) ∧ (idx b_2 b_2n i_4 4 fun p19 =>
  ∃ (x20 : Int), World.cell? w8 (p19.add 2) = some (.int .i64 x20) ∧ (br (decide ((x18 : Int) ≠ x20)) ((R (.returned (.bool false)) w8) ∧ True) (idx a_1 a_1n i_4 4 fun p21 =>
  ∃ (x22 : Option Addr) (x22n : Nat) (x22c : Nat), World.cell? w8 (p21.add 3) = some (.slice x22 x22n x22c) ∧ (idx b_2 b_2n i_4 4 fun p23 =>
  ∃ (x24 : Option Addr) (x24n : Nat) (x24c : Nat), World.cell? w8 (p23.add 3) = some (.slice x24 x24n x24c) ∧ ((Calls Tryd.prog 33 ⟨[.slice x22 x22n x22c, .slice x24 x24n x24c]⟩ w8 fun (e25 : Ending) (w26 : World) =>
  ∃ (x27 : Bool), e25 = .returned (.bool x27) ∧ (br (!x27) (R (.returned (.bool false)) w26) (∃ m28 : Nat, m28 < m6 ∧ I3 (IntKind.i64.wrap (i_4 + 1)) w26 m28))) ∧ True)))))))))))) (R (.returned (.bool true)) w5)))
set_option maxRecDepth 100000 in
theorem e_ref10_Same (a_1 : Option Addr) (a_1n : Nat) (a_1c : Nat) (b_2 : Option Addr) (b_2n : Nat) (b_2c : Nat) (R : Ending → World → Prop) (w : World) : fnV Tryd.prog Tryd.f33 an_ref10_Same [.slice a_1 a_1n a_1c, .slice b_2 b_2n b_2c] R w = sh_ref10_Same a_1 a_1n a_1c b_2 b_2n b_2c R w := by kernel_rfl
theorem c_ref10_Same {a_1 : Option Addr} {a_1n : Nat} {a_1c : Nat} {b_2 : Option Addr} {b_2n : Nat} {b_2c : Nat} {R : Ending → World → Prop} {w : World} (h : sh_ref10_Same a_1 a_1n a_1c b_2 b_2n b_2c R w) : Calls Tryd.prog F_ref10_Same ⟨[.slice a_1 a_1n a_1c, .slice b_2 b_2n b_2c]⟩ w R := calls_of_fnV Tryd.func33 (by rw [e_ref10_Same]; exact h)

end Go.Proofs
