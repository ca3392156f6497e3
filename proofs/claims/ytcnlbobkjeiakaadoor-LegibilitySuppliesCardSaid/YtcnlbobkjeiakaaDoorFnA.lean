/- Written by program: for each function its verification condition, that it is the code's (by the kernel), and that it gives the call. -/
import Derived.Test.YtcnlbobkjeiakaaDoorFn
namespace Go.Proofs
open Go Go.Sh
def an_law12_LegibilityWriting : Ann := .two (.leaf) (.two (.two (.leaf) (.two (.two (.leaf) (.leaf)) (.leaf))) (.two (.leaf) (.two (.leaf) (.cut 68182605828 [] (.two (.leaf) (.two (.two (.leaf) (.leaf)) (.leaf))) (.two (.leaf) (.cut 4501400604114948 [] (.two (.leaf) (.two (.two (.leaf) (.leaf)) (.leaf))) (.two (.two (.leaf) (.one (.loop 664613997892457936433889131630755372 [(3, .one (.str)), (5, .one (.str)), (54, .one (.int .i64))] (.two (.leaf) (.two (.two (.leaf) (.leaf)) (.two (.one (.two (.leaf) (.two (.leaf) (.two (.leaf) (.two (.leaf) (.cut 1298074195290893793298557287006212 [] (.two (.leaf) (.two (.two (.leaf) (.leaf)) (.leaf))) (.leaf))))))) (.leaf))))))) (.two (.leaf) (.leaf)))))))))
def sh_law12_LegibilityWriting (l_1 : Option Addr) (l_1n : Nat) (l_1c : Nat) (R : Ending → World → Prop) (w : World) : Prop :=
  Calls Tryd.prog 11 ⟨[.slice l_1 l_1n l_1c]⟩ w fun (e2 : Ending) (w3 : World) =>
  ∃ (x4 : Bool), e2 = .returned (.bool x4) ∧ (br x4 (Calls Tryd.prog 12 ⟨[]⟩ w3 fun (e5 : Ending) (w6 : World) =>
  ∃ (x7 : Bool), e5 = .returned (.bool x7) ∧ (R (.returned (.bool x7)) w6)) (Calls Tryd.prog 13 ⟨[.slice l_1 l_1n l_1c]⟩ w3 fun (e8 : Ending) (w9 : World) =>
  ∃ (x10 : List UInt8) (x11 : Int), e8 = .returned (.tuple ⟨[.string ⟨⟨x10⟩⟩, .int .i64 x11]⟩) ∧ (Calls Tryd.prog 14 ⟨[.slice l_1 l_1n l_1c]⟩ w9 fun (e12 : Ending) (w13 : World) =>
  ∃ (x14 : List UInt8) (x15 : Int), e12 = .returned (.tuple ⟨[.string ⟨⟨x14⟩⟩, .int .i64 x15]⟩) ∧ (∀ (K16 : World → Prop), (∀  (w17 : World), (∀ _ : Env, (Calls Tryd.prog 15 ⟨[.slice l_1 l_1n l_1c, .int .i64 10]⟩ w17 fun (e18 : Ending) (w19 : World) =>
  ∃ (x20 : Int) (x21 : Int), e18 = .returned (.tuple ⟨[.int .i64 x20, .int .i64 x21]⟩) ∧ (∀ (K22 : World → Prop), (∀  (w23 : World), (∀ _ : Env, (∃ (I24 : List UInt8 → List UInt8 → Int → World → Nat → Prop), (∃ m30 : Nat, I24 x10 x14 0 w23 m30) ∧ ∀ (p_25 : List UInt8) (w_26 : List UInt8) (t54_27 : Int) (w28 : World) (m29 : Nat), I24 p_25 w_26 t54_27 w28 m29 → ∀ _ : Env, (br (decide ((t54_27 : Int) < ((l_1n : Int)))) (sls l_1 l_1c t54_27 (IntKind.i64.wrap (t54_27 + 1)) 4 fun a31 a31n a31c =>
  Calls Tryd.prog 13 ⟨[.slice a31 a31n a31c]⟩ w28 fun (e32 : Ending) (w33 : World) =>
  ∃ (x34 : List UInt8) (x35 : Int), e32 = .returned (.tuple ⟨[.string ⟨⟨x34⟩⟩, .int .i64 x35]⟩) ∧ (sls l_1 l_1c t54_27 (IntKind.i64.wrap (t54_27 + 1)) 4 fun a36 a36n a36c =>
  Calls Tryd.prog 14 ⟨[.slice a36 a36n a36c]⟩ w33 fun (e37 : Ending) (w38 : World) =>
  ∃ (x39 : List UInt8) (x40 : Int), e37 = .returned (.tuple ⟨[.string ⟨⟨x39⟩⟩, .int .i64 x40]⟩) ∧ (sls l_1 l_1c t54_27 (IntKind.i64.wrap (t54_27 + 1)) 4 fun a41 a41n a41c =>
  Calls Tryd.prog 15 ⟨[.slice a41 a41n a41c, .int .i64 10]⟩ w38 fun (e42 : Ending) (w43 : World) =>
  ∃ (x44 : Int) (x45 : Int), e42 = .returned (.tuple ⟨[.int .i64 x44, .int .i64 x45]⟩) ∧ (∀ (K46 : World → Prop), (∀  (w47 : World), (∀ _ : Env, (drw w47 fun w48 =>
  ssl p_25 ((List.length x34 : Int)) (List.length p_25 : Int) fun s49 =>
  ssl w_26 ((List.length x39 : Int)) (List.length w_26 : Int) fun s50 =>
  ∃ m51 : Nat, m51 < m29 ∧ I24 s49 s50 (IntKind.i64.wrap (t54_27 + 1)) w48 m51)) → K46 w47) → (br (decide ((((max (max x35 x40) x45)) : Int) ≠ 0)) (R (.returned (.bool false)) w43) (br (decide ((x44 : Int) = 0)) (br (decide ((x34 : List UInt8) ≠ x39)) (R (.returned (.bool false)) w43) (Calls Tryd.prog 16 ⟨[.string ⟨⟨p_25⟩⟩, .string ⟨⟨x34⟩⟩]⟩ w43 fun (e52 : Ending) (w53 : World) =>
  ∃ (x54 : Bool), e52 = .returned (.bool x54) ∧ (br (!x54) (R (.returned (.bool false)) w53) (Calls Tryd.prog 16 ⟨[.string ⟨⟨w_26⟩⟩, .string ⟨⟨x39⟩⟩]⟩ w53 fun (e55 : Ending) (w56 : World) =>
  ∃ (x57 : Bool), e55 = .returned (.bool x57) ∧ (br (!x57) (R (.returned (.bool false)) w56) (K46 w56)))))) (Calls Tryd.prog 16 ⟨[.string ⟨⟨p_25⟩⟩, .string ⟨⟨x34⟩⟩]⟩ w43 fun (e58 : Ending) (w59 : World) =>
  ∃ (x60 : Bool), e58 = .returned (.bool x60) ∧ (br (!x60) (R (.returned (.bool false)) w59) (Calls Tryd.prog 16 ⟨[.string ⟨⟨w_26⟩⟩, .string ⟨⟨x39⟩⟩]⟩ w59 fun (e61 : Ending) (w62 : World) =>
  ∃ (x63 : Bool), e61 = .returned (.bool x63) ∧ (br (!x63) (R (.returned (.bool false)) w62) (K46 w62))))))))))) (br (decide ((p_25 : List UInt8) = ([]))) (br (decide ((w_26 : List UInt8) = ([]))) (Calls Tryd.prog 12 ⟨[]⟩ w28 fun (e64 : Ending) (w65 : World) =>
  ∃ (x66 : Bool), e64 = .returned (.bool x66) ∧ (R (.returned (.bool x66)) w65)) (R (.returned (.bool false)) w28)) (R (.returned (.bool false)) w28))))) → K22 w23) → (br (decide ((x21 : Int) ≠ 0)) (R (.returned (.bool false)) w19) (br (decide ((x20 : Int) = 0)) (br (decide ((x10 : List UInt8) ≠ x14)) (R (.returned (.bool false)) w19) (K22 w19)) (K22 w19)))))) → K16 w17) → (br (decide ((x11 : Int) ≠ 0)) (Calls Tryd.prog 12 ⟨[]⟩ w13 fun (e67 : Ending) (w68 : World) =>
  ∃ (x69 : Bool), e67 = .returned (.bool x69) ∧ (R (.returned (.bool x69)) w68)) (br (decide ((x15 : Int) ≠ 0)) (Calls Tryd.prog 12 ⟨[]⟩ w13 fun (e70 : Ending) (w71 : World) =>
  ∃ (x72 : Bool), e70 = .returned (.bool x72) ∧ (R (.returned (.bool x72)) w71)) (K16 w13)))))))
set_option maxRecDepth 100000 in
theorem e_law12_LegibilityWriting (l_1 : Option Addr) (l_1n : Nat) (l_1c : Nat) (R : Ending → World → Prop) (w : World) : fnV Tryd.prog Tryd.f3 an_law12_LegibilityWriting [.slice l_1 l_1n l_1c] R w = sh_law12_LegibilityWriting l_1 l_1n l_1c R w := by kernel_rfl
theorem c_law12_LegibilityWriting {l_1 : Option Addr} {l_1n : Nat} {l_1c : Nat} {R : Ending → World → Prop} {w : World} (h : sh_law12_LegibilityWriting l_1 l_1n l_1c R w) : Calls Tryd.prog F_law12_LegibilityWriting ⟨[.slice l_1 l_1n l_1c]⟩ w R := calls_of_fnV Tryd.func3 (by rw [e_law12_LegibilityWriting]; exact h)

def an_law12_LegibilityReads : Ann := .two (.leaf) (.two (.two (.leaf) (.two (.two (.leaf) (.leaf)) (.leaf))) (.two (.leaf) (.two (.leaf) (.two (.leaf) (.two (.leaf) (.cut 1152917106560335876 [] (.two (.leaf) (.two (.two (.leaf) (.leaf)) (.leaf))) (.two (.leaf) (.two (.leaf) (.two (.leaf) (.two (.leaf) (.two (.leaf) (.two (.leaf) (.two (.leaf) (.leaf))))))))))))))
def sh_law12_LegibilityReads (l_1 : Option Addr) (l_1n : Nat) (l_1c : Nat) (R : Ending → World → Prop) (w : World) : Prop :=
  Calls Tryd.prog 11 ⟨[.slice l_1 l_1n l_1c]⟩ w fun (e2 : Ending) (w3 : World) =>
  ∃ (x4 : Bool), e2 = .returned (.bool x4) ∧ (br x4 (Calls Tryd.prog 12 ⟨[]⟩ w3 fun (e5 : Ending) (w6 : World) =>
  ∃ (x7 : Bool), e5 = .returned (.bool x7) ∧ (R (.returned (.bool x7)) w6)) (Calls Tryd.prog 13 ⟨[.slice l_1 l_1n l_1c]⟩ w3 fun (e8 : Ending) (w9 : World) =>
  ∃ (x10 : List UInt8) (x11 : Int), e8 = .returned (.tuple ⟨[.string ⟨⟨x10⟩⟩, .int .i64 x11]⟩) ∧ (Calls Tryd.prog 17 ⟨[.slice l_1 l_1n l_1c]⟩ w9 fun (e12 : Ending) (w13 : World) =>
  ∃ (x14 : List UInt8) (x15 : Int), e12 = .returned (.tuple ⟨[.string ⟨⟨x14⟩⟩, .int .i64 x15]⟩) ∧ (Calls Tryd.prog 14 ⟨[.slice l_1 l_1n l_1c]⟩ w13 fun (e16 : Ending) (w17 : World) =>
  ∃ (x18 : List UInt8) (x19 : Int), e16 = .returned (.tuple ⟨[.string ⟨⟨x18⟩⟩, .int .i64 x19]⟩) ∧ (Calls Tryd.prog 18 ⟨[.slice l_1 l_1n l_1c]⟩ w17 fun (e20 : Ending) (w21 : World) =>
  ∃ (x22 : List UInt8) (x23 : Int), e20 = .returned (.tuple ⟨[.string ⟨⟨x22⟩⟩, .int .i64 x23]⟩) ∧ (∀ (K24 : World → Prop), (∀  (w25 : World), (∀ _ : Env, (Calls Tryd.prog 19 ⟨[.slice l_1 l_1n l_1c]⟩ w25 fun (e26 : Ending) (w27 : World) =>
  ∃ (x28 : Int) (x29 : Int), e26 = .returned (.tuple ⟨[.int .i64 x28, .int .i64 x29]⟩) ∧ (Calls Tryd.prog 20 ⟨[.slice l_1 l_1n l_1c]⟩ w27 fun (e30 : Ending) (w31 : World) =>
  ∃ (x32 : Int) (x33 : Int), e30 = .returned (.tuple ⟨[.int .i64 x32, .int .i64 x33]⟩) ∧ (Calls Tryd.prog 21 ⟨[.slice l_1 l_1n l_1c]⟩ w31 fun (e34 : Ending) (w35 : World) =>
  ∃ (x36 : Int) (x37 : Int), e34 = .returned (.tuple ⟨[.int .i64 x36, .int .i64 x37]⟩) ∧ (Calls Tryd.prog 22 ⟨[.slice l_1 l_1n l_1c]⟩ w35 fun (e38 : Ending) (w39 : World) =>
  ∃ (x40 : Int) (x41 : Int), e38 = .returned (.tuple ⟨[.int .i64 x40, .int .i64 x41]⟩) ∧ (Calls Tryd.prog 23 ⟨[.slice l_1 l_1n l_1c]⟩ w39 fun (e42 : Ending) (w43 : World) =>
  ∃ (x44 : Option Addr) (x44n : Nat) (x44c : Nat) (x45 : Int), e42 = .returned (.tuple ⟨[.slice x44 x44n x44c, .int .i64 x45]⟩) ∧ (Calls Tryd.prog 24 ⟨[.slice l_1 l_1n l_1c]⟩ w43 fun (e46 : Ending) (w47 : World) =>
  ∃ (x48 : Option Addr) (x48n : Nat) (x48c : Nat) (x49 : Int), e46 = .returned (.tuple ⟨[.slice x48 x48n x48c, .int .i64 x49]⟩) ∧ (br (decide ((x28 : Int) = x32)) (br (decide ((x29 : Int) = x33)) (br (decide ((x36 : Int) = x40)) (br (decide ((x37 : Int) = x41)) (Calls Tryd.prog 25 ⟨[.slice x44 x44n x44c, .slice x48 x48n x48c]⟩ w47 fun (e50 : Ending) (w51 : World) =>
  ∃ (x52 : Bool), e50 = .returned (.bool x52) ∧ (br x52 (br (decide ((x45 : Int) = x49)) (Calls Tryd.prog 12 ⟨[]⟩ w51 fun (e53 : Ending) (w54 : World) =>
  ∃ (x55 : Bool), e53 = .returned (.bool x55) ∧ (R (.returned (.bool x55)) w54)) (R (.returned (.bool false)) w51)) (R (.returned (.bool false)) w51))) (R (.returned (.bool false)) w47)) (R (.returned (.bool false)) w47)) (R (.returned (.bool false)) w47)) (R (.returned (.bool false)) w47))))))))) → K24 w25) → (br (decide ((x10 : List UInt8) ≠ x14)) (R (.returned (.bool false)) w21) (br (decide ((x11 : Int) ≠ x15)) (R (.returned (.bool false)) w21) (br (decide ((x18 : List UInt8) ≠ x22)) (R (.returned (.bool false)) w21) (br (decide ((x19 : Int) ≠ x23)) (R (.returned (.bool false)) w21) (K24 w21)))))))))))
set_option maxRecDepth 100000 in
theorem e_law12_LegibilityReads (l_1 : Option Addr) (l_1n : Nat) (l_1c : Nat) (R : Ending → World → Prop) (w : World) : fnV Tryd.prog Tryd.f4 an_law12_LegibilityReads [.slice l_1 l_1n l_1c] R w = sh_law12_LegibilityReads l_1 l_1n l_1c R w := by kernel_rfl
theorem c_law12_LegibilityReads {l_1 : Option Addr} {l_1n : Nat} {l_1c : Nat} {R : Ending → World → Prop} {w : World} (h : sh_law12_LegibilityReads l_1 l_1n l_1c R w) : Calls Tryd.prog F_law12_LegibilityReads ⟨[.slice l_1 l_1n l_1c]⟩ w R := calls_of_fnV Tryd.func4 (by rw [e_law12_LegibilityReads]; exact h)

def an_law12_LegibilityUnclear : Ann := .two (.leaf) (.two (.two (.leaf) (.two (.two (.leaf) (.leaf)) (.leaf))) (.two (.leaf) (.two (.leaf) (.two (.two (.leaf) (.two (.two (.leaf) (.leaf)) (.leaf))) (.cut 2198486384644 [] (.two (.leaf) (.two (.two (.leaf) (.leaf)) (.leaf))) (.two (.leaf) (.two (.leaf) (.leaf))))))))
def sh_law12_LegibilityUnclear (l_1 : Option Addr) (l_1n : Nat) (l_1c : Nat) (R : Ending → World → Prop) (w : World) : Prop :=
  Calls Tryd.prog 11 ⟨[.slice l_1 l_1n l_1c]⟩ w fun (e2 : Ending) (w3 : World) =>
  ∃ (x4 : Bool), e2 = .returned (.bool x4) ∧ (br x4 (Calls Tryd.prog 12 ⟨[]⟩ w3 fun (e5 : Ending) (w6 : World) =>
  ∃ (x7 : Bool), e5 = .returned (.bool x7) ∧ (R (.returned (.bool x7)) w6)) (Calls Tryd.prog 21 ⟨[.slice l_1 l_1n l_1c]⟩ w3 fun (e8 : Ending) (w9 : World) =>
  ∃ (x10 : Int) (x11 : Int), e8 = .returned (.tuple ⟨[.int .i64 x10, .int .i64 x11]⟩) ∧ (Calls Tryd.prog 26 ⟨[.slice l_1 l_1n l_1c]⟩ w9 fun (e12 : Ending) (w13 : World) =>
  ∃ (x14 : List UInt8) (x15 : Int), e12 = .returned (.tuple ⟨[.string ⟨⟨x14⟩⟩, .int .i64 x15]⟩) ∧ (br (decide ((x11 : Int) ≠ 0)) (br (decide ((x10 : Int) = 0)) (Calls Tryd.prog 12 ⟨[]⟩ w13 fun (e16 : Ending) (w17 : World) =>
  ∃ (x18 : Bool), e16 = .returned (.bool x18) ∧ (R (.returned (.bool x18)) w17)) (R (.returned (.bool false)) w13)) (∀ (K19 : World → Prop), (∀  (w20 : World), (∀ _ : Env, (al w20 37 [.int .i64 7, .string ⟨⟨[]⟩⟩, .int .i64 0, .slice l_1 l_1n l_1c] fun p21 w22 =>
  Calls Tryd.prog 21 ⟨[.slice (some p21) 1 1]⟩ w22 fun (e23 : Ending) (w24 : World) =>
  ∃ (x25 : Int) (x26 : Int), e23 = .returned (.tuple ⟨[.int .i64 x25, .int .i64 x26]⟩) ∧ (br (decide ((x26 : Int) ≠ 0)) (Calls Tryd.prog 12 ⟨[]⟩ w24 fun (e27 : Ending) (w28 : World) =>
  ∃ (x29 : Bool), e27 = .returned (.bool x29) ∧ (R (.returned (.bool x29)) w28)) (br (decide ((x25 : Int) = ((List.length x14 : Int)))) (Calls Tryd.prog 12 ⟨[]⟩ w24 fun (e30 : Ending) (w31 : World) =>
  ∃ (x32 : Bool), e30 = .returned (.bool x32) ∧ (R (.returned (.bool x32)) w31)) (R (.returned (.bool false)) w24))))) → K19 w20) → (br (decide ((x15 : Int) ≠ 0)) (R (.returned (.bool false)) w13) (br (decide ((x10 : Int) < 0)) (R (.returned (.bool false)) w13) (br (decide ((((List.length x14 : Int)) : Int) < x10)) (R (.returned (.bool false)) w13) (K19 w13)))))))))
set_option maxRecDepth 100000 in
theorem e_law12_LegibilityUnclear (l_1 : Option Addr) (l_1n : Nat) (l_1c : Nat) (R : Ending → World → Prop) (w : World) : fnV Tryd.prog Tryd.f5 an_law12_LegibilityUnclear [.slice l_1 l_1n l_1c] R w = sh_law12_LegibilityUnclear l_1 l_1n l_1c R w := by kernel_rfl
theorem c_law12_LegibilityUnclear {l_1 : Option Addr} {l_1n : Nat} {l_1c : Nat} {R : Ending → World → Prop} {w : World} (h : sh_law12_LegibilityUnclear l_1 l_1n l_1c R w) : Calls Tryd.prog F_law12_LegibilityUnclear ⟨[.slice l_1 l_1n l_1c]⟩ w R := calls_of_fnV Tryd.func5 (by rw [e_law12_LegibilityUnclear]; exact h)

def an_law12_LegibilityPairs : Ann := .two (.leaf) (.two (.two (.leaf) (.two (.two (.leaf) (.leaf)) (.leaf))) (.two (.leaf) (.two (.two (.leaf) (.two (.two (.leaf) (.leaf)) (.leaf))) (.two (.leaf) (.two (.leaf) (.cut 4611681620380876804 [] (.two (.leaf) (.two (.two (.leaf) (.leaf)) (.leaf))) (.two (.two (.leaf) (.one (.loop 1267650600209782657422993669636 [(64, .one (.int .i64))] (.two (.leaf) (.two (.two (.leaf) (.leaf)) (.two (.one (.two (.leaf) (.two (.leaf) (.two (.two (.leaf) (.one (.loop 4951757795958279664773904388 [(11, .one (.int .i64)), (71, .one (.int .i64))] (.two (.leaf) (.two (.two (.leaf) (.leaf)) (.two (.one (.two (.leaf) (.cut 19267255250108152471879684 [] (.two (.leaf) (.two (.two (.leaf) (.leaf)) (.leaf))) (.two (.leaf) (.two (.leaf) (.leaf)))))) (.leaf))))))) (.two (.leaf) (.two (.two (.leaf) (.leaf)) (.leaf))))))) (.leaf))))))) (.two (.two (.leaf) (.one (.loop 664608927290057023534297543327399940 [(102, .one (.int .i64))] (.two (.leaf) (.two (.two (.leaf) (.leaf)) (.two (.one (.two (.leaf) (.two (.leaf) (.two (.two (.leaf) (.leaf)) (.leaf))))) (.leaf))))))) (.two (.leaf) (.leaf))))))))))
def sh_law12_LegibilityPairs (l_1 : Option Addr) (l_1n : Nat) (l_1c : Nat) (R : Ending → World → Prop) (w : World) : Prop :=
  Calls Tryd.prog 11 ⟨[.slice l_1 l_1n l_1c]⟩ w fun (e2 : Ending) (w3 : World) =>
  ∃ (x4 : Bool), e2 = .returned (.bool x4) ∧ (br x4 (Calls Tryd.prog 12 ⟨[]⟩ w3 fun (e5 : Ending) (w6 : World) =>
  ∃ (x7 : Bool), e5 = .returned (.bool x7) ∧ (R (.returned (.bool x7)) w6)) (Calls Tryd.prog 23 ⟨[.slice l_1 l_1n l_1c]⟩ w3 fun (e8 : Ending) (w9 : World) =>
  ∃ (x10 : Option Addr) (x10n : Nat) (x10c : Nat) (x11 : Int), e8 = .returned (.tuple ⟨[.slice x10 x10n x10c, .int .i64 x11]⟩) ∧ (br (decide ((x11 : Int) ≠ 0)) (br (decide ((((x10n : Int)) : Int) = 0)) (Calls Tryd.prog 12 ⟨[]⟩ w9 fun (e12 : Ending) (w13 : World) =>
  ∃ (x14 : Bool), e12 = .returned (.bool x14) ∧ (R (.returned (.bool x14)) w13)) (R (.returned (.bool false)) w9)) (Calls Tryd.prog 27 ⟨[.slice x10 x10n x10c]⟩ w9 fun (e15 : Ending) (w16 : World) =>
  ∃ (x17 : Option Addr) (x17n : Nat) (x17c : Nat) (x18 : Int), e15 = .returned (.tuple ⟨[.slice x17 x17n x17c, .int .i64 x18]⟩) ∧ (Calls Tryd.prog 15 ⟨[.slice l_1 l_1n l_1c, .int .i64 10]⟩ w16 fun (e19 : Ending) (w20 : World) =>
  ∃ (x21 : Int) (x22 : Int), e19 = .returned (.tuple ⟨[.int .i64 x21, .int .i64 x22]⟩) ∧ (∀ (K23 : World → Prop), (∀  (w24 : World), (∀ _ : Env, (∃ (I25 : Int → World → Nat → Prop), (∃ m29 : Nat, I25 0 w24 m29) ∧ ∀ (t64_26 : Int) (w27 : World) (m28 : Nat), I25 t64_26 w27 m28 → ∀ _ : Env, (br (decide ((t64_26 : Int) < ((x10n : Int)))) (idx x10 x10n t64_26 2 fun p30 =>
  ∃ (x31 : List UInt8), World.cell? w27 (p30.add 0) = some (.string ⟨⟨x31⟩⟩) ∧ (∃ (x32 : List UInt8), World.cell? w27 (p30.add 1) = some (.string ⟨⟨x32⟩⟩) ∧ (al w27 42 [.string ⟨⟨[]⟩⟩, .string ⟨⟨[]⟩⟩] fun p33 w34 =>
  stL w34 p33 0 [.string ⟨⟨x31⟩⟩, .string ⟨⟨x32⟩⟩] fun w35 =>
  ∃ (I36 : Int → Int → World → Nat → Prop), (∃ m41 : Nat, I36 0 0 w35 m41) ∧ ∀ (count_37 : Int) (t71_38 : Int) (w39 : World) (m40 : Nat), I36 count_37 t71_38 w39 m40 → ∀ _ : Env, (br (decide ((t71_38 : Int) < ((x10n : Int)))) (idx x10 x10n t71_38 2 fun p42 =>
  ∃ (x43 : List UInt8), World.cell? w39 (p42.add 0) = some (.string ⟨⟨x43⟩⟩) ∧ (∃ (x44 : List UInt8), World.cell? w39 (p42.add 1) = some (.string ⟨⟨x44⟩⟩) ∧ (al w39 42 [.string ⟨⟨[]⟩⟩, .string ⟨⟨[]⟩⟩] fun p45 w46 =>
  stL w46 p45 0 [.string ⟨⟨x43⟩⟩, .string ⟨⟨x44⟩⟩] fun w47 =>
  ∀ (K48 : World → Prop), (∀  (w49 : World), (∀ _ : Env, (∃ (x50 : List UInt8), World.cell? w49 (p33.add 0) = some (.string ⟨⟨x50⟩⟩) ∧ (∃ (x51 : List UInt8), World.cell? w49 (p45.add 0) = some (.string ⟨⟨x51⟩⟩) ∧ (br (decide ((x50 : List UInt8) = x51)) (∃ m52 : Nat, m52 < m40 ∧ I36 (IntKind.i64.wrap (count_37 + 1)) (IntKind.i64.wrap (t71_38 + 1)) w49 m52) (∃ m53 : Nat, m53 < m40 ∧ I36 count_37 (IntKind.i64.wrap (t71_38 + 1)) w49 m53))))) → K48 w49) → (br (decide ((t64_26 : Int) ≠ t71_38)) (∃ (x54 : List UInt8), World.cell? w47 (p33.add 0) = some (.string ⟨⟨x54⟩⟩) ∧ (∃ (x55 : List UInt8), World.cell? w47 (p33.add 1) = some (.string ⟨⟨x55⟩⟩) ∧ (∃ (x56 : List UInt8), World.cell? w47 (p45.add 0) = some (.string ⟨⟨x56⟩⟩) ∧ (∃ (x57 : List UInt8), World.cell? w47 (p45.add 1) = some (.string ⟨⟨x57⟩⟩) ∧ (br ((decide ((x54 : List UInt8) = x56) && (decide ((x55 : List UInt8) = x57) && true))) (R (.returned (.bool false)) w47) (K48 w47)))))) (K48 w47))))) (∃ (x58 : List UInt8), World.cell? w39 (p33.add 0) = some (.string ⟨⟨x58⟩⟩) ∧ (Calls Tryd.prog 28 ⟨[.slice x17 x17n x17c, .string ⟨⟨x58⟩⟩]⟩ w39 fun (e59 : Ending) (w60 : World) =>
  ∃ (x61 : Bool), e59 = .returned (.bool x61) ∧ (br (decide ((x61 : Bool) ≠ (decide ((1 : Int) < count_37)))) (R (.returned (.bool false)) w60) (∃ m62 : Nat, m62 < m28 ∧ I25 (IntKind.i64.wrap (t64_26 + 1)) w60 m62)))))))) (∃ (I63 : Int → World → Nat → Prop), (∃ m67 : Nat, I63 0 w27 m67) ∧ ∀ (t102_64 : Int) (w65 : World) (m66 : Nat), I63 t102_64 w65 m66 → ∀ _ : Env, (br (decide ((t102_64 : Int) < ((x17n : Int)))) (idx x17 x17n t102_64 1 fun p68 =>
  ∃ (x69 : List UInt8), World.cell? w65 p68 = some (.string ⟨⟨x69⟩⟩) ∧ (al w65 9 [.string ⟨⟨[]⟩⟩] fun p70 w71 =>
  stL w71 p70 0 [.string ⟨⟨x69⟩⟩] fun w72 =>
  drw w72 fun w73 =>
  sls x17 x17c 0 t102_64 1 fun a74 a74n a74c =>
  ∃ (x75 : List UInt8), World.cell? w73 p70 = some (.string ⟨⟨x75⟩⟩) ∧ ((Calls Tryd.prog 28 ⟨[.slice a74 a74n a74c, .string ⟨⟨x75⟩⟩]⟩ w73 fun (e76 : Ending) (w77 : World) =>
  ∃ (x78 : Bool), e76 = .returned (.bool x78) ∧ (br x78 ((R (.returned (.bool false)) w77) ∧ True) ((Calls Tryd.prog 29 ⟨[.slice x10 x10n x10c, .func (.func 30) ⟨[]⟩ ⟨[.pointer (some p70)]⟩]⟩ w77 fun (e79 : Ending) (w80 : World) =>
  ∃ (x81 : Bool), e79 = .returned (.bool x81) ∧ (br (!x81) (R (.returned (.bool false)) w80) (∃ m82 : Nat, m82 < m66 ∧ I63 (IntKind.i64.wrap (t102_64 + 1)) w80 m82))) ∧ True))) ∧ True))) (Calls Tryd.prog 12 ⟨[]⟩ w65 fun (e83 : Ending) (w84 : World) =>
  ∃ (x85 : Bool), e83 = .returned (.bool x85) ∧ (R (.returned (.bool x85)) w84))))))) → K23 w24) → (br (decide ((x18 : Int) ≠ 0)) (R (.returned (.bool false)) w20) (br (decide ((x22 : Int) ≠ 0)) (R (.returned (.bool false)) w20) (br (decide ((x21 : Int) < ((x10n : Int)))) (R (.returned (.bool false)) w20) (br (decide (((decide ((0 : Int) < x21)) : Bool) ≠ (decide ((0 : Int) < ((x10n : Int)))))) (R (.returned (.bool false)) w20) (K23 w20)))))))))))
set_option maxRecDepth 100000 in
theorem e_law12_LegibilityPairs (l_1 : Option Addr) (l_1n : Nat) (l_1c : Nat) (R : Ending → World → Prop) (w : World) : fnV Tryd.prog Tryd.f6 an_law12_LegibilityPairs [.slice l_1 l_1n l_1c] R w = sh_law12_LegibilityPairs l_1 l_1n l_1c R w := by kernel_rfl
theorem c_law12_LegibilityPairs {l_1 : Option Addr} {l_1n : Nat} {l_1c : Nat} {R : Ending → World → Prop} {w : World} (h : sh_law12_LegibilityPairs l_1 l_1n l_1c R w) : Calls Tryd.prog F_law12_LegibilityPairs ⟨[.slice l_1 l_1n l_1c]⟩ w R := calls_of_fnV Tryd.func6 (by rw [e_law12_LegibilityPairs]; exact h)

def an_law12_LegibilitySupplies : Ann := .two (.leaf) (.cut 536739856 [] (.two (.leaf) (.two (.two (.leaf) (.leaf)) (.leaf))) (.two (.leaf) (.two (.two (.leaf) (.two (.two (.leaf) (.leaf)) (.leaf))) (.two (.leaf) (.two (.leaf) (.two (.leaf) (.two (.leaf) (.cut 9671388110172959688097808 [] (.two (.leaf) (.two (.two (.leaf) (.leaf)) (.leaf))) (.two (.leaf) (.two (.two (.leaf) (.one (.loop 1267611914602001733363112706048 [(15, .one (.str)), (85, .one (.int .i64))] (.two (.leaf) (.two (.two (.leaf) (.leaf)) (.two (.one (.two (.leaf) (.two (.leaf) (.two (.leaf) (.leaf))))) (.leaf))))))) (.two (.leaf) (.leaf))))))))))))
def sh_law12_LegibilitySupplies (l_1 : Option Addr) (l_1n : Nat) (l_1c : Nat) (words_2 : Option Addr) (words_2n : Nat) (words_2c : Nat) (R : Ending → World → Prop) (w : World) : Prop :=
  ∀ (K3 : World → Prop), (∀  (w4 : World), (∀ _ : Env, (Calls Tryd.prog 37 ⟨[.slice l_1 l_1n l_1c, .slice words_2 words_2n words_2c]⟩ w4 fun (e5 : Ending) (w6 : World) =>
  ∃ (x7 : Option Addr) (x7n : Nat) (x7c : Nat) (x8 : Int), e5 = .returned (.tuple ⟨[.slice x7 x7n x7c, .int .i64 x8]⟩) ∧ (br (decide ((x8 : Int) ≠ 0)) (br (decide ((((x7n : Int)) : Int) = 0)) (Calls Tryd.prog 12 ⟨[]⟩ w6 fun (e9 : Ending) (w10 : World) =>
  ∃ (x11 : Bool), e9 = .returned (.bool x11) ∧ (R (.returned (.bool x11)) w10)) (R (.returned (.bool false)) w6)) (Calls Tryd.prog 13 ⟨[.slice l_1 l_1n l_1c]⟩ w6 fun (e12 : Ending) (w13 : World) =>
  ∃ (x14 : List UInt8) (x15 : Int), e12 = .returned (.tuple ⟨[.string ⟨⟨x14⟩⟩, .int .i64 x15]⟩) ∧ (Calls Tryd.prog 13 ⟨[.slice x7 x7n x7c]⟩ w13 fun (e16 : Ending) (w17 : World) =>
  ∃ (x18 : List UInt8) (x19 : Int), e16 = .returned (.tuple ⟨[.string ⟨⟨x18⟩⟩, .int .i64 x19]⟩) ∧ (Calls Tryd.prog 19 ⟨[.slice x7 x7n x7c]⟩ w17 fun (e20 : Ending) (w21 : World) =>
  ∃ (x22 : Int) (x23 : Int), e20 = .returned (.tuple ⟨[.int .i64 x22, .int .i64 x23]⟩) ∧ (Calls Tryd.prog 38 ⟨[.string ⟨⟨x14⟩⟩, .string ⟨⟨x18⟩⟩]⟩ w21 fun (e24 : Ending) (w25 : World) =>
  ∃ (x26 : Bool) (x27 : Int), e24 = .returned (.tuple ⟨[.bool x26, .int .i64 x27]⟩) ∧ (∀ (K28 : World → Prop), (∀  (w29 : World), (∀ _ : Env, (∃ (I30 : List UInt8 → Int → World → Nat → Prop), (∃ m35 : Nat, I30 ([]) 0 w29 m35) ∧ ∀ (cut_31 : List UInt8) (t85_32 : Int) (w33 : World) (m34 : Nat), I30 cut_31 t85_32 w33 m34 → ∀ _ : Env, (br (decide ((t85_32 : Int) < ((List.length x14 : Int)))) (sidx x14 t85_32 fun b36 =>
  br (decide ((((b36.toNat : Int)) : Int) = 95)) (ssl x18 t85_32 (IntKind.i64.wrap (t85_32 + 1)) fun s37 =>
  sadd cut_31 s37 fun s38 =>
  ∃ m39 : Nat, m39 < m34 ∧ I30 s38 (IntKind.i64.wrap (t85_32 + 1)) w33 m39) (∃ m40 : Nat, m40 < m34 ∧ I30 cut_31 (IntKind.i64.wrap (t85_32 + 1)) w33 m40)) (Calls Tryd.prog 39 ⟨[.slice words_2 words_2n words_2c, .string ⟨⟨[]⟩⟩]⟩ w33 fun (e41 : Ending) (w42 : World) =>
  ∃ (x43 : List UInt8), e41 = .returned (.string ⟨⟨x43⟩⟩) ∧ (br (decide ((cut_31 : List UInt8) = x43)) (Calls Tryd.prog 12 ⟨[]⟩ w42 fun (e44 : Ending) (w45 : World) =>
  ∃ (x46 : Bool), e44 = .returned (.bool x46) ∧ (R (.returned (.bool x46)) w45)) (R (.returned (.bool false)) w42)))))) → K28 w29) → (br (decide ((((max (max (max x15 x19) x23) x27)) : Int) ≠ 0)) (R (.returned (.bool false)) w25) (br (decide ((x22 : Int) ≠ 0)) (R (.returned (.bool false)) w25) (br (!x26) (R (.returned (.bool false)) w25) (Calls Tryd.prog 34 ⟨[.slice x7 x7n x7c]⟩ w25 fun (e47 : Ending) (w48 : World) =>
  ∃ (x49 : Int), e47 = .returned (.int .i64 x49) ∧ (br (decide ((x49 : Int) ≠ 0)) (R (.returned (.bool false)) w48) (K28 w48)))))))))))))) → K3 w4) → (Calls Tryd.prog 11 ⟨[.slice l_1 l_1n l_1c]⟩ w fun (e50 : Ending) (w51 : World) =>
  ∃ (x52 : Bool), e50 = .returned (.bool x52) ∧ (br x52 (Calls Tryd.prog 12 ⟨[]⟩ w51 fun (e53 : Ending) (w54 : World) =>
  ∃ (x55 : Bool), e53 = .returned (.bool x55) ∧ (R (.returned (.bool x55)) w54)) (br (decide ((8 : Int) < ((words_2n : Int)))) (Calls Tryd.prog 12 ⟨[]⟩ w51 fun (e56 : Ending) (w57 : World) =>
  ∃ (x58 : Bool), e56 = .returned (.bool x58) ∧ (R (.returned (.bool x58)) w57)) (Calls Tryd.prog 35 ⟨[.slice words_2 words_2n words_2c, .func (.func 36) #[] #[]]⟩ w51 fun (e59 : Ending) (w60 : World) =>
  ∃ (x61 : Bool), e59 = .returned (.bool x61) ∧ (br x61 (Calls Tryd.prog 12 ⟨[]⟩ w60 fun (e62 : Ending) (w63 : World) =>
  ∃ (x64 : Bool), e62 = .returned (.bool x64) ∧ (R (.returned (.bool x64)) w63)) (K3 w60))))))
set_option maxRecDepth 100000 in
theorem e_law12_LegibilitySupplies (l_1 : Option Addr) (l_1n : Nat) (l_1c : Nat) (words_2 : Option Addr) (words_2n : Nat) (words_2c : Nat) (R : Ending → World → Prop) (w : World) : fnV Tryd.prog Tryd.f8 an_law12_LegibilitySupplies [.slice l_1 l_1n l_1c, .slice words_2 words_2n words_2c] R w = sh_law12_LegibilitySupplies l_1 l_1n l_1c words_2 words_2n words_2c R w := by kernel_rfl
theorem c_law12_LegibilitySupplies {l_1 : Option Addr} {l_1n : Nat} {l_1c : Nat} {words_2 : Option Addr} {words_2n : Nat} {words_2c : Nat} {R : Ending → World → Prop} {w : World} (h : sh_law12_LegibilitySupplies l_1 l_1n l_1c words_2 words_2n words_2c R w) : Calls Tryd.prog F_law12_LegibilitySupplies ⟨[.slice l_1 l_1n l_1c, .slice words_2 words_2n words_2c]⟩ w R := calls_of_fnV Tryd.func8 (by rw [e_law12_LegibilitySupplies]; exact h)

def an_law12_LegibilityFits : Ann := .two (.leaf) (.cut 1046544 [] (.two (.leaf) (.two (.two (.leaf) (.leaf)) (.leaf))) (.two (.leaf) (.two (.leaf) (.cut 9007197107257728 [(7, .one (.bool))] (.two (.leaf) (.one (.loop 9007197107257728 [(7, .one (.bool)), (8, .one (.int .i64))] (.cut 272730423296 [] (.two (.leaf) (.two (.leaf) (.leaf))) (.two (.one (.leaf)) (.leaf)))))) (.two (.leaf) (.two (.leaf) (.leaf)))))))
def sh_law12_LegibilityFits (p_1 : List UInt8) (w_2 : List UInt8) (R : Ending → World → Prop) (w : World) : Prop :=
  ∀ (K3 : World → Prop), (∀  (w4 : World), (∀ _ : Env, (Calls Tryd.prog 38 ⟨[.string ⟨⟨p_1⟩⟩, .string ⟨⟨w_2⟩⟩]⟩ w4 fun (e5 : Ending) (w6 : World) =>
  ∃ (x7 : Bool) (x8 : Int), e5 = .returned (.tuple ⟨[.bool x7, .int .i64 x8]⟩) ∧ (∀ (K9 : Bool → World → Prop), (∀ (want_10 : Bool) (w11 : World), (∀ _ : Env, (Calls Tryd.prog 40 ⟨[.string ⟨⟨[95]⟩⟩, .int .i64 ((List.length w_2 : Int))]⟩ w11 fun (e12 : Ending) (w13 : World) =>
  ∃ (x14 : List UInt8), e12 = .returned (.string ⟨⟨x14⟩⟩) ∧ (Calls Tryd.prog 38 ⟨[.string ⟨⟨x14⟩⟩, .string ⟨⟨w_2⟩⟩]⟩ w13 fun (e15 : Ending) (w16 : World) =>
  ∃ (x17 : Bool) (x18 : Int), e15 = .returned (.tuple ⟨[.bool x17, .int .i64 x18]⟩) ∧ (br (decide ((x8 : Int) = 0)) (br (decide ((x18 : Int) = 0)) (br (decide ((x7 : Bool) = want_10)) (br x17 (Calls Tryd.prog 41 ⟨[.string ⟨⟨p_1⟩⟩, .string ⟨⟨[95]⟩⟩]⟩ w16 fun (e19 : Ending) (w20 : World) =>
  ∃ (x21 : Bool), e19 = .returned (.bool x21) ∧ (br x21 (Calls Tryd.prog 12 ⟨[]⟩ w20 fun (e22 : Ending) (w23 : World) =>
  ∃ (x24 : Bool), e22 = .returned (.bool x24) ∧ (R (.returned (.bool x24)) w23)) (br (decide ((x7 : Bool) = (decide ((p_1 : List UInt8) = w_2)))) (Calls Tryd.prog 12 ⟨[]⟩ w20 fun (e25 : Ending) (w26 : World) =>
  ∃ (x27 : Bool), e25 = .returned (.bool x27) ∧ (R (.returned (.bool x27)) w26)) (R (.returned (.bool false)) w20)))) (R (.returned (.bool false)) w16)) (R (.returned (.bool false)) w16)) (R (.returned (.bool false)) w16)) (R (.returned (.bool false)) w16))))) → K9 want_10 w11) → (∃ (I28 : Bool → Int → World → Nat → Prop), (∃ m33 : Nat, I28 (decide ((((List.length p_1 : Int)) : Int) = ((List.length w_2 : Int)))) 0 w6 m33) ∧ ∀ (want_29 : Bool) (i_30 : Int) (w31 : World) (m32 : Nat), I28 want_29 i_30 w31 m32 → ∀ _ : Env, (∀ (K34 : World → Prop), (∀  (w35 : World), (∀ _ : Env, (drw w35 fun w36 =>
  sidx p_1 i_30 fun b37 =>
  sidx w_2 i_30 fun b38 =>
  br (decide ((((b37.toNat : Int)) : Int) = ((b38.toNat : Int)))) (∃ m39 : Nat, m39 < m32 ∧ I28 true (IntKind.i64.wrap (i_30 + 1)) w36 m39) (sidx p_1 i_30 fun b40 =>
  ∃ m41 : Nat, m41 < m32 ∧ I28 (decide ((((b40.toNat : Int)) : Int) = 95)) (IntKind.i64.wrap (i_30 + 1)) w36 m41))) → K34 w35) → (br want_29 (br (decide ((i_30 : Int) < ((List.length p_1 : Int)))) (K34 w31) (K9 want_29 w31)) (K9 want_29 w31))))))) → K3 w4) → (br (decide ((100 : Int) < ((List.length p_1 : Int)))) (Calls Tryd.prog 12 ⟨[]⟩ w fun (e42 : Ending) (w43 : World) =>
  ∃ (x44 : Bool), e42 = .returned (.bool x44) ∧ (R (.returned (.bool x44)) w43)) (br (decide ((100 : Int) < ((List.length w_2 : Int)))) (Calls Tryd.prog 12 ⟨[]⟩ w fun (e45 : Ending) (w46 : World) =>
  ∃ (x47 : Bool), e45 = .returned (.bool x47) ∧ (R (.returned (.bool x47)) w46)) (K3 w)))
set_option maxRecDepth 100000 in
theorem e_law12_LegibilityFits (p_1 : List UInt8) (w_2 : List UInt8) (R : Ending → World → Prop) (w : World) : fnV Tryd.prog Tryd.f9 an_law12_LegibilityFits [.string ⟨⟨p_1⟩⟩, .string ⟨⟨w_2⟩⟩] R w = sh_law12_LegibilityFits p_1 w_2 R w := by kernel_rfl
theorem c_law12_LegibilityFits {p_1 : List UInt8} {w_2 : List UInt8} {R : Ending → World → Prop} {w : World} (h : sh_law12_LegibilityFits p_1 w_2 R w) : Calls Tryd.prog F_law12_LegibilityFits ⟨[.string ⟨⟨p_1⟩⟩, .string ⟨⟨w_2⟩⟩]⟩ w R := calls_of_fnV Tryd.func9 (by rw [e_law12_LegibilityFits]; exact h)

def an_law12_LegibilityPatterns : Ann := .two (.leaf) (.two (.two (.leaf) (.two (.two (.leaf) (.leaf)) (.leaf))) (.two (.leaf) (.two (.leaf) (.two (.two (.leaf) (.two (.two (.leaf) (.leaf)) (.leaf))) (.two (.leaf) (.two (.leaf) (.leaf)))))))
def sh_law12_LegibilityPatterns (l_1 : Option Addr) (l_1n : Nat) (l_1c : Nat) (R : Ending → World → Prop) (w : World) : Prop :=
  Calls Tryd.prog 11 ⟨[.slice l_1 l_1n l_1c]⟩ w fun (e2 : Ending) (w3 : World) =>
  ∃ (x4 : Bool), e2 = .returned (.bool x4) ∧ (br x4 (Calls Tryd.prog 12 ⟨[]⟩ w3 fun (e5 : Ending) (w6 : World) =>
  ∃ (x7 : Bool), e5 = .returned (.bool x7) ∧ (R (.returned (.bool x7)) w6)) (Calls Tryd.prog 13 ⟨[.slice l_1 l_1n l_1c]⟩ w3 fun (e8 : Ending) (w9 : World) =>
  ∃ (x10 : List UInt8) (x11 : Int), e8 = .returned (.tuple ⟨[.string ⟨⟨x10⟩⟩, .int .i64 x11]⟩) ∧ (Calls Tryd.prog 19 ⟨[.slice l_1 l_1n l_1c]⟩ w9 fun (e12 : Ending) (w13 : World) =>
  ∃ (x14 : Int) (x15 : Int), e12 = .returned (.tuple ⟨[.int .i64 x14, .int .i64 x15]⟩) ∧ (br (decide ((x11 : Int) ≠ 0)) (br (decide ((x10 : List UInt8) = ([]))) (br (decide ((x11 : Int) = x15)) (Calls Tryd.prog 12 ⟨[]⟩ w13 fun (e16 : Ending) (w17 : World) =>
  ∃ (x18 : Bool), e16 = .returned (.bool x18) ∧ (R (.returned (.bool x18)) w17)) (br (decide ((x11 : Int) = 4)) (br (decide ((x15 : Int) = 0)) (Calls Tryd.prog 12 ⟨[]⟩ w13 fun (e19 : Ending) (w20 : World) =>
  ∃ (x21 : Bool), e19 = .returned (.bool x21) ∧ (R (.returned (.bool x21)) w20)) (R (.returned (.bool false)) w13)) (R (.returned (.bool false)) w13))) (R (.returned (.bool false)) w13)) (Calls Tryd.prog 26 ⟨[.slice l_1 l_1n l_1c]⟩ w13 fun (e22 : Ending) (w23 : World) =>
  ∃ (x24 : List UInt8) (x25 : Int), e22 = .returned (.tuple ⟨[.string ⟨⟨x24⟩⟩, .int .i64 x25]⟩) ∧ (br (decide ((x15 : Int) = 0)) (br (decide ((x25 : Int) = 0)) (Calls Tryd.prog 42 ⟨[.string ⟨⟨x10⟩⟩, .string ⟨⟨[95]⟩⟩]⟩ w23 fun (e26 : Ending) (w27 : World) =>
  ∃ (x28 : Int), e26 = .returned (.int .i64 x28) ∧ (br (decide ((x28 : Int) = x14)) (Calls Tryd.prog 43 ⟨[.string ⟨⟨x10⟩⟩, .string ⟨⟨[95]⟩⟩, .string ⟨⟨[]⟩⟩]⟩ w27 fun (e29 : Ending) (w30 : World) =>
  ∃ (x31 : List UInt8), e29 = .returned (.string ⟨⟨x31⟩⟩) ∧ (br (decide ((x31 : List UInt8) = x24)) (Calls Tryd.prog 12 ⟨[]⟩ w30 fun (e32 : Ending) (w33 : World) =>
  ∃ (x34 : Bool), e32 = .returned (.bool x34) ∧ (R (.returned (.bool x34)) w33)) (R (.returned (.bool false)) w30))) (R (.returned (.bool false)) w27))) (R (.returned (.bool false)) w23)) (R (.returned (.bool false)) w23)))))))
set_option maxRecDepth 100000 in
theorem e_law12_LegibilityPatterns (l_1 : Option Addr) (l_1n : Nat) (l_1c : Nat) (R : Ending → World → Prop) (w : World) : fnV Tryd.prog Tryd.f10 an_law12_LegibilityPatterns [.slice l_1 l_1n l_1c] R w = sh_law12_LegibilityPatterns l_1 l_1n l_1c R w := by kernel_rfl
theorem c_law12_LegibilityPatterns {l_1 : Option Addr} {l_1n : Nat} {l_1c : Nat} {R : Ending → World → Prop} {w : World} (h : sh_law12_LegibilityPatterns l_1 l_1n l_1c R w) : Calls Tryd.prog F_law12_LegibilityPatterns ⟨[.slice l_1 l_1n l_1c]⟩ w R := calls_of_fnV Tryd.func10 (by rw [e_law12_LegibilityPatterns]; exact h)

def an_ref10_Great : Ann := .two (.leaf) (.two (.cut 32640 [(14, .one (.bool))] (.leaf) (.two (.two (.leaf) (.two (.leaf) (.leaf))) (.leaf))) (.two (.two (.leaf) (.one (.loop 1099377410116 [(6, .one (.int .i64))] (.two (.two (.leaf) (.two (.leaf) (.leaf))) (.two (.one (.two (.leaf) (.two (.two (.leaf) (.leaf)) (.leaf)))) (.leaf)))))) (.two (.leaf) (.leaf))))
def sh_ref10_Great (l_1 : Option Addr) (l_1n : Nat) (l_1c : Nat) (R : Ending → World → Prop) (w : World) : Prop :=
  ∀ (K2 : Bool → World → Prop), (∀ (t14_3 : Bool) (w4 : World), (∀ _ : Env, (br t14_3 (Calls Tryd.prog 44 ⟨[.slice l_1 l_1n l_1c, .int .i64 20, .int .i64 40]⟩ w4 fun (e5 : Ending) (w6 : World) =>
  ∃ (x7 : Int) (x8 : Int) (x9 : Bool), e5 = .returned (.tuple ⟨[.int .i64 x7, .int .i64 x8, .bool x9]⟩) ∧ (br (!x9) (R (.returned (.bool true)) w6) (Calls Tryd.prog 45 ⟨[.slice l_1 l_1n l_1c, .int .i64 20]⟩ w6 fun (e10 : Ending) (w11 : World) =>
  ∃ (x12 : Bool), e10 = .returned (.bool x12) ∧ (R (.returned (.bool x12)) w11)))) (∃ (I13 : Int → World → Nat → Prop), (∃ m17 : Nat, I13 0 w4 m17) ∧ ∀ (i_14 : Int) (w15 : World) (m16 : Nat), I13 i_14 w15 m16 → ∀ _ : Env, (br (decide ((i_14 : Int) < ((l_1n : Int)))) (idx l_1 l_1n i_14 4 fun p18 =>
  ∃ (x19 : Option Addr) (x19n : Nat) (x19c : Nat), World.cell? w15 (p18.add 3) = some (.slice x19 x19n x19c) ∧ (br (decide ((0 : Int) < ((x19n : Int)))) (R (.returned (.bool true)) w15) (∃ m20 : Nat, m20 < m16 ∧ I13 (IntKind.i64.wrap (i_14 + 1)) w15 m20))) (Calls Tryd.prog 45 ⟨[.slice l_1 l_1n l_1c, .int .i64 20]⟩ w15 fun (e21 : Ending) (w22 : World) =>
  ∃ (x23 : Bool), e21 = .returned (.bool x23) ∧ (R (.returned (.bool x23)) w22)))))) → K2 t14_3 w4) → (br (decide ((((l_1n : Int)) : Int) ≤ 4096)) (K2 true w) (K2 (decide ((4100 : Int) < ((l_1n : Int)))) w))
set_option maxRecDepth 100000 in
theorem e_ref10_Great (l_1 : Option Addr) (l_1n : Nat) (l_1c : Nat) (R : Ending → World → Prop) (w : World) : fnV Tryd.prog Tryd.f11 an_ref10_Great [.slice l_1 l_1n l_1c] R w = sh_ref10_Great l_1 l_1n l_1c R w := by kernel_rfl
theorem c_ref10_Great {l_1 : Option Addr} {l_1n : Nat} {l_1c : Nat} {R : Ending → World → Prop} {w : World} (h : sh_ref10_Great l_1 l_1n l_1c R w) : Calls Tryd.prog F_ref10_Great ⟨[.slice l_1 l_1n l_1c]⟩ w R := calls_of_fnV Tryd.func11 (by rw [e_ref10_Great]; exact h)

def an_law12_awake : Ann := .two (.leaf) (.two (.leaf) (.two (.leaf) (.two (.leaf) (.two (.leaf) (.two (.leaf) (.leaf))))))
def sh_law12_awake  (R : Ending → World → Prop) (w : World) : Prop :=
  Calls Tryd.prog 46 ⟨[]⟩ w fun (e1 : Ending) (w2 : World) =>
  ∃ (x3 : Option Addr) (x3n : Nat) (x3c : Nat), e1 = .returned (.slice x3 x3n x3c) ∧ (Calls Tryd.prog 13 ⟨[.slice x3 x3n x3c]⟩ w2 fun (e4 : Ending) (w5 : World) =>
  ∃ (x6 : List UInt8) (x7 : Int), e4 = .returned (.tuple ⟨[.string ⟨⟨x6⟩⟩, .int .i64 x7]⟩) ∧ (Calls Tryd.prog 46 ⟨[]⟩ w5 fun (e8 : Ending) (w9 : World) =>
  ∃ (x10 : Option Addr) (x10n : Nat) (x10c : Nat), e8 = .returned (.slice x10 x10n x10c) ∧ (Calls Tryd.prog 14 ⟨[.slice x10 x10n x10c]⟩ w9 fun (e11 : Ending) (w12 : World) =>
  ∃ (x13 : List UInt8) (x14 : Int), e11 = .returned (.tuple ⟨[.string ⟨⟨x13⟩⟩, .int .i64 x14]⟩) ∧ (Calls Tryd.prog 46 ⟨[]⟩ w12 fun (e15 : Ending) (w16 : World) =>
  ∃ (x17 : Option Addr) (x17n : Nat) (x17c : Nat), e15 = .returned (.slice x17 x17n x17c) ∧ (Calls Tryd.prog 23 ⟨[.slice x17 x17n x17c]⟩ w16 fun (e18 : Ending) (w19 : World) =>
  ∃ (x20 : Option Addr) (x20n : Nat) (x20c : Nat) (x21 : Int), e18 = .returned (.tuple ⟨[.slice x20 x20n x20c, .int .i64 x21]⟩) ∧ (Calls Tryd.prog 38 ⟨[.string ⟨⟨[100, 111, 109, 105, 110, 117, 115, 95, 95]⟩⟩, .string ⟨⟨[100, 111, 109, 105, 110, 117, 115, 109, 101]⟩⟩]⟩ w19 fun (e22 : Ending) (w23 : World) =>
  ∃ (x24 : Bool) (x25 : Int), e22 = .returned (.tuple ⟨[.bool x24, .int .i64 x25]⟩) ∧ (br (decide ((((max (max (max x7 x14) x21) x25)) : Int) = 0)) (br (decide ((x6 : List UInt8) = ([100, 111, 109, 105, 110, 117, 115, 95, 95]))) (br (decide ((x13 : List UInt8) = ([100, 110, 115, 95, 95]))) (al w23 42 [.string ⟨⟨[110, 115]⟩⟩, .string ⟨⟨[111, 109, 105, 110, 117, 115]⟩⟩] fun p26 w27 =>
  Calls Tryd.prog 47 ⟨[.slice x20 x20n x20c, .slice (some p26) 1 1]⟩ w27 fun (e28 : Ending) (w29 : World) =>
  ∃ (x30 : Bool), e28 = .returned (.bool x30) ∧ (br x30 (R (.returned (.bool x24)) w29) (R (.returned (.bool false)) w29))) (R (.returned (.bool false)) w23)) (R (.returned (.bool false)) w23)) (R (.returned (.bool false)) w23))))))))
set_option maxRecDepth 100000 in
theorem e_law12_awake  (R : Ending → World → Prop) (w : World) : fnV Tryd.prog Tryd.f12 an_law12_awake [] R w = sh_law12_awake  R w := by kernel_rfl
theorem c_law12_awake  {R : Ending → World → Prop} {w : World} (h : sh_law12_awake  R w) : Calls Tryd.prog F_law12_awake ⟨[]⟩ w R := calls_of_fnV Tryd.func12 (by rw [e_law12_awake]; exact h)

def an_legibility_Pattern : Ann := .two (.leaf) (.two (.two (.leaf) (.two (.leaf) (.two (.two (.leaf) (.leaf)) (.leaf)))) (.two (.leaf) (.leaf)))
def sh_legibility_Pattern (l_1 : Option Addr) (l_1n : Nat) (l_1c : Nat) (R : Ending → World → Prop) (w : World) : Prop :=
  Calls Tryd.prog 48 ⟨[.slice l_1 l_1n l_1c]⟩ w fun (e2 : Ending) (w3 : World) =>
  ∃ (x4 : Int), e2 = .returned (.int .i64 x4) ∧ (br (decide ((x4 : Int) ≠ 0)) (R (.returned (.tuple ⟨[.string ⟨⟨[]⟩⟩, .int .i64 x4]⟩)) w3) (Calls Tryd.prog 50 ⟨[.slice l_1 l_1n l_1c]⟩ w3 fun (e5 : Ending) (w6 : World) =>
  ∃ (x7 : List UInt8), e5 = .returned (.string ⟨⟨x7⟩⟩) ∧ (Calls Tryd.prog 49 ⟨[.string ⟨⟨x7⟩⟩]⟩ w6 fun (e8 : Ending) (w9 : World) =>
  ∃ (x10 : List UInt8) (x11 : Int), e8 = .returned (.tuple ⟨[.string ⟨⟨x10⟩⟩, .int .i64 x11]⟩) ∧ (R (.returned (.tuple ⟨[.string ⟨⟨x10⟩⟩, .int .i64 x11]⟩)) w9))))
set_option maxRecDepth 100000 in
theorem e_legibility_Pattern (l_1 : Option Addr) (l_1n : Nat) (l_1c : Nat) (R : Ending → World → Prop) (w : World) : fnV Tryd.prog Tryd.f13 an_legibility_Pattern [.slice l_1 l_1n l_1c] R w = sh_legibility_Pattern l_1 l_1n l_1c R w := by kernel_rfl
theorem c_legibility_Pattern {l_1 : Option Addr} {l_1n : Nat} {l_1c : Nat} {R : Ending → World → Prop} {w : World} (h : sh_legibility_Pattern l_1 l_1n l_1c R w) : Calls Tryd.prog F_legibility_Pattern ⟨[.slice l_1 l_1n l_1c]⟩ w R := calls_of_fnV Tryd.func13 (by rw [e_legibility_Pattern]; exact h)

def an_legibility_Written : Ann := .two (.leaf) (.two (.two (.leaf) (.two (.leaf) (.two (.two (.leaf) (.leaf)) (.leaf)))) (.two (.leaf) (.leaf)))
def sh_legibility_Written (l_1 : Option Addr) (l_1n : Nat) (l_1c : Nat) (R : Ending → World → Prop) (w : World) : Prop :=
  Calls Tryd.prog 48 ⟨[.slice l_1 l_1n l_1c]⟩ w fun (e2 : Ending) (w3 : World) =>
  ∃ (x4 : Int), e2 = .returned (.int .i64 x4) ∧ (br (decide ((x4 : Int) ≠ 0)) (R (.returned (.tuple ⟨[.string ⟨⟨[]⟩⟩, .int .i64 x4]⟩)) w3) (Calls Tryd.prog 51 ⟨[.slice l_1 l_1n l_1c]⟩ w3 fun (e5 : Ending) (w6 : World) =>
  ∃ (x7 : List UInt8), e5 = .returned (.string ⟨⟨x7⟩⟩) ∧ (Calls Tryd.prog 49 ⟨[.string ⟨⟨x7⟩⟩]⟩ w6 fun (e8 : Ending) (w9 : World) =>
  ∃ (x10 : List UInt8) (x11 : Int), e8 = .returned (.tuple ⟨[.string ⟨⟨x10⟩⟩, .int .i64 x11]⟩) ∧ (R (.returned (.tuple ⟨[.string ⟨⟨x10⟩⟩, .int .i64 x11]⟩)) w9))))
set_option maxRecDepth 100000 in
theorem e_legibility_Written (l_1 : Option Addr) (l_1n : Nat) (l_1c : Nat) (R : Ending → World → Prop) (w : World) : fnV Tryd.prog Tryd.f14 an_legibility_Written [.slice l_1 l_1n l_1c] R w = sh_legibility_Written l_1 l_1n l_1c R w := by kernel_rfl
theorem c_legibility_Written {l_1 : Option Addr} {l_1n : Nat} {l_1c : Nat} {R : Ending → World → Prop} {w : World} (h : sh_legibility_Written l_1 l_1n l_1c R w) : Calls Tryd.prog F_legibility_Written ⟨[.slice l_1 l_1n l_1c]⟩ w R := calls_of_fnV Tryd.func14 (by rw [e_legibility_Written]; exact h)

def an_transcript_Count : Ann := .two (.leaf) (.two (.two (.leaf) (.two (.two (.leaf) (.leaf)) (.leaf))) (.cut 129072 [(4, .one (.int .i64)), (5, .one (.int .i64))] (.two (.leaf) (.two (.two (.leaf) (.leaf)) (.leaf))) (.two (.leaf) (.two (.two (.leaf) (.one (.rf [3, 4, 5, 6, 18] 0))) (.two (.leaf) (.leaf))))))
def sh_transcript_Count (l_1 : Option Addr) (l_1n : Nat) (l_1c : Nat) (kind_2 : Int) (R : Ending → World → Prop) (w : World) : Prop :=
  al w 3 [.int .i64 kind_2] fun p3 w4 =>
  Calls Tryd.prog 34 ⟨[.slice l_1 l_1n l_1c]⟩ w4 fun (e5 : Ending) (w6 : World) =>
  ∃ (x7 : Int), e5 = .returned (.int .i64 x7) ∧ (br (decide ((x7 : Int) ≠ 0)) (R (.returned (.tuple ⟨[.int .i64 0, .int .i64 1]⟩)) w6) (∀ (K8 : Int → Int → World → Prop), (∀ (t4_9 : Int) (t5_10 : Int) (w11 : World), (∀ _ : Env, (al w11 3 [.int .i64 0] fun p12 w13 =>
  stL w13 p12 0 [.int .i64 0] fun w14 =>
  Calls Tryd.prog 52 ⟨[.slice l_1 l_1n l_1c]⟩ w14 fun (e15 : Ending) (w16 : World) =>
  ∃ (x17 : Fn) (x17a : Array Value) (x17b : Array Value), e15 = .returned (.func x17 x17a x17b) ∧ (∀ base18 : Env, RFw Tryd.prog none 28 (cdAt Tryd.f15 [1, 1, 1, 1, 0, 1, 2]) (upd (upd (upd (upd (upd base18 18 (.func x17 x17a x17b)) 6 (.pointer (some p12))) 5 (.int .i64 t5_10)) 4 (.int .i64 t4_9)) 3 (.pointer (some p3))) [] w16 0 (fun ds19 w20 =>
  ∃ (x23 : Int), World.cell? w20 p12 = some (.int .i64 x23) ∧ (retD ds19 w20 fun w24 =>
  R (.returned (.tuple ⟨[.int .i64 x23, .int .i64 0]⟩)) w24)) (fun ds19 w20 =>
  retD ds19 w20 fun w25 =>
  R (.returned (.tuple ⟨[.int .i64 t4_9, .int .i64 t5_10]⟩)) w25) (fun ds19 w20 =>
  ∃ (x21 : Int), World.cell? w20 p12 = some (.int .i64 x21) ∧ (retD ds19 w20 fun w22 =>
  R (.returned (.tuple ⟨[.int .i64 x21, .int .i64 0]⟩)) w22))))) → K8 t4_9 t5_10 w11) → (∃ (x26 : Int), World.cell? w6 p3 = some (.int .i64 x26) ∧ (br (decide ((x26 : Int) < 1)) (R (.returned (.tuple ⟨[.int .i64 0, .int .i64 8]⟩)) w6) (∃ (x27 : Int), World.cell? w6 p3 = some (.int .i64 x27) ∧ (br (decide ((11 : Int) < x27)) (R (.returned (.tuple ⟨[.int .i64 0, .int .i64 8]⟩)) w6) (K8 0 0 w6)))))))
set_option maxRecDepth 100000 in
theorem e_transcript_Count (l_1 : Option Addr) (l_1n : Nat) (l_1c : Nat) (kind_2 : Int) (R : Ending → World → Prop) (w : World) : fnV Tryd.prog Tryd.f15 an_transcript_Count [.slice l_1 l_1n l_1c, .int .i64 kind_2] R w = sh_transcript_Count l_1 l_1n l_1c kind_2 R w := by kernel_rfl
theorem c_transcript_Count {l_1 : Option Addr} {l_1n : Nat} {l_1c : Nat} {kind_2 : Int} {R : Ending → World → Prop} {w : World} (h : sh_transcript_Count l_1 l_1n l_1c kind_2 R w) : Calls Tryd.prog F_transcript_Count ⟨[.slice l_1 l_1n l_1c, .int .i64 kind_2]⟩ w R := calls_of_fnV Tryd.func15 (by rw [e_transcript_Count]; exact h)
def anA_transcript_Count_1 : Ann := .leaf
def anB_transcript_Count_1 : Ann := .one (.two (.leaf) (.two (.leaf) (.leaf)))
def rf_transcript_Count_1 (kind_28 : Option Addr) (t4_29 : Int) (t5_30 : Int) (n_31 : Option Addr) (t18_32 : Fn) (t18_32a : Array Value) (t18_32b : Array Value) (t19_33 : Int) (t19_34 : List UInt8) (t19_35 : Int) (t19_36 : Option Addr) (t19_36n : Nat) (t19_36c : Nat) (t19_37 : Int) (t19_38 : Bool) (l : Nat) (Kn Kr Kx : World → World → Prop) (w : World) : Prop :=
  al w 72 [.int .i64 0, .string ⟨⟨[]⟩⟩, .int .i64 0, .slice none 0 0, .int .i64 0, .bool false] fun p40 w41 =>
  stL w41 p40 0 [.int .i64 t19_33, .string ⟨⟨t19_34⟩⟩, .int .i64 t19_35, .slice t19_36 t19_36n t19_36c, .int .i64 t19_37, .bool t19_38] fun w42 =>
  Ext w w42 ∧ ∀ w39 : World, Upd l w42 w39 → (∃ (x43 : Int), World.cell? w39 ((p40.add 0).add 0) = some (.int .i64 x43) ∧ (dr kind_28 fun p44 =>
  ∃ (x45 : Int), World.cell? w39 p44 = some (.int .i64 x45) ∧ (br (decide ((x43 : Int) = x45)) (dr n_31 fun p46 =>
  ∃ (x47 : Int), World.cell? w39 p46 = some (.int .i64 x47) ∧ (dr n_31 fun p49 =>
  stL w39 p49 0 [.int .i64 (IntKind.i64.wrap (x47 + 1))] fun w48 =>
  Kn w39 w48)) (Kn w39 w39))))
set_option maxRecDepth 100000 in
theorem er_transcript_Count_1 (base : Env) (kind_28 : Option Addr) (t4_29 : Int) (t5_30 : Int) (n_31 : Option Addr) (t18_32 : Fn) (t18_32a : Array Value) (t18_32b : Array Value) (t19_33 : Int) (t19_34 : List UInt8) (t19_35 : Int) (t19_36 : Option Addr) (t19_36n : Nat) (t19_36c : Nat) (t19_37 : Int) (t19_38 : Bool) (l : Nat) (Kn Kr Kx : World → World → Prop) (w : World) : fragV Tryd.prog 28 anA_transcript_Count_1 anB_transcript_Count_1 (cdAt Tryd.f15 [1, 1, 1, 1, 0, 1, 2, 5]) (cdAt Tryd.f15 [1, 1, 1, 1, 0, 1, 2, 6]) l 0 Kn Kr Kx (updPs [19] [.agg ⟨[.int .i64 t19_33, .string ⟨⟨t19_34⟩⟩, .int .i64 t19_35, .slice t19_36 t19_36n t19_36c, .int .i64 t19_37, .bool t19_38]⟩] (upd (upd (upd (upd (upd base 18 (.func t18_32 t18_32a t18_32b)) 6 (.pointer n_31)) 5 (.int .i64 t5_30)) 4 (.int .i64 t4_29)) 3 (.pointer kind_28))) w = rf_transcript_Count_1 kind_28 t4_29 t5_30 n_31 t18_32 t18_32a t18_32b t19_33 t19_34 t19_35 t19_36 t19_36n t19_36c t19_37 t19_38 l Kn Kr Kx w := by kernel_rfl
theorem cd_transcript_Count_1 : cdAt Tryd.f15 [1, 1, 1, 1, 0, 1, 2] = .rangeFunc (Operand.tmp 18) #[19] (cdAt Tryd.f15 [1, 1, 1, 1, 0, 1, 2, 5]) (cdAt Tryd.f15 [1, 1, 1, 1, 0, 1, 2, 6]) := by kernel_rfl

def an_ref12_Pattern : Ann := .two (.leaf) (.two (.two (.leaf) (.two (.leaf) (.two (.two (.leaf) (.leaf)) (.leaf)))) (.two (.leaf) (.two (.two (.leaf) (.two (.two (.leaf) (.leaf)) (.leaf))) (.two (.leaf) (.leaf)))))
def sh_ref12_Pattern (l_1 : Option Addr) (l_1n : Nat) (l_1c : Nat) (R : Ending → World → Prop) (w : World) : Prop :=
  Calls Tryd.prog 54 ⟨[.slice l_1 l_1n l_1c]⟩ w fun (e2 : Ending) (w3 : World) =>
  ∃ (x4 : Int), e2 = .returned (.int .i64 x4) ∧ (br (decide ((x4 : Int) ≠ 0)) (R (.returned (.tuple ⟨[.string ⟨⟨[]⟩⟩, .int .i64 x4]⟩)) w3) (Calls Tryd.prog 55 ⟨[.slice l_1 l_1n l_1c]⟩ w3 fun (e5 : Ending) (w6 : World) =>
  ∃ (x7 : List UInt8), e5 = .returned (.string ⟨⟨x7⟩⟩) ∧ (br (decide ((65536 : Int) < ((List.length x7 : Int)))) (R (.returned (.tuple ⟨[.string ⟨⟨[]⟩⟩, .int .i64 4]⟩)) w6) (R (.returned (.tuple ⟨[.string ⟨⟨x7⟩⟩, .int .i64 0]⟩)) w6))))
set_option maxRecDepth 100000 in
theorem e_ref12_Pattern (l_1 : Option Addr) (l_1n : Nat) (l_1c : Nat) (R : Ending → World → Prop) (w : World) : fnV Tryd.prog Tryd.f17 an_ref12_Pattern [.slice l_1 l_1n l_1c] R w = sh_ref12_Pattern l_1 l_1n l_1c R w := by kernel_rfl
theorem c_ref12_Pattern {l_1 : Option Addr} {l_1n : Nat} {l_1c : Nat} {R : Ending → World → Prop} {w : World} (h : sh_ref12_Pattern l_1 l_1n l_1c R w) : Calls Tryd.prog F_ref12_Pattern ⟨[.slice l_1 l_1n l_1c]⟩ w R := calls_of_fnV Tryd.func17 (by rw [e_ref12_Pattern]; exact h)

def an_ref12_Written : Ann := .two (.leaf) (.two (.two (.leaf) (.two (.leaf) (.two (.two (.leaf) (.leaf)) (.leaf)))) (.two (.leaf) (.two (.two (.leaf) (.two (.two (.leaf) (.leaf)) (.leaf))) (.two (.leaf) (.leaf)))))
def sh_ref12_Written (l_1 : Option Addr) (l_1n : Nat) (l_1c : Nat) (R : Ending → World → Prop) (w : World) : Prop :=
  Calls Tryd.prog 54 ⟨[.slice l_1 l_1n l_1c]⟩ w fun (e2 : Ending) (w3 : World) =>
  ∃ (x4 : Int), e2 = .returned (.int .i64 x4) ∧ (br (decide ((x4 : Int) ≠ 0)) (R (.returned (.tuple ⟨[.string ⟨⟨[]⟩⟩, .int .i64 x4]⟩)) w3) (Calls Tryd.prog 56 ⟨[.slice l_1 l_1n l_1c]⟩ w3 fun (e5 : Ending) (w6 : World) =>
  ∃ (x7 : List UInt8), e5 = .returned (.string ⟨⟨x7⟩⟩) ∧ (br (decide ((65536 : Int) < ((List.length x7 : Int)))) (R (.returned (.tuple ⟨[.string ⟨⟨[]⟩⟩, .int .i64 4]⟩)) w6) (R (.returned (.tuple ⟨[.string ⟨⟨x7⟩⟩, .int .i64 0]⟩)) w6))))
set_option maxRecDepth 100000 in
theorem e_ref12_Written (l_1 : Option Addr) (l_1n : Nat) (l_1c : Nat) (R : Ending → World → Prop) (w : World) : fnV Tryd.prog Tryd.f18 an_ref12_Written [.slice l_1 l_1n l_1c] R w = sh_ref12_Written l_1 l_1n l_1c R w := by kernel_rfl
theorem c_ref12_Written {l_1 : Option Addr} {l_1n : Nat} {l_1c : Nat} {R : Ending → World → Prop} {w : World} (h : sh_ref12_Written l_1 l_1n l_1c R w) : Calls Tryd.prog F_ref12_Written ⟨[.slice l_1 l_1n l_1c]⟩ w R := calls_of_fnV Tryd.func18 (by rw [e_ref12_Written]; exact h)

def an_legibility_Lost : Ann := .two (.leaf) (.two (.two (.leaf) (.two (.leaf) (.two (.two (.leaf) (.leaf)) (.leaf)))) (.two (.leaf) (.two (.two (.leaf) (.one (.rf [2, 3, 5, 13] 0))) (.two (.leaf) (.leaf)))))
def sh_legibility_Lost (l_1 : Option Addr) (l_1n : Nat) (l_1c : Nat) (R : Ending → World → Prop) (w : World) : Prop :=
  Calls Tryd.prog 48 ⟨[.slice l_1 l_1n l_1c]⟩ w fun (e2 : Ending) (w3 : World) =>
  ∃ (x4 : Int), e2 = .returned (.int .i64 x4) ∧ (br (decide ((x4 : Int) ≠ 0)) (R (.returned (.tuple ⟨[.int .i64 0, .int .i64 x4]⟩)) w3) (al w3 3 [.int .i64 0] fun p5 w6 =>
  stL w6 p5 0 [.int .i64 0] fun w7 =>
  Calls Tryd.prog 57 ⟨[.slice l_1 l_1n l_1c]⟩ w7 fun (e8 : Ending) (w9 : World) =>
  ∃ (x10 : Fn) (x10a : Array Value) (x10b : Array Value), e8 = .returned (.func x10 x10a x10b) ∧ (∀ base11 : Env, RFw Tryd.prog none 24 (cdAt Tryd.f19 [1, 1, 1, 0, 1, 2]) (upd (upd (upd (upd base11 13 (.func x10 x10a x10b)) 5 (.pointer (some p5))) 3 (.int .i64 0)) 2 (.int .i64 0)) [] w9 0 (fun ds12 w13 =>
  ∃ (x16 : Int), World.cell? w13 p5 = some (.int .i64 x16) ∧ (retD ds12 w13 fun w17 =>
  R (.returned (.tuple ⟨[.int .i64 x16, .int .i64 0]⟩)) w17)) (fun ds12 w13 =>
  retD ds12 w13 fun w18 =>
  R (.returned (.tuple ⟨[.int .i64 0, .int .i64 0]⟩)) w18) (fun ds12 w13 =>
  ∃ (x14 : Int), World.cell? w13 p5 = some (.int .i64 x14) ∧ (retD ds12 w13 fun w15 =>
  R (.returned (.tuple ⟨[.int .i64 x14, .int .i64 0]⟩)) w15)))))
set_option maxRecDepth 100000 in
theorem e_legibility_Lost (l_1 : Option Addr) (l_1n : Nat) (l_1c : Nat) (R : Ending → World → Prop) (w : World) : fnV Tryd.prog Tryd.f19 an_legibility_Lost [.slice l_1 l_1n l_1c] R w = sh_legibility_Lost l_1 l_1n l_1c R w := by kernel_rfl
theorem c_legibility_Lost {l_1 : Option Addr} {l_1n : Nat} {l_1c : Nat} {R : Ending → World → Prop} {w : World} (h : sh_legibility_Lost l_1 l_1n l_1c R w) : Calls Tryd.prog F_legibility_Lost ⟨[.slice l_1 l_1n l_1c]⟩ w R := calls_of_fnV Tryd.func19 (by rw [e_legibility_Lost]; exact h)
def anA_legibility_Lost_1 : Ann := .leaf
def anB_legibility_Lost_1 : Ann := .one (.two (.leaf) (.two (.leaf) (.leaf)))
def rf_legibility_Lost_1 (t2_19 : Int) (t3_20 : Int) (n_21 : Option Addr) (t13_22 : Fn) (t13_22a : Array Value) (t13_22b : Array Value) (t14_23 : Int) (t14_24 : List UInt8) (t14_25 : Int) (t14_26 : Option Addr) (t14_26n : Nat) (t14_26c : Nat) (t15_27 : Value) (l : Nat) (Kn Kr Kx : World → World → Prop) (w : World) : Prop :=
  al w 37 [.int .i64 0, .string ⟨⟨[]⟩⟩, .int .i64 0, .slice none 0 0] fun p29 w30 =>
  stL w30 p29 0 [.int .i64 t14_23, .string ⟨⟨t14_24⟩⟩, .int .i64 t14_25, .slice t14_26 t14_26n t14_26c] fun w31 =>
  Ext w w31 ∧ ∀ w28 : World, Upd l w31 w28 → (∃ (x32 : Int), World.cell? w28 (p29.add 0) = some (.int .i64 x32) ∧ (br (decide ((x32 : Int) = 6)) (dr n_21 fun p33 =>
  ∃ (x34 : Int), World.cell? w28 p33 = some (.int .i64 x34) ∧ (∃ (x35 : Int), World.cell? w28 (p29.add 2) = some (.int .i64 x35) ∧ (dr n_21 fun p37 =>
  stL w28 p37 0 [.int .i64 (IntKind.i64.wrap (x34 + x35))] fun w36 =>
  Kn w28 w36))) (Kn w28 w28)))
set_option maxRecDepth 100000 in
theorem er_legibility_Lost_1 (base : Env) (t2_19 : Int) (t3_20 : Int) (n_21 : Option Addr) (t13_22 : Fn) (t13_22a : Array Value) (t13_22b : Array Value) (t14_23 : Int) (t14_24 : List UInt8) (t14_25 : Int) (t14_26 : Option Addr) (t14_26n : Nat) (t14_26c : Nat) (t15_27 : Value) (l : Nat) (Kn Kr Kx : World → World → Prop) (w : World) : fragV Tryd.prog 24 anA_legibility_Lost_1 anB_legibility_Lost_1 (cdAt Tryd.f19 [1, 1, 1, 0, 1, 2, 5]) (cdAt Tryd.f19 [1, 1, 1, 0, 1, 2, 6]) l 0 Kn Kr Kx (updPs [14, 15] [.agg ⟨[.int .i64 t14_23, .string ⟨⟨t14_24⟩⟩, .int .i64 t14_25, .slice t14_26 t14_26n t14_26c]⟩, t15_27] (upd (upd (upd (upd base 13 (.func t13_22 t13_22a t13_22b)) 5 (.pointer n_21)) 3 (.int .i64 t3_20)) 2 (.int .i64 t2_19))) w = rf_legibility_Lost_1 t2_19 t3_20 n_21 t13_22 t13_22a t13_22b t14_23 t14_24 t14_25 t14_26 t14_26n t14_26c t15_27 l Kn Kr Kx w := by kernel_rfl
theorem cd_legibility_Lost_1 : cdAt Tryd.f19 [1, 1, 1, 0, 1, 2] = .rangeFunc (Operand.tmp 13) #[14, 15] (cdAt Tryd.f19 [1, 1, 1, 0, 1, 2, 5]) (cdAt Tryd.f19 [1, 1, 1, 0, 1, 2, 6]) := by kernel_rfl

def an_ref12_Lost : Ann := .two (.leaf) (.two (.two (.leaf) (.two (.leaf) (.two (.two (.leaf) (.leaf)) (.leaf)))) (.two (.leaf) (.two (.two (.leaf) (.one (.loop 16711840 [(5, .one (.int .i64)), (16, .one (.int .i64))] (.two (.leaf) (.two (.two (.leaf) (.leaf)) (.two (.one (.two (.leaf) (.leaf))) (.leaf))))))) (.two (.leaf) (.leaf)))))
def sh_ref12_Lost (l_1 : Option Addr) (l_1n : Nat) (l_1c : Nat) (R : Ending → World → Prop) (w : World) : Prop :=
  Calls Tryd.prog 54 ⟨[.slice l_1 l_1n l_1c]⟩ w fun (e2 : Ending) (w3 : World) =>
  ∃ (x4 : Int), e2 = .returned (.int .i64 x4) ∧ (br (decide ((x4 : Int) ≠ 0)) (R (.returned (.tuple ⟨[.int .i64 0, .int .i64 x4]⟩)) w3) (Calls Tryd.prog 58 ⟨[.slice l_1 l_1n l_1c]⟩ w3 fun (e5 : Ending) (w6 : World) =>
  ∃ (x7 : Option Addr) (x7n : Nat) (x7c : Nat), e5 = .returned (.slice x7 x7n x7c) ∧ (∃ (I8 : Int → Int → World → Nat → Prop), (∃ m13 : Nat, I8 0 0 w6 m13) ∧ ∀ (n_9 : Int) (t16_10 : Int) (w11 : World) (m12 : Nat), I8 n_9 t16_10 w11 m12 → ∀ _ : Env, (br (decide ((t16_10 : Int) < ((x7n : Int)))) (idx x7 x7n t16_10 1 fun p14 =>
  ∃ (x15 : Int), World.cell? w11 p14 = some (.int .i64 x15) ∧ (∃ m16 : Nat, m16 < m12 ∧ I8 (IntKind.i64.wrap (n_9 + x15)) (IntKind.i64.wrap (t16_10 + 1)) w11 m16)) (R (.returned (.tuple ⟨[.int .i64 n_9, .int .i64 0]⟩)) w11)))))
set_option maxRecDepth 100000 in
theorem e_ref12_Lost (l_1 : Option Addr) (l_1n : Nat) (l_1c : Nat) (R : Ending → World → Prop) (w : World) : fnV Tryd.prog Tryd.f20 an_ref12_Lost [.slice l_1 l_1n l_1c] R w = sh_ref12_Lost l_1 l_1n l_1c R w := by kernel_rfl
theorem c_ref12_Lost {l_1 : Option Addr} {l_1n : Nat} {l_1c : Nat} {R : Ending → World → Prop} {w : World} (h : sh_ref12_Lost l_1 l_1n l_1c R w) : Calls Tryd.prog F_ref12_Lost ⟨[.slice l_1 l_1n l_1c]⟩ w R := calls_of_fnV Tryd.func20 (by rw [e_ref12_Lost]; exact h)

def an_legibility_Unclear : Ann := .two (.leaf) (.two (.two (.leaf) (.two (.leaf) (.two (.two (.leaf) (.leaf)) (.leaf)))) (.two (.leaf) (.two (.two (.leaf) (.one (.rf [2, 3, 5, 14] 0))) (.two (.leaf) (.leaf)))))
def sh_legibility_Unclear (l_1 : Option Addr) (l_1n : Nat) (l_1c : Nat) (R : Ending → World → Prop) (w : World) : Prop :=
  Calls Tryd.prog 48 ⟨[.slice l_1 l_1n l_1c]⟩ w fun (e2 : Ending) (w3 : World) =>
  ∃ (x4 : Int), e2 = .returned (.int .i64 x4) ∧ (br (decide ((x4 : Int) ≠ 0)) (R (.returned (.tuple ⟨[.int .i64 0, .int .i64 x4]⟩)) w3) (al w3 3 [.int .i64 0] fun p5 w6 =>
  stL w6 p5 0 [.int .i64 0] fun w7 =>
  Calls Tryd.prog 57 ⟨[.slice l_1 l_1n l_1c]⟩ w7 fun (e8 : Ending) (w9 : World) =>
  ∃ (x10 : Fn) (x10a : Array Value) (x10b : Array Value), e8 = .returned (.func x10 x10a x10b) ∧ (∀ base11 : Env, RFw Tryd.prog none 29 (cdAt Tryd.f21 [1, 1, 1, 0, 1, 2]) (upd (upd (upd (upd base11 14 (.func x10 x10a x10b)) 5 (.pointer (some p5))) 3 (.int .i64 0)) 2 (.int .i64 0)) [] w9 0 (fun ds12 w13 =>
  ∃ (x16 : Int), World.cell? w13 p5 = some (.int .i64 x16) ∧ (retD ds12 w13 fun w17 =>
  R (.returned (.tuple ⟨[.int .i64 x16, .int .i64 0]⟩)) w17)) (fun ds12 w13 =>
  retD ds12 w13 fun w18 =>
  R (.returned (.tuple ⟨[.int .i64 0, .int .i64 0]⟩)) w18) (fun ds12 w13 =>
  ∃ (x14 : Int), World.cell? w13 p5 = some (.int .i64 x14) ∧ (retD ds12 w13 fun w15 =>
  R (.returned (.tuple ⟨[.int .i64 x14, .int .i64 0]⟩)) w15)))))
set_option maxRecDepth 100000 in
theorem e_legibility_Unclear (l_1 : Option Addr) (l_1n : Nat) (l_1c : Nat) (R : Ending → World → Prop) (w : World) : fnV Tryd.prog Tryd.f21 an_legibility_Unclear [.slice l_1 l_1n l_1c] R w = sh_legibility_Unclear l_1 l_1n l_1c R w := by kernel_rfl
theorem c_legibility_Unclear {l_1 : Option Addr} {l_1n : Nat} {l_1c : Nat} {R : Ending → World → Prop} {w : World} (h : sh_legibility_Unclear l_1 l_1n l_1c R w) : Calls Tryd.prog F_legibility_Unclear ⟨[.slice l_1 l_1n l_1c]⟩ w R := calls_of_fnV Tryd.func21 (by rw [e_legibility_Unclear]; exact h)
def anA_legibility_Unclear_1 : Ann := .two (.leaf) (.leaf)
def anB_legibility_Unclear_1 : Ann := .one (.cut 8257536 [(22, .one (.bool))] (.leaf) (.two (.leaf) (.leaf)))
def rf_legibility_Unclear_1 (t2_19 : Int) (t3_20 : Int) (n_21 : Option Addr) (t14_22 : Fn) (t14_22a : Array Value) (t14_22b : Array Value) (t15_23 : Int) (t15_24 : List UInt8) (t15_25 : Int) (t15_26 : Option Addr) (t15_26n : Nat) (t15_26c : Nat) (t16_27 : Bool) (l : Nat) (Kn Kr Kx : World → World → Prop) (w : World) : Prop :=
  al w 37 [.int .i64 0, .string ⟨⟨[]⟩⟩, .int .i64 0, .slice none 0 0] fun p29 w30 =>
  stL w30 p29 0 [.int .i64 t15_23, .string ⟨⟨t15_24⟩⟩, .int .i64 t15_25, .slice t15_26 t15_26n t15_26c] fun w31 =>
  Ext w w31 ∧ ∀ w28 : World, Upd l w31 w28 → (∀ (K32 : Bool → World → Prop), (∀ (t22_33 : Bool) (w34 : World), (∀ _ : Env, (br t22_33 (dr n_21 fun p35 =>
  ∃ (x36 : Int), World.cell? w34 p35 = some (.int .i64 x36) ∧ (∃ (x37 : List UInt8), World.cell? w34 (p29.add 1) = some (.string ⟨⟨x37⟩⟩) ∧ (dr n_21 fun p39 =>
  stL w34 p39 0 [.int .i64 (IntKind.i64.wrap (x36 + ((List.length x37 : Int))))] fun w38 =>
  Kn w28 w38))) (Kn w28 w34))) → K32 t22_33 w34) → (∃ (x40 : Int), World.cell? w28 (p29.add 0) = some (.int .i64 x40) ∧ (br (decide ((x40 : Int) = 1)) (K32 t16_27 w28) (K32 false w28))))
set_option maxRecDepth 100000 in
theorem er_legibility_Unclear_1 (base : Env) (t2_19 : Int) (t3_20 : Int) (n_21 : Option Addr) (t14_22 : Fn) (t14_22a : Array Value) (t14_22b : Array Value) (t15_23 : Int) (t15_24 : List UInt8) (t15_25 : Int) (t15_26 : Option Addr) (t15_26n : Nat) (t15_26c : Nat) (t16_27 : Bool) (l : Nat) (Kn Kr Kx : World → World → Prop) (w : World) : fragV Tryd.prog 29 anA_legibility_Unclear_1 anB_legibility_Unclear_1 (cdAt Tryd.f21 [1, 1, 1, 0, 1, 2, 5]) (cdAt Tryd.f21 [1, 1, 1, 0, 1, 2, 6]) l 0 Kn Kr Kx (updPs [15, 16] [.agg ⟨[.int .i64 t15_23, .string ⟨⟨t15_24⟩⟩, .int .i64 t15_25, .slice t15_26 t15_26n t15_26c]⟩, .bool t16_27] (upd (upd (upd (upd base 14 (.func t14_22 t14_22a t14_22b)) 5 (.pointer n_21)) 3 (.int .i64 t3_20)) 2 (.int .i64 t2_19))) w = rf_legibility_Unclear_1 t2_19 t3_20 n_21 t14_22 t14_22a t14_22b t15_23 t15_24 t15_25 t15_26 t15_26n t15_26c t16_27 l Kn Kr Kx w := by kernel_rfl
theorem cd_legibility_Unclear_1 : cdAt Tryd.f21 [1, 1, 1, 0, 1, 2] = .rangeFunc (Operand.tmp 14) #[15, 16] (cdAt Tryd.f21 [1, 1, 1, 0, 1, 2, 5]) (cdAt Tryd.f21 [1, 1, 1, 0, 1, 2, 6]) := by kernel_rfl

def an_ref12_Unclear : Ann := .two (.leaf) (.two (.two (.leaf) (.two (.leaf) (.two (.two (.leaf) (.leaf)) (.leaf)))) (.two (.leaf) (.leaf)))
def sh_ref12_Unclear (l_1 : Option Addr) (l_1n : Nat) (l_1c : Nat) (R : Ending → World → Prop) (w : World) : Prop :=
  Calls Tryd.prog 54 ⟨[.slice l_1 l_1n l_1c]⟩ w fun (e2 : Ending) (w3 : World) =>
  ∃ (x4 : Int), e2 = .returned (.int .i64 x4) ∧ (br (decide ((x4 : Int) ≠ 0)) (R (.returned (.tuple ⟨[.int .i64 0, .int .i64 x4]⟩)) w3) (Calls Tryd.prog 59 ⟨[.slice l_1 l_1n l_1c, .bool false]⟩ w3 fun (e5 : Ending) (w6 : World) =>
  ∃ (x7 : Int), e5 = .returned (.int .i64 x7) ∧ (R (.returned (.tuple ⟨[.int .i64 x7, .int .i64 0]⟩)) w6)))
set_option maxRecDepth 100000 in
theorem e_ref12_Unclear (l_1 : Option Addr) (l_1n : Nat) (l_1c : Nat) (R : Ending → World → Prop) (w : World) : fnV Tryd.prog Tryd.f22 an_ref12_Unclear [.slice l_1 l_1n l_1c] R w = sh_ref12_Unclear l_1 l_1n l_1c R w := by kernel_rfl
theorem c_ref12_Unclear {l_1 : Option Addr} {l_1n : Nat} {l_1c : Nat} {R : Ending → World → Prop} {w : World} (h : sh_ref12_Unclear l_1 l_1n l_1c R w) : Calls Tryd.prog F_ref12_Unclear ⟨[.slice l_1 l_1n l_1c]⟩ w R := calls_of_fnV Tryd.func22 (by rw [e_ref12_Unclear]; exact h)

def an_legibility_Pairs : Ann := .two (.leaf) (.two (.two (.leaf) (.two (.leaf) (.two (.two (.leaf) (.leaf)) (.leaf)))) (.two (.leaf) (.two (.leaf) (.two (.two (.leaf) (.one (.rf [2, 3, 5, 6, 18] 0))) (.two (.leaf) (.leaf))))))
def sh_legibility_Pairs (l_1 : Option Addr) (l_1n : Nat) (l_1c : Nat) (R : Ending → World → Prop) (w : World) : Prop :=
  al w 32 [.slice none 0 0] fun p2 w3 =>
  al w3 25 [.int .i64 0] fun p4 w5 =>
  Calls Tryd.prog 48 ⟨[.slice l_1 l_1n l_1c]⟩ w5 fun (e6 : Ending) (w7 : World) =>
  ∃ (x8 : Int), e6 = .returned (.int .i64 x8) ∧ (br (decide ((x8 : Int) ≠ 0)) (stL w7 p2 0 [.slice none 0 0] fun w9 =>
  stL w9 p4 0 [.int .i64 x8] fun w10 =>
  ∃ (x11 : Option Addr) (x11n : Nat) (x11c : Nat), World.cell? w10 p2 = some (.slice x11 x11n x11c) ∧ (∃ (x12 : Int), World.cell? w10 p4 = some (.int .i64 x12) ∧ (R (.returned (.tuple ⟨[.slice x11 x11n x11c, .int .i64 x12]⟩)) w10))) (al w7 32 [.slice none 0 0] fun p13 w14 =>
  mkm w14 fun b15 w16 =>
  al w16 79 [.map none] fun p17 w18 =>
  stL w18 p17 0 [.map (some b15)] fun w19 =>
  Calls Tryd.prog 57 ⟨[.slice l_1 l_1n l_1c]⟩ w19 fun (e20 : Ending) (w21 : World) =>
  ∃ (x22 : Fn) (x22a : Array Value) (x22b : Array Value), e20 = .returned (.func x22 x22a x22b) ∧ (∀ base23 : Env, RFw Tryd.prog none 49 (cdAt Tryd.f23 [1, 1, 1, 1, 0, 1, 2]) (upd (upd (upd (upd (upd base23 18 (.func x22 x22a x22b)) 6 (.pointer (some p17))) 5 (.pointer (some p13))) 3 (.pointer (some p4))) 2 (.pointer (some p2))) [] w21 0 (fun ds24 w25 =>
  ∃ (x32 : Option Addr) (x32n : Nat) (x32c : Nat), World.cell? w25 p13 = some (.slice x32 x32n x32c) ∧ (stL w25 p2 0 [.slice x32 x32n x32c] fun w33 =>
  stL w33 p4 0 [.int .i64 0] fun w34 =>
  retD ds24 w34 fun w35 =>
  ∃ (x36 : Option Addr) (x36n : Nat) (x36c : Nat), World.cell? w35 p2 = some (.slice x36 x36n x36c) ∧ (∃ (x37 : Int), World.cell? w35 p4 = some (.int .i64 x37) ∧ (R (.returned (.tuple ⟨[.slice x36 x36n x36c, .int .i64 x37]⟩)) w35)))) (fun ds24 w25 =>
  retD ds24 w25 fun w38 =>
  ∃ (x39 : Option Addr) (x39n : Nat) (x39c : Nat), World.cell? w38 p2 = some (.slice x39 x39n x39c) ∧ (∃ (x40 : Int), World.cell? w38 p4 = some (.int .i64 x40) ∧ (R (.returned (.tuple ⟨[.slice x39 x39n x39c, .int .i64 x40]⟩)) w38))) (fun ds24 w25 =>
  ∃ (x26 : Option Addr) (x26n : Nat) (x26c : Nat), World.cell? w25 p13 = some (.slice x26 x26n x26c) ∧ (stL w25 p2 0 [.slice x26 x26n x26c] fun w27 =>
  stL w27 p4 0 [.int .i64 0] fun w28 =>
  retD ds24 w28 fun w29 =>
  ∃ (x30 : Option Addr) (x30n : Nat) (x30c : Nat), World.cell? w29 p2 = some (.slice x30 x30n x30c) ∧ (∃ (x31 : Int), World.cell? w29 p4 = some (.int .i64 x31) ∧ (R (.returned (.tuple ⟨[.slice x30 x30n x30c, .int .i64 x31]⟩)) w29)))))))
set_option maxRecDepth 100000 in
theorem e_legibility_Pairs (l_1 : Option Addr) (l_1n : Nat) (l_1c : Nat) (R : Ending → World → Prop) (w : World) : fnV Tryd.prog Tryd.f23 an_legibility_Pairs [.slice l_1 l_1n l_1c] R w = sh_legibility_Pairs l_1 l_1n l_1c R w := by kernel_rfl
theorem c_legibility_Pairs {l_1 : Option Addr} {l_1n : Nat} {l_1c : Nat} {R : Ending → World → Prop} {w : World} (h : sh_legibility_Pairs l_1 l_1n l_1c R w) : Calls Tryd.prog F_legibility_Pairs ⟨[.slice l_1 l_1n l_1c]⟩ w R := calls_of_fnV Tryd.func23 (by rw [e_legibility_Pairs]; exact h)
def anA_legibility_Pairs_1 : Ann := .leaf
def anB_legibility_Pairs_1 : Ann := .one (.two (.two (.leaf) (.two (.leaf) (.leaf))) (.two (.leaf) (.two (.two (.leaf) (.two (.two (.leaf) (.leaf)) (.leaf))) (.two (.leaf) (.two (.leaf) (.two (.two (.leaf) (.leaf)) (.leaf)))))))
def rf_legibility_Pairs_1 (t2_41 : Option Addr) (t3_42 : Option Addr) (out_43 : Option Addr) (seen_44 : Option Addr) (t18_45 : Fn) (t18_45a : Array Value) (t18_45b : Array Value) (t19_46 : Int) (t19_47 : List UInt8) (t19_48 : Int) (t19_49 : Option Addr) (t19_49n : Nat) (t19_49c : Nat) (t20_50 : Value) (l : Nat) (Kn Kr Kx : World → World → Prop) (w : World) : Prop :=
  al w 37 [.int .i64 0, .string ⟨⟨[]⟩⟩, .int .i64 0, .slice none 0 0] fun p52 w53 =>
  stL w53 p52 0 [.int .i64 t19_46, .string ⟨⟨t19_47⟩⟩, .int .i64 t19_48, .slice t19_49 t19_49n t19_49c] fun w54 =>
  Ext w w54 ∧ ∀ w51 : World, Upd l w54 w51 → (∃ (x55 : Int), World.cell? w51 (p52.add 0) = some (.int .i64 x55) ∧ (br (decide ((x55 : Int) ≠ 10)) (Kn w51 w51) (∃ (x56 : Option Addr) (x56n : Nat) (x56c : Nat), World.cell? w51 (p52.add 3) = some (.slice x56 x56n x56c) ∧ (Calls Tryd.prog 50 ⟨[.slice x56 x56n x56c]⟩ w51 fun (e57 : Ending) (w58 : World) =>
  ∃ (x59 : List UInt8), e57 = .returned (.string ⟨⟨x59⟩⟩) ∧ (Calls Tryd.prog 49 ⟨[.string ⟨⟨x59⟩⟩]⟩ w58 fun (e60 : Ending) (w61 : World) =>
  ∃ (x62 : List UInt8) (x63 : Int), e60 = .returned (.tuple ⟨[.string ⟨⟨x62⟩⟩, .int .i64 x63]⟩) ∧ (br (decide ((x63 : Int) ≠ 0)) (dr t2_41 fun p65 =>
  stL w61 p65 0 [.slice none 0 0] fun w64 =>
  dr t3_42 fun p67 =>
  stL w64 p67 0 [.int .i64 x63] fun w66 =>
  Kr w51 w66) (∃ (x68 : List UInt8), World.cell? w61 (p52.add 1) = some (.string ⟨⟨x68⟩⟩) ∧ (al w61 42 [.string ⟨⟨[]⟩⟩, .string ⟨⟨[]⟩⟩] fun p69 w70 =>
  stL w70 p69 0 [.string ⟨⟨x68⟩⟩, .string ⟨⟨x62⟩⟩] fun w71 =>
  dr seen_44 fun p72 =>
  ∃ (x73 : Value), World.cell? w71 p72 = some (x73) ∧ (∃ (x74 : List UInt8), World.cell? w71 (p69.add 0) = some (.string ⟨⟨x74⟩⟩) ∧ (∃ (x75 : List UInt8), World.cell? w71 (p69.add 1) = some (.string ⟨⟨x75⟩⟩) ∧ (∃ (x76 : Bool), lkAt Tryd.prog 79 x73 (.agg ⟨[.string ⟨⟨x74⟩⟩, .string ⟨⟨x75⟩⟩]⟩) w71 (.bool x76) ∧ (br (!x76) (dr seen_44 fun p77 =>
  ∃ (x78 : Value), World.cell? w71 p77 = some (x78) ∧ (∃ (x79 : List UInt8), World.cell? w71 (p69.add 0) = some (.string ⟨⟨x79⟩⟩) ∧ (∃ (x80 : List UInt8), World.cell? w71 (p69.add 1) = some (.string ⟨⟨x80⟩⟩) ∧ (mupd Tryd.prog 79 x78 (.agg ⟨[.string ⟨⟨x79⟩⟩, .string ⟨⟨x80⟩⟩]⟩) (.bool true) w71 fun w81 =>
  dr out_43 fun p82 =>
  ∃ (x83 : Option Addr) (x83n : Nat) (x83c : Nat), World.cell? w81 p82 = some (.slice x83 x83n x83c) ∧ (∃ (x84 : List UInt8), World.cell? w81 (p69.add 0) = some (.string ⟨⟨x84⟩⟩) ∧ (∃ (x85 : List UInt8), World.cell? w81 (p69.add 1) = some (.string ⟨⟨x85⟩⟩) ∧ (al w81 42 [.string ⟨⟨x84⟩⟩, .string ⟨⟨x85⟩⟩] fun p86 w87 =>
  app Tryd.prog [32, 32] 32 (.slice x83 x83n x83c) (.slice (some p86) 1 1) w87 fun a88 a88n a88c w89 =>
  dr out_43 fun p91 =>
  stL w89 p91 0 [.slice a88 a88n a88c] fun w90 =>
  Kn w51 w90))))))) (Kn w51 w71)))))))))))))
set_option maxRecDepth 100000 in
theorem er_legibility_Pairs_1 (base : Env) (t2_41 : Option Addr) (t3_42 : Option Addr) (out_43 : Option Addr) (seen_44 : Option Addr) (t18_45 : Fn) (t18_45a : Array Value) (t18_45b : Array Value) (t19_46 : Int) (t19_47 : List UInt8) (t19_48 : Int) (t19_49 : Option Addr) (t19_49n : Nat) (t19_49c : Nat) (t20_50 : Value) (l : Nat) (Kn Kr Kx : World → World → Prop) (w : World) : fragV Tryd.prog 49 anA_legibility_Pairs_1 anB_legibility_Pairs_1 (cdAt Tryd.f23 [1, 1, 1, 1, 0, 1, 2, 5]) (cdAt Tryd.f23 [1, 1, 1, 1, 0, 1, 2, 6]) l 0 Kn Kr Kx (updPs [19, 20] [.agg ⟨[.int .i64 t19_46, .string ⟨⟨t19_47⟩⟩, .int .i64 t19_48, .slice t19_49 t19_49n t19_49c]⟩, t20_50] (upd (upd (upd (upd (upd base 18 (.func t18_45 t18_45a t18_45b)) 6 (.pointer seen_44)) 5 (.pointer out_43)) 3 (.pointer t3_42)) 2 (.pointer t2_41))) w = rf_legibility_Pairs_1 t2_41 t3_42 out_43 seen_44 t18_45 t18_45a t18_45b t19_46 t19_47 t19_48 t19_49 t19_49n t19_49c t20_50 l Kn Kr Kx w := by kernel_rfl
theorem cd_legibility_Pairs_1 : cdAt Tryd.f23 [1, 1, 1, 1, 0, 1, 2] = .rangeFunc (Operand.tmp 18) #[19, 20] (cdAt Tryd.f23 [1, 1, 1, 1, 0, 1, 2, 5]) (cdAt Tryd.f23 [1, 1, 1, 1, 0, 1, 2, 6]) := by kernel_rfl

def an_ref12_Pairs : Ann := .two (.leaf) (.two (.two (.leaf) (.two (.leaf) (.two (.two (.leaf) (.leaf)) (.leaf)))) (.two (.leaf) (.two (.leaf) (.two (.two (.leaf) (.one (.loop 144115188075594700 [(6, .one (.slice)), (7, .one (.int .i64))] (.two (.two (.leaf) (.two (.leaf) (.leaf))) (.two (.one (.two (.two (.leaf) (.two (.two (.leaf) (.leaf)) (.leaf))) (.two (.leaf) (.two (.two (.leaf) (.one (.loop 281472829227776 [(8, .one (.bool)), (9, .one (.int .i64))] (.two (.two (.leaf) (.two (.leaf) (.leaf))) (.two (.one (.leaf)) (.leaf)))))) (.two (.leaf) (.two (.leaf) (.leaf))))))) (.leaf)))))) (.two (.leaf) (.leaf))))))
def sh_ref12_Pairs (l_1 : Option Addr) (l_1n : Nat) (l_1c : Nat) (R : Ending → World → Prop) (w : World) : Prop :=
  Calls Tryd.prog 54 ⟨[.slice l_1 l_1n l_1c]⟩ w fun (e2 : Ending) (w3 : World) =>
  ∃ (x4 : Int), e2 = .returned (.int .i64 x4) ∧ (br (decide ((x4 : Int) ≠ 0)) (R (.returned (.tuple ⟨[.slice none 0 0, .int .i64 x4]⟩)) w3) (Calls Tryd.prog 60 ⟨[.slice l_1 l_1n l_1c]⟩ w3 fun (e5 : Ending) (w6 : World) =>
  ∃ (x7 : Option Addr) (x7n : Nat) (x7c : Nat), e5 = .returned (.slice x7 x7n x7c) ∧ (al w6 42 [] fun p8 w9 =>
  ∃ (I10 : Option Addr → Nat → Nat → Int → World → Nat → Prop), (∃ m15 : Nat, I10 (some p8) 0 0 0 w9 m15) ∧ ∀ (out_11 : Option Addr) (out_11n : Nat) (out_11c : Nat) (i_12 : Int) (w13 : World) (m14 : Nat), I10 out_11 out_11n out_11c i_12 w13 m14 → ∀ _ : Env, (br (decide ((i_12 : Int) < ((x7n : Int)))) (idx x7 x7n i_12 2 fun p16 =>
  ∃ (x17 : List UInt8), World.cell? w13 (p16.add 1) = some (.string ⟨⟨x17⟩⟩) ∧ (br (decide ((65536 : Int) < ((List.length x17 : Int)))) (R (.returned (.tuple ⟨[.slice none 0 0, .int .i64 4]⟩)) w13) (∃ (I18 : Bool → Int → World → Nat → Prop), (∃ m23 : Nat, I18 false 0 w13 m23) ∧ ∀ (found_19 : Bool) (k_20 : Int) (w21 : World) (m22 : Nat), I18 found_19 k_20 w21 m22 → ∀ _ : Env, (br (decide ((k_20 : Int) < i_12)) (drw w21 fun w24 =>
  br found_19 (∃ m25 : Nat, m25 < m22 ∧ I18 true (IntKind.i64.wrap (k_20 + 1)) w24 m25) (idx x7 x7n k_20 2 fun p26 =>
  ∃ (x27 : List UInt8), World.cell? w24 (p26.add 0) = some (.string ⟨⟨x27⟩⟩) ∧ (∃ (x28 : List UInt8), World.cell? w24 (p26.add 1) = some (.string ⟨⟨x28⟩⟩) ∧ (idx x7 x7n i_12 2 fun p29 =>
  ∃ (x30 : List UInt8), World.cell? w24 (p29.add 0) = some (.string ⟨⟨x30⟩⟩) ∧ (∃ (x31 : List UInt8), World.cell? w24 (p29.add 1) = some (.string ⟨⟨x31⟩⟩) ∧ (∃ m32 : Nat, m32 < m22 ∧ I18 ((decide ((x27 : List UInt8) = x30) && (decide ((x28 : List UInt8) = x31) && true))) (IntKind.i64.wrap (k_20 + 1)) w24 m32)))))) (br (!found_19) (idx x7 x7n i_12 2 fun p33 =>
  ∃ (x34 : List UInt8), World.cell? w21 (p33.add 0) = some (.string ⟨⟨x34⟩⟩) ∧ (∃ (x35 : List UInt8), World.cell? w21 (p33.add 1) = some (.string ⟨⟨x35⟩⟩) ∧ (al w21 42 [.string ⟨⟨x34⟩⟩, .string ⟨⟨x35⟩⟩] fun p36 w37 =>
  app Tryd.prog [32, 32] 32 (.slice out_11 out_11n out_11c) (.slice (some p36) 1 1) w37 fun a38 a38n a38c w39 =>
  ∃ m40 : Nat, m40 < m14 ∧ I10 a38 a38n a38c (IntKind.i64.wrap (i_12 + 1)) w39 m40))) (∃ m41 : Nat, m41 < m14 ∧ I10 out_11 out_11n out_11c (IntKind.i64.wrap (i_12 + 1)) w21 m41)))))) (R (.returned (.tuple ⟨[.slice out_11 out_11n out_11c, .int .i64 0]⟩)) w13)))))
set_option maxRecDepth 100000 in
theorem e_ref12_Pairs (l_1 : Option Addr) (l_1n : Nat) (l_1c : Nat) (R : Ending → World → Prop) (w : World) : fnV Tryd.prog Tryd.f24 an_ref12_Pairs [.slice l_1 l_1n l_1c] R w = sh_ref12_Pairs l_1 l_1n l_1c R w := by kernel_rfl
theorem c_ref12_Pairs {l_1 : Option Addr} {l_1n : Nat} {l_1c : Nat} {R : Ending → World → Prop} {w : World} (h : sh_ref12_Pairs l_1 l_1n l_1c R w) : Calls Tryd.prog F_ref12_Pairs ⟨[.slice l_1 l_1n l_1c]⟩ w R := calls_of_fnV Tryd.func24 (by rw [e_ref12_Pairs]; exact h)

def an_ref12_SameRewrites : Ann := .two (.leaf) (.two (.two (.leaf) (.two (.two (.leaf) (.leaf)) (.leaf))) (.two (.two (.leaf) (.one (.loop 67106864 [(5, .one (.int .i64))] (.two (.two (.leaf) (.two (.leaf) (.leaf))) (.two (.one (.two (.leaf) (.two (.two (.leaf) (.leaf)) (.leaf)))) (.leaf)))))) (.two (.leaf) (.leaf))))
def sh_ref12_SameRewrites (a_1 : Option Addr) (a_1n : Nat) (a_1c : Nat) (b_2 : Option Addr) (b_2n : Nat) (b_2c : Nat) (R : Ending → World → Prop) (w : World) : Prop :=
  br (decide ((((a_1n : Int)) : Int) ≠ ((b_2n : Int)))) (R (.returned (.bool false)) w) (∃ (I3 : Int → World → Nat → Prop), (∃ m7 : Nat, I3 0 w m7) ∧ ∀ (i_4 : Int) (w5 : World) (m6 : Nat), I3 i_4 w5 m6 → ∀ _ : Env, (br (decide ((i_4 : Int) < ((a_1n : Int)))) (drw w5 fun w8 =>
  idx a_1 a_1n i_4 2 fun p9 =>
  ∃ (x10 : List UInt8), World.cell? w8 (p9.add 0) = some (.string ⟨⟨x10⟩⟩) ∧ (∃ (x11 : List UInt8), World.cell? w8 (p9.add 1) = some (.string ⟨⟨x11⟩⟩) ∧ (idx b_2 b_2n i_4 2 fun p12 =>
  ∃ (x13 : List UInt8), World.cell? w8 (p12.add 0) = some (.string ⟨⟨x13⟩⟩) ∧ (∃ (x14 : List UInt8), World.cell? w8 (p12.add 1) = some (.string ⟨⟨x14⟩⟩) ∧ (br (!(decide ((x10 : List UInt8) = x13) && (decide ((x11 : List UInt8) = x14) && true))) (R (.returned (.bool false)) w8) (∃ m15 : Nat, m15 < m6 ∧ I3 (IntKind.i64.wrap (i_4 + 1)) w8 m15)))))) (R (.returned (.bool true)) w5)))
set_option maxRecDepth 100000 in
theorem e_ref12_SameRewrites (a_1 : Option Addr) (a_1n : Nat) (a_1c : Nat) (b_2 : Option Addr) (b_2n : Nat) (b_2c : Nat) (R : Ending → World → Prop) (w : World) : fnV Tryd.prog Tryd.f25 an_ref12_SameRewrites [.slice a_1 a_1n a_1c, .slice b_2 b_2n b_2c] R w = sh_ref12_SameRewrites a_1 a_1n a_1c b_2 b_2n b_2c R w := by kernel_rfl
theorem c_ref12_SameRewrites {a_1 : Option Addr} {a_1n : Nat} {a_1c : Nat} {b_2 : Option Addr} {b_2n : Nat} {b_2c : Nat} {R : Ending → World → Prop} {w : World} (h : sh_ref12_SameRewrites a_1 a_1n a_1c b_2 b_2n b_2c R w) : Calls Tryd.prog F_ref12_SameRewrites ⟨[.slice a_1 a_1n a_1c, .slice b_2 b_2n b_2c]⟩ w R := calls_of_fnV Tryd.func25 (by rw [e_ref12_SameRewrites]; exact h)

def an_transcript_Characters : Ann := .two (.leaf) (.two (.two (.leaf) (.two (.two (.leaf) (.leaf)) (.leaf))) (.two (.leaf) (.two (.two (.leaf) (.one (.rf [2, 3, 4, 10] 0))) (.two (.leaf) (.leaf)))))
def sh_transcript_Characters (l_1 : Option Addr) (l_1n : Nat) (l_1c : Nat) (R : Ending → World → Prop) (w : World) : Prop :=
  Calls Tryd.prog 34 ⟨[.slice l_1 l_1n l_1c]⟩ w fun (e2 : Ending) (w3 : World) =>
  ∃ (x4 : Int), e2 = .returned (.int .i64 x4) ∧ (br (decide ((x4 : Int) ≠ 0)) (R (.returned (.tuple ⟨[.string ⟨⟨[]⟩⟩, .int .i64 1]⟩)) w3) (al w3 84 [.pointer none, .slice none 0 0] fun p5 w6 =>
  Calls Tryd.prog 52 ⟨[.slice l_1 l_1n l_1c]⟩ w6 fun (e7 : Ending) (w8 : World) =>
  ∃ (x9 : Fn) (x9a : Array Value) (x9b : Array Value), e7 = .returned (.func x9 x9a x9b) ∧ (∀ base10 : Env, RFw Tryd.prog none 21 (cdAt Tryd.f26 [1, 1, 1, 0, 1, 2]) (upd (upd (upd (upd base10 10 (.func x9 x9a x9b)) 4 (.pointer (some p5))) 3 (.int .i64 0)) 2 (.string ⟨⟨[]⟩⟩)) [] w8 0 (fun ds11 w12 =>
  Calls Tryd.prog 62 ⟨[.pointer (some p5)]⟩ w12 fun (e17 : Ending) (w18 : World) =>
  ∃ (x19 : List UInt8), e17 = .returned (.string ⟨⟨x19⟩⟩) ∧ (retD ds11 w18 fun w20 =>
  R (.returned (.tuple ⟨[.string ⟨⟨x19⟩⟩, .int .i64 0]⟩)) w20)) (fun ds11 w12 =>
  retD ds11 w12 fun w21 =>
  R (.returned (.tuple ⟨[.string ⟨⟨[]⟩⟩, .int .i64 0]⟩)) w21) (fun ds11 w12 =>
  Calls Tryd.prog 62 ⟨[.pointer (some p5)]⟩ w12 fun (e13 : Ending) (w14 : World) =>
  ∃ (x15 : List UInt8), e13 = .returned (.string ⟨⟨x15⟩⟩) ∧ (retD ds11 w14 fun w16 =>
  R (.returned (.tuple ⟨[.string ⟨⟨x15⟩⟩, .int .i64 0]⟩)) w16)))))
set_option maxRecDepth 100000 in
theorem e_transcript_Characters (l_1 : Option Addr) (l_1n : Nat) (l_1c : Nat) (R : Ending → World → Prop) (w : World) : fnV Tryd.prog Tryd.f26 an_transcript_Characters [.slice l_1 l_1n l_1c] R w = sh_transcript_Characters l_1 l_1n l_1c R w := by kernel_rfl
theorem c_transcript_Characters {l_1 : Option Addr} {l_1n : Nat} {l_1c : Nat} {R : Ending → World → Prop} {w : World} (h : sh_transcript_Characters l_1 l_1n l_1c R w) : Calls Tryd.prog F_transcript_Characters ⟨[.slice l_1 l_1n l_1c]⟩ w R := calls_of_fnV Tryd.func26 (by rw [e_transcript_Characters]; exact h)
def anA_transcript_Characters_1 : Ann := .leaf
def anB_transcript_Characters_1 : Ann := .one (.two (.leaf) (.two (.leaf) (.leaf)))
def rf_transcript_Characters_1 (t2_22 : List UInt8) (t3_23 : Int) (out_24 : Option Addr) (t10_25 : Fn) (t10_25a : Array Value) (t10_25b : Array Value) (t11_26 : Int) (t11_27 : List UInt8) (t11_28 : Int) (t11_29 : Option Addr) (t11_29n : Nat) (t11_29c : Nat) (t11_30 : Int) (t11_31 : Bool) (l : Nat) (Kn Kr Kx : World → World → Prop) (w : World) : Prop :=
  al w 72 [.int .i64 0, .string ⟨⟨[]⟩⟩, .int .i64 0, .slice none 0 0, .int .i64 0, .bool false] fun p33 w34 =>
  stL w34 p33 0 [.int .i64 t11_26, .string ⟨⟨t11_27⟩⟩, .int .i64 t11_28, .slice t11_29 t11_29n t11_29c, .int .i64 t11_30, .bool t11_31] fun w35 =>
  Ext w w35 ∧ ∀ w32 : World, Upd l w35 w32 → (∃ (x36 : Int), World.cell? w32 ((p33.add 0).add 0) = some (.int .i64 x36) ∧ (br (decide ((x36 : Int) = 1)) (∃ (x37 : List UInt8), World.cell? w32 ((p33.add 0).add 1) = some (.string ⟨⟨x37⟩⟩) ∧ (Calls Tryd.prog 61 ⟨[.pointer out_24, .string ⟨⟨x37⟩⟩]⟩ w32 fun (e38 : Ending) (w39 : World) =>
  ∃ (x40 : Int) (x41 : Value), e38 = .returned (.tuple ⟨[.int .i64 x40, x41]⟩) ∧ (Kn w32 w39))) (Kn w32 w32)))
set_option maxRecDepth 100000 in
theorem er_transcript_Characters_1 (base : Env) (t2_22 : List UInt8) (t3_23 : Int) (out_24 : Option Addr) (t10_25 : Fn) (t10_25a : Array Value) (t10_25b : Array Value) (t11_26 : Int) (t11_27 : List UInt8) (t11_28 : Int) (t11_29 : Option Addr) (t11_29n : Nat) (t11_29c : Nat) (t11_30 : Int) (t11_31 : Bool) (l : Nat) (Kn Kr Kx : World → World → Prop) (w : World) : fragV Tryd.prog 21 anA_transcript_Characters_1 anB_transcript_Characters_1 (cdAt Tryd.f26 [1, 1, 1, 0, 1, 2, 5]) (cdAt Tryd.f26 [1, 1, 1, 0, 1, 2, 6]) l 0 Kn Kr Kx (updPs [11] [.agg ⟨[.int .i64 t11_26, .string ⟨⟨t11_27⟩⟩, .int .i64 t11_28, .slice t11_29 t11_29n t11_29c, .int .i64 t11_30, .bool t11_31]⟩] (upd (upd (upd (upd base 10 (.func t10_25 t10_25a t10_25b)) 4 (.pointer out_24)) 3 (.int .i64 t3_23)) 2 (.string ⟨⟨t2_22⟩⟩))) w = rf_transcript_Characters_1 t2_22 t3_23 out_24 t10_25 t10_25a t10_25b t11_26 t11_27 t11_28 t11_29 t11_29n t11_29c t11_30 t11_31 l Kn Kr Kx w := by kernel_rfl
theorem cd_transcript_Characters_1 : cdAt Tryd.f26 [1, 1, 1, 0, 1, 2] = .rangeFunc (Operand.tmp 10) #[11] (cdAt Tryd.f26 [1, 1, 1, 0, 1, 2, 5]) (cdAt Tryd.f26 [1, 1, 1, 0, 1, 2, 6]) := by kernel_rfl

def an_legibility_Conflicts : Ann := .two (.leaf) (.two (.two (.leaf) (.two (.two (.leaf) (.leaf)) (.leaf))) (.two (.leaf) (.two (.leaf) (.two (.two (.leaf) (.one (.loop 562949953161024 [(6, .one (.slice)), (18, .one (.int .i64))] (.two (.leaf) (.two (.two (.leaf) (.leaf)) (.two (.one (.two (.leaf) (.two (.leaf) (.two (.leaf) (.two (.two (.leaf) (.leaf)) (.two (.leaf) (.two (.leaf) (.leaf)))))))) (.leaf))))))) (.two (.leaf) (.leaf))))))
def sh_legibility_Conflicts (l_1 : Option Addr) (l_1n : Nat) (l_1c : Nat) (R : Ending → World → Prop) (w : World) : Prop :=
  br (decide ((4096 : Int) < ((l_1n : Int)))) (R (.returned (.tuple ⟨[.slice none 0 0, .int .i64 4]⟩)) w) (mkm w fun b2 w3 =>
  mkm w3 fun b4 w5 =>
  al w5 91 [.map none] fun p6 w7 =>
  stL w7 p6 0 [.map (some b4)] fun w8 =>
  ∃ (I9 : Option Addr → Nat → Nat → Int → World → Nat → Prop), (∃ m14 : Nat, I9 none 0 0 0 w8 m14) ∧ ∀ (order_10 : Option Addr) (order_10n : Nat) (order_10c : Nat) (t18_11 : Int) (w12 : World) (m13 : Nat), I9 order_10 order_10n order_10c t18_11 w12 m13 → ∀ _ : Env, (br (decide ((t18_11 : Int) < ((l_1n : Int)))) (idx l_1 l_1n t18_11 2 fun p15 =>
  ∃ (x16 : List UInt8), World.cell? w12 (p15.add 0) = some (.string ⟨⟨x16⟩⟩) ∧ (∃ (x17 : List UInt8), World.cell? w12 (p15.add 1) = some (.string ⟨⟨x17⟩⟩) ∧ (al w12 42 [.string ⟨⟨[]⟩⟩, .string ⟨⟨[]⟩⟩] fun p18 w19 =>
  stL w19 p18 0 [.string ⟨⟨x16⟩⟩, .string ⟨⟨x17⟩⟩] fun w20 =>
  ∃ (x21 : List UInt8), World.cell? w20 (p18.add 0) = some (.string ⟨⟨x21⟩⟩) ∧ (∃ (x22 : List UInt8), ∃ (b23 : Bool), lkAt2 Tryd.prog 90 (.map (some b2)) (.string ⟨⟨x21⟩⟩) w20 (.string ⟨⟨x22⟩⟩) b23 ∧ (br (!b23) (∃ (x24 : List UInt8), World.cell? w20 (p18.add 0) = some (.string ⟨⟨x24⟩⟩) ∧ (∃ (x25 : List UInt8), World.cell? w20 (p18.add 1) = some (.string ⟨⟨x25⟩⟩) ∧ (mupd Tryd.prog 90 (.map (some b2)) (.string ⟨⟨x24⟩⟩) (.string ⟨⟨x25⟩⟩) w20 fun w26 =>
  ∃ (x27 : List UInt8), World.cell? w26 (p18.add 0) = some (.string ⟨⟨x27⟩⟩) ∧ (al w26 9 [.string ⟨⟨x27⟩⟩] fun p28 w29 =>
  app Tryd.prog [38, 38] 38 (.slice order_10 order_10n order_10c) (.slice (some p28) 1 1) w29 fun a30 a30n a30c w31 =>
  ∃ m32 : Nat, m32 < m13 ∧ I9 a30 a30n a30c (IntKind.i64.wrap (t18_11 + 1)) w31 m32)))) (∃ (x33 : List UInt8), World.cell? w20 (p18.add 1) = some (.string ⟨⟨x33⟩⟩) ∧ (br (decide ((x22 : List UInt8) ≠ x33)) (∃ (x34 : Value), World.cell? w20 p6 = some (x34) ∧ (∃ (x35 : List UInt8), World.cell? w20 (p18.add 0) = some (.string ⟨⟨x35⟩⟩) ∧ (mupd Tryd.prog 91 x34 (.string ⟨⟨x35⟩⟩) (.bool true) w20 fun w36 =>
  ∃ m37 : Nat, m37 < m13 ∧ I9 order_10 order_10n order_10c (IntKind.i64.wrap (t18_11 + 1)) w36 m37))) (∃ m38 : Nat, m38 < m13 ∧ I9 order_10 order_10n order_10c (IntKind.i64.wrap (t18_11 + 1)) w20 m38)))))))) (Calls Tryd.prog 63 ⟨[.slice order_10 order_10n order_10c, .func (.func 64) ⟨[]⟩ ⟨[.pointer (some p6)]⟩]⟩ w12 fun (e39 : Ending) (w40 : World) =>
  ∃ (x41 : Option Addr) (x41n : Nat) (x41c : Nat), e39 = .returned (.slice x41 x41n x41c) ∧ (R (.returned (.tuple ⟨[.slice x41 x41n x41c, .int .i64 0]⟩)) w40))))
set_option maxRecDepth 100000 in
theorem e_legibility_Conflicts (l_1 : Option Addr) (l_1n : Nat) (l_1c : Nat) (R : Ending → World → Prop) (w : World) : fnV Tryd.prog Tryd.f27 an_legibility_Conflicts [.slice l_1 l_1n l_1c] R w = sh_legibility_Conflicts l_1 l_1n l_1c R w := by kernel_rfl
theorem c_legibility_Conflicts {l_1 : Option Addr} {l_1n : Nat} {l_1c : Nat} {R : Ending → World → Prop} {w : World} (h : sh_legibility_Conflicts l_1 l_1n l_1c R w) : Calls Tryd.prog F_legibility_Conflicts ⟨[.slice l_1 l_1n l_1c]⟩ w R := calls_of_fnV Tryd.func27 (by rw [e_legibility_Conflicts]; exact h)

def an_slices_Contains_of_string_string : Ann := .two (.leaf) (.two (.leaf) (.leaf))
def sh_slices_Contains_of_string_string (s_1 : Option Addr) (s_1n : Nat) (s_1c : Nat) (v_2 : List UInt8) (R : Ending → World → Prop) (w : World) : Prop :=
  Calls Tryd.prog 65 ⟨[.slice s_1 s_1n s_1c, .string ⟨⟨v_2⟩⟩]⟩ w fun (e3 : Ending) (w4 : World) =>
  ∃ (x5 : Int), e3 = .returned (.int .i64 x5) ∧ (R (.returned (.bool (decide ((0 : Int) ≤ x5)))) w4)
set_option maxRecDepth 100000 in
theorem e_slices_Contains_of_string_string (s_1 : Option Addr) (s_1n : Nat) (s_1c : Nat) (v_2 : List UInt8) (R : Ending → World → Prop) (w : World) : fnV Tryd.prog Tryd.f28 an_slices_Contains_of_string_string [.slice s_1 s_1n s_1c, .string ⟨⟨v_2⟩⟩] R w = sh_slices_Contains_of_string_string s_1 s_1n s_1c v_2 R w := by kernel_rfl
theorem c_slices_Contains_of_string_string {s_1 : Option Addr} {s_1n : Nat} {s_1c : Nat} {v_2 : List UInt8} {R : Ending → World → Prop} {w : World} (h : sh_slices_Contains_of_string_string s_1 s_1n s_1c v_2 R w) : Calls Tryd.prog F_slices_Contains_of_string_string ⟨[.slice s_1 s_1n s_1c, .string ⟨⟨v_2⟩⟩]⟩ w R := calls_of_fnV Tryd.func28 (by rw [e_slices_Contains_of_string_string]; exact h)

def an_slices_ContainsFunc_of_api_Rewrite_api_Rewrite : Ann := .two (.leaf) (.two (.leaf) (.leaf))
def sh_slices_ContainsFunc_of_api_Rewrite_api_Rewrite (s_1 : Option Addr) (s_1n : Nat) (s_1c : Nat) (f_2 : Fn) (f_2a : Array Value) (f_2b : Array Value) (R : Ending → World → Prop) (w : World) : Prop :=
  Calls Tryd.prog 66 ⟨[.slice s_1 s_1n s_1c, .func f_2 f_2a f_2b]⟩ w fun (e3 : Ending) (w4 : World) =>
  ∃ (x5 : Int), e3 = .returned (.int .i64 x5) ∧ (R (.returned (.bool (decide ((0 : Int) ≤ x5)))) w4)
set_option maxRecDepth 100000 in
theorem e_slices_ContainsFunc_of_api_Rewrite_api_Rewrite (s_1 : Option Addr) (s_1n : Nat) (s_1c : Nat) (f_2 : Fn) (f_2a : Array Value) (f_2b : Array Value) (R : Ending → World → Prop) (w : World) : fnV Tryd.prog Tryd.f29 an_slices_ContainsFunc_of_api_Rewrite_api_Rewrite [.slice s_1 s_1n s_1c, .func f_2 f_2a f_2b] R w = sh_slices_ContainsFunc_of_api_Rewrite_api_Rewrite s_1 s_1n s_1c f_2 f_2a f_2b R w := by kernel_rfl
theorem c_slices_ContainsFunc_of_api_Rewrite_api_Rewrite {s_1 : Option Addr} {s_1n : Nat} {s_1c : Nat} {f_2 : Fn} {f_2a : Array Value} {f_2b : Array Value} {R : Ending → World → Prop} {w : World} (h : sh_slices_ContainsFunc_of_api_Rewrite_api_Rewrite s_1 s_1n s_1c f_2 f_2a f_2b R w) : Calls Tryd.prog F_slices_ContainsFunc_of_api_Rewrite_api_Rewrite ⟨[.slice s_1 s_1n s_1c, .func f_2 f_2a f_2b]⟩ w R := calls_of_fnV Tryd.func29 (by rw [e_slices_ContainsFunc_of_api_Rewrite_api_Rewrite]; exact h)

def an_law12_LegibilityPairs_1 : Ann := .two (.leaf) (.two (.leaf) (.leaf))
def sh_law12_LegibilityPairs_1 (p_1 : List UInt8) (p_2 : List UInt8) (t1_3 : Option Addr) (R : Ending → World → Prop) (w : World) : Prop :=
  al w 42 [.string ⟨⟨p_1⟩⟩, .string ⟨⟨p_2⟩⟩] fun p4 w5 =>
  ∃ (x6 : List UInt8), World.cell? w5 (p4.add 0) = some (.string ⟨⟨x6⟩⟩) ∧ (dr t1_3 fun p7 =>
  ∃ (x8 : List UInt8), World.cell? w5 p7 = some (.string ⟨⟨x8⟩⟩) ∧ (R (.returned (.bool (decide ((x6 : List UInt8) = x8)))) w5))
set_option maxRecDepth 100000 in
theorem e_law12_LegibilityPairs_1 (p_1 : List UInt8) (p_2 : List UInt8) (t1_3 : Option Addr) (R : Ending → World → Prop) (w : World) : fnV Tryd.prog Tryd.f30 an_law12_LegibilityPairs_1 [.agg ⟨[.string ⟨⟨p_1⟩⟩, .string ⟨⟨p_2⟩⟩]⟩, .pointer t1_3] R w = sh_law12_LegibilityPairs_1 p_1 p_2 t1_3 R w := by kernel_rfl
theorem c_law12_LegibilityPairs_1 {p_1 : List UInt8} {p_2 : List UInt8} {t1_3 : Option Addr} {R : Ending → World → Prop} {w : World} (h : sh_law12_LegibilityPairs_1 p_1 p_2 t1_3 R w) : Calls Tryd.prog F_law12_LegibilityPairs_1 ⟨[.agg ⟨[.string ⟨⟨p_1⟩⟩, .string ⟨⟨p_2⟩⟩]⟩, .pointer t1_3]⟩ w R := calls_of_fnV Tryd.func30 (by rw [e_law12_LegibilityPairs_1]; exact h)

def an_ref10_Same : Ann := .two (.leaf) (.two (.two (.leaf) (.two (.two (.leaf) (.leaf)) (.leaf))) (.two (.two (.leaf) (.one (.loop 295147905179352823856 [(5, .one (.int .i64))] (.two (.two (.leaf) (.two (.leaf) (.leaf))) (.two (.one (.two (.leaf) (.two (.two (.leaf) (.leaf)) (.leaf)))) (.leaf)))))) (.two (.leaf) (.leaf))))
def sh_ref10_Same (a_1 : Option Addr) (a_1n : Nat) (a_1c : Nat) (b_2 : Option Addr) (b_2n : Nat) (b_2c : Nat) (R : Ending → World → Prop) (w : World) : Prop :=
  br (decide ((((a_1n : Int)) : Int) ≠ ((b_2n : Int)))) (R (.returned (.bool false)) w) (∃ (I3 : Int → World → Nat → Prop), (∃ m7 : Nat, I3 0 w m7) ∧ ∀ (i_4 : Int) (w5 : World) (m6 : Nat), I3 i_4 w5 m6 → ∀ _ : Env, (br (decide ((i_4 : Int) < ((a_1n : Int)))) (drw w5 fun w8 =>
  idx a_1 a_1n i_4 4 fun p9 =>
  ∃ (x10 : Int), World.cell? w8 (p9.add 0) = some (.int .i64 x10) ∧ (idx b_2 b_2n i_4 4 fun p11 =>
  ∃ (x12 : Int), World.cell? w8 (p11.add 0) = some (.int .i64 x12) ∧ (br (decide ((x10 : Int) ≠ x12)) ((R (.returned (.bool false)) w8) ∧ True) (idx a_1 a_1n i_4 4 fun p13 =>
  ∃ (x14 : List UInt8), World.cell? w8 (p13.add 1) = some (.string ⟨⟨x14⟩⟩) ∧ (idx b_2 b_2n i_4 4 fun p15 =>
  ∃ (x16 : List UInt8), World.cell? w8 (p15.add 1) = some (.string ⟨⟨x16⟩⟩) ∧ (br (decide ((x14 : List UInt8) ≠ x16)) ((R (.returned (.bool false)) w8) ∧ True) (idx a_1 a_1n i_4 4 fun p17 =>
  ∃ (x18 : Int), World.cell? w8 (p17.add 2) = some (.int .i64 x18) ∧ (idx b_2 b_2n i_4 4 fun p19 =>
  ∃ (x20 : Int), World.cell? w8 (p19.add 2) = some (.int .i64 x20) ∧ (br (decide ((x18 : Int) ≠ x20)) ((R (.returned (.bool false)) w8) ∧ True) (idx a_1 a_1n i_4 4 fun p21 =>
  ∃ (x22 : Option Addr) (x22n : Nat) (x22c : Nat), World.cell? w8 (p21.add 3) = some (.slice x22 x22n x22c) ∧ (idx b_2 b_2n i_4 4 fun p23 =>
  ∃ (x24 : Option Addr) (x24n : Nat) (x24c : Nat), World.cell? w8 (p23.add 3) = some (.slice x24 x24n x24c) ∧ ((Calls Tryd.prog 33 ⟨[.slice x22 x22n x22c, .slice x24 x24n x24c]⟩ w8 fun (e25 : Ending) (w26 : World) =>
  ∃ (x27 : Bool), e25 = .returned (.bool x27) ∧ (br (!x27) (R (.returned (.bool false)) w26) (∃ m28 : Nat, m28 < m6 ∧ I3 (IntKind.i64.wrap (i_4 + 1)) w26 m28))) ∧ True)))))))))))) (R (.returned (.bool true)) w5)))
set_option maxRecDepth 100000 in
theorem e_ref10_Same (a_1 : Option Addr) (a_1n : Nat) (a_1c : Nat) (b_2 : Option Addr) (b_2n : Nat) (b_2c : Nat) (R : Ending → World → Prop) (w : World) : fnV Tryd.prog Tryd.f33 an_ref10_Same [.slice a_1 a_1n a_1c, .slice b_2 b_2n b_2c] R w = sh_ref10_Same a_1 a_1n a_1c b_2 b_2n b_2c R w := by kernel_rfl
theorem c_ref10_Same {a_1 : Option Addr} {a_1n : Nat} {a_1c : Nat} {b_2 : Option Addr} {b_2n : Nat} {b_2c : Nat} {R : Ending → World → Prop} {w : World} (h : sh_ref10_Same a_1 a_1n a_1c b_2 b_2n b_2c R w) : Calls Tryd.prog F_ref10_Same ⟨[.slice a_1 a_1n a_1c, .slice b_2 b_2n b_2c]⟩ w R := calls_of_fnV Tryd.func33 (by rw [e_ref10_Same]; exact h)

def an_transcript_Check : Ann := .two (.leaf) (.two (.leaf) (.two (.leaf) (.two (.two (.leaf) (.one (.rf [0, 2, 4, 10] 0))) (.two (.two (.leaf) (.one (.rf [0, 2, 28] 0))) (.two (.two (.leaf) (.two (.two (.leaf) (.leaf)) (.leaf))) (.two (.leaf) (.leaf)))))))
def sh_transcript_Check (l_1 : Option Addr) (l_1n : Nat) (l_1c : Nat) (R : Ending → World → Prop) (w : World) : Prop :=
  al w 25 [.int .i64 0] fun p2 w3 =>
  al w3 3 [.int .i64 0] fun p4 w5 =>
  stL w5 p4 0 [.int .i64 4096] fun w6 =>
  al w6 24 [.nilFunc] fun p7 w8 =>
  stL w8 p7 0 [.func (.func 72) ⟨[]⟩ ⟨[.pointer (some p4)]⟩] fun w9 =>
  Calls Tryd.prog 52 ⟨[.slice l_1 l_1n l_1c]⟩ w9 fun (e10 : Ending) (w11 : World) =>
  ∃ (x12 : Fn) (x12a : Array Value) (x12b : Array Value), e10 = .returned (.func x12 x12a x12b) ∧ (∀ base13 : Env, RFw Tryd.prog none 39 (cdAt Tryd.f34 [1, 1, 1, 0, 1, 2]) (upd (upd (upd (upd base13 10 (.func x12 x12a x12b)) 4 (.pointer (some p7))) 2 (.pointer (some p2))) 0 (.slice l_1 l_1n l_1c)) [] w11 0 (fun ds14 w15 =>
  Calls Tryd.prog 52 ⟨[.slice l_1 l_1n l_1c]⟩ w15 fun (e33 : Ending) (w34 : World) =>
  ∃ (x35 : Fn) (x35a : Array Value) (x35b : Array Value), e33 = .returned (.func x35 x35a x35b) ∧ (∀ base36 : Env, RFw Tryd.prog none 39 (cdAt Tryd.f34 [1, 1, 1, 1, 0, 1, 2]) (upd (upd (upd base36 28 (.func x35 x35a x35b)) 2 (.pointer (some p2))) 0 (.slice l_1 l_1n l_1c)) ds14 w34 0 (fun ds37 w38 =>
  Calls Tryd.prog 74 ⟨[.slice l_1 l_1n l_1c]⟩ w38 fun (e39 : Ending) (w40 : World) =>
  ∃ (x41 : List UInt8), e39 = .returned (.string ⟨⟨x41⟩⟩) ∧ (br (decide ((65536 : Int) < ((List.length x41 : Int)))) (stL w40 p2 0 [.int .i64 4] fun w42 =>
  retD ds37 w42 fun w43 =>
  ∃ (x44 : Int), World.cell? w43 p2 = some (.int .i64 x44) ∧ (R (.returned (.int .i64 x44)) w43)) (stL w40 p2 0 [.int .i64 0] fun w45 =>
  retD ds37 w45 fun w46 =>
  ∃ (x47 : Int), World.cell? w46 p2 = some (.int .i64 x47) ∧ (R (.returned (.int .i64 x47)) w46)))) (fun ds37 w38 =>
  retD ds37 w38 fun w48 =>
  ∃ (x49 : Int), World.cell? w48 p2 = some (.int .i64 x49) ∧ (R (.returned (.int .i64 x49)) w48)) (fun ds37 w38 =>
  False))) (fun ds14 w15 =>
  retD ds14 w15 fun w50 =>
  ∃ (x51 : Int), World.cell? w50 p2 = some (.int .i64 x51) ∧ (R (.returned (.int .i64 x51)) w50)) (fun ds14 w15 =>
  Calls Tryd.prog 52 ⟨[.slice l_1 l_1n l_1c]⟩ w15 fun (e16 : Ending) (w17 : World) =>
  ∃ (x18 : Fn) (x18a : Array Value) (x18b : Array Value), e16 = .returned (.func x18 x18a x18b) ∧ (∀ base19 : Env, RFw Tryd.prog none 39 (cdAt Tryd.f34 [1, 1, 1, 1, 0, 1, 2]) (upd (upd (upd base19 28 (.func x18 x18a x18b)) 2 (.pointer (some p2))) 0 (.slice l_1 l_1n l_1c)) ds14 w17 0 (fun ds20 w21 =>
  Calls Tryd.prog 74 ⟨[.slice l_1 l_1n l_1c]⟩ w21 fun (e22 : Ending) (w23 : World) =>
  ∃ (x24 : List UInt8), e22 = .returned (.string ⟨⟨x24⟩⟩) ∧ (br (decide ((65536 : Int) < ((List.length x24 : Int)))) (stL w23 p2 0 [.int .i64 4] fun w25 =>
  retD ds20 w25 fun w26 =>
  ∃ (x27 : Int), World.cell? w26 p2 = some (.int .i64 x27) ∧ (R (.returned (.int .i64 x27)) w26)) (stL w23 p2 0 [.int .i64 0] fun w28 =>
  retD ds20 w28 fun w29 =>
  ∃ (x30 : Int), World.cell? w29 p2 = some (.int .i64 x30) ∧ (R (.returned (.int .i64 x30)) w29)))) (fun ds20 w21 =>
  retD ds20 w21 fun w31 =>
  ∃ (x32 : Int), World.cell? w31 p2 = some (.int .i64 x32) ∧ (R (.returned (.int .i64 x32)) w31)) (fun ds20 w21 =>
  False))))
set_option maxRecDepth 100000 in
theorem e_transcript_Check (l_1 : Option Addr) (l_1n : Nat) (l_1c : Nat) (R : Ending → World → Prop) (w : World) : fnV Tryd.prog Tryd.f34 an_transcript_Check [.slice l_1 l_1n l_1c] R w = sh_transcript_Check l_1 l_1n l_1c R w := by kernel_rfl
theorem c_transcript_Check {l_1 : Option Addr} {l_1n : Nat} {l_1c : Nat} {R : Ending → World → Prop} {w : World} (h : sh_transcript_Check l_1 l_1n l_1c R w) : Calls Tryd.prog F_transcript_Check ⟨[.slice l_1 l_1n l_1c]⟩ w R := calls_of_fnV Tryd.func34 (by rw [e_transcript_Check]; exact h)
def anA_transcript_Check_1 : Ann := .leaf
def anB_transcript_Check_1 : Ann := .one (.two (.leaf) (.two (.two (.leaf) (.leaf)) (.leaf)))
def rf_transcript_Check_1 (l_52 : Option Addr) (l_52n : Nat) (l_52c : Nat) (t2_53 : Option Addr) (spend_54 : Option Addr) (t10_55 : Fn) (t10_55a : Array Value) (t10_55b : Array Value) (t11_56 : Int) (t11_57 : List UInt8) (t11_58 : Int) (t11_59 : Option Addr) (t11_59n : Nat) (t11_59c : Nat) (t11_60 : Int) (t11_61 : Bool) (l : Nat) (Kn Kr Kx : World → World → Prop) (w : World) : Prop :=
  al w 72 [.int .i64 0, .string ⟨⟨[]⟩⟩, .int .i64 0, .slice none 0 0, .int .i64 0, .bool false] fun p63 w64 =>
  stL w64 p63 0 [.int .i64 t11_56, .string ⟨⟨t11_57⟩⟩, .int .i64 t11_58, .slice t11_59 t11_59n t11_59c, .int .i64 t11_60, .bool t11_61] fun w65 =>
  Ext w w65 ∧ ∀ w62 : World, Upd l w65 w62 → (dr spend_54 fun p66 =>
  ∃ (x67 : Fn) (x67a : Array Value) (x67b : Array Value), World.cell? w62 p66 = some (.func x67 x67a x67b) ∧ (CallV Tryd.prog (.func x67 x67a x67b) [] w62 fun (e68 : Ending) (w69 : World) =>
  ∃ (x70 : Bool), e68 = .returned (.bool x70) ∧ (br (!x70) (dr t2_53 fun p72 =>
  stL w69 p72 0 [.int .i64 4] fun w71 =>
  Kr w62 w71) (∃ (x73 : Int), World.cell? w69 (p63.add 4) = some (.int .i64 x73) ∧ (br (decide ((16 : Int) ≤ x73)) (∃ (x74 : Option Addr) (x74n : Nat) (x74c : Nat), World.cell? w69 ((p63.add 0).add 3) = some (.slice x74 x74n x74c) ∧ (br (decide ((0 : Int) < ((x74n : Int)))) (dr t2_53 fun p76 =>
  stL w69 p76 0 [.int .i64 4] fun w75 =>
  Kr w62 w75) (Kn w62 w69))) (Kn w62 w69))))))
set_option maxRecDepth 100000 in
theorem er_transcript_Check_1 (base : Env) (l_52 : Option Addr) (l_52n : Nat) (l_52c : Nat) (t2_53 : Option Addr) (spend_54 : Option Addr) (t10_55 : Fn) (t10_55a : Array Value) (t10_55b : Array Value) (t11_56 : Int) (t11_57 : List UInt8) (t11_58 : Int) (t11_59 : Option Addr) (t11_59n : Nat) (t11_59c : Nat) (t11_60 : Int) (t11_61 : Bool) (l : Nat) (Kn Kr Kx : World → World → Prop) (w : World) : fragV Tryd.prog 39 anA_transcript_Check_1 anB_transcript_Check_1 (cdAt Tryd.f34 [1, 1, 1, 0, 1, 2, 5]) (cdAt Tryd.f34 [1, 1, 1, 0, 1, 2, 6]) l 0 Kn Kr Kx (updPs [11] [.agg ⟨[.int .i64 t11_56, .string ⟨⟨t11_57⟩⟩, .int .i64 t11_58, .slice t11_59 t11_59n t11_59c, .int .i64 t11_60, .bool t11_61]⟩] (upd (upd (upd (upd base 10 (.func t10_55 t10_55a t10_55b)) 4 (.pointer spend_54)) 2 (.pointer t2_53)) 0 (.slice l_52 l_52n l_52c))) w = rf_transcript_Check_1 l_52 l_52n l_52c t2_53 spend_54 t10_55 t10_55a t10_55b t11_56 t11_57 t11_58 t11_59 t11_59n t11_59c t11_60 t11_61 l Kn Kr Kx w := by kernel_rfl
theorem cd_transcript_Check_1 : cdAt Tryd.f34 [1, 1, 1, 0, 1, 2] = .rangeFunc (Operand.tmp 10) #[11] (cdAt Tryd.f34 [1, 1, 1, 0, 1, 2, 5]) (cdAt Tryd.f34 [1, 1, 1, 0, 1, 2, 6]) := by kernel_rfl
def anA_transcript_Check_2 : Ann := .leaf
def anB_transcript_Check_2 : Ann := .one (.two (.leaf) (.two (.leaf) (.two (.two (.leaf) (.leaf)) (.leaf))))
def rf_transcript_Check_2 (l_77 : Option Addr) (l_77n : Nat) (l_77c : Nat) (t2_78 : Option Addr) (t28_79 : Fn) (t28_79a : Array Value) (t28_79b : Array Value) (t29_80 : Int) (t29_81 : List UInt8) (t29_82 : Int) (t29_83 : Option Addr) (t29_83n : Nat) (t29_83c : Nat) (t29_84 : Int) (t29_85 : Bool) (l : Nat) (Kn Kr Kx : World → World → Prop) (w : World) : Prop :=
  al w 72 [.int .i64 0, .string ⟨⟨[]⟩⟩, .int .i64 0, .slice none 0 0, .int .i64 0, .bool false] fun p87 w88 =>
  stL w88 p87 0 [.int .i64 t29_80, .string ⟨⟨t29_81⟩⟩, .int .i64 t29_82, .slice t29_83 t29_83n t29_83c, .int .i64 t29_84, .bool t29_85] fun w89 =>
  Ext w w89 ∧ ∀ w86 : World, Upd l w89 w86 → (∃ (x90 : Int), World.cell? w86 (p87.add 0) = some (.int .i64 x90) ∧ (∃ (x91 : List UInt8), World.cell? w86 (p87.add 1) = some (.string ⟨⟨x91⟩⟩) ∧ (∃ (x92 : Int), World.cell? w86 (p87.add 2) = some (.int .i64 x92) ∧ (∃ (x93 : Option Addr) (x93n : Nat) (x93c : Nat), World.cell? w86 (p87.add 3) = some (.slice x93 x93n x93c) ∧ (∃ (x94 : Int), World.cell? w86 (p87.add 4) = some (.int .i64 x94) ∧ (∃ (x95 : Bool), World.cell? w86 (p87.add 5) = some (.bool x95) ∧ (Calls Tryd.prog 73 ⟨[.agg ⟨[.int .i64 x90, .string ⟨⟨x91⟩⟩, .int .i64 x92, .slice x93 x93n x93c, .int .i64 x94, .bool x95]⟩]⟩ w86 fun (e96 : Ending) (w97 : World) =>
  ∃ (x98 : Int), e96 = .returned (.int .i64 x98) ∧ (br (decide ((x98 : Int) ≠ 0)) (dr t2_78 fun p100 =>
  stL w97 p100 0 [.int .i64 x98] fun w99 =>
  Kr w86 w99) (Kn w86 w97)))))))))
set_option maxRecDepth 100000 in
theorem er_transcript_Check_2 (base : Env) (l_77 : Option Addr) (l_77n : Nat) (l_77c : Nat) (t2_78 : Option Addr) (t28_79 : Fn) (t28_79a : Array Value) (t28_79b : Array Value) (t29_80 : Int) (t29_81 : List UInt8) (t29_82 : Int) (t29_83 : Option Addr) (t29_83n : Nat) (t29_83c : Nat) (t29_84 : Int) (t29_85 : Bool) (l : Nat) (Kn Kr Kx : World → World → Prop) (w : World) : fragV Tryd.prog 39 anA_transcript_Check_2 anB_transcript_Check_2 (cdAt Tryd.f34 [1, 1, 1, 1, 0, 1, 2, 5]) (cdAt Tryd.f34 [1, 1, 1, 1, 0, 1, 2, 6]) l 0 Kn Kr Kx (updPs [29] [.agg ⟨[.int .i64 t29_80, .string ⟨⟨t29_81⟩⟩, .int .i64 t29_82, .slice t29_83 t29_83n t29_83c, .int .i64 t29_84, .bool t29_85]⟩] (upd (upd (upd base 28 (.func t28_79 t28_79a t28_79b)) 2 (.pointer t2_78)) 0 (.slice l_77 l_77n l_77c))) w = rf_transcript_Check_2 l_77 l_77n l_77c t2_78 t28_79 t28_79a t28_79b t29_80 t29_81 t29_82 t29_83 t29_83n t29_83c t29_84 t29_85 l Kn Kr Kx w := by kernel_rfl
theorem cd_transcript_Check_2 : cdAt Tryd.f34 [1, 1, 1, 1, 0, 1, 2] = .rangeFunc (Operand.tmp 28) #[29] (cdAt Tryd.f34 [1, 1, 1, 1, 0, 1, 2, 5]) (cdAt Tryd.f34 [1, 1, 1, 1, 0, 1, 2, 6]) := by kernel_rfl

def an_slices_ContainsFunc_of_string_string : Ann := .two (.leaf) (.two (.leaf) (.leaf))
def sh_slices_ContainsFunc_of_string_string (s_1 : Option Addr) (s_1n : Nat) (s_1c : Nat) (f_2 : Fn) (f_2a : Array Value) (f_2b : Array Value) (R : Ending → World → Prop) (w : World) : Prop :=
  Calls Tryd.prog 75 ⟨[.slice s_1 s_1n s_1c, .func f_2 f_2a f_2b]⟩ w fun (e3 : Ending) (w4 : World) =>
  ∃ (x5 : Int), e3 = .returned (.int .i64 x5) ∧ (R (.returned (.bool (decide ((0 : Int) ≤ x5)))) w4)
set_option maxRecDepth 100000 in
theorem e_slices_ContainsFunc_of_string_string (s_1 : Option Addr) (s_1n : Nat) (s_1c : Nat) (f_2 : Fn) (f_2a : Array Value) (f_2b : Array Value) (R : Ending → World → Prop) (w : World) : fnV Tryd.prog Tryd.f35 an_slices_ContainsFunc_of_string_string [.slice s_1 s_1n s_1c, .func f_2 f_2a f_2b] R w = sh_slices_ContainsFunc_of_string_string s_1 s_1n s_1c f_2 f_2a f_2b R w := by kernel_rfl
theorem c_slices_ContainsFunc_of_string_string {s_1 : Option Addr} {s_1n : Nat} {s_1c : Nat} {f_2 : Fn} {f_2a : Array Value} {f_2b : Array Value} {R : Ending → World → Prop} {w : World} (h : sh_slices_ContainsFunc_of_string_string s_1 s_1n s_1c f_2 f_2a f_2b R w) : Calls Tryd.prog F_slices_ContainsFunc_of_string_string ⟨[.slice s_1 s_1n s_1c, .func f_2 f_2a f_2b]⟩ w R := calls_of_fnV Tryd.func35 (by rw [e_slices_ContainsFunc_of_string_string]; exact h)

def an_law12_LegibilitySupplies_1 : Ann := .two (.leaf) (.two (.leaf) (.leaf))
def sh_law12_LegibilitySupplies_1 (s_1 : List UInt8) (R : Ending → World → Prop) (w : World) : Prop :=
  R (.returned (.bool (decide ((70 : Int) < ((List.length s_1 : Int)))))) w
set_option maxRecDepth 100000 in
theorem e_law12_LegibilitySupplies_1 (s_1 : List UInt8) (R : Ending → World → Prop) (w : World) : fnV Tryd.prog Tryd.f36 an_law12_LegibilitySupplies_1 [.string ⟨⟨s_1⟩⟩] R w = sh_law12_LegibilitySupplies_1 s_1 R w := by kernel_rfl
theorem c_law12_LegibilitySupplies_1 {s_1 : List UInt8} {R : Ending → World → Prop} {w : World} (h : sh_law12_LegibilitySupplies_1 s_1 R w) : Calls Tryd.prog F_law12_LegibilitySupplies_1 ⟨[.string ⟨⟨s_1⟩⟩]⟩ w R := calls_of_fnV Tryd.func36 (by rw [e_law12_LegibilitySupplies_1]; exact h)

def an_legibility_Supply : Ann := .two (.leaf) (.two (.two (.leaf) (.two (.leaf) (.two (.two (.leaf) (.leaf)) (.leaf)))) (.two (.leaf) (.two (.leaf) (.two (.leaf) (.two (.leaf) (.cut 534773808 [] (.two (.leaf) (.two (.two (.leaf) (.leaf)) (.leaf))) (.two (.leaf) (.two (.two (.leaf) (.two (.leaf) (.two (.two (.leaf) (.leaf)) (.leaf)))) (.two (.leaf) (.leaf))))))))))
def sh_legibility_Supply (l_1 : Option Addr) (l_1n : Nat) (l_1c : Nat) (words_2 : Option Addr) (words_2n : Nat) (words_2c : Nat) (R : Ending → World → Prop) (w : World) : Prop :=
  al w 38 [.slice words_2 words_2n words_2c] fun p3 w4 =>
  Calls Tryd.prog 48 ⟨[.slice l_1 l_1n l_1c]⟩ w4 fun (e5 : Ending) (w6 : World) =>
  ∃ (x7 : Int), e5 = .returned (.int .i64 x7) ∧ (br (decide ((x7 : Int) ≠ 0)) (R (.returned (.tuple ⟨[.slice none 0 0, .int .i64 x7]⟩)) w6) (al w6 3 [.int .i64 0] fun p8 w9 =>
  al w9 4 [.bool false] fun p10 w11 =>
  stL w11 p8 0 [.int .i64 0] fun w12 =>
  stL w12 p10 0 [.bool true] fun w13 =>
  al w13 97 [.nilFunc] fun p14 w15 =>
  stL w15 p14 0 [.func (.func 76) ⟨[]⟩ ⟨[.pointer (some p14), .pointer (some p8), .pointer (some p3), .pointer (some p10)]⟩] fun w16 =>
  ∃ (x17 : Fn) (x17a : Array Value) (x17b : Array Value), World.cell? w16 p14 = some (.func x17 x17a x17b) ∧ (CallV Tryd.prog (.func x17 x17a x17b) [.slice l_1 l_1n l_1c] w16 fun (e18 : Ending) (w19 : World) =>
  ∃ (x20 : Option Addr) (x20n : Nat) (x20c : Nat), e18 = .returned (.slice x20 x20n x20c) ∧ (∀ (K21 : World → Prop), (∀  (w22 : World), (∀ _ : Env, (Calls Tryd.prog 77 ⟨[.slice x20 x20n x20c]⟩ w22 fun (e23 : Ending) (w24 : World) =>
  ∃ (x25 : Option Addr) (x25n : Nat) (x25c : Nat), e23 = .returned (.slice x25 x25n x25c) ∧ (Calls Tryd.prog 34 ⟨[.slice x25 x25n x25c]⟩ w24 fun (e26 : Ending) (w27 : World) =>
  ∃ (x28 : Int), e26 = .returned (.int .i64 x28) ∧ (br (decide ((x28 : Int) ≠ 0)) (R (.returned (.tuple ⟨[.slice none 0 0, .int .i64 x28]⟩)) w27) (R (.returned (.tuple ⟨[.slice x25 x25n x25c, .int .i64 0]⟩)) w27))))) → K21 w22) → (∃ (x29 : Bool), World.cell? w19 p10 = some (.bool x29) ∧ (br (!x29) (R (.returned (.tuple ⟨[.slice none 0 0, .int .i64 9]⟩)) w19) (∃ (x30 : Int), World.cell? w19 p8 = some (.int .i64 x30) ∧ (∃ (x31 : Option Addr) (x31n : Nat) (x31c : Nat), World.cell? w19 p3 = some (.slice x31 x31n x31c) ∧ (br (decide ((x30 : Int) ≠ ((x31n : Int)))) (R (.returned (.tuple ⟨[.slice none 0 0, .int .i64 9]⟩)) w19) (K21 w19))))))))))
set_option maxRecDepth 100000 in
theorem e_legibility_Supply (l_1 : Option Addr) (l_1n : Nat) (l_1c : Nat) (words_2 : Option Addr) (words_2n : Nat) (words_2c : Nat) (R : Ending → World → Prop) (w : World) : fnV Tryd.prog Tryd.f37 an_legibility_Supply [.slice l_1 l_1n l_1c, .slice words_2 words_2n words_2c] R w = sh_legibility_Supply l_1 l_1n l_1c words_2 words_2n words_2c R w := by kernel_rfl
theorem c_legibility_Supply {l_1 : Option Addr} {l_1n : Nat} {l_1c : Nat} {words_2 : Option Addr} {words_2n : Nat} {words_2c : Nat} {R : Ending → World → Prop} {w : World} (h : sh_legibility_Supply l_1 l_1n l_1c words_2 words_2n words_2c R w) : Calls Tryd.prog F_legibility_Supply ⟨[.slice l_1 l_1n l_1c, .slice words_2 words_2n words_2c]⟩ w R := calls_of_fnV Tryd.func37 (by rw [e_legibility_Supply]; exact h)

def an_legibility_Fits : Ann := .two (.leaf) (.cut 32688 [] (.two (.leaf) (.two (.two (.leaf) (.leaf)) (.leaf))) (.two (.two (.leaf) (.two (.two (.leaf) (.leaf)) (.leaf))) (.two (.two (.leaf) (.one (.loop 1099507433584 [(22, .one (.int .i64))] (.two (.leaf) (.two (.two (.leaf) (.leaf)) (.two (.one (.two (.leaf) (.two (.leaf) (.two (.two (.leaf) (.leaf)) (.leaf))))) (.leaf))))))) (.two (.leaf) (.leaf)))))
def sh_legibility_Fits (pattern_1 : List UInt8) (w_2 : List UInt8) (R : Ending → World → Prop) (w : World) : Prop :=
  ∀ (K3 : World → Prop), (∀  (w4 : World), (∀ _ : Env, (br (decide ((((List.length pattern_1 : Int)) : Int) ≠ ((List.length w_2 : Int)))) (R (.returned (.tuple ⟨[.bool false, .int .i64 0]⟩)) w4) (∃ (I5 : Int → World → Nat → Prop), (∃ m9 : Nat, I5 0 w4 m9) ∧ ∀ (t22_6 : Int) (w7 : World) (m8 : Nat), I5 t22_6 w7 m8 → ∀ _ : Env, (br (decide ((t22_6 : Int) < ((List.length w_2 : Int)))) (drw w7 fun w10 =>
  sidx w_2 t22_6 fun b11 =>
  sidx pattern_1 t22_6 fun b12 =>
  br (decide ((((b11.toNat : Int)) : Int) ≠ ((b12.toNat : Int)))) (sidx pattern_1 t22_6 fun b13 =>
  sidx ([95]) 0 fun b14 =>
  br (decide ((((b13.toNat : Int)) : Int) ≠ ((b14.toNat : Int)))) (R (.returned (.tuple ⟨[.bool false, .int .i64 0]⟩)) w10) (∃ m15 : Nat, m15 < m8 ∧ I5 (IntKind.i64.wrap (t22_6 + 1)) w10 m15)) (∃ m16 : Nat, m16 < m8 ∧ I5 (IntKind.i64.wrap (t22_6 + 1)) w10 m16)) (R (.returned (.tuple ⟨[.bool true, .int .i64 0]⟩)) w7))))) → K3 w4) → (br (decide ((65536 : Int) < ((List.length pattern_1 : Int)))) (R (.returned (.tuple ⟨[.bool false, .int .i64 4]⟩)) w) (br (decide ((65536 : Int) < ((List.length w_2 : Int)))) (R (.returned (.tuple ⟨[.bool false, .int .i64 4]⟩)) w) (K3 w)))
set_option maxRecDepth 100000 in
theorem e_legibility_Fits (pattern_1 : List UInt8) (w_2 : List UInt8) (R : Ending → World → Prop) (w : World) : fnV Tryd.prog Tryd.f38 an_legibility_Fits [.string ⟨⟨pattern_1⟩⟩, .string ⟨⟨w_2⟩⟩] R w = sh_legibility_Fits pattern_1 w_2 R w := by kernel_rfl
theorem c_legibility_Fits {pattern_1 : List UInt8} {w_2 : List UInt8} {R : Ending → World → Prop} {w : World} (h : sh_legibility_Fits pattern_1 w_2 R w) : Calls Tryd.prog F_legibility_Fits ⟨[.string ⟨⟨pattern_1⟩⟩, .string ⟨⟨w_2⟩⟩]⟩ w R := calls_of_fnV Tryd.func38 (by rw [e_legibility_Fits]; exact h)

def an_ref10_size : Ann := .two (.leaf) (.two (.leaf) (.two (.two (.leaf) (.one (.loop 576460752303423424 [(9, .one (.int .i64)), (10, .one (.int .i64)), (11, .one (.int .i64))] (.two (.two (.leaf) (.two (.leaf) (.leaf))) (.two (.one (.two (.leaf) (.two (.two (.leaf) (.two (.two (.leaf) (.leaf)) (.leaf))) (.two (.two (.leaf) (.two (.leaf) (.leaf))) (.two (.two (.leaf) (.two (.two (.leaf) (.leaf)) (.leaf))) (.two (.leaf) (.two (.two (.leaf) (.two (.two (.leaf) (.leaf)) (.leaf))) (.two (.leaf) (.leaf))))))))) (.leaf)))))) (.two (.leaf) (.leaf))))
def sh_ref10_size (l_1 : Option Addr) (l_1n : Nat) (l_1c : Nat) (depth_2 : Int) (most_3 : Int) (R : Ending → World → Prop) (w : World) : Prop :=
  ∃ (I4 : Int → Int → Int → World → Nat → Prop), (∃ m10 : Nat, I4 0 0 0 w m10) ∧ ∀ (n_5 : Int) (deep_6 : Int) (i_7 : Int) (w8 : World) (m9 : Nat), I4 n_5 deep_6 i_7 w8 m9 → ∀ _ : Env, (br (decide ((i_7 : Int) < ((l_1n : Int)))) (br (decide ((most_3 : Int) < (IntKind.i64.wrap (n_5 + 1)))) (R (.returned (.tuple ⟨[.int .i64 0, .int .i64 0, .bool false]⟩)) w8) (idx l_1 l_1n i_7 4 fun p11 =>
  ∃ (x12 : Option Addr) (x12n : Nat) (x12c : Nat), World.cell? w8 (p11.add 3) = some (.slice x12 x12n x12c) ∧ (br (decide ((((x12n : Int)) : Int) = 0)) (∃ m13 : Nat, m13 < m9 ∧ I4 (IntKind.i64.wrap (n_5 + 1)) deep_6 (IntKind.i64.wrap (i_7 + 1)) w8 m13) (br (decide ((depth_2 : Int) = 0)) (R (.returned (.tuple ⟨[.int .i64 0, .int .i64 0, .bool false]⟩)) w8) (idx l_1 l_1n i_7 4 fun p14 =>
  ∃ (x15 : Option Addr) (x15n : Nat) (x15c : Nat), World.cell? w8 (p14.add 3) = some (.slice x15 x15n x15c) ∧ (Calls Tryd.prog 44 ⟨[.slice x15 x15n x15c, .int .i64 (IntKind.i64.wrap (depth_2 - 1)), .int .i64 (IntKind.i64.wrap (most_3 - (IntKind.i64.wrap (n_5 + 1))))]⟩ w8 fun (e16 : Ending) (w17 : World) =>
  ∃ (x18 : Int) (x19 : Int) (x20 : Bool), e16 = .returned (.tuple ⟨[.int .i64 x18, .int .i64 x19, .bool x20]⟩) ∧ (br (!x20) (R (.returned (.tuple ⟨[.int .i64 0, .int .i64 0, .bool false]⟩)) w17) (∃ m21 : Nat, m21 < m9 ∧ I4 (IntKind.i64.wrap ((IntKind.i64.wrap (n_5 + 1)) + x18)) ((max deep_6 (IntKind.i64.wrap (x19 + 1)))) (IntKind.i64.wrap (i_7 + 1)) w17 m21)))))))) (R (.returned (.tuple ⟨[.int .i64 n_5, .int .i64 deep_6, .bool true]⟩)) w8))
set_option maxRecDepth 100000 in
theorem e_ref10_size (l_1 : Option Addr) (l_1n : Nat) (l_1c : Nat) (depth_2 : Int) (most_3 : Int) (R : Ending → World → Prop) (w : World) : fnV Tryd.prog Tryd.f44 an_ref10_size [.slice l_1 l_1n l_1c, .int .i64 depth_2, .int .i64 most_3] R w = sh_ref10_size l_1 l_1n l_1c depth_2 most_3 R w := by kernel_rfl
theorem c_ref10_size {l_1 : Option Addr} {l_1n : Nat} {l_1c : Nat} {depth_2 : Int} {most_3 : Int} {R : Ending → World → Prop} {w : World} (h : sh_ref10_size l_1 l_1n l_1c depth_2 most_3 R w) : Calls Tryd.prog F_ref10_size ⟨[.slice l_1 l_1n l_1c, .int .i64 depth_2, .int .i64 most_3]⟩ w R := calls_of_fnV Tryd.func44 (by rw [e_ref10_size]; exact h)

def an_ref10_long : Ann := .two (.leaf) (.two (.two (.leaf) (.one (.loop 8796093022192 [(5, .one (.int .i64))] (.two (.two (.leaf) (.two (.leaf) (.leaf))) (.two (.one (.two (.leaf) (.two (.leaf) (.two (.two (.leaf) (.leaf)) (.leaf))))) (.leaf)))))) (.two (.leaf) (.leaf)))
def sh_ref10_long (l_1 : Option Addr) (l_1n : Nat) (l_1c : Nat) (depth_2 : Int) (R : Ending → World → Prop) (w : World) : Prop :=
  ∃ (I3 : Int → World → Nat → Prop), (∃ m7 : Nat, I3 0 w m7) ∧ ∀ (i_4 : Int) (w5 : World) (m6 : Nat), I3 i_4 w5 m6 → ∀ _ : Env, (br (decide ((i_4 : Int) < ((l_1n : Int)))) (idx l_1 l_1n i_4 4 fun p8 =>
  ∃ (x9 : List UInt8), World.cell? w5 (p8.add 1) = some (.string ⟨⟨x9⟩⟩) ∧ (br (decide ((depth_2 : Int) = 0)) (R (.returned (.bool true)) w5) (br (decide ((60 : Int) < ((List.length x9 : Int)))) (br (decide ((((List.length x9 : Int)) : Int) ≤ 65536)) (R (.returned (.bool true)) w5) (br (decide ((65540 : Int) < ((List.length x9 : Int)))) (R (.returned (.bool true)) w5) (idx l_1 l_1n i_4 4 fun p10 =>
  ∃ (x11 : Option Addr) (x11n : Nat) (x11c : Nat), World.cell? w5 (p10.add 3) = some (.slice x11 x11n x11c) ∧ (Calls Tryd.prog 45 ⟨[.slice x11 x11n x11c, .int .i64 (IntKind.i64.wrap (depth_2 - 1))]⟩ w5 fun (e12 : Ending) (w13 : World) =>
  ∃ (x14 : Bool), e12 = .returned (.bool x14) ∧ (br x14 (R (.returned (.bool true)) w13) (∃ m15 : Nat, m15 < m6 ∧ I3 (IntKind.i64.wrap (i_4 + 1)) w13 m15)))))) (br (decide ((65540 : Int) < ((List.length x9 : Int)))) (R (.returned (.bool true)) w5) (idx l_1 l_1n i_4 4 fun p16 =>
  ∃ (x17 : Option Addr) (x17n : Nat) (x17c : Nat), World.cell? w5 (p16.add 3) = some (.slice x17 x17n x17c) ∧ (Calls Tryd.prog 45 ⟨[.slice x17 x17n x17c, .int .i64 (IntKind.i64.wrap (depth_2 - 1))]⟩ w5 fun (e18 : Ending) (w19 : World) =>
  ∃ (x20 : Bool), e18 = .returned (.bool x20) ∧ (br x20 (R (.returned (.bool true)) w19) (∃ m21 : Nat, m21 < m6 ∧ I3 (IntKind.i64.wrap (i_4 + 1)) w19 m21)))))))) (R (.returned (.bool false)) w5))
set_option maxRecDepth 100000 in
theorem e_ref10_long (l_1 : Option Addr) (l_1n : Nat) (l_1c : Nat) (depth_2 : Int) (R : Ending → World → Prop) (w : World) : fnV Tryd.prog Tryd.f45 an_ref10_long [.slice l_1 l_1n l_1c, .int .i64 depth_2] R w = sh_ref10_long l_1 l_1n l_1c depth_2 R w := by kernel_rfl
theorem c_ref10_long {l_1 : Option Addr} {l_1n : Nat} {l_1c : Nat} {depth_2 : Int} {R : Ending → World → Prop} {w : World} (h : sh_ref10_long l_1 l_1n l_1c depth_2 R w) : Calls Tryd.prog F_ref10_long ⟨[.slice l_1 l_1n l_1c, .int .i64 depth_2]⟩ w R := calls_of_fnV Tryd.func45 (by rw [e_ref10_long]; exact h)

def an_law12_sample : Ann := .two (.leaf) (.two (.leaf) (.leaf))
def sh_law12_sample  (R : Ending → World → Prop) (w : World) : Prop :=
  al w 37 [.int .i64 1, .string ⟨⟨[111, 109, 105, 110, 117, 115]⟩⟩, .int .i64 0, .slice none 0 0] fun p1 w2 =>
  al w2 37 [.int .i64 1, .string ⟨⟨[100]⟩⟩, .int .i64 0, .slice none 0 0, .int .i64 10, .string ⟨⟨[110, 115]⟩⟩, .int .i64 0, .slice (some p1) 1 1, .int .i64 6, .string ⟨⟨[]⟩⟩, .int .i64 2, .slice none 0 0] fun p3 w4 =>
  R (.returned (.slice (some p3) 3 3)) w4
set_option maxRecDepth 100000 in
theorem e_law12_sample  (R : Ending → World → Prop) (w : World) : fnV Tryd.prog Tryd.f46 an_law12_sample [] R w = sh_law12_sample  R w := by kernel_rfl
theorem c_law12_sample  {R : Ending → World → Prop} {w : World} (h : sh_law12_sample  R w) : Calls Tryd.prog F_law12_sample ⟨[]⟩ w R := calls_of_fnV Tryd.func46 (by rw [e_law12_sample]; exact h)

def an_slices_Equal_of_api_Rewrite_api_Rewrite : Ann := .two (.leaf) (.two (.two (.leaf) (.two (.two (.leaf) (.leaf)) (.leaf))) (.two (.two (.leaf) (.one (.loop 67100720 [(13, .one (.int .i64))] (.two (.leaf) (.two (.two (.leaf) (.leaf)) (.two (.one (.two (.leaf) (.two (.leaf) (.two (.two (.leaf) (.leaf)) (.leaf))))) (.leaf))))))) (.two (.leaf) (.leaf))))
def sh_slices_Equal_of_api_Rewrite_api_Rewrite (s1_1 : Option Addr) (s1_1n : Nat) (s1_1c : Nat) (s2_2 : Option Addr) (s2_2n : Nat) (s2_2c : Nat) (R : Ending → World → Prop) (w : World) : Prop :=
  br (decide ((((s1_1n : Int)) : Int) ≠ ((s2_2n : Int)))) (R (.returned (.bool false)) w) (∃ (I3 : Int → World → Nat → Prop), (∃ m7 : Nat, I3 0 w m7) ∧ ∀ (t13_4 : Int) (w5 : World) (m6 : Nat), I3 t13_4 w5 m6 → ∀ _ : Env, (br (decide ((t13_4 : Int) < ((s1_1n : Int)))) (drw w5 fun w8 =>
  idx s1_1 s1_1n t13_4 2 fun p9 =>
  ∃ (x10 : List UInt8), World.cell? w8 (p9.add 0) = some (.string ⟨⟨x10⟩⟩) ∧ (∃ (x11 : List UInt8), World.cell? w8 (p9.add 1) = some (.string ⟨⟨x11⟩⟩) ∧ (idx s2_2 s2_2n t13_4 2 fun p12 =>
  ∃ (x13 : List UInt8), World.cell? w8 (p12.add 0) = some (.string ⟨⟨x13⟩⟩) ∧ (∃ (x14 : List UInt8), World.cell? w8 (p12.add 1) = some (.string ⟨⟨x14⟩⟩) ∧ (br (!(decide ((x10 : List UInt8) = x13) && (decide ((x11 : List UInt8) = x14) && true))) (R (.returned (.bool false)) w8) (∃ m15 : Nat, m15 < m6 ∧ I3 (IntKind.i64.wrap (t13_4 + 1)) w8 m15)))))) (R (.returned (.bool true)) w5)))
set_option maxRecDepth 100000 in
theorem e_slices_Equal_of_api_Rewrite_api_Rewrite (s1_1 : Option Addr) (s1_1n : Nat) (s1_1c : Nat) (s2_2 : Option Addr) (s2_2n : Nat) (s2_2c : Nat) (R : Ending → World → Prop) (w : World) : fnV Tryd.prog Tryd.f47 an_slices_Equal_of_api_Rewrite_api_Rewrite [.slice s1_1 s1_1n s1_1c, .slice s2_2 s2_2n s2_2c] R w = sh_slices_Equal_of_api_Rewrite_api_Rewrite s1_1 s1_1n s1_1c s2_2 s2_2n s2_2c R w := by kernel_rfl
theorem c_slices_Equal_of_api_Rewrite_api_Rewrite {s1_1 : Option Addr} {s1_1n : Nat} {s1_1c : Nat} {s2_2 : Option Addr} {s2_2n : Nat} {s2_2c : Nat} {R : Ending → World → Prop} {w : World} (h : sh_slices_Equal_of_api_Rewrite_api_Rewrite s1_1 s1_1n s1_1c s2_2 s2_2n s2_2c R w) : Calls Tryd.prog F_slices_Equal_of_api_Rewrite_api_Rewrite ⟨[.slice s1_1 s1_1n s1_1c, .slice s2_2 s2_2n s2_2c]⟩ w R := calls_of_fnV Tryd.func47 (by rw [e_slices_Equal_of_api_Rewrite_api_Rewrite]; exact h)

def an_legibility_check : Ann := .two (.leaf) (.two (.two (.leaf) (.two (.two (.leaf) (.leaf)) (.leaf))) (.two (.two (.leaf) (.one (.rf [2, 8] 0))) (.two (.leaf) (.leaf))))
def sh_legibility_check (l_1 : Option Addr) (l_1n : Nat) (l_1c : Nat) (R : Ending → World → Prop) (w : World) : Prop :=
  al w 25 [.int .i64 0] fun p2 w3 =>
  Calls Tryd.prog 34 ⟨[.slice l_1 l_1n l_1c]⟩ w3 fun (e4 : Ending) (w5 : World) =>
  ∃ (x6 : Int), e4 = .returned (.int .i64 x6) ∧ (br (decide ((x6 : Int) ≠ 0)) (stL w5 p2 0 [.int .i64 1] fun w7 =>
  ∃ (x8 : Int), World.cell? w7 p2 = some (.int .i64 x8) ∧ (R (.returned (.int .i64 x8)) w7)) (Calls Tryd.prog 57 ⟨[.slice l_1 l_1n l_1c]⟩ w5 fun (e9 : Ending) (w10 : World) =>
  ∃ (x11 : Fn) (x11a : Array Value) (x11b : Array Value), e9 = .returned (.func x11 x11a x11b) ∧ (∀ base12 : Env, RFw Tryd.prog none 19 (cdAt Tryd.f48 [1, 1, 0, 1, 2]) (upd (upd base12 8 (.func x11 x11a x11b)) 2 (.pointer (some p2))) [] w10 0 (fun ds13 w14 =>
  stL w14 p2 0 [.int .i64 0] fun w18 =>
  retD ds13 w18 fun w19 =>
  ∃ (x20 : Int), World.cell? w19 p2 = some (.int .i64 x20) ∧ (R (.returned (.int .i64 x20)) w19)) (fun ds13 w14 =>
  retD ds13 w14 fun w21 =>
  ∃ (x22 : Int), World.cell? w21 p2 = some (.int .i64 x22) ∧ (R (.returned (.int .i64 x22)) w21)) (fun ds13 w14 =>
  stL w14 p2 0 [.int .i64 0] fun w15 =>
  retD ds13 w15 fun w16 =>
  ∃ (x17 : Int), World.cell? w16 p2 = some (.int .i64 x17) ∧ (R (.returned (.int .i64 x17)) w16)))))
set_option maxRecDepth 100000 in
theorem e_legibility_check (l_1 : Option Addr) (l_1n : Nat) (l_1c : Nat) (R : Ending → World → Prop) (w : World) : fnV Tryd.prog Tryd.f48 an_legibility_check [.slice l_1 l_1n l_1c] R w = sh_legibility_check l_1 l_1n l_1c R w := by kernel_rfl
theorem c_legibility_check {l_1 : Option Addr} {l_1n : Nat} {l_1c : Nat} {R : Ending → World → Prop} {w : World} (h : sh_legibility_check l_1 l_1n l_1c R w) : Calls Tryd.prog F_legibility_check ⟨[.slice l_1 l_1n l_1c]⟩ w R := calls_of_fnV Tryd.func48 (by rw [e_legibility_check]; exact h)
def anA_legibility_check_1 : Ann := .leaf
def anB_legibility_check_1 : Ann := .one (.two (.leaf) (.two (.two (.leaf) (.leaf)) (.leaf)))
def rf_legibility_check_1 (t2_23 : Option Addr) (t8_24 : Fn) (t8_24a : Array Value) (t8_24b : Array Value) (t9_25 : Int) (t9_26 : List UInt8) (t9_27 : Int) (t9_28 : Option Addr) (t9_28n : Nat) (t9_28c : Nat) (t10_29 : Value) (l : Nat) (Kn Kr Kx : World → World → Prop) (w : World) : Prop :=
  al w 37 [.int .i64 0, .string ⟨⟨[]⟩⟩, .int .i64 0, .slice none 0 0] fun p31 w32 =>
  stL w32 p31 0 [.int .i64 t9_25, .string ⟨⟨t9_26⟩⟩, .int .i64 t9_27, .slice t9_28 t9_28n t9_28c] fun w33 =>
  Ext w w33 ∧ ∀ w30 : World, Upd l w33 w30 → (∃ (x34 : Int), World.cell? w30 (p31.add 0) = some (.int .i64 x34) ∧ (br (decide ((x34 : Int) = 8)) (dr t2_23 fun p36 =>
  stL w30 p36 0 [.int .i64 13] fun w35 =>
  Kr w30 w35) (∃ (x37 : Int), World.cell? w30 (p31.add 0) = some (.int .i64 x37) ∧ (br (decide ((x37 : Int) = 9)) (dr t2_23 fun p39 =>
  stL w30 p39 0 [.int .i64 13] fun w38 =>
  Kr w30 w38) (Kn w30 w30)))))
set_option maxRecDepth 100000 in
theorem er_legibility_check_1 (base : Env) (t2_23 : Option Addr) (t8_24 : Fn) (t8_24a : Array Value) (t8_24b : Array Value) (t9_25 : Int) (t9_26 : List UInt8) (t9_27 : Int) (t9_28 : Option Addr) (t9_28n : Nat) (t9_28c : Nat) (t10_29 : Value) (l : Nat) (Kn Kr Kx : World → World → Prop) (w : World) : fragV Tryd.prog 19 anA_legibility_check_1 anB_legibility_check_1 (cdAt Tryd.f48 [1, 1, 0, 1, 2, 5]) (cdAt Tryd.f48 [1, 1, 0, 1, 2, 6]) l 0 Kn Kr Kx (updPs [9, 10] [.agg ⟨[.int .i64 t9_25, .string ⟨⟨t9_26⟩⟩, .int .i64 t9_27, .slice t9_28 t9_28n t9_28c]⟩, t10_29] (upd (upd base 8 (.func t8_24 t8_24a t8_24b)) 2 (.pointer t2_23))) w = rf_legibility_check_1 t2_23 t8_24 t8_24a t8_24b t9_25 t9_26 t9_27 t9_28 t9_28n t9_28c t10_29 l Kn Kr Kx w := by kernel_rfl
theorem cd_legibility_check_1 : cdAt Tryd.f48 [1, 1, 0, 1, 2] = .rangeFunc (Operand.tmp 8) #[9, 10] (cdAt Tryd.f48 [1, 1, 0, 1, 2, 5]) (cdAt Tryd.f48 [1, 1, 0, 1, 2, 6]) := by kernel_rfl

def an_legibility_limited : Ann := .two (.leaf) (.two (.two (.leaf) (.two (.two (.leaf) (.leaf)) (.leaf))) (.two (.leaf) (.leaf)))
def sh_legibility_limited (s_1 : List UInt8) (R : Ending → World → Prop) (w : World) : Prop :=
  br (decide ((65536 : Int) < ((List.length s_1 : Int)))) (R (.returned (.tuple ⟨[.string ⟨⟨[]⟩⟩, .int .i64 4]⟩)) w) (R (.returned (.tuple ⟨[.string ⟨⟨s_1⟩⟩, .int .i64 0]⟩)) w)
set_option maxRecDepth 100000 in
theorem e_legibility_limited (s_1 : List UInt8) (R : Ending → World → Prop) (w : World) : fnV Tryd.prog Tryd.f49 an_legibility_limited [.string ⟨⟨s_1⟩⟩] R w = sh_legibility_limited s_1 R w := by kernel_rfl
theorem c_legibility_limited {s_1 : List UInt8} {R : Ending → World → Prop} {w : World} (h : sh_legibility_limited s_1 R w) : Calls Tryd.prog F_legibility_limited ⟨[.string ⟨⟨s_1⟩⟩]⟩ w R := calls_of_fnV Tryd.func49 (by rw [e_legibility_limited]; exact h)

def an_legibility_pattern : Ann := .two (.leaf) (.two (.leaf) (.two (.two (.leaf) (.one (.rf [2, 3, 6] 0))) (.two (.leaf) (.leaf))))
def sh_legibility_pattern (l_1 : Option Addr) (l_1n : Nat) (l_1c : Nat) (R : Ending → World → Prop) (w : World) : Prop :=
  al w 84 [.pointer none, .slice none 0 0] fun p2 w3 =>
  Calls Tryd.prog 57 ⟨[.slice l_1 l_1n l_1c]⟩ w3 fun (e4 : Ending) (w5 : World) =>
  ∃ (x6 : Fn) (x6a : Array Value) (x6b : Array Value), e4 = .returned (.func x6 x6a x6b) ∧ (∀ base7 : Env, RFw Tryd.prog none 23 (cdAt Tryd.f50 [1, 1, 0, 1, 2]) (upd (upd (upd base7 6 (.func x6 x6a x6b)) 3 (.pointer (some p2))) 2 (.string ⟨⟨[]⟩⟩)) [] w5 0 (fun ds8 w9 =>
  Calls Tryd.prog 62 ⟨[.pointer (some p2)]⟩ w9 fun (e14 : Ending) (w15 : World) =>
  ∃ (x16 : List UInt8), e14 = .returned (.string ⟨⟨x16⟩⟩) ∧ (retD ds8 w15 fun w17 =>
  R (.returned (.string ⟨⟨x16⟩⟩)) w17)) (fun ds8 w9 =>
  retD ds8 w9 fun w18 =>
  R (.returned (.string ⟨⟨[]⟩⟩)) w18) (fun ds8 w9 =>
  Calls Tryd.prog 62 ⟨[.pointer (some p2)]⟩ w9 fun (e10 : Ending) (w11 : World) =>
  ∃ (x12 : List UInt8), e10 = .returned (.string ⟨⟨x12⟩⟩) ∧ (retD ds8 w11 fun w13 =>
  R (.returned (.string ⟨⟨x12⟩⟩)) w13)))
set_option maxRecDepth 100000 in
theorem e_legibility_pattern (l_1 : Option Addr) (l_1n : Nat) (l_1c : Nat) (R : Ending → World → Prop) (w : World) : fnV Tryd.prog Tryd.f50 an_legibility_pattern [.slice l_1 l_1n l_1c] R w = sh_legibility_pattern l_1 l_1n l_1c R w := by kernel_rfl
theorem c_legibility_pattern {l_1 : Option Addr} {l_1n : Nat} {l_1c : Nat} {R : Ending → World → Prop} {w : World} (h : sh_legibility_pattern l_1 l_1n l_1c R w) : Calls Tryd.prog F_legibility_pattern ⟨[.slice l_1 l_1n l_1c]⟩ w R := calls_of_fnV Tryd.func50 (by rw [e_legibility_pattern]; exact h)
def anA_legibility_pattern_1 : Ann := .leaf
def anB_legibility_pattern_1 : Ann := .one (.two (.leaf) (.one (.two (.leaf) (.two (.leaf) (.two (.leaf) (.two (.leaf) (.leaf)))))))
def rf_legibility_pattern_1 (t2_19 : List UInt8) (w_20 : Option Addr) (t6_21 : Fn) (t6_21a : Array Value) (t6_21b : Array Value) (t7_22 : Int) (t7_23 : List UInt8) (t7_24 : Int) (t7_25 : Option Addr) (t7_25n : Nat) (t7_25c : Nat) (t8_26 : Value) (l : Nat) (Kn Kr Kx : World → World → Prop) (w : World) : Prop :=
  al w 37 [.int .i64 0, .string ⟨⟨[]⟩⟩, .int .i64 0, .slice none 0 0] fun p28 w29 =>
  stL w29 p28 0 [.int .i64 t7_22, .string ⟨⟨t7_23⟩⟩, .int .i64 t7_24, .slice t7_25 t7_25n t7_25c] fun w30 =>
  Ext w w30 ∧ ∀ w27 : World, Upd l w30 w27 → (∃ (x31 : Int), World.cell? w27 (p28.add 0) = some (.int .i64 x31) ∧ (br (decide ((x31 : Int) = 1)) (∃ (x32 : List UInt8), World.cell? w27 (p28.add 1) = some (.string ⟨⟨x32⟩⟩) ∧ (Calls Tryd.prog 61 ⟨[.pointer w_20, .string ⟨⟨x32⟩⟩]⟩ w27 fun (e33 : Ending) (w34 : World) =>
  ∃ (x35 : Int) (x36 : Value), e33 = .returned (.tuple ⟨[.int .i64 x35, x36]⟩) ∧ (Kn w27 w34))) (br (decide ((x31 : Int) = 6)) (∃ (x37 : Int), World.cell? w27 (p28.add 2) = some (.int .i64 x37) ∧ (Calls Tryd.prog 40 ⟨[.string ⟨⟨[95]⟩⟩, .int .i64 x37]⟩ w27 fun (e38 : Ending) (w39 : World) =>
  ∃ (x40 : List UInt8), e38 = .returned (.string ⟨⟨x40⟩⟩) ∧ (Calls Tryd.prog 61 ⟨[.pointer w_20, .string ⟨⟨x40⟩⟩]⟩ w39 fun (e41 : Ending) (w42 : World) =>
  ∃ (x43 : Int) (x44 : Value), e41 = .returned (.tuple ⟨[.int .i64 x43, x44]⟩) ∧ (Kn w27 w42)))) (Kn w27 w27))))
set_option maxRecDepth 100000 in
theorem er_legibility_pattern_1 (base : Env) (t2_19 : List UInt8) (w_20 : Option Addr) (t6_21 : Fn) (t6_21a : Array Value) (t6_21b : Array Value) (t7_22 : Int) (t7_23 : List UInt8) (t7_24 : Int) (t7_25 : Option Addr) (t7_25n : Nat) (t7_25c : Nat) (t8_26 : Value) (l : Nat) (Kn Kr Kx : World → World → Prop) (w : World) : fragV Tryd.prog 23 anA_legibility_pattern_1 anB_legibility_pattern_1 (cdAt Tryd.f50 [1, 1, 0, 1, 2, 5]) (cdAt Tryd.f50 [1, 1, 0, 1, 2, 6]) l 0 Kn Kr Kx (updPs [7, 8] [.agg ⟨[.int .i64 t7_22, .string ⟨⟨t7_23⟩⟩, .int .i64 t7_24, .slice t7_25 t7_25n t7_25c]⟩, t8_26] (upd (upd (upd base 6 (.func t6_21 t6_21a t6_21b)) 3 (.pointer w_20)) 2 (.string ⟨⟨t2_19⟩⟩))) w = rf_legibility_pattern_1 t2_19 w_20 t6_21 t6_21a t6_21b t7_22 t7_23 t7_24 t7_25 t7_25n t7_25c t8_26 l Kn Kr Kx w := by kernel_rfl
theorem cd_legibility_pattern_1 : cdAt Tryd.f50 [1, 1, 0, 1, 2] = .rangeFunc (Operand.tmp 6) #[7, 8] (cdAt Tryd.f50 [1, 1, 0, 1, 2, 5]) (cdAt Tryd.f50 [1, 1, 0, 1, 2, 6]) := by kernel_rfl

def an_legibility_written : Ann := .two (.leaf) (.two (.leaf) (.two (.two (.leaf) (.one (.loop 2147483424 [(8, .one (.int .i64))] (.two (.leaf) (.two (.two (.leaf) (.leaf)) (.two (.one (.two (.leaf) (.two (.leaf) (.one (.cut 1835008 [(18, .one (.bool))] (.two (.leaf) (.two (.leaf) (.leaf))) (.two (.leaf) (.two (.leaf) (.two (.leaf) (.leaf))))))))) (.leaf))))))) (.two (.leaf) (.leaf))))
def sh_legibility_written (l_1 : Option Addr) (l_1n : Nat) (l_1c : Nat) (R : Ending → World → Prop) (w : World) : Prop :=
  al w 84 [.pointer none, .slice none 0 0] fun p2 w3 =>
  ∃ (I4 : Int → World → Nat → Prop), (∃ m8 : Nat, I4 0 w3 m8) ∧ ∀ (t8_5 : Int) (w6 : World) (m7 : Nat), I4 t8_5 w6 m7 → ∀ _ : Env, (br (decide ((t8_5 : Int) < ((l_1n : Int)))) (idx l_1 l_1n t8_5 4 fun p9 =>
  ∃ (x10 : Int), World.cell? w6 (p9.add 0) = some (.int .i64 x10) ∧ (∃ (x11 : List UInt8), World.cell? w6 (p9.add 1) = some (.string ⟨⟨x11⟩⟩) ∧ (∃ (x12 : Int), World.cell? w6 (p9.add 2) = some (.int .i64 x12) ∧ (∃ (x13 : Option Addr) (x13n : Nat) (x13c : Nat), World.cell? w6 (p9.add 3) = some (.slice x13 x13n x13c) ∧ (al w6 37 [.int .i64 0, .string ⟨⟨[]⟩⟩, .int .i64 0, .slice none 0 0] fun p14 w15 =>
  stL w15 p14 0 [.int .i64 x10, .string ⟨⟨x11⟩⟩, .int .i64 x12, .slice x13 x13n x13c] fun w16 =>
  ∃ (x17 : Int), World.cell? w16 (p14.add 0) = some (.int .i64 x17) ∧ (∀ (K18 : Bool → World → Prop), (∀ (t18_19 : Bool) (w20 : World), (∀ _ : Env, (br t18_19 (∃ (x21 : List UInt8), World.cell? w20 (p14.add 1) = some (.string ⟨⟨x21⟩⟩) ∧ (Calls Tryd.prog 61 ⟨[.pointer (some p2), .string ⟨⟨x21⟩⟩]⟩ w20 fun (e22 : Ending) (w23 : World) =>
  ∃ (x24 : Int) (x25 : Value), e22 = .returned (.tuple ⟨[.int .i64 x24, x25]⟩) ∧ (∃ m26 : Nat, m26 < m7 ∧ I4 (IntKind.i64.wrap (t8_5 + 1)) w23 m26))) (br (decide ((x17 : Int) = 6)) (∃ (x27 : Int), World.cell? w20 (p14.add 2) = some (.int .i64 x27) ∧ (Calls Tryd.prog 40 ⟨[.string ⟨⟨[95]⟩⟩, .int .i64 x27]⟩ w20 fun (e28 : Ending) (w29 : World) =>
  ∃ (x30 : List UInt8), e28 = .returned (.string ⟨⟨x30⟩⟩) ∧ (Calls Tryd.prog 61 ⟨[.pointer (some p2), .string ⟨⟨x30⟩⟩]⟩ w29 fun (e31 : Ending) (w32 : World) =>
  ∃ (x33 : Int) (x34 : Value), e31 = .returned (.tuple ⟨[.int .i64 x33, x34]⟩) ∧ (∃ m35 : Nat, m35 < m7 ∧ I4 (IntKind.i64.wrap (t8_5 + 1)) w32 m35)))) (∃ (x36 : Option Addr) (x36n : Nat) (x36c : Nat), World.cell? w20 (p14.add 3) = some (.slice x36 x36n x36c) ∧ (Calls Tryd.prog 51 ⟨[.slice x36 x36n x36c]⟩ w20 fun (e37 : Ending) (w38 : World) =>
  ∃ (x39 : List UInt8), e37 = .returned (.string ⟨⟨x39⟩⟩) ∧ (Calls Tryd.prog 61 ⟨[.pointer (some p2), .string ⟨⟨x39⟩⟩]⟩ w38 fun (e40 : Ending) (w41 : World) =>
  ∃ (x42 : Int) (x43 : Value), e40 = .returned (.tuple ⟨[.int .i64 x42, x43]⟩) ∧ (∃ m44 : Nat, m44 < m7 ∧ I4 (IntKind.i64.wrap (t8_5 + 1)) w41 m44))))))) → K18 t18_19 w20) → (br (decide ((x17 : Int) = 1)) (K18 (decide ((x17 : Int) = 1)) w16) (K18 (decide ((x17 : Int) = 10)) w16)))))))) (Calls Tryd.prog 62 ⟨[.pointer (some p2)]⟩ w6 fun (e45 : Ending) (w46 : World) =>
  ∃ (x47 : List UInt8), e45 = .returned (.string ⟨⟨x47⟩⟩) ∧ (R (.returned (.string ⟨⟨x47⟩⟩)) w46)))
set_option maxRecDepth 100000 in
theorem e_legibility_written (l_1 : Option Addr) (l_1n : Nat) (l_1c : Nat) (R : Ending → World → Prop) (w : World) : fnV Tryd.prog Tryd.f51 an_legibility_written [.slice l_1 l_1n l_1c] R w = sh_legibility_written l_1 l_1n l_1c R w := by kernel_rfl
theorem c_legibility_written {l_1 : Option Addr} {l_1n : Nat} {l_1c : Nat} {R : Ending → World → Prop} {w : World} (h : sh_legibility_written l_1 l_1n l_1c R w) : Calls Tryd.prog F_legibility_written ⟨[.slice l_1 l_1n l_1c]⟩ w R := calls_of_fnV Tryd.func51 (by rw [e_legibility_written]; exact h)

def an_transcript_places : Ann := .two (.leaf) (.two (.leaf) (.leaf))
def sh_transcript_places (l_1 : Option Addr) (l_1n : Nat) (l_1c : Nat) (R : Ending → World → Prop) (w : World) : Prop :=
  al w 22 [.slice l_1 l_1n l_1c] fun p2 w3 =>
  R (.returned (.func (.func 85) ⟨[]⟩ ⟨[.pointer (some p2)]⟩)) w3
set_option maxRecDepth 100000 in
theorem e_transcript_places (l_1 : Option Addr) (l_1n : Nat) (l_1c : Nat) (R : Ending → World → Prop) (w : World) : fnV Tryd.prog Tryd.f52 an_transcript_places [.slice l_1 l_1n l_1c] R w = sh_transcript_places l_1 l_1n l_1c R w := by kernel_rfl
theorem c_transcript_places {l_1 : Option Addr} {l_1n : Nat} {l_1c : Nat} {R : Ending → World → Prop} {w : World} (h : sh_transcript_places l_1 l_1n l_1c R w) : Calls Tryd.prog F_transcript_places ⟨[.slice l_1 l_1n l_1c]⟩ w R := calls_of_fnV Tryd.func52 (by rw [e_transcript_places]; exact h)

def an_ref12_check : Ann := .two (.leaf) (.two (.two (.leaf) (.two (.two (.leaf) (.leaf)) (.leaf))) (.two (.two (.leaf) (.two (.two (.leaf) (.leaf)) (.leaf))) (.two (.leaf) (.leaf))))
def sh_ref12_check (l_1 : Option Addr) (l_1n : Nat) (l_1c : Nat) (R : Ending → World → Prop) (w : World) : Prop :=
  Calls Tryd.prog 87 ⟨[.slice l_1 l_1n l_1c]⟩ w fun (e2 : Ending) (w3 : World) =>
  ∃ (x4 : Int), e2 = .returned (.int .i64 x4) ∧ (br (decide ((x4 : Int) ≠ 0)) (R (.returned (.int .i64 1)) w3) (Calls Tryd.prog 88 ⟨[.slice l_1 l_1n l_1c]⟩ w3 fun (e5 : Ending) (w6 : World) =>
  ∃ (x7 : Bool), e5 = .returned (.bool x7) ∧ (br (!x7) (R (.returned (.int .i64 13)) w6) (R (.returned (.int .i64 0)) w6))))
set_option maxRecDepth 100000 in
theorem e_ref12_check (l_1 : Option Addr) (l_1n : Nat) (l_1c : Nat) (R : Ending → World → Prop) (w : World) : fnV Tryd.prog Tryd.f54 an_ref12_check [.slice l_1 l_1n l_1c] R w = sh_ref12_check l_1 l_1n l_1c R w := by kernel_rfl
theorem c_ref12_check {l_1 : Option Addr} {l_1n : Nat} {l_1c : Nat} {R : Ending → World → Prop} {w : World} (h : sh_ref12_check l_1 l_1n l_1c R w) : Calls Tryd.prog F_ref12_check ⟨[.slice l_1 l_1n l_1c]⟩ w R := calls_of_fnV Tryd.func54 (by rw [e_ref12_check]; exact h)

def an_ref12_pattern : Ann := .two (.leaf) (.two (.leaf) (.two (.two (.leaf) (.one (.loop 70368744177656 [(3, .one (.str)), (4, .one (.int .i64))] (.two (.two (.leaf) (.two (.leaf) (.leaf))) (.two (.one (.cut 16775176 [(3, .one (.str))] (.two (.leaf) (.two (.leaf) (.leaf))) (.cut 274861129736 [(3, .one (.str))] (.two (.leaf) (.two (.leaf) (.leaf))) (.leaf)))) (.leaf)))))) (.two (.leaf) (.leaf))))
def sh_ref12_pattern (l_1 : Option Addr) (l_1n : Nat) (l_1c : Nat) (R : Ending → World → Prop) (w : World) : Prop :=
  ∃ (I2 : List UInt8 → Int → World → Nat → Prop), (∃ m7 : Nat, I2 ([]) 0 w m7) ∧ ∀ (out_3 : List UInt8) (i_4 : Int) (w5 : World) (m6 : Nat), I2 out_3 i_4 w5 m6 → ∀ _ : Env, (br (decide ((i_4 : Int) < ((l_1n : Int)))) (∀ (K8 : List UInt8 → World → Prop), (∀ (out_9 : List UInt8) (w10 : World), (∀ _ : Env, (∀ (K11 : List UInt8 → World → Prop), (∀ (out_12 : List UInt8) (w13 : World), (∀ _ : Env, (idx l_1 l_1n i_4 4 fun p14 =>
  ∃ (x15 : Option Addr) (x15n : Nat) (x15c : Nat), World.cell? w13 (p14.add 3) = some (.slice x15 x15n x15c) ∧ (Calls Tryd.prog 55 ⟨[.slice x15 x15n x15c]⟩ w13 fun (e16 : Ending) (w17 : World) =>
  ∃ (x18 : List UInt8), e16 = .returned (.string ⟨⟨x18⟩⟩) ∧ (sadd out_12 x18 fun s19 =>
  ∃ m20 : Nat, m20 < m6 ∧ I2 s19 (IntKind.i64.wrap (i_4 + 1)) w17 m20)))) → K11 out_12 w13) → (idx l_1 l_1n i_4 4 fun p21 =>
  ∃ (x22 : Int), World.cell? w10 (p21.add 0) = some (.int .i64 x22) ∧ (br (decide ((x22 : Int) = 6)) (idx l_1 l_1n i_4 4 fun p23 =>
  ∃ (x24 : Int), World.cell? w10 (p23.add 2) = some (.int .i64 x24) ∧ (Calls Tryd.prog 89 ⟨[.int .i64 x24]⟩ w10 fun (e25 : Ending) (w26 : World) =>
  ∃ (x27 : List UInt8), e25 = .returned (.string ⟨⟨x27⟩⟩) ∧ (sadd out_9 x27 fun s28 =>
  K11 s28 w26))) (K11 out_9 w10))))) → K8 out_9 w10) → (idx l_1 l_1n i_4 4 fun p29 =>
  ∃ (x30 : Int), World.cell? w5 (p29.add 0) = some (.int .i64 x30) ∧ (br (decide ((x30 : Int) = 1)) (idx l_1 l_1n i_4 4 fun p31 =>
  ∃ (x32 : List UInt8), World.cell? w5 (p31.add 1) = some (.string ⟨⟨x32⟩⟩) ∧ (sadd out_3 x32 fun s33 =>
  K8 s33 w5)) (K8 out_3 w5)))) (R (.returned (.string ⟨⟨out_3⟩⟩)) w5))
set_option maxRecDepth 100000 in
theorem e_ref12_pattern (l_1 : Option Addr) (l_1n : Nat) (l_1c : Nat) (R : Ending → World → Prop) (w : World) : fnV Tryd.prog Tryd.f55 an_ref12_pattern [.slice l_1 l_1n l_1c] R w = sh_ref12_pattern l_1 l_1n l_1c R w := by kernel_rfl
theorem c_ref12_pattern {l_1 : Option Addr} {l_1n : Nat} {l_1c : Nat} {R : Ending → World → Prop} {w : World} (h : sh_ref12_pattern l_1 l_1n l_1c R w) : Calls Tryd.prog F_ref12_pattern ⟨[.slice l_1 l_1n l_1c]⟩ w R := calls_of_fnV Tryd.func55 (by rw [e_ref12_pattern]; exact h)

def an_ref12_written : Ann := .two (.leaf) (.two (.leaf) (.two (.two (.leaf) (.one (.loop 1152921504606846968 [(3, .one (.str)), (4, .one (.int .i64))] (.two (.two (.leaf) (.two (.leaf) (.leaf))) (.two (.one (.cut 4294965256 [(3, .one (.str))] (.cut 33552384 [(24, .one (.bool))] (.leaf) (.two (.leaf) (.leaf))) (.cut 70364449210376 [(3, .one (.str))] (.two (.leaf) (.two (.leaf) (.leaf))) (.two (.leaf) (.two (.leaf) (.leaf)))))) (.leaf)))))) (.two (.leaf) (.leaf))))
def sh_ref12_written (l_1 : Option Addr) (l_1n : Nat) (l_1c : Nat) (R : Ending → World → Prop) (w : World) : Prop :=
  ∃ (I2 : List UInt8 → Int → World → Nat → Prop), (∃ m7 : Nat, I2 ([]) 0 w m7) ∧ ∀ (out_3 : List UInt8) (i_4 : Int) (w5 : World) (m6 : Nat), I2 out_3 i_4 w5 m6 → ∀ _ : Env, (br (decide ((i_4 : Int) < ((l_1n : Int)))) (∀ (K8 : List UInt8 → World → Prop), (∀ (out_9 : List UInt8) (w10 : World), (∀ _ : Env, (∀ (K11 : List UInt8 → World → Prop), (∀ (out_12 : List UInt8) (w13 : World), (∀ _ : Env, (idx l_1 l_1n i_4 4 fun p14 =>
  ∃ (x15 : Int), World.cell? w13 (p14.add 0) = some (.int .i64 x15) ∧ (br (decide ((x15 : Int) ≠ 10)) (idx l_1 l_1n i_4 4 fun p16 =>
  ∃ (x17 : Option Addr) (x17n : Nat) (x17c : Nat), World.cell? w13 (p16.add 3) = some (.slice x17 x17n x17c) ∧ (Calls Tryd.prog 56 ⟨[.slice x17 x17n x17c]⟩ w13 fun (e18 : Ending) (w19 : World) =>
  ∃ (x20 : List UInt8), e18 = .returned (.string ⟨⟨x20⟩⟩) ∧ (sadd out_12 x20 fun s21 =>
  ∃ m22 : Nat, m22 < m6 ∧ I2 s21 (IntKind.i64.wrap (i_4 + 1)) w19 m22))) (∃ m23 : Nat, m23 < m6 ∧ I2 out_12 (IntKind.i64.wrap (i_4 + 1)) w13 m23)))) → K11 out_12 w13) → (idx l_1 l_1n i_4 4 fun p24 =>
  ∃ (x25 : Int), World.cell? w10 (p24.add 0) = some (.int .i64 x25) ∧ (br (decide ((x25 : Int) = 6)) (idx l_1 l_1n i_4 4 fun p26 =>
  ∃ (x27 : Int), World.cell? w10 (p26.add 2) = some (.int .i64 x27) ∧ (Calls Tryd.prog 89 ⟨[.int .i64 x27]⟩ w10 fun (e28 : Ending) (w29 : World) =>
  ∃ (x30 : List UInt8), e28 = .returned (.string ⟨⟨x30⟩⟩) ∧ (sadd out_9 x30 fun s31 =>
  K11 s31 w29))) (K11 out_9 w10))))) → K8 out_9 w10) → (∀ (K32 : Bool → World → Prop), (∀ (t24_33 : Bool) (w34 : World), (∀ _ : Env, (br t24_33 (idx l_1 l_1n i_4 4 fun p35 =>
  ∃ (x36 : List UInt8), World.cell? w34 (p35.add 1) = some (.string ⟨⟨x36⟩⟩) ∧ (sadd out_3 x36 fun s37 =>
  K8 s37 w34)) (K8 out_3 w34))) → K32 t24_33 w34) → (idx l_1 l_1n i_4 4 fun p38 =>
  ∃ (x39 : Int), World.cell? w5 (p38.add 0) = some (.int .i64 x39) ∧ (br (decide ((x39 : Int) = 1)) (K32 true w5) (idx l_1 l_1n i_4 4 fun p40 =>
  ∃ (x41 : Int), World.cell? w5 (p40.add 0) = some (.int .i64 x41) ∧ (K32 (decide ((x41 : Int) = 10)) w5)))))) (R (.returned (.string ⟨⟨out_3⟩⟩)) w5))
set_option maxRecDepth 100000 in
theorem e_ref12_written (l_1 : Option Addr) (l_1n : Nat) (l_1c : Nat) (R : Ending → World → Prop) (w : World) : fnV Tryd.prog Tryd.f56 an_ref12_written [.slice l_1 l_1n l_1c] R w = sh_ref12_written l_1 l_1n l_1c R w := by kernel_rfl
theorem c_ref12_written {l_1 : Option Addr} {l_1n : Nat} {l_1c : Nat} {R : Ending → World → Prop} {w : World} (h : sh_ref12_written l_1 l_1n l_1c R w) : Calls Tryd.prog F_ref12_written ⟨[.slice l_1 l_1n l_1c]⟩ w R := calls_of_fnV Tryd.func56 (by rw [e_ref12_written]; exact h)

def an_legibility_all : Ann := .two (.leaf) (.two (.leaf) (.leaf))
def sh_legibility_all (l_1 : Option Addr) (l_1n : Nat) (l_1c : Nat) (R : Ending → World → Prop) (w : World) : Prop :=
  al w 22 [.slice l_1 l_1n l_1c] fun p2 w3 =>
  R (.returned (.func (.func 90) ⟨[]⟩ ⟨[.pointer (some p2)]⟩)) w3
set_option maxRecDepth 100000 in
theorem e_legibility_all (l_1 : Option Addr) (l_1n : Nat) (l_1c : Nat) (R : Ending → World → Prop) (w : World) : fnV Tryd.prog Tryd.f57 an_legibility_all [.slice l_1 l_1n l_1c] R w = sh_legibility_all l_1 l_1n l_1c R w := by kernel_rfl
theorem c_legibility_all {l_1 : Option Addr} {l_1n : Nat} {l_1c : Nat} {R : Ending → World → Prop} {w : World} (h : sh_legibility_all l_1 l_1n l_1c R w) : Calls Tryd.prog F_legibility_all ⟨[.slice l_1 l_1n l_1c]⟩ w R := calls_of_fnV Tryd.func57 (by rw [e_legibility_all]; exact h)

def an_ref12_gaps : Ann := .two (.leaf) (.two (.leaf) (.two (.two (.leaf) (.one (.loop 17179869144 [(3, .one (.slice)), (4, .one (.int .i64))] (.two (.two (.leaf) (.two (.leaf) (.leaf))) (.two (.one (.cut 67104776 [(3, .one (.slice))] (.two (.leaf) (.two (.leaf) (.leaf))) (.leaf))) (.leaf)))))) (.two (.leaf) (.leaf))))
def sh_ref12_gaps (l_1 : Option Addr) (l_1n : Nat) (l_1c : Nat) (R : Ending → World → Prop) (w : World) : Prop :=
  al w 3 [] fun p2 w3 =>
  ∃ (I4 : Option Addr → Nat → Nat → Int → World → Nat → Prop), (∃ m9 : Nat, I4 (some p2) 0 0 0 w3 m9) ∧ ∀ (out_5 : Option Addr) (out_5n : Nat) (out_5c : Nat) (i_6 : Int) (w7 : World) (m8 : Nat), I4 out_5 out_5n out_5c i_6 w7 m8 → ∀ _ : Env, (br (decide ((i_6 : Int) < ((l_1n : Int)))) (∀ (K10 : Option Addr → Nat → Nat → World → Prop), (∀ (out_11 : Option Addr) (out_11n : Nat) (out_11c : Nat) (w12 : World), (∀ _ : Env, (idx l_1 l_1n i_6 4 fun p13 =>
  ∃ (x14 : Option Addr) (x14n : Nat) (x14c : Nat), World.cell? w12 (p13.add 3) = some (.slice x14 x14n x14c) ∧ (Calls Tryd.prog 58 ⟨[.slice x14 x14n x14c]⟩ w12 fun (e15 : Ending) (w16 : World) =>
  ∃ (x17 : Option Addr) (x17n : Nat) (x17c : Nat), e15 = .returned (.slice x17 x17n x17c) ∧ (app Tryd.prog [76, 76] 76 (.slice out_11 out_11n out_11c) (.slice x17 x17n x17c) w16 fun a18 a18n a18c w19 =>
  ∃ m20 : Nat, m20 < m8 ∧ I4 a18 a18n a18c (IntKind.i64.wrap (i_6 + 1)) w19 m20)))) → K10 out_11 out_11n out_11c w12) → (idx l_1 l_1n i_6 4 fun p21 =>
  ∃ (x22 : Int), World.cell? w7 (p21.add 0) = some (.int .i64 x22) ∧ (br (decide ((x22 : Int) = 6)) (idx l_1 l_1n i_6 4 fun p23 =>
  ∃ (x24 : Int), World.cell? w7 (p23.add 2) = some (.int .i64 x24) ∧ (al w7 3 [.int .i64 x24] fun p25 w26 =>
  app Tryd.prog [76, 76] 76 (.slice out_5 out_5n out_5c) (.slice (some p25) 1 1) w26 fun a27 a27n a27c w28 =>
  K10 a27 a27n a27c w28)) (K10 out_5 out_5n out_5c w7)))) (R (.returned (.slice out_5 out_5n out_5c)) w7))
set_option maxRecDepth 100000 in
theorem e_ref12_gaps (l_1 : Option Addr) (l_1n : Nat) (l_1c : Nat) (R : Ending → World → Prop) (w : World) : fnV Tryd.prog Tryd.f58 an_ref12_gaps [.slice l_1 l_1n l_1c] R w = sh_ref12_gaps l_1 l_1n l_1c R w := by kernel_rfl
theorem c_ref12_gaps {l_1 : Option Addr} {l_1n : Nat} {l_1c : Nat} {R : Ending → World → Prop} {w : World} (h : sh_ref12_gaps l_1 l_1n l_1c R w) : Calls Tryd.prog F_ref12_gaps ⟨[.slice l_1 l_1n l_1c]⟩ w R := calls_of_fnV Tryd.func58 (by rw [e_ref12_gaps]; exact h)

def an_ref12_unclear : Ann := .two (.leaf) (.two (.leaf) (.two (.two (.leaf) (.one (.loop 140737488355296 [(5, .one (.int .i64)), (6, .one (.int .i64))] (.two (.two (.leaf) (.two (.leaf) (.leaf))) (.two (.one (.cut 1073733664 [(5, .one (.int .i64))] (.cut 4186112 [(21, .one (.bool))] (.leaf) (.two (.leaf) (.leaf))) (.leaf))) (.leaf)))))) (.two (.leaf) (.leaf))))
def sh_ref12_unclear (l_1 : Option Addr) (l_1n : Nat) (l_1c : Nat) (within_2 : Bool) (R : Ending → World → Prop) (w : World) : Prop :=
  ∃ (I3 : Int → Int → World → Nat → Prop), (∃ m8 : Nat, I3 0 0 w m8) ∧ ∀ (n_4 : Int) (i_5 : Int) (w6 : World) (m7 : Nat), I3 n_4 i_5 w6 m7 → ∀ _ : Env, (br (decide ((i_5 : Int) < ((l_1n : Int)))) (∀ (K9 : Int → World → Prop), (∀ (n_10 : Int) (w11 : World), (∀ _ : Env, (drw w11 fun w12 =>
  idx l_1 l_1n i_5 4 fun p13 =>
  ∃ (x14 : Option Addr) (x14n : Nat) (x14c : Nat), World.cell? w12 (p13.add 3) = some (.slice x14 x14n x14c) ∧ (br within_2 ((Calls Tryd.prog 59 ⟨[.slice x14 x14n x14c, .bool true]⟩ w12 fun (e15 : Ending) (w16 : World) =>
  ∃ (x17 : Int), e15 = .returned (.int .i64 x17) ∧ (∃ m18 : Nat, m18 < m7 ∧ I3 (IntKind.i64.wrap (n_10 + x17)) (IntKind.i64.wrap (i_5 + 1)) w16 m18)) ∧ True) (idx l_1 l_1n i_5 4 fun p19 =>
  ∃ (x20 : Int), World.cell? w12 (p19.add 0) = some (.int .i64 x20) ∧ ((Calls Tryd.prog 59 ⟨[.slice x14 x14n x14c, .bool (decide ((x20 : Int) = 7))]⟩ w12 fun (e21 : Ending) (w22 : World) =>
  ∃ (x23 : Int), e21 = .returned (.int .i64 x23) ∧ (∃ m24 : Nat, m24 < m7 ∧ I3 (IntKind.i64.wrap (n_10 + x23)) (IntKind.i64.wrap (i_5 + 1)) w22 m24)) ∧ True))))) → K9 n_10 w11) → (∀ (K25 : Bool → World → Prop), (∀ (t21_26 : Bool) (w27 : World), (∀ _ : Env, (br t21_26 (idx l_1 l_1n i_5 4 fun p28 =>
  ∃ (x29 : List UInt8), World.cell? w27 (p28.add 1) = some (.string ⟨⟨x29⟩⟩) ∧ (K9 (IntKind.i64.wrap (n_4 + ((List.length x29 : Int)))) w27)) (K9 n_4 w27))) → K25 t21_26 w27) → (br within_2 (idx l_1 l_1n i_5 4 fun p30 =>
  ∃ (x31 : Int), World.cell? w6 (p30.add 0) = some (.int .i64 x31) ∧ (K25 (decide ((x31 : Int) = 1)) w6)) (K25 false w6)))) (R (.returned (.int .i64 n_4)) w6))
set_option maxRecDepth 100000 in
theorem e_ref12_unclear (l_1 : Option Addr) (l_1n : Nat) (l_1c : Nat) (within_2 : Bool) (R : Ending → World → Prop) (w : World) : fnV Tryd.prog Tryd.f59 an_ref12_unclear [.slice l_1 l_1n l_1c, .bool within_2] R w = sh_ref12_unclear l_1 l_1n l_1c within_2 R w := by kernel_rfl
theorem c_ref12_unclear {l_1 : Option Addr} {l_1n : Nat} {l_1c : Nat} {within_2 : Bool} {R : Ending → World → Prop} {w : World} (h : sh_ref12_unclear l_1 l_1n l_1c within_2 R w) : Calls Tryd.prog F_ref12_unclear ⟨[.slice l_1 l_1n l_1c, .bool within_2]⟩ w R := calls_of_fnV Tryd.func59 (by rw [e_ref12_unclear]; exact h)

def an_ref12_pairs : Ann := .two (.leaf) (.two (.leaf) (.two (.two (.leaf) (.one (.loop 2199023255512 [(3, .one (.slice)), (4, .one (.int .i64))] (.two (.two (.leaf) (.two (.leaf) (.leaf))) (.two (.one (.cut 8589930504 [(3, .one (.slice))] (.two (.leaf) (.two (.one (.leaf)) (.leaf))) (.leaf))) (.leaf)))))) (.two (.leaf) (.leaf))))
def sh_ref12_pairs (l_1 : Option Addr) (l_1n : Nat) (l_1c : Nat) (R : Ending → World → Prop) (w : World) : Prop :=
  al w 42 [] fun p2 w3 =>
  ∃ (I4 : Option Addr → Nat → Nat → Int → World → Nat → Prop), (∃ m9 : Nat, I4 (some p2) 0 0 0 w3 m9) ∧ ∀ (out_5 : Option Addr) (out_5n : Nat) (out_5c : Nat) (i_6 : Int) (w7 : World) (m8 : Nat), I4 out_5 out_5n out_5c i_6 w7 m8 → ∀ _ : Env, (br (decide ((i_6 : Int) < ((l_1n : Int)))) (∀ (K10 : Option Addr → Nat → Nat → World → Prop), (∀ (out_11 : Option Addr) (out_11n : Nat) (out_11c : Nat) (w12 : World), (∀ _ : Env, (idx l_1 l_1n i_6 4 fun p13 =>
  ∃ (x14 : Option Addr) (x14n : Nat) (x14c : Nat), World.cell? w12 (p13.add 3) = some (.slice x14 x14n x14c) ∧ (Calls Tryd.prog 60 ⟨[.slice x14 x14n x14c]⟩ w12 fun (e15 : Ending) (w16 : World) =>
  ∃ (x17 : Option Addr) (x17n : Nat) (x17c : Nat), e15 = .returned (.slice x17 x17n x17c) ∧ (app Tryd.prog [32, 32] 32 (.slice out_11 out_11n out_11c) (.slice x17 x17n x17c) w16 fun a18 a18n a18c w19 =>
  ∃ m20 : Nat, m20 < m8 ∧ I4 a18 a18n a18c (IntKind.i64.wrap (i_6 + 1)) w19 m20)))) → K10 out_11 out_11n out_11c w12) → (idx l_1 l_1n i_6 4 fun p21 =>
  ∃ (x22 : Int), World.cell? w7 (p21.add 0) = some (.int .i64 x22) ∧ (br (decide ((x22 : Int) = 10)) (drw w7 fun w23 =>
  idx l_1 l_1n i_6 4 fun p24 =>
  idx l_1 l_1n i_6 4 fun p25 =>
  ∃ (x26 : Option Addr) (x26n : Nat) (x26c : Nat), World.cell? w23 (p25.add 3) = some (.slice x26 x26n x26c) ∧ ((∃ (x27 : List UInt8), World.cell? w23 (p24.add 1) = some (.string ⟨⟨x27⟩⟩) ∧ ((Calls Tryd.prog 55 ⟨[.slice x26 x26n x26c]⟩ w23 fun (e28 : Ending) (w29 : World) =>
  ∃ (x30 : List UInt8), e28 = .returned (.string ⟨⟨x30⟩⟩) ∧ ((al w29 42 [.string ⟨⟨x27⟩⟩, .string ⟨⟨x30⟩⟩] fun p31 w32 =>
  (app Tryd.prog [32, 32] 32 (.slice out_5 out_5n out_5c) (.slice (some p31) 1 1) w32 fun a33 a33n a33c w34 =>
  K10 a33 a33n a33c w34) ∧ True) ∧ True)) ∧ True)) ∧ (Calls Tryd.prog 55 ⟨[.slice x26 x26n x26c]⟩ w23 fun (e35 : Ending) (w36 : World) =>
  ∃ (x37 : List UInt8), e35 = .returned (.string ⟨⟨x37⟩⟩) ∧ (∃ (x38 : List UInt8), World.cell? w36 (p24.add 1) = some (.string ⟨⟨x38⟩⟩) ∧ ((al w36 42 [.string ⟨⟨x38⟩⟩, .string ⟨⟨x37⟩⟩] fun p39 w40 =>
  (app Tryd.prog [32, 32] 32 (.slice out_5 out_5n out_5c) (.slice (some p39) 1 1) w40 fun a41 a41n a41c w42 =>
  K10 a41 a41n a41c w42) ∧ True) ∧ True))) ∧ True)) (K10 out_5 out_5n out_5c w7)))) (R (.returned (.slice out_5 out_5n out_5c)) w7))
set_option maxRecDepth 100000 in
theorem e_ref12_pairs (l_1 : Option Addr) (l_1n : Nat) (l_1c : Nat) (R : Ending → World → Prop) (w : World) : fnV Tryd.prog Tryd.f60 an_ref12_pairs [.slice l_1 l_1n l_1c] R w = sh_ref12_pairs l_1 l_1n l_1c R w := by kernel_rfl
theorem c_ref12_pairs {l_1 : Option Addr} {l_1n : Nat} {l_1c : Nat} {R : Ending → World → Prop} {w : World} (h : sh_ref12_pairs l_1 l_1n l_1c R w) : Calls Tryd.prog F_ref12_pairs ⟨[.slice l_1 l_1n l_1c]⟩ w R := calls_of_fnV Tryd.func60 (by rw [e_ref12_pairs]; exact h)

def an_strings_Builder_WriteString : Ann := .two (.leaf) (.two (.leaf) (.two (.leaf) (.two (.leaf) (.leaf))))
def sh_strings_Builder_WriteString (b_1 : Option Addr) (s_2 : List UInt8) (R : Ending → World → Prop) (w : World) : Prop :=
  Calls Tryd.prog 92 ⟨[.pointer b_1]⟩ w fun (e3 : Ending) (w4 : World) =>
  e3 = .returned (.tuple ⟨[]⟩) ∧ (dr b_1 fun p5 =>
  ∃ (x6 : Option Addr) (x6n : Nat) (x6c : Nat), World.cell? w4 (p5.add 1) = some (.slice x6 x6n x6c) ∧ (app Tryd.prog [82, 9] 82 (.slice x6 x6n x6c) (.string ⟨⟨s_2⟩⟩) w4 fun a7 a7n a7c w8 =>
  dr b_1 fun p9 =>
  stL w8 (p9.add 1) 0 [.slice a7 a7n a7c] fun w10 =>
  R (.returned (.tuple ⟨[.int .i64 ((List.length s_2 : Int)), .nilIface]⟩)) w10))
set_option maxRecDepth 100000 in
theorem e_strings_Builder_WriteString (b_1 : Option Addr) (s_2 : List UInt8) (R : Ending → World → Prop) (w : World) : fnV Tryd.prog Tryd.f61 an_strings_Builder_WriteString [.pointer b_1, .string ⟨⟨s_2⟩⟩] R w = sh_strings_Builder_WriteString b_1 s_2 R w := by kernel_rfl
theorem c_strings_Builder_WriteString {b_1 : Option Addr} {s_2 : List UInt8} {R : Ending → World → Prop} {w : World} (h : sh_strings_Builder_WriteString b_1 s_2 R w) : Calls Tryd.prog F_strings_Builder_WriteString ⟨[.pointer b_1, .string ⟨⟨s_2⟩⟩]⟩ w R := calls_of_fnV Tryd.func61 (by rw [e_strings_Builder_WriteString]; exact h)

def an_slices_DeleteFunc_of_string_string : Ann := .two (.leaf) (.two (.leaf) (.two (.two (.leaf) (.two (.two (.leaf) (.leaf)) (.leaf))) (.two (.two (.leaf) (.one (.loop 68719411424 [(5, .one (.int .i64)), (6, .one (.int .i64))] (.two (.two (.leaf) (.two (.leaf) (.leaf))) (.two (.one (.two (.leaf) (.two (.leaf) (.two (.two (.leaf) (.leaf)) (.leaf))))) (.leaf)))))) (.two (.leaf) (.two (.leaf) (.leaf))))))
def sh_slices_DeleteFunc_of_string_string (s_1 : Option Addr) (s_1n : Nat) (s_1c : Nat) (del_2 : Fn) (del_2a : Array Value) (del_2b : Array Value) (R : Ending → World → Prop) (w : World) : Prop :=
  Calls Tryd.prog 75 ⟨[.slice s_1 s_1n s_1c, .func del_2 del_2a del_2b]⟩ w fun (e3 : Ending) (w4 : World) =>
  ∃ (x5 : Int), e3 = .returned (.int .i64 x5) ∧ (br (decide ((x5 : Int) = ((-1)))) (R (.returned (.slice s_1 s_1n s_1c)) w4) (∃ (I6 : Int → Int → World → Nat → Prop), (∃ m11 : Nat, I6 x5 (IntKind.i64.wrap (x5 + 1)) w4 m11) ∧ ∀ (i_7 : Int) (j_8 : Int) (w9 : World) (m10 : Nat), I6 i_7 j_8 w9 m10 → ∀ _ : Env, (br (decide ((j_8 : Int) < ((s_1n : Int)))) (idx s_1 s_1n j_8 1 fun p12 =>
  ∃ (x13 : List UInt8), World.cell? w9 p12 = some (.string ⟨⟨x13⟩⟩) ∧ (CallV Tryd.prog (.func del_2 del_2a del_2b) [.string ⟨⟨x13⟩⟩] w9 fun (e14 : Ending) (w15 : World) =>
  ∃ (x16 : Bool), e14 = .returned (.bool x16) ∧ (br (!x16) (idx s_1 s_1n i_7 1 fun p17 =>
  stL w15 p17 0 [.string ⟨⟨x13⟩⟩] fun w18 =>
  ∃ m19 : Nat, m19 < m10 ∧ I6 (IntKind.i64.wrap (i_7 + 1)) (IntKind.i64.wrap (j_8 + 1)) w18 m19) (∃ m20 : Nat, m20 < m10 ∧ I6 i_7 (IntKind.i64.wrap (j_8 + 1)) w15 m20)))) (sls s_1 s_1c i_7 (s_1n : Int) 1 fun a21 a21n a21c =>
  clr Tryd.prog [38] 0 [.slice a21 a21n a21c] w9 fun w22 =>
  sls s_1 s_1c 0 i_7 1 fun a23 a23n a23c =>
  R (.returned (.slice a23 a23n a23c)) w22))))
set_option maxRecDepth 100000 in
theorem e_slices_DeleteFunc_of_string_string (s_1 : Option Addr) (s_1n : Nat) (s_1c : Nat) (del_2 : Fn) (del_2a : Array Value) (del_2b : Array Value) (R : Ending → World → Prop) (w : World) : fnV Tryd.prog Tryd.f63 an_slices_DeleteFunc_of_string_string [.slice s_1 s_1n s_1c, .func del_2 del_2a del_2b] R w = sh_slices_DeleteFunc_of_string_string s_1 s_1n s_1c del_2 del_2a del_2b R w := by kernel_rfl
theorem c_slices_DeleteFunc_of_string_string {s_1 : Option Addr} {s_1n : Nat} {s_1c : Nat} {del_2 : Fn} {del_2a : Array Value} {del_2b : Array Value} {R : Ending → World → Prop} {w : World} (h : sh_slices_DeleteFunc_of_string_string s_1 s_1n s_1c del_2 del_2a del_2b R w) : Calls Tryd.prog F_slices_DeleteFunc_of_string_string ⟨[.slice s_1 s_1n s_1c, .func del_2 del_2a del_2b]⟩ w R := calls_of_fnV Tryd.func63 (by rw [e_slices_DeleteFunc_of_string_string]; exact h)

def an_legibility_Conflicts_1 : Ann := .two (.leaf) (.two (.leaf) (.leaf))
def sh_legibility_Conflicts_1 (s_1 : List UInt8) (t1_2 : Option Addr) (R : Ending → World → Prop) (w : World) : Prop :=
  dr t1_2 fun p3 =>
  ∃ (x4 : Value), World.cell? w p3 = some (x4) ∧ (∃ (x5 : Bool), lkAt Tryd.prog 91 x4 (.string ⟨⟨s_1⟩⟩) w (.bool x5) ∧ (R (.returned (.bool (!x5))) w))
set_option maxRecDepth 100000 in
theorem e_legibility_Conflicts_1 (s_1 : List UInt8) (t1_2 : Option Addr) (R : Ending → World → Prop) (w : World) : fnV Tryd.prog Tryd.f64 an_legibility_Conflicts_1 [.string ⟨⟨s_1⟩⟩, .pointer t1_2] R w = sh_legibility_Conflicts_1 s_1 t1_2 R w := by kernel_rfl
theorem c_legibility_Conflicts_1 {s_1 : List UInt8} {t1_2 : Option Addr} {R : Ending → World → Prop} {w : World} (h : sh_legibility_Conflicts_1 s_1 t1_2 R w) : Calls Tryd.prog F_legibility_Conflicts_1 ⟨[.string ⟨⟨s_1⟩⟩, .pointer t1_2]⟩ w R := calls_of_fnV Tryd.func64 (by rw [e_legibility_Conflicts_1]; exact h)

def an_slices_Index_of_string_string : Ann := .two (.leaf) (.two (.two (.leaf) (.one (.loop 524080 [(8, .one (.int .i64))] (.two (.leaf) (.two (.two (.leaf) (.leaf)) (.two (.one (.two (.leaf) (.two (.leaf) (.two (.two (.leaf) (.leaf)) (.leaf))))) (.leaf))))))) (.two (.leaf) (.leaf)))
def sh_slices_Index_of_string_string (s_1 : Option Addr) (s_1n : Nat) (s_1c : Nat) (v_2 : List UInt8) (R : Ending → World → Prop) (w : World) : Prop :=
  ∃ (I3 : Int → World → Nat → Prop), (∃ m7 : Nat, I3 0 w m7) ∧ ∀ (t8_4 : Int) (w5 : World) (m6 : Nat), I3 t8_4 w5 m6 → ∀ _ : Env, (br (decide ((t8_4 : Int) < ((s_1n : Int)))) (idx s_1 s_1n t8_4 1 fun p8 =>
  ∃ (x9 : List UInt8), World.cell? w5 p8 = some (.string ⟨⟨x9⟩⟩) ∧ (br (decide ((v_2 : List UInt8) = x9)) (R (.returned (.int .i64 t8_4)) w5) (∃ m10 : Nat, m10 < m6 ∧ I3 (IntKind.i64.wrap (t8_4 + 1)) w5 m10))) (R (.returned (.int .i64 ((-1)))) w5))
set_option maxRecDepth 100000 in
theorem e_slices_Index_of_string_string (s_1 : Option Addr) (s_1n : Nat) (s_1c : Nat) (v_2 : List UInt8) (R : Ending → World → Prop) (w : World) : fnV Tryd.prog Tryd.f65 an_slices_Index_of_string_string [.slice s_1 s_1n s_1c, .string ⟨⟨v_2⟩⟩] R w = sh_slices_Index_of_string_string s_1 s_1n s_1c v_2 R w := by kernel_rfl
theorem c_slices_Index_of_string_string {s_1 : Option Addr} {s_1n : Nat} {s_1c : Nat} {v_2 : List UInt8} {R : Ending → World → Prop} {w : World} (h : sh_slices_Index_of_string_string s_1 s_1n s_1c v_2 R w) : Calls Tryd.prog F_slices_Index_of_string_string ⟨[.slice s_1 s_1n s_1c, .string ⟨⟨v_2⟩⟩]⟩ w R := calls_of_fnV Tryd.func65 (by rw [e_slices_Index_of_string_string]; exact h)

def an_slices_IndexFunc_of_api_Rewrite_api_Rewrite : Ann := .two (.leaf) (.two (.two (.leaf) (.one (.loop 524080 [(8, .one (.int .i64))] (.two (.leaf) (.two (.two (.leaf) (.leaf)) (.two (.one (.two (.leaf) (.two (.leaf) (.two (.two (.leaf) (.leaf)) (.leaf))))) (.leaf))))))) (.two (.leaf) (.leaf)))
def sh_slices_IndexFunc_of_api_Rewrite_api_Rewrite (s_1 : Option Addr) (s_1n : Nat) (s_1c : Nat) (f_2 : Fn) (f_2a : Array Value) (f_2b : Array Value) (R : Ending → World → Prop) (w : World) : Prop :=
  ∃ (I3 : Int → World → Nat → Prop), (∃ m7 : Nat, I3 0 w m7) ∧ ∀ (t8_4 : Int) (w5 : World) (m6 : Nat), I3 t8_4 w5 m6 → ∀ _ : Env, (br (decide ((t8_4 : Int) < ((s_1n : Int)))) (idx s_1 s_1n t8_4 2 fun p8 =>
  ∃ (x9 : List UInt8), World.cell? w5 (p8.add 0) = some (.string ⟨⟨x9⟩⟩) ∧ (∃ (x10 : List UInt8), World.cell? w5 (p8.add 1) = some (.string ⟨⟨x10⟩⟩) ∧ (CallV Tryd.prog (.func f_2 f_2a f_2b) [.agg ⟨[.string ⟨⟨x9⟩⟩, .string ⟨⟨x10⟩⟩]⟩] w5 fun (e11 : Ending) (w12 : World) =>
  ∃ (x13 : Bool), e11 = .returned (.bool x13) ∧ (br x13 (R (.returned (.int .i64 t8_4)) w12) (∃ m14 : Nat, m14 < m6 ∧ I3 (IntKind.i64.wrap (t8_4 + 1)) w12 m14))))) (R (.returned (.int .i64 ((-1)))) w5))
set_option maxRecDepth 100000 in
theorem e_slices_IndexFunc_of_api_Rewrite_api_Rewrite (s_1 : Option Addr) (s_1n : Nat) (s_1c : Nat) (f_2 : Fn) (f_2a : Array Value) (f_2b : Array Value) (R : Ending → World → Prop) (w : World) : fnV Tryd.prog Tryd.f66 an_slices_IndexFunc_of_api_Rewrite_api_Rewrite [.slice s_1 s_1n s_1c, .func f_2 f_2a f_2b] R w = sh_slices_IndexFunc_of_api_Rewrite_api_Rewrite s_1 s_1n s_1c f_2 f_2a f_2b R w := by kernel_rfl
theorem c_slices_IndexFunc_of_api_Rewrite_api_Rewrite {s_1 : Option Addr} {s_1n : Nat} {s_1c : Nat} {f_2 : Fn} {f_2a : Array Value} {f_2b : Array Value} {R : Ending → World → Prop} {w : World} (h : sh_slices_IndexFunc_of_api_Rewrite_api_Rewrite s_1 s_1n s_1c f_2 f_2a f_2b R w) : Calls Tryd.prog F_slices_IndexFunc_of_api_Rewrite_api_Rewrite ⟨[.slice s_1 s_1n s_1c, .func f_2 f_2a f_2b]⟩ w R := calls_of_fnV Tryd.func66 (by rw [e_slices_IndexFunc_of_api_Rewrite_api_Rewrite]; exact h)

def an_charset_IsWord : Ann := .two (.leaf) (.cut 65524 [] (.two (.leaf) (.two (.two (.leaf) (.leaf)) (.leaf))) (.cut 33488908 [] (.two (.leaf) (.two (.leaf) (.two (.two (.leaf) (.leaf)) (.leaf)))) (.two (.leaf) (.leaf))))
def sh_charset_IsWord (s_1 : List UInt8) (R : Ending → World → Prop) (w : World) : Prop :=
  ∀ (K2 : World → Prop), (∀  (w3 : World), (∀ _ : Env, (∀ (K4 : World → Prop), (∀  (w5 : World), (∀ _ : Env, (s2b Tryd.prog w5 5 s_1 fun a6 a6n a6c w7 =>
  Calls Tryd.prog 94 ⟨[.slice a6 a6n a6c, .func (.func 95) #[] #[]]⟩ w7 fun (e8 : Ending) (w9 : World) =>
  ∃ (x10 : Bool), e8 = .returned (.bool x10) ∧ (R (.returned (.bool (!x10))) w9))) → K4 w5) → (sidx s_1 0 fun b11 =>
  Calls Tryd.prog 93 ⟨[.int .u8 ((b11.toNat : Int))]⟩ w3 fun (e12 : Ending) (w13 : World) =>
  ∃ (x14 : Int), e12 = .returned (.int .i64 x14) ∧ (br (decide ((x14 : Int) ≠ 1)) (br (decide ((x14 : Int) ≠ 3)) (R (.returned (.bool false)) w13) (K4 w13)) (K4 w13))))) → K2 w3) → (br (decide ((s_1 : List UInt8) = ([]))) (R (.returned (.bool false)) w) (br (decide ((64 : Int) < ((List.length s_1 : Int)))) (R (.returned (.bool false)) w) (Calls Tryd.prog 68 ⟨[.string ⟨⟨s_1⟩⟩]⟩ w fun (e15 : Ending) (w16 : World) =>
  ∃ (x17 : Int), e15 = .returned (.int .i64 x17) ∧ (br (decide ((x17 : Int) ≠ 0)) (R (.returned (.bool false)) w16) (K2 w16)))))
set_option maxRecDepth 100000 in
theorem e_charset_IsWord (s_1 : List UInt8) (R : Ending → World → Prop) (w : World) : fnV Tryd.prog Tryd.f67 an_charset_IsWord [.string ⟨⟨s_1⟩⟩] R w = sh_charset_IsWord s_1 R w := by kernel_rfl
theorem c_charset_IsWord {s_1 : List UInt8} {R : Ending → World → Prop} {w : World} (h : sh_charset_IsWord s_1 R w) : Calls Tryd.prog F_charset_IsWord ⟨[.string ⟨⟨s_1⟩⟩]⟩ w R := calls_of_fnV Tryd.func67 (by rw [e_charset_IsWord]; exact h)

def an_charset_Check : Ann := .two (.leaf) (.two (.two (.leaf) (.two (.two (.leaf) (.leaf)) (.leaf))) (.two (.two (.leaf) (.one (.rf [2, 10] 0))) (.two (.leaf) (.leaf))))
def sh_charset_Check (s_1 : List UInt8) (R : Ending → World → Prop) (w : World) : Prop :=
  al w 25 [.int .i64 0] fun p2 w3 =>
  br (decide ((65536 : Int) < ((List.length s_1 : Int)))) (stL w3 p2 0 [.int .i64 4] fun w4 =>
  ∃ (x5 : Int), World.cell? w4 p2 = some (.int .i64 x5) ∧ (R (.returned (.int .i64 x5)) w4)) (Calls Tryd.prog 96 ⟨[.string ⟨⟨s_1⟩⟩]⟩ w3 fun (e6 : Ending) (w7 : World) =>
  ∃ (x8 : Fn) (x8a : Array Value) (x8b : Array Value), e6 = .returned (.func x8 x8a x8b) ∧ (∀ base9 : Env, RFw Tryd.prog none 22 (cdAt Tryd.f68 [1, 1, 0, 1, 2]) (upd (upd base9 10 (.func x8 x8a x8b)) 2 (.pointer (some p2))) [] w7 0 (fun ds10 w11 =>
  stL w11 p2 0 [.int .i64 0] fun w15 =>
  retD ds10 w15 fun w16 =>
  ∃ (x17 : Int), World.cell? w16 p2 = some (.int .i64 x17) ∧ (R (.returned (.int .i64 x17)) w16)) (fun ds10 w11 =>
  retD ds10 w11 fun w18 =>
  ∃ (x19 : Int), World.cell? w18 p2 = some (.int .i64 x19) ∧ (R (.returned (.int .i64 x19)) w18)) (fun ds10 w11 =>
  stL w11 p2 0 [.int .i64 0] fun w12 =>
  retD ds10 w12 fun w13 =>
  ∃ (x14 : Int), World.cell? w13 p2 = some (.int .i64 x14) ∧ (R (.returned (.int .i64 x14)) w13))))
set_option maxRecDepth 100000 in
theorem e_charset_Check (s_1 : List UInt8) (R : Ending → World → Prop) (w : World) : fnV Tryd.prog Tryd.f68 an_charset_Check [.string ⟨⟨s_1⟩⟩] R w = sh_charset_Check s_1 R w := by kernel_rfl
theorem c_charset_Check {s_1 : List UInt8} {R : Ending → World → Prop} {w : World} (h : sh_charset_Check s_1 R w) : Calls Tryd.prog F_charset_Check ⟨[.string ⟨⟨s_1⟩⟩]⟩ w R := calls_of_fnV Tryd.func68 (by rw [e_charset_Check]; exact h)
def anA_charset_Check_1 : Ann := .leaf
def anB_charset_Check_1 : Ann := .one (.two (.leaf) (.two (.leaf) (.two (.two (.leaf) (.leaf)) (.leaf))))
def rf_charset_Check_1 (t2_20 : Option Addr) (t10_21 : Fn) (t10_21a : Array Value) (t10_21b : Array Value) (t11_22 : Value) (t12_23 : List UInt8) (l : Nat) (Kn Kr Kx : World → World → Prop) (w : World) : Prop :=
  Ext w w ∧ ∀ w24 : World, Upd l w w24 → (sidx t12_23 0 fun b25 =>
  Calls Tryd.prog 93 ⟨[.int .u8 ((b25.toNat : Int))]⟩ w24 fun (e26 : Ending) (w27 : World) =>
  ∃ (x28 : Int), e26 = .returned (.int .i64 x28) ∧ (br (decide ((x28 : Int) = 0)) (dr t2_20 fun p30 =>
  stL w27 p30 0 [.int .i64 11] fun w29 =>
  Kr w24 w29) (br (decide ((x28 : Int) = 2)) (dr t2_20 fun p32 =>
  stL w27 p32 0 [.int .i64 11] fun w31 =>
  Kr w24 w31) (Kn w24 w27))))
set_option maxRecDepth 100000 in
theorem er_charset_Check_1 (base : Env) (t2_20 : Option Addr) (t10_21 : Fn) (t10_21a : Array Value) (t10_21b : Array Value) (t11_22 : Value) (t12_23 : List UInt8) (l : Nat) (Kn Kr Kx : World → World → Prop) (w : World) : fragV Tryd.prog 22 anA_charset_Check_1 anB_charset_Check_1 (cdAt Tryd.f68 [1, 1, 0, 1, 2, 5]) (cdAt Tryd.f68 [1, 1, 0, 1, 2, 6]) l 0 Kn Kr Kx (updPs [11, 12] [t11_22, .string ⟨⟨t12_23⟩⟩] (upd (upd base 10 (.func t10_21 t10_21a t10_21b)) 2 (.pointer t2_20))) w = rf_charset_Check_1 t2_20 t10_21 t10_21a t10_21b t11_22 t12_23 l Kn Kr Kx w := by kernel_rfl
theorem cd_charset_Check_1 : cdAt Tryd.f68 [1, 1, 0, 1, 2] = .rangeFunc (Operand.tmp 10) #[11, 12] (cdAt Tryd.f68 [1, 1, 0, 1, 2, 5]) (cdAt Tryd.f68 [1, 1, 0, 1, 2, 6]) := by kernel_rfl

def an_transcript_Check_1 : Ann := .two (.leaf) (.two (.leaf) (.two (.leaf) (.leaf)))
def sh_transcript_Check_1 (t0_1 : Option Addr) (R : Ending → World → Prop) (w : World) : Prop :=
  dr t0_1 fun p2 =>
  ∃ (x3 : Int), World.cell? w p2 = some (.int .i64 x3) ∧ (dr t0_1 fun p5 =>
  stL w p5 0 [.int .i64 (IntKind.i64.wrap (x3 - 1))] fun w4 =>
  dr t0_1 fun p6 =>
  ∃ (x7 : Int), World.cell? w4 p6 = some (.int .i64 x7) ∧ (R (.returned (.bool (decide ((0 : Int) ≤ x7)))) w4))
set_option maxRecDepth 100000 in
theorem e_transcript_Check_1 (t0_1 : Option Addr) (R : Ending → World → Prop) (w : World) : fnV Tryd.prog Tryd.f72 an_transcript_Check_1 [.pointer t0_1] R w = sh_transcript_Check_1 t0_1 R w := by kernel_rfl
theorem c_transcript_Check_1 {t0_1 : Option Addr} {R : Ending → World → Prop} {w : World} (h : sh_transcript_Check_1 t0_1 R w) : Calls Tryd.prog F_transcript_Check_1 ⟨[.pointer t0_1]⟩ w R := calls_of_fnV Tryd.func72 (by rw [e_transcript_Check_1]; exact h)

def an_transcript_right : Ann := .two (.leaf) (.two (.leaf) (.cut 65284 [] (.two (.leaf) (.two (.two (.leaf) (.leaf)) (.leaf))) (.two (.leaf) (.two (.leaf) (.two (.one (.cut 9007199246352384 [(23, .one (.bool))] (.leaf) (.two (.two (.leaf) (.leaf)) (.cut 4722357475670390472704 [(53, .one (.bool))] (.leaf) (.two (.two (.leaf) (.leaf)) (.cut 4830980911975647053611008 [(72, .one (.bool))] (.leaf) (.two (.two (.leaf) (.leaf)) (.cut 1298074209798003628674107383480320 [(82, .one (.bool))] (.cut 4946924453863062582897672192 [(82, .one (.bool))] (.leaf) (.two (.leaf) (.leaf))) (.two (.two (.leaf) (.leaf)) (.cut 43556141667805908689605042618642248761344 [(110, .one (.bool))] (.cut 331008924731595261318819140987781120 [(110, .one (.bool))] (.leaf) (.two (.leaf) (.cut 20936639007827058705142093823497732096 [(110, .one (.bool))] (.leaf) (.two (.leaf) (.leaf))))) (.two (.two (.leaf) (.leaf)) (.cut 11106816456299431447444547186572914421923840 [(135, .one (.bool))] (.leaf) (.two (.two (.leaf) (.leaf)) (.two (.leaf) (.two (.two (.leaf) (.leaf)) (.leaf)))))))))))))))) (.two (.leaf) (.leaf)))))))
def sh_transcript_right (p_1 : Int) (p_2 : List UInt8) (p_3 : Int) (p_4 : Option Addr) (p_4n : Nat) (p_4c : Nat) (p_5 : Int) (p_6 : Bool) (R : Ending → World → Prop) (w : World) : Prop :=
  al w 72 [.int .i64 p_1, .string ⟨⟨p_2⟩⟩, .int .i64 p_3, .slice p_4 p_4n p_4c, .int .i64 p_5, .bool p_6] fun p7 w8 =>
  ∃ (x9 : Int), World.cell? w8 ((p7.add 0).add 0) = some (.int .i64 x9) ∧ (∃ (x10 : List UInt8), World.cell? w8 ((p7.add 0).add 1) = some (.string ⟨⟨x10⟩⟩) ∧ (∃ (x11 : Int), World.cell? w8 ((p7.add 0).add 2) = some (.int .i64 x11) ∧ (∃ (x12 : Option Addr) (x12n : Nat) (x12c : Nat), World.cell? w8 ((p7.add 0).add 3) = some (.slice x12 x12n x12c) ∧ (al w8 37 [.int .i64 0, .string ⟨⟨[]⟩⟩, .int .i64 0, .slice none 0 0] fun p13 w14 =>
  stL w14 p13 0 [.int .i64 x9, .string ⟨⟨x10⟩⟩, .int .i64 x11, .slice x12 x12n x12c] fun w15 =>
  ∀ (K16 : World → Prop), (∀  (w17 : World), (∀ _ : Env, (∃ (x18 : Int), World.cell? w17 (p13.add 0) = some (.int .i64 x18) ∧ (idx (some (⟨0, 0, none⟩)) 12 x18 4 fun p19 =>
  ∃ (x20 : List UInt8), World.cell? w17 (p19.add 0) = some (.string ⟨⟨x20⟩⟩) ∧ (∃ (x21 : Bool), World.cell? w17 (p19.add 1) = some (.bool x21) ∧ (∃ (x22 : Bool), World.cell? w17 (p19.add 2) = some (.bool x22) ∧ (∃ (x23 : Bool), World.cell? w17 (p19.add 3) = some (.bool x23) ∧ (al w17 123 [.string ⟨⟨[]⟩⟩, .bool false, .bool false, .bool false] fun p24 w25 =>
  stL w25 p24 0 [.string ⟨⟨x20⟩⟩, .bool x21, .bool x22, .bool x23] fun w26 =>
  ∃ (x27 : Int), World.cell? w26 (p13.add 0) = some (.int .i64 x27) ∧ (∀ (K28 : Bool → World → Prop), (∀ (t23_29 : Bool) (w30 : World), (∀ _ : Env, (br t23_29 (R (.returned (.int .i64 8)) w30) (∀ (K31 : Bool → World → Prop), (∀ (t53_32 : Bool) (w33 : World), (∀ _ : Env, (br t53_32 (R (.returned (.int .i64 5)) w33) (∀ (K34 : Bool → World → Prop), (∀ (t72_35 : Bool) (w36 : World), (∀ _ : Env, (br t72_35 (R (.returned (.int .i64 11)) w36) (∀ (K37 : Bool → World → Prop), (∀ (t82_38 : Bool) (w39 : World), (∀ _ : Env, (br t82_38 (R (.returned (.int .i64 14)) w39) (∀ (K40 : Bool → World → Prop), (∀ (t110_41 : Bool) (w42 : World), (∀ _ : Env, (br t110_41 (R (.returned (.int .i64 2)) w42) (∀ (K43 : Bool → World → Prop), (∀ (t135_44 : Bool) (w45 : World), (∀ _ : Env, (br t135_44 (R (.returned (.int .i64 10)) w45) (∃ (x46 : Int), World.cell? w45 (p13.add 0) = some (.int .i64 x46) ∧ (br (decide ((x46 : Int) = 4)) (∃ (x47 : Int), World.cell? w45 (p7.add 4) = some (.int .i64 x47) ∧ (br (decide ((0 : Int) < x47)) (R (.returned (.int .i64 12)) w45) (R (.returned (.int .i64 0)) w45))) (R (.returned (.int .i64 0)) w45))))) → K43 t135_44 w45) → (∃ (x48 : Int), World.cell? w42 (p13.add 0) = some (.int .i64 x48) ∧ (br (decide ((x48 : Int) = 1)) (∃ (x49 : Bool), World.cell? w42 (p7.add 5) = some (.bool x49) ∧ (K43 x49 w42)) (K43 false w42)))))) → K40 t110_41 w42) → (∀ (K50 : Bool → World → Prop), (∀ (t110_51 : Bool) (w52 : World), (∀ _ : Env, (br t110_51 (K40 t110_51 w52) (∀ (K53 : Bool → World → Prop), (∀ (t110_54 : Bool) (w55 : World), (∀ _ : Env, (br t110_54 (K40 t110_54 w55) (∃ (x56 : Bool), World.cell? w55 (p24.add 2) = some (.bool x56) ∧ (br x56 (br (!(decide ((x27 : Int) = 6))) (∃ (x57 : Int), World.cell? w55 (p13.add 2) = some (.int .i64 x57) ∧ (K40 (decide ((8 : Int) < x57)) w55)) (K40 false w55)) (K40 false w55))))) → K53 t110_54 w55) → (br (decide ((x27 : Int) = 6)) (∃ (x58 : Int), World.cell? w52 (p13.add 2) = some (.int .i64 x58) ∧ (K53 (decide ((64 : Int) < x58)) w52)) (K53 false w52))))) → K50 t110_51 w52) → (∃ (x59 : Bool), World.cell? w39 (p24.add 2) = some (.bool x59) ∧ (br x59 (∃ (x60 : Int), World.cell? w39 (p13.add 2) = some (.int .i64 x60) ∧ (K50 (decide ((x60 : Int) < 1)) w39)) (K50 false w39))))))) → K37 t82_38 w39) → (∀ (K61 : Bool → World → Prop), (∀ (t82_62 : Bool) (w63 : World), (∀ _ : Env, (br t82_62 (K37 t82_62 w63) (∃ (x64 : Bool), World.cell? w63 (p24.add 1) = some (.bool x64) ∧ (br x64 (∃ (x65 : Int), World.cell? w63 (p13.add 0) = some (.int .i64 x65) ∧ (br (decide ((x65 : Int) ≠ 1)) (∃ (x66 : Int), World.cell? w63 (p13.add 0) = some (.int .i64 x66) ∧ (br (decide ((x66 : Int) ≠ 10)) (∃ (x67 : List UInt8), World.cell? w63 (p13.add 1) = some (.string ⟨⟨x67⟩⟩) ∧ (Calls Tryd.prog 99 ⟨[.string ⟨⟨x67⟩⟩]⟩ w63 fun (e68 : Ending) (w69 : World) =>
  ∃ (x70 : Bool), e68 = .returned (.bool x70) ∧ (K37 (!x70) w69))) (K37 false w63))) (K37 false w63))) (K37 false w63))))) → K61 t82_62 w63) → (∃ (x71 : Int), World.cell? w36 (p13.add 0) = some (.int .i64 x71) ∧ (br (decide ((x71 : Int) = 10)) (∃ (x72 : List UInt8), World.cell? w36 (p13.add 1) = some (.string ⟨⟨x72⟩⟩) ∧ (Calls Tryd.prog 67 ⟨[.string ⟨⟨x72⟩⟩]⟩ w36 fun (e73 : Ending) (w74 : World) =>
  ∃ (x75 : Bool), e73 = .returned (.bool x75) ∧ (K61 (!x75) w74))) (K61 false w36))))))) → K34 t72_35 w36) → (∃ (x76 : Int), World.cell? w33 (p13.add 0) = some (.int .i64 x76) ∧ (br (decide ((x76 : Int) = 1)) (∃ (x77 : List UInt8), World.cell? w33 (p13.add 1) = some (.string ⟨⟨x77⟩⟩) ∧ (Calls Tryd.prog 68 ⟨[.string ⟨⟨x77⟩⟩]⟩ w33 fun (e78 : Ending) (w79 : World) =>
  ∃ (x80 : Int), e78 = .returned (.int .i64 x80) ∧ (K34 (decide ((x80 : Int) ≠ 0)) w79))) (K34 false w33)))))) → K31 t53_32 w33) → (∃ (x81 : Int), World.cell? w30 (p13.add 0) = some (.int .i64 x81) ∧ (br (decide ((x81 : Int) = 1)) (∃ (x82 : List UInt8), World.cell? w30 (p13.add 1) = some (.string ⟨⟨x82⟩⟩) ∧ (br (decide ((x82 : List UInt8) = ([]))) (K31 true w30) (∃ (x83 : Bool), World.cell? w30 (p24.add 3) = some (.bool x83) ∧ (br x83 (∃ (x84 : Option Addr) (x84n : Nat) (x84c : Nat), World.cell? w30 (p13.add 3) = some (.slice x84 x84n x84c) ∧ (K31 (decide ((((x84n : Int)) : Int) = 0)) w30)) (K31 false w30))))) (∃ (x85 : Bool), World.cell? w30 (p24.add 3) = some (.bool x85) ∧ (br x85 (∃ (x86 : Option Addr) (x86n : Nat) (x86c : Nat), World.cell? w30 (p13.add 3) = some (.slice x86 x86n x86c) ∧ (K31 (decide ((((x86n : Int)) : Int) = 0)) w30)) (K31 false w30)))))))) → K28 t23_29 w30) → (∃ (x87 : Bool), World.cell? w26 (p24.add 1) = some (.bool x87) ∧ (br (!x87) (∃ (x88 : List UInt8), World.cell? w26 (p13.add 1) = some (.string ⟨⟨x88⟩⟩) ∧ (br (decide ((x88 : List UInt8) ≠ ([]))) (K28 true w26) (∃ (x89 : Bool), World.cell? w26 (p24.add 2) = some (.bool x89) ∧ (br (!x89) (∃ (x90 : Int), World.cell? w26 (p13.add 2) = some (.int .i64 x90) ∧ (br (decide ((x90 : Int) ≠ 0)) (K28 true w26) (∃ (x91 : Bool), World.cell? w26 (p24.add 3) = some (.bool x91) ∧ (br (!x91) (∃ (x92 : Option Addr) (x92n : Nat) (x92c : Nat), World.cell? w26 (p13.add 3) = some (.slice x92 x92n x92c) ∧ (K28 (decide ((0 : Int) < ((x92n : Int)))) w26)) (K28 false w26))))) (∃ (x93 : Bool), World.cell? w26 (p24.add 3) = some (.bool x93) ∧ (br (!x93) (∃ (x94 : Option Addr) (x94n : Nat) (x94c : Nat), World.cell? w26 (p13.add 3) = some (.slice x94 x94n x94c) ∧ (K28 (decide ((0 : Int) < ((x94n : Int)))) w26)) (K28 false w26))))))) (∃ (x95 : Bool), World.cell? w26 (p24.add 2) = some (.bool x95) ∧ (br (!x95) (∃ (x96 : Int), World.cell? w26 (p13.add 2) = some (.int .i64 x96) ∧ (br (decide ((x96 : Int) ≠ 0)) (K28 true w26) (∃ (x97 : Bool), World.cell? w26 (p24.add 3) = some (.bool x97) ∧ (br (!x97) (∃ (x98 : Option Addr) (x98n : Nat) (x98c : Nat), World.cell? w26 (p13.add 3) = some (.slice x98 x98n x98c) ∧ (K28 (decide ((0 : Int) < ((x98n : Int)))) w26)) (K28 false w26))))) (∃ (x99 : Bool), World.cell? w26 (p24.add 3) = some (.bool x99) ∧ (br (!x99) (∃ (x100 : Option Addr) (x100n : Nat) (x100c : Nat), World.cell? w26 (p13.add 3) = some (.slice x100 x100n x100c) ∧ (K28 (decide ((0 : Int) < ((x100n : Int)))) w26)) (K28 false w26))))))))))))))) → K16 w17) → (∃ (x101 : Int), World.cell? w15 (p13.add 0) = some (.int .i64 x101) ∧ (br (decide ((x101 : Int) < 1)) (R (.returned (.int .i64 8)) w15) (∃ (x102 : Int), World.cell? w15 (p13.add 0) = some (.int .i64 x102) ∧ (br (decide ((11 : Int) < x102)) (R (.returned (.int .i64 8)) w15) (K16 w15)))))))))
set_option maxRecDepth 100000 in
theorem e_transcript_right (p_1 : Int) (p_2 : List UInt8) (p_3 : Int) (p_4 : Option Addr) (p_4n : Nat) (p_4c : Nat) (p_5 : Int) (p_6 : Bool) (R : Ending → World → Prop) (w : World) : fnV Tryd.prog Tryd.f73 an_transcript_right [.agg ⟨[.int .i64 p_1, .string ⟨⟨p_2⟩⟩, .int .i64 p_3, .slice p_4 p_4n p_4c, .int .i64 p_5, .bool p_6]⟩] R w = sh_transcript_right p_1 p_2 p_3 p_4 p_4n p_4c p_5 p_6 R w := by kernel_rfl
theorem c_transcript_right {p_1 : Int} {p_2 : List UInt8} {p_3 : Int} {p_4 : Option Addr} {p_4n : Nat} {p_4c : Nat} {p_5 : Int} {p_6 : Bool} {R : Ending → World → Prop} {w : World} (h : sh_transcript_right p_1 p_2 p_3 p_4 p_4n p_4c p_5 p_6 R w) : Calls Tryd.prog F_transcript_right ⟨[.agg ⟨[.int .i64 p_1, .string ⟨⟨p_2⟩⟩, .int .i64 p_3, .slice p_4 p_4n p_4c, .int .i64 p_5, .bool p_6]⟩]⟩ w R := calls_of_fnV Tryd.func73 (by rw [e_transcript_right]; exact h)

def an_transcript_marked : Ann := .two (.leaf) (.two (.leaf) (.two (.leaf) (.two (.leaf) (.two (.leaf) (.two (.leaf) (.leaf))))))
def sh_transcript_marked (l_1 : Option Addr) (l_1n : Nat) (l_1c : Nat) (R : Ending → World → Prop) (w : World) : Prop :=
  al w 84 [.pointer none, .slice none 0 0] fun p2 w3 =>
  al w3 125 [.nilFunc] fun p4 w5 =>
  stL w5 p4 0 [.func (.func 100) ⟨[]⟩ ⟨[.pointer (some p2), .pointer (some p4)]⟩] fun w6 =>
  ∃ (x7 : Fn) (x7a : Array Value) (x7b : Array Value), World.cell? w6 p4 = some (.func x7 x7a x7b) ∧ (CallV Tryd.prog (.func x7 x7a x7b) [.slice l_1 l_1n l_1c] w6 fun (e8 : Ending) (w9 : World) =>
  e8 = .returned (.tuple ⟨[]⟩) ∧ (Calls Tryd.prog 62 ⟨[.pointer (some p2)]⟩ w9 fun (e10 : Ending) (w11 : World) =>
  ∃ (x12 : List UInt8), e10 = .returned (.string ⟨⟨x12⟩⟩) ∧ (R (.returned (.string ⟨⟨x12⟩⟩)) w11)))
set_option maxRecDepth 100000 in
theorem e_transcript_marked (l_1 : Option Addr) (l_1n : Nat) (l_1c : Nat) (R : Ending → World → Prop) (w : World) : fnV Tryd.prog Tryd.f74 an_transcript_marked [.slice l_1 l_1n l_1c] R w = sh_transcript_marked l_1 l_1n l_1c R w := by kernel_rfl
theorem c_transcript_marked {l_1 : Option Addr} {l_1n : Nat} {l_1c : Nat} {R : Ending → World → Prop} {w : World} (h : sh_transcript_marked l_1 l_1n l_1c R w) : Calls Tryd.prog F_transcript_marked ⟨[.slice l_1 l_1n l_1c]⟩ w R := calls_of_fnV Tryd.func74 (by rw [e_transcript_marked]; exact h)

def an_slices_IndexFunc_of_string_string : Ann := .two (.leaf) (.two (.two (.leaf) (.one (.loop 524080 [(8, .one (.int .i64))] (.two (.leaf) (.two (.two (.leaf) (.leaf)) (.two (.one (.two (.leaf) (.two (.leaf) (.two (.two (.leaf) (.leaf)) (.leaf))))) (.leaf))))))) (.two (.leaf) (.leaf)))
def sh_slices_IndexFunc_of_string_string (s_1 : Option Addr) (s_1n : Nat) (s_1c : Nat) (f_2 : Fn) (f_2a : Array Value) (f_2b : Array Value) (R : Ending → World → Prop) (w : World) : Prop :=
  ∃ (I3 : Int → World → Nat → Prop), (∃ m7 : Nat, I3 0 w m7) ∧ ∀ (t8_4 : Int) (w5 : World) (m6 : Nat), I3 t8_4 w5 m6 → ∀ _ : Env, (br (decide ((t8_4 : Int) < ((s_1n : Int)))) (idx s_1 s_1n t8_4 1 fun p8 =>
  ∃ (x9 : List UInt8), World.cell? w5 p8 = some (.string ⟨⟨x9⟩⟩) ∧ (CallV Tryd.prog (.func f_2 f_2a f_2b) [.string ⟨⟨x9⟩⟩] w5 fun (e10 : Ending) (w11 : World) =>
  ∃ (x12 : Bool), e10 = .returned (.bool x12) ∧ (br x12 (R (.returned (.int .i64 t8_4)) w11) (∃ m13 : Nat, m13 < m6 ∧ I3 (IntKind.i64.wrap (t8_4 + 1)) w11 m13)))) (R (.returned (.int .i64 ((-1)))) w5))
set_option maxRecDepth 100000 in
theorem e_slices_IndexFunc_of_string_string (s_1 : Option Addr) (s_1n : Nat) (s_1c : Nat) (f_2 : Fn) (f_2a : Array Value) (f_2b : Array Value) (R : Ending → World → Prop) (w : World) : fnV Tryd.prog Tryd.f75 an_slices_IndexFunc_of_string_string [.slice s_1 s_1n s_1c, .func f_2 f_2a f_2b] R w = sh_slices_IndexFunc_of_string_string s_1 s_1n s_1c f_2 f_2a f_2b R w := by kernel_rfl
theorem c_slices_IndexFunc_of_string_string {s_1 : Option Addr} {s_1n : Nat} {s_1c : Nat} {f_2 : Fn} {f_2a : Array Value} {f_2b : Array Value} {R : Ending → World → Prop} {w : World} (h : sh_slices_IndexFunc_of_string_string s_1 s_1n s_1c f_2 f_2a f_2b R w) : Calls Tryd.prog F_slices_IndexFunc_of_string_string ⟨[.slice s_1 s_1n s_1c, .func f_2 f_2a f_2b]⟩ w R := calls_of_fnV Tryd.func75 (by rw [e_slices_IndexFunc_of_string_string]; exact h)

def an_legibility_Supply_1 : Ann := .two (.leaf) (.two (.leaf) (.two (.two (.leaf) (.one (.loop 9007199254737536 [(7, .one (.slice)), (12, .one (.int .i64))] (.two (.leaf) (.two (.two (.leaf) (.leaf)) (.two (.one (.two (.leaf) (.two (.two (.leaf) (.two (.two (.leaf) (.two (.leaf) (.leaf))) (.leaf))) (.two (.cut 4397778075648 [(41, .one (.bool))] (.leaf) (.two (.leaf) (.leaf))) (.leaf))))) (.leaf))))))) (.two (.leaf) (.leaf))))
def sh_legibility_Supply_1 (l_1 : Option Addr) (l_1n : Nat) (l_1c : Nat) (t1_2 : Option Addr) (t2_3 : Option Addr) (t3_4 : Option Addr) (t4_5 : Option Addr) (R : Ending → World → Prop) (w : World) : Prop :=
  ∃ (I6 : Option Addr → Nat → Nat → Int → World → Nat → Prop), (∃ m11 : Nat, I6 none 0 0 0 w m11) ∧ ∀ (out_7 : Option Addr) (out_7n : Nat) (out_7c : Nat) (t12_8 : Int) (w9 : World) (m10 : Nat), I6 out_7 out_7n out_7c t12_8 w9 m10 → ∀ _ : Env, (br (decide ((t12_8 : Int) < ((l_1n : Int)))) (idx l_1 l_1n t12_8 4 fun p12 =>
  ∃ (x13 : Int), World.cell? w9 (p12.add 0) = some (.int .i64 x13) ∧ (∃ (x14 : List UInt8), World.cell? w9 (p12.add 1) = some (.string ⟨⟨x14⟩⟩) ∧ (∃ (x15 : Int), World.cell? w9 (p12.add 2) = some (.int .i64 x15) ∧ (∃ (x16 : Option Addr) (x16n : Nat) (x16c : Nat), World.cell? w9 (p12.add 3) = some (.slice x16 x16n x16c) ∧ (al w9 37 [.int .i64 0, .string ⟨⟨[]⟩⟩, .int .i64 0, .slice none 0 0] fun p17 w18 =>
  stL w18 p17 0 [.int .i64 x13, .string ⟨⟨x14⟩⟩, .int .i64 x15, .slice x16 x16n x16c] fun w19 =>
  ∃ (x20 : Int), World.cell? w19 (p17.add 0) = some (.int .i64 x20) ∧ (br (decide ((x20 : Int) ≠ 6)) (dr t1_2 fun p21 =>
  ∃ (x22 : Fn) (x22a : Array Value) (x22b : Array Value), World.cell? w19 p21 = some (.func x22 x22a x22b) ∧ (∃ (x23 : Option Addr) (x23n : Nat) (x23c : Nat), World.cell? w19 (p17.add 3) = some (.slice x23 x23n x23c) ∧ (CallV Tryd.prog (.func x22 x22a x22b) [.slice x23 x23n x23c] w19 fun (e24 : Ending) (w25 : World) =>
  ∃ (x26 : Option Addr) (x26n : Nat) (x26c : Nat), e24 = .returned (.slice x26 x26n x26c) ∧ (stL w25 (p17.add 3) 0 [.slice x26 x26n x26c] fun w27 =>
  ∃ (x28 : Int), World.cell? w27 (p17.add 0) = some (.int .i64 x28) ∧ (∃ (x29 : List UInt8), World.cell? w27 (p17.add 1) = some (.string ⟨⟨x29⟩⟩) ∧ (∃ (x30 : Int), World.cell? w27 (p17.add 2) = some (.int .i64 x30) ∧ (∃ (x31 : Option Addr) (x31n : Nat) (x31c : Nat), World.cell? w27 (p17.add 3) = some (.slice x31 x31n x31c) ∧ (al w27 37 [.int .i64 x28, .string ⟨⟨x29⟩⟩, .int .i64 x30, .slice x31 x31n x31c] fun p32 w33 =>
  app Tryd.prog [22, 22] 22 (.slice out_7 out_7n out_7c) (.slice (some p32) 1 1) w33 fun a34 a34n a34c w35 =>
  ∃ m36 : Nat, m36 < m10 ∧ I6 a34 a34n a34c (IntKind.i64.wrap (t12_8 + 1)) w35 m36)))))))) (∀ (K37 : Bool → World → Prop), (∀ (t41_38 : Bool) (w39 : World), (∀ _ : Env, (br t41_38 (dr t4_5 fun p41 =>
  stL w39 p41 0 [.bool false] fun w40 =>
  dr t2_3 fun p42 =>
  ∃ (x43 : Int), World.cell? w40 p42 = some (.int .i64 x43) ∧ (dr t2_3 fun p45 =>
  stL w40 p45 0 [.int .i64 (IntKind.i64.wrap (x43 + 1))] fun w44 =>
  ∃ m46 : Nat, m46 < m10 ∧ I6 out_7 out_7n out_7c (IntKind.i64.wrap (t12_8 + 1)) w44 m46)) (dr t3_4 fun p47 =>
  ∃ (x48 : Option Addr) (x48n : Nat) (x48c : Nat), World.cell? w39 p47 = some (.slice x48 x48n x48c) ∧ (dr t2_3 fun p49 =>
  ∃ (x50 : Int), World.cell? w39 p49 = some (.int .i64 x50) ∧ (idx x48 x48n x50 1 fun p51 =>
  ∃ (x52 : List UInt8), World.cell? w39 p51 = some (.string ⟨⟨x52⟩⟩) ∧ (al w39 37 [.int .i64 1, .string ⟨⟨x52⟩⟩, .int .i64 0, .slice none 0 0] fun p53 w54 =>
  app Tryd.prog [22, 22] 22 (.slice out_7 out_7n out_7c) (.slice (some p53) 1 1) w54 fun a55 a55n a55c w56 =>
  dr t2_3 fun p57 =>
  ∃ (x58 : Int), World.cell? w56 p57 = some (.int .i64 x58) ∧ (dr t2_3 fun p60 =>
  stL w56 p60 0 [.int .i64 (IntKind.i64.wrap (x58 + 1))] fun w59 =>
  ∃ m61 : Nat, m61 < m10 ∧ I6 a55 a55n a55c (IntKind.i64.wrap (t12_8 + 1)) w59 m61))))))) → K37 t41_38 w39) → (drw w19 fun w62 =>
  dr t2_3 fun p63 =>
  ∃ (x64 : Int), World.cell? w62 p63 = some (.int .i64 x64) ∧ (dr t3_4 fun p65 =>
  ∃ (x66 : Option Addr) (x66n : Nat) (x66c : Nat), World.cell? w62 p65 = some (.slice x66 x66n x66c) ∧ (br (decide ((((x66n : Int)) : Int) ≤ x64)) (K37 true w62) (dr t3_4 fun p67 =>
  ∃ (x68 : Option Addr) (x68n : Nat) (x68c : Nat), World.cell? w62 p67 = some (.slice x68 x68n x68c) ∧ (dr t2_3 fun p69 =>
  ∃ (x70 : Int), World.cell? w62 p69 = some (.int .i64 x70) ∧ (idx x68 x68n x70 1 fun p71 =>
  ∃ (x72 : List UInt8), World.cell? w62 p71 = some (.string ⟨⟨x72⟩⟩) ∧ (∃ (x73 : Int), World.cell? w62 (p17.add 2) = some (.int .i64 x73) ∧ (K37 (decide ((((List.length x72 : Int)) : Int) ≠ x73)) w62))))))))))))))) (R (.returned (.slice out_7 out_7n out_7c)) w9))
set_option maxRecDepth 100000 in
theorem e_legibility_Supply_1 (l_1 : Option Addr) (l_1n : Nat) (l_1c : Nat) (t1_2 : Option Addr) (t2_3 : Option Addr) (t3_4 : Option Addr) (t4_5 : Option Addr) (R : Ending → World → Prop) (w : World) : fnV Tryd.prog Tryd.f76 an_legibility_Supply_1 [.slice l_1 l_1n l_1c, .pointer t1_2, .pointer t2_3, .pointer t3_4, .pointer t4_5] R w = sh_legibility_Supply_1 l_1 l_1n l_1c t1_2 t2_3 t3_4 t4_5 R w := by kernel_rfl
theorem c_legibility_Supply_1 {l_1 : Option Addr} {l_1n : Nat} {l_1c : Nat} {t1_2 : Option Addr} {t2_3 : Option Addr} {t3_4 : Option Addr} {t4_5 : Option Addr} {R : Ending → World → Prop} {w : World} (h : sh_legibility_Supply_1 l_1 l_1n l_1c t1_2 t2_3 t3_4 t4_5 R w) : Calls Tryd.prog F_legibility_Supply_1 ⟨[.slice l_1 l_1n l_1c, .pointer t1_2, .pointer t2_3, .pointer t3_4, .pointer t4_5]⟩ w R := calls_of_fnV Tryd.func76 (by rw [e_legibility_Supply_1]; exact h)

def an_transcript_Merge : Ann := .two (.leaf) (.two (.leaf) (.two (.two (.leaf) (.one (.loop 288230376151711336 [(3, .one (.slice)), (9, .one (.int .i64))] (.two (.leaf) (.two (.two (.leaf) (.leaf)) (.two (.one (.two (.leaf) (.cut 2088960 [] (.two (.leaf) (.two (.leaf) (.leaf))) (.two (.two (.leaf) (.cut 549739036672 [(38, .one (.bool))] (.leaf) (.two (.two (.leaf) (.leaf)) (.leaf)))) (.two (.leaf) (.leaf)))))) (.leaf))))))) (.two (.leaf) (.leaf))))
def sh_transcript_Merge (l_1 : Option Addr) (l_1n : Nat) (l_1c : Nat) (R : Ending → World → Prop) (w : World) : Prop :=
  ∃ (I2 : Option Addr → Nat → Nat → Int → World → Nat → Prop), (∃ m7 : Nat, I2 none 0 0 0 w m7) ∧ ∀ (out_3 : Option Addr) (out_3n : Nat) (out_3c : Nat) (t9_4 : Int) (w5 : World) (m6 : Nat), I2 out_3 out_3n out_3c t9_4 w5 m6 → ∀ _ : Env, (br (decide ((t9_4 : Int) < ((l_1n : Int)))) (idx l_1 l_1n t9_4 4 fun p8 =>
  ∃ (x9 : Int), World.cell? w5 (p8.add 0) = some (.int .i64 x9) ∧ (∃ (x10 : List UInt8), World.cell? w5 (p8.add 1) = some (.string ⟨⟨x10⟩⟩) ∧ (∃ (x11 : Int), World.cell? w5 (p8.add 2) = some (.int .i64 x11) ∧ (∃ (x12 : Option Addr) (x12n : Nat) (x12c : Nat), World.cell? w5 (p8.add 3) = some (.slice x12 x12n x12c) ∧ (al w5 37 [.int .i64 0, .string ⟨⟨[]⟩⟩, .int .i64 0, .slice none 0 0] fun p13 w14 =>
  stL w14 p13 0 [.int .i64 x9, .string ⟨⟨x10⟩⟩, .int .i64 x11, .slice x12 x12n x12c] fun w15 =>
  ∀ (K16 : World → Prop), (∀  (w17 : World), (∀ _ : Env, (∀ (K18 : Bool → World → Prop), (∀ (t38_19 : Bool) (w20 : World), (∀ _ : Env, (br t38_19 (drw w20 fun w21 =>
  idx out_3 out_3n (IntKind.i64.wrap (((out_3n : Int)) - 1)) 4 fun p22 =>
  ∃ (x23 : List UInt8), World.cell? w21 (p22.add 1) = some (.string ⟨⟨x23⟩⟩) ∧ (∃ (x24 : List UInt8), World.cell? w21 (p13.add 1) = some (.string ⟨⟨x24⟩⟩) ∧ (sadd x23 x24 fun s25 =>
  idx out_3 out_3n (IntKind.i64.wrap (((out_3n : Int)) - 1)) 4 fun p26 =>
  (stL w21 (p26.add 1) 0 [.string ⟨⟨s25⟩⟩] fun w27 =>
  ∃ m28 : Nat, m28 < m6 ∧ I2 out_3 out_3n out_3c (IntKind.i64.wrap (t9_4 + 1)) w27 m28) ∧ True))) (∃ (x29 : Option Addr) (x29n : Nat) (x29c : Nat), World.cell? w20 (p13.add 3) = some (.slice x29 x29n x29c) ∧ (Calls Tryd.prog 77 ⟨[.slice x29 x29n x29c]⟩ w20 fun (e30 : Ending) (w31 : World) =>
  ∃ (x32 : Option Addr) (x32n : Nat) (x32c : Nat), e30 = .returned (.slice x32 x32n x32c) ∧ (stL w31 (p13.add 3) 0 [.slice x32 x32n x32c] fun w33 =>
  ∃ (x34 : Int), World.cell? w33 (p13.add 0) = some (.int .i64 x34) ∧ (∃ (x35 : List UInt8), World.cell? w33 (p13.add 1) = some (.string ⟨⟨x35⟩⟩) ∧ (∃ (x36 : Int), World.cell? w33 (p13.add 2) = some (.int .i64 x36) ∧ (∃ (x37 : Option Addr) (x37n : Nat) (x37c : Nat), World.cell? w33 (p13.add 3) = some (.slice x37 x37n x37c) ∧ (al w33 37 [.int .i64 x34, .string ⟨⟨x35⟩⟩, .int .i64 x36, .slice x37 x37n x37c] fun p38 w39 =>
  app Tryd.prog [22, 22] 22 (.slice out_3 out_3n out_3c) (.slice (some p38) 1 1) w39 fun a40 a40n a40c w41 =>
  ∃ m42 : Nat, m42 < m6 ∧ I2 a40 a40n a40c (IntKind.i64.wrap (t9_4 + 1)) w41 m42))))))))) → K18 t38_19 w20) → (br (decide ((0 : Int) ≤ (IntKind.i64.wrap (((out_3n : Int)) - 1)))) (∃ (x43 : Int), World.cell? w17 (p13.add 0) = some (.int .i64 x43) ∧ (br (decide ((x43 : Int) = 1)) (idx out_3 out_3n (IntKind.i64.wrap (((out_3n : Int)) - 1)) 4 fun p44 =>
  ∃ (x45 : Int), World.cell? w17 (p44.add 0) = some (.int .i64 x45) ∧ (K18 (decide ((x45 : Int) = 1)) w17)) (K18 false w17))) (K18 false w17)))) → K16 w17) → (∃ (x46 : Int), World.cell? w15 (p13.add 0) = some (.int .i64 x46) ∧ (br (decide ((x46 : Int) = 1)) (∃ (x47 : List UInt8), World.cell? w15 (p13.add 1) = some (.string ⟨⟨x47⟩⟩) ∧ (br (decide ((x47 : List UInt8) = ([]))) (∃ m48 : Nat, m48 < m6 ∧ I2 out_3 out_3n out_3c (IntKind.i64.wrap (t9_4 + 1)) w15 m48) (K16 w15))) (K16 w15)))))))) (R (.returned (.slice out_3 out_3n out_3c)) w5))
set_option maxRecDepth 100000 in
theorem e_transcript_Merge (l_1 : Option Addr) (l_1n : Nat) (l_1c : Nat) (R : Ending → World → Prop) (w : World) : fnV Tryd.prog Tryd.f77 an_transcript_Merge [.slice l_1 l_1n l_1c] R w = sh_transcript_Merge l_1 l_1n l_1c R w := by kernel_rfl
theorem c_transcript_Merge {l_1 : Option Addr} {l_1n : Nat} {l_1c : Nat} {R : Ending → World → Prop} {w : World} (h : sh_transcript_Merge l_1 l_1n l_1c R w) : Calls Tryd.prog F_transcript_Merge ⟨[.slice l_1 l_1n l_1c]⟩ w R := calls_of_fnV Tryd.func77 (by rw [e_transcript_Merge]; exact h)

def an_transcript_places_1 : Ann := .two (.leaf) (.two (.leaf) (.two (.leaf) (.leaf)))
def sh_transcript_places_1 (yield_1 : Fn) (yield_1a : Array Value) (yield_1b : Array Value) (t1_2 : Option Addr) (R : Ending → World → Prop) (w : World) : Prop :=
  al w 111 [.func yield_1 yield_1a yield_1b] fun p3 w4 =>
  al w4 64 [.nilFunc] fun p5 w6 =>
  stL w6 p5 0 [.func (.func 86) ⟨[]⟩ ⟨[.pointer (some p3), .pointer (some p5)]⟩] fun w7 =>
  ∃ (x8 : Fn) (x8a : Array Value) (x8b : Array Value), World.cell? w7 p5 = some (.func x8 x8a x8b) ∧ (dr t1_2 fun p9 =>
  ∃ (x10 : Option Addr) (x10n : Nat) (x10c : Nat), World.cell? w7 p9 = some (.slice x10 x10n x10c) ∧ (CallV Tryd.prog (.func x8 x8a x8b) [.slice x10 x10n x10c, .int .i64 0] w7 fun (e11 : Ending) (w12 : World) =>
  ∃ (x13 : Bool), e11 = .returned (.bool x13) ∧ (R (.returned (.tuple ⟨[]⟩)) w12)))
set_option maxRecDepth 100000 in
theorem e_transcript_places_1 (yield_1 : Fn) (yield_1a : Array Value) (yield_1b : Array Value) (t1_2 : Option Addr) (R : Ending → World → Prop) (w : World) : fnV Tryd.prog Tryd.f85 an_transcript_places_1 [.func yield_1 yield_1a yield_1b, .pointer t1_2] R w = sh_transcript_places_1 yield_1 yield_1a yield_1b t1_2 R w := by kernel_rfl
theorem c_transcript_places_1 {yield_1 : Fn} {yield_1a : Array Value} {yield_1b : Array Value} {t1_2 : Option Addr} {R : Ending → World → Prop} {w : World} (h : sh_transcript_places_1 yield_1 yield_1a yield_1b t1_2 R w) : Calls Tryd.prog F_transcript_places_1 ⟨[.func yield_1 yield_1a yield_1b, .pointer t1_2]⟩ w R := calls_of_fnV Tryd.func85 (by rw [e_transcript_places_1]; exact h)

def an_transcript_places_1_1 : Ann := .two (.leaf) (.two (.leaf) (.two (.two (.leaf) (.one (.loop 1099511624384 [(7, .one (.bool)), (12, .one (.int .i64))] (.two (.leaf) (.two (.two (.leaf) (.leaf)) (.two (.one (.two (.leaf) (.two (.two (.leaf) (.two (.two (.leaf) (.leaf)) (.leaf))) (.leaf)))) (.leaf))))))) (.two (.leaf) (.leaf))))
def sh_transcript_places_1_1 (l_1 : Option Addr) (l_1n : Nat) (l_1c : Nat) (depth_2 : Int) (t2_3 : Option Addr) (t3_4 : Option Addr) (R : Ending → World → Prop) (w : World) : Prop :=
  ∃ (I5 : Bool → Int → World → Nat → Prop), (∃ m10 : Nat, I5 false 0 w m10) ∧ ∀ (text_6 : Bool) (t12_7 : Int) (w8 : World) (m9 : Nat), I5 text_6 t12_7 w8 m9 → ∀ _ : Env, (br (decide ((t12_7 : Int) < ((l_1n : Int)))) (idx l_1 l_1n t12_7 4 fun p11 =>
  ∃ (x12 : Int), World.cell? w8 (p11.add 0) = some (.int .i64 x12) ∧ (∃ (x13 : List UInt8), World.cell? w8 (p11.add 1) = some (.string ⟨⟨x13⟩⟩) ∧ (∃ (x14 : Int), World.cell? w8 (p11.add 2) = some (.int .i64 x14) ∧ (∃ (x15 : Option Addr) (x15n : Nat) (x15c : Nat), World.cell? w8 (p11.add 3) = some (.slice x15 x15n x15c) ∧ (al w8 37 [.int .i64 0, .string ⟨⟨[]⟩⟩, .int .i64 0, .slice none 0 0] fun p16 w17 =>
  stL w17 p16 0 [.int .i64 x12, .string ⟨⟨x13⟩⟩, .int .i64 x14, .slice x15 x15n x15c] fun w18 =>
  dr t2_3 fun p19 =>
  ∃ (x20 : Fn) (x20a : Array Value) (x20b : Array Value), World.cell? w18 p19 = some (.func x20 x20a x20b) ∧ (∃ (x21 : Int), World.cell? w18 (p16.add 0) = some (.int .i64 x21) ∧ (∃ (x22 : List UInt8), World.cell? w18 (p16.add 1) = some (.string ⟨⟨x22⟩⟩) ∧ (∃ (x23 : Int), World.cell? w18 (p16.add 2) = some (.int .i64 x23) ∧ (∃ (x24 : Option Addr) (x24n : Nat) (x24c : Nat), World.cell? w18 (p16.add 3) = some (.slice x24 x24n x24c) ∧ (CallV Tryd.prog (.func x20 x20a x20b) [.agg ⟨[.int .i64 x21, .string ⟨⟨x22⟩⟩, .int .i64 x23, .slice x24 x24n x24c, .int .i64 depth_2, .bool text_6]⟩] w18 fun (e25 : Ending) (w26 : World) =>
  ∃ (x27 : Bool), e25 = .returned (.bool x27) ∧ (br (!x27) (R (.returned (.bool false)) w26) (br (decide ((depth_2 : Int) ≤ 16)) (dr t3_4 fun p28 =>
  ∃ (x29 : Fn) (x29a : Array Value) (x29b : Array Value), World.cell? w26 p28 = some (.func x29 x29a x29b) ∧ (∃ (x30 : Option Addr) (x30n : Nat) (x30c : Nat), World.cell? w26 (p16.add 3) = some (.slice x30 x30n x30c) ∧ (CallV Tryd.prog (.func x29 x29a x29b) [.slice x30 x30n x30c, .int .i64 (IntKind.i64.wrap (depth_2 + 1))] w26 fun (e31 : Ending) (w32 : World) =>
  ∃ (x33 : Bool), e31 = .returned (.bool x33) ∧ (br (!x33) (R (.returned (.bool false)) w32) (∃ (x34 : Int), World.cell? w32 (p16.add 0) = some (.int .i64 x34) ∧ (∃ m35 : Nat, m35 < m9 ∧ I5 (decide ((x34 : Int) = 1)) (IntKind.i64.wrap (t12_7 + 1)) w32 m35)))))) (∃ (x36 : Int), World.cell? w26 (p16.add 0) = some (.int .i64 x36) ∧ (∃ m37 : Nat, m37 < m9 ∧ I5 (decide ((x36 : Int) = 1)) (IntKind.i64.wrap (t12_7 + 1)) w26 m37)))))))))))))) (R (.returned (.bool true)) w8))
set_option maxRecDepth 100000 in
theorem e_transcript_places_1_1 (l_1 : Option Addr) (l_1n : Nat) (l_1c : Nat) (depth_2 : Int) (t2_3 : Option Addr) (t3_4 : Option Addr) (R : Ending → World → Prop) (w : World) : fnV Tryd.prog Tryd.f86 an_transcript_places_1_1 [.slice l_1 l_1n l_1c, .int .i64 depth_2, .pointer t2_3, .pointer t3_4] R w = sh_transcript_places_1_1 l_1 l_1n l_1c depth_2 t2_3 t3_4 R w := by kernel_rfl
theorem c_transcript_places_1_1 {l_1 : Option Addr} {l_1n : Nat} {l_1c : Nat} {depth_2 : Int} {t2_3 : Option Addr} {t3_4 : Option Addr} {R : Ending → World → Prop} {w : World} (h : sh_transcript_places_1_1 l_1 l_1n l_1c depth_2 t2_3 t3_4 R w) : Calls Tryd.prog F_transcript_places_1_1 ⟨[.slice l_1 l_1n l_1c, .int .i64 depth_2, .pointer t2_3, .pointer t3_4]⟩ w R := calls_of_fnV Tryd.func86 (by rw [e_transcript_places_1_1]; exact h)

def an_ref10_Check : Ann := .two (.leaf) (.two (.two (.leaf) (.two (.leaf) (.two (.two (.leaf) (.leaf)) (.leaf)))) (.two (.two (.leaf) (.two (.leaf) (.two (.two (.leaf) (.leaf)) (.leaf)))) (.two (.two (.leaf) (.two (.two (.leaf) (.leaf)) (.leaf))) (.two (.leaf) (.leaf)))))
def sh_ref10_Check (l_1 : Option Addr) (l_1n : Nat) (l_1c : Nat) (R : Ending → World → Prop) (w : World) : Prop :=
  Calls Tryd.prog 44 ⟨[.slice l_1 l_1n l_1c, .int .i64 16, .int .i64 4096]⟩ w fun (e2 : Ending) (w3 : World) =>
  ∃ (x4 : Int) (x5 : Int) (x6 : Bool), e2 = .returned (.tuple ⟨[.int .i64 x4, .int .i64 x5, .bool x6]⟩) ∧ (br (!x6) (R (.returned (.int .i64 4)) w3) (Calls Tryd.prog 107 ⟨[.slice l_1 l_1n l_1c, .bool false]⟩ w3 fun (e7 : Ending) (w8 : World) =>
  ∃ (x9 : Int), e7 = .returned (.int .i64 x9) ∧ (br (decide ((x9 : Int) ≠ 0)) (R (.returned (.int .i64 x9)) w8) (Calls Tryd.prog 108 ⟨[.slice l_1 l_1n l_1c]⟩ w8 fun (e10 : Ending) (w11 : World) =>
  ∃ (x12 : List UInt8), e10 = .returned (.string ⟨⟨x12⟩⟩) ∧ (br (decide ((65536 : Int) < ((List.length x12 : Int)))) (R (.returned (.int .i64 4)) w11) (R (.returned (.int .i64 0)) w11))))))
set_option maxRecDepth 100000 in
theorem e_ref10_Check (l_1 : Option Addr) (l_1n : Nat) (l_1c : Nat) (R : Ending → World → Prop) (w : World) : fnV Tryd.prog Tryd.f87 an_ref10_Check [.slice l_1 l_1n l_1c] R w = sh_ref10_Check l_1 l_1n l_1c R w := by kernel_rfl
theorem c_ref10_Check {l_1 : Option Addr} {l_1n : Nat} {l_1c : Nat} {R : Ending → World → Prop} {w : World} (h : sh_ref10_Check l_1 l_1n l_1c R w) : Calls Tryd.prog F_ref10_Check ⟨[.slice l_1 l_1n l_1c]⟩ w R := calls_of_fnV Tryd.func87 (by rw [e_ref10_Check]; exact h)

def an_ref12_clean : Ann := .two (.leaf) (.two (.two (.leaf) (.one (.loop 8589934588 [(3, .one (.int .i64))] (.two (.two (.leaf) (.two (.leaf) (.leaf))) (.two (.one (.two (.leaf) (.two (.two (.leaf) (.leaf)) (.leaf)))) (.leaf)))))) (.two (.leaf) (.leaf)))
def sh_ref12_clean (l_1 : Option Addr) (l_1n : Nat) (l_1c : Nat) (R : Ending → World → Prop) (w : World) : Prop :=
  ∃ (I2 : Int → World → Nat → Prop), (∃ m6 : Nat, I2 0 w m6) ∧ ∀ (i_3 : Int) (w4 : World) (m5 : Nat), I2 i_3 w4 m5 → ∀ _ : Env, (br (decide ((i_3 : Int) < ((l_1n : Int)))) (idx l_1 l_1n i_3 4 fun p7 =>
  ∃ (x8 : Int), World.cell? w4 (p7.add 0) = some (.int .i64 x8) ∧ (br (decide ((x8 : Int) = 8)) (R (.returned (.bool false)) w4) (idx l_1 l_1n i_3 4 fun p9 =>
  ∃ (x10 : Int), World.cell? w4 (p9.add 0) = some (.int .i64 x10) ∧ (br (decide ((x10 : Int) = 9)) (R (.returned (.bool false)) w4) (idx l_1 l_1n i_3 4 fun p11 =>
  ∃ (x12 : Option Addr) (x12n : Nat) (x12c : Nat), World.cell? w4 (p11.add 3) = some (.slice x12 x12n x12c) ∧ (Calls Tryd.prog 88 ⟨[.slice x12 x12n x12c]⟩ w4 fun (e13 : Ending) (w14 : World) =>
  ∃ (x15 : Bool), e13 = .returned (.bool x15) ∧ (br (!x15) (R (.returned (.bool false)) w14) (∃ m16 : Nat, m16 < m5 ∧ I2 (IntKind.i64.wrap (i_3 + 1)) w14 m16)))))))) (R (.returned (.bool true)) w4))
set_option maxRecDepth 100000 in
theorem e_ref12_clean (l_1 : Option Addr) (l_1n : Nat) (l_1c : Nat) (R : Ending → World → Prop) (w : World) : fnV Tryd.prog Tryd.f88 an_ref12_clean [.slice l_1 l_1n l_1c] R w = sh_ref12_clean l_1 l_1n l_1c R w := by kernel_rfl
theorem c_ref12_clean {l_1 : Option Addr} {l_1n : Nat} {l_1c : Nat} {R : Ending → World → Prop} {w : World} (h : sh_ref12_clean l_1 l_1n l_1c R w) : Calls Tryd.prog F_ref12_clean ⟨[.slice l_1 l_1n l_1c]⟩ w R := calls_of_fnV Tryd.func88 (by rw [e_ref12_clean]; exact h)

def an_ref12_lost : Ann := .two (.leaf) (.two (.leaf) (.two (.two (.leaf) (.one (.loop 4088 [(3, .one (.str)), (4, .one (.int .i64))] (.two (.two (.leaf) (.two (.leaf) (.leaf))) (.two (.one (.leaf)) (.leaf)))))) (.two (.leaf) (.leaf))))
def sh_ref12_lost (n_1 : Int) (R : Ending → World → Prop) (w : World) : Prop :=
  ∃ (I2 : List UInt8 → Int → World → Nat → Prop), (∃ m7 : Nat, I2 ([]) 0 w m7) ∧ ∀ (out_3 : List UInt8) (i_4 : Int) (w5 : World) (m6 : Nat), I2 out_3 i_4 w5 m6 → ∀ _ : Env, (br (decide ((i_4 : Int) < n_1)) (sadd out_3 ([95]) fun s8 =>
  ∃ m9 : Nat, m9 < m6 ∧ I2 s8 (IntKind.i64.wrap (i_4 + 1)) w5 m9) (R (.returned (.string ⟨⟨out_3⟩⟩)) w5))
set_option maxRecDepth 100000 in
theorem e_ref12_lost (n_1 : Int) (R : Ending → World → Prop) (w : World) : fnV Tryd.prog Tryd.f89 an_ref12_lost [.int .i64 n_1] R w = sh_ref12_lost n_1 R w := by kernel_rfl
theorem c_ref12_lost {n_1 : Int} {R : Ending → World → Prop} {w : World} (h : sh_ref12_lost n_1 R w) : Calls Tryd.prog F_ref12_lost ⟨[.int .i64 n_1]⟩ w R := calls_of_fnV Tryd.func89 (by rw [e_ref12_lost]; exact h)

def an_legibility_all_1 : Ann := .two (.leaf) (.two (.leaf) (.two (.leaf) (.leaf)))
def sh_legibility_all_1 (yield_1 : Fn) (yield_1a : Array Value) (yield_1b : Array Value) (t1_2 : Option Addr) (R : Ending → World → Prop) (w : World) : Prop :=
  al w 113 [.func yield_1 yield_1a yield_1b] fun p3 w4 =>
  al w4 114 [.nilFunc] fun p5 w6 =>
  stL w6 p5 0 [.func (.func 91) ⟨[]⟩ ⟨[.pointer (some p3), .pointer (some p5)]⟩] fun w7 =>
  ∃ (x8 : Fn) (x8a : Array Value) (x8b : Array Value), World.cell? w7 p5 = some (.func x8 x8a x8b) ∧ (dr t1_2 fun p9 =>
  ∃ (x10 : Option Addr) (x10n : Nat) (x10c : Nat), World.cell? w7 p9 = some (.slice x10 x10n x10c) ∧ (CallV Tryd.prog (.func x8 x8a x8b) [.slice x10 x10n x10c, .bool false] w7 fun (e11 : Ending) (w12 : World) =>
  ∃ (x13 : Bool), e11 = .returned (.bool x13) ∧ (R (.returned (.tuple ⟨[]⟩)) w12)))
set_option maxRecDepth 100000 in
theorem e_legibility_all_1 (yield_1 : Fn) (yield_1a : Array Value) (yield_1b : Array Value) (t1_2 : Option Addr) (R : Ending → World → Prop) (w : World) : fnV Tryd.prog Tryd.f90 an_legibility_all_1 [.func yield_1 yield_1a yield_1b, .pointer t1_2] R w = sh_legibility_all_1 yield_1 yield_1a yield_1b t1_2 R w := by kernel_rfl
theorem c_legibility_all_1 {yield_1 : Fn} {yield_1a : Array Value} {yield_1b : Array Value} {t1_2 : Option Addr} {R : Ending → World → Prop} {w : World} (h : sh_legibility_all_1 yield_1 yield_1a yield_1b t1_2 R w) : Calls Tryd.prog F_legibility_all_1 ⟨[.func yield_1 yield_1a yield_1b, .pointer t1_2]⟩ w R := calls_of_fnV Tryd.func90 (by rw [e_legibility_all_1]; exact h)

def an_legibility_all_1_1 : Ann := .two (.leaf) (.two (.two (.leaf) (.one (.loop 17179867456 [(11, .one (.int .i64))] (.two (.leaf) (.two (.two (.leaf) (.leaf)) (.two (.one (.two (.leaf) (.two (.leaf) (.two (.two (.leaf) (.leaf)) (.leaf))))) (.leaf))))))) (.two (.leaf) (.leaf)))
def sh_legibility_all_1_1 (l_1 : Option Addr) (l_1n : Nat) (l_1c : Nat) (unclear_2 : Bool) (t2_3 : Option Addr) (t3_4 : Option Addr) (R : Ending → World → Prop) (w : World) : Prop :=
  ∃ (I5 : Int → World → Nat → Prop), (∃ m9 : Nat, I5 0 w m9) ∧ ∀ (t11_6 : Int) (w7 : World) (m8 : Nat), I5 t11_6 w7 m8 → ∀ _ : Env, (br (decide ((t11_6 : Int) < ((l_1n : Int)))) (idx l_1 l_1n t11_6 4 fun p10 =>
  ∃ (x11 : Int), World.cell? w7 (p10.add 0) = some (.int .i64 x11) ∧ (∃ (x12 : List UInt8), World.cell? w7 (p10.add 1) = some (.string ⟨⟨x12⟩⟩) ∧ (∃ (x13 : Int), World.cell? w7 (p10.add 2) = some (.int .i64 x13) ∧ (∃ (x14 : Option Addr) (x14n : Nat) (x14c : Nat), World.cell? w7 (p10.add 3) = some (.slice x14 x14n x14c) ∧ (al w7 37 [.int .i64 0, .string ⟨⟨[]⟩⟩, .int .i64 0, .slice none 0 0] fun p15 w16 =>
  stL w16 p15 0 [.int .i64 x11, .string ⟨⟨x12⟩⟩, .int .i64 x13, .slice x14 x14n x14c] fun w17 =>
  dr t2_3 fun p18 =>
  ∃ (x19 : Fn) (x19a : Array Value) (x19b : Array Value), World.cell? w17 p18 = some (.func x19 x19a x19b) ∧ (∃ (x20 : Int), World.cell? w17 (p15.add 0) = some (.int .i64 x20) ∧ (∃ (x21 : List UInt8), World.cell? w17 (p15.add 1) = some (.string ⟨⟨x21⟩⟩) ∧ (∃ (x22 : Int), World.cell? w17 (p15.add 2) = some (.int .i64 x22) ∧ (∃ (x23 : Option Addr) (x23n : Nat) (x23c : Nat), World.cell? w17 (p15.add 3) = some (.slice x23 x23n x23c) ∧ (CallV Tryd.prog (.func x19 x19a x19b) [.agg ⟨[.int .i64 x20, .string ⟨⟨x21⟩⟩, .int .i64 x22, .slice x23 x23n x23c]⟩, .bool unclear_2] w17 fun (e24 : Ending) (w25 : World) =>
  ∃ (x26 : Bool), e24 = .returned (.bool x26) ∧ (br (!x26) (R (.returned (.bool false)) w25) (dr t3_4 fun p27 =>
  ∃ (x28 : Fn) (x28a : Array Value) (x28b : Array Value), World.cell? w25 p27 = some (.func x28 x28a x28b) ∧ (∃ (x29 : Option Addr) (x29n : Nat) (x29c : Nat), World.cell? w25 (p15.add 3) = some (.slice x29 x29n x29c) ∧ (br unclear_2 (CallV Tryd.prog (.func x28 x28a x28b) [.slice x29 x29n x29c, .bool true] w25 fun (e30 : Ending) (w31 : World) =>
  ∃ (x32 : Bool), e30 = .returned (.bool x32) ∧ (br (!x32) (R (.returned (.bool false)) w31) (∃ m33 : Nat, m33 < m8 ∧ I5 (IntKind.i64.wrap (t11_6 + 1)) w31 m33))) (∃ (x34 : Int), World.cell? w25 (p15.add 0) = some (.int .i64 x34) ∧ (CallV Tryd.prog (.func x28 x28a x28b) [.slice x29 x29n x29c, .bool (decide ((x34 : Int) = 7))] w25 fun (e35 : Ending) (w36 : World) =>
  ∃ (x37 : Bool), e35 = .returned (.bool x37) ∧ (br (!x37) (R (.returned (.bool false)) w36) (∃ m38 : Nat, m38 < m8 ∧ I5 (IntKind.i64.wrap (t11_6 + 1)) w36 m38)))))))))))))))))) (R (.returned (.bool true)) w7))
set_option maxRecDepth 100000 in
theorem e_legibility_all_1_1 (l_1 : Option Addr) (l_1n : Nat) (l_1c : Nat) (unclear_2 : Bool) (t2_3 : Option Addr) (t3_4 : Option Addr) (R : Ending → World → Prop) (w : World) : fnV Tryd.prog Tryd.f91 an_legibility_all_1_1 [.slice l_1 l_1n l_1c, .bool unclear_2, .pointer t2_3, .pointer t3_4] R w = sh_legibility_all_1_1 l_1 l_1n l_1c unclear_2 t2_3 t3_4 R w := by kernel_rfl
theorem c_legibility_all_1_1 {l_1 : Option Addr} {l_1n : Nat} {l_1c : Nat} {unclear_2 : Bool} {t2_3 : Option Addr} {t3_4 : Option Addr} {R : Ending → World → Prop} {w : World} (h : sh_legibility_all_1_1 l_1 l_1n l_1c unclear_2 t2_3 t3_4 R w) : Calls Tryd.prog F_legibility_all_1_1 ⟨[.slice l_1 l_1n l_1c, .bool unclear_2, .pointer t2_3, .pointer t3_4]⟩ w R := calls_of_fnV Tryd.func91 (by rw [e_legibility_all_1_1]; exact h)

def an_charset_Kind : Ann := .two (.leaf) (.two (.one (.cut 262136 [(3, .one (.bool))] (.leaf) (.two (.two (.leaf) (.leaf)) (.cut 536608768 [(18, .one (.bool))] (.leaf) (.two (.two (.leaf) (.leaf)) (.cut 68182605824 [(29, .one (.bool))] (.leaf) (.two (.two (.leaf) (.leaf)) (.two (.leaf) (.two (.two (.leaf) (.leaf)) (.two (.leaf) (.two (.two (.leaf) (.leaf)) (.two (.leaf) (.two (.two (.leaf) (.leaf)) (.leaf)))))))))))))) (.two (.leaf) (.leaf)))
def sh_charset_Kind (c_1 : Int) (R : Ending → World → Prop) (w : World) : Prop :=
  ∀ (K2 : Bool → World → Prop), (∀ (t3_3 : Bool) (w4 : World), (∀ _ : Env, (br t3_3 (R (.returned (.int .i64 1)) w4) (∀ (K5 : Bool → World → Prop), (∀ (t18_6 : Bool) (w7 : World), (∀ _ : Env, (br t18_6 (R (.returned (.int .i64 2)) w7) (∀ (K8 : Bool → World → Prop), (∀ (t29_9 : Bool) (w10 : World), (∀ _ : Env, (br t29_9 (R (.returned (.int .i64 3)) w10) (br (decide ((c_1 : Int) = 39)) (R (.returned (.int .i64 4)) w10) (br (decide ((c_1 : Int) = 32)) (R (.returned (.int .i64 6)) w10) (br (decide ((c_1 : Int) ≠ 0)) (Calls Tryd.prog 110 ⟨[.string ⟨⟨[46, 44, 59, 58, 33, 63, 40, 41, 45]⟩⟩, .int .u8 c_1]⟩ w10 fun (e11 : Ending) (w12 : World) =>
  ∃ (x13 : Int), e11 = .returned (.int .i64 x13) ∧ (br (decide ((0 : Int) ≤ x13)) (R (.returned (.int .i64 5)) w12) (R (.returned (.int .i64 0)) w12))) (R (.returned (.int .i64 0)) w10)))))) → K8 t29_9 w10) → (br (decide ((48 : Int) ≤ c_1)) (K8 (decide ((c_1 : Int) ≤ 57)) w7) (K8 false w7))))) → K5 t18_6 w7) → (br (decide ((c_1 : Int) = 94)) (K5 true w4) (br (decide ((c_1 : Int) = 126)) (K5 true w4) (K5 (decide ((c_1 : Int) = 37)) w4)))))) → K2 t3_3 w4) → (br (decide ((97 : Int) ≤ c_1)) (br (decide ((c_1 : Int) ≤ 122)) (K2 true w) (br (decide ((65 : Int) ≤ c_1)) (K2 (decide ((c_1 : Int) ≤ 90)) w) (K2 false w))) (br (decide ((65 : Int) ≤ c_1)) (K2 (decide ((c_1 : Int) ≤ 90)) w) (K2 false w)))
set_option maxRecDepth 100000 in
theorem e_charset_Kind (c_1 : Int) (R : Ending → World → Prop) (w : World) : fnV Tryd.prog Tryd.f93 an_charset_Kind [.int .u8 c_1] R w = sh_charset_Kind c_1 R w := by kernel_rfl
theorem c_charset_Kind {c_1 : Int} {R : Ending → World → Prop} {w : World} (h : sh_charset_Kind c_1 R w) : Calls Tryd.prog F_charset_Kind ⟨[.int .u8 c_1]⟩ w R := calls_of_fnV Tryd.func93 (by rw [e_charset_Kind]; exact h)

def an_slices_ContainsFunc_of_byte_byte : Ann := .two (.leaf) (.two (.leaf) (.leaf))
def sh_slices_ContainsFunc_of_byte_byte (s_1 : Option Addr) (s_1n : Nat) (s_1c : Nat) (f_2 : Fn) (f_2a : Array Value) (f_2b : Array Value) (R : Ending → World → Prop) (w : World) : Prop :=
  Calls Tryd.prog 111 ⟨[.slice s_1 s_1n s_1c, .func f_2 f_2a f_2b]⟩ w fun (e3 : Ending) (w4 : World) =>
  ∃ (x5 : Int), e3 = .returned (.int .i64 x5) ∧ (R (.returned (.bool (decide ((0 : Int) ≤ x5)))) w4)
set_option maxRecDepth 100000 in
theorem e_slices_ContainsFunc_of_byte_byte (s_1 : Option Addr) (s_1n : Nat) (s_1c : Nat) (f_2 : Fn) (f_2a : Array Value) (f_2b : Array Value) (R : Ending → World → Prop) (w : World) : fnV Tryd.prog Tryd.f94 an_slices_ContainsFunc_of_byte_byte [.slice s_1 s_1n s_1c, .func f_2 f_2a f_2b] R w = sh_slices_ContainsFunc_of_byte_byte s_1 s_1n s_1c f_2 f_2a f_2b R w := by kernel_rfl
theorem c_slices_ContainsFunc_of_byte_byte {s_1 : Option Addr} {s_1n : Nat} {s_1c : Nat} {f_2 : Fn} {f_2a : Array Value} {f_2b : Array Value} {R : Ending → World → Prop} {w : World} (h : sh_slices_ContainsFunc_of_byte_byte s_1 s_1n s_1c f_2 f_2a f_2b R w) : Calls Tryd.prog F_slices_ContainsFunc_of_byte_byte ⟨[.slice s_1 s_1n s_1c, .func f_2 f_2a f_2b]⟩ w R := calls_of_fnV Tryd.func94 (by rw [e_slices_ContainsFunc_of_byte_byte]; exact h)

def an_charset_IsWord_1 : Ann := .two (.leaf) (.two (.leaf) (.two (.leaf) (.leaf)))
def sh_charset_IsWord_1 (c_1 : Int) (R : Ending → World → Prop) (w : World) : Prop :=
  Calls Tryd.prog 93 ⟨[.int .u8 c_1]⟩ w fun (e2 : Ending) (w3 : World) =>
  ∃ (x4 : Int), e2 = .returned (.int .i64 x4) ∧ (br (decide ((x4 : Int) = 5)) (R (.returned (.bool true)) w3) (R (.returned (.bool (decide ((x4 : Int) = 6)))) w3))
set_option maxRecDepth 100000 in
theorem e_charset_IsWord_1 (c_1 : Int) (R : Ending → World → Prop) (w : World) : fnV Tryd.prog Tryd.f95 an_charset_IsWord_1 [.int .u8 c_1] R w = sh_charset_IsWord_1 c_1 R w := by kernel_rfl
theorem c_charset_IsWord_1 {c_1 : Int} {R : Ending → World → Prop} {w : World} (h : sh_charset_IsWord_1 c_1 R w) : Calls Tryd.prog F_charset_IsWord_1 ⟨[.int .u8 c_1]⟩ w R := calls_of_fnV Tryd.func95 (by rw [e_charset_IsWord_1]; exact h)

def an_charset_clusters : Ann := .two (.leaf) (.two (.leaf) (.leaf))
def sh_charset_clusters (s_1 : List UInt8) (R : Ending → World → Prop) (w : World) : Prop :=
  al w 9 [.string ⟨⟨s_1⟩⟩] fun p2 w3 =>
  R (.returned (.func (.func 112) ⟨[]⟩ ⟨[.pointer (some p2)]⟩)) w3
set_option maxRecDepth 100000 in
theorem e_charset_clusters (s_1 : List UInt8) (R : Ending → World → Prop) (w : World) : fnV Tryd.prog Tryd.f96 an_charset_clusters [.string ⟨⟨s_1⟩⟩] R w = sh_charset_clusters s_1 R w := by kernel_rfl
theorem c_charset_clusters {s_1 : List UInt8} {R : Ending → World → Prop} {w : World} (h : sh_charset_clusters s_1 R w) : Calls Tryd.prog F_charset_clusters ⟨[.string ⟨⟨s_1⟩⟩]⟩ w R := calls_of_fnV Tryd.func96 (by rw [e_charset_clusters]; exact h)

def an_charset_IsName : Ann := .two (.leaf) (.two (.leaf) (.leaf))
def sh_charset_IsName (s_1 : List UInt8) (R : Ending → World → Prop) (w : World) : Prop :=
  br (decide ((s_1 : List UInt8) ≠ ([]))) (br (decide ((((List.length s_1 : Int)) : Int) ≤ 16)) (Calls Tryd.prog 114 ⟨[.string ⟨⟨s_1⟩⟩]⟩ w fun (e2 : Ending) (w3 : World) =>
  ∃ (x4 : Int), e2 = .returned (.int .i64 x4) ∧ (R (.returned (.bool (decide ((x4 : Int) = ((List.length s_1 : Int)))))) w3)) (R (.returned (.bool false)) w)) (R (.returned (.bool false)) w)
set_option maxRecDepth 100000 in
theorem e_charset_IsName (s_1 : List UInt8) (R : Ending → World → Prop) (w : World) : fnV Tryd.prog Tryd.f99 an_charset_IsName [.string ⟨⟨s_1⟩⟩] R w = sh_charset_IsName s_1 R w := by kernel_rfl
theorem c_charset_IsName {s_1 : List UInt8} {R : Ending → World → Prop} {w : World} (h : sh_charset_IsName s_1 R w) : Calls Tryd.prog F_charset_IsName ⟨[.string ⟨⟨s_1⟩⟩]⟩ w R := calls_of_fnV Tryd.func99 (by rw [e_charset_IsName]; exact h)

def an_transcript_marked_1 : Ann := .two (.leaf) (.one (.loop 9007199254740576 [(9, .one (.int .i64))] (.two (.leaf) (.two (.two (.leaf) (.leaf)) (.two (.one (.two (.leaf) (.two (.leaf) (.one (.two (.leaf) (.two (.leaf) (.two (.leaf) (.two (.cut 8761733283840 [] (.leaf) (.two (.leaf) (.leaf))) (.leaf))))))))) (.leaf))))))
def sh_transcript_marked_1 (l_1 : Option Addr) (l_1n : Nat) (l_1c : Nat) (t1_2 : Option Addr) (t2_3 : Option Addr) (R : Ending → World → Prop) (w : World) : Prop :=
  ∃ (I4 : Int → World → Nat → Prop), (∃ m8 : Nat, I4 0 w m8) ∧ ∀ (t9_5 : Int) (w6 : World) (m7 : Nat), I4 t9_5 w6 m7 → ∀ _ : Env, (br (decide ((t9_5 : Int) < ((l_1n : Int)))) (idx l_1 l_1n t9_5 4 fun p9 =>
  ∃ (x10 : Int), World.cell? w6 (p9.add 0) = some (.int .i64 x10) ∧ (∃ (x11 : List UInt8), World.cell? w6 (p9.add 1) = some (.string ⟨⟨x11⟩⟩) ∧ (∃ (x12 : Int), World.cell? w6 (p9.add 2) = some (.int .i64 x12) ∧ (∃ (x13 : Option Addr) (x13n : Nat) (x13c : Nat), World.cell? w6 (p9.add 3) = some (.slice x13 x13n x13c) ∧ (al w6 37 [.int .i64 0, .string ⟨⟨[]⟩⟩, .int .i64 0, .slice none 0 0] fun p14 w15 =>
  stL w15 p14 0 [.int .i64 x10, .string ⟨⟨x11⟩⟩, .int .i64 x12, .slice x13 x13n x13c] fun w16 =>
  ∃ (x17 : Int), World.cell? w16 (p14.add 0) = some (.int .i64 x17) ∧ (idx (some (⟨0, 0, none⟩)) 12 x17 4 fun p18 =>
  ∃ (x19 : List UInt8), World.cell? w16 (p18.add 0) = some (.string ⟨⟨x19⟩⟩) ∧ (∃ (x20 : Bool), World.cell? w16 (p18.add 1) = some (.bool x20) ∧ (∃ (x21 : Bool), World.cell? w16 (p18.add 2) = some (.bool x21) ∧ (∃ (x22 : Bool), World.cell? w16 (p18.add 3) = some (.bool x22) ∧ (al w16 123 [.string ⟨⟨[]⟩⟩, .bool false, .bool false, .bool false] fun p23 w24 =>
  stL w24 p23 0 [.string ⟨⟨x19⟩⟩, .bool x20, .bool x21, .bool x22] fun w25 =>
  ∃ (x26 : Int), World.cell? w25 (p14.add 0) = some (.int .i64 x26) ∧ (br (decide ((x26 : Int) = 1)) (∃ (x27 : List UInt8), World.cell? w25 (p14.add 1) = some (.string ⟨⟨x27⟩⟩) ∧ (Calls Tryd.prog 61 ⟨[.pointer t1_2, .string ⟨⟨x27⟩⟩]⟩ w25 fun (e28 : Ending) (w29 : World) =>
  ∃ (x30 : Int) (x31 : Value), e28 = .returned (.tuple ⟨[.int .i64 x30, x31]⟩) ∧ (∃ m32 : Nat, m32 < m7 ∧ I4 (IntKind.i64.wrap (t9_5 + 1)) w29 m32))) (∃ (x33 : Bool), World.cell? w25 (p23.add 3) = some (.bool x33) ∧ (br x33 (∀ (K34 : World → Prop), (∀  (w35 : World), (∀ _ : Env, (dr t2_3 fun p36 =>
  ∃ (x37 : Fn) (x37a : Array Value) (x37b : Array Value), World.cell? w35 p36 = some (.func x37 x37a x37b) ∧ (∃ (x38 : Option Addr) (x38n : Nat) (x38c : Nat), World.cell? w35 (p14.add 3) = some (.slice x38 x38n x38c) ∧ (CallV Tryd.prog (.func x37 x37a x37b) [.slice x38 x38n x38c] w35 fun (e39 : Ending) (w40 : World) =>
  e39 = .returned (.tuple ⟨[]⟩) ∧ (∃ (x41 : List UInt8), World.cell? w40 (p23.add 0) = some (.string ⟨⟨x41⟩⟩) ∧ (sadd ([60, 47]) x41 fun s42 =>
  sadd s42 ([62]) fun s43 =>
  Calls Tryd.prog 61 ⟨[.pointer t1_2, .string ⟨⟨s43⟩⟩]⟩ w40 fun (e44 : Ending) (w45 : World) =>
  ∃ (x46 : Int) (x47 : Value), e44 = .returned (.tuple ⟨[.int .i64 x46, x47]⟩) ∧ (∃ m48 : Nat, m48 < m7 ∧ I4 (IntKind.i64.wrap (t9_5 + 1)) w45 m48))))))) → K34 w35) → (drw w25 fun w49 =>
  (∃ (x50 : List UInt8), World.cell? w49 (p23.add 0) = some (.string ⟨⟨x50⟩⟩) ∧ (sadd ([60]) x50 fun s51 =>
  ∃ (x52 : Int), World.cell? w49 (p14.add 0) = some (.int .i64 x52) ∧ (∃ (x53 : List UInt8), World.cell? w49 (p14.add 1) = some (.string ⟨⟨x53⟩⟩) ∧ (∃ (x54 : Int), World.cell? w49 (p14.add 2) = some (.int .i64 x54) ∧ (∃ (x55 : Option Addr) (x55n : Nat) (x55c : Nat), World.cell? w49 (p14.add 3) = some (.slice x55 x55n x55c) ∧ ((Calls Tryd.prog 101 ⟨[.agg ⟨[.int .i64 x52, .string ⟨⟨x53⟩⟩, .int .i64 x54, .slice x55 x55n x55c]⟩]⟩ w49 fun (e56 : Ending) (w57 : World) =>
  ∃ (x58 : List UInt8), e56 = .returned (.string ⟨⟨x58⟩⟩) ∧ (sadd s51 x58 fun s59 =>
  sadd s59 ([62]) fun s60 =>
  (Calls Tryd.prog 61 ⟨[.pointer t1_2, .string ⟨⟨s60⟩⟩]⟩ w57 fun (e61 : Ending) (w62 : World) =>
  ∃ (x63 : Int) (x64 : Value), e61 = .returned (.tuple ⟨[.int .i64 x63, x64]⟩) ∧ (K34 w62)) ∧ True)) ∧ True)))))) ∧ (∃ (x65 : Int), World.cell? w49 (p14.add 0) = some (.int .i64 x65) ∧ (∃ (x66 : List UInt8), World.cell? w49 (p14.add 1) = some (.string ⟨⟨x66⟩⟩) ∧ (∃ (x67 : Int), World.cell? w49 (p14.add 2) = some (.int .i64 x67) ∧ (∃ (x68 : Option Addr) (x68n : Nat) (x68c : Nat), World.cell? w49 (p14.add 3) = some (.slice x68 x68n x68c) ∧ ((∃ (x69 : List UInt8), World.cell? w49 (p23.add 0) = some (.string ⟨⟨x69⟩⟩) ∧ (sadd ([60]) x69 fun s70 =>
  (Calls Tryd.prog 101 ⟨[.agg ⟨[.int .i64 x65, .string ⟨⟨x66⟩⟩, .int .i64 x67, .slice x68 x68n x68c]⟩]⟩ w49 fun (e71 : Ending) (w72 : World) =>
  ∃ (x73 : List UInt8), e71 = .returned (.string ⟨⟨x73⟩⟩) ∧ (sadd s70 x73 fun s74 =>
  sadd s74 ([62]) fun s75 =>
  (Calls Tryd.prog 61 ⟨[.pointer t1_2, .string ⟨⟨s75⟩⟩]⟩ w72 fun (e76 : Ending) (w77 : World) =>
  ∃ (x78 : Int) (x79 : Value), e76 = .returned (.tuple ⟨[.int .i64 x78, x79]⟩) ∧ (K34 w77)) ∧ True)) ∧ True)) ∧ (Calls Tryd.prog 101 ⟨[.agg ⟨[.int .i64 x65, .string ⟨⟨x66⟩⟩, .int .i64 x67, .slice x68 x68n x68c]⟩]⟩ w49 fun (e80 : Ending) (w81 : World) =>
  ∃ (x82 : List UInt8), e80 = .returned (.string ⟨⟨x82⟩⟩) ∧ (∃ (x83 : List UInt8), World.cell? w81 (p23.add 0) = some (.string ⟨⟨x83⟩⟩) ∧ (sadd ([60]) x83 fun s84 =>
  sadd s84 x82 fun s85 =>
  sadd s85 ([62]) fun s86 =>
  (Calls Tryd.prog 61 ⟨[.pointer t1_2, .string ⟨⟨s86⟩⟩]⟩ w81 fun (e87 : Ending) (w88 : World) =>
  ∃ (x89 : Int) (x90 : Value), e87 = .returned (.tuple ⟨[.int .i64 x89, x90]⟩) ∧ (K34 w88)) ∧ True))) ∧ True))))) ∧ True)) (drw w25 fun w91 =>
  (∃ (x92 : List UInt8), World.cell? w91 (p23.add 0) = some (.string ⟨⟨x92⟩⟩) ∧ (sadd ([60]) x92 fun s93 =>
  ∃ (x94 : Int), World.cell? w91 (p14.add 0) = some (.int .i64 x94) ∧ (∃ (x95 : List UInt8), World.cell? w91 (p14.add 1) = some (.string ⟨⟨x95⟩⟩) ∧ (∃ (x96 : Int), World.cell? w91 (p14.add 2) = some (.int .i64 x96) ∧ (∃ (x97 : Option Addr) (x97n : Nat) (x97c : Nat), World.cell? w91 (p14.add 3) = some (.slice x97 x97n x97c) ∧ ((Calls Tryd.prog 101 ⟨[.agg ⟨[.int .i64 x94, .string ⟨⟨x95⟩⟩, .int .i64 x96, .slice x97 x97n x97c]⟩]⟩ w91 fun (e98 : Ending) (w99 : World) =>
  ∃ (x100 : List UInt8), e98 = .returned (.string ⟨⟨x100⟩⟩) ∧ (sadd s93 x100 fun s101 =>
  sadd s101 ([47, 62]) fun s102 =>
  (Calls Tryd.prog 61 ⟨[.pointer t1_2, .string ⟨⟨s102⟩⟩]⟩ w99 fun (e103 : Ending) (w104 : World) =>
  ∃ (x105 : Int) (x106 : Value), e103 = .returned (.tuple ⟨[.int .i64 x105, x106]⟩) ∧ (∃ m107 : Nat, m107 < m7 ∧ I4 (IntKind.i64.wrap (t9_5 + 1)) w104 m107)) ∧ True)) ∧ True)))))) ∧ (∃ (x108 : Int), World.cell? w91 (p14.add 0) = some (.int .i64 x108) ∧ (∃ (x109 : List UInt8), World.cell? w91 (p14.add 1) = some (.string ⟨⟨x109⟩⟩) ∧ (∃ (x110 : Int), World.cell? w91 (p14.add 2) = some (.int .i64 x110) ∧ (∃ (x111 : Option Addr) (x111n : Nat) (x111c : Nat), World.cell? w91 (p14.add 3) = some (.slice x111 x111n x111c) ∧ ((∃ (x112 : List UInt8), World.cell? w91 (p23.add 0) = some (.string ⟨⟨x112⟩⟩) ∧ (sadd ([60]) x112 fun s113 =>
  (Calls Tryd.prog 101 ⟨[.agg ⟨[.int .i64 x108, .string ⟨⟨x109⟩⟩, .int .i64 x110, .slice x111 x111n x111c]⟩]⟩ w91 fun (e114 : Ending) (w115 : World) =>
  ∃ (x116 : List UInt8), e114 = .returned (.string ⟨⟨x116⟩⟩) ∧ (sadd s113 x116 fun s117 =>
  sadd s117 ([47, 62]) fun s118 =>
  (Calls Tryd.prog 61 ⟨[.pointer t1_2, .string ⟨⟨s118⟩⟩]⟩ w115 fun (e119 : Ending) (w120 : World) =>
  ∃ (x121 : Int) (x122 : Value), e119 = .returned (.tuple ⟨[.int .i64 x121, x122]⟩) ∧ (∃ m123 : Nat, m123 < m7 ∧ I4 (IntKind.i64.wrap (t9_5 + 1)) w120 m123)) ∧ True)) ∧ True)) ∧ (Calls Tryd.prog 101 ⟨[.agg ⟨[.int .i64 x108, .string ⟨⟨x109⟩⟩, .int .i64 x110, .slice x111 x111n x111c]⟩]⟩ w91 fun (e124 : Ending) (w125 : World) =>
  ∃ (x126 : List UInt8), e124 = .returned (.string ⟨⟨x126⟩⟩) ∧ (∃ (x127 : List UInt8), World.cell? w125 (p23.add 0) = some (.string ⟨⟨x127⟩⟩) ∧ (sadd ([60]) x127 fun s128 =>
  sadd s128 x126 fun s129 =>
  sadd s129 ([47, 62]) fun s130 =>
  (Calls Tryd.prog 61 ⟨[.pointer t1_2, .string ⟨⟨s130⟩⟩]⟩ w125 fun (e131 : Ending) (w132 : World) =>
  ∃ (x133 : Int) (x134 : Value), e131 = .returned (.tuple ⟨[.int .i64 x133, x134]⟩) ∧ (∃ m135 : Nat, m135 < m7 ∧ I4 (IntKind.i64.wrap (t9_5 + 1)) w132 m135)) ∧ True))) ∧ True))))) ∧ True)))))))))))))) (R (.returned (.tuple ⟨[]⟩)) w6))
set_option maxRecDepth 100000 in
theorem e_transcript_marked_1 (l_1 : Option Addr) (l_1n : Nat) (l_1c : Nat) (t1_2 : Option Addr) (t2_3 : Option Addr) (R : Ending → World → Prop) (w : World) : fnV Tryd.prog Tryd.f100 an_transcript_marked_1 [.slice l_1 l_1n l_1c, .pointer t1_2, .pointer t2_3] R w = sh_transcript_marked_1 l_1 l_1n l_1c t1_2 t2_3 R w := by kernel_rfl
theorem c_transcript_marked_1 {l_1 : Option Addr} {l_1n : Nat} {l_1c : Nat} {t1_2 : Option Addr} {t2_3 : Option Addr} {R : Ending → World → Prop} {w : World} (h : sh_transcript_marked_1 l_1 l_1n l_1c t1_2 t2_3 R w) : Calls Tryd.prog F_transcript_marked_1 ⟨[.slice l_1 l_1n l_1c, .pointer t1_2, .pointer t2_3]⟩ w R := calls_of_fnV Tryd.func100 (by rw [e_transcript_marked_1]; exact h)

def an_transcript_value : Ann := .two (.leaf) (.two (.leaf) (.two (.one (.two (.leaf) (.two (.two (.leaf) (.leaf)) (.two (.leaf) (.two (.two (.leaf) (.leaf)) (.leaf)))))) (.two (.leaf) (.leaf))))
def sh_transcript_value (x_1 : Int) (x_2 : List UInt8) (x_3 : Int) (x_4 : Option Addr) (x_4n : Nat) (x_4c : Nat) (R : Ending → World → Prop) (w : World) : Prop :=
  al w 37 [.int .i64 x_1, .string ⟨⟨x_2⟩⟩, .int .i64 x_3, .slice x_4 x_4n x_4c] fun p5 w6 =>
  ∃ (x7 : Int), World.cell? w6 (p5.add 0) = some (.int .i64 x7) ∧ (idx (some (⟨0, 0, none⟩)) 12 x7 4 fun p8 =>
  ∃ (x9 : List UInt8), World.cell? w6 (p8.add 0) = some (.string ⟨⟨x9⟩⟩) ∧ (∃ (x10 : Bool), World.cell? w6 (p8.add 1) = some (.bool x10) ∧ (∃ (x11 : Bool), World.cell? w6 (p8.add 2) = some (.bool x11) ∧ (∃ (x12 : Bool), World.cell? w6 (p8.add 3) = some (.bool x12) ∧ (al w6 123 [.string ⟨⟨[]⟩⟩, .bool false, .bool false, .bool false] fun p13 w14 =>
  stL w14 p13 0 [.string ⟨⟨x9⟩⟩, .bool x10, .bool x11, .bool x12] fun w15 =>
  ∃ (x16 : Bool), World.cell? w15 (p13.add 1) = some (.bool x16) ∧ (br x16 (∃ (x17 : List UInt8), World.cell? w15 (p5.add 1) = some (.string ⟨⟨x17⟩⟩) ∧ (sadd ([32]) x17 fun s18 =>
  R (.returned (.string ⟨⟨s18⟩⟩)) w15)) (∃ (x19 : Bool), World.cell? w15 (p13.add 2) = some (.bool x19) ∧ (br x19 (∃ (x20 : Int), World.cell? w15 (p5.add 2) = some (.int .i64 x20) ∧ (Calls Tryd.prog 115 ⟨[.int .i64 x20]⟩ w15 fun (e21 : Ending) (w22 : World) =>
  ∃ (x23 : List UInt8), e21 = .returned (.string ⟨⟨x23⟩⟩) ∧ (sadd ([32]) x23 fun s24 =>
  R (.returned (.string ⟨⟨s24⟩⟩)) w22))) (R (.returned (.string ⟨⟨[]⟩⟩)) w15)))))))))
set_option maxRecDepth 100000 in
theorem e_transcript_value (x_1 : Int) (x_2 : List UInt8) (x_3 : Int) (x_4 : Option Addr) (x_4n : Nat) (x_4c : Nat) (R : Ending → World → Prop) (w : World) : fnV Tryd.prog Tryd.f101 an_transcript_value [.agg ⟨[.int .i64 x_1, .string ⟨⟨x_2⟩⟩, .int .i64 x_3, .slice x_4 x_4n x_4c]⟩] R w = sh_transcript_value x_1 x_2 x_3 x_4 x_4n x_4c R w := by kernel_rfl
theorem c_transcript_value {x_1 : Int} {x_2 : List UInt8} {x_3 : Int} {x_4 : Option Addr} {x_4n : Nat} {x_4c : Nat} {R : Ending → World → Prop} {w : World} (h : sh_transcript_value x_1 x_2 x_3 x_4 x_4n x_4c R w) : Calls Tryd.prog F_transcript_value ⟨[.agg ⟨[.int .i64 x_1, .string ⟨⟨x_2⟩⟩, .int .i64 x_3, .slice x_4 x_4n x_4c]⟩]⟩ w R := calls_of_fnV Tryd.func101 (by rw [e_transcript_value]; exact h)

def an_ref10_all : Ann := .two (.leaf) (.two (.two (.leaf) (.one (.loop 8796093022192 [(5, .one (.int .i64))] (.two (.two (.leaf) (.two (.leaf) (.leaf))) (.two (.one (.two (.cut 2147467328 [(6, .one (.int .i64))] (.leaf) (.two (.leaf) (.two (.two (.leaf) (.leaf)) (.leaf)))) (.two (.leaf) (.two (.leaf) (.two (.two (.leaf) (.leaf)) (.leaf)))))) (.leaf)))))) (.two (.leaf) (.leaf)))
def sh_ref10_all (l_1 : Option Addr) (l_1n : Nat) (l_1c : Nat) (within_2 : Bool) (R : Ending → World → Prop) (w : World) : Prop :=
  ∃ (I3 : Int → World → Nat → Prop), (∃ m7 : Nat, I3 0 w m7) ∧ ∀ (i_4 : Int) (w5 : World) (m6 : Nat), I3 i_4 w5 m6 → ∀ _ : Env, (br (decide ((i_4 : Int) < ((l_1n : Int)))) (∀ (K8 : Int → World → Prop), (∀ (e_9 : Int) (w10 : World), (∀ _ : Env, (br (decide ((e_9 : Int) ≠ 0)) (R (.returned (.int .i64 e_9)) w10) (idx l_1 l_1n i_4 4 fun p11 =>
  ∃ (x12 : Option Addr) (x12n : Nat) (x12c : Nat), World.cell? w10 (p11.add 3) = some (.slice x12 x12n x12c) ∧ (Calls Tryd.prog 107 ⟨[.slice x12 x12n x12c, .bool true]⟩ w10 fun (e13 : Ending) (w14 : World) =>
  ∃ (x15 : Int), e13 = .returned (.int .i64 x15) ∧ (br (decide ((x15 : Int) ≠ 0)) (R (.returned (.int .i64 x15)) w14) (∃ m16 : Nat, m16 < m6 ∧ I3 (IntKind.i64.wrap (i_4 + 1)) w14 m16)))))) → K8 e_9 w10) → (drw w5 fun w17 =>
  idx l_1 l_1n i_4 4 fun p18 =>
  ∃ (x19 : Int), World.cell? w17 (p18.add 0) = some (.int .i64 x19) ∧ (∃ (x20 : List UInt8), World.cell? w17 (p18.add 1) = some (.string ⟨⟨x20⟩⟩) ∧ (∃ (x21 : Int), World.cell? w17 (p18.add 2) = some (.int .i64 x21) ∧ (∃ (x22 : Option Addr) (x22n : Nat) (x22c : Nat), World.cell? w17 (p18.add 3) = some (.slice x22 x22n x22c) ∧ (br (decide ((0 : Int) < i_4)) (idx l_1 l_1n (IntKind.i64.wrap (i_4 - 1)) 4 fun p23 =>
  ∃ (x24 : Int), World.cell? w17 (p23.add 0) = some (.int .i64 x24) ∧ ((Calls Tryd.prog 122 ⟨[.agg ⟨[.int .i64 x19, .string ⟨⟨x20⟩⟩, .int .i64 x21, .slice x22 x22n x22c]⟩, .bool (decide ((x24 : Int) = 1)), .bool within_2]⟩ w17 fun (e25 : Ending) (w26 : World) =>
  ∃ (x27 : Int), e25 = .returned (.int .i64 x27) ∧ (K8 x27 w26)) ∧ True)) ((Calls Tryd.prog 122 ⟨[.agg ⟨[.int .i64 x19, .string ⟨⟨x20⟩⟩, .int .i64 x21, .slice x22 x22n x22c]⟩, .bool false, .bool within_2]⟩ w17 fun (e28 : Ending) (w29 : World) =>
  ∃ (x30 : Int), e28 = .returned (.int .i64 x30) ∧ (K8 x30 w29)) ∧ True))))))) (R (.returned (.int .i64 0)) w5))
set_option maxRecDepth 100000 in
theorem e_ref10_all (l_1 : Option Addr) (l_1n : Nat) (l_1c : Nat) (within_2 : Bool) (R : Ending → World → Prop) (w : World) : fnV Tryd.prog Tryd.f107 an_ref10_all [.slice l_1 l_1n l_1c, .bool within_2] R w = sh_ref10_all l_1 l_1n l_1c within_2 R w := by kernel_rfl
theorem c_ref10_all {l_1 : Option Addr} {l_1n : Nat} {l_1c : Nat} {within_2 : Bool} {R : Ending → World → Prop} {w : World} (h : sh_ref10_all l_1 l_1n l_1c within_2 R w) : Calls Tryd.prog F_ref10_all ⟨[.slice l_1 l_1n l_1c, .bool within_2]⟩ w R := calls_of_fnV Tryd.func107 (by rw [e_ref10_all]; exact h)

end Go.Proofs
