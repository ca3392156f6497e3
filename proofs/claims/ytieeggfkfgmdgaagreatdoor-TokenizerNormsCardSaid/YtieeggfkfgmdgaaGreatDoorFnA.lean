/- Written by program: for each function its verification condition, that it is the code's (by the kernel), and that it gives the call. -/
import Derived.Test.YtieeggfkfgmdgaaGreatDoorFn
namespace Go.Proofs
open Go Go.Sh
def an_law15_TokenizerCharacters : Ann := .two (.leaf) (.two (.leaf) (.two (.two (.leaf) (.two (.two (.leaf) (.leaf)) (.leaf))) (.two (.leaf) (.two (.two (.leaf) (.one (.loop 70366596705280 [(10, .one (.str)), (11, .one (.int .i64)), (31, .one (.int .i64))] (.two (.leaf) (.two (.two (.leaf) (.leaf)) (.two (.one (.two (.leaf) (.two (.two (.leaf) (.two (.two (.leaf) (.leaf)) (.leaf))) (.leaf)))) (.leaf))))))) (.two (.leaf) (.two (.leaf) (.two (.leaf) (.leaf))))))))
def sh_law15_TokenizerCharacters (l_1 : Option Addr) (l_1n : Nat) (l_1c : Nat) (hand_2 : Int) (rules_3 : Option Addr) (rules_3n : Nat) (rules_3c : Nat) (R : Ending → World → Prop) (w : World) : Prop :=
  Calls Tryz.prog 9 ⟨[.slice l_1 l_1n l_1c, .int .u8 hand_2, .slice rules_3 rules_3n rules_3c]⟩ w fun (e4 : Ending) (w5 : World) =>
  ∃ (x6 : Option Addr) (x6n : Nat) (x6c : Nat) (x7 : Option Addr) (x7n : Nat) (x7c : Nat) (x8 : Bool), e4 = .returned (.tuple ⟨[.slice x6 x6n x6c, .slice x7 x7n x7c, .bool x8]⟩) ∧ (br (!x8) (Calls Tryz.prog 10 ⟨[]⟩ w5 fun (e9 : Ending) (w10 : World) =>
  ∃ (x11 : Bool), e9 = .returned (.bool x11) ∧ (R (.returned (.bool x11)) w10)) (∃ (I12 : List UInt8 → Int → Int → World → Nat → Prop), (∃ m18 : Nat, I12 ([]) 0 0 w5 m18) ∧ ∀ (all_13 : List UInt8) (gaps_14 : Int) (t31_15 : Int) (w16 : World) (m17 : Nat), I12 all_13 gaps_14 t31_15 w16 m17 → ∀ _ : Env, (br (decide ((t31_15 : Int) < ((x6n : Int)))) (idx x6 x6n t31_15 6 fun p19 =>
  ∃ (x20 : List UInt8), World.cell? w16 (p19.add 0) = some (.string ⟨⟨x20⟩⟩) ∧ (∃ (x21 : List UInt8), World.cell? w16 (p19.add 1) = some (.string ⟨⟨x21⟩⟩) ∧ (∃ (x22 : List UInt8), World.cell? w16 (p19.add 2) = some (.string ⟨⟨x22⟩⟩) ∧ (∃ (x23 : Int), World.cell? w16 (p19.add 3) = some (.int .i64 x23) ∧ (∃ (x24 : Int), World.cell? w16 (p19.add 4) = some (.int .i64 x24) ∧ (∃ (x25 : List UInt8), World.cell? w16 (p19.add 5) = some (.string ⟨⟨x25⟩⟩) ∧ (al w16 31 [.string ⟨⟨[]⟩⟩, .string ⟨⟨[]⟩⟩, .string ⟨⟨[]⟩⟩, .int .i64 0, .int .i64 0, .string ⟨⟨[]⟩⟩] fun p26 w27 =>
  stL w27 p26 0 [.string ⟨⟨x20⟩⟩, .string ⟨⟨x21⟩⟩, .string ⟨⟨x22⟩⟩, .int .i64 x23, .int .i64 x24, .string ⟨⟨x25⟩⟩] fun w28 =>
  ∃ (x29 : Int), World.cell? w28 (p26.add 4) = some (.int .i64 x29) ∧ (br (decide (((bitA .i64 x29 2) : Int) ≠ 0)) (∃ m30 : Nat, m30 < m17 ∧ I12 all_13 (IntKind.i64.wrap (gaps_14 + 1)) (IntKind.i64.wrap (t31_15 + 1)) w28 m30) (∃ (x31 : List UInt8), World.cell? w28 (p26.add 0) = some (.string ⟨⟨x31⟩⟩) ∧ (sadd all_13 x31 fun s32 =>
  ∃ m33 : Nat, m33 < m17 ∧ I12 s32 gaps_14 (IntKind.i64.wrap (t31_15 + 1)) w28 m33)))))))))) (Calls Tryz.prog 11 ⟨[.slice x7 x7n x7c]⟩ w16 fun (e34 : Ending) (w35 : World) =>
  ∃ (x36 : List UInt8) (x37 : Int), e34 = .returned (.tuple ⟨[.string ⟨⟨x36⟩⟩, .int .i64 x37]⟩) ∧ (Calls Tryz.prog 12 ⟨[.slice x7 x7n x7c, .int .i64 6]⟩ w35 fun (e38 : Ending) (w39 : World) =>
  ∃ (x40 : Int) (x41 : Int), e38 = .returned (.tuple ⟨[.int .i64 x40, .int .i64 x41]⟩) ∧ (br (decide ((x37 : Int) = 0)) (br (decide ((x41 : Int) = 0)) (Calls Tryz.prog 13 ⟨[.string ⟨⟨x36⟩⟩, .string ⟨⟨[32]⟩⟩, .string ⟨⟨[]⟩⟩]⟩ w39 fun (e42 : Ending) (w43 : World) =>
  ∃ (x44 : List UInt8), e42 = .returned (.string ⟨⟨x44⟩⟩) ∧ (br (decide ((all_13 : List UInt8) = x44)) (br (decide ((gaps_14 : Int) = x40)) (Calls Tryz.prog 10 ⟨[]⟩ w43 fun (e45 : Ending) (w46 : World) =>
  ∃ (x47 : Bool), e45 = .returned (.bool x47) ∧ (R (.returned (.bool x47)) w46)) (R (.returned (.bool false)) w43)) (R (.returned (.bool false)) w43))) (R (.returned (.bool false)) w39)) (R (.returned (.bool false)) w39)))))))
set_option maxRecDepth 100000 in
theorem e_law15_TokenizerCharacters (l_1 : Option Addr) (l_1n : Nat) (l_1c : Nat) (hand_2 : Int) (rules_3 : Option Addr) (rules_3n : Nat) (rules_3c : Nat) (R : Ending → World → Prop) (w : World) : fnV Tryz.prog Tryz.f3 an_law15_TokenizerCharacters [.slice l_1 l_1n l_1c, .int .u8 hand_2, .slice rules_3 rules_3n rules_3c] R w = sh_law15_TokenizerCharacters l_1 l_1n l_1c hand_2 rules_3 rules_3n rules_3c R w := by kernel_rfl
theorem c_law15_TokenizerCharacters {l_1 : Option Addr} {l_1n : Nat} {l_1c : Nat} {hand_2 : Int} {rules_3 : Option Addr} {rules_3n : Nat} {rules_3c : Nat} {R : Ending → World → Prop} {w : World} (h : sh_law15_TokenizerCharacters l_1 l_1n l_1c hand_2 rules_3 rules_3n rules_3c R w) : Calls Tryz.prog F_law15_TokenizerCharacters ⟨[.slice l_1 l_1n l_1c, .int .u8 hand_2, .slice rules_3 rules_3n rules_3c]⟩ w R := calls_of_fnV Tryz.func3 (by rw [e_law15_TokenizerCharacters]; exact h)

def an_law15_TokenizerValid : Ann := .two (.leaf) (.two (.leaf) (.two (.two (.leaf) (.two (.two (.leaf) (.leaf)) (.leaf))) (.two (.two (.leaf) (.one (.loop 9444732965739223325760 [(26, .one (.int .i64))] (.two (.leaf) (.two (.two (.leaf) (.leaf)) (.two (.one (.two (.leaf) (.two (.leaf) (.cut 36028762659225664 [] (.two (.leaf) (.two (.two (.leaf) (.leaf)) (.leaf))) (.two (.leaf) (.two (.two (.leaf) (.leaf)) (.leaf))))))) (.leaf))))))) (.two (.leaf) (.leaf)))))
def sh_law15_TokenizerValid (l_1 : Option Addr) (l_1n : Nat) (l_1c : Nat) (hand_2 : Int) (rules_3 : Option Addr) (rules_3n : Nat) (rules_3c : Nat) (R : Ending → World → Prop) (w : World) : Prop :=
  Calls Tryz.prog 9 ⟨[.slice l_1 l_1n l_1c, .int .u8 hand_2, .slice rules_3 rules_3n rules_3c]⟩ w fun (e4 : Ending) (w5 : World) =>
  ∃ (x6 : Option Addr) (x6n : Nat) (x6c : Nat) (x7 : Option Addr) (x7n : Nat) (x7c : Nat) (x8 : Bool), e4 = .returned (.tuple ⟨[.slice x6 x6n x6c, .slice x7 x7n x7c, .bool x8]⟩) ∧ (br (!x8) (Calls Tryz.prog 10 ⟨[]⟩ w5 fun (e9 : Ending) (w10 : World) =>
  ∃ (x11 : Bool), e9 = .returned (.bool x11) ∧ (R (.returned (.bool x11)) w10)) (∃ (I12 : Int → World → Nat → Prop), (∃ m16 : Nat, I12 0 w5 m16) ∧ ∀ (t26_13 : Int) (w14 : World) (m15 : Nat), I12 t26_13 w14 m15 → ∀ _ : Env, (br (decide ((t26_13 : Int) < ((x6n : Int)))) (idx x6 x6n t26_13 6 fun p17 =>
  ∃ (x18 : List UInt8), World.cell? w14 (p17.add 0) = some (.string ⟨⟨x18⟩⟩) ∧ (∃ (x19 : List UInt8), World.cell? w14 (p17.add 1) = some (.string ⟨⟨x19⟩⟩) ∧ (∃ (x20 : List UInt8), World.cell? w14 (p17.add 2) = some (.string ⟨⟨x20⟩⟩) ∧ (∃ (x21 : Int), World.cell? w14 (p17.add 3) = some (.int .i64 x21) ∧ (∃ (x22 : Int), World.cell? w14 (p17.add 4) = some (.int .i64 x22) ∧ (∃ (x23 : List UInt8), World.cell? w14 (p17.add 5) = some (.string ⟨⟨x23⟩⟩) ∧ (al w14 31 [.string ⟨⟨[]⟩⟩, .string ⟨⟨[]⟩⟩, .string ⟨⟨[]⟩⟩, .int .i64 0, .int .i64 0, .string ⟨⟨[]⟩⟩] fun p24 w25 =>
  stL w25 p24 0 [.string ⟨⟨x18⟩⟩, .string ⟨⟨x19⟩⟩, .string ⟨⟨x20⟩⟩, .int .i64 x21, .int .i64 x22, .string ⟨⟨x23⟩⟩] fun w26 =>
  ∃ (x27 : Int), World.cell? w26 (p24.add 4) = some (.int .i64 x27) ∧ (∀ (K28 : World → Prop), (∀  (w29 : World), (∀ _ : Env, (br (decide (((bitA .i64 x27 10) : Int) = 0)) (∃ (x30 : Int), World.cell? w29 (p24.add 4) = some (.int .i64 x30) ∧ (br (decide (((bitA .i64 x30 16) : Int) ≠ 0)) (idx x6 x6n (IntKind.i64.wrap (t26_13 - 1)) 6 fun p31 =>
  ∃ (x32 : Int), World.cell? w29 (p31.add 4) = some (.int .i64 x32) ∧ (br (decide (((bitA .i64 x32 10) : Int) = 0)) (R (.returned (.bool false)) w29) (∃ m33 : Nat, m33 < m15 ∧ I12 (IntKind.i64.wrap (t26_13 + 1)) w29 m33))) (∃ m34 : Nat, m34 < m15 ∧ I12 (IntKind.i64.wrap (t26_13 + 1)) w29 m34))) (∃ m35 : Nat, m35 < m15 ∧ I12 (IntKind.i64.wrap (t26_13 + 1)) w29 m35))) → K28 w29) → (∃ (x36 : List UInt8), World.cell? w26 (p24.add 0) = some (.string ⟨⟨x36⟩⟩) ∧ (∃ (x37 : List UInt8), World.cell? w26 (p24.add 1) = some (.string ⟨⟨x37⟩⟩) ∧ (∃ (x38 : List UInt8), World.cell? w26 (p24.add 2) = some (.string ⟨⟨x38⟩⟩) ∧ (∃ (x39 : Int), World.cell? w26 (p24.add 3) = some (.int .i64 x39) ∧ (∃ (x40 : Int), World.cell? w26 (p24.add 4) = some (.int .i64 x40) ∧ (∃ (x41 : List UInt8), World.cell? w26 (p24.add 5) = some (.string ⟨⟨x41⟩⟩) ∧ (Calls Tryz.prog 14 ⟨[.agg ⟨[.string ⟨⟨x36⟩⟩, .string ⟨⟨x37⟩⟩, .string ⟨⟨x38⟩⟩, .int .i64 x39, .int .i64 x40, .string ⟨⟨x41⟩⟩]⟩]⟩ w26 fun (e42 : Ending) (w43 : World) =>
  ∃ (x44 : Int), e42 = .returned (.int .i64 x44) ∧ (br (decide ((x44 : Int) ≠ 0)) (R (.returned (.bool false)) w43) (br (decide ((t26_13 : Int) = 0)) (∃ (x45 : Int), World.cell? w43 (p24.add 4) = some (.int .i64 x45) ∧ (br (decide (((bitA .i64 x45 16) : Int) ≠ 0)) (R (.returned (.bool false)) w43) (∃ (x46 : List UInt8), World.cell? w43 (p24.add 0) = some (.string ⟨⟨x46⟩⟩) ∧ (Calls Tryz.prog 15 ⟨[.string ⟨⟨x46⟩⟩]⟩ w43 fun (e47 : Ending) (w48 : World) =>
  ∃ (x49 : Bool), e47 = .returned (.bool x49) ∧ (br (decide (((decide (((bitA .i64 x27 10) : Int) = 0)) : Bool) ≠ x49)) (R (.returned (.bool false)) w48) (K28 w48)))))) (∃ (x50 : List UInt8), World.cell? w43 (p24.add 0) = some (.string ⟨⟨x50⟩⟩) ∧ (Calls Tryz.prog 15 ⟨[.string ⟨⟨x50⟩⟩]⟩ w43 fun (e51 : Ending) (w52 : World) =>
  ∃ (x53 : Bool), e51 = .returned (.bool x53) ∧ (br (decide (((decide (((bitA .i64 x27 10) : Int) = 0)) : Bool) ≠ x53)) (R (.returned (.bool false)) w52) (K28 w52))))))))))))))))))))) (Calls Tryz.prog 10 ⟨[]⟩ w14 fun (e54 : Ending) (w55 : World) =>
  ∃ (x56 : Bool), e54 = .returned (.bool x56) ∧ (R (.returned (.bool x56)) w55)))))
set_option maxRecDepth 100000 in
theorem e_law15_TokenizerValid (l_1 : Option Addr) (l_1n : Nat) (l_1c : Nat) (hand_2 : Int) (rules_3 : Option Addr) (rules_3n : Nat) (rules_3c : Nat) (R : Ending → World → Prop) (w : World) : fnV Tryz.prog Tryz.f4 an_law15_TokenizerValid [.slice l_1 l_1n l_1c, .int .u8 hand_2, .slice rules_3 rules_3n rules_3c] R w = sh_law15_TokenizerValid l_1 l_1n l_1c hand_2 rules_3 rules_3n rules_3c R w := by kernel_rfl
theorem c_law15_TokenizerValid {l_1 : Option Addr} {l_1n : Nat} {l_1c : Nat} {hand_2 : Int} {rules_3 : Option Addr} {rules_3n : Nat} {rules_3c : Nat} {R : Ending → World → Prop} {w : World} (h : sh_law15_TokenizerValid l_1 l_1n l_1c hand_2 rules_3 rules_3n rules_3c R w) : Calls Tryz.prog F_law15_TokenizerValid ⟨[.slice l_1 l_1n l_1c, .int .u8 hand_2, .slice rules_3 rules_3n rules_3c]⟩ w R := calls_of_fnV Tryz.func4 (by rw [e_law15_TokenizerValid]; exact h)

def an_law15_TokenizerNorms : Ann := .two (.leaf) (.two (.leaf) (.cut 4396972769536 [] (.two (.leaf) (.two (.two (.leaf) (.leaf)) (.leaf))) (.two (.two (.leaf) (.one (.loop 1180591603125225316608 [(44, .one (.int .i64))] (.two (.leaf) (.two (.two (.leaf) (.leaf)) (.two (.one (.two (.leaf) (.two (.leaf) (.cut 2304717109306900480 [(14, .one (.str)), (15, .one (.int .i64))] (.two (.leaf) (.two (.leaf) (.leaf))) (.two (.leaf) (.two (.two (.leaf) (.leaf)) (.leaf))))))) (.leaf))))))) (.two (.leaf) (.two (.leaf) (.two (.leaf) (.cut 78918677504442992524819169536 [] (.two (.leaf) (.two (.two (.leaf) (.leaf)) (.leaf))) (.two (.cut 4991374238398653268393268871168 [(101, .one (.bool))] (.leaf) (.two (.two (.leaf) (.leaf)) (.leaf))) (.two (.leaf) (.leaf))))))))))
def sh_law15_TokenizerNorms (l_1 : Option Addr) (l_1n : Nat) (l_1c : Nat) (hand_2 : Int) (rules_3 : Option Addr) (rules_3n : Nat) (rules_3c : Nat) (other_4 : Option Addr) (other_4n : Nat) (other_4c : Nat) (R : Ending → World → Prop) (w : World) : Prop :=
  Calls Tryz.prog 9 ⟨[.slice l_1 l_1n l_1c, .int .u8 hand_2, .slice rules_3 rules_3n rules_3c]⟩ w fun (e5 : Ending) (w6 : World) =>
  ∃ (x7 : Option Addr) (x7n : Nat) (x7c : Nat) (x8 : Option Addr) (x8n : Nat) (x8c : Nat) (x9 : Bool), e5 = .returned (.tuple ⟨[.slice x7 x7n x7c, .slice x8 x8n x8c, .bool x9]⟩) ∧ (∀ (K10 : World → Prop), (∀  (w11 : World), (∀ _ : Env, (∃ (I12 : Int → World → Nat → Prop), (∃ m16 : Nat, I12 0 w11 m16) ∧ ∀ (t44_13 : Int) (w14 : World) (m15 : Nat), I12 t44_13 w14 m15 → ∀ _ : Env, (br (decide ((t44_13 : Int) < ((x7n : Int)))) (idx x7 x7n t44_13 6 fun p17 =>
  ∃ (x18 : List UInt8), World.cell? w14 (p17.add 0) = some (.string ⟨⟨x18⟩⟩) ∧ (∃ (x19 : List UInt8), World.cell? w14 (p17.add 1) = some (.string ⟨⟨x19⟩⟩) ∧ (∃ (x20 : List UInt8), World.cell? w14 (p17.add 2) = some (.string ⟨⟨x20⟩⟩) ∧ (∃ (x21 : Int), World.cell? w14 (p17.add 3) = some (.int .i64 x21) ∧ (∃ (x22 : Int), World.cell? w14 (p17.add 4) = some (.int .i64 x22) ∧ (∃ (x23 : List UInt8), World.cell? w14 (p17.add 5) = some (.string ⟨⟨x23⟩⟩) ∧ (al w14 31 [.string ⟨⟨[]⟩⟩, .string ⟨⟨[]⟩⟩, .string ⟨⟨[]⟩⟩, .int .i64 0, .int .i64 0, .string ⟨⟨[]⟩⟩] fun p24 w25 =>
  stL w25 p24 0 [.string ⟨⟨x18⟩⟩, .string ⟨⟨x19⟩⟩, .string ⟨⟨x20⟩⟩, .int .i64 x21, .int .i64 x22, .string ⟨⟨x23⟩⟩] fun w26 =>
  ∃ (x27 : List UInt8), World.cell? w26 (p24.add 0) = some (.string ⟨⟨x27⟩⟩) ∧ (∀ (K28 : List UInt8 → Int → World → Prop), (∀ (want_29 : List UInt8) (e_30 : Int) (w31 : World), (∀ _ : Env, (br (decide ((e_30 : Int) ≠ 0)) (R (.returned (.bool false)) w31) (∃ (x32 : List UInt8), World.cell? w31 (p24.add 1) = some (.string ⟨⟨x32⟩⟩) ∧ (br (decide ((x32 : List UInt8) ≠ want_29)) (R (.returned (.bool false)) w31) (∃ m33 : Nat, m33 < m15 ∧ I12 (IntKind.i64.wrap (t44_13 + 1)) w31 m33))))) → K28 want_29 e_30 w31) → (∃ (x34 : Int), World.cell? w26 (p24.add 4) = some (.int .i64 x34) ∧ (br (decide (((bitA .i64 x34 10) : Int) = 0)) (∃ (x35 : List UInt8), World.cell? w26 (p24.add 0) = some (.string ⟨⟨x35⟩⟩) ∧ (Calls Tryz.prog 18 ⟨[.slice rules_3 rules_3n rules_3c, .string ⟨⟨x35⟩⟩]⟩ w26 fun (e36 : Ending) (w37 : World) =>
  ∃ (x38 : List UInt8) (x39 : Int), e36 = .returned (.tuple ⟨[.string ⟨⟨x38⟩⟩, .int .i64 x39]⟩) ∧ (K28 x38 x39 w37))) (K28 x27 0 w26))))))))))) (Calls Tryz.prog 19 ⟨[.slice rules_3 rules_3n rules_3c, .slice x7 x7n x7c]⟩ w14 fun (e40 : Ending) (w41 : World) =>
  ∃ (x42 : Option Addr) (x42n : Nat) (x42c : Nat) (x43 : Int), e40 = .returned (.tuple ⟨[.slice x42 x42n x42c, .int .i64 x43]⟩) ∧ (Calls Tryz.prog 19 ⟨[.slice other_4 other_4n other_4c, .slice x7 x7n x7c]⟩ w41 fun (e44 : Ending) (w45 : World) =>
  ∃ (x46 : Option Addr) (x46n : Nat) (x46c : Nat) (x47 : Int), e44 = .returned (.tuple ⟨[.slice x46 x46n x46c, .int .i64 x47]⟩) ∧ (Calls Tryz.prog 19 ⟨[.slice rules_3 rules_3n rules_3c, .slice x46 x46n x46c]⟩ w45 fun (e48 : Ending) (w49 : World) =>
  ∃ (x50 : Option Addr) (x50n : Nat) (x50c : Nat) (x51 : Int), e48 = .returned (.tuple ⟨[.slice x50 x50n x50c, .int .i64 x51]⟩) ∧ (∀ (K52 : World → Prop), (∀  (w53 : World), (∀ _ : Env, (∀ (K54 : Bool → World → Prop), (∀ (t101_55 : Bool) (w56 : World), (∀ _ : Env, (br t101_55 (br (decide ((x47 : Int) = 4)) (Calls Tryz.prog 10 ⟨[]⟩ w56 fun (e57 : Ending) (w58 : World) =>
  ∃ (x59 : Bool), e57 = .returned (.bool x59) ∧ (R (.returned (.bool x59)) w58)) (R (.returned (.bool false)) w56)) (Calls Tryz.prog 20 ⟨[.slice x50 x50n x50c, .slice x7 x7n x7c]⟩ w56 fun (e60 : Ending) (w61 : World) =>
  ∃ (x62 : Bool), e60 = .returned (.bool x62) ∧ (br x62 (Calls Tryz.prog 22 ⟨[.slice x46 x46n x46c]⟩ w61 fun (e63 : Ending) (w64 : World) =>
  ∃ (x65 : Option Addr) (x65n : Nat) (x65c : Nat), e63 = .returned (.slice x65 x65n x65c) ∧ (Calls Tryz.prog 22 ⟨[.slice x7 x7n x7c]⟩ w64 fun (e66 : Ending) (w67 : World) =>
  ∃ (x68 : Option Addr) (x68n : Nat) (x68c : Nat), e66 = .returned (.slice x68 x68n x68c) ∧ (Calls Tryz.prog 21 ⟨[.slice x65 x65n x65c, .slice x68 x68n x68c]⟩ w67 fun (e69 : Ending) (w70 : World) =>
  ∃ (x71 : Bool), e69 = .returned (.bool x71) ∧ (br x71 (Calls Tryz.prog 10 ⟨[]⟩ w70 fun (e72 : Ending) (w73 : World) =>
  ∃ (x74 : Bool), e72 = .returned (.bool x74) ∧ (R (.returned (.bool x74)) w73)) (R (.returned (.bool false)) w70))))) (R (.returned (.bool false)) w61))))) → K54 t101_55 w56) → (br (decide ((x47 : Int) ≠ 0)) (K54 true w53) (K54 (decide ((x51 : Int) ≠ 0)) w53)))) → K52 w53) → (br (decide ((x43 : Int) ≠ 0)) (R (.returned (.bool false)) w49) (Calls Tryz.prog 20 ⟨[.slice x42 x42n x42c, .slice x7 x7n x7c]⟩ w49 fun (e75 : Ending) (w76 : World) =>
  ∃ (x77 : Bool), e75 = .returned (.bool x77) ∧ (br (!x77) (R (.returned (.bool false)) w76) (K52 w76))))))))))) → K10 w11) → (br (!x9) (Calls Tryz.prog 10 ⟨[]⟩ w6 fun (e78 : Ending) (w79 : World) =>
  ∃ (x80 : Bool), e78 = .returned (.bool x80) ∧ (R (.returned (.bool x80)) w79)) (Calls Tryz.prog 16 ⟨[.slice other_4 other_4n other_4c]⟩ w6 fun (e81 : Ending) (w82 : World) =>
  ∃ (x83 : Bool), e81 = .returned (.bool x83) ∧ (br x83 (Calls Tryz.prog 10 ⟨[]⟩ w82 fun (e84 : Ending) (w85 : World) =>
  ∃ (x86 : Bool), e84 = .returned (.bool x86) ∧ (R (.returned (.bool x86)) w85)) (Calls Tryz.prog 17 ⟨[.slice other_4 other_4n other_4c]⟩ w82 fun (e87 : Ending) (w88 : World) =>
  ∃ (x89 : Int), e87 = .returned (.int .i64 x89) ∧ (br (decide ((x89 : Int) ≠ 0)) (Calls Tryz.prog 10 ⟨[]⟩ w88 fun (e90 : Ending) (w91 : World) =>
  ∃ (x92 : Bool), e90 = .returned (.bool x92) ∧ (R (.returned (.bool x92)) w91)) (K10 w88)))))))
set_option maxRecDepth 100000 in
theorem e_law15_TokenizerNorms (l_1 : Option Addr) (l_1n : Nat) (l_1c : Nat) (hand_2 : Int) (rules_3 : Option Addr) (rules_3n : Nat) (rules_3c : Nat) (other_4 : Option Addr) (other_4n : Nat) (other_4c : Nat) (R : Ending → World → Prop) (w : World) : fnV Tryz.prog Tryz.f5 an_law15_TokenizerNorms [.slice l_1 l_1n l_1c, .int .u8 hand_2, .slice rules_3 rules_3n rules_3c, .slice other_4 other_4n other_4c] R w = sh_law15_TokenizerNorms l_1 l_1n l_1c hand_2 rules_3 rules_3n rules_3c other_4 other_4n other_4c R w := by kernel_rfl
theorem c_law15_TokenizerNorms {l_1 : Option Addr} {l_1n : Nat} {l_1c : Nat} {hand_2 : Int} {rules_3 : Option Addr} {rules_3n : Nat} {rules_3c : Nat} {other_4 : Option Addr} {other_4n : Nat} {other_4c : Nat} {R : Ending → World → Prop} {w : World} (h : sh_law15_TokenizerNorms l_1 l_1n l_1c hand_2 rules_3 rules_3n rules_3c other_4 other_4n other_4c R w) : Calls Tryz.prog F_law15_TokenizerNorms ⟨[.slice l_1 l_1n l_1c, .int .u8 hand_2, .slice rules_3 rules_3n rules_3c, .slice other_4 other_4n other_4c]⟩ w R := calls_of_fnV Tryz.func5 (by rw [e_law15_TokenizerNorms]; exact h)

def an_law15_tokens : Ann := .two (.leaf) (.cut 67101120 [] (.two (.leaf) (.two (.two (.leaf) (.leaf)) (.leaf))) (.two (.leaf) (.two (.leaf) (.two (.leaf) (.leaf)))))
def sh_law15_tokens (l_1 : Option Addr) (l_1n : Nat) (l_1c : Nat) (hand_2 : Int) (rules_3 : Option Addr) (rules_3n : Nat) (rules_3c : Nat) (R : Ending → World → Prop) (w : World) : Prop :=
  ∀ (K4 : World → Prop), (∀  (w5 : World), (∀ _ : Env, (idiv 9 (Calls Tryz.prog 44 ⟨[.slice l_1 l_1n l_1c, .int .i64 (Int.tmod (IntKind.i64.wrap hand_2) 9)]⟩ w5 fun (e6 : Ending) (w7 : World) =>
  ∃ (x8 : Option Addr) (x8n : Nat) (x8c : Nat) (x9 : Int), e6 = .returned (.tuple ⟨[.slice x8 x8n x8c, .int .i64 x9]⟩) ∧ (Calls Tryz.prog 38 ⟨[.agg ⟨[.string ⟨⟨[]⟩⟩, .int .i64 0]⟩, .slice x8 x8n x8c, .slice rules_3 rules_3n rules_3c]⟩ w7 fun (e10 : Ending) (w11 : World) =>
  ∃ (x12 : Option Addr) (x12n : Nat) (x12c : Nat) (x13 : Int), e10 = .returned (.tuple ⟨[.slice x12 x12n x12c, .int .i64 x13]⟩) ∧ (br (decide ((x9 : Int) = 0)) (R (.returned (.tuple ⟨[.slice x12 x12n x12c, .slice x8 x8n x8c, .bool (decide ((x13 : Int) = 0))]⟩)) w11) (R (.returned (.tuple ⟨[.slice x12 x12n x12c, .slice x8 x8n x8c, .bool false]⟩)) w11)))))) → K4 w5) → (Calls Tryz.prog 42 ⟨[.slice l_1 l_1n l_1c, .slice rules_3 rules_3n rules_3c]⟩ w fun (e14 : Ending) (w15 : World) =>
  ∃ (x16 : Bool), e14 = .returned (.bool x16) ∧ (br x16 (R (.returned (.tuple ⟨[.slice none 0 0, .slice none 0 0, .bool false]⟩)) w15) (Calls Tryz.prog 43 ⟨[.slice l_1 l_1n l_1c]⟩ w15 fun (e17 : Ending) (w18 : World) =>
  ∃ (x19 : Int), e17 = .returned (.int .i64 x19) ∧ (br (decide ((x19 : Int) ≠ 0)) (R (.returned (.tuple ⟨[.slice none 0 0, .slice none 0 0, .bool false]⟩)) w18) (Calls Tryz.prog 17 ⟨[.slice rules_3 rules_3n rules_3c]⟩ w18 fun (e20 : Ending) (w21 : World) =>
  ∃ (x22 : Int), e20 = .returned (.int .i64 x22) ∧ (br (decide ((x22 : Int) ≠ 0)) (R (.returned (.tuple ⟨[.slice none 0 0, .slice none 0 0, .bool false]⟩)) w21) (K4 w21)))))))
set_option maxRecDepth 100000 in
theorem e_law15_tokens (l_1 : Option Addr) (l_1n : Nat) (l_1c : Nat) (hand_2 : Int) (rules_3 : Option Addr) (rules_3n : Nat) (rules_3c : Nat) (R : Ending → World → Prop) (w : World) : fnV Tryz.prog Tryz.f9 an_law15_tokens [.slice l_1 l_1n l_1c, .int .u8 hand_2, .slice rules_3 rules_3n rules_3c] R w = sh_law15_tokens l_1 l_1n l_1c hand_2 rules_3 rules_3n rules_3c R w := by kernel_rfl
theorem c_law15_tokens {l_1 : Option Addr} {l_1n : Nat} {l_1c : Nat} {hand_2 : Int} {rules_3 : Option Addr} {rules_3n : Nat} {rules_3c : Nat} {R : Ending → World → Prop} {w : World} (h : sh_law15_tokens l_1 l_1n l_1c hand_2 rules_3 rules_3n rules_3c R w) : Calls Tryz.prog F_law15_tokens ⟨[.slice l_1 l_1n l_1c, .int .u8 hand_2, .slice rules_3 rules_3n rules_3c]⟩ w R := calls_of_fnV Tryz.func9 (by rw [e_law15_tokens]; exact h)

def an_law15_awake : Ann := .two (.leaf) (.two (.leaf) (.two (.leaf) (.two (.leaf) (.cut 1152921503533105153 [] (.two (.leaf) (.two (.two (.leaf) (.leaf)) (.leaf))) (.two (.leaf) (.two (.leaf) (.leaf)))))))
def sh_law15_awake  (R : Ending → World → Prop) (w : World) : Prop :=
  Calls Tryz.prog 39 ⟨[.string ⟨⟨[68, 101]⟩⟩]⟩ w fun (e1 : Ending) (w2 : World) =>
  ∃ (x3 : Int) (x4 : List UInt8) (x5 : Int) (x6 : Option Addr) (x6n : Nat) (x6c : Nat), e1 = .returned (.agg ⟨[.int .i64 x3, .string ⟨⟨x4⟩⟩, .int .i64 x5, .slice x6 x6n x6c]⟩) ∧ (Calls Tryz.prog 39 ⟨[.string ⟨⟨[117, 115, 32, 101, 115, 116, 44]⟩⟩]⟩ w2 fun (e7 : Ending) (w8 : World) =>
  ∃ (x9 : Int) (x10 : List UInt8) (x11 : Int) (x12 : Option Addr) (x12n : Nat) (x12c : Nat), e7 = .returned (.agg ⟨[.int .i64 x9, .string ⟨⟨x10⟩⟩, .int .i64 x11, .slice x12 x12n x12c]⟩) ∧ (al w8 64 [.int .i64 x3, .string ⟨⟨x4⟩⟩, .int .i64 x5, .slice x6 x6n x6c, .int .i64 2, .string ⟨⟨[]⟩⟩, .int .i64 0, .slice none 0 0, .int .i64 x9, .string ⟨⟨x10⟩⟩, .int .i64 x11, .slice x12 x12n x12c] fun p13 w14 =>
  Calls Tryz.prog 38 ⟨[.agg ⟨[.string ⟨⟨[]⟩⟩, .int .i64 0]⟩, .slice (some p13) 3 3, .slice none 0 0]⟩ w14 fun (e15 : Ending) (w16 : World) =>
  ∃ (x17 : Option Addr) (x17n : Nat) (x17c : Nat) (x18 : Int), e15 = .returned (.tuple ⟨[.slice x17 x17n x17c, .int .i64 x18]⟩) ∧ (Calls Tryz.prog 32 ⟨[.string ⟨⟨[97, 98, 39, 99, 32, 39, 100]⟩⟩]⟩ w16 fun (e19 : Ending) (w20 : World) =>
  ∃ (x21 : Option Addr) (x21n : Nat) (x21c : Nat) (x22 : Int), e19 = .returned (.tuple ⟨[.slice x21 x21n x21c, .int .i64 x22]⟩) ∧ (Calls Tryz.prog 39 ⟨[.string ⟨⟨[109, 97]⟩⟩]⟩ w20 fun (e23 : Ending) (w24 : World) =>
  ∃ (x25 : Int) (x26 : List UInt8) (x27 : Int) (x28 : Option Addr) (x28n : Nat) (x28c : Nat), e23 = .returned (.agg ⟨[.int .i64 x25, .string ⟨⟨x26⟩⟩, .int .i64 x27, .slice x28 x28n x28c]⟩) ∧ (Calls Tryz.prog 39 ⟨[.string ⟨⟨[117, 115]⟩⟩]⟩ w24 fun (e29 : Ending) (w30 : World) =>
  ∃ (x31 : Int) (x32 : List UInt8) (x33 : Int) (x34 : Option Addr) (x34n : Nat) (x34c : Nat), e29 = .returned (.agg ⟨[.int .i64 x31, .string ⟨⟨x32⟩⟩, .int .i64 x33, .slice x34 x34n x34c]⟩) ∧ (al w30 64 [.int .i64 x25, .string ⟨⟨x26⟩⟩, .int .i64 x27, .slice x28 x28n x28c, .int .i64 6, .string ⟨⟨[]⟩⟩, .int .i64 2, .slice none 0 0, .int .i64 x31, .string ⟨⟨x32⟩⟩, .int .i64 x33, .slice x34 x34n x34c] fun p35 w36 =>
  Calls Tryz.prog 38 ⟨[.agg ⟨[.string ⟨⟨[]⟩⟩, .int .i64 0]⟩, .slice (some p35) 3 3, .slice none 0 0]⟩ w36 fun (e37 : Ending) (w38 : World) =>
  ∃ (x39 : Option Addr) (x39n : Nat) (x39c : Nat) (x40 : Int), e37 = .returned (.tuple ⟨[.slice x39 x39n x39c, .int .i64 x40]⟩) ∧ (∀ (K41 : World → Prop), (∀  (w42 : World), (∀ _ : Env, (al w42 29 [.string ⟨⟨[]⟩⟩, .int .i64 0] fun p43 w44 =>
  stL w44 p43 0 [.string ⟨⟨[]⟩⟩, .int .i64 1] fun w45 =>
  ∃ (x46 : List UInt8), World.cell? w45 (p43.add 0) = some (.string ⟨⟨x46⟩⟩) ∧ (∃ (x47 : Int), World.cell? w45 (p43.add 1) = some (.int .i64 x47) ∧ (∃ (x48 : List UInt8), World.cell? w45 (p43.add 0) = some (.string ⟨⟨x48⟩⟩) ∧ (∃ (x49 : Int), World.cell? w45 (p43.add 1) = some (.int .i64 x49) ∧ (al w45 31 [.string ⟨⟨[68, 101, 117, 115]⟩⟩, .string ⟨⟨[68, 101, 117, 115]⟩⟩, .string ⟨⟨[]⟩⟩, .int .i64 0, .int .i64 0, .string ⟨⟨[]⟩⟩, .string ⟨⟨[101, 115, 116]⟩⟩, .string ⟨⟨[101, 115, 116]⟩⟩, .string ⟨⟨x46⟩⟩, .int .i64 x47, .int .i64 0, .string ⟨⟨[]⟩⟩, .string ⟨⟨[44]⟩⟩, .string ⟨⟨[44]⟩⟩, .string ⟨⟨x48⟩⟩, .int .i64 x49, .int .i64 24, .string ⟨⟨[]⟩⟩] fun p50 w51 =>
  Calls Tryz.prog 45 ⟨[.slice x17 x17n x17c, .slice (some p50) 3 3]⟩ w51 fun (e52 : Ending) (w53 : World) =>
  ∃ (x54 : Bool), e52 = .returned (.bool x54) ∧ (R (.returned (.bool x54)) w53))))))) → K41 w42) → (br (decide ((((max (max x18 x22) x40)) : Int) ≠ 0)) (R (.returned (.bool false)) w38) (al w38 9 [.string ⟨⟨[97, 98, 39, 99]⟩⟩, .string ⟨⟨[39]⟩⟩, .string ⟨⟨[100]⟩⟩] fun p55 w56 =>
  Calls Tryz.prog 21 ⟨[.slice x21 x21n x21c, .slice (some p55) 3 3]⟩ w56 fun (e57 : Ending) (w58 : World) =>
  ∃ (x59 : Bool), e57 = .returned (.bool x59) ∧ (br (!x59) (R (.returned (.bool false)) w58) (br (decide ((((x39n : Int)) : Int) ≠ 3)) (R (.returned (.bool false)) w58) (idx x39 x39n 1 6 fun p60 =>
  ∃ (x61 : List UInt8), World.cell? w58 (p60.add 0) = some (.string ⟨⟨x61⟩⟩) ∧ (br (decide ((x61 : List UInt8) ≠ ([91, 50, 93]))) (R (.returned (.bool false)) w58) (idx x39 x39n 2 6 fun p62 =>
  ∃ (x63 : Int), World.cell? w58 (p62.add 4) = some (.int .i64 x63) ∧ (br (decide ((x63 : Int) ≠ 16)) (R (.returned (.bool false)) w58) (K41 w58))))))))))))))))
set_option maxRecDepth 100000 in
theorem e_law15_awake  (R : Ending → World → Prop) (w : World) : fnV Tryz.prog Tryz.f10 an_law15_awake [] R w = sh_law15_awake  R w := by kernel_rfl
theorem c_law15_awake  {R : Ending → World → Prop} {w : World} (h : sh_law15_awake  R w) : Calls Tryz.prog F_law15_awake ⟨[]⟩ w R := calls_of_fnV Tryz.func10 (by rw [e_law15_awake]; exact h)

def an_transcript_Characters : Ann := .two (.leaf) (.two (.two (.leaf) (.two (.two (.leaf) (.leaf)) (.leaf))) (.two (.leaf) (.two (.two (.leaf) (.one (.rf [2, 3, 4, 10] 0))) (.two (.leaf) (.leaf)))))
def sh_transcript_Characters (l_1 : Option Addr) (l_1n : Nat) (l_1c : Nat) (R : Ending → World → Prop) (w : World) : Prop :=
  Calls Tryz.prog 43 ⟨[.slice l_1 l_1n l_1c]⟩ w fun (e2 : Ending) (w3 : World) =>
  ∃ (x4 : Int), e2 = .returned (.int .i64 x4) ∧ (br (decide ((x4 : Int) ≠ 0)) (R (.returned (.tuple ⟨[.string ⟨⟨[]⟩⟩, .int .i64 1]⟩)) w3) (al w3 75 [.pointer none, .slice none 0 0] fun p5 w6 =>
  Calls Tryz.prog 46 ⟨[.slice l_1 l_1n l_1c]⟩ w6 fun (e7 : Ending) (w8 : World) =>
  ∃ (x9 : Fn) (x9a : Array Value) (x9b : Array Value), e7 = .returned (.func x9 x9a x9b) ∧ (∀ base10 : Env, RFw Tryz.prog none 21 (cdAt Tryz.f11 [1, 1, 1, 0, 1, 2]) (upd (upd (upd (upd base10 10 (.func x9 x9a x9b)) 4 (.pointer (some p5))) 3 (.int .i64 0)) 2 (.string ⟨⟨[]⟩⟩)) [] w8 0 (fun ds11 w12 =>
  Calls Tryz.prog 48 ⟨[.pointer (some p5)]⟩ w12 fun (e17 : Ending) (w18 : World) =>
  ∃ (x19 : List UInt8), e17 = .returned (.string ⟨⟨x19⟩⟩) ∧ (retD ds11 w18 fun w20 =>
  R (.returned (.tuple ⟨[.string ⟨⟨x19⟩⟩, .int .i64 0]⟩)) w20)) (fun ds11 w12 =>
  retD ds11 w12 fun w21 =>
  R (.returned (.tuple ⟨[.string ⟨⟨[]⟩⟩, .int .i64 0]⟩)) w21) (fun ds11 w12 =>
  Calls Tryz.prog 48 ⟨[.pointer (some p5)]⟩ w12 fun (e13 : Ending) (w14 : World) =>
  ∃ (x15 : List UInt8), e13 = .returned (.string ⟨⟨x15⟩⟩) ∧ (retD ds11 w14 fun w16 =>
  R (.returned (.tuple ⟨[.string ⟨⟨x15⟩⟩, .int .i64 0]⟩)) w16)))))
set_option maxRecDepth 100000 in
theorem e_transcript_Characters (l_1 : Option Addr) (l_1n : Nat) (l_1c : Nat) (R : Ending → World → Prop) (w : World) : fnV Tryz.prog Tryz.f11 an_transcript_Characters [.slice l_1 l_1n l_1c] R w = sh_transcript_Characters l_1 l_1n l_1c R w := by kernel_rfl
theorem c_transcript_Characters {l_1 : Option Addr} {l_1n : Nat} {l_1c : Nat} {R : Ending → World → Prop} {w : World} (h : sh_transcript_Characters l_1 l_1n l_1c R w) : Calls Tryz.prog F_transcript_Characters ⟨[.slice l_1 l_1n l_1c]⟩ w R := calls_of_fnV Tryz.func11 (by rw [e_transcript_Characters]; exact h)
def anA_transcript_Characters_1 : Ann := .leaf
def anB_transcript_Characters_1 : Ann := .one (.two (.leaf) (.two (.leaf) (.leaf)))
def rf_transcript_Characters_1 (t2_22 : List UInt8) (t3_23 : Int) (out_24 : Option Addr) (t10_25 : Fn) (t10_25a : Array Value) (t10_25b : Array Value) (t11_26 : Int) (t11_27 : List UInt8) (t11_28 : Int) (t11_29 : Option Addr) (t11_29n : Nat) (t11_29c : Nat) (t11_30 : Int) (t11_31 : Bool) (l : Nat) (Kn Kr Kx : World → World → Prop) (w : World) : Prop :=
  al w 80 [.int .i64 0, .string ⟨⟨[]⟩⟩, .int .i64 0, .slice none 0 0, .int .i64 0, .bool false] fun p33 w34 =>
  stL w34 p33 0 [.int .i64 t11_26, .string ⟨⟨t11_27⟩⟩, .int .i64 t11_28, .slice t11_29 t11_29n t11_29c, .int .i64 t11_30, .bool t11_31] fun w35 =>
  Ext w w35 ∧ ∀ w32 : World, Upd l w35 w32 → (∃ (x36 : Int), World.cell? w32 ((p33.add 0).add 0) = some (.int .i64 x36) ∧ (br (decide ((x36 : Int) = 1)) (∃ (x37 : List UInt8), World.cell? w32 ((p33.add 0).add 1) = some (.string ⟨⟨x37⟩⟩) ∧ (Calls Tryz.prog 47 ⟨[.pointer out_24, .string ⟨⟨x37⟩⟩]⟩ w32 fun (e38 : Ending) (w39 : World) =>
  ∃ (x40 : Int) (x41 : Value), e38 = .returned (.tuple ⟨[.int .i64 x40, x41]⟩) ∧ (Kn w32 w39))) (Kn w32 w32)))
set_option maxRecDepth 100000 in
theorem er_transcript_Characters_1 (base : Env) (t2_22 : List UInt8) (t3_23 : Int) (out_24 : Option Addr) (t10_25 : Fn) (t10_25a : Array Value) (t10_25b : Array Value) (t11_26 : Int) (t11_27 : List UInt8) (t11_28 : Int) (t11_29 : Option Addr) (t11_29n : Nat) (t11_29c : Nat) (t11_30 : Int) (t11_31 : Bool) (l : Nat) (Kn Kr Kx : World → World → Prop) (w : World) : fragV Tryz.prog 21 anA_transcript_Characters_1 anB_transcript_Characters_1 (cdAt Tryz.f11 [1, 1, 1, 0, 1, 2, 5]) (cdAt Tryz.f11 [1, 1, 1, 0, 1, 2, 6]) l 0 Kn Kr Kx (updPs [11] [.agg ⟨[.int .i64 t11_26, .string ⟨⟨t11_27⟩⟩, .int .i64 t11_28, .slice t11_29 t11_29n t11_29c, .int .i64 t11_30, .bool t11_31]⟩] (upd (upd (upd (upd base 10 (.func t10_25 t10_25a t10_25b)) 4 (.pointer out_24)) 3 (.int .i64 t3_23)) 2 (.string ⟨⟨t2_22⟩⟩))) w = rf_transcript_Characters_1 t2_22 t3_23 out_24 t10_25 t10_25a t10_25b t11_26 t11_27 t11_28 t11_29 t11_29n t11_29c t11_30 t11_31 l Kn Kr Kx w := by kernel_rfl
theorem cd_transcript_Characters_1 : cdAt Tryz.f11 [1, 1, 1, 0, 1, 2] = .rangeFunc (Operand.tmp 10) #[11] (cdAt Tryz.f11 [1, 1, 1, 0, 1, 2, 5]) (cdAt Tryz.f11 [1, 1, 1, 0, 1, 2, 6]) := by kernel_rfl

def an_transcript_Count : Ann := .two (.leaf) (.two (.two (.leaf) (.two (.two (.leaf) (.leaf)) (.leaf))) (.cut 129072 [(4, .one (.int .i64)), (5, .one (.int .i64))] (.two (.leaf) (.two (.two (.leaf) (.leaf)) (.leaf))) (.two (.leaf) (.two (.two (.leaf) (.one (.rf [3, 4, 5, 6, 18] 0))) (.two (.leaf) (.leaf))))))
def sh_transcript_Count (l_1 : Option Addr) (l_1n : Nat) (l_1c : Nat) (kind_2 : Int) (R : Ending → World → Prop) (w : World) : Prop :=
  al w 3 [.int .i64 kind_2] fun p3 w4 =>
  Calls Tryz.prog 43 ⟨[.slice l_1 l_1n l_1c]⟩ w4 fun (e5 : Ending) (w6 : World) =>
  ∃ (x7 : Int), e5 = .returned (.int .i64 x7) ∧ (br (decide ((x7 : Int) ≠ 0)) (R (.returned (.tuple ⟨[.int .i64 0, .int .i64 1]⟩)) w6) (∀ (K8 : Int → Int → World → Prop), (∀ (t4_9 : Int) (t5_10 : Int) (w11 : World), (∀ _ : Env, (al w11 3 [.int .i64 0] fun p12 w13 =>
  stL w13 p12 0 [.int .i64 0] fun w14 =>
  Calls Tryz.prog 46 ⟨[.slice l_1 l_1n l_1c]⟩ w14 fun (e15 : Ending) (w16 : World) =>
  ∃ (x17 : Fn) (x17a : Array Value) (x17b : Array Value), e15 = .returned (.func x17 x17a x17b) ∧ (∀ base18 : Env, RFw Tryz.prog none 28 (cdAt Tryz.f12 [1, 1, 1, 1, 0, 1, 2]) (upd (upd (upd (upd (upd base18 18 (.func x17 x17a x17b)) 6 (.pointer (some p12))) 5 (.int .i64 t5_10)) 4 (.int .i64 t4_9)) 3 (.pointer (some p3))) [] w16 0 (fun ds19 w20 =>
  ∃ (x23 : Int), World.cell? w20 p12 = some (.int .i64 x23) ∧ (retD ds19 w20 fun w24 =>
  R (.returned (.tuple ⟨[.int .i64 x23, .int .i64 0]⟩)) w24)) (fun ds19 w20 =>
  retD ds19 w20 fun w25 =>
  R (.returned (.tuple ⟨[.int .i64 t4_9, .int .i64 t5_10]⟩)) w25) (fun ds19 w20 =>
  ∃ (x21 : Int), World.cell? w20 p12 = some (.int .i64 x21) ∧ (retD ds19 w20 fun w22 =>
  R (.returned (.tuple ⟨[.int .i64 x21, .int .i64 0]⟩)) w22))))) → K8 t4_9 t5_10 w11) → (∃ (x26 : Int), World.cell? w6 p3 = some (.int .i64 x26) ∧ (br (decide ((x26 : Int) < 1)) (R (.returned (.tuple ⟨[.int .i64 0, .int .i64 8]⟩)) w6) (∃ (x27 : Int), World.cell? w6 p3 = some (.int .i64 x27) ∧ (br (decide ((11 : Int) < x27)) (R (.returned (.tuple ⟨[.int .i64 0, .int .i64 8]⟩)) w6) (K8 0 0 w6)))))))
set_option maxRecDepth 100000 in
theorem e_transcript_Count (l_1 : Option Addr) (l_1n : Nat) (l_1c : Nat) (kind_2 : Int) (R : Ending → World → Prop) (w : World) : fnV Tryz.prog Tryz.f12 an_transcript_Count [.slice l_1 l_1n l_1c, .int .i64 kind_2] R w = sh_transcript_Count l_1 l_1n l_1c kind_2 R w := by kernel_rfl
theorem c_transcript_Count {l_1 : Option Addr} {l_1n : Nat} {l_1c : Nat} {kind_2 : Int} {R : Ending → World → Prop} {w : World} (h : sh_transcript_Count l_1 l_1n l_1c kind_2 R w) : Calls Tryz.prog F_transcript_Count ⟨[.slice l_1 l_1n l_1c, .int .i64 kind_2]⟩ w R := calls_of_fnV Tryz.func12 (by rw [e_transcript_Count]; exact h)
def anA_transcript_Count_1 : Ann := .leaf
def anB_transcript_Count_1 : Ann := .one (.two (.leaf) (.two (.leaf) (.leaf)))
def rf_transcript_Count_1 (kind_28 : Option Addr) (t4_29 : Int) (t5_30 : Int) (n_31 : Option Addr) (t18_32 : Fn) (t18_32a : Array Value) (t18_32b : Array Value) (t19_33 : Int) (t19_34 : List UInt8) (t19_35 : Int) (t19_36 : Option Addr) (t19_36n : Nat) (t19_36c : Nat) (t19_37 : Int) (t19_38 : Bool) (l : Nat) (Kn Kr Kx : World → World → Prop) (w : World) : Prop :=
  al w 80 [.int .i64 0, .string ⟨⟨[]⟩⟩, .int .i64 0, .slice none 0 0, .int .i64 0, .bool false] fun p40 w41 =>
  stL w41 p40 0 [.int .i64 t19_33, .string ⟨⟨t19_34⟩⟩, .int .i64 t19_35, .slice t19_36 t19_36n t19_36c, .int .i64 t19_37, .bool t19_38] fun w42 =>
  Ext w w42 ∧ ∀ w39 : World, Upd l w42 w39 → (∃ (x43 : Int), World.cell? w39 ((p40.add 0).add 0) = some (.int .i64 x43) ∧ (dr kind_28 fun p44 =>
  ∃ (x45 : Int), World.cell? w39 p44 = some (.int .i64 x45) ∧ (br (decide ((x43 : Int) = x45)) (dr n_31 fun p46 =>
  ∃ (x47 : Int), World.cell? w39 p46 = some (.int .i64 x47) ∧ (dr n_31 fun p49 =>
  stL w39 p49 0 [.int .i64 (IntKind.i64.wrap (x47 + 1))] fun w48 =>
  Kn w39 w48)) (Kn w39 w39))))
set_option maxRecDepth 100000 in
theorem er_transcript_Count_1 (base : Env) (kind_28 : Option Addr) (t4_29 : Int) (t5_30 : Int) (n_31 : Option Addr) (t18_32 : Fn) (t18_32a : Array Value) (t18_32b : Array Value) (t19_33 : Int) (t19_34 : List UInt8) (t19_35 : Int) (t19_36 : Option Addr) (t19_36n : Nat) (t19_36c : Nat) (t19_37 : Int) (t19_38 : Bool) (l : Nat) (Kn Kr Kx : World → World → Prop) (w : World) : fragV Tryz.prog 28 anA_transcript_Count_1 anB_transcript_Count_1 (cdAt Tryz.f12 [1, 1, 1, 1, 0, 1, 2, 5]) (cdAt Tryz.f12 [1, 1, 1, 1, 0, 1, 2, 6]) l 0 Kn Kr Kx (updPs [19] [.agg ⟨[.int .i64 t19_33, .string ⟨⟨t19_34⟩⟩, .int .i64 t19_35, .slice t19_36 t19_36n t19_36c, .int .i64 t19_37, .bool t19_38]⟩] (upd (upd (upd (upd (upd base 18 (.func t18_32 t18_32a t18_32b)) 6 (.pointer n_31)) 5 (.int .i64 t5_30)) 4 (.int .i64 t4_29)) 3 (.pointer kind_28))) w = rf_transcript_Count_1 kind_28 t4_29 t5_30 n_31 t18_32 t18_32a t18_32b t19_33 t19_34 t19_35 t19_36 t19_36n t19_36c t19_37 t19_38 l Kn Kr Kx w := by kernel_rfl
theorem cd_transcript_Count_1 : cdAt Tryz.f12 [1, 1, 1, 1, 0, 1, 2] = .rangeFunc (Operand.tmp 18) #[19] (cdAt Tryz.f12 [1, 1, 1, 1, 0, 1, 2, 5]) (cdAt Tryz.f12 [1, 1, 1, 1, 0, 1, 2, 6]) := by kernel_rfl

def an_tokenizer_Check : Ann := .two (.leaf) (.cut 16324 [] (.two (.leaf) (.two (.two (.leaf) (.leaf)) (.leaf))) (.two (.leaf) (.cut 62914564 [] (.two (.leaf) (.two (.two (.leaf) (.leaf)) (.leaf))) (.two (.leaf) (.cut 67108896 [(5, .one (.fn))] (.two (.leaf) (.two (.leaf) (.leaf))) (.cut 134217760 [(5, .one (.fn))] (.two (.leaf) (.two (.leaf) (.leaf))) (.two (.one (.cut 4503599358935040 [(28, .one (.bool))] (.two (.leaf) (.two (.leaf) (.cut 4381135077376 [(28, .one (.bool))] (.leaf) (.two (.leaf) (.leaf))))) (.two (.two (.leaf) (.leaf)) (.two (.leaf) (.two (.two (.leaf) (.leaf)) (.two (.leaf) (.two (.two (.leaf) (.leaf)) (.leaf)))))))) (.two (.leaf) (.leaf)))))))))
def sh_tokenizer_Check (t_1 : List UInt8) (t_2 : List UInt8) (t_3 : List UInt8) (t_4 : Int) (t_5 : Int) (t_6 : List UInt8) (R : Ending → World → Prop) (w : World) : Prop :=
  al w 31 [.string ⟨⟨t_1⟩⟩, .string ⟨⟨t_2⟩⟩, .string ⟨⟨t_3⟩⟩, .int .i64 t_4, .int .i64 t_5, .string ⟨⟨t_6⟩⟩] fun p7 w8 =>
  ∀ (K9 : World → Prop), (∀  (w10 : World), (∀ _ : Env, (drw w10 fun w11 =>
  ∃ (x12 : Int), World.cell? w11 (p7.add 4) = some (.int .i64 x12) ∧ (∃ (x13 : Int), World.cell? w11 (p7.add 4) = some (.int .i64 x13) ∧ (∀ (K14 : World → Prop), (∀  (w15 : World), (∀ _ : Env, (∀ (K16 : Fn → Array Value → Array Value → World → Prop), (∀ (form_17 : Fn) (form_17a : Array Value) (form_17b : Array Value) (w18 : World), (∀ _ : Env, (∀ (K19 : Fn → Array Value → Array Value → World → Prop), (∀ (form_20 : Fn) (form_20a : Array Value) (form_20b : Array Value) (w21 : World), (∀ _ : Env, (∀ (K22 : Bool → World → Prop), (∀ (t28_23 : Bool) (w24 : World), (∀ _ : Env, (br t28_23 (R (.returned (.int .i64 11)) w24) (∃ (x25 : Int), World.cell? w24 ((p7.add 2).add 1) = some (.int .i64 x25) ∧ (br (decide ((x25 : Int) < 0)) (R (.returned (.int .i64 2)) w24) (∃ (x26 : List UInt8), World.cell? w24 ((p7.add 2).add 0) = some (.string ⟨⟨x26⟩⟩) ∧ (Calls Tryz.prog 54 ⟨[.string ⟨⟨x26⟩⟩]⟩ w24 fun (e27 : Ending) (w28 : World) =>
  ∃ (x29 : Bool), e27 = .returned (.bool x29) ∧ (br (!x29) (R (.returned (.int .i64 14)) w28) (∃ (x30 : List UInt8), World.cell? w28 (p7.add 5) = some (.string ⟨⟨x30⟩⟩) ∧ (Calls Tryz.prog 54 ⟨[.string ⟨⟨x30⟩⟩]⟩ w28 fun (e31 : Ending) (w32 : World) =>
  ∃ (x33 : Bool), e31 = .returned (.bool x33) ∧ (br (!x33) (R (.returned (.int .i64 14)) w32) (R (.returned (.int .i64 0)) w32))))))))))) → K22 t28_23 w24) → (∃ (x34 : List UInt8), World.cell? w21 (p7.add 0) = some (.string ⟨⟨x34⟩⟩) ∧ (CallV Tryz.prog (.func form_20 form_20a form_20b) [.string ⟨⟨x34⟩⟩] w21 fun (e35 : Ending) (w36 : World) =>
  ∃ (x37 : Bool), e35 = .returned (.bool x37) ∧ (br (!x37) (K22 (!x37) w36) (∀ (K38 : Bool → World → Prop), (∀ (t28_39 : Bool) (w40 : World), (∀ _ : Env, (br t28_39 (K22 t28_39 w40) (∃ (x41 : List UInt8), World.cell? w40 (p7.add 0) = some (.string ⟨⟨x41⟩⟩) ∧ (∃ (x42 : List UInt8), World.cell? w40 (p7.add 1) = some (.string ⟨⟨x42⟩⟩) ∧ (∃ (x43 : List UInt8), World.cell? w40 (p7.add 2) = some (.string ⟨⟨x43⟩⟩) ∧ (∃ (x44 : Int), World.cell? w40 (p7.add 3) = some (.int .i64 x44) ∧ (∃ (x45 : Int), World.cell? w40 (p7.add 4) = some (.int .i64 x45) ∧ (∃ (x46 : List UInt8), World.cell? w40 (p7.add 5) = some (.string ⟨⟨x46⟩⟩) ∧ (Calls Tryz.prog 52 ⟨[.agg ⟨[.string ⟨⟨x41⟩⟩, .string ⟨⟨x42⟩⟩, .string ⟨⟨x43⟩⟩, .int .i64 x44, .int .i64 x45, .string ⟨⟨x46⟩⟩]⟩]⟩ w40 fun (e47 : Ending) (w48 : World) =>
  ∃ (x49 : Bool), e47 = .returned (.bool x49) ∧ (br (!x49) (∃ (x50 : List UInt8), World.cell? w48 (p7.add 1) = some (.string ⟨⟨x50⟩⟩) ∧ (∃ (x51 : List UInt8), World.cell? w48 (p7.add 0) = some (.string ⟨⟨x51⟩⟩) ∧ (K22 (decide ((x50 : List UInt8) ≠ x51)) w48))) (K22 false w48))))))))))) → K38 t28_39 w40) → (∃ (x52 : List UInt8), World.cell? w36 (p7.add 0) = some (.string ⟨⟨x52⟩⟩) ∧ (∃ (x53 : List UInt8), World.cell? w36 (p7.add 1) = some (.string ⟨⟨x53⟩⟩) ∧ (∃ (x54 : List UInt8), World.cell? w36 (p7.add 2) = some (.string ⟨⟨x54⟩⟩) ∧ (∃ (x55 : Int), World.cell? w36 (p7.add 3) = some (.int .i64 x55) ∧ (∃ (x56 : Int), World.cell? w36 (p7.add 4) = some (.int .i64 x56) ∧ (∃ (x57 : List UInt8), World.cell? w36 (p7.add 5) = some (.string ⟨⟨x57⟩⟩) ∧ (Calls Tryz.prog 52 ⟨[.agg ⟨[.string ⟨⟨x52⟩⟩, .string ⟨⟨x53⟩⟩, .string ⟨⟨x54⟩⟩, .int .i64 x55, .int .i64 x56, .string ⟨⟨x57⟩⟩]⟩]⟩ w36 fun (e58 : Ending) (w59 : World) =>
  ∃ (x60 : Bool), e58 = .returned (.bool x60) ∧ (br x60 (∃ (x61 : List UInt8), World.cell? w59 (p7.add 1) = some (.string ⟨⟨x61⟩⟩) ∧ (Calls Tryz.prog 53 ⟨[.string ⟨⟨x61⟩⟩]⟩ w59 fun (e62 : Ending) (w63 : World) =>
  ∃ (x64 : Bool), e62 = .returned (.bool x64) ∧ (K38 (!x64) w63))) (K38 false w59))))))))))))))) → K19 form_20 form_20a form_20b w21) → (br (decide (((bitA .i64 x13 8) : Int) ≠ 0)) (K19 (.func 51) #[] #[] w18) (K19 form_17 form_17a form_17b w18)))) → K16 form_17 form_17a form_17b w18) → (br (decide (((bitA .i64 x12 2) : Int) ≠ 0)) (K16 (.func 50) #[] #[] w15) (K16 (.func 15) #[] #[] w15)))) → K14 w15) → (br (decide (((bitA .i64 x12 2) : Int) ≠ 0)) (br (decide (((bitA .i64 x13 8) : Int) ≠ 0)) (R (.returned (.int .i64 8)) w11) (K14 w11)) (K14 w11)))))) → K9 w10) → (∃ (x65 : Int), World.cell? w8 (p7.add 4) = some (.int .i64 x65) ∧ (br (decide ((x65 : Int) < 0)) (R (.returned (.int .i64 2)) w8) (∃ (x66 : Int), World.cell? w8 (p7.add 4) = some (.int .i64 x66) ∧ (br (decide ((31 : Int) < x66)) (R (.returned (.int .i64 2)) w8) (K9 w8)))))
set_option maxRecDepth 100000 in
theorem e_tokenizer_Check (t_1 : List UInt8) (t_2 : List UInt8) (t_3 : List UInt8) (t_4 : Int) (t_5 : Int) (t_6 : List UInt8) (R : Ending → World → Prop) (w : World) : fnV Tryz.prog Tryz.f14 an_tokenizer_Check [.agg ⟨[.string ⟨⟨t_1⟩⟩, .string ⟨⟨t_2⟩⟩, .string ⟨⟨t_3⟩⟩, .int .i64 t_4, .int .i64 t_5, .string ⟨⟨t_6⟩⟩]⟩] R w = sh_tokenizer_Check t_1 t_2 t_3 t_4 t_5 t_6 R w := by kernel_rfl
theorem c_tokenizer_Check {t_1 : List UInt8} {t_2 : List UInt8} {t_3 : List UInt8} {t_4 : Int} {t_5 : Int} {t_6 : List UInt8} {R : Ending → World → Prop} {w : World} (h : sh_tokenizer_Check t_1 t_2 t_3 t_4 t_5 t_6 R w) : Calls Tryz.prog F_tokenizer_Check ⟨[.agg ⟨[.string ⟨⟨t_1⟩⟩, .string ⟨⟨t_2⟩⟩, .string ⟨⟨t_3⟩⟩, .int .i64 t_4, .int .i64 t_5, .string ⟨⟨t_6⟩⟩]⟩]⟩ w R := calls_of_fnV Tryz.func14 (by rw [e_tokenizer_Check]; exact h)

def an_charset_IsWord : Ann := .two (.leaf) (.cut 65524 [] (.two (.leaf) (.two (.two (.leaf) (.leaf)) (.leaf))) (.cut 33488908 [] (.two (.leaf) (.two (.leaf) (.two (.two (.leaf) (.leaf)) (.leaf)))) (.two (.leaf) (.leaf))))
def sh_charset_IsWord (s_1 : List UInt8) (R : Ending → World → Prop) (w : World) : Prop :=
  ∀ (K2 : World → Prop), (∀  (w3 : World), (∀ _ : Env, (∀ (K4 : World → Prop), (∀  (w5 : World), (∀ _ : Env, (s2b Tryz.prog w5 5 s_1 fun a6 a6n a6c w7 =>
  Calls Tryz.prog 56 ⟨[.slice a6 a6n a6c, .func (.func 57) #[] #[]]⟩ w7 fun (e8 : Ending) (w9 : World) =>
  ∃ (x10 : Bool), e8 = .returned (.bool x10) ∧ (R (.returned (.bool (!x10))) w9))) → K4 w5) → (sidx s_1 0 fun b11 =>
  Calls Tryz.prog 55 ⟨[.int .u8 ((b11.toNat : Int))]⟩ w3 fun (e12 : Ending) (w13 : World) =>
  ∃ (x14 : Int), e12 = .returned (.int .i64 x14) ∧ (br (decide ((x14 : Int) ≠ 1)) (br (decide ((x14 : Int) ≠ 3)) (R (.returned (.bool false)) w13) (K4 w13)) (K4 w13))))) → K2 w3) → (br (decide ((s_1 : List UInt8) = ([]))) (R (.returned (.bool false)) w) (br (decide ((64 : Int) < ((List.length s_1 : Int)))) (R (.returned (.bool false)) w) (Calls Tryz.prog 37 ⟨[.string ⟨⟨s_1⟩⟩]⟩ w fun (e15 : Ending) (w16 : World) =>
  ∃ (x17 : Int), e15 = .returned (.int .i64 x17) ∧ (br (decide ((x17 : Int) ≠ 0)) (R (.returned (.bool false)) w16) (K2 w16)))))
set_option maxRecDepth 100000 in
theorem e_charset_IsWord (s_1 : List UInt8) (R : Ending → World → Prop) (w : World) : fnV Tryz.prog Tryz.f15 an_charset_IsWord [.string ⟨⟨s_1⟩⟩] R w = sh_charset_IsWord s_1 R w := by kernel_rfl
theorem c_charset_IsWord {s_1 : List UInt8} {R : Ending → World → Prop} {w : World} (h : sh_charset_IsWord s_1 R w) : Calls Tryz.prog F_charset_IsWord ⟨[.string ⟨⟨s_1⟩⟩]⟩ w R := calls_of_fnV Tryz.func15 (by rw [e_charset_IsWord]; exact h)

def an_ref15_GreatRules : Ann := .two (.leaf) (.cut 131060 [] (.two (.leaf) (.two (.two (.leaf) (.leaf)) (.leaf))) (.two (.two (.leaf) (.one (.loop 37778931862957161578508 [(3, .one (.int .i64))] (.two (.two (.leaf) (.two (.leaf) (.leaf))) (.two (.one (.two (.leaf) (.two (.two (.leaf) (.leaf)) (.leaf)))) (.leaf)))))) (.two (.leaf) (.leaf))))
def sh_ref15_GreatRules (l_1 : Option Addr) (l_1n : Nat) (l_1c : Nat) (R : Ending → World → Prop) (w : World) : Prop :=
  ∀ (K2 : World → Prop), (∀  (w3 : World), (∀ _ : Env, (∃ (I4 : Int → World → Nat → Prop), (∃ m8 : Nat, I4 0 w3 m8) ∧ ∀ (i_5 : Int) (w6 : World) (m7 : Nat), I4 i_5 w6 m7 → ∀ _ : Env, (br (decide ((i_5 : Int) < ((l_1n : Int)))) (idx l_1 l_1n i_5 2 fun p9 =>
  ∃ (x10 : List UInt8), World.cell? w6 (p9.add 0) = some (.string ⟨⟨x10⟩⟩) ∧ (br (decide ((8 : Int) < ((List.length x10 : Int)))) (idx l_1 l_1n i_5 2 fun p11 =>
  ∃ (x12 : List UInt8), World.cell? w6 (p11.add 0) = some (.string ⟨⟨x12⟩⟩) ∧ (br (decide ((((List.length x12 : Int)) : Int) ≤ 64)) (R (.returned (.bool true)) w6) (idx l_1 l_1n i_5 2 fun p13 =>
  ∃ (x14 : List UInt8), World.cell? w6 (p13.add 1) = some (.string ⟨⟨x14⟩⟩) ∧ (br (decide ((8 : Int) < ((List.length x14 : Int)))) (idx l_1 l_1n i_5 2 fun p15 =>
  ∃ (x16 : List UInt8), World.cell? w6 (p15.add 1) = some (.string ⟨⟨x16⟩⟩) ∧ (br (decide ((((List.length x16 : Int)) : Int) ≤ 64)) (R (.returned (.bool true)) w6) (idx l_1 l_1n i_5 2 fun p17 =>
  ∃ (x18 : List UInt8), World.cell? w6 (p17.add 0) = some (.string ⟨⟨x18⟩⟩) ∧ (br (decide ((66 : Int) < ((List.length x18 : Int)))) (R (.returned (.bool true)) w6) (idx l_1 l_1n i_5 2 fun p19 =>
  ∃ (x20 : List UInt8), World.cell? w6 (p19.add 1) = some (.string ⟨⟨x20⟩⟩) ∧ (br (decide ((66 : Int) < ((List.length x20 : Int)))) (R (.returned (.bool true)) w6) (∃ m21 : Nat, m21 < m7 ∧ I4 (IntKind.i64.wrap (i_5 + 1)) w6 m21))))))) (idx l_1 l_1n i_5 2 fun p22 =>
  ∃ (x23 : List UInt8), World.cell? w6 (p22.add 0) = some (.string ⟨⟨x23⟩⟩) ∧ (br (decide ((66 : Int) < ((List.length x23 : Int)))) (R (.returned (.bool true)) w6) (idx l_1 l_1n i_5 2 fun p24 =>
  ∃ (x25 : List UInt8), World.cell? w6 (p24.add 1) = some (.string ⟨⟨x25⟩⟩) ∧ (br (decide ((66 : Int) < ((List.length x25 : Int)))) (R (.returned (.bool true)) w6) (∃ m26 : Nat, m26 < m7 ∧ I4 (IntKind.i64.wrap (i_5 + 1)) w6 m26))))))))) (idx l_1 l_1n i_5 2 fun p27 =>
  ∃ (x28 : List UInt8), World.cell? w6 (p27.add 1) = some (.string ⟨⟨x28⟩⟩) ∧ (br (decide ((8 : Int) < ((List.length x28 : Int)))) (idx l_1 l_1n i_5 2 fun p29 =>
  ∃ (x30 : List UInt8), World.cell? w6 (p29.add 1) = some (.string ⟨⟨x30⟩⟩) ∧ (br (decide ((((List.length x30 : Int)) : Int) ≤ 64)) (R (.returned (.bool true)) w6) (idx l_1 l_1n i_5 2 fun p31 =>
  ∃ (x32 : List UInt8), World.cell? w6 (p31.add 0) = some (.string ⟨⟨x32⟩⟩) ∧ (br (decide ((66 : Int) < ((List.length x32 : Int)))) (R (.returned (.bool true)) w6) (idx l_1 l_1n i_5 2 fun p33 =>
  ∃ (x34 : List UInt8), World.cell? w6 (p33.add 1) = some (.string ⟨⟨x34⟩⟩) ∧ (br (decide ((66 : Int) < ((List.length x34 : Int)))) (R (.returned (.bool true)) w6) (∃ m35 : Nat, m35 < m7 ∧ I4 (IntKind.i64.wrap (i_5 + 1)) w6 m35))))))) (idx l_1 l_1n i_5 2 fun p36 =>
  ∃ (x37 : List UInt8), World.cell? w6 (p36.add 0) = some (.string ⟨⟨x37⟩⟩) ∧ (br (decide ((66 : Int) < ((List.length x37 : Int)))) (R (.returned (.bool true)) w6) (idx l_1 l_1n i_5 2 fun p38 =>
  ∃ (x39 : List UInt8), World.cell? w6 (p38.add 1) = some (.string ⟨⟨x39⟩⟩) ∧ (br (decide ((66 : Int) < ((List.length x39 : Int)))) (R (.returned (.bool true)) w6) (∃ m40 : Nat, m40 < m7 ∧ I4 (IntKind.i64.wrap (i_5 + 1)) w6 m40))))))))) (R (.returned (.bool false)) w6)))) → K2 w3) → (br (decide ((5 : Int) < ((l_1n : Int)))) (br (decide ((((l_1n : Int)) : Int) ≤ 64)) (R (.returned (.bool true)) w) (br (decide ((66 : Int) < ((l_1n : Int)))) (R (.returned (.bool true)) w) (K2 w))) (br (decide ((66 : Int) < ((l_1n : Int)))) (R (.returned (.bool true)) w) (K2 w)))
set_option maxRecDepth 100000 in
theorem e_ref15_GreatRules (l_1 : Option Addr) (l_1n : Nat) (l_1c : Nat) (R : Ending → World → Prop) (w : World) : fnV Tryz.prog Tryz.f16 an_ref15_GreatRules [.slice l_1 l_1n l_1c] R w = sh_ref15_GreatRules l_1 l_1n l_1c R w := by kernel_rfl
theorem c_ref15_GreatRules {l_1 : Option Addr} {l_1n : Nat} {l_1c : Nat} {R : Ending → World → Prop} {w : World} (h : sh_ref15_GreatRules l_1 l_1n l_1c R w) : Calls Tryz.prog F_ref15_GreatRules ⟨[.slice l_1 l_1n l_1c]⟩ w R := calls_of_fnV Tryz.func16 (by rw [e_ref15_GreatRules]; exact h)

def an_rewriting_Check : Ann := .two (.leaf) (.two (.two (.leaf) (.two (.two (.leaf) (.leaf)) (.leaf))) (.two (.two (.leaf) (.one (.loop 2095156 [(11, .one (.int .i64))] (.two (.leaf) (.two (.two (.leaf) (.leaf)) (.two (.one (.two (.leaf) (.two (.leaf) (.two (.leaf) (.two (.two (.leaf) (.leaf)) (.leaf)))))) (.leaf))))))) (.two (.leaf) (.leaf))))
def sh_rewriting_Check (rules_1 : Option Addr) (rules_1n : Nat) (rules_1c : Nat) (R : Ending → World → Prop) (w : World) : Prop :=
  br (decide ((64 : Int) < ((rules_1n : Int)))) (R (.returned (.int .i64 4)) w) (∃ (I2 : Int → World → Nat → Prop), (∃ m6 : Nat, I2 0 w m6) ∧ ∀ (t11_3 : Int) (w4 : World) (m5 : Nat), I2 t11_3 w4 m5 → ∀ _ : Env, (br (decide ((t11_3 : Int) < ((rules_1n : Int)))) (idx rules_1 rules_1n t11_3 2 fun p7 =>
  ∃ (x8 : List UInt8), World.cell? w4 (p7.add 0) = some (.string ⟨⟨x8⟩⟩) ∧ (∃ (x9 : List UInt8), World.cell? w4 (p7.add 1) = some (.string ⟨⟨x9⟩⟩) ∧ (al w4 91 [.string ⟨⟨[]⟩⟩, .string ⟨⟨[]⟩⟩] fun p10 w11 =>
  stL w11 p10 0 [.string ⟨⟨x8⟩⟩, .string ⟨⟨x9⟩⟩] fun w12 =>
  ∃ (x13 : List UInt8), World.cell? w12 (p10.add 0) = some (.string ⟨⟨x13⟩⟩) ∧ (∃ (x14 : List UInt8), World.cell? w12 (p10.add 1) = some (.string ⟨⟨x14⟩⟩) ∧ (Calls Tryz.prog 58 ⟨[.agg ⟨[.string ⟨⟨x13⟩⟩, .string ⟨⟨x14⟩⟩]⟩]⟩ w12 fun (e15 : Ending) (w16 : World) =>
  ∃ (x17 : Int), e15 = .returned (.int .i64 x17) ∧ (br (decide ((x17 : Int) ≠ 0)) (R (.returned (.int .i64 x17)) w16) (∃ m18 : Nat, m18 < m5 ∧ I2 (IntKind.i64.wrap (t11_3 + 1)) w16 m18))))))) (R (.returned (.int .i64 0)) w4)))
set_option maxRecDepth 100000 in
theorem e_rewriting_Check (rules_1 : Option Addr) (rules_1n : Nat) (rules_1c : Nat) (R : Ending → World → Prop) (w : World) : fnV Tryz.prog Tryz.f17 an_rewriting_Check [.slice rules_1 rules_1n rules_1c] R w = sh_rewriting_Check rules_1 rules_1n rules_1c R w := by kernel_rfl
theorem c_rewriting_Check {rules_1 : Option Addr} {rules_1n : Nat} {rules_1c : Nat} {R : Ending → World → Prop} {w : World} (h : sh_rewriting_Check rules_1 rules_1n rules_1c R w) : Calls Tryz.prog F_rewriting_Check ⟨[.slice rules_1 rules_1n rules_1c]⟩ w R := calls_of_fnV Tryz.func17 (by rw [e_rewriting_Check]; exact h)

def an_rewriting_Normalize : Ann := .two (.leaf) (.two (.leaf) (.two (.two (.leaf) (.two (.two (.leaf) (.leaf)) (.leaf))) (.two (.leaf) (.leaf))))
def sh_rewriting_Normalize (rules_1 : Option Addr) (rules_1n : Nat) (rules_1c : Nat) (w_2 : List UInt8) (R : Ending → World → Prop) (w : World) : Prop :=
  Calls Tryz.prog 59 ⟨[.slice rules_1 rules_1n rules_1c, .string ⟨⟨w_2⟩⟩]⟩ w fun (e3 : Ending) (w4 : World) =>
  ∃ (x5 : Option Addr) (x5n : Nat) (x5c : Nat) (x6 : Int), e3 = .returned (.tuple ⟨[.slice x5 x5n x5c, .int .i64 x6]⟩) ∧ (br (decide ((x6 : Int) ≠ 0)) (R (.returned (.tuple ⟨[.string ⟨⟨[]⟩⟩, .int .i64 x6]⟩)) w4) (idx x5 x5n (IntKind.i64.wrap (((x5n : Int)) - 1)) 1 fun p7 =>
  ∃ (x8 : List UInt8), World.cell? w4 p7 = some (.string ⟨⟨x8⟩⟩) ∧ (R (.returned (.tuple ⟨[.string ⟨⟨x8⟩⟩, .int .i64 0]⟩)) w4)))
set_option maxRecDepth 100000 in
theorem e_rewriting_Normalize (rules_1 : Option Addr) (rules_1n : Nat) (rules_1c : Nat) (w_2 : List UInt8) (R : Ending → World → Prop) (w : World) : fnV Tryz.prog Tryz.f18 an_rewriting_Normalize [.slice rules_1 rules_1n rules_1c, .string ⟨⟨w_2⟩⟩] R w = sh_rewriting_Normalize rules_1 rules_1n rules_1c w_2 R w := by kernel_rfl
theorem c_rewriting_Normalize {rules_1 : Option Addr} {rules_1n : Nat} {rules_1c : Nat} {w_2 : List UInt8} {R : Ending → World → Prop} {w : World} (h : sh_rewriting_Normalize rules_1 rules_1n rules_1c w_2 R w) : Calls Tryz.prog F_rewriting_Normalize ⟨[.slice rules_1 rules_1n rules_1c, .string ⟨⟨w_2⟩⟩]⟩ w R := calls_of_fnV Tryz.func18 (by rw [e_rewriting_Normalize]; exact h)

def an_tokenizer_Normalize : Ann := .two (.leaf) (.two (.one (.two (.leaf) (.two (.two (.leaf) (.leaf)) (.two (.leaf) (.two (.two (.leaf) (.leaf)) (.two (.leaf) (.two (.two (.leaf) (.leaf)) (.leaf)))))))) (.two (.leaf) (.leaf)))
def sh_tokenizer_Normalize (rules_1 : Option Addr) (rules_1n : Nat) (rules_1c : Nat) (l_2 : Option Addr) (l_2n : Nat) (l_2c : Nat) (R : Ending → World → Prop) (w : World) : Prop :=
  Calls Tryz.prog 17 ⟨[.slice rules_1 rules_1n rules_1c]⟩ w fun (e3 : Ending) (w4 : World) =>
  ∃ (x5 : Int), e3 = .returned (.int .i64 x5) ∧ (br (decide ((x5 : Int) ≠ 0)) (R (.returned (.tuple ⟨[.slice none 0 0, .int .i64 1]⟩)) w4) (br (decide ((1024 : Int) < ((l_2n : Int)))) (R (.returned (.tuple ⟨[.slice none 0 0, .int .i64 4]⟩)) w4) (Calls Tryz.prog 26 ⟨[.slice l_2 l_2n l_2c, .func (.func 60) #[] #[]]⟩ w4 fun (e6 : Ending) (w7 : World) =>
  ∃ (x8 : Bool), e6 = .returned (.bool x8) ∧ (br x8 (R (.returned (.tuple ⟨[.slice none 0 0, .int .i64 1]⟩)) w7) (Calls Tryz.prog 62 ⟨[.slice l_2 l_2n l_2c]⟩ w7 fun (e9 : Ending) (w10 : World) =>
  ∃ (x11 : Option Addr) (x11n : Nat) (x11c : Nat), e9 = .returned (.slice x11 x11n x11c) ∧ (Calls Tryz.prog 61 ⟨[.slice rules_1 rules_1n rules_1c, .slice x11 x11n x11c]⟩ w10 fun (e12 : Ending) (w13 : World) =>
  ∃ (x14 : Option Addr) (x14n : Nat) (x14c : Nat) (x15 : Int), e12 = .returned (.tuple ⟨[.slice x14 x14n x14c, .int .i64 x15]⟩) ∧ (R (.returned (.tuple ⟨[.slice x14 x14n x14c, .int .i64 x15]⟩)) w13)))))))
set_option maxRecDepth 100000 in
theorem e_tokenizer_Normalize (rules_1 : Option Addr) (rules_1n : Nat) (rules_1c : Nat) (l_2 : Option Addr) (l_2n : Nat) (l_2c : Nat) (R : Ending → World → Prop) (w : World) : fnV Tryz.prog Tryz.f19 an_tokenizer_Normalize [.slice rules_1 rules_1n rules_1c, .slice l_2 l_2n l_2c] R w = sh_tokenizer_Normalize rules_1 rules_1n rules_1c l_2 l_2n l_2c R w := by kernel_rfl
theorem c_tokenizer_Normalize {rules_1 : Option Addr} {rules_1n : Nat} {rules_1c : Nat} {l_2 : Option Addr} {l_2n : Nat} {l_2c : Nat} {R : Ending → World → Prop} {w : World} (h : sh_tokenizer_Normalize rules_1 rules_1n rules_1c l_2 l_2n l_2c R w) : Calls Tryz.prog F_tokenizer_Normalize ⟨[.slice rules_1 rules_1n rules_1c, .slice l_2 l_2n l_2c]⟩ w R := calls_of_fnV Tryz.func19 (by rw [e_tokenizer_Normalize]; exact h)

def an_ref15_SameTokens : Ann := .two (.leaf) (.two (.two (.leaf) (.two (.two (.leaf) (.leaf)) (.leaf))) (.two (.two (.leaf) (.one (.loop 67106864 [(5, .one (.int .i64))] (.two (.two (.leaf) (.two (.leaf) (.leaf))) (.two (.one (.two (.leaf) (.two (.two (.leaf) (.leaf)) (.leaf)))) (.leaf)))))) (.two (.leaf) (.leaf))))
def sh_ref15_SameTokens (a_1 : Option Addr) (a_1n : Nat) (a_1c : Nat) (b_2 : Option Addr) (b_2n : Nat) (b_2c : Nat) (R : Ending → World → Prop) (w : World) : Prop :=
  br (decide ((((a_1n : Int)) : Int) ≠ ((b_2n : Int)))) (R (.returned (.bool false)) w) (∃ (I3 : Int → World → Nat → Prop), (∃ m7 : Nat, I3 0 w m7) ∧ ∀ (i_4 : Int) (w5 : World) (m6 : Nat), I3 i_4 w5 m6 → ∀ _ : Env, (br (decide ((i_4 : Int) < ((a_1n : Int)))) (drw w5 fun w8 =>
  idx a_1 a_1n i_4 6 fun p9 =>
  ∃ (x10 : List UInt8), World.cell? w8 (p9.add 0) = some (.string ⟨⟨x10⟩⟩) ∧ (∃ (x11 : List UInt8), World.cell? w8 (p9.add 1) = some (.string ⟨⟨x11⟩⟩) ∧ (∃ (x12 : List UInt8), World.cell? w8 (p9.add 2) = some (.string ⟨⟨x12⟩⟩) ∧ (∃ (x13 : Int), World.cell? w8 (p9.add 3) = some (.int .i64 x13) ∧ (∃ (x14 : Int), World.cell? w8 (p9.add 4) = some (.int .i64 x14) ∧ (∃ (x15 : List UInt8), World.cell? w8 (p9.add 5) = some (.string ⟨⟨x15⟩⟩) ∧ (idx b_2 b_2n i_4 6 fun p16 =>
  ∃ (x17 : List UInt8), World.cell? w8 (p16.add 0) = some (.string ⟨⟨x17⟩⟩) ∧ (∃ (x18 : List UInt8), World.cell? w8 (p16.add 1) = some (.string ⟨⟨x18⟩⟩) ∧ (∃ (x19 : List UInt8), World.cell? w8 (p16.add 2) = some (.string ⟨⟨x19⟩⟩) ∧ (∃ (x20 : Int), World.cell? w8 (p16.add 3) = some (.int .i64 x20) ∧ (∃ (x21 : Int), World.cell? w8 (p16.add 4) = some (.int .i64 x21) ∧ (∃ (x22 : List UInt8), World.cell? w8 (p16.add 5) = some (.string ⟨⟨x22⟩⟩) ∧ (br (!(decide ((x10 : List UInt8) = x17) && (decide ((x11 : List UInt8) = x18) && ((decide ((x12 : List UInt8) = x19) && (decide ((x13 : Int) = x20) && true)) && (decide ((x14 : Int) = x21) && (decide ((x15 : List UInt8) = x22) && true)))))) (R (.returned (.bool false)) w8) (∃ m23 : Nat, m23 < m6 ∧ I3 (IntKind.i64.wrap (i_4 + 1)) w8 m23)))))))))))))) (R (.returned (.bool true)) w5)))
set_option maxRecDepth 100000 in
theorem e_ref15_SameTokens (a_1 : Option Addr) (a_1n : Nat) (a_1c : Nat) (b_2 : Option Addr) (b_2n : Nat) (b_2c : Nat) (R : Ending → World → Prop) (w : World) : fnV Tryz.prog Tryz.f20 an_ref15_SameTokens [.slice a_1 a_1n a_1c, .slice b_2 b_2n b_2c] R w = sh_ref15_SameTokens a_1 a_1n a_1c b_2 b_2n b_2c R w := by kernel_rfl
theorem c_ref15_SameTokens {a_1 : Option Addr} {a_1n : Nat} {a_1c : Nat} {b_2 : Option Addr} {b_2n : Nat} {b_2c : Nat} {R : Ending → World → Prop} {w : World} (h : sh_ref15_SameTokens a_1 a_1n a_1c b_2 b_2n b_2c R w) : Calls Tryz.prog F_ref15_SameTokens ⟨[.slice a_1 a_1n a_1c, .slice b_2 b_2n b_2c]⟩ w R := calls_of_fnV Tryz.func20 (by rw [e_ref15_SameTokens]; exact h)

def an_slices_Equal_of_string_string : Ann := .two (.leaf) (.two (.two (.leaf) (.two (.two (.leaf) (.leaf)) (.leaf))) (.two (.two (.leaf) (.one (.loop 67100720 [(13, .one (.int .i64))] (.two (.leaf) (.two (.two (.leaf) (.leaf)) (.two (.one (.two (.leaf) (.two (.leaf) (.two (.two (.leaf) (.leaf)) (.leaf))))) (.leaf))))))) (.two (.leaf) (.leaf))))
def sh_slices_Equal_of_string_string (s1_1 : Option Addr) (s1_1n : Nat) (s1_1c : Nat) (s2_2 : Option Addr) (s2_2n : Nat) (s2_2c : Nat) (R : Ending → World → Prop) (w : World) : Prop :=
  br (decide ((((s1_1n : Int)) : Int) ≠ ((s2_2n : Int)))) (R (.returned (.bool false)) w) (∃ (I3 : Int → World → Nat → Prop), (∃ m7 : Nat, I3 0 w m7) ∧ ∀ (t13_4 : Int) (w5 : World) (m6 : Nat), I3 t13_4 w5 m6 → ∀ _ : Env, (br (decide ((t13_4 : Int) < ((s1_1n : Int)))) (drw w5 fun w8 =>
  idx s1_1 s1_1n t13_4 1 fun p9 =>
  ∃ (x10 : List UInt8), World.cell? w8 p9 = some (.string ⟨⟨x10⟩⟩) ∧ (idx s2_2 s2_2n t13_4 1 fun p11 =>
  ∃ (x12 : List UInt8), World.cell? w8 p11 = some (.string ⟨⟨x12⟩⟩) ∧ (br (decide ((x10 : List UInt8) ≠ x12)) (R (.returned (.bool false)) w8) (∃ m13 : Nat, m13 < m6 ∧ I3 (IntKind.i64.wrap (t13_4 + 1)) w8 m13)))) (R (.returned (.bool true)) w5)))
set_option maxRecDepth 100000 in
theorem e_slices_Equal_of_string_string (s1_1 : Option Addr) (s1_1n : Nat) (s1_1c : Nat) (s2_2 : Option Addr) (s2_2n : Nat) (s2_2c : Nat) (R : Ending → World → Prop) (w : World) : fnV Tryz.prog Tryz.f21 an_slices_Equal_of_string_string [.slice s1_1 s1_1n s1_1c, .slice s2_2 s2_2n s2_2c] R w = sh_slices_Equal_of_string_string s1_1 s1_1n s1_1c s2_2 s2_2n s2_2c R w := by kernel_rfl
theorem c_slices_Equal_of_string_string {s1_1 : Option Addr} {s1_1n : Nat} {s1_1c : Nat} {s2_2 : Option Addr} {s2_2n : Nat} {s2_2c : Nat} {R : Ending → World → Prop} {w : World} (h : sh_slices_Equal_of_string_string s1_1 s1_1n s1_1c s2_2 s2_2n s2_2c R w) : Calls Tryz.prog F_slices_Equal_of_string_string ⟨[.slice s1_1 s1_1n s1_1c, .slice s2_2 s2_2n s2_2c]⟩ w R := calls_of_fnV Tryz.func21 (by rw [e_slices_Equal_of_string_string]; exact h)

def an_tokenizer_Words : Ann := .two (.leaf) (.two (.leaf) (.two (.two (.leaf) (.one (.loop 261928 [(3, .one (.slice)), (8, .one (.int .i64))] (.two (.leaf) (.two (.two (.leaf) (.leaf)) (.two (.one (.two (.leaf) (.leaf))) (.leaf))))))) (.two (.leaf) (.leaf))))
def sh_tokenizer_Words (l_1 : Option Addr) (l_1n : Nat) (l_1c : Nat) (R : Ending → World → Prop) (w : World) : Prop :=
  ∃ (I2 : Option Addr → Nat → Nat → Int → World → Nat → Prop), (∃ m7 : Nat, I2 none 0 0 0 w m7) ∧ ∀ (out_3 : Option Addr) (out_3n : Nat) (out_3c : Nat) (t8_4 : Int) (w5 : World) (m6 : Nat), I2 out_3 out_3n out_3c t8_4 w5 m6 → ∀ _ : Env, (br (decide ((t8_4 : Int) < ((l_1n : Int)))) (idx l_1 l_1n t8_4 6 fun p8 =>
  ∃ (x9 : List UInt8), World.cell? w5 (p8.add 0) = some (.string ⟨⟨x9⟩⟩) ∧ (∃ (x10 : List UInt8), World.cell? w5 (p8.add 1) = some (.string ⟨⟨x10⟩⟩) ∧ (∃ (x11 : List UInt8), World.cell? w5 (p8.add 2) = some (.string ⟨⟨x11⟩⟩) ∧ (∃ (x12 : Int), World.cell? w5 (p8.add 3) = some (.int .i64 x12) ∧ (∃ (x13 : Int), World.cell? w5 (p8.add 4) = some (.int .i64 x13) ∧ (∃ (x14 : List UInt8), World.cell? w5 (p8.add 5) = some (.string ⟨⟨x14⟩⟩) ∧ (al w5 31 [.string ⟨⟨[]⟩⟩, .string ⟨⟨[]⟩⟩, .string ⟨⟨[]⟩⟩, .int .i64 0, .int .i64 0, .string ⟨⟨[]⟩⟩] fun p15 w16 =>
  stL w16 p15 0 [.string ⟨⟨x9⟩⟩, .string ⟨⟨x10⟩⟩, .string ⟨⟨x11⟩⟩, .int .i64 x12, .int .i64 x13, .string ⟨⟨x14⟩⟩] fun w17 =>
  ∃ (x18 : List UInt8), World.cell? w17 (p15.add 0) = some (.string ⟨⟨x18⟩⟩) ∧ (al w17 9 [.string ⟨⟨x18⟩⟩] fun p19 w20 =>
  app Tryz.prog [48, 48] 48 (.slice out_3 out_3n out_3c) (.slice (some p19) 1 1) w20 fun a21 a21n a21c w22 =>
  ∃ m23 : Nat, m23 < m6 ∧ I2 a21 a21n a21c (IntKind.i64.wrap (t8_4 + 1)) w22 m23)))))))) (R (.returned (.slice out_3 out_3n out_3c)) w5))
set_option maxRecDepth 100000 in
theorem e_tokenizer_Words (l_1 : Option Addr) (l_1n : Nat) (l_1c : Nat) (R : Ending → World → Prop) (w : World) : fnV Tryz.prog Tryz.f22 an_tokenizer_Words [.slice l_1 l_1n l_1c] R w = sh_tokenizer_Words l_1 l_1n l_1c R w := by kernel_rfl
theorem c_tokenizer_Words {l_1 : Option Addr} {l_1n : Nat} {l_1c : Nat} {R : Ending → World → Prop} {w : World} (h : sh_tokenizer_Words l_1 l_1n l_1c R w) : Calls Tryz.prog F_tokenizer_Words ⟨[.slice l_1 l_1n l_1c]⟩ w R := calls_of_fnV Tryz.func22 (by rw [e_tokenizer_Words]; exact h)

def an_slices_ContainsFunc_of_api_Token_api_Token : Ann := .two (.leaf) (.two (.leaf) (.leaf))
def sh_slices_ContainsFunc_of_api_Token_api_Token (s_1 : Option Addr) (s_1n : Nat) (s_1c : Nat) (f_2 : Fn) (f_2a : Array Value) (f_2b : Array Value) (R : Ending → World → Prop) (w : World) : Prop :=
  Calls Tryz.prog 71 ⟨[.slice s_1 s_1n s_1c, .func f_2 f_2a f_2b]⟩ w fun (e3 : Ending) (w4 : World) =>
  ∃ (x5 : Int), e3 = .returned (.int .i64 x5) ∧ (R (.returned (.bool (decide ((0 : Int) ≤ x5)))) w4)
set_option maxRecDepth 100000 in
theorem e_slices_ContainsFunc_of_api_Token_api_Token (s_1 : Option Addr) (s_1n : Nat) (s_1c : Nat) (f_2 : Fn) (f_2a : Array Value) (f_2b : Array Value) (R : Ending → World → Prop) (w : World) : fnV Tryz.prog Tryz.f26 an_slices_ContainsFunc_of_api_Token_api_Token [.slice s_1 s_1n s_1c, .func f_2 f_2a f_2b] R w = sh_slices_ContainsFunc_of_api_Token_api_Token s_1 s_1n s_1c f_2 f_2a f_2b R w := by kernel_rfl
theorem c_slices_ContainsFunc_of_api_Token_api_Token {s_1 : Option Addr} {s_1n : Nat} {s_1c : Nat} {f_2 : Fn} {f_2a : Array Value} {f_2b : Array Value} {R : Ending → World → Prop} {w : World} (h : sh_slices_ContainsFunc_of_api_Token_api_Token s_1 s_1n s_1c f_2 f_2a f_2b R w) : Calls Tryz.prog F_slices_ContainsFunc_of_api_Token_api_Token ⟨[.slice s_1 s_1n s_1c, .func f_2 f_2a f_2b]⟩ w R := calls_of_fnV Tryz.func26 (by rw [e_slices_ContainsFunc_of_api_Token_api_Token]; exact h)

def an_tokenizer_Split : Ann := .two (.leaf) (.two (.two (.leaf) (.two (.leaf) (.two (.two (.leaf) (.leaf)) (.leaf)))) (.two (.two (.leaf) (.two (.two (.leaf) (.leaf)) (.leaf))) (.two (.leaf) (.two (.leaf) (.leaf)))))
def sh_tokenizer_Split (s_1 : List UInt8) (R : Ending → World → Prop) (w : World) : Prop :=
  Calls Tryz.prog 37 ⟨[.string ⟨⟨s_1⟩⟩]⟩ w fun (e2 : Ending) (w3 : World) =>
  ∃ (x4 : Int), e2 = .returned (.int .i64 x4) ∧ (br (decide ((x4 : Int) ≠ 0)) (R (.returned (.tuple ⟨[.slice none 0 0, .int .i64 x4]⟩)) w3) (br (decide ((s_1 : List UInt8) = ([]))) (R (.returned (.tuple ⟨[.slice none 0 0, .int .i64 0]⟩)) w3) (al w3 64 [.int .i64 1, .string ⟨⟨s_1⟩⟩, .int .i64 0, .slice none 0 0] fun p5 w6 =>
  Calls Tryz.prog 38 ⟨[.agg ⟨[.string ⟨⟨[]⟩⟩, .int .i64 0]⟩, .slice (some p5) 1 1, .slice none 0 0]⟩ w6 fun (e7 : Ending) (w8 : World) =>
  ∃ (x9 : Option Addr) (x9n : Nat) (x9c : Nat) (x10 : Int), e7 = .returned (.tuple ⟨[.slice x9 x9n x9c, .int .i64 x10]⟩) ∧ (Calls Tryz.prog 22 ⟨[.slice x9 x9n x9c]⟩ w8 fun (e11 : Ending) (w12 : World) =>
  ∃ (x13 : Option Addr) (x13n : Nat) (x13c : Nat), e11 = .returned (.slice x13 x13n x13c) ∧ (R (.returned (.tuple ⟨[.slice x13 x13n x13c, .int .i64 x10]⟩)) w12)))))
set_option maxRecDepth 100000 in
theorem e_tokenizer_Split (s_1 : List UInt8) (R : Ending → World → Prop) (w : World) : fnV Tryz.prog Tryz.f32 an_tokenizer_Split [.string ⟨⟨s_1⟩⟩] R w = sh_tokenizer_Split s_1 R w := by kernel_rfl
theorem c_tokenizer_Split {s_1 : List UInt8} {R : Ending → World → Prop} {w : World} (h : sh_tokenizer_Split s_1 R w) : Calls Tryz.prog F_tokenizer_Split ⟨[.string ⟨⟨s_1⟩⟩]⟩ w R := calls_of_fnV Tryz.func32 (by rw [e_tokenizer_Split]; exact h)

def an_charset_Check : Ann := .two (.leaf) (.two (.two (.leaf) (.two (.two (.leaf) (.leaf)) (.leaf))) (.two (.two (.leaf) (.one (.rf [2, 10] 0))) (.two (.leaf) (.leaf))))
def sh_charset_Check (s_1 : List UInt8) (R : Ending → World → Prop) (w : World) : Prop :=
  al w 32 [.int .i64 0] fun p2 w3 =>
  br (decide ((65536 : Int) < ((List.length s_1 : Int)))) (stL w3 p2 0 [.int .i64 4] fun w4 =>
  ∃ (x5 : Int), World.cell? w4 p2 = some (.int .i64 x5) ∧ (R (.returned (.int .i64 x5)) w4)) (Calls Tryz.prog 89 ⟨[.string ⟨⟨s_1⟩⟩]⟩ w3 fun (e6 : Ending) (w7 : World) =>
  ∃ (x8 : Fn) (x8a : Array Value) (x8b : Array Value), e6 = .returned (.func x8 x8a x8b) ∧ (∀ base9 : Env, RFw Tryz.prog none 22 (cdAt Tryz.f37 [1, 1, 0, 1, 2]) (upd (upd base9 10 (.func x8 x8a x8b)) 2 (.pointer (some p2))) [] w7 0 (fun ds10 w11 =>
  stL w11 p2 0 [.int .i64 0] fun w15 =>
  retD ds10 w15 fun w16 =>
  ∃ (x17 : Int), World.cell? w16 p2 = some (.int .i64 x17) ∧ (R (.returned (.int .i64 x17)) w16)) (fun ds10 w11 =>
  retD ds10 w11 fun w18 =>
  ∃ (x19 : Int), World.cell? w18 p2 = some (.int .i64 x19) ∧ (R (.returned (.int .i64 x19)) w18)) (fun ds10 w11 =>
  stL w11 p2 0 [.int .i64 0] fun w12 =>
  retD ds10 w12 fun w13 =>
  ∃ (x14 : Int), World.cell? w13 p2 = some (.int .i64 x14) ∧ (R (.returned (.int .i64 x14)) w13))))
set_option maxRecDepth 100000 in
theorem e_charset_Check (s_1 : List UInt8) (R : Ending → World → Prop) (w : World) : fnV Tryz.prog Tryz.f37 an_charset_Check [.string ⟨⟨s_1⟩⟩] R w = sh_charset_Check s_1 R w := by kernel_rfl
theorem c_charset_Check {s_1 : List UInt8} {R : Ending → World → Prop} {w : World} (h : sh_charset_Check s_1 R w) : Calls Tryz.prog F_charset_Check ⟨[.string ⟨⟨s_1⟩⟩]⟩ w R := calls_of_fnV Tryz.func37 (by rw [e_charset_Check]; exact h)
def anA_charset_Check_1 : Ann := .leaf
def anB_charset_Check_1 : Ann := .one (.two (.leaf) (.two (.leaf) (.two (.two (.leaf) (.leaf)) (.leaf))))
def rf_charset_Check_1 (t2_20 : Option Addr) (t10_21 : Fn) (t10_21a : Array Value) (t10_21b : Array Value) (t11_22 : Value) (t12_23 : List UInt8) (l : Nat) (Kn Kr Kx : World → World → Prop) (w : World) : Prop :=
  Ext w w ∧ ∀ w24 : World, Upd l w w24 → (sidx t12_23 0 fun b25 =>
  Calls Tryz.prog 55 ⟨[.int .u8 ((b25.toNat : Int))]⟩ w24 fun (e26 : Ending) (w27 : World) =>
  ∃ (x28 : Int), e26 = .returned (.int .i64 x28) ∧ (br (decide ((x28 : Int) = 0)) (dr t2_20 fun p30 =>
  stL w27 p30 0 [.int .i64 11] fun w29 =>
  Kr w24 w29) (br (decide ((x28 : Int) = 2)) (dr t2_20 fun p32 =>
  stL w27 p32 0 [.int .i64 11] fun w31 =>
  Kr w24 w31) (Kn w24 w27))))
set_option maxRecDepth 100000 in
theorem er_charset_Check_1 (base : Env) (t2_20 : Option Addr) (t10_21 : Fn) (t10_21a : Array Value) (t10_21b : Array Value) (t11_22 : Value) (t12_23 : List UInt8) (l : Nat) (Kn Kr Kx : World → World → Prop) (w : World) : fragV Tryz.prog 22 anA_charset_Check_1 anB_charset_Check_1 (cdAt Tryz.f37 [1, 1, 0, 1, 2, 5]) (cdAt Tryz.f37 [1, 1, 0, 1, 2, 6]) l 0 Kn Kr Kx (updPs [11, 12] [t11_22, .string ⟨⟨t12_23⟩⟩] (upd (upd base 10 (.func t10_21 t10_21a t10_21b)) 2 (.pointer t2_20))) w = rf_charset_Check_1 t2_20 t10_21 t10_21a t10_21b t11_22 t12_23 l Kn Kr Kx w := by kernel_rfl
theorem cd_charset_Check_1 : cdAt Tryz.f37 [1, 1, 0, 1, 2] = .rangeFunc (Operand.tmp 10) #[11, 12] (cdAt Tryz.f37 [1, 1, 0, 1, 2, 5]) (cdAt Tryz.f37 [1, 1, 0, 1, 2, 6]) := by kernel_rfl

def an_tokenizer_Tokens : Ann := .two (.leaf) (.cut 4178112 [(6, .one (.slice)), (7, .one (.int .i64))] (.two (.leaf) (.two (.two (.leaf) (.leaf)) (.leaf))) (.cut 1069547712 [(6, .one (.slice)), (7, .one (.int .i64))] (.two (.leaf) (.two (.two (.leaf) (.leaf)) (.leaf))) (.two (.two (.leaf) (.two (.two (.leaf) (.leaf)) (.leaf))) (.two (.leaf) (.two (.leaf) (.two (.two (.leaf) (.two (.two (.leaf) (.leaf)) (.leaf))) (.two (.leaf) (.two (.two (.leaf) (.one (.rf [2, 6, 7, 12, 50] 0))) (.two (.leaf) (.cut 18410715276690587840 [] (.two (.leaf) (.two (.two (.leaf) (.leaf)) (.leaf))) (.two (.leaf) (.leaf))))))))))))
def sh_tokenizer_Tokens (start_1 : List UInt8) (start_2 : Int) (l_3 : Option Addr) (l_3n : Nat) (l_3c : Nat) (rules_4 : Option Addr) (rules_4n : Nat) (rules_4c : Nat) (R : Ending → World → Prop) (w : World) : Prop :=
  al w 29 [.string ⟨⟨start_1⟩⟩, .int .i64 start_2] fun p5 w6 =>
  ∀ (K7 : Option Addr → Nat → Nat → Int → World → Prop), (∀ (t6_8 : Option Addr) (t6_8n : Nat) (t6_8c : Nat) (t7_9 : Int) (w10 : World), (∀ _ : Env, (∀ (K11 : Option Addr → Nat → Nat → Int → World → Prop), (∀ (t6_12 : Option Addr) (t6_12n : Nat) (t6_12c : Nat) (t7_13 : Int) (w14 : World), (∀ _ : Env, (∃ (x15 : List UInt8), World.cell? w14 (p5.add 0) = some (.string ⟨⟨x15⟩⟩) ∧ (Calls Tryz.prog 54 ⟨[.string ⟨⟨x15⟩⟩]⟩ w14 fun (e16 : Ending) (w17 : World) =>
  ∃ (x18 : Bool), e16 = .returned (.bool x18) ∧ (br (!x18) (R (.returned (.tuple ⟨[.slice none 0 0, .int .i64 14]⟩)) w17) (Calls Tryz.prog 12 ⟨[.slice l_3 l_3n l_3c, .int .i64 8]⟩ w17 fun (e19 : Ending) (w20 : World) =>
  ∃ (x21 : Int) (x22 : Int), e19 = .returned (.tuple ⟨[.int .i64 x21, .int .i64 x22]⟩) ∧ (Calls Tryz.prog 12 ⟨[.slice l_3 l_3n l_3c, .int .i64 9]⟩ w20 fun (e23 : Ending) (w24 : World) =>
  ∃ (x25 : Int) (x26 : Int), e23 = .returned (.tuple ⟨[.int .i64 x25, .int .i64 x26]⟩) ∧ (br (decide ((0 : Int) < (IntKind.i64.wrap (x21 + x25)))) (R (.returned (.tuple ⟨[.slice none 0 0, .int .i64 13]⟩)) w24) (al w24 113 [.slice none 0 0, .pointer none, .slice none 0 0, .bool false, .bool false, .bool false] fun p27 w28 =>
  ∃ (x29 : List UInt8), World.cell? w28 (p5.add 0) = some (.string ⟨⟨x29⟩⟩) ∧ (∃ (x30 : Int), World.cell? w28 (p5.add 1) = some (.int .i64 x30) ∧ (Calls Tryz.prog 90 ⟨[.agg ⟨[.string ⟨⟨x29⟩⟩, .int .i64 x30]⟩, .slice l_3 l_3n l_3c]⟩ w28 fun (e31 : Ending) (w32 : World) =>
  ∃ (x33 : Fn) (x33a : Array Value) (x33b : Array Value), e31 = .returned (.func x33 x33a x33b) ∧ (∀ base34 : Env, RFw Tryz.prog none 70 (cdAt Tryz.f38 [1, 1, 1, 1, 1, 1, 1, 1, 0, 1, 2]) (upd (upd (upd (upd (upd base34 50 (.func x33 x33a x33b)) 12 (.pointer (some p27))) 7 (.int .i64 t7_13)) 6 (.slice t6_12 t6_12n t6_12c)) 2 (.slice rules_4 rules_4n rules_4c)) [] w32 0 (fun ds35 w36 =>
  Calls Tryz.prog 92 ⟨[.pointer (some p27)]⟩ w36 fun (e54 : Ending) (w55 : World) =>
  e54 = .returned (.tuple ⟨[]⟩) ∧ (∀ (K56 : World → Prop), (∀  (w57 : World), (∀ _ : Env, (∃ (x58 : Option Addr) (x58n : Nat) (x58c : Nat), World.cell? w57 (p27.add 0) = some (.slice x58 x58n x58c) ∧ (Calls Tryz.prog 61 ⟨[.slice rules_4 rules_4n rules_4c, .slice x58 x58n x58c]⟩ w57 fun (e59 : Ending) (w60 : World) =>
  ∃ (x61 : Option Addr) (x61n : Nat) (x61c : Nat) (x62 : Int), e59 = .returned (.tuple ⟨[.slice x61 x61n x61c, .int .i64 x62]⟩) ∧ (retD ds35 w60 fun w63 =>
  R (.returned (.tuple ⟨[.slice x61 x61n x61c, .int .i64 x62]⟩)) w63)))) → K56 w57) → (∃ (x64 : Option Addr) (x64n : Nat) (x64c : Nat), World.cell? w55 (p27.add 0) = some (.slice x64 x64n x64c) ∧ (br (decide ((1024 : Int) < ((x64n : Int)))) (retD ds35 w55 fun w65 =>
  R (.returned (.tuple ⟨[.slice none 0 0, .int .i64 4]⟩)) w65) (∃ (x66 : Option Addr) (x66n : Nat) (x66c : Nat), World.cell? w55 (p27.add 0) = some (.slice x66 x66n x66c) ∧ (Calls Tryz.prog 26 ⟨[.slice x66 x66n x66c, .func (.func 93) #[] #[]]⟩ w55 fun (e67 : Ending) (w68 : World) =>
  ∃ (x69 : Bool), e67 = .returned (.bool x69) ∧ (br x69 (retD ds35 w68 fun w70 =>
  R (.returned (.tuple ⟨[.slice none 0 0, .int .i64 4]⟩)) w70) (K56 w68)))))))) (fun ds35 w36 =>
  retD ds35 w36 fun w71 =>
  R (.returned (.tuple ⟨[.slice t6_12 t6_12n t6_12c, .int .i64 t7_13]⟩)) w71) (fun ds35 w36 =>
  Calls Tryz.prog 92 ⟨[.pointer (some p27)]⟩ w36 fun (e37 : Ending) (w38 : World) =>
  e37 = .returned (.tuple ⟨[]⟩) ∧ (∀ (K39 : World → Prop), (∀  (w40 : World), (∀ _ : Env, (∃ (x41 : Option Addr) (x41n : Nat) (x41c : Nat), World.cell? w40 (p27.add 0) = some (.slice x41 x41n x41c) ∧ (Calls Tryz.prog 61 ⟨[.slice rules_4 rules_4n rules_4c, .slice x41 x41n x41c]⟩ w40 fun (e42 : Ending) (w43 : World) =>
  ∃ (x44 : Option Addr) (x44n : Nat) (x44c : Nat) (x45 : Int), e42 = .returned (.tuple ⟨[.slice x44 x44n x44c, .int .i64 x45]⟩) ∧ (retD ds35 w43 fun w46 =>
  R (.returned (.tuple ⟨[.slice x44 x44n x44c, .int .i64 x45]⟩)) w46)))) → K39 w40) → (∃ (x47 : Option Addr) (x47n : Nat) (x47c : Nat), World.cell? w38 (p27.add 0) = some (.slice x47 x47n x47c) ∧ (br (decide ((1024 : Int) < ((x47n : Int)))) (retD ds35 w38 fun w48 =>
  R (.returned (.tuple ⟨[.slice none 0 0, .int .i64 4]⟩)) w48) (∃ (x49 : Option Addr) (x49n : Nat) (x49c : Nat), World.cell? w38 (p27.add 0) = some (.slice x49 x49n x49c) ∧ (Calls Tryz.prog 26 ⟨[.slice x49 x49n x49c, .func (.func 93) #[] #[]]⟩ w38 fun (e50 : Ending) (w51 : World) =>
  ∃ (x52 : Bool), e50 = .returned (.bool x52) ∧ (br x52 (retD ds35 w51 fun w53 =>
  R (.returned (.tuple ⟨[.slice none 0 0, .int .i64 4]⟩)) w53) (K39 w51))))))))))))))))))) → K11 t6_12 t6_12n t6_12c t7_13 w14) → (∃ (x72 : Int), World.cell? w10 (p5.add 1) = some (.int .i64 x72) ∧ (br (decide ((x72 : Int) < 0)) (R (.returned (.tuple ⟨[.slice none 0 0, .int .i64 2]⟩)) w10) (∃ (x73 : Int), World.cell? w10 (p5.add 1) = some (.int .i64 x73) ∧ (br (decide ((4096 : Int) < x73)) (R (.returned (.tuple ⟨[.slice none 0 0, .int .i64 2]⟩)) w10) (K11 t6_8 t6_8n t6_8c t7_9 w10))))))) → K7 t6_8 t6_8n t6_8c t7_9 w10) → (Calls Tryz.prog 43 ⟨[.slice l_3 l_3n l_3c]⟩ w6 fun (e74 : Ending) (w75 : World) =>
  ∃ (x76 : Int), e74 = .returned (.int .i64 x76) ∧ (br (decide ((x76 : Int) ≠ 0)) (R (.returned (.tuple ⟨[.slice none 0 0, .int .i64 1]⟩)) w75) (Calls Tryz.prog 17 ⟨[.slice rules_4 rules_4n rules_4c]⟩ w75 fun (e77 : Ending) (w78 : World) =>
  ∃ (x79 : Int), e77 = .returned (.int .i64 x79) ∧ (br (decide ((x79 : Int) ≠ 0)) (R (.returned (.tuple ⟨[.slice none 0 0, .int .i64 1]⟩)) w78) (K7 none 0 0 0 w78)))))
set_option maxRecDepth 100000 in
theorem e_tokenizer_Tokens (start_1 : List UInt8) (start_2 : Int) (l_3 : Option Addr) (l_3n : Nat) (l_3c : Nat) (rules_4 : Option Addr) (rules_4n : Nat) (rules_4c : Nat) (R : Ending → World → Prop) (w : World) : fnV Tryz.prog Tryz.f38 an_tokenizer_Tokens [.agg ⟨[.string ⟨⟨start_1⟩⟩, .int .i64 start_2]⟩, .slice l_3 l_3n l_3c, .slice rules_4 rules_4n rules_4c] R w = sh_tokenizer_Tokens start_1 start_2 l_3 l_3n l_3c rules_4 rules_4n rules_4c R w := by kernel_rfl
theorem c_tokenizer_Tokens {start_1 : List UInt8} {start_2 : Int} {l_3 : Option Addr} {l_3n : Nat} {l_3c : Nat} {rules_4 : Option Addr} {rules_4n : Nat} {rules_4c : Nat} {R : Ending → World → Prop} {w : World} (h : sh_tokenizer_Tokens start_1 start_2 l_3 l_3n l_3c rules_4 rules_4n rules_4c R w) : Calls Tryz.prog F_tokenizer_Tokens ⟨[.agg ⟨[.string ⟨⟨start_1⟩⟩, .int .i64 start_2]⟩, .slice l_3 l_3n l_3c, .slice rules_4 rules_4n rules_4c]⟩ w R := calls_of_fnV Tryz.func38 (by rw [e_tokenizer_Tokens]; exact h)
def anA_tokenizer_Tokens_1 : Ann := .leaf
def anB_tokenizer_Tokens_1 : Ann := .one (.leaf)
def rf_tokenizer_Tokens_1 (rules_80 : Option Addr) (rules_80n : Nat) (rules_80c : Nat) (t6_81 : Option Addr) (t6_81n : Nat) (t6_81c : Nat) (t7_82 : Int) (b_83 : Option Addr) (t50_84 : Fn) (t50_84a : Array Value) (t50_84b : Array Value) (t51_85 : Int) (t51_86 : Int) (t51_87 : Int) (t51_88 : List UInt8) (t51_89 : Int) (t51_90 : Bool) (t51_91 : List UInt8) (l : Nat) (Kn Kr Kx : World → World → Prop) (w : World) : Prop :=
  al w 118 [.int .i64 0, .int .u8 0, .int .i64 0, .string ⟨⟨[]⟩⟩, .int .i64 0, .bool false, .string ⟨⟨[]⟩⟩] fun p93 w94 =>
  stL w94 p93 0 [.int .i64 t51_85, .int .u8 t51_86, .int .i64 t51_87, .string ⟨⟨t51_88⟩⟩, .int .i64 t51_89, .bool t51_90, .string ⟨⟨t51_91⟩⟩] fun w95 =>
  Ext w w95 ∧ ∀ w92 : World, Upd l w95 w92 → (∃ (x96 : Int), World.cell? w92 (p93.add 0) = some (.int .i64 x96) ∧ (∃ (x97 : Int), World.cell? w92 (p93.add 1) = some (.int .u8 x97) ∧ (∃ (x98 : Int), World.cell? w92 (p93.add 2) = some (.int .i64 x98) ∧ (∃ (x99 : List UInt8), World.cell? w92 (p93.add 3) = some (.string ⟨⟨x99⟩⟩) ∧ (∃ (x100 : Int), World.cell? w92 (p93.add 4) = some (.int .i64 x100) ∧ (∃ (x101 : Bool), World.cell? w92 (p93.add 5) = some (.bool x101) ∧ (∃ (x102 : List UInt8), World.cell? w92 (p93.add 6) = some (.string ⟨⟨x102⟩⟩) ∧ (Calls Tryz.prog 91 ⟨[.pointer b_83, .agg ⟨[.int .i64 x96, .int .u8 x97, .int .i64 x98, .string ⟨⟨x99⟩⟩, .int .i64 x100, .bool x101, .string ⟨⟨x102⟩⟩]⟩]⟩ w92 fun (e103 : Ending) (w104 : World) =>
  e103 = .returned (.tuple ⟨[]⟩) ∧ (Kn w92 w104)))))))))
set_option maxRecDepth 100000 in
theorem er_tokenizer_Tokens_1 (base : Env) (rules_80 : Option Addr) (rules_80n : Nat) (rules_80c : Nat) (t6_81 : Option Addr) (t6_81n : Nat) (t6_81c : Nat) (t7_82 : Int) (b_83 : Option Addr) (t50_84 : Fn) (t50_84a : Array Value) (t50_84b : Array Value) (t51_85 : Int) (t51_86 : Int) (t51_87 : Int) (t51_88 : List UInt8) (t51_89 : Int) (t51_90 : Bool) (t51_91 : List UInt8) (l : Nat) (Kn Kr Kx : World → World → Prop) (w : World) : fragV Tryz.prog 70 anA_tokenizer_Tokens_1 anB_tokenizer_Tokens_1 (cdAt Tryz.f38 [1, 1, 1, 1, 1, 1, 1, 1, 0, 1, 2, 5]) (cdAt Tryz.f38 [1, 1, 1, 1, 1, 1, 1, 1, 0, 1, 2, 6]) l 0 Kn Kr Kx (updPs [51] [.agg ⟨[.int .i64 t51_85, .int .u8 t51_86, .int .i64 t51_87, .string ⟨⟨t51_88⟩⟩, .int .i64 t51_89, .bool t51_90, .string ⟨⟨t51_91⟩⟩]⟩] (upd (upd (upd (upd (upd base 50 (.func t50_84 t50_84a t50_84b)) 12 (.pointer b_83)) 7 (.int .i64 t7_82)) 6 (.slice t6_81 t6_81n t6_81c)) 2 (.slice rules_80 rules_80n rules_80c))) w = rf_tokenizer_Tokens_1 rules_80 rules_80n rules_80c t6_81 t6_81n t6_81c t7_82 b_83 t50_84 t50_84a t50_84b t51_85 t51_86 t51_87 t51_88 t51_89 t51_90 t51_91 l Kn Kr Kx w := by kernel_rfl
theorem cd_tokenizer_Tokens_1 : cdAt Tryz.f38 [1, 1, 1, 1, 1, 1, 1, 1, 0, 1, 2] = .rangeFunc (Operand.tmp 50) #[51] (cdAt Tryz.f38 [1, 1, 1, 1, 1, 1, 1, 1, 0, 1, 2, 5]) (cdAt Tryz.f38 [1, 1, 1, 1, 1, 1, 1, 1, 0, 1, 2, 6]) := by kernel_rfl

def an_law15_text : Ann := .two (.leaf) (.two (.leaf) (.leaf))
def sh_law15_text (s_1 : List UInt8) (R : Ending → World → Prop) (w : World) : Prop :=
  al w 64 [.int .i64 0, .string ⟨⟨[]⟩⟩, .int .i64 0, .slice none 0 0] fun p2 w3 =>
  stL w3 p2 0 [.int .i64 1, .string ⟨⟨s_1⟩⟩, .int .i64 0, .slice none 0 0] fun w4 =>
  ∃ (x5 : Int), World.cell? w4 (p2.add 0) = some (.int .i64 x5) ∧ (∃ (x6 : List UInt8), World.cell? w4 (p2.add 1) = some (.string ⟨⟨x6⟩⟩) ∧ (∃ (x7 : Int), World.cell? w4 (p2.add 2) = some (.int .i64 x7) ∧ (∃ (x8 : Option Addr) (x8n : Nat) (x8c : Nat), World.cell? w4 (p2.add 3) = some (.slice x8 x8n x8c) ∧ (R (.returned (.agg ⟨[.int .i64 x5, .string ⟨⟨x6⟩⟩, .int .i64 x7, .slice x8 x8n x8c]⟩)) w4))))
set_option maxRecDepth 100000 in
theorem e_law15_text (s_1 : List UInt8) (R : Ending → World → Prop) (w : World) : fnV Tryz.prog Tryz.f39 an_law15_text [.string ⟨⟨s_1⟩⟩] R w = sh_law15_text s_1 R w := by kernel_rfl
theorem c_law15_text {s_1 : List UInt8} {R : Ending → World → Prop} {w : World} (h : sh_law15_text s_1 R w) : Calls Tryz.prog F_law15_text ⟨[.string ⟨⟨s_1⟩⟩]⟩ w R := calls_of_fnV Tryz.func39 (by rw [e_law15_text]; exact h)

def an_law15_great : Ann := .two (.leaf) (.two (.leaf) (.leaf))
def sh_law15_great (l_1 : Option Addr) (l_1n : Nat) (l_1c : Nat) (rules_2 : Option Addr) (rules_2n : Nat) (rules_2c : Nat) (R : Ending → World → Prop) (w : World) : Prop :=
  Calls Tryz.prog 97 ⟨[.slice l_1 l_1n l_1c, .int .i64 24]⟩ w fun (e3 : Ending) (w4 : World) =>
  ∃ (x5 : Bool), e3 = .returned (.bool x5) ∧ (br x5 (R (.returned (.bool true)) w4) (Calls Tryz.prog 16 ⟨[.slice rules_2 rules_2n rules_2c]⟩ w4 fun (e6 : Ending) (w7 : World) =>
  ∃ (x8 : Bool), e6 = .returned (.bool x8) ∧ (R (.returned (.bool x8)) w7)))
set_option maxRecDepth 100000 in
theorem e_law15_great (l_1 : Option Addr) (l_1n : Nat) (l_1c : Nat) (rules_2 : Option Addr) (rules_2n : Nat) (rules_2c : Nat) (R : Ending → World → Prop) (w : World) : fnV Tryz.prog Tryz.f42 an_law15_great [.slice l_1 l_1n l_1c, .slice rules_2 rules_2n rules_2c] R w = sh_law15_great l_1 l_1n l_1c rules_2 rules_2n rules_2c R w := by kernel_rfl
theorem c_law15_great {l_1 : Option Addr} {l_1n : Nat} {l_1c : Nat} {rules_2 : Option Addr} {rules_2n : Nat} {rules_2c : Nat} {R : Ending → World → Prop} {w : World} (h : sh_law15_great l_1 l_1n l_1c rules_2 rules_2n rules_2c R w) : Calls Tryz.prog F_law15_great ⟨[.slice l_1 l_1n l_1c, .slice rules_2 rules_2n rules_2c]⟩ w R := calls_of_fnV Tryz.func42 (by rw [e_law15_great]; exact h)

def an_transcript_Check : Ann := .two (.leaf) (.two (.leaf) (.two (.leaf) (.two (.two (.leaf) (.one (.rf [0, 2, 4, 10] 0))) (.two (.two (.leaf) (.one (.rf [0, 2, 28] 0))) (.two (.two (.leaf) (.two (.two (.leaf) (.leaf)) (.leaf))) (.two (.leaf) (.leaf)))))))
def sh_transcript_Check (l_1 : Option Addr) (l_1n : Nat) (l_1c : Nat) (R : Ending → World → Prop) (w : World) : Prop :=
  al w 32 [.int .i64 0] fun p2 w3 =>
  al w3 3 [.int .i64 0] fun p4 w5 =>
  stL w5 p4 0 [.int .i64 4096] fun w6 =>
  al w6 27 [.nilFunc] fun p7 w8 =>
  stL w8 p7 0 [.func (.func 98) ⟨[]⟩ ⟨[.pointer (some p4)]⟩] fun w9 =>
  Calls Tryz.prog 46 ⟨[.slice l_1 l_1n l_1c]⟩ w9 fun (e10 : Ending) (w11 : World) =>
  ∃ (x12 : Fn) (x12a : Array Value) (x12b : Array Value), e10 = .returned (.func x12 x12a x12b) ∧ (∀ base13 : Env, RFw Tryz.prog none 39 (cdAt Tryz.f43 [1, 1, 1, 0, 1, 2]) (upd (upd (upd (upd base13 10 (.func x12 x12a x12b)) 4 (.pointer (some p7))) 2 (.pointer (some p2))) 0 (.slice l_1 l_1n l_1c)) [] w11 0 (fun ds14 w15 =>
  Calls Tryz.prog 46 ⟨[.slice l_1 l_1n l_1c]⟩ w15 fun (e33 : Ending) (w34 : World) =>
  ∃ (x35 : Fn) (x35a : Array Value) (x35b : Array Value), e33 = .returned (.func x35 x35a x35b) ∧ (∀ base36 : Env, RFw Tryz.prog none 39 (cdAt Tryz.f43 [1, 1, 1, 1, 0, 1, 2]) (upd (upd (upd base36 28 (.func x35 x35a x35b)) 2 (.pointer (some p2))) 0 (.slice l_1 l_1n l_1c)) ds14 w34 0 (fun ds37 w38 =>
  Calls Tryz.prog 100 ⟨[.slice l_1 l_1n l_1c]⟩ w38 fun (e39 : Ending) (w40 : World) =>
  ∃ (x41 : List UInt8), e39 = .returned (.string ⟨⟨x41⟩⟩) ∧ (br (decide ((65536 : Int) < ((List.length x41 : Int)))) (stL w40 p2 0 [.int .i64 4] fun w42 =>
  retD ds37 w42 fun w43 =>
  ∃ (x44 : Int), World.cell? w43 p2 = some (.int .i64 x44) ∧ (R (.returned (.int .i64 x44)) w43)) (stL w40 p2 0 [.int .i64 0] fun w45 =>
  retD ds37 w45 fun w46 =>
  ∃ (x47 : Int), World.cell? w46 p2 = some (.int .i64 x47) ∧ (R (.returned (.int .i64 x47)) w46)))) (fun ds37 w38 =>
  retD ds37 w38 fun w48 =>
  ∃ (x49 : Int), World.cell? w48 p2 = some (.int .i64 x49) ∧ (R (.returned (.int .i64 x49)) w48)) (fun ds37 w38 =>
  False))) (fun ds14 w15 =>
  retD ds14 w15 fun w50 =>
  ∃ (x51 : Int), World.cell? w50 p2 = some (.int .i64 x51) ∧ (R (.returned (.int .i64 x51)) w50)) (fun ds14 w15 =>
  Calls Tryz.prog 46 ⟨[.slice l_1 l_1n l_1c]⟩ w15 fun (e16 : Ending) (w17 : World) =>
  ∃ (x18 : Fn) (x18a : Array Value) (x18b : Array Value), e16 = .returned (.func x18 x18a x18b) ∧ (∀ base19 : Env, RFw Tryz.prog none 39 (cdAt Tryz.f43 [1, 1, 1, 1, 0, 1, 2]) (upd (upd (upd base19 28 (.func x18 x18a x18b)) 2 (.pointer (some p2))) 0 (.slice l_1 l_1n l_1c)) ds14 w17 0 (fun ds20 w21 =>
  Calls Tryz.prog 100 ⟨[.slice l_1 l_1n l_1c]⟩ w21 fun (e22 : Ending) (w23 : World) =>
  ∃ (x24 : List UInt8), e22 = .returned (.string ⟨⟨x24⟩⟩) ∧ (br (decide ((65536 : Int) < ((List.length x24 : Int)))) (stL w23 p2 0 [.int .i64 4] fun w25 =>
  retD ds20 w25 fun w26 =>
  ∃ (x27 : Int), World.cell? w26 p2 = some (.int .i64 x27) ∧ (R (.returned (.int .i64 x27)) w26)) (stL w23 p2 0 [.int .i64 0] fun w28 =>
  retD ds20 w28 fun w29 =>
  ∃ (x30 : Int), World.cell? w29 p2 = some (.int .i64 x30) ∧ (R (.returned (.int .i64 x30)) w29)))) (fun ds20 w21 =>
  retD ds20 w21 fun w31 =>
  ∃ (x32 : Int), World.cell? w31 p2 = some (.int .i64 x32) ∧ (R (.returned (.int .i64 x32)) w31)) (fun ds20 w21 =>
  False))))
set_option maxRecDepth 100000 in
theorem e_transcript_Check (l_1 : Option Addr) (l_1n : Nat) (l_1c : Nat) (R : Ending → World → Prop) (w : World) : fnV Tryz.prog Tryz.f43 an_transcript_Check [.slice l_1 l_1n l_1c] R w = sh_transcript_Check l_1 l_1n l_1c R w := by kernel_rfl
theorem c_transcript_Check {l_1 : Option Addr} {l_1n : Nat} {l_1c : Nat} {R : Ending → World → Prop} {w : World} (h : sh_transcript_Check l_1 l_1n l_1c R w) : Calls Tryz.prog F_transcript_Check ⟨[.slice l_1 l_1n l_1c]⟩ w R := calls_of_fnV Tryz.func43 (by rw [e_transcript_Check]; exact h)
def anA_transcript_Check_1 : Ann := .leaf
def anB_transcript_Check_1 : Ann := .one (.two (.leaf) (.two (.two (.leaf) (.leaf)) (.leaf)))
def rf_transcript_Check_1 (l_52 : Option Addr) (l_52n : Nat) (l_52c : Nat) (t2_53 : Option Addr) (spend_54 : Option Addr) (t10_55 : Fn) (t10_55a : Array Value) (t10_55b : Array Value) (t11_56 : Int) (t11_57 : List UInt8) (t11_58 : Int) (t11_59 : Option Addr) (t11_59n : Nat) (t11_59c : Nat) (t11_60 : Int) (t11_61 : Bool) (l : Nat) (Kn Kr Kx : World → World → Prop) (w : World) : Prop :=
  al w 80 [.int .i64 0, .string ⟨⟨[]⟩⟩, .int .i64 0, .slice none 0 0, .int .i64 0, .bool false] fun p63 w64 =>
  stL w64 p63 0 [.int .i64 t11_56, .string ⟨⟨t11_57⟩⟩, .int .i64 t11_58, .slice t11_59 t11_59n t11_59c, .int .i64 t11_60, .bool t11_61] fun w65 =>
  Ext w w65 ∧ ∀ w62 : World, Upd l w65 w62 → (dr spend_54 fun p66 =>
  ∃ (x67 : Fn) (x67a : Array Value) (x67b : Array Value), World.cell? w62 p66 = some (.func x67 x67a x67b) ∧ (CallV Tryz.prog (.func x67 x67a x67b) [] w62 fun (e68 : Ending) (w69 : World) =>
  ∃ (x70 : Bool), e68 = .returned (.bool x70) ∧ (br (!x70) (dr t2_53 fun p72 =>
  stL w69 p72 0 [.int .i64 4] fun w71 =>
  Kr w62 w71) (∃ (x73 : Int), World.cell? w69 (p63.add 4) = some (.int .i64 x73) ∧ (br (decide ((16 : Int) ≤ x73)) (∃ (x74 : Option Addr) (x74n : Nat) (x74c : Nat), World.cell? w69 ((p63.add 0).add 3) = some (.slice x74 x74n x74c) ∧ (br (decide ((0 : Int) < ((x74n : Int)))) (dr t2_53 fun p76 =>
  stL w69 p76 0 [.int .i64 4] fun w75 =>
  Kr w62 w75) (Kn w62 w69))) (Kn w62 w69))))))
set_option maxRecDepth 100000 in
theorem er_transcript_Check_1 (base : Env) (l_52 : Option Addr) (l_52n : Nat) (l_52c : Nat) (t2_53 : Option Addr) (spend_54 : Option Addr) (t10_55 : Fn) (t10_55a : Array Value) (t10_55b : Array Value) (t11_56 : Int) (t11_57 : List UInt8) (t11_58 : Int) (t11_59 : Option Addr) (t11_59n : Nat) (t11_59c : Nat) (t11_60 : Int) (t11_61 : Bool) (l : Nat) (Kn Kr Kx : World → World → Prop) (w : World) : fragV Tryz.prog 39 anA_transcript_Check_1 anB_transcript_Check_1 (cdAt Tryz.f43 [1, 1, 1, 0, 1, 2, 5]) (cdAt Tryz.f43 [1, 1, 1, 0, 1, 2, 6]) l 0 Kn Kr Kx (updPs [11] [.agg ⟨[.int .i64 t11_56, .string ⟨⟨t11_57⟩⟩, .int .i64 t11_58, .slice t11_59 t11_59n t11_59c, .int .i64 t11_60, .bool t11_61]⟩] (upd (upd (upd (upd base 10 (.func t10_55 t10_55a t10_55b)) 4 (.pointer spend_54)) 2 (.pointer t2_53)) 0 (.slice l_52 l_52n l_52c))) w = rf_transcript_Check_1 l_52 l_52n l_52c t2_53 spend_54 t10_55 t10_55a t10_55b t11_56 t11_57 t11_58 t11_59 t11_59n t11_59c t11_60 t11_61 l Kn Kr Kx w := by kernel_rfl
theorem cd_transcript_Check_1 : cdAt Tryz.f43 [1, 1, 1, 0, 1, 2] = .rangeFunc (Operand.tmp 10) #[11] (cdAt Tryz.f43 [1, 1, 1, 0, 1, 2, 5]) (cdAt Tryz.f43 [1, 1, 1, 0, 1, 2, 6]) := by kernel_rfl
def anA_transcript_Check_2 : Ann := .leaf
def anB_transcript_Check_2 : Ann := .one (.two (.leaf) (.two (.leaf) (.two (.two (.leaf) (.leaf)) (.leaf))))
def rf_transcript_Check_2 (l_77 : Option Addr) (l_77n : Nat) (l_77c : Nat) (t2_78 : Option Addr) (t28_79 : Fn) (t28_79a : Array Value) (t28_79b : Array Value) (t29_80 : Int) (t29_81 : List UInt8) (t29_82 : Int) (t29_83 : Option Addr) (t29_83n : Nat) (t29_83c : Nat) (t29_84 : Int) (t29_85 : Bool) (l : Nat) (Kn Kr Kx : World → World → Prop) (w : World) : Prop :=
  al w 80 [.int .i64 0, .string ⟨⟨[]⟩⟩, .int .i64 0, .slice none 0 0, .int .i64 0, .bool false] fun p87 w88 =>
  stL w88 p87 0 [.int .i64 t29_80, .string ⟨⟨t29_81⟩⟩, .int .i64 t29_82, .slice t29_83 t29_83n t29_83c, .int .i64 t29_84, .bool t29_85] fun w89 =>
  Ext w w89 ∧ ∀ w86 : World, Upd l w89 w86 → (∃ (x90 : Int), World.cell? w86 (p87.add 0) = some (.int .i64 x90) ∧ (∃ (x91 : List UInt8), World.cell? w86 (p87.add 1) = some (.string ⟨⟨x91⟩⟩) ∧ (∃ (x92 : Int), World.cell? w86 (p87.add 2) = some (.int .i64 x92) ∧ (∃ (x93 : Option Addr) (x93n : Nat) (x93c : Nat), World.cell? w86 (p87.add 3) = some (.slice x93 x93n x93c) ∧ (∃ (x94 : Int), World.cell? w86 (p87.add 4) = some (.int .i64 x94) ∧ (∃ (x95 : Bool), World.cell? w86 (p87.add 5) = some (.bool x95) ∧ (Calls Tryz.prog 99 ⟨[.agg ⟨[.int .i64 x90, .string ⟨⟨x91⟩⟩, .int .i64 x92, .slice x93 x93n x93c, .int .i64 x94, .bool x95]⟩]⟩ w86 fun (e96 : Ending) (w97 : World) =>
  ∃ (x98 : Int), e96 = .returned (.int .i64 x98) ∧ (br (decide ((x98 : Int) ≠ 0)) (dr t2_78 fun p100 =>
  stL w97 p100 0 [.int .i64 x98] fun w99 =>
  Kr w86 w99) (Kn w86 w97)))))))))
set_option maxRecDepth 100000 in
theorem er_transcript_Check_2 (base : Env) (l_77 : Option Addr) (l_77n : Nat) (l_77c : Nat) (t2_78 : Option Addr) (t28_79 : Fn) (t28_79a : Array Value) (t28_79b : Array Value) (t29_80 : Int) (t29_81 : List UInt8) (t29_82 : Int) (t29_83 : Option Addr) (t29_83n : Nat) (t29_83c : Nat) (t29_84 : Int) (t29_85 : Bool) (l : Nat) (Kn Kr Kx : World → World → Prop) (w : World) : fragV Tryz.prog 39 anA_transcript_Check_2 anB_transcript_Check_2 (cdAt Tryz.f43 [1, 1, 1, 1, 0, 1, 2, 5]) (cdAt Tryz.f43 [1, 1, 1, 1, 0, 1, 2, 6]) l 0 Kn Kr Kx (updPs [29] [.agg ⟨[.int .i64 t29_80, .string ⟨⟨t29_81⟩⟩, .int .i64 t29_82, .slice t29_83 t29_83n t29_83c, .int .i64 t29_84, .bool t29_85]⟩] (upd (upd (upd base 28 (.func t28_79 t28_79a t28_79b)) 2 (.pointer t2_78)) 0 (.slice l_77 l_77n l_77c))) w = rf_transcript_Check_2 l_77 l_77n l_77c t2_78 t28_79 t28_79a t28_79b t29_80 t29_81 t29_82 t29_83 t29_83n t29_83c t29_84 t29_85 l Kn Kr Kx w := by kernel_rfl
theorem cd_transcript_Check_2 : cdAt Tryz.f43 [1, 1, 1, 1, 0, 1, 2] = .rangeFunc (Operand.tmp 28) #[29] (cdAt Tryz.f43 [1, 1, 1, 1, 0, 1, 2, 5]) (cdAt Tryz.f43 [1, 1, 1, 1, 0, 1, 2, 6]) := by kernel_rfl

def an_hands_State : Ann := .two (.leaf) (.two (.two (.leaf) (.two (.two (.leaf) (.leaf)) (.leaf))) (.cut 32304 [] (.two (.leaf) (.two (.two (.leaf) (.leaf)) (.leaf))) (.two (.leaf) (.leaf))))
def sh_hands_State (l_1 : Option Addr) (l_1n : Nat) (l_1c : Nat) (hand_2 : Int) (R : Ending → World → Prop) (w : World) : Prop :=
  Calls Tryz.prog 43 ⟨[.slice l_1 l_1n l_1c]⟩ w fun (e3 : Ending) (w4 : World) =>
  ∃ (x5 : Int), e3 = .returned (.int .i64 x5) ∧ (br (decide ((x5 : Int) ≠ 0)) (R (.returned (.tuple ⟨[.slice none 0 0, .int .i64 1]⟩)) w4) (∀ (K6 : World → Prop), (∀  (w7 : World), (∀ _ : Env, (Calls Tryz.prog 101 ⟨[.slice l_1 l_1n l_1c, .int .i64 hand_2]⟩ w7 fun (e8 : Ending) (w9 : World) =>
  ∃ (x10 : Option Addr) (x10n : Nat) (x10c : Nat), e8 = .returned (.slice x10 x10n x10c) ∧ (R (.returned (.tuple ⟨[.slice x10 x10n x10c, .int .i64 0]⟩)) w9))) → K6 w7) → (br (decide ((hand_2 : Int) < 0)) (R (.returned (.tuple ⟨[.slice none 0 0, .int .i64 13]⟩)) w4) (br (decide ((8 : Int) < hand_2)) (R (.returned (.tuple ⟨[.slice none 0 0, .int .i64 13]⟩)) w4) (K6 w4)))))
set_option maxRecDepth 100000 in
theorem e_hands_State (l_1 : Option Addr) (l_1n : Nat) (l_1c : Nat) (hand_2 : Int) (R : Ending → World → Prop) (w : World) : fnV Tryz.prog Tryz.f44 an_hands_State [.slice l_1 l_1n l_1c, .int .i64 hand_2] R w = sh_hands_State l_1 l_1n l_1c hand_2 R w := by kernel_rfl
theorem c_hands_State {l_1 : Option Addr} {l_1n : Nat} {l_1c : Nat} {hand_2 : Int} {R : Ending → World → Prop} {w : World} (h : sh_hands_State l_1 l_1n l_1c hand_2 R w) : Calls Tryz.prog F_hands_State ⟨[.slice l_1 l_1n l_1c, .int .i64 hand_2]⟩ w R := calls_of_fnV Tryz.func44 (by rw [e_hands_State]; exact h)

def an_slices_Equal_of_api_Token_api_Token : Ann := .two (.leaf) (.two (.two (.leaf) (.two (.two (.leaf) (.leaf)) (.leaf))) (.two (.two (.leaf) (.one (.loop 67100720 [(13, .one (.int .i64))] (.two (.leaf) (.two (.two (.leaf) (.leaf)) (.two (.one (.two (.leaf) (.two (.leaf) (.two (.two (.leaf) (.leaf)) (.leaf))))) (.leaf))))))) (.two (.leaf) (.leaf))))
def sh_slices_Equal_of_api_Token_api_Token (s1_1 : Option Addr) (s1_1n : Nat) (s1_1c : Nat) (s2_2 : Option Addr) (s2_2n : Nat) (s2_2c : Nat) (R : Ending → World → Prop) (w : World) : Prop :=
  br (decide ((((s1_1n : Int)) : Int) ≠ ((s2_2n : Int)))) (R (.returned (.bool false)) w) (∃ (I3 : Int → World → Nat → Prop), (∃ m7 : Nat, I3 0 w m7) ∧ ∀ (t13_4 : Int) (w5 : World) (m6 : Nat), I3 t13_4 w5 m6 → ∀ _ : Env, (br (decide ((t13_4 : Int) < ((s1_1n : Int)))) (drw w5 fun w8 =>
  idx s1_1 s1_1n t13_4 6 fun p9 =>
  ∃ (x10 : List UInt8), World.cell? w8 (p9.add 0) = some (.string ⟨⟨x10⟩⟩) ∧ (∃ (x11 : List UInt8), World.cell? w8 (p9.add 1) = some (.string ⟨⟨x11⟩⟩) ∧ (∃ (x12 : List UInt8), World.cell? w8 (p9.add 2) = some (.string ⟨⟨x12⟩⟩) ∧ (∃ (x13 : Int), World.cell? w8 (p9.add 3) = some (.int .i64 x13) ∧ (∃ (x14 : Int), World.cell? w8 (p9.add 4) = some (.int .i64 x14) ∧ (∃ (x15 : List UInt8), World.cell? w8 (p9.add 5) = some (.string ⟨⟨x15⟩⟩) ∧ (idx s2_2 s2_2n t13_4 6 fun p16 =>
  ∃ (x17 : List UInt8), World.cell? w8 (p16.add 0) = some (.string ⟨⟨x17⟩⟩) ∧ (∃ (x18 : List UInt8), World.cell? w8 (p16.add 1) = some (.string ⟨⟨x18⟩⟩) ∧ (∃ (x19 : List UInt8), World.cell? w8 (p16.add 2) = some (.string ⟨⟨x19⟩⟩) ∧ (∃ (x20 : Int), World.cell? w8 (p16.add 3) = some (.int .i64 x20) ∧ (∃ (x21 : Int), World.cell? w8 (p16.add 4) = some (.int .i64 x21) ∧ (∃ (x22 : List UInt8), World.cell? w8 (p16.add 5) = some (.string ⟨⟨x22⟩⟩) ∧ (br (!(decide ((x10 : List UInt8) = x17) && (decide ((x11 : List UInt8) = x18) && ((decide ((x12 : List UInt8) = x19) && (decide ((x13 : Int) = x20) && true)) && (decide ((x14 : Int) = x21) && (decide ((x15 : List UInt8) = x22) && true)))))) (R (.returned (.bool false)) w8) (∃ m23 : Nat, m23 < m6 ∧ I3 (IntKind.i64.wrap (t13_4 + 1)) w8 m23)))))))))))))) (R (.returned (.bool true)) w5)))
set_option maxRecDepth 100000 in
theorem e_slices_Equal_of_api_Token_api_Token (s1_1 : Option Addr) (s1_1n : Nat) (s1_1c : Nat) (s2_2 : Option Addr) (s2_2n : Nat) (s2_2c : Nat) (R : Ending → World → Prop) (w : World) : fnV Tryz.prog Tryz.f45 an_slices_Equal_of_api_Token_api_Token [.slice s1_1 s1_1n s1_1c, .slice s2_2 s2_2n s2_2c] R w = sh_slices_Equal_of_api_Token_api_Token s1_1 s1_1n s1_1c s2_2 s2_2n s2_2c R w := by kernel_rfl
theorem c_slices_Equal_of_api_Token_api_Token {s1_1 : Option Addr} {s1_1n : Nat} {s1_1c : Nat} {s2_2 : Option Addr} {s2_2n : Nat} {s2_2c : Nat} {R : Ending → World → Prop} {w : World} (h : sh_slices_Equal_of_api_Token_api_Token s1_1 s1_1n s1_1c s2_2 s2_2n s2_2c R w) : Calls Tryz.prog F_slices_Equal_of_api_Token_api_Token ⟨[.slice s1_1 s1_1n s1_1c, .slice s2_2 s2_2n s2_2c]⟩ w R := calls_of_fnV Tryz.func45 (by rw [e_slices_Equal_of_api_Token_api_Token]; exact h)

def an_transcript_places : Ann := .two (.leaf) (.two (.leaf) (.leaf))
def sh_transcript_places (l_1 : Option Addr) (l_1n : Nat) (l_1c : Nat) (R : Ending → World → Prop) (w : World) : Prop :=
  al w 22 [.slice l_1 l_1n l_1c] fun p2 w3 =>
  R (.returned (.func (.func 102) ⟨[]⟩ ⟨[.pointer (some p2)]⟩)) w3
set_option maxRecDepth 100000 in
theorem e_transcript_places (l_1 : Option Addr) (l_1n : Nat) (l_1c : Nat) (R : Ending → World → Prop) (w : World) : fnV Tryz.prog Tryz.f46 an_transcript_places [.slice l_1 l_1n l_1c] R w = sh_transcript_places l_1 l_1n l_1c R w := by kernel_rfl
theorem c_transcript_places {l_1 : Option Addr} {l_1n : Nat} {l_1c : Nat} {R : Ending → World → Prop} {w : World} (h : sh_transcript_places l_1 l_1n l_1c R w) : Calls Tryz.prog F_transcript_places ⟨[.slice l_1 l_1n l_1c]⟩ w R := calls_of_fnV Tryz.func46 (by rw [e_transcript_places]; exact h)

def an_strings_Builder_WriteString : Ann := .two (.leaf) (.two (.leaf) (.two (.leaf) (.two (.leaf) (.leaf))))
def sh_strings_Builder_WriteString (b_1 : Option Addr) (s_2 : List UInt8) (R : Ending → World → Prop) (w : World) : Prop :=
  Calls Tryz.prog 104 ⟨[.pointer b_1]⟩ w fun (e3 : Ending) (w4 : World) =>
  e3 = .returned (.tuple ⟨[]⟩) ∧ (dr b_1 fun p5 =>
  ∃ (x6 : Option Addr) (x6n : Nat) (x6c : Nat), World.cell? w4 (p5.add 1) = some (.slice x6 x6n x6c) ∧ (app Tryz.prog [73, 9] 73 (.slice x6 x6n x6c) (.string ⟨⟨s_2⟩⟩) w4 fun a7 a7n a7c w8 =>
  dr b_1 fun p9 =>
  stL w8 (p9.add 1) 0 [.slice a7 a7n a7c] fun w10 =>
  R (.returned (.tuple ⟨[.int .i64 ((List.length s_2 : Int)), .nilIface]⟩)) w10))
set_option maxRecDepth 100000 in
theorem e_strings_Builder_WriteString (b_1 : Option Addr) (s_2 : List UInt8) (R : Ending → World → Prop) (w : World) : fnV Tryz.prog Tryz.f47 an_strings_Builder_WriteString [.pointer b_1, .string ⟨⟨s_2⟩⟩] R w = sh_strings_Builder_WriteString b_1 s_2 R w := by kernel_rfl
theorem c_strings_Builder_WriteString {b_1 : Option Addr} {s_2 : List UInt8} {R : Ending → World → Prop} {w : World} (h : sh_strings_Builder_WriteString b_1 s_2 R w) : Calls Tryz.prog F_strings_Builder_WriteString ⟨[.pointer b_1, .string ⟨⟨s_2⟩⟩]⟩ w R := calls_of_fnV Tryz.func47 (by rw [e_strings_Builder_WriteString]; exact h)

def an_tokenizer_gap : Ann := .two (.leaf) (.cut 2097124 [] (.two (.leaf) (.two (.two (.leaf) (.leaf)) (.leaf))) (.two (.leaf) (.two (.leaf) (.leaf))))
def sh_tokenizer_gap (s_1 : List UInt8) (R : Ending → World → Prop) (w : World) : Prop :=
  ∀ (K2 : World → Prop), (∀  (w3 : World), (∀ _ : Env, (ssl s_1 1 (IntKind.i64.wrap (((List.length s_1 : Int)) - 1)) fun s4 =>
  Calls Tryz.prog 108 ⟨[.string ⟨⟨s4⟩⟩]⟩ w3 fun (e5 : Ending) (w6 : World) =>
  ∃ (x7 : Int) (x8 : Value), e5 = .returned (.tuple ⟨[.int .i64 x7, x8]⟩) ∧ (ifc x8 fun b9 =>
  br b9 (br (decide ((1 : Int) ≤ x7)) (br (decide ((x7 : Int) ≤ 64)) (Calls Tryz.prog 109 ⟨[.int .i64 x7]⟩ w6 fun (e10 : Ending) (w11 : World) =>
  ∃ (x12 : List UInt8), e10 = .returned (.string ⟨⟨x12⟩⟩) ∧ (sadd ([91]) x12 fun s13 =>
  sadd s13 ([93]) fun s14 =>
  R (.returned (.bool (decide ((s_1 : List UInt8) = s14)))) w11)) (R (.returned (.bool false)) w6)) (R (.returned (.bool false)) w6)) (R (.returned (.bool false)) w6)))) → K2 w3) → (br (decide ((((List.length s_1 : Int)) : Int) < 3)) (R (.returned (.bool false)) w) (sidx s_1 0 fun b15 =>
  br (decide ((((b15.toNat : Int)) : Int) ≠ 91)) (R (.returned (.bool false)) w) (sidx s_1 (IntKind.i64.wrap (((List.length s_1 : Int)) - 1)) fun b16 =>
  br (decide ((((b16.toNat : Int)) : Int) ≠ 93)) (R (.returned (.bool false)) w) (K2 w))))
set_option maxRecDepth 100000 in
theorem e_tokenizer_gap (s_1 : List UInt8) (R : Ending → World → Prop) (w : World) : fnV Tryz.prog Tryz.f50 an_tokenizer_gap [.string ⟨⟨s_1⟩⟩] R w = sh_tokenizer_gap s_1 R w := by kernel_rfl
theorem c_tokenizer_gap {s_1 : List UInt8} {R : Ending → World → Prop} {w : World} (h : sh_tokenizer_gap s_1 R w) : Calls Tryz.prog F_tokenizer_gap ⟨[.string ⟨⟨s_1⟩⟩]⟩ w R := calls_of_fnV Tryz.func50 (by rw [e_tokenizer_gap]; exact h)

def an_tokenizer_mark : Ann := .two (.leaf) (.two (.two (.leaf) (.two (.two (.leaf) (.leaf)) (.leaf))) (.two (.leaf) (.two (.leaf) (.leaf))))
def sh_tokenizer_mark (s_1 : List UInt8) (R : Ending → World → Prop) (w : World) : Prop :=
  br (decide ((((List.length s_1 : Int)) : Int) ≠ 1)) (R (.returned (.bool false)) w) (sidx s_1 0 fun b2 =>
  Calls Tryz.prog 55 ⟨[.int .u8 ((b2.toNat : Int))]⟩ w fun (e3 : Ending) (w4 : World) =>
  ∃ (x5 : Int), e3 = .returned (.int .i64 x5) ∧ (br (decide ((x5 : Int) = 5)) (R (.returned (.bool true)) w4) (R (.returned (.bool (decide ((x5 : Int) = 4)))) w4)))
set_option maxRecDepth 100000 in
theorem e_tokenizer_mark (s_1 : List UInt8) (R : Ending → World → Prop) (w : World) : fnV Tryz.prog Tryz.f51 an_tokenizer_mark [.string ⟨⟨s_1⟩⟩] R w = sh_tokenizer_mark s_1 R w := by kernel_rfl
theorem c_tokenizer_mark {s_1 : List UInt8} {R : Ending → World → Prop} {w : World} (h : sh_tokenizer_mark s_1 R w) : Calls Tryz.prog F_tokenizer_mark ⟨[.string ⟨⟨s_1⟩⟩]⟩ w R := calls_of_fnV Tryz.func51 (by rw [e_tokenizer_mark]; exact h)

def an_tokenizer_isWord : Ann := .two (.leaf) (.two (.leaf) (.leaf))
def sh_tokenizer_isWord (t_1 : List UInt8) (t_2 : List UInt8) (t_3 : List UInt8) (t_4 : Int) (t_5 : Int) (t_6 : List UInt8) (R : Ending → World → Prop) (w : World) : Prop :=
  al w 31 [.string ⟨⟨t_1⟩⟩, .string ⟨⟨t_2⟩⟩, .string ⟨⟨t_3⟩⟩, .int .i64 t_4, .int .i64 t_5, .string ⟨⟨t_6⟩⟩] fun p7 w8 =>
  ∃ (x9 : Int), World.cell? w8 (p7.add 4) = some (.int .i64 x9) ∧ (R (.returned (.bool (decide (((bitA .i64 x9 10) : Int) = 0)))) w8)
set_option maxRecDepth 100000 in
theorem e_tokenizer_isWord (t_1 : List UInt8) (t_2 : List UInt8) (t_3 : List UInt8) (t_4 : Int) (t_5 : Int) (t_6 : List UInt8) (R : Ending → World → Prop) (w : World) : fnV Tryz.prog Tryz.f52 an_tokenizer_isWord [.agg ⟨[.string ⟨⟨t_1⟩⟩, .string ⟨⟨t_2⟩⟩, .string ⟨⟨t_3⟩⟩, .int .i64 t_4, .int .i64 t_5, .string ⟨⟨t_6⟩⟩]⟩] R w = sh_tokenizer_isWord t_1 t_2 t_3 t_4 t_5 t_6 R w := by kernel_rfl
theorem c_tokenizer_isWord {t_1 : List UInt8} {t_2 : List UInt8} {t_3 : List UInt8} {t_4 : Int} {t_5 : Int} {t_6 : List UInt8} {R : Ending → World → Prop} {w : World} (h : sh_tokenizer_isWord t_1 t_2 t_3 t_4 t_5 t_6 R w) : Calls Tryz.prog F_tokenizer_isWord ⟨[.agg ⟨[.string ⟨⟨t_1⟩⟩, .string ⟨⟨t_2⟩⟩, .string ⟨⟨t_3⟩⟩, .int .i64 t_4, .int .i64 t_5, .string ⟨⟨t_6⟩⟩]⟩]⟩ w R := calls_of_fnV Tryz.func52 (by rw [e_tokenizer_isWord]; exact h)

def an_tokenizer_norm : Ann := .two (.leaf) (.two (.two (.leaf) (.one (.loop 32716 [(6, .one (.int .i64))] (.two (.leaf) (.two (.two (.leaf) (.leaf)) (.two (.one (.two (.leaf) (.two (.leaf) (.two (.two (.leaf) (.leaf)) (.leaf))))) (.leaf))))))) (.two (.leaf) (.leaf)))
def sh_tokenizer_norm (s_1 : List UInt8) (R : Ending → World → Prop) (w : World) : Prop :=
  ∃ (I2 : Int → World → Nat → Prop), (∃ m6 : Nat, I2 0 w m6) ∧ ∀ (t6_3 : Int) (w4 : World) (m5 : Nat), I2 t6_3 w4 m5 → ∀ _ : Env, (br (decide ((t6_3 : Int) < ((List.length s_1 : Int)))) (sidx s_1 t6_3 fun b7 =>
  Calls Tryz.prog 110 ⟨[.int .u8 ((b7.toNat : Int))]⟩ w4 fun (e8 : Ending) (w9 : World) =>
  ∃ (x10 : Bool), e8 = .returned (.bool x10) ∧ (br (!x10) (R (.returned (.bool false)) w9) (∃ m11 : Nat, m11 < m5 ∧ I2 (IntKind.i64.wrap (t6_3 + 1)) w9 m11))) (br (decide ((s_1 : List UInt8) ≠ ([]))) (R (.returned (.bool (decide ((((List.length s_1 : Int)) : Int) ≤ 64)))) w4) (R (.returned (.bool false)) w4)))
set_option maxRecDepth 100000 in
theorem e_tokenizer_norm (s_1 : List UInt8) (R : Ending → World → Prop) (w : World) : fnV Tryz.prog Tryz.f53 an_tokenizer_norm [.string ⟨⟨s_1⟩⟩] R w = sh_tokenizer_norm s_1 R w := by kernel_rfl
theorem c_tokenizer_norm {s_1 : List UInt8} {R : Ending → World → Prop} {w : World} (h : sh_tokenizer_norm s_1 R w) : Calls Tryz.prog F_tokenizer_norm ⟨[.string ⟨⟨s_1⟩⟩]⟩ w R := calls_of_fnV Tryz.func53 (by rw [e_tokenizer_norm]; exact h)

def an_tokenizer_named : Ann := .two (.leaf) (.two (.leaf) (.leaf))
def sh_tokenizer_named (s_1 : List UInt8) (R : Ending → World → Prop) (w : World) : Prop :=
  br (decide ((s_1 : List UInt8) = ([]))) (R (.returned (.bool true)) w) (Calls Tryz.prog 111 ⟨[.string ⟨⟨s_1⟩⟩]⟩ w fun (e2 : Ending) (w3 : World) =>
  ∃ (x4 : Bool), e2 = .returned (.bool x4) ∧ (R (.returned (.bool x4)) w3))
set_option maxRecDepth 100000 in
theorem e_tokenizer_named (s_1 : List UInt8) (R : Ending → World → Prop) (w : World) : fnV Tryz.prog Tryz.f54 an_tokenizer_named [.string ⟨⟨s_1⟩⟩] R w = sh_tokenizer_named s_1 R w := by kernel_rfl
theorem c_tokenizer_named {s_1 : List UInt8} {R : Ending → World → Prop} {w : World} (h : sh_tokenizer_named s_1 R w) : Calls Tryz.prog F_tokenizer_named ⟨[.string ⟨⟨s_1⟩⟩]⟩ w R := calls_of_fnV Tryz.func54 (by rw [e_tokenizer_named]; exact h)

end Go.Proofs
