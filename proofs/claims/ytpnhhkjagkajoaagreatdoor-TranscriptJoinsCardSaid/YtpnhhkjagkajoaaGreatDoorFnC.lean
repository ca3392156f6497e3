/- Written by program: for each function its verification condition, that it is the code's (by the kernel), and that it gives the call. -/
import Derived.Test.YtpnhhkjagkajoaaGreatDoorFn
namespace Go.Proofs
open Go Go.Sh
def an_ref10_single : Ann := .two (.leaf) (.cut 562949953421248 [] (.two (.leaf) (.two (.two (.leaf) (.leaf)) (.leaf))) (.cut 295147342229399404608 [] (.two (.leaf) (.two (.two (.leaf) (.leaf)) (.leaf))) (.two (.two (.leaf) (.one (.two (.leaf) (.two (.two (.two (.leaf) (.two (.two (.leaf) (.leaf)) (.leaf))) (.two (.leaf) (.two (.two (.leaf) (.leaf)) (.leaf)))) (.cut 2266735911777429702574080 [(77, .one (.bool))] (.two (.leaf) (.two (.leaf) (.two (.leaf) (.two (.leaf) (.leaf))))) (.two (.two (.two (.leaf) (.two (.two (.leaf) (.leaf)) (.leaf))) (.two (.leaf) (.two (.two (.leaf) (.leaf)) (.leaf)))) (.two (.leaf) (.two (.two (.leaf) (.two (.two (.leaf) (.leaf)) (.leaf))) (.two (.leaf) (.two (.two (.leaf) (.two (.two (.leaf) (.leaf)) (.leaf))) (.cut 1135814937804493543741046072016896 [(107, .one (.bool))] (.two (.leaf) (.two (.leaf) (.leaf))) (.two (.two (.leaf) (.two (.two (.leaf) (.leaf)) (.leaf))) (.leaf))))))))))))) (.two (.leaf) (.leaf)))))
def sh_ref10_single (x_1 : Int) (x_2 : List UInt8) (x_3 : Int) (x_4 : Option Addr) (x_4n : Nat) (x_4c : Nat) (before_5 : Bool) (within_6 : Bool) (R : Ending → World → Prop) (w : World) : Prop :=
  al w 35 [.int .i64 x_1, .string ⟨⟨x_2⟩⟩, .int .i64 x_3, .slice x_4 x_4n x_4c] fun p7 w8 =>
  ∀ (K9 : World → Prop), (∀  (w10 : World), (∀ _ : Env, (∀ (K11 : World → Prop), (∀  (w12 : World), (∀ _ : Env, (∃ (x13 : Int), World.cell? w12 (p7.add 0) = some (.int .i64 x13) ∧ (br (decide ((x13 : Int) = 1)) (∃ (x14 : List UInt8), World.cell? w12 (p7.add 1) = some (.string ⟨⟨x14⟩⟩) ∧ (Calls Tryz.prog 69 ⟨[.string ⟨⟨x14⟩⟩]⟩ w12 fun (e15 : Ending) (w16 : World) =>
  ∃ (x17 : Int), e15 = .returned (.int .i64 x17) ∧ (br (decide ((x17 : Int) ≠ 0)) (R (.returned (.int .i64 11)) w16) (br before_5 (R (.returned (.int .i64 10)) w16) (R (.returned (.int .i64 0)) w16))))) (∀ (K18 : Bool → World → Prop), (∀ (t77_19 : Bool) (w20 : World), (∀ _ : Env, (br t77_19 (∃ (x21 : List UInt8), World.cell? w20 (p7.add 1) = some (.string ⟨⟨x21⟩⟩) ∧ (Calls Tryz.prog 110 ⟨[.string ⟨⟨x21⟩⟩]⟩ w20 fun (e22 : Ending) (w23 : World) =>
  ∃ (x24 : Bool), e22 = .returned (.bool x24) ∧ (br (!x24) (R (.returned (.int .i64 14)) w23) (br within_6 (∃ (x25 : Int), World.cell? w23 (p7.add 0) = some (.int .i64 x25) ∧ (br (decide ((x25 : Int) = 4)) (R (.returned (.int .i64 12)) w23) (R (.returned (.int .i64 0)) w23))) (R (.returned (.int .i64 0)) w23))))) (br (decide ((x13 : Int) = 10)) (∃ (x26 : List UInt8), World.cell? w20 (p7.add 1) = some (.string ⟨⟨x26⟩⟩) ∧ (Calls Tryz.prog 111 ⟨[.string ⟨⟨x26⟩⟩]⟩ w20 fun (e27 : Ending) (w28 : World) =>
  ∃ (x29 : Bool), e27 = .returned (.bool x29) ∧ (br (!x29) (R (.returned (.int .i64 14)) w28) (R (.returned (.int .i64 0)) w28)))) (br (decide ((x13 : Int) = 6)) (∃ (x30 : Int), World.cell? w20 (p7.add 2) = some (.int .i64 x30) ∧ (br (decide ((x30 : Int) < 1)) (R (.returned (.int .i64 2)) w20) (∃ (x31 : Int), World.cell? w20 (p7.add 2) = some (.int .i64 x31) ∧ (br (decide ((64 : Int) < x31)) (R (.returned (.int .i64 2)) w20) (R (.returned (.int .i64 0)) w20))))) (∀ (K32 : Bool → World → Prop), (∀ (t107_33 : Bool) (w34 : World), (∀ _ : Env, (br t107_33 (∃ (x35 : Int), World.cell? w34 (p7.add 2) = some (.int .i64 x35) ∧ (br (decide ((x35 : Int) < 1)) (R (.returned (.int .i64 2)) w34) (∃ (x36 : Int), World.cell? w34 (p7.add 2) = some (.int .i64 x36) ∧ (br (decide ((8 : Int) < x36)) (R (.returned (.int .i64 2)) w34) (R (.returned (.int .i64 0)) w34))))) (R (.returned (.int .i64 0)) w34))) → K32 t107_33 w34) → (br (decide ((x13 : Int) = 8)) (K32 (decide ((x13 : Int) = 8)) w20) (K32 (decide ((x13 : Int) = 9)) w20))))))) → K18 t77_19 w20) → (br (decide ((x13 : Int) = 3)) (K18 (decide ((x13 : Int) = 3)) w12) (br (decide ((x13 : Int) = 4)) (K18 (decide ((x13 : Int) = 4)) w12) (K18 (decide ((x13 : Int) = 11)) w12))))))) → K11 w12) → (∃ (x37 : Int), World.cell? w10 (p7.add 0) = some (.int .i64 x37) ∧ (br (decide ((x37 : Int) = 1)) (∃ (x38 : List UInt8), World.cell? w10 (p7.add 1) = some (.string ⟨⟨x38⟩⟩) ∧ (br (decide ((x38 : List UInt8) = ([]))) (R (.returned (.int .i64 5)) w10) (∃ (x39 : Int), World.cell? w10 (p7.add 0) = some (.int .i64 x39) ∧ (Calls Tryz.prog 84 ⟨[.int .i64 x39]⟩ w10 fun (e40 : Ending) (w41 : World) =>
  ∃ (x42 : Bool), e40 = .returned (.bool x42) ∧ (br x42 (∃ (x43 : Option Addr) (x43n : Nat) (x43c : Nat), World.cell? w41 (p7.add 3) = some (.slice x43 x43n x43c) ∧ (br (decide ((((x43n : Int)) : Int) = 0)) (R (.returned (.int .i64 5)) w41) (K11 w41))) (K11 w41)))))) (∃ (x44 : Int), World.cell? w10 (p7.add 0) = some (.int .i64 x44) ∧ (Calls Tryz.prog 84 ⟨[.int .i64 x44]⟩ w10 fun (e45 : Ending) (w46 : World) =>
  ∃ (x47 : Bool), e45 = .returned (.bool x47) ∧ (br x47 (∃ (x48 : Option Addr) (x48n : Nat) (x48c : Nat), World.cell? w46 (p7.add 3) = some (.slice x48 x48n x48c) ∧ (br (decide ((((x48n : Int)) : Int) = 0)) (R (.returned (.int .i64 5)) w46) (K11 w46))) (K11 w46)))))))) → K9 w10) → (∃ (x49 : Int), World.cell? w8 (p7.add 0) = some (.int .i64 x49) ∧ (br (decide ((x49 : Int) < 1)) (R (.returned (.int .i64 8)) w8) (∃ (x50 : Int), World.cell? w8 (p7.add 0) = some (.int .i64 x50) ∧ (br (decide ((11 : Int) < x50)) (R (.returned (.int .i64 8)) w8) (∃ (x51 : List UInt8), World.cell? w8 (p7.add 1) = some (.string ⟨⟨x51⟩⟩) ∧ (br (decide ((x51 : List UInt8) ≠ ([]))) (∃ (x52 : Int), World.cell? w8 (p7.add 0) = some (.int .i64 x52) ∧ (Calls Tryz.prog 81 ⟨[.int .i64 x52]⟩ w8 fun (e53 : Ending) (w54 : World) =>
  ∃ (x55 : Bool), e53 = .returned (.bool x55) ∧ (br (!x55) (R (.returned (.int .i64 8)) w54) (∃ (x56 : Int), World.cell? w54 (p7.add 2) = some (.int .i64 x56) ∧ (br (decide ((x56 : Int) ≠ 0)) (∃ (x57 : Int), World.cell? w54 (p7.add 0) = some (.int .i64 x57) ∧ (Calls Tryz.prog 82 ⟨[.int .i64 x57]⟩ w54 fun (e58 : Ending) (w59 : World) =>
  ∃ (x60 : Bool), e58 = .returned (.bool x60) ∧ (br (!x60) (R (.returned (.int .i64 8)) w59) (∃ (x61 : Option Addr) (x61n : Nat) (x61c : Nat), World.cell? w59 (p7.add 3) = some (.slice x61 x61n x61c) ∧ (br (decide ((0 : Int) < ((x61n : Int)))) (∃ (x62 : Int), World.cell? w59 (p7.add 0) = some (.int .i64 x62) ∧ (Calls Tryz.prog 84 ⟨[.int .i64 x62]⟩ w59 fun (e63 : Ending) (w64 : World) =>
  ∃ (x65 : Bool), e63 = .returned (.bool x65) ∧ (br (!x65) (R (.returned (.int .i64 8)) w64) (K9 w64)))) (K9 w59)))))) (∃ (x66 : Option Addr) (x66n : Nat) (x66c : Nat), World.cell? w54 (p7.add 3) = some (.slice x66 x66n x66c) ∧ (br (decide ((0 : Int) < ((x66n : Int)))) (∃ (x67 : Int), World.cell? w54 (p7.add 0) = some (.int .i64 x67) ∧ (Calls Tryz.prog 84 ⟨[.int .i64 x67]⟩ w54 fun (e68 : Ending) (w69 : World) =>
  ∃ (x70 : Bool), e68 = .returned (.bool x70) ∧ (br (!x70) (R (.returned (.int .i64 8)) w69) (K9 w69)))) (K9 w54)))))))) (∃ (x71 : Int), World.cell? w8 (p7.add 2) = some (.int .i64 x71) ∧ (br (decide ((x71 : Int) ≠ 0)) (∃ (x72 : Int), World.cell? w8 (p7.add 0) = some (.int .i64 x72) ∧ (Calls Tryz.prog 82 ⟨[.int .i64 x72]⟩ w8 fun (e73 : Ending) (w74 : World) =>
  ∃ (x75 : Bool), e73 = .returned (.bool x75) ∧ (br (!x75) (R (.returned (.int .i64 8)) w74) (∃ (x76 : Option Addr) (x76n : Nat) (x76c : Nat), World.cell? w74 (p7.add 3) = some (.slice x76 x76n x76c) ∧ (br (decide ((0 : Int) < ((x76n : Int)))) (∃ (x77 : Int), World.cell? w74 (p7.add 0) = some (.int .i64 x77) ∧ (Calls Tryz.prog 84 ⟨[.int .i64 x77]⟩ w74 fun (e78 : Ending) (w79 : World) =>
  ∃ (x80 : Bool), e78 = .returned (.bool x80) ∧ (br (!x80) (R (.returned (.int .i64 8)) w79) (K9 w79)))) (K9 w74)))))) (∃ (x81 : Option Addr) (x81n : Nat) (x81c : Nat), World.cell? w8 (p7.add 3) = some (.slice x81 x81n x81c) ∧ (br (decide ((0 : Int) < ((x81n : Int)))) (∃ (x82 : Int), World.cell? w8 (p7.add 0) = some (.int .i64 x82) ∧ (Calls Tryz.prog 84 ⟨[.int .i64 x82]⟩ w8 fun (e83 : Ending) (w84 : World) =>
  ∃ (x85 : Bool), e83 = .returned (.bool x85) ∧ (br (!x85) (R (.returned (.int .i64 8)) w84) (K9 w84)))) (K9 w8)))))))))))
set_option maxRecDepth 100000 in
theorem e_ref10_single (x_1 : Int) (x_2 : List UInt8) (x_3 : Int) (x_4 : Option Addr) (x_4n : Nat) (x_4c : Nat) (before_5 : Bool) (within_6 : Bool) (R : Ending → World → Prop) (w : World) : fnV Tryz.prog Tryz.f79 an_ref10_single [.agg ⟨[.int .i64 x_1, .string ⟨⟨x_2⟩⟩, .int .i64 x_3, .slice x_4 x_4n x_4c]⟩, .bool before_5, .bool within_6] R w = sh_ref10_single x_1 x_2 x_3 x_4 x_4n x_4c before_5 within_6 R w := by kernel_rfl
theorem c_ref10_single {x_1 : Int} {x_2 : List UInt8} {x_3 : Int} {x_4 : Option Addr} {x_4n : Nat} {x_4c : Nat} {before_5 : Bool} {within_6 : Bool} {R : Ending → World → Prop} {w : World} (h : sh_ref10_single x_1 x_2 x_3 x_4 x_4n x_4c before_5 within_6 R w) : Calls Tryz.prog F_ref10_single ⟨[.agg ⟨[.int .i64 x_1, .string ⟨⟨x_2⟩⟩, .int .i64 x_3, .slice x_4 x_4n x_4c]⟩, .bool before_5, .bool within_6]⟩ w R := calls_of_fnV Tryz.func79 (by rw [e_ref10_single]; exact h)

def an_ref10_name : Ann := .two (.leaf) (.two (.leaf) (.leaf))
def sh_ref10_name (kind_1 : Int) (R : Ending → World → Prop) (w : World) : Prop :=
  al w 9 [.string ⟨⟨[]⟩⟩, .string ⟨⟨[]⟩⟩, .string ⟨⟨[108, 98]⟩⟩, .string ⟨⟨[112, 98]⟩⟩, .string ⟨⟨[115, 101, 99]⟩⟩, .string ⟨⟨[118]⟩⟩, .string ⟨⟨[103, 97, 112]⟩⟩, .string ⟨⟨[117, 110, 99, 108, 101, 97, 114]⟩⟩, .string ⟨⟨[97, 100, 100]⟩⟩, .string ⟨⟨[100, 101, 108]⟩⟩, .string ⟨⟨[97, 98]⟩⟩, .string ⟨⟨[110, 97, 109, 101]⟩⟩] fun p2 w3 =>
  idx (some p2) 12 kind_1 1 fun p4 =>
  ∃ (x5 : List UInt8), World.cell? w3 p4 = some (.string ⟨⟨x5⟩⟩) ∧ (R (.returned (.string ⟨⟨x5⟩⟩)) w3)
set_option maxRecDepth 100000 in
theorem e_ref10_name (kind_1 : Int) (R : Ending → World → Prop) (w : World) : fnV Tryz.prog Tryz.f80 an_ref10_name [.int .i64 kind_1] R w = sh_ref10_name kind_1 R w := by kernel_rfl
theorem c_ref10_name {kind_1 : Int} {R : Ending → World → Prop} {w : World} (h : sh_ref10_name kind_1 R w) : Calls Tryz.prog F_ref10_name ⟨[.int .i64 kind_1]⟩ w R := calls_of_fnV Tryz.func80 (by rw [e_ref10_name]; exact h)

def an_ref10_texts : Ann := .two (.leaf) (.two (.leaf) (.leaf))
def sh_ref10_texts (kind_1 : Int) (R : Ending → World → Prop) (w : World) : Prop :=
  br (decide ((kind_1 : Int) = 1)) (R (.returned (.bool true)) w) (br (decide ((kind_1 : Int) = 3)) (R (.returned (.bool true)) w) (br (decide ((kind_1 : Int) = 4)) (R (.returned (.bool true)) w) (br (decide ((kind_1 : Int) = 10)) (R (.returned (.bool true)) w) (R (.returned (.bool (decide ((kind_1 : Int) = 11)))) w))))
set_option maxRecDepth 100000 in
theorem e_ref10_texts (kind_1 : Int) (R : Ending → World → Prop) (w : World) : fnV Tryz.prog Tryz.f81 an_ref10_texts [.int .i64 kind_1] R w = sh_ref10_texts kind_1 R w := by kernel_rfl
theorem c_ref10_texts {kind_1 : Int} {R : Ending → World → Prop} {w : World} (h : sh_ref10_texts kind_1 R w) : Calls Tryz.prog F_ref10_texts ⟨[.int .i64 kind_1]⟩ w R := calls_of_fnV Tryz.func81 (by rw [e_ref10_texts]; exact h)

def an_ref10_numbers : Ann := .two (.leaf) (.two (.leaf) (.leaf))
def sh_ref10_numbers (kind_1 : Int) (R : Ending → World → Prop) (w : World) : Prop :=
  br (decide ((kind_1 : Int) = 6)) (R (.returned (.bool true)) w) (br (decide ((kind_1 : Int) = 8)) (R (.returned (.bool true)) w) (R (.returned (.bool (decide ((kind_1 : Int) = 9)))) w))
set_option maxRecDepth 100000 in
theorem e_ref10_numbers (kind_1 : Int) (R : Ending → World → Prop) (w : World) : fnV Tryz.prog Tryz.f82 an_ref10_numbers [.int .i64 kind_1] R w = sh_ref10_numbers kind_1 R w := by kernel_rfl
theorem c_ref10_numbers {kind_1 : Int} {R : Ending → World → Prop} {w : World} (h : sh_ref10_numbers kind_1 R w) : Calls Tryz.prog F_ref10_numbers ⟨[.int .i64 kind_1]⟩ w R := calls_of_fnV Tryz.func82 (by rw [e_ref10_numbers]; exact h)

def an_ref10_parts : Ann := .two (.leaf) (.two (.leaf) (.leaf))
def sh_ref10_parts (kind_1 : Int) (R : Ending → World → Prop) (w : World) : Prop :=
  br (decide ((7 : Int) ≤ kind_1)) (R (.returned (.bool (decide ((kind_1 : Int) ≤ 11)))) w) (R (.returned (.bool false)) w)
set_option maxRecDepth 100000 in
theorem e_ref10_parts (kind_1 : Int) (R : Ending → World → Prop) (w : World) : fnV Tryz.prog Tryz.f84 an_ref10_parts [.int .i64 kind_1] R w = sh_ref10_parts kind_1 R w := by kernel_rfl
theorem c_ref10_parts {kind_1 : Int} {R : Ending → World → Prop} {w : World} (h : sh_ref10_parts kind_1 R w) : Calls Tryz.prog F_ref10_parts ⟨[.int .i64 kind_1]⟩ w R := calls_of_fnV Tryz.func84 (by rw [e_ref10_parts]; exact h)

def an_markup_parts_1 : Ann := .two (.leaf) (.one (.loop 35184372088824 [(3, .one (.int .i64))] (.two (.two (.leaf) (.two (.leaf) (.leaf))) (.one (.two (.leaf) (.cut 68719468656 [(4, .one (.int .i64))] (.two (.leaf) (.two (.two (.leaf) (.two (.leaf) (.two (.leaf) (.leaf)))) (.two (.leaf) (.two (.leaf) (.two (.leaf) (.leaf)))))) (.two (.two (.leaf) (.two (.leaf) (.leaf))) (.leaf))))))))
def sh_markup_parts_1 (yield_1 : Fn) (yield_1a : Array Value) (yield_1b : Array Value) (t1_2 : Option Addr) (R : Ending → World → Prop) (w : World) : Prop :=
  ∃ (I3 : Int → World → Nat → Prop), (∃ m7 : Nat, I3 0 w m7) ∧ ∀ (at_4 : Int) (w5 : World) (m6 : Nat), I3 at_4 w5 m6 → ∀ _ : Env, (dr t1_2 fun p8 =>
  ∃ (x9 : List UInt8), World.cell? w5 p8 = some (.string ⟨⟨x9⟩⟩) ∧ (br (decide ((at_4 : Int) < ((List.length x9 : Int)))) (dr t1_2 fun p10 =>
  ∃ (x11 : List UInt8), World.cell? w5 p10 = some (.string ⟨⟨x11⟩⟩) ∧ (∀ (K12 : Int → World → Prop), (∀ (end_13 : Int) (w14 : World), (∀ _ : Env, (dr t1_2 fun p15 =>
  ∃ (x16 : List UInt8), World.cell? w14 p15 = some (.string ⟨⟨x16⟩⟩) ∧ (ssl x16 at_4 end_13 fun s17 =>
  CallV Tryz.prog (.func yield_1 yield_1a yield_1b) [.int .i64 at_4, .string ⟨⟨s17⟩⟩] w14 fun (e18 : Ending) (w19 : World) =>
  ∃ (x20 : Bool), e18 = .returned (.bool x20) ∧ (br (!x20) (R (.returned (.tuple ⟨[]⟩)) w19) (∃ m21 : Nat, m21 < m6 ∧ I3 end_13 w19 m21))))) → K12 end_13 w14) → (dr t1_2 fun p22 =>
  ∃ (x23 : List UInt8), World.cell? w5 p22 = some (.string ⟨⟨x23⟩⟩) ∧ (sidx x23 at_4 fun b24 =>
  br (decide ((((b24.toNat : Int)) : Int) = 60)) (dr t1_2 fun p25 =>
  ∃ (x26 : List UInt8), World.cell? w5 p25 = some (.string ⟨⟨x26⟩⟩) ∧ (ssl x26 at_4 (List.length x26 : Int) fun s27 =>
  Calls Tryz.prog 86 ⟨[.string ⟨⟨s27⟩⟩, .int .u8 62]⟩ w5 fun (e28 : Ending) (w29 : World) =>
  ∃ (x30 : Int), e28 = .returned (.int .i64 x30) ∧ (br (decide ((0 : Int) ≤ x30)) (K12 (IntKind.i64.wrap ((IntKind.i64.wrap (at_4 + x30)) + 1)) w29) (K12 ((List.length x11 : Int)) w29)))) (dr t1_2 fun p31 =>
  ∃ (x32 : List UInt8), World.cell? w5 p31 = some (.string ⟨⟨x32⟩⟩) ∧ (ssl x32 at_4 (List.length x32 : Int) fun s33 =>
  Calls Tryz.prog 86 ⟨[.string ⟨⟨s33⟩⟩, .int .u8 60]⟩ w5 fun (e34 : Ending) (w35 : World) =>
  ∃ (x36 : Int), e34 = .returned (.int .i64 x36) ∧ (br (decide ((0 : Int) ≤ x36)) (K12 (IntKind.i64.wrap (at_4 + x36)) w35) (K12 ((List.length x11 : Int)) w35)))))))) (R (.returned (.tuple ⟨[]⟩)) w5)))
set_option maxRecDepth 100000 in
theorem e_markup_parts_1 (yield_1 : Fn) (yield_1a : Array Value) (yield_1b : Array Value) (t1_2 : Option Addr) (R : Ending → World → Prop) (w : World) : fnV Tryz.prog Tryz.f85 an_markup_parts_1 [.func yield_1 yield_1a yield_1b, .pointer t1_2] R w = sh_markup_parts_1 yield_1 yield_1a yield_1b t1_2 R w := by kernel_rfl
theorem c_markup_parts_1 {yield_1 : Fn} {yield_1a : Array Value} {yield_1b : Array Value} {t1_2 : Option Addr} {R : Ending → World → Prop} {w : World} (h : sh_markup_parts_1 yield_1 yield_1a yield_1b t1_2 R w) : Calls Tryz.prog F_markup_parts_1 ⟨[.func yield_1 yield_1a yield_1b, .pointer t1_2]⟩ w R := calls_of_fnV Tryz.func85 (by rw [e_markup_parts_1]; exact h)

def an_charset_clusters : Ann := .two (.leaf) (.two (.leaf) (.leaf))
def sh_charset_clusters (s_1 : List UInt8) (R : Ending → World → Prop) (w : World) : Prop :=
  al w 9 [.string ⟨⟨s_1⟩⟩] fun p2 w3 =>
  R (.returned (.func (.func 114) ⟨[]⟩ ⟨[.pointer (some p2)]⟩)) w3
set_option maxRecDepth 100000 in
theorem e_charset_clusters (s_1 : List UInt8) (R : Ending → World → Prop) (w : World) : fnV Tryz.prog Tryz.f87 an_charset_clusters [.string ⟨⟨s_1⟩⟩] R w = sh_charset_clusters s_1 R w := by kernel_rfl
theorem c_charset_clusters {s_1 : List UInt8} {R : Ending → World → Prop} {w : World} (h : sh_charset_clusters s_1 R w) : Calls Tryz.prog F_charset_clusters ⟨[.string ⟨⟨s_1⟩⟩]⟩ w R := calls_of_fnV Tryz.func87 (by rw [e_charset_clusters]; exact h)

def an_charset_Kind : Ann := .two (.leaf) (.two (.one (.cut 262136 [(3, .one (.bool))] (.leaf) (.two (.two (.leaf) (.leaf)) (.cut 536608768 [(18, .one (.bool))] (.leaf) (.two (.two (.leaf) (.leaf)) (.cut 68182605824 [(29, .one (.bool))] (.leaf) (.two (.two (.leaf) (.leaf)) (.two (.leaf) (.two (.two (.leaf) (.leaf)) (.two (.leaf) (.two (.two (.leaf) (.leaf)) (.two (.leaf) (.two (.two (.leaf) (.leaf)) (.leaf)))))))))))))) (.two (.leaf) (.leaf)))
def sh_charset_Kind (c_1 : Int) (R : Ending → World → Prop) (w : World) : Prop :=
  ∀ (K2 : Bool → World → Prop), (∀ (t3_3 : Bool) (w4 : World), (∀ _ : Env, (br t3_3 (R (.returned (.int .i64 1)) w4) (∀ (K5 : Bool → World → Prop), (∀ (t18_6 : Bool) (w7 : World), (∀ _ : Env, (br t18_6 (R (.returned (.int .i64 2)) w7) (∀ (K8 : Bool → World → Prop), (∀ (t29_9 : Bool) (w10 : World), (∀ _ : Env, (br t29_9 (R (.returned (.int .i64 3)) w10) (br (decide ((c_1 : Int) = 39)) (R (.returned (.int .i64 4)) w10) (br (decide ((c_1 : Int) = 32)) (R (.returned (.int .i64 6)) w10) (br (decide ((c_1 : Int) ≠ 0)) (Calls Tryz.prog 86 ⟨[.string ⟨⟨[46, 44, 59, 58, 33, 63, 40, 41, 45]⟩⟩, .int .u8 c_1]⟩ w10 fun (e11 : Ending) (w12 : World) =>
  ∃ (x13 : Int), e11 = .returned (.int .i64 x13) ∧ (br (decide ((0 : Int) ≤ x13)) (R (.returned (.int .i64 5)) w12) (R (.returned (.int .i64 0)) w12))) (R (.returned (.int .i64 0)) w10)))))) → K8 t29_9 w10) → (br (decide ((48 : Int) ≤ c_1)) (K8 (decide ((c_1 : Int) ≤ 57)) w7) (K8 false w7))))) → K5 t18_6 w7) → (br (decide ((c_1 : Int) = 94)) (K5 true w4) (br (decide ((c_1 : Int) = 126)) (K5 true w4) (K5 (decide ((c_1 : Int) = 37)) w4)))))) → K2 t3_3 w4) → (br (decide ((97 : Int) ≤ c_1)) (br (decide ((c_1 : Int) ≤ 122)) (K2 true w) (br (decide ((65 : Int) ≤ c_1)) (K2 (decide ((c_1 : Int) ≤ 90)) w) (K2 false w))) (br (decide ((65 : Int) ≤ c_1)) (K2 (decide ((c_1 : Int) ≤ 90)) w) (K2 false w)))
set_option maxRecDepth 100000 in
theorem e_charset_Kind (c_1 : Int) (R : Ending → World → Prop) (w : World) : fnV Tryz.prog Tryz.f88 an_charset_Kind [.int .u8 c_1] R w = sh_charset_Kind c_1 R w := by kernel_rfl
theorem c_charset_Kind {c_1 : Int} {R : Ending → World → Prop} {w : World} (h : sh_charset_Kind c_1 R w) : Calls Tryz.prog F_charset_Kind ⟨[.int .u8 c_1]⟩ w R := calls_of_fnV Tryz.func88 (by rw [e_charset_Kind]; exact h)

def an_markup_find : Ann := .two (.leaf) (.two (.two (.leaf) (.one (.loop 261928 [(8, .one (.int .i64))] (.two (.leaf) (.two (.two (.leaf) (.leaf)) (.two (.one (.two (.leaf) (.two (.leaf) (.two (.two (.leaf) (.leaf)) (.leaf))))) (.leaf))))))) (.two (.leaf) (.leaf)))
def sh_markup_find (name_1 : List UInt8) (R : Ending → World → Prop) (w : World) : Prop :=
  al w 110 [.string ⟨⟨[]⟩⟩, .bool false, .nilFunc] fun p2 w3 =>
  Calls Tryz.prog 121 ⟨[]⟩ w3 fun (e4 : Ending) (w5 : World) =>
  ∃ (x6 : Option Addr) (x6n : Nat) (x6c : Nat), e4 = .returned (.slice x6 x6n x6c) ∧ (∃ (I7 : Int → World → Nat → Prop), (∃ m11 : Nat, I7 0 w5 m11) ∧ ∀ (t8_8 : Int) (w9 : World) (m10 : Nat), I7 t8_8 w9 m10 → ∀ _ : Env, (br (decide ((t8_8 : Int) < ((x6n : Int)))) (idx x6 x6n t8_8 3 fun p12 =>
  ∃ (x13 : List UInt8), World.cell? w9 (p12.add 0) = some (.string ⟨⟨x13⟩⟩) ∧ (∃ (x14 : Bool), World.cell? w9 (p12.add 1) = some (.bool x14) ∧ (∃ (x15 : Value), World.cell? w9 (p12.add 2) = some (x15) ∧ (al w9 110 [.string ⟨⟨[]⟩⟩, .bool false, .nilFunc] fun p16 w17 =>
  stL w17 p16 0 [.string ⟨⟨x13⟩⟩, .bool x14, x15] fun w18 =>
  ∃ (x19 : List UInt8), World.cell? w18 (p16.add 0) = some (.string ⟨⟨x19⟩⟩) ∧ (br (decide ((x19 : List UInt8) = name_1)) (∃ (x20 : List UInt8), World.cell? w18 (p16.add 0) = some (.string ⟨⟨x20⟩⟩) ∧ (∃ (x21 : Bool), World.cell? w18 (p16.add 1) = some (.bool x21) ∧ (∃ (x22 : Value), World.cell? w18 (p16.add 2) = some (x22) ∧ (stL w18 p2 0 [.string ⟨⟨x20⟩⟩, .bool x21, x22] fun w23 =>
  ∃ (x24 : List UInt8), World.cell? w23 (p2.add 0) = some (.string ⟨⟨x24⟩⟩) ∧ (∃ (x25 : Bool), World.cell? w23 (p2.add 1) = some (.bool x25) ∧ (∃ (x26 : Value), World.cell? w23 (p2.add 2) = some (x26) ∧ (R (.returned (.tuple ⟨[.agg ⟨[.string ⟨⟨x24⟩⟩, .bool x25, x26]⟩, .bool true]⟩)) w23))))))) (∃ m27 : Nat, m27 < m10 ∧ I7 (IntKind.i64.wrap (t8_8 + 1)) w18 m27)))))) (stL w9 p2 0 [.string ⟨⟨[]⟩⟩, .bool false, .nilFunc] fun w28 =>
  ∃ (x29 : List UInt8), World.cell? w28 (p2.add 0) = some (.string ⟨⟨x29⟩⟩) ∧ (∃ (x30 : Bool), World.cell? w28 (p2.add 1) = some (.bool x30) ∧ (∃ (x31 : Value), World.cell? w28 (p2.add 2) = some (x31) ∧ (R (.returned (.tuple ⟨[.agg ⟨[.string ⟨⟨x29⟩⟩, .bool x30, x31]⟩, .bool false]⟩)) w28))))))
set_option maxRecDepth 100000 in
theorem e_markup_find (name_1 : List UInt8) (R : Ending → World → Prop) (w : World) : fnV Tryz.prog Tryz.f91 an_markup_find [.string ⟨⟨name_1⟩⟩] R w = sh_markup_find name_1 R w := by kernel_rfl
theorem c_markup_find {name_1 : List UInt8} {R : Ending → World → Prop} {w : World} (h : sh_markup_find name_1 R w) : Calls Tryz.prog F_markup_find ⟨[.string ⟨⟨name_1⟩⟩]⟩ w R := calls_of_fnV Tryz.func91 (by rw [e_markup_find]; exact h)

def an_markup_right : Ann := .two (.leaf) (.two (.two (.leaf) (.two (.two (.leaf) (.leaf)) (.leaf))) (.two (.leaf) (.two (.leaf) (.leaf))))
def sh_markup_right (x_1 : Int) (x_2 : List UInt8) (x_3 : List UInt8) (x_4 : Int) (R : Ending → World → Prop) (w : World) : Prop :=
  al w 48 [.int .i64 x_1, .string ⟨⟨x_2⟩⟩, .string ⟨⟨x_3⟩⟩, .int .i64 x_4] fun p5 w6 =>
  ∃ (x7 : Int), World.cell? w6 (p5.add 0) = some (.int .i64 x7) ∧ (br (decide ((x7 : Int) = 3)) (∃ (x8 : List UInt8), World.cell? w6 (p5.add 2) = some (.string ⟨⟨x8⟩⟩) ∧ (R (.returned (.bool (decide ((x8 : List UInt8) = ([]))))) w6)) (∃ (x9 : List UInt8), World.cell? w6 (p5.add 1) = some (.string ⟨⟨x9⟩⟩) ∧ (Calls Tryz.prog 91 ⟨[.string ⟨⟨x9⟩⟩]⟩ w6 fun (e10 : Ending) (w11 : World) =>
  ∃ (x12 : List UInt8) (x13 : Bool) (x14 : Value) (x15 : Bool), e10 = .returned (.tuple ⟨[.agg ⟨[.string ⟨⟨x12⟩⟩, .bool x13, x14]⟩, .bool x15]⟩) ∧ (al w11 110 [.string ⟨⟨[]⟩⟩, .bool false, .nilFunc] fun p16 w17 =>
  stL w17 p16 0 [.string ⟨⟨x12⟩⟩, .bool x13, x14] fun w18 =>
  ∃ (x19 : Fn) (x19a : Array Value) (x19b : Array Value), World.cell? w18 (p16.add 2) = some (.func x19 x19a x19b) ∧ (∃ (x20 : List UInt8), World.cell? w18 (p5.add 2) = some (.string ⟨⟨x20⟩⟩) ∧ (CallV Tryz.prog (.func x19 x19a x19b) [.string ⟨⟨x20⟩⟩] w18 fun (e21 : Ending) (w22 : World) =>
  ∃ (x23 : Bool), e21 = .returned (.bool x23) ∧ (R (.returned (.bool x23)) w22)))))))
set_option maxRecDepth 100000 in
theorem e_markup_right (x_1 : Int) (x_2 : List UInt8) (x_3 : List UInt8) (x_4 : Int) (R : Ending → World → Prop) (w : World) : fnV Tryz.prog Tryz.f95 an_markup_right [.agg ⟨[.int .i64 x_1, .string ⟨⟨x_2⟩⟩, .string ⟨⟨x_3⟩⟩, .int .i64 x_4]⟩] R w = sh_markup_right x_1 x_2 x_3 x_4 R w := by kernel_rfl
theorem c_markup_right {x_1 : Int} {x_2 : List UInt8} {x_3 : List UInt8} {x_4 : Int} {R : Ending → World → Prop} {w : World} (h : sh_markup_right x_1 x_2 x_3 x_4 R w) : Calls Tryz.prog F_markup_right ⟨[.agg ⟨[.int .i64 x_1, .string ⟨⟨x_2⟩⟩, .string ⟨⟨x_3⟩⟩, .int .i64 x_4]⟩]⟩ w R := calls_of_fnV Tryz.func95 (by rw [e_markup_right]; exact h)

def an_markup_text : Ann := .two (.leaf) (.two (.leaf) (.cut 16328 [(3, .one (.str))] (.two (.leaf) (.two (.leaf) (.leaf))) (.two (.two (.leaf) (.one (.two (.leaf) (.two (.two (.leaf) (.leaf)) (.two (.leaf) (.two (.two (.leaf) (.leaf)) (.two (.leaf) (.two (.two (.leaf) (.leaf)) (.leaf))))))))) (.two (.leaf) (.leaf)))))
def sh_markup_text (x_1 : Int) (x_2 : List UInt8) (x_3 : List UInt8) (x_4 : Int) (R : Ending → World → Prop) (w : World) : Prop :=
  al w 48 [.int .i64 x_1, .string ⟨⟨x_2⟩⟩, .string ⟨⟨x_3⟩⟩, .int .i64 x_4] fun p5 w6 =>
  ∃ (x7 : List UInt8), World.cell? w6 (p5.add 1) = some (.string ⟨⟨x7⟩⟩) ∧ (∀ (K8 : List UInt8 → World → Prop), (∀ (inner_9 : List UInt8) (w10 : World), (∀ _ : Env, (∃ (x11 : Int), World.cell? w10 (p5.add 0) = some (.int .i64 x11) ∧ (br (decide ((x11 : Int) = 2)) (sadd ([60]) inner_9 fun s12 =>
  sadd s12 ([62]) fun s13 =>
  R (.returned (.string ⟨⟨s13⟩⟩)) w10) (br (decide ((x11 : Int) = 3)) (sadd ([60, 47]) inner_9 fun s14 =>
  sadd s14 ([62]) fun s15 =>
  R (.returned (.string ⟨⟨s15⟩⟩)) w10) (br (decide ((x11 : Int) = 4)) (sadd ([60]) inner_9 fun s16 =>
  sadd s16 ([47, 62]) fun s17 =>
  R (.returned (.string ⟨⟨s17⟩⟩)) w10) (∃ (x18 : List UInt8), World.cell? w10 (p5.add 2) = some (.string ⟨⟨x18⟩⟩) ∧ (R (.returned (.string ⟨⟨x18⟩⟩)) w10))))))) → K8 inner_9 w10) → (∃ (x19 : List UInt8), World.cell? w6 (p5.add 2) = some (.string ⟨⟨x19⟩⟩) ∧ (br (decide ((x19 : List UInt8) ≠ ([]))) (∃ (x20 : List UInt8), World.cell? w6 (p5.add 2) = some (.string ⟨⟨x20⟩⟩) ∧ (sadd ([32]) x20 fun s21 =>
  sadd x7 s21 fun s22 =>
  K8 s22 w6)) (K8 x7 w6))))
set_option maxRecDepth 100000 in
theorem e_markup_text (x_1 : Int) (x_2 : List UInt8) (x_3 : List UInt8) (x_4 : Int) (R : Ending → World → Prop) (w : World) : fnV Tryz.prog Tryz.f96 an_markup_text [.agg ⟨[.int .i64 x_1, .string ⟨⟨x_2⟩⟩, .string ⟨⟨x_3⟩⟩, .int .i64 x_4]⟩] R w = sh_markup_text x_1 x_2 x_3 x_4 R w := by kernel_rfl
theorem c_markup_text {x_1 : Int} {x_2 : List UInt8} {x_3 : List UInt8} {x_4 : Int} {R : Ending → World → Prop} {w : World} (h : sh_markup_text x_1 x_2 x_3 x_4 R w) : Calls Tryz.prog F_markup_text ⟨[.agg ⟨[.int .i64 x_1, .string ⟨⟨x_2⟩⟩, .string ⟨⟨x_3⟩⟩, .int .i64 x_4]⟩]⟩ w R := calls_of_fnV Tryz.func96 (by rw [e_markup_text]; exact h)

def an_markup_single : Ann := .two (.leaf) (.two (.two (.leaf) (.one (.two (.leaf) (.two (.two (.one (.two (.leaf) (.two (.two (.leaf) (.leaf)) (.two (.leaf) (.two (.two (.leaf) (.leaf)) (.two (.leaf) (.two (.two (.leaf) (.leaf)) (.leaf)))))))) (.two (.leaf) (.leaf))) (.cut 62914560 [(22, .one (.bool))] (.two (.leaf) (.two (.leaf) (.two (.leaf) (.two (.leaf) (.leaf))))) (.two (.two (.two (.leaf) (.two (.leaf) (.two (.two (.leaf) (.leaf)) (.leaf)))) (.two (.leaf) (.leaf))) (.leaf))))))) (.two (.leaf) (.leaf)))
def sh_markup_single (x_1 : Int) (x_2 : List UInt8) (x_3 : List UInt8) (x_4 : Int) (R : Ending → World → Prop) (w : World) : Prop :=
  al w 48 [.int .i64 x_1, .string ⟨⟨x_2⟩⟩, .string ⟨⟨x_3⟩⟩, .int .i64 x_4] fun p5 w6 =>
  ∃ (x7 : Int), World.cell? w6 (p5.add 0) = some (.int .i64 x7) ∧ (br (decide ((x7 : Int) = 1)) (∃ (x8 : List UInt8), World.cell? w6 (p5.add 1) = some (.string ⟨⟨x8⟩⟩) ∧ (br (decide ((x8 : List UInt8) ≠ ([]))) (R (.returned (.int .i64 12)) w6) (∃ (x9 : List UInt8), World.cell? w6 (p5.add 2) = some (.string ⟨⟨x9⟩⟩) ∧ (br (decide ((x9 : List UInt8) = ([]))) (R (.returned (.int .i64 5)) w6) (∃ (x10 : List UInt8), World.cell? w6 (p5.add 2) = some (.string ⟨⟨x10⟩⟩) ∧ (Calls Tryz.prog 57 ⟨[.string ⟨⟨x10⟩⟩]⟩ w6 fun (e11 : Ending) (w12 : World) =>
  ∃ (x13 : Int), e11 = .returned (.int .i64 x13) ∧ (br (decide ((x13 : Int) ≠ 0)) (R (.returned (.int .i64 11)) w12) (R (.returned (.int .i64 0)) w12)))))))) (∀ (K14 : Bool → World → Prop), (∀ (t22_15 : Bool) (w16 : World), (∀ _ : Env, (br t22_15 (∃ (x17 : List UInt8), World.cell? w16 (p5.add 1) = some (.string ⟨⟨x17⟩⟩) ∧ (Calls Tryz.prog 91 ⟨[.string ⟨⟨x17⟩⟩]⟩ w16 fun (e18 : Ending) (w19 : World) =>
  ∃ (x20 : List UInt8) (x21 : Bool) (x22 : Value) (x23 : Bool), e18 = .returned (.tuple ⟨[.agg ⟨[.string ⟨⟨x20⟩⟩, .bool x21, x22]⟩, .bool x23]⟩) ∧ (al w19 110 [.string ⟨⟨[]⟩⟩, .bool false, .nilFunc] fun p24 w25 =>
  stL w25 p24 0 [.string ⟨⟨x20⟩⟩, .bool x21, x22] fun w26 =>
  br (!x23) (R (.returned (.int .i64 12)) w26) (∃ (x27 : Bool), World.cell? w26 (p24.add 1) = some (.bool x27) ∧ (∃ (x28 : Int), World.cell? w26 (p5.add 0) = some (.int .i64 x28) ∧ (br (decide ((x27 : Bool) ≠ (decide ((x28 : Int) = 4)))) (R (.returned (.int .i64 12)) w26) (R (.returned (.int .i64 0)) w26))))))) (R (.returned (.int .i64 8)) w16))) → K14 t22_15 w16) → (br (decide ((x7 : Int) = 2)) (K14 (decide ((x7 : Int) = 2)) w6) (br (decide ((x7 : Int) = 3)) (K14 (decide ((x7 : Int) = 3)) w6) (K14 (decide ((x7 : Int) = 4)) w6)))))
set_option maxRecDepth 100000 in
theorem e_markup_single (x_1 : Int) (x_2 : List UInt8) (x_3 : List UInt8) (x_4 : Int) (R : Ending → World → Prop) (w : World) : fnV Tryz.prog Tryz.f97 an_markup_single [.agg ⟨[.int .i64 x_1, .string ⟨⟨x_2⟩⟩, .string ⟨⟨x_3⟩⟩, .int .i64 x_4]⟩] R w = sh_markup_single x_1 x_2 x_3 x_4 R w := by kernel_rfl
theorem c_markup_single {x_1 : Int} {x_2 : List UInt8} {x_3 : List UInt8} {x_4 : Int} {R : Ending → World → Prop} {w : World} (h : sh_markup_single x_1 x_2 x_3 x_4 R w) : Calls Tryz.prog F_markup_single ⟨[.agg ⟨[.int .i64 x_1, .string ⟨⟨x_2⟩⟩, .string ⟨⟨x_3⟩⟩, .int .i64 x_4]⟩]⟩ w R := calls_of_fnV Tryz.func97 (by rw [e_markup_single]; exact h)

def an_ref01_right : Ann := .two (.leaf) (.two (.leaf) (.two (.two (.leaf) (.one (.loop 549755813848 [(3, .one (.slice)), (4, .one (.int .i64))] (.two (.two (.leaf) (.two (.leaf) (.leaf))) (.two (.one (.leaf)) (.leaf)))))) (.two (.leaf) (.leaf))))
def sh_ref01_right (s_1 : List UInt8) (R : Ending → World → Prop) (w : World) : Prop :=
  al w 4 [] fun p2 w3 =>
  ∃ (I4 : Option Addr → Nat → Nat → Int → World → Nat → Prop), (∃ m9 : Nat, I4 (some p2) 0 0 0 w3 m9) ∧ ∀ (out_5 : Option Addr) (out_5n : Nat) (out_5c : Nat) (i_6 : Int) (w7 : World) (m8 : Nat), I4 out_5 out_5n out_5c i_6 w7 m8 → ∀ _ : Env, (br (decide ((i_6 : Int) < ((List.length s_1 : Int)))) (sidx s_1 i_6 fun b10 =>
  Calls Tryz.prog 105 ⟨[.int .u8 ((b10.toNat : Int))]⟩ w7 fun (e11 : Ending) (w12 : World) =>
  ∃ (x13 : Int), e11 = .returned (.int .i64 x13) ∧ (br (decide ((x13 : Int) = 2)) (br (decide ((0 : Int) < i_6)) (sidx s_1 (IntKind.i64.wrap (i_6 - 1)) fun b14 =>
  Calls Tryz.prog 105 ⟨[.int .u8 ((b14.toNat : Int))]⟩ w12 fun (e15 : Ending) (w16 : World) =>
  ∃ (x17 : Int), e15 = .returned (.int .i64 x17) ∧ (br (decide ((x17 : Int) = 1)) (al w16 4 [.bool true] fun p18 w19 =>
  app Tryz.prog [120, 120] 120 (.slice out_5 out_5n out_5c) (.slice (some p18) 1 1) w19 fun a20 a20n a20c w21 =>
  ∃ m22 : Nat, m22 < m8 ∧ I4 a20 a20n a20c (IntKind.i64.wrap (i_6 + 1)) w21 m22) (idx out_5 out_5n (IntKind.i64.wrap (i_6 - 1)) 1 fun p23 =>
  ∃ (x24 : Bool), World.cell? w16 p23 = some (.bool x24) ∧ (al w16 4 [.bool x24] fun p25 w26 =>
  app Tryz.prog [120, 120] 120 (.slice out_5 out_5n out_5c) (.slice (some p25) 1 1) w26 fun a27 a27n a27c w28 =>
  ∃ m29 : Nat, m29 < m8 ∧ I4 a27 a27n a27c (IntKind.i64.wrap (i_6 + 1)) w28 m29)))) (al w12 4 [.bool false] fun p30 w31 =>
  app Tryz.prog [120, 120] 120 (.slice out_5 out_5n out_5c) (.slice (some p30) 1 1) w31 fun a32 a32n a32c w33 =>
  ∃ m34 : Nat, m34 < m8 ∧ I4 a32 a32n a32c (IntKind.i64.wrap (i_6 + 1)) w33 m34)) (al w12 4 [.bool false] fun p35 w36 =>
  app Tryz.prog [120, 120] 120 (.slice out_5 out_5n out_5c) (.slice (some p35) 1 1) w36 fun a37 a37n a37c w38 =>
  ∃ m39 : Nat, m39 < m8 ∧ I4 a37 a37n a37c (IntKind.i64.wrap (i_6 + 1)) w38 m39))) (R (.returned (.slice out_5 out_5n out_5c)) w7))
set_option maxRecDepth 100000 in
theorem e_ref01_right (s_1 : List UInt8) (R : Ending → World → Prop) (w : World) : fnV Tryz.prog Tryz.f104 an_ref01_right [.string ⟨⟨s_1⟩⟩] R w = sh_ref01_right s_1 R w := by kernel_rfl
theorem c_ref01_right {s_1 : List UInt8} {R : Ending → World → Prop} {w : World} (h : sh_ref01_right s_1 R w) : Calls Tryz.prog F_ref01_right ⟨[.string ⟨⟨s_1⟩⟩]⟩ w R := calls_of_fnV Tryz.func104 (by rw [e_ref01_right]; exact h)

def an_ref01_Kind : Ann := .two (.leaf) (.two (.one (.cut 262136 [(3, .one (.bool))] (.leaf) (.two (.two (.leaf) (.leaf)) (.cut 536608768 [(18, .one (.bool))] (.leaf) (.two (.two (.leaf) (.leaf)) (.cut 68182605824 [(29, .one (.bool))] (.leaf) (.two (.two (.leaf) (.leaf)) (.two (.leaf) (.two (.two (.leaf) (.leaf)) (.cut 18889465930928825040896 [(39, .one (.bool))] (.leaf) (.two (.two (.leaf) (.leaf)) (.two (.leaf) (.two (.two (.leaf) (.leaf)) (.leaf)))))))))))))) (.two (.leaf) (.leaf)))
def sh_ref01_Kind (c_1 : Int) (R : Ending → World → Prop) (w : World) : Prop :=
  ∀ (K2 : Bool → World → Prop), (∀ (t3_3 : Bool) (w4 : World), (∀ _ : Env, (br t3_3 (R (.returned (.int .i64 1)) w4) (∀ (K5 : Bool → World → Prop), (∀ (t18_6 : Bool) (w7 : World), (∀ _ : Env, (br t18_6 (R (.returned (.int .i64 2)) w7) (∀ (K8 : Bool → World → Prop), (∀ (t29_9 : Bool) (w10 : World), (∀ _ : Env, (br t29_9 (R (.returned (.int .i64 3)) w10) (br (decide ((c_1 : Int) = 39)) (R (.returned (.int .i64 4)) w10) (∀ (K11 : Bool → World → Prop), (∀ (t39_12 : Bool) (w13 : World), (∀ _ : Env, (br t39_12 (R (.returned (.int .i64 5)) w13) (br (decide ((c_1 : Int) = 32)) (R (.returned (.int .i64 6)) w13) (R (.returned (.int .i64 0)) w13)))) → K11 t39_12 w13) → (br (decide ((c_1 : Int) = 46)) (K11 true w10) (br (decide ((c_1 : Int) = 44)) (K11 true w10) (br (decide ((c_1 : Int) = 59)) (K11 true w10) (br (decide ((c_1 : Int) = 58)) (K11 true w10) (br (decide ((c_1 : Int) = 33)) (K11 true w10) (br (decide ((c_1 : Int) = 63)) (K11 true w10) (br (decide ((c_1 : Int) = 40)) (K11 true w10) (br (decide ((c_1 : Int) = 41)) (K11 true w10) (K11 (decide ((c_1 : Int) = 45)) w10))))))))))))) → K8 t29_9 w10) → (br (decide ((48 : Int) ≤ c_1)) (K8 (decide ((c_1 : Int) ≤ 57)) w7) (K8 false w7))))) → K5 t18_6 w7) → (br (decide ((c_1 : Int) = 94)) (K5 true w4) (br (decide ((c_1 : Int) = 126)) (K5 true w4) (K5 (decide ((c_1 : Int) = 37)) w4)))))) → K2 t3_3 w4) → (br (decide ((97 : Int) ≤ c_1)) (br (decide ((c_1 : Int) ≤ 122)) (K2 true w) (br (decide ((65 : Int) ≤ c_1)) (K2 (decide ((c_1 : Int) ≤ 90)) w) (K2 false w))) (br (decide ((65 : Int) ≤ c_1)) (K2 (decide ((c_1 : Int) ≤ 90)) w) (K2 false w)))
set_option maxRecDepth 100000 in
theorem e_ref01_Kind (c_1 : Int) (R : Ending → World → Prop) (w : World) : fnV Tryz.prog Tryz.f105 an_ref01_Kind [.int .u8 c_1] R w = sh_ref01_Kind c_1 R w := by kernel_rfl
theorem c_ref01_Kind {c_1 : Int} {R : Ending → World → Prop} {w : World} (h : sh_ref01_Kind c_1 R w) : Calls Tryz.prog F_ref01_Kind ⟨[.int .u8 c_1]⟩ w R := calls_of_fnV Tryz.func105 (by rw [e_ref01_Kind]; exact h)

def an_slices_ContainsFunc_of_byte_byte : Ann := .two (.leaf) (.two (.leaf) (.leaf))
def sh_slices_ContainsFunc_of_byte_byte (s_1 : Option Addr) (s_1n : Nat) (s_1c : Nat) (f_2 : Fn) (f_2a : Array Value) (f_2b : Array Value) (R : Ending → World → Prop) (w : World) : Prop :=
  Calls Tryz.prog 132 ⟨[.slice s_1 s_1n s_1c, .func f_2 f_2a f_2b]⟩ w fun (e3 : Ending) (w4 : World) =>
  ∃ (x5 : Int), e3 = .returned (.int .i64 x5) ∧ (R (.returned (.bool (decide ((0 : Int) ≤ x5)))) w4)
set_option maxRecDepth 100000 in
theorem e_slices_ContainsFunc_of_byte_byte (s_1 : Option Addr) (s_1n : Nat) (s_1c : Nat) (f_2 : Fn) (f_2a : Array Value) (f_2b : Array Value) (R : Ending → World → Prop) (w : World) : fnV Tryz.prog Tryz.f106 an_slices_ContainsFunc_of_byte_byte [.slice s_1 s_1n s_1c, .func f_2 f_2a f_2b] R w = sh_slices_ContainsFunc_of_byte_byte s_1 s_1n s_1c f_2 f_2a f_2b R w := by kernel_rfl
theorem c_slices_ContainsFunc_of_byte_byte {s_1 : Option Addr} {s_1n : Nat} {s_1c : Nat} {f_2 : Fn} {f_2a : Array Value} {f_2b : Array Value} {R : Ending → World → Prop} {w : World} (h : sh_slices_ContainsFunc_of_byte_byte s_1 s_1n s_1c f_2 f_2a f_2b R w) : Calls Tryz.prog F_slices_ContainsFunc_of_byte_byte ⟨[.slice s_1 s_1n s_1c, .func f_2 f_2a f_2b]⟩ w R := calls_of_fnV Tryz.func106 (by rw [e_slices_ContainsFunc_of_byte_byte]; exact h)

def an_charset_IsWord_1 : Ann := .two (.leaf) (.two (.leaf) (.two (.leaf) (.leaf)))
def sh_charset_IsWord_1 (c_1 : Int) (R : Ending → World → Prop) (w : World) : Prop :=
  Calls Tryz.prog 88 ⟨[.int .u8 c_1]⟩ w fun (e2 : Ending) (w3 : World) =>
  ∃ (x4 : Int), e2 = .returned (.int .i64 x4) ∧ (br (decide ((x4 : Int) = 5)) (R (.returned (.bool true)) w3) (R (.returned (.bool (decide ((x4 : Int) = 6)))) w3))
set_option maxRecDepth 100000 in
theorem e_charset_IsWord_1 (c_1 : Int) (R : Ending → World → Prop) (w : World) : fnV Tryz.prog Tryz.f107 an_charset_IsWord_1 [.int .u8 c_1] R w = sh_charset_IsWord_1 c_1 R w := by kernel_rfl
theorem c_charset_IsWord_1 {c_1 : Int} {R : Ending → World → Prop} {w : World} (h : sh_charset_IsWord_1 c_1 R w) : Calls Tryz.prog F_charset_IsWord_1 ⟨[.int .u8 c_1]⟩ w R := calls_of_fnV Tryz.func107 (by rw [e_charset_IsWord_1]; exact h)

def an_charset_Letters : Ann := .two (.leaf) (.two (.leaf) (.two (.two (.leaf) (.one (.loop 16777016 [(3, .one (.int .i64)), (8, .one (.int .i64))] (.two (.leaf) (.two (.two (.leaf) (.leaf)) (.two (.one (.two (.leaf) (.two (.leaf) (.two (.leaf) (.two (.leaf) (.leaf)))))) (.leaf))))))) (.two (.leaf) (.leaf))))
def sh_charset_Letters (s_1 : List UInt8) (R : Ending → World → Prop) (w : World) : Prop :=
  ∃ (I2 : Int → Int → World → Nat → Prop), (∃ m7 : Nat, I2 0 0 w m7) ∧ ∀ (n_3 : Int) (t8_4 : Int) (w5 : World) (m6 : Nat), I2 n_3 t8_4 w5 m6 → ∀ _ : Env, (br (decide ((t8_4 : Int) < ((List.length s_1 : Int)))) (sidx s_1 t8_4 fun b8 =>
  Calls Tryz.prog 88 ⟨[.int .u8 ((b8.toNat : Int))]⟩ w5 fun (e9 : Ending) (w10 : World) =>
  ∃ (x11 : Int), e9 = .returned (.int .i64 x11) ∧ (br (decide ((x11 : Int) = 1)) (∃ m12 : Nat, m12 < m6 ∧ I2 (IntKind.i64.wrap (n_3 + 1)) (IntKind.i64.wrap (t8_4 + 1)) w10 m12) (br (decide ((x11 : Int) = 3)) (∃ m13 : Nat, m13 < m6 ∧ I2 (IntKind.i64.wrap (n_3 + 1)) (IntKind.i64.wrap (t8_4 + 1)) w10 m13) (∃ m14 : Nat, m14 < m6 ∧ I2 n_3 (IntKind.i64.wrap (t8_4 + 1)) w10 m14)))) (R (.returned (.int .i64 n_3)) w5))
set_option maxRecDepth 100000 in
theorem e_charset_Letters (s_1 : List UInt8) (R : Ending → World → Prop) (w : World) : fnV Tryz.prog Tryz.f108 an_charset_Letters [.string ⟨⟨s_1⟩⟩] R w = sh_charset_Letters s_1 R w := by kernel_rfl
theorem c_charset_Letters {s_1 : List UInt8} {R : Ending → World → Prop} {w : World} (h : sh_charset_Letters s_1 R w) : Calls Tryz.prog F_charset_Letters ⟨[.string ⟨⟨s_1⟩⟩]⟩ w R := calls_of_fnV Tryz.func108 (by rw [e_charset_Letters]; exact h)

def an_ref01_IsName : Ann := .two (.leaf) (.two (.leaf) (.leaf))
def sh_ref01_IsName (s_1 : List UInt8) (R : Ending → World → Prop) (w : World) : Prop :=
  br (decide ((((List.length s_1 : Int)) : Int) ≤ 16)) (Calls Tryz.prog 111 ⟨[.string ⟨⟨s_1⟩⟩]⟩ w fun (e2 : Ending) (w3 : World) =>
  ∃ (x4 : Bool), e2 = .returned (.bool x4) ∧ (br x4 (Calls Tryz.prog 133 ⟨[.string ⟨⟨s_1⟩⟩]⟩ w3 fun (e5 : Ending) (w6 : World) =>
  ∃ (x7 : Int), e5 = .returned (.int .i64 x7) ∧ (R (.returned (.bool (decide ((x7 : Int) = ((List.length s_1 : Int)))))) w6)) (R (.returned (.bool false)) w3))) (R (.returned (.bool false)) w)
set_option maxRecDepth 100000 in
theorem e_ref01_IsName (s_1 : List UInt8) (R : Ending → World → Prop) (w : World) : fnV Tryz.prog Tryz.f110 an_ref01_IsName [.string ⟨⟨s_1⟩⟩] R w = sh_ref01_IsName s_1 R w := by kernel_rfl
theorem c_ref01_IsName {s_1 : List UInt8} {R : Ending → World → Prop} {w : World} (h : sh_ref01_IsName s_1 R w) : Calls Tryz.prog F_ref01_IsName ⟨[.string ⟨⟨s_1⟩⟩]⟩ w R := calls_of_fnV Tryz.func110 (by rw [e_ref01_IsName]; exact h)

def an_ref01_IsWord : Ann := .two (.leaf) (.cut 262116 [] (.two (.leaf) (.two (.two (.leaf) (.leaf)) (.leaf))) (.cut 133955596 [] (.two (.leaf) (.two (.leaf) (.two (.two (.leaf) (.leaf)) (.leaf)))) (.two (.two (.leaf) (.one (.loop 274743689236 [(4, .one (.int .i64))] (.two (.two (.leaf) (.two (.leaf) (.leaf))) (.two (.one (.two (.leaf) (.two (.two (.leaf) (.leaf)) (.leaf)))) (.leaf)))))) (.two (.leaf) (.leaf)))))
def sh_ref01_IsWord (s_1 : List UInt8) (R : Ending → World → Prop) (w : World) : Prop :=
  ∀ (K2 : World → Prop), (∀  (w3 : World), (∀ _ : Env, (∀ (K4 : World → Prop), (∀  (w5 : World), (∀ _ : Env, (∃ (I6 : Int → World → Nat → Prop), (∃ m10 : Nat, I6 0 w5 m10) ∧ ∀ (i_7 : Int) (w8 : World) (m9 : Nat), I6 i_7 w8 m9 → ∀ _ : Env, (br (decide ((i_7 : Int) < ((List.length s_1 : Int)))) (sidx s_1 i_7 fun b11 =>
  Calls Tryz.prog 105 ⟨[.int .u8 ((b11.toNat : Int))]⟩ w8 fun (e12 : Ending) (w13 : World) =>
  ∃ (x14 : Int), e12 = .returned (.int .i64 x14) ∧ (br (decide ((4 : Int) < x14)) (R (.returned (.bool false)) w13) (∃ m15 : Nat, m15 < m9 ∧ I6 (IntKind.i64.wrap (i_7 + 1)) w13 m15))) (R (.returned (.bool true)) w8)))) → K4 w5) → (sidx s_1 0 fun b16 =>
  Calls Tryz.prog 105 ⟨[.int .u8 ((b16.toNat : Int))]⟩ w3 fun (e17 : Ending) (w18 : World) =>
  ∃ (x19 : Int), e17 = .returned (.int .i64 x19) ∧ (br (decide ((x19 : Int) ≠ 1)) (br (decide ((x19 : Int) ≠ 3)) (R (.returned (.bool false)) w18) (K4 w18)) (K4 w18))))) → K2 w3) → (br (decide ((((List.length s_1 : Int)) : Int) < 1)) (R (.returned (.bool false)) w) (br (decide ((64 : Int) < ((List.length s_1 : Int)))) (R (.returned (.bool false)) w) (Calls Tryz.prog 69 ⟨[.string ⟨⟨s_1⟩⟩]⟩ w fun (e20 : Ending) (w21 : World) =>
  ∃ (x22 : Int), e20 = .returned (.int .i64 x22) ∧ (br (decide ((x22 : Int) ≠ 0)) (R (.returned (.bool false)) w21) (K2 w21)))))
set_option maxRecDepth 100000 in
theorem e_ref01_IsWord (s_1 : List UInt8) (R : Ending → World → Prop) (w : World) : fnV Tryz.prog Tryz.f111 an_ref01_IsWord [.string ⟨⟨s_1⟩⟩] R w = sh_ref01_IsWord s_1 R w := by kernel_rfl
theorem c_ref01_IsWord {s_1 : List UInt8} {R : Ending → World → Prop} {w : World} (h : sh_ref01_IsWord s_1 R w) : Calls Tryz.prog F_ref01_IsWord ⟨[.string ⟨⟨s_1⟩⟩]⟩ w R := calls_of_fnV Tryz.func111 (by rw [e_ref01_IsWord]; exact h)

def an_charset_clusters_1 : Ann := .two (.leaf) (.two (.leaf) (.one (.loop 137438953464 [(3, .one (.int .i64)), (4, .one (.int .i64))] (.two (.two (.leaf) (.two (.leaf) (.leaf))) (.two (.one (.cut 268433408 [] (.two (.leaf) (.two (.leaf) (.leaf))) (.two (.two (.leaf) (.two (.leaf) (.leaf))) (.leaf)))) (.leaf))))))
def sh_charset_clusters_1 (yield_1 : Fn) (yield_1a : Array Value) (yield_1b : Array Value) (t1_2 : Option Addr) (R : Ending → World → Prop) (w : World) : Prop :=
  ∃ (I3 : Int → Int → World → Nat → Prop), (∃ m8 : Nat, I3 0 1 w m8) ∧ ∀ (from_4 : Int) (i_5 : Int) (w6 : World) (m7 : Nat), I3 from_4 i_5 w6 m7 → ∀ _ : Env, (dr t1_2 fun p9 =>
  ∃ (x10 : List UInt8), World.cell? w6 p9 = some (.string ⟨⟨x10⟩⟩) ∧ (br (decide ((i_5 : Int) ≤ ((List.length x10 : Int)))) (∀ (K11 : World → Prop), (∀  (w12 : World), (∀ _ : Env, (dr t1_2 fun p13 =>
  ∃ (x14 : List UInt8), World.cell? w12 p13 = some (.string ⟨⟨x14⟩⟩) ∧ (ssl x14 from_4 i_5 fun s15 =>
  CallV Tryz.prog (.func yield_1 yield_1a yield_1b) [.int .i64 from_4, .string ⟨⟨s15⟩⟩] w12 fun (e16 : Ending) (w17 : World) =>
  ∃ (x18 : Bool), e16 = .returned (.bool x18) ∧ (br (!x18) (R (.returned (.tuple ⟨[]⟩)) w17) (∃ m19 : Nat, m19 < m7 ∧ I3 i_5 (IntKind.i64.wrap (i_5 + 1)) w17 m19))))) → K11 w12) → (dr t1_2 fun p20 =>
  ∃ (x21 : List UInt8), World.cell? w6 p20 = some (.string ⟨⟨x21⟩⟩) ∧ (br (decide ((i_5 : Int) < ((List.length x21 : Int)))) (dr t1_2 fun p22 =>
  ∃ (x23 : List UInt8), World.cell? w6 p22 = some (.string ⟨⟨x23⟩⟩) ∧ (sidx x23 i_5 fun b24 =>
  Calls Tryz.prog 88 ⟨[.int .u8 ((b24.toNat : Int))]⟩ w6 fun (e25 : Ending) (w26 : World) =>
  ∃ (x27 : Int), e25 = .returned (.int .i64 x27) ∧ (br (decide ((x27 : Int) = 2)) (dr t1_2 fun p28 =>
  ∃ (x29 : List UInt8), World.cell? w26 p28 = some (.string ⟨⟨x29⟩⟩) ∧ (Calls Tryz.prog 115 ⟨[.string ⟨⟨x29⟩⟩, .int .i64 from_4, .int .i64 i_5]⟩ w26 fun (e30 : Ending) (w31 : World) =>
  ∃ (x32 : Bool), e30 = .returned (.bool x32) ∧ (br x32 (∃ m33 : Nat, m33 < m7 ∧ I3 from_4 (IntKind.i64.wrap (i_5 + 1)) w31 m33) (K11 w31)))) (K11 w26)))) (K11 w6)))) (R (.returned (.tuple ⟨[]⟩)) w6)))
set_option maxRecDepth 100000 in
theorem e_charset_clusters_1 (yield_1 : Fn) (yield_1a : Array Value) (yield_1b : Array Value) (t1_2 : Option Addr) (R : Ending → World → Prop) (w : World) : fnV Tryz.prog Tryz.f114 an_charset_clusters_1 [.func yield_1 yield_1a yield_1b, .pointer t1_2] R w = sh_charset_clusters_1 yield_1 yield_1a yield_1b t1_2 R w := by kernel_rfl
theorem c_charset_clusters_1 {yield_1 : Fn} {yield_1a : Array Value} {yield_1b : Array Value} {t1_2 : Option Addr} {R : Ending → World → Prop} {w : World} (h : sh_charset_clusters_1 yield_1 yield_1a yield_1b t1_2 R w) : Calls Tryz.prog F_charset_clusters_1 ⟨[.func yield_1 yield_1a yield_1b, .pointer t1_2]⟩ w R := calls_of_fnV Tryz.func114 (by rw [e_charset_clusters_1]; exact h)

def an_charset_right : Ann := .two (.leaf) (.two (.leaf) (.leaf))
def sh_charset_right (s_1 : List UInt8) (from_2 : Int) (at_3 : Int) (R : Ending → World → Prop) (w : World) : Prop :=
  sidx s_1 from_2 fun b4 =>
  Calls Tryz.prog 88 ⟨[.int .u8 ((b4.toNat : Int))]⟩ w fun (e5 : Ending) (w6 : World) =>
  ∃ (x7 : Int), e5 = .returned (.int .i64 x7) ∧ (br (decide ((x7 : Int) = 1)) (R (.returned (.bool (decide ((from_2 : Int) < at_3)))) w6) (R (.returned (.bool false)) w6))
set_option maxRecDepth 100000 in
theorem e_charset_right (s_1 : List UInt8) (from_2 : Int) (at_3 : Int) (R : Ending → World → Prop) (w : World) : fnV Tryz.prog Tryz.f115 an_charset_right [.string ⟨⟨s_1⟩⟩, .int .i64 from_2, .int .i64 at_3] R w = sh_charset_right s_1 from_2 at_3 R w := by kernel_rfl
theorem c_charset_right {s_1 : List UInt8} {from_2 : Int} {at_3 : Int} {R : Ending → World → Prop} {w : World} (h : sh_charset_right s_1 from_2 at_3 R w) : Calls Tryz.prog F_charset_right ⟨[.string ⟨⟨s_1⟩⟩, .int .i64 from_2, .int .i64 at_3]⟩ w R := calls_of_fnV Tryz.func115 (by rw [e_charset_right]; exact h)

def an_markup_tags : Ann := .two (.leaf) (.two (.leaf) (.two (.leaf) (.leaf)))
def sh_markup_tags  (R : Ending → World → Prop) (w : World) : Prop :=
  Calls Tryz.prog 139 ⟨[.int .i64 8]⟩ w fun (e1 : Ending) (w2 : World) =>
  ∃ (x3 : Fn) (x3a : Array Value) (x3b : Array Value), e1 = .returned (.func x3 x3a x3b) ∧ (Calls Tryz.prog 139 ⟨[.int .i64 64]⟩ w2 fun (e4 : Ending) (w5 : World) =>
  ∃ (x6 : Fn) (x6a : Array Value) (x6b : Array Value), e4 = .returned (.func x6 x6a x6b) ∧ (al w5 110 [.string ⟨⟨[97, 98]⟩⟩, .bool false, .func (.func 76) #[] #[], .string ⟨⟨[97, 100, 100]⟩⟩, .bool false, .func x3 x3a x3b, .string ⟨⟨[100, 101, 108]⟩⟩, .bool false, .func x3 x3a x3b, .string ⟨⟨[103, 97, 112]⟩⟩, .bool true, .func x6 x6a x6b, .string ⟨⟨[108, 98]⟩⟩, .bool true, .func (.func 140) #[] #[], .string ⟨⟨[110, 97, 109, 101]⟩⟩, .bool false, .func (.func 77) #[] #[], .string ⟨⟨[112, 98]⟩⟩, .bool true, .func (.func 77) #[] #[], .string ⟨⟨[115, 101, 99]⟩⟩, .bool true, .func (.func 77) #[] #[], .string ⟨⟨[117, 110, 99, 108, 101, 97, 114]⟩⟩, .bool false, .func (.func 140) #[] #[], .string ⟨⟨[118]⟩⟩, .bool true, .func (.func 140) #[] #[]] fun p7 w8 =>
  R (.returned (.slice (some p7) 10 10)) w8))
set_option maxRecDepth 100000 in
theorem e_markup_tags  (R : Ending → World → Prop) (w : World) : fnV Tryz.prog Tryz.f121 an_markup_tags [] R w = sh_markup_tags  R w := by kernel_rfl
theorem c_markup_tags  {R : Ending → World → Prop} {w : World} (h : sh_markup_tags  R w) : Calls Tryz.prog F_markup_tags ⟨[]⟩ w R := calls_of_fnV Tryz.func121 (by rw [e_markup_tags]; exact h)

def an_slices_IndexFunc_of_byte_byte : Ann := .two (.leaf) (.two (.two (.leaf) (.one (.loop 524080 [(8, .one (.int .i64))] (.two (.leaf) (.two (.two (.leaf) (.leaf)) (.two (.one (.two (.leaf) (.two (.leaf) (.two (.two (.leaf) (.leaf)) (.leaf))))) (.leaf))))))) (.two (.leaf) (.leaf)))
def sh_slices_IndexFunc_of_byte_byte (s_1 : Option Addr) (s_1n : Nat) (s_1c : Nat) (f_2 : Fn) (f_2a : Array Value) (f_2b : Array Value) (R : Ending → World → Prop) (w : World) : Prop :=
  ∃ (I3 : Int → World → Nat → Prop), (∃ m7 : Nat, I3 0 w m7) ∧ ∀ (t8_4 : Int) (w5 : World) (m6 : Nat), I3 t8_4 w5 m6 → ∀ _ : Env, (br (decide ((t8_4 : Int) < ((s_1n : Int)))) (idx s_1 s_1n t8_4 1 fun p8 =>
  ∃ (x9 : Int), World.cell? w5 p8 = some (.int .u8 x9) ∧ (CallV Tryz.prog (.func f_2 f_2a f_2b) [.int .u8 x9] w5 fun (e10 : Ending) (w11 : World) =>
  ∃ (x12 : Bool), e10 = .returned (.bool x12) ∧ (br x12 (R (.returned (.int .i64 t8_4)) w11) (∃ m13 : Nat, m13 < m6 ∧ I3 (IntKind.i64.wrap (t8_4 + 1)) w11 m13)))) (R (.returned (.int .i64 ((-1)))) w5))
set_option maxRecDepth 100000 in
theorem e_slices_IndexFunc_of_byte_byte (s_1 : Option Addr) (s_1n : Nat) (s_1c : Nat) (f_2 : Fn) (f_2a : Array Value) (f_2b : Array Value) (R : Ending → World → Prop) (w : World) : fnV Tryz.prog Tryz.f132 an_slices_IndexFunc_of_byte_byte [.slice s_1 s_1n s_1c, .func f_2 f_2a f_2b] R w = sh_slices_IndexFunc_of_byte_byte s_1 s_1n s_1c f_2 f_2a f_2b R w := by kernel_rfl
theorem c_slices_IndexFunc_of_byte_byte {s_1 : Option Addr} {s_1n : Nat} {s_1c : Nat} {f_2 : Fn} {f_2a : Array Value} {f_2b : Array Value} {R : Ending → World → Prop} {w : World} (h : sh_slices_IndexFunc_of_byte_byte s_1 s_1n s_1c f_2 f_2a f_2b R w) : Calls Tryz.prog F_slices_IndexFunc_of_byte_byte ⟨[.slice s_1 s_1n s_1c, .func f_2 f_2a f_2b]⟩ w R := calls_of_fnV Tryz.func132 (by rw [e_slices_IndexFunc_of_byte_byte]; exact h)

def an_ref01_Letters : Ann := .two (.leaf) (.two (.leaf) (.two (.two (.leaf) (.one (.loop 16777208 [(3, .one (.int .i64)), (4, .one (.int .i64))] (.two (.two (.leaf) (.two (.leaf) (.leaf))) (.two (.one (.two (.leaf) (.two (.leaf) (.two (.leaf) (.leaf))))) (.leaf)))))) (.two (.leaf) (.leaf))))
def sh_ref01_Letters (s_1 : List UInt8) (R : Ending → World → Prop) (w : World) : Prop :=
  ∃ (I2 : Int → Int → World → Nat → Prop), (∃ m7 : Nat, I2 0 0 w m7) ∧ ∀ (n_3 : Int) (i_4 : Int) (w5 : World) (m6 : Nat), I2 n_3 i_4 w5 m6 → ∀ _ : Env, (br (decide ((i_4 : Int) < ((List.length s_1 : Int)))) (sidx s_1 i_4 fun b8 =>
  Calls Tryz.prog 105 ⟨[.int .u8 ((b8.toNat : Int))]⟩ w5 fun (e9 : Ending) (w10 : World) =>
  ∃ (x11 : Int), e9 = .returned (.int .i64 x11) ∧ (br (decide ((x11 : Int) = 1)) (∃ m12 : Nat, m12 < m6 ∧ I2 (IntKind.i64.wrap (n_3 + 1)) (IntKind.i64.wrap (i_4 + 1)) w10 m12) (br (decide ((x11 : Int) = 3)) (∃ m13 : Nat, m13 < m6 ∧ I2 (IntKind.i64.wrap (n_3 + 1)) (IntKind.i64.wrap (i_4 + 1)) w10 m13) (∃ m14 : Nat, m14 < m6 ∧ I2 n_3 (IntKind.i64.wrap (i_4 + 1)) w10 m14)))) (R (.returned (.int .i64 n_3)) w5))
set_option maxRecDepth 100000 in
theorem e_ref01_Letters (s_1 : List UInt8) (R : Ending → World → Prop) (w : World) : fnV Tryz.prog Tryz.f133 an_ref01_Letters [.string ⟨⟨s_1⟩⟩] R w = sh_ref01_Letters s_1 R w := by kernel_rfl
theorem c_ref01_Letters {s_1 : List UInt8} {R : Ending → World → Prop} {w : World} (h : sh_ref01_Letters s_1 R w) : Calls Tryz.prog F_ref01_Letters ⟨[.string ⟨⟨s_1⟩⟩]⟩ w R := calls_of_fnV Tryz.func133 (by rw [e_ref01_Letters]; exact h)

def an_markup_number : Ann := .two (.leaf) (.two (.leaf) (.leaf))
def sh_markup_number (most_1 : Int) (R : Ending → World → Prop) (w : World) : Prop :=
  al w 3 [.int .i64 most_1] fun p2 w3 =>
  R (.returned (.func (.func 150) ⟨[]⟩ ⟨[.pointer (some p2)]⟩)) w3
set_option maxRecDepth 100000 in
theorem e_markup_number (most_1 : Int) (R : Ending → World → Prop) (w : World) : fnV Tryz.prog Tryz.f139 an_markup_number [.int .i64 most_1] R w = sh_markup_number most_1 R w := by kernel_rfl
theorem c_markup_number {most_1 : Int} {R : Ending → World → Prop} {w : World} (h : sh_markup_number most_1 R w) : Calls Tryz.prog F_markup_number ⟨[.int .i64 most_1]⟩ w R := calls_of_fnV Tryz.func139 (by rw [e_markup_number]; exact h)

def an_markup_none : Ann := .two (.leaf) (.two (.leaf) (.leaf))
def sh_markup_none (s_1 : List UInt8) (R : Ending → World → Prop) (w : World) : Prop :=
  R (.returned (.bool (decide ((s_1 : List UInt8) = ([]))))) w
set_option maxRecDepth 100000 in
theorem e_markup_none (s_1 : List UInt8) (R : Ending → World → Prop) (w : World) : fnV Tryz.prog Tryz.f140 an_markup_none [.string ⟨⟨s_1⟩⟩] R w = sh_markup_none s_1 R w := by kernel_rfl
theorem c_markup_none {s_1 : List UInt8} {R : Ending → World → Prop} {w : World} (h : sh_markup_none s_1 R w) : Calls Tryz.prog F_markup_none ⟨[.string ⟨⟨s_1⟩⟩]⟩ w R := calls_of_fnV Tryz.func140 (by rw [e_markup_none]; exact h)

def an_markup_number_1 : Ann := .two (.leaf) (.two (.leaf) (.two (.leaf) (.leaf)))
def sh_markup_number_1 (s_1 : List UInt8) (t1_2 : Option Addr) (R : Ending → World → Prop) (w : World) : Prop :=
  Calls Tryz.prog 67 ⟨[.string ⟨⟨s_1⟩⟩]⟩ w fun (e3 : Ending) (w4 : World) =>
  ∃ (x5 : Int) (x6 : Value), e3 = .returned (.tuple ⟨[.int .i64 x5, x6]⟩) ∧ (ifc x6 fun b7 =>
  br b7 (br (decide ((1 : Int) ≤ x5)) (dr t1_2 fun p8 =>
  ∃ (x9 : Int), World.cell? w4 p8 = some (.int .i64 x9) ∧ (br (decide ((x5 : Int) ≤ x9)) (Calls Tryz.prog 83 ⟨[.int .i64 x5]⟩ w4 fun (e10 : Ending) (w11 : World) =>
  ∃ (x12 : List UInt8), e10 = .returned (.string ⟨⟨x12⟩⟩) ∧ (R (.returned (.bool (decide ((x12 : List UInt8) = s_1)))) w11)) (R (.returned (.bool false)) w4))) (R (.returned (.bool false)) w4)) (R (.returned (.bool false)) w4))
set_option maxRecDepth 100000 in
theorem e_markup_number_1 (s_1 : List UInt8) (t1_2 : Option Addr) (R : Ending → World → Prop) (w : World) : fnV Tryz.prog Tryz.f150 an_markup_number_1 [.string ⟨⟨s_1⟩⟩, .pointer t1_2] R w = sh_markup_number_1 s_1 t1_2 R w := by kernel_rfl
theorem c_markup_number_1 {s_1 : List UInt8} {t1_2 : Option Addr} {R : Ending → World → Prop} {w : World} (h : sh_markup_number_1 s_1 t1_2 R w) : Calls Tryz.prog F_markup_number_1 ⟨[.string ⟨⟨s_1⟩⟩, .pointer t1_2]⟩ w R := calls_of_fnV Tryz.func150 (by rw [e_markup_number_1]; exact h)

end Go.Proofs
