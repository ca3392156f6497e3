/- Written by program: for each function its verification condition, that it is the code's (by the kernel), and that it gives the call. -/
import Derived.Test.YtdbpliomkkmoaaaGreatDoorFn
namespace Go.Proofs
open Go Go.Sh
def an_law09_MarkupScans : Ann := .two (.leaf) (.two (.two (.leaf) (.two (.two (.leaf) (.leaf)) (.leaf))) (.two (.leaf) (.two (.leaf) (.two (.leaf) (.two (.leaf) (.two (.leaf) (.leaf)))))))
def sh_law09_MarkupScans (s_1 : List UInt8) (R : Ending → World → Prop) (w : World) : Prop :=
  Calls Tryz.prog 5 ⟨[.string ⟨⟨s_1⟩⟩]⟩ w fun (e2 : Ending) (w3 : World) =>
  ∃ (x4 : Bool), e2 = .returned (.bool x4) ∧ (br x4 (Calls Tryz.prog 6 ⟨[]⟩ w3 fun (e5 : Ending) (w6 : World) =>
  ∃ (x7 : Bool), e5 = .returned (.bool x7) ∧ (R (.returned (.bool x7)) w6)) (Calls Tryz.prog 7 ⟨[.string ⟨⟨s_1⟩⟩]⟩ w3 fun (e8 : Ending) (w9 : World) =>
  ∃ (x10 : Option Addr) (x10n : Nat) (x10c : Nat) (x11 : Int), e8 = .returned (.tuple ⟨[.slice x10 x10n x10c, .int .i64 x11]⟩) ∧ (Calls Tryz.prog 8 ⟨[.string ⟨⟨s_1⟩⟩]⟩ w9 fun (e12 : Ending) (w13 : World) =>
  ∃ (x14 : Option Addr) (x14n : Nat) (x14c : Nat) (x15 : Int), e12 = .returned (.tuple ⟨[.slice x14 x14n x14c, .int .i64 x15]⟩) ∧ (Calls Tryz.prog 9 ⟨[.string ⟨⟨s_1⟩⟩]⟩ w13 fun (e16 : Ending) (w17 : World) =>
  ∃ (x18 : List UInt8) (x19 : Int), e16 = .returned (.tuple ⟨[.string ⟨⟨x18⟩⟩, .int .i64 x19]⟩) ∧ (Calls Tryz.prog 10 ⟨[.string ⟨⟨s_1⟩⟩]⟩ w17 fun (e20 : Ending) (w21 : World) =>
  ∃ (x22 : List UInt8) (x23 : Int), e20 = .returned (.tuple ⟨[.string ⟨⟨x22⟩⟩, .int .i64 x23]⟩) ∧ (Calls Tryz.prog 11 ⟨[.slice x10 x10n x10c, .slice x14 x14n x14c]⟩ w21 fun (e24 : Ending) (w25 : World) =>
  ∃ (x26 : Bool), e24 = .returned (.bool x26) ∧ (br x26 (br (decide ((x11 : Int) = x15)) (br (decide ((x18 : List UInt8) = x22)) (br (decide ((x19 : Int) = x23)) (Calls Tryz.prog 13 ⟨[]⟩ w25 fun (e27 : Ending) (w28 : World) =>
  ∃ (x29 : Option Addr) (x29n : Nat) (x29c : Nat), e27 = .returned (.slice x29 x29n x29c) ∧ (Calls Tryz.prog 14 ⟨[]⟩ w28 fun (e30 : Ending) (w31 : World) =>
  ∃ (x32 : Option Addr) (x32n : Nat) (x32c : Nat), e30 = .returned (.slice x32 x32n x32c) ∧ (Calls Tryz.prog 12 ⟨[.slice x29 x29n x29c, .slice x32 x32n x32c]⟩ w31 fun (e33 : Ending) (w34 : World) =>
  ∃ (x35 : Bool), e33 = .returned (.bool x35) ∧ (br x35 (Calls Tryz.prog 6 ⟨[]⟩ w34 fun (e36 : Ending) (w37 : World) =>
  ∃ (x38 : Bool), e36 = .returned (.bool x38) ∧ (R (.returned (.bool x38)) w37)) (R (.returned (.bool false)) w34))))) (R (.returned (.bool false)) w25)) (R (.returned (.bool false)) w25)) (R (.returned (.bool false)) w25)) (R (.returned (.bool false)) w25))))))))
set_option maxRecDepth 100000 in
theorem e_law09_MarkupScans (s_1 : List UInt8) (R : Ending → World → Prop) (w : World) : fnV Tryz.prog Tryz.f3 an_law09_MarkupScans [.string ⟨⟨s_1⟩⟩] R w = sh_law09_MarkupScans s_1 R w := by kernel_rfl
theorem c_law09_MarkupScans {s_1 : List UInt8} {R : Ending → World → Prop} {w : World} (h : sh_law09_MarkupScans s_1 R w) : Calls Tryz.prog F_law09_MarkupScans ⟨[.string ⟨⟨s_1⟩⟩]⟩ w R := calls_of_fnV Tryz.func3 (by rw [e_law09_MarkupScans]; exact h)

def an_law09_MarkupChecks : Ann := .two (.leaf) (.two (.two (.leaf) (.two (.two (.leaf) (.leaf)) (.leaf))) (.two (.leaf) (.two (.leaf) (.two (.leaf) (.two (.leaf) (.two (.leaf) (.leaf)))))))
def sh_law09_MarkupChecks (l_1 : Option Addr) (l_1n : Nat) (l_1c : Nat) (offset_2 : Int) (R : Ending → World → Prop) (w : World) : Prop :=
  Calls Tryz.prog 15 ⟨[.slice l_1 l_1n l_1c]⟩ w fun (e3 : Ending) (w4 : World) =>
  ∃ (x5 : Bool), e3 = .returned (.bool x5) ∧ (br x5 (Calls Tryz.prog 6 ⟨[]⟩ w4 fun (e6 : Ending) (w7 : World) =>
  ∃ (x8 : Bool), e6 = .returned (.bool x8) ∧ (R (.returned (.bool x8)) w7)) (Calls Tryz.prog 16 ⟨[.slice l_1 l_1n l_1c]⟩ w4 fun (e9 : Ending) (w10 : World) =>
  ∃ (x11 : List UInt8) (x12 : Int), e9 = .returned (.tuple ⟨[.string ⟨⟨x11⟩⟩, .int .i64 x12]⟩) ∧ (Calls Tryz.prog 17 ⟨[.slice l_1 l_1n l_1c]⟩ w10 fun (e13 : Ending) (w14 : World) =>
  ∃ (x15 : List UInt8) (x16 : Int), e13 = .returned (.tuple ⟨[.string ⟨⟨x15⟩⟩, .int .i64 x16]⟩) ∧ (Calls Tryz.prog 18 ⟨[.slice l_1 l_1n l_1c, .int .i64 offset_2]⟩ w14 fun (e17 : Ending) (w18 : World) =>
  ∃ (x19 : Int) (x20 : Int), e17 = .returned (.tuple ⟨[.int .i64 x19, .int .i64 x20]⟩) ∧ (Calls Tryz.prog 19 ⟨[.slice l_1 l_1n l_1c, .int .i64 offset_2]⟩ w18 fun (e21 : Ending) (w22 : World) =>
  ∃ (x23 : Int) (x24 : Int), e21 = .returned (.tuple ⟨[.int .i64 x23, .int .i64 x24]⟩) ∧ (Calls Tryz.prog 20 ⟨[.slice l_1 l_1n l_1c]⟩ w22 fun (e25 : Ending) (w26 : World) =>
  ∃ (x27 : Int), e25 = .returned (.int .i64 x27) ∧ (Calls Tryz.prog 21 ⟨[.slice l_1 l_1n l_1c]⟩ w26 fun (e28 : Ending) (w29 : World) =>
  ∃ (x30 : Int), e28 = .returned (.int .i64 x30) ∧ (br (decide ((x27 : Int) = x30)) (br (decide ((x11 : List UInt8) = x15)) (br (decide ((x12 : Int) = x16)) (Calls Tryz.prog 22 ⟨[.slice l_1 l_1n l_1c]⟩ w29 fun (e31 : Ending) (w32 : World) =>
  ∃ (x33 : Int), e31 = .returned (.int .i64 x33) ∧ (Calls Tryz.prog 23 ⟨[.slice l_1 l_1n l_1c]⟩ w32 fun (e34 : Ending) (w35 : World) =>
  ∃ (x36 : Int), e34 = .returned (.int .i64 x36) ∧ (br (decide ((x33 : Int) = x36)) (br (decide ((x19 : Int) = x23)) (br (decide ((x20 : Int) = x24)) (Calls Tryz.prog 6 ⟨[]⟩ w35 fun (e37 : Ending) (w38 : World) =>
  ∃ (x39 : Bool), e37 = .returned (.bool x39) ∧ (R (.returned (.bool x39)) w38)) (R (.returned (.bool false)) w35)) (R (.returned (.bool false)) w35)) (R (.returned (.bool false)) w35)))) (R (.returned (.bool false)) w29)) (R (.returned (.bool false)) w29)) (R (.returned (.bool false)) w29)))))))))
set_option maxRecDepth 100000 in
theorem e_law09_MarkupChecks (l_1 : Option Addr) (l_1n : Nat) (l_1c : Nat) (offset_2 : Int) (R : Ending → World → Prop) (w : World) : fnV Tryz.prog Tryz.f4 an_law09_MarkupChecks [.slice l_1 l_1n l_1c, .int .i64 offset_2] R w = sh_law09_MarkupChecks l_1 l_1n l_1c offset_2 R w := by kernel_rfl
theorem c_law09_MarkupChecks {l_1 : Option Addr} {l_1n : Nat} {l_1c : Nat} {offset_2 : Int} {R : Ending → World → Prop} {w : World} (h : sh_law09_MarkupChecks l_1 l_1n l_1c offset_2 R w) : Calls Tryz.prog F_law09_MarkupChecks ⟨[.slice l_1 l_1n l_1c, .int .i64 offset_2]⟩ w R := calls_of_fnV Tryz.func4 (by rw [e_law09_MarkupChecks]; exact h)

def an_ref09_Great : Ann := .two (.leaf) (.two (.leaf) (.leaf))
def sh_ref09_Great (s_1 : List UInt8) (R : Ending → World → Prop) (w : World) : Prop :=
  br (decide ((200 : Int) < ((List.length s_1 : Int)))) (br (decide ((((List.length s_1 : Int)) : Int) ≤ 65536)) (R (.returned (.bool true)) w) (R (.returned (.bool (decide ((65539 : Int) < ((List.length s_1 : Int)))))) w)) (R (.returned (.bool (decide ((65539 : Int) < ((List.length s_1 : Int)))))) w)
set_option maxRecDepth 100000 in
theorem e_ref09_Great (s_1 : List UInt8) (R : Ending → World → Prop) (w : World) : fnV Tryz.prog Tryz.f5 an_ref09_Great [.string ⟨⟨s_1⟩⟩] R w = sh_ref09_Great s_1 R w := by kernel_rfl
theorem c_ref09_Great {s_1 : List UInt8} {R : Ending → World → Prop} {w : World} (h : sh_ref09_Great s_1 R w) : Calls Tryz.prog F_ref09_Great ⟨[.string ⟨⟨s_1⟩⟩]⟩ w R := calls_of_fnV Tryz.func5 (by rw [e_ref09_Great]; exact h)

def an_law09_awake : Ann := .two (.leaf) (.two (.leaf) (.two (.leaf) (.two (.leaf) (.two (.leaf) (.leaf)))))
def sh_law09_awake  (R : Ending → World → Prop) (w : World) : Prop :=
  Calls Tryz.prog 7 ⟨[.string ⟨⟨[100, 101, 60, 97, 100, 100, 32, 49, 62, 117, 115, 60, 47, 97, 100, 100, 62, 60, 108, 98, 47, 62]⟩⟩]⟩ w fun (e1 : Ending) (w2 : World) =>
  ∃ (x3 : Option Addr) (x3n : Nat) (x3c : Nat) (x4 : Int), e1 = .returned (.tuple ⟨[.slice x3 x3n x3c, .int .i64 x4]⟩) ∧ (al w2 41 [.int .i64 1, .string ⟨⟨[]⟩⟩, .string ⟨⟨[100, 101]⟩⟩, .int .i64 0, .int .i64 2, .string ⟨⟨[97, 100, 100]⟩⟩, .string ⟨⟨[49]⟩⟩, .int .i64 2, .int .i64 1, .string ⟨⟨[]⟩⟩, .string ⟨⟨[117, 115]⟩⟩, .int .i64 9, .int .i64 3, .string ⟨⟨[97, 100, 100]⟩⟩, .string ⟨⟨[]⟩⟩, .int .i64 11, .int .i64 4, .string ⟨⟨[108, 98]⟩⟩, .string ⟨⟨[]⟩⟩, .int .i64 17] fun p5 w6 =>
  Calls Tryz.prog 16 ⟨[.slice (some p5) 5 5]⟩ w6 fun (e7 : Ending) (w8 : World) =>
  ∃ (x9 : List UInt8) (x10 : Int), e7 = .returned (.tuple ⟨[.string ⟨⟨x9⟩⟩, .int .i64 x10]⟩) ∧ (br (decide ((x4 : Int) = 0)) (br (decide ((x10 : Int) = 0)) (Calls Tryz.prog 11 ⟨[.slice x3 x3n x3c, .slice (some p5) 5 5]⟩ w8 fun (e11 : Ending) (w12 : World) =>
  ∃ (x13 : Bool), e11 = .returned (.bool x13) ∧ (br x13 (R (.returned (.bool (decide ((x9 : List UInt8) = ([100, 101, 60, 97, 100, 100, 32, 49, 62, 117, 115, 60, 47, 97, 100, 100, 62, 60, 108, 98, 47, 62]))))) w12) (R (.returned (.bool false)) w12))) (R (.returned (.bool false)) w8)) (R (.returned (.bool false)) w8)))
set_option maxRecDepth 100000 in
theorem e_law09_awake  (R : Ending → World → Prop) (w : World) : fnV Tryz.prog Tryz.f6 an_law09_awake [] R w = sh_law09_awake  R w := by kernel_rfl
theorem c_law09_awake  {R : Ending → World → Prop} {w : World} (h : sh_law09_awake  R w) : Calls Tryz.prog F_law09_awake ⟨[]⟩ w R := calls_of_fnV Tryz.func6 (by rw [e_law09_awake]; exact h)

def an_markup_Scan : Ann := .two (.leaf) (.two (.two (.leaf) (.two (.two (.leaf) (.leaf)) (.leaf))) (.two (.leaf) (.two (.two (.leaf) (.one (.rf [2, 3, 4, 14] 0))) (.two (.leaf) (.leaf)))))
def sh_markup_Scan (s_1 : List UInt8) (R : Ending → World → Prop) (w : World) : Prop :=
  al w 24 [.slice none 0 0] fun p2 w3 =>
  al w3 25 [.int .i64 0] fun p4 w5 =>
  br (decide ((65536 : Int) < ((List.length s_1 : Int)))) (stL w5 p2 0 [.slice none 0 0] fun w6 =>
  stL w6 p4 0 [.int .i64 4] fun w7 =>
  ∃ (x8 : Option Addr) (x8n : Nat) (x8c : Nat), World.cell? w7 p2 = some (.slice x8 x8n x8c) ∧ (∃ (x9 : Int), World.cell? w7 p4 = some (.int .i64 x9) ∧ (R (.returned (.tuple ⟨[.slice x8 x8n x8c, .int .i64 x9]⟩)) w7))) (al w5 24 [.slice none 0 0] fun p10 w11 =>
  Calls Tryz.prog 24 ⟨[.string ⟨⟨s_1⟩⟩]⟩ w11 fun (e12 : Ending) (w13 : World) =>
  ∃ (x14 : Fn) (x14a : Array Value) (x14b : Array Value), e12 = .returned (.func x14 x14a x14b) ∧ (∀ base15 : Env, RFw Tryz.prog none 49 (cdAt Tryz.f7 [1, 1, 1, 0, 1, 2]) (upd (upd (upd (upd base15 14 (.func x14 x14a x14b)) 4 (.pointer (some p10))) 3 (.pointer (some p4))) 2 (.pointer (some p2))) [] w13 0 (fun ds16 w17 =>
  ∃ (x24 : Option Addr) (x24n : Nat) (x24c : Nat), World.cell? w17 p10 = some (.slice x24 x24n x24c) ∧ (stL w17 p2 0 [.slice x24 x24n x24c] fun w25 =>
  stL w25 p4 0 [.int .i64 0] fun w26 =>
  retD ds16 w26 fun w27 =>
  ∃ (x28 : Option Addr) (x28n : Nat) (x28c : Nat), World.cell? w27 p2 = some (.slice x28 x28n x28c) ∧ (∃ (x29 : Int), World.cell? w27 p4 = some (.int .i64 x29) ∧ (R (.returned (.tuple ⟨[.slice x28 x28n x28c, .int .i64 x29]⟩)) w27)))) (fun ds16 w17 =>
  retD ds16 w17 fun w30 =>
  ∃ (x31 : Option Addr) (x31n : Nat) (x31c : Nat), World.cell? w30 p2 = some (.slice x31 x31n x31c) ∧ (∃ (x32 : Int), World.cell? w30 p4 = some (.int .i64 x32) ∧ (R (.returned (.tuple ⟨[.slice x31 x31n x31c, .int .i64 x32]⟩)) w30))) (fun ds16 w17 =>
  ∃ (x18 : Option Addr) (x18n : Nat) (x18c : Nat), World.cell? w17 p10 = some (.slice x18 x18n x18c) ∧ (stL w17 p2 0 [.slice x18 x18n x18c] fun w19 =>
  stL w19 p4 0 [.int .i64 0] fun w20 =>
  retD ds16 w20 fun w21 =>
  ∃ (x22 : Option Addr) (x22n : Nat) (x22c : Nat), World.cell? w21 p2 = some (.slice x22 x22n x22c) ∧ (∃ (x23 : Int), World.cell? w21 p4 = some (.int .i64 x23) ∧ (R (.returned (.tuple ⟨[.slice x22 x22n x22c, .int .i64 x23]⟩)) w21))))))
set_option maxRecDepth 100000 in
theorem e_markup_Scan (s_1 : List UInt8) (R : Ending → World → Prop) (w : World) : fnV Tryz.prog Tryz.f7 an_markup_Scan [.string ⟨⟨s_1⟩⟩] R w = sh_markup_Scan s_1 R w := by kernel_rfl
theorem c_markup_Scan {s_1 : List UInt8} {R : Ending → World → Prop} {w : World} (h : sh_markup_Scan s_1 R w) : Calls Tryz.prog F_markup_Scan ⟨[.string ⟨⟨s_1⟩⟩]⟩ w R := calls_of_fnV Tryz.func7 (by rw [e_markup_Scan]; exact h)
def anA_markup_Scan_1 : Ann := .two (.leaf) (.leaf)
def anB_markup_Scan_1 : Ann := .one (.two (.leaf) (.cut 4398045987584 [] (.one (.two (.leaf) (.two (.two (.leaf) (.two (.two (.leaf) (.leaf)) (.leaf))) (.two (.leaf) (.two (.two (.leaf) (.leaf)) (.two (.leaf) (.two (.two (.leaf) (.two (.two (.leaf) (.leaf)) (.leaf))) (.leaf)))))))) (.two (.leaf) (.leaf))))
def rf_markup_Scan_1 (t2_33 : Option Addr) (t3_34 : Option Addr) (out_35 : Option Addr) (t14_36 : Fn) (t14_36a : Array Value) (t14_36b : Array Value) (t15_37 : Int) (t16_38 : List UInt8) (l : Nat) (Kn Kr Kx : World → World → Prop) (w : World) : Prop :=
  Ext w w ∧ ∀ w39 : World, Upd l w w39 → (al w39 41 [.int .i64 0, .string ⟨⟨[]⟩⟩, .string ⟨⟨[]⟩⟩, .int .i64 0] fun p40 w41 =>
  stL w41 p40 0 [.int .i64 1, .string ⟨⟨[]⟩⟩, .string ⟨⟨t16_38⟩⟩, .int .i64 0] fun w42 =>
  ∀ (K43 : World → Prop), (∀  (w44 : World), (∀ _ : Env, (stL w44 (p40.add 3) 0 [.int .i64 t15_37] fun w45 =>
  dr out_35 fun p46 =>
  ∃ (x47 : Option Addr) (x47n : Nat) (x47c : Nat), World.cell? w45 p46 = some (.slice x47 x47n x47c) ∧ (∃ (x48 : Int), World.cell? w45 (p40.add 0) = some (.int .i64 x48) ∧ (∃ (x49 : List UInt8), World.cell? w45 (p40.add 1) = some (.string ⟨⟨x49⟩⟩) ∧ (∃ (x50 : List UInt8), World.cell? w45 (p40.add 2) = some (.string ⟨⟨x50⟩⟩) ∧ (∃ (x51 : Int), World.cell? w45 (p40.add 3) = some (.int .i64 x51) ∧ (al w45 41 [.int .i64 x48, .string ⟨⟨x49⟩⟩, .string ⟨⟨x50⟩⟩, .int .i64 x51] fun p52 w53 =>
  app Tryz.prog [24, 24] 24 (.slice x47 x47n x47c) (.slice (some p52) 1 1) w53 fun a54 a54n a54c w55 =>
  dr out_35 fun p57 =>
  stL w55 p57 0 [.slice a54 a54n a54c] fun w56 =>
  Kn w39 w56))))))) → K43 w44) → (sidx t16_38 0 fun b58 =>
  br (decide ((((b58.toNat : Int)) : Int) ≠ 60)) (Calls Tryz.prog 25 ⟨[.string ⟨⟨t16_38⟩⟩]⟩ w42 fun (e59 : Ending) (w60 : World) =>
  ∃ (x61 : Int), e59 = .returned (.int .i64 x61) ∧ (br (decide ((x61 : Int) ≠ 0)) (dr t2_33 fun p63 =>
  stL w60 p63 0 [.slice none 0 0] fun w62 =>
  dr t3_34 fun p65 =>
  stL w62 p65 0 [.int .i64 11] fun w64 =>
  Kr w39 w64) (K43 w60))) (sidx t16_38 (IntKind.i64.wrap (((List.length t16_38 : Int)) - 1)) fun b66 =>
  br (decide ((((b66.toNat : Int)) : Int) ≠ 62)) (dr t2_33 fun p68 =>
  stL w42 p68 0 [.slice none 0 0] fun w67 =>
  dr t3_34 fun p70 =>
  stL w67 p70 0 [.int .i64 3] fun w69 =>
  Kr w39 w69) (Calls Tryz.prog 26 ⟨[.string ⟨⟨t16_38⟩⟩]⟩ w42 fun (e71 : Ending) (w72 : World) =>
  ∃ (x73 : Int) (x74 : List UInt8) (x75 : List UInt8) (x76 : Int) (x77 : Int), e71 = .returned (.tuple ⟨[.agg ⟨[.int .i64 x73, .string ⟨⟨x74⟩⟩, .string ⟨⟨x75⟩⟩, .int .i64 x76]⟩, .int .i64 x77]⟩) ∧ (al w72 41 [.int .i64 0, .string ⟨⟨[]⟩⟩, .string ⟨⟨[]⟩⟩, .int .i64 0] fun p78 w79 =>
  stL w79 p78 0 [.int .i64 x73, .string ⟨⟨x74⟩⟩, .string ⟨⟨x75⟩⟩, .int .i64 x76] fun w80 =>
  br (decide ((x77 : Int) ≠ 0)) (dr t2_33 fun p82 =>
  stL w80 p82 0 [.slice none 0 0] fun w81 =>
  dr t3_34 fun p84 =>
  stL w81 p84 0 [.int .i64 x77] fun w83 =>
  Kr w39 w83) (∃ (x85 : Int), World.cell? w80 (p78.add 0) = some (.int .i64 x85) ∧ (∃ (x86 : List UInt8), World.cell? w80 (p78.add 1) = some (.string ⟨⟨x86⟩⟩) ∧ (∃ (x87 : List UInt8), World.cell? w80 (p78.add 2) = some (.string ⟨⟨x87⟩⟩) ∧ (∃ (x88 : Int), World.cell? w80 (p78.add 3) = some (.int .i64 x88) ∧ (stL w80 p40 0 [.int .i64 x85, .string ⟨⟨x86⟩⟩, .string ⟨⟨x87⟩⟩, .int .i64 x88] fun w89 =>
  K43 w89))))))))))
set_option maxRecDepth 100000 in
theorem er_markup_Scan_1 (base : Env) (t2_33 : Option Addr) (t3_34 : Option Addr) (out_35 : Option Addr) (t14_36 : Fn) (t14_36a : Array Value) (t14_36b : Array Value) (t15_37 : Int) (t16_38 : List UInt8) (l : Nat) (Kn Kr Kx : World → World → Prop) (w : World) : fragV Tryz.prog 49 anA_markup_Scan_1 anB_markup_Scan_1 (cdAt Tryz.f7 [1, 1, 1, 0, 1, 2, 5]) (cdAt Tryz.f7 [1, 1, 1, 0, 1, 2, 6]) l 0 Kn Kr Kx (updPs [15, 16] [.int .i64 t15_37, .string ⟨⟨t16_38⟩⟩] (upd (upd (upd (upd base 14 (.func t14_36 t14_36a t14_36b)) 4 (.pointer out_35)) 3 (.pointer t3_34)) 2 (.pointer t2_33))) w = rf_markup_Scan_1 t2_33 t3_34 out_35 t14_36 t14_36a t14_36b t15_37 t16_38 l Kn Kr Kx w := by kernel_rfl
theorem cd_markup_Scan_1 : cdAt Tryz.f7 [1, 1, 1, 0, 1, 2] = .rangeFunc (Operand.tmp 14) #[15, 16] (cdAt Tryz.f7 [1, 1, 1, 0, 1, 2, 5]) (cdAt Tryz.f7 [1, 1, 1, 0, 1, 2, 6]) := by kernel_rfl

def an_ref09_Scan : Ann := .two (.leaf) (.two (.two (.leaf) (.two (.two (.leaf) (.leaf)) (.leaf))) (.two (.leaf) (.two (.leaf) (.two (.one (.loop 309485009821345068724749308 [(4, .one (.slice)), (5, .one (.int .i64))] (.two (.two (.leaf) (.two (.leaf) (.leaf))) (.one (.two (.leaf) (.two (.leaf) (.cut 2417851639229258347316044 [(6, .one (.int .i64))] (.two (.leaf) (.two (.cut 137405399104 [(6, .one (.int .i64))] (.one (.loop 137405399104 [(6, .one (.int .i64))] (.two (.two (.leaf) (.two (.leaf) (.leaf))) (.one (.leaf))))) (.two (.two (.leaf) (.two (.two (.leaf) (.leaf)) (.leaf))) (.two (.leaf) (.two (.leaf) (.two (.two (.leaf) (.two (.two (.leaf) (.leaf)) (.leaf))) (.leaf)))))) (.cut 590151695170629795904 [(6, .one (.int .i64))] (.one (.loop 590151695170629795904 [(6, .one (.int .i64))] (.two (.two (.leaf) (.two (.leaf) (.leaf))) (.one (.leaf))))) (.two (.two (.leaf) (.two (.two (.leaf) (.leaf)) (.leaf))) (.leaf))))) (.two (.leaf) (.two (.leaf) (.leaf)))))))))) (.two (.leaf) (.leaf))))))
def sh_ref09_Scan (s_1 : List UInt8) (R : Ending → World → Prop) (w : World) : Prop :=
  br (decide ((65536 : Int) < ((List.length s_1 : Int)))) (al w 41 [] fun p2 w3 =>
  R (.returned (.tuple ⟨[.slice (some p2) 0 0, .int .i64 4]⟩)) w3) (al w 41 [] fun p4 w5 =>
  ∃ (I6 : Option Addr → Nat → Nat → Int → World → Nat → Prop), (∃ m11 : Nat, I6 (some p4) 0 0 0 w5 m11) ∧ ∀ (out_7 : Option Addr) (out_7n : Nat) (out_7c : Nat) (at_8 : Int) (w9 : World) (m10 : Nat), I6 out_7 out_7n out_7c at_8 w9 m10 → ∀ _ : Env, (br (decide ((at_8 : Int) < ((List.length s_1 : Int)))) (al w9 41 [.int .i64 0, .string ⟨⟨[]⟩⟩, .string ⟨⟨[]⟩⟩, .int .i64 0] fun p12 w13 =>
  stL w13 p12 0 [.int .i64 0, .string ⟨⟨[]⟩⟩, .string ⟨⟨[]⟩⟩, .int .i64 0] fun w14 =>
  ∀ (K15 : Int → World → Prop), (∀ (end_16 : Int) (w17 : World), (∀ _ : Env, (stL w17 (p12.add 3) 0 [.int .i64 at_8] fun w18 =>
  ∃ (x19 : Int), World.cell? w18 (p12.add 0) = some (.int .i64 x19) ∧ (∃ (x20 : List UInt8), World.cell? w18 (p12.add 1) = some (.string ⟨⟨x20⟩⟩) ∧ (∃ (x21 : List UInt8), World.cell? w18 (p12.add 2) = some (.string ⟨⟨x21⟩⟩) ∧ (∃ (x22 : Int), World.cell? w18 (p12.add 3) = some (.int .i64 x22) ∧ (al w18 41 [.int .i64 x19, .string ⟨⟨x20⟩⟩, .string ⟨⟨x21⟩⟩, .int .i64 x22] fun p23 w24 =>
  app Tryz.prog [24, 24] 24 (.slice out_7 out_7n out_7c) (.slice (some p23) 1 1) w24 fun a25 a25n a25c w26 =>
  ∃ m27 : Nat, m27 < m10 ∧ I6 a25 a25n a25c end_16 w26 m27)))))) → K15 end_16 w17) → (sidx s_1 at_8 fun b28 =>
  br (decide ((((b28.toNat : Int)) : Int) = 60)) (∀ (K29 : Int → World → Prop), (∀ (end_30 : Int) (w31 : World), (∀ _ : Env, (br (decide ((end_30 : Int) = ((List.length s_1 : Int)))) (al w31 41 [] fun p32 w33 =>
  R (.returned (.tuple ⟨[.slice (some p32) 0 0, .int .i64 3]⟩)) w33) (ssl s_1 at_8 (IntKind.i64.wrap (end_30 + 1)) fun s34 =>
  Calls Tryz.prog 27 ⟨[.string ⟨⟨s34⟩⟩]⟩ w31 fun (e35 : Ending) (w36 : World) =>
  ∃ (x37 : Int) (x38 : List UInt8) (x39 : List UInt8) (x40 : Int) (x41 : Int), e35 = .returned (.tuple ⟨[.agg ⟨[.int .i64 x37, .string ⟨⟨x38⟩⟩, .string ⟨⟨x39⟩⟩, .int .i64 x40]⟩, .int .i64 x41]⟩) ∧ (al w36 41 [.int .i64 0, .string ⟨⟨[]⟩⟩, .string ⟨⟨[]⟩⟩, .int .i64 0] fun p42 w43 =>
  stL w43 p42 0 [.int .i64 x37, .string ⟨⟨x38⟩⟩, .string ⟨⟨x39⟩⟩, .int .i64 x40] fun w44 =>
  br (decide ((x41 : Int) ≠ 0)) (al w44 41 [] fun p45 w46 =>
  R (.returned (.tuple ⟨[.slice (some p45) 0 0, .int .i64 x41]⟩)) w46) (∃ (x47 : Int), World.cell? w44 (p42.add 0) = some (.int .i64 x47) ∧ (∃ (x48 : List UInt8), World.cell? w44 (p42.add 1) = some (.string ⟨⟨x48⟩⟩) ∧ (∃ (x49 : List UInt8), World.cell? w44 (p42.add 2) = some (.string ⟨⟨x49⟩⟩) ∧ (∃ (x50 : Int), World.cell? w44 (p42.add 3) = some (.int .i64 x50) ∧ (stL w44 p12 0 [.int .i64 x47, .string ⟨⟨x48⟩⟩, .string ⟨⟨x49⟩⟩, .int .i64 x50] fun w51 =>
  K15 (IntKind.i64.wrap (end_30 + 1)) w51))))))))) → K29 end_30 w31) → (∃ (I52 : Int → World → Nat → Prop), (∃ m56 : Nat, I52 at_8 w14 m56) ∧ ∀ (end_53 : Int) (w54 : World) (m55 : Nat), I52 end_53 w54 m55 → ∀ _ : Env, (br (decide ((end_53 : Int) < ((List.length s_1 : Int)))) (sidx s_1 end_53 fun b57 =>
  br (decide ((((b57.toNat : Int)) : Int) ≠ 62)) (∃ m58 : Nat, m58 < m55 ∧ I52 (IntKind.i64.wrap (end_53 + 1)) w54 m58) (K29 end_53 w54)) (K29 end_53 w54)))) (∀ (K59 : Int → World → Prop), (∀ (end_60 : Int) (w61 : World), (∀ _ : Env, (ssl s_1 at_8 end_60 fun s62 =>
  Calls Tryz.prog 28 ⟨[.string ⟨⟨s62⟩⟩]⟩ w61 fun (e63 : Ending) (w64 : World) =>
  ∃ (x65 : Int), e63 = .returned (.int .i64 x65) ∧ (br (decide ((x65 : Int) ≠ 0)) (al w64 41 [] fun p66 w67 =>
  R (.returned (.tuple ⟨[.slice (some p66) 0 0, .int .i64 11]⟩)) w67) (ssl s_1 at_8 end_60 fun s68 =>
  stL w64 p12 0 [.int .i64 1, .string ⟨⟨[]⟩⟩, .string ⟨⟨s68⟩⟩, .int .i64 0] fun w69 =>
  K15 end_60 w69)))) → K59 end_60 w61) → (∃ (I70 : Int → World → Nat → Prop), (∃ m74 : Nat, I70 at_8 w14 m74) ∧ ∀ (end_71 : Int) (w72 : World) (m73 : Nat), I70 end_71 w72 m73 → ∀ _ : Env, (br (decide ((end_71 : Int) < ((List.length s_1 : Int)))) (sidx s_1 end_71 fun b75 =>
  br (decide ((((b75.toNat : Int)) : Int) ≠ 60)) (∃ m76 : Nat, m76 < m73 ∧ I70 (IntKind.i64.wrap (end_71 + 1)) w72 m76) (K59 end_71 w72)) (K59 end_71 w72)))))) (R (.returned (.tuple ⟨[.slice out_7 out_7n out_7c, .int .i64 0]⟩)) w9)))
set_option maxRecDepth 100000 in
theorem e_ref09_Scan (s_1 : List UInt8) (R : Ending → World → Prop) (w : World) : fnV Tryz.prog Tryz.f8 an_ref09_Scan [.string ⟨⟨s_1⟩⟩] R w = sh_ref09_Scan s_1 R w := by kernel_rfl
theorem c_ref09_Scan {s_1 : List UInt8} {R : Ending → World → Prop} {w : World} (h : sh_ref09_Scan s_1 R w) : Calls Tryz.prog F_ref09_Scan ⟨[.string ⟨⟨s_1⟩⟩]⟩ w R := calls_of_fnV Tryz.func8 (by rw [e_ref09_Scan]; exact h)

def an_markup_Strip : Ann := .two (.leaf) (.two (.leaf) (.two (.two (.leaf) (.two (.two (.leaf) (.leaf)) (.leaf))) (.two (.leaf) (.two (.two (.leaf) (.one (.loop 1073217792 [(19, .one (.int .i64))] (.two (.leaf) (.two (.two (.leaf) (.leaf)) (.two (.one (.two (.leaf) (.two (.leaf) (.two (.leaf) (.leaf))))) (.leaf))))))) (.two (.leaf) (.leaf))))))
def sh_markup_Strip (s_1 : List UInt8) (R : Ending → World → Prop) (w : World) : Prop :=
  Calls Tryz.prog 7 ⟨[.string ⟨⟨s_1⟩⟩]⟩ w fun (e2 : Ending) (w3 : World) =>
  ∃ (x4 : Option Addr) (x4n : Nat) (x4c : Nat) (x5 : Int), e2 = .returned (.tuple ⟨[.slice x4 x4n x4c, .int .i64 x5]⟩) ∧ (br (decide ((x5 : Int) ≠ 0)) (R (.returned (.tuple ⟨[.string ⟨⟨[]⟩⟩, .int .i64 x5]⟩)) w3) (al w3 51 [.pointer none, .slice none 0 0] fun p6 w7 =>
  ∃ (I8 : Int → World → Nat → Prop), (∃ m12 : Nat, I8 0 w7 m12) ∧ ∀ (t19_9 : Int) (w10 : World) (m11 : Nat), I8 t19_9 w10 m11 → ∀ _ : Env, (br (decide ((t19_9 : Int) < ((x4n : Int)))) (idx x4 x4n t19_9 4 fun p13 =>
  ∃ (x14 : Int), World.cell? w10 (p13.add 0) = some (.int .i64 x14) ∧ (∃ (x15 : List UInt8), World.cell? w10 (p13.add 1) = some (.string ⟨⟨x15⟩⟩) ∧ (∃ (x16 : List UInt8), World.cell? w10 (p13.add 2) = some (.string ⟨⟨x16⟩⟩) ∧ (∃ (x17 : Int), World.cell? w10 (p13.add 3) = some (.int .i64 x17) ∧ (al w10 41 [.int .i64 0, .string ⟨⟨[]⟩⟩, .string ⟨⟨[]⟩⟩, .int .i64 0] fun p18 w19 =>
  stL w19 p18 0 [.int .i64 x14, .string ⟨⟨x15⟩⟩, .string ⟨⟨x16⟩⟩, .int .i64 x17] fun w20 =>
  ∃ (x21 : Int), World.cell? w20 (p18.add 0) = some (.int .i64 x21) ∧ (br (decide ((x21 : Int) = 1)) (∃ (x22 : List UInt8), World.cell? w20 (p18.add 2) = some (.string ⟨⟨x22⟩⟩) ∧ (Calls Tryz.prog 29 ⟨[.pointer (some p6), .string ⟨⟨x22⟩⟩]⟩ w20 fun (e23 : Ending) (w24 : World) =>
  ∃ (x25 : Int) (x26 : Value), e23 = .returned (.tuple ⟨[.int .i64 x25, x26]⟩) ∧ (∃ m27 : Nat, m27 < m11 ∧ I8 (IntKind.i64.wrap (t19_9 + 1)) w24 m27))) (∃ m28 : Nat, m28 < m11 ∧ I8 (IntKind.i64.wrap (t19_9 + 1)) w20 m28))))))) (Calls Tryz.prog 30 ⟨[.pointer (some p6)]⟩ w10 fun (e29 : Ending) (w30 : World) =>
  ∃ (x31 : List UInt8), e29 = .returned (.string ⟨⟨x31⟩⟩) ∧ (R (.returned (.tuple ⟨[.string ⟨⟨x31⟩⟩, .int .i64 0]⟩)) w30)))))
set_option maxRecDepth 100000 in
theorem e_markup_Strip (s_1 : List UInt8) (R : Ending → World → Prop) (w : World) : fnV Tryz.prog Tryz.f9 an_markup_Strip [.string ⟨⟨s_1⟩⟩] R w = sh_markup_Strip s_1 R w := by kernel_rfl
theorem c_markup_Strip {s_1 : List UInt8} {R : Ending → World → Prop} {w : World} (h : sh_markup_Strip s_1 R w) : Calls Tryz.prog F_markup_Strip ⟨[.string ⟨⟨s_1⟩⟩]⟩ w R := calls_of_fnV Tryz.func9 (by rw [e_markup_Strip]; exact h)

def an_ref09_Strip : Ann := .two (.leaf) (.two (.leaf) (.two (.leaf) (.two (.two (.leaf) (.one (.loop 4294959296 [(6, .one (.str)), (7, .one (.int .i64))] (.two (.two (.leaf) (.two (.leaf) (.leaf))) (.two (.one (.two (.leaf) (.two (.leaf) (.leaf)))) (.leaf)))))) (.two (.leaf) (.leaf)))))
def sh_ref09_Strip (s_1 : List UInt8) (R : Ending → World → Prop) (w : World) : Prop :=
  Calls Tryz.prog 8 ⟨[.string ⟨⟨s_1⟩⟩]⟩ w fun (e2 : Ending) (w3 : World) =>
  ∃ (x4 : Option Addr) (x4n : Nat) (x4c : Nat) (x5 : Int), e2 = .returned (.tuple ⟨[.slice x4 x4n x4c, .int .i64 x5]⟩) ∧ (∃ (I6 : List UInt8 → Int → World → Nat → Prop), (∃ m11 : Nat, I6 ([]) 0 w3 m11) ∧ ∀ (out_7 : List UInt8) (i_8 : Int) (w9 : World) (m10 : Nat), I6 out_7 i_8 w9 m10 → ∀ _ : Env, (br (decide ((i_8 : Int) < ((x4n : Int)))) (idx x4 x4n i_8 4 fun p12 =>
  ∃ (x13 : Int), World.cell? w9 (p12.add 0) = some (.int .i64 x13) ∧ (br (decide ((x13 : Int) = 1)) (idx x4 x4n i_8 4 fun p14 =>
  ∃ (x15 : List UInt8), World.cell? w9 (p14.add 2) = some (.string ⟨⟨x15⟩⟩) ∧ (sadd out_7 x15 fun s16 =>
  ∃ m17 : Nat, m17 < m10 ∧ I6 s16 (IntKind.i64.wrap (i_8 + 1)) w9 m17)) (∃ m18 : Nat, m18 < m10 ∧ I6 out_7 (IntKind.i64.wrap (i_8 + 1)) w9 m18))) (R (.returned (.tuple ⟨[.string ⟨⟨out_7⟩⟩, .int .i64 x5]⟩)) w9)))
set_option maxRecDepth 100000 in
theorem e_ref09_Strip (s_1 : List UInt8) (R : Ending → World → Prop) (w : World) : fnV Tryz.prog Tryz.f10 an_ref09_Strip [.string ⟨⟨s_1⟩⟩] R w = sh_ref09_Strip s_1 R w := by kernel_rfl
theorem c_ref09_Strip {s_1 : List UInt8} {R : Ending → World → Prop} {w : World} (h : sh_ref09_Strip s_1 R w) : Calls Tryz.prog F_ref09_Strip ⟨[.string ⟨⟨s_1⟩⟩]⟩ w R := calls_of_fnV Tryz.func10 (by rw [e_ref09_Strip]; exact h)

def an_ref09_Same : Ann := .two (.leaf) (.two (.two (.leaf) (.two (.two (.leaf) (.leaf)) (.leaf))) (.two (.two (.leaf) (.one (.loop 67106864 [(5, .one (.int .i64))] (.two (.two (.leaf) (.two (.leaf) (.leaf))) (.two (.one (.two (.leaf) (.two (.two (.leaf) (.leaf)) (.leaf)))) (.leaf)))))) (.two (.leaf) (.leaf))))
def sh_ref09_Same (a_1 : Option Addr) (a_1n : Nat) (a_1c : Nat) (b_2 : Option Addr) (b_2n : Nat) (b_2c : Nat) (R : Ending → World → Prop) (w : World) : Prop :=
  br (decide ((((a_1n : Int)) : Int) ≠ ((b_2n : Int)))) (R (.returned (.bool false)) w) (∃ (I3 : Int → World → Nat → Prop), (∃ m7 : Nat, I3 0 w m7) ∧ ∀ (i_4 : Int) (w5 : World) (m6 : Nat), I3 i_4 w5 m6 → ∀ _ : Env, (br (decide ((i_4 : Int) < ((a_1n : Int)))) (drw w5 fun w8 =>
  idx a_1 a_1n i_4 4 fun p9 =>
  ∃ (x10 : Int), World.cell? w8 (p9.add 0) = some (.int .i64 x10) ∧ (∃ (x11 : List UInt8), World.cell? w8 (p9.add 1) = some (.string ⟨⟨x11⟩⟩) ∧ (∃ (x12 : List UInt8), World.cell? w8 (p9.add 2) = some (.string ⟨⟨x12⟩⟩) ∧ (∃ (x13 : Int), World.cell? w8 (p9.add 3) = some (.int .i64 x13) ∧ (idx b_2 b_2n i_4 4 fun p14 =>
  ∃ (x15 : Int), World.cell? w8 (p14.add 0) = some (.int .i64 x15) ∧ (∃ (x16 : List UInt8), World.cell? w8 (p14.add 1) = some (.string ⟨⟨x16⟩⟩) ∧ (∃ (x17 : List UInt8), World.cell? w8 (p14.add 2) = some (.string ⟨⟨x17⟩⟩) ∧ (∃ (x18 : Int), World.cell? w8 (p14.add 3) = some (.int .i64 x18) ∧ (br (!(decide ((x10 : Int) = x15) && (decide ((x11 : List UInt8) = x16) && (decide ((x12 : List UInt8) = x17) && (decide ((x13 : Int) = x18) && true))))) (R (.returned (.bool false)) w8) (∃ m19 : Nat, m19 < m6 ∧ I3 (IntKind.i64.wrap (i_4 + 1)) w8 m19)))))))))) (R (.returned (.bool true)) w5)))
set_option maxRecDepth 100000 in
theorem e_ref09_Same (a_1 : Option Addr) (a_1n : Nat) (a_1c : Nat) (b_2 : Option Addr) (b_2n : Nat) (b_2c : Nat) (R : Ending → World → Prop) (w : World) : fnV Tryz.prog Tryz.f11 an_ref09_Same [.slice a_1 a_1n a_1c, .slice b_2 b_2n b_2c] R w = sh_ref09_Same a_1 a_1n a_1c b_2 b_2n b_2c R w := by kernel_rfl
theorem c_ref09_Same {a_1 : Option Addr} {a_1n : Nat} {a_1c : Nat} {b_2 : Option Addr} {b_2n : Nat} {b_2c : Nat} {R : Ending → World → Prop} {w : World} (h : sh_ref09_Same a_1 a_1n a_1c b_2 b_2n b_2c R w) : Calls Tryz.prog F_ref09_Same ⟨[.slice a_1 a_1n a_1c, .slice b_2 b_2n b_2c]⟩ w R := calls_of_fnV Tryz.func11 (by rw [e_ref09_Same]; exact h)

def an_slices_Equal_of_string_string : Ann := .two (.leaf) (.two (.two (.leaf) (.two (.two (.leaf) (.leaf)) (.leaf))) (.two (.two (.leaf) (.one (.loop 67100720 [(13, .one (.int .i64))] (.two (.leaf) (.two (.two (.leaf) (.leaf)) (.two (.one (.two (.leaf) (.two (.leaf) (.two (.two (.leaf) (.leaf)) (.leaf))))) (.leaf))))))) (.two (.leaf) (.leaf))))
def sh_slices_Equal_of_string_string (s1_1 : Option Addr) (s1_1n : Nat) (s1_1c : Nat) (s2_2 : Option Addr) (s2_2n : Nat) (s2_2c : Nat) (R : Ending → World → Prop) (w : World) : Prop :=
  br (decide ((((s1_1n : Int)) : Int) ≠ ((s2_2n : Int)))) (R (.returned (.bool false)) w) (∃ (I3 : Int → World → Nat → Prop), (∃ m7 : Nat, I3 0 w m7) ∧ ∀ (t13_4 : Int) (w5 : World) (m6 : Nat), I3 t13_4 w5 m6 → ∀ _ : Env, (br (decide ((t13_4 : Int) < ((s1_1n : Int)))) (drw w5 fun w8 =>
  idx s1_1 s1_1n t13_4 1 fun p9 =>
  ∃ (x10 : List UInt8), World.cell? w8 p9 = some (.string ⟨⟨x10⟩⟩) ∧ (idx s2_2 s2_2n t13_4 1 fun p11 =>
  ∃ (x12 : List UInt8), World.cell? w8 p11 = some (.string ⟨⟨x12⟩⟩) ∧ (br (decide ((x10 : List UInt8) ≠ x12)) (R (.returned (.bool false)) w8) (∃ m13 : Nat, m13 < m6 ∧ I3 (IntKind.i64.wrap (t13_4 + 1)) w8 m13)))) (R (.returned (.bool true)) w5)))
set_option maxRecDepth 100000 in
theorem e_slices_Equal_of_string_string (s1_1 : Option Addr) (s1_1n : Nat) (s1_1c : Nat) (s2_2 : Option Addr) (s2_2n : Nat) (s2_2c : Nat) (R : Ending → World → Prop) (w : World) : fnV Tryz.prog Tryz.f12 an_slices_Equal_of_string_string [.slice s1_1 s1_1n s1_1c, .slice s2_2 s2_2n s2_2c] R w = sh_slices_Equal_of_string_string s1_1 s1_1n s1_1c s2_2 s2_2n s2_2c R w := by kernel_rfl
theorem c_slices_Equal_of_string_string {s1_1 : Option Addr} {s1_1n : Nat} {s1_1c : Nat} {s2_2 : Option Addr} {s2_2n : Nat} {s2_2c : Nat} {R : Ending → World → Prop} {w : World} (h : sh_slices_Equal_of_string_string s1_1 s1_1n s1_1c s2_2 s2_2n s2_2c R w) : Calls Tryz.prog F_slices_Equal_of_string_string ⟨[.slice s1_1 s1_1n s1_1c, .slice s2_2 s2_2n s2_2c]⟩ w R := calls_of_fnV Tryz.func12 (by rw [e_slices_Equal_of_string_string]; exact h)

def an_markup_Tags : Ann := .two (.leaf) (.two (.leaf) (.two (.two (.leaf) (.one (.loop 65482 [(1, .one (.slice)), (6, .one (.int .i64))] (.two (.leaf) (.two (.two (.leaf) (.leaf)) (.two (.one (.two (.leaf) (.leaf))) (.leaf))))))) (.two (.leaf) (.leaf))))
def sh_markup_Tags  (R : Ending → World → Prop) (w : World) : Prop :=
  Calls Tryz.prog 31 ⟨[]⟩ w fun (e1 : Ending) (w2 : World) =>
  ∃ (x3 : Option Addr) (x3n : Nat) (x3c : Nat), e1 = .returned (.slice x3 x3n x3c) ∧ (∃ (I4 : Option Addr → Nat → Nat → Int → World → Nat → Prop), (∃ m9 : Nat, I4 none 0 0 0 w2 m9) ∧ ∀ (out_5 : Option Addr) (out_5n : Nat) (out_5c : Nat) (t6_6 : Int) (w7 : World) (m8 : Nat), I4 out_5 out_5n out_5c t6_6 w7 m8 → ∀ _ : Env, (br (decide ((t6_6 : Int) < ((x3n : Int)))) (idx x3 x3n t6_6 3 fun p10 =>
  ∃ (x11 : List UInt8), World.cell? w7 (p10.add 0) = some (.string ⟨⟨x11⟩⟩) ∧ (∃ (x12 : Bool), World.cell? w7 (p10.add 1) = some (.bool x12) ∧ (∃ (x13 : Value), World.cell? w7 (p10.add 2) = some (x13) ∧ (al w7 60 [.string ⟨⟨[]⟩⟩, .bool false, .nilFunc] fun p14 w15 =>
  stL w15 p14 0 [.string ⟨⟨x11⟩⟩, .bool x12, x13] fun w16 =>
  ∃ (x17 : List UInt8), World.cell? w16 (p14.add 0) = some (.string ⟨⟨x17⟩⟩) ∧ (al w16 9 [.string ⟨⟨x17⟩⟩] fun p18 w19 =>
  app Tryz.prog [32, 32] 32 (.slice out_5 out_5n out_5c) (.slice (some p18) 1 1) w19 fun a20 a20n a20c w21 =>
  ∃ m22 : Nat, m22 < m8 ∧ I4 a20 a20n a20c (IntKind.i64.wrap (t6_6 + 1)) w21 m22))))) (R (.returned (.slice out_5 out_5n out_5c)) w7)))
set_option maxRecDepth 100000 in
theorem e_markup_Tags  (R : Ending → World → Prop) (w : World) : fnV Tryz.prog Tryz.f13 an_markup_Tags [] R w = sh_markup_Tags  R w := by kernel_rfl
theorem c_markup_Tags  {R : Ending → World → Prop} {w : World} (h : sh_markup_Tags  R w) : Calls Tryz.prog F_markup_Tags ⟨[]⟩ w R := calls_of_fnV Tryz.func13 (by rw [e_markup_Tags]; exact h)

def an_ref09_Tags : Ann := .two (.leaf) (.two (.leaf) (.leaf))
def sh_ref09_Tags  (R : Ending → World → Prop) (w : World) : Prop :=
  al w 9 [.string ⟨⟨[97, 98]⟩⟩, .string ⟨⟨[97, 100, 100]⟩⟩, .string ⟨⟨[100, 101, 108]⟩⟩, .string ⟨⟨[103, 97, 112]⟩⟩, .string ⟨⟨[108, 98]⟩⟩, .string ⟨⟨[110, 97, 109, 101]⟩⟩, .string ⟨⟨[112, 98]⟩⟩, .string ⟨⟨[115, 101, 99]⟩⟩, .string ⟨⟨[117, 110, 99, 108, 101, 97, 114]⟩⟩, .string ⟨⟨[118]⟩⟩] fun p1 w2 =>
  R (.returned (.slice (some p1) 10 10)) w2
set_option maxRecDepth 100000 in
theorem e_ref09_Tags  (R : Ending → World → Prop) (w : World) : fnV Tryz.prog Tryz.f14 an_ref09_Tags [] R w = sh_ref09_Tags  R w := by kernel_rfl
theorem c_ref09_Tags  {R : Ending → World → Prop} {w : World} (h : sh_ref09_Tags  R w) : Calls Tryz.prog F_ref09_Tags ⟨[]⟩ w R := calls_of_fnV Tryz.func14 (by rw [e_ref09_Tags]; exact h)

def an_ref09_GreatList : Ann := .two (.leaf) (.two (.two (.leaf) (.one (.loop 2199023255548 [(3, .one (.int .i64))] (.two (.two (.leaf) (.two (.leaf) (.leaf))) (.two (.one (.two (.leaf) (.two (.leaf) (.two (.two (.leaf) (.leaf)) (.leaf))))) (.leaf)))))) (.two (.leaf) (.leaf)))
def sh_ref09_GreatList (l_1 : Option Addr) (l_1n : Nat) (l_1c : Nat) (R : Ending → World → Prop) (w : World) : Prop :=
  ∃ (I2 : Int → World → Nat → Prop), (∃ m6 : Nat, I2 0 w m6) ∧ ∀ (i_3 : Int) (w4 : World) (m5 : Nat), I2 i_3 w4 m5 → ∀ _ : Env, (br (decide ((i_3 : Int) < ((l_1n : Int)))) (drw w4 fun w7 =>
  idx l_1 l_1n i_3 4 fun p8 =>
  ∃ (x9 : List UInt8), World.cell? w7 (p8.add 1) = some (.string ⟨⟨x9⟩⟩) ∧ (idx l_1 l_1n i_3 4 fun p10 =>
  ∃ (x11 : List UInt8), World.cell? w7 (p10.add 2) = some (.string ⟨⟨x11⟩⟩) ∧ (br (decide ((80 : Int) < (IntKind.i64.wrap (((List.length x9 : Int)) + ((List.length x11 : Int)))))) (br (decide (((IntKind.i64.wrap (i_3 + 1)) : Int) < ((l_1n : Int)))) (R (.returned (.bool true)) w7) (br (decide (((IntKind.i64.wrap (((List.length x9 : Int)) + ((List.length x11 : Int)))) : Int) < 65456)) (R (.returned (.bool true)) w7) (br (decide ((65536 : Int) < (IntKind.i64.wrap (((List.length x9 : Int)) + ((List.length x11 : Int)))))) (R (.returned (.bool true)) w7) (∃ m12 : Nat, m12 < m5 ∧ I2 (IntKind.i64.wrap (i_3 + 1)) w7 m12)))) (∃ m13 : Nat, m13 < m5 ∧ I2 (IntKind.i64.wrap (i_3 + 1)) w7 m13)))) (R (.returned (.bool (decide ((24 : Int) < ((l_1n : Int)))))) w4))
set_option maxRecDepth 100000 in
theorem e_ref09_GreatList (l_1 : Option Addr) (l_1n : Nat) (l_1c : Nat) (R : Ending → World → Prop) (w : World) : fnV Tryz.prog Tryz.f15 an_ref09_GreatList [.slice l_1 l_1n l_1c] R w = sh_ref09_GreatList l_1 l_1n l_1c R w := by kernel_rfl
theorem c_ref09_GreatList {l_1 : Option Addr} {l_1n : Nat} {l_1c : Nat} {R : Ending → World → Prop} {w : World} (h : sh_ref09_GreatList l_1 l_1n l_1c R w) : Calls Tryz.prog F_ref09_GreatList ⟨[.slice l_1 l_1n l_1c]⟩ w R := calls_of_fnV Tryz.func15 (by rw [e_ref09_GreatList]; exact h)

def an_markup_Print : Ann := .two (.leaf) (.two (.two (.leaf) (.two (.two (.leaf) (.leaf)) (.leaf))) (.two (.leaf) (.two (.two (.leaf) (.one (.loop 1044544 [(12, .one (.int .i64))] (.two (.leaf) (.two (.two (.leaf) (.leaf)) (.two (.one (.two (.leaf) (.leaf))) (.leaf))))))) (.two (.leaf) (.leaf)))))
def sh_markup_Print (l_1 : Option Addr) (l_1n : Nat) (l_1c : Nat) (R : Ending → World → Prop) (w : World) : Prop :=
  Calls Tryz.prog 20 ⟨[.slice l_1 l_1n l_1c]⟩ w fun (e2 : Ending) (w3 : World) =>
  ∃ (x4 : Int), e2 = .returned (.int .i64 x4) ∧ (br (decide ((x4 : Int) ≠ 0)) (R (.returned (.tuple ⟨[.string ⟨⟨[]⟩⟩, .int .i64 1]⟩)) w3) (al w3 51 [.pointer none, .slice none 0 0] fun p5 w6 =>
  ∃ (I7 : Int → World → Nat → Prop), (∃ m11 : Nat, I7 0 w6 m11) ∧ ∀ (t12_8 : Int) (w9 : World) (m10 : Nat), I7 t12_8 w9 m10 → ∀ _ : Env, (br (decide ((t12_8 : Int) < ((l_1n : Int)))) (idx l_1 l_1n t12_8 4 fun p12 =>
  ∃ (x13 : Int), World.cell? w9 (p12.add 0) = some (.int .i64 x13) ∧ (∃ (x14 : List UInt8), World.cell? w9 (p12.add 1) = some (.string ⟨⟨x14⟩⟩) ∧ (∃ (x15 : List UInt8), World.cell? w9 (p12.add 2) = some (.string ⟨⟨x15⟩⟩) ∧ (∃ (x16 : Int), World.cell? w9 (p12.add 3) = some (.int .i64 x16) ∧ (al w9 41 [.int .i64 0, .string ⟨⟨[]⟩⟩, .string ⟨⟨[]⟩⟩, .int .i64 0] fun p17 w18 =>
  stL w18 p17 0 [.int .i64 x13, .string ⟨⟨x14⟩⟩, .string ⟨⟨x15⟩⟩, .int .i64 x16] fun w19 =>
  ∃ (x20 : Int), World.cell? w19 (p17.add 0) = some (.int .i64 x20) ∧ (∃ (x21 : List UInt8), World.cell? w19 (p17.add 1) = some (.string ⟨⟨x21⟩⟩) ∧ (∃ (x22 : List UInt8), World.cell? w19 (p17.add 2) = some (.string ⟨⟨x22⟩⟩) ∧ (∃ (x23 : Int), World.cell? w19 (p17.add 3) = some (.int .i64 x23) ∧ (Calls Tryz.prog 32 ⟨[.agg ⟨[.int .i64 x20, .string ⟨⟨x21⟩⟩, .string ⟨⟨x22⟩⟩, .int .i64 x23]⟩]⟩ w19 fun (e24 : Ending) (w25 : World) =>
  ∃ (x26 : List UInt8), e24 = .returned (.string ⟨⟨x26⟩⟩) ∧ (Calls Tryz.prog 29 ⟨[.pointer (some p5), .string ⟨⟨x26⟩⟩]⟩ w25 fun (e27 : Ending) (w28 : World) =>
  ∃ (x29 : Int) (x30 : Value), e27 = .returned (.tuple ⟨[.int .i64 x29, x30]⟩) ∧ (∃ m31 : Nat, m31 < m10 ∧ I7 (IntKind.i64.wrap (t12_8 + 1)) w28 m31))))))))))) (Calls Tryz.prog 30 ⟨[.pointer (some p5)]⟩ w9 fun (e32 : Ending) (w33 : World) =>
  ∃ (x34 : List UInt8), e32 = .returned (.string ⟨⟨x34⟩⟩) ∧ (R (.returned (.tuple ⟨[.string ⟨⟨x34⟩⟩, .int .i64 0]⟩)) w33)))))
set_option maxRecDepth 100000 in
theorem e_markup_Print (l_1 : Option Addr) (l_1n : Nat) (l_1c : Nat) (R : Ending → World → Prop) (w : World) : fnV Tryz.prog Tryz.f16 an_markup_Print [.slice l_1 l_1n l_1c] R w = sh_markup_Print l_1 l_1n l_1c R w := by kernel_rfl
theorem c_markup_Print {l_1 : Option Addr} {l_1n : Nat} {l_1c : Nat} {R : Ending → World → Prop} {w : World} (h : sh_markup_Print l_1 l_1n l_1c R w) : Calls Tryz.prog F_markup_Print ⟨[.slice l_1 l_1n l_1c]⟩ w R := calls_of_fnV Tryz.func16 (by rw [e_markup_Print]; exact h)

def an_ref09_Print : Ann := .two (.leaf) (.two (.two (.leaf) (.two (.two (.leaf) (.leaf)) (.leaf))) (.two (.leaf) (.two (.two (.leaf) (.one (.loop 4193840 [(4, .one (.str)), (5, .one (.int .i64))] (.two (.two (.leaf) (.two (.leaf) (.leaf))) (.two (.one (.leaf)) (.leaf)))))) (.two (.leaf) (.leaf)))))
def sh_ref09_Print (l_1 : Option Addr) (l_1n : Nat) (l_1c : Nat) (R : Ending → World → Prop) (w : World) : Prop :=
  Calls Tryz.prog 21 ⟨[.slice l_1 l_1n l_1c]⟩ w fun (e2 : Ending) (w3 : World) =>
  ∃ (x4 : Int), e2 = .returned (.int .i64 x4) ∧ (br (decide ((x4 : Int) ≠ 0)) (R (.returned (.tuple ⟨[.string ⟨⟨[]⟩⟩, .int .i64 1]⟩)) w3) (∃ (I5 : List UInt8 → Int → World → Nat → Prop), (∃ m10 : Nat, I5 ([]) 0 w3 m10) ∧ ∀ (s_6 : List UInt8) (i_7 : Int) (w8 : World) (m9 : Nat), I5 s_6 i_7 w8 m9 → ∀ _ : Env, (br (decide ((i_7 : Int) < ((l_1n : Int)))) (idx l_1 l_1n i_7 4 fun p11 =>
  ∃ (x12 : Int), World.cell? w8 (p11.add 0) = some (.int .i64 x12) ∧ (∃ (x13 : List UInt8), World.cell? w8 (p11.add 1) = some (.string ⟨⟨x13⟩⟩) ∧ (∃ (x14 : List UInt8), World.cell? w8 (p11.add 2) = some (.string ⟨⟨x14⟩⟩) ∧ (∃ (x15 : Int), World.cell? w8 (p11.add 3) = some (.int .i64 x15) ∧ (Calls Tryz.prog 33 ⟨[.agg ⟨[.int .i64 x12, .string ⟨⟨x13⟩⟩, .string ⟨⟨x14⟩⟩, .int .i64 x15]⟩]⟩ w8 fun (e16 : Ending) (w17 : World) =>
  ∃ (x18 : List UInt8), e16 = .returned (.string ⟨⟨x18⟩⟩) ∧ (sadd s_6 x18 fun s19 =>
  ∃ m20 : Nat, m20 < m9 ∧ I5 s19 (IntKind.i64.wrap (i_7 + 1)) w17 m20)))))) (R (.returned (.tuple ⟨[.string ⟨⟨s_6⟩⟩, .int .i64 0]⟩)) w8))))
set_option maxRecDepth 100000 in
theorem e_ref09_Print (l_1 : Option Addr) (l_1n : Nat) (l_1c : Nat) (R : Ending → World → Prop) (w : World) : fnV Tryz.prog Tryz.f17 an_ref09_Print [.slice l_1 l_1n l_1c] R w = sh_ref09_Print l_1 l_1n l_1c R w := by kernel_rfl
theorem c_ref09_Print {l_1 : Option Addr} {l_1n : Nat} {l_1c : Nat} {R : Ending → World → Prop} {w : World} (h : sh_ref09_Print l_1 l_1n l_1c R w) : Calls Tryz.prog F_ref09_Print ⟨[.slice l_1 l_1n l_1c]⟩ w R := calls_of_fnV Tryz.func17 (by rw [e_ref09_Print]; exact h)

def an_markup_Find : Ann := .two (.leaf) (.two (.two (.leaf) (.two (.two (.leaf) (.leaf)) (.leaf))) (.two (.two (.leaf) (.one (.rf [3, 4, 5, 12] 0))) (.two (.leaf) (.leaf))))
def sh_markup_Find (l_1 : Option Addr) (l_1n : Nat) (l_1c : Nat) (offset_2 : Int) (R : Ending → World → Prop) (w : World) : Prop :=
  al w 3 [.int .i64 offset_2] fun p3 w4 =>
  al w4 3 [.int .i64 0] fun p5 w6 =>
  al w6 25 [.int .i64 0] fun p7 w8 =>
  Calls Tryz.prog 20 ⟨[.slice l_1 l_1n l_1c]⟩ w8 fun (e9 : Ending) (w10 : World) =>
  ∃ (x11 : Int), e9 = .returned (.int .i64 x11) ∧ (br (decide ((x11 : Int) ≠ 0)) (stL w10 p5 0 [.int .i64 0] fun w12 =>
  stL w12 p7 0 [.int .i64 1] fun w13 =>
  ∃ (x14 : Int), World.cell? w13 p5 = some (.int .i64 x14) ∧ (∃ (x15 : Int), World.cell? w13 p7 = some (.int .i64 x15) ∧ (R (.returned (.tuple ⟨[.int .i64 x14, .int .i64 x15]⟩)) w13))) (Calls Tryz.prog 34 ⟨[.slice l_1 l_1n l_1c]⟩ w10 fun (e16 : Ending) (w17 : World) =>
  ∃ (x18 : Fn) (x18a : Array Value) (x18b : Array Value), e16 = .returned (.func x18 x18a x18b) ∧ (∀ base19 : Env, RFw Tryz.prog none 28 (cdAt Tryz.f18 [1, 1, 0, 1, 2]) (upd (upd (upd (upd base19 12 (.func x18 x18a x18b)) 5 (.pointer (some p7))) 4 (.pointer (some p5))) 3 (.pointer (some p3))) [] w17 0 (fun ds20 w21 =>
  stL w21 p5 0 [.int .i64 0] fun w27 =>
  stL w27 p7 0 [.int .i64 2] fun w28 =>
  retD ds20 w28 fun w29 =>
  ∃ (x30 : Int), World.cell? w29 p5 = some (.int .i64 x30) ∧ (∃ (x31 : Int), World.cell? w29 p7 = some (.int .i64 x31) ∧ (R (.returned (.tuple ⟨[.int .i64 x30, .int .i64 x31]⟩)) w29))) (fun ds20 w21 =>
  retD ds20 w21 fun w32 =>
  ∃ (x33 : Int), World.cell? w32 p5 = some (.int .i64 x33) ∧ (∃ (x34 : Int), World.cell? w32 p7 = some (.int .i64 x34) ∧ (R (.returned (.tuple ⟨[.int .i64 x33, .int .i64 x34]⟩)) w32))) (fun ds20 w21 =>
  stL w21 p5 0 [.int .i64 0] fun w22 =>
  stL w22 p7 0 [.int .i64 2] fun w23 =>
  retD ds20 w23 fun w24 =>
  ∃ (x25 : Int), World.cell? w24 p5 = some (.int .i64 x25) ∧ (∃ (x26 : Int), World.cell? w24 p7 = some (.int .i64 x26) ∧ (R (.returned (.tuple ⟨[.int .i64 x25, .int .i64 x26]⟩)) w24))))))
set_option maxRecDepth 100000 in
theorem e_markup_Find (l_1 : Option Addr) (l_1n : Nat) (l_1c : Nat) (offset_2 : Int) (R : Ending → World → Prop) (w : World) : fnV Tryz.prog Tryz.f18 an_markup_Find [.slice l_1 l_1n l_1c, .int .i64 offset_2] R w = sh_markup_Find l_1 l_1n l_1c offset_2 R w := by kernel_rfl
theorem c_markup_Find {l_1 : Option Addr} {l_1n : Nat} {l_1c : Nat} {offset_2 : Int} {R : Ending → World → Prop} {w : World} (h : sh_markup_Find l_1 l_1n l_1c offset_2 R w) : Calls Tryz.prog F_markup_Find ⟨[.slice l_1 l_1n l_1c, .int .i64 offset_2]⟩ w R := calls_of_fnV Tryz.func18 (by rw [e_markup_Find]; exact h)
def anA_markup_Find_1 : Ann := .two (.leaf) (.leaf)
def anB_markup_Find_1 : Ann := .one (.two (.leaf) (.two (.two (.two (.one (.leaf)) (.two (.leaf) (.leaf))) (.two (.leaf) (.leaf))) (.leaf)))
def rf_markup_Find_1 (offset_35 : Option Addr) (t4_36 : Option Addr) (t5_37 : Option Addr) (t12_38 : Fn) (t12_38a : Array Value) (t12_38b : Array Value) (t13_39 : Int) (t14_40 : Int) (t14_41 : List UInt8) (t14_42 : List UInt8) (t14_43 : Int) (l : Nat) (Kn Kr Kx : World → World → Prop) (w : World) : Prop :=
  al w 41 [.int .i64 0, .string ⟨⟨[]⟩⟩, .string ⟨⟨[]⟩⟩, .int .i64 0] fun p45 w46 =>
  stL w46 p45 0 [.int .i64 t14_40, .string ⟨⟨t14_41⟩⟩, .string ⟨⟨t14_42⟩⟩, .int .i64 t14_43] fun w47 =>
  Ext w w47 ∧ ∀ w44 : World, Upd l w47 w44 → (dr offset_35 fun p48 =>
  ∃ (x49 : Int), World.cell? w44 p48 = some (.int .i64 x49) ∧ (∃ (x50 : Int), World.cell? w44 (p45.add 3) = some (.int .i64 x50) ∧ (br (decide ((x50 : Int) ≤ x49)) (drw w44 fun w51 =>
  ∃ (x52 : Int), World.cell? w51 (p45.add 0) = some (.int .i64 x52) ∧ (∃ (x53 : List UInt8), World.cell? w51 (p45.add 1) = some (.string ⟨⟨x53⟩⟩) ∧ (∃ (x54 : List UInt8), World.cell? w51 (p45.add 2) = some (.string ⟨⟨x54⟩⟩) ∧ (∃ (x55 : Int), World.cell? w51 (p45.add 3) = some (.int .i64 x55) ∧ ((dr offset_35 fun p56 =>
  ∃ (x57 : Int), World.cell? w51 p56 = some (.int .i64 x57) ∧ ((∃ (x58 : Int), World.cell? w51 (p45.add 3) = some (.int .i64 x58) ∧ ((Calls Tryz.prog 32 ⟨[.agg ⟨[.int .i64 x52, .string ⟨⟨x53⟩⟩, .string ⟨⟨x54⟩⟩, .int .i64 x55]⟩]⟩ w51 fun (e59 : Ending) (w60 : World) =>
  ∃ (x61 : List UInt8), e59 = .returned (.string ⟨⟨x61⟩⟩) ∧ (br (decide ((((List.length x61 : Int)) : Int) ≤ (IntKind.i64.wrap (x57 - x58)))) (Kx w44 w60) (dr t4_36 fun p63 =>
  stL w60 p63 0 [.int .i64 t13_39] fun w62 =>
  dr t5_37 fun p65 =>
  stL w62 p65 0 [.int .i64 0] fun w64 =>
  Kr w44 w64))) ∧ True)) ∧ (Calls Tryz.prog 32 ⟨[.agg ⟨[.int .i64 x52, .string ⟨⟨x53⟩⟩, .string ⟨⟨x54⟩⟩, .int .i64 x55]⟩]⟩ w51 fun (e66 : Ending) (w67 : World) =>
  ∃ (x68 : List UInt8), e66 = .returned (.string ⟨⟨x68⟩⟩) ∧ (∃ (x69 : Int), World.cell? w67 (p45.add 3) = some (.int .i64 x69) ∧ (br (decide ((((List.length x68 : Int)) : Int) ≤ (IntKind.i64.wrap (x57 - x69)))) (Kx w44 w67) (dr t4_36 fun p71 =>
  stL w67 p71 0 [.int .i64 t13_39] fun w70 =>
  dr t5_37 fun p73 =>
  stL w70 p73 0 [.int .i64 0] fun w72 =>
  Kr w44 w72)))) ∧ True)) ∧ (∃ (x74 : Int), World.cell? w51 (p45.add 3) = some (.int .i64 x74) ∧ ((Calls Tryz.prog 32 ⟨[.agg ⟨[.int .i64 x52, .string ⟨⟨x53⟩⟩, .string ⟨⟨x54⟩⟩, .int .i64 x55]⟩]⟩ w51 fun (e75 : Ending) (w76 : World) =>
  ∃ (x77 : List UInt8), e75 = .returned (.string ⟨⟨x77⟩⟩) ∧ (dr offset_35 fun p78 =>
  ∃ (x79 : Int), World.cell? w76 p78 = some (.int .i64 x79) ∧ (br (decide ((((List.length x77 : Int)) : Int) ≤ (IntKind.i64.wrap (x79 - x74)))) (Kx w44 w76) (dr t4_36 fun p81 =>
  stL w76 p81 0 [.int .i64 t13_39] fun w80 =>
  dr t5_37 fun p83 =>
  stL w80 p83 0 [.int .i64 0] fun w82 =>
  Kr w44 w82)))) ∧ True)) ∧ (Calls Tryz.prog 32 ⟨[.agg ⟨[.int .i64 x52, .string ⟨⟨x53⟩⟩, .string ⟨⟨x54⟩⟩, .int .i64 x55]⟩]⟩ w51 fun (e84 : Ending) (w85 : World) =>
  ∃ (x86 : List UInt8), e84 = .returned (.string ⟨⟨x86⟩⟩) ∧ (dr offset_35 fun p87 =>
  ∃ (x88 : Int), World.cell? w85 p87 = some (.int .i64 x88) ∧ (∃ (x89 : Int), World.cell? w85 (p45.add 3) = some (.int .i64 x89) ∧ (br (decide ((((List.length x86 : Int)) : Int) ≤ (IntKind.i64.wrap (x88 - x89)))) (Kx w44 w85) (dr t4_36 fun p91 =>
  stL w85 p91 0 [.int .i64 t13_39] fun w90 =>
  dr t5_37 fun p93 =>
  stL w90 p93 0 [.int .i64 0] fun w92 =>
  Kr w44 w92))))) ∧ True))))) (Kn w44 w44))))
set_option maxRecDepth 100000 in
theorem er_markup_Find_1 (base : Env) (offset_35 : Option Addr) (t4_36 : Option Addr) (t5_37 : Option Addr) (t12_38 : Fn) (t12_38a : Array Value) (t12_38b : Array Value) (t13_39 : Int) (t14_40 : Int) (t14_41 : List UInt8) (t14_42 : List UInt8) (t14_43 : Int) (l : Nat) (Kn Kr Kx : World → World → Prop) (w : World) : fragV Tryz.prog 28 anA_markup_Find_1 anB_markup_Find_1 (cdAt Tryz.f18 [1, 1, 0, 1, 2, 5]) (cdAt Tryz.f18 [1, 1, 0, 1, 2, 6]) l 0 Kn Kr Kx (updPs [13, 14] [.int .i64 t13_39, .agg ⟨[.int .i64 t14_40, .string ⟨⟨t14_41⟩⟩, .string ⟨⟨t14_42⟩⟩, .int .i64 t14_43]⟩] (upd (upd (upd (upd base 12 (.func t12_38 t12_38a t12_38b)) 5 (.pointer t5_37)) 4 (.pointer t4_36)) 3 (.pointer offset_35))) w = rf_markup_Find_1 offset_35 t4_36 t5_37 t12_38 t12_38a t12_38b t13_39 t14_40 t14_41 t14_42 t14_43 l Kn Kr Kx w := by kernel_rfl
theorem cd_markup_Find_1 : cdAt Tryz.f18 [1, 1, 0, 1, 2] = .rangeFunc (Operand.tmp 12) #[13, 14] (cdAt Tryz.f18 [1, 1, 0, 1, 2, 5]) (cdAt Tryz.f18 [1, 1, 0, 1, 2, 6]) := by kernel_rfl

def an_ref09_Find : Ann := .two (.leaf) (.two (.two (.leaf) (.two (.two (.leaf) (.leaf)) (.leaf))) (.two (.two (.leaf) (.one (.loop 1099511626864 [(6, .one (.int .i64))] (.two (.two (.leaf) (.two (.leaf) (.leaf))) (.two (.one (.two (.one (.leaf)) (.two (.two (.leaf) (.leaf)) (.leaf)))) (.leaf)))))) (.two (.leaf) (.leaf))))
def sh_ref09_Find (l_1 : Option Addr) (l_1n : Nat) (l_1c : Nat) (offset_2 : Int) (R : Ending → World → Prop) (w : World) : Prop :=
  Calls Tryz.prog 21 ⟨[.slice l_1 l_1n l_1c]⟩ w fun (e3 : Ending) (w4 : World) =>
  ∃ (x5 : Int), e3 = .returned (.int .i64 x5) ∧ (br (decide ((x5 : Int) ≠ 0)) (R (.returned (.tuple ⟨[.int .i64 0, .int .i64 1]⟩)) w4) (∃ (I6 : Int → World → Nat → Prop), (∃ m10 : Nat, I6 0 w4 m10) ∧ ∀ (i_7 : Int) (w8 : World) (m9 : Nat), I6 i_7 w8 m9 → ∀ _ : Env, (br (decide ((i_7 : Int) < ((l_1n : Int)))) (drw w8 fun w11 =>
  idx l_1 l_1n i_7 4 fun p12 =>
  ∃ (x13 : Int), World.cell? w11 (p12.add 3) = some (.int .i64 x13) ∧ (br (decide ((x13 : Int) ≤ offset_2)) (idx l_1 l_1n i_7 4 fun p14 =>
  idx l_1 l_1n i_7 4 fun p15 =>
  ∃ (x16 : Int), World.cell? w11 (p15.add 0) = some (.int .i64 x16) ∧ (∃ (x17 : List UInt8), World.cell? w11 (p15.add 1) = some (.string ⟨⟨x17⟩⟩) ∧ (∃ (x18 : List UInt8), World.cell? w11 (p15.add 2) = some (.string ⟨⟨x18⟩⟩) ∧ (∃ (x19 : Int), World.cell? w11 (p15.add 3) = some (.int .i64 x19) ∧ ((∃ (x20 : Int), World.cell? w11 (p14.add 3) = some (.int .i64 x20) ∧ ((Calls Tryz.prog 33 ⟨[.agg ⟨[.int .i64 x16, .string ⟨⟨x17⟩⟩, .string ⟨⟨x18⟩⟩, .int .i64 x19]⟩]⟩ w11 fun (e21 : Ending) (w22 : World) =>
  ∃ (x23 : List UInt8), e21 = .returned (.string ⟨⟨x23⟩⟩) ∧ (br (decide ((offset_2 : Int) < (IntKind.i64.wrap (x20 + ((List.length x23 : Int)))))) (R (.returned (.tuple ⟨[.int .i64 i_7, .int .i64 0]⟩)) w22) (∃ m24 : Nat, m24 < m9 ∧ I6 (IntKind.i64.wrap (i_7 + 1)) w22 m24))) ∧ True)) ∧ (Calls Tryz.prog 33 ⟨[.agg ⟨[.int .i64 x16, .string ⟨⟨x17⟩⟩, .string ⟨⟨x18⟩⟩, .int .i64 x19]⟩]⟩ w11 fun (e25 : Ending) (w26 : World) =>
  ∃ (x27 : List UInt8), e25 = .returned (.string ⟨⟨x27⟩⟩) ∧ (∃ (x28 : Int), World.cell? w26 (p14.add 3) = some (.int .i64 x28) ∧ (br (decide ((offset_2 : Int) < (IntKind.i64.wrap (x28 + ((List.length x27 : Int)))))) (R (.returned (.tuple ⟨[.int .i64 i_7, .int .i64 0]⟩)) w26) (∃ m29 : Nat, m29 < m9 ∧ I6 (IntKind.i64.wrap (i_7 + 1)) w26 m29)))) ∧ True))))) (((∃ m30 : Nat, m30 < m9 ∧ I6 (IntKind.i64.wrap (i_7 + 1)) w11 m30) ∧ True) ∧ (∃ m31 : Nat, m31 < m9 ∧ I6 (IntKind.i64.wrap (i_7 + 1)) w11 m31) ∧ True))) (R (.returned (.tuple ⟨[.int .i64 0, .int .i64 2]⟩)) w8))))
set_option maxRecDepth 100000 in
theorem e_ref09_Find (l_1 : Option Addr) (l_1n : Nat) (l_1c : Nat) (offset_2 : Int) (R : Ending → World → Prop) (w : World) : fnV Tryz.prog Tryz.f19 an_ref09_Find [.slice l_1 l_1n l_1c, .int .i64 offset_2] R w = sh_ref09_Find l_1 l_1n l_1c offset_2 R w := by kernel_rfl
theorem c_ref09_Find {l_1 : Option Addr} {l_1n : Nat} {l_1c : Nat} {offset_2 : Int} {R : Ending → World → Prop} {w : World} (h : sh_ref09_Find l_1 l_1n l_1c offset_2 R w) : Calls Tryz.prog F_ref09_Find ⟨[.slice l_1 l_1n l_1c, .int .i64 offset_2]⟩ w R := calls_of_fnV Tryz.func19 (by rw [e_ref09_Find]; exact h)

def an_markup_Check : Ann := .two (.leaf) (.two (.leaf) (.two (.two (.leaf) (.one (.loop 9007199254740604 [(3, .one (.int .i64)), (9, .one (.int .i64))] (.two (.leaf) (.two (.two (.leaf) (.leaf)) (.two (.one (.two (.leaf) (.two (.two (.leaf) (.two (.leaf) (.two (.two (.leaf) (.leaf)) (.leaf)))) (.cut 34359214084 [] (.two (.leaf) (.two (.two (.leaf) (.leaf)) (.leaf))) (.cut 8761733283844 [] (.two (.leaf) (.two (.two (.leaf) (.leaf)) (.leaf))) (.two (.two (.leaf) (.two (.two (.leaf) (.leaf)) (.leaf))) (.leaf))))))) (.leaf))))))) (.two (.two (.leaf) (.two (.two (.leaf) (.leaf)) (.leaf))) (.two (.leaf) (.leaf)))))
def sh_markup_Check (l_1 : Option Addr) (l_1n : Nat) (l_1c : Nat) (R : Ending → World → Prop) (w : World) : Prop :=
  ∃ (I2 : Int → Int → World → Nat → Prop), (∃ m7 : Nat, I2 0 0 w m7) ∧ ∀ (at_3 : Int) (t9_4 : Int) (w5 : World) (m6 : Nat), I2 at_3 t9_4 w5 m6 → ∀ _ : Env, (br (decide ((t9_4 : Int) < ((l_1n : Int)))) (idx l_1 l_1n t9_4 4 fun p8 =>
  ∃ (x9 : Int), World.cell? w5 (p8.add 0) = some (.int .i64 x9) ∧ (∃ (x10 : List UInt8), World.cell? w5 (p8.add 1) = some (.string ⟨⟨x10⟩⟩) ∧ (∃ (x11 : List UInt8), World.cell? w5 (p8.add 2) = some (.string ⟨⟨x11⟩⟩) ∧ (∃ (x12 : Int), World.cell? w5 (p8.add 3) = some (.int .i64 x12) ∧ (al w5 41 [.int .i64 0, .string ⟨⟨[]⟩⟩, .string ⟨⟨[]⟩⟩, .int .i64 0] fun p13 w14 =>
  stL w14 p13 0 [.int .i64 x9, .string ⟨⟨x10⟩⟩, .string ⟨⟨x11⟩⟩, .int .i64 x12] fun w15 =>
  ∃ (x16 : Int), World.cell? w15 (p13.add 0) = some (.int .i64 x16) ∧ (∃ (x17 : List UInt8), World.cell? w15 (p13.add 1) = some (.string ⟨⟨x17⟩⟩) ∧ (∃ (x18 : List UInt8), World.cell? w15 (p13.add 2) = some (.string ⟨⟨x18⟩⟩) ∧ (∃ (x19 : Int), World.cell? w15 (p13.add 3) = some (.int .i64 x19) ∧ (Calls Tryz.prog 35 ⟨[.agg ⟨[.int .i64 x16, .string ⟨⟨x17⟩⟩, .string ⟨⟨x18⟩⟩, .int .i64 x19]⟩]⟩ w15 fun (e20 : Ending) (w21 : World) =>
  ∃ (x22 : Int), e20 = .returned (.int .i64 x22) ∧ (br (decide ((x22 : Int) ≠ 0)) (R (.returned (.int .i64 x22)) w21) (∀ (K23 : World → Prop), (∀  (w24 : World), (∀ _ : Env, (∀ (K25 : World → Prop), (∀  (w26 : World), (∀ _ : Env, (∃ (x27 : Int), World.cell? w26 (p13.add 3) = some (.int .i64 x27) ∧ (br (decide ((x27 : Int) ≠ at_3)) (R (.returned (.int .i64 9)) w26) (∃ (x28 : Int), World.cell? w26 (p13.add 0) = some (.int .i64 x28) ∧ (∃ (x29 : List UInt8), World.cell? w26 (p13.add 1) = some (.string ⟨⟨x29⟩⟩) ∧ (∃ (x30 : List UInt8), World.cell? w26 (p13.add 2) = some (.string ⟨⟨x30⟩⟩) ∧ (∃ (x31 : Int), World.cell? w26 (p13.add 3) = some (.int .i64 x31) ∧ (Calls Tryz.prog 32 ⟨[.agg ⟨[.int .i64 x28, .string ⟨⟨x29⟩⟩, .string ⟨⟨x30⟩⟩, .int .i64 x31]⟩]⟩ w26 fun (e32 : Ending) (w33 : World) =>
  ∃ (x34 : List UInt8), e32 = .returned (.string ⟨⟨x34⟩⟩) ∧ (∃ m35 : Nat, m35 < m6 ∧ I2 (IntKind.i64.wrap (at_3 + ((List.length x34 : Int)))) (IntKind.i64.wrap (t9_4 + 1)) w33 m35))))))))) → K25 w26) → (∃ (x36 : Int), World.cell? w24 (p13.add 0) = some (.int .i64 x36) ∧ (br (decide ((x36 : Int) ≠ 1)) (∃ (x37 : Int), World.cell? w24 (p13.add 0) = some (.int .i64 x37) ∧ (∃ (x38 : List UInt8), World.cell? w24 (p13.add 1) = some (.string ⟨⟨x38⟩⟩) ∧ (∃ (x39 : List UInt8), World.cell? w24 (p13.add 2) = some (.string ⟨⟨x39⟩⟩) ∧ (∃ (x40 : Int), World.cell? w24 (p13.add 3) = some (.int .i64 x40) ∧ (Calls Tryz.prog 36 ⟨[.agg ⟨[.int .i64 x37, .string ⟨⟨x38⟩⟩, .string ⟨⟨x39⟩⟩, .int .i64 x40]⟩]⟩ w24 fun (e41 : Ending) (w42 : World) =>
  ∃ (x43 : Bool), e41 = .returned (.bool x43) ∧ (br (!x43) (R (.returned (.int .i64 3)) w42) (K25 w42))))))) (K25 w24))))) → K23 w24) → (∃ (x44 : Int), World.cell? w21 (p13.add 0) = some (.int .i64 x44) ∧ (br (decide ((x44 : Int) = 1)) (br (decide ((0 : Int) < t9_4)) (idx l_1 l_1n (IntKind.i64.wrap (t9_4 - 1)) 4 fun p45 =>
  ∃ (x46 : Int), World.cell? w21 (p45.add 0) = some (.int .i64 x46) ∧ (br (decide ((x46 : Int) = 1)) (R (.returned (.int .i64 10)) w21) (K23 w21))) (K23 w21)) (K23 w21)))))))))))))) (br (decide ((65536 : Int) < at_3)) (R (.returned (.int .i64 4)) w5) (R (.returned (.int .i64 0)) w5)))
set_option maxRecDepth 100000 in
theorem e_markup_Check (l_1 : Option Addr) (l_1n : Nat) (l_1c : Nat) (R : Ending → World → Prop) (w : World) : fnV Tryz.prog Tryz.f20 an_markup_Check [.slice l_1 l_1n l_1c] R w = sh_markup_Check l_1 l_1n l_1c R w := by kernel_rfl
theorem c_markup_Check {l_1 : Option Addr} {l_1n : Nat} {l_1c : Nat} {R : Ending → World → Prop} {w : World} (h : sh_markup_Check l_1 l_1n l_1c R w) : Calls Tryz.prog F_markup_Check ⟨[.slice l_1 l_1n l_1c]⟩ w R := calls_of_fnV Tryz.func20 (by rw [e_markup_Check]; exact h)

def an_ref09_Check : Ann := .two (.leaf) (.two (.leaf) (.two (.two (.leaf) (.one (.loop 42535295865117307932921825928971026428 [(3, .one (.int .i64)), (4, .one (.int .i64))] (.two (.two (.leaf) (.two (.leaf) (.leaf))) (.two (.one (.two (.leaf) (.two (.one (.cut 33488896 [(16, .one (.bool))] (.leaf) (.two (.two (.leaf) (.leaf)) (.cut 17146314752 [(25, .one (.bool))] (.leaf) (.two (.two (.leaf) (.leaf)) (.cut 9007182074871808 [(34, .one (.bool))] (.leaf) (.two (.two (.leaf) (.leaf)) (.cut 4602678819172646912 [(53, .one (.bool))] (.leaf) (.two (.two (.leaf) (.leaf)) (.cut 4717754796851217825792 [(62, .one (.bool))] (.leaf) (.two (.two (.leaf) (.leaf)) (.cut 618965297276207267804348416 [(72, .one (.bool))] (.leaf) (.two (.two (.leaf) (.leaf)) (.cut 316293680037414660236726239232 [(89, .one (.bool))] (.leaf) (.two (.two (.leaf) (.leaf)) (.cut 41538057955628563970893596457959424 [(98, .one (.bool))] (.leaf) (.two (.two (.leaf) (.leaf)) (.two (.leaf) (.two (.two (.leaf) (.leaf)) (.leaf)))))))))))))))))))) (.leaf)))) (.leaf)))))) (.two (.two (.leaf) (.two (.two (.leaf) (.leaf)) (.leaf))) (.two (.leaf) (.leaf)))))
def sh_ref09_Check (l_1 : Option Addr) (l_1n : Nat) (l_1c : Nat) (R : Ending → World → Prop) (w : World) : Prop :=
  ∃ (I2 : Int → Int → World → Nat → Prop), (∃ m7 : Nat, I2 0 0 w m7) ∧ ∀ (at_3 : Int) (i_4 : Int) (w5 : World) (m6 : Nat), I2 at_3 i_4 w5 m6 → ∀ _ : Env, (br (decide ((i_4 : Int) < ((l_1n : Int)))) (idx l_1 l_1n i_4 4 fun p8 =>
  ∃ (x9 : Int), World.cell? w5 (p8.add 0) = some (.int .i64 x9) ∧ (∃ (x10 : List UInt8), World.cell? w5 (p8.add 1) = some (.string ⟨⟨x10⟩⟩) ∧ (∃ (x11 : List UInt8), World.cell? w5 (p8.add 2) = some (.string ⟨⟨x11⟩⟩) ∧ (∃ (x12 : Int), World.cell? w5 (p8.add 3) = some (.int .i64 x12) ∧ (al w5 41 [.int .i64 0, .string ⟨⟨[]⟩⟩, .string ⟨⟨[]⟩⟩, .int .i64 0] fun p13 w14 =>
  stL w14 p13 0 [.int .i64 x9, .string ⟨⟨x10⟩⟩, .string ⟨⟨x11⟩⟩, .int .i64 x12] fun w15 =>
  ∀ (K16 : Bool → World → Prop), (∀ (t16_17 : Bool) (w18 : World), (∀ _ : Env, (br t16_17 (R (.returned (.int .i64 8)) w18) (∀ (K19 : Bool → World → Prop), (∀ (t25_20 : Bool) (w21 : World), (∀ _ : Env, (br t25_20 (R (.returned (.int .i64 12)) w21) (∀ (K22 : Bool → World → Prop), (∀ (t34_23 : Bool) (w24 : World), (∀ _ : Env, (br t34_23 (R (.returned (.int .i64 12)) w24) (∀ (K25 : Bool → World → Prop), (∀ (t53_26 : Bool) (w27 : World), (∀ _ : Env, (br t53_26 (R (.returned (.int .i64 5)) w27) (∀ (K28 : Bool → World → Prop), (∀ (t62_29 : Bool) (w30 : World), (∀ _ : Env, (br t62_29 (R (.returned (.int .i64 11)) w30) (∀ (K31 : Bool → World → Prop), (∀ (t72_32 : Bool) (w33 : World), (∀ _ : Env, (br t72_32 (R (.returned (.int .i64 10)) w33) (∀ (K34 : Bool → World → Prop), (∀ (t89_35 : Bool) (w36 : World), (∀ _ : Env, (br t89_35 (R (.returned (.int .i64 3)) w36) (∀ (K37 : Bool → World → Prop), (∀ (t98_38 : Bool) (w39 : World), (∀ _ : Env, (br t98_38 (R (.returned (.int .i64 3)) w39) (∃ (x40 : Int), World.cell? w39 (p13.add 3) = some (.int .i64 x40) ∧ (br (decide ((x40 : Int) ≠ at_3)) (R (.returned (.int .i64 9)) w39) (∃ (x41 : Int), World.cell? w39 (p13.add 0) = some (.int .i64 x41) ∧ (∃ (x42 : List UInt8), World.cell? w39 (p13.add 1) = some (.string ⟨⟨x42⟩⟩) ∧ (∃ (x43 : List UInt8), World.cell? w39 (p13.add 2) = some (.string ⟨⟨x43⟩⟩) ∧ (∃ (x44 : Int), World.cell? w39 (p13.add 3) = some (.int .i64 x44) ∧ (Calls Tryz.prog 33 ⟨[.agg ⟨[.int .i64 x41, .string ⟨⟨x42⟩⟩, .string ⟨⟨x43⟩⟩, .int .i64 x44]⟩]⟩ w39 fun (e45 : Ending) (w46 : World) =>
  ∃ (x47 : List UInt8), e45 = .returned (.string ⟨⟨x47⟩⟩) ∧ (∃ m48 : Nat, m48 < m6 ∧ I2 (IntKind.i64.wrap (at_3 + ((List.length x47 : Int)))) (IntKind.i64.wrap (i_4 + 1)) w46 m48)))))))))) → K37 t98_38 w39) → (∃ (x49 : Int), World.cell? w36 (p13.add 0) = some (.int .i64 x49) ∧ (br (decide ((x49 : Int) ≠ 1)) (∃ (x50 : Int), World.cell? w36 (p13.add 0) = some (.int .i64 x50) ∧ (br (decide ((x50 : Int) ≠ 3)) (∃ (x51 : List UInt8), World.cell? w36 (p13.add 1) = some (.string ⟨⟨x51⟩⟩) ∧ (∃ (x52 : List UInt8), World.cell? w36 (p13.add 2) = some (.string ⟨⟨x52⟩⟩) ∧ (Calls Tryz.prog 39 ⟨[.string ⟨⟨x51⟩⟩, .string ⟨⟨x52⟩⟩]⟩ w36 fun (e53 : Ending) (w54 : World) =>
  ∃ (x55 : Bool), e53 = .returned (.bool x55) ∧ (K37 (!x55) w54)))) (K37 false w36))) (K37 false w36)))))) → K34 t89_35 w36) → (∃ (x56 : Int), World.cell? w33 (p13.add 0) = some (.int .i64 x56) ∧ (br (decide ((x56 : Int) = 3)) (∃ (x57 : List UInt8), World.cell? w33 (p13.add 2) = some (.string ⟨⟨x57⟩⟩) ∧ (K34 (decide ((x57 : List UInt8) ≠ ([]))) w33)) (K34 false w33)))))) → K31 t72_32 w33) → (∃ (x58 : Int), World.cell? w30 (p13.add 0) = some (.int .i64 x58) ∧ (br (decide ((x58 : Int) = 1)) (br (decide ((0 : Int) < i_4)) (idx l_1 l_1n (IntKind.i64.wrap (i_4 - 1)) 4 fun p59 =>
  ∃ (x60 : Int), World.cell? w30 (p59.add 0) = some (.int .i64 x60) ∧ (K31 (decide ((x60 : Int) = 1)) w30)) (K31 false w30)) (K31 false w30)))))) → K28 t62_29 w30) → (∃ (x61 : Int), World.cell? w27 (p13.add 0) = some (.int .i64 x61) ∧ (br (decide ((x61 : Int) = 1)) (∃ (x62 : List UInt8), World.cell? w27 (p13.add 2) = some (.string ⟨⟨x62⟩⟩) ∧ (Calls Tryz.prog 28 ⟨[.string ⟨⟨x62⟩⟩]⟩ w27 fun (e63 : Ending) (w64 : World) =>
  ∃ (x65 : Int), e63 = .returned (.int .i64 x65) ∧ (K28 (decide ((x65 : Int) ≠ 0)) w64))) (K28 false w27)))))) → K25 t53_26 w27) → (∃ (x66 : Int), World.cell? w24 (p13.add 0) = some (.int .i64 x66) ∧ (br (decide ((x66 : Int) = 1)) (∃ (x67 : List UInt8), World.cell? w24 (p13.add 2) = some (.string ⟨⟨x67⟩⟩) ∧ (K25 (decide ((x67 : List UInt8) = ([]))) w24)) (K25 false w24)))))) → K22 t34_23 w24) → (drw w21 fun w68 =>
  ∃ (x69 : Int), World.cell? w68 (p13.add 0) = some (.int .i64 x69) ∧ (br (decide ((x69 : Int) ≠ 1)) (∃ (x70 : List UInt8), World.cell? w68 (p13.add 1) = some (.string ⟨⟨x70⟩⟩) ∧ ((Calls Tryz.prog 37 ⟨[.string ⟨⟨x70⟩⟩]⟩ w68 fun (e71 : Ending) (w72 : World) =>
  ∃ (x73 : Bool), e71 = .returned (.bool x73) ∧ (br (!x73) (((K22 true w72) ∧ True) ∧ (((K22 true w72) ∧ True) ∧ (((K22 true w72) ∧ True) ∧ (K22 true w72) ∧ True) ∧ True) ∧ True) ((∃ (x74 : Int), World.cell? w72 (p13.add 0) = some (.int .i64 x74) ∧ (∃ (x75 : List UInt8), World.cell? w72 (p13.add 1) = some (.string ⟨⟨x75⟩⟩) ∧ ((Calls Tryz.prog 38 ⟨[.string ⟨⟨x75⟩⟩]⟩ w72 fun (e76 : Ending) (w77 : World) =>
  ∃ (x78 : Bool), e76 = .returned (.bool x78) ∧ (K22 (decide (((decide ((x74 : Int) = 4)) : Bool) ≠ x78)) w77)) ∧ True))) ∧ ((∃ (x79 : Int), World.cell? w72 (p13.add 0) = some (.int .i64 x79) ∧ (∃ (x80 : List UInt8), World.cell? w72 (p13.add 1) = some (.string ⟨⟨x80⟩⟩) ∧ ((Calls Tryz.prog 38 ⟨[.string ⟨⟨x80⟩⟩]⟩ w72 fun (e81 : Ending) (w82 : World) =>
  ∃ (x83 : Bool), e81 = .returned (.bool x83) ∧ (K22 (decide (((decide ((x79 : Int) = 4)) : Bool) ≠ x83)) w82)) ∧ True))) ∧ (∃ (x84 : List UInt8), World.cell? w72 (p13.add 1) = some (.string ⟨⟨x84⟩⟩) ∧ ((∃ (x85 : Int), World.cell? w72 (p13.add 0) = some (.int .i64 x85) ∧ ((Calls Tryz.prog 38 ⟨[.string ⟨⟨x84⟩⟩]⟩ w72 fun (e86 : Ending) (w87 : World) =>
  ∃ (x88 : Bool), e86 = .returned (.bool x88) ∧ (K22 (decide (((decide ((x85 : Int) = 4)) : Bool) ≠ x88)) w87)) ∧ True)) ∧ (Calls Tryz.prog 38 ⟨[.string ⟨⟨x84⟩⟩]⟩ w72 fun (e89 : Ending) (w90 : World) =>
  ∃ (x91 : Bool), e89 = .returned (.bool x91) ∧ (∃ (x92 : Int), World.cell? w90 (p13.add 0) = some (.int .i64 x92) ∧ (K22 (decide (((decide ((x92 : Int) = 4)) : Bool) ≠ x91)) w90))) ∧ True)) ∧ True) ∧ True))) ∧ True)) ((((K22 false w68) ∧ True) ∧ (((K22 false w68) ∧ True) ∧ (((K22 false w68) ∧ True) ∧ (K22 false w68) ∧ True) ∧ True) ∧ True) ∧ True)))))) → K19 t25_20 w21) → (∃ (x93 : Int), World.cell? w18 (p13.add 0) = some (.int .i64 x93) ∧ (br (decide ((x93 : Int) = 1)) (∃ (x94 : List UInt8), World.cell? w18 (p13.add 1) = some (.string ⟨⟨x94⟩⟩) ∧ (K19 (decide ((x94 : List UInt8) ≠ ([]))) w18)) (K19 false w18)))))) → K16 t16_17 w18) → (∃ (x95 : Int), World.cell? w15 (p13.add 0) = some (.int .i64 x95) ∧ (br (decide ((x95 : Int) < 1)) (K16 true w15) (∃ (x96 : Int), World.cell? w15 (p13.add 0) = some (.int .i64 x96) ∧ (K16 (decide ((4 : Int) < x96)) w15))))))))) (br (decide ((65536 : Int) < at_3)) (R (.returned (.int .i64 4)) w5) (R (.returned (.int .i64 0)) w5)))
set_option maxRecDepth 100000 in
theorem e_ref09_Check (l_1 : Option Addr) (l_1n : Nat) (l_1c : Nat) (R : Ending → World → Prop) (w : World) : fnV Tryz.prog Tryz.f21 an_ref09_Check [.slice l_1 l_1n l_1c] R w = sh_ref09_Check l_1 l_1n l_1c R w := by kernel_rfl
theorem c_ref09_Check {l_1 : Option Addr} {l_1n : Nat} {l_1c : Nat} {R : Ending → World → Prop} {w : World} (h : sh_ref09_Check l_1 l_1n l_1c R w) : Calls Tryz.prog F_ref09_Check ⟨[.slice l_1 l_1n l_1c]⟩ w R := calls_of_fnV Tryz.func21 (by rw [e_ref09_Check]; exact h)

def an_markup_Nested : Ann := .two (.leaf) (.two (.two (.leaf) (.two (.two (.leaf) (.leaf)) (.leaf))) (.two (.leaf) (.two (.two (.leaf) (.one (.loop 562949953419308 [(3, .one (.slice)), (11, .one (.int .i64))] (.two (.leaf) (.two (.two (.leaf) (.leaf)) (.two (.one (.two (.leaf) (.two (.leaf) (.one (.two (.leaf) (.two (.two (.leaf) (.two (.leaf) (.two (.two (.leaf) (.leaf)) (.leaf)))) (.two (.leaf) (.two (.cut 8795556151300 [] (.two (.leaf) (.two (.two (.leaf) (.leaf)) (.leaf))) (.leaf)) (.leaf))))))))) (.leaf))))))) (.two (.two (.leaf) (.two (.two (.leaf) (.leaf)) (.leaf))) (.two (.leaf) (.leaf))))))
def sh_markup_Nested (l_1 : Option Addr) (l_1n : Nat) (l_1c : Nat) (R : Ending → World → Prop) (w : World) : Prop :=
  Calls Tryz.prog 20 ⟨[.slice l_1 l_1n l_1c]⟩ w fun (e2 : Ending) (w3 : World) =>
  ∃ (x4 : Int), e2 = .returned (.int .i64 x4) ∧ (br (decide ((x4 : Int) ≠ 0)) (R (.returned (.int .i64 1)) w3) (∃ (I5 : Option Addr → Nat → Nat → Int → World → Nat → Prop), (∃ m10 : Nat, I5 none 0 0 0 w3 m10) ∧ ∀ (open_6 : Option Addr) (open_6n : Nat) (open_6c : Nat) (t11_7 : Int) (w8 : World) (m9 : Nat), I5 open_6 open_6n open_6c t11_7 w8 m9 → ∀ _ : Env, (br (decide ((t11_7 : Int) < ((l_1n : Int)))) (idx l_1 l_1n t11_7 4 fun p11 =>
  ∃ (x12 : Int), World.cell? w8 (p11.add 0) = some (.int .i64 x12) ∧ (∃ (x13 : List UInt8), World.cell? w8 (p11.add 1) = some (.string ⟨⟨x13⟩⟩) ∧ (∃ (x14 : List UInt8), World.cell? w8 (p11.add 2) = some (.string ⟨⟨x14⟩⟩) ∧ (∃ (x15 : Int), World.cell? w8 (p11.add 3) = some (.int .i64 x15) ∧ (al w8 41 [.int .i64 0, .string ⟨⟨[]⟩⟩, .string ⟨⟨[]⟩⟩, .int .i64 0] fun p16 w17 =>
  stL w17 p16 0 [.int .i64 x12, .string ⟨⟨x13⟩⟩, .string ⟨⟨x14⟩⟩, .int .i64 x15] fun w18 =>
  ∃ (x19 : Int), World.cell? w18 (p16.add 0) = some (.int .i64 x19) ∧ (br (decide ((x19 : Int) = 2)) (∃ (x20 : List UInt8), World.cell? w18 (p16.add 1) = some (.string ⟨⟨x20⟩⟩) ∧ (al w18 9 [.string ⟨⟨x20⟩⟩] fun p21 w22 =>
  app Tryz.prog [32, 32] 32 (.slice open_6 open_6n open_6c) (.slice (some p21) 1 1) w22 fun a23 a23n a23c w24 =>
  br (decide ((16 : Int) < ((a23n : Int)))) (R (.returned (.int .i64 4)) w24) (∃ m25 : Nat, m25 < m9 ∧ I5 a23 a23n a23c (IntKind.i64.wrap (t11_7 + 1)) w24 m25))) (br (decide ((x19 : Int) = 3)) (∀ (K26 : World → Prop), (∀  (w27 : World), (∀ _ : Env, (sls open_6 open_6c 0 (IntKind.i64.wrap (((open_6n : Int)) - 1)) 1 fun a28 a28n a28c =>
  ∃ m29 : Nat, m29 < m9 ∧ I5 a28 a28n a28c (IntKind.i64.wrap (t11_7 + 1)) w27 m29)) → K26 w27) → (drw w18 fun w30 =>
  br (decide ((((open_6n : Int)) : Int) = 0)) (R (.returned (.int .i64 12)) w30) (idx open_6 open_6n (IntKind.i64.wrap (((open_6n : Int)) - 1)) 1 fun p31 =>
  ∃ (x32 : List UInt8), World.cell? w30 p31 = some (.string ⟨⟨x32⟩⟩) ∧ (∃ (x33 : List UInt8), World.cell? w30 (p16.add 1) = some (.string ⟨⟨x33⟩⟩) ∧ (br (decide ((x32 : List UInt8) ≠ x33)) (R (.returned (.int .i64 12)) w30) (K26 w30)))))) (∃ m34 : Nat, m34 < m9 ∧ I5 open_6 open_6n open_6c (IntKind.i64.wrap (t11_7 + 1)) w18 m34)))))))) (br (decide ((0 : Int) < ((open_6n : Int)))) (R (.returned (.int .i64 12)) w8) (R (.returned (.int .i64 0)) w8)))))
set_option maxRecDepth 100000 in
theorem e_markup_Nested (l_1 : Option Addr) (l_1n : Nat) (l_1c : Nat) (R : Ending → World → Prop) (w : World) : fnV Tryz.prog Tryz.f22 an_markup_Nested [.slice l_1 l_1n l_1c] R w = sh_markup_Nested l_1 l_1n l_1c R w := by kernel_rfl
theorem c_markup_Nested {l_1 : Option Addr} {l_1n : Nat} {l_1c : Nat} {R : Ending → World → Prop} {w : World} (h : sh_markup_Nested l_1 l_1n l_1c R w) : Calls Tryz.prog F_markup_Nested ⟨[.slice l_1 l_1n l_1c]⟩ w R := calls_of_fnV Tryz.func22 (by rw [e_markup_Nested]; exact h)

def an_ref09_Nested : Ann := .two (.leaf) (.two (.two (.leaf) (.two (.two (.leaf) (.leaf)) (.leaf))) (.two (.leaf) (.two (.two (.leaf) (.one (.loop 144115188075855388 [(3, .one (.slice)), (4, .one (.int .i64))] (.two (.two (.leaf) (.two (.leaf) (.leaf))) (.two (.one (.two (.leaf) (.one (.two (.leaf) (.two (.two (.leaf) (.two (.leaf) (.two (.two (.leaf) (.leaf)) (.leaf)))) (.two (.leaf) (.two (.cut 4503565267632132 [] (.two (.leaf) (.two (.two (.leaf) (.leaf)) (.leaf))) (.leaf)) (.leaf)))))))) (.leaf)))))) (.two (.two (.leaf) (.two (.two (.leaf) (.leaf)) (.leaf))) (.two (.leaf) (.leaf))))))
def sh_ref09_Nested (l_1 : Option Addr) (l_1n : Nat) (l_1c : Nat) (R : Ending → World → Prop) (w : World) : Prop :=
  Calls Tryz.prog 21 ⟨[.slice l_1 l_1n l_1c]⟩ w fun (e2 : Ending) (w3 : World) =>
  ∃ (x4 : Int), e2 = .returned (.int .i64 x4) ∧ (br (decide ((x4 : Int) ≠ 0)) (R (.returned (.int .i64 1)) w3) (al w3 9 [] fun p5 w6 =>
  ∃ (I7 : Option Addr → Nat → Nat → Int → World → Nat → Prop), (∃ m12 : Nat, I7 (some p5) 0 0 0 w6 m12) ∧ ∀ (open_8 : Option Addr) (open_8n : Nat) (open_8c : Nat) (i_9 : Int) (w10 : World) (m11 : Nat), I7 open_8 open_8n open_8c i_9 w10 m11 → ∀ _ : Env, (br (decide ((i_9 : Int) < ((l_1n : Int)))) (idx l_1 l_1n i_9 4 fun p13 =>
  ∃ (x14 : Int), World.cell? w10 (p13.add 0) = some (.int .i64 x14) ∧ (br (decide ((x14 : Int) = 2)) (idx l_1 l_1n i_9 4 fun p15 =>
  ∃ (x16 : List UInt8), World.cell? w10 (p15.add 1) = some (.string ⟨⟨x16⟩⟩) ∧ (al w10 9 [.string ⟨⟨x16⟩⟩] fun p17 w18 =>
  app Tryz.prog [32, 32] 32 (.slice open_8 open_8n open_8c) (.slice (some p17) 1 1) w18 fun a19 a19n a19c w20 =>
  br (decide ((16 : Int) < ((a19n : Int)))) (R (.returned (.int .i64 4)) w20) (∃ m21 : Nat, m21 < m11 ∧ I7 a19 a19n a19c (IntKind.i64.wrap (i_9 + 1)) w20 m21))) (br (decide ((x14 : Int) = 3)) (∀ (K22 : World → Prop), (∀  (w23 : World), (∀ _ : Env, (sls open_8 open_8c 0 (IntKind.i64.wrap (((open_8n : Int)) - 1)) 1 fun a24 a24n a24c =>
  ∃ m25 : Nat, m25 < m11 ∧ I7 a24 a24n a24c (IntKind.i64.wrap (i_9 + 1)) w23 m25)) → K22 w23) → (drw w10 fun w26 =>
  br (decide ((((open_8n : Int)) : Int) = 0)) (R (.returned (.int .i64 12)) w26) (idx open_8 open_8n (IntKind.i64.wrap (((open_8n : Int)) - 1)) 1 fun p27 =>
  ∃ (x28 : List UInt8), World.cell? w26 p27 = some (.string ⟨⟨x28⟩⟩) ∧ (idx l_1 l_1n i_9 4 fun p29 =>
  ∃ (x30 : List UInt8), World.cell? w26 (p29.add 1) = some (.string ⟨⟨x30⟩⟩) ∧ (br (decide ((x28 : List UInt8) ≠ x30)) (R (.returned (.int .i64 12)) w26) (K22 w26)))))) (∃ m31 : Nat, m31 < m11 ∧ I7 open_8 open_8n open_8c (IntKind.i64.wrap (i_9 + 1)) w10 m31)))) (br (decide ((0 : Int) < ((open_8n : Int)))) (R (.returned (.int .i64 12)) w10) (R (.returned (.int .i64 0)) w10)))))
set_option maxRecDepth 100000 in
theorem e_ref09_Nested (l_1 : Option Addr) (l_1n : Nat) (l_1c : Nat) (R : Ending → World → Prop) (w : World) : fnV Tryz.prog Tryz.f23 an_ref09_Nested [.slice l_1 l_1n l_1c] R w = sh_ref09_Nested l_1 l_1n l_1c R w := by kernel_rfl
theorem c_ref09_Nested {l_1 : Option Addr} {l_1n : Nat} {l_1c : Nat} {R : Ending → World → Prop} {w : World} (h : sh_ref09_Nested l_1 l_1n l_1c R w) : Calls Tryz.prog F_ref09_Nested ⟨[.slice l_1 l_1n l_1c]⟩ w R := calls_of_fnV Tryz.func23 (by rw [e_ref09_Nested]; exact h)

def an_markup_parts : Ann := .two (.leaf) (.two (.leaf) (.leaf))
def sh_markup_parts (s_1 : List UInt8) (R : Ending → World → Prop) (w : World) : Prop :=
  al w 9 [.string ⟨⟨s_1⟩⟩] fun p2 w3 =>
  R (.returned (.func (.func 40) ⟨[]⟩ ⟨[.pointer (some p2)]⟩)) w3
set_option maxRecDepth 100000 in
theorem e_markup_parts (s_1 : List UInt8) (R : Ending → World → Prop) (w : World) : fnV Tryz.prog Tryz.f24 an_markup_parts [.string ⟨⟨s_1⟩⟩] R w = sh_markup_parts s_1 R w := by kernel_rfl
theorem c_markup_parts {s_1 : List UInt8} {R : Ending → World → Prop} {w : World} (h : sh_markup_parts s_1 R w) : Calls Tryz.prog F_markup_parts ⟨[.string ⟨⟨s_1⟩⟩]⟩ w R := calls_of_fnV Tryz.func24 (by rw [e_markup_parts]; exact h)

def an_charset_Check : Ann := .two (.leaf) (.two (.two (.leaf) (.two (.two (.leaf) (.leaf)) (.leaf))) (.two (.two (.leaf) (.one (.rf [2, 10] 0))) (.two (.leaf) (.leaf))))
def sh_charset_Check (s_1 : List UInt8) (R : Ending → World → Prop) (w : World) : Prop :=
  al w 25 [.int .i64 0] fun p2 w3 =>
  br (decide ((65536 : Int) < ((List.length s_1 : Int)))) (stL w3 p2 0 [.int .i64 4] fun w4 =>
  ∃ (x5 : Int), World.cell? w4 p2 = some (.int .i64 x5) ∧ (R (.returned (.int .i64 x5)) w4)) (Calls Tryz.prog 42 ⟨[.string ⟨⟨s_1⟩⟩]⟩ w3 fun (e6 : Ending) (w7 : World) =>
  ∃ (x8 : Fn) (x8a : Array Value) (x8b : Array Value), e6 = .returned (.func x8 x8a x8b) ∧ (∀ base9 : Env, RFw Tryz.prog none 22 (cdAt Tryz.f25 [1, 1, 0, 1, 2]) (upd (upd base9 10 (.func x8 x8a x8b)) 2 (.pointer (some p2))) [] w7 0 (fun ds10 w11 =>
  stL w11 p2 0 [.int .i64 0] fun w15 =>
  retD ds10 w15 fun w16 =>
  ∃ (x17 : Int), World.cell? w16 p2 = some (.int .i64 x17) ∧ (R (.returned (.int .i64 x17)) w16)) (fun ds10 w11 =>
  retD ds10 w11 fun w18 =>
  ∃ (x19 : Int), World.cell? w18 p2 = some (.int .i64 x19) ∧ (R (.returned (.int .i64 x19)) w18)) (fun ds10 w11 =>
  stL w11 p2 0 [.int .i64 0] fun w12 =>
  retD ds10 w12 fun w13 =>
  ∃ (x14 : Int), World.cell? w13 p2 = some (.int .i64 x14) ∧ (R (.returned (.int .i64 x14)) w13))))
set_option maxRecDepth 100000 in
theorem e_charset_Check (s_1 : List UInt8) (R : Ending → World → Prop) (w : World) : fnV Tryz.prog Tryz.f25 an_charset_Check [.string ⟨⟨s_1⟩⟩] R w = sh_charset_Check s_1 R w := by kernel_rfl
theorem c_charset_Check {s_1 : List UInt8} {R : Ending → World → Prop} {w : World} (h : sh_charset_Check s_1 R w) : Calls Tryz.prog F_charset_Check ⟨[.string ⟨⟨s_1⟩⟩]⟩ w R := calls_of_fnV Tryz.func25 (by rw [e_charset_Check]; exact h)
def anA_charset_Check_1 : Ann := .leaf
def anB_charset_Check_1 : Ann := .one (.two (.leaf) (.two (.leaf) (.two (.two (.leaf) (.leaf)) (.leaf))))
def rf_charset_Check_1 (t2_20 : Option Addr) (t10_21 : Fn) (t10_21a : Array Value) (t10_21b : Array Value) (t11_22 : Value) (t12_23 : List UInt8) (l : Nat) (Kn Kr Kx : World → World → Prop) (w : World) : Prop :=
  Ext w w ∧ ∀ w24 : World, Upd l w w24 → (sidx t12_23 0 fun b25 =>
  Calls Tryz.prog 43 ⟨[.int .u8 ((b25.toNat : Int))]⟩ w24 fun (e26 : Ending) (w27 : World) =>
  ∃ (x28 : Int), e26 = .returned (.int .i64 x28) ∧ (br (decide ((x28 : Int) = 0)) (dr t2_20 fun p30 =>
  stL w27 p30 0 [.int .i64 11] fun w29 =>
  Kr w24 w29) (br (decide ((x28 : Int) = 2)) (dr t2_20 fun p32 =>
  stL w27 p32 0 [.int .i64 11] fun w31 =>
  Kr w24 w31) (Kn w24 w27))))
set_option maxRecDepth 100000 in
theorem er_charset_Check_1 (base : Env) (t2_20 : Option Addr) (t10_21 : Fn) (t10_21a : Array Value) (t10_21b : Array Value) (t11_22 : Value) (t12_23 : List UInt8) (l : Nat) (Kn Kr Kx : World → World → Prop) (w : World) : fragV Tryz.prog 22 anA_charset_Check_1 anB_charset_Check_1 (cdAt Tryz.f25 [1, 1, 0, 1, 2, 5]) (cdAt Tryz.f25 [1, 1, 0, 1, 2, 6]) l 0 Kn Kr Kx (updPs [11, 12] [t11_22, .string ⟨⟨t12_23⟩⟩] (upd (upd base 10 (.func t10_21 t10_21a t10_21b)) 2 (.pointer t2_20))) w = rf_charset_Check_1 t2_20 t10_21 t10_21a t10_21b t11_22 t12_23 l Kn Kr Kx w := by kernel_rfl
theorem cd_charset_Check_1 : cdAt Tryz.f25 [1, 1, 0, 1, 2] = .rangeFunc (Operand.tmp 10) #[11, 12] (cdAt Tryz.f25 [1, 1, 0, 1, 2, 5]) (cdAt Tryz.f25 [1, 1, 0, 1, 2, 6]) := by kernel_rfl

def an_markup_read : Ann := .two (.leaf) (.two (.leaf) (.two (.leaf) (.cut 133169248 [(5, .one (.str))] (.two (.leaf) (.two (.leaf) (.two (.leaf) (.leaf)))) (.two (.leaf) (.two (.two (.leaf) (.two (.two (.leaf) (.leaf)) (.leaf))) (.two (.leaf) (.cut 1924145348608 [] (.two (.leaf) (.two (.leaf) (.leaf))) (.cut 18012199486233600 [] (.two (.leaf) (.two (.leaf) (.two (.leaf) (.two (.leaf) (.two (.leaf) (.leaf)))))) (.two (.two (.leaf) (.two (.two (.leaf) (.leaf)) (.leaf))) (.two (.leaf) (.leaf)))))))))))
def sh_markup_read (part_1 : List UInt8) (R : Ending → World → Prop) (w : World) : Prop :=
  al w 41 [.int .i64 0, .string ⟨⟨[]⟩⟩, .string ⟨⟨[]⟩⟩, .int .i64 0] fun p2 w3 =>
  ssl part_1 1 (IntKind.i64.wrap (((List.length part_1 : Int)) - 1)) fun s4 =>
  Calls Tryz.prog 44 ⟨[.string ⟨⟨s4⟩⟩, .string ⟨⟨[47]⟩⟩]⟩ w3 fun (e5 : Ending) (w6 : World) =>
  ∃ (x7 : List UInt8), e5 = .returned (.string ⟨⟨x7⟩⟩) ∧ (∀ (K8 : List UInt8 → World → Prop), (∀ (bare_9 : List UInt8) (w10 : World), (∀ _ : Env, (Calls Tryz.prog 46 ⟨[.string ⟨⟨bare_9⟩⟩]⟩ w10 fun (e11 : Ending) (w12 : World) =>
  ∃ (x13 : List UInt8) (x14 : Bool) (x15 : Value) (x16 : Bool), e11 = .returned (.tuple ⟨[.agg ⟨[.string ⟨⟨x13⟩⟩, .bool x14, x15]⟩, .bool x16]⟩) ∧ (al w12 60 [.string ⟨⟨[]⟩⟩, .bool false, .nilFunc] fun p17 w18 =>
  stL w18 p17 0 [.string ⟨⟨x13⟩⟩, .bool x14, x15] fun w19 =>
  br (!x16) (stL w19 p2 0 [.int .i64 0, .string ⟨⟨[]⟩⟩, .string ⟨⟨[]⟩⟩, .int .i64 0] fun w20 =>
  ∃ (x21 : Int), World.cell? w20 (p2.add 0) = some (.int .i64 x21) ∧ (∃ (x22 : List UInt8), World.cell? w20 (p2.add 1) = some (.string ⟨⟨x22⟩⟩) ∧ (∃ (x23 : List UInt8), World.cell? w20 (p2.add 2) = some (.string ⟨⟨x23⟩⟩) ∧ (∃ (x24 : Int), World.cell? w20 (p2.add 3) = some (.int .i64 x24) ∧ (R (.returned (.tuple ⟨[.agg ⟨[.int .i64 x21, .string ⟨⟨x22⟩⟩, .string ⟨⟨x23⟩⟩, .int .i64 x24]⟩, .int .i64 12]⟩)) w20))))) (∃ (x25 : List UInt8), World.cell? w19 (p17.add 0) = some (.string ⟨⟨x25⟩⟩) ∧ (al w19 41 [.int .i64 0, .string ⟨⟨[]⟩⟩, .string ⟨⟨[]⟩⟩, .int .i64 0] fun p26 w27 =>
  stL w27 p26 0 [.int .i64 2, .string ⟨⟨x25⟩⟩, .string ⟨⟨[]⟩⟩, .int .i64 0] fun w28 =>
  ∀ (K29 : World → Prop), (∀  (w30 : World), (∀ _ : Env, (∀ (K31 : World → Prop), (∀  (w32 : World), (∀ _ : Env, (∃ (x33 : Int), World.cell? w32 (p26.add 0) = some (.int .i64 x33) ∧ (br (decide ((x33 : Int) = 3)) (∃ (x34 : Bool), World.cell? w32 (p17.add 1) = some (.bool x34) ∧ (br x34 (stL w32 p2 0 [.int .i64 0, .string ⟨⟨[]⟩⟩, .string ⟨⟨[]⟩⟩, .int .i64 0] fun w35 =>
  ∃ (x36 : Int), World.cell? w35 (p2.add 0) = some (.int .i64 x36) ∧ (∃ (x37 : List UInt8), World.cell? w35 (p2.add 1) = some (.string ⟨⟨x37⟩⟩) ∧ (∃ (x38 : List UInt8), World.cell? w35 (p2.add 2) = some (.string ⟨⟨x38⟩⟩) ∧ (∃ (x39 : Int), World.cell? w35 (p2.add 3) = some (.int .i64 x39) ∧ (R (.returned (.tuple ⟨[.agg ⟨[.int .i64 x36, .string ⟨⟨x37⟩⟩, .string ⟨⟨x38⟩⟩, .int .i64 x39]⟩, .int .i64 3]⟩)) w35))))) (∃ (x40 : Int), World.cell? w32 (p26.add 0) = some (.int .i64 x40) ∧ (∃ (x41 : List UInt8), World.cell? w32 (p26.add 1) = some (.string ⟨⟨x41⟩⟩) ∧ (∃ (x42 : List UInt8), World.cell? w32 (p26.add 2) = some (.string ⟨⟨x42⟩⟩) ∧ (∃ (x43 : Int), World.cell? w32 (p26.add 3) = some (.int .i64 x43) ∧ (Calls Tryz.prog 36 ⟨[.agg ⟨[.int .i64 x40, .string ⟨⟨x41⟩⟩, .string ⟨⟨x42⟩⟩, .int .i64 x43]⟩]⟩ w32 fun (e44 : Ending) (w45 : World) =>
  ∃ (x46 : Bool), e44 = .returned (.bool x46) ∧ (br (!x46) (stL w45 p2 0 [.int .i64 0, .string ⟨⟨[]⟩⟩, .string ⟨⟨[]⟩⟩, .int .i64 0] fun w47 =>
  ∃ (x48 : Int), World.cell? w47 (p2.add 0) = some (.int .i64 x48) ∧ (∃ (x49 : List UInt8), World.cell? w47 (p2.add 1) = some (.string ⟨⟨x49⟩⟩) ∧ (∃ (x50 : List UInt8), World.cell? w47 (p2.add 2) = some (.string ⟨⟨x50⟩⟩) ∧ (∃ (x51 : Int), World.cell? w47 (p2.add 3) = some (.int .i64 x51) ∧ (R (.returned (.tuple ⟨[.agg ⟨[.int .i64 x48, .string ⟨⟨x49⟩⟩, .string ⟨⟨x50⟩⟩, .int .i64 x51]⟩, .int .i64 3]⟩)) w47))))) (∃ (x52 : Int), World.cell? w45 (p26.add 0) = some (.int .i64 x52) ∧ (∃ (x53 : List UInt8), World.cell? w45 (p26.add 1) = some (.string ⟨⟨x53⟩⟩) ∧ (∃ (x54 : List UInt8), World.cell? w45 (p26.add 2) = some (.string ⟨⟨x54⟩⟩) ∧ (∃ (x55 : Int), World.cell? w45 (p26.add 3) = some (.int .i64 x55) ∧ (Calls Tryz.prog 32 ⟨[.agg ⟨[.int .i64 x52, .string ⟨⟨x53⟩⟩, .string ⟨⟨x54⟩⟩, .int .i64 x55]⟩]⟩ w45 fun (e56 : Ending) (w57 : World) =>
  ∃ (x58 : List UInt8), e56 = .returned (.string ⟨⟨x58⟩⟩) ∧ (br (decide ((x58 : List UInt8) ≠ part_1)) (stL w57 p2 0 [.int .i64 0, .string ⟨⟨[]⟩⟩, .string ⟨⟨[]⟩⟩, .int .i64 0] fun w59 =>
  ∃ (x60 : Int), World.cell? w59 (p2.add 0) = some (.int .i64 x60) ∧ (∃ (x61 : List UInt8), World.cell? w59 (p2.add 1) = some (.string ⟨⟨x61⟩⟩) ∧ (∃ (x62 : List UInt8), World.cell? w59 (p2.add 2) = some (.string ⟨⟨x62⟩⟩) ∧ (∃ (x63 : Int), World.cell? w59 (p2.add 3) = some (.int .i64 x63) ∧ (R (.returned (.tuple ⟨[.agg ⟨[.int .i64 x60, .string ⟨⟨x61⟩⟩, .string ⟨⟨x62⟩⟩, .int .i64 x63]⟩, .int .i64 3]⟩)) w59))))) (∃ (x64 : Int), World.cell? w57 (p26.add 0) = some (.int .i64 x64) ∧ (∃ (x65 : List UInt8), World.cell? w57 (p26.add 1) = some (.string ⟨⟨x65⟩⟩) ∧ (∃ (x66 : List UInt8), World.cell? w57 (p26.add 2) = some (.string ⟨⟨x66⟩⟩) ∧ (∃ (x67 : Int), World.cell? w57 (p26.add 3) = some (.int .i64 x67) ∧ (stL w57 p2 0 [.int .i64 x64, .string ⟨⟨x65⟩⟩, .string ⟨⟨x66⟩⟩, .int .i64 x67] fun w68 =>
  ∃ (x69 : Int), World.cell? w68 (p2.add 0) = some (.int .i64 x69) ∧ (∃ (x70 : List UInt8), World.cell? w68 (p2.add 1) = some (.string ⟨⟨x70⟩⟩) ∧ (∃ (x71 : List UInt8), World.cell? w68 (p2.add 2) = some (.string ⟨⟨x71⟩⟩) ∧ (∃ (x72 : Int), World.cell? w68 (p2.add 3) = some (.int .i64 x72) ∧ (R (.returned (.tuple ⟨[.agg ⟨[.int .i64 x69, .string ⟨⟨x70⟩⟩, .string ⟨⟨x71⟩⟩, .int .i64 x72]⟩, .int .i64 0]⟩)) w68))))))))))))))))))))))) (∃ (x73 : Int), World.cell? w32 (p26.add 0) = some (.int .i64 x73) ∧ (∃ (x74 : List UInt8), World.cell? w32 (p26.add 1) = some (.string ⟨⟨x74⟩⟩) ∧ (∃ (x75 : List UInt8), World.cell? w32 (p26.add 2) = some (.string ⟨⟨x75⟩⟩) ∧ (∃ (x76 : Int), World.cell? w32 (p26.add 3) = some (.int .i64 x76) ∧ (Calls Tryz.prog 36 ⟨[.agg ⟨[.int .i64 x73, .string ⟨⟨x74⟩⟩, .string ⟨⟨x75⟩⟩, .int .i64 x76]⟩]⟩ w32 fun (e77 : Ending) (w78 : World) =>
  ∃ (x79 : Bool), e77 = .returned (.bool x79) ∧ (br (!x79) (stL w78 p2 0 [.int .i64 0, .string ⟨⟨[]⟩⟩, .string ⟨⟨[]⟩⟩, .int .i64 0] fun w80 =>
  ∃ (x81 : Int), World.cell? w80 (p2.add 0) = some (.int .i64 x81) ∧ (∃ (x82 : List UInt8), World.cell? w80 (p2.add 1) = some (.string ⟨⟨x82⟩⟩) ∧ (∃ (x83 : List UInt8), World.cell? w80 (p2.add 2) = some (.string ⟨⟨x83⟩⟩) ∧ (∃ (x84 : Int), World.cell? w80 (p2.add 3) = some (.int .i64 x84) ∧ (R (.returned (.tuple ⟨[.agg ⟨[.int .i64 x81, .string ⟨⟨x82⟩⟩, .string ⟨⟨x83⟩⟩, .int .i64 x84]⟩, .int .i64 3]⟩)) w80))))) (∃ (x85 : Int), World.cell? w78 (p26.add 0) = some (.int .i64 x85) ∧ (∃ (x86 : List UInt8), World.cell? w78 (p26.add 1) = some (.string ⟨⟨x86⟩⟩) ∧ (∃ (x87 : List UInt8), World.cell? w78 (p26.add 2) = some (.string ⟨⟨x87⟩⟩) ∧ (∃ (x88 : Int), World.cell? w78 (p26.add 3) = some (.int .i64 x88) ∧ (Calls Tryz.prog 32 ⟨[.agg ⟨[.int .i64 x85, .string ⟨⟨x86⟩⟩, .string ⟨⟨x87⟩⟩, .int .i64 x88]⟩]⟩ w78 fun (e89 : Ending) (w90 : World) =>
  ∃ (x91 : List UInt8), e89 = .returned (.string ⟨⟨x91⟩⟩) ∧ (br (decide ((x91 : List UInt8) ≠ part_1)) (stL w90 p2 0 [.int .i64 0, .string ⟨⟨[]⟩⟩, .string ⟨⟨[]⟩⟩, .int .i64 0] fun w92 =>
  ∃ (x93 : Int), World.cell? w92 (p2.add 0) = some (.int .i64 x93) ∧ (∃ (x94 : List UInt8), World.cell? w92 (p2.add 1) = some (.string ⟨⟨x94⟩⟩) ∧ (∃ (x95 : List UInt8), World.cell? w92 (p2.add 2) = some (.string ⟨⟨x95⟩⟩) ∧ (∃ (x96 : Int), World.cell? w92 (p2.add 3) = some (.int .i64 x96) ∧ (R (.returned (.tuple ⟨[.agg ⟨[.int .i64 x93, .string ⟨⟨x94⟩⟩, .string ⟨⟨x95⟩⟩, .int .i64 x96]⟩, .int .i64 3]⟩)) w92))))) (∃ (x97 : Int), World.cell? w90 (p26.add 0) = some (.int .i64 x97) ∧ (∃ (x98 : List UInt8), World.cell? w90 (p26.add 1) = some (.string ⟨⟨x98⟩⟩) ∧ (∃ (x99 : List UInt8), World.cell? w90 (p26.add 2) = some (.string ⟨⟨x99⟩⟩) ∧ (∃ (x100 : Int), World.cell? w90 (p26.add 3) = some (.int .i64 x100) ∧ (stL w90 p2 0 [.int .i64 x97, .string ⟨⟨x98⟩⟩, .string ⟨⟨x99⟩⟩, .int .i64 x100] fun w101 =>
  ∃ (x102 : Int), World.cell? w101 (p2.add 0) = some (.int .i64 x102) ∧ (∃ (x103 : List UInt8), World.cell? w101 (p2.add 1) = some (.string ⟨⟨x103⟩⟩) ∧ (∃ (x104 : List UInt8), World.cell? w101 (p2.add 2) = some (.string ⟨⟨x104⟩⟩) ∧ (∃ (x105 : Int), World.cell? w101 (p2.add 3) = some (.int .i64 x105) ∧ (R (.returned (.tuple ⟨[.agg ⟨[.int .i64 x102, .string ⟨⟨x103⟩⟩, .string ⟨⟨x104⟩⟩, .int .i64 x105]⟩, .int .i64 0]⟩)) w101)))))))))))))))))))))))) → K31 w32) → (Calls Tryz.prog 47 ⟨[.string ⟨⟨s4⟩⟩, .string ⟨⟨[47]⟩⟩]⟩ w30 fun (e106 : Ending) (w107 : World) =>
  ∃ (x108 : Bool), e106 = .returned (.bool x108) ∧ (br x108 (stL w107 (p26.add 0) 0 [.int .i64 3] fun w109 =>
  K31 w109) (Calls Tryz.prog 49 ⟨[.string ⟨⟨s4⟩⟩, .string ⟨⟨[47]⟩⟩]⟩ w107 fun (e110 : Ending) (w111 : World) =>
  ∃ (x112 : List UInt8), e110 = .returned (.string ⟨⟨x112⟩⟩) ∧ (Calls Tryz.prog 48 ⟨[.string ⟨⟨x112⟩⟩, .string ⟨⟨[32]⟩⟩]⟩ w111 fun (e113 : Ending) (w114 : World) =>
  ∃ (x115 : List UInt8) (x116 : List UInt8) (x117 : Bool), e113 = .returned (.tuple ⟨[.string ⟨⟨x115⟩⟩, .string ⟨⟨x116⟩⟩, .bool x117]⟩) ∧ (br x117 (stL w114 (p26.add 2) 0 [.string ⟨⟨x116⟩⟩] fun w118 =>
  K31 w118) (K31 w114)))))))) → K29 w30) → (∃ (x119 : Bool), World.cell? w28 (p17.add 1) = some (.bool x119) ∧ (br x119 (stL w28 (p26.add 0) 0 [.int .i64 4] fun w120 =>
  K29 w120) (K29 w28)))))))) → K8 bare_9 w10) → (Calls Tryz.prog 45 ⟨[.string ⟨⟨x7⟩⟩, .string ⟨⟨[32, 47]⟩⟩]⟩ w6 fun (e121 : Ending) (w122 : World) =>
  ∃ (x123 : Int), e121 = .returned (.int .i64 x123) ∧ (br (decide ((0 : Int) ≤ x123)) (ssl x7 0 x123 fun s124 =>
  K8 s124 w122) (K8 x7 w122))))
set_option maxRecDepth 100000 in
theorem e_markup_read (part_1 : List UInt8) (R : Ending → World → Prop) (w : World) : fnV Tryz.prog Tryz.f26 an_markup_read [.string ⟨⟨part_1⟩⟩] R w = sh_markup_read part_1 R w := by kernel_rfl
theorem c_markup_read {part_1 : List UInt8} {R : Ending → World → Prop} {w : World} (h : sh_markup_read part_1 R w) : Calls Tryz.prog F_markup_read ⟨[.string ⟨⟨part_1⟩⟩]⟩ w R := calls_of_fnV Tryz.func26 (by rw [e_markup_read]; exact h)

def an_ref09_tag : Ann := .two (.leaf) (.two (.leaf) (.cut 16711712 [(5, .one (.bool))] (.leaf) (.cut 117440528 [(4, .one (.str))] (.two (.leaf) (.two (.leaf) (.leaf))) (.two (.leaf) (.cut 35184237871168 [(6, .one (.int .i64))] (.one (.loop 35184237871168 [(6, .one (.int .i64))] (.two (.two (.leaf) (.two (.leaf) (.leaf))) (.one (.leaf))))) (.two (.leaf) (.two (.two (.leaf) (.two (.two (.leaf) (.leaf)) (.leaf))) (.two (.leaf) (.cut 2417851634725658722042624 [(8, .one (.str))] (.cut 4607182418800017408 [(61, .one (.bool))] (.leaf) (.two (.two (.leaf) (.cut 75539416981840613868032 [(9, .one (.int .i64))] (.one (.loop 75539416981840613868032 [(9, .one (.int .i64))] (.two (.two (.leaf) (.two (.leaf) (.leaf))) (.one (.leaf))))) (.leaf))) (.leaf))) (.two (.leaf) (.cut 2456537265456926483002949632 [] (.one (.two (.leaf) (.two (.leaf) (.two (.leaf) (.two (.leaf) (.leaf)))))) (.two (.two (.leaf) (.two (.two (.leaf) (.leaf)) (.leaf))) (.two (.leaf) (.leaf))))))))))))))
def sh_ref09_tag (s_1 : List UInt8) (R : Ending → World → Prop) (w : World) : Prop :=
  al w 41 [.int .i64 0, .string ⟨⟨[]⟩⟩, .string ⟨⟨[]⟩⟩, .int .i64 0] fun p2 w3 =>
  ssl s_1 1 (IntKind.i64.wrap (((List.length s_1 : Int)) - 1)) fun s4 =>
  ∀ (K5 : Bool → World → Prop), (∀ (close_6 : Bool) (w7 : World), (∀ _ : Env, (∀ (K8 : List UInt8 → World → Prop), (∀ (in_9 : List UInt8) (w10 : World), (∀ _ : Env, (∀ (K11 : Int → World → Prop), (∀ (n_12 : Int) (w13 : World), (∀ _ : Env, (ssl in_9 0 n_12 fun s14 =>
  Calls Tryz.prog 37 ⟨[.string ⟨⟨s14⟩⟩]⟩ w13 fun (e15 : Ending) (w16 : World) =>
  ∃ (x17 : Bool), e15 = .returned (.bool x17) ∧ (br (!x17) (stL w16 p2 0 [.int .i64 0, .string ⟨⟨[]⟩⟩, .string ⟨⟨[]⟩⟩, .int .i64 0] fun w18 =>
  ∃ (x19 : Int), World.cell? w18 (p2.add 0) = some (.int .i64 x19) ∧ (∃ (x20 : List UInt8), World.cell? w18 (p2.add 1) = some (.string ⟨⟨x20⟩⟩) ∧ (∃ (x21 : List UInt8), World.cell? w18 (p2.add 2) = some (.string ⟨⟨x21⟩⟩) ∧ (∃ (x22 : Int), World.cell? w18 (p2.add 3) = some (.int .i64 x22) ∧ (R (.returned (.tuple ⟨[.agg ⟨[.int .i64 x19, .string ⟨⟨x20⟩⟩, .string ⟨⟨x21⟩⟩, .int .i64 x22]⟩, .int .i64 12]⟩)) w18))))) (∀ (K23 : List UInt8 → World → Prop), (∀ (value_24 : List UInt8) (w25 : World), (∀ _ : Env, (al w25 41 [.int .i64 0, .string ⟨⟨[]⟩⟩, .string ⟨⟨[]⟩⟩, .int .i64 0] fun p26 w27 =>
  stL w27 p26 0 [.int .i64 2, .string ⟨⟨s14⟩⟩, .string ⟨⟨value_24⟩⟩, .int .i64 0] fun w28 =>
  ∀ (K29 : World → Prop), (∀  (w30 : World), (∀ _ : Env, (∃ (x31 : Int), World.cell? w30 (p26.add 0) = some (.int .i64 x31) ∧ (∃ (x32 : List UInt8), World.cell? w30 (p26.add 1) = some (.string ⟨⟨x32⟩⟩) ∧ (∃ (x33 : List UInt8), World.cell? w30 (p26.add 2) = some (.string ⟨⟨x33⟩⟩) ∧ (∃ (x34 : Int), World.cell? w30 (p26.add 3) = some (.int .i64 x34) ∧ (Calls Tryz.prog 33 ⟨[.agg ⟨[.int .i64 x31, .string ⟨⟨x32⟩⟩, .string ⟨⟨x33⟩⟩, .int .i64 x34]⟩]⟩ w30 fun (e35 : Ending) (w36 : World) =>
  ∃ (x37 : List UInt8), e35 = .returned (.string ⟨⟨x37⟩⟩) ∧ (br (decide ((x37 : List UInt8) ≠ s_1)) (stL w36 p2 0 [.int .i64 0, .string ⟨⟨[]⟩⟩, .string ⟨⟨[]⟩⟩, .int .i64 0] fun w38 =>
  ∃ (x39 : Int), World.cell? w38 (p2.add 0) = some (.int .i64 x39) ∧ (∃ (x40 : List UInt8), World.cell? w38 (p2.add 1) = some (.string ⟨⟨x40⟩⟩) ∧ (∃ (x41 : List UInt8), World.cell? w38 (p2.add 2) = some (.string ⟨⟨x41⟩⟩) ∧ (∃ (x42 : Int), World.cell? w38 (p2.add 3) = some (.int .i64 x42) ∧ (R (.returned (.tuple ⟨[.agg ⟨[.int .i64 x39, .string ⟨⟨x40⟩⟩, .string ⟨⟨x41⟩⟩, .int .i64 x42]⟩, .int .i64 3]⟩)) w38))))) (br close_6 (Calls Tryz.prog 38 ⟨[.string ⟨⟨s14⟩⟩]⟩ w36 fun (e43 : Ending) (w44 : World) =>
  ∃ (x45 : Bool), e43 = .returned (.bool x45) ∧ (br x45 (stL w44 p2 0 [.int .i64 0, .string ⟨⟨[]⟩⟩, .string ⟨⟨[]⟩⟩, .int .i64 0] fun w46 =>
  ∃ (x47 : Int), World.cell? w46 (p2.add 0) = some (.int .i64 x47) ∧ (∃ (x48 : List UInt8), World.cell? w46 (p2.add 1) = some (.string ⟨⟨x48⟩⟩) ∧ (∃ (x49 : List UInt8), World.cell? w46 (p2.add 2) = some (.string ⟨⟨x49⟩⟩) ∧ (∃ (x50 : Int), World.cell? w46 (p2.add 3) = some (.int .i64 x50) ∧ (R (.returned (.tuple ⟨[.agg ⟨[.int .i64 x47, .string ⟨⟨x48⟩⟩, .string ⟨⟨x49⟩⟩, .int .i64 x50]⟩, .int .i64 3]⟩)) w46))))) (br (decide ((value_24 : List UInt8) ≠ ([]))) (stL w44 p2 0 [.int .i64 0, .string ⟨⟨[]⟩⟩, .string ⟨⟨[]⟩⟩, .int .i64 0] fun w51 =>
  ∃ (x52 : Int), World.cell? w51 (p2.add 0) = some (.int .i64 x52) ∧ (∃ (x53 : List UInt8), World.cell? w51 (p2.add 1) = some (.string ⟨⟨x53⟩⟩) ∧ (∃ (x54 : List UInt8), World.cell? w51 (p2.add 2) = some (.string ⟨⟨x54⟩⟩) ∧ (∃ (x55 : Int), World.cell? w51 (p2.add 3) = some (.int .i64 x55) ∧ (R (.returned (.tuple ⟨[.agg ⟨[.int .i64 x52, .string ⟨⟨x53⟩⟩, .string ⟨⟨x54⟩⟩, .int .i64 x55]⟩, .int .i64 3]⟩)) w51))))) (br (!close_6) (Calls Tryz.prog 39 ⟨[.string ⟨⟨s14⟩⟩, .string ⟨⟨value_24⟩⟩]⟩ w44 fun (e56 : Ending) (w57 : World) =>
  ∃ (x58 : Bool), e56 = .returned (.bool x58) ∧ (br (!x58) (stL w57 p2 0 [.int .i64 0, .string ⟨⟨[]⟩⟩, .string ⟨⟨[]⟩⟩, .int .i64 0] fun w59 =>
  ∃ (x60 : Int), World.cell? w59 (p2.add 0) = some (.int .i64 x60) ∧ (∃ (x61 : List UInt8), World.cell? w59 (p2.add 1) = some (.string ⟨⟨x61⟩⟩) ∧ (∃ (x62 : List UInt8), World.cell? w59 (p2.add 2) = some (.string ⟨⟨x62⟩⟩) ∧ (∃ (x63 : Int), World.cell? w59 (p2.add 3) = some (.int .i64 x63) ∧ (R (.returned (.tuple ⟨[.agg ⟨[.int .i64 x60, .string ⟨⟨x61⟩⟩, .string ⟨⟨x62⟩⟩, .int .i64 x63]⟩, .int .i64 3]⟩)) w59))))) (∃ (x64 : Int), World.cell? w57 (p26.add 0) = some (.int .i64 x64) ∧ (∃ (x65 : List UInt8), World.cell? w57 (p26.add 1) = some (.string ⟨⟨x65⟩⟩) ∧ (∃ (x66 : List UInt8), World.cell? w57 (p26.add 2) = some (.string ⟨⟨x66⟩⟩) ∧ (∃ (x67 : Int), World.cell? w57 (p26.add 3) = some (.int .i64 x67) ∧ (stL w57 p2 0 [.int .i64 x64, .string ⟨⟨x65⟩⟩, .string ⟨⟨x66⟩⟩, .int .i64 x67] fun w68 =>
  ∃ (x69 : Int), World.cell? w68 (p2.add 0) = some (.int .i64 x69) ∧ (∃ (x70 : List UInt8), World.cell? w68 (p2.add 1) = some (.string ⟨⟨x70⟩⟩) ∧ (∃ (x71 : List UInt8), World.cell? w68 (p2.add 2) = some (.string ⟨⟨x71⟩⟩) ∧ (∃ (x72 : Int), World.cell? w68 (p2.add 3) = some (.int .i64 x72) ∧ (R (.returned (.tuple ⟨[.agg ⟨[.int .i64 x69, .string ⟨⟨x70⟩⟩, .string ⟨⟨x71⟩⟩, .int .i64 x72]⟩, .int .i64 0]⟩)) w68))))))))))) (∃ (x73 : Int), World.cell? w44 (p26.add 0) = some (.int .i64 x73) ∧ (∃ (x74 : List UInt8), World.cell? w44 (p26.add 1) = some (.string ⟨⟨x74⟩⟩) ∧ (∃ (x75 : List UInt8), World.cell? w44 (p26.add 2) = some (.string ⟨⟨x75⟩⟩) ∧ (∃ (x76 : Int), World.cell? w44 (p26.add 3) = some (.int .i64 x76) ∧ (stL w44 p2 0 [.int .i64 x73, .string ⟨⟨x74⟩⟩, .string ⟨⟨x75⟩⟩, .int .i64 x76] fun w77 =>
  ∃ (x78 : Int), World.cell? w77 (p2.add 0) = some (.int .i64 x78) ∧ (∃ (x79 : List UInt8), World.cell? w77 (p2.add 1) = some (.string ⟨⟨x79⟩⟩) ∧ (∃ (x80 : List UInt8), World.cell? w77 (p2.add 2) = some (.string ⟨⟨x80⟩⟩) ∧ (∃ (x81 : Int), World.cell? w77 (p2.add 3) = some (.int .i64 x81) ∧ (R (.returned (.tuple ⟨[.agg ⟨[.int .i64 x78, .string ⟨⟨x79⟩⟩, .string ⟨⟨x80⟩⟩, .int .i64 x81]⟩, .int .i64 0]⟩)) w77))))))))))))) (br (!close_6) (Calls Tryz.prog 39 ⟨[.string ⟨⟨s14⟩⟩, .string ⟨⟨value_24⟩⟩]⟩ w36 fun (e82 : Ending) (w83 : World) =>
  ∃ (x84 : Bool), e82 = .returned (.bool x84) ∧ (br (!x84) (stL w83 p2 0 [.int .i64 0, .string ⟨⟨[]⟩⟩, .string ⟨⟨[]⟩⟩, .int .i64 0] fun w85 =>
  ∃ (x86 : Int), World.cell? w85 (p2.add 0) = some (.int .i64 x86) ∧ (∃ (x87 : List UInt8), World.cell? w85 (p2.add 1) = some (.string ⟨⟨x87⟩⟩) ∧ (∃ (x88 : List UInt8), World.cell? w85 (p2.add 2) = some (.string ⟨⟨x88⟩⟩) ∧ (∃ (x89 : Int), World.cell? w85 (p2.add 3) = some (.int .i64 x89) ∧ (R (.returned (.tuple ⟨[.agg ⟨[.int .i64 x86, .string ⟨⟨x87⟩⟩, .string ⟨⟨x88⟩⟩, .int .i64 x89]⟩, .int .i64 3]⟩)) w85))))) (∃ (x90 : Int), World.cell? w83 (p26.add 0) = some (.int .i64 x90) ∧ (∃ (x91 : List UInt8), World.cell? w83 (p26.add 1) = some (.string ⟨⟨x91⟩⟩) ∧ (∃ (x92 : List UInt8), World.cell? w83 (p26.add 2) = some (.string ⟨⟨x92⟩⟩) ∧ (∃ (x93 : Int), World.cell? w83 (p26.add 3) = some (.int .i64 x93) ∧ (stL w83 p2 0 [.int .i64 x90, .string ⟨⟨x91⟩⟩, .string ⟨⟨x92⟩⟩, .int .i64 x93] fun w94 =>
  ∃ (x95 : Int), World.cell? w94 (p2.add 0) = some (.int .i64 x95) ∧ (∃ (x96 : List UInt8), World.cell? w94 (p2.add 1) = some (.string ⟨⟨x96⟩⟩) ∧ (∃ (x97 : List UInt8), World.cell? w94 (p2.add 2) = some (.string ⟨⟨x97⟩⟩) ∧ (∃ (x98 : Int), World.cell? w94 (p2.add 3) = some (.int .i64 x98) ∧ (R (.returned (.tuple ⟨[.agg ⟨[.int .i64 x95, .string ⟨⟨x96⟩⟩, .string ⟨⟨x97⟩⟩, .int .i64 x98]⟩, .int .i64 0]⟩)) w94))))))))))) (∃ (x99 : Int), World.cell? w36 (p26.add 0) = some (.int .i64 x99) ∧ (∃ (x100 : List UInt8), World.cell? w36 (p26.add 1) = some (.string ⟨⟨x100⟩⟩) ∧ (∃ (x101 : List UInt8), World.cell? w36 (p26.add 2) = some (.string ⟨⟨x101⟩⟩) ∧ (∃ (x102 : Int), World.cell? w36 (p26.add 3) = some (.int .i64 x102) ∧ (stL w36 p2 0 [.int .i64 x99, .string ⟨⟨x100⟩⟩, .string ⟨⟨x101⟩⟩, .int .i64 x102] fun w103 =>
  ∃ (x104 : Int), World.cell? w103 (p2.add 0) = some (.int .i64 x104) ∧ (∃ (x105 : List UInt8), World.cell? w103 (p2.add 1) = some (.string ⟨⟨x105⟩⟩) ∧ (∃ (x106 : List UInt8), World.cell? w103 (p2.add 2) = some (.string ⟨⟨x106⟩⟩) ∧ (∃ (x107 : Int), World.cell? w103 (p2.add 3) = some (.int .i64 x107) ∧ (R (.returned (.tuple ⟨[.agg ⟨[.int .i64 x104, .string ⟨⟨x105⟩⟩, .string ⟨⟨x106⟩⟩, .int .i64 x107]⟩, .int .i64 0]⟩)) w103)))))))))))))))))) → K29 w30) → (br close_6 (stL w28 (p26.add 0) 0 [.int .i64 3] fun w108 =>
  K29 w108) (Calls Tryz.prog 38 ⟨[.string ⟨⟨s14⟩⟩]⟩ w28 fun (e109 : Ending) (w110 : World) =>
  ∃ (x111 : Bool), e109 = .returned (.bool x111) ∧ (br x111 (stL w110 (p26.add 0) 0 [.int .i64 4] fun w112 =>
  K29 w112) (K29 w110)))))) → K23 value_24 w25) → (∀ (K113 : Bool → World → Prop), (∀ (t61_114 : Bool) (w115 : World), (∀ _ : Env, (br t61_114 (∀ (K116 : Int → World → Prop), (∀ (m_117 : Int) (w118 : World), (∀ _ : Env, (ssl in_9 (IntKind.i64.wrap (n_12 + 1)) m_117 fun s119 =>
  K23 s119 w118)) → K116 m_117 w118) → (∃ (I120 : Int → World → Nat → Prop), (∃ m124 : Nat, I120 (IntKind.i64.wrap (n_12 + 1)) w115 m124) ∧ ∀ (m_121 : Int) (w122 : World) (m123 : Nat), I120 m_121 w122 m123 → ∀ _ : Env, (br (decide ((m_121 : Int) < ((List.length in_9 : Int)))) (sidx in_9 m_121 fun b125 =>
  br (decide ((((b125.toNat : Int)) : Int) ≠ 47)) (∃ m126 : Nat, m126 < m123 ∧ I120 (IntKind.i64.wrap (m_121 + 1)) w122 m126) (K116 m_121 w122)) (K116 m_121 w122)))) (K23 ([]) w115))) → K113 t61_114 w115) → (br (decide ((n_12 : Int) < ((List.length in_9 : Int)))) (sidx in_9 n_12 fun b127 =>
  K113 (decide ((((b127.toNat : Int)) : Int) = 32)) w16) (K113 false w16))))))) → K11 n_12 w13) → (∃ (I128 : Int → World → Nat → Prop), (∃ m132 : Nat, I128 0 w10 m132) ∧ ∀ (n_129 : Int) (w130 : World) (m131 : Nat), I128 n_129 w130 m131 → ∀ _ : Env, (br (decide ((n_129 : Int) < ((List.length in_9 : Int)))) (sidx in_9 n_129 fun b133 =>
  br (decide ((((b133.toNat : Int)) : Int) ≠ 32)) (sidx in_9 n_129 fun b134 =>
  br (decide ((((b134.toNat : Int)) : Int) ≠ 47)) (∃ m135 : Nat, m135 < m131 ∧ I128 (IntKind.i64.wrap (n_129 + 1)) w130 m135) (K11 n_129 w130)) (K11 n_129 w130)) (K11 n_129 w130))))) → K8 in_9 w10) → (br close_6 (ssl s4 1 (List.length s4 : Int) fun s136 =>
  K8 s136 w7) (K8 s4 w7)))) → K5 close_6 w7) → (br (decide ((0 : Int) < ((List.length s4 : Int)))) (sidx s4 0 fun b137 =>
  K5 (decide ((((b137.toNat : Int)) : Int) = 47)) w3) (K5 false w3))
set_option maxRecDepth 100000 in
theorem e_ref09_tag (s_1 : List UInt8) (R : Ending → World → Prop) (w : World) : fnV Tryz.prog Tryz.f27 an_ref09_tag [.string ⟨⟨s_1⟩⟩] R w = sh_ref09_tag s_1 R w := by kernel_rfl
theorem c_ref09_tag {s_1 : List UInt8} {R : Ending → World → Prop} {w : World} (h : sh_ref09_tag s_1 R w) : Calls Tryz.prog F_ref09_tag ⟨[.string ⟨⟨s_1⟩⟩]⟩ w R := calls_of_fnV Tryz.func27 (by rw [e_ref09_tag]; exact h)

def an_ref01_Check : Ann := .two (.leaf) (.two (.two (.leaf) (.two (.two (.leaf) (.leaf)) (.leaf))) (.two (.leaf) (.two (.two (.leaf) (.one (.loop 17179867188 [(4, .one (.int .i64))] (.two (.two (.leaf) (.two (.leaf) (.leaf))) (.two (.one (.two (.leaf) (.two (.leaf) (.two (.two (.leaf) (.leaf)) (.leaf))))) (.leaf)))))) (.two (.leaf) (.leaf)))))
def sh_ref01_Check (s_1 : List UInt8) (R : Ending → World → Prop) (w : World) : Prop :=
  br (decide ((65536 : Int) < ((List.length s_1 : Int)))) (R (.returned (.int .i64 4)) w) (Calls Tryz.prog 50 ⟨[.string ⟨⟨s_1⟩⟩]⟩ w fun (e2 : Ending) (w3 : World) =>
  ∃ (x4 : Option Addr) (x4n : Nat) (x4c : Nat), e2 = .returned (.slice x4 x4n x4c) ∧ (∃ (I5 : Int → World → Nat → Prop), (∃ m9 : Nat, I5 0 w3 m9) ∧ ∀ (i_6 : Int) (w7 : World) (m8 : Nat), I5 i_6 w7 m8 → ∀ _ : Env, (br (decide ((i_6 : Int) < ((List.length s_1 : Int)))) (sidx s_1 i_6 fun b10 =>
  Calls Tryz.prog 51 ⟨[.int .u8 ((b10.toNat : Int))]⟩ w7 fun (e11 : Ending) (w12 : World) =>
  ∃ (x13 : Int), e11 = .returned (.int .i64 x13) ∧ (br (decide ((x13 : Int) = 0)) (R (.returned (.int .i64 11)) w12) (br (decide ((x13 : Int) = 2)) (idx x4 x4n i_6 1 fun p14 =>
  ∃ (x15 : Bool), World.cell? w12 p14 = some (.bool x15) ∧ (br (!x15) (R (.returned (.int .i64 11)) w12) (∃ m16 : Nat, m16 < m8 ∧ I5 (IntKind.i64.wrap (i_6 + 1)) w12 m16))) (∃ m17 : Nat, m17 < m8 ∧ I5 (IntKind.i64.wrap (i_6 + 1)) w12 m17)))) (R (.returned (.int .i64 0)) w7))))
set_option maxRecDepth 100000 in
theorem e_ref01_Check (s_1 : List UInt8) (R : Ending → World → Prop) (w : World) : fnV Tryz.prog Tryz.f28 an_ref01_Check [.string ⟨⟨s_1⟩⟩] R w = sh_ref01_Check s_1 R w := by kernel_rfl
theorem c_ref01_Check {s_1 : List UInt8} {R : Ending → World → Prop} {w : World} (h : sh_ref01_Check s_1 R w) : Calls Tryz.prog F_ref01_Check ⟨[.string ⟨⟨s_1⟩⟩]⟩ w R := calls_of_fnV Tryz.func28 (by rw [e_ref01_Check]; exact h)

def an_strings_Builder_WriteString : Ann := .two (.leaf) (.two (.leaf) (.two (.leaf) (.two (.leaf) (.leaf))))
def sh_strings_Builder_WriteString (b_1 : Option Addr) (s_2 : List UInt8) (R : Ending → World → Prop) (w : World) : Prop :=
  Calls Tryz.prog 52 ⟨[.pointer b_1]⟩ w fun (e3 : Ending) (w4 : World) =>
  e3 = .returned (.tuple ⟨[]⟩) ∧ (dr b_1 fun p5 =>
  ∃ (x6 : Option Addr) (x6n : Nat) (x6c : Nat), World.cell? w4 (p5.add 1) = some (.slice x6 x6n x6c) ∧ (app Tryz.prog [49, 9] 49 (.slice x6 x6n x6c) (.string ⟨⟨s_2⟩⟩) w4 fun a7 a7n a7c w8 =>
  dr b_1 fun p9 =>
  stL w8 (p9.add 1) 0 [.slice a7 a7n a7c] fun w10 =>
  R (.returned (.tuple ⟨[.int .i64 ((List.length s_2 : Int)), .nilIface]⟩)) w10))
set_option maxRecDepth 100000 in
theorem e_strings_Builder_WriteString (b_1 : Option Addr) (s_2 : List UInt8) (R : Ending → World → Prop) (w : World) : fnV Tryz.prog Tryz.f29 an_strings_Builder_WriteString [.pointer b_1, .string ⟨⟨s_2⟩⟩] R w = sh_strings_Builder_WriteString b_1 s_2 R w := by kernel_rfl
theorem c_strings_Builder_WriteString {b_1 : Option Addr} {s_2 : List UInt8} {R : Ending → World → Prop} {w : World} (h : sh_strings_Builder_WriteString b_1 s_2 R w) : Calls Tryz.prog F_strings_Builder_WriteString ⟨[.pointer b_1, .string ⟨⟨s_2⟩⟩]⟩ w R := calls_of_fnV Tryz.func29 (by rw [e_strings_Builder_WriteString]; exact h)

def an_markup_tags : Ann := .two (.leaf) (.two (.leaf) (.two (.leaf) (.leaf)))
def sh_markup_tags  (R : Ending → World → Prop) (w : World) : Prop :=
  Calls Tryz.prog 53 ⟨[.int .i64 8]⟩ w fun (e1 : Ending) (w2 : World) =>
  ∃ (x3 : Fn) (x3a : Array Value) (x3b : Array Value), e1 = .returned (.func x3 x3a x3b) ∧ (Calls Tryz.prog 53 ⟨[.int .i64 64]⟩ w2 fun (e4 : Ending) (w5 : World) =>
  ∃ (x6 : Fn) (x6a : Array Value) (x6b : Array Value), e4 = .returned (.func x6 x6a x6b) ∧ (al w5 60 [.string ⟨⟨[97, 98]⟩⟩, .bool false, .func (.func 54) #[] #[], .string ⟨⟨[97, 100, 100]⟩⟩, .bool false, .func x3 x3a x3b, .string ⟨⟨[100, 101, 108]⟩⟩, .bool false, .func x3 x3a x3b, .string ⟨⟨[103, 97, 112]⟩⟩, .bool true, .func x6 x6a x6b, .string ⟨⟨[108, 98]⟩⟩, .bool true, .func (.func 55) #[] #[], .string ⟨⟨[110, 97, 109, 101]⟩⟩, .bool false, .func (.func 56) #[] #[], .string ⟨⟨[112, 98]⟩⟩, .bool true, .func (.func 56) #[] #[], .string ⟨⟨[115, 101, 99]⟩⟩, .bool true, .func (.func 56) #[] #[], .string ⟨⟨[117, 110, 99, 108, 101, 97, 114]⟩⟩, .bool false, .func (.func 55) #[] #[], .string ⟨⟨[118]⟩⟩, .bool true, .func (.func 55) #[] #[]] fun p7 w8 =>
  R (.returned (.slice (some p7) 10 10)) w8))
set_option maxRecDepth 100000 in
theorem e_markup_tags  (R : Ending → World → Prop) (w : World) : fnV Tryz.prog Tryz.f31 an_markup_tags [] R w = sh_markup_tags  R w := by kernel_rfl
theorem c_markup_tags  {R : Ending → World → Prop} {w : World} (h : sh_markup_tags  R w) : Calls Tryz.prog F_markup_tags ⟨[]⟩ w R := calls_of_fnV Tryz.func31 (by rw [e_markup_tags]; exact h)

end Go.Proofs
