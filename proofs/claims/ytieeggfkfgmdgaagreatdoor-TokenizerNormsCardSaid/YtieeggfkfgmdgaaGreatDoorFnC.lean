/- Written by program: for each function its verification condition, that it is the code's (by the kernel), and that it gives the call. -/
import Derived.Test.YtieeggfkfgmdgaaGreatDoorFn
namespace Go.Proofs
open Go Go.Sh
def an_transcript_value : Ann := .two (.leaf) (.two (.leaf) (.two (.one (.two (.leaf) (.two (.two (.leaf) (.leaf)) (.two (.leaf) (.two (.two (.leaf) (.leaf)) (.leaf)))))) (.two (.leaf) (.leaf))))
def sh_transcript_value (x_1 : Int) (x_2 : List UInt8) (x_3 : Int) (x_4 : Option Addr) (x_4n : Nat) (x_4c : Nat) (R : Ending → World → Prop) (w : World) : Prop :=
  al w 64 [.int .i64 x_1, .string ⟨⟨x_2⟩⟩, .int .i64 x_3, .slice x_4 x_4n x_4c] fun p5 w6 =>
  ∃ (x7 : Int), World.cell? w6 (p5.add 0) = some (.int .i64 x7) ∧ (idx (some (⟨2, 0, none⟩)) 12 x7 4 fun p8 =>
  ∃ (x9 : List UInt8), World.cell? w6 (p8.add 0) = some (.string ⟨⟨x9⟩⟩) ∧ (∃ (x10 : Bool), World.cell? w6 (p8.add 1) = some (.bool x10) ∧ (∃ (x11 : Bool), World.cell? w6 (p8.add 2) = some (.bool x11) ∧ (∃ (x12 : Bool), World.cell? w6 (p8.add 3) = some (.bool x12) ∧ (al w6 161 [.string ⟨⟨[]⟩⟩, .bool false, .bool false, .bool false] fun p13 w14 =>
  stL w14 p13 0 [.string ⟨⟨x9⟩⟩, .bool x10, .bool x11, .bool x12] fun w15 =>
  ∃ (x16 : Bool), World.cell? w15 (p13.add 1) = some (.bool x16) ∧ (br x16 (∃ (x17 : List UInt8), World.cell? w15 (p5.add 1) = some (.string ⟨⟨x17⟩⟩) ∧ (sadd ([32]) x17 fun s18 =>
  R (.returned (.string ⟨⟨s18⟩⟩)) w15)) (∃ (x19 : Bool), World.cell? w15 (p13.add 2) = some (.bool x19) ∧ (br x19 (∃ (x20 : Int), World.cell? w15 (p5.add 2) = some (.int .i64 x20) ∧ (Calls Tryz.prog 109 ⟨[.int .i64 x20]⟩ w15 fun (e21 : Ending) (w22 : World) =>
  ∃ (x23 : List UInt8), e21 = .returned (.string ⟨⟨x23⟩⟩) ∧ (sadd ([32]) x23 fun s24 =>
  R (.returned (.string ⟨⟨s24⟩⟩)) w22))) (R (.returned (.string ⟨⟨[]⟩⟩)) w15)))))))))
set_option maxRecDepth 100000 in
theorem e_transcript_value (x_1 : Int) (x_2 : List UInt8) (x_3 : Int) (x_4 : Option Addr) (x_4n : Nat) (x_4c : Nat) (R : Ending → World → Prop) (w : World) : fnV Tryz.prog Tryz.f143 an_transcript_value [.agg ⟨[.int .i64 x_1, .string ⟨⟨x_2⟩⟩, .int .i64 x_3, .slice x_4 x_4n x_4c]⟩] R w = sh_transcript_value x_1 x_2 x_3 x_4 x_4n x_4c R w := by kernel_rfl
theorem c_transcript_value {x_1 : Int} {x_2 : List UInt8} {x_3 : Int} {x_4 : Option Addr} {x_4n : Nat} {x_4c : Nat} {R : Ending → World → Prop} {w : World} (h : sh_transcript_value x_1 x_2 x_3 x_4 x_4n x_4c R w) : Calls Tryz.prog F_transcript_value ⟨[.agg ⟨[.int .i64 x_1, .string ⟨⟨x_2⟩⟩, .int .i64 x_3, .slice x_4 x_4n x_4c]⟩]⟩ w R := calls_of_fnV Tryz.func143 (by rw [e_transcript_value]; exact h)

def an_hands_rebuilt : Ann := .two (.leaf) (.two (.leaf) (.two (.leaf) (.two (.leaf) (.leaf))))
def sh_hands_rebuilt (l_1 : Option Addr) (l_1n : Nat) (l_1c : Nat) (replace_2 : Fn) (replace_2a : Array Value) (replace_2b : Array Value) (R : Ending → World → Prop) (w : World) : Prop :=
  al w 168 [.func replace_2 replace_2a replace_2b] fun p3 w4 =>
  al w4 197 [.nilFunc] fun p5 w6 =>
  stL w6 p5 0 [.func (.func 174) ⟨[]⟩ ⟨[.pointer (some p3), .pointer (some p5)]⟩] fun w7 =>
  ∃ (x8 : Fn) (x8a : Array Value) (x8b : Array Value), World.cell? w7 p5 = some (.func x8 x8a x8b) ∧ (CallV Tryz.prog (.func x8 x8a x8b) [.slice l_1 l_1n l_1c] w7 fun (e9 : Ending) (w10 : World) =>
  ∃ (x11 : Option Addr) (x11n : Nat) (x11c : Nat), e9 = .returned (.slice x11 x11n x11c) ∧ (Calls Tryz.prog 177 ⟨[.slice x11 x11n x11c]⟩ w10 fun (e12 : Ending) (w13 : World) =>
  ∃ (x14 : Option Addr) (x14n : Nat) (x14c : Nat), e12 = .returned (.slice x14 x14n x14c) ∧ (R (.returned (.slice x14 x14n x14c)) w13)))
set_option maxRecDepth 100000 in
theorem e_hands_rebuilt (l_1 : Option Addr) (l_1n : Nat) (l_1c : Nat) (replace_2 : Fn) (replace_2a : Array Value) (replace_2b : Array Value) (R : Ending → World → Prop) (w : World) : fnV Tryz.prog Tryz.f144 an_hands_rebuilt [.slice l_1 l_1n l_1c, .func replace_2 replace_2a replace_2b] R w = sh_hands_rebuilt l_1 l_1n l_1c replace_2 replace_2a replace_2b R w := by kernel_rfl
theorem c_hands_rebuilt {l_1 : Option Addr} {l_1n : Nat} {l_1c : Nat} {replace_2 : Fn} {replace_2a : Array Value} {replace_2b : Array Value} {R : Ending → World → Prop} {w : World} (h : sh_hands_rebuilt l_1 l_1n l_1c replace_2 replace_2a replace_2b R w) : Calls Tryz.prog F_hands_rebuilt ⟨[.slice l_1 l_1n l_1c, .func replace_2 replace_2a replace_2b]⟩ w R := calls_of_fnV Tryz.func144 (by rw [e_hands_rebuilt]; exact h)

def an_hands_resolved_1 : Ann := .two (.leaf) (.two (.two (.leaf) (.two (.two (.leaf) (.leaf)) (.leaf))) (.two (.leaf) (.leaf)))
def sh_hands_resolved_1 (x_1 : Int) (x_2 : List UInt8) (x_3 : Int) (x_4 : Option Addr) (x_4n : Nat) (x_4c : Nat) (parts_5 : Fn) (parts_5a : Array Value) (parts_5b : Array Value) (t2_6 : Option Addr) (R : Ending → World → Prop) (w : World) : Prop :=
  al w 64 [.int .i64 x_1, .string ⟨⟨x_2⟩⟩, .int .i64 x_3, .slice x_4 x_4n x_4c] fun p7 w8 =>
  ∃ (x9 : Int), World.cell? w8 (p7.add 0) = some (.int .i64 x9) ∧ (∃ (x10 : Int), World.cell? w8 (p7.add 2) = some (.int .i64 x10) ∧ (dr t2_6 fun p11 =>
  ∃ (x12 : Int), World.cell? w8 p11 = some (.int .i64 x12) ∧ (br (decide (((decide ((x9 : Int) = 8)) : Bool) = (decide ((x10 : Int) ≤ x12)))) (CallV Tryz.prog (.func parts_5 parts_5a parts_5b) [] w8 fun (e13 : Ending) (w14 : World) =>
  ∃ (x15 : Option Addr) (x15n : Nat) (x15c : Nat), e13 = .returned (.slice x15 x15n x15c) ∧ (R (.returned (.slice x15 x15n x15c)) w14)) (∃ (x16 : Int), World.cell? w8 (p7.add 0) = some (.int .i64 x16) ∧ (∃ (x17 : List UInt8), World.cell? w8 (p7.add 1) = some (.string ⟨⟨x17⟩⟩) ∧ (∃ (x18 : Int), World.cell? w8 (p7.add 2) = some (.int .i64 x18) ∧ (∃ (x19 : Option Addr) (x19n : Nat) (x19c : Nat), World.cell? w8 (p7.add 3) = some (.slice x19 x19n x19c) ∧ (Calls Tryz.prog 146 ⟨[.agg ⟨[.int .i64 x16, .string ⟨⟨x17⟩⟩, .int .i64 x18, .slice x19 x19n x19c]⟩]⟩ w8 fun (e20 : Ending) (w21 : World) =>
  ∃ (x22 : Option Addr) (x22n : Nat) (x22c : Nat), e20 = .returned (.slice x22 x22n x22c) ∧ (R (.returned (.slice x22 x22n x22c)) w21)))))))))
set_option maxRecDepth 100000 in
theorem e_hands_resolved_1 (x_1 : Int) (x_2 : List UInt8) (x_3 : Int) (x_4 : Option Addr) (x_4n : Nat) (x_4c : Nat) (parts_5 : Fn) (parts_5a : Array Value) (parts_5b : Array Value) (t2_6 : Option Addr) (R : Ending → World → Prop) (w : World) : fnV Tryz.prog Tryz.f145 an_hands_resolved_1 [.agg ⟨[.int .i64 x_1, .string ⟨⟨x_2⟩⟩, .int .i64 x_3, .slice x_4 x_4n x_4c]⟩, .func parts_5 parts_5a parts_5b, .pointer t2_6] R w = sh_hands_resolved_1 x_1 x_2 x_3 x_4 x_4n x_4c parts_5 parts_5a parts_5b t2_6 R w := by kernel_rfl
theorem c_hands_resolved_1 {x_1 : Int} {x_2 : List UInt8} {x_3 : Int} {x_4 : Option Addr} {x_4n : Nat} {x_4c : Nat} {parts_5 : Fn} {parts_5a : Array Value} {parts_5b : Array Value} {t2_6 : Option Addr} {R : Ending → World → Prop} {w : World} (h : sh_hands_resolved_1 x_1 x_2 x_3 x_4 x_4n x_4c parts_5 parts_5a parts_5b t2_6 R w) : Calls Tryz.prog F_hands_resolved_1 ⟨[.agg ⟨[.int .i64 x_1, .string ⟨⟨x_2⟩⟩, .int .i64 x_3, .slice x_4 x_4n x_4c]⟩, .func parts_5 parts_5a parts_5b, .pointer t2_6]⟩ w R := calls_of_fnV Tryz.func145 (by rw [e_hands_resolved_1]; exact h)

def an_hands_breaks : Ann := .two (.leaf) (.two (.leaf) (.two (.two (.leaf) (.one (.rf [2, 3, 7] 0))) (.two (.leaf) (.leaf))))
def sh_hands_breaks (x_1 : Int) (x_2 : List UInt8) (x_3 : Int) (x_4 : Option Addr) (x_4n : Nat) (x_4c : Nat) (R : Ending → World → Prop) (w : World) : Prop :=
  al w 64 [.int .i64 x_1, .string ⟨⟨x_2⟩⟩, .int .i64 x_3, .slice x_4 x_4n x_4c] fun p5 w6 =>
  al w6 22 [.slice none 0 0] fun p7 w8 =>
  ∃ (x9 : Option Addr) (x9n : Nat) (x9c : Nat), World.cell? w8 (p5.add 3) = some (.slice x9 x9n x9c) ∧ (Calls Tryz.prog 178 ⟨[.slice x9 x9n x9c]⟩ w8 fun (e10 : Ending) (w11 : World) =>
  ∃ (x12 : Fn) (x12a : Array Value) (x12b : Array Value), e10 = .returned (.func x12 x12a x12b) ∧ (∀ base13 : Env, RFw Tryz.prog none 29 (cdAt Tryz.f146 [1, 1, 0, 1, 2]) (upd (upd (upd base13 7 (.func x12 x12a x12b)) 3 (.pointer (some p7))) 2 (.slice none 0 0)) [] w11 0 (fun ds14 w15 =>
  ∃ (x18 : Option Addr) (x18n : Nat) (x18c : Nat), World.cell? w15 p7 = some (.slice x18 x18n x18c) ∧ (retD ds14 w15 fun w19 =>
  R (.returned (.slice x18 x18n x18c)) w19)) (fun ds14 w15 =>
  retD ds14 w15 fun w20 =>
  R (.returned (.slice none 0 0)) w20) (fun ds14 w15 =>
  ∃ (x16 : Option Addr) (x16n : Nat) (x16c : Nat), World.cell? w15 p7 = some (.slice x16 x16n x16c) ∧ (retD ds14 w15 fun w17 =>
  R (.returned (.slice x16 x16n x16c)) w17))))
set_option maxRecDepth 100000 in
theorem e_hands_breaks (x_1 : Int) (x_2 : List UInt8) (x_3 : Int) (x_4 : Option Addr) (x_4n : Nat) (x_4c : Nat) (R : Ending → World → Prop) (w : World) : fnV Tryz.prog Tryz.f146 an_hands_breaks [.agg ⟨[.int .i64 x_1, .string ⟨⟨x_2⟩⟩, .int .i64 x_3, .slice x_4 x_4n x_4c]⟩] R w = sh_hands_breaks x_1 x_2 x_3 x_4 x_4n x_4c R w := by kernel_rfl
theorem c_hands_breaks {x_1 : Int} {x_2 : List UInt8} {x_3 : Int} {x_4 : Option Addr} {x_4n : Nat} {x_4c : Nat} {R : Ending → World → Prop} {w : World} (h : sh_hands_breaks x_1 x_2 x_3 x_4 x_4n x_4c R w) : Calls Tryz.prog F_hands_breaks ⟨[.agg ⟨[.int .i64 x_1, .string ⟨⟨x_2⟩⟩, .int .i64 x_3, .slice x_4 x_4n x_4c]⟩]⟩ w R := calls_of_fnV Tryz.func146 (by rw [e_hands_breaks]; exact h)
def anA_hands_breaks_1 : Ann := .leaf
def anB_hands_breaks_1 : Ann := .one (.cut 4193792 [(21, .one (.bool))] (.leaf) (.two (.leaf) (.leaf)))
def rf_hands_breaks_1 (t2_21 : Option Addr) (t2_21n : Nat) (t2_21c : Nat) (out_22 : Option Addr) (t7_23 : Fn) (t7_23a : Array Value) (t7_23b : Array Value) (t8_24 : Int) (t8_25 : List UInt8) (t8_26 : Int) (t8_27 : Option Addr) (t8_27n : Nat) (t8_27c : Nat) (l : Nat) (Kn Kr Kx : World → World → Prop) (w : World) : Prop :=
  al w 64 [.int .i64 0, .string ⟨⟨[]⟩⟩, .int .i64 0, .slice none 0 0] fun p29 w30 =>
  stL w30 p29 0 [.int .i64 t8_24, .string ⟨⟨t8_25⟩⟩, .int .i64 t8_26, .slice t8_27 t8_27n t8_27c] fun w31 =>
  Ext w w31 ∧ ∀ w28 : World, Upd l w31 w28 → (∀ (K32 : Bool → World → Prop), (∀ (t21_33 : Bool) (w34 : World), (∀ _ : Env, (br t21_33 (drw w34 fun w35 =>
  dr out_22 fun p36 =>
  ∃ (x37 : Option Addr) (x37n : Nat) (x37c : Nat), World.cell? w35 p36 = some (.slice x37 x37n x37c) ∧ (∃ (x38 : Int), World.cell? w35 (p29.add 0) = some (.int .i64 x38) ∧ (∃ (x39 : List UInt8), World.cell? w35 (p29.add 1) = some (.string ⟨⟨x39⟩⟩) ∧ (∃ (x40 : Int), World.cell? w35 (p29.add 2) = some (.int .i64 x40) ∧ (∃ (x41 : Option Addr) (x41n : Nat) (x41c : Nat), World.cell? w35 (p29.add 3) = some (.slice x41 x41n x41c) ∧ ((al w35 64 [.int .i64 0, .string ⟨⟨[]⟩⟩, .int .i64 0, .slice none 0 0] fun p42 w43 =>
  (app Tryz.prog [22, 22] 22 (.slice x37 x37n x37c) (.slice (some p42) 1 1) w43 fun a44 a44n a44c w45 =>
  idx a44 a44n ((x37n : Int)) 4 fun p46 =>
  (stL w45 p46 0 [.int .i64 x38, .string ⟨⟨x39⟩⟩, .int .i64 x40, .slice x41 x41n x41c] fun w47 =>
  (dr out_22 fun p49 =>
  stL w47 p49 0 [.slice a44 a44n a44c] fun w48 =>
  Kn w28 w48) ∧ True) ∧ (dr out_22 fun p51 =>
  stL w45 p51 0 [.slice a44 a44n a44c] fun w50 =>
  (stL w50 p46 0 [.int .i64 x38, .string ⟨⟨x39⟩⟩, .int .i64 x40, .slice x41 x41n x41c] fun w52 =>
  Kn w28 w52) ∧ True) ∧ True) ∧ True) ∧ True)))))) (Kn w28 w34))) → K32 t21_33 w34) → (∃ (x53 : Int), World.cell? w28 (p29.add 0) = some (.int .i64 x53) ∧ (br (decide ((x53 : Int) = 2)) (K32 true w28) (∃ (x54 : Int), World.cell? w28 (p29.add 0) = some (.int .i64 x54) ∧ (br (decide ((x54 : Int) = 3)) (K32 true w28) (∃ (x55 : Int), World.cell? w28 (p29.add 0) = some (.int .i64 x55) ∧ (K32 (decide ((x55 : Int) = 4)) w28)))))))
set_option maxRecDepth 100000 in
theorem er_hands_breaks_1 (base : Env) (t2_21 : Option Addr) (t2_21n : Nat) (t2_21c : Nat) (out_22 : Option Addr) (t7_23 : Fn) (t7_23a : Array Value) (t7_23b : Array Value) (t8_24 : Int) (t8_25 : List UInt8) (t8_26 : Int) (t8_27 : Option Addr) (t8_27n : Nat) (t8_27c : Nat) (l : Nat) (Kn Kr Kx : World → World → Prop) (w : World) : fragV Tryz.prog 29 anA_hands_breaks_1 anB_hands_breaks_1 (cdAt Tryz.f146 [1, 1, 0, 1, 2, 5]) (cdAt Tryz.f146 [1, 1, 0, 1, 2, 6]) l 0 Kn Kr Kx (updPs [8] [.agg ⟨[.int .i64 t8_24, .string ⟨⟨t8_25⟩⟩, .int .i64 t8_26, .slice t8_27 t8_27n t8_27c]⟩] (upd (upd (upd base 7 (.func t7_23 t7_23a t7_23b)) 3 (.pointer out_22)) 2 (.slice t2_21 t2_21n t2_21c))) w = rf_hands_breaks_1 t2_21 t2_21n t2_21c out_22 t7_23 t7_23a t7_23b t8_24 t8_25 t8_26 t8_27 t8_27n t8_27c l Kn Kr Kx w := by kernel_rfl
theorem cd_hands_breaks_1 : cdAt Tryz.f146 [1, 1, 0, 1, 2] = .rangeFunc (Operand.tmp 7) #[8] (cdAt Tryz.f146 [1, 1, 0, 1, 2, 5]) (cdAt Tryz.f146 [1, 1, 0, 1, 2, 6]) := by kernel_rfl

def an_tokenizer_begins : Ann := .two (.leaf) (.two (.leaf) (.two (.leaf) (.leaf)))
def sh_tokenizer_begins (c_1 : Int) (R : Ending → World → Prop) (w : World) : Prop :=
  Calls Tryz.prog 55 ⟨[.int .u8 c_1]⟩ w fun (e2 : Ending) (w3 : World) =>
  ∃ (x4 : Int), e2 = .returned (.int .i64 x4) ∧ (br (decide ((x4 : Int) = 1)) (R (.returned (.bool true)) w3) (R (.returned (.bool (decide ((x4 : Int) = 3)))) w3))
set_option maxRecDepth 100000 in
theorem e_tokenizer_begins (c_1 : Int) (R : Ending → World → Prop) (w : World) : fnV Tryz.prog Tryz.f155 an_tokenizer_begins [.int .u8 c_1] R w = sh_tokenizer_begins c_1 R w := by kernel_rfl
theorem c_tokenizer_begins {c_1 : Int} {R : Ending → World → Prop} {w : World} (h : sh_tokenizer_begins c_1 R w) : Calls Tryz.prog F_tokenizer_begins ⟨[.int .u8 c_1]⟩ w R := calls_of_fnV Tryz.func155 (by rw [e_tokenizer_begins]; exact h)

def an_charset_Letters : Ann := .two (.leaf) (.two (.leaf) (.two (.two (.leaf) (.one (.loop 16777016 [(3, .one (.int .i64)), (8, .one (.int .i64))] (.two (.leaf) (.two (.two (.leaf) (.leaf)) (.two (.one (.two (.leaf) (.two (.leaf) (.two (.leaf) (.two (.leaf) (.leaf)))))) (.leaf))))))) (.two (.leaf) (.leaf))))
def sh_charset_Letters (s_1 : List UInt8) (R : Ending → World → Prop) (w : World) : Prop :=
  ∃ (I2 : Int → Int → World → Nat → Prop), (∃ m7 : Nat, I2 0 0 w m7) ∧ ∀ (n_3 : Int) (t8_4 : Int) (w5 : World) (m6 : Nat), I2 n_3 t8_4 w5 m6 → ∀ _ : Env, (br (decide ((t8_4 : Int) < ((List.length s_1 : Int)))) (sidx s_1 t8_4 fun b8 =>
  Calls Tryz.prog 55 ⟨[.int .u8 ((b8.toNat : Int))]⟩ w5 fun (e9 : Ending) (w10 : World) =>
  ∃ (x11 : Int), e9 = .returned (.int .i64 x11) ∧ (br (decide ((x11 : Int) = 1)) (∃ m12 : Nat, m12 < m6 ∧ I2 (IntKind.i64.wrap (n_3 + 1)) (IntKind.i64.wrap (t8_4 + 1)) w10 m12) (br (decide ((x11 : Int) = 3)) (∃ m13 : Nat, m13 < m6 ∧ I2 (IntKind.i64.wrap (n_3 + 1)) (IntKind.i64.wrap (t8_4 + 1)) w10 m13) (∃ m14 : Nat, m14 < m6 ∧ I2 n_3 (IntKind.i64.wrap (t8_4 + 1)) w10 m14)))) (R (.returned (.int .i64 n_3)) w5))
set_option maxRecDepth 100000 in
theorem e_charset_Letters (s_1 : List UInt8) (R : Ending → World → Prop) (w : World) : fnV Tryz.prog Tryz.f156 an_charset_Letters [.string ⟨⟨s_1⟩⟩] R w = sh_charset_Letters s_1 R w := by kernel_rfl
theorem c_charset_Letters {s_1 : List UInt8} {R : Ending → World → Prop} {w : World} (h : sh_charset_Letters s_1 R w) : Calls Tryz.prog F_charset_Letters ⟨[.string ⟨⟨s_1⟩⟩]⟩ w R := calls_of_fnV Tryz.func156 (by rw [e_charset_Letters]; exact h)

def an_rewriting_step : Ann := .two (.leaf) (.two (.two (.leaf) (.one (.rf [1, 4, 5, 9] 0))) (.two (.leaf) (.leaf)))
def sh_rewriting_step (rules_1 : Option Addr) (rules_1n : Nat) (rules_1c : Nat) (w_2 : List UInt8) (R : Ending → World → Prop) (w : World) : Prop :=
  al w 9 [.string ⟨⟨[]⟩⟩] fun p3 w4 =>
  al w4 4 [.bool false] fun p5 w6 =>
  Calls Tryz.prog 189 ⟨[.slice rules_1 rules_1n rules_1c, .string ⟨⟨w_2⟩⟩]⟩ w6 fun (e7 : Ending) (w8 : World) =>
  ∃ (x9 : Fn) (x9a : Array Value) (x9b : Array Value), e7 = .returned (.func x9 x9a x9b) ∧ (∀ base10 : Env, RFw Tryz.prog none 13 (cdAt Tryz.f158 [1, 0, 1, 2]) (upd (upd (upd (upd base10 9 (.func x9 x9a x9b)) 5 (.pointer (some p5))) 4 (.pointer (some p3))) 1 (.string ⟨⟨w_2⟩⟩)) [] w8 0 (fun ds11 w12 =>
  stL w12 p3 0 [.string ⟨⟨w_2⟩⟩] fun w18 =>
  stL w18 p5 0 [.bool false] fun w19 =>
  retD ds11 w19 fun w20 =>
  ∃ (x21 : List UInt8), World.cell? w20 p3 = some (.string ⟨⟨x21⟩⟩) ∧ (∃ (x22 : Bool), World.cell? w20 p5 = some (.bool x22) ∧ (R (.returned (.tuple ⟨[.string ⟨⟨x21⟩⟩, .bool x22]⟩)) w20))) (fun ds11 w12 =>
  retD ds11 w12 fun w23 =>
  ∃ (x24 : List UInt8), World.cell? w23 p3 = some (.string ⟨⟨x24⟩⟩) ∧ (∃ (x25 : Bool), World.cell? w23 p5 = some (.bool x25) ∧ (R (.returned (.tuple ⟨[.string ⟨⟨x24⟩⟩, .bool x25]⟩)) w23))) (fun ds11 w12 =>
  stL w12 p3 0 [.string ⟨⟨w_2⟩⟩] fun w13 =>
  stL w13 p5 0 [.bool false] fun w14 =>
  retD ds11 w14 fun w15 =>
  ∃ (x16 : List UInt8), World.cell? w15 p3 = some (.string ⟨⟨x16⟩⟩) ∧ (∃ (x17 : Bool), World.cell? w15 p5 = some (.bool x17) ∧ (R (.returned (.tuple ⟨[.string ⟨⟨x16⟩⟩, .bool x17]⟩)) w15))))
set_option maxRecDepth 100000 in
theorem e_rewriting_step (rules_1 : Option Addr) (rules_1n : Nat) (rules_1c : Nat) (w_2 : List UInt8) (R : Ending → World → Prop) (w : World) : fnV Tryz.prog Tryz.f158 an_rewriting_step [.slice rules_1 rules_1n rules_1c, .string ⟨⟨w_2⟩⟩] R w = sh_rewriting_step rules_1 rules_1n rules_1c w_2 R w := by kernel_rfl
theorem c_rewriting_step {rules_1 : Option Addr} {rules_1n : Nat} {rules_1c : Nat} {w_2 : List UInt8} {R : Ending → World → Prop} {w : World} (h : sh_rewriting_step rules_1 rules_1n rules_1c w_2 R w) : Calls Tryz.prog F_rewriting_step ⟨[.slice rules_1 rules_1n rules_1c, .string ⟨⟨w_2⟩⟩]⟩ w R := calls_of_fnV Tryz.func158 (by rw [e_rewriting_step]; exact h)
def anA_rewriting_step_1 : Ann := .leaf
def anB_rewriting_step_1 : Ann := .one (.two (.leaf) (.leaf))
def rf_rewriting_step_1 (w_26 : List UInt8) (t4_27 : Option Addr) (t5_28 : Option Addr) (t9_29 : Fn) (t9_29a : Array Value) (t9_29b : Array Value) (t10_30 : List UInt8) (l : Nat) (Kn Kr Kx : World → World → Prop) (w : World) : Prop :=
  Ext w w ∧ ∀ w31 : World, Upd l w w31 → (dr t4_27 fun p33 =>
  stL w31 p33 0 [.string ⟨⟨t10_30⟩⟩] fun w32 =>
  dr t5_28 fun p35 =>
  stL w32 p35 0 [.bool true] fun w34 =>
  Kr w31 w34)
set_option maxRecDepth 100000 in
theorem er_rewriting_step_1 (base : Env) (w_26 : List UInt8) (t4_27 : Option Addr) (t5_28 : Option Addr) (t9_29 : Fn) (t9_29a : Array Value) (t9_29b : Array Value) (t10_30 : List UInt8) (l : Nat) (Kn Kr Kx : World → World → Prop) (w : World) : fragV Tryz.prog 13 anA_rewriting_step_1 anB_rewriting_step_1 (cdAt Tryz.f158 [1, 0, 1, 2, 5]) (cdAt Tryz.f158 [1, 0, 1, 2, 6]) l 0 Kn Kr Kx (updPs [10] [.string ⟨⟨t10_30⟩⟩] (upd (upd (upd (upd base 9 (.func t9_29 t9_29a t9_29b)) 5 (.pointer t5_28)) 4 (.pointer t4_27)) 1 (.string ⟨⟨w_26⟩⟩))) w = rf_rewriting_step_1 w_26 t4_27 t5_28 t9_29 t9_29a t9_29b t10_30 l Kn Kr Kx w := by kernel_rfl
theorem cd_rewriting_step_1 : cdAt Tryz.f158 [1, 0, 1, 2] = .rangeFunc (Operand.tmp 9) #[10] (cdAt Tryz.f158 [1, 0, 1, 2, 5]) (cdAt Tryz.f158 [1, 0, 1, 2, 6]) := by kernel_rfl

def an_hands_rebuilt_1 : Ann := .two (.leaf) (.two (.leaf) (.two (.two (.leaf) (.one (.loop 70368744176800 [(5, .one (.slice)), (10, .one (.int .i64))] (.two (.leaf) (.two (.two (.leaf) (.leaf)) (.two (.one (.two (.leaf) (.one (.two (.leaf) (.two (.leaf) (.two (.leaf) (.two (.two (.leaf) (.two (.leaf) (.two (.leaf) (.leaf)))) (.leaf)))))))) (.leaf))))))) (.two (.leaf) (.leaf))))
def sh_hands_rebuilt_1 (l_1 : Option Addr) (l_1n : Nat) (l_1c : Nat) (t1_2 : Option Addr) (t2_3 : Option Addr) (R : Ending → World → Prop) (w : World) : Prop :=
  ∃ (I4 : Option Addr → Nat → Nat → Int → World → Nat → Prop), (∃ m9 : Nat, I4 none 0 0 0 w m9) ∧ ∀ (out_5 : Option Addr) (out_5n : Nat) (out_5c : Nat) (t10_6 : Int) (w7 : World) (m8 : Nat), I4 out_5 out_5n out_5c t10_6 w7 m8 → ∀ _ : Env, (br (decide ((t10_6 : Int) < ((l_1n : Int)))) (idx l_1 l_1n t10_6 4 fun p10 =>
  ∃ (x11 : Int), World.cell? w7 (p10.add 0) = some (.int .i64 x11) ∧ (∃ (x12 : List UInt8), World.cell? w7 (p10.add 1) = some (.string ⟨⟨x12⟩⟩) ∧ (∃ (x13 : Int), World.cell? w7 (p10.add 2) = some (.int .i64 x13) ∧ (∃ (x14 : Option Addr) (x14n : Nat) (x14c : Nat), World.cell? w7 (p10.add 3) = some (.slice x14 x14n x14c) ∧ (al w7 64 [.int .i64 0, .string ⟨⟨[]⟩⟩, .int .i64 0, .slice none 0 0] fun p15 w16 =>
  stL w16 p15 0 [.int .i64 x11, .string ⟨⟨x12⟩⟩, .int .i64 x13, .slice x14 x14n x14c] fun w17 =>
  ∃ (x18 : Int), World.cell? w17 (p15.add 0) = some (.int .i64 x18) ∧ (∃ (x19 : List UInt8), World.cell? w17 (p15.add 1) = some (.string ⟨⟨x19⟩⟩) ∧ (∃ (x20 : Int), World.cell? w17 (p15.add 2) = some (.int .i64 x20) ∧ (∃ (x21 : Option Addr) (x21n : Nat) (x21c : Nat), World.cell? w17 (p15.add 3) = some (.slice x21 x21n x21c) ∧ (Calls Tryz.prog 175 ⟨[.agg ⟨[.int .i64 x18, .string ⟨⟨x19⟩⟩, .int .i64 x20, .slice x21 x21n x21c]⟩]⟩ w17 fun (e22 : Ending) (w23 : World) =>
  ∃ (x24 : Bool), e22 = .returned (.bool x24) ∧ (br x24 (dr t1_2 fun p25 =>
  ∃ (x26 : Fn) (x26a : Array Value) (x26b : Array Value), World.cell? w23 p25 = some (.func x26 x26a x26b) ∧ (∃ (x27 : Int), World.cell? w23 (p15.add 0) = some (.int .i64 x27) ∧ (∃ (x28 : List UInt8), World.cell? w23 (p15.add 1) = some (.string ⟨⟨x28⟩⟩) ∧ (∃ (x29 : Int), World.cell? w23 (p15.add 2) = some (.int .i64 x29) ∧ (∃ (x30 : Option Addr) (x30n : Nat) (x30c : Nat), World.cell? w23 (p15.add 3) = some (.slice x30 x30n x30c) ∧ (CallV Tryz.prog (.func x26 x26a x26b) [.agg ⟨[.int .i64 x27, .string ⟨⟨x28⟩⟩, .int .i64 x29, .slice x30 x30n x30c]⟩, .func (.func 176) ⟨[]⟩ ⟨[.pointer t2_3, .pointer (some p15)]⟩] w23 fun (e31 : Ending) (w32 : World) =>
  ∃ (x33 : Option Addr) (x33n : Nat) (x33c : Nat), e31 = .returned (.slice x33 x33n x33c) ∧ (app Tryz.prog [22, 22] 22 (.slice out_5 out_5n out_5c) (.slice x33 x33n x33c) w32 fun a34 a34n a34c w35 =>
  ∃ m36 : Nat, m36 < m8 ∧ I4 a34 a34n a34c (IntKind.i64.wrap (t10_6 + 1)) w35 m36))))))) (∃ (x37 : Option Addr) (x37n : Nat) (x37c : Nat), World.cell? w23 (p15.add 3) = some (.slice x37 x37n x37c) ∧ (br (decide ((0 : Int) < ((x37n : Int)))) (dr t2_3 fun p38 =>
  ∃ (x39 : Fn) (x39a : Array Value) (x39b : Array Value), World.cell? w23 p38 = some (.func x39 x39a x39b) ∧ (∃ (x40 : Option Addr) (x40n : Nat) (x40c : Nat), World.cell? w23 (p15.add 3) = some (.slice x40 x40n x40c) ∧ (CallV Tryz.prog (.func x39 x39a x39b) [.slice x40 x40n x40c] w23 fun (e41 : Ending) (w42 : World) =>
  ∃ (x43 : Option Addr) (x43n : Nat) (x43c : Nat), e41 = .returned (.slice x43 x43n x43c) ∧ (stL w42 (p15.add 3) 0 [.slice x43 x43n x43c] fun w44 =>
  ∃ (x45 : Option Addr) (x45n : Nat) (x45c : Nat), World.cell? w44 (p15.add 3) = some (.slice x45 x45n x45c) ∧ (br (decide ((0 : Int) < ((x45n : Int)))) (∃ (x46 : Int), World.cell? w44 (p15.add 0) = some (.int .i64 x46) ∧ (∃ (x47 : List UInt8), World.cell? w44 (p15.add 1) = some (.string ⟨⟨x47⟩⟩) ∧ (∃ (x48 : Int), World.cell? w44 (p15.add 2) = some (.int .i64 x48) ∧ (∃ (x49 : Option Addr) (x49n : Nat) (x49c : Nat), World.cell? w44 (p15.add 3) = some (.slice x49 x49n x49c) ∧ (al w44 64 [.int .i64 x46, .string ⟨⟨x47⟩⟩, .int .i64 x48, .slice x49 x49n x49c] fun p50 w51 =>
  app Tryz.prog [22, 22] 22 (.slice out_5 out_5n out_5c) (.slice (some p50) 1 1) w51 fun a52 a52n a52c w53 =>
  ∃ m54 : Nat, m54 < m8 ∧ I4 a52 a52n a52c (IntKind.i64.wrap (t10_6 + 1)) w53 m54))))) (∃ m55 : Nat, m55 < m8 ∧ I4 out_5 out_5n out_5c (IntKind.i64.wrap (t10_6 + 1)) w44 m55)))))) (∃ (x56 : Int), World.cell? w23 (p15.add 0) = some (.int .i64 x56) ∧ (∃ (x57 : List UInt8), World.cell? w23 (p15.add 1) = some (.string ⟨⟨x57⟩⟩) ∧ (∃ (x58 : Int), World.cell? w23 (p15.add 2) = some (.int .i64 x58) ∧ (∃ (x59 : Option Addr) (x59n : Nat) (x59c : Nat), World.cell? w23 (p15.add 3) = some (.slice x59 x59n x59c) ∧ (al w23 64 [.int .i64 x56, .string ⟨⟨x57⟩⟩, .int .i64 x58, .slice x59 x59n x59c] fun p60 w61 =>
  app Tryz.prog [22, 22] 22 (.slice out_5 out_5n out_5c) (.slice (some p60) 1 1) w61 fun a62 a62n a62c w63 =>
  ∃ m64 : Nat, m64 < m8 ∧ I4 a62 a62n a62c (IntKind.i64.wrap (t10_6 + 1)) w63 m64))))))))))))))))) (R (.returned (.slice out_5 out_5n out_5c)) w7))
set_option maxRecDepth 100000 in
theorem e_hands_rebuilt_1 (l_1 : Option Addr) (l_1n : Nat) (l_1c : Nat) (t1_2 : Option Addr) (t2_3 : Option Addr) (R : Ending → World → Prop) (w : World) : fnV Tryz.prog Tryz.f174 an_hands_rebuilt_1 [.slice l_1 l_1n l_1c, .pointer t1_2, .pointer t2_3] R w = sh_hands_rebuilt_1 l_1 l_1n l_1c t1_2 t2_3 R w := by kernel_rfl
theorem c_hands_rebuilt_1 {l_1 : Option Addr} {l_1n : Nat} {l_1c : Nat} {t1_2 : Option Addr} {t2_3 : Option Addr} {R : Ending → World → Prop} {w : World} (h : sh_hands_rebuilt_1 l_1 l_1n l_1c t1_2 t2_3 R w) : Calls Tryz.prog F_hands_rebuilt_1 ⟨[.slice l_1 l_1n l_1c, .pointer t1_2, .pointer t2_3]⟩ w R := calls_of_fnV Tryz.func174 (by rw [e_hands_rebuilt_1]; exact h)

def an_hands_correction : Ann := .two (.leaf) (.two (.leaf) (.leaf))
def sh_hands_correction (x_1 : Int) (x_2 : List UInt8) (x_3 : Int) (x_4 : Option Addr) (x_4n : Nat) (x_4c : Nat) (R : Ending → World → Prop) (w : World) : Prop :=
  al w 64 [.int .i64 x_1, .string ⟨⟨x_2⟩⟩, .int .i64 x_3, .slice x_4 x_4n x_4c] fun p5 w6 =>
  ∃ (x7 : Int), World.cell? w6 (p5.add 0) = some (.int .i64 x7) ∧ (br (decide ((x7 : Int) = 8)) (R (.returned (.bool true)) w6) (∃ (x8 : Int), World.cell? w6 (p5.add 0) = some (.int .i64 x8) ∧ (R (.returned (.bool (decide ((x8 : Int) = 9)))) w6)))
set_option maxRecDepth 100000 in
theorem e_hands_correction (x_1 : Int) (x_2 : List UInt8) (x_3 : Int) (x_4 : Option Addr) (x_4n : Nat) (x_4c : Nat) (R : Ending → World → Prop) (w : World) : fnV Tryz.prog Tryz.f175 an_hands_correction [.agg ⟨[.int .i64 x_1, .string ⟨⟨x_2⟩⟩, .int .i64 x_3, .slice x_4 x_4n x_4c]⟩] R w = sh_hands_correction x_1 x_2 x_3 x_4 x_4n x_4c R w := by kernel_rfl
theorem c_hands_correction {x_1 : Int} {x_2 : List UInt8} {x_3 : Int} {x_4 : Option Addr} {x_4n : Nat} {x_4c : Nat} {R : Ending → World → Prop} {w : World} (h : sh_hands_correction x_1 x_2 x_3 x_4 x_4n x_4c R w) : Calls Tryz.prog F_hands_correction ⟨[.agg ⟨[.int .i64 x_1, .string ⟨⟨x_2⟩⟩, .int .i64 x_3, .slice x_4 x_4n x_4c]⟩]⟩ w R := calls_of_fnV Tryz.func175 (by rw [e_hands_correction]; exact h)

def an_hands_rebuilt_1_1 : Ann := .two (.leaf) (.two (.leaf) (.leaf))
def sh_hands_rebuilt_1_1 (t0_1 : Option Addr) (t1_2 : Option Addr) (R : Ending → World → Prop) (w : World) : Prop :=
  dr t0_1 fun p3 =>
  ∃ (x4 : Fn) (x4a : Array Value) (x4b : Array Value), World.cell? w p3 = some (.func x4 x4a x4b) ∧ (dr t1_2 fun p5 =>
  ∃ (x6 : Option Addr) (x6n : Nat) (x6c : Nat), World.cell? w (p5.add 3) = some (.slice x6 x6n x6c) ∧ (CallV Tryz.prog (.func x4 x4a x4b) [.slice x6 x6n x6c] w fun (e7 : Ending) (w8 : World) =>
  ∃ (x9 : Option Addr) (x9n : Nat) (x9c : Nat), e7 = .returned (.slice x9 x9n x9c) ∧ (R (.returned (.slice x9 x9n x9c)) w8)))
set_option maxRecDepth 100000 in
theorem e_hands_rebuilt_1_1 (t0_1 : Option Addr) (t1_2 : Option Addr) (R : Ending → World → Prop) (w : World) : fnV Tryz.prog Tryz.f176 an_hands_rebuilt_1_1 [.pointer t0_1, .pointer t1_2] R w = sh_hands_rebuilt_1_1 t0_1 t1_2 R w := by kernel_rfl
theorem c_hands_rebuilt_1_1 {t0_1 : Option Addr} {t1_2 : Option Addr} {R : Ending → World → Prop} {w : World} (h : sh_hands_rebuilt_1_1 t0_1 t1_2 R w) : Calls Tryz.prog F_hands_rebuilt_1_1 ⟨[.pointer t0_1, .pointer t1_2]⟩ w R := calls_of_fnV Tryz.func176 (by rw [e_hands_rebuilt_1_1]; exact h)

def an_transcript_Merge : Ann := .two (.leaf) (.two (.leaf) (.two (.two (.leaf) (.one (.loop 288230376151711336 [(3, .one (.slice)), (9, .one (.int .i64))] (.two (.leaf) (.two (.two (.leaf) (.leaf)) (.two (.one (.two (.leaf) (.cut 2088960 [] (.two (.leaf) (.two (.leaf) (.leaf))) (.two (.two (.leaf) (.cut 549739036672 [(38, .one (.bool))] (.leaf) (.two (.two (.leaf) (.leaf)) (.leaf)))) (.two (.leaf) (.leaf)))))) (.leaf))))))) (.two (.leaf) (.leaf))))
def sh_transcript_Merge (l_1 : Option Addr) (l_1n : Nat) (l_1c : Nat) (R : Ending → World → Prop) (w : World) : Prop :=
  ∃ (I2 : Option Addr → Nat → Nat → Int → World → Nat → Prop), (∃ m7 : Nat, I2 none 0 0 0 w m7) ∧ ∀ (out_3 : Option Addr) (out_3n : Nat) (out_3c : Nat) (t9_4 : Int) (w5 : World) (m6 : Nat), I2 out_3 out_3n out_3c t9_4 w5 m6 → ∀ _ : Env, (br (decide ((t9_4 : Int) < ((l_1n : Int)))) (idx l_1 l_1n t9_4 4 fun p8 =>
  ∃ (x9 : Int), World.cell? w5 (p8.add 0) = some (.int .i64 x9) ∧ (∃ (x10 : List UInt8), World.cell? w5 (p8.add 1) = some (.string ⟨⟨x10⟩⟩) ∧ (∃ (x11 : Int), World.cell? w5 (p8.add 2) = some (.int .i64 x11) ∧ (∃ (x12 : Option Addr) (x12n : Nat) (x12c : Nat), World.cell? w5 (p8.add 3) = some (.slice x12 x12n x12c) ∧ (al w5 64 [.int .i64 0, .string ⟨⟨[]⟩⟩, .int .i64 0, .slice none 0 0] fun p13 w14 =>
  stL w14 p13 0 [.int .i64 x9, .string ⟨⟨x10⟩⟩, .int .i64 x11, .slice x12 x12n x12c] fun w15 =>
  ∀ (K16 : World → Prop), (∀  (w17 : World), (∀ _ : Env, (∀ (K18 : Bool → World → Prop), (∀ (t38_19 : Bool) (w20 : World), (∀ _ : Env, (br t38_19 (drw w20 fun w21 =>
  idx out_3 out_3n (IntKind.i64.wrap (((out_3n : Int)) - 1)) 4 fun p22 =>
  ∃ (x23 : List UInt8), World.cell? w21 (p22.add 1) = some (.string ⟨⟨x23⟩⟩) ∧ (∃ (x24 : List UInt8), World.cell? w21 (p13.add 1) = some (.string ⟨⟨x24⟩⟩) ∧ (sadd x23 x24 fun s25 =>
  idx out_3 out_3n (IntKind.i64.wrap (((out_3n : Int)) - 1)) 4 fun p26 =>
  (stL w21 (p26.add 1) 0 [.string ⟨⟨s25⟩⟩] fun w27 =>
  ∃ m28 : Nat, m28 < m6 ∧ I2 out_3 out_3n out_3c (IntKind.i64.wrap (t9_4 + 1)) w27 m28) ∧ True))) (∃ (x29 : Option Addr) (x29n : Nat) (x29c : Nat), World.cell? w20 (p13.add 3) = some (.slice x29 x29n x29c) ∧ (Calls Tryz.prog 177 ⟨[.slice x29 x29n x29c]⟩ w20 fun (e30 : Ending) (w31 : World) =>
  ∃ (x32 : Option Addr) (x32n : Nat) (x32c : Nat), e30 = .returned (.slice x32 x32n x32c) ∧ (stL w31 (p13.add 3) 0 [.slice x32 x32n x32c] fun w33 =>
  ∃ (x34 : Int), World.cell? w33 (p13.add 0) = some (.int .i64 x34) ∧ (∃ (x35 : List UInt8), World.cell? w33 (p13.add 1) = some (.string ⟨⟨x35⟩⟩) ∧ (∃ (x36 : Int), World.cell? w33 (p13.add 2) = some (.int .i64 x36) ∧ (∃ (x37 : Option Addr) (x37n : Nat) (x37c : Nat), World.cell? w33 (p13.add 3) = some (.slice x37 x37n x37c) ∧ (al w33 64 [.int .i64 x34, .string ⟨⟨x35⟩⟩, .int .i64 x36, .slice x37 x37n x37c] fun p38 w39 =>
  app Tryz.prog [22, 22] 22 (.slice out_3 out_3n out_3c) (.slice (some p38) 1 1) w39 fun a40 a40n a40c w41 =>
  ∃ m42 : Nat, m42 < m6 ∧ I2 a40 a40n a40c (IntKind.i64.wrap (t9_4 + 1)) w41 m42))))))))) → K18 t38_19 w20) → (br (decide ((0 : Int) ≤ (IntKind.i64.wrap (((out_3n : Int)) - 1)))) (∃ (x43 : Int), World.cell? w17 (p13.add 0) = some (.int .i64 x43) ∧ (br (decide ((x43 : Int) = 1)) (idx out_3 out_3n (IntKind.i64.wrap (((out_3n : Int)) - 1)) 4 fun p44 =>
  ∃ (x45 : Int), World.cell? w17 (p44.add 0) = some (.int .i64 x45) ∧ (K18 (decide ((x45 : Int) = 1)) w17)) (K18 false w17))) (K18 false w17)))) → K16 w17) → (∃ (x46 : Int), World.cell? w15 (p13.add 0) = some (.int .i64 x46) ∧ (br (decide ((x46 : Int) = 1)) (∃ (x47 : List UInt8), World.cell? w15 (p13.add 1) = some (.string ⟨⟨x47⟩⟩) ∧ (br (decide ((x47 : List UInt8) = ([]))) (∃ m48 : Nat, m48 < m6 ∧ I2 out_3 out_3n out_3c (IntKind.i64.wrap (t9_4 + 1)) w15 m48) (K16 w15))) (K16 w15)))))))) (R (.returned (.slice out_3 out_3n out_3c)) w5))
set_option maxRecDepth 100000 in
theorem e_transcript_Merge (l_1 : Option Addr) (l_1n : Nat) (l_1c : Nat) (R : Ending → World → Prop) (w : World) : fnV Tryz.prog Tryz.f177 an_transcript_Merge [.slice l_1 l_1n l_1c] R w = sh_transcript_Merge l_1 l_1n l_1c R w := by kernel_rfl
theorem c_transcript_Merge {l_1 : Option Addr} {l_1n : Nat} {l_1c : Nat} {R : Ending → World → Prop} {w : World} (h : sh_transcript_Merge l_1 l_1n l_1c R w) : Calls Tryz.prog F_transcript_Merge ⟨[.slice l_1 l_1n l_1c]⟩ w R := calls_of_fnV Tryz.func177 (by rw [e_transcript_Merge]; exact h)

def an_hands_walk : Ann := .two (.leaf) (.two (.leaf) (.leaf))
def sh_hands_walk (l_1 : Option Addr) (l_1n : Nat) (l_1c : Nat) (R : Ending → World → Prop) (w : World) : Prop :=
  al w 22 [.slice l_1 l_1n l_1c] fun p2 w3 =>
  R (.returned (.func (.func 197) ⟨[]⟩ ⟨[.pointer (some p2)]⟩)) w3
set_option maxRecDepth 100000 in
theorem e_hands_walk (l_1 : Option Addr) (l_1n : Nat) (l_1c : Nat) (R : Ending → World → Prop) (w : World) : fnV Tryz.prog Tryz.f178 an_hands_walk [.slice l_1 l_1n l_1c] R w = sh_hands_walk l_1 l_1n l_1c R w := by kernel_rfl
theorem c_hands_walk {l_1 : Option Addr} {l_1n : Nat} {l_1c : Nat} {R : Ending → World → Prop} {w : World} (h : sh_hands_walk l_1 l_1n l_1c R w) : Calls Tryz.prog F_hands_walk ⟨[.slice l_1 l_1n l_1c]⟩ w R := calls_of_fnV Tryz.func178 (by rw [e_hands_walk]; exact h)

def an_rewriting_results : Ann := .two (.leaf) (.two (.leaf) (.leaf))
def sh_rewriting_results (rules_1 : Option Addr) (rules_1n : Nat) (rules_1c : Nat) (w_2 : List UInt8) (R : Ending → World → Prop) (w : World) : Prop :=
  al w 23 [.slice rules_1 rules_1n rules_1c] fun p3 w4 =>
  al w4 9 [.string ⟨⟨w_2⟩⟩] fun p5 w6 =>
  R (.returned (.func (.func 207) ⟨[]⟩ ⟨[.pointer (some p5), .pointer (some p3)]⟩)) w6
set_option maxRecDepth 100000 in
theorem e_rewriting_results (rules_1 : Option Addr) (rules_1n : Nat) (rules_1c : Nat) (w_2 : List UInt8) (R : Ending → World → Prop) (w : World) : fnV Tryz.prog Tryz.f189 an_rewriting_results [.slice rules_1 rules_1n rules_1c, .string ⟨⟨w_2⟩⟩] R w = sh_rewriting_results rules_1 rules_1n rules_1c w_2 R w := by kernel_rfl
theorem c_rewriting_results {rules_1 : Option Addr} {rules_1n : Nat} {rules_1c : Nat} {w_2 : List UInt8} {R : Ending → World → Prop} {w : World} (h : sh_rewriting_results rules_1 rules_1n rules_1c w_2 R w) : Calls Tryz.prog F_rewriting_results ⟨[.slice rules_1 rules_1n rules_1c, .string ⟨⟨w_2⟩⟩]⟩ w R := calls_of_fnV Tryz.func189 (by rw [e_rewriting_results]; exact h)

def an_hands_walk_1 : Ann := .two (.leaf) (.two (.leaf) (.two (.leaf) (.leaf)))
def sh_hands_walk_1 (yield_1 : Fn) (yield_1a : Array Value) (yield_1b : Array Value) (t1_2 : Option Addr) (R : Ending → World → Prop) (w : World) : Prop :=
  al w 198 [.func yield_1 yield_1a yield_1b] fun p3 w4 =>
  al w4 147 [.nilFunc] fun p5 w6 =>
  stL w6 p5 0 [.func (.func 198) ⟨[]⟩ ⟨[.pointer (some p3), .pointer (some p5)]⟩] fun w7 =>
  ∃ (x8 : Fn) (x8a : Array Value) (x8b : Array Value), World.cell? w7 p5 = some (.func x8 x8a x8b) ∧ (dr t1_2 fun p9 =>
  ∃ (x10 : Option Addr) (x10n : Nat) (x10c : Nat), World.cell? w7 p9 = some (.slice x10 x10n x10c) ∧ (CallV Tryz.prog (.func x8 x8a x8b) [.slice x10 x10n x10c] w7 fun (e11 : Ending) (w12 : World) =>
  ∃ (x13 : Bool), e11 = .returned (.bool x13) ∧ (R (.returned (.tuple ⟨[]⟩)) w12)))
set_option maxRecDepth 100000 in
theorem e_hands_walk_1 (yield_1 : Fn) (yield_1a : Array Value) (yield_1b : Array Value) (t1_2 : Option Addr) (R : Ending → World → Prop) (w : World) : fnV Tryz.prog Tryz.f197 an_hands_walk_1 [.func yield_1 yield_1a yield_1b, .pointer t1_2] R w = sh_hands_walk_1 yield_1 yield_1a yield_1b t1_2 R w := by kernel_rfl
theorem c_hands_walk_1 {yield_1 : Fn} {yield_1a : Array Value} {yield_1b : Array Value} {t1_2 : Option Addr} {R : Ending → World → Prop} {w : World} (h : sh_hands_walk_1 yield_1 yield_1a yield_1b t1_2 R w) : Calls Tryz.prog F_hands_walk_1 ⟨[.func yield_1 yield_1a yield_1b, .pointer t1_2]⟩ w R := calls_of_fnV Tryz.func197 (by rw [e_hands_walk_1]; exact h)

def an_hands_walk_1_1 : Ann := .two (.leaf) (.two (.two (.leaf) (.one (.loop 33554000 [(9, .one (.int .i64))] (.two (.leaf) (.two (.two (.leaf) (.leaf)) (.two (.one (.two (.leaf) (.two (.leaf) (.two (.two (.leaf) (.leaf)) (.leaf))))) (.leaf))))))) (.two (.leaf) (.leaf)))
def sh_hands_walk_1_1 (l_1 : Option Addr) (l_1n : Nat) (l_1c : Nat) (t1_2 : Option Addr) (t2_3 : Option Addr) (R : Ending → World → Prop) (w : World) : Prop :=
  ∃ (I4 : Int → World → Nat → Prop), (∃ m8 : Nat, I4 0 w m8) ∧ ∀ (t9_5 : Int) (w6 : World) (m7 : Nat), I4 t9_5 w6 m7 → ∀ _ : Env, (br (decide ((t9_5 : Int) < ((l_1n : Int)))) (idx l_1 l_1n t9_5 4 fun p9 =>
  ∃ (x10 : Int), World.cell? w6 (p9.add 0) = some (.int .i64 x10) ∧ (∃ (x11 : List UInt8), World.cell? w6 (p9.add 1) = some (.string ⟨⟨x11⟩⟩) ∧ (∃ (x12 : Int), World.cell? w6 (p9.add 2) = some (.int .i64 x12) ∧ (∃ (x13 : Option Addr) (x13n : Nat) (x13c : Nat), World.cell? w6 (p9.add 3) = some (.slice x13 x13n x13c) ∧ (al w6 64 [.int .i64 0, .string ⟨⟨[]⟩⟩, .int .i64 0, .slice none 0 0] fun p14 w15 =>
  stL w15 p14 0 [.int .i64 x10, .string ⟨⟨x11⟩⟩, .int .i64 x12, .slice x13 x13n x13c] fun w16 =>
  dr t1_2 fun p17 =>
  ∃ (x18 : Fn) (x18a : Array Value) (x18b : Array Value), World.cell? w16 p17 = some (.func x18 x18a x18b) ∧ (∃ (x19 : Int), World.cell? w16 (p14.add 0) = some (.int .i64 x19) ∧ (∃ (x20 : List UInt8), World.cell? w16 (p14.add 1) = some (.string ⟨⟨x20⟩⟩) ∧ (∃ (x21 : Int), World.cell? w16 (p14.add 2) = some (.int .i64 x21) ∧ (∃ (x22 : Option Addr) (x22n : Nat) (x22c : Nat), World.cell? w16 (p14.add 3) = some (.slice x22 x22n x22c) ∧ (CallV Tryz.prog (.func x18 x18a x18b) [.agg ⟨[.int .i64 x19, .string ⟨⟨x20⟩⟩, .int .i64 x21, .slice x22 x22n x22c]⟩] w16 fun (e23 : Ending) (w24 : World) =>
  ∃ (x25 : Bool), e23 = .returned (.bool x25) ∧ (br (!x25) (R (.returned (.bool false)) w24) (dr t2_3 fun p26 =>
  ∃ (x27 : Fn) (x27a : Array Value) (x27b : Array Value), World.cell? w24 p26 = some (.func x27 x27a x27b) ∧ (∃ (x28 : Option Addr) (x28n : Nat) (x28c : Nat), World.cell? w24 (p14.add 3) = some (.slice x28 x28n x28c) ∧ (CallV Tryz.prog (.func x27 x27a x27b) [.slice x28 x28n x28c] w24 fun (e29 : Ending) (w30 : World) =>
  ∃ (x31 : Bool), e29 = .returned (.bool x31) ∧ (br (!x31) (R (.returned (.bool false)) w30) (∃ m32 : Nat, m32 < m7 ∧ I4 (IntKind.i64.wrap (t9_5 + 1)) w30 m32)))))))))))))))) (R (.returned (.bool true)) w6))
set_option maxRecDepth 100000 in
theorem e_hands_walk_1_1 (l_1 : Option Addr) (l_1n : Nat) (l_1c : Nat) (t1_2 : Option Addr) (t2_3 : Option Addr) (R : Ending → World → Prop) (w : World) : fnV Tryz.prog Tryz.f198 an_hands_walk_1_1 [.slice l_1 l_1n l_1c, .pointer t1_2, .pointer t2_3] R w = sh_hands_walk_1_1 l_1 l_1n l_1c t1_2 t2_3 R w := by kernel_rfl
theorem c_hands_walk_1_1 {l_1 : Option Addr} {l_1n : Nat} {l_1c : Nat} {t1_2 : Option Addr} {t2_3 : Option Addr} {R : Ending → World → Prop} {w : World} (h : sh_hands_walk_1_1 l_1 l_1n l_1c t1_2 t2_3 R w) : Calls Tryz.prog F_hands_walk_1_1 ⟨[.slice l_1 l_1n l_1c, .pointer t1_2, .pointer t2_3]⟩ w R := calls_of_fnV Tryz.func198 (by rw [e_hands_walk_1_1]; exact h)

def an_rewriting_results_1 : Ann := .two (.leaf) (.one (.loop 35184372087248 [(11, .one (.int .i64))] (.two (.leaf) (.two (.two (.leaf) (.leaf)) (.two (.one (.two (.leaf) (.two (.leaf) (.one (.loop 17592185979328 [(16, .one (.int .i64))] (.two (.leaf) (.two (.two (.leaf) (.leaf)) (.two (.one (.two (.leaf) (.two (.leaf) (.two (.leaf) (.two (.leaf) (.leaf)))))) (.leaf))))))))) (.leaf))))))
def sh_rewriting_results_1 (yield_1 : Fn) (yield_1a : Array Value) (yield_1b : Array Value) (t1_2 : Option Addr) (t2_3 : Option Addr) (R : Ending → World → Prop) (w : World) : Prop :=
  dr t1_2 fun p4 =>
  ∃ (x5 : List UInt8), World.cell? w p4 = some (.string ⟨⟨x5⟩⟩) ∧ (∃ (I6 : Int → World → Nat → Prop), (∃ m10 : Nat, I6 0 w m10) ∧ ∀ (t11_7 : Int) (w8 : World) (m9 : Nat), I6 t11_7 w8 m9 → ∀ _ : Env, (br (decide ((t11_7 : Int) < ((List.length x5 : Int)))) (dr t2_3 fun p11 =>
  ∃ (x12 : Option Addr) (x12n : Nat) (x12c : Nat), World.cell? w8 p11 = some (.slice x12 x12n x12c) ∧ (∃ (I13 : Int → World → Nat → Prop), (∃ m17 : Nat, I13 0 w8 m17) ∧ ∀ (t16_14 : Int) (w15 : World) (m16 : Nat), I13 t16_14 w15 m16 → ∀ _ : Env, (br (decide ((t16_14 : Int) < ((x12n : Int)))) (idx x12 x12n t16_14 2 fun p18 =>
  ∃ (x19 : List UInt8), World.cell? w15 (p18.add 0) = some (.string ⟨⟨x19⟩⟩) ∧ (∃ (x20 : List UInt8), World.cell? w15 (p18.add 1) = some (.string ⟨⟨x20⟩⟩) ∧ (al w15 91 [.string ⟨⟨[]⟩⟩, .string ⟨⟨[]⟩⟩] fun p21 w22 =>
  stL w22 p21 0 [.string ⟨⟨x19⟩⟩, .string ⟨⟨x20⟩⟩] fun w23 =>
  drw w23 fun w24 =>
  dr t1_2 fun p25 =>
  ∃ (x26 : List UInt8), World.cell? w24 p25 = some (.string ⟨⟨x26⟩⟩) ∧ (ssl x26 t11_7 (List.length x26 : Int) fun s27 =>
  ∃ (x28 : List UInt8), World.cell? w24 (p21.add 0) = some (.string ⟨⟨x28⟩⟩) ∧ ((Calls Tryz.prog 208 ⟨[.string ⟨⟨s27⟩⟩, .string ⟨⟨x28⟩⟩]⟩ w24 fun (e29 : Ending) (w30 : World) =>
  ∃ (x31 : List UInt8) (x32 : Bool), e29 = .returned (.tuple ⟨[.string ⟨⟨x31⟩⟩, .bool x32]⟩) ∧ (drw w30 fun w33 =>
  br x32 (dr t1_2 fun p34 =>
  ∃ (x35 : List UInt8), World.cell? w33 p34 = some (.string ⟨⟨x35⟩⟩) ∧ (ssl x35 0 t11_7 fun s36 =>
  ∃ (x37 : List UInt8), World.cell? w33 (p21.add 1) = some (.string ⟨⟨x37⟩⟩) ∧ (sadd s36 x37 fun s38 =>
  sadd s38 x31 fun s39 =>
  (CallV Tryz.prog (.func yield_1 yield_1a yield_1b) [.string ⟨⟨s39⟩⟩] w33 fun (e40 : Ending) (w41 : World) =>
  ∃ (x42 : Bool), e40 = .returned (.bool x42) ∧ (br (!x42) (R (.returned (.tuple ⟨[]⟩)) w41) (∃ m43 : Nat, m43 < m16 ∧ I13 (IntKind.i64.wrap (t16_14 + 1)) w41 m43))) ∧ True))) ((∃ m44 : Nat, m44 < m16 ∧ I13 (IntKind.i64.wrap (t16_14 + 1)) w33 m44) ∧ True))) ∧ True))))) (∃ m45 : Nat, m45 < m9 ∧ I6 (IntKind.i64.wrap (t11_7 + 1)) w15 m45)))) (R (.returned (.tuple ⟨[]⟩)) w8)))
set_option maxRecDepth 100000 in
theorem e_rewriting_results_1 (yield_1 : Fn) (yield_1a : Array Value) (yield_1b : Array Value) (t1_2 : Option Addr) (t2_3 : Option Addr) (R : Ending → World → Prop) (w : World) : fnV Tryz.prog Tryz.f207 an_rewriting_results_1 [.func yield_1 yield_1a yield_1b, .pointer t1_2, .pointer t2_3] R w = sh_rewriting_results_1 yield_1 yield_1a yield_1b t1_2 t2_3 R w := by kernel_rfl
theorem c_rewriting_results_1 {yield_1 : Fn} {yield_1a : Array Value} {yield_1b : Array Value} {t1_2 : Option Addr} {t2_3 : Option Addr} {R : Ending → World → Prop} {w : World} (h : sh_rewriting_results_1 yield_1 yield_1a yield_1b t1_2 t2_3 R w) : Calls Tryz.prog F_rewriting_results_1 ⟨[.func yield_1 yield_1a yield_1b, .pointer t1_2, .pointer t2_3]⟩ w R := calls_of_fnV Tryz.func207 (by rw [e_rewriting_results_1]; exact h)

def an_strings_CutPrefix : Ann := .two (.leaf) (.two (.leaf) (.leaf))
def sh_strings_CutPrefix (s_1 : List UInt8) (prefix_2 : List UInt8) (R : Ending → World → Prop) (w : World) : Prop :=
  Calls Tryz.prog 218 ⟨[.string ⟨⟨s_1⟩⟩, .string ⟨⟨prefix_2⟩⟩]⟩ w fun (e3 : Ending) (w4 : World) =>
  ∃ (x5 : List UInt8) (x6 : Bool), e3 = .returned (.tuple ⟨[.string ⟨⟨x5⟩⟩, .bool x6]⟩) ∧ (R (.returned (.tuple ⟨[.string ⟨⟨x5⟩⟩, .bool x6]⟩)) w4)
set_option maxRecDepth 100000 in
theorem e_strings_CutPrefix (s_1 : List UInt8) (prefix_2 : List UInt8) (R : Ending → World → Prop) (w : World) : fnV Tryz.prog Tryz.f208 an_strings_CutPrefix [.string ⟨⟨s_1⟩⟩, .string ⟨⟨prefix_2⟩⟩] R w = sh_strings_CutPrefix s_1 prefix_2 R w := by kernel_rfl
theorem c_strings_CutPrefix {s_1 : List UInt8} {prefix_2 : List UInt8} {R : Ending → World → Prop} {w : World} (h : sh_strings_CutPrefix s_1 prefix_2 R w) : Calls Tryz.prog F_strings_CutPrefix ⟨[.string ⟨⟨s_1⟩⟩, .string ⟨⟨prefix_2⟩⟩]⟩ w R := calls_of_fnV Tryz.func208 (by rw [e_strings_CutPrefix]; exact h)

def an_internal_stringslite_CutPrefix : Ann := .two (.leaf) (.two (.two (.leaf) (.two (.two (.leaf) (.leaf)) (.leaf))) (.two (.leaf) (.leaf)))
def sh_internal_stringslite_CutPrefix (s_1 : List UInt8) (prefix_2 : List UInt8) (R : Ending → World → Prop) (w : World) : Prop :=
  Calls Tryz.prog 221 ⟨[.string ⟨⟨s_1⟩⟩, .string ⟨⟨prefix_2⟩⟩]⟩ w fun (e3 : Ending) (w4 : World) =>
  ∃ (x5 : Bool), e3 = .returned (.bool x5) ∧ (br (!x5) (R (.returned (.tuple ⟨[.string ⟨⟨s_1⟩⟩, .bool false]⟩)) w4) (ssl s_1 ((List.length prefix_2 : Int)) (List.length s_1 : Int) fun s6 =>
  R (.returned (.tuple ⟨[.string ⟨⟨s6⟩⟩, .bool true]⟩)) w4))
set_option maxRecDepth 100000 in
theorem e_internal_stringslite_CutPrefix (s_1 : List UInt8) (prefix_2 : List UInt8) (R : Ending → World → Prop) (w : World) : fnV Tryz.prog Tryz.f218 an_internal_stringslite_CutPrefix [.string ⟨⟨s_1⟩⟩, .string ⟨⟨prefix_2⟩⟩] R w = sh_internal_stringslite_CutPrefix s_1 prefix_2 R w := by kernel_rfl
theorem c_internal_stringslite_CutPrefix {s_1 : List UInt8} {prefix_2 : List UInt8} {R : Ending → World → Prop} {w : World} (h : sh_internal_stringslite_CutPrefix s_1 prefix_2 R w) : Calls Tryz.prog F_internal_stringslite_CutPrefix ⟨[.string ⟨⟨s_1⟩⟩, .string ⟨⟨prefix_2⟩⟩]⟩ w R := calls_of_fnV Tryz.func218 (by rw [e_internal_stringslite_CutPrefix]; exact h)

def an_internal_stringslite_HasPrefix : Ann := .two (.leaf) (.two (.leaf) (.leaf))
def sh_internal_stringslite_HasPrefix (s_1 : List UInt8) (prefix_2 : List UInt8) (R : Ending → World → Prop) (w : World) : Prop :=
  br (decide ((((List.length prefix_2 : Int)) : Int) ≤ ((List.length s_1 : Int)))) (ssl s_1 0 ((List.length prefix_2 : Int)) fun s3 =>
  R (.returned (.bool (decide ((s3 : List UInt8) = prefix_2)))) w) (R (.returned (.bool false)) w)
set_option maxRecDepth 100000 in
theorem e_internal_stringslite_HasPrefix (s_1 : List UInt8) (prefix_2 : List UInt8) (R : Ending → World → Prop) (w : World) : fnV Tryz.prog Tryz.f221 an_internal_stringslite_HasPrefix [.string ⟨⟨s_1⟩⟩, .string ⟨⟨prefix_2⟩⟩] R w = sh_internal_stringslite_HasPrefix s_1 prefix_2 R w := by kernel_rfl
theorem c_internal_stringslite_HasPrefix {s_1 : List UInt8} {prefix_2 : List UInt8} {R : Ending → World → Prop} {w : World} (h : sh_internal_stringslite_HasPrefix s_1 prefix_2 R w) : Calls Tryz.prog F_internal_stringslite_HasPrefix ⟨[.string ⟨⟨s_1⟩⟩, .string ⟨⟨prefix_2⟩⟩]⟩ w R := calls_of_fnV Tryz.func221 (by rw [e_internal_stringslite_HasPrefix]; exact h)

end Go.Proofs
