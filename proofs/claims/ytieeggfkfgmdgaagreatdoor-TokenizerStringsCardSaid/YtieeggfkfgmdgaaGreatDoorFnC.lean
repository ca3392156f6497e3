/- Written by program: for each function its verification condition, that it is the code's (by the kernel), and that it gives the call. -/
import Derived.Test.YtieeggfkfgmdgaaGreatDoorFn
namespace Go.Proofs
open Go Go.Sh
def an_transcript_marked_1 : Ann := .two (.leaf) (.one (.loop 9007199254740576 [(9, .one (.int .i64))] (.two (.leaf) (.two (.two (.leaf) (.leaf)) (.two (.one (.two (.leaf) (.two (.leaf) (.one (.two (.leaf) (.two (.leaf) (.two (.leaf) (.two (.cut 8761733283840 [] (.leaf) (.two (.leaf) (.leaf))) (.leaf))))))))) (.leaf))))))
def sh_transcript_marked_1 (l_1 : Option Addr) (l_1n : Nat) (l_1c : Nat) (t1_2 : Option Addr) (t2_3 : Option Addr) (R : Ending → World → Prop) (w : World) : Prop :=
  ∃ (I4 : Int → World → Nat → Prop), (∃ m8 : Nat, I4 0 w m8) ∧ ∀ (t9_5 : Int) (w6 : World) (m7 : Nat), I4 t9_5 w6 m7 → ∀ _ : Env, (br (decide ((t9_5 : Int) < ((l_1n : Int)))) (idx l_1 l_1n t9_5 4 fun p9 =>
  ∃ (x10 : Int), World.cell? w6 (p9.add 0) = some (.int .i64 x10) ∧ (∃ (x11 : List UInt8), World.cell? w6 (p9.add 1) = some (.string ⟨⟨x11⟩⟩) ∧ (∃ (x12 : Int), World.cell? w6 (p9.add 2) = some (.int .i64 x12) ∧ (∃ (x13 : Option Addr) (x13n : Nat) (x13c : Nat), World.cell? w6 (p9.add 3) = some (.slice x13 x13n x13c) ∧ (al w6 64 [.int .i64 0, .string ⟨⟨[]⟩⟩, .int .i64 0, .slice none 0 0] fun p14 w15 =>
  stL w15 p14 0 [.int .i64 x10, .string ⟨⟨x11⟩⟩, .int .i64 x12, .slice x13 x13n x13c] fun w16 =>
  ∃ (x17 : Int), World.cell? w16 (p14.add 0) = some (.int .i64 x17) ∧ (idx (some (⟨2, 0, none⟩)) 12 x17 4 fun p18 =>
  ∃ (x19 : List UInt8), World.cell? w16 (p18.add 0) = some (.string ⟨⟨x19⟩⟩) ∧ (∃ (x20 : Bool), World.cell? w16 (p18.add 1) = some (.bool x20) ∧ (∃ (x21 : Bool), World.cell? w16 (p18.add 2) = some (.bool x21) ∧ (∃ (x22 : Bool), World.cell? w16 (p18.add 3) = some (.bool x22) ∧ (al w16 161 [.string ⟨⟨[]⟩⟩, .bool false, .bool false, .bool false] fun p23 w24 =>
  stL w24 p23 0 [.string ⟨⟨x19⟩⟩, .bool x20, .bool x21, .bool x22] fun w25 =>
  ∃ (x26 : Int), World.cell? w25 (p14.add 0) = some (.int .i64 x26) ∧ (br (decide ((x26 : Int) = 1)) (∃ (x27 : List UInt8), World.cell? w25 (p14.add 1) = some (.string ⟨⟨x27⟩⟩) ∧ (Calls Tryz.prog 47 ⟨[.pointer t1_2, .string ⟨⟨x27⟩⟩]⟩ w25 fun (e28 : Ending) (w29 : World) =>
  ∃ (x30 : Int) (x31 : Value), e28 = .returned (.tuple ⟨[.int .i64 x30, x31]⟩) ∧ (∃ m32 : Nat, m32 < m7 ∧ I4 (IntKind.i64.wrap (t9_5 + 1)) w29 m32))) (∃ (x33 : Bool), World.cell? w25 (p23.add 3) = some (.bool x33) ∧ (br x33 (∀ (K34 : World → Prop), (∀  (w35 : World), (∀ _ : Env, (dr t2_3 fun p36 =>
  ∃ (x37 : Fn) (x37a : Array Value) (x37b : Array Value), World.cell? w35 p36 = some (.func x37 x37a x37b) ∧ (∃ (x38 : Option Addr) (x38n : Nat) (x38c : Nat), World.cell? w35 (p14.add 3) = some (.slice x38 x38n x38c) ∧ (CallV Tryz.prog (.func x37 x37a x37b) [.slice x38 x38n x38c] w35 fun (e39 : Ending) (w40 : World) =>
  e39 = .returned (.tuple ⟨[]⟩) ∧ (∃ (x41 : List UInt8), World.cell? w40 (p23.add 0) = some (.string ⟨⟨x41⟩⟩) ∧ (sadd ([60, 47]) x41 fun s42 =>
  sadd s42 ([62]) fun s43 =>
  Calls Tryz.prog 47 ⟨[.pointer t1_2, .string ⟨⟨s43⟩⟩]⟩ w40 fun (e44 : Ending) (w45 : World) =>
  ∃ (x46 : Int) (x47 : Value), e44 = .returned (.tuple ⟨[.int .i64 x46, x47]⟩) ∧ (∃ m48 : Nat, m48 < m7 ∧ I4 (IntKind.i64.wrap (t9_5 + 1)) w45 m48))))))) → K34 w35) → (drw w25 fun w49 =>
  (∃ (x50 : List UInt8), World.cell? w49 (p23.add 0) = some (.string ⟨⟨x50⟩⟩) ∧ (sadd ([60]) x50 fun s51 =>
  ∃ (x52 : Int), World.cell? w49 (p14.add 0) = some (.int .i64 x52) ∧ (∃ (x53 : List UInt8), World.cell? w49 (p14.add 1) = some (.string ⟨⟨x53⟩⟩) ∧ (∃ (x54 : Int), World.cell? w49 (p14.add 2) = some (.int .i64 x54) ∧ (∃ (x55 : Option Addr) (x55n : Nat) (x55c : Nat), World.cell? w49 (p14.add 3) = some (.slice x55 x55n x55c) ∧ ((Calls Tryz.prog 143 ⟨[.agg ⟨[.int .i64 x52, .string ⟨⟨x53⟩⟩, .int .i64 x54, .slice x55 x55n x55c]⟩]⟩ w49 fun (e56 : Ending) (w57 : World) =>
  ∃ (x58 : List UInt8), e56 = .returned (.string ⟨⟨x58⟩⟩) ∧ (sadd s51 x58 fun s59 =>
  sadd s59 ([62]) fun s60 =>
  (Calls Tryz.prog 47 ⟨[.pointer t1_2, .string ⟨⟨s60⟩⟩]⟩ w57 fun (e61 : Ending) (w62 : World) =>
  ∃ (x63 : Int) (x64 : Value), e61 = .returned (.tuple ⟨[.int .i64 x63, x64]⟩) ∧ (K34 w62)) ∧ True)) ∧ True)))))) ∧ (∃ (x65 : Int), World.cell? w49 (p14.add 0) = some (.int .i64 x65) ∧ (∃ (x66 : List UInt8), World.cell? w49 (p14.add 1) = some (.string ⟨⟨x66⟩⟩) ∧ (∃ (x67 : Int), World.cell? w49 (p14.add 2) = some (.int .i64 x67) ∧ (∃ (x68 : Option Addr) (x68n : Nat) (x68c : Nat), World.cell? w49 (p14.add 3) = some (.slice x68 x68n x68c) ∧ ((∃ (x69 : List UInt8), World.cell? w49 (p23.add 0) = some (.string ⟨⟨x69⟩⟩) ∧ (sadd ([60]) x69 fun s70 =>
  (Calls Tryz.prog 143 ⟨[.agg ⟨[.int .i64 x65, .string ⟨⟨x66⟩⟩, .int .i64 x67, .slice x68 x68n x68c]⟩]⟩ w49 fun (e71 : Ending) (w72 : World) =>
  ∃ (x73 : List UInt8), e71 = .returned (.string ⟨⟨x73⟩⟩) ∧ (sadd s70 x73 fun s74 =>
  sadd s74 ([62]) fun s75 =>
  (Calls Tryz.prog 47 ⟨[.pointer t1_2, .string ⟨⟨s75⟩⟩]⟩ w72 fun (e76 : Ending) (w77 : World) =>
  ∃ (x78 : Int) (x79 : Value), e76 = .returned (.tuple ⟨[.int .i64 x78, x79]⟩) ∧ (K34 w77)) ∧ True)) ∧ True)) ∧ (Calls Tryz.prog 143 ⟨[.agg ⟨[.int .i64 x65, .string ⟨⟨x66⟩⟩, .int .i64 x67, .slice x68 x68n x68c]⟩]⟩ w49 fun (e80 : Ending) (w81 : World) =>
  ∃ (x82 : List UInt8), e80 = .returned (.string ⟨⟨x82⟩⟩) ∧ (∃ (x83 : List UInt8), World.cell? w81 (p23.add 0) = some (.string ⟨⟨x83⟩⟩) ∧ (sadd ([60]) x83 fun s84 =>
  sadd s84 x82 fun s85 =>
  sadd s85 ([62]) fun s86 =>
  (Calls Tryz.prog 47 ⟨[.pointer t1_2, .string ⟨⟨s86⟩⟩]⟩ w81 fun (e87 : Ending) (w88 : World) =>
  ∃ (x89 : Int) (x90 : Value), e87 = .returned (.tuple ⟨[.int .i64 x89, x90]⟩) ∧ (K34 w88)) ∧ True))) ∧ True))))) ∧ True)) (drw w25 fun w91 =>
  (∃ (x92 : List UInt8), World.cell? w91 (p23.add 0) = some (.string ⟨⟨x92⟩⟩) ∧ (sadd ([60]) x92 fun s93 =>
  ∃ (x94 : Int), World.cell? w91 (p14.add 0) = some (.int .i64 x94) ∧ (∃ (x95 : List UInt8), World.cell? w91 (p14.add 1) = some (.string ⟨⟨x95⟩⟩) ∧ (∃ (x96 : Int), World.cell? w91 (p14.add 2) = some (.int .i64 x96) ∧ (∃ (x97 : Option Addr) (x97n : Nat) (x97c : Nat), World.cell? w91 (p14.add 3) = some (.slice x97 x97n x97c) ∧ ((Calls Tryz.prog 143 ⟨[.agg ⟨[.int .i64 x94, .string ⟨⟨x95⟩⟩, .int .i64 x96, .slice x97 x97n x97c]⟩]⟩ w91 fun (e98 : Ending) (w99 : World) =>
  ∃ (x100 : List UInt8), e98 = .returned (.string ⟨⟨x100⟩⟩) ∧ (sadd s93 x100 fun s101 =>
  sadd s101 ([47, 62]) fun s102 =>
  (Calls Tryz.prog 47 ⟨[.pointer t1_2, .string ⟨⟨s102⟩⟩]⟩ w99 fun (e103 : Ending) (w104 : World) =>
  ∃ (x105 : Int) (x106 : Value), e103 = .returned (.tuple ⟨[.int .i64 x105, x106]⟩) ∧ (∃ m107 : Nat, m107 < m7 ∧ I4 (IntKind.i64.wrap (t9_5 + 1)) w104 m107)) ∧ True)) ∧ True)))))) ∧ (∃ (x108 : Int), World.cell? w91 (p14.add 0) = some (.int .i64 x108) ∧ (∃ (x109 : List UInt8), World.cell? w91 (p14.add 1) = some (.string ⟨⟨x109⟩⟩) ∧ (∃ (x110 : Int), World.cell? w91 (p14.add 2) = some (.int .i64 x110) ∧ (∃ (x111 : Option Addr) (x111n : Nat) (x111c : Nat), World.cell? w91 (p14.add 3) = some (.slice x111 x111n x111c) ∧ ((∃ (x112 : List UInt8), World.cell? w91 (p23.add 0) = some (.string ⟨⟨x112⟩⟩) ∧ (sadd ([60]) x112 fun s113 =>
  (Calls Tryz.prog 143 ⟨[.agg ⟨[.int .i64 x108, .string ⟨⟨x109⟩⟩, .int .i64 x110, .slice x111 x111n x111c]⟩]⟩ w91 fun (e114 : Ending) (w115 : World) =>
  ∃ (x116 : List UInt8), e114 = .returned (.string ⟨⟨x116⟩⟩) ∧ (sadd s113 x116 fun s117 =>
  sadd s117 ([47, 62]) fun s118 =>
  (Calls Tryz.prog 47 ⟨[.pointer t1_2, .string ⟨⟨s118⟩⟩]⟩ w115 fun (e119 : Ending) (w120 : World) =>
  ∃ (x121 : Int) (x122 : Value), e119 = .returned (.tuple ⟨[.int .i64 x121, x122]⟩) ∧ (∃ m123 : Nat, m123 < m7 ∧ I4 (IntKind.i64.wrap (t9_5 + 1)) w120 m123)) ∧ True)) ∧ True)) ∧ (Calls Tryz.prog 143 ⟨[.agg ⟨[.int .i64 x108, .string ⟨⟨x109⟩⟩, .int .i64 x110, .slice x111 x111n x111c]⟩]⟩ w91 fun (e124 : Ending) (w125 : World) =>
  ∃ (x126 : List UInt8), e124 = .returned (.string ⟨⟨x126⟩⟩) ∧ (∃ (x127 : List UInt8), World.cell? w125 (p23.add 0) = some (.string ⟨⟨x127⟩⟩) ∧ (sadd ([60]) x127 fun s128 =>
  sadd s128 x126 fun s129 =>
  sadd s129 ([47, 62]) fun s130 =>
  (Calls Tryz.prog 47 ⟨[.pointer t1_2, .string ⟨⟨s130⟩⟩]⟩ w125 fun (e131 : Ending) (w132 : World) =>
  ∃ (x133 : Int) (x134 : Value), e131 = .returned (.tuple ⟨[.int .i64 x133, x134]⟩) ∧ (∃ m135 : Nat, m135 < m7 ∧ I4 (IntKind.i64.wrap (t9_5 + 1)) w132 m135)) ∧ True))) ∧ True))))) ∧ True)))))))))))))) (R (.returned (.tuple ⟨[]⟩)) w6))
set_option maxRecDepth 100000 in
theorem e_transcript_marked_1 (l_1 : Option Addr) (l_1n : Nat) (l_1c : Nat) (t1_2 : Option Addr) (t2_3 : Option Addr) (R : Ending → World → Prop) (w : World) : fnV Tryz.prog Tryz.f142 an_transcript_marked_1 [.slice l_1 l_1n l_1c, .pointer t1_2, .pointer t2_3] R w = sh_transcript_marked_1 l_1 l_1n l_1c t1_2 t2_3 R w := by kernel_rfl
theorem c_transcript_marked_1 {l_1 : Option Addr} {l_1n : Nat} {l_1c : Nat} {t1_2 : Option Addr} {t2_3 : Option Addr} {R : Ending → World → Prop} {w : World} (h : sh_transcript_marked_1 l_1 l_1n l_1c t1_2 t2_3 R w) : Calls Tryz.prog F_transcript_marked_1 ⟨[.slice l_1 l_1n l_1c, .pointer t1_2, .pointer t2_3]⟩ w R := calls_of_fnV Tryz.func142 (by rw [e_transcript_marked_1]; exact h)

def an_transcript_value : Ann := .two (.leaf) (.two (.leaf) (.two (.one (.two (.leaf) (.two (.two (.leaf) (.leaf)) (.two (.leaf) (.two (.two (.leaf) (.leaf)) (.leaf)))))) (.two (.leaf) (.leaf))))
def sh_transcript_value (x_1 : Int) (x_2 : List UInt8) (x_3 : Int) (x_4 : Option Addr) (x_4n : Nat) (x_4c : Nat) (R : Ending → World → Prop) (w : World) : Prop :=
  al w 64 [.int .i64 x_1, .string ⟨⟨x_2⟩⟩, .int .i64 x_3, .slice x_4 x_4n x_4c] fun p5 w6 =>
  ∃ (x7 : Int), World.cell? w6 (p5.add 0) = some (.int .i64 x7) ∧ (idx (some (⟨2, 0, none⟩)) 12 x7 4 fun p8 =>
  ∃ (x9 : List UInt8), World.cell? w6 (p8.add 0) = some (.string ⟨⟨x9⟩⟩) ∧ (∃ (x10 : Bool), World.cell? w6 (p8.add 1) = some (.bool x10) ∧ (∃ (x11 : Bool), World.cell? w6 (p8.add 2) = some (.bool x11) ∧ (∃ (x12 : Bool), World.cell? w6 (p8.add 3) = some (.bool x12) ∧ (al w6 161 [.string ⟨⟨[]⟩⟩, .bool false, .bool false, .bool false] fun p13 w14 =>
  stL w14 p13 0 [.string ⟨⟨x9⟩⟩, .bool x10, .bool x11, .bool x12] fun w15 =>
  ∃ (x16 : Bool), World.cell? w15 (p13.add 1) = some (.bool x16) ∧ (br x16 (∃ (x17 : List UInt8), World.cell? w15 (p5.add 1) = some (.string ⟨⟨x17⟩⟩) ∧ (sadd ([32]) x17 fun s18 =>
  R (.returned (.string ⟨⟨s18⟩⟩)) w15)) (∃ (x19 : Bool), World.cell? w15 (p13.add 2) = some (.bool x19) ∧ (br x19 (∃ (x20 : Int), World.cell? w15 (p5.add 2) = some (.int .i64 x20) ∧ (Calls Tryz.prog 109 ⟨[.int .i64 x20]⟩ w15 fun (e21 : Ending) (w22 : World) =>
  ∃ (x23 : List UInt8), e21 = .returned (.string ⟨⟨x23⟩⟩) ∧ (sadd ([32]) x23 fun s24 =>
  R (.returned (.string ⟨⟨s24⟩⟩)) w22))) (R (.returned (.string ⟨⟨[]⟩⟩)) w15)))))))))
set_option maxRecDepth 100000 in
theorem e_transcript_value (x_1 : Int) (x_2 : List UInt8) (x_3 : Int) (x_4 : Option Addr) (x_4n : Nat) (x_4c : Nat) (R : Ending → World → Prop) (w : World) : fnV Tryz.prog Tryz.f143 an_transcript_value [.agg ⟨[.int .i64 x_1, .string ⟨⟨x_2⟩⟩, .int .i64 x_3, .slice x_4 x_4n x_4c]⟩] R w = sh_transcript_value x_1 x_2 x_3 x_4 x_4n x_4c R w := by kernel_rfl
theorem c_transcript_value {x_1 : Int} {x_2 : List UInt8} {x_3 : Int} {x_4 : Option Addr} {x_4n : Nat} {x_4c : Nat} {R : Ending → World → Prop} {w : World} (h : sh_transcript_value x_1 x_2 x_3 x_4 x_4n x_4c R w) : Calls Tryz.prog F_transcript_value ⟨[.agg ⟨[.int .i64 x_1, .string ⟨⟨x_2⟩⟩, .int .i64 x_3, .slice x_4 x_4n x_4c]⟩]⟩ w R := calls_of_fnV Tryz.func143 (by rw [e_transcript_value]; exact h)

def an_tokenizer_begins : Ann := .two (.leaf) (.two (.leaf) (.two (.leaf) (.leaf)))
def sh_tokenizer_begins (c_1 : Int) (R : Ending → World → Prop) (w : World) : Prop :=
  Calls Tryz.prog 55 ⟨[.int .u8 c_1]⟩ w fun (e2 : Ending) (w3 : World) =>
  ∃ (x4 : Int), e2 = .returned (.int .i64 x4) ∧ (br (decide ((x4 : Int) = 1)) (R (.returned (.bool true)) w3) (R (.returned (.bool (decide ((x4 : Int) = 3)))) w3))
set_option maxRecDepth 100000 in
theorem e_tokenizer_begins (c_1 : Int) (R : Ending → World → Prop) (w : World) : fnV Tryz.prog Tryz.f155 an_tokenizer_begins [.int .u8 c_1] R w = sh_tokenizer_begins c_1 R w := by kernel_rfl
theorem c_tokenizer_begins {c_1 : Int} {R : Ending → World → Prop} {w : World} (h : sh_tokenizer_begins c_1 R w) : Calls Tryz.prog F_tokenizer_begins ⟨[.int .u8 c_1]⟩ w R := calls_of_fnV Tryz.func155 (by rw [e_tokenizer_begins]; exact h)

def an_charset_Letters : Ann := .two (.leaf) (.two (.leaf) (.two (.two (.leaf) (.one (.loop 16777016 [(3, .one (.int .i64)), (8, .one (.int .i64))] (.two (.leaf) (.two (.two (.leaf) (.leaf)) (.two (.one (.two (.leaf) (.two (.leaf) (.two (.leaf) (.two (.leaf) (.leaf)))))) (.leaf))))))) (.two (.leaf) (.leaf))))
def sh_charset_Letters (s_1 : List UInt8) (R : Ending → World → Prop) (w : World) : Prop :=
  ∃ (I2 : Int → Int → World → Nat → Prop), (∃ m7 : Nat, I2 0 0 w m7) ∧ ∀ (n_3 : Int) (t8_4 : Int) (w5 : World) (m6 : Nat), I2 n_3 t8_4 w5 m6 → ∀ _ : Env, (br (decide ((t8_4 : Int) < ((List.length s_1 : Int)))) (sidx s_1 t8_4 fun b8 =>
  Calls Tryz.prog 55 ⟨[.int .u8 ((b8.toNat : Int))]⟩ w5 fun (e9 : Ending) (w10 : World) =>
  ∃ (x11 : Int), e9 = .returned (.int .i64 x11) ∧ (br (decide ((x11 : Int) = 1)) (∃ m12 : Nat, m12 < m6 ∧ I2 (IntKind.i64.wrap (n_3 + 1)) (IntKind.i64.wrap (t8_4 + 1)) w10 m12) (br (decide ((x11 : Int) = 3)) (∃ m13 : Nat, m13 < m6 ∧ I2 (IntKind.i64.wrap (n_3 + 1)) (IntKind.i64.wrap (t8_4 + 1)) w10 m13) (∃ m14 : Nat, m14 < m6 ∧ I2 n_3 (IntKind.i64.wrap (t8_4 + 1)) w10 m14)))) (R (.returned (.int .i64 n_3)) w5))
set_option maxRecDepth 100000 in
theorem e_charset_Letters (s_1 : List UInt8) (R : Ending → World → Prop) (w : World) : fnV Tryz.prog Tryz.f156 an_charset_Letters [.string ⟨⟨s_1⟩⟩] R w = sh_charset_Letters s_1 R w := by kernel_rfl
theorem c_charset_Letters {s_1 : List UInt8} {R : Ending → World → Prop} {w : World} (h : sh_charset_Letters s_1 R w) : Calls Tryz.prog F_charset_Letters ⟨[.string ⟨⟨s_1⟩⟩]⟩ w R := calls_of_fnV Tryz.func156 (by rw [e_charset_Letters]; exact h)

def an_rewriting_step : Ann := .two (.leaf) (.two (.two (.leaf) (.one (.rf [1, 4, 5, 9] 0))) (.two (.leaf) (.leaf)))
def sh_rewriting_step (rules_1 : Option Addr) (rules_1n : Nat) (rules_1c : Nat) (w_2 : List UInt8) (R : Ending → World → Prop) (w : World) : Prop :=
  al w 9 [.string ⟨⟨[]⟩⟩] fun p3 w4 =>
  al w4 4 [.bool false] fun p5 w6 =>
  Calls Tryz.prog 189 ⟨[.slice rules_1 rules_1n rules_1c, .string ⟨⟨w_2⟩⟩]⟩ w6 fun (e7 : Ending) (w8 : World) =>
  ∃ (x9 : Fn) (x9a : Array Value) (x9b : Array Value), e7 = .returned (.func x9 x9a x9b) ∧ (∀ base10 : Env, RFw Tryz.prog none 13 (cdAt Tryz.f158 [1, 0, 1, 2]) (upd (upd (upd (upd base10 9 (.func x9 x9a x9b)) 5 (.pointer (some p5))) 4 (.pointer (some p3))) 1 (.string ⟨⟨w_2⟩⟩)) [] w8 0 (fun ds11 w12 =>
  stL w12 p3 0 [.string ⟨⟨w_2⟩⟩] fun w18 =>
  stL w18 p5 0 [.bool false] fun w19 =>
  retD ds11 w19 fun w20 =>
  ∃ (x21 : List UInt8), World.cell? w20 p3 = some (.string ⟨⟨x21⟩⟩) ∧ (∃ (x22 : Bool), World.cell? w20 p5 = some (.bool x22) ∧ (R (.returned (.tuple ⟨[.string ⟨⟨x21⟩⟩, .bool x22]⟩)) w20))) (fun ds11 w12 =>
  retD ds11 w12 fun w23 =>
  ∃ (x24 : List UInt8), World.cell? w23 p3 = some (.string ⟨⟨x24⟩⟩) ∧ (∃ (x25 : Bool), World.cell? w23 p5 = some (.bool x25) ∧ (R (.returned (.tuple ⟨[.string ⟨⟨x24⟩⟩, .bool x25]⟩)) w23))) (fun ds11 w12 =>
  stL w12 p3 0 [.string ⟨⟨w_2⟩⟩] fun w13 =>
  stL w13 p5 0 [.bool false] fun w14 =>
  retD ds11 w14 fun w15 =>
  ∃ (x16 : List UInt8), World.cell? w15 p3 = some (.string ⟨⟨x16⟩⟩) ∧ (∃ (x17 : Bool), World.cell? w15 p5 = some (.bool x17) ∧ (R (.returned (.tuple ⟨[.string ⟨⟨x16⟩⟩, .bool x17]⟩)) w15))))
set_option maxRecDepth 100000 in
theorem e_rewriting_step (rules_1 : Option Addr) (rules_1n : Nat) (rules_1c : Nat) (w_2 : List UInt8) (R : Ending → World → Prop) (w : World) : fnV Tryz.prog Tryz.f158 an_rewriting_step [.slice rules_1 rules_1n rules_1c, .string ⟨⟨w_2⟩⟩] R w = sh_rewriting_step rules_1 rules_1n rules_1c w_2 R w := by kernel_rfl
theorem c_rewriting_step {rules_1 : Option Addr} {rules_1n : Nat} {rules_1c : Nat} {w_2 : List UInt8} {R : Ending → World → Prop} {w : World} (h : sh_rewriting_step rules_1 rules_1n rules_1c w_2 R w) : Calls Tryz.prog F_rewriting_step ⟨[.slice rules_1 rules_1n rules_1c, .string ⟨⟨w_2⟩⟩]⟩ w R := calls_of_fnV Tryz.func158 (by rw [e_rewriting_step]; exact h)
def anA_rewriting_step_1 : Ann := .leaf
def anB_rewriting_step_1 : Ann := .one (.two (.leaf) (.leaf))
def rf_rewriting_step_1 (w_26 : List UInt8) (t4_27 : Option Addr) (t5_28 : Option Addr) (t9_29 : Fn) (t9_29a : Array Value) (t9_29b : Array Value) (t10_30 : List UInt8) (l : Nat) (Kn Kr Kx : World → World → Prop) (w : World) : Prop :=
  Ext w w ∧ ∀ w31 : World, Upd l w w31 → (dr t4_27 fun p33 =>
  stL w31 p33 0 [.string ⟨⟨t10_30⟩⟩] fun w32 =>
  dr t5_28 fun p35 =>
  stL w32 p35 0 [.bool true] fun w34 =>
  Kr w31 w34)
set_option maxRecDepth 100000 in
theorem er_rewriting_step_1 (base : Env) (w_26 : List UInt8) (t4_27 : Option Addr) (t5_28 : Option Addr) (t9_29 : Fn) (t9_29a : Array Value) (t9_29b : Array Value) (t10_30 : List UInt8) (l : Nat) (Kn Kr Kx : World → World → Prop) (w : World) : fragV Tryz.prog 13 anA_rewriting_step_1 anB_rewriting_step_1 (cdAt Tryz.f158 [1, 0, 1, 2, 5]) (cdAt Tryz.f158 [1, 0, 1, 2, 6]) l 0 Kn Kr Kx (updPs [10] [.string ⟨⟨t10_30⟩⟩] (upd (upd (upd (upd base 9 (.func t9_29 t9_29a t9_29b)) 5 (.pointer t5_28)) 4 (.pointer t4_27)) 1 (.string ⟨⟨w_26⟩⟩))) w = rf_rewriting_step_1 w_26 t4_27 t5_28 t9_29 t9_29a t9_29b t10_30 l Kn Kr Kx w := by kernel_rfl
theorem cd_rewriting_step_1 : cdAt Tryz.f158 [1, 0, 1, 2] = .rangeFunc (Operand.tmp 9) #[10] (cdAt Tryz.f158 [1, 0, 1, 2, 5]) (cdAt Tryz.f158 [1, 0, 1, 2, 6]) := by kernel_rfl

def an_slices_insertionSortCmpFunc_of_string : Ann := .two (.leaf) (.one (.loop 9007199254737664 [(8, .one (.int .i64))] (.two (.two (.leaf) (.two (.leaf) (.leaf))) (.two (.one (.two (.leaf) (.one (.loop 9007199254479360 [(9, .one (.int .i64))] (.cut 34359476224 [] (.two (.leaf) (.two (.leaf) (.leaf))) (.two (.one (.leaf)) (.leaf))))))) (.leaf)))))
def sh_slices_insertionSortCmpFunc_of_string (data_1 : Option Addr) (data_1n : Nat) (data_1c : Nat) (a_2 : Int) (b_3 : Int) (cmp_4 : Fn) (cmp_4a : Array Value) (cmp_4b : Array Value) (R : Ending → World → Prop) (w : World) : Prop :=
  ∃ (I5 : Int → World → Nat → Prop), (∃ m9 : Nat, I5 (IntKind.i64.wrap (a_2 + 1)) w m9) ∧ ∀ (i_6 : Int) (w7 : World) (m8 : Nat), I5 i_6 w7 m8 → ∀ _ : Env, (br (decide ((i_6 : Int) < b_3)) (∃ (I10 : Int → World → Nat → Prop), (∃ m14 : Nat, I10 i_6 w7 m14) ∧ ∀ (j_11 : Int) (w12 : World) (m13 : Nat), I10 j_11 w12 m13 → ∀ _ : Env, (∀ (K15 : World → Prop), (∀  (w16 : World), (∀ _ : Env, (drw w16 fun w17 =>
  idx data_1 data_1n (IntKind.i64.wrap (j_11 - 1)) 1 fun p18 =>
  ∃ (x19 : List UInt8), World.cell? w17 p18 = some (.string ⟨⟨x19⟩⟩) ∧ (idx data_1 data_1n j_11 1 fun p20 =>
  ∃ (x21 : List UInt8), World.cell? w17 p20 = some (.string ⟨⟨x21⟩⟩) ∧ (idx data_1 data_1n j_11 1 fun p22 =>
  (stL w17 p22 0 [.string ⟨⟨x19⟩⟩] fun w23 =>
  idx data_1 data_1n (IntKind.i64.wrap (j_11 - 1)) 1 fun p24 =>
  (stL w23 p24 0 [.string ⟨⟨x21⟩⟩] fun w25 =>
  ∃ m26 : Nat, m26 < m13 ∧ I10 (IntKind.i64.wrap (j_11 - 1)) w25 m26) ∧ True) ∧ True)))) → K15 w16) → (drw w12 fun w27 =>
  br (decide ((a_2 : Int) < j_11)) (idx data_1 data_1n j_11 1 fun p28 =>
  ∃ (x29 : List UInt8), World.cell? w27 p28 = some (.string ⟨⟨x29⟩⟩) ∧ (idx data_1 data_1n (IntKind.i64.wrap (j_11 - 1)) 1 fun p30 =>
  ∃ (x31 : List UInt8), World.cell? w27 p30 = some (.string ⟨⟨x31⟩⟩) ∧ ((CallV Tryz.prog (.func cmp_4 cmp_4a cmp_4b) [.string ⟨⟨x29⟩⟩, .string ⟨⟨x31⟩⟩] w27 fun (e32 : Ending) (w33 : World) =>
  ∃ (x34 : Int), e32 = .returned (.int .i64 x34) ∧ (br (decide ((x34 : Int) < 0)) (K15 w33) (∃ m35 : Nat, m35 < m8 ∧ I5 (IntKind.i64.wrap (i_6 + 1)) w33 m35))) ∧ True))) ((∃ m36 : Nat, m36 < m8 ∧ I5 (IntKind.i64.wrap (i_6 + 1)) w27 m36) ∧ True)))) (R (.returned (.tuple ⟨[]⟩)) w7))
set_option maxRecDepth 100000 in
theorem e_slices_insertionSortCmpFunc_of_string (data_1 : Option Addr) (data_1n : Nat) (data_1c : Nat) (a_2 : Int) (b_3 : Int) (cmp_4 : Fn) (cmp_4a : Array Value) (cmp_4b : Array Value) (R : Ending → World → Prop) (w : World) : fnV Tryz.prog Tryz.f159 an_slices_insertionSortCmpFunc_of_string [.slice data_1 data_1n data_1c, .int .i64 a_2, .int .i64 b_3, .func cmp_4 cmp_4a cmp_4b] R w = sh_slices_insertionSortCmpFunc_of_string data_1 data_1n data_1c a_2 b_3 cmp_4 cmp_4a cmp_4b R w := by kernel_rfl
theorem c_slices_insertionSortCmpFunc_of_string {data_1 : Option Addr} {data_1n : Nat} {data_1c : Nat} {a_2 : Int} {b_3 : Int} {cmp_4 : Fn} {cmp_4a : Array Value} {cmp_4b : Array Value} {R : Ending → World → Prop} {w : World} (h : sh_slices_insertionSortCmpFunc_of_string data_1 data_1n data_1c a_2 b_3 cmp_4 cmp_4a cmp_4b R w) : Calls Tryz.prog F_slices_insertionSortCmpFunc_of_string ⟨[.slice data_1 data_1n data_1c, .int .i64 a_2, .int .i64 b_3, .func cmp_4 cmp_4a cmp_4b]⟩ w R := calls_of_fnV Tryz.func159 (by rw [e_slices_insertionSortCmpFunc_of_string]; exact h)

def an_rewriting_results : Ann := .two (.leaf) (.two (.leaf) (.leaf))
def sh_rewriting_results (rules_1 : Option Addr) (rules_1n : Nat) (rules_1c : Nat) (w_2 : List UInt8) (R : Ending → World → Prop) (w : World) : Prop :=
  al w 23 [.slice rules_1 rules_1n rules_1c] fun p3 w4 =>
  al w4 9 [.string ⟨⟨w_2⟩⟩] fun p5 w6 =>
  R (.returned (.func (.func 207) ⟨[]⟩ ⟨[.pointer (some p5), .pointer (some p3)]⟩)) w6
set_option maxRecDepth 100000 in
theorem e_rewriting_results (rules_1 : Option Addr) (rules_1n : Nat) (rules_1c : Nat) (w_2 : List UInt8) (R : Ending → World → Prop) (w : World) : fnV Tryz.prog Tryz.f189 an_rewriting_results [.slice rules_1 rules_1n rules_1c, .string ⟨⟨w_2⟩⟩] R w = sh_rewriting_results rules_1 rules_1n rules_1c w_2 R w := by kernel_rfl
theorem c_rewriting_results {rules_1 : Option Addr} {rules_1n : Nat} {rules_1c : Nat} {w_2 : List UInt8} {R : Ending → World → Prop} {w : World} (h : sh_rewriting_results rules_1 rules_1n rules_1c w_2 R w) : Calls Tryz.prog F_rewriting_results ⟨[.slice rules_1 rules_1n rules_1c, .string ⟨⟨w_2⟩⟩]⟩ w R := calls_of_fnV Tryz.func189 (by rw [e_rewriting_results]; exact h)

def an_rewriting_results_1 : Ann := .two (.leaf) (.one (.loop 35184372087248 [(11, .one (.int .i64))] (.two (.leaf) (.two (.two (.leaf) (.leaf)) (.two (.one (.two (.leaf) (.two (.leaf) (.one (.loop 17592185979328 [(16, .one (.int .i64))] (.two (.leaf) (.two (.two (.leaf) (.leaf)) (.two (.one (.two (.leaf) (.two (.leaf) (.two (.leaf) (.two (.leaf) (.leaf)))))) (.leaf))))))))) (.leaf))))))
def sh_rewriting_results_1 (yield_1 : Fn) (yield_1a : Array Value) (yield_1b : Array Value) (t1_2 : Option Addr) (t2_3 : Option Addr) (R : Ending → World → Prop) (w : World) : Prop :=
  dr t1_2 fun p4 =>
  ∃ (x5 : List UInt8), World.cell? w p4 = some (.string ⟨⟨x5⟩⟩) ∧ (∃ (I6 : Int → World → Nat → Prop), (∃ m10 : Nat, I6 0 w m10) ∧ ∀ (t11_7 : Int) (w8 : World) (m9 : Nat), I6 t11_7 w8 m9 → ∀ _ : Env, (br (decide ((t11_7 : Int) < ((List.length x5 : Int)))) (dr t2_3 fun p11 =>
  ∃ (x12 : Option Addr) (x12n : Nat) (x12c : Nat), World.cell? w8 p11 = some (.slice x12 x12n x12c) ∧ (∃ (I13 : Int → World → Nat → Prop), (∃ m17 : Nat, I13 0 w8 m17) ∧ ∀ (t16_14 : Int) (w15 : World) (m16 : Nat), I13 t16_14 w15 m16 → ∀ _ : Env, (br (decide ((t16_14 : Int) < ((x12n : Int)))) (idx x12 x12n t16_14 2 fun p18 =>
  ∃ (x19 : List UInt8), World.cell? w15 (p18.add 0) = some (.string ⟨⟨x19⟩⟩) ∧ (∃ (x20 : List UInt8), World.cell? w15 (p18.add 1) = some (.string ⟨⟨x20⟩⟩) ∧ (al w15 91 [.string ⟨⟨[]⟩⟩, .string ⟨⟨[]⟩⟩] fun p21 w22 =>
  stL w22 p21 0 [.string ⟨⟨x19⟩⟩, .string ⟨⟨x20⟩⟩] fun w23 =>
  drw w23 fun w24 =>
  dr t1_2 fun p25 =>
  ∃ (x26 : List UInt8), World.cell? w24 p25 = some (.string ⟨⟨x26⟩⟩) ∧ (ssl x26 t11_7 (List.length x26 : Int) fun s27 =>
  ∃ (x28 : List UInt8), World.cell? w24 (p21.add 0) = some (.string ⟨⟨x28⟩⟩) ∧ ((Calls Tryz.prog 208 ⟨[.string ⟨⟨s27⟩⟩, .string ⟨⟨x28⟩⟩]⟩ w24 fun (e29 : Ending) (w30 : World) =>
  ∃ (x31 : List UInt8) (x32 : Bool), e29 = .returned (.tuple ⟨[.string ⟨⟨x31⟩⟩, .bool x32]⟩) ∧ (drw w30 fun w33 =>
  br x32 (dr t1_2 fun p34 =>
  ∃ (x35 : List UInt8), World.cell? w33 p34 = some (.string ⟨⟨x35⟩⟩) ∧ (ssl x35 0 t11_7 fun s36 =>
  ∃ (x37 : List UInt8), World.cell? w33 (p21.add 1) = some (.string ⟨⟨x37⟩⟩) ∧ (sadd s36 x37 fun s38 =>
  sadd s38 x31 fun s39 =>
  (CallV Tryz.prog (.func yield_1 yield_1a yield_1b) [.string ⟨⟨s39⟩⟩] w33 fun (e40 : Ending) (w41 : World) =>
  ∃ (x42 : Bool), e40 = .returned (.bool x42) ∧ (br (!x42) (R (.returned (.tuple ⟨[]⟩)) w41) (∃ m43 : Nat, m43 < m16 ∧ I13 (IntKind.i64.wrap (t16_14 + 1)) w41 m43))) ∧ True))) ((∃ m44 : Nat, m44 < m16 ∧ I13 (IntKind.i64.wrap (t16_14 + 1)) w33 m44) ∧ True))) ∧ True))))) (∃ m45 : Nat, m45 < m9 ∧ I6 (IntKind.i64.wrap (t11_7 + 1)) w15 m45)))) (R (.returned (.tuple ⟨[]⟩)) w8)))
set_option maxRecDepth 100000 in
theorem e_rewriting_results_1 (yield_1 : Fn) (yield_1a : Array Value) (yield_1b : Array Value) (t1_2 : Option Addr) (t2_3 : Option Addr) (R : Ending → World → Prop) (w : World) : fnV Tryz.prog Tryz.f207 an_rewriting_results_1 [.func yield_1 yield_1a yield_1b, .pointer t1_2, .pointer t2_3] R w = sh_rewriting_results_1 yield_1 yield_1a yield_1b t1_2 t2_3 R w := by kernel_rfl
theorem c_rewriting_results_1 {yield_1 : Fn} {yield_1a : Array Value} {yield_1b : Array Value} {t1_2 : Option Addr} {t2_3 : Option Addr} {R : Ending → World → Prop} {w : World} (h : sh_rewriting_results_1 yield_1 yield_1a yield_1b t1_2 t2_3 R w) : Calls Tryz.prog F_rewriting_results_1 ⟨[.func yield_1 yield_1a yield_1b, .pointer t1_2, .pointer t2_3]⟩ w R := calls_of_fnV Tryz.func207 (by rw [e_rewriting_results_1]; exact h)

def an_strings_CutPrefix : Ann := .two (.leaf) (.two (.leaf) (.leaf))
def sh_strings_CutPrefix (s_1 : List UInt8) (prefix_2 : List UInt8) (R : Ending → World → Prop) (w : World) : Prop :=
  Calls Tryz.prog 218 ⟨[.string ⟨⟨s_1⟩⟩, .string ⟨⟨prefix_2⟩⟩]⟩ w fun (e3 : Ending) (w4 : World) =>
  ∃ (x5 : List UInt8) (x6 : Bool), e3 = .returned (.tuple ⟨[.string ⟨⟨x5⟩⟩, .bool x6]⟩) ∧ (R (.returned (.tuple ⟨[.string ⟨⟨x5⟩⟩, .bool x6]⟩)) w4)
set_option maxRecDepth 100000 in
theorem e_strings_CutPrefix (s_1 : List UInt8) (prefix_2 : List UInt8) (R : Ending → World → Prop) (w : World) : fnV Tryz.prog Tryz.f208 an_strings_CutPrefix [.string ⟨⟨s_1⟩⟩, .string ⟨⟨prefix_2⟩⟩] R w = sh_strings_CutPrefix s_1 prefix_2 R w := by kernel_rfl
theorem c_strings_CutPrefix {s_1 : List UInt8} {prefix_2 : List UInt8} {R : Ending → World → Prop} {w : World} (h : sh_strings_CutPrefix s_1 prefix_2 R w) : Calls Tryz.prog F_strings_CutPrefix ⟨[.string ⟨⟨s_1⟩⟩, .string ⟨⟨prefix_2⟩⟩]⟩ w R := calls_of_fnV Tryz.func208 (by rw [e_strings_CutPrefix]; exact h)

def an_internal_stringslite_CutPrefix : Ann := .two (.leaf) (.two (.two (.leaf) (.two (.two (.leaf) (.leaf)) (.leaf))) (.two (.leaf) (.leaf)))
def sh_internal_stringslite_CutPrefix (s_1 : List UInt8) (prefix_2 : List UInt8) (R : Ending → World → Prop) (w : World) : Prop :=
  Calls Tryz.prog 221 ⟨[.string ⟨⟨s_1⟩⟩, .string ⟨⟨prefix_2⟩⟩]⟩ w fun (e3 : Ending) (w4 : World) =>
  ∃ (x5 : Bool), e3 = .returned (.bool x5) ∧ (br (!x5) (R (.returned (.tuple ⟨[.string ⟨⟨s_1⟩⟩, .bool false]⟩)) w4) (ssl s_1 ((List.length prefix_2 : Int)) (List.length s_1 : Int) fun s6 =>
  R (.returned (.tuple ⟨[.string ⟨⟨s6⟩⟩, .bool true]⟩)) w4))
set_option maxRecDepth 100000 in
theorem e_internal_stringslite_CutPrefix (s_1 : List UInt8) (prefix_2 : List UInt8) (R : Ending → World → Prop) (w : World) : fnV Tryz.prog Tryz.f218 an_internal_stringslite_CutPrefix [.string ⟨⟨s_1⟩⟩, .string ⟨⟨prefix_2⟩⟩] R w = sh_internal_stringslite_CutPrefix s_1 prefix_2 R w := by kernel_rfl
theorem c_internal_stringslite_CutPrefix {s_1 : List UInt8} {prefix_2 : List UInt8} {R : Ending → World → Prop} {w : World} (h : sh_internal_stringslite_CutPrefix s_1 prefix_2 R w) : Calls Tryz.prog F_internal_stringslite_CutPrefix ⟨[.string ⟨⟨s_1⟩⟩, .string ⟨⟨prefix_2⟩⟩]⟩ w R := calls_of_fnV Tryz.func218 (by rw [e_internal_stringslite_CutPrefix]; exact h)

def an_internal_stringslite_HasPrefix : Ann := .two (.leaf) (.two (.leaf) (.leaf))
def sh_internal_stringslite_HasPrefix (s_1 : List UInt8) (prefix_2 : List UInt8) (R : Ending → World → Prop) (w : World) : Prop :=
  br (decide ((((List.length prefix_2 : Int)) : Int) ≤ ((List.length s_1 : Int)))) (ssl s_1 0 ((List.length prefix_2 : Int)) fun s3 =>
  R (.returned (.bool (decide ((s3 : List UInt8) = prefix_2)))) w) (R (.returned (.bool false)) w)
set_option maxRecDepth 100000 in
theorem e_internal_stringslite_HasPrefix (s_1 : List UInt8) (prefix_2 : List UInt8) (R : Ending → World → Prop) (w : World) : fnV Tryz.prog Tryz.f221 an_internal_stringslite_HasPrefix [.string ⟨⟨s_1⟩⟩, .string ⟨⟨prefix_2⟩⟩] R w = sh_internal_stringslite_HasPrefix s_1 prefix_2 R w := by kernel_rfl
theorem c_internal_stringslite_HasPrefix {s_1 : List UInt8} {prefix_2 : List UInt8} {R : Ending → World → Prop} {w : World} (h : sh_internal_stringslite_HasPrefix s_1 prefix_2 R w) : Calls Tryz.prog F_internal_stringslite_HasPrefix ⟨[.string ⟨⟨s_1⟩⟩, .string ⟨⟨prefix_2⟩⟩]⟩ w R := calls_of_fnV Tryz.func221 (by rw [e_internal_stringslite_HasPrefix]; exact h)

end Go.Proofs
