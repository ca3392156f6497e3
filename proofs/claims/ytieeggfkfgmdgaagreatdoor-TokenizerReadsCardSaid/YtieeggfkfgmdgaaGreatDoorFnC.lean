/- Written by program: for each function its verification condition, that it is the code's (by the kernel), and that it gives the call. -/
import Derived.Test.YtieeggfkfgmdgaaGreatDoorFn
namespace Go.Proofs
open Go Go.Sh
def an_tokenizer_builder_end : Ann := .cut 16380 [] (.two (.leaf) (.two (.leaf) (.leaf))) (.two (.leaf) (.leaf))
def sh_tokenizer_builder_end (b_1 : Option Addr) (R : Ending → World → Prop) (w : World) : Prop :=
  ∀ (K2 : World → Prop), (∀  (w3 : World), (∀ _ : Env, (dr b_1 fun p4 =>
  stL w3 (p4.add 3) 0 [.bool false] fun w5 =>
  dr b_1 fun p6 =>
  Calls Tryz.prog 138 ⟨[.pointer (some (p6.add 1))]⟩ w5 fun (e7 : Ending) (w8 : World) =>
  e7 = .returned (.tuple ⟨[]⟩) ∧ (R (.returned (.tuple ⟨[]⟩)) w8))) → K2 w3) → (dr b_1 fun p9 =>
  ∃ (x10 : Bool), World.cell? w (p9.add 3) = some (.bool x10) ∧ (br x10 (drw w fun w11 =>
  (Calls Tryz.prog 137 ⟨[.pointer b_1]⟩ w11 fun (e12 : Ending) (w13 : World) =>
  ∃ (x14 : Option Addr), e12 = .returned (.pointer x14) ∧ (dr b_1 fun p15 =>
  (Calls Tryz.prog 48 ⟨[.pointer (some (p15.add 1))]⟩ w13 fun (e16 : Ending) (w17 : World) =>
  ∃ (x18 : List UInt8), e16 = .returned (.string ⟨⟨x18⟩⟩) ∧ (dr x14 fun p19 =>
  (stL w17 (p19.add 0) 0 [.string ⟨⟨x18⟩⟩] fun w20 =>
  K2 w20) ∧ True)) ∧ True)) ∧ ((Calls Tryz.prog 137 ⟨[.pointer b_1]⟩ w11 fun (e21 : Ending) (w22 : World) =>
  ∃ (x23 : Option Addr), e21 = .returned (.pointer x23) ∧ (dr b_1 fun p24 =>
  (Calls Tryz.prog 48 ⟨[.pointer (some (p24.add 1))]⟩ w22 fun (e25 : Ending) (w26 : World) =>
  ∃ (x27 : List UInt8), e25 = .returned (.string ⟨⟨x27⟩⟩) ∧ (dr x23 fun p28 =>
  (stL w26 (p28.add 0) 0 [.string ⟨⟨x27⟩⟩] fun w29 =>
  K2 w29) ∧ True)) ∧ True)) ∧ (dr b_1 fun p30 =>
  (Calls Tryz.prog 137 ⟨[.pointer b_1]⟩ w11 fun (e31 : Ending) (w32 : World) =>
  ∃ (x33 : Option Addr), e31 = .returned (.pointer x33) ∧ ((Calls Tryz.prog 48 ⟨[.pointer (some (p30.add 1))]⟩ w32 fun (e34 : Ending) (w35 : World) =>
  ∃ (x36 : List UInt8), e34 = .returned (.string ⟨⟨x36⟩⟩) ∧ (dr x33 fun p37 =>
  (stL w35 (p37.add 0) 0 [.string ⟨⟨x36⟩⟩] fun w38 =>
  K2 w38) ∧ True)) ∧ True)) ∧ ((Calls Tryz.prog 137 ⟨[.pointer b_1]⟩ w11 fun (e39 : Ending) (w40 : World) =>
  ∃ (x41 : Option Addr), e39 = .returned (.pointer x41) ∧ ((Calls Tryz.prog 48 ⟨[.pointer (some (p30.add 1))]⟩ w40 fun (e42 : Ending) (w43 : World) =>
  ∃ (x44 : List UInt8), e42 = .returned (.string ⟨⟨x44⟩⟩) ∧ (dr x41 fun p45 =>
  (stL w43 (p45.add 0) 0 [.string ⟨⟨x44⟩⟩] fun w46 =>
  K2 w46) ∧ True)) ∧ True)) ∧ True) ∧ True) ∧ True) ∧ True) (K2 w)))
set_option maxRecDepth 100000 in
theorem e_tokenizer_builder_end (b_1 : Option Addr) (R : Ending → World → Prop) (w : World) : fnV Tryz.prog Tryz.f92 an_tokenizer_builder_end [.pointer b_1] R w = sh_tokenizer_builder_end b_1 R w := by kernel_rfl
theorem c_tokenizer_builder_end {b_1 : Option Addr} {R : Ending → World → Prop} {w : World} (h : sh_tokenizer_builder_end b_1 R w) : Calls Tryz.prog F_tokenizer_builder_end ⟨[.pointer b_1]⟩ w R := calls_of_fnV Tryz.func92 (by rw [e_tokenizer_builder_end]; exact h)

def an_tokenizer_Tokens_1 : Ann := .two (.leaf) (.two (.leaf) (.leaf))
def sh_tokenizer_Tokens_1 (t_1 : List UInt8) (t_2 : List UInt8) (t_3 : List UInt8) (t_4 : Int) (t_5 : Int) (t_6 : List UInt8) (R : Ending → World → Prop) (w : World) : Prop :=
  al w 31 [.string ⟨⟨t_1⟩⟩, .string ⟨⟨t_2⟩⟩, .string ⟨⟨t_3⟩⟩, .int .i64 t_4, .int .i64 t_5, .string ⟨⟨t_6⟩⟩] fun p7 w8 =>
  ∃ (x9 : List UInt8), World.cell? w8 (p7.add 0) = some (.string ⟨⟨x9⟩⟩) ∧ (R (.returned (.bool (decide ((64 : Int) < ((List.length x9 : Int)))))) w8)
set_option maxRecDepth 100000 in
theorem e_tokenizer_Tokens_1 (t_1 : List UInt8) (t_2 : List UInt8) (t_3 : List UInt8) (t_4 : Int) (t_5 : Int) (t_6 : List UInt8) (R : Ending → World → Prop) (w : World) : fnV Tryz.prog Tryz.f93 an_tokenizer_Tokens_1 [.agg ⟨[.string ⟨⟨t_1⟩⟩, .string ⟨⟨t_2⟩⟩, .string ⟨⟨t_3⟩⟩, .int .i64 t_4, .int .i64 t_5, .string ⟨⟨t_6⟩⟩]⟩] R w = sh_tokenizer_Tokens_1 t_1 t_2 t_3 t_4 t_5 t_6 R w := by kernel_rfl
theorem c_tokenizer_Tokens_1 {t_1 : List UInt8} {t_2 : List UInt8} {t_3 : List UInt8} {t_4 : Int} {t_5 : Int} {t_6 : List UInt8} {R : Ending → World → Prop} {w : World} (h : sh_tokenizer_Tokens_1 t_1 t_2 t_3 t_4 t_5 t_6 R w) : Calls Tryz.prog F_tokenizer_Tokens_1 ⟨[.agg ⟨[.string ⟨⟨t_1⟩⟩, .string ⟨⟨t_2⟩⟩, .string ⟨⟨t_3⟩⟩, .int .i64 t_4, .int .i64 t_5, .string ⟨⟨t_6⟩⟩]⟩]⟩ w R := calls_of_fnV Tryz.func93 (by rw [e_tokenizer_Tokens_1]; exact h)

def an_transcript_Check_1 : Ann := .two (.leaf) (.two (.leaf) (.two (.leaf) (.leaf)))
def sh_transcript_Check_1 (t0_1 : Option Addr) (R : Ending → World → Prop) (w : World) : Prop :=
  dr t0_1 fun p2 =>
  ∃ (x3 : Int), World.cell? w p2 = some (.int .i64 x3) ∧ (dr t0_1 fun p5 =>
  stL w p5 0 [.int .i64 (IntKind.i64.wrap (x3 - 1))] fun w4 =>
  dr t0_1 fun p6 =>
  ∃ (x7 : Int), World.cell? w4 p6 = some (.int .i64 x7) ∧ (R (.returned (.bool (decide ((0 : Int) ≤ x7)))) w4))
set_option maxRecDepth 100000 in
theorem e_transcript_Check_1 (t0_1 : Option Addr) (R : Ending → World → Prop) (w : World) : fnV Tryz.prog Tryz.f98 an_transcript_Check_1 [.pointer t0_1] R w = sh_transcript_Check_1 t0_1 R w := by kernel_rfl
theorem c_transcript_Check_1 {t0_1 : Option Addr} {R : Ending → World → Prop} {w : World} (h : sh_transcript_Check_1 t0_1 R w) : Calls Tryz.prog F_transcript_Check_1 ⟨[.pointer t0_1]⟩ w R := calls_of_fnV Tryz.func98 (by rw [e_transcript_Check_1]; exact h)

def an_transcript_right : Ann := .two (.leaf) (.two (.leaf) (.cut 65284 [] (.two (.leaf) (.two (.two (.leaf) (.leaf)) (.leaf))) (.two (.leaf) (.two (.leaf) (.two (.one (.cut 9007199246352384 [(23, .one (.bool))] (.leaf) (.two (.two (.leaf) (.leaf)) (.cut 4722357475670390472704 [(53, .one (.bool))] (.leaf) (.two (.two (.leaf) (.leaf)) (.cut 4830980911975647053611008 [(72, .one (.bool))] (.leaf) (.two (.two (.leaf) (.leaf)) (.cut 1298074209798003628674107383480320 [(82, .one (.bool))] (.cut 4946924453863062582897672192 [(82, .one (.bool))] (.leaf) (.two (.leaf) (.leaf))) (.two (.two (.leaf) (.leaf)) (.cut 43556141667805908689605042618642248761344 [(110, .one (.bool))] (.cut 331008924731595261318819140987781120 [(110, .one (.bool))] (.leaf) (.two (.leaf) (.cut 20936639007827058705142093823497732096 [(110, .one (.bool))] (.leaf) (.two (.leaf) (.leaf))))) (.two (.two (.leaf) (.leaf)) (.cut 11106816456299431447444547186572914421923840 [(135, .one (.bool))] (.leaf) (.two (.two (.leaf) (.leaf)) (.two (.leaf) (.two (.two (.leaf) (.leaf)) (.leaf)))))))))))))))) (.two (.leaf) (.leaf)))))))
def sh_transcript_right (p_1 : Int) (p_2 : List UInt8) (p_3 : Int) (p_4 : Option Addr) (p_4n : Nat) (p_4c : Nat) (p_5 : Int) (p_6 : Bool) (R : Ending → World → Prop) (w : World) : Prop :=
  al w 80 [.int .i64 p_1, .string ⟨⟨p_2⟩⟩, .int .i64 p_3, .slice p_4 p_4n p_4c, .int .i64 p_5, .bool p_6] fun p7 w8 =>
  ∃ (x9 : Int), World.cell? w8 ((p7.add 0).add 0) = some (.int .i64 x9) ∧ (∃ (x10 : List UInt8), World.cell? w8 ((p7.add 0).add 1) = some (.string ⟨⟨x10⟩⟩) ∧ (∃ (x11 : Int), World.cell? w8 ((p7.add 0).add 2) = some (.int .i64 x11) ∧ (∃ (x12 : Option Addr) (x12n : Nat) (x12c : Nat), World.cell? w8 ((p7.add 0).add 3) = some (.slice x12 x12n x12c) ∧ (al w8 64 [.int .i64 0, .string ⟨⟨[]⟩⟩, .int .i64 0, .slice none 0 0] fun p13 w14 =>
  stL w14 p13 0 [.int .i64 x9, .string ⟨⟨x10⟩⟩, .int .i64 x11, .slice x12 x12n x12c] fun w15 =>
  ∀ (K16 : World → Prop), (∀  (w17 : World), (∀ _ : Env, (∃ (x18 : Int), World.cell? w17 (p13.add 0) = some (.int .i64 x18) ∧ (idx (some (⟨2, 0, none⟩)) 12 x18 4 fun p19 =>
  ∃ (x20 : List UInt8), World.cell? w17 (p19.add 0) = some (.string ⟨⟨x20⟩⟩) ∧ (∃ (x21 : Bool), World.cell? w17 (p19.add 1) = some (.bool x21) ∧ (∃ (x22 : Bool), World.cell? w17 (p19.add 2) = some (.bool x22) ∧ (∃ (x23 : Bool), World.cell? w17 (p19.add 3) = some (.bool x23) ∧ (al w17 161 [.string ⟨⟨[]⟩⟩, .bool false, .bool false, .bool false] fun p24 w25 =>
  stL w25 p24 0 [.string ⟨⟨x20⟩⟩, .bool x21, .bool x22, .bool x23] fun w26 =>
  ∃ (x27 : Int), World.cell? w26 (p13.add 0) = some (.int .i64 x27) ∧ (∀ (K28 : Bool → World → Prop), (∀ (t23_29 : Bool) (w30 : World), (∀ _ : Env, (br t23_29 (R (.returned (.int .i64 8)) w30) (∀ (K31 : Bool → World → Prop), (∀ (t53_32 : Bool) (w33 : World), (∀ _ : Env, (br t53_32 (R (.returned (.int .i64 5)) w33) (∀ (K34 : Bool → World → Prop), (∀ (t72_35 : Bool) (w36 : World), (∀ _ : Env, (br t72_35 (R (.returned (.int .i64 11)) w36) (∀ (K37 : Bool → World → Prop), (∀ (t82_38 : Bool) (w39 : World), (∀ _ : Env, (br t82_38 (R (.returned (.int .i64 14)) w39) (∀ (K40 : Bool → World → Prop), (∀ (t110_41 : Bool) (w42 : World), (∀ _ : Env, (br t110_41 (R (.returned (.int .i64 2)) w42) (∀ (K43 : Bool → World → Prop), (∀ (t135_44 : Bool) (w45 : World), (∀ _ : Env, (br t135_44 (R (.returned (.int .i64 10)) w45) (∃ (x46 : Int), World.cell? w45 (p13.add 0) = some (.int .i64 x46) ∧ (br (decide ((x46 : Int) = 4)) (∃ (x47 : Int), World.cell? w45 (p7.add 4) = some (.int .i64 x47) ∧ (br (decide ((0 : Int) < x47)) (R (.returned (.int .i64 12)) w45) (R (.returned (.int .i64 0)) w45))) (R (.returned (.int .i64 0)) w45))))) → K43 t135_44 w45) → (∃ (x48 : Int), World.cell? w42 (p13.add 0) = some (.int .i64 x48) ∧ (br (decide ((x48 : Int) = 1)) (∃ (x49 : Bool), World.cell? w42 (p7.add 5) = some (.bool x49) ∧ (K43 x49 w42)) (K43 false w42)))))) → K40 t110_41 w42) → (∀ (K50 : Bool → World → Prop), (∀ (t110_51 : Bool) (w52 : World), (∀ _ : Env, (br t110_51 (K40 t110_51 w52) (∀ (K53 : Bool → World → Prop), (∀ (t110_54 : Bool) (w55 : World), (∀ _ : Env, (br t110_54 (K40 t110_54 w55) (∃ (x56 : Bool), World.cell? w55 (p24.add 2) = some (.bool x56) ∧ (br x56 (br (!(decide ((x27 : Int) = 6))) (∃ (x57 : Int), World.cell? w55 (p13.add 2) = some (.int .i64 x57) ∧ (K40 (decide ((8 : Int) < x57)) w55)) (K40 false w55)) (K40 false w55))))) → K53 t110_54 w55) → (br (decide ((x27 : Int) = 6)) (∃ (x58 : Int), World.cell? w52 (p13.add 2) = some (.int .i64 x58) ∧ (K53 (decide ((64 : Int) < x58)) w52)) (K53 false w52))))) → K50 t110_51 w52) → (∃ (x59 : Bool), World.cell? w39 (p24.add 2) = some (.bool x59) ∧ (br x59 (∃ (x60 : Int), World.cell? w39 (p13.add 2) = some (.int .i64 x60) ∧ (K50 (decide ((x60 : Int) < 1)) w39)) (K50 false w39))))))) → K37 t82_38 w39) → (∀ (K61 : Bool → World → Prop), (∀ (t82_62 : Bool) (w63 : World), (∀ _ : Env, (br t82_62 (K37 t82_62 w63) (∃ (x64 : Bool), World.cell? w63 (p24.add 1) = some (.bool x64) ∧ (br x64 (∃ (x65 : Int), World.cell? w63 (p13.add 0) = some (.int .i64 x65) ∧ (br (decide ((x65 : Int) ≠ 1)) (∃ (x66 : Int), World.cell? w63 (p13.add 0) = some (.int .i64 x66) ∧ (br (decide ((x66 : Int) ≠ 10)) (∃ (x67 : List UInt8), World.cell? w63 (p13.add 1) = some (.string ⟨⟨x67⟩⟩) ∧ (Calls Tryz.prog 111 ⟨[.string ⟨⟨x67⟩⟩]⟩ w63 fun (e68 : Ending) (w69 : World) =>
  ∃ (x70 : Bool), e68 = .returned (.bool x70) ∧ (K37 (!x70) w69))) (K37 false w63))) (K37 false w63))) (K37 false w63))))) → K61 t82_62 w63) → (∃ (x71 : Int), World.cell? w36 (p13.add 0) = some (.int .i64 x71) ∧ (br (decide ((x71 : Int) = 10)) (∃ (x72 : List UInt8), World.cell? w36 (p13.add 1) = some (.string ⟨⟨x72⟩⟩) ∧ (Calls Tryz.prog 15 ⟨[.string ⟨⟨x72⟩⟩]⟩ w36 fun (e73 : Ending) (w74 : World) =>
  ∃ (x75 : Bool), e73 = .returned (.bool x75) ∧ (K61 (!x75) w74))) (K61 false w36))))))) → K34 t72_35 w36) → (∃ (x76 : Int), World.cell? w33 (p13.add 0) = some (.int .i64 x76) ∧ (br (decide ((x76 : Int) = 1)) (∃ (x77 : List UInt8), World.cell? w33 (p13.add 1) = some (.string ⟨⟨x77⟩⟩) ∧ (Calls Tryz.prog 37 ⟨[.string ⟨⟨x77⟩⟩]⟩ w33 fun (e78 : Ending) (w79 : World) =>
  ∃ (x80 : Int), e78 = .returned (.int .i64 x80) ∧ (K34 (decide ((x80 : Int) ≠ 0)) w79))) (K34 false w33)))))) → K31 t53_32 w33) → (∃ (x81 : Int), World.cell? w30 (p13.add 0) = some (.int .i64 x81) ∧ (br (decide ((x81 : Int) = 1)) (∃ (x82 : List UInt8), World.cell? w30 (p13.add 1) = some (.string ⟨⟨x82⟩⟩) ∧ (br (decide ((x82 : List UInt8) = ([]))) (K31 true w30) (∃ (x83 : Bool), World.cell? w30 (p24.add 3) = some (.bool x83) ∧ (br x83 (∃ (x84 : Option Addr) (x84n : Nat) (x84c : Nat), World.cell? w30 (p13.add 3) = some (.slice x84 x84n x84c) ∧ (K31 (decide ((((x84n : Int)) : Int) = 0)) w30)) (K31 false w30))))) (∃ (x85 : Bool), World.cell? w30 (p24.add 3) = some (.bool x85) ∧ (br x85 (∃ (x86 : Option Addr) (x86n : Nat) (x86c : Nat), World.cell? w30 (p13.add 3) = some (.slice x86 x86n x86c) ∧ (K31 (decide ((((x86n : Int)) : Int) = 0)) w30)) (K31 false w30)))))))) → K28 t23_29 w30) → (∃ (x87 : Bool), World.cell? w26 (p24.add 1) = some (.bool x87) ∧ (br (!x87) (∃ (x88 : List UInt8), World.cell? w26 (p13.add 1) = some (.string ⟨⟨x88⟩⟩) ∧ (br (decide ((x88 : List UInt8) ≠ ([]))) (K28 true w26) (∃ (x89 : Bool), World.cell? w26 (p24.add 2) = some (.bool x89) ∧ (br (!x89) (∃ (x90 : Int), World.cell? w26 (p13.add 2) = some (.int .i64 x90) ∧ (br (decide ((x90 : Int) ≠ 0)) (K28 true w26) (∃ (x91 : Bool), World.cell? w26 (p24.add 3) = some (.bool x91) ∧ (br (!x91) (∃ (x92 : Option Addr) (x92n : Nat) (x92c : Nat), World.cell? w26 (p13.add 3) = some (.slice x92 x92n x92c) ∧ (K28 (decide ((0 : Int) < ((x92n : Int)))) w26)) (K28 false w26))))) (∃ (x93 : Bool), World.cell? w26 (p24.add 3) = some (.bool x93) ∧ (br (!x93) (∃ (x94 : Option Addr) (x94n : Nat) (x94c : Nat), World.cell? w26 (p13.add 3) = some (.slice x94 x94n x94c) ∧ (K28 (decide ((0 : Int) < ((x94n : Int)))) w26)) (K28 false w26))))))) (∃ (x95 : Bool), World.cell? w26 (p24.add 2) = some (.bool x95) ∧ (br (!x95) (∃ (x96 : Int), World.cell? w26 (p13.add 2) = some (.int .i64 x96) ∧ (br (decide ((x96 : Int) ≠ 0)) (K28 true w26) (∃ (x97 : Bool), World.cell? w26 (p24.add 3) = some (.bool x97) ∧ (br (!x97) (∃ (x98 : Option Addr) (x98n : Nat) (x98c : Nat), World.cell? w26 (p13.add 3) = some (.slice x98 x98n x98c) ∧ (K28 (decide ((0 : Int) < ((x98n : Int)))) w26)) (K28 false w26))))) (∃ (x99 : Bool), World.cell? w26 (p24.add 3) = some (.bool x99) ∧ (br (!x99) (∃ (x100 : Option Addr) (x100n : Nat) (x100c : Nat), World.cell? w26 (p13.add 3) = some (.slice x100 x100n x100c) ∧ (K28 (decide ((0 : Int) < ((x100n : Int)))) w26)) (K28 false w26))))))))))))))) → K16 w17) → (∃ (x101 : Int), World.cell? w15 (p13.add 0) = some (.int .i64 x101) ∧ (br (decide ((x101 : Int) < 1)) (R (.returned (.int .i64 8)) w15) (∃ (x102 : Int), World.cell? w15 (p13.add 0) = some (.int .i64 x102) ∧ (br (decide ((11 : Int) < x102)) (R (.returned (.int .i64 8)) w15) (K16 w15)))))))))
set_option maxRecDepth 100000 in
theorem e_transcript_right (p_1 : Int) (p_2 : List UInt8) (p_3 : Int) (p_4 : Option Addr) (p_4n : Nat) (p_4c : Nat) (p_5 : Int) (p_6 : Bool) (R : Ending → World → Prop) (w : World) : fnV Tryz.prog Tryz.f99 an_transcript_right [.agg ⟨[.int .i64 p_1, .string ⟨⟨p_2⟩⟩, .int .i64 p_3, .slice p_4 p_4n p_4c, .int .i64 p_5, .bool p_6]⟩] R w = sh_transcript_right p_1 p_2 p_3 p_4 p_4n p_4c p_5 p_6 R w := by kernel_rfl
theorem c_transcript_right {p_1 : Int} {p_2 : List UInt8} {p_3 : Int} {p_4 : Option Addr} {p_4n : Nat} {p_4c : Nat} {p_5 : Int} {p_6 : Bool} {R : Ending → World → Prop} {w : World} (h : sh_transcript_right p_1 p_2 p_3 p_4 p_4n p_4c p_5 p_6 R w) : Calls Tryz.prog F_transcript_right ⟨[.agg ⟨[.int .i64 p_1, .string ⟨⟨p_2⟩⟩, .int .i64 p_3, .slice p_4 p_4n p_4c, .int .i64 p_5, .bool p_6]⟩]⟩ w R := calls_of_fnV Tryz.func99 (by rw [e_transcript_right]; exact h)

def an_transcript_marked : Ann := .two (.leaf) (.two (.leaf) (.two (.leaf) (.two (.leaf) (.two (.leaf) (.two (.leaf) (.leaf))))))
def sh_transcript_marked (l_1 : Option Addr) (l_1n : Nat) (l_1c : Nat) (R : Ending → World → Prop) (w : World) : Prop :=
  al w 75 [.pointer none, .slice none 0 0] fun p2 w3 =>
  al w3 163 [.nilFunc] fun p4 w5 =>
  stL w5 p4 0 [.func (.func 142) ⟨[]⟩ ⟨[.pointer (some p2), .pointer (some p4)]⟩] fun w6 =>
  ∃ (x7 : Fn) (x7a : Array Value) (x7b : Array Value), World.cell? w6 p4 = some (.func x7 x7a x7b) ∧ (CallV Tryz.prog (.func x7 x7a x7b) [.slice l_1 l_1n l_1c] w6 fun (e8 : Ending) (w9 : World) =>
  e8 = .returned (.tuple ⟨[]⟩) ∧ (Calls Tryz.prog 48 ⟨[.pointer (some p2)]⟩ w9 fun (e10 : Ending) (w11 : World) =>
  ∃ (x12 : List UInt8), e10 = .returned (.string ⟨⟨x12⟩⟩) ∧ (R (.returned (.string ⟨⟨x12⟩⟩)) w11)))
set_option maxRecDepth 100000 in
theorem e_transcript_marked (l_1 : Option Addr) (l_1n : Nat) (l_1c : Nat) (R : Ending → World → Prop) (w : World) : fnV Tryz.prog Tryz.f100 an_transcript_marked [.slice l_1 l_1n l_1c] R w = sh_transcript_marked l_1 l_1n l_1c R w := by kernel_rfl
theorem c_transcript_marked {l_1 : Option Addr} {l_1n : Nat} {l_1c : Nat} {R : Ending → World → Prop} {w : World} (h : sh_transcript_marked l_1 l_1n l_1c R w) : Calls Tryz.prog F_transcript_marked ⟨[.slice l_1 l_1n l_1c]⟩ w R := calls_of_fnV Tryz.func100 (by rw [e_transcript_marked]; exact h)

def an_transcript_places_1 : Ann := .two (.leaf) (.two (.leaf) (.two (.leaf) (.leaf)))
def sh_transcript_places_1 (yield_1 : Fn) (yield_1a : Array Value) (yield_1b : Array Value) (t1_2 : Option Addr) (R : Ending → World → Prop) (w : World) : Prop :=
  al w 128 [.func yield_1 yield_1a yield_1b] fun p3 w4 =>
  al w4 124 [.nilFunc] fun p5 w6 =>
  stL w6 p5 0 [.func (.func 103) ⟨[]⟩ ⟨[.pointer (some p3), .pointer (some p5)]⟩] fun w7 =>
  ∃ (x8 : Fn) (x8a : Array Value) (x8b : Array Value), World.cell? w7 p5 = some (.func x8 x8a x8b) ∧ (dr t1_2 fun p9 =>
  ∃ (x10 : Option Addr) (x10n : Nat) (x10c : Nat), World.cell? w7 p9 = some (.slice x10 x10n x10c) ∧ (CallV Tryz.prog (.func x8 x8a x8b) [.slice x10 x10n x10c, .int .i64 0] w7 fun (e11 : Ending) (w12 : World) =>
  ∃ (x13 : Bool), e11 = .returned (.bool x13) ∧ (R (.returned (.tuple ⟨[]⟩)) w12)))
set_option maxRecDepth 100000 in
theorem e_transcript_places_1 (yield_1 : Fn) (yield_1a : Array Value) (yield_1b : Array Value) (t1_2 : Option Addr) (R : Ending → World → Prop) (w : World) : fnV Tryz.prog Tryz.f102 an_transcript_places_1 [.func yield_1 yield_1a yield_1b, .pointer t1_2] R w = sh_transcript_places_1 yield_1 yield_1a yield_1b t1_2 R w := by kernel_rfl
theorem c_transcript_places_1 {yield_1 : Fn} {yield_1a : Array Value} {yield_1b : Array Value} {t1_2 : Option Addr} {R : Ending → World → Prop} {w : World} (h : sh_transcript_places_1 yield_1 yield_1a yield_1b t1_2 R w) : Calls Tryz.prog F_transcript_places_1 ⟨[.func yield_1 yield_1a yield_1b, .pointer t1_2]⟩ w R := calls_of_fnV Tryz.func102 (by rw [e_transcript_places_1]; exact h)

def an_transcript_places_1_1 : Ann := .two (.leaf) (.two (.leaf) (.two (.two (.leaf) (.one (.loop 1099511624384 [(7, .one (.bool)), (12, .one (.int .i64))] (.two (.leaf) (.two (.two (.leaf) (.leaf)) (.two (.one (.two (.leaf) (.two (.two (.leaf) (.two (.two (.leaf) (.leaf)) (.leaf))) (.leaf)))) (.leaf))))))) (.two (.leaf) (.leaf))))
def sh_transcript_places_1_1 (l_1 : Option Addr) (l_1n : Nat) (l_1c : Nat) (depth_2 : Int) (t2_3 : Option Addr) (t3_4 : Option Addr) (R : Ending → World → Prop) (w : World) : Prop :=
  ∃ (I5 : Bool → Int → World → Nat → Prop), (∃ m10 : Nat, I5 false 0 w m10) ∧ ∀ (text_6 : Bool) (t12_7 : Int) (w8 : World) (m9 : Nat), I5 text_6 t12_7 w8 m9 → ∀ _ : Env, (br (decide ((t12_7 : Int) < ((l_1n : Int)))) (idx l_1 l_1n t12_7 4 fun p11 =>
  ∃ (x12 : Int), World.cell? w8 (p11.add 0) = some (.int .i64 x12) ∧ (∃ (x13 : List UInt8), World.cell? w8 (p11.add 1) = some (.string ⟨⟨x13⟩⟩) ∧ (∃ (x14 : Int), World.cell? w8 (p11.add 2) = some (.int .i64 x14) ∧ (∃ (x15 : Option Addr) (x15n : Nat) (x15c : Nat), World.cell? w8 (p11.add 3) = some (.slice x15 x15n x15c) ∧ (al w8 64 [.int .i64 0, .string ⟨⟨[]⟩⟩, .int .i64 0, .slice none 0 0] fun p16 w17 =>
  stL w17 p16 0 [.int .i64 x12, .string ⟨⟨x13⟩⟩, .int .i64 x14, .slice x15 x15n x15c] fun w18 =>
  dr t2_3 fun p19 =>
  ∃ (x20 : Fn) (x20a : Array Value) (x20b : Array Value), World.cell? w18 p19 = some (.func x20 x20a x20b) ∧ (∃ (x21 : Int), World.cell? w18 (p16.add 0) = some (.int .i64 x21) ∧ (∃ (x22 : List UInt8), World.cell? w18 (p16.add 1) = some (.string ⟨⟨x22⟩⟩) ∧ (∃ (x23 : Int), World.cell? w18 (p16.add 2) = some (.int .i64 x23) ∧ (∃ (x24 : Option Addr) (x24n : Nat) (x24c : Nat), World.cell? w18 (p16.add 3) = some (.slice x24 x24n x24c) ∧ (CallV Tryz.prog (.func x20 x20a x20b) [.agg ⟨[.int .i64 x21, .string ⟨⟨x22⟩⟩, .int .i64 x23, .slice x24 x24n x24c, .int .i64 depth_2, .bool text_6]⟩] w18 fun (e25 : Ending) (w26 : World) =>
  ∃ (x27 : Bool), e25 = .returned (.bool x27) ∧ (br (!x27) (R (.returned (.bool false)) w26) (br (decide ((depth_2 : Int) ≤ 16)) (dr t3_4 fun p28 =>
  ∃ (x29 : Fn) (x29a : Array Value) (x29b : Array Value), World.cell? w26 p28 = some (.func x29 x29a x29b) ∧ (∃ (x30 : Option Addr) (x30n : Nat) (x30c : Nat), World.cell? w26 (p16.add 3) = some (.slice x30 x30n x30c) ∧ (CallV Tryz.prog (.func x29 x29a x29b) [.slice x30 x30n x30c, .int .i64 (IntKind.i64.wrap (depth_2 + 1))] w26 fun (e31 : Ending) (w32 : World) =>
  ∃ (x33 : Bool), e31 = .returned (.bool x33) ∧ (br (!x33) (R (.returned (.bool false)) w32) (∃ (x34 : Int), World.cell? w32 (p16.add 0) = some (.int .i64 x34) ∧ (∃ m35 : Nat, m35 < m9 ∧ I5 (decide ((x34 : Int) = 1)) (IntKind.i64.wrap (t12_7 + 1)) w32 m35)))))) (∃ (x36 : Int), World.cell? w26 (p16.add 0) = some (.int .i64 x36) ∧ (∃ m37 : Nat, m37 < m9 ∧ I5 (decide ((x36 : Int) = 1)) (IntKind.i64.wrap (t12_7 + 1)) w26 m37)))))))))))))) (R (.returned (.bool true)) w8))
set_option maxRecDepth 100000 in
theorem e_transcript_places_1_1 (l_1 : Option Addr) (l_1n : Nat) (l_1c : Nat) (depth_2 : Int) (t2_3 : Option Addr) (t3_4 : Option Addr) (R : Ending → World → Prop) (w : World) : fnV Tryz.prog Tryz.f103 an_transcript_places_1_1 [.slice l_1 l_1n l_1c, .int .i64 depth_2, .pointer t2_3, .pointer t3_4] R w = sh_transcript_places_1_1 l_1 l_1n l_1c depth_2 t2_3 t3_4 R w := by kernel_rfl
theorem c_transcript_places_1_1 {l_1 : Option Addr} {l_1n : Nat} {l_1c : Nat} {depth_2 : Int} {t2_3 : Option Addr} {t3_4 : Option Addr} {R : Ending → World → Prop} {w : World} (h : sh_transcript_places_1_1 l_1 l_1n l_1c depth_2 t2_3 t3_4 R w) : Calls Tryz.prog F_transcript_places_1_1 ⟨[.slice l_1 l_1n l_1c, .int .i64 depth_2, .pointer t2_3, .pointer t3_4]⟩ w R := calls_of_fnV Tryz.func103 (by rw [e_transcript_places_1_1]; exact h)

def an_tokenizer_inner : Ann := .two (.leaf) (.two (.leaf) (.two (.leaf) (.leaf)))
def sh_tokenizer_inner (c_1 : Int) (R : Ending → World → Prop) (w : World) : Prop :=
  Calls Tryz.prog 55 ⟨[.int .u8 c_1]⟩ w fun (e2 : Ending) (w3 : World) =>
  ∃ (x4 : Int), e2 = .returned (.int .i64 x4) ∧ (Calls Tryz.prog 155 ⟨[.int .u8 c_1]⟩ w3 fun (e5 : Ending) (w6 : World) =>
  ∃ (x7 : Bool), e5 = .returned (.bool x7) ∧ (br x7 (R (.returned (.bool true)) w6) (br (decide ((x4 : Int) = 2)) (R (.returned (.bool true)) w6) (R (.returned (.bool (decide ((x4 : Int) = 4)))) w6))))
set_option maxRecDepth 100000 in
theorem e_tokenizer_inner (c_1 : Int) (R : Ending → World → Prop) (w : World) : fnV Tryz.prog Tryz.f110 an_tokenizer_inner [.int .u8 c_1] R w = sh_tokenizer_inner c_1 R w := by kernel_rfl
theorem c_tokenizer_inner {c_1 : Int} {R : Ending → World → Prop} {w : World} (h : sh_tokenizer_inner c_1 R w) : Calls Tryz.prog F_tokenizer_inner ⟨[.int .u8 c_1]⟩ w R := calls_of_fnV Tryz.func110 (by rw [e_tokenizer_inner]; exact h)

def an_charset_IsName : Ann := .two (.leaf) (.two (.leaf) (.leaf))
def sh_charset_IsName (s_1 : List UInt8) (R : Ending → World → Prop) (w : World) : Prop :=
  br (decide ((s_1 : List UInt8) ≠ ([]))) (br (decide ((((List.length s_1 : Int)) : Int) ≤ 16)) (Calls Tryz.prog 156 ⟨[.string ⟨⟨s_1⟩⟩]⟩ w fun (e2 : Ending) (w3 : World) =>
  ∃ (x4 : Int), e2 = .returned (.int .i64 x4) ∧ (R (.returned (.bool (decide ((x4 : Int) = ((List.length s_1 : Int)))))) w3)) (R (.returned (.bool false)) w)) (R (.returned (.bool false)) w)
set_option maxRecDepth 100000 in
theorem e_charset_IsName (s_1 : List UInt8) (R : Ending → World → Prop) (w : World) : fnV Tryz.prog Tryz.f111 an_charset_IsName [.string ⟨⟨s_1⟩⟩] R w = sh_charset_IsName s_1 R w := by kernel_rfl
theorem c_charset_IsName {s_1 : List UInt8} {R : Ending → World → Prop} {w : World} (h : sh_charset_IsName s_1 R w) : Calls Tryz.prog F_charset_IsName ⟨[.string ⟨⟨s_1⟩⟩]⟩ w R := calls_of_fnV Tryz.func111 (by rw [e_charset_IsName]; exact h)

def an_slices_IndexFunc_of_byte_byte : Ann := .two (.leaf) (.two (.two (.leaf) (.one (.loop 524080 [(8, .one (.int .i64))] (.two (.leaf) (.two (.two (.leaf) (.leaf)) (.two (.one (.two (.leaf) (.two (.leaf) (.two (.two (.leaf) (.leaf)) (.leaf))))) (.leaf))))))) (.two (.leaf) (.leaf)))
def sh_slices_IndexFunc_of_byte_byte (s_1 : Option Addr) (s_1n : Nat) (s_1c : Nat) (f_2 : Fn) (f_2a : Array Value) (f_2b : Array Value) (R : Ending → World → Prop) (w : World) : Prop :=
  ∃ (I3 : Int → World → Nat → Prop), (∃ m7 : Nat, I3 0 w m7) ∧ ∀ (t8_4 : Int) (w5 : World) (m6 : Nat), I3 t8_4 w5 m6 → ∀ _ : Env, (br (decide ((t8_4 : Int) < ((s_1n : Int)))) (idx s_1 s_1n t8_4 1 fun p8 =>
  ∃ (x9 : Int), World.cell? w5 p8 = some (.int .u8 x9) ∧ (CallV Tryz.prog (.func f_2 f_2a f_2b) [.int .u8 x9] w5 fun (e10 : Ending) (w11 : World) =>
  ∃ (x12 : Bool), e10 = .returned (.bool x12) ∧ (br x12 (R (.returned (.int .i64 t8_4)) w11) (∃ m13 : Nat, m13 < m6 ∧ I3 (IntKind.i64.wrap (t8_4 + 1)) w11 m13)))) (R (.returned (.int .i64 ((-1)))) w5))
set_option maxRecDepth 100000 in
theorem e_slices_IndexFunc_of_byte_byte (s_1 : Option Addr) (s_1n : Nat) (s_1c : Nat) (f_2 : Fn) (f_2a : Array Value) (f_2b : Array Value) (R : Ending → World → Prop) (w : World) : fnV Tryz.prog Tryz.f113 an_slices_IndexFunc_of_byte_byte [.slice s_1 s_1n s_1c, .func f_2 f_2a f_2b] R w = sh_slices_IndexFunc_of_byte_byte s_1 s_1n s_1c f_2 f_2a f_2b R w := by kernel_rfl
theorem c_slices_IndexFunc_of_byte_byte {s_1 : Option Addr} {s_1n : Nat} {s_1c : Nat} {f_2 : Fn} {f_2a : Array Value} {f_2b : Array Value} {R : Ending → World → Prop} {w : World} (h : sh_slices_IndexFunc_of_byte_byte s_1 s_1n s_1c f_2 f_2a f_2b R w) : Calls Tryz.prog F_slices_IndexFunc_of_byte_byte ⟨[.slice s_1 s_1n s_1c, .func f_2 f_2a f_2b]⟩ w R := calls_of_fnV Tryz.func113 (by rw [e_slices_IndexFunc_of_byte_byte]; exact h)

def an_rewriting_wordly : Ann := .two (.leaf) (.two (.two (.leaf) (.one (.loop 524236 [(6, .one (.int .i64))] (.two (.leaf) (.two (.two (.leaf) (.leaf)) (.two (.one (.two (.leaf) (.two (.leaf) (.one (.two (.two (.leaf) (.two (.leaf) (.two (.leaf) (.two (.leaf) (.two (.leaf) (.two (.leaf) (.leaf))))))) (.two (.leaf) (.two (.leaf) (.leaf)))))))) (.leaf))))))) (.two (.leaf) (.leaf)))
def sh_rewriting_wordly (s_1 : List UInt8) (R : Ending → World → Prop) (w : World) : Prop :=
  ∃ (I2 : Int → World → Nat → Prop), (∃ m6 : Nat, I2 0 w m6) ∧ ∀ (t6_3 : Int) (w4 : World) (m5 : Nat), I2 t6_3 w4 m5 → ∀ _ : Env, (br (decide ((t6_3 : Int) < ((List.length s_1 : Int)))) (sidx s_1 t6_3 fun b7 =>
  Calls Tryz.prog 55 ⟨[.int .u8 ((b7.toNat : Int))]⟩ w4 fun (e8 : Ending) (w9 : World) =>
  ∃ (x10 : Int), e8 = .returned (.int .i64 x10) ∧ (br (decide ((x10 : Int) = 1)) (br (decide ((x10 : Int) = 1)) (∃ m11 : Nat, m11 < m5 ∧ I2 (IntKind.i64.wrap (t6_3 + 1)) w9 m11) (R (.returned (.bool false)) w9)) (br (decide ((x10 : Int) = 2)) (br (decide ((x10 : Int) = 2)) (∃ m12 : Nat, m12 < m5 ∧ I2 (IntKind.i64.wrap (t6_3 + 1)) w9 m12) (R (.returned (.bool false)) w9)) (br (decide ((x10 : Int) = 3)) (br (decide ((x10 : Int) = 3)) (∃ m13 : Nat, m13 < m5 ∧ I2 (IntKind.i64.wrap (t6_3 + 1)) w9 m13) (R (.returned (.bool false)) w9)) (br (decide ((x10 : Int) = 4)) (∃ m14 : Nat, m14 < m5 ∧ I2 (IntKind.i64.wrap (t6_3 + 1)) w9 m14) (R (.returned (.bool false)) w9)))))) (R (.returned (.bool true)) w4))
set_option maxRecDepth 100000 in
theorem e_rewriting_wordly (s_1 : List UInt8) (R : Ending → World → Prop) (w : World) : fnV Tryz.prog Tryz.f114 an_rewriting_wordly [.string ⟨⟨s_1⟩⟩] R w = sh_rewriting_wordly s_1 R w := by kernel_rfl
theorem c_rewriting_wordly {s_1 : List UInt8} {R : Ending → World → Prop} {w : World} (h : sh_rewriting_wordly s_1 R w) : Calls Tryz.prog F_rewriting_wordly ⟨[.string ⟨⟨s_1⟩⟩]⟩ w R := calls_of_fnV Tryz.func114 (by rw [e_rewriting_wordly]; exact h)

def an_rewriting_check : Ann := .two (.leaf) (.two (.one (.two (.leaf) (.two (.two (.leaf) (.leaf)) (.two (.leaf) (.two (.two (.leaf) (.leaf)) (.two (.leaf) (.two (.two (.leaf) (.leaf)) (.leaf)))))))) (.two (.leaf) (.leaf)))
def sh_rewriting_check (rules_1 : Option Addr) (rules_1n : Nat) (rules_1c : Nat) (w_2 : List UInt8) (R : Ending → World → Prop) (w : World) : Prop :=
  Calls Tryz.prog 17 ⟨[.slice rules_1 rules_1n rules_1c]⟩ w fun (e3 : Ending) (w4 : World) =>
  ∃ (x5 : Int), e3 = .returned (.int .i64 x5) ∧ (br (decide ((x5 : Int) ≠ 0)) (R (.returned (.int .i64 1)) w4) (br (decide ((64 : Int) < ((List.length w_2 : Int)))) (R (.returned (.int .i64 4)) w4) (Calls Tryz.prog 114 ⟨[.string ⟨⟨w_2⟩⟩]⟩ w4 fun (e6 : Ending) (w7 : World) =>
  ∃ (x8 : Bool), e6 = .returned (.bool x8) ∧ (br (!x8) (R (.returned (.int .i64 11)) w7) (R (.returned (.int .i64 0)) w7)))))
set_option maxRecDepth 100000 in
theorem e_rewriting_check (rules_1 : Option Addr) (rules_1n : Nat) (rules_1c : Nat) (w_2 : List UInt8) (R : Ending → World → Prop) (w : World) : fnV Tryz.prog Tryz.f115 an_rewriting_check [.slice rules_1 rules_1n rules_1c, .string ⟨⟨w_2⟩⟩] R w = sh_rewriting_check rules_1 rules_1n rules_1c w_2 R w := by kernel_rfl
theorem c_rewriting_check {rules_1 : Option Addr} {rules_1n : Nat} {rules_1c : Nat} {w_2 : List UInt8} {R : Ending → World → Prop} {w : World} (h : sh_rewriting_check rules_1 rules_1n rules_1c w_2 R w) : Calls Tryz.prog F_rewriting_check ⟨[.slice rules_1 rules_1n rules_1c, .string ⟨⟨w_2⟩⟩]⟩ w R := calls_of_fnV Tryz.func115 (by rw [e_rewriting_check]; exact h)

def an_rewriting_trace : Ann := .two (.leaf) (.two (.leaf) (.one (.loop 4294965744 [(6, .one (.slice))] (.one (.two (.leaf) (.two (.two (.leaf) (.two (.two (.leaf) (.leaf)) (.leaf))) (.two (.two (.leaf) (.two (.two (.leaf) (.leaf)) (.leaf))) (.leaf))))))))
def sh_rewriting_trace (rules_1 : Option Addr) (rules_1n : Nat) (rules_1c : Nat) (w_2 : List UInt8) (R : Ending → World → Prop) (w : World) : Prop :=
  al w 9 [.string ⟨⟨w_2⟩⟩] fun p3 w4 =>
  ∃ (I5 : Option Addr → Nat → Nat → World → Nat → Prop), (∃ m9 : Nat, I5 (some p3) 1 1 w4 m9) ∧ ∀ (out_6 : Option Addr) (out_6n : Nat) (out_6c : Nat) (w7 : World) (m8 : Nat), I5 out_6 out_6n out_6c w7 m8 → ∀ _ : Env, (idx out_6 out_6n (IntKind.i64.wrap (((out_6n : Int)) - 1)) 1 fun p10 =>
  ∃ (x11 : List UInt8), World.cell? w7 p10 = some (.string ⟨⟨x11⟩⟩) ∧ (Calls Tryz.prog 158 ⟨[.slice rules_1 rules_1n rules_1c, .string ⟨⟨x11⟩⟩]⟩ w7 fun (e12 : Ending) (w13 : World) =>
  ∃ (x14 : List UInt8) (x15 : Bool), e12 = .returned (.tuple ⟨[.string ⟨⟨x14⟩⟩, .bool x15]⟩) ∧ (br (!x15) (R (.returned (.tuple ⟨[.slice out_6 out_6n out_6c, .int .i64 0]⟩)) w13) (br (decide ((((out_6n : Int)) : Int) = 4096)) (R (.returned (.tuple ⟨[.slice none 0 0, .int .i64 4]⟩)) w13) (al w13 9 [.string ⟨⟨x14⟩⟩] fun p16 w17 =>
  app Tryz.prog [48, 48] 48 (.slice out_6 out_6n out_6c) (.slice (some p16) 1 1) w17 fun a18 a18n a18c w19 =>
  ∃ m20 : Nat, m20 < m8 ∧ I5 a18 a18n a18c w19 m20)))))
set_option maxRecDepth 100000 in
theorem e_rewriting_trace (rules_1 : Option Addr) (rules_1n : Nat) (rules_1c : Nat) (w_2 : List UInt8) (R : Ending → World → Prop) (w : World) : fnV Tryz.prog Tryz.f116 an_rewriting_trace [.slice rules_1 rules_1n rules_1c, .string ⟨⟨w_2⟩⟩] R w = sh_rewriting_trace rules_1 rules_1n rules_1c w_2 R w := by kernel_rfl
theorem c_rewriting_trace {rules_1 : Option Addr} {rules_1n : Nat} {rules_1c : Nat} {w_2 : List UInt8} {R : Ending → World → Prop} {w : World} (h : sh_rewriting_trace rules_1 rules_1n rules_1c w_2 R w) : Calls Tryz.prog F_rewriting_trace ⟨[.slice rules_1 rules_1n rules_1c, .string ⟨⟨w_2⟩⟩]⟩ w R := calls_of_fnV Tryz.func116 (by rw [e_rewriting_trace]; exact h)

def an_slices_pdqsortCmpFunc_of_string : Ann := .two (.leaf) (.two (.leaf) (.one (.loop 356811923176489970264571492362373784095685646 [(1, .one (.int .i64)), (2, .one (.int .i64)), (3, .one (.int .i64)), (10, .one (.bool)), (11, .one (.bool))] (.one (.two (.leaf) (.two (.two (.leaf) (.two (.two (.leaf) (.leaf)) (.leaf))) (.two (.two (.leaf) (.two (.two (.leaf) (.leaf)) (.leaf))) (.cut 140462610448392 [(3, .one (.int .i64))] (.two (.leaf) (.two (.two (.leaf) (.leaf)) (.leaf))) (.two (.leaf) (.cut 295111876382333886464 [(13, .one (.int .i64)), (14, .one (.int .i64))] (.two (.leaf) (.two (.two (.leaf) (.two (.leaf) (.leaf))) (.leaf))) (.cut 2417556491324078996586496 [] (.cut 75262715820734970593280 [(75, .one (.bool))] (.leaf) (.two (.two (.leaf) (.two (.leaf) (.leaf))) (.leaf))) (.two (.cut 316910232205418121115826388992 [(97, .one (.bool))] (.leaf) (.two (.two (.leaf) (.two (.leaf) (.leaf))) (.leaf))) (.two (.leaf) (.two (.leaf) (.two (.leaf) (.two (.leaf) (.two (.leaf) (.two (.two (.leaf) (.two (.leaf) (.leaf))) (.two (.leaf) (.two (.leaf) (.leaf)))))))))))))))))))))
def sh_slices_pdqsortCmpFunc_of_string (data_1 : Option Addr) (data_1n : Nat) (data_1c : Nat) (a_2 : Int) (b_3 : Int) (limit_4 : Int) (cmp_5 : Fn) (cmp_5a : Array Value) (cmp_5b : Array Value) (R : Ending → World → Prop) (w : World) : Prop :=
  ∃ (I6 : Int → Int → Int → Bool → Bool → World → Nat → Prop), (∃ m14 : Nat, I6 a_2 b_3 limit_4 true true w m14) ∧ ∀ (a_7 : Int) (b_8 : Int) (limit_9 : Int) (wasBalanced_10 : Bool) (wasPartitioned_11 : Bool) (w12 : World) (m13 : Nat), I6 a_7 b_8 limit_9 wasBalanced_10 wasPartitioned_11 w12 m13 → ∀ _ : Env, (br (decide (((IntKind.i64.wrap (b_8 - a_7)) : Int) ≤ 12)) (Calls Tryz.prog 159 ⟨[.slice data_1 data_1n data_1c, .int .i64 a_7, .int .i64 b_8, .func cmp_5 cmp_5a cmp_5b]⟩ w12 fun (e15 : Ending) (w16 : World) =>
  e15 = .returned (.tuple ⟨[]⟩) ∧ (R (.returned (.tuple ⟨[]⟩)) w16)) (br (decide ((limit_9 : Int) = 0)) (Calls Tryz.prog 160 ⟨[.slice data_1 data_1n data_1c, .int .i64 a_7, .int .i64 b_8, .func cmp_5 cmp_5a cmp_5b]⟩ w12 fun (e17 : Ending) (w18 : World) =>
  e17 = .returned (.tuple ⟨[]⟩) ∧ (R (.returned (.tuple ⟨[]⟩)) w18)) (∀ (K19 : Int → World → Prop), (∀ (limit_20 : Int) (w21 : World), (∀ _ : Env, (Calls Tryz.prog 162 ⟨[.slice data_1 data_1n data_1c, .int .i64 a_7, .int .i64 b_8, .func cmp_5 cmp_5a cmp_5b]⟩ w21 fun (e22 : Ending) (w23 : World) =>
  ∃ (x24 : Int) (x25 : Int), e22 = .returned (.tuple ⟨[.int .i64 x24, .int .i64 x25]⟩) ∧ (∀ (K26 : Int → Int → World → Prop), (∀ (pivot_27 : Int) (hint_28 : Int) (w29 : World), (∀ _ : Env, (∀ (K30 : World → Prop), (∀  (w31 : World), (∀ _ : Env, (∀ (K32 : Bool → World → Prop), (∀ (t97_33 : Bool) (w34 : World), (∀ _ : Env, (br t97_33 (Calls Tryz.prog 165 ⟨[.slice data_1 data_1n data_1c, .int .i64 a_7, .int .i64 b_8, .int .i64 pivot_27, .func cmp_5 cmp_5a cmp_5b]⟩ w34 fun (e35 : Ending) (w36 : World) =>
  ∃ (x37 : Int), e35 = .returned (.int .i64 x37) ∧ (∃ m38 : Nat, m38 < m13 ∧ I6 x37 b_8 limit_20 wasBalanced_10 wasPartitioned_11 w36 m38)) (Calls Tryz.prog 166 ⟨[.slice data_1 data_1n data_1c, .int .i64 a_7, .int .i64 b_8, .int .i64 pivot_27, .func cmp_5 cmp_5a cmp_5b]⟩ w34 fun (e39 : Ending) (w40 : World) =>
  ∃ (x41 : Int) (x42 : Bool), e39 = .returned (.tuple ⟨[.int .i64 x41, .bool x42]⟩) ∧ (idiv 8 (br (decide (((IntKind.i64.wrap (x41 - a_7)) : Int) < (IntKind.i64.wrap (b_8 - x41)))) (Calls Tryz.prog 117 ⟨[.slice data_1 data_1n data_1c, .int .i64 a_7, .int .i64 x41, .int .i64 limit_20, .func cmp_5 cmp_5a cmp_5b]⟩ w40 fun (e43 : Ending) (w44 : World) =>
  e43 = .returned (.tuple ⟨[]⟩) ∧ (∃ m45 : Nat, m45 < m13 ∧ I6 (IntKind.i64.wrap (x41 + 1)) b_8 limit_20 (decide (((IntKind.i64.wrap (Int.tdiv (IntKind.i64.wrap (b_8 - a_7)) 8)) : Int) ≤ (IntKind.i64.wrap (x41 - a_7)))) x42 w44 m45)) (Calls Tryz.prog 117 ⟨[.slice data_1 data_1n data_1c, .int .i64 (IntKind.i64.wrap (x41 + 1)), .int .i64 b_8, .int .i64 limit_20, .func cmp_5 cmp_5a cmp_5b]⟩ w40 fun (e46 : Ending) (w47 : World) =>
  e46 = .returned (.tuple ⟨[]⟩) ∧ (∃ m48 : Nat, m48 < m13 ∧ I6 a_7 x41 limit_20 (decide (((IntKind.i64.wrap (Int.tdiv (IntKind.i64.wrap (b_8 - a_7)) 8)) : Int) ≤ (IntKind.i64.wrap (b_8 - x41)))) x42 w47 m48))))))) → K32 t97_33 w34) → (drw w31 fun w49 =>
  br (decide ((0 : Int) < a_7)) (idx data_1 data_1n (IntKind.i64.wrap (a_7 - 1)) 1 fun p50 =>
  ∃ (x51 : List UInt8), World.cell? w49 p50 = some (.string ⟨⟨x51⟩⟩) ∧ (idx data_1 data_1n pivot_27 1 fun p52 =>
  ∃ (x53 : List UInt8), World.cell? w49 p52 = some (.string ⟨⟨x53⟩⟩) ∧ ((CallV Tryz.prog (.func cmp_5 cmp_5a cmp_5b) [.string ⟨⟨x51⟩⟩, .string ⟨⟨x53⟩⟩] w49 fun (e54 : Ending) (w55 : World) =>
  ∃ (x56 : Int), e54 = .returned (.int .i64 x56) ∧ (K32 (!(decide ((x56 : Int) < 0))) w55)) ∧ True))) ((K32 false w49) ∧ True)))) → K30 w31) → (∀ (K57 : Bool → World → Prop), (∀ (t75_58 : Bool) (w59 : World), (∀ _ : Env, (br t75_58 (Calls Tryz.prog 164 ⟨[.slice data_1 data_1n data_1c, .int .i64 a_7, .int .i64 b_8, .func cmp_5 cmp_5a cmp_5b]⟩ w59 fun (e60 : Ending) (w61 : World) =>
  ∃ (x62 : Bool), e60 = .returned (.bool x62) ∧ (br x62 (R (.returned (.tuple ⟨[]⟩)) w61) (K30 w61))) (K30 w59))) → K57 t75_58 w59) → (br wasBalanced_10 (br wasPartitioned_11 (K57 (decide ((hint_28 : Int) = 1)) w29) (K57 false w29)) (K57 false w29))))) → K26 pivot_27 hint_28 w29) → (br (decide ((x25 : Int) = 2)) (Calls Tryz.prog 163 ⟨[.slice data_1 data_1n data_1c, .int .i64 a_7, .int .i64 b_8, .func cmp_5 cmp_5a cmp_5b]⟩ w23 fun (e63 : Ending) (w64 : World) =>
  e63 = .returned (.tuple ⟨[]⟩) ∧ (K26 (IntKind.i64.wrap ((IntKind.i64.wrap (b_8 - 1)) - (IntKind.i64.wrap (x24 - a_7)))) 1 w64)) (K26 x24 x25 w23))))) → K19 limit_20 w21) → (br (!wasBalanced_10) (Calls Tryz.prog 161 ⟨[.slice data_1 data_1n data_1c, .int .i64 a_7, .int .i64 b_8, .func cmp_5 cmp_5a cmp_5b]⟩ w12 fun (e65 : Ending) (w66 : World) =>
  e65 = .returned (.tuple ⟨[]⟩) ∧ (K19 (IntKind.i64.wrap (limit_9 - 1)) w66)) (K19 limit_9 w12)))))
set_option maxRecDepth 100000 in
theorem e_slices_pdqsortCmpFunc_of_string (data_1 : Option Addr) (data_1n : Nat) (data_1c : Nat) (a_2 : Int) (b_3 : Int) (limit_4 : Int) (cmp_5 : Fn) (cmp_5a : Array Value) (cmp_5b : Array Value) (R : Ending → World → Prop) (w : World) : fnV Tryz.prog Tryz.f117 an_slices_pdqsortCmpFunc_of_string [.slice data_1 data_1n data_1c, .int .i64 a_2, .int .i64 b_3, .int .i64 limit_4, .func cmp_5 cmp_5a cmp_5b] R w = sh_slices_pdqsortCmpFunc_of_string data_1 data_1n data_1c a_2 b_3 limit_4 cmp_5 cmp_5a cmp_5b R w := by kernel_rfl
theorem c_slices_pdqsortCmpFunc_of_string {data_1 : Option Addr} {data_1n : Nat} {data_1c : Nat} {a_2 : Int} {b_3 : Int} {limit_4 : Int} {cmp_5 : Fn} {cmp_5a : Array Value} {cmp_5b : Array Value} {R : Ending → World → Prop} {w : World} (h : sh_slices_pdqsortCmpFunc_of_string data_1 data_1n data_1c a_2 b_3 limit_4 cmp_5 cmp_5a cmp_5b R w) : Calls Tryz.prog F_slices_pdqsortCmpFunc_of_string ⟨[.slice data_1 data_1n data_1c, .int .i64 a_2, .int .i64 b_3, .int .i64 limit_4, .func cmp_5 cmp_5a cmp_5b]⟩ w R := calls_of_fnV Tryz.func117 (by rw [e_slices_pdqsortCmpFunc_of_string]; exact h)

def an_slices_DeleteFunc_of_byte_byte : Ann := .two (.leaf) (.two (.leaf) (.two (.two (.leaf) (.two (.two (.leaf) (.leaf)) (.leaf))) (.two (.two (.leaf) (.one (.loop 68719411424 [(5, .one (.int .i64)), (6, .one (.int .i64))] (.two (.two (.leaf) (.two (.leaf) (.leaf))) (.two (.one (.two (.leaf) (.two (.leaf) (.two (.two (.leaf) (.leaf)) (.leaf))))) (.leaf)))))) (.two (.leaf) (.two (.leaf) (.leaf))))))
def sh_slices_DeleteFunc_of_byte_byte (s_1 : Option Addr) (s_1n : Nat) (s_1c : Nat) (del_2 : Fn) (del_2a : Array Value) (del_2b : Array Value) (R : Ending → World → Prop) (w : World) : Prop :=
  Calls Tryz.prog 113 ⟨[.slice s_1 s_1n s_1c, .func del_2 del_2a del_2b]⟩ w fun (e3 : Ending) (w4 : World) =>
  ∃ (x5 : Int), e3 = .returned (.int .i64 x5) ∧ (br (decide ((x5 : Int) = ((-1)))) (R (.returned (.slice s_1 s_1n s_1c)) w4) (∃ (I6 : Int → Int → World → Nat → Prop), (∃ m11 : Nat, I6 x5 (IntKind.i64.wrap (x5 + 1)) w4 m11) ∧ ∀ (i_7 : Int) (j_8 : Int) (w9 : World) (m10 : Nat), I6 i_7 j_8 w9 m10 → ∀ _ : Env, (br (decide ((j_8 : Int) < ((s_1n : Int)))) (idx s_1 s_1n j_8 1 fun p12 =>
  ∃ (x13 : Int), World.cell? w9 p12 = some (.int .u8 x13) ∧ (CallV Tryz.prog (.func del_2 del_2a del_2b) [.int .u8 x13] w9 fun (e14 : Ending) (w15 : World) =>
  ∃ (x16 : Bool), e14 = .returned (.bool x16) ∧ (br (!x16) (idx s_1 s_1n i_7 1 fun p17 =>
  stL w15 p17 0 [.int .u8 x13] fun w18 =>
  ∃ m19 : Nat, m19 < m10 ∧ I6 (IntKind.i64.wrap (i_7 + 1)) (IntKind.i64.wrap (j_8 + 1)) w18 m19) (∃ m20 : Nat, m20 < m10 ∧ I6 i_7 (IntKind.i64.wrap (j_8 + 1)) w15 m20)))) (sls s_1 s_1c i_7 (s_1n : Int) 1 fun a21 a21n a21c =>
  clr Tryz.prog [73] 0 [.slice a21 a21n a21c] w9 fun w22 =>
  sls s_1 s_1c 0 i_7 1 fun a23 a23n a23c =>
  R (.returned (.slice a23 a23n a23c)) w22))))
set_option maxRecDepth 100000 in
theorem e_slices_DeleteFunc_of_byte_byte (s_1 : Option Addr) (s_1n : Nat) (s_1c : Nat) (del_2 : Fn) (del_2a : Array Value) (del_2b : Array Value) (R : Ending → World → Prop) (w : World) : fnV Tryz.prog Tryz.f119 an_slices_DeleteFunc_of_byte_byte [.slice s_1 s_1n s_1c, .func del_2 del_2a del_2b] R w = sh_slices_DeleteFunc_of_byte_byte s_1 s_1n s_1c del_2 del_2a del_2b R w := by kernel_rfl
theorem c_slices_DeleteFunc_of_byte_byte {s_1 : Option Addr} {s_1n : Nat} {s_1c : Nat} {del_2 : Fn} {del_2a : Array Value} {del_2b : Array Value} {R : Ending → World → Prop} {w : World} (h : sh_slices_DeleteFunc_of_byte_byte s_1 s_1n s_1c del_2 del_2a del_2b R w) : Calls Tryz.prog F_slices_DeleteFunc_of_byte_byte ⟨[.slice s_1 s_1n s_1c, .func del_2 del_2a del_2b]⟩ w R := calls_of_fnV Tryz.func119 (by rw [e_slices_DeleteFunc_of_byte_byte]; exact h)

def an_charset_Plain_1 : Ann := .two (.leaf) (.two (.leaf) (.leaf))
def sh_charset_Plain_1 (c_1 : Int) (R : Ending → World → Prop) (w : World) : Prop :=
  Calls Tryz.prog 55 ⟨[.int .u8 c_1]⟩ w fun (e2 : Ending) (w3 : World) =>
  ∃ (x4 : Int), e2 = .returned (.int .i64 x4) ∧ (R (.returned (.bool (decide ((x4 : Int) = 2)))) w3)
set_option maxRecDepth 100000 in
theorem e_charset_Plain_1 (c_1 : Int) (R : Ending → World → Prop) (w : World) : fnV Tryz.prog Tryz.f120 an_charset_Plain_1 [.int .u8 c_1] R w = sh_charset_Plain_1 c_1 R w := by kernel_rfl
theorem c_charset_Plain_1 {c_1 : Int} {R : Ending → World → Prop} {w : World} (h : sh_charset_Plain_1 c_1 R w) : Calls Tryz.prog F_charset_Plain_1 ⟨[.int .u8 c_1]⟩ w R := calls_of_fnV Tryz.func120 (by rw [e_charset_Plain_1]; exact h)

def an_cmp_isNaN_of_string : Ann := .two (.leaf) (.two (.leaf) (.leaf))
def sh_cmp_isNaN_of_string (x_1 : List UInt8) (R : Ending → World → Prop) (w : World) : Prop :=
  R (.returned (.bool (decide ((x_1 : List UInt8) ≠ x_1)))) w
set_option maxRecDepth 100000 in
theorem e_cmp_isNaN_of_string (x_1 : List UInt8) (R : Ending → World → Prop) (w : World) : fnV Tryz.prog Tryz.f121 an_cmp_isNaN_of_string [.string ⟨⟨x_1⟩⟩] R w = sh_cmp_isNaN_of_string x_1 R w := by kernel_rfl
theorem c_cmp_isNaN_of_string {x_1 : List UInt8} {R : Ending → World → Prop} {w : World} (h : sh_cmp_isNaN_of_string x_1 R w) : Calls Tryz.prog F_cmp_isNaN_of_string ⟨[.string ⟨⟨x_1⟩⟩]⟩ w R := calls_of_fnV Tryz.func121 (by rw [e_cmp_isNaN_of_string]; exact h)

def an_ref01_IsName : Ann := .two (.leaf) (.two (.leaf) (.leaf))
def sh_ref01_IsName (s_1 : List UInt8) (R : Ending → World → Prop) (w : World) : Prop :=
  br (decide ((((List.length s_1 : Int)) : Int) ≤ 16)) (Calls Tryz.prog 76 ⟨[.string ⟨⟨s_1⟩⟩]⟩ w fun (e2 : Ending) (w3 : World) =>
  ∃ (x4 : Bool), e2 = .returned (.bool x4) ∧ (br x4 (Calls Tryz.prog 169 ⟨[.string ⟨⟨s_1⟩⟩]⟩ w3 fun (e5 : Ending) (w6 : World) =>
  ∃ (x7 : Int), e5 = .returned (.int .i64 x7) ∧ (R (.returned (.bool (decide ((x7 : Int) = ((List.length s_1 : Int)))))) w6)) (R (.returned (.bool false)) w3))) (R (.returned (.bool false)) w)
set_option maxRecDepth 100000 in
theorem e_ref01_IsName (s_1 : List UInt8) (R : Ending → World → Prop) (w : World) : fnV Tryz.prog Tryz.f122 an_ref01_IsName [.string ⟨⟨s_1⟩⟩] R w = sh_ref01_IsName s_1 R w := by kernel_rfl
theorem c_ref01_IsName {s_1 : List UInt8} {R : Ending → World → Prop} {w : World} (h : sh_ref01_IsName s_1 R w) : Calls Tryz.prog F_ref01_IsName ⟨[.string ⟨⟨s_1⟩⟩]⟩ w R := calls_of_fnV Tryz.func122 (by rw [e_ref01_IsName]; exact h)

def an_ref01_right : Ann := .two (.leaf) (.two (.leaf) (.two (.two (.leaf) (.one (.loop 549755813848 [(3, .one (.slice)), (4, .one (.int .i64))] (.two (.two (.leaf) (.two (.leaf) (.leaf))) (.two (.one (.leaf)) (.leaf)))))) (.two (.leaf) (.leaf))))
def sh_ref01_right (s_1 : List UInt8) (R : Ending → World → Prop) (w : World) : Prop :=
  al w 4 [] fun p2 w3 =>
  ∃ (I4 : Option Addr → Nat → Nat → Int → World → Nat → Prop), (∃ m9 : Nat, I4 (some p2) 0 0 0 w3 m9) ∧ ∀ (out_5 : Option Addr) (out_5n : Nat) (out_5c : Nat) (i_6 : Int) (w7 : World) (m8 : Nat), I4 out_5 out_5n out_5c i_6 w7 m8 → ∀ _ : Env, (br (decide ((i_6 : Int) < ((List.length s_1 : Int)))) (sidx s_1 i_6 fun b10 =>
  Calls Tryz.prog 75 ⟨[.int .u8 ((b10.toNat : Int))]⟩ w7 fun (e11 : Ending) (w12 : World) =>
  ∃ (x13 : Int), e11 = .returned (.int .i64 x13) ∧ (br (decide ((x13 : Int) = 2)) (br (decide ((0 : Int) < i_6)) (sidx s_1 (IntKind.i64.wrap (i_6 - 1)) fun b14 =>
  Calls Tryz.prog 75 ⟨[.int .u8 ((b14.toNat : Int))]⟩ w12 fun (e15 : Ending) (w16 : World) =>
  ∃ (x17 : Int), e15 = .returned (.int .i64 x17) ∧ (br (decide ((x17 : Int) = 1)) (al w16 4 [.bool true] fun p18 w19 =>
  app Tryz.prog [140, 140] 140 (.slice out_5 out_5n out_5c) (.slice (some p18) 1 1) w19 fun a20 a20n a20c w21 =>
  ∃ m22 : Nat, m22 < m8 ∧ I4 a20 a20n a20c (IntKind.i64.wrap (i_6 + 1)) w21 m22) (idx out_5 out_5n (IntKind.i64.wrap (i_6 - 1)) 1 fun p23 =>
  ∃ (x24 : Bool), World.cell? w16 p23 = some (.bool x24) ∧ (al w16 4 [.bool x24] fun p25 w26 =>
  app Tryz.prog [140, 140] 140 (.slice out_5 out_5n out_5c) (.slice (some p25) 1 1) w26 fun a27 a27n a27c w28 =>
  ∃ m29 : Nat, m29 < m8 ∧ I4 a27 a27n a27c (IntKind.i64.wrap (i_6 + 1)) w28 m29)))) (al w12 4 [.bool false] fun p30 w31 =>
  app Tryz.prog [140, 140] 140 (.slice out_5 out_5n out_5c) (.slice (some p30) 1 1) w31 fun a32 a32n a32c w33 =>
  ∃ m34 : Nat, m34 < m8 ∧ I4 a32 a32n a32c (IntKind.i64.wrap (i_6 + 1)) w33 m34)) (al w12 4 [.bool false] fun p35 w36 =>
  app Tryz.prog [140, 140] 140 (.slice out_5 out_5n out_5c) (.slice (some p35) 1 1) w36 fun a37 a37n a37c w38 =>
  ∃ m39 : Nat, m39 < m8 ∧ I4 a37 a37n a37c (IntKind.i64.wrap (i_6 + 1)) w38 m39))) (R (.returned (.slice out_5 out_5n out_5c)) w7))
set_option maxRecDepth 100000 in
theorem e_ref01_right (s_1 : List UInt8) (R : Ending → World → Prop) (w : World) : fnV Tryz.prog Tryz.f123 an_ref01_right [.string ⟨⟨s_1⟩⟩] R w = sh_ref01_right s_1 R w := by kernel_rfl
theorem c_ref01_right {s_1 : List UInt8} {R : Ending → World → Prop} {w : World} (h : sh_ref01_right s_1 R w) : Calls Tryz.prog F_ref01_right ⟨[.string ⟨⟨s_1⟩⟩]⟩ w R := calls_of_fnV Tryz.func123 (by rw [e_ref01_right]; exact h)

def an_ref15_begins : Ann := .two (.leaf) (.two (.leaf) (.two (.leaf) (.leaf)))
def sh_ref15_begins (c_1 : Int) (R : Ending → World → Prop) (w : World) : Prop :=
  Calls Tryz.prog 75 ⟨[.int .u8 c_1]⟩ w fun (e2 : Ending) (w3 : World) =>
  ∃ (x4 : Int), e2 = .returned (.int .i64 x4) ∧ (br (decide ((x4 : Int) = 1)) (R (.returned (.bool true)) w3) (R (.returned (.bool (decide ((x4 : Int) = 3)))) w3))
set_option maxRecDepth 100000 in
theorem e_ref15_begins (c_1 : Int) (R : Ending → World → Prop) (w : World) : fnV Tryz.prog Tryz.f124 an_ref15_begins [.int .u8 c_1] R w = sh_ref15_begins c_1 R w := by kernel_rfl
theorem c_ref15_begins {c_1 : Int} {R : Ending → World → Prop} {w : World} (h : sh_ref15_begins c_1 R w) : Calls Tryz.prog F_ref15_begins ⟨[.int .u8 c_1]⟩ w R := calls_of_fnV Tryz.func124 (by rw [e_ref15_begins]; exact h)

def an_ref14_letters : Ann := .two (.leaf) (.two (.two (.leaf) (.one (.loop 536870908 [(3, .one (.int .i64))] (.two (.two (.leaf) (.two (.leaf) (.leaf))) (.two (.one (.two (.leaf) (.two (.leaf) (.two (.two (.leaf) (.leaf)) (.leaf))))) (.leaf)))))) (.two (.leaf) (.leaf)))
def sh_ref14_letters (w_1 : List UInt8) (R : Ending → World → Prop) (w : World) : Prop :=
  ∃ (I2 : Int → World → Nat → Prop), (∃ m6 : Nat, I2 0 w m6) ∧ ∀ (i_3 : Int) (w4 : World) (m5 : Nat), I2 i_3 w4 m5 → ∀ _ : Env, (br (decide ((i_3 : Int) < ((List.length w_1 : Int)))) (sidx w_1 i_3 fun b7 =>
  Calls Tryz.prog 75 ⟨[.int .u8 ((b7.toNat : Int))]⟩ w4 fun (e8 : Ending) (w9 : World) =>
  ∃ (x10 : Int), e8 = .returned (.int .i64 x10) ∧ (br (decide ((x10 : Int) ≠ 1)) (br (decide ((x10 : Int) ≠ 2)) (br (decide ((x10 : Int) ≠ 3)) (br (decide ((x10 : Int) ≠ 4)) (R (.returned (.bool false)) w9) (∃ m11 : Nat, m11 < m5 ∧ I2 (IntKind.i64.wrap (i_3 + 1)) w9 m11)) (∃ m12 : Nat, m12 < m5 ∧ I2 (IntKind.i64.wrap (i_3 + 1)) w9 m12)) (∃ m13 : Nat, m13 < m5 ∧ I2 (IntKind.i64.wrap (i_3 + 1)) w9 m13)) (∃ m14 : Nat, m14 < m5 ∧ I2 (IntKind.i64.wrap (i_3 + 1)) w9 m14))) (R (.returned (.bool true)) w4))
set_option maxRecDepth 100000 in
theorem e_ref14_letters (w_1 : List UInt8) (R : Ending → World → Prop) (w : World) : fnV Tryz.prog Tryz.f125 an_ref14_letters [.string ⟨⟨w_1⟩⟩] R w = sh_ref14_letters w_1 R w := by kernel_rfl
theorem c_ref14_letters {w_1 : List UInt8} {R : Ending → World → Prop} {w : World} (h : sh_ref14_letters w_1 R w) : Calls Tryz.prog F_ref14_letters ⟨[.string ⟨⟨w_1⟩⟩]⟩ w R := calls_of_fnV Tryz.func125 (by rw [e_ref14_letters]; exact h)

def an_ref15_word : Ann := .two (.leaf) (.two (.leaf) (.leaf))
def sh_ref15_word (t_1 : List UInt8) (t_2 : List UInt8) (t_3 : List UInt8) (t_4 : Int) (t_5 : Int) (t_6 : List UInt8) (R : Ending → World → Prop) (w : World) : Prop :=
  al w 31 [.string ⟨⟨t_1⟩⟩, .string ⟨⟨t_2⟩⟩, .string ⟨⟨t_3⟩⟩, .int .i64 t_4, .int .i64 t_5, .string ⟨⟨t_6⟩⟩] fun p7 w8 =>
  ∃ (x9 : List UInt8), World.cell? w8 (p7.add 0) = some (.string ⟨⟨x9⟩⟩) ∧ (∃ (x10 : List UInt8), World.cell? w8 (p7.add 1) = some (.string ⟨⟨x10⟩⟩) ∧ (∃ (x11 : List UInt8), World.cell? w8 (p7.add 2) = some (.string ⟨⟨x11⟩⟩) ∧ (∃ (x12 : Int), World.cell? w8 (p7.add 3) = some (.int .i64 x12) ∧ (∃ (x13 : Int), World.cell? w8 (p7.add 4) = some (.int .i64 x13) ∧ (∃ (x14 : List UInt8), World.cell? w8 (p7.add 5) = some (.string ⟨⟨x14⟩⟩) ∧ (Calls Tryz.prog 73 ⟨[.agg ⟨[.string ⟨⟨x9⟩⟩, .string ⟨⟨x10⟩⟩, .string ⟨⟨x11⟩⟩, .int .i64 x12, .int .i64 x13, .string ⟨⟨x14⟩⟩]⟩, .int .i64 2]⟩ w8 fun (e15 : Ending) (w16 : World) =>
  ∃ (x17 : Bool), e15 = .returned (.bool x17) ∧ (br (!x17) (∃ (x18 : List UInt8), World.cell? w16 (p7.add 0) = some (.string ⟨⟨x18⟩⟩) ∧ (∃ (x19 : List UInt8), World.cell? w16 (p7.add 1) = some (.string ⟨⟨x19⟩⟩) ∧ (∃ (x20 : List UInt8), World.cell? w16 (p7.add 2) = some (.string ⟨⟨x20⟩⟩) ∧ (∃ (x21 : Int), World.cell? w16 (p7.add 3) = some (.int .i64 x21) ∧ (∃ (x22 : Int), World.cell? w16 (p7.add 4) = some (.int .i64 x22) ∧ (∃ (x23 : List UInt8), World.cell? w16 (p7.add 5) = some (.string ⟨⟨x23⟩⟩) ∧ (Calls Tryz.prog 73 ⟨[.agg ⟨[.string ⟨⟨x18⟩⟩, .string ⟨⟨x19⟩⟩, .string ⟨⟨x20⟩⟩, .int .i64 x21, .int .i64 x22, .string ⟨⟨x23⟩⟩]⟩, .int .i64 8]⟩ w16 fun (e24 : Ending) (w25 : World) =>
  ∃ (x26 : Bool), e24 = .returned (.bool x26) ∧ (R (.returned (.bool (!x26))) w25)))))))) (R (.returned (.bool false)) w16))))))))
set_option maxRecDepth 100000 in
theorem e_ref15_word (t_1 : List UInt8) (t_2 : List UInt8) (t_3 : List UInt8) (t_4 : Int) (t_5 : Int) (t_6 : List UInt8) (R : Ending → World → Prop) (w : World) : fnV Tryz.prog Tryz.f126 an_ref15_word [.agg ⟨[.string ⟨⟨t_1⟩⟩, .string ⟨⟨t_2⟩⟩, .string ⟨⟨t_3⟩⟩, .int .i64 t_4, .int .i64 t_5, .string ⟨⟨t_6⟩⟩]⟩] R w = sh_ref15_word t_1 t_2 t_3 t_4 t_5 t_6 R w := by kernel_rfl
theorem c_ref15_word {t_1 : List UInt8} {t_2 : List UInt8} {t_3 : List UInt8} {t_4 : Int} {t_5 : Int} {t_6 : List UInt8} {R : Ending → World → Prop} {w : World} (h : sh_ref15_word t_1 t_2 t_3 t_4 t_5 t_6 R w) : Calls Tryz.prog F_ref15_word ⟨[.agg ⟨[.string ⟨⟨t_1⟩⟩, .string ⟨⟨t_2⟩⟩, .string ⟨⟨t_3⟩⟩, .int .i64 t_4, .int .i64 t_5, .string ⟨⟨t_6⟩⟩]⟩]⟩ w R := calls_of_fnV Tryz.func126 (by rw [e_ref15_word]; exact h)

def an_ref14_Normalize : Ann := .two (.leaf) (.two (.leaf) (.two (.two (.leaf) (.two (.two (.leaf) (.leaf)) (.leaf))) (.two (.leaf) (.leaf))))
def sh_ref14_Normalize (rules_1 : Option Addr) (rules_1n : Nat) (rules_1c : Nat) (w_2 : List UInt8) (R : Ending → World → Prop) (w : World) : Prop :=
  Calls Tryz.prog 170 ⟨[.slice rules_1 rules_1n rules_1c, .string ⟨⟨w_2⟩⟩]⟩ w fun (e3 : Ending) (w4 : World) =>
  ∃ (x5 : Option Addr) (x5n : Nat) (x5c : Nat) (x6 : Int), e3 = .returned (.tuple ⟨[.slice x5 x5n x5c, .int .i64 x6]⟩) ∧ (br (decide ((x6 : Int) ≠ 0)) (R (.returned (.tuple ⟨[.string ⟨⟨[]⟩⟩, .int .i64 x6]⟩)) w4) (idx x5 x5n (IntKind.i64.wrap (((x5n : Int)) - 1)) 1 fun p7 =>
  ∃ (x8 : List UInt8), World.cell? w4 p7 = some (.string ⟨⟨x8⟩⟩) ∧ (R (.returned (.tuple ⟨[.string ⟨⟨x8⟩⟩, .int .i64 0]⟩)) w4)))
set_option maxRecDepth 100000 in
theorem e_ref14_Normalize (rules_1 : Option Addr) (rules_1n : Nat) (rules_1c : Nat) (w_2 : List UInt8) (R : Ending → World → Prop) (w : World) : fnV Tryz.prog Tryz.f127 an_ref14_Normalize [.slice rules_1 rules_1n rules_1c, .string ⟨⟨w_2⟩⟩] R w = sh_ref14_Normalize rules_1 rules_1n rules_1c w_2 R w := by kernel_rfl
theorem c_ref14_Normalize {rules_1 : Option Addr} {rules_1n : Nat} {rules_1c : Nat} {w_2 : List UInt8} {R : Ending → World → Prop} {w : World} (h : sh_ref14_Normalize rules_1 rules_1n rules_1c w_2 R w) : Calls Tryz.prog F_ref14_Normalize ⟨[.slice rules_1 rules_1n rules_1c, .string ⟨⟨w_2⟩⟩]⟩ w R := calls_of_fnV Tryz.func127 (by rw [e_ref14_Normalize]; exact h)

def an_ref01_compare : Ann := .two (.leaf) (.two (.two (.leaf) (.two (.two (.leaf) (.leaf)) (.leaf))) (.two (.two (.leaf) (.two (.two (.leaf) (.leaf)) (.leaf))) (.two (.leaf) (.leaf))))
def sh_ref01_compare (a_1 : List UInt8) (b_2 : List UInt8) (R : Ending → World → Prop) (w : World) : Prop :=
  br (Op.bytesLess a_1 b_2) (R (.returned (.int .i64 ((-1)))) w) (br (!(Op.bytesLess a_1 b_2 || decide ((a_1 : List UInt8) = b_2))) (R (.returned (.int .i64 1)) w) (R (.returned (.int .i64 0)) w))
set_option maxRecDepth 100000 in
theorem e_ref01_compare (a_1 : List UInt8) (b_2 : List UInt8) (R : Ending → World → Prop) (w : World) : fnV Tryz.prog Tryz.f128 an_ref01_compare [.string ⟨⟨a_1⟩⟩, .string ⟨⟨b_2⟩⟩] R w = sh_ref01_compare a_1 b_2 R w := by kernel_rfl
theorem c_ref01_compare {a_1 : List UInt8} {b_2 : List UInt8} {R : Ending → World → Prop} {w : World} (h : sh_ref01_compare a_1 b_2 R w) : Calls Tryz.prog F_ref01_compare ⟨[.string ⟨⟨a_1⟩⟩, .string ⟨⟨b_2⟩⟩]⟩ w R := calls_of_fnV Tryz.func128 (by rw [e_ref01_compare]; exact h)

def an_ref01_Fold : Ann := .two (.leaf) (.two (.leaf) (.two (.two (.leaf) (.one (.loop 536870840 [(3, .one (.slice)), (4, .one (.int .i64))] (.two (.two (.leaf) (.two (.leaf) (.leaf))) (.two (.one (.two (.leaf) (.cut 33488928 [(5, .one (.int .u8))] (.cut 4128768 [(21, .one (.bool))] (.leaf) (.two (.leaf) (.leaf))) (.leaf)))) (.leaf)))))) (.two (.leaf) (.leaf))))
def sh_ref01_Fold (s_1 : List UInt8) (R : Ending → World → Prop) (w : World) : Prop :=
  al w 5 [] fun p2 w3 =>
  ∃ (I4 : Option Addr → Nat → Nat → Int → World → Nat → Prop), (∃ m9 : Nat, I4 (some p2) 0 0 0 w3 m9) ∧ ∀ (out_5 : Option Addr) (out_5n : Nat) (out_5c : Nat) (i_6 : Int) (w7 : World) (m8 : Nat), I4 out_5 out_5n out_5c i_6 w7 m8 → ∀ _ : Env, (br (decide ((i_6 : Int) < ((List.length s_1 : Int)))) (sidx s_1 i_6 fun b10 =>
  ∀ (K11 : Int → World → Prop), (∀ (c_12 : Int) (w13 : World), (∀ _ : Env, (al w13 5 [.int .u8 c_12] fun p14 w15 =>
  app Tryz.prog [73, 73] 73 (.slice out_5 out_5n out_5c) (.slice (some p14) 1 1) w15 fun a16 a16n a16c w17 =>
  ∃ m18 : Nat, m18 < m8 ∧ I4 a16 a16n a16c (IntKind.i64.wrap (i_6 + 1)) w17 m18)) → K11 c_12 w13) → (∀ (K19 : Bool → World → Prop), (∀ (t21_20 : Bool) (w21 : World), (∀ _ : Env, (br t21_20 (K11 (IntKind.u8.wrap ((IntKind.u8.wrap (((b10.toNat : Int)) + 97)) - 65)) w21) (K11 ((b10.toNat : Int)) w21))) → K19 t21_20 w21) → (br (decide ((65 : Int) ≤ ((b10.toNat : Int)))) (K19 (decide ((((b10.toNat : Int)) : Int) ≤ 90)) w7) (K19 false w7)))) (b2s Tryz.prog w7 out_5 out_5n out_5c fun s22 =>
  R (.returned (.string ⟨⟨s22⟩⟩)) w7))
set_option maxRecDepth 100000 in
theorem e_ref01_Fold (s_1 : List UInt8) (R : Ending → World → Prop) (w : World) : fnV Tryz.prog Tryz.f129 an_ref01_Fold [.string ⟨⟨s_1⟩⟩] R w = sh_ref01_Fold s_1 R w := by kernel_rfl
theorem c_ref01_Fold {s_1 : List UInt8} {R : Ending → World → Prop} {w : World} (h : sh_ref01_Fold s_1 R w) : Calls Tryz.prog F_ref01_Fold ⟨[.string ⟨⟨s_1⟩⟩]⟩ w R := calls_of_fnV Tryz.func129 (by rw [e_ref01_Fold]; exact h)

def an_ref01_Plain : Ann := .two (.leaf) (.two (.leaf) (.two (.two (.leaf) (.one (.loop 8388568 [(3, .one (.slice)), (4, .one (.int .i64))] (.two (.two (.leaf) (.two (.leaf) (.leaf))) (.two (.one (.two (.leaf) (.two (.leaf) (.leaf)))) (.leaf)))))) (.two (.leaf) (.leaf))))
def sh_ref01_Plain (s_1 : List UInt8) (R : Ending → World → Prop) (w : World) : Prop :=
  al w 5 [] fun p2 w3 =>
  ∃ (I4 : Option Addr → Nat → Nat → Int → World → Nat → Prop), (∃ m9 : Nat, I4 (some p2) 0 0 0 w3 m9) ∧ ∀ (out_5 : Option Addr) (out_5n : Nat) (out_5c : Nat) (i_6 : Int) (w7 : World) (m8 : Nat), I4 out_5 out_5n out_5c i_6 w7 m8 → ∀ _ : Env, (br (decide ((i_6 : Int) < ((List.length s_1 : Int)))) (sidx s_1 i_6 fun b10 =>
  Calls Tryz.prog 75 ⟨[.int .u8 ((b10.toNat : Int))]⟩ w7 fun (e11 : Ending) (w12 : World) =>
  ∃ (x13 : Int), e11 = .returned (.int .i64 x13) ∧ (br (decide ((x13 : Int) ≠ 2)) (sidx s_1 i_6 fun b14 =>
  al w12 5 [.int .u8 ((b14.toNat : Int))] fun p15 w16 =>
  app Tryz.prog [73, 73] 73 (.slice out_5 out_5n out_5c) (.slice (some p15) 1 1) w16 fun a17 a17n a17c w18 =>
  ∃ m19 : Nat, m19 < m8 ∧ I4 a17 a17n a17c (IntKind.i64.wrap (i_6 + 1)) w18 m19) (∃ m20 : Nat, m20 < m8 ∧ I4 out_5 out_5n out_5c (IntKind.i64.wrap (i_6 + 1)) w12 m20))) (b2s Tryz.prog w7 out_5 out_5n out_5c fun s21 =>
  R (.returned (.string ⟨⟨s21⟩⟩)) w7))
set_option maxRecDepth 100000 in
theorem e_ref01_Plain (s_1 : List UInt8) (R : Ending → World → Prop) (w : World) : fnV Tryz.prog Tryz.f130 an_ref01_Plain [.string ⟨⟨s_1⟩⟩] R w = sh_ref01_Plain s_1 R w := by kernel_rfl
theorem c_ref01_Plain {s_1 : List UInt8} {R : Ending → World → Prop} {w : World} (h : sh_ref01_Plain s_1 R w) : Calls Tryz.prog F_ref01_Plain ⟨[.string ⟨⟨s_1⟩⟩]⟩ w R := calls_of_fnV Tryz.func130 (by rw [e_ref01_Plain]; exact h)

def an_charset_clusters_1 : Ann := .two (.leaf) (.two (.leaf) (.one (.loop 137438953464 [(3, .one (.int .i64)), (4, .one (.int .i64))] (.two (.two (.leaf) (.two (.leaf) (.leaf))) (.two (.one (.cut 268433408 [] (.two (.leaf) (.two (.leaf) (.leaf))) (.two (.two (.leaf) (.two (.leaf) (.leaf))) (.leaf)))) (.leaf))))))
def sh_charset_clusters_1 (yield_1 : Fn) (yield_1a : Array Value) (yield_1b : Array Value) (t1_2 : Option Addr) (R : Ending → World → Prop) (w : World) : Prop :=
  ∃ (I3 : Int → Int → World → Nat → Prop), (∃ m8 : Nat, I3 0 1 w m8) ∧ ∀ (from_4 : Int) (i_5 : Int) (w6 : World) (m7 : Nat), I3 from_4 i_5 w6 m7 → ∀ _ : Env, (dr t1_2 fun p9 =>
  ∃ (x10 : List UInt8), World.cell? w6 p9 = some (.string ⟨⟨x10⟩⟩) ∧ (br (decide ((i_5 : Int) ≤ ((List.length x10 : Int)))) (∀ (K11 : World → Prop), (∀  (w12 : World), (∀ _ : Env, (dr t1_2 fun p13 =>
  ∃ (x14 : List UInt8), World.cell? w12 p13 = some (.string ⟨⟨x14⟩⟩) ∧ (ssl x14 from_4 i_5 fun s15 =>
  CallV Tryz.prog (.func yield_1 yield_1a yield_1b) [.int .i64 from_4, .string ⟨⟨s15⟩⟩] w12 fun (e16 : Ending) (w17 : World) =>
  ∃ (x18 : Bool), e16 = .returned (.bool x18) ∧ (br (!x18) (R (.returned (.tuple ⟨[]⟩)) w17) (∃ m19 : Nat, m19 < m7 ∧ I3 i_5 (IntKind.i64.wrap (i_5 + 1)) w17 m19))))) → K11 w12) → (dr t1_2 fun p20 =>
  ∃ (x21 : List UInt8), World.cell? w6 p20 = some (.string ⟨⟨x21⟩⟩) ∧ (br (decide ((i_5 : Int) < ((List.length x21 : Int)))) (dr t1_2 fun p22 =>
  ∃ (x23 : List UInt8), World.cell? w6 p22 = some (.string ⟨⟨x23⟩⟩) ∧ (sidx x23 i_5 fun b24 =>
  Calls Tryz.prog 55 ⟨[.int .u8 ((b24.toNat : Int))]⟩ w6 fun (e25 : Ending) (w26 : World) =>
  ∃ (x27 : Int), e25 = .returned (.int .i64 x27) ∧ (br (decide ((x27 : Int) = 2)) (dr t1_2 fun p28 =>
  ∃ (x29 : List UInt8), World.cell? w26 p28 = some (.string ⟨⟨x29⟩⟩) ∧ (Calls Tryz.prog 132 ⟨[.string ⟨⟨x29⟩⟩, .int .i64 from_4, .int .i64 i_5]⟩ w26 fun (e30 : Ending) (w31 : World) =>
  ∃ (x32 : Bool), e30 = .returned (.bool x32) ∧ (br x32 (∃ m33 : Nat, m33 < m7 ∧ I3 from_4 (IntKind.i64.wrap (i_5 + 1)) w31 m33) (K11 w31)))) (K11 w26)))) (K11 w6)))) (R (.returned (.tuple ⟨[]⟩)) w6)))
set_option maxRecDepth 100000 in
theorem e_charset_clusters_1 (yield_1 : Fn) (yield_1a : Array Value) (yield_1b : Array Value) (t1_2 : Option Addr) (R : Ending → World → Prop) (w : World) : fnV Tryz.prog Tryz.f131 an_charset_clusters_1 [.func yield_1 yield_1a yield_1b, .pointer t1_2] R w = sh_charset_clusters_1 yield_1 yield_1a yield_1b t1_2 R w := by kernel_rfl
theorem c_charset_clusters_1 {yield_1 : Fn} {yield_1a : Array Value} {yield_1b : Array Value} {t1_2 : Option Addr} {R : Ending → World → Prop} {w : World} (h : sh_charset_clusters_1 yield_1 yield_1a yield_1b t1_2 R w) : Calls Tryz.prog F_charset_clusters_1 ⟨[.func yield_1 yield_1a yield_1b, .pointer t1_2]⟩ w R := calls_of_fnV Tryz.func131 (by rw [e_charset_clusters_1]; exact h)

def an_charset_right : Ann := .two (.leaf) (.two (.leaf) (.leaf))
def sh_charset_right (s_1 : List UInt8) (from_2 : Int) (at_3 : Int) (R : Ending → World → Prop) (w : World) : Prop :=
  sidx s_1 from_2 fun b4 =>
  Calls Tryz.prog 55 ⟨[.int .u8 ((b4.toNat : Int))]⟩ w fun (e5 : Ending) (w6 : World) =>
  ∃ (x7 : Int), e5 = .returned (.int .i64 x7) ∧ (br (decide ((x7 : Int) = 1)) (R (.returned (.bool (decide ((from_2 : Int) < at_3)))) w6) (R (.returned (.bool false)) w6))
set_option maxRecDepth 100000 in
theorem e_charset_right (s_1 : List UInt8) (from_2 : Int) (at_3 : Int) (R : Ending → World → Prop) (w : World) : fnV Tryz.prog Tryz.f132 an_charset_right [.string ⟨⟨s_1⟩⟩, .int .i64 from_2, .int .i64 at_3] R w = sh_charset_right s_1 from_2 at_3 R w := by kernel_rfl
theorem c_charset_right {s_1 : List UInt8} {from_2 : Int} {at_3 : Int} {R : Ending → World → Prop} {w : World} (h : sh_charset_right s_1 from_2 at_3 R w) : Calls Tryz.prog F_charset_right ⟨[.string ⟨⟨s_1⟩⟩, .int .i64 from_2, .int .i64 at_3]⟩ w R := calls_of_fnV Tryz.func132 (by rw [e_charset_right]; exact h)

def an_tokenizer_atoms_1 : Ann := .two (.leaf) (.two (.leaf) (.two (.leaf) (.two (.leaf) (.leaf))))
def sh_tokenizer_atoms_1 (yield_1 : Fn) (yield_1a : Array Value) (yield_1b : Array Value) (t1_2 : Option Addr) (t2_3 : Option Addr) (R : Ending → World → Prop) (w : World) : Prop :=
  al w 146 [.func yield_1 yield_1a yield_1b] fun p4 w5 =>
  dr t1_2 fun p6 =>
  ∃ (x7 : List UInt8), World.cell? w5 (p6.add 0) = some (.string ⟨⟨x7⟩⟩) ∧ (∃ (x8 : Int), World.cell? w5 (p6.add 1) = some (.int .i64 x8) ∧ (al w5 118 [.int .i64 0, .int .u8 0, .int .i64 0, .string ⟨⟨[]⟩⟩, .int .i64 0, .bool false, .string ⟨⟨[]⟩⟩] fun p9 w10 =>
  stL w10 p9 0 [.int .i64 0, .int .u8 0, .int .i64 0, .string ⟨⟨x7⟩⟩, .int .i64 x8, .bool false, .string ⟨⟨[]⟩⟩] fun w11 =>
  al w11 147 [.nilFunc] fun p12 w13 =>
  stL w13 p12 0 [.func (.func 134) ⟨[]⟩ ⟨[.pointer (some p9), .pointer (some p4), .pointer (some p12)]⟩] fun w14 =>
  ∃ (x15 : Fn) (x15a : Array Value) (x15b : Array Value), World.cell? w14 p12 = some (.func x15 x15a x15b) ∧ (dr t2_3 fun p16 =>
  ∃ (x17 : Option Addr) (x17n : Nat) (x17c : Nat), World.cell? w14 p16 = some (.slice x17 x17n x17c) ∧ (CallV Tryz.prog (.func x15 x15a x15b) [.slice x17 x17n x17c] w14 fun (e18 : Ending) (w19 : World) =>
  ∃ (x20 : Bool), e18 = .returned (.bool x20) ∧ (R (.returned (.tuple ⟨[]⟩)) w19)))))
set_option maxRecDepth 100000 in
theorem e_tokenizer_atoms_1 (yield_1 : Fn) (yield_1a : Array Value) (yield_1b : Array Value) (t1_2 : Option Addr) (t2_3 : Option Addr) (R : Ending → World → Prop) (w : World) : fnV Tryz.prog Tryz.f133 an_tokenizer_atoms_1 [.func yield_1 yield_1a yield_1b, .pointer t1_2, .pointer t2_3] R w = sh_tokenizer_atoms_1 yield_1 yield_1a yield_1b t1_2 t2_3 R w := by kernel_rfl
theorem c_tokenizer_atoms_1 {yield_1 : Fn} {yield_1a : Array Value} {yield_1b : Array Value} {t1_2 : Option Addr} {t2_3 : Option Addr} {R : Ending → World → Prop} {w : World} (h : sh_tokenizer_atoms_1 yield_1 yield_1a yield_1b t1_2 t2_3 R w) : Calls Tryz.prog F_tokenizer_atoms_1 ⟨[.func yield_1 yield_1a yield_1b, .pointer t1_2, .pointer t2_3]⟩ w R := calls_of_fnV Tryz.func133 (by rw [e_tokenizer_atoms_1]; exact h)

def an_tokenizer_atoms_1_1 : Ann := .two (.leaf) (.two (.two (.leaf) (.one (.loop 9903520314283042199192987552 [(13, .one (.int .i64))] (.two (.leaf) (.two (.two (.leaf) (.leaf)) (.two (.one (.two (.leaf) (.cut 8257536 [] (.leaf) (.two (.leaf) (.one (.two (.leaf) (.two (.leaf) (.two (.leaf) (.two (.leaf) (.two (.leaf) (.two (.two (.leaf) (.one (.loop 19340451930592631972692256 [(71, .one (.int .i64))] (.two (.leaf) (.two (.two (.leaf) (.leaf)) (.two (.one (.two (.leaf) (.two (.leaf) (.two (.leaf) (.two (.two (.leaf) (.leaf)) (.leaf)))))) (.leaf))))))) (.cut 290142196707511001929482240 [(84, .one (.bool))] (.two (.leaf) (.two (.leaf) (.two (.leaf) (.two (.leaf) (.leaf))))) (.two (.two (.leaf) (.two (.two (.leaf) (.leaf)) (.leaf))) (.two (.leaf) (.cut 17112760320 [] (.leaf) (.cut 1082331758592 [] (.two (.leaf) (.two (.leaf) (.leaf))) (.two (.leaf) (.two (.leaf) (.two (.leaf) (.two (.two (.leaf) (.leaf)) (.leaf))))))))))))))))))))) (.leaf))))))) (.two (.leaf) (.leaf)))
def sh_tokenizer_atoms_1_1 (l_1 : Option Addr) (l_1n : Nat) (l_1c : Nat) (t1_2 : Option Addr) (t2_3 : Option Addr) (t3_4 : Option Addr) (R : Ending → World → Prop) (w : World) : Prop :=
  ∃ (I5 : Int → World → Nat → Prop), (∃ m9 : Nat, I5 0 w m9) ∧ ∀ (t13_6 : Int) (w7 : World) (m8 : Nat), I5 t13_6 w7 m8 → ∀ _ : Env, (br (decide ((t13_6 : Int) < ((l_1n : Int)))) (idx l_1 l_1n t13_6 4 fun p10 =>
  ∃ (x11 : Int), World.cell? w7 (p10.add 0) = some (.int .i64 x11) ∧ (∃ (x12 : List UInt8), World.cell? w7 (p10.add 1) = some (.string ⟨⟨x12⟩⟩) ∧ (∃ (x13 : Int), World.cell? w7 (p10.add 2) = some (.int .i64 x13) ∧ (∃ (x14 : Option Addr) (x14n : Nat) (x14c : Nat), World.cell? w7 (p10.add 3) = some (.slice x14 x14n x14c) ∧ (al w7 64 [.int .i64 0, .string ⟨⟨[]⟩⟩, .int .i64 0, .slice none 0 0] fun p15 w16 =>
  stL w16 p15 0 [.int .i64 x11, .string ⟨⟨x12⟩⟩, .int .i64 x13, .slice x14 x14n x14c] fun w17 =>
  ∀ (K18 : World → Prop), (∀  (w19 : World), (∀ _ : Env, (∃ (x20 : Int), World.cell? w19 (p15.add 0) = some (.int .i64 x20) ∧ (br (decide ((x20 : Int) = 2)) (dr t1_2 fun p21 =>
  ∃ (x22 : Int), World.cell? w19 ((p21.add 3).add 1) = some (.int .i64 x22) ∧ (dr t1_2 fun p23 =>
  stL w19 ((p23.add 3).add 1) 0 [.int .i64 (IntKind.i64.wrap (x22 + 1))] fun w24 =>
  ∃ m25 : Nat, m25 < m8 ∧ I5 (IntKind.i64.wrap (t13_6 + 1)) w24 m25)) (br (decide ((x20 : Int) = 3)) (∃ (x26 : List UInt8), World.cell? w19 (p15.add 1) = some (.string ⟨⟨x26⟩⟩) ∧ (dr t1_2 fun p27 =>
  stL w19 (p27.add 3) 0 [.string ⟨⟨x26⟩⟩, .int .i64 0] fun w28 =>
  ∃ m29 : Nat, m29 < m8 ∧ I5 (IntKind.i64.wrap (t13_6 + 1)) w28 m29)) (br (decide ((x20 : Int) = 1)) (∃ (x30 : List UInt8), World.cell? w19 (p15.add 1) = some (.string ⟨⟨x30⟩⟩) ∧ (∃ (I31 : Int → World → Nat → Prop), (∃ m35 : Nat, I31 0 w19 m35) ∧ ∀ (t71_32 : Int) (w33 : World) (m34 : Nat), I31 t71_32 w33 m34 → ∀ _ : Env, (br (decide ((t71_32 : Int) < ((List.length x30 : Int)))) (∃ (x36 : List UInt8), World.cell? w33 (p15.add 1) = some (.string ⟨⟨x36⟩⟩) ∧ (sidx x36 t71_32 fun b37 =>
  dr t1_2 fun p38 =>
  stL w33 (p38.add 1) 0 [.int .u8 ((b37.toNat : Int))] fun w39 =>
  dr t2_3 fun p40 =>
  ∃ (x41 : Fn) (x41a : Array Value) (x41b : Array Value), World.cell? w39 p40 = some (.func x41 x41a x41b) ∧ (dr t1_2 fun p42 =>
  ∃ (x43 : Int), World.cell? w39 (p42.add 0) = some (.int .i64 x43) ∧ (∃ (x44 : Int), World.cell? w39 (p42.add 1) = some (.int .u8 x44) ∧ (∃ (x45 : Int), World.cell? w39 (p42.add 2) = some (.int .i64 x45) ∧ (∃ (x46 : List UInt8), World.cell? w39 (p42.add 3) = some (.string ⟨⟨x46⟩⟩) ∧ (∃ (x47 : Int), World.cell? w39 (p42.add 4) = some (.int .i64 x47) ∧ (∃ (x48 : Bool), World.cell? w39 (p42.add 5) = some (.bool x48) ∧ (∃ (x49 : List UInt8), World.cell? w39 (p42.add 6) = some (.string ⟨⟨x49⟩⟩) ∧ (CallV Tryz.prog (.func x41 x41a x41b) [.agg ⟨[.int .i64 x43, .int .u8 x44, .int .i64 x45, .string ⟨⟨x46⟩⟩, .int .i64 x47, .bool x48, .string ⟨⟨x49⟩⟩]⟩] w39 fun (e50 : Ending) (w51 : World) =>
  ∃ (x52 : Bool), e50 = .returned (.bool x52) ∧ (br (!x52) (R (.returned (.bool false)) w51) (∃ m53 : Nat, m53 < m34 ∧ I31 (IntKind.i64.wrap (t71_32 + 1)) w51 m53)))))))))))) (∃ m54 : Nat, m54 < m8 ∧ I5 (IntKind.i64.wrap (t13_6 + 1)) w33 m54)))) (∀ (K55 : Bool → World → Prop), (∀ (t84_56 : Bool) (w57 : World), (∀ _ : Env, (br t84_56 (dr t2_3 fun p58 =>
  ∃ (x59 : Fn) (x59a : Array Value) (x59b : Array Value), World.cell? w57 p58 = some (.func x59 x59a x59b) ∧ (dr t1_2 fun p60 =>
  ∃ (x61 : Int), World.cell? w57 (p60.add 0) = some (.int .i64 x61) ∧ (∃ (x62 : Int), World.cell? w57 (p60.add 1) = some (.int .u8 x62) ∧ (∃ (x63 : Int), World.cell? w57 (p60.add 2) = some (.int .i64 x63) ∧ (∃ (x64 : List UInt8), World.cell? w57 (p60.add 3) = some (.string ⟨⟨x64⟩⟩) ∧ (∃ (x65 : Int), World.cell? w57 (p60.add 4) = some (.int .i64 x65) ∧ (∃ (x66 : Bool), World.cell? w57 (p60.add 5) = some (.bool x66) ∧ (∃ (x67 : List UInt8), World.cell? w57 (p60.add 6) = some (.string ⟨⟨x67⟩⟩) ∧ (CallV Tryz.prog (.func x59 x59a x59b) [.agg ⟨[.int .i64 x61, .int .u8 x62, .int .i64 x63, .string ⟨⟨x64⟩⟩, .int .i64 x65, .bool x66, .string ⟨⟨x67⟩⟩]⟩] w57 fun (e68 : Ending) (w69 : World) =>
  ∃ (x70 : Bool), e68 = .returned (.bool x70) ∧ (br (!x70) (R (.returned (.bool false)) w69) (∃ m71 : Nat, m71 < m8 ∧ I5 (IntKind.i64.wrap (t13_6 + 1)) w69 m71))))))))))) (dr t1_2 fun p72 =>
  ∃ (x73 : Int), World.cell? w57 (p72.add 0) = some (.int .i64 x73) ∧ (∃ (x74 : Int), World.cell? w57 (p72.add 1) = some (.int .u8 x74) ∧ (∃ (x75 : Int), World.cell? w57 (p72.add 2) = some (.int .i64 x75) ∧ (∃ (x76 : List UInt8), World.cell? w57 (p72.add 3) = some (.string ⟨⟨x76⟩⟩) ∧ (∃ (x77 : Int), World.cell? w57 (p72.add 4) = some (.int .i64 x77) ∧ (∃ (x78 : Bool), World.cell? w57 (p72.add 5) = some (.bool x78) ∧ (∃ (x79 : List UInt8), World.cell? w57 (p72.add 6) = some (.string ⟨⟨x79⟩⟩) ∧ (al w57 118 [.int .i64 0, .int .u8 0, .int .i64 0, .string ⟨⟨[]⟩⟩, .int .i64 0, .bool false, .string ⟨⟨[]⟩⟩] fun p80 w81 =>
  stL w81 p80 0 [.int .i64 x73, .int .u8 x74, .int .i64 x75, .string ⟨⟨x76⟩⟩, .int .i64 x77, .bool x78, .string ⟨⟨x79⟩⟩] fun w82 =>
  ∀ (K83 : World → Prop), (∀  (w84 : World), (∀ _ : Env, (∀ (K85 : World → Prop), (∀  (w86 : World), (∀ _ : Env, (dr t3_4 fun p87 =>
  ∃ (x88 : Fn) (x88a : Array Value) (x88b : Array Value), World.cell? w86 p87 = some (.func x88 x88a x88b) ∧ (∃ (x89 : Option Addr) (x89n : Nat) (x89c : Nat), World.cell? w86 (p15.add 3) = some (.slice x89 x89n x89c) ∧ (CallV Tryz.prog (.func x88 x88a x88b) [.slice x89 x89n x89c] w86 fun (e90 : Ending) (w91 : World) =>
  ∃ (x92 : Bool), e90 = .returned (.bool x92) ∧ (drw w91 fun w93 =>
  ∃ (x94 : Bool), World.cell? w93 (p80.add 5) = some (.bool x94) ∧ ((∃ (x95 : List UInt8), World.cell? w93 (p80.add 6) = some (.string ⟨⟨x95⟩⟩) ∧ (dr t1_2 fun p96 =>
  (stL w93 (p96.add 5) 0 [.bool x94] fun w97 =>
  dr t1_2 fun p98 =>
  (stL w97 (p98.add 6) 0 [.string ⟨⟨x95⟩⟩] fun w99 =>
  br (!x92) (R (.returned (.bool false)) w99) (∃ m100 : Nat, m100 < m8 ∧ I5 (IntKind.i64.wrap (t13_6 + 1)) w99 m100)) ∧ True) ∧ True)) ∧ (dr t1_2 fun p101 =>
  (∃ (x102 : List UInt8), World.cell? w93 (p80.add 6) = some (.string ⟨⟨x102⟩⟩) ∧ ((stL w93 (p101.add 5) 0 [.bool x94] fun w103 =>
  dr t1_2 fun p104 =>
  (stL w103 (p104.add 6) 0 [.string ⟨⟨x102⟩⟩] fun w105 =>
  br (!x92) (R (.returned (.bool false)) w105) (∃ m106 : Nat, m106 < m8 ∧ I5 (IntKind.i64.wrap (t13_6 + 1)) w105 m106)) ∧ True) ∧ True)) ∧ (stL w93 (p101.add 5) 0 [.bool x94] fun w107 =>
  ∃ (x108 : List UInt8), World.cell? w107 (p80.add 6) = some (.string ⟨⟨x108⟩⟩) ∧ (dr t1_2 fun p109 =>
  (stL w107 (p109.add 6) 0 [.string ⟨⟨x108⟩⟩] fun w110 =>
  br (!x92) (R (.returned (.bool false)) w110) (∃ m111 : Nat, m111 < m8 ∧ I5 (IntKind.i64.wrap (t13_6 + 1)) w110 m111)) ∧ True)) ∧ True) ∧ True)))))) → K85 w86) → (∃ (x112 : Int), World.cell? w84 (p15.add 0) = some (.int .i64 x112) ∧ (br (decide ((x112 : Int) = 11)) (∃ (x113 : List UInt8), World.cell? w84 (p15.add 1) = some (.string ⟨⟨x113⟩⟩) ∧ (dr t1_2 fun p114 =>
  stL w84 (p114.add 6) 0 [.string ⟨⟨x113⟩⟩] fun w115 =>
  K85 w115)) (K85 w84))))) → K83 w84) → (dr t1_2 fun p116 =>
  ∃ (x117 : Bool), World.cell? w82 (p116.add 5) = some (.bool x117) ∧ (br x117 (dr t1_2 fun p118 =>
  stL w82 (p118.add 5) 0 [.bool true] fun w119 =>
  K83 w119) (∃ (x120 : Int), World.cell? w82 (p15.add 0) = some (.int .i64 x120) ∧ (dr t1_2 fun p121 =>
  stL w82 (p121.add 5) 0 [.bool (decide ((x120 : Int) = 7))] fun w122 =>
  K83 w122)))))))))))))) → K55 t84_56 w57) → (br (decide ((x20 : Int) = 6)) (K55 (decide ((x20 : Int) = 6)) w19) (br (decide ((x20 : Int) = 5)) (K55 (decide ((x20 : Int) = 5)) w19) (K55 (decide ((x20 : Int) = 4)) w19))))))))) → K18 w19) → (drw w17 fun w123 =>
  ∃ (x124 : Int), World.cell? w123 (p15.add 0) = some (.int .i64 x124) ∧ ((∃ (x125 : Int), World.cell? w123 (p15.add 2) = some (.int .i64 x125) ∧ (dr t1_2 fun p126 =>
  (stL w123 (p126.add 0) 0 [.int .i64 x124] fun w127 =>
  dr t1_2 fun p128 =>
  (stL w127 (p128.add 2) 0 [.int .i64 x125] fun w129 =>
  K18 w129) ∧ True) ∧ True)) ∧ (dr t1_2 fun p130 =>
  (∃ (x131 : Int), World.cell? w123 (p15.add 2) = some (.int .i64 x131) ∧ ((stL w123 (p130.add 0) 0 [.int .i64 x124] fun w132 =>
  dr t1_2 fun p133 =>
  (stL w132 (p133.add 2) 0 [.int .i64 x131] fun w134 =>
  K18 w134) ∧ True) ∧ True)) ∧ (stL w123 (p130.add 0) 0 [.int .i64 x124] fun w135 =>
  ∃ (x136 : Int), World.cell? w135 (p15.add 2) = some (.int .i64 x136) ∧ (dr t1_2 fun p137 =>
  (stL w135 (p137.add 2) 0 [.int .i64 x136] fun w138 =>
  K18 w138) ∧ True)) ∧ True) ∧ True))))))) (R (.returned (.bool true)) w7))
set_option maxRecDepth 100000 in
theorem e_tokenizer_atoms_1_1 (l_1 : Option Addr) (l_1n : Nat) (l_1c : Nat) (t1_2 : Option Addr) (t2_3 : Option Addr) (t3_4 : Option Addr) (R : Ending → World → Prop) (w : World) : fnV Tryz.prog Tryz.f134 an_tokenizer_atoms_1_1 [.slice l_1 l_1n l_1c, .pointer t1_2, .pointer t2_3, .pointer t3_4] R w = sh_tokenizer_atoms_1_1 l_1 l_1n l_1c t1_2 t2_3 t3_4 R w := by kernel_rfl
theorem c_tokenizer_atoms_1_1 {l_1 : Option Addr} {l_1n : Nat} {l_1c : Nat} {t1_2 : Option Addr} {t2_3 : Option Addr} {t3_4 : Option Addr} {R : Ending → World → Prop} {w : World} (h : sh_tokenizer_atoms_1_1 l_1 l_1n l_1c t1_2 t2_3 t3_4 R w) : Calls Tryz.prog F_tokenizer_atoms_1_1 ⟨[.slice l_1 l_1n l_1c, .pointer t1_2, .pointer t2_3, .pointer t3_4]⟩ w R := calls_of_fnV Tryz.func134 (by rw [e_tokenizer_atoms_1_1]; exact h)

def an_tokenizer_builder_part : Ann := .two (.leaf) (.two (.leaf) (.cut 112 [(4, .one (.int .i64))] (.two (.leaf) (.two (.leaf) (.leaf))) (.one (.cut 4290772992 [(22, .one (.bool))] (.leaf) (.two (.two (.leaf) (.leaf)) (.two (.leaf) (.two (.two (.leaf) (.two (.leaf) (.leaf))) (.two (.leaf) (.two (.two (.leaf) (.leaf)) (.two (.leaf) (.two (.leaf) (.leaf))))))))))))
def sh_tokenizer_builder_part (b_1 : Option Addr) (x_2 : Int) (x_3 : Int) (x_4 : Int) (x_5 : List UInt8) (x_6 : Int) (x_7 : Bool) (x_8 : List UInt8) (R : Ending → World → Prop) (w : World) : Prop :=
  al w 118 [.int .i64 x_2, .int .u8 x_3, .int .i64 x_4, .string ⟨⟨x_5⟩⟩, .int .i64 x_6, .bool x_7, .string ⟨⟨x_8⟩⟩] fun p9 w10 =>
  ∀ (K11 : Int → World → Prop), (∀ (flag_12 : Int) (w13 : World), (∀ _ : Env, (∀ (K14 : Bool → World → Prop), (∀ (t22_15 : Bool) (w16 : World), (∀ _ : Env, (br t22_15 (Calls Tryz.prog 137 ⟨[.pointer b_1]⟩ w16 fun (e17 : Ending) (w18 : World) =>
  ∃ (x19 : Option Addr), e17 = .returned (.pointer x19) ∧ (dr x19 fun p20 =>
  ∃ (x21 : Int), World.cell? w18 (p20.add 4) = some (.int .i64 x21) ∧ (dr x19 fun p22 =>
  stL w18 (p22.add 4) 0 [.int .i64 (bitO .i64 x21 flag_12)] fun w23 =>
  drw w23 fun w24 =>
  dr b_1 fun p25 =>
  ∃ (x26 : Int), World.cell? w24 (p9.add 1) = some (.int .u8 x26) ∧ ((Calls Tryz.prog 79 ⟨[.pointer (some (p25.add 1)), .int .u8 x26]⟩ w24 fun (e27 : Ending) (w28 : World) =>
  ∃ (x29 : Value), e27 = .returned (x29) ∧ (R (.returned (.tuple ⟨[]⟩)) w28)) ∧ True)))) (∃ (x30 : Int), World.cell? w16 (p9.add 1) = some (.int .u8 x30) ∧ (Calls Tryz.prog 155 ⟨[.int .u8 x30]⟩ w16 fun (e31 : Ending) (w32 : World) =>
  ∃ (x33 : Bool), e31 = .returned (.bool x33) ∧ (br x33 (∃ (x34 : Int), World.cell? w32 (p9.add 0) = some (.int .i64 x34) ∧ (∃ (x35 : Int), World.cell? w32 (p9.add 1) = some (.int .u8 x35) ∧ (∃ (x36 : Int), World.cell? w32 (p9.add 2) = some (.int .i64 x36) ∧ (∃ (x37 : List UInt8), World.cell? w32 (p9.add 3) = some (.string ⟨⟨x37⟩⟩) ∧ (∃ (x38 : Int), World.cell? w32 (p9.add 4) = some (.int .i64 x38) ∧ (∃ (x39 : Bool), World.cell? w32 (p9.add 5) = some (.bool x39) ∧ (∃ (x40 : List UInt8), World.cell? w32 (p9.add 6) = some (.string ⟨⟨x40⟩⟩) ∧ (Calls Tryz.prog 136 ⟨[.pointer b_1, .agg ⟨[.int .i64 x34, .int .u8 x35, .int .i64 x36, .string ⟨⟨x37⟩⟩, .int .i64 x38, .bool x39, .string ⟨⟨x40⟩⟩]⟩, .int .i64 flag_12]⟩ w32 fun (e41 : Ending) (w42 : World) =>
  e41 = .returned (.tuple ⟨[]⟩) ∧ (dr b_1 fun p43 =>
  stL w42 (p43.add 3) 0 [.bool true] fun w44 =>
  drw w44 fun w45 =>
  dr b_1 fun p46 =>
  ∃ (x47 : Int), World.cell? w45 (p9.add 1) = some (.int .u8 x47) ∧ ((Calls Tryz.prog 79 ⟨[.pointer (some (p46.add 1)), .int .u8 x47]⟩ w45 fun (e48 : Ending) (w49 : World) =>
  ∃ (x50 : Value), e48 = .returned (x50) ∧ (R (.returned (.tuple ⟨[]⟩)) w49)) ∧ True)))))))))) (∃ (x51 : Int), World.cell? w32 (p9.add 1) = some (.int .u8 x51) ∧ (Calls Tryz.prog 55 ⟨[.int .u8 x51]⟩ w32 fun (e52 : Ending) (w53 : World) =>
  ∃ (x54 : Int), e52 = .returned (.int .i64 x54) ∧ (br (decide ((x54 : Int) = 6)) (Calls Tryz.prog 92 ⟨[.pointer b_1]⟩ w53 fun (e55 : Ending) (w56 : World) =>
  e55 = .returned (.tuple ⟨[]⟩) ∧ (dr b_1 fun p57 =>
  stL w56 (p57.add 4) 0 [.bool false] fun w58 =>
  R (.returned (.tuple ⟨[]⟩)) w58)) (Calls Tryz.prog 92 ⟨[.pointer b_1]⟩ w53 fun (e59 : Ending) (w60 : World) =>
  e59 = .returned (.tuple ⟨[]⟩) ∧ (∃ (x61 : Int), World.cell? w60 (p9.add 0) = some (.int .i64 x61) ∧ (∃ (x62 : Int), World.cell? w60 (p9.add 1) = some (.int .u8 x62) ∧ (∃ (x63 : Int), World.cell? w60 (p9.add 2) = some (.int .i64 x63) ∧ (∃ (x64 : List UInt8), World.cell? w60 (p9.add 3) = some (.string ⟨⟨x64⟩⟩) ∧ (∃ (x65 : Int), World.cell? w60 (p9.add 4) = some (.int .i64 x65) ∧ (∃ (x66 : Bool), World.cell? w60 (p9.add 5) = some (.bool x66) ∧ (∃ (x67 : List UInt8), World.cell? w60 (p9.add 6) = some (.string ⟨⟨x67⟩⟩) ∧ (Calls Tryz.prog 136 ⟨[.pointer b_1, .agg ⟨[.int .i64 x61, .int .u8 x62, .int .i64 x63, .string ⟨⟨x64⟩⟩, .int .i64 x65, .bool x66, .string ⟨⟨x67⟩⟩]⟩, .int .i64 (bitO .i64 flag_12 8)]⟩ w60 fun (e68 : Ending) (w69 : World) =>
  e68 = .returned (.tuple ⟨[]⟩) ∧ (drw w69 fun w70 =>
  (Calls Tryz.prog 137 ⟨[.pointer b_1]⟩ w70 fun (e71 : Ending) (w72 : World) =>
  ∃ (x73 : Option Addr), e71 = .returned (.pointer x73) ∧ (∃ (x74 : Int), World.cell? w72 (p9.add 1) = some (.int .u8 x74) ∧ ((al w72 5 [.int .u8 x74] fun p75 w76 =>
  (b2s Tryz.prog w76 (some p75) 1 1 fun s77 =>
  dr x73 fun p78 =>
  (stL w76 (p78.add 0) 0 [.string ⟨⟨s77⟩⟩] fun w79 =>
  R (.returned (.tuple ⟨[]⟩)) w79) ∧ True) ∧ True) ∧ True))) ∧ ((Calls Tryz.prog 137 ⟨[.pointer b_1]⟩ w70 fun (e80 : Ending) (w81 : World) =>
  ∃ (x82 : Option Addr), e80 = .returned (.pointer x82) ∧ (∃ (x83 : Int), World.cell? w81 (p9.add 1) = some (.int .u8 x83) ∧ ((al w81 5 [.int .u8 x83] fun p84 w85 =>
  (b2s Tryz.prog w85 (some p84) 1 1 fun s86 =>
  dr x82 fun p87 =>
  (stL w85 (p87.add 0) 0 [.string ⟨⟨s86⟩⟩] fun w88 =>
  R (.returned (.tuple ⟨[]⟩)) w88) ∧ True) ∧ True) ∧ True))) ∧ (∃ (x89 : Int), World.cell? w70 (p9.add 1) = some (.int .u8 x89) ∧ ((Calls Tryz.prog 137 ⟨[.pointer b_1]⟩ w70 fun (e90 : Ending) (w91 : World) =>
  ∃ (x92 : Option Addr), e90 = .returned (.pointer x92) ∧ ((al w91 5 [.int .u8 x89] fun p93 w94 =>
  (b2s Tryz.prog w94 (some p93) 1 1 fun s95 =>
  dr x92 fun p96 =>
  (stL w94 (p96.add 0) 0 [.string ⟨⟨s95⟩⟩] fun w97 =>
  R (.returned (.tuple ⟨[]⟩)) w97) ∧ True) ∧ True) ∧ True)) ∧ (al w70 5 [.int .u8 x89] fun p98 w99 =>
  (Calls Tryz.prog 137 ⟨[.pointer b_1]⟩ w99 fun (e100 : Ending) (w101 : World) =>
  ∃ (x102 : Option Addr), e100 = .returned (.pointer x102) ∧ ((b2s Tryz.prog w101 (some p98) 1 1 fun s103 =>
  dr x102 fun p104 =>
  (stL w101 (p104.add 0) 0 [.string ⟨⟨s103⟩⟩] fun w105 =>
  R (.returned (.tuple ⟨[]⟩)) w105) ∧ True) ∧ True)) ∧ (b2s Tryz.prog w99 (some p98) 1 1 fun s106 =>
  (Calls Tryz.prog 137 ⟨[.pointer b_1]⟩ w99 fun (e107 : Ending) (w108 : World) =>
  ∃ (x109 : Option Addr), e107 = .returned (.pointer x109) ∧ (dr x109 fun p110 =>
  (stL w108 (p110.add 0) 0 [.string ⟨⟨s106⟩⟩] fun w111 =>
  R (.returned (.tuple ⟨[]⟩)) w111) ∧ True)) ∧ True) ∧ True) ∧ True)) ∧ True) ∧ True)))))))))))))))))) → K14 t22_15 w16) → (dr b_1 fun p112 =>
  ∃ (x113 : Bool), World.cell? w13 (p112.add 3) = some (.bool x113) ∧ (br x113 (∃ (x114 : Int), World.cell? w13 (p9.add 1) = some (.int .u8 x114) ∧ (Calls Tryz.prog 110 ⟨[.int .u8 x114]⟩ w13 fun (e115 : Ending) (w116 : World) =>
  ∃ (x117 : Bool), e115 = .returned (.bool x117) ∧ (K14 x117 w116))) (K14 false w13))))) → K11 flag_12 w13) → (∃ (x118 : Bool), World.cell? w10 (p9.add 5) = some (.bool x118) ∧ (br x118 (K11 1 w10) (K11 0 w10)))
set_option maxRecDepth 100000 in
theorem e_tokenizer_builder_part (b_1 : Option Addr) (x_2 : Int) (x_3 : Int) (x_4 : Int) (x_5 : List UInt8) (x_6 : Int) (x_7 : Bool) (x_8 : List UInt8) (R : Ending → World → Prop) (w : World) : fnV Tryz.prog Tryz.f135 an_tokenizer_builder_part [.pointer b_1, .agg ⟨[.int .i64 x_2, .int .u8 x_3, .int .i64 x_4, .string ⟨⟨x_5⟩⟩, .int .i64 x_6, .bool x_7, .string ⟨⟨x_8⟩⟩]⟩] R w = sh_tokenizer_builder_part b_1 x_2 x_3 x_4 x_5 x_6 x_7 x_8 R w := by kernel_rfl
theorem c_tokenizer_builder_part {b_1 : Option Addr} {x_2 : Int} {x_3 : Int} {x_4 : Int} {x_5 : List UInt8} {x_6 : Int} {x_7 : Bool} {x_8 : List UInt8} {R : Ending → World → Prop} {w : World} (h : sh_tokenizer_builder_part b_1 x_2 x_3 x_4 x_5 x_6 x_7 x_8 R w) : Calls Tryz.prog F_tokenizer_builder_part ⟨[.pointer b_1, .agg ⟨[.int .i64 x_2, .int .u8 x_3, .int .i64 x_4, .string ⟨⟨x_5⟩⟩, .int .i64 x_6, .bool x_7, .string ⟨⟨x_8⟩⟩]⟩]⟩ w R := calls_of_fnV Tryz.func135 (by rw [e_tokenizer_builder_part]; exact h)

def an_tokenizer_builder_start : Ann := .two (.leaf) (.cut 1048516 [(2, .one (.int .i64))] (.two (.leaf) (.two (.leaf) (.leaf))) (.cut 66060292 [(2, .one (.int .i64))] (.two (.leaf) (.two (.leaf) (.leaf))) (.two (.leaf) (.leaf))))
def sh_tokenizer_builder_start (b_1 : Option Addr) (x_2 : Int) (x_3 : Int) (x_4 : Int) (x_5 : List UInt8) (x_6 : Int) (x_7 : Bool) (x_8 : List UInt8) (flags_9 : Int) (R : Ending → World → Prop) (w : World) : Prop :=
  al w 118 [.int .i64 x_2, .int .u8 x_3, .int .i64 x_4, .string ⟨⟨x_5⟩⟩, .int .i64 x_6, .bool x_7, .string ⟨⟨x_8⟩⟩] fun p10 w11 =>
  ∀ (K12 : Int → World → Prop), (∀ (flags_13 : Int) (w14 : World), (∀ _ : Env, (∀ (K15 : Int → World → Prop), (∀ (flags_16 : Int) (w17 : World), (∀ _ : Env, (drw w17 fun w18 =>
  dr b_1 fun p19 =>
  ∃ (x20 : Option Addr) (x20n : Nat) (x20c : Nat), World.cell? w18 (p19.add 0) = some (.slice x20 x20n x20c) ∧ (∃ (x21 : List UInt8), World.cell? w18 ((p10.add 3).add 0) = some (.string ⟨⟨x21⟩⟩) ∧ (∃ (x22 : Int), World.cell? w18 ((p10.add 3).add 1) = some (.int .i64 x22) ∧ (∃ (x23 : List UInt8), World.cell? w18 (p10.add 6) = some (.string ⟨⟨x23⟩⟩) ∧ ((al w18 31 [.string ⟨⟨[]⟩⟩, .string ⟨⟨[]⟩⟩, .string ⟨⟨x21⟩⟩, .int .i64 x22, .int .i64 flags_16, .string ⟨⟨x23⟩⟩] fun p24 w25 =>
  (app Tryz.prog [24, 24] 24 (.slice x20 x20n x20c) (.slice (some p24) 1 1) w25 fun a26 a26n a26c w27 =>
  dr b_1 fun p28 =>
  (stL w27 (p28.add 0) 0 [.slice a26 a26n a26c] fun w29 =>
  dr b_1 fun p30 =>
  stL w29 (p30.add 4) 0 [.bool true] fun w31 =>
  dr b_1 fun p32 =>
  stL w31 (p32.add 5) 0 [.bool false] fun w33 =>
  R (.returned (.tuple ⟨[]⟩)) w33) ∧ True) ∧ True) ∧ True)))))) → K15 flags_16 w17) → (dr b_1 fun p34 =>
  ∃ (x35 : Bool), World.cell? w14 (p34.add 5) = some (.bool x35) ∧ (br x35 (K15 (bitO .i64 flags_13 4) w14) (K15 flags_13 w14))))) → K12 flags_13 w14) → (dr b_1 fun p36 =>
  ∃ (x37 : Bool), World.cell? w11 (p36.add 4) = some (.bool x37) ∧ (br x37 (dr b_1 fun p38 =>
  ∃ (x39 : Option Addr) (x39n : Nat) (x39c : Nat), World.cell? w11 (p38.add 0) = some (.slice x39 x39n x39c) ∧ (br (decide ((0 : Int) < ((x39n : Int)))) (K12 (bitO .i64 flags_9 16) w11) (K12 flags_9 w11))) (K12 flags_9 w11)))
set_option maxRecDepth 100000 in
theorem e_tokenizer_builder_start (b_1 : Option Addr) (x_2 : Int) (x_3 : Int) (x_4 : Int) (x_5 : List UInt8) (x_6 : Int) (x_7 : Bool) (x_8 : List UInt8) (flags_9 : Int) (R : Ending → World → Prop) (w : World) : fnV Tryz.prog Tryz.f136 an_tokenizer_builder_start [.pointer b_1, .agg ⟨[.int .i64 x_2, .int .u8 x_3, .int .i64 x_4, .string ⟨⟨x_5⟩⟩, .int .i64 x_6, .bool x_7, .string ⟨⟨x_8⟩⟩]⟩, .int .i64 flags_9] R w = sh_tokenizer_builder_start b_1 x_2 x_3 x_4 x_5 x_6 x_7 x_8 flags_9 R w := by kernel_rfl
theorem c_tokenizer_builder_start {b_1 : Option Addr} {x_2 : Int} {x_3 : Int} {x_4 : Int} {x_5 : List UInt8} {x_6 : Int} {x_7 : Bool} {x_8 : List UInt8} {flags_9 : Int} {R : Ending → World → Prop} {w : World} (h : sh_tokenizer_builder_start b_1 x_2 x_3 x_4 x_5 x_6 x_7 x_8 flags_9 R w) : Calls Tryz.prog F_tokenizer_builder_start ⟨[.pointer b_1, .agg ⟨[.int .i64 x_2, .int .u8 x_3, .int .i64 x_4, .string ⟨⟨x_5⟩⟩, .int .i64 x_6, .bool x_7, .string ⟨⟨x_8⟩⟩]⟩, .int .i64 flags_9]⟩ w R := calls_of_fnV Tryz.func136 (by rw [e_tokenizer_builder_start]; exact h)

def an_tokenizer_builder_last : Ann := .two (.leaf) (.two (.leaf) (.leaf))
def sh_tokenizer_builder_last (b_1 : Option Addr) (R : Ending → World → Prop) (w : World) : Prop :=
  drw w fun w2 =>
  dr b_1 fun p3 =>
  ∃ (x4 : Option Addr) (x4n : Nat) (x4c : Nat), World.cell? w2 (p3.add 0) = some (.slice x4 x4n x4c) ∧ (dr b_1 fun p5 =>
  ∃ (x6 : Option Addr) (x6n : Nat) (x6c : Nat), World.cell? w2 (p5.add 0) = some (.slice x6 x6n x6c) ∧ (idx x4 x4n (IntKind.i64.wrap (((x6n : Int)) - 1)) 6 fun p7 =>
  R (.returned (.pointer (some p7))) w2))
set_option maxRecDepth 100000 in
theorem e_tokenizer_builder_last (b_1 : Option Addr) (R : Ending → World → Prop) (w : World) : fnV Tryz.prog Tryz.f137 an_tokenizer_builder_last [.pointer b_1] R w = sh_tokenizer_builder_last b_1 R w := by kernel_rfl
theorem c_tokenizer_builder_last {b_1 : Option Addr} {R : Ending → World → Prop} {w : World} (h : sh_tokenizer_builder_last b_1 R w) : Calls Tryz.prog F_tokenizer_builder_last ⟨[.pointer b_1]⟩ w R := calls_of_fnV Tryz.func137 (by rw [e_tokenizer_builder_last]; exact h)

def an_strings_Builder_Reset : Ann := .two (.leaf) (.leaf)
def sh_strings_Builder_Reset (b_1 : Option Addr) (R : Ending → World → Prop) (w : World) : Prop :=
  dr b_1 fun p2 =>
  stL w (p2.add 0) 0 [.pointer none] fun w3 =>
  dr b_1 fun p4 =>
  stL w3 (p4.add 1) 0 [.slice none 0 0] fun w5 =>
  R (.returned (.tuple ⟨[]⟩)) w5
set_option maxRecDepth 100000 in
theorem e_strings_Builder_Reset (b_1 : Option Addr) (R : Ending → World → Prop) (w : World) : fnV Tryz.prog Tryz.f138 an_strings_Builder_Reset [.pointer b_1] R w = sh_strings_Builder_Reset b_1 R w := by kernel_rfl
theorem c_strings_Builder_Reset {b_1 : Option Addr} {R : Ending → World → Prop} {w : World} (h : sh_strings_Builder_Reset b_1 R w) : Calls Tryz.prog F_strings_Builder_Reset ⟨[.pointer b_1]⟩ w R := calls_of_fnV Tryz.func138 (by rw [e_strings_Builder_Reset]; exact h)

def an_transcript_marked_1 : Ann := .two (.leaf) (.one (.loop 9007199254740576 [(9, .one (.int .i64))] (.two (.leaf) (.two (.two (.leaf) (.leaf)) (.two (.one (.two (.leaf) (.two (.leaf) (.one (.two (.leaf) (.two (.leaf) (.two (.leaf) (.two (.cut 8761733283840 [] (.leaf) (.two (.leaf) (.leaf))) (.leaf))))))))) (.leaf))))))
def sh_transcript_marked_1 (l_1 : Option Addr) (l_1n : Nat) (l_1c : Nat) (t1_2 : Option Addr) (t2_3 : Option Addr) (R : Ending → World → Prop) (w : World) : Prop :=
  ∃ (I4 : Int → World → Nat → Prop), (∃ m8 : Nat, I4 0 w m8) ∧ ∀ (t9_5 : Int) (w6 : World) (m7 : Nat), I4 t9_5 w6 m7 → ∀ _ : Env, (br (decide ((t9_5 : Int) < ((l_1n : Int)))) (idx l_1 l_1n t9_5 4 fun p9 =>
  ∃ (x10 : Int), World.cell? w6 (p9.add 0) = some (.int .i64 x10) ∧ (∃ (x11 : List UInt8), World.cell? w6 (p9.add 1) = some (.string ⟨⟨x11⟩⟩) ∧ (∃ (x12 : Int), World.cell? w6 (p9.add 2) = some (.int .i64 x12) ∧ (∃ (x13 : Option Addr) (x13n : Nat) (x13c : Nat), World.cell? w6 (p9.add 3) = some (.slice x13 x13n x13c) ∧ (al w6 64 [.int .i64 0, .string ⟨⟨[]⟩⟩, .int .i64 0, .slice none 0 0] fun p14 w15 =>
  stL w15 p14 0 [.int .i64 x10, .string ⟨⟨x11⟩⟩, .int .i64 x12, .slice x13 x13n x13c] fun w16 =>
  ∃ (x17 : Int), World.cell? w16 (p14.add 0) = some (.int .i64 x17) ∧ (idx (some (⟨2, 0, none⟩)) 12 x17 4 fun p18 =>
  ∃ (x19 : List UInt8), World.cell? w16 (p18.add 0) = some (.string ⟨⟨x19⟩⟩) ∧ (∃ (x20 : Bool), World.cell? w16 (p18.add 1) = some (.bool x20) ∧ (∃ (x21 : Bool), World.cell? w16 (p18.add 2) = some (.bool x21) ∧ (∃ (x22 : Bool), World.cell? w16 (p18.add 3) = some (.bool x22) ∧ (al w16 161 [.string ⟨⟨[]⟩⟩, .bool false, .bool false, .bool false] fun p23 w24 =>
  stL w24 p23 0 [.string ⟨⟨x19⟩⟩, .bool x20, .bool x21, .bool x22] fun w25 =>
  ∃ (x26 : Int), World.cell? w25 (p14.add 0) = some (.int .i64 x26) ∧ (br (decide ((x26 : Int) = 1)) (∃ (x27 : List UInt8), World.cell? w25 (p14.add 1) = some (.string ⟨⟨x27⟩⟩) ∧ (Calls Tryz.prog 47 ⟨[.pointer t1_2, .string ⟨⟨x27⟩⟩]⟩ w25 fun (e28 : Ending) (w29 : World) =>
  ∃ (x30 : Int) (x31 : Value), e28 = .returned (.tuple ⟨[.int .i64 x30, x31]⟩) ∧ (∃ m32 : Nat, m32 < m7 ∧ I4 (IntKind.i64.wrap (t9_5 + 1)) w29 m32))) (∃ (x33 : Bool), World.cell? w25 (p23.add 3) = some (.bool x33) ∧ (br x33 (∀ (K34 : World → Prop), (∀  (w35 : World), (∀ _ : Env, (dr t2_3 fun p36 =>
  ∃ (x37 : Fn) (x37a : Array Value) (x37b : Array Value), World.cell? w35 p36 = some (.func x37 x37a x37b) ∧ (∃ (x38 : Option Addr) (x38n : Nat) (x38c : Nat), World.cell? w35 (p14.add 3) = some (.slice x38 x38n x38c) ∧ (CallV Tryz.prog (.func x37 x37a x37b) [.slice x38 x38n x38c] w35 fun (e39 : Ending) (w40 : World) =>
  e39 = .returned (.tuple ⟨[]⟩) ∧ (∃ (x41 : List UInt8), World.cell? w40 (p23.add 0) = some (.string ⟨⟨x41⟩⟩) ∧ (sadd ([60, 47]) x41 fun s42 =>
  sadd s42 ([62]) fun s43 =>
  Calls Tryz.prog 47 ⟨[.pointer t1_2, .string ⟨⟨s43⟩⟩]⟩ w40 fun (e44 : Ending) (w45 : World) =>
  ∃ (x46 : Int) (x47 : Value), e44 = .returned (.tuple ⟨[.int .i64 x46, x47]⟩) ∧ (∃ m48 : Nat, m48 < m7 ∧ I4 (IntKind.i64.wrap (t9_5 + 1)) w45 m48))))))) → K34 w35) → (drw w25 fun w49 =>
  (∃ (x50 : List UInt8), World.cell? w49 (p23.add 0) = some (.string ⟨⟨x50⟩⟩) ∧ (sadd ([60]) x50 fun s51 =>
  ∃ (x52 : Int), World.cell? w49 (p14.add 0) = some (.int .i64 x52) ∧ (∃ (x53 : List UInt8), World.cell? w49 (p14.add 1) = some (.string ⟨⟨x53⟩⟩) ∧ (∃ (x54 : Int), World.cell? w49 (p14.add 2) = some (.int .i64 x54) ∧ (∃ (x55 : Option Addr) (x55n : Nat) (x55c : Nat), World.cell? w49 (p14.add 3) = some (.slice x55 x55n x55c) ∧ ((Calls Tryz.prog 143 ⟨[.agg ⟨[.int .i64 x52, .string ⟨⟨x53⟩⟩, .int .i64 x54, .slice x55 x55n x55c]⟩]⟩ w49 fun (e56 : Ending) (w57 : World) =>
  ∃ (x58 : List UInt8), e56 = .returned (.string ⟨⟨x58⟩⟩) ∧ (sadd s51 x58 fun s59 =>
  sadd s59 ([62]) fun s60 =>
  (Calls Tryz.prog 47 ⟨[.pointer t1_2, .string ⟨⟨s60⟩⟩]⟩ w57 fun (e61 : Ending) (w62 : World) =>
  ∃ (x63 : Int) (x64 : Value), e61 = .returned (.tuple ⟨[.int .i64 x63, x64]⟩) ∧ (K34 w62)) ∧ True)) ∧ True)))))) ∧ (∃ (x65 : Int), World.cell? w49 (p14.add 0) = some (.int .i64 x65) ∧ (∃ (x66 : List UInt8), World.cell? w49 (p14.add 1) = some (.string ⟨⟨x66⟩⟩) ∧ (∃ (x67 : Int), World.cell? w49 (p14.add 2) = some (.int .i64 x67) ∧ (∃ (x68 : Option Addr) (x68n : Nat) (x68c : Nat), World.cell? w49 (p14.add 3) = some (.slice x68 x68n x68c) ∧ ((∃ (x69 : List UInt8), World.cell? w49 (p23.add 0) = some (.string ⟨⟨x69⟩⟩) ∧ (sadd ([60]) x69 fun s70 =>
  (Calls Tryz.prog 143 ⟨[.agg ⟨[.int .i64 x65, .string ⟨⟨x66⟩⟩, .int .i64 x67, .slice x68 x68n x68c]⟩]⟩ w49 fun (e71 : Ending) (w72 : World) =>
  ∃ (x73 : List UInt8), e71 = .returned (.string ⟨⟨x73⟩⟩) ∧ (sadd s70 x73 fun s74 =>
  sadd s74 ([62]) fun s75 =>
  (Calls Tryz.prog 47 ⟨[.pointer t1_2, .string ⟨⟨s75⟩⟩]⟩ w72 fun (e76 : Ending) (w77 : World) =>
  ∃ (x78 : Int) (x79 : Value), e76 = .returned (.tuple ⟨[.int .i64 x78, x79]⟩) ∧ (K34 w77)) ∧ True)) ∧ True)) ∧ (Calls Tryz.prog 143 ⟨[.agg ⟨[.int .i64 x65, .string ⟨⟨x66⟩⟩, .int .i64 x67, .slice x68 x68n x68c]⟩]⟩ w49 fun (e80 : Ending) (w81 : World) =>
  ∃ (x82 : List UInt8), e80 = .returned (.string ⟨⟨x82⟩⟩) ∧ (∃ (x83 : List UInt8), World.cell? w81 (p23.add 0) = some (.string ⟨⟨x83⟩⟩) ∧ (sadd ([60]) x83 fun s84 =>
  sadd s84 x82 fun s85 =>
  sadd s85 ([62]) fun s86 =>
  (Calls Tryz.prog 47 ⟨[.pointer t1_2, .string ⟨⟨s86⟩⟩]⟩ w81 fun (e87 : Ending) (w88 : World) =>
  ∃ (x89 : Int) (x90 : Value), e87 = .returned (.tuple ⟨[.int .i64 x89, x90]⟩) ∧ (K34 w88)) ∧ True))) ∧ True))))) ∧ True)) (drw w25 fun w91 =>
  (∃ (x92 : List UInt8), World.cell? w91 (p23.add 0) = some (.string ⟨⟨x92⟩⟩) ∧ (sadd ([60]) x92 fun s93 =>
  ∃ (x94 : Int), World.cell? w91 (p14.add 0) = some (.int .i64 x94) ∧ (∃ (x95 : List UInt8), World.cell? w91 (p14.add 1) = some (.string ⟨⟨x95⟩⟩) ∧ (∃ (x96 : Int), World.cell? w91 (p14.add 2) = some (.int .i64 x96) ∧ (∃ (x97 : Option Addr) (x97n : Nat) (x97c : Nat), World.cell? w91 (p14.add 3) = some (.slice x97 x97n x97c) ∧ ((Calls Tryz.prog 143 ⟨[.agg ⟨[.int .i64 x94, .string ⟨⟨x95⟩⟩, .int .i64 x96, .slice x97 x97n x97c]⟩]⟩ w91 fun (e98 : Ending) (w99 : World) =>
  ∃ (x100 : List UInt8), e98 = .returned (.string ⟨⟨x100⟩⟩) ∧ (sadd s93 x100 fun s101 =>
  sadd s101 ([47, 62]) fun s102 =>
  (Calls Tryz.prog 47 ⟨[.pointer t1_2, .string ⟨⟨s102⟩⟩]⟩ w99 fun (e103 : Ending) (w104 : World) =>
  ∃ (x105 : Int) (x106 : Value), e103 = .returned (.tuple ⟨[.int .i64 x105, x106]⟩) ∧ (∃ m107 : Nat, m107 < m7 ∧ I4 (IntKind.i64.wrap (t9_5 + 1)) w104 m107)) ∧ True)) ∧ True)))))) ∧ (∃ (x108 : Int), World.cell? w91 (p14.add 0) = some (.int .i64 x108) ∧ (∃ (x109 : List UInt8), World.cell? w91 (p14.add 1) = some (.string ⟨⟨x109⟩⟩) ∧ (∃ (x110 : Int), World.cell? w91 (p14.add 2) = some (.int .i64 x110) ∧ (∃ (x111 : Option Addr) (x111n : Nat) (x111c : Nat), World.cell? w91 (p14.add 3) = some (.slice x111 x111n x111c) ∧ ((∃ (x112 : List UInt8), World.cell? w91 (p23.add 0) = some (.string ⟨⟨x112⟩⟩) ∧ (sadd ([60]) x112 fun s113 =>
  (Calls Tryz.prog 143 ⟨[.agg ⟨[.int .i64 x108, .string ⟨⟨x109⟩⟩, .int .i64 x110, .slice x111 x111n x111c]⟩]⟩ w91 fun (e114 : Ending) (w115 : World) =>
  ∃ (x116 : List UInt8), e114 = .returned (.string ⟨⟨x116⟩⟩) ∧ (sadd s113 x116 fun s117 =>
  sadd s117 ([47, 62]) fun s118 =>
  (Calls Tryz.prog 47 ⟨[.pointer t1_2, .string ⟨⟨s118⟩⟩]⟩ w115 fun (e119 : Ending) (w120 : World) =>
  ∃ (x121 : Int) (x122 : Value), e119 = .returned (.tuple ⟨[.int .i64 x121, x122]⟩) ∧ (∃ m123 : Nat, m123 < m7 ∧ I4 (IntKind.i64.wrap (t9_5 + 1)) w120 m123)) ∧ True)) ∧ True)) ∧ (Calls Tryz.prog 143 ⟨[.agg ⟨[.int .i64 x108, .string ⟨⟨x109⟩⟩, .int .i64 x110, .slice x111 x111n x111c]⟩]⟩ w91 fun (e124 : Ending) (w125 : World) =>
  ∃ (x126 : List UInt8), e124 = .returned (.string ⟨⟨x126⟩⟩) ∧ (∃ (x127 : List UInt8), World.cell? w125 (p23.add 0) = some (.string ⟨⟨x127⟩⟩) ∧ (sadd ([60]) x127 fun s128 =>
  sadd s128 x126 fun s129 =>
  sadd s129 ([47, 62]) fun s130 =>
  (Calls Tryz.prog 47 ⟨[.pointer t1_2, .string ⟨⟨s130⟩⟩]⟩ w125 fun (e131 : Ending) (w132 : World) =>
  ∃ (x133 : Int) (x134 : Value), e131 = .returned (.tuple ⟨[.int .i64 x133, x134]⟩) ∧ (∃ m135 : Nat, m135 < m7 ∧ I4 (IntKind.i64.wrap (t9_5 + 1)) w132 m135)) ∧ True))) ∧ True))))) ∧ True)))))))))))))) (R (.returned (.tuple ⟨[]⟩)) w6))
set_option maxRecDepth 100000 in
theorem e_transcript_marked_1 (l_1 : Option Addr) (l_1n : Nat) (l_1c : Nat) (t1_2 : Option Addr) (t2_3 : Option Addr) (R : Ending → World → Prop) (w : World) : fnV Tryz.prog Tryz.f142 an_transcript_marked_1 [.slice l_1 l_1n l_1c, .pointer t1_2, .pointer t2_3] R w = sh_transcript_marked_1 l_1 l_1n l_1c t1_2 t2_3 R w := by kernel_rfl
theorem c_transcript_marked_1 {l_1 : Option Addr} {l_1n : Nat} {l_1c : Nat} {t1_2 : Option Addr} {t2_3 : Option Addr} {R : Ending → World → Prop} {w : World} (h : sh_transcript_marked_1 l_1 l_1n l_1c t1_2 t2_3 R w) : Calls Tryz.prog F_transcript_marked_1 ⟨[.slice l_1 l_1n l_1c, .pointer t1_2, .pointer t2_3]⟩ w R := calls_of_fnV Tryz.func142 (by rw [e_transcript_marked_1]; exact h)

def an_transcript_value : Ann := .two (.leaf) (.two (.leaf) (.two (.one (.two (.leaf) (.two (.two (.leaf) (.leaf)) (.two (.leaf) (.two (.two (.leaf) (.leaf)) (.leaf)))))) (.two (.leaf) (.leaf))))
def sh_transcript_value (x_1 : Int) (x_2 : List UInt8) (x_3 : Int) (x_4 : Option Addr) (x_4n : Nat) (x_4c : Nat) (R : Ending → World → Prop) (w : World) : Prop :=
  al w 64 [.int .i64 x_1, .string ⟨⟨x_2⟩⟩, .int .i64 x_3, .slice x_4 x_4n x_4c] fun p5 w6 =>
  ∃ (x7 : Int), World.cell? w6 (p5.add 0) = some (.int .i64 x7) ∧ (idx (some (⟨2, 0, none⟩)) 12 x7 4 fun p8 =>
  ∃ (x9 : List UInt8), World.cell? w6 (p8.add 0) = some (.string ⟨⟨x9⟩⟩) ∧ (∃ (x10 : Bool), World.cell? w6 (p8.add 1) = some (.bool x10) ∧ (∃ (x11 : Bool), World.cell? w6 (p8.add 2) = some (.bool x11) ∧ (∃ (x12 : Bool), World.cell? w6 (p8.add 3) = some (.bool x12) ∧ (al w6 161 [.string ⟨⟨[]⟩⟩, .bool false, .bool false, .bool false] fun p13 w14 =>
  stL w14 p13 0 [.string ⟨⟨x9⟩⟩, .bool x10, .bool x11, .bool x12] fun w15 =>
  ∃ (x16 : Bool), World.cell? w15 (p13.add 1) = some (.bool x16) ∧ (br x16 (∃ (x17 : List UInt8), World.cell? w15 (p5.add 1) = some (.string ⟨⟨x17⟩⟩) ∧ (sadd ([32]) x17 fun s18 =>
  R (.returned (.string ⟨⟨s18⟩⟩)) w15)) (∃ (x19 : Bool), World.cell? w15 (p13.add 2) = some (.bool x19) ∧ (br x19 (∃ (x20 : Int), World.cell? w15 (p5.add 2) = some (.int .i64 x20) ∧ (Calls Tryz.prog 109 ⟨[.int .i64 x20]⟩ w15 fun (e21 : Ending) (w22 : World) =>
  ∃ (x23 : List UInt8), e21 = .returned (.string ⟨⟨x23⟩⟩) ∧ (sadd ([32]) x23 fun s24 =>
  R (.returned (.string ⟨⟨s24⟩⟩)) w22))) (R (.returned (.string ⟨⟨[]⟩⟩)) w15)))))))))
set_option maxRecDepth 100000 in
theorem e_transcript_value (x_1 : Int) (x_2 : List UInt8) (x_3 : Int) (x_4 : Option Addr) (x_4n : Nat) (x_4c : Nat) (R : Ending → World → Prop) (w : World) : fnV Tryz.prog Tryz.f143 an_transcript_value [.agg ⟨[.int .i64 x_1, .string ⟨⟨x_2⟩⟩, .int .i64 x_3, .slice x_4 x_4n x_4c]⟩] R w = sh_transcript_value x_1 x_2 x_3 x_4 x_4n x_4c R w := by kernel_rfl
theorem c_transcript_value {x_1 : Int} {x_2 : List UInt8} {x_3 : Int} {x_4 : Option Addr} {x_4n : Nat} {x_4c : Nat} {R : Ending → World → Prop} {w : World} (h : sh_transcript_value x_1 x_2 x_3 x_4 x_4n x_4c R w) : Calls Tryz.prog F_transcript_value ⟨[.agg ⟨[.int .i64 x_1, .string ⟨⟨x_2⟩⟩, .int .i64 x_3, .slice x_4 x_4n x_4c]⟩]⟩ w R := calls_of_fnV Tryz.func143 (by rw [e_transcript_value]; exact h)

def an_tokenizer_begins : Ann := .two (.leaf) (.two (.leaf) (.two (.leaf) (.leaf)))
def sh_tokenizer_begins (c_1 : Int) (R : Ending → World → Prop) (w : World) : Prop :=
  Calls Tryz.prog 55 ⟨[.int .u8 c_1]⟩ w fun (e2 : Ending) (w3 : World) =>
  ∃ (x4 : Int), e2 = .returned (.int .i64 x4) ∧ (br (decide ((x4 : Int) = 1)) (R (.returned (.bool true)) w3) (R (.returned (.bool (decide ((x4 : Int) = 3)))) w3))
set_option maxRecDepth 100000 in
theorem e_tokenizer_begins (c_1 : Int) (R : Ending → World → Prop) (w : World) : fnV Tryz.prog Tryz.f155 an_tokenizer_begins [.int .u8 c_1] R w = sh_tokenizer_begins c_1 R w := by kernel_rfl
theorem c_tokenizer_begins {c_1 : Int} {R : Ending → World → Prop} {w : World} (h : sh_tokenizer_begins c_1 R w) : Calls Tryz.prog F_tokenizer_begins ⟨[.int .u8 c_1]⟩ w R := calls_of_fnV Tryz.func155 (by rw [e_tokenizer_begins]; exact h)

def an_charset_Letters : Ann := .two (.leaf) (.two (.leaf) (.two (.two (.leaf) (.one (.loop 16777016 [(3, .one (.int .i64)), (8, .one (.int .i64))] (.two (.leaf) (.two (.two (.leaf) (.leaf)) (.two (.one (.two (.leaf) (.two (.leaf) (.two (.leaf) (.two (.leaf) (.leaf)))))) (.leaf))))))) (.two (.leaf) (.leaf))))
def sh_charset_Letters (s_1 : List UInt8) (R : Ending → World → Prop) (w : World) : Prop :=
  ∃ (I2 : Int → Int → World → Nat → Prop), (∃ m7 : Nat, I2 0 0 w m7) ∧ ∀ (n_3 : Int) (t8_4 : Int) (w5 : World) (m6 : Nat), I2 n_3 t8_4 w5 m6 → ∀ _ : Env, (br (decide ((t8_4 : Int) < ((List.length s_1 : Int)))) (sidx s_1 t8_4 fun b8 =>
  Calls Tryz.prog 55 ⟨[.int .u8 ((b8.toNat : Int))]⟩ w5 fun (e9 : Ending) (w10 : World) =>
  ∃ (x11 : Int), e9 = .returned (.int .i64 x11) ∧ (br (decide ((x11 : Int) = 1)) (∃ m12 : Nat, m12 < m6 ∧ I2 (IntKind.i64.wrap (n_3 + 1)) (IntKind.i64.wrap (t8_4 + 1)) w10 m12) (br (decide ((x11 : Int) = 3)) (∃ m13 : Nat, m13 < m6 ∧ I2 (IntKind.i64.wrap (n_3 + 1)) (IntKind.i64.wrap (t8_4 + 1)) w10 m13) (∃ m14 : Nat, m14 < m6 ∧ I2 n_3 (IntKind.i64.wrap (t8_4 + 1)) w10 m14)))) (R (.returned (.int .i64 n_3)) w5))
set_option maxRecDepth 100000 in
theorem e_charset_Letters (s_1 : List UInt8) (R : Ending → World → Prop) (w : World) : fnV Tryz.prog Tryz.f156 an_charset_Letters [.string ⟨⟨s_1⟩⟩] R w = sh_charset_Letters s_1 R w := by kernel_rfl
theorem c_charset_Letters {s_1 : List UInt8} {R : Ending → World → Prop} {w : World} (h : sh_charset_Letters s_1 R w) : Calls Tryz.prog F_charset_Letters ⟨[.string ⟨⟨s_1⟩⟩]⟩ w R := calls_of_fnV Tryz.func156 (by rw [e_charset_Letters]; exact h)

end Go.Proofs
