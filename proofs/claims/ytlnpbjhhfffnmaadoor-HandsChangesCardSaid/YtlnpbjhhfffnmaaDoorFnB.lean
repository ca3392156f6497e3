/- Written by program: for each function its verification condition, that it is the code's (by the kernel), and that it gives the call. -/
import Derived.Test.YtlnpbjhhfffnmaaDoorFn
namespace Go.Proofs
open Go Go.Sh
def an_slices_Collect_of_api_Node : Ann := .two (.leaf) (.two (.leaf) (.leaf))
def sh_slices_Collect_of_api_Node (seq_1 : Fn) (seq_1a : Array Value) (seq_1b : Array Value) (R : Ending → World → Prop) (w : World) : Prop :=
  Calls Tryd.prog 64 ⟨[.slice none 0 0, .func seq_1 seq_1a seq_1b]⟩ w fun (e2 : Ending) (w3 : World) =>
  ∃ (x4 : Option Addr) (x4n : Nat) (x4c : Nat), e2 = .returned (.slice x4 x4n x4c) ∧ (R (.returned (.slice x4 x4n x4c)) w3)
set_option maxRecDepth 100000 in
theorem e_slices_Collect_of_api_Node (seq_1 : Fn) (seq_1a : Array Value) (seq_1b : Array Value) (R : Ending → World → Prop) (w : World) : fnV Tryd.prog Tryd.f41 an_slices_Collect_of_api_Node [.func seq_1 seq_1a seq_1b] R w = sh_slices_Collect_of_api_Node seq_1 seq_1a seq_1b R w := by kernel_rfl
theorem c_slices_Collect_of_api_Node {seq_1 : Fn} {seq_1a : Array Value} {seq_1b : Array Value} {R : Ending → World → Prop} {w : World} (h : sh_slices_Collect_of_api_Node seq_1 seq_1a seq_1b R w) : Calls Tryd.prog F_slices_Collect_of_api_Node ⟨[.func seq_1 seq_1a seq_1b]⟩ w R := calls_of_fnV Tryd.func41 (by rw [e_slices_Collect_of_api_Node]; exact h)

def an_hands_walk : Ann := .two (.leaf) (.two (.leaf) (.leaf))
def sh_hands_walk (l_1 : Option Addr) (l_1n : Nat) (l_1c : Nat) (R : Ending → World → Prop) (w : World) : Prop :=
  al w 22 [.slice l_1 l_1n l_1c] fun p2 w3 =>
  R (.returned (.func (.func 65) ⟨[]⟩ ⟨[.pointer (some p2)]⟩)) w3
set_option maxRecDepth 100000 in
theorem e_hands_walk (l_1 : Option Addr) (l_1n : Nat) (l_1c : Nat) (R : Ending → World → Prop) (w : World) : fnV Tryd.prog Tryd.f42 an_hands_walk [.slice l_1 l_1n l_1c] R w = sh_hands_walk l_1 l_1n l_1c R w := by kernel_rfl
theorem c_hands_walk {l_1 : Option Addr} {l_1n : Nat} {l_1c : Nat} {R : Ending → World → Prop} {w : World} (h : sh_hands_walk l_1 l_1n l_1c R w) : Calls Tryd.prog F_hands_walk ⟨[.slice l_1 l_1n l_1c]⟩ w R := calls_of_fnV Tryd.func42 (by rw [e_hands_walk]; exact h)

def an_hands_correction : Ann := .two (.leaf) (.two (.leaf) (.leaf))
def sh_hands_correction (x_1 : Int) (x_2 : List UInt8) (x_3 : Int) (x_4 : Option Addr) (x_4n : Nat) (x_4c : Nat) (R : Ending → World → Prop) (w : World) : Prop :=
  al w 56 [.int .i64 x_1, .string ⟨⟨x_2⟩⟩, .int .i64 x_3, .slice x_4 x_4n x_4c] fun p5 w6 =>
  ∃ (x7 : Int), World.cell? w6 (p5.add 0) = some (.int .i64 x7) ∧ (br (decide ((x7 : Int) = 8)) (R (.returned (.bool true)) w6) (∃ (x8 : Int), World.cell? w6 (p5.add 0) = some (.int .i64 x8) ∧ (R (.returned (.bool (decide ((x8 : Int) = 9)))) w6)))
set_option maxRecDepth 100000 in
theorem e_hands_correction (x_1 : Int) (x_2 : List UInt8) (x_3 : Int) (x_4 : Option Addr) (x_4n : Nat) (x_4c : Nat) (R : Ending → World → Prop) (w : World) : fnV Tryd.prog Tryd.f43 an_hands_correction [.agg ⟨[.int .i64 x_1, .string ⟨⟨x_2⟩⟩, .int .i64 x_3, .slice x_4 x_4n x_4c]⟩] R w = sh_hands_correction x_1 x_2 x_3 x_4 x_4n x_4c R w := by kernel_rfl
theorem c_hands_correction {x_1 : Int} {x_2 : List UInt8} {x_3 : Int} {x_4 : Option Addr} {x_4n : Nat} {x_4c : Nat} {R : Ending → World → Prop} {w : World} (h : sh_hands_correction x_1 x_2 x_3 x_4 x_4n x_4c R w) : Calls Tryd.prog F_hands_correction ⟨[.agg ⟨[.int .i64 x_1, .string ⟨⟨x_2⟩⟩, .int .i64 x_3, .slice x_4 x_4n x_4c]⟩]⟩ w R := calls_of_fnV Tryd.func43 (by rw [e_hands_correction]; exact h)

def an_transcript_Check_1 : Ann := .two (.leaf) (.two (.leaf) (.two (.leaf) (.leaf)))
def sh_transcript_Check_1 (t0_1 : Option Addr) (R : Ending → World → Prop) (w : World) : Prop :=
  dr t0_1 fun p2 =>
  ∃ (x3 : Int), World.cell? w p2 = some (.int .i64 x3) ∧ (dr t0_1 fun p5 =>
  stL w p5 0 [.int .i64 (IntKind.i64.wrap (x3 - 1))] fun w4 =>
  dr t0_1 fun p6 =>
  ∃ (x7 : Int), World.cell? w4 p6 = some (.int .i64 x7) ∧ (R (.returned (.bool (decide ((0 : Int) ≤ x7)))) w4))
set_option maxRecDepth 100000 in
theorem e_transcript_Check_1 (t0_1 : Option Addr) (R : Ending → World → Prop) (w : World) : fnV Tryd.prog Tryd.f44 an_transcript_Check_1 [.pointer t0_1] R w = sh_transcript_Check_1 t0_1 R w := by kernel_rfl
theorem c_transcript_Check_1 {t0_1 : Option Addr} {R : Ending → World → Prop} {w : World} (h : sh_transcript_Check_1 t0_1 R w) : Calls Tryd.prog F_transcript_Check_1 ⟨[.pointer t0_1]⟩ w R := calls_of_fnV Tryd.func44 (by rw [e_transcript_Check_1]; exact h)

def an_transcript_places : Ann := .two (.leaf) (.two (.leaf) (.leaf))
def sh_transcript_places (l_1 : Option Addr) (l_1n : Nat) (l_1c : Nat) (R : Ending → World → Prop) (w : World) : Prop :=
  al w 22 [.slice l_1 l_1n l_1c] fun p2 w3 =>
  R (.returned (.func (.func 67) ⟨[]⟩ ⟨[.pointer (some p2)]⟩)) w3
set_option maxRecDepth 100000 in
theorem e_transcript_places (l_1 : Option Addr) (l_1n : Nat) (l_1c : Nat) (R : Ending → World → Prop) (w : World) : fnV Tryd.prog Tryd.f45 an_transcript_places [.slice l_1 l_1n l_1c] R w = sh_transcript_places l_1 l_1n l_1c R w := by kernel_rfl
theorem c_transcript_places {l_1 : Option Addr} {l_1n : Nat} {l_1c : Nat} {R : Ending → World → Prop} {w : World} (h : sh_transcript_places l_1 l_1n l_1c R w) : Calls Tryd.prog F_transcript_places ⟨[.slice l_1 l_1n l_1c]⟩ w R := calls_of_fnV Tryd.func45 (by rw [e_transcript_places]; exact h)

def an_transcript_right : Ann := .two (.leaf) (.two (.leaf) (.cut 65284 [] (.two (.leaf) (.two (.two (.leaf) (.leaf)) (.leaf))) (.two (.leaf) (.two (.leaf) (.two (.one (.cut 9007199246352384 [(23, .one (.bool))] (.leaf) (.two (.two (.leaf) (.leaf)) (.cut 4722357475670390472704 [(53, .one (.bool))] (.leaf) (.two (.two (.leaf) (.leaf)) (.cut 4830980911975647053611008 [(72, .one (.bool))] (.leaf) (.two (.two (.leaf) (.leaf)) (.cut 1298074209798003628674107383480320 [(82, .one (.bool))] (.cut 4946924453863062582897672192 [(82, .one (.bool))] (.leaf) (.two (.leaf) (.leaf))) (.two (.two (.leaf) (.leaf)) (.cut 43556141667805908689605042618642248761344 [(110, .one (.bool))] (.cut 331008924731595261318819140987781120 [(110, .one (.bool))] (.leaf) (.two (.leaf) (.cut 20936639007827058705142093823497732096 [(110, .one (.bool))] (.leaf) (.two (.leaf) (.leaf))))) (.two (.two (.leaf) (.leaf)) (.cut 11106816456299431447444547186572914421923840 [(135, .one (.bool))] (.leaf) (.two (.two (.leaf) (.leaf)) (.two (.leaf) (.two (.two (.leaf) (.leaf)) (.leaf)))))))))))))))) (.two (.leaf) (.leaf)))))))
def sh_transcript_right (p_1 : Int) (p_2 : List UInt8) (p_3 : Int) (p_4 : Option Addr) (p_4n : Nat) (p_4c : Nat) (p_5 : Int) (p_6 : Bool) (R : Ending → World → Prop) (w : World) : Prop :=
  al w 71 [.int .i64 p_1, .string ⟨⟨p_2⟩⟩, .int .i64 p_3, .slice p_4 p_4n p_4c, .int .i64 p_5, .bool p_6] fun p7 w8 =>
  ∃ (x9 : Int), World.cell? w8 ((p7.add 0).add 0) = some (.int .i64 x9) ∧ (∃ (x10 : List UInt8), World.cell? w8 ((p7.add 0).add 1) = some (.string ⟨⟨x10⟩⟩) ∧ (∃ (x11 : Int), World.cell? w8 ((p7.add 0).add 2) = some (.int .i64 x11) ∧ (∃ (x12 : Option Addr) (x12n : Nat) (x12c : Nat), World.cell? w8 ((p7.add 0).add 3) = some (.slice x12 x12n x12c) ∧ (al w8 56 [.int .i64 0, .string ⟨⟨[]⟩⟩, .int .i64 0, .slice none 0 0] fun p13 w14 =>
  stL w14 p13 0 [.int .i64 x9, .string ⟨⟨x10⟩⟩, .int .i64 x11, .slice x12 x12n x12c] fun w15 =>
  ∀ (K16 : World → Prop), (∀  (w17 : World), (∀ _ : Env, (∃ (x18 : Int), World.cell? w17 (p13.add 0) = some (.int .i64 x18) ∧ (idx (some (⟨0, 0, none⟩)) 12 x18 4 fun p19 =>
  ∃ (x20 : List UInt8), World.cell? w17 (p19.add 0) = some (.string ⟨⟨x20⟩⟩) ∧ (∃ (x21 : Bool), World.cell? w17 (p19.add 1) = some (.bool x21) ∧ (∃ (x22 : Bool), World.cell? w17 (p19.add 2) = some (.bool x22) ∧ (∃ (x23 : Bool), World.cell? w17 (p19.add 3) = some (.bool x23) ∧ (al w17 96 [.string ⟨⟨[]⟩⟩, .bool false, .bool false, .bool false] fun p24 w25 =>
  stL w25 p24 0 [.string ⟨⟨x20⟩⟩, .bool x21, .bool x22, .bool x23] fun w26 =>
  ∃ (x27 : Int), World.cell? w26 (p13.add 0) = some (.int .i64 x27) ∧ (∀ (K28 : Bool → World → Prop), (∀ (t23_29 : Bool) (w30 : World), (∀ _ : Env, (br t23_29 (R (.returned (.int .i64 8)) w30) (∀ (K31 : Bool → World → Prop), (∀ (t53_32 : Bool) (w33 : World), (∀ _ : Env, (br t53_32 (R (.returned (.int .i64 5)) w33) (∀ (K34 : Bool → World → Prop), (∀ (t72_35 : Bool) (w36 : World), (∀ _ : Env, (br t72_35 (R (.returned (.int .i64 11)) w36) (∀ (K37 : Bool → World → Prop), (∀ (t82_38 : Bool) (w39 : World), (∀ _ : Env, (br t82_38 (R (.returned (.int .i64 14)) w39) (∀ (K40 : Bool → World → Prop), (∀ (t110_41 : Bool) (w42 : World), (∀ _ : Env, (br t110_41 (R (.returned (.int .i64 2)) w42) (∀ (K43 : Bool → World → Prop), (∀ (t135_44 : Bool) (w45 : World), (∀ _ : Env, (br t135_44 (R (.returned (.int .i64 10)) w45) (∃ (x46 : Int), World.cell? w45 (p13.add 0) = some (.int .i64 x46) ∧ (br (decide ((x46 : Int) = 4)) (∃ (x47 : Int), World.cell? w45 (p7.add 4) = some (.int .i64 x47) ∧ (br (decide ((0 : Int) < x47)) (R (.returned (.int .i64 12)) w45) (R (.returned (.int .i64 0)) w45))) (R (.returned (.int .i64 0)) w45))))) → K43 t135_44 w45) → (∃ (x48 : Int), World.cell? w42 (p13.add 0) = some (.int .i64 x48) ∧ (br (decide ((x48 : Int) = 1)) (∃ (x49 : Bool), World.cell? w42 (p7.add 5) = some (.bool x49) ∧ (K43 x49 w42)) (K43 false w42)))))) → K40 t110_41 w42) → (∀ (K50 : Bool → World → Prop), (∀ (t110_51 : Bool) (w52 : World), (∀ _ : Env, (br t110_51 (K40 t110_51 w52) (∀ (K53 : Bool → World → Prop), (∀ (t110_54 : Bool) (w55 : World), (∀ _ : Env, (br t110_54 (K40 t110_54 w55) (∃ (x56 : Bool), World.cell? w55 (p24.add 2) = some (.bool x56) ∧ (br x56 (br (!(decide ((x27 : Int) = 6))) (∃ (x57 : Int), World.cell? w55 (p13.add 2) = some (.int .i64 x57) ∧ (K40 (decide ((8 : Int) < x57)) w55)) (K40 false w55)) (K40 false w55))))) → K53 t110_54 w55) → (br (decide ((x27 : Int) = 6)) (∃ (x58 : Int), World.cell? w52 (p13.add 2) = some (.int .i64 x58) ∧ (K53 (decide ((64 : Int) < x58)) w52)) (K53 false w52))))) → K50 t110_51 w52) → (∃ (x59 : Bool), World.cell? w39 (p24.add 2) = some (.bool x59) ∧ (br x59 (∃ (x60 : Int), World.cell? w39 (p13.add 2) = some (.int .i64 x60) ∧ (K50 (decide ((x60 : Int) < 1)) w39)) (K50 false w39))))))) → K37 t82_38 w39) → (∀ (K61 : Bool → World → Prop), (∀ (t82_62 : Bool) (w63 : World), (∀ _ : Env, (br t82_62 (K37 t82_62 w63) (∃ (x64 : Bool), World.cell? w63 (p24.add 1) = some (.bool x64) ∧ (br x64 (∃ (x65 : Int), World.cell? w63 (p13.add 0) = some (.int .i64 x65) ∧ (br (decide ((x65 : Int) ≠ 1)) (∃ (x66 : Int), World.cell? w63 (p13.add 0) = some (.int .i64 x66) ∧ (br (decide ((x66 : Int) ≠ 10)) (∃ (x67 : List UInt8), World.cell? w63 (p13.add 1) = some (.string ⟨⟨x67⟩⟩) ∧ (Calls Tryd.prog 71 ⟨[.string ⟨⟨x67⟩⟩]⟩ w63 fun (e68 : Ending) (w69 : World) =>
  ∃ (x70 : Bool), e68 = .returned (.bool x70) ∧ (K37 (!x70) w69))) (K37 false w63))) (K37 false w63))) (K37 false w63))))) → K61 t82_62 w63) → (∃ (x71 : Int), World.cell? w36 (p13.add 0) = some (.int .i64 x71) ∧ (br (decide ((x71 : Int) = 10)) (∃ (x72 : List UInt8), World.cell? w36 (p13.add 1) = some (.string ⟨⟨x72⟩⟩) ∧ (Calls Tryd.prog 70 ⟨[.string ⟨⟨x72⟩⟩]⟩ w36 fun (e73 : Ending) (w74 : World) =>
  ∃ (x75 : Bool), e73 = .returned (.bool x75) ∧ (K61 (!x75) w74))) (K61 false w36))))))) → K34 t72_35 w36) → (∃ (x76 : Int), World.cell? w33 (p13.add 0) = some (.int .i64 x76) ∧ (br (decide ((x76 : Int) = 1)) (∃ (x77 : List UInt8), World.cell? w33 (p13.add 1) = some (.string ⟨⟨x77⟩⟩) ∧ (Calls Tryd.prog 69 ⟨[.string ⟨⟨x77⟩⟩]⟩ w33 fun (e78 : Ending) (w79 : World) =>
  ∃ (x80 : Int), e78 = .returned (.int .i64 x80) ∧ (K34 (decide ((x80 : Int) ≠ 0)) w79))) (K34 false w33)))))) → K31 t53_32 w33) → (∃ (x81 : Int), World.cell? w30 (p13.add 0) = some (.int .i64 x81) ∧ (br (decide ((x81 : Int) = 1)) (∃ (x82 : List UInt8), World.cell? w30 (p13.add 1) = some (.string ⟨⟨x82⟩⟩) ∧ (br (decide ((x82 : List UInt8) = ([]))) (K31 true w30) (∃ (x83 : Bool), World.cell? w30 (p24.add 3) = some (.bool x83) ∧ (br x83 (∃ (x84 : Option Addr) (x84n : Nat) (x84c : Nat), World.cell? w30 (p13.add 3) = some (.slice x84 x84n x84c) ∧ (K31 (decide ((((x84n : Int)) : Int) = 0)) w30)) (K31 false w30))))) (∃ (x85 : Bool), World.cell? w30 (p24.add 3) = some (.bool x85) ∧ (br x85 (∃ (x86 : Option Addr) (x86n : Nat) (x86c : Nat), World.cell? w30 (p13.add 3) = some (.slice x86 x86n x86c) ∧ (K31 (decide ((((x86n : Int)) : Int) = 0)) w30)) (K31 false w30)))))))) → K28 t23_29 w30) → (∃ (x87 : Bool), World.cell? w26 (p24.add 1) = some (.bool x87) ∧ (br (!x87) (∃ (x88 : List UInt8), World.cell? w26 (p13.add 1) = some (.string ⟨⟨x88⟩⟩) ∧ (br (decide ((x88 : List UInt8) ≠ ([]))) (K28 true w26) (∃ (x89 : Bool), World.cell? w26 (p24.add 2) = some (.bool x89) ∧ (br (!x89) (∃ (x90 : Int), World.cell? w26 (p13.add 2) = some (.int .i64 x90) ∧ (br (decide ((x90 : Int) ≠ 0)) (K28 true w26) (∃ (x91 : Bool), World.cell? w26 (p24.add 3) = some (.bool x91) ∧ (br (!x91) (∃ (x92 : Option Addr) (x92n : Nat) (x92c : Nat), World.cell? w26 (p13.add 3) = some (.slice x92 x92n x92c) ∧ (K28 (decide ((0 : Int) < ((x92n : Int)))) w26)) (K28 false w26))))) (∃ (x93 : Bool), World.cell? w26 (p24.add 3) = some (.bool x93) ∧ (br (!x93) (∃ (x94 : Option Addr) (x94n : Nat) (x94c : Nat), World.cell? w26 (p13.add 3) = some (.slice x94 x94n x94c) ∧ (K28 (decide ((0 : Int) < ((x94n : Int)))) w26)) (K28 false w26))))))) (∃ (x95 : Bool), World.cell? w26 (p24.add 2) = some (.bool x95) ∧ (br (!x95) (∃ (x96 : Int), World.cell? w26 (p13.add 2) = some (.int .i64 x96) ∧ (br (decide ((x96 : Int) ≠ 0)) (K28 true w26) (∃ (x97 : Bool), World.cell? w26 (p24.add 3) = some (.bool x97) ∧ (br (!x97) (∃ (x98 : Option Addr) (x98n : Nat) (x98c : Nat), World.cell? w26 (p13.add 3) = some (.slice x98 x98n x98c) ∧ (K28 (decide ((0 : Int) < ((x98n : Int)))) w26)) (K28 false w26))))) (∃ (x99 : Bool), World.cell? w26 (p24.add 3) = some (.bool x99) ∧ (br (!x99) (∃ (x100 : Option Addr) (x100n : Nat) (x100c : Nat), World.cell? w26 (p13.add 3) = some (.slice x100 x100n x100c) ∧ (K28 (decide ((0 : Int) < ((x100n : Int)))) w26)) (K28 false w26))))))))))))))) → K16 w17) → (∃ (x101 : Int), World.cell? w15 (p13.add 0) = some (.int .i64 x101) ∧ (br (decide ((x101 : Int) < 1)) (R (.returned (.int .i64 8)) w15) (∃ (x102 : Int), World.cell? w15 (p13.add 0) = some (.int .i64 x102) ∧ (br (decide ((11 : Int) < x102)) (R (.returned (.int .i64 8)) w15) (K16 w15)))))))))
set_option maxRecDepth 100000 in
theorem e_transcript_right (p_1 : Int) (p_2 : List UInt8) (p_3 : Int) (p_4 : Option Addr) (p_4n : Nat) (p_4c : Nat) (p_5 : Int) (p_6 : Bool) (R : Ending → World → Prop) (w : World) : fnV Tryd.prog Tryd.f46 an_transcript_right [.agg ⟨[.int .i64 p_1, .string ⟨⟨p_2⟩⟩, .int .i64 p_3, .slice p_4 p_4n p_4c, .int .i64 p_5, .bool p_6]⟩] R w = sh_transcript_right p_1 p_2 p_3 p_4 p_4n p_4c p_5 p_6 R w := by kernel_rfl
theorem c_transcript_right {p_1 : Int} {p_2 : List UInt8} {p_3 : Int} {p_4 : Option Addr} {p_4n : Nat} {p_4c : Nat} {p_5 : Int} {p_6 : Bool} {R : Ending → World → Prop} {w : World} (h : sh_transcript_right p_1 p_2 p_3 p_4 p_4n p_4c p_5 p_6 R w) : Calls Tryd.prog F_transcript_right ⟨[.agg ⟨[.int .i64 p_1, .string ⟨⟨p_2⟩⟩, .int .i64 p_3, .slice p_4 p_4n p_4c, .int .i64 p_5, .bool p_6]⟩]⟩ w R := calls_of_fnV Tryd.func46 (by rw [e_transcript_right]; exact h)

def an_transcript_marked : Ann := .two (.leaf) (.two (.leaf) (.two (.leaf) (.two (.leaf) (.two (.leaf) (.two (.leaf) (.leaf))))))
def sh_transcript_marked (l_1 : Option Addr) (l_1n : Nat) (l_1c : Nat) (R : Ending → World → Prop) (w : World) : Prop :=
  al w 76 [.pointer none, .slice none 0 0] fun p2 w3 =>
  al w3 100 [.nilFunc] fun p4 w5 =>
  stL w5 p4 0 [.func (.func 72) ⟨[]⟩ ⟨[.pointer (some p2), .pointer (some p4)]⟩] fun w6 =>
  ∃ (x7 : Fn) (x7a : Array Value) (x7b : Array Value), World.cell? w6 p4 = some (.func x7 x7a x7b) ∧ (CallV Tryd.prog (.func x7 x7a x7b) [.slice l_1 l_1n l_1c] w6 fun (e8 : Ending) (w9 : World) =>
  e8 = .returned (.tuple ⟨[]⟩) ∧ (Calls Tryd.prog 49 ⟨[.pointer (some p2)]⟩ w9 fun (e10 : Ending) (w11 : World) =>
  ∃ (x12 : List UInt8), e10 = .returned (.string ⟨⟨x12⟩⟩) ∧ (R (.returned (.string ⟨⟨x12⟩⟩)) w11)))
set_option maxRecDepth 100000 in
theorem e_transcript_marked (l_1 : Option Addr) (l_1n : Nat) (l_1c : Nat) (R : Ending → World → Prop) (w : World) : fnV Tryd.prog Tryd.f47 an_transcript_marked [.slice l_1 l_1n l_1c] R w = sh_transcript_marked l_1 l_1n l_1c R w := by kernel_rfl
theorem c_transcript_marked {l_1 : Option Addr} {l_1n : Nat} {l_1c : Nat} {R : Ending → World → Prop} {w : World} (h : sh_transcript_marked l_1 l_1n l_1c R w) : Calls Tryd.prog F_transcript_marked ⟨[.slice l_1 l_1n l_1c]⟩ w R := calls_of_fnV Tryd.func47 (by rw [e_transcript_marked]; exact h)

def an_strings_Builder_WriteString : Ann := .two (.leaf) (.two (.leaf) (.two (.leaf) (.two (.leaf) (.leaf))))
def sh_strings_Builder_WriteString (b_1 : Option Addr) (s_2 : List UInt8) (R : Ending → World → Prop) (w : World) : Prop :=
  Calls Tryd.prog 74 ⟨[.pointer b_1]⟩ w fun (e3 : Ending) (w4 : World) =>
  e3 = .returned (.tuple ⟨[]⟩) ∧ (dr b_1 fun p5 =>
  ∃ (x6 : Option Addr) (x6n : Nat) (x6c : Nat), World.cell? w4 (p5.add 1) = some (.slice x6 x6n x6c) ∧ (app Tryd.prog [74, 9] 74 (.slice x6 x6n x6c) (.string ⟨⟨s_2⟩⟩) w4 fun a7 a7n a7c w8 =>
  dr b_1 fun p9 =>
  stL w8 (p9.add 1) 0 [.slice a7 a7n a7c] fun w10 =>
  R (.returned (.tuple ⟨[.int .i64 ((List.length s_2 : Int)), .nilIface]⟩)) w10))
set_option maxRecDepth 100000 in
theorem e_strings_Builder_WriteString (b_1 : Option Addr) (s_2 : List UInt8) (R : Ending → World → Prop) (w : World) : fnV Tryd.prog Tryd.f48 an_strings_Builder_WriteString [.pointer b_1, .string ⟨⟨s_2⟩⟩] R w = sh_strings_Builder_WriteString b_1 s_2 R w := by kernel_rfl
theorem c_strings_Builder_WriteString {b_1 : Option Addr} {s_2 : List UInt8} {R : Ending → World → Prop} {w : World} (h : sh_strings_Builder_WriteString b_1 s_2 R w) : Calls Tryd.prog F_strings_Builder_WriteString ⟨[.pointer b_1, .string ⟨⟨s_2⟩⟩]⟩ w R := calls_of_fnV Tryd.func48 (by rw [e_strings_Builder_WriteString]; exact h)

def an_hands_check : Ann := .two (.leaf) (.two (.one (.two (.leaf) (.two (.two (.leaf) (.leaf)) (.two (.leaf) (.two (.two (.leaf) (.leaf)) (.leaf)))))) (.two (.leaf) (.leaf)))
def sh_hands_check (l_1 : Option Addr) (l_1n : Nat) (l_1c : Nat) (hand_2 : Int) (R : Ending → World → Prop) (w : World) : Prop :=
  Calls Tryd.prog 22 ⟨[.slice l_1 l_1n l_1c]⟩ w fun (e3 : Ending) (w4 : World) =>
  ∃ (x5 : Int), e3 = .returned (.int .i64 x5) ∧ (br (decide ((x5 : Int) ≠ 0)) (R (.returned (.int .i64 1)) w4) (br (decide ((hand_2 : Int) < 1)) (R (.returned (.int .i64 13)) w4) (br (decide ((8 : Int) < hand_2)) (R (.returned (.int .i64 13)) w4) (R (.returned (.int .i64 0)) w4))))
set_option maxRecDepth 100000 in
theorem e_hands_check (l_1 : Option Addr) (l_1n : Nat) (l_1c : Nat) (hand_2 : Int) (R : Ending → World → Prop) (w : World) : fnV Tryd.prog Tryd.f51 an_hands_check [.slice l_1 l_1n l_1c, .int .i64 hand_2] R w = sh_hands_check l_1 l_1n l_1c hand_2 R w := by kernel_rfl
theorem c_hands_check {l_1 : Option Addr} {l_1n : Nat} {l_1c : Nat} {hand_2 : Int} {R : Ending → World → Prop} {w : World} (h : sh_hands_check l_1 l_1n l_1c hand_2 R w) : Calls Tryd.prog F_hands_check ⟨[.slice l_1 l_1n l_1c, .int .i64 hand_2]⟩ w R := calls_of_fnV Tryd.func51 (by rw [e_hands_check]; exact h)

def an_hands_touches : Ann := .two (.leaf) (.two (.leaf) (.leaf))
def sh_hands_touches (l_1 : Option Addr) (l_1n : Nat) (l_1c : Nat) (hand_2 : Int) (R : Ending → World → Prop) (w : World) : Prop :=
  Calls Tryd.prog 35 ⟨[.slice l_1 l_1n l_1c, .int .i64 (IntKind.i64.wrap (hand_2 - 1))]⟩ w fun (e3 : Ending) (w4 : World) =>
  ∃ (x5 : Option Addr) (x5n : Nat) (x5c : Nat), e3 = .returned (.slice x5 x5n x5c) ∧ (Calls Tryd.prog 35 ⟨[.slice l_1 l_1n l_1c, .int .i64 hand_2]⟩ w4 fun (e6 : Ending) (w7 : World) =>
  ∃ (x8 : Option Addr) (x8n : Nat) (x8c : Nat), e6 = .returned (.slice x8 x8n x8c) ∧ (Calls Tryd.prog 76 ⟨[.slice x5 x5n x5c, .slice x8 x8n x8c]⟩ w7 fun (e9 : Ending) (w10 : World) =>
  ∃ (x11 : Bool), e9 = .returned (.bool x11) ∧ (R (.returned (.bool (!x11))) w10)))
set_option maxRecDepth 100000 in
theorem e_hands_touches (l_1 : Option Addr) (l_1n : Nat) (l_1c : Nat) (hand_2 : Int) (R : Ending → World → Prop) (w : World) : fnV Tryd.prog Tryd.f52 an_hands_touches [.slice l_1 l_1n l_1c, .int .i64 hand_2] R w = sh_hands_touches l_1 l_1n l_1c hand_2 R w := by kernel_rfl
theorem c_hands_touches {l_1 : Option Addr} {l_1n : Nat} {l_1c : Nat} {hand_2 : Int} {R : Ending → World → Prop} {w : World} (h : sh_hands_touches l_1 l_1n l_1c hand_2 R w) : Calls Tryd.prog F_hands_touches ⟨[.slice l_1 l_1n l_1c, .int .i64 hand_2]⟩ w R := calls_of_fnV Tryd.func52 (by rw [e_hands_touches]; exact h)

def an_editdistance_Script : Ann := .two (.leaf) (.two (.two (.leaf) (.two (.two (.leaf) (.leaf)) (.leaf))) (.two (.leaf) (.two (.two (.leaf) (.one (.loop 87112285931760246646623899502532653744512 [(23, .one (.int .i64))] (.two (.leaf) (.two (.two (.leaf) (.leaf)) (.two (.one (.two (.leaf) (.two (.leaf) (.two (.leaf) (.one (.loop 43556142965880123323311949750991453159680 [(38, .one (.int .i64))] (.two (.leaf) (.two (.two (.leaf) (.leaf)) (.two (.one (.two (.leaf) (.one (.cut 2398962173297779768557568 [(74, .one (.bool))] (.leaf) (.two (.leaf) (.two (.leaf) (.two (.leaf) (.leaf)))))))) (.leaf)))))))))) (.leaf))))))) (.two (.leaf) (.cut 948568795032094272909893509191171341133900602094995740364589904293321825348226560 [(9, .one (.slice))] (.two (.leaf) (.one (.loop 948568795032094272909893509191171341132593917806019336664890545800783835416235520 [(9, .one (.slice)), (10, .one (.int .i64)), (11, .one (.int .i64))] (.cut 87809184219214328619796890698552923429797888 [] (.two (.leaf) (.two (.leaf) (.leaf))) (.one (.one (.cut 50216813882728070701353589656110410120639772800798292967424 [(158, .one (.bool))] (.leaf) (.two (.leaf) (.cut 107839785865133537049172922577097476523967276429060793033018023346176 [(199, .one (.bool))] (.leaf) (.two (.two (.leaf) (.leaf)) (.cut 7410691944341171728724213457258525359690763191117099222906327254900239004336128 [(240, .one (.bool))] (.leaf) (.two (.two (.leaf) (.leaf)) (.two (.leaf) (.leaf)))))))))))))) (.two (.leaf) (.two (.leaf) (.leaf))))))))
def sh_editdistance_Script (a_1 : List UInt8) (b_2 : List UInt8) (R : Ending → World → Prop) (w : World) : Prop :=
  Calls Tryd.prog 54 ⟨[.int .i64 ((List.length a_1 : Int)), .int .i64 ((List.length b_2 : Int))]⟩ w fun (e3 : Ending) (w4 : World) =>
  ∃ (x5 : Bool), e3 = .returned (.bool x5) ∧ (br x5 (R (.returned (.tuple ⟨[.slice none 0 0, .int .i64 4]⟩)) w4) (mks w4 43 24 [.slice none 0 0] (IntKind.i64.wrap (((List.length a_1 : Int)) + 1)) (IntKind.i64.wrap (((List.length a_1 : Int)) + 1)) fun p6 w7 =>
  ∃ (I8 : Int → World → Nat → Prop), (∃ m12 : Nat, I8 0 w7 m12) ∧ ∀ (t23_9 : Int) (w10 : World) (m11 : Nat), I8 t23_9 w10 m11 → ∀ _ : Env, (br (decide ((t23_9 : Int) < (((Int.toNat (IntKind.i64.wrap (((List.length a_1 : Int)) + 1))) : Int)))) (mks w10 3 8 [.int .i64 0] (IntKind.i64.wrap (((List.length b_2 : Int)) + 1)) (IntKind.i64.wrap (((List.length b_2 : Int)) + 1)) fun p13 w14 =>
  idx (some p6) (Int.toNat (IntKind.i64.wrap (((List.length a_1 : Int)) + 1))) t23_9 1 fun p15 =>
  stL w14 p15 0 [.slice (some p13) (Int.toNat (IntKind.i64.wrap (((List.length b_2 : Int)) + 1))) (Int.toNat (IntKind.i64.wrap (((List.length b_2 : Int)) + 1)))] fun w16 =>
  idx (some p6) (Int.toNat (IntKind.i64.wrap (((List.length a_1 : Int)) + 1))) t23_9 1 fun p17 =>
  ∃ (x18 : Option Addr) (x18n : Nat) (x18c : Nat), World.cell? w16 p17 = some (.slice x18 x18n x18c) ∧ (∃ (I19 : Int → World → Nat → Prop), (∃ m23 : Nat, I19 0 w16 m23) ∧ ∀ (t38_20 : Int) (w21 : World) (m22 : Nat), I19 t38_20 w21 m22 → ∀ _ : Env, (br (decide ((t38_20 : Int) < ((x18n : Int)))) (∀ (K24 : Bool → World → Prop), (∀ (t74_25 : Bool) (w26 : World), (∀ _ : Env, (br t74_25 (idx (some p6) (Int.toNat (IntKind.i64.wrap (((List.length a_1 : Int)) + 1))) t23_9 1 fun p27 =>
  ∃ (x28 : Option Addr) (x28n : Nat) (x28c : Nat), World.cell? w26 p27 = some (.slice x28 x28n x28c) ∧ (idx x28 x28n t38_20 1 fun p29 =>
  stL w26 p29 0 [.int .i64 (IntKind.i64.wrap (t23_9 + t38_20))] fun w30 =>
  ∃ m31 : Nat, m31 < m22 ∧ I19 (IntKind.i64.wrap (t38_20 + 1)) w30 m31)) (drw w26 fun w32 =>
  sidx a_1 (IntKind.i64.wrap (t23_9 - 1)) fun b33 =>
  sidx b_2 (IntKind.i64.wrap (t38_20 - 1)) fun b34 =>
  br (decide ((((b33.toNat : Int)) : Int) = ((b34.toNat : Int)))) (drw w32 fun w35 =>
  idx (some p6) (Int.toNat (IntKind.i64.wrap (((List.length a_1 : Int)) + 1))) t23_9 1 fun p36 =>
  ∃ (x37 : Option Addr) (x37n : Nat) (x37c : Nat), World.cell? w35 p36 = some (.slice x37 x37n x37c) ∧ (idx (some p6) (Int.toNat (IntKind.i64.wrap (((List.length a_1 : Int)) + 1))) (IntKind.i64.wrap (t23_9 - 1)) 1 fun p38 =>
  ∃ (x39 : Option Addr) (x39n : Nat) (x39c : Nat), World.cell? w35 p38 = some (.slice x39 x39n x39c) ∧ (idx x39 x39n (IntKind.i64.wrap (t38_20 - 1)) 1 fun p40 =>
  ∃ (x41 : Int), World.cell? w35 p40 = some (.int .i64 x41) ∧ (idx (some p6) (Int.toNat (IntKind.i64.wrap (((List.length a_1 : Int)) + 1))) (IntKind.i64.wrap (t23_9 - 1)) 1 fun p42 =>
  ∃ (x43 : Option Addr) (x43n : Nat) (x43c : Nat), World.cell? w35 p42 = some (.slice x43 x43n x43c) ∧ (idx x43 x43n t38_20 1 fun p44 =>
  ∃ (x45 : Int), World.cell? w35 p44 = some (.int .i64 x45) ∧ (idx (some p6) (Int.toNat (IntKind.i64.wrap (((List.length a_1 : Int)) + 1))) t23_9 1 fun p46 =>
  ∃ (x47 : Option Addr) (x47n : Nat) (x47c : Nat), World.cell? w35 p46 = some (.slice x47 x47n x47c) ∧ (idx x47 x47n (IntKind.i64.wrap (t38_20 - 1)) 1 fun p48 =>
  ∃ (x49 : Int), World.cell? w35 p48 = some (.int .i64 x49) ∧ (idx x37 x37n t38_20 1 fun p50 =>
  (stL w35 p50 0 [.int .i64 ((min (min x41 (IntKind.i64.wrap (x45 + 1))) (IntKind.i64.wrap (x49 + 1))))] fun w51 =>
  ∃ m52 : Nat, m52 < m22 ∧ I19 (IntKind.i64.wrap (t38_20 + 1)) w51 m52) ∧ True)))))))) (drw w32 fun w53 =>
  idx (some p6) (Int.toNat (IntKind.i64.wrap (((List.length a_1 : Int)) + 1))) t23_9 1 fun p54 =>
  ∃ (x55 : Option Addr) (x55n : Nat) (x55c : Nat), World.cell? w53 p54 = some (.slice x55 x55n x55c) ∧ (idx (some p6) (Int.toNat (IntKind.i64.wrap (((List.length a_1 : Int)) + 1))) (IntKind.i64.wrap (t23_9 - 1)) 1 fun p56 =>
  ∃ (x57 : Option Addr) (x57n : Nat) (x57c : Nat), World.cell? w53 p56 = some (.slice x57 x57n x57c) ∧ (idx x57 x57n (IntKind.i64.wrap (t38_20 - 1)) 1 fun p58 =>
  ∃ (x59 : Int), World.cell? w53 p58 = some (.int .i64 x59) ∧ (idx (some p6) (Int.toNat (IntKind.i64.wrap (((List.length a_1 : Int)) + 1))) (IntKind.i64.wrap (t23_9 - 1)) 1 fun p60 =>
  ∃ (x61 : Option Addr) (x61n : Nat) (x61c : Nat), World.cell? w53 p60 = some (.slice x61 x61n x61c) ∧ (idx x61 x61n t38_20 1 fun p62 =>
  ∃ (x63 : Int), World.cell? w53 p62 = some (.int .i64 x63) ∧ (idx (some p6) (Int.toNat (IntKind.i64.wrap (((List.length a_1 : Int)) + 1))) t23_9 1 fun p64 =>
  ∃ (x65 : Option Addr) (x65n : Nat) (x65c : Nat), World.cell? w53 p64 = some (.slice x65 x65n x65c) ∧ (idx x65 x65n (IntKind.i64.wrap (t38_20 - 1)) 1 fun p66 =>
  ∃ (x67 : Int), World.cell? w53 p66 = some (.int .i64 x67) ∧ (idx x55 x55n t38_20 1 fun p68 =>
  (stL w53 p68 0 [.int .i64 (IntKind.i64.wrap (1 + ((min (min x59 x63) x67))))] fun w69 =>
  ∃ m70 : Nat, m70 < m22 ∧ I19 (IntKind.i64.wrap (t38_20 + 1)) w69 m70) ∧ True))))))))))) → K24 t74_25 w26) → (br (decide ((t23_9 : Int) = 0)) (K24 true w21) (K24 (decide ((t38_20 : Int) = 0)) w21))) (∃ m71 : Nat, m71 < m11 ∧ I8 (IntKind.i64.wrap (t23_9 + 1)) w21 m71)))) (∀ (K72 : Option Addr → Nat → Nat → World → Prop), (∀ (out_73 : Option Addr) (out_73n : Nat) (out_73c : Nat) (w74 : World), (∀ _ : Env, (Calls Tryd.prog 77 ⟨[.slice out_73 out_73n out_73c]⟩ w74 fun (e75 : Ending) (w76 : World) =>
  e75 = .returned (.tuple ⟨[]⟩) ∧ (R (.returned (.tuple ⟨[.slice out_73 out_73n out_73c, .int .i64 0]⟩)) w76))) → K72 out_73 out_73n out_73c w74) → (∃ (I77 : Option Addr → Nat → Nat → Int → Int → World → Nat → Prop), (∃ m83 : Nat, I77 none 0 0 ((List.length a_1 : Int)) ((List.length b_2 : Int)) w10 m83) ∧ ∀ (out_78 : Option Addr) (out_78n : Nat) (out_78c : Nat) (i_79 : Int) (k_80 : Int) (w81 : World) (m82 : Nat), I77 out_78 out_78n out_78c i_79 k_80 w81 m82 → ∀ _ : Env, (∀ (K84 : World → Prop), (∀  (w85 : World), (∀ _ : Env, (∀ (K86 : Bool → World → Prop), (∀ (t158_87 : Bool) (w88 : World), (∀ _ : Env, (br t158_87 (∃ m89 : Nat, m89 < m82 ∧ I77 out_78 out_78n out_78c (IntKind.i64.wrap (i_79 - 1)) (IntKind.i64.wrap (k_80 - 1)) w88 m89) (∀ (K90 : Bool → World → Prop), (∀ (t199_91 : Bool) (w92 : World), (∀ _ : Env, (br t199_91 (ssl b_2 (IntKind.i64.wrap (k_80 - 1)) (IntKind.i64.wrap ((IntKind.i64.wrap (k_80 - 1)) + 1)) fun s93 =>
  al w92 85 [.int .i64 (IntKind.i64.wrap (i_79 - 1)), .int .i64 1, .string ⟨⟨s93⟩⟩] fun p94 w95 =>
  app Tryd.prog [48, 48] 48 (.slice out_78 out_78n out_78c) (.slice (some p94) 1 1) w95 fun a96 a96n a96c w97 =>
  ∃ m98 : Nat, m98 < m82 ∧ I77 a96 a96n a96c (IntKind.i64.wrap (i_79 - 1)) (IntKind.i64.wrap (k_80 - 1)) w97 m98) (∀ (K99 : Bool → World → Prop), (∀ (t240_100 : Bool) (w101 : World), (∀ _ : Env, (br t240_100 (al w101 85 [.int .i64 (IntKind.i64.wrap (i_79 - 1)), .int .i64 1, .string ⟨⟨[]⟩⟩] fun p102 w103 =>
  app Tryd.prog [48, 48] 48 (.slice out_78 out_78n out_78c) (.slice (some p102) 1 1) w103 fun a104 a104n a104c w105 =>
  ∃ m106 : Nat, m106 < m82 ∧ I77 a104 a104n a104c (IntKind.i64.wrap (i_79 - 1)) k_80 w105 m106) (ssl b_2 (IntKind.i64.wrap (k_80 - 1)) (IntKind.i64.wrap ((IntKind.i64.wrap (k_80 - 1)) + 1)) fun s107 =>
  al w101 85 [.int .i64 i_79, .int .i64 0, .string ⟨⟨s107⟩⟩] fun p108 w109 =>
  app Tryd.prog [48, 48] 48 (.slice out_78 out_78n out_78c) (.slice (some p108) 1 1) w109 fun a110 a110n a110c w111 =>
  ∃ m112 : Nat, m112 < m82 ∧ I77 a110 a110n a110c i_79 (IntKind.i64.wrap (k_80 - 1)) w111 m112))) → K99 t240_100 w101) → (drw w92 fun w113 =>
  br (decide ((0 : Int) < i_79)) (idx (some p6) (Int.toNat (IntKind.i64.wrap (((List.length a_1 : Int)) + 1))) i_79 1 fun p114 =>
  ∃ (x115 : Option Addr) (x115n : Nat) (x115c : Nat), World.cell? w113 p114 = some (.slice x115 x115n x115c) ∧ (idx x115 x115n k_80 1 fun p116 =>
  ∃ (x117 : Int), World.cell? w113 p116 = some (.int .i64 x117) ∧ (idx (some p6) (Int.toNat (IntKind.i64.wrap (((List.length a_1 : Int)) + 1))) (IntKind.i64.wrap (i_79 - 1)) 1 fun p118 =>
  ∃ (x119 : Option Addr) (x119n : Nat) (x119c : Nat), World.cell? w113 p118 = some (.slice x119 x119n x119c) ∧ (idx x119 x119n k_80 1 fun p120 =>
  ∃ (x121 : Int), World.cell? w113 p120 = some (.int .i64 x121) ∧ (K99 (decide ((x117 : Int) = (IntKind.i64.wrap (x121 + 1)))) w113))))) (K99 false w113))))) → K90 t199_91 w92) → (drw w88 fun w122 =>
  br (decide ((0 : Int) < i_79)) (br (decide ((0 : Int) < k_80)) (idx (some p6) (Int.toNat (IntKind.i64.wrap (((List.length a_1 : Int)) + 1))) i_79 1 fun p123 =>
  ∃ (x124 : Option Addr) (x124n : Nat) (x124c : Nat), World.cell? w122 p123 = some (.slice x124 x124n x124c) ∧ (idx x124 x124n k_80 1 fun p125 =>
  ∃ (x126 : Int), World.cell? w122 p125 = some (.int .i64 x126) ∧ (idx (some p6) (Int.toNat (IntKind.i64.wrap (((List.length a_1 : Int)) + 1))) (IntKind.i64.wrap (i_79 - 1)) 1 fun p127 =>
  ∃ (x128 : Option Addr) (x128n : Nat) (x128c : Nat), World.cell? w122 p127 = some (.slice x128 x128n x128c) ∧ (idx x128 x128n (IntKind.i64.wrap (k_80 - 1)) 1 fun p129 =>
  ∃ (x130 : Int), World.cell? w122 p129 = some (.int .i64 x130) ∧ (K90 (decide ((x126 : Int) = (IntKind.i64.wrap (x130 + 1)))) w122))))) (K90 false w122)) (K90 false w122))))) → K86 t158_87 w88) → (drw w85 fun w131 =>
  br (decide ((0 : Int) < i_79)) (br (decide ((0 : Int) < k_80)) (sidx a_1 (IntKind.i64.wrap (i_79 - 1)) fun b132 =>
  sidx b_2 (IntKind.i64.wrap (k_80 - 1)) fun b133 =>
  br (decide ((((b132.toNat : Int)) : Int) = ((b133.toNat : Int)))) (idx (some p6) (Int.toNat (IntKind.i64.wrap (((List.length a_1 : Int)) + 1))) i_79 1 fun p134 =>
  ∃ (x135 : Option Addr) (x135n : Nat) (x135c : Nat), World.cell? w131 p134 = some (.slice x135 x135n x135c) ∧ (idx x135 x135n k_80 1 fun p136 =>
  ∃ (x137 : Int), World.cell? w131 p136 = some (.int .i64 x137) ∧ (idx (some p6) (Int.toNat (IntKind.i64.wrap (((List.length a_1 : Int)) + 1))) (IntKind.i64.wrap (i_79 - 1)) 1 fun p138 =>
  ∃ (x139 : Option Addr) (x139n : Nat) (x139c : Nat), World.cell? w131 p138 = some (.slice x139 x139n x139c) ∧ (idx x139 x139n (IntKind.i64.wrap (k_80 - 1)) 1 fun p140 =>
  ∃ (x141 : Int), World.cell? w131 p140 = some (.int .i64 x141) ∧ (K86 (decide ((x137 : Int) = x141)) w131))))) (K86 false w131)) (K86 false w131)) (K86 false w131)))) → K84 w85) → (br (decide ((0 : Int) < i_79)) (K84 w81) (br (decide ((0 : Int) < k_80)) (K84 w81) (K72 out_78 out_78n out_78c w81)))))))))
set_option maxRecDepth 100000 in
theorem e_editdistance_Script (a_1 : List UInt8) (b_2 : List UInt8) (R : Ending → World → Prop) (w : World) : fnV Tryd.prog Tryd.f53 an_editdistance_Script [.string ⟨⟨a_1⟩⟩, .string ⟨⟨b_2⟩⟩] R w = sh_editdistance_Script a_1 b_2 R w := by kernel_rfl
theorem c_editdistance_Script {a_1 : List UInt8} {b_2 : List UInt8} {R : Ending → World → Prop} {w : World} (h : sh_editdistance_Script a_1 b_2 R w) : Calls Tryd.prog F_editdistance_Script ⟨[.string ⟨⟨a_1⟩⟩, .string ⟨⟨b_2⟩⟩]⟩ w R := calls_of_fnV Tryd.func53 (by rw [e_editdistance_Script]; exact h)

def an_editdistance_long : Ann := .two (.leaf) (.two (.leaf) (.leaf))
def sh_editdistance_long (n_1 : Int) (m_2 : Int) (R : Ending → World → Prop) (w : World) : Prop :=
  R (.returned (.bool (decide ((256 : Int) < ((max n_1 m_2)))))) w
set_option maxRecDepth 100000 in
theorem e_editdistance_long (n_1 : Int) (m_2 : Int) (R : Ending → World → Prop) (w : World) : fnV Tryd.prog Tryd.f54 an_editdistance_long [.int .i64 n_1, .int .i64 m_2] R w = sh_editdistance_long n_1 m_2 R w := by kernel_rfl
theorem c_editdistance_long {n_1 : Int} {m_2 : Int} {R : Ending → World → Prop} {w : World} (h : sh_editdistance_long n_1 m_2 R w) : Calls Tryd.prog F_editdistance_long ⟨[.int .i64 n_1, .int .i64 m_2]⟩ w R := calls_of_fnV Tryd.func54 (by rw [e_editdistance_long]; exact h)

def an_editdistance_of : Ann := .two (.leaf) (.two (.leaf) (.leaf))
def sh_editdistance_of (a_1 : List UInt8) (b_2 : List UInt8) (R : Ending → World → Prop) (w : World) : Prop :=
  s2b Tryd.prog w 5 a_1 fun a3 a3n a3c w4 =>
  s2b Tryd.prog w4 5 b_2 fun a5 a5n a5c w6 =>
  Calls Tryd.prog 79 ⟨[.slice a3 a3n a3c, .slice a5 a5n a5c]⟩ w6 fun (e7 : Ending) (w8 : World) =>
  ∃ (x9 : Fn) (x9a : Array Value) (x9b : Array Value), e7 = .returned (.func x9 x9a x9b) ∧ (Calls Tryd.prog 78 ⟨[.int .i64 ((List.length a_1 : Int)), .int .i64 ((List.length b_2 : Int)), .func x9 x9a x9b]⟩ w8 fun (e10 : Ending) (w11 : World) =>
  ∃ (x12 : Int), e10 = .returned (.int .i64 x12) ∧ (R (.returned (.int .i64 x12)) w11))
set_option maxRecDepth 100000 in
theorem e_editdistance_of (a_1 : List UInt8) (b_2 : List UInt8) (R : Ending → World → Prop) (w : World) : fnV Tryd.prog Tryd.f55 an_editdistance_of [.string ⟨⟨a_1⟩⟩, .string ⟨⟨b_2⟩⟩] R w = sh_editdistance_of a_1 b_2 R w := by kernel_rfl
theorem c_editdistance_of {a_1 : List UInt8} {b_2 : List UInt8} {R : Ending → World → Prop} {w : World} (h : sh_editdistance_of a_1 b_2 R w) : Calls Tryd.prog F_editdistance_of ⟨[.string ⟨⟨a_1⟩⟩, .string ⟨⟨b_2⟩⟩]⟩ w R := calls_of_fnV Tryd.func55 (by rw [e_editdistance_of]; exact h)

def an_hands_rebuilt : Ann := .two (.leaf) (.two (.leaf) (.two (.leaf) (.two (.leaf) (.leaf))))
def sh_hands_rebuilt (l_1 : Option Addr) (l_1n : Nat) (l_1c : Nat) (replace_2 : Fn) (replace_2a : Array Value) (replace_2b : Array Value) (R : Ending → World → Prop) (w : World) : Prop :=
  al w 90 [.func replace_2 replace_2a replace_2b] fun p3 w4 =>
  al w4 31 [.nilFunc] fun p5 w6 =>
  stL w6 p5 0 [.func (.func 80) ⟨[]⟩ ⟨[.pointer (some p3), .pointer (some p5)]⟩] fun w7 =>
  ∃ (x8 : Fn) (x8a : Array Value) (x8b : Array Value), World.cell? w7 p5 = some (.func x8 x8a x8b) ∧ (CallV Tryd.prog (.func x8 x8a x8b) [.slice l_1 l_1n l_1c] w7 fun (e9 : Ending) (w10 : World) =>
  ∃ (x11 : Option Addr) (x11n : Nat) (x11c : Nat), e9 = .returned (.slice x11 x11n x11c) ∧ (Calls Tryd.prog 82 ⟨[.slice x11 x11n x11c]⟩ w10 fun (e12 : Ending) (w13 : World) =>
  ∃ (x14 : Option Addr) (x14n : Nat) (x14c : Nat), e12 = .returned (.slice x14 x14n x14c) ∧ (R (.returned (.slice x14 x14n x14c)) w13)))
set_option maxRecDepth 100000 in
theorem e_hands_rebuilt (l_1 : Option Addr) (l_1n : Nat) (l_1c : Nat) (replace_2 : Fn) (replace_2a : Array Value) (replace_2b : Array Value) (R : Ending → World → Prop) (w : World) : fnV Tryd.prog Tryd.f56 an_hands_rebuilt [.slice l_1 l_1n l_1c, .func replace_2 replace_2a replace_2b] R w = sh_hands_rebuilt l_1 l_1n l_1c replace_2 replace_2a replace_2b R w := by kernel_rfl
theorem c_hands_rebuilt {l_1 : Option Addr} {l_1n : Nat} {l_1c : Nat} {replace_2 : Fn} {replace_2a : Array Value} {replace_2b : Array Value} {R : Ending → World → Prop} {w : World} (h : sh_hands_rebuilt l_1 l_1n l_1c replace_2 replace_2a replace_2b R w) : Calls Tryd.prog F_hands_rebuilt ⟨[.slice l_1 l_1n l_1c, .func replace_2 replace_2a replace_2b]⟩ w R := calls_of_fnV Tryd.func56 (by rw [e_hands_rebuilt]; exact h)

def an_hands_resolved_1 : Ann := .two (.leaf) (.two (.two (.leaf) (.two (.two (.leaf) (.leaf)) (.leaf))) (.two (.leaf) (.leaf)))
def sh_hands_resolved_1 (x_1 : Int) (x_2 : List UInt8) (x_3 : Int) (x_4 : Option Addr) (x_4n : Nat) (x_4c : Nat) (parts_5 : Fn) (parts_5a : Array Value) (parts_5b : Array Value) (t2_6 : Option Addr) (R : Ending → World → Prop) (w : World) : Prop :=
  al w 56 [.int .i64 x_1, .string ⟨⟨x_2⟩⟩, .int .i64 x_3, .slice x_4 x_4n x_4c] fun p7 w8 =>
  ∃ (x9 : Int), World.cell? w8 (p7.add 0) = some (.int .i64 x9) ∧ (∃ (x10 : Int), World.cell? w8 (p7.add 2) = some (.int .i64 x10) ∧ (dr t2_6 fun p11 =>
  ∃ (x12 : Int), World.cell? w8 p11 = some (.int .i64 x12) ∧ (br (decide (((decide ((x9 : Int) = 8)) : Bool) = (decide ((x10 : Int) ≤ x12)))) (CallV Tryd.prog (.func parts_5 parts_5a parts_5b) [] w8 fun (e13 : Ending) (w14 : World) =>
  ∃ (x15 : Option Addr) (x15n : Nat) (x15c : Nat), e13 = .returned (.slice x15 x15n x15c) ∧ (R (.returned (.slice x15 x15n x15c)) w14)) (∃ (x16 : Int), World.cell? w8 (p7.add 0) = some (.int .i64 x16) ∧ (∃ (x17 : List UInt8), World.cell? w8 (p7.add 1) = some (.string ⟨⟨x17⟩⟩) ∧ (∃ (x18 : Int), World.cell? w8 (p7.add 2) = some (.int .i64 x18) ∧ (∃ (x19 : Option Addr) (x19n : Nat) (x19c : Nat), World.cell? w8 (p7.add 3) = some (.slice x19 x19n x19c) ∧ (Calls Tryd.prog 58 ⟨[.agg ⟨[.int .i64 x16, .string ⟨⟨x17⟩⟩, .int .i64 x18, .slice x19 x19n x19c]⟩]⟩ w8 fun (e20 : Ending) (w21 : World) =>
  ∃ (x22 : Option Addr) (x22n : Nat) (x22c : Nat), e20 = .returned (.slice x22 x22n x22c) ∧ (R (.returned (.slice x22 x22n x22c)) w21)))))))))
set_option maxRecDepth 100000 in
theorem e_hands_resolved_1 (x_1 : Int) (x_2 : List UInt8) (x_3 : Int) (x_4 : Option Addr) (x_4n : Nat) (x_4c : Nat) (parts_5 : Fn) (parts_5a : Array Value) (parts_5b : Array Value) (t2_6 : Option Addr) (R : Ending → World → Prop) (w : World) : fnV Tryd.prog Tryd.f57 an_hands_resolved_1 [.agg ⟨[.int .i64 x_1, .string ⟨⟨x_2⟩⟩, .int .i64 x_3, .slice x_4 x_4n x_4c]⟩, .func parts_5 parts_5a parts_5b, .pointer t2_6] R w = sh_hands_resolved_1 x_1 x_2 x_3 x_4 x_4n x_4c parts_5 parts_5a parts_5b t2_6 R w := by kernel_rfl
theorem c_hands_resolved_1 {x_1 : Int} {x_2 : List UInt8} {x_3 : Int} {x_4 : Option Addr} {x_4n : Nat} {x_4c : Nat} {parts_5 : Fn} {parts_5a : Array Value} {parts_5b : Array Value} {t2_6 : Option Addr} {R : Ending → World → Prop} {w : World} (h : sh_hands_resolved_1 x_1 x_2 x_3 x_4 x_4n x_4c parts_5 parts_5a parts_5b t2_6 R w) : Calls Tryd.prog F_hands_resolved_1 ⟨[.agg ⟨[.int .i64 x_1, .string ⟨⟨x_2⟩⟩, .int .i64 x_3, .slice x_4 x_4n x_4c]⟩, .func parts_5 parts_5a parts_5b, .pointer t2_6]⟩ w R := calls_of_fnV Tryd.func57 (by rw [e_hands_resolved_1]; exact h)

def an_hands_breaks : Ann := .two (.leaf) (.two (.leaf) (.two (.two (.leaf) (.one (.rf [2, 3, 7] 0))) (.two (.leaf) (.leaf))))
def sh_hands_breaks (x_1 : Int) (x_2 : List UInt8) (x_3 : Int) (x_4 : Option Addr) (x_4n : Nat) (x_4c : Nat) (R : Ending → World → Prop) (w : World) : Prop :=
  al w 56 [.int .i64 x_1, .string ⟨⟨x_2⟩⟩, .int .i64 x_3, .slice x_4 x_4n x_4c] fun p5 w6 =>
  al w6 22 [.slice none 0 0] fun p7 w8 =>
  ∃ (x9 : Option Addr) (x9n : Nat) (x9c : Nat), World.cell? w8 (p5.add 3) = some (.slice x9 x9n x9c) ∧ (Calls Tryd.prog 42 ⟨[.slice x9 x9n x9c]⟩ w8 fun (e10 : Ending) (w11 : World) =>
  ∃ (x12 : Fn) (x12a : Array Value) (x12b : Array Value), e10 = .returned (.func x12 x12a x12b) ∧ (∀ base13 : Env, RFw Tryd.prog none 29 (cdAt Tryd.f58 [1, 1, 0, 1, 2]) (upd (upd (upd base13 7 (.func x12 x12a x12b)) 3 (.pointer (some p7))) 2 (.slice none 0 0)) [] w11 0 (fun ds14 w15 =>
  ∃ (x18 : Option Addr) (x18n : Nat) (x18c : Nat), World.cell? w15 p7 = some (.slice x18 x18n x18c) ∧ (retD ds14 w15 fun w19 =>
  R (.returned (.slice x18 x18n x18c)) w19)) (fun ds14 w15 =>
  retD ds14 w15 fun w20 =>
  R (.returned (.slice none 0 0)) w20) (fun ds14 w15 =>
  ∃ (x16 : Option Addr) (x16n : Nat) (x16c : Nat), World.cell? w15 p7 = some (.slice x16 x16n x16c) ∧ (retD ds14 w15 fun w17 =>
  R (.returned (.slice x16 x16n x16c)) w17))))
set_option maxRecDepth 100000 in
theorem e_hands_breaks (x_1 : Int) (x_2 : List UInt8) (x_3 : Int) (x_4 : Option Addr) (x_4n : Nat) (x_4c : Nat) (R : Ending → World → Prop) (w : World) : fnV Tryd.prog Tryd.f58 an_hands_breaks [.agg ⟨[.int .i64 x_1, .string ⟨⟨x_2⟩⟩, .int .i64 x_3, .slice x_4 x_4n x_4c]⟩] R w = sh_hands_breaks x_1 x_2 x_3 x_4 x_4n x_4c R w := by kernel_rfl
theorem c_hands_breaks {x_1 : Int} {x_2 : List UInt8} {x_3 : Int} {x_4 : Option Addr} {x_4n : Nat} {x_4c : Nat} {R : Ending → World → Prop} {w : World} (h : sh_hands_breaks x_1 x_2 x_3 x_4 x_4n x_4c R w) : Calls Tryd.prog F_hands_breaks ⟨[.agg ⟨[.int .i64 x_1, .string ⟨⟨x_2⟩⟩, .int .i64 x_3, .slice x_4 x_4n x_4c]⟩]⟩ w R := calls_of_fnV Tryd.func58 (by rw [e_hands_breaks]; exact h)
def anA_hands_breaks_1 : Ann := .leaf
def anB_hands_breaks_1 : Ann := .one (.cut 4193792 [(21, .one (.bool))] (.leaf) (.two (.leaf) (.leaf)))
def rf_hands_breaks_1 (t2_21 : Option Addr) (t2_21n : Nat) (t2_21c : Nat) (out_22 : Option Addr) (t7_23 : Fn) (t7_23a : Array Value) (t7_23b : Array Value) (t8_24 : Int) (t8_25 : List UInt8) (t8_26 : Int) (t8_27 : Option Addr) (t8_27n : Nat) (t8_27c : Nat) (l : Nat) (Kn Kr Kx : World → World → Prop) (w : World) : Prop :=
  al w 56 [.int .i64 0, .string ⟨⟨[]⟩⟩, .int .i64 0, .slice none 0 0] fun p29 w30 =>
  stL w30 p29 0 [.int .i64 t8_24, .string ⟨⟨t8_25⟩⟩, .int .i64 t8_26, .slice t8_27 t8_27n t8_27c] fun w31 =>
  Ext w w31 ∧ ∀ w28 : World, Upd l w31 w28 → (∀ (K32 : Bool → World → Prop), (∀ (t21_33 : Bool) (w34 : World), (∀ _ : Env, (br t21_33 (drw w34 fun w35 =>
  dr out_22 fun p36 =>
  ∃ (x37 : Option Addr) (x37n : Nat) (x37c : Nat), World.cell? w35 p36 = some (.slice x37 x37n x37c) ∧ (∃ (x38 : Int), World.cell? w35 (p29.add 0) = some (.int .i64 x38) ∧ (∃ (x39 : List UInt8), World.cell? w35 (p29.add 1) = some (.string ⟨⟨x39⟩⟩) ∧ (∃ (x40 : Int), World.cell? w35 (p29.add 2) = some (.int .i64 x40) ∧ (∃ (x41 : Option Addr) (x41n : Nat) (x41c : Nat), World.cell? w35 (p29.add 3) = some (.slice x41 x41n x41c) ∧ ((al w35 56 [.int .i64 0, .string ⟨⟨[]⟩⟩, .int .i64 0, .slice none 0 0] fun p42 w43 =>
  (app Tryd.prog [22, 22] 22 (.slice x37 x37n x37c) (.slice (some p42) 1 1) w43 fun a44 a44n a44c w45 =>
  idx a44 a44n ((x37n : Int)) 4 fun p46 =>
  (stL w45 p46 0 [.int .i64 x38, .string ⟨⟨x39⟩⟩, .int .i64 x40, .slice x41 x41n x41c] fun w47 =>
  (dr out_22 fun p49 =>
  stL w47 p49 0 [.slice a44 a44n a44c] fun w48 =>
  Kn w28 w48) ∧ True) ∧ (dr out_22 fun p51 =>
  stL w45 p51 0 [.slice a44 a44n a44c] fun w50 =>
  (stL w50 p46 0 [.int .i64 x38, .string ⟨⟨x39⟩⟩, .int .i64 x40, .slice x41 x41n x41c] fun w52 =>
  Kn w28 w52) ∧ True) ∧ True) ∧ True) ∧ True)))))) (Kn w28 w34))) → K32 t21_33 w34) → (∃ (x53 : Int), World.cell? w28 (p29.add 0) = some (.int .i64 x53) ∧ (br (decide ((x53 : Int) = 2)) (K32 true w28) (∃ (x54 : Int), World.cell? w28 (p29.add 0) = some (.int .i64 x54) ∧ (br (decide ((x54 : Int) = 3)) (K32 true w28) (∃ (x55 : Int), World.cell? w28 (p29.add 0) = some (.int .i64 x55) ∧ (K32 (decide ((x55 : Int) = 4)) w28)))))))
set_option maxRecDepth 100000 in
theorem er_hands_breaks_1 (base : Env) (t2_21 : Option Addr) (t2_21n : Nat) (t2_21c : Nat) (out_22 : Option Addr) (t7_23 : Fn) (t7_23a : Array Value) (t7_23b : Array Value) (t8_24 : Int) (t8_25 : List UInt8) (t8_26 : Int) (t8_27 : Option Addr) (t8_27n : Nat) (t8_27c : Nat) (l : Nat) (Kn Kr Kx : World → World → Prop) (w : World) : fragV Tryd.prog 29 anA_hands_breaks_1 anB_hands_breaks_1 (cdAt Tryd.f58 [1, 1, 0, 1, 2, 5]) (cdAt Tryd.f58 [1, 1, 0, 1, 2, 6]) l 0 Kn Kr Kx (updPs [8] [.agg ⟨[.int .i64 t8_24, .string ⟨⟨t8_25⟩⟩, .int .i64 t8_26, .slice t8_27 t8_27n t8_27c]⟩] (upd (upd (upd base 7 (.func t7_23 t7_23a t7_23b)) 3 (.pointer out_22)) 2 (.slice t2_21 t2_21n t2_21c))) w = rf_hands_breaks_1 t2_21 t2_21n t2_21c out_22 t7_23 t7_23a t7_23b t8_24 t8_25 t8_26 t8_27 t8_27n t8_27c l Kn Kr Kx w := by kernel_rfl
theorem cd_hands_breaks_1 : cdAt Tryd.f58 [1, 1, 0, 1, 2] = .rangeFunc (Operand.tmp 7) #[8] (cdAt Tryd.f58 [1, 1, 0, 1, 2, 5]) (cdAt Tryd.f58 [1, 1, 0, 1, 2, 6]) := by kernel_rfl

def an_ref10_Check : Ann := .two (.leaf) (.two (.two (.leaf) (.two (.leaf) (.two (.two (.leaf) (.leaf)) (.leaf)))) (.two (.two (.leaf) (.two (.leaf) (.two (.two (.leaf) (.leaf)) (.leaf)))) (.two (.two (.leaf) (.two (.two (.leaf) (.leaf)) (.leaf))) (.two (.leaf) (.leaf)))))
def sh_ref10_Check (l_1 : Option Addr) (l_1n : Nat) (l_1c : Nat) (R : Ending → World → Prop) (w : World) : Prop :=
  Calls Tryd.prog 83 ⟨[.slice l_1 l_1n l_1c, .int .i64 16, .int .i64 4096]⟩ w fun (e2 : Ending) (w3 : World) =>
  ∃ (x4 : Int) (x5 : Int) (x6 : Bool), e2 = .returned (.tuple ⟨[.int .i64 x4, .int .i64 x5, .bool x6]⟩) ∧ (br (!x6) (R (.returned (.int .i64 4)) w3) (Calls Tryd.prog 84 ⟨[.slice l_1 l_1n l_1c, .bool false]⟩ w3 fun (e7 : Ending) (w8 : World) =>
  ∃ (x9 : Int), e7 = .returned (.int .i64 x9) ∧ (br (decide ((x9 : Int) ≠ 0)) (R (.returned (.int .i64 x9)) w8) (Calls Tryd.prog 85 ⟨[.slice l_1 l_1n l_1c]⟩ w8 fun (e10 : Ending) (w11 : World) =>
  ∃ (x12 : List UInt8), e10 = .returned (.string ⟨⟨x12⟩⟩) ∧ (br (decide ((65536 : Int) < ((List.length x12 : Int)))) (R (.returned (.int .i64 4)) w11) (R (.returned (.int .i64 0)) w11))))))
set_option maxRecDepth 100000 in
theorem e_ref10_Check (l_1 : Option Addr) (l_1n : Nat) (l_1c : Nat) (R : Ending → World → Prop) (w : World) : fnV Tryd.prog Tryd.f59 an_ref10_Check [.slice l_1 l_1n l_1c] R w = sh_ref10_Check l_1 l_1n l_1c R w := by kernel_rfl
theorem c_ref10_Check {l_1 : Option Addr} {l_1n : Nat} {l_1c : Nat} {R : Ending → World → Prop} {w : World} (h : sh_ref10_Check l_1 l_1n l_1c R w) : Calls Tryd.prog F_ref10_Check ⟨[.slice l_1 l_1n l_1c]⟩ w R := calls_of_fnV Tryd.func59 (by rw [e_ref10_Check]; exact h)

def an_ref11_breaks : Ann := .two (.leaf) (.two (.leaf) (.two (.two (.leaf) (.one (.loop 34359738360 [(3, .one (.slice)), (4, .one (.int .i64))] (.two (.two (.leaf) (.two (.leaf) (.leaf))) (.two (.one (.two (.leaf) (.one (.cut 251658240 [(24, .one (.bool))] (.two (.leaf) (.two (.leaf) (.two (.leaf) (.two (.leaf) (.leaf))))) (.two (.leaf) (.leaf)))))) (.leaf)))))) (.two (.leaf) (.leaf))))
def sh_ref11_breaks (l_1 : Option Addr) (l_1n : Nat) (l_1c : Nat) (R : Ending → World → Prop) (w : World) : Prop :=
  ∃ (I2 : Option Addr → Nat → Nat → Int → World → Nat → Prop), (∃ m7 : Nat, I2 none 0 0 0 w m7) ∧ ∀ (out_3 : Option Addr) (out_3n : Nat) (out_3c : Nat) (i_4 : Int) (w5 : World) (m6 : Nat), I2 out_3 out_3n out_3c i_4 w5 m6 → ∀ _ : Env, (br (decide ((i_4 : Int) < ((l_1n : Int)))) (idx l_1 l_1n i_4 4 fun p8 =>
  ∃ (x9 : Int), World.cell? w5 (p8.add 0) = some (.int .i64 x9) ∧ (∀ (K10 : Bool → World → Prop), (∀ (t24_11 : Bool) (w12 : World), (∀ _ : Env, (br t24_11 (idx l_1 l_1n i_4 4 fun p13 =>
  ∃ (x14 : Int), World.cell? w12 (p13.add 0) = some (.int .i64 x14) ∧ (∃ (x15 : List UInt8), World.cell? w12 (p13.add 1) = some (.string ⟨⟨x15⟩⟩) ∧ (∃ (x16 : Int), World.cell? w12 (p13.add 2) = some (.int .i64 x16) ∧ (∃ (x17 : Option Addr) (x17n : Nat) (x17c : Nat), World.cell? w12 (p13.add 3) = some (.slice x17 x17n x17c) ∧ (al w12 56 [.int .i64 x14, .string ⟨⟨x15⟩⟩, .int .i64 x16, .slice x17 x17n x17c] fun p18 w19 =>
  app Tryd.prog [22, 22] 22 (.slice out_3 out_3n out_3c) (.slice (some p18) 1 1) w19 fun a20 a20n a20c w21 =>
  ∃ m22 : Nat, m22 < m6 ∧ I2 a20 a20n a20c (IntKind.i64.wrap (i_4 + 1)) w21 m22))))) (idx l_1 l_1n i_4 4 fun p23 =>
  ∃ (x24 : Option Addr) (x24n : Nat) (x24c : Nat), World.cell? w12 (p23.add 3) = some (.slice x24 x24n x24c) ∧ (Calls Tryd.prog 60 ⟨[.slice x24 x24n x24c]⟩ w12 fun (e25 : Ending) (w26 : World) =>
  ∃ (x27 : Option Addr) (x27n : Nat) (x27c : Nat), e25 = .returned (.slice x27 x27n x27c) ∧ (app Tryd.prog [22, 22] 22 (.slice out_3 out_3n out_3c) (.slice x27 x27n x27c) w26 fun a28 a28n a28c w29 =>
  ∃ m30 : Nat, m30 < m6 ∧ I2 a28 a28n a28c (IntKind.i64.wrap (i_4 + 1)) w29 m30))))) → K10 t24_11 w12) → (br (decide ((x9 : Int) = 2)) (K10 (decide ((x9 : Int) = 2)) w5) (br (decide ((x9 : Int) = 3)) (K10 (decide ((x9 : Int) = 3)) w5) (K10 (decide ((x9 : Int) = 4)) w5))))) (R (.returned (.slice out_3 out_3n out_3c)) w5))
set_option maxRecDepth 100000 in
theorem e_ref11_breaks (l_1 : Option Addr) (l_1n : Nat) (l_1c : Nat) (R : Ending → World → Prop) (w : World) : fnV Tryd.prog Tryd.f60 an_ref11_breaks [.slice l_1 l_1n l_1c] R w = sh_ref11_breaks l_1 l_1n l_1c R w := by kernel_rfl
theorem c_ref11_breaks {l_1 : Option Addr} {l_1n : Nat} {l_1c : Nat} {R : Ending → World → Prop} {w : World} (h : sh_ref11_breaks l_1 l_1n l_1c R w) : Calls Tryd.prog F_ref11_breaks ⟨[.slice l_1 l_1n l_1c]⟩ w R := calls_of_fnV Tryd.func60 (by rw [e_ref11_breaks]; exact h)

def an_ref11_part : Ann := .two (.leaf) (.two (.two (.leaf) (.two (.two (.leaf) (.leaf)) (.leaf))) (.two (.leaf) (.two (.leaf) (.leaf))))
def sh_ref11_part (x_1 : Int) (x_2 : List UInt8) (x_3 : Int) (x_4 : Option Addr) (x_4n : Nat) (x_4c : Nat) (parts_5 : Option Addr) (parts_5n : Nat) (parts_5c : Nat) (R : Ending → World → Prop) (w : World) : Prop :=
  al w 56 [.int .i64 x_1, .string ⟨⟨x_2⟩⟩, .int .i64 x_3, .slice x_4 x_4n x_4c] fun p6 w7 =>
  br (decide ((((parts_5n : Int)) : Int) = 0)) (R (.returned (.slice none 0 0)) w7) (stL w7 (p6.add 3) 0 [.slice parts_5 parts_5n parts_5c] fun w8 =>
  ∃ (x9 : Int), World.cell? w8 (p6.add 0) = some (.int .i64 x9) ∧ (∃ (x10 : List UInt8), World.cell? w8 (p6.add 1) = some (.string ⟨⟨x10⟩⟩) ∧ (∃ (x11 : Int), World.cell? w8 (p6.add 2) = some (.int .i64 x11) ∧ (∃ (x12 : Option Addr) (x12n : Nat) (x12c : Nat), World.cell? w8 (p6.add 3) = some (.slice x12 x12n x12c) ∧ (al w8 56 [.int .i64 x9, .string ⟨⟨x10⟩⟩, .int .i64 x11, .slice x12 x12n x12c] fun p13 w14 =>
  R (.returned (.slice (some p13) 1 1)) w14)))))
set_option maxRecDepth 100000 in
theorem e_ref11_part (x_1 : Int) (x_2 : List UInt8) (x_3 : Int) (x_4 : Option Addr) (x_4n : Nat) (x_4c : Nat) (parts_5 : Option Addr) (parts_5n : Nat) (parts_5c : Nat) (R : Ending → World → Prop) (w : World) : fnV Tryd.prog Tryd.f61 an_ref11_part [.agg ⟨[.int .i64 x_1, .string ⟨⟨x_2⟩⟩, .int .i64 x_3, .slice x_4 x_4n x_4c]⟩, .slice parts_5 parts_5n parts_5c] R w = sh_ref11_part x_1 x_2 x_3 x_4 x_4n x_4c parts_5 parts_5n parts_5c R w := by kernel_rfl
theorem c_ref11_part {x_1 : Int} {x_2 : List UInt8} {x_3 : Int} {x_4 : Option Addr} {x_4n : Nat} {x_4c : Nat} {parts_5 : Option Addr} {parts_5n : Nat} {parts_5c : Nat} {R : Ending → World → Prop} {w : World} (h : sh_ref11_part x_1 x_2 x_3 x_4 x_4n x_4c parts_5 parts_5n parts_5c R w) : Calls Tryd.prog F_ref11_part ⟨[.agg ⟨[.int .i64 x_1, .string ⟨⟨x_2⟩⟩, .int .i64 x_3, .slice x_4 x_4n x_4c]⟩, .slice parts_5 parts_5n parts_5c]⟩ w R := calls_of_fnV Tryd.func61 (by rw [e_ref11_part]; exact h)

def an_hands_advanced_1 : Ann := .two (.leaf) (.two (.one (.two (.leaf) (.two (.two (.two (.leaf) (.two (.leaf) (.two (.two (.leaf) (.leaf)) (.leaf)))) (.two (.leaf) (.leaf))) (.two (.leaf) (.two (.two (.leaf) (.leaf)) (.leaf)))))) (.two (.leaf) (.leaf)))
def sh_hands_advanced_1 (x_1 : Int) (x_2 : List UInt8) (x_3 : Int) (x_4 : Option Addr) (x_4n : Nat) (x_4c : Nat) (parts_5 : Fn) (parts_5a : Array Value) (parts_5b : Array Value) (t2_6 : Option Addr) (R : Ending → World → Prop) (w : World) : Prop :=
  al w 56 [.int .i64 x_1, .string ⟨⟨x_2⟩⟩, .int .i64 x_3, .slice x_4 x_4n x_4c] fun p7 w8 =>
  ∃ (x9 : Int), World.cell? w8 (p7.add 2) = some (.int .i64 x9) ∧ (dr t2_6 fun p10 =>
  ∃ (x11 : Int), World.cell? w8 p10 = some (.int .i64 x11) ∧ (br (decide ((x11 : Int) < x9)) (CallV Tryd.prog (.func parts_5 parts_5a parts_5b) [] w8 fun (e12 : Ending) (w13 : World) =>
  ∃ (x14 : Option Addr) (x14n : Nat) (x14c : Nat), e12 = .returned (.slice x14 x14n x14c) ∧ (stL w13 (p7.add 3) 0 [.slice x14 x14n x14c] fun w15 =>
  ∃ (x16 : Option Addr) (x16n : Nat) (x16c : Nat), World.cell? w15 (p7.add 3) = some (.slice x16 x16n x16c) ∧ (br (decide ((((x16n : Int)) : Int) = 0)) (R (.returned (.slice none 0 0)) w15) (∃ (x17 : Int), World.cell? w15 (p7.add 0) = some (.int .i64 x17) ∧ (∃ (x18 : List UInt8), World.cell? w15 (p7.add 1) = some (.string ⟨⟨x18⟩⟩) ∧ (∃ (x19 : Int), World.cell? w15 (p7.add 2) = some (.int .i64 x19) ∧ (∃ (x20 : Option Addr) (x20n : Nat) (x20c : Nat), World.cell? w15 (p7.add 3) = some (.slice x20 x20n x20c) ∧ (al w15 56 [.int .i64 x17, .string ⟨⟨x18⟩⟩, .int .i64 x19, .slice x20 x20n x20c] fun p21 w22 =>
  R (.returned (.slice (some p21) 1 1)) w22)))))))) (∃ (x23 : Int), World.cell? w8 (p7.add 0) = some (.int .i64 x23) ∧ (br (decide ((x23 : Int) = 8)) (CallV Tryd.prog (.func parts_5 parts_5a parts_5b) [] w8 fun (e24 : Ending) (w25 : World) =>
  ∃ (x26 : Option Addr) (x26n : Nat) (x26c : Nat), e24 = .returned (.slice x26 x26n x26c) ∧ (R (.returned (.slice x26 x26n x26c)) w25)) (∃ (x27 : Int), World.cell? w8 (p7.add 0) = some (.int .i64 x27) ∧ (∃ (x28 : List UInt8), World.cell? w8 (p7.add 1) = some (.string ⟨⟨x28⟩⟩) ∧ (∃ (x29 : Int), World.cell? w8 (p7.add 2) = some (.int .i64 x29) ∧ (∃ (x30 : Option Addr) (x30n : Nat) (x30c : Nat), World.cell? w8 (p7.add 3) = some (.slice x30 x30n x30c) ∧ (Calls Tryd.prog 58 ⟨[.agg ⟨[.int .i64 x27, .string ⟨⟨x28⟩⟩, .int .i64 x29, .slice x30 x30n x30c]⟩]⟩ w8 fun (e31 : Ending) (w32 : World) =>
  ∃ (x33 : Option Addr) (x33n : Nat) (x33c : Nat), e31 = .returned (.slice x33 x33n x33c) ∧ (R (.returned (.slice x33 x33n x33c)) w32))))))))))
set_option maxRecDepth 100000 in
theorem e_hands_advanced_1 (x_1 : Int) (x_2 : List UInt8) (x_3 : Int) (x_4 : Option Addr) (x_4n : Nat) (x_4c : Nat) (parts_5 : Fn) (parts_5a : Array Value) (parts_5b : Array Value) (t2_6 : Option Addr) (R : Ending → World → Prop) (w : World) : fnV Tryd.prog Tryd.f62 an_hands_advanced_1 [.agg ⟨[.int .i64 x_1, .string ⟨⟨x_2⟩⟩, .int .i64 x_3, .slice x_4 x_4n x_4c]⟩, .func parts_5 parts_5a parts_5b, .pointer t2_6] R w = sh_hands_advanced_1 x_1 x_2 x_3 x_4 x_4n x_4c parts_5 parts_5a parts_5b t2_6 R w := by kernel_rfl
theorem c_hands_advanced_1 {x_1 : Int} {x_2 : List UInt8} {x_3 : Int} {x_4 : Option Addr} {x_4n : Nat} {x_4c : Nat} {parts_5 : Fn} {parts_5a : Array Value} {parts_5b : Array Value} {t2_6 : Option Addr} {R : Ending → World → Prop} {w : World} (h : sh_hands_advanced_1 x_1 x_2 x_3 x_4 x_4n x_4c parts_5 parts_5a parts_5b t2_6 R w) : Calls Tryd.prog F_hands_advanced_1 ⟨[.agg ⟨[.int .i64 x_1, .string ⟨⟨x_2⟩⟩, .int .i64 x_3, .slice x_4 x_4n x_4c]⟩, .func parts_5 parts_5a parts_5b, .pointer t2_6]⟩ w R := calls_of_fnV Tryd.func62 (by rw [e_hands_advanced_1]; exact h)

def an_slices_IndexFunc_of_api_Node_api_Node : Ann := .two (.leaf) (.two (.two (.leaf) (.one (.loop 524080 [(8, .one (.int .i64))] (.two (.leaf) (.two (.two (.leaf) (.leaf)) (.two (.one (.two (.leaf) (.two (.leaf) (.two (.two (.leaf) (.leaf)) (.leaf))))) (.leaf))))))) (.two (.leaf) (.leaf)))
def sh_slices_IndexFunc_of_api_Node_api_Node (s_1 : Option Addr) (s_1n : Nat) (s_1c : Nat) (f_2 : Fn) (f_2a : Array Value) (f_2b : Array Value) (R : Ending → World → Prop) (w : World) : Prop :=
  ∃ (I3 : Int → World → Nat → Prop), (∃ m7 : Nat, I3 0 w m7) ∧ ∀ (t8_4 : Int) (w5 : World) (m6 : Nat), I3 t8_4 w5 m6 → ∀ _ : Env, (br (decide ((t8_4 : Int) < ((s_1n : Int)))) (idx s_1 s_1n t8_4 4 fun p8 =>
  ∃ (x9 : Int), World.cell? w5 (p8.add 0) = some (.int .i64 x9) ∧ (∃ (x10 : List UInt8), World.cell? w5 (p8.add 1) = some (.string ⟨⟨x10⟩⟩) ∧ (∃ (x11 : Int), World.cell? w5 (p8.add 2) = some (.int .i64 x11) ∧ (∃ (x12 : Option Addr) (x12n : Nat) (x12c : Nat), World.cell? w5 (p8.add 3) = some (.slice x12 x12n x12c) ∧ (CallV Tryd.prog (.func f_2 f_2a f_2b) [.agg ⟨[.int .i64 x9, .string ⟨⟨x10⟩⟩, .int .i64 x11, .slice x12 x12n x12c]⟩] w5 fun (e13 : Ending) (w14 : World) =>
  ∃ (x15 : Bool), e13 = .returned (.bool x15) ∧ (br x15 (R (.returned (.int .i64 t8_4)) w14) (∃ m16 : Nat, m16 < m6 ∧ I3 (IntKind.i64.wrap (t8_4 + 1)) w14 m16))))))) (R (.returned (.int .i64 ((-1)))) w5))
set_option maxRecDepth 100000 in
theorem e_slices_IndexFunc_of_api_Node_api_Node (s_1 : Option Addr) (s_1n : Nat) (s_1c : Nat) (f_2 : Fn) (f_2a : Array Value) (f_2b : Array Value) (R : Ending → World → Prop) (w : World) : fnV Tryd.prog Tryd.f63 an_slices_IndexFunc_of_api_Node_api_Node [.slice s_1 s_1n s_1c, .func f_2 f_2a f_2b] R w = sh_slices_IndexFunc_of_api_Node_api_Node s_1 s_1n s_1c f_2 f_2a f_2b R w := by kernel_rfl
theorem c_slices_IndexFunc_of_api_Node_api_Node {s_1 : Option Addr} {s_1n : Nat} {s_1c : Nat} {f_2 : Fn} {f_2a : Array Value} {f_2b : Array Value} {R : Ending → World → Prop} {w : World} (h : sh_slices_IndexFunc_of_api_Node_api_Node s_1 s_1n s_1c f_2 f_2a f_2b R w) : Calls Tryd.prog F_slices_IndexFunc_of_api_Node_api_Node ⟨[.slice s_1 s_1n s_1c, .func f_2 f_2a f_2b]⟩ w R := calls_of_fnV Tryd.func63 (by rw [e_slices_IndexFunc_of_api_Node_api_Node]; exact h)

def an_slices_AppendSeq_of_api_Node_api_Node : Ann := .two (.leaf) (.two (.two (.leaf) (.one (.rf [2, 4, 6] 0))) (.two (.leaf) (.leaf)))
def sh_slices_AppendSeq_of_api_Node_api_Node (s_1 : Option Addr) (s_1n : Nat) (s_1c : Nat) (seq_2 : Fn) (seq_2a : Array Value) (seq_2b : Array Value) (R : Ending → World → Prop) (w : World) : Prop :=
  al w 22 [.slice s_1 s_1n s_1c] fun p3 w4 =>
  ∀ base5 : Env, RFw Tryd.prog none 15 (cdAt Tryd.f64 [1, 0, 1, 2]) (upd (upd (upd base5 6 (.func seq_2 seq_2a seq_2b)) 4 (.slice none 0 0)) 2 (.pointer (some p3))) [] w4 0 (fun ds6 w7 =>
  ∃ (x10 : Option Addr) (x10n : Nat) (x10c : Nat), World.cell? w7 p3 = some (.slice x10 x10n x10c) ∧ (retD ds6 w7 fun w11 =>
  R (.returned (.slice x10 x10n x10c)) w11)) (fun ds6 w7 =>
  retD ds6 w7 fun w12 =>
  R (.returned (.slice none 0 0)) w12) (fun ds6 w7 =>
  ∃ (x8 : Option Addr) (x8n : Nat) (x8c : Nat), World.cell? w7 p3 = some (.slice x8 x8n x8c) ∧ (retD ds6 w7 fun w9 =>
  R (.returned (.slice x8 x8n x8c)) w9))
set_option maxRecDepth 100000 in
theorem e_slices_AppendSeq_of_api_Node_api_Node (s_1 : Option Addr) (s_1n : Nat) (s_1c : Nat) (seq_2 : Fn) (seq_2a : Array Value) (seq_2b : Array Value) (R : Ending → World → Prop) (w : World) : fnV Tryd.prog Tryd.f64 an_slices_AppendSeq_of_api_Node_api_Node [.slice s_1 s_1n s_1c, .func seq_2 seq_2a seq_2b] R w = sh_slices_AppendSeq_of_api_Node_api_Node s_1 s_1n s_1c seq_2 seq_2a seq_2b R w := by kernel_rfl
theorem c_slices_AppendSeq_of_api_Node_api_Node {s_1 : Option Addr} {s_1n : Nat} {s_1c : Nat} {seq_2 : Fn} {seq_2a : Array Value} {seq_2b : Array Value} {R : Ending → World → Prop} {w : World} (h : sh_slices_AppendSeq_of_api_Node_api_Node s_1 s_1n s_1c seq_2 seq_2a seq_2b R w) : Calls Tryd.prog F_slices_AppendSeq_of_api_Node_api_Node ⟨[.slice s_1 s_1n s_1c, .func seq_2 seq_2a seq_2b]⟩ w R := calls_of_fnV Tryd.func64 (by rw [e_slices_AppendSeq_of_api_Node_api_Node]; exact h)
def anA_slices_AppendSeq_of_api_Node_api_Node_1 : Ann := .leaf
def anB_slices_AppendSeq_of_api_Node_api_Node_1 : Ann := .one (.leaf)
def rf_slices_AppendSeq_of_api_Node_api_Node_1 (s_13 : Option Addr) (t4_14 : Option Addr) (t4_14n : Nat) (t4_14c : Nat) (t6_15 : Fn) (t6_15a : Array Value) (t6_15b : Array Value) (t7_16 : Int) (t7_17 : List UInt8) (t7_18 : Int) (t7_19 : Option Addr) (t7_19n : Nat) (t7_19c : Nat) (l : Nat) (Kn Kr Kx : World → World → Prop) (w : World) : Prop :=
  al w 56 [.int .i64 0, .string ⟨⟨[]⟩⟩, .int .i64 0, .slice none 0 0] fun p21 w22 =>
  stL w22 p21 0 [.int .i64 t7_16, .string ⟨⟨t7_17⟩⟩, .int .i64 t7_18, .slice t7_19 t7_19n t7_19c] fun w23 =>
  Ext w w23 ∧ ∀ w20 : World, Upd l w23 w20 → (drw w20 fun w24 =>
  dr s_13 fun p25 =>
  ∃ (x26 : Option Addr) (x26n : Nat) (x26c : Nat), World.cell? w24 p25 = some (.slice x26 x26n x26c) ∧ (∃ (x27 : Int), World.cell? w24 (p21.add 0) = some (.int .i64 x27) ∧ (∃ (x28 : List UInt8), World.cell? w24 (p21.add 1) = some (.string ⟨⟨x28⟩⟩) ∧ (∃ (x29 : Int), World.cell? w24 (p21.add 2) = some (.int .i64 x29) ∧ (∃ (x30 : Option Addr) (x30n : Nat) (x30c : Nat), World.cell? w24 (p21.add 3) = some (.slice x30 x30n x30c) ∧ ((al w24 56 [.int .i64 0, .string ⟨⟨[]⟩⟩, .int .i64 0, .slice none 0 0] fun p31 w32 =>
  (app Tryd.prog [22, 22] 22 (.slice x26 x26n x26c) (.slice (some p31) 1 1) w32 fun a33 a33n a33c w34 =>
  idx a33 a33n ((x26n : Int)) 4 fun p35 =>
  (stL w34 p35 0 [.int .i64 x27, .string ⟨⟨x28⟩⟩, .int .i64 x29, .slice x30 x30n x30c] fun w36 =>
  (dr s_13 fun p38 =>
  stL w36 p38 0 [.slice a33 a33n a33c] fun w37 =>
  Kn w20 w37) ∧ True) ∧ (dr s_13 fun p40 =>
  stL w34 p40 0 [.slice a33 a33n a33c] fun w39 =>
  (stL w39 p35 0 [.int .i64 x27, .string ⟨⟨x28⟩⟩, .int .i64 x29, .slice x30 x30n x30c] fun w41 =>
  Kn w20 w41) ∧ True) ∧ True) ∧ True) ∧ True))))))
set_option maxRecDepth 100000 in
theorem er_slices_AppendSeq_of_api_Node_api_Node_1 (base : Env) (s_13 : Option Addr) (t4_14 : Option Addr) (t4_14n : Nat) (t4_14c : Nat) (t6_15 : Fn) (t6_15a : Array Value) (t6_15b : Array Value) (t7_16 : Int) (t7_17 : List UInt8) (t7_18 : Int) (t7_19 : Option Addr) (t7_19n : Nat) (t7_19c : Nat) (l : Nat) (Kn Kr Kx : World → World → Prop) (w : World) : fragV Tryd.prog 15 anA_slices_AppendSeq_of_api_Node_api_Node_1 anB_slices_AppendSeq_of_api_Node_api_Node_1 (cdAt Tryd.f64 [1, 0, 1, 2, 5]) (cdAt Tryd.f64 [1, 0, 1, 2, 6]) l 0 Kn Kr Kx (updPs [7] [.agg ⟨[.int .i64 t7_16, .string ⟨⟨t7_17⟩⟩, .int .i64 t7_18, .slice t7_19 t7_19n t7_19c]⟩] (upd (upd (upd base 6 (.func t6_15 t6_15a t6_15b)) 4 (.slice t4_14 t4_14n t4_14c)) 2 (.pointer s_13))) w = rf_slices_AppendSeq_of_api_Node_api_Node_1 s_13 t4_14 t4_14n t4_14c t6_15 t6_15a t6_15b t7_16 t7_17 t7_18 t7_19 t7_19n t7_19c l Kn Kr Kx w := by kernel_rfl
theorem cd_slices_AppendSeq_of_api_Node_api_Node_1 : cdAt Tryd.f64 [1, 0, 1, 2] = .rangeFunc (Operand.tmp 6) #[7] (cdAt Tryd.f64 [1, 0, 1, 2, 5]) (cdAt Tryd.f64 [1, 0, 1, 2, 6]) := by kernel_rfl

def an_hands_walk_1 : Ann := .two (.leaf) (.two (.leaf) (.two (.leaf) (.leaf)))
def sh_hands_walk_1 (yield_1 : Fn) (yield_1a : Array Value) (yield_1b : Array Value) (t1_2 : Option Addr) (R : Ending → World → Prop) (w : World) : Prop :=
  al w 66 [.func yield_1 yield_1a yield_1b] fun p3 w4 =>
  al w4 29 [.nilFunc] fun p5 w6 =>
  stL w6 p5 0 [.func (.func 66) ⟨[]⟩ ⟨[.pointer (some p3), .pointer (some p5)]⟩] fun w7 =>
  ∃ (x8 : Fn) (x8a : Array Value) (x8b : Array Value), World.cell? w7 p5 = some (.func x8 x8a x8b) ∧ (dr t1_2 fun p9 =>
  ∃ (x10 : Option Addr) (x10n : Nat) (x10c : Nat), World.cell? w7 p9 = some (.slice x10 x10n x10c) ∧ (CallV Tryd.prog (.func x8 x8a x8b) [.slice x10 x10n x10c] w7 fun (e11 : Ending) (w12 : World) =>
  ∃ (x13 : Bool), e11 = .returned (.bool x13) ∧ (R (.returned (.tuple ⟨[]⟩)) w12)))
set_option maxRecDepth 100000 in
theorem e_hands_walk_1 (yield_1 : Fn) (yield_1a : Array Value) (yield_1b : Array Value) (t1_2 : Option Addr) (R : Ending → World → Prop) (w : World) : fnV Tryd.prog Tryd.f65 an_hands_walk_1 [.func yield_1 yield_1a yield_1b, .pointer t1_2] R w = sh_hands_walk_1 yield_1 yield_1a yield_1b t1_2 R w := by kernel_rfl
theorem c_hands_walk_1 {yield_1 : Fn} {yield_1a : Array Value} {yield_1b : Array Value} {t1_2 : Option Addr} {R : Ending → World → Prop} {w : World} (h : sh_hands_walk_1 yield_1 yield_1a yield_1b t1_2 R w) : Calls Tryd.prog F_hands_walk_1 ⟨[.func yield_1 yield_1a yield_1b, .pointer t1_2]⟩ w R := calls_of_fnV Tryd.func65 (by rw [e_hands_walk_1]; exact h)

def an_hands_walk_1_1 : Ann := .two (.leaf) (.two (.two (.leaf) (.one (.loop 33554000 [(9, .one (.int .i64))] (.two (.leaf) (.two (.two (.leaf) (.leaf)) (.two (.one (.two (.leaf) (.two (.leaf) (.two (.two (.leaf) (.leaf)) (.leaf))))) (.leaf))))))) (.two (.leaf) (.leaf)))
def sh_hands_walk_1_1 (l_1 : Option Addr) (l_1n : Nat) (l_1c : Nat) (t1_2 : Option Addr) (t2_3 : Option Addr) (R : Ending → World → Prop) (w : World) : Prop :=
  ∃ (I4 : Int → World → Nat → Prop), (∃ m8 : Nat, I4 0 w m8) ∧ ∀ (t9_5 : Int) (w6 : World) (m7 : Nat), I4 t9_5 w6 m7 → ∀ _ : Env, (br (decide ((t9_5 : Int) < ((l_1n : Int)))) (idx l_1 l_1n t9_5 4 fun p9 =>
  ∃ (x10 : Int), World.cell? w6 (p9.add 0) = some (.int .i64 x10) ∧ (∃ (x11 : List UInt8), World.cell? w6 (p9.add 1) = some (.string ⟨⟨x11⟩⟩) ∧ (∃ (x12 : Int), World.cell? w6 (p9.add 2) = some (.int .i64 x12) ∧ (∃ (x13 : Option Addr) (x13n : Nat) (x13c : Nat), World.cell? w6 (p9.add 3) = some (.slice x13 x13n x13c) ∧ (al w6 56 [.int .i64 0, .string ⟨⟨[]⟩⟩, .int .i64 0, .slice none 0 0] fun p14 w15 =>
  stL w15 p14 0 [.int .i64 x10, .string ⟨⟨x11⟩⟩, .int .i64 x12, .slice x13 x13n x13c] fun w16 =>
  dr t1_2 fun p17 =>
  ∃ (x18 : Fn) (x18a : Array Value) (x18b : Array Value), World.cell? w16 p17 = some (.func x18 x18a x18b) ∧ (∃ (x19 : Int), World.cell? w16 (p14.add 0) = some (.int .i64 x19) ∧ (∃ (x20 : List UInt8), World.cell? w16 (p14.add 1) = some (.string ⟨⟨x20⟩⟩) ∧ (∃ (x21 : Int), World.cell? w16 (p14.add 2) = some (.int .i64 x21) ∧ (∃ (x22 : Option Addr) (x22n : Nat) (x22c : Nat), World.cell? w16 (p14.add 3) = some (.slice x22 x22n x22c) ∧ (CallV Tryd.prog (.func x18 x18a x18b) [.agg ⟨[.int .i64 x19, .string ⟨⟨x20⟩⟩, .int .i64 x21, .slice x22 x22n x22c]⟩] w16 fun (e23 : Ending) (w24 : World) =>
  ∃ (x25 : Bool), e23 = .returned (.bool x25) ∧ (br (!x25) (R (.returned (.bool false)) w24) (dr t2_3 fun p26 =>
  ∃ (x27 : Fn) (x27a : Array Value) (x27b : Array Value), World.cell? w24 p26 = some (.func x27 x27a x27b) ∧ (∃ (x28 : Option Addr) (x28n : Nat) (x28c : Nat), World.cell? w24 (p14.add 3) = some (.slice x28 x28n x28c) ∧ (CallV Tryd.prog (.func x27 x27a x27b) [.slice x28 x28n x28c] w24 fun (e29 : Ending) (w30 : World) =>
  ∃ (x31 : Bool), e29 = .returned (.bool x31) ∧ (br (!x31) (R (.returned (.bool false)) w30) (∃ m32 : Nat, m32 < m7 ∧ I4 (IntKind.i64.wrap (t9_5 + 1)) w30 m32)))))))))))))))) (R (.returned (.bool true)) w6))
set_option maxRecDepth 100000 in
theorem e_hands_walk_1_1 (l_1 : Option Addr) (l_1n : Nat) (l_1c : Nat) (t1_2 : Option Addr) (t2_3 : Option Addr) (R : Ending → World → Prop) (w : World) : fnV Tryd.prog Tryd.f66 an_hands_walk_1_1 [.slice l_1 l_1n l_1c, .pointer t1_2, .pointer t2_3] R w = sh_hands_walk_1_1 l_1 l_1n l_1c t1_2 t2_3 R w := by kernel_rfl
theorem c_hands_walk_1_1 {l_1 : Option Addr} {l_1n : Nat} {l_1c : Nat} {t1_2 : Option Addr} {t2_3 : Option Addr} {R : Ending → World → Prop} {w : World} (h : sh_hands_walk_1_1 l_1 l_1n l_1c t1_2 t2_3 R w) : Calls Tryd.prog F_hands_walk_1_1 ⟨[.slice l_1 l_1n l_1c, .pointer t1_2, .pointer t2_3]⟩ w R := calls_of_fnV Tryd.func66 (by rw [e_hands_walk_1_1]; exact h)

def an_transcript_places_1 : Ann := .two (.leaf) (.two (.leaf) (.two (.leaf) (.leaf)))
def sh_transcript_places_1 (yield_1 : Fn) (yield_1a : Array Value) (yield_1b : Array Value) (t1_2 : Option Addr) (R : Ending → World → Prop) (w : World) : Prop :=
  al w 94 [.func yield_1 yield_1a yield_1b] fun p3 w4 =>
  al w4 23 [.nilFunc] fun p5 w6 =>
  stL w6 p5 0 [.func (.func 68) ⟨[]⟩ ⟨[.pointer (some p3), .pointer (some p5)]⟩] fun w7 =>
  ∃ (x8 : Fn) (x8a : Array Value) (x8b : Array Value), World.cell? w7 p5 = some (.func x8 x8a x8b) ∧ (dr t1_2 fun p9 =>
  ∃ (x10 : Option Addr) (x10n : Nat) (x10c : Nat), World.cell? w7 p9 = some (.slice x10 x10n x10c) ∧ (CallV Tryd.prog (.func x8 x8a x8b) [.slice x10 x10n x10c, .int .i64 0] w7 fun (e11 : Ending) (w12 : World) =>
  ∃ (x13 : Bool), e11 = .returned (.bool x13) ∧ (R (.returned (.tuple ⟨[]⟩)) w12)))
set_option maxRecDepth 100000 in
theorem e_transcript_places_1 (yield_1 : Fn) (yield_1a : Array Value) (yield_1b : Array Value) (t1_2 : Option Addr) (R : Ending → World → Prop) (w : World) : fnV Tryd.prog Tryd.f67 an_transcript_places_1 [.func yield_1 yield_1a yield_1b, .pointer t1_2] R w = sh_transcript_places_1 yield_1 yield_1a yield_1b t1_2 R w := by kernel_rfl
theorem c_transcript_places_1 {yield_1 : Fn} {yield_1a : Array Value} {yield_1b : Array Value} {t1_2 : Option Addr} {R : Ending → World → Prop} {w : World} (h : sh_transcript_places_1 yield_1 yield_1a yield_1b t1_2 R w) : Calls Tryd.prog F_transcript_places_1 ⟨[.func yield_1 yield_1a yield_1b, .pointer t1_2]⟩ w R := calls_of_fnV Tryd.func67 (by rw [e_transcript_places_1]; exact h)

def an_transcript_places_1_1 : Ann := .two (.leaf) (.two (.leaf) (.two (.two (.leaf) (.one (.loop 1099511624384 [(7, .one (.bool)), (12, .one (.int .i64))] (.two (.leaf) (.two (.two (.leaf) (.leaf)) (.two (.one (.two (.leaf) (.two (.two (.leaf) (.two (.two (.leaf) (.leaf)) (.leaf))) (.leaf)))) (.leaf))))))) (.two (.leaf) (.leaf))))
def sh_transcript_places_1_1 (l_1 : Option Addr) (l_1n : Nat) (l_1c : Nat) (depth_2 : Int) (t2_3 : Option Addr) (t3_4 : Option Addr) (R : Ending → World → Prop) (w : World) : Prop :=
  ∃ (I5 : Bool → Int → World → Nat → Prop), (∃ m10 : Nat, I5 false 0 w m10) ∧ ∀ (text_6 : Bool) (t12_7 : Int) (w8 : World) (m9 : Nat), I5 text_6 t12_7 w8 m9 → ∀ _ : Env, (br (decide ((t12_7 : Int) < ((l_1n : Int)))) (idx l_1 l_1n t12_7 4 fun p11 =>
  ∃ (x12 : Int), World.cell? w8 (p11.add 0) = some (.int .i64 x12) ∧ (∃ (x13 : List UInt8), World.cell? w8 (p11.add 1) = some (.string ⟨⟨x13⟩⟩) ∧ (∃ (x14 : Int), World.cell? w8 (p11.add 2) = some (.int .i64 x14) ∧ (∃ (x15 : Option Addr) (x15n : Nat) (x15c : Nat), World.cell? w8 (p11.add 3) = some (.slice x15 x15n x15c) ∧ (al w8 56 [.int .i64 0, .string ⟨⟨[]⟩⟩, .int .i64 0, .slice none 0 0] fun p16 w17 =>
  stL w17 p16 0 [.int .i64 x12, .string ⟨⟨x13⟩⟩, .int .i64 x14, .slice x15 x15n x15c] fun w18 =>
  dr t2_3 fun p19 =>
  ∃ (x20 : Fn) (x20a : Array Value) (x20b : Array Value), World.cell? w18 p19 = some (.func x20 x20a x20b) ∧ (∃ (x21 : Int), World.cell? w18 (p16.add 0) = some (.int .i64 x21) ∧ (∃ (x22 : List UInt8), World.cell? w18 (p16.add 1) = some (.string ⟨⟨x22⟩⟩) ∧ (∃ (x23 : Int), World.cell? w18 (p16.add 2) = some (.int .i64 x23) ∧ (∃ (x24 : Option Addr) (x24n : Nat) (x24c : Nat), World.cell? w18 (p16.add 3) = some (.slice x24 x24n x24c) ∧ (CallV Tryd.prog (.func x20 x20a x20b) [.agg ⟨[.int .i64 x21, .string ⟨⟨x22⟩⟩, .int .i64 x23, .slice x24 x24n x24c, .int .i64 depth_2, .bool text_6]⟩] w18 fun (e25 : Ending) (w26 : World) =>
  ∃ (x27 : Bool), e25 = .returned (.bool x27) ∧ (br (!x27) (R (.returned (.bool false)) w26) (br (decide ((depth_2 : Int) ≤ 16)) (dr t3_4 fun p28 =>
  ∃ (x29 : Fn) (x29a : Array Value) (x29b : Array Value), World.cell? w26 p28 = some (.func x29 x29a x29b) ∧ (∃ (x30 : Option Addr) (x30n : Nat) (x30c : Nat), World.cell? w26 (p16.add 3) = some (.slice x30 x30n x30c) ∧ (CallV Tryd.prog (.func x29 x29a x29b) [.slice x30 x30n x30c, .int .i64 (IntKind.i64.wrap (depth_2 + 1))] w26 fun (e31 : Ending) (w32 : World) =>
  ∃ (x33 : Bool), e31 = .returned (.bool x33) ∧ (br (!x33) (R (.returned (.bool false)) w32) (∃ (x34 : Int), World.cell? w32 (p16.add 0) = some (.int .i64 x34) ∧ (∃ m35 : Nat, m35 < m9 ∧ I5 (decide ((x34 : Int) = 1)) (IntKind.i64.wrap (t12_7 + 1)) w32 m35)))))) (∃ (x36 : Int), World.cell? w26 (p16.add 0) = some (.int .i64 x36) ∧ (∃ m37 : Nat, m37 < m9 ∧ I5 (decide ((x36 : Int) = 1)) (IntKind.i64.wrap (t12_7 + 1)) w26 m37)))))))))))))) (R (.returned (.bool true)) w8))
set_option maxRecDepth 100000 in
theorem e_transcript_places_1_1 (l_1 : Option Addr) (l_1n : Nat) (l_1c : Nat) (depth_2 : Int) (t2_3 : Option Addr) (t3_4 : Option Addr) (R : Ending → World → Prop) (w : World) : fnV Tryd.prog Tryd.f68 an_transcript_places_1_1 [.slice l_1 l_1n l_1c, .int .i64 depth_2, .pointer t2_3, .pointer t3_4] R w = sh_transcript_places_1_1 l_1 l_1n l_1c depth_2 t2_3 t3_4 R w := by kernel_rfl
theorem c_transcript_places_1_1 {l_1 : Option Addr} {l_1n : Nat} {l_1c : Nat} {depth_2 : Int} {t2_3 : Option Addr} {t3_4 : Option Addr} {R : Ending → World → Prop} {w : World} (h : sh_transcript_places_1_1 l_1 l_1n l_1c depth_2 t2_3 t3_4 R w) : Calls Tryd.prog F_transcript_places_1_1 ⟨[.slice l_1 l_1n l_1c, .int .i64 depth_2, .pointer t2_3, .pointer t3_4]⟩ w R := calls_of_fnV Tryd.func68 (by rw [e_transcript_places_1_1]; exact h)

def an_charset_Check : Ann := .two (.leaf) (.two (.two (.leaf) (.two (.two (.leaf) (.leaf)) (.leaf))) (.two (.two (.leaf) (.one (.rf [2, 10] 0))) (.two (.leaf) (.leaf))))
def sh_charset_Check (s_1 : List UInt8) (R : Ending → World → Prop) (w : World) : Prop :=
  al w 25 [.int .i64 0] fun p2 w3 =>
  br (decide ((65536 : Int) < ((List.length s_1 : Int)))) (stL w3 p2 0 [.int .i64 4] fun w4 =>
  ∃ (x5 : Int), World.cell? w4 p2 = some (.int .i64 x5) ∧ (R (.returned (.int .i64 x5)) w4)) (Calls Tryd.prog 86 ⟨[.string ⟨⟨s_1⟩⟩]⟩ w3 fun (e6 : Ending) (w7 : World) =>
  ∃ (x8 : Fn) (x8a : Array Value) (x8b : Array Value), e6 = .returned (.func x8 x8a x8b) ∧ (∀ base9 : Env, RFw Tryd.prog none 22 (cdAt Tryd.f69 [1, 1, 0, 1, 2]) (upd (upd base9 10 (.func x8 x8a x8b)) 2 (.pointer (some p2))) [] w7 0 (fun ds10 w11 =>
  stL w11 p2 0 [.int .i64 0] fun w15 =>
  retD ds10 w15 fun w16 =>
  ∃ (x17 : Int), World.cell? w16 p2 = some (.int .i64 x17) ∧ (R (.returned (.int .i64 x17)) w16)) (fun ds10 w11 =>
  retD ds10 w11 fun w18 =>
  ∃ (x19 : Int), World.cell? w18 p2 = some (.int .i64 x19) ∧ (R (.returned (.int .i64 x19)) w18)) (fun ds10 w11 =>
  stL w11 p2 0 [.int .i64 0] fun w12 =>
  retD ds10 w12 fun w13 =>
  ∃ (x14 : Int), World.cell? w13 p2 = some (.int .i64 x14) ∧ (R (.returned (.int .i64 x14)) w13))))
set_option maxRecDepth 100000 in
theorem e_charset_Check (s_1 : List UInt8) (R : Ending → World → Prop) (w : World) : fnV Tryd.prog Tryd.f69 an_charset_Check [.string ⟨⟨s_1⟩⟩] R w = sh_charset_Check s_1 R w := by kernel_rfl
theorem c_charset_Check {s_1 : List UInt8} {R : Ending → World → Prop} {w : World} (h : sh_charset_Check s_1 R w) : Calls Tryd.prog F_charset_Check ⟨[.string ⟨⟨s_1⟩⟩]⟩ w R := calls_of_fnV Tryd.func69 (by rw [e_charset_Check]; exact h)
def anA_charset_Check_1 : Ann := .leaf
def anB_charset_Check_1 : Ann := .one (.two (.leaf) (.two (.leaf) (.two (.two (.leaf) (.leaf)) (.leaf))))
def rf_charset_Check_1 (t2_20 : Option Addr) (t10_21 : Fn) (t10_21a : Array Value) (t10_21b : Array Value) (t11_22 : Value) (t12_23 : List UInt8) (l : Nat) (Kn Kr Kx : World → World → Prop) (w : World) : Prop :=
  Ext w w ∧ ∀ w24 : World, Upd l w w24 → (sidx t12_23 0 fun b25 =>
  Calls Tryd.prog 87 ⟨[.int .u8 ((b25.toNat : Int))]⟩ w24 fun (e26 : Ending) (w27 : World) =>
  ∃ (x28 : Int), e26 = .returned (.int .i64 x28) ∧ (br (decide ((x28 : Int) = 0)) (dr t2_20 fun p30 =>
  stL w27 p30 0 [.int .i64 11] fun w29 =>
  Kr w24 w29) (br (decide ((x28 : Int) = 2)) (dr t2_20 fun p32 =>
  stL w27 p32 0 [.int .i64 11] fun w31 =>
  Kr w24 w31) (Kn w24 w27))))
set_option maxRecDepth 100000 in
theorem er_charset_Check_1 (base : Env) (t2_20 : Option Addr) (t10_21 : Fn) (t10_21a : Array Value) (t10_21b : Array Value) (t11_22 : Value) (t12_23 : List UInt8) (l : Nat) (Kn Kr Kx : World → World → Prop) (w : World) : fragV Tryd.prog 22 anA_charset_Check_1 anB_charset_Check_1 (cdAt Tryd.f69 [1, 1, 0, 1, 2, 5]) (cdAt Tryd.f69 [1, 1, 0, 1, 2, 6]) l 0 Kn Kr Kx (updPs [11, 12] [t11_22, .string ⟨⟨t12_23⟩⟩] (upd (upd base 10 (.func t10_21 t10_21a t10_21b)) 2 (.pointer t2_20))) w = rf_charset_Check_1 t2_20 t10_21 t10_21a t10_21b t11_22 t12_23 l Kn Kr Kx w := by kernel_rfl
theorem cd_charset_Check_1 : cdAt Tryd.f69 [1, 1, 0, 1, 2] = .rangeFunc (Operand.tmp 10) #[11, 12] (cdAt Tryd.f69 [1, 1, 0, 1, 2, 5]) (cdAt Tryd.f69 [1, 1, 0, 1, 2, 6]) := by kernel_rfl

def an_charset_IsWord : Ann := .two (.leaf) (.cut 65524 [] (.two (.leaf) (.two (.two (.leaf) (.leaf)) (.leaf))) (.cut 33488908 [] (.two (.leaf) (.two (.leaf) (.two (.two (.leaf) (.leaf)) (.leaf)))) (.two (.leaf) (.leaf))))
def sh_charset_IsWord (s_1 : List UInt8) (R : Ending → World → Prop) (w : World) : Prop :=
  ∀ (K2 : World → Prop), (∀  (w3 : World), (∀ _ : Env, (∀ (K4 : World → Prop), (∀  (w5 : World), (∀ _ : Env, (s2b Tryd.prog w5 5 s_1 fun a6 a6n a6c w7 =>
  Calls Tryd.prog 88 ⟨[.slice a6 a6n a6c, .func (.func 89) #[] #[]]⟩ w7 fun (e8 : Ending) (w9 : World) =>
  ∃ (x10 : Bool), e8 = .returned (.bool x10) ∧ (R (.returned (.bool (!x10))) w9))) → K4 w5) → (sidx s_1 0 fun b11 =>
  Calls Tryd.prog 87 ⟨[.int .u8 ((b11.toNat : Int))]⟩ w3 fun (e12 : Ending) (w13 : World) =>
  ∃ (x14 : Int), e12 = .returned (.int .i64 x14) ∧ (br (decide ((x14 : Int) ≠ 1)) (br (decide ((x14 : Int) ≠ 3)) (R (.returned (.bool false)) w13) (K4 w13)) (K4 w13))))) → K2 w3) → (br (decide ((s_1 : List UInt8) = ([]))) (R (.returned (.bool false)) w) (br (decide ((64 : Int) < ((List.length s_1 : Int)))) (R (.returned (.bool false)) w) (Calls Tryd.prog 69 ⟨[.string ⟨⟨s_1⟩⟩]⟩ w fun (e15 : Ending) (w16 : World) =>
  ∃ (x17 : Int), e15 = .returned (.int .i64 x17) ∧ (br (decide ((x17 : Int) ≠ 0)) (R (.returned (.bool false)) w16) (K2 w16)))))
set_option maxRecDepth 100000 in
theorem e_charset_IsWord (s_1 : List UInt8) (R : Ending → World → Prop) (w : World) : fnV Tryd.prog Tryd.f70 an_charset_IsWord [.string ⟨⟨s_1⟩⟩] R w = sh_charset_IsWord s_1 R w := by kernel_rfl
theorem c_charset_IsWord {s_1 : List UInt8} {R : Ending → World → Prop} {w : World} (h : sh_charset_IsWord s_1 R w) : Calls Tryd.prog F_charset_IsWord ⟨[.string ⟨⟨s_1⟩⟩]⟩ w R := calls_of_fnV Tryd.func70 (by rw [e_charset_IsWord]; exact h)

def an_charset_IsName : Ann := .two (.leaf) (.two (.leaf) (.leaf))
def sh_charset_IsName (s_1 : List UInt8) (R : Ending → World → Prop) (w : World) : Prop :=
  br (decide ((s_1 : List UInt8) ≠ ([]))) (br (decide ((((List.length s_1 : Int)) : Int) ≤ 16)) (Calls Tryd.prog 90 ⟨[.string ⟨⟨s_1⟩⟩]⟩ w fun (e2 : Ending) (w3 : World) =>
  ∃ (x4 : Int), e2 = .returned (.int .i64 x4) ∧ (R (.returned (.bool (decide ((x4 : Int) = ((List.length s_1 : Int)))))) w3)) (R (.returned (.bool false)) w)) (R (.returned (.bool false)) w)
set_option maxRecDepth 100000 in
theorem e_charset_IsName (s_1 : List UInt8) (R : Ending → World → Prop) (w : World) : fnV Tryd.prog Tryd.f71 an_charset_IsName [.string ⟨⟨s_1⟩⟩] R w = sh_charset_IsName s_1 R w := by kernel_rfl
theorem c_charset_IsName {s_1 : List UInt8} {R : Ending → World → Prop} {w : World} (h : sh_charset_IsName s_1 R w) : Calls Tryd.prog F_charset_IsName ⟨[.string ⟨⟨s_1⟩⟩]⟩ w R := calls_of_fnV Tryd.func71 (by rw [e_charset_IsName]; exact h)

def an_transcript_marked_1 : Ann := .two (.leaf) (.one (.loop 9007199254740576 [(9, .one (.int .i64))] (.two (.leaf) (.two (.two (.leaf) (.leaf)) (.two (.one (.two (.leaf) (.two (.leaf) (.one (.two (.leaf) (.two (.leaf) (.two (.leaf) (.two (.cut 8761733283840 [] (.leaf) (.two (.leaf) (.leaf))) (.leaf))))))))) (.leaf))))))
def sh_transcript_marked_1 (l_1 : Option Addr) (l_1n : Nat) (l_1c : Nat) (t1_2 : Option Addr) (t2_3 : Option Addr) (R : Ending → World → Prop) (w : World) : Prop :=
  ∃ (I4 : Int → World → Nat → Prop), (∃ m8 : Nat, I4 0 w m8) ∧ ∀ (t9_5 : Int) (w6 : World) (m7 : Nat), I4 t9_5 w6 m7 → ∀ _ : Env, (br (decide ((t9_5 : Int) < ((l_1n : Int)))) (idx l_1 l_1n t9_5 4 fun p9 =>
  ∃ (x10 : Int), World.cell? w6 (p9.add 0) = some (.int .i64 x10) ∧ (∃ (x11 : List UInt8), World.cell? w6 (p9.add 1) = some (.string ⟨⟨x11⟩⟩) ∧ (∃ (x12 : Int), World.cell? w6 (p9.add 2) = some (.int .i64 x12) ∧ (∃ (x13 : Option Addr) (x13n : Nat) (x13c : Nat), World.cell? w6 (p9.add 3) = some (.slice x13 x13n x13c) ∧ (al w6 56 [.int .i64 0, .string ⟨⟨[]⟩⟩, .int .i64 0, .slice none 0 0] fun p14 w15 =>
  stL w15 p14 0 [.int .i64 x10, .string ⟨⟨x11⟩⟩, .int .i64 x12, .slice x13 x13n x13c] fun w16 =>
  ∃ (x17 : Int), World.cell? w16 (p14.add 0) = some (.int .i64 x17) ∧ (idx (some (⟨0, 0, none⟩)) 12 x17 4 fun p18 =>
  ∃ (x19 : List UInt8), World.cell? w16 (p18.add 0) = some (.string ⟨⟨x19⟩⟩) ∧ (∃ (x20 : Bool), World.cell? w16 (p18.add 1) = some (.bool x20) ∧ (∃ (x21 : Bool), World.cell? w16 (p18.add 2) = some (.bool x21) ∧ (∃ (x22 : Bool), World.cell? w16 (p18.add 3) = some (.bool x22) ∧ (al w16 96 [.string ⟨⟨[]⟩⟩, .bool false, .bool false, .bool false] fun p23 w24 =>
  stL w24 p23 0 [.string ⟨⟨x19⟩⟩, .bool x20, .bool x21, .bool x22] fun w25 =>
  ∃ (x26 : Int), World.cell? w25 (p14.add 0) = some (.int .i64 x26) ∧ (br (decide ((x26 : Int) = 1)) (∃ (x27 : List UInt8), World.cell? w25 (p14.add 1) = some (.string ⟨⟨x27⟩⟩) ∧ (Calls Tryd.prog 48 ⟨[.pointer t1_2, .string ⟨⟨x27⟩⟩]⟩ w25 fun (e28 : Ending) (w29 : World) =>
  ∃ (x30 : Int) (x31 : Value), e28 = .returned (.tuple ⟨[.int .i64 x30, x31]⟩) ∧ (∃ m32 : Nat, m32 < m7 ∧ I4 (IntKind.i64.wrap (t9_5 + 1)) w29 m32))) (∃ (x33 : Bool), World.cell? w25 (p23.add 3) = some (.bool x33) ∧ (br x33 (∀ (K34 : World → Prop), (∀  (w35 : World), (∀ _ : Env, (dr t2_3 fun p36 =>
  ∃ (x37 : Fn) (x37a : Array Value) (x37b : Array Value), World.cell? w35 p36 = some (.func x37 x37a x37b) ∧ (∃ (x38 : Option Addr) (x38n : Nat) (x38c : Nat), World.cell? w35 (p14.add 3) = some (.slice x38 x38n x38c) ∧ (CallV Tryd.prog (.func x37 x37a x37b) [.slice x38 x38n x38c] w35 fun (e39 : Ending) (w40 : World) =>
  e39 = .returned (.tuple ⟨[]⟩) ∧ (∃ (x41 : List UInt8), World.cell? w40 (p23.add 0) = some (.string ⟨⟨x41⟩⟩) ∧ (sadd ([60, 47]) x41 fun s42 =>
  sadd s42 ([62]) fun s43 =>
  Calls Tryd.prog 48 ⟨[.pointer t1_2, .string ⟨⟨s43⟩⟩]⟩ w40 fun (e44 : Ending) (w45 : World) =>
  ∃ (x46 : Int) (x47 : Value), e44 = .returned (.tuple ⟨[.int .i64 x46, x47]⟩) ∧ (∃ m48 : Nat, m48 < m7 ∧ I4 (IntKind.i64.wrap (t9_5 + 1)) w45 m48))))))) → K34 w35) → (drw w25 fun w49 =>
  (∃ (x50 : List UInt8), World.cell? w49 (p23.add 0) = some (.string ⟨⟨x50⟩⟩) ∧ (sadd ([60]) x50 fun s51 =>
  ∃ (x52 : Int), World.cell? w49 (p14.add 0) = some (.int .i64 x52) ∧ (∃ (x53 : List UInt8), World.cell? w49 (p14.add 1) = some (.string ⟨⟨x53⟩⟩) ∧ (∃ (x54 : Int), World.cell? w49 (p14.add 2) = some (.int .i64 x54) ∧ (∃ (x55 : Option Addr) (x55n : Nat) (x55c : Nat), World.cell? w49 (p14.add 3) = some (.slice x55 x55n x55c) ∧ ((Calls Tryd.prog 73 ⟨[.agg ⟨[.int .i64 x52, .string ⟨⟨x53⟩⟩, .int .i64 x54, .slice x55 x55n x55c]⟩]⟩ w49 fun (e56 : Ending) (w57 : World) =>
  ∃ (x58 : List UInt8), e56 = .returned (.string ⟨⟨x58⟩⟩) ∧ (sadd s51 x58 fun s59 =>
  sadd s59 ([62]) fun s60 =>
  (Calls Tryd.prog 48 ⟨[.pointer t1_2, .string ⟨⟨s60⟩⟩]⟩ w57 fun (e61 : Ending) (w62 : World) =>
  ∃ (x63 : Int) (x64 : Value), e61 = .returned (.tuple ⟨[.int .i64 x63, x64]⟩) ∧ (K34 w62)) ∧ True)) ∧ True)))))) ∧ (∃ (x65 : Int), World.cell? w49 (p14.add 0) = some (.int .i64 x65) ∧ (∃ (x66 : List UInt8), World.cell? w49 (p14.add 1) = some (.string ⟨⟨x66⟩⟩) ∧ (∃ (x67 : Int), World.cell? w49 (p14.add 2) = some (.int .i64 x67) ∧ (∃ (x68 : Option Addr) (x68n : Nat) (x68c : Nat), World.cell? w49 (p14.add 3) = some (.slice x68 x68n x68c) ∧ ((∃ (x69 : List UInt8), World.cell? w49 (p23.add 0) = some (.string ⟨⟨x69⟩⟩) ∧ (sadd ([60]) x69 fun s70 =>
  (Calls Tryd.prog 73 ⟨[.agg ⟨[.int .i64 x65, .string ⟨⟨x66⟩⟩, .int .i64 x67, .slice x68 x68n x68c]⟩]⟩ w49 fun (e71 : Ending) (w72 : World) =>
  ∃ (x73 : List UInt8), e71 = .returned (.string ⟨⟨x73⟩⟩) ∧ (sadd s70 x73 fun s74 =>
  sadd s74 ([62]) fun s75 =>
  (Calls Tryd.prog 48 ⟨[.pointer t1_2, .string ⟨⟨s75⟩⟩]⟩ w72 fun (e76 : Ending) (w77 : World) =>
  ∃ (x78 : Int) (x79 : Value), e76 = .returned (.tuple ⟨[.int .i64 x78, x79]⟩) ∧ (K34 w77)) ∧ True)) ∧ True)) ∧ (Calls Tryd.prog 73 ⟨[.agg ⟨[.int .i64 x65, .string ⟨⟨x66⟩⟩, .int .i64 x67, .slice x68 x68n x68c]⟩]⟩ w49 fun (e80 : Ending) (w81 : World) =>
  ∃ (x82 : List UInt8), e80 = .returned (.string ⟨⟨x82⟩⟩) ∧ (∃ (x83 : List UInt8), World.cell? w81 (p23.add 0) = some (.string ⟨⟨x83⟩⟩) ∧ (sadd ([60]) x83 fun s84 =>
  sadd s84 x82 fun s85 =>
  sadd s85 ([62]) fun s86 =>
  (Calls Tryd.prog 48 ⟨[.pointer t1_2, .string ⟨⟨s86⟩⟩]⟩ w81 fun (e87 : Ending) (w88 : World) =>
  ∃ (x89 : Int) (x90 : Value), e87 = .returned (.tuple ⟨[.int .i64 x89, x90]⟩) ∧ (K34 w88)) ∧ True))) ∧ True))))) ∧ True)) (drw w25 fun w91 =>
  (∃ (x92 : List UInt8), World.cell? w91 (p23.add 0) = some (.string ⟨⟨x92⟩⟩) ∧ (sadd ([60]) x92 fun s93 =>
  ∃ (x94 : Int), World.cell? w91 (p14.add 0) = some (.int .i64 x94) ∧ (∃ (x95 : List UInt8), World.cell? w91 (p14.add 1) = some (.string ⟨⟨x95⟩⟩) ∧ (∃ (x96 : Int), World.cell? w91 (p14.add 2) = some (.int .i64 x96) ∧ (∃ (x97 : Option Addr) (x97n : Nat) (x97c : Nat), World.cell? w91 (p14.add 3) = some (.slice x97 x97n x97c) ∧ ((Calls Tryd.prog 73 ⟨[.agg ⟨[.int .i64 x94, .string ⟨⟨x95⟩⟩, .int .i64 x96, .slice x97 x97n x97c]⟩]⟩ w91 fun (e98 : Ending) (w99 : World) =>
  ∃ (x100 : List UInt8), e98 = .returned (.string ⟨⟨x100⟩⟩) ∧ (sadd s93 x100 fun s101 =>
  sadd s101 ([47, 62]) fun s102 =>
  (Calls Tryd.prog 48 ⟨[.pointer t1_2, .string ⟨⟨s102⟩⟩]⟩ w99 fun (e103 : Ending) (w104 : World) =>
  ∃ (x105 : Int) (x106 : Value), e103 = .returned (.tuple ⟨[.int .i64 x105, x106]⟩) ∧ (∃ m107 : Nat, m107 < m7 ∧ I4 (IntKind.i64.wrap (t9_5 + 1)) w104 m107)) ∧ True)) ∧ True)))))) ∧ (∃ (x108 : Int), World.cell? w91 (p14.add 0) = some (.int .i64 x108) ∧ (∃ (x109 : List UInt8), World.cell? w91 (p14.add 1) = some (.string ⟨⟨x109⟩⟩) ∧ (∃ (x110 : Int), World.cell? w91 (p14.add 2) = some (.int .i64 x110) ∧ (∃ (x111 : Option Addr) (x111n : Nat) (x111c : Nat), World.cell? w91 (p14.add 3) = some (.slice x111 x111n x111c) ∧ ((∃ (x112 : List UInt8), World.cell? w91 (p23.add 0) = some (.string ⟨⟨x112⟩⟩) ∧ (sadd ([60]) x112 fun s113 =>
  (Calls Tryd.prog 73 ⟨[.agg ⟨[.int .i64 x108, .string ⟨⟨x109⟩⟩, .int .i64 x110, .slice x111 x111n x111c]⟩]⟩ w91 fun (e114 : Ending) (w115 : World) =>
  ∃ (x116 : List UInt8), e114 = .returned (.string ⟨⟨x116⟩⟩) ∧ (sadd s113 x116 fun s117 =>
  sadd s117 ([47, 62]) fun s118 =>
  (Calls Tryd.prog 48 ⟨[.pointer t1_2, .string ⟨⟨s118⟩⟩]⟩ w115 fun (e119 : Ending) (w120 : World) =>
  ∃ (x121 : Int) (x122 : Value), e119 = .returned (.tuple ⟨[.int .i64 x121, x122]⟩) ∧ (∃ m123 : Nat, m123 < m7 ∧ I4 (IntKind.i64.wrap (t9_5 + 1)) w120 m123)) ∧ True)) ∧ True)) ∧ (Calls Tryd.prog 73 ⟨[.agg ⟨[.int .i64 x108, .string ⟨⟨x109⟩⟩, .int .i64 x110, .slice x111 x111n x111c]⟩]⟩ w91 fun (e124 : Ending) (w125 : World) =>
  ∃ (x126 : List UInt8), e124 = .returned (.string ⟨⟨x126⟩⟩) ∧ (∃ (x127 : List UInt8), World.cell? w125 (p23.add 0) = some (.string ⟨⟨x127⟩⟩) ∧ (sadd ([60]) x127 fun s128 =>
  sadd s128 x126 fun s129 =>
  sadd s129 ([47, 62]) fun s130 =>
  (Calls Tryd.prog 48 ⟨[.pointer t1_2, .string ⟨⟨s130⟩⟩]⟩ w125 fun (e131 : Ending) (w132 : World) =>
  ∃ (x133 : Int) (x134 : Value), e131 = .returned (.tuple ⟨[.int .i64 x133, x134]⟩) ∧ (∃ m135 : Nat, m135 < m7 ∧ I4 (IntKind.i64.wrap (t9_5 + 1)) w132 m135)) ∧ True))) ∧ True))))) ∧ True)))))))))))))) (R (.returned (.tuple ⟨[]⟩)) w6))
set_option maxRecDepth 100000 in
theorem e_transcript_marked_1 (l_1 : Option Addr) (l_1n : Nat) (l_1c : Nat) (t1_2 : Option Addr) (t2_3 : Option Addr) (R : Ending → World → Prop) (w : World) : fnV Tryd.prog Tryd.f72 an_transcript_marked_1 [.slice l_1 l_1n l_1c, .pointer t1_2, .pointer t2_3] R w = sh_transcript_marked_1 l_1 l_1n l_1c t1_2 t2_3 R w := by kernel_rfl
theorem c_transcript_marked_1 {l_1 : Option Addr} {l_1n : Nat} {l_1c : Nat} {t1_2 : Option Addr} {t2_3 : Option Addr} {R : Ending → World → Prop} {w : World} (h : sh_transcript_marked_1 l_1 l_1n l_1c t1_2 t2_3 R w) : Calls Tryd.prog F_transcript_marked_1 ⟨[.slice l_1 l_1n l_1c, .pointer t1_2, .pointer t2_3]⟩ w R := calls_of_fnV Tryd.func72 (by rw [e_transcript_marked_1]; exact h)

def an_transcript_value : Ann := .two (.leaf) (.two (.leaf) (.two (.one (.two (.leaf) (.two (.two (.leaf) (.leaf)) (.two (.leaf) (.two (.two (.leaf) (.leaf)) (.leaf)))))) (.two (.leaf) (.leaf))))
def sh_transcript_value (x_1 : Int) (x_2 : List UInt8) (x_3 : Int) (x_4 : Option Addr) (x_4n : Nat) (x_4c : Nat) (R : Ending → World → Prop) (w : World) : Prop :=
  al w 56 [.int .i64 x_1, .string ⟨⟨x_2⟩⟩, .int .i64 x_3, .slice x_4 x_4n x_4c] fun p5 w6 =>
  ∃ (x7 : Int), World.cell? w6 (p5.add 0) = some (.int .i64 x7) ∧ (idx (some (⟨0, 0, none⟩)) 12 x7 4 fun p8 =>
  ∃ (x9 : List UInt8), World.cell? w6 (p8.add 0) = some (.string ⟨⟨x9⟩⟩) ∧ (∃ (x10 : Bool), World.cell? w6 (p8.add 1) = some (.bool x10) ∧ (∃ (x11 : Bool), World.cell? w6 (p8.add 2) = some (.bool x11) ∧ (∃ (x12 : Bool), World.cell? w6 (p8.add 3) = some (.bool x12) ∧ (al w6 96 [.string ⟨⟨[]⟩⟩, .bool false, .bool false, .bool false] fun p13 w14 =>
  stL w14 p13 0 [.string ⟨⟨x9⟩⟩, .bool x10, .bool x11, .bool x12] fun w15 =>
  ∃ (x16 : Bool), World.cell? w15 (p13.add 1) = some (.bool x16) ∧ (br x16 (∃ (x17 : List UInt8), World.cell? w15 (p5.add 1) = some (.string ⟨⟨x17⟩⟩) ∧ (sadd ([32]) x17 fun s18 =>
  R (.returned (.string ⟨⟨s18⟩⟩)) w15)) (∃ (x19 : Bool), World.cell? w15 (p13.add 2) = some (.bool x19) ∧ (br x19 (∃ (x20 : Int), World.cell? w15 (p5.add 2) = some (.int .i64 x20) ∧ (Calls Tryd.prog 91 ⟨[.int .i64 x20]⟩ w15 fun (e21 : Ending) (w22 : World) =>
  ∃ (x23 : List UInt8), e21 = .returned (.string ⟨⟨x23⟩⟩) ∧ (sadd ([32]) x23 fun s24 =>
  R (.returned (.string ⟨⟨s24⟩⟩)) w22))) (R (.returned (.string ⟨⟨[]⟩⟩)) w15)))))))))
set_option maxRecDepth 100000 in
theorem e_transcript_value (x_1 : Int) (x_2 : List UInt8) (x_3 : Int) (x_4 : Option Addr) (x_4n : Nat) (x_4c : Nat) (R : Ending → World → Prop) (w : World) : fnV Tryd.prog Tryd.f73 an_transcript_value [.agg ⟨[.int .i64 x_1, .string ⟨⟨x_2⟩⟩, .int .i64 x_3, .slice x_4 x_4n x_4c]⟩] R w = sh_transcript_value x_1 x_2 x_3 x_4 x_4n x_4c R w := by kernel_rfl
theorem c_transcript_value {x_1 : Int} {x_2 : List UInt8} {x_3 : Int} {x_4 : Option Addr} {x_4n : Nat} {x_4c : Nat} {R : Ending → World → Prop} {w : World} (h : sh_transcript_value x_1 x_2 x_3 x_4 x_4n x_4c R w) : Calls Tryd.prog F_transcript_value ⟨[.agg ⟨[.int .i64 x_1, .string ⟨⟨x_2⟩⟩, .int .i64 x_3, .slice x_4 x_4n x_4c]⟩]⟩ w R := calls_of_fnV Tryd.func73 (by rw [e_transcript_value]; exact h)

def an_transcript_Same : Ann := .two (.leaf) (.two (.leaf) (.leaf))
def sh_transcript_Same (a_1 : Option Addr) (a_1n : Nat) (a_1c : Nat) (b_2 : Option Addr) (b_2n : Nat) (b_2c : Nat) (R : Ending → World → Prop) (w : World) : Prop :=
  Calls Tryd.prog 93 ⟨[.slice a_1 a_1n a_1c, .slice b_2 b_2n b_2c, .func (.func 94) #[] #[]]⟩ w fun (e3 : Ending) (w4 : World) =>
  ∃ (x5 : Bool), e3 = .returned (.bool x5) ∧ (R (.returned (.bool x5)) w4)
set_option maxRecDepth 100000 in
theorem e_transcript_Same (a_1 : Option Addr) (a_1n : Nat) (a_1c : Nat) (b_2 : Option Addr) (b_2n : Nat) (b_2c : Nat) (R : Ending → World → Prop) (w : World) : fnV Tryd.prog Tryd.f76 an_transcript_Same [.slice a_1 a_1n a_1c, .slice b_2 b_2n b_2c] R w = sh_transcript_Same a_1 a_1n a_1c b_2 b_2n b_2c R w := by kernel_rfl
theorem c_transcript_Same {a_1 : Option Addr} {a_1n : Nat} {a_1c : Nat} {b_2 : Option Addr} {b_2n : Nat} {b_2c : Nat} {R : Ending → World → Prop} {w : World} (h : sh_transcript_Same a_1 a_1n a_1c b_2 b_2n b_2c R w) : Calls Tryd.prog F_transcript_Same ⟨[.slice a_1 a_1n a_1c, .slice b_2 b_2n b_2c]⟩ w R := calls_of_fnV Tryd.func76 (by rw [e_transcript_Same]; exact h)

def an_slices_Reverse_of_api_Edit_api_Edit : Ann := .two (.leaf) (.one (.loop 268435340 [(2, .one (.int .i64)), (3, .one (.int .i64))] (.two (.two (.leaf) (.two (.leaf) (.leaf))) (.two (.one (.leaf)) (.leaf)))))
def sh_slices_Reverse_of_api_Edit_api_Edit (s_1 : Option Addr) (s_1n : Nat) (s_1c : Nat) (R : Ending → World → Prop) (w : World) : Prop :=
  ∃ (I2 : Int → Int → World → Nat → Prop), (∃ m7 : Nat, I2 0 (IntKind.i64.wrap (((s_1n : Int)) - 1)) w m7) ∧ ∀ (i_3 : Int) (j_4 : Int) (w5 : World) (m6 : Nat), I2 i_3 j_4 w5 m6 → ∀ _ : Env, (br (decide ((i_3 : Int) < j_4)) (drw w5 fun w8 =>
  idx s_1 s_1n j_4 3 fun p9 =>
  ∃ (x10 : Int), World.cell? w8 (p9.add 0) = some (.int .i64 x10) ∧ (∃ (x11 : Int), World.cell? w8 (p9.add 1) = some (.int .i64 x11) ∧ (∃ (x12 : List UInt8), World.cell? w8 (p9.add 2) = some (.string ⟨⟨x12⟩⟩) ∧ (idx s_1 s_1n i_3 3 fun p13 =>
  ∃ (x14 : Int), World.cell? w8 (p13.add 0) = some (.int .i64 x14) ∧ (∃ (x15 : Int), World.cell? w8 (p13.add 1) = some (.int .i64 x15) ∧ (∃ (x16 : List UInt8), World.cell? w8 (p13.add 2) = some (.string ⟨⟨x16⟩⟩) ∧ (idx s_1 s_1n i_3 3 fun p17 =>
  (stL w8 p17 0 [.int .i64 x10, .int .i64 x11, .string ⟨⟨x12⟩⟩] fun w18 =>
  idx s_1 s_1n j_4 3 fun p19 =>
  (stL w18 p19 0 [.int .i64 x14, .int .i64 x15, .string ⟨⟨x16⟩⟩] fun w20 =>
  ∃ m21 : Nat, m21 < m6 ∧ I2 (IntKind.i64.wrap (i_3 + 1)) (IntKind.i64.wrap (j_4 - 1)) w20 m21) ∧ True) ∧ True))))))) (R (.returned (.tuple ⟨[]⟩)) w5))
set_option maxRecDepth 100000 in
theorem e_slices_Reverse_of_api_Edit_api_Edit (s_1 : Option Addr) (s_1n : Nat) (s_1c : Nat) (R : Ending → World → Prop) (w : World) : fnV Tryd.prog Tryd.f77 an_slices_Reverse_of_api_Edit_api_Edit [.slice s_1 s_1n s_1c] R w = sh_slices_Reverse_of_api_Edit_api_Edit s_1 s_1n s_1c R w := by kernel_rfl
theorem c_slices_Reverse_of_api_Edit_api_Edit {s_1 : Option Addr} {s_1n : Nat} {s_1c : Nat} {R : Ending → World → Prop} {w : World} (h : sh_slices_Reverse_of_api_Edit_api_Edit s_1 s_1n s_1c R w) : Calls Tryd.prog F_slices_Reverse_of_api_Edit_api_Edit ⟨[.slice s_1 s_1n s_1c]⟩ w R := calls_of_fnV Tryd.func77 (by rw [e_slices_Reverse_of_api_Edit_api_Edit]; exact h)

def an_editdistance_distances : Ann := .two (.leaf) (.cut 516480 [(7, .one (.slice)), (8, .one (.slice))] (.leaf) (.two (.two (.leaf) (.one (.loop 534774272 [(21, .one (.int .i64))] (.two (.leaf) (.two (.two (.leaf) (.leaf)) (.two (.one (.two (.leaf) (.leaf))) (.leaf))))))) (.two (.two (.leaf) (.one (.loop 2361183241433748872576 [(7, .one (.slice)), (8, .one (.slice)), (30, .one (.int .i64))] (.two (.leaf) (.two (.two (.leaf) (.leaf)) (.two (.one (.two (.leaf) (.two (.leaf) (.two (.two (.leaf) (.one (.loop 295147904904474925056 [(38, .one (.int .i64))] (.two (.leaf) (.two (.two (.leaf) (.leaf)) (.two (.one (.two (.leaf) (.two (.leaf) (.cut 32985348837376 [(12, .one (.int .i64))] (.two (.leaf) (.two (.leaf) (.leaf))) (.leaf))))) (.leaf))))))) (.leaf))))) (.leaf))))))) (.two (.leaf) (.leaf)))))
def sh_editdistance_distances (n_1 : Int) (m_2 : Int) (same_3 : Fn) (same_3a : Array Value) (same_3b : Array Value) (R : Ending → World → Prop) (w : World) : Prop :=
  ∀ (K4 : Option Addr → Nat → Nat → Option Addr → Nat → Nat → World → Prop), (∀ (before_5 : Option Addr) (before_5n : Nat) (before_5c : Nat) (now_6 : Option Addr) (now_6n : Nat) (now_6c : Nat) (w7 : World), (∀ _ : Env, (∃ (I8 : Int → World → Nat → Prop), (∃ m12 : Nat, I8 0 w7 m12) ∧ ∀ (t21_9 : Int) (w10 : World) (m11 : Nat), I8 t21_9 w10 m11 → ∀ _ : Env, (br (decide ((t21_9 : Int) < ((before_5n : Int)))) (idx before_5 before_5n t21_9 1 fun p13 =>
  stL w10 p13 0 [.int .i64 t21_9] fun w14 =>
  ∃ m15 : Nat, m15 < m11 ∧ I8 (IntKind.i64.wrap (t21_9 + 1)) w14 m15) (∃ (I16 : Option Addr → Nat → Nat → Option Addr → Nat → Nat → Int → World → Nat → Prop), (∃ m22 : Nat, I16 before_5 before_5n before_5c now_6 now_6n now_6c 0 w10 m22) ∧ ∀ (before_17 : Option Addr) (before_17n : Nat) (before_17c : Nat) (now_18 : Option Addr) (now_18n : Nat) (now_18c : Nat) (t30_19 : Int) (w20 : World) (m21 : Nat), I16 before_17 before_17n before_17c now_18 now_18n now_18c t30_19 w20 m21 → ∀ _ : Env, (br (decide ((t30_19 : Int) < n_1)) (idx now_18 now_18n 0 1 fun p23 =>
  stL w20 p23 0 [.int .i64 (IntKind.i64.wrap (t30_19 + 1))] fun w24 =>
  ∃ (I25 : Int → World → Nat → Prop), (∃ m29 : Nat, I25 0 w24 m29) ∧ ∀ (t38_26 : Int) (w27 : World) (m28 : Nat), I25 t38_26 w27 m28 → ∀ _ : Env, (br (decide ((t38_26 : Int) < m_2)) (∀ (K30 : Int → World → Prop), (∀ (change_31 : Int) (w32 : World), (∀ _ : Env, (drw w32 fun w33 =>
  idx before_17 before_17n t38_26 1 fun p34 =>
  ∃ (x35 : Int), World.cell? w33 p34 = some (.int .i64 x35) ∧ (idx before_17 before_17n (IntKind.i64.wrap (t38_26 + 1)) 1 fun p36 =>
  ∃ (x37 : Int), World.cell? w33 p36 = some (.int .i64 x37) ∧ (idx now_18 now_18n t38_26 1 fun p38 =>
  ∃ (x39 : Int), World.cell? w33 p38 = some (.int .i64 x39) ∧ (idx now_18 now_18n (IntKind.i64.wrap (t38_26 + 1)) 1 fun p40 =>
  (stL w33 p40 0 [.int .i64 ((min (min (IntKind.i64.wrap (x35 + change_31)) (IntKind.i64.wrap (x37 + 1))) (IntKind.i64.wrap (x39 + 1))))] fun w41 =>
  ∃ m42 : Nat, m42 < m28 ∧ I25 (IntKind.i64.wrap (t38_26 + 1)) w41 m42) ∧ True))))) → K30 change_31 w32) → (CallV Tryd.prog (.func same_3 same_3a same_3b) [.int .i64 t30_19, .int .i64 t38_26] w27 fun (e43 : Ending) (w44 : World) =>
  ∃ (x45 : Bool), e43 = .returned (.bool x45) ∧ (br x45 (K30 0 w44) (K30 1 w44)))) (∃ m46 : Nat, m46 < m21 ∧ I16 now_18 now_18n now_18c before_17 before_17n before_17c (IntKind.i64.wrap (t30_19 + 1)) w27 m46))) (idx before_17 before_17n m_2 1 fun p47 =>
  ∃ (x48 : Int), World.cell? w20 p47 = some (.int .i64 x48) ∧ (R (.returned (.int .i64 x48)) w20))))))) → K4 before_5 before_5n before_5c now_6 now_6n now_6c w7) → (drw w fun w49 =>
  (mks w49 3 8 [.int .i64 0] (IntKind.i64.wrap (m_2 + 1)) (IntKind.i64.wrap (m_2 + 1)) fun p50 w51 =>
  (mks w51 3 8 [.int .i64 0] (IntKind.i64.wrap (m_2 + 1)) (IntKind.i64.wrap (m_2 + 1)) fun p52 w53 =>
  K4 (some p50) (Int.toNat (IntKind.i64.wrap (m_2 + 1))) (Int.toNat (IntKind.i64.wrap (m_2 + 1))) (some p52) (Int.toNat (IntKind.i64.wrap (m_2 + 1))) (Int.toNat (IntKind.i64.wrap (m_2 + 1))) w53) ∧ ((mks w51 3 8 [.int .i64 0] (IntKind.i64.wrap (m_2 + 1)) (IntKind.i64.wrap (m_2 + 1)) fun p54 w55 =>
  K4 (some p50) (Int.toNat (IntKind.i64.wrap (m_2 + 1))) (Int.toNat (IntKind.i64.wrap (m_2 + 1))) (some p54) (Int.toNat (IntKind.i64.wrap (m_2 + 1))) (Int.toNat (IntKind.i64.wrap (m_2 + 1))) w55) ∧ True) ∧ True) ∧ ((mks w49 3 8 [.int .i64 0] (IntKind.i64.wrap (m_2 + 1)) (IntKind.i64.wrap (m_2 + 1)) fun p56 w57 =>
  (mks w57 3 8 [.int .i64 0] (IntKind.i64.wrap (m_2 + 1)) (IntKind.i64.wrap (m_2 + 1)) fun p58 w59 =>
  K4 (some p56) (Int.toNat (IntKind.i64.wrap (m_2 + 1))) (Int.toNat (IntKind.i64.wrap (m_2 + 1))) (some p58) (Int.toNat (IntKind.i64.wrap (m_2 + 1))) (Int.toNat (IntKind.i64.wrap (m_2 + 1))) w59) ∧ ((mks w57 3 8 [.int .i64 0] (IntKind.i64.wrap (m_2 + 1)) (IntKind.i64.wrap (m_2 + 1)) fun p60 w61 =>
  K4 (some p56) (Int.toNat (IntKind.i64.wrap (m_2 + 1))) (Int.toNat (IntKind.i64.wrap (m_2 + 1))) (some p60) (Int.toNat (IntKind.i64.wrap (m_2 + 1))) (Int.toNat (IntKind.i64.wrap (m_2 + 1))) w61) ∧ True) ∧ True) ∧ ((mks w49 3 8 [.int .i64 0] (IntKind.i64.wrap (m_2 + 1)) (IntKind.i64.wrap (m_2 + 1)) fun p62 w63 =>
  (mks w63 3 8 [.int .i64 0] (IntKind.i64.wrap (m_2 + 1)) (IntKind.i64.wrap (m_2 + 1)) fun p64 w65 =>
  K4 (some p62) (Int.toNat (IntKind.i64.wrap (m_2 + 1))) (Int.toNat (IntKind.i64.wrap (m_2 + 1))) (some p64) (Int.toNat (IntKind.i64.wrap (m_2 + 1))) (Int.toNat (IntKind.i64.wrap (m_2 + 1))) w65) ∧ ((mks w63 3 8 [.int .i64 0] (IntKind.i64.wrap (m_2 + 1)) (IntKind.i64.wrap (m_2 + 1)) fun p66 w67 =>
  K4 (some p62) (Int.toNat (IntKind.i64.wrap (m_2 + 1))) (Int.toNat (IntKind.i64.wrap (m_2 + 1))) (some p66) (Int.toNat (IntKind.i64.wrap (m_2 + 1))) (Int.toNat (IntKind.i64.wrap (m_2 + 1))) w67) ∧ True) ∧ True) ∧ (mks w49 3 8 [.int .i64 0] (IntKind.i64.wrap (m_2 + 1)) (IntKind.i64.wrap (m_2 + 1)) fun p68 w69 =>
  (mks w69 3 8 [.int .i64 0] (IntKind.i64.wrap (m_2 + 1)) (IntKind.i64.wrap (m_2 + 1)) fun p70 w71 =>
  K4 (some p70) (Int.toNat (IntKind.i64.wrap (m_2 + 1))) (Int.toNat (IntKind.i64.wrap (m_2 + 1))) (some p68) (Int.toNat (IntKind.i64.wrap (m_2 + 1))) (Int.toNat (IntKind.i64.wrap (m_2 + 1))) w71) ∧ True) ∧ True) ∧ True) ∧ True)
set_option maxRecDepth 100000 in
theorem e_editdistance_distances (n_1 : Int) (m_2 : Int) (same_3 : Fn) (same_3a : Array Value) (same_3b : Array Value) (R : Ending → World → Prop) (w : World) : fnV Tryd.prog Tryd.f78 an_editdistance_distances [.int .i64 n_1, .int .i64 m_2, .func same_3 same_3a same_3b] R w = sh_editdistance_distances n_1 m_2 same_3 same_3a same_3b R w := by kernel_rfl
theorem c_editdistance_distances {n_1 : Int} {m_2 : Int} {same_3 : Fn} {same_3a : Array Value} {same_3b : Array Value} {R : Ending → World → Prop} {w : World} (h : sh_editdistance_distances n_1 m_2 same_3 same_3a same_3b R w) : Calls Tryd.prog F_editdistance_distances ⟨[.int .i64 n_1, .int .i64 m_2, .func same_3 same_3a same_3b]⟩ w R := calls_of_fnV Tryd.func78 (by rw [e_editdistance_distances]; exact h)

def an_editdistance_equal_of_byte : Ann := .two (.leaf) (.two (.leaf) (.leaf))
def sh_editdistance_equal_of_byte (a_1 : Option Addr) (a_1n : Nat) (a_1c : Nat) (b_2 : Option Addr) (b_2n : Nat) (b_2c : Nat) (R : Ending → World → Prop) (w : World) : Prop :=
  al w 74 [.slice a_1 a_1n a_1c] fun p3 w4 =>
  al w4 74 [.slice b_2 b_2n b_2c] fun p5 w6 =>
  R (.returned (.func (.func 95) ⟨[]⟩ ⟨[.pointer (some p3), .pointer (some p5)]⟩)) w6
set_option maxRecDepth 100000 in
theorem e_editdistance_equal_of_byte (a_1 : Option Addr) (a_1n : Nat) (a_1c : Nat) (b_2 : Option Addr) (b_2n : Nat) (b_2c : Nat) (R : Ending → World → Prop) (w : World) : fnV Tryd.prog Tryd.f79 an_editdistance_equal_of_byte [.slice a_1 a_1n a_1c, .slice b_2 b_2n b_2c] R w = sh_editdistance_equal_of_byte a_1 a_1n a_1c b_2 b_2n b_2c R w := by kernel_rfl
theorem c_editdistance_equal_of_byte {a_1 : Option Addr} {a_1n : Nat} {a_1c : Nat} {b_2 : Option Addr} {b_2n : Nat} {b_2c : Nat} {R : Ending → World → Prop} {w : World} (h : sh_editdistance_equal_of_byte a_1 a_1n a_1c b_2 b_2n b_2c R w) : Calls Tryd.prog F_editdistance_equal_of_byte ⟨[.slice a_1 a_1n a_1c, .slice b_2 b_2n b_2c]⟩ w R := calls_of_fnV Tryd.func79 (by rw [e_editdistance_equal_of_byte]; exact h)

def an_hands_rebuilt_1 : Ann := .two (.leaf) (.two (.leaf) (.two (.two (.leaf) (.one (.loop 70368744176800 [(5, .one (.slice)), (10, .one (.int .i64))] (.two (.leaf) (.two (.two (.leaf) (.leaf)) (.two (.one (.two (.leaf) (.one (.two (.leaf) (.two (.leaf) (.two (.leaf) (.two (.two (.leaf) (.two (.leaf) (.two (.leaf) (.leaf)))) (.leaf)))))))) (.leaf))))))) (.two (.leaf) (.leaf))))
def sh_hands_rebuilt_1 (l_1 : Option Addr) (l_1n : Nat) (l_1c : Nat) (t1_2 : Option Addr) (t2_3 : Option Addr) (R : Ending → World → Prop) (w : World) : Prop :=
  ∃ (I4 : Option Addr → Nat → Nat → Int → World → Nat → Prop), (∃ m9 : Nat, I4 none 0 0 0 w m9) ∧ ∀ (out_5 : Option Addr) (out_5n : Nat) (out_5c : Nat) (t10_6 : Int) (w7 : World) (m8 : Nat), I4 out_5 out_5n out_5c t10_6 w7 m8 → ∀ _ : Env, (br (decide ((t10_6 : Int) < ((l_1n : Int)))) (idx l_1 l_1n t10_6 4 fun p10 =>
  ∃ (x11 : Int), World.cell? w7 (p10.add 0) = some (.int .i64 x11) ∧ (∃ (x12 : List UInt8), World.cell? w7 (p10.add 1) = some (.string ⟨⟨x12⟩⟩) ∧ (∃ (x13 : Int), World.cell? w7 (p10.add 2) = some (.int .i64 x13) ∧ (∃ (x14 : Option Addr) (x14n : Nat) (x14c : Nat), World.cell? w7 (p10.add 3) = some (.slice x14 x14n x14c) ∧ (al w7 56 [.int .i64 0, .string ⟨⟨[]⟩⟩, .int .i64 0, .slice none 0 0] fun p15 w16 =>
  stL w16 p15 0 [.int .i64 x11, .string ⟨⟨x12⟩⟩, .int .i64 x13, .slice x14 x14n x14c] fun w17 =>
  ∃ (x18 : Int), World.cell? w17 (p15.add 0) = some (.int .i64 x18) ∧ (∃ (x19 : List UInt8), World.cell? w17 (p15.add 1) = some (.string ⟨⟨x19⟩⟩) ∧ (∃ (x20 : Int), World.cell? w17 (p15.add 2) = some (.int .i64 x20) ∧ (∃ (x21 : Option Addr) (x21n : Nat) (x21c : Nat), World.cell? w17 (p15.add 3) = some (.slice x21 x21n x21c) ∧ (Calls Tryd.prog 43 ⟨[.agg ⟨[.int .i64 x18, .string ⟨⟨x19⟩⟩, .int .i64 x20, .slice x21 x21n x21c]⟩]⟩ w17 fun (e22 : Ending) (w23 : World) =>
  ∃ (x24 : Bool), e22 = .returned (.bool x24) ∧ (br x24 (dr t1_2 fun p25 =>
  ∃ (x26 : Fn) (x26a : Array Value) (x26b : Array Value), World.cell? w23 p25 = some (.func x26 x26a x26b) ∧ (∃ (x27 : Int), World.cell? w23 (p15.add 0) = some (.int .i64 x27) ∧ (∃ (x28 : List UInt8), World.cell? w23 (p15.add 1) = some (.string ⟨⟨x28⟩⟩) ∧ (∃ (x29 : Int), World.cell? w23 (p15.add 2) = some (.int .i64 x29) ∧ (∃ (x30 : Option Addr) (x30n : Nat) (x30c : Nat), World.cell? w23 (p15.add 3) = some (.slice x30 x30n x30c) ∧ (CallV Tryd.prog (.func x26 x26a x26b) [.agg ⟨[.int .i64 x27, .string ⟨⟨x28⟩⟩, .int .i64 x29, .slice x30 x30n x30c]⟩, .func (.func 81) ⟨[]⟩ ⟨[.pointer t2_3, .pointer (some p15)]⟩] w23 fun (e31 : Ending) (w32 : World) =>
  ∃ (x33 : Option Addr) (x33n : Nat) (x33c : Nat), e31 = .returned (.slice x33 x33n x33c) ∧ (app Tryd.prog [22, 22] 22 (.slice out_5 out_5n out_5c) (.slice x33 x33n x33c) w32 fun a34 a34n a34c w35 =>
  ∃ m36 : Nat, m36 < m8 ∧ I4 a34 a34n a34c (IntKind.i64.wrap (t10_6 + 1)) w35 m36))))))) (∃ (x37 : Option Addr) (x37n : Nat) (x37c : Nat), World.cell? w23 (p15.add 3) = some (.slice x37 x37n x37c) ∧ (br (decide ((0 : Int) < ((x37n : Int)))) (dr t2_3 fun p38 =>
  ∃ (x39 : Fn) (x39a : Array Value) (x39b : Array Value), World.cell? w23 p38 = some (.func x39 x39a x39b) ∧ (∃ (x40 : Option Addr) (x40n : Nat) (x40c : Nat), World.cell? w23 (p15.add 3) = some (.slice x40 x40n x40c) ∧ (CallV Tryd.prog (.func x39 x39a x39b) [.slice x40 x40n x40c] w23 fun (e41 : Ending) (w42 : World) =>
  ∃ (x43 : Option Addr) (x43n : Nat) (x43c : Nat), e41 = .returned (.slice x43 x43n x43c) ∧ (stL w42 (p15.add 3) 0 [.slice x43 x43n x43c] fun w44 =>
  ∃ (x45 : Option Addr) (x45n : Nat) (x45c : Nat), World.cell? w44 (p15.add 3) = some (.slice x45 x45n x45c) ∧ (br (decide ((0 : Int) < ((x45n : Int)))) (∃ (x46 : Int), World.cell? w44 (p15.add 0) = some (.int .i64 x46) ∧ (∃ (x47 : List UInt8), World.cell? w44 (p15.add 1) = some (.string ⟨⟨x47⟩⟩) ∧ (∃ (x48 : Int), World.cell? w44 (p15.add 2) = some (.int .i64 x48) ∧ (∃ (x49 : Option Addr) (x49n : Nat) (x49c : Nat), World.cell? w44 (p15.add 3) = some (.slice x49 x49n x49c) ∧ (al w44 56 [.int .i64 x46, .string ⟨⟨x47⟩⟩, .int .i64 x48, .slice x49 x49n x49c] fun p50 w51 =>
  app Tryd.prog [22, 22] 22 (.slice out_5 out_5n out_5c) (.slice (some p50) 1 1) w51 fun a52 a52n a52c w53 =>
  ∃ m54 : Nat, m54 < m8 ∧ I4 a52 a52n a52c (IntKind.i64.wrap (t10_6 + 1)) w53 m54))))) (∃ m55 : Nat, m55 < m8 ∧ I4 out_5 out_5n out_5c (IntKind.i64.wrap (t10_6 + 1)) w44 m55)))))) (∃ (x56 : Int), World.cell? w23 (p15.add 0) = some (.int .i64 x56) ∧ (∃ (x57 : List UInt8), World.cell? w23 (p15.add 1) = some (.string ⟨⟨x57⟩⟩) ∧ (∃ (x58 : Int), World.cell? w23 (p15.add 2) = some (.int .i64 x58) ∧ (∃ (x59 : Option Addr) (x59n : Nat) (x59c : Nat), World.cell? w23 (p15.add 3) = some (.slice x59 x59n x59c) ∧ (al w23 56 [.int .i64 x56, .string ⟨⟨x57⟩⟩, .int .i64 x58, .slice x59 x59n x59c] fun p60 w61 =>
  app Tryd.prog [22, 22] 22 (.slice out_5 out_5n out_5c) (.slice (some p60) 1 1) w61 fun a62 a62n a62c w63 =>
  ∃ m64 : Nat, m64 < m8 ∧ I4 a62 a62n a62c (IntKind.i64.wrap (t10_6 + 1)) w63 m64))))))))))))))))) (R (.returned (.slice out_5 out_5n out_5c)) w7))
set_option maxRecDepth 100000 in
theorem e_hands_rebuilt_1 (l_1 : Option Addr) (l_1n : Nat) (l_1c : Nat) (t1_2 : Option Addr) (t2_3 : Option Addr) (R : Ending → World → Prop) (w : World) : fnV Tryd.prog Tryd.f80 an_hands_rebuilt_1 [.slice l_1 l_1n l_1c, .pointer t1_2, .pointer t2_3] R w = sh_hands_rebuilt_1 l_1 l_1n l_1c t1_2 t2_3 R w := by kernel_rfl
theorem c_hands_rebuilt_1 {l_1 : Option Addr} {l_1n : Nat} {l_1c : Nat} {t1_2 : Option Addr} {t2_3 : Option Addr} {R : Ending → World → Prop} {w : World} (h : sh_hands_rebuilt_1 l_1 l_1n l_1c t1_2 t2_3 R w) : Calls Tryd.prog F_hands_rebuilt_1 ⟨[.slice l_1 l_1n l_1c, .pointer t1_2, .pointer t2_3]⟩ w R := calls_of_fnV Tryd.func80 (by rw [e_hands_rebuilt_1]; exact h)

def an_hands_rebuilt_1_1 : Ann := .two (.leaf) (.two (.leaf) (.leaf))
def sh_hands_rebuilt_1_1 (t0_1 : Option Addr) (t1_2 : Option Addr) (R : Ending → World → Prop) (w : World) : Prop :=
  dr t0_1 fun p3 =>
  ∃ (x4 : Fn) (x4a : Array Value) (x4b : Array Value), World.cell? w p3 = some (.func x4 x4a x4b) ∧ (dr t1_2 fun p5 =>
  ∃ (x6 : Option Addr) (x6n : Nat) (x6c : Nat), World.cell? w (p5.add 3) = some (.slice x6 x6n x6c) ∧ (CallV Tryd.prog (.func x4 x4a x4b) [.slice x6 x6n x6c] w fun (e7 : Ending) (w8 : World) =>
  ∃ (x9 : Option Addr) (x9n : Nat) (x9c : Nat), e7 = .returned (.slice x9 x9n x9c) ∧ (R (.returned (.slice x9 x9n x9c)) w8)))
set_option maxRecDepth 100000 in
theorem e_hands_rebuilt_1_1 (t0_1 : Option Addr) (t1_2 : Option Addr) (R : Ending → World → Prop) (w : World) : fnV Tryd.prog Tryd.f81 an_hands_rebuilt_1_1 [.pointer t0_1, .pointer t1_2] R w = sh_hands_rebuilt_1_1 t0_1 t1_2 R w := by kernel_rfl
theorem c_hands_rebuilt_1_1 {t0_1 : Option Addr} {t1_2 : Option Addr} {R : Ending → World → Prop} {w : World} (h : sh_hands_rebuilt_1_1 t0_1 t1_2 R w) : Calls Tryd.prog F_hands_rebuilt_1_1 ⟨[.pointer t0_1, .pointer t1_2]⟩ w R := calls_of_fnV Tryd.func81 (by rw [e_hands_rebuilt_1_1]; exact h)

def an_transcript_Merge : Ann := .two (.leaf) (.two (.leaf) (.two (.two (.leaf) (.one (.loop 288230376151711336 [(3, .one (.slice)), (9, .one (.int .i64))] (.two (.leaf) (.two (.two (.leaf) (.leaf)) (.two (.one (.two (.leaf) (.cut 2088960 [] (.two (.leaf) (.two (.leaf) (.leaf))) (.two (.two (.leaf) (.cut 549739036672 [(38, .one (.bool))] (.leaf) (.two (.two (.leaf) (.leaf)) (.leaf)))) (.two (.leaf) (.leaf)))))) (.leaf))))))) (.two (.leaf) (.leaf))))
def sh_transcript_Merge (l_1 : Option Addr) (l_1n : Nat) (l_1c : Nat) (R : Ending → World → Prop) (w : World) : Prop :=
  ∃ (I2 : Option Addr → Nat → Nat → Int → World → Nat → Prop), (∃ m7 : Nat, I2 none 0 0 0 w m7) ∧ ∀ (out_3 : Option Addr) (out_3n : Nat) (out_3c : Nat) (t9_4 : Int) (w5 : World) (m6 : Nat), I2 out_3 out_3n out_3c t9_4 w5 m6 → ∀ _ : Env, (br (decide ((t9_4 : Int) < ((l_1n : Int)))) (idx l_1 l_1n t9_4 4 fun p8 =>
  ∃ (x9 : Int), World.cell? w5 (p8.add 0) = some (.int .i64 x9) ∧ (∃ (x10 : List UInt8), World.cell? w5 (p8.add 1) = some (.string ⟨⟨x10⟩⟩) ∧ (∃ (x11 : Int), World.cell? w5 (p8.add 2) = some (.int .i64 x11) ∧ (∃ (x12 : Option Addr) (x12n : Nat) (x12c : Nat), World.cell? w5 (p8.add 3) = some (.slice x12 x12n x12c) ∧ (al w5 56 [.int .i64 0, .string ⟨⟨[]⟩⟩, .int .i64 0, .slice none 0 0] fun p13 w14 =>
  stL w14 p13 0 [.int .i64 x9, .string ⟨⟨x10⟩⟩, .int .i64 x11, .slice x12 x12n x12c] fun w15 =>
  ∀ (K16 : World → Prop), (∀  (w17 : World), (∀ _ : Env, (∀ (K18 : Bool → World → Prop), (∀ (t38_19 : Bool) (w20 : World), (∀ _ : Env, (br t38_19 (drw w20 fun w21 =>
  idx out_3 out_3n (IntKind.i64.wrap (((out_3n : Int)) - 1)) 4 fun p22 =>
  ∃ (x23 : List UInt8), World.cell? w21 (p22.add 1) = some (.string ⟨⟨x23⟩⟩) ∧ (∃ (x24 : List UInt8), World.cell? w21 (p13.add 1) = some (.string ⟨⟨x24⟩⟩) ∧ (sadd x23 x24 fun s25 =>
  idx out_3 out_3n (IntKind.i64.wrap (((out_3n : Int)) - 1)) 4 fun p26 =>
  (stL w21 (p26.add 1) 0 [.string ⟨⟨s25⟩⟩] fun w27 =>
  ∃ m28 : Nat, m28 < m6 ∧ I2 out_3 out_3n out_3c (IntKind.i64.wrap (t9_4 + 1)) w27 m28) ∧ True))) (∃ (x29 : Option Addr) (x29n : Nat) (x29c : Nat), World.cell? w20 (p13.add 3) = some (.slice x29 x29n x29c) ∧ (Calls Tryd.prog 82 ⟨[.slice x29 x29n x29c]⟩ w20 fun (e30 : Ending) (w31 : World) =>
  ∃ (x32 : Option Addr) (x32n : Nat) (x32c : Nat), e30 = .returned (.slice x32 x32n x32c) ∧ (stL w31 (p13.add 3) 0 [.slice x32 x32n x32c] fun w33 =>
  ∃ (x34 : Int), World.cell? w33 (p13.add 0) = some (.int .i64 x34) ∧ (∃ (x35 : List UInt8), World.cell? w33 (p13.add 1) = some (.string ⟨⟨x35⟩⟩) ∧ (∃ (x36 : Int), World.cell? w33 (p13.add 2) = some (.int .i64 x36) ∧ (∃ (x37 : Option Addr) (x37n : Nat) (x37c : Nat), World.cell? w33 (p13.add 3) = some (.slice x37 x37n x37c) ∧ (al w33 56 [.int .i64 x34, .string ⟨⟨x35⟩⟩, .int .i64 x36, .slice x37 x37n x37c] fun p38 w39 =>
  app Tryd.prog [22, 22] 22 (.slice out_3 out_3n out_3c) (.slice (some p38) 1 1) w39 fun a40 a40n a40c w41 =>
  ∃ m42 : Nat, m42 < m6 ∧ I2 a40 a40n a40c (IntKind.i64.wrap (t9_4 + 1)) w41 m42))))))))) → K18 t38_19 w20) → (br (decide ((0 : Int) ≤ (IntKind.i64.wrap (((out_3n : Int)) - 1)))) (∃ (x43 : Int), World.cell? w17 (p13.add 0) = some (.int .i64 x43) ∧ (br (decide ((x43 : Int) = 1)) (idx out_3 out_3n (IntKind.i64.wrap (((out_3n : Int)) - 1)) 4 fun p44 =>
  ∃ (x45 : Int), World.cell? w17 (p44.add 0) = some (.int .i64 x45) ∧ (K18 (decide ((x45 : Int) = 1)) w17)) (K18 false w17))) (K18 false w17)))) → K16 w17) → (∃ (x46 : Int), World.cell? w15 (p13.add 0) = some (.int .i64 x46) ∧ (br (decide ((x46 : Int) = 1)) (∃ (x47 : List UInt8), World.cell? w15 (p13.add 1) = some (.string ⟨⟨x47⟩⟩) ∧ (br (decide ((x47 : List UInt8) = ([]))) (∃ m48 : Nat, m48 < m6 ∧ I2 out_3 out_3n out_3c (IntKind.i64.wrap (t9_4 + 1)) w15 m48) (K16 w15))) (K16 w15)))))))) (R (.returned (.slice out_3 out_3n out_3c)) w5))
set_option maxRecDepth 100000 in
theorem e_transcript_Merge (l_1 : Option Addr) (l_1n : Nat) (l_1c : Nat) (R : Ending → World → Prop) (w : World) : fnV Tryd.prog Tryd.f82 an_transcript_Merge [.slice l_1 l_1n l_1c] R w = sh_transcript_Merge l_1 l_1n l_1c R w := by kernel_rfl
theorem c_transcript_Merge {l_1 : Option Addr} {l_1n : Nat} {l_1c : Nat} {R : Ending → World → Prop} {w : World} (h : sh_transcript_Merge l_1 l_1n l_1c R w) : Calls Tryd.prog F_transcript_Merge ⟨[.slice l_1 l_1n l_1c]⟩ w R := calls_of_fnV Tryd.func82 (by rw [e_transcript_Merge]; exact h)

def an_ref10_size : Ann := .two (.leaf) (.two (.leaf) (.two (.two (.leaf) (.one (.loop 576460752303423424 [(9, .one (.int .i64)), (10, .one (.int .i64)), (11, .one (.int .i64))] (.two (.two (.leaf) (.two (.leaf) (.leaf))) (.two (.one (.two (.leaf) (.two (.two (.leaf) (.two (.two (.leaf) (.leaf)) (.leaf))) (.two (.two (.leaf) (.two (.leaf) (.leaf))) (.two (.two (.leaf) (.two (.two (.leaf) (.leaf)) (.leaf))) (.two (.leaf) (.two (.two (.leaf) (.two (.two (.leaf) (.leaf)) (.leaf))) (.two (.leaf) (.leaf))))))))) (.leaf)))))) (.two (.leaf) (.leaf))))
def sh_ref10_size (l_1 : Option Addr) (l_1n : Nat) (l_1c : Nat) (depth_2 : Int) (most_3 : Int) (R : Ending → World → Prop) (w : World) : Prop :=
  ∃ (I4 : Int → Int → Int → World → Nat → Prop), (∃ m10 : Nat, I4 0 0 0 w m10) ∧ ∀ (n_5 : Int) (deep_6 : Int) (i_7 : Int) (w8 : World) (m9 : Nat), I4 n_5 deep_6 i_7 w8 m9 → ∀ _ : Env, (br (decide ((i_7 : Int) < ((l_1n : Int)))) (br (decide ((most_3 : Int) < (IntKind.i64.wrap (n_5 + 1)))) (R (.returned (.tuple ⟨[.int .i64 0, .int .i64 0, .bool false]⟩)) w8) (idx l_1 l_1n i_7 4 fun p11 =>
  ∃ (x12 : Option Addr) (x12n : Nat) (x12c : Nat), World.cell? w8 (p11.add 3) = some (.slice x12 x12n x12c) ∧ (br (decide ((((x12n : Int)) : Int) = 0)) (∃ m13 : Nat, m13 < m9 ∧ I4 (IntKind.i64.wrap (n_5 + 1)) deep_6 (IntKind.i64.wrap (i_7 + 1)) w8 m13) (br (decide ((depth_2 : Int) = 0)) (R (.returned (.tuple ⟨[.int .i64 0, .int .i64 0, .bool false]⟩)) w8) (idx l_1 l_1n i_7 4 fun p14 =>
  ∃ (x15 : Option Addr) (x15n : Nat) (x15c : Nat), World.cell? w8 (p14.add 3) = some (.slice x15 x15n x15c) ∧ (Calls Tryd.prog 83 ⟨[.slice x15 x15n x15c, .int .i64 (IntKind.i64.wrap (depth_2 - 1)), .int .i64 (IntKind.i64.wrap (most_3 - (IntKind.i64.wrap (n_5 + 1))))]⟩ w8 fun (e16 : Ending) (w17 : World) =>
  ∃ (x18 : Int) (x19 : Int) (x20 : Bool), e16 = .returned (.tuple ⟨[.int .i64 x18, .int .i64 x19, .bool x20]⟩) ∧ (br (!x20) (R (.returned (.tuple ⟨[.int .i64 0, .int .i64 0, .bool false]⟩)) w17) (∃ m21 : Nat, m21 < m9 ∧ I4 (IntKind.i64.wrap ((IntKind.i64.wrap (n_5 + 1)) + x18)) ((max deep_6 (IntKind.i64.wrap (x19 + 1)))) (IntKind.i64.wrap (i_7 + 1)) w17 m21)))))))) (R (.returned (.tuple ⟨[.int .i64 n_5, .int .i64 deep_6, .bool true]⟩)) w8))
set_option maxRecDepth 100000 in
theorem e_ref10_size (l_1 : Option Addr) (l_1n : Nat) (l_1c : Nat) (depth_2 : Int) (most_3 : Int) (R : Ending → World → Prop) (w : World) : fnV Tryd.prog Tryd.f83 an_ref10_size [.slice l_1 l_1n l_1c, .int .i64 depth_2, .int .i64 most_3] R w = sh_ref10_size l_1 l_1n l_1c depth_2 most_3 R w := by kernel_rfl
theorem c_ref10_size {l_1 : Option Addr} {l_1n : Nat} {l_1c : Nat} {depth_2 : Int} {most_3 : Int} {R : Ending → World → Prop} {w : World} (h : sh_ref10_size l_1 l_1n l_1c depth_2 most_3 R w) : Calls Tryd.prog F_ref10_size ⟨[.slice l_1 l_1n l_1c, .int .i64 depth_2, .int .i64 most_3]⟩ w R := calls_of_fnV Tryd.func83 (by rw [e_ref10_size]; exact h)

def an_ref10_all : Ann := .two (.leaf) (.two (.two (.leaf) (.one (.loop 8796093022192 [(5, .one (.int .i64))] (.two (.two (.leaf) (.two (.leaf) (.leaf))) (.two (.one (.two (.cut 2147467328 [(6, .one (.int .i64))] (.leaf) (.two (.leaf) (.two (.two (.leaf) (.leaf)) (.leaf)))) (.two (.leaf) (.two (.leaf) (.two (.two (.leaf) (.leaf)) (.leaf)))))) (.leaf)))))) (.two (.leaf) (.leaf)))
def sh_ref10_all (l_1 : Option Addr) (l_1n : Nat) (l_1c : Nat) (within_2 : Bool) (R : Ending → World → Prop) (w : World) : Prop :=
  ∃ (I3 : Int → World → Nat → Prop), (∃ m7 : Nat, I3 0 w m7) ∧ ∀ (i_4 : Int) (w5 : World) (m6 : Nat), I3 i_4 w5 m6 → ∀ _ : Env, (br (decide ((i_4 : Int) < ((l_1n : Int)))) (∀ (K8 : Int → World → Prop), (∀ (e_9 : Int) (w10 : World), (∀ _ : Env, (br (decide ((e_9 : Int) ≠ 0)) (R (.returned (.int .i64 e_9)) w10) (idx l_1 l_1n i_4 4 fun p11 =>
  ∃ (x12 : Option Addr) (x12n : Nat) (x12c : Nat), World.cell? w10 (p11.add 3) = some (.slice x12 x12n x12c) ∧ (Calls Tryd.prog 84 ⟨[.slice x12 x12n x12c, .bool true]⟩ w10 fun (e13 : Ending) (w14 : World) =>
  ∃ (x15 : Int), e13 = .returned (.int .i64 x15) ∧ (br (decide ((x15 : Int) ≠ 0)) (R (.returned (.int .i64 x15)) w14) (∃ m16 : Nat, m16 < m6 ∧ I3 (IntKind.i64.wrap (i_4 + 1)) w14 m16)))))) → K8 e_9 w10) → (drw w5 fun w17 =>
  idx l_1 l_1n i_4 4 fun p18 =>
  ∃ (x19 : Int), World.cell? w17 (p18.add 0) = some (.int .i64 x19) ∧ (∃ (x20 : List UInt8), World.cell? w17 (p18.add 1) = some (.string ⟨⟨x20⟩⟩) ∧ (∃ (x21 : Int), World.cell? w17 (p18.add 2) = some (.int .i64 x21) ∧ (∃ (x22 : Option Addr) (x22n : Nat) (x22c : Nat), World.cell? w17 (p18.add 3) = some (.slice x22 x22n x22c) ∧ (br (decide ((0 : Int) < i_4)) (idx l_1 l_1n (IntKind.i64.wrap (i_4 - 1)) 4 fun p23 =>
  ∃ (x24 : Int), World.cell? w17 (p23.add 0) = some (.int .i64 x24) ∧ ((Calls Tryd.prog 96 ⟨[.agg ⟨[.int .i64 x19, .string ⟨⟨x20⟩⟩, .int .i64 x21, .slice x22 x22n x22c]⟩, .bool (decide ((x24 : Int) = 1)), .bool within_2]⟩ w17 fun (e25 : Ending) (w26 : World) =>
  ∃ (x27 : Int), e25 = .returned (.int .i64 x27) ∧ (K8 x27 w26)) ∧ True)) ((Calls Tryd.prog 96 ⟨[.agg ⟨[.int .i64 x19, .string ⟨⟨x20⟩⟩, .int .i64 x21, .slice x22 x22n x22c]⟩, .bool false, .bool within_2]⟩ w17 fun (e28 : Ending) (w29 : World) =>
  ∃ (x30 : Int), e28 = .returned (.int .i64 x30) ∧ (K8 x30 w29)) ∧ True))))))) (R (.returned (.int .i64 0)) w5))
set_option maxRecDepth 100000 in
theorem e_ref10_all (l_1 : Option Addr) (l_1n : Nat) (l_1c : Nat) (within_2 : Bool) (R : Ending → World → Prop) (w : World) : fnV Tryd.prog Tryd.f84 an_ref10_all [.slice l_1 l_1n l_1c, .bool within_2] R w = sh_ref10_all l_1 l_1n l_1c within_2 R w := by kernel_rfl
theorem c_ref10_all {l_1 : Option Addr} {l_1n : Nat} {l_1c : Nat} {within_2 : Bool} {R : Ending → World → Prop} {w : World} (h : sh_ref10_all l_1 l_1n l_1c within_2 R w) : Calls Tryd.prog F_ref10_all ⟨[.slice l_1 l_1n l_1c, .bool within_2]⟩ w R := calls_of_fnV Tryd.func84 (by rw [e_ref10_all]; exact h)

def an_ref10_print : Ann := .two (.leaf) (.two (.leaf) (.two (.two (.leaf) (.one (.loop 147573952589676412920 [(3, .one (.str)), (4, .one (.int .i64))] (.two (.two (.leaf) (.two (.leaf) (.leaf))) (.two (.one (.two (.leaf) (.two (.two (.leaf) (.two (.two (.leaf) (.leaf)) (.leaf))) (.two (.leaf) (.cut 68451041344 [(6, .one (.str))] (.two (.leaf) (.two (.leaf) (.leaf))) (.cut 35115652612160 [(6, .one (.str))] (.two (.leaf) (.two (.leaf) (.leaf))) (.two (.two (.leaf) (.two (.two (.leaf) (.leaf)) (.leaf))) (.leaf)))))))) (.leaf)))))) (.two (.leaf) (.leaf))))
def sh_ref10_print (l_1 : Option Addr) (l_1n : Nat) (l_1c : Nat) (R : Ending → World → Prop) (w : World) : Prop :=
  ∃ (I2 : List UInt8 → Int → World → Nat → Prop), (∃ m7 : Nat, I2 ([]) 0 w m7) ∧ ∀ (out_3 : List UInt8) (i_4 : Int) (w5 : World) (m6 : Nat), I2 out_3 i_4 w5 m6 → ∀ _ : Env, (br (decide ((i_4 : Int) < ((l_1n : Int)))) (idx l_1 l_1n i_4 4 fun p8 =>
  ∃ (x9 : Int), World.cell? w5 (p8.add 0) = some (.int .i64 x9) ∧ (∃ (x10 : List UInt8), World.cell? w5 (p8.add 1) = some (.string ⟨⟨x10⟩⟩) ∧ (∃ (x11 : Int), World.cell? w5 (p8.add 2) = some (.int .i64 x11) ∧ (∃ (x12 : Option Addr) (x12n : Nat) (x12c : Nat), World.cell? w5 (p8.add 3) = some (.slice x12 x12n x12c) ∧ (al w5 56 [.int .i64 0, .string ⟨⟨[]⟩⟩, .int .i64 0, .slice none 0 0] fun p13 w14 =>
  stL w14 p13 0 [.int .i64 x9, .string ⟨⟨x10⟩⟩, .int .i64 x11, .slice x12 x12n x12c] fun w15 =>
  ∃ (x16 : Int), World.cell? w15 (p13.add 0) = some (.int .i64 x16) ∧ (br (decide ((x16 : Int) = 1)) (∃ (x17 : List UInt8), World.cell? w15 (p13.add 1) = some (.string ⟨⟨x17⟩⟩) ∧ (sadd out_3 x17 fun s18 =>
  ∃ m19 : Nat, m19 < m6 ∧ I2 s18 (IntKind.i64.wrap (i_4 + 1)) w15 m19)) (∃ (x20 : Int), World.cell? w15 (p13.add 0) = some (.int .i64 x20) ∧ (Calls Tryd.prog 97 ⟨[.int .i64 x20]⟩ w15 fun (e21 : Ending) (w22 : World) =>
  ∃ (x23 : List UInt8), e21 = .returned (.string ⟨⟨x23⟩⟩) ∧ (sadd ([60]) x23 fun s24 =>
  ∀ (K25 : List UInt8 → World → Prop), (∀ (tag_26 : List UInt8) (w27 : World), (∀ _ : Env, (∀ (K28 : List UInt8 → World → Prop), (∀ (tag_29 : List UInt8) (w30 : World), (∀ _ : Env, (∃ (x31 : Int), World.cell? w30 (p13.add 0) = some (.int .i64 x31) ∧ (Calls Tryd.prog 100 ⟨[.int .i64 x31]⟩ w30 fun (e32 : Ending) (w33 : World) =>
  ∃ (x34 : Bool), e32 = .returned (.bool x34) ∧ (br (!x34) (sadd out_3 tag_29 fun s35 =>
  sadd s35 ([47, 62]) fun s36 =>
  ∃ m37 : Nat, m37 < m6 ∧ I2 s36 (IntKind.i64.wrap (i_4 + 1)) w33 m37) (drw w33 fun w38 =>
  sadd out_3 tag_29 fun s39 =>
  sadd s39 ([62]) fun s40 =>
  ∃ (x41 : Option Addr) (x41n : Nat) (x41c : Nat), World.cell? w38 (p13.add 3) = some (.slice x41 x41n x41c) ∧ ((Calls Tryd.prog 85 ⟨[.slice x41 x41n x41c]⟩ w38 fun (e42 : Ending) (w43 : World) =>
  ∃ (x44 : List UInt8), e42 = .returned (.string ⟨⟨x44⟩⟩) ∧ (sadd s40 x44 fun s45 =>
  sadd s45 ([60, 47]) fun s46 =>
  ∃ (x47 : Int), World.cell? w43 (p13.add 0) = some (.int .i64 x47) ∧ ((Calls Tryd.prog 97 ⟨[.int .i64 x47]⟩ w43 fun (e48 : Ending) (w49 : World) =>
  ∃ (x50 : List UInt8), e48 = .returned (.string ⟨⟨x50⟩⟩) ∧ (sadd s46 x50 fun s51 =>
  sadd s51 ([62]) fun s52 =>
  ∃ m53 : Nat, m53 < m6 ∧ I2 s52 (IntKind.i64.wrap (i_4 + 1)) w49 m53)) ∧ True))) ∧ ((Calls Tryd.prog 85 ⟨[.slice x41 x41n x41c]⟩ w38 fun (e54 : Ending) (w55 : World) =>
  ∃ (x56 : List UInt8), e54 = .returned (.string ⟨⟨x56⟩⟩) ∧ (sadd s40 x56 fun s57 =>
  sadd s57 ([60, 47]) fun s58 =>
  ∃ (x59 : Int), World.cell? w55 (p13.add 0) = some (.int .i64 x59) ∧ ((Calls Tryd.prog 97 ⟨[.int .i64 x59]⟩ w55 fun (e60 : Ending) (w61 : World) =>
  ∃ (x62 : List UInt8), e60 = .returned (.string ⟨⟨x62⟩⟩) ∧ (sadd s58 x62 fun s63 =>
  sadd s63 ([62]) fun s64 =>
  ∃ m65 : Nat, m65 < m6 ∧ I2 s64 (IntKind.i64.wrap (i_4 + 1)) w61 m65)) ∧ True))) ∧ (∃ (x66 : Int), World.cell? w38 (p13.add 0) = some (.int .i64 x66) ∧ ((Calls Tryd.prog 85 ⟨[.slice x41 x41n x41c]⟩ w38 fun (e67 : Ending) (w68 : World) =>
  ∃ (x69 : List UInt8), e67 = .returned (.string ⟨⟨x69⟩⟩) ∧ (sadd s40 x69 fun s70 =>
  sadd s70 ([60, 47]) fun s71 =>
  (Calls Tryd.prog 97 ⟨[.int .i64 x66]⟩ w68 fun (e72 : Ending) (w73 : World) =>
  ∃ (x74 : List UInt8), e72 = .returned (.string ⟨⟨x74⟩⟩) ∧ (sadd s71 x74 fun s75 =>
  sadd s75 ([62]) fun s76 =>
  ∃ m77 : Nat, m77 < m6 ∧ I2 s76 (IntKind.i64.wrap (i_4 + 1)) w73 m77)) ∧ True)) ∧ True)) ∧ True) ∧ True)))))) → K28 tag_29 w30) → (∃ (x78 : Int), World.cell? w27 (p13.add 0) = some (.int .i64 x78) ∧ (Calls Tryd.prog 99 ⟨[.int .i64 x78]⟩ w27 fun (e79 : Ending) (w80 : World) =>
  ∃ (x81 : Bool), e79 = .returned (.bool x81) ∧ (br x81 (sadd tag_26 ([32]) fun s82 =>
  ∃ (x83 : Int), World.cell? w80 (p13.add 2) = some (.int .i64 x83) ∧ (Calls Tryd.prog 91 ⟨[.int .i64 x83]⟩ w80 fun (e84 : Ending) (w85 : World) =>
  ∃ (x86 : List UInt8), e84 = .returned (.string ⟨⟨x86⟩⟩) ∧ (sadd s82 x86 fun s87 =>
  K28 s87 w85))) (K28 tag_26 w80)))))) → K25 tag_26 w27) → (∃ (x88 : Int), World.cell? w22 (p13.add 0) = some (.int .i64 x88) ∧ (Calls Tryd.prog 98 ⟨[.int .i64 x88]⟩ w22 fun (e89 : Ending) (w90 : World) =>
  ∃ (x91 : Bool), e89 = .returned (.bool x91) ∧ (br x91 (sadd s24 ([32]) fun s92 =>
  ∃ (x93 : List UInt8), World.cell? w90 (p13.add 1) = some (.string ⟨⟨x93⟩⟩) ∧ (sadd s92 x93 fun s94 =>
  K25 s94 w90)) (K25 s24 w90))))))))))))) (R (.returned (.string ⟨⟨out_3⟩⟩)) w5))
set_option maxRecDepth 100000 in
theorem e_ref10_print (l_1 : Option Addr) (l_1n : Nat) (l_1c : Nat) (R : Ending → World → Prop) (w : World) : fnV Tryd.prog Tryd.f85 an_ref10_print [.slice l_1 l_1n l_1c] R w = sh_ref10_print l_1 l_1n l_1c R w := by kernel_rfl
theorem c_ref10_print {l_1 : Option Addr} {l_1n : Nat} {l_1c : Nat} {R : Ending → World → Prop} {w : World} (h : sh_ref10_print l_1 l_1n l_1c R w) : Calls Tryd.prog F_ref10_print ⟨[.slice l_1 l_1n l_1c]⟩ w R := calls_of_fnV Tryd.func85 (by rw [e_ref10_print]; exact h)

def an_charset_clusters : Ann := .two (.leaf) (.two (.leaf) (.leaf))
def sh_charset_clusters (s_1 : List UInt8) (R : Ending → World → Prop) (w : World) : Prop :=
  al w 9 [.string ⟨⟨s_1⟩⟩] fun p2 w3 =>
  R (.returned (.func (.func 101) ⟨[]⟩ ⟨[.pointer (some p2)]⟩)) w3
set_option maxRecDepth 100000 in
theorem e_charset_clusters (s_1 : List UInt8) (R : Ending → World → Prop) (w : World) : fnV Tryd.prog Tryd.f86 an_charset_clusters [.string ⟨⟨s_1⟩⟩] R w = sh_charset_clusters s_1 R w := by kernel_rfl
theorem c_charset_clusters {s_1 : List UInt8} {R : Ending → World → Prop} {w : World} (h : sh_charset_clusters s_1 R w) : Calls Tryd.prog F_charset_clusters ⟨[.string ⟨⟨s_1⟩⟩]⟩ w R := calls_of_fnV Tryd.func86 (by rw [e_charset_clusters]; exact h)

def an_charset_Kind : Ann := .two (.leaf) (.two (.one (.cut 262136 [(3, .one (.bool))] (.leaf) (.two (.two (.leaf) (.leaf)) (.cut 536608768 [(18, .one (.bool))] (.leaf) (.two (.two (.leaf) (.leaf)) (.cut 68182605824 [(29, .one (.bool))] (.leaf) (.two (.two (.leaf) (.leaf)) (.two (.leaf) (.two (.two (.leaf) (.leaf)) (.two (.leaf) (.two (.two (.leaf) (.leaf)) (.two (.leaf) (.two (.two (.leaf) (.leaf)) (.leaf)))))))))))))) (.two (.leaf) (.leaf)))
def sh_charset_Kind (c_1 : Int) (R : Ending → World → Prop) (w : World) : Prop :=
  ∀ (K2 : Bool → World → Prop), (∀ (t3_3 : Bool) (w4 : World), (∀ _ : Env, (br t3_3 (R (.returned (.int .i64 1)) w4) (∀ (K5 : Bool → World → Prop), (∀ (t18_6 : Bool) (w7 : World), (∀ _ : Env, (br t18_6 (R (.returned (.int .i64 2)) w7) (∀ (K8 : Bool → World → Prop), (∀ (t29_9 : Bool) (w10 : World), (∀ _ : Env, (br t29_9 (R (.returned (.int .i64 3)) w10) (br (decide ((c_1 : Int) = 39)) (R (.returned (.int .i64 4)) w10) (br (decide ((c_1 : Int) = 32)) (R (.returned (.int .i64 6)) w10) (br (decide ((c_1 : Int) ≠ 0)) (Calls Tryd.prog 103 ⟨[.string ⟨⟨[46, 44, 59, 58, 33, 63, 40, 41, 45]⟩⟩, .int .u8 c_1]⟩ w10 fun (e11 : Ending) (w12 : World) =>
  ∃ (x13 : Int), e11 = .returned (.int .i64 x13) ∧ (br (decide ((0 : Int) ≤ x13)) (R (.returned (.int .i64 5)) w12) (R (.returned (.int .i64 0)) w12))) (R (.returned (.int .i64 0)) w10)))))) → K8 t29_9 w10) → (br (decide ((48 : Int) ≤ c_1)) (K8 (decide ((c_1 : Int) ≤ 57)) w7) (K8 false w7))))) → K5 t18_6 w7) → (br (decide ((c_1 : Int) = 94)) (K5 true w4) (br (decide ((c_1 : Int) = 126)) (K5 true w4) (K5 (decide ((c_1 : Int) = 37)) w4)))))) → K2 t3_3 w4) → (br (decide ((97 : Int) ≤ c_1)) (br (decide ((c_1 : Int) ≤ 122)) (K2 true w) (br (decide ((65 : Int) ≤ c_1)) (K2 (decide ((c_1 : Int) ≤ 90)) w) (K2 false w))) (br (decide ((65 : Int) ≤ c_1)) (K2 (decide ((c_1 : Int) ≤ 90)) w) (K2 false w)))
set_option maxRecDepth 100000 in
theorem e_charset_Kind (c_1 : Int) (R : Ending → World → Prop) (w : World) : fnV Tryd.prog Tryd.f87 an_charset_Kind [.int .u8 c_1] R w = sh_charset_Kind c_1 R w := by kernel_rfl
theorem c_charset_Kind {c_1 : Int} {R : Ending → World → Prop} {w : World} (h : sh_charset_Kind c_1 R w) : Calls Tryd.prog F_charset_Kind ⟨[.int .u8 c_1]⟩ w R := calls_of_fnV Tryd.func87 (by rw [e_charset_Kind]; exact h)

def an_slices_ContainsFunc_of_byte_byte : Ann := .two (.leaf) (.two (.leaf) (.leaf))
def sh_slices_ContainsFunc_of_byte_byte (s_1 : Option Addr) (s_1n : Nat) (s_1c : Nat) (f_2 : Fn) (f_2a : Array Value) (f_2b : Array Value) (R : Ending → World → Prop) (w : World) : Prop :=
  Calls Tryd.prog 104 ⟨[.slice s_1 s_1n s_1c, .func f_2 f_2a f_2b]⟩ w fun (e3 : Ending) (w4 : World) =>
  ∃ (x5 : Int), e3 = .returned (.int .i64 x5) ∧ (R (.returned (.bool (decide ((0 : Int) ≤ x5)))) w4)
set_option maxRecDepth 100000 in
theorem e_slices_ContainsFunc_of_byte_byte (s_1 : Option Addr) (s_1n : Nat) (s_1c : Nat) (f_2 : Fn) (f_2a : Array Value) (f_2b : Array Value) (R : Ending → World → Prop) (w : World) : fnV Tryd.prog Tryd.f88 an_slices_ContainsFunc_of_byte_byte [.slice s_1 s_1n s_1c, .func f_2 f_2a f_2b] R w = sh_slices_ContainsFunc_of_byte_byte s_1 s_1n s_1c f_2 f_2a f_2b R w := by kernel_rfl
theorem c_slices_ContainsFunc_of_byte_byte {s_1 : Option Addr} {s_1n : Nat} {s_1c : Nat} {f_2 : Fn} {f_2a : Array Value} {f_2b : Array Value} {R : Ending → World → Prop} {w : World} (h : sh_slices_ContainsFunc_of_byte_byte s_1 s_1n s_1c f_2 f_2a f_2b R w) : Calls Tryd.prog F_slices_ContainsFunc_of_byte_byte ⟨[.slice s_1 s_1n s_1c, .func f_2 f_2a f_2b]⟩ w R := calls_of_fnV Tryd.func88 (by rw [e_slices_ContainsFunc_of_byte_byte]; exact h)

def an_charset_IsWord_1 : Ann := .two (.leaf) (.two (.leaf) (.two (.leaf) (.leaf)))
def sh_charset_IsWord_1 (c_1 : Int) (R : Ending → World → Prop) (w : World) : Prop :=
  Calls Tryd.prog 87 ⟨[.int .u8 c_1]⟩ w fun (e2 : Ending) (w3 : World) =>
  ∃ (x4 : Int), e2 = .returned (.int .i64 x4) ∧ (br (decide ((x4 : Int) = 5)) (R (.returned (.bool true)) w3) (R (.returned (.bool (decide ((x4 : Int) = 6)))) w3))
set_option maxRecDepth 100000 in
theorem e_charset_IsWord_1 (c_1 : Int) (R : Ending → World → Prop) (w : World) : fnV Tryd.prog Tryd.f89 an_charset_IsWord_1 [.int .u8 c_1] R w = sh_charset_IsWord_1 c_1 R w := by kernel_rfl
theorem c_charset_IsWord_1 {c_1 : Int} {R : Ending → World → Prop} {w : World} (h : sh_charset_IsWord_1 c_1 R w) : Calls Tryd.prog F_charset_IsWord_1 ⟨[.int .u8 c_1]⟩ w R := calls_of_fnV Tryd.func89 (by rw [e_charset_IsWord_1]; exact h)

def an_charset_Letters : Ann := .two (.leaf) (.two (.leaf) (.two (.two (.leaf) (.one (.loop 16777016 [(3, .one (.int .i64)), (8, .one (.int .i64))] (.two (.leaf) (.two (.two (.leaf) (.leaf)) (.two (.one (.two (.leaf) (.two (.leaf) (.two (.leaf) (.two (.leaf) (.leaf)))))) (.leaf))))))) (.two (.leaf) (.leaf))))
def sh_charset_Letters (s_1 : List UInt8) (R : Ending → World → Prop) (w : World) : Prop :=
  ∃ (I2 : Int → Int → World → Nat → Prop), (∃ m7 : Nat, I2 0 0 w m7) ∧ ∀ (n_3 : Int) (t8_4 : Int) (w5 : World) (m6 : Nat), I2 n_3 t8_4 w5 m6 → ∀ _ : Env, (br (decide ((t8_4 : Int) < ((List.length s_1 : Int)))) (sidx s_1 t8_4 fun b8 =>
  Calls Tryd.prog 87 ⟨[.int .u8 ((b8.toNat : Int))]⟩ w5 fun (e9 : Ending) (w10 : World) =>
  ∃ (x11 : Int), e9 = .returned (.int .i64 x11) ∧ (br (decide ((x11 : Int) = 1)) (∃ m12 : Nat, m12 < m6 ∧ I2 (IntKind.i64.wrap (n_3 + 1)) (IntKind.i64.wrap (t8_4 + 1)) w10 m12) (br (decide ((x11 : Int) = 3)) (∃ m13 : Nat, m13 < m6 ∧ I2 (IntKind.i64.wrap (n_3 + 1)) (IntKind.i64.wrap (t8_4 + 1)) w10 m13) (∃ m14 : Nat, m14 < m6 ∧ I2 n_3 (IntKind.i64.wrap (t8_4 + 1)) w10 m14)))) (R (.returned (.int .i64 n_3)) w5))
set_option maxRecDepth 100000 in
theorem e_charset_Letters (s_1 : List UInt8) (R : Ending → World → Prop) (w : World) : fnV Tryd.prog Tryd.f90 an_charset_Letters [.string ⟨⟨s_1⟩⟩] R w = sh_charset_Letters s_1 R w := by kernel_rfl
theorem c_charset_Letters {s_1 : List UInt8} {R : Ending → World → Prop} {w : World} (h : sh_charset_Letters s_1 R w) : Calls Tryd.prog F_charset_Letters ⟨[.string ⟨⟨s_1⟩⟩]⟩ w R := calls_of_fnV Tryd.func90 (by rw [e_charset_Letters]; exact h)

def an_slices_EqualFunc_of_api_Node_api_Node_api_Node_api_Node : Ann := .two (.leaf) (.two (.two (.leaf) (.two (.two (.leaf) (.leaf)) (.leaf))) (.two (.two (.leaf) (.one (.loop 4294837184 [(17, .one (.int .i64))] (.two (.leaf) (.two (.two (.leaf) (.leaf)) (.two (.one (.two (.leaf) (.two (.leaf) (.two (.leaf) (.two (.two (.leaf) (.leaf)) (.leaf)))))) (.leaf))))))) (.two (.leaf) (.leaf))))
def sh_slices_EqualFunc_of_api_Node_api_Node_api_Node_api_Node (s1_1 : Option Addr) (s1_1n : Nat) (s1_1c : Nat) (s2_2 : Option Addr) (s2_2n : Nat) (s2_2c : Nat) (eq_3 : Fn) (eq_3a : Array Value) (eq_3b : Array Value) (R : Ending → World → Prop) (w : World) : Prop :=
  br (decide ((((s1_1n : Int)) : Int) ≠ ((s2_2n : Int)))) (R (.returned (.bool false)) w) (∃ (I4 : Int → World → Nat → Prop), (∃ m8 : Nat, I4 0 w m8) ∧ ∀ (t17_5 : Int) (w6 : World) (m7 : Nat), I4 t17_5 w6 m7 → ∀ _ : Env, (br (decide ((t17_5 : Int) < ((s1_1n : Int)))) (idx s1_1 s1_1n t17_5 4 fun p9 =>
  ∃ (x10 : Int), World.cell? w6 (p9.add 0) = some (.int .i64 x10) ∧ (∃ (x11 : List UInt8), World.cell? w6 (p9.add 1) = some (.string ⟨⟨x11⟩⟩) ∧ (∃ (x12 : Int), World.cell? w6 (p9.add 2) = some (.int .i64 x12) ∧ (∃ (x13 : Option Addr) (x13n : Nat) (x13c : Nat), World.cell? w6 (p9.add 3) = some (.slice x13 x13n x13c) ∧ (al w6 56 [.int .i64 0, .string ⟨⟨[]⟩⟩, .int .i64 0, .slice none 0 0] fun p14 w15 =>
  stL w15 p14 0 [.int .i64 x10, .string ⟨⟨x11⟩⟩, .int .i64 x12, .slice x13 x13n x13c] fun w16 =>
  idx s2_2 s2_2n t17_5 4 fun p17 =>
  ∃ (x18 : Int), World.cell? w16 (p17.add 0) = some (.int .i64 x18) ∧ (∃ (x19 : List UInt8), World.cell? w16 (p17.add 1) = some (.string ⟨⟨x19⟩⟩) ∧ (∃ (x20 : Int), World.cell? w16 (p17.add 2) = some (.int .i64 x20) ∧ (∃ (x21 : Option Addr) (x21n : Nat) (x21c : Nat), World.cell? w16 (p17.add 3) = some (.slice x21 x21n x21c) ∧ (al w16 56 [.int .i64 0, .string ⟨⟨[]⟩⟩, .int .i64 0, .slice none 0 0] fun p22 w23 =>
  stL w23 p22 0 [.int .i64 x18, .string ⟨⟨x19⟩⟩, .int .i64 x20, .slice x21 x21n x21c] fun w24 =>
  ∃ (x25 : Int), World.cell? w24 (p14.add 0) = some (.int .i64 x25) ∧ (∃ (x26 : List UInt8), World.cell? w24 (p14.add 1) = some (.string ⟨⟨x26⟩⟩) ∧ (∃ (x27 : Int), World.cell? w24 (p14.add 2) = some (.int .i64 x27) ∧ (∃ (x28 : Option Addr) (x28n : Nat) (x28c : Nat), World.cell? w24 (p14.add 3) = some (.slice x28 x28n x28c) ∧ (∃ (x29 : Int), World.cell? w24 (p22.add 0) = some (.int .i64 x29) ∧ (∃ (x30 : List UInt8), World.cell? w24 (p22.add 1) = some (.string ⟨⟨x30⟩⟩) ∧ (∃ (x31 : Int), World.cell? w24 (p22.add 2) = some (.int .i64 x31) ∧ (∃ (x32 : Option Addr) (x32n : Nat) (x32c : Nat), World.cell? w24 (p22.add 3) = some (.slice x32 x32n x32c) ∧ (CallV Tryd.prog (.func eq_3 eq_3a eq_3b) [.agg ⟨[.int .i64 x25, .string ⟨⟨x26⟩⟩, .int .i64 x27, .slice x28 x28n x28c]⟩, .agg ⟨[.int .i64 x29, .string ⟨⟨x30⟩⟩, .int .i64 x31, .slice x32 x32n x32c]⟩] w24 fun (e33 : Ending) (w34 : World) =>
  ∃ (x35 : Bool), e33 = .returned (.bool x35) ∧ (br (!x35) (R (.returned (.bool false)) w34) (∃ m36 : Nat, m36 < m7 ∧ I4 (IntKind.i64.wrap (t17_5 + 1)) w34 m36))))))))))))))))))) (R (.returned (.bool true)) w6)))
set_option maxRecDepth 100000 in
theorem e_slices_EqualFunc_of_api_Node_api_Node_api_Node_api_Node (s1_1 : Option Addr) (s1_1n : Nat) (s1_1c : Nat) (s2_2 : Option Addr) (s2_2n : Nat) (s2_2c : Nat) (eq_3 : Fn) (eq_3a : Array Value) (eq_3b : Array Value) (R : Ending → World → Prop) (w : World) : fnV Tryd.prog Tryd.f93 an_slices_EqualFunc_of_api_Node_api_Node_api_Node_api_Node [.slice s1_1 s1_1n s1_1c, .slice s2_2 s2_2n s2_2c, .func eq_3 eq_3a eq_3b] R w = sh_slices_EqualFunc_of_api_Node_api_Node_api_Node_api_Node s1_1 s1_1n s1_1c s2_2 s2_2n s2_2c eq_3 eq_3a eq_3b R w := by kernel_rfl
theorem c_slices_EqualFunc_of_api_Node_api_Node_api_Node_api_Node {s1_1 : Option Addr} {s1_1n : Nat} {s1_1c : Nat} {s2_2 : Option Addr} {s2_2n : Nat} {s2_2c : Nat} {eq_3 : Fn} {eq_3a : Array Value} {eq_3b : Array Value} {R : Ending → World → Prop} {w : World} (h : sh_slices_EqualFunc_of_api_Node_api_Node_api_Node_api_Node s1_1 s1_1n s1_1c s2_2 s2_2n s2_2c eq_3 eq_3a eq_3b R w) : Calls Tryd.prog F_slices_EqualFunc_of_api_Node_api_Node_api_Node_api_Node ⟨[.slice s1_1 s1_1n s1_1c, .slice s2_2 s2_2n s2_2c, .func eq_3 eq_3a eq_3b]⟩ w R := calls_of_fnV Tryd.func93 (by rw [e_slices_EqualFunc_of_api_Node_api_Node_api_Node_api_Node]; exact h)

def an_transcript_Same_1 : Ann := .two (.leaf) (.two (.leaf) (.leaf))
def sh_transcript_Same_1 (x_1 : Int) (x_2 : List UInt8) (x_3 : Int) (x_4 : Option Addr) (x_4n : Nat) (x_4c : Nat) (y_5 : Int) (y_6 : List UInt8) (y_7 : Int) (y_8 : Option Addr) (y_8n : Nat) (y_8c : Nat) (R : Ending → World → Prop) (w : World) : Prop :=
  al w 56 [.int .i64 x_1, .string ⟨⟨x_2⟩⟩, .int .i64 x_3, .slice x_4 x_4n x_4c] fun p9 w10 =>
  al w10 56 [.int .i64 y_5, .string ⟨⟨y_6⟩⟩, .int .i64 y_7, .slice y_8 y_8n y_8c] fun p11 w12 =>
  ∃ (x13 : Int), World.cell? w12 (p9.add 0) = some (.int .i64 x13) ∧ (∃ (x14 : Int), World.cell? w12 (p11.add 0) = some (.int .i64 x14) ∧ (br (decide ((x13 : Int) = x14)) (∃ (x15 : List UInt8), World.cell? w12 (p9.add 1) = some (.string ⟨⟨x15⟩⟩) ∧ (∃ (x16 : List UInt8), World.cell? w12 (p11.add 1) = some (.string ⟨⟨x16⟩⟩) ∧ (br (decide ((x15 : List UInt8) = x16)) (∃ (x17 : Int), World.cell? w12 (p9.add 2) = some (.int .i64 x17) ∧ (∃ (x18 : Int), World.cell? w12 (p11.add 2) = some (.int .i64 x18) ∧ (br (decide ((x17 : Int) = x18)) (∃ (x19 : Option Addr) (x19n : Nat) (x19c : Nat), World.cell? w12 (p9.add 3) = some (.slice x19 x19n x19c) ∧ (∃ (x20 : Option Addr) (x20n : Nat) (x20c : Nat), World.cell? w12 (p11.add 3) = some (.slice x20 x20n x20c) ∧ (Calls Tryd.prog 76 ⟨[.slice x19 x19n x19c, .slice x20 x20n x20c]⟩ w12 fun (e21 : Ending) (w22 : World) =>
  ∃ (x23 : Bool), e21 = .returned (.bool x23) ∧ (R (.returned (.bool x23)) w22)))) (R (.returned (.bool false)) w12)))) (R (.returned (.bool false)) w12)))) (R (.returned (.bool false)) w12)))
set_option maxRecDepth 100000 in
theorem e_transcript_Same_1 (x_1 : Int) (x_2 : List UInt8) (x_3 : Int) (x_4 : Option Addr) (x_4n : Nat) (x_4c : Nat) (y_5 : Int) (y_6 : List UInt8) (y_7 : Int) (y_8 : Option Addr) (y_8n : Nat) (y_8c : Nat) (R : Ending → World → Prop) (w : World) : fnV Tryd.prog Tryd.f94 an_transcript_Same_1 [.agg ⟨[.int .i64 x_1, .string ⟨⟨x_2⟩⟩, .int .i64 x_3, .slice x_4 x_4n x_4c]⟩, .agg ⟨[.int .i64 y_5, .string ⟨⟨y_6⟩⟩, .int .i64 y_7, .slice y_8 y_8n y_8c]⟩] R w = sh_transcript_Same_1 x_1 x_2 x_3 x_4 x_4n x_4c y_5 y_6 y_7 y_8 y_8n y_8c R w := by kernel_rfl
theorem c_transcript_Same_1 {x_1 : Int} {x_2 : List UInt8} {x_3 : Int} {x_4 : Option Addr} {x_4n : Nat} {x_4c : Nat} {y_5 : Int} {y_6 : List UInt8} {y_7 : Int} {y_8 : Option Addr} {y_8n : Nat} {y_8c : Nat} {R : Ending → World → Prop} {w : World} (h : sh_transcript_Same_1 x_1 x_2 x_3 x_4 x_4n x_4c y_5 y_6 y_7 y_8 y_8n y_8c R w) : Calls Tryd.prog F_transcript_Same_1 ⟨[.agg ⟨[.int .i64 x_1, .string ⟨⟨x_2⟩⟩, .int .i64 x_3, .slice x_4 x_4n x_4c]⟩, .agg ⟨[.int .i64 y_5, .string ⟨⟨y_6⟩⟩, .int .i64 y_7, .slice y_8 y_8n y_8c]⟩]⟩ w R := calls_of_fnV Tryd.func94 (by rw [e_transcript_Same_1]; exact h)

def an_editdistance_equal_of_byte_1 : Ann := .two (.leaf) (.two (.leaf) (.leaf))
def sh_editdistance_equal_of_byte_1 (i_1 : Int) (k_2 : Int) (t2_3 : Option Addr) (t3_4 : Option Addr) (R : Ending → World → Prop) (w : World) : Prop :=
  drw w fun w5 =>
  dr t2_3 fun p6 =>
  ∃ (x7 : Option Addr) (x7n : Nat) (x7c : Nat), World.cell? w5 p6 = some (.slice x7 x7n x7c) ∧ (idx x7 x7n i_1 1 fun p8 =>
  ∃ (x9 : Int), World.cell? w5 p8 = some (.int .u8 x9) ∧ (dr t3_4 fun p10 =>
  ∃ (x11 : Option Addr) (x11n : Nat) (x11c : Nat), World.cell? w5 p10 = some (.slice x11 x11n x11c) ∧ (idx x11 x11n k_2 1 fun p12 =>
  ∃ (x13 : Int), World.cell? w5 p12 = some (.int .u8 x13) ∧ (R (.returned (.bool (decide ((x9 : Int) = x13)))) w5))))
set_option maxRecDepth 100000 in
theorem e_editdistance_equal_of_byte_1 (i_1 : Int) (k_2 : Int) (t2_3 : Option Addr) (t3_4 : Option Addr) (R : Ending → World → Prop) (w : World) : fnV Tryd.prog Tryd.f95 an_editdistance_equal_of_byte_1 [.int .i64 i_1, .int .i64 k_2, .pointer t2_3, .pointer t3_4] R w = sh_editdistance_equal_of_byte_1 i_1 k_2 t2_3 t3_4 R w := by kernel_rfl
theorem c_editdistance_equal_of_byte_1 {i_1 : Int} {k_2 : Int} {t2_3 : Option Addr} {t3_4 : Option Addr} {R : Ending → World → Prop} {w : World} (h : sh_editdistance_equal_of_byte_1 i_1 k_2 t2_3 t3_4 R w) : Calls Tryd.prog F_editdistance_equal_of_byte_1 ⟨[.int .i64 i_1, .int .i64 k_2, .pointer t2_3, .pointer t3_4]⟩ w R := calls_of_fnV Tryd.func95 (by rw [e_editdistance_equal_of_byte_1]; exact h)

def an_ref10_single : Ann := .two (.leaf) (.cut 562949953421248 [] (.two (.leaf) (.two (.two (.leaf) (.leaf)) (.leaf))) (.cut 295147342229399404608 [] (.two (.leaf) (.two (.two (.leaf) (.leaf)) (.leaf))) (.two (.two (.leaf) (.one (.two (.leaf) (.two (.two (.two (.leaf) (.two (.two (.leaf) (.leaf)) (.leaf))) (.two (.leaf) (.two (.two (.leaf) (.leaf)) (.leaf)))) (.cut 2266735911777429702574080 [(77, .one (.bool))] (.two (.leaf) (.two (.leaf) (.two (.leaf) (.two (.leaf) (.leaf))))) (.two (.two (.two (.leaf) (.two (.two (.leaf) (.leaf)) (.leaf))) (.two (.leaf) (.two (.two (.leaf) (.leaf)) (.leaf)))) (.two (.leaf) (.two (.two (.leaf) (.two (.two (.leaf) (.leaf)) (.leaf))) (.two (.leaf) (.two (.two (.leaf) (.two (.two (.leaf) (.leaf)) (.leaf))) (.cut 1135814937804493543741046072016896 [(107, .one (.bool))] (.two (.leaf) (.two (.leaf) (.leaf))) (.two (.two (.leaf) (.two (.two (.leaf) (.leaf)) (.leaf))) (.leaf))))))))))))) (.two (.leaf) (.leaf)))))
def sh_ref10_single (x_1 : Int) (x_2 : List UInt8) (x_3 : Int) (x_4 : Option Addr) (x_4n : Nat) (x_4c : Nat) (before_5 : Bool) (within_6 : Bool) (R : Ending → World → Prop) (w : World) : Prop :=
  al w 56 [.int .i64 x_1, .string ⟨⟨x_2⟩⟩, .int .i64 x_3, .slice x_4 x_4n x_4c] fun p7 w8 =>
  ∀ (K9 : World → Prop), (∀  (w10 : World), (∀ _ : Env, (∀ (K11 : World → Prop), (∀  (w12 : World), (∀ _ : Env, (∃ (x13 : Int), World.cell? w12 (p7.add 0) = some (.int .i64 x13) ∧ (br (decide ((x13 : Int) = 1)) (∃ (x14 : List UInt8), World.cell? w12 (p7.add 1) = some (.string ⟨⟨x14⟩⟩) ∧ (Calls Tryd.prog 106 ⟨[.string ⟨⟨x14⟩⟩]⟩ w12 fun (e15 : Ending) (w16 : World) =>
  ∃ (x17 : Int), e15 = .returned (.int .i64 x17) ∧ (br (decide ((x17 : Int) ≠ 0)) (R (.returned (.int .i64 11)) w16) (br before_5 (R (.returned (.int .i64 10)) w16) (R (.returned (.int .i64 0)) w16))))) (∀ (K18 : Bool → World → Prop), (∀ (t77_19 : Bool) (w20 : World), (∀ _ : Env, (br t77_19 (∃ (x21 : List UInt8), World.cell? w20 (p7.add 1) = some (.string ⟨⟨x21⟩⟩) ∧ (Calls Tryd.prog 107 ⟨[.string ⟨⟨x21⟩⟩]⟩ w20 fun (e22 : Ending) (w23 : World) =>
  ∃ (x24 : Bool), e22 = .returned (.bool x24) ∧ (br (!x24) (R (.returned (.int .i64 14)) w23) (br within_6 (∃ (x25 : Int), World.cell? w23 (p7.add 0) = some (.int .i64 x25) ∧ (br (decide ((x25 : Int) = 4)) (R (.returned (.int .i64 12)) w23) (R (.returned (.int .i64 0)) w23))) (R (.returned (.int .i64 0)) w23))))) (br (decide ((x13 : Int) = 10)) (∃ (x26 : List UInt8), World.cell? w20 (p7.add 1) = some (.string ⟨⟨x26⟩⟩) ∧ (Calls Tryd.prog 108 ⟨[.string ⟨⟨x26⟩⟩]⟩ w20 fun (e27 : Ending) (w28 : World) =>
  ∃ (x29 : Bool), e27 = .returned (.bool x29) ∧ (br (!x29) (R (.returned (.int .i64 14)) w28) (R (.returned (.int .i64 0)) w28)))) (br (decide ((x13 : Int) = 6)) (∃ (x30 : Int), World.cell? w20 (p7.add 2) = some (.int .i64 x30) ∧ (br (decide ((x30 : Int) < 1)) (R (.returned (.int .i64 2)) w20) (∃ (x31 : Int), World.cell? w20 (p7.add 2) = some (.int .i64 x31) ∧ (br (decide ((64 : Int) < x31)) (R (.returned (.int .i64 2)) w20) (R (.returned (.int .i64 0)) w20))))) (∀ (K32 : Bool → World → Prop), (∀ (t107_33 : Bool) (w34 : World), (∀ _ : Env, (br t107_33 (∃ (x35 : Int), World.cell? w34 (p7.add 2) = some (.int .i64 x35) ∧ (br (decide ((x35 : Int) < 1)) (R (.returned (.int .i64 2)) w34) (∃ (x36 : Int), World.cell? w34 (p7.add 2) = some (.int .i64 x36) ∧ (br (decide ((8 : Int) < x36)) (R (.returned (.int .i64 2)) w34) (R (.returned (.int .i64 0)) w34))))) (R (.returned (.int .i64 0)) w34))) → K32 t107_33 w34) → (br (decide ((x13 : Int) = 8)) (K32 (decide ((x13 : Int) = 8)) w20) (K32 (decide ((x13 : Int) = 9)) w20))))))) → K18 t77_19 w20) → (br (decide ((x13 : Int) = 3)) (K18 (decide ((x13 : Int) = 3)) w12) (br (decide ((x13 : Int) = 4)) (K18 (decide ((x13 : Int) = 4)) w12) (K18 (decide ((x13 : Int) = 11)) w12))))))) → K11 w12) → (∃ (x37 : Int), World.cell? w10 (p7.add 0) = some (.int .i64 x37) ∧ (br (decide ((x37 : Int) = 1)) (∃ (x38 : List UInt8), World.cell? w10 (p7.add 1) = some (.string ⟨⟨x38⟩⟩) ∧ (br (decide ((x38 : List UInt8) = ([]))) (R (.returned (.int .i64 5)) w10) (∃ (x39 : Int), World.cell? w10 (p7.add 0) = some (.int .i64 x39) ∧ (Calls Tryd.prog 100 ⟨[.int .i64 x39]⟩ w10 fun (e40 : Ending) (w41 : World) =>
  ∃ (x42 : Bool), e40 = .returned (.bool x42) ∧ (br x42 (∃ (x43 : Option Addr) (x43n : Nat) (x43c : Nat), World.cell? w41 (p7.add 3) = some (.slice x43 x43n x43c) ∧ (br (decide ((((x43n : Int)) : Int) = 0)) (R (.returned (.int .i64 5)) w41) (K11 w41))) (K11 w41)))))) (∃ (x44 : Int), World.cell? w10 (p7.add 0) = some (.int .i64 x44) ∧ (Calls Tryd.prog 100 ⟨[.int .i64 x44]⟩ w10 fun (e45 : Ending) (w46 : World) =>
  ∃ (x47 : Bool), e45 = .returned (.bool x47) ∧ (br x47 (∃ (x48 : Option Addr) (x48n : Nat) (x48c : Nat), World.cell? w46 (p7.add 3) = some (.slice x48 x48n x48c) ∧ (br (decide ((((x48n : Int)) : Int) = 0)) (R (.returned (.int .i64 5)) w46) (K11 w46))) (K11 w46)))))))) → K9 w10) → (∃ (x49 : Int), World.cell? w8 (p7.add 0) = some (.int .i64 x49) ∧ (br (decide ((x49 : Int) < 1)) (R (.returned (.int .i64 8)) w8) (∃ (x50 : Int), World.cell? w8 (p7.add 0) = some (.int .i64 x50) ∧ (br (decide ((11 : Int) < x50)) (R (.returned (.int .i64 8)) w8) (∃ (x51 : List UInt8), World.cell? w8 (p7.add 1) = some (.string ⟨⟨x51⟩⟩) ∧ (br (decide ((x51 : List UInt8) ≠ ([]))) (∃ (x52 : Int), World.cell? w8 (p7.add 0) = some (.int .i64 x52) ∧ (Calls Tryd.prog 98 ⟨[.int .i64 x52]⟩ w8 fun (e53 : Ending) (w54 : World) =>
  ∃ (x55 : Bool), e53 = .returned (.bool x55) ∧ (br (!x55) (R (.returned (.int .i64 8)) w54) (∃ (x56 : Int), World.cell? w54 (p7.add 2) = some (.int .i64 x56) ∧ (br (decide ((x56 : Int) ≠ 0)) (∃ (x57 : Int), World.cell? w54 (p7.add 0) = some (.int .i64 x57) ∧ (Calls Tryd.prog 99 ⟨[.int .i64 x57]⟩ w54 fun (e58 : Ending) (w59 : World) =>
  ∃ (x60 : Bool), e58 = .returned (.bool x60) ∧ (br (!x60) (R (.returned (.int .i64 8)) w59) (∃ (x61 : Option Addr) (x61n : Nat) (x61c : Nat), World.cell? w59 (p7.add 3) = some (.slice x61 x61n x61c) ∧ (br (decide ((0 : Int) < ((x61n : Int)))) (∃ (x62 : Int), World.cell? w59 (p7.add 0) = some (.int .i64 x62) ∧ (Calls Tryd.prog 100 ⟨[.int .i64 x62]⟩ w59 fun (e63 : Ending) (w64 : World) =>
  ∃ (x65 : Bool), e63 = .returned (.bool x65) ∧ (br (!x65) (R (.returned (.int .i64 8)) w64) (K9 w64)))) (K9 w59)))))) (∃ (x66 : Option Addr) (x66n : Nat) (x66c : Nat), World.cell? w54 (p7.add 3) = some (.slice x66 x66n x66c) ∧ (br (decide ((0 : Int) < ((x66n : Int)))) (∃ (x67 : Int), World.cell? w54 (p7.add 0) = some (.int .i64 x67) ∧ (Calls Tryd.prog 100 ⟨[.int .i64 x67]⟩ w54 fun (e68 : Ending) (w69 : World) =>
  ∃ (x70 : Bool), e68 = .returned (.bool x70) ∧ (br (!x70) (R (.returned (.int .i64 8)) w69) (K9 w69)))) (K9 w54)))))))) (∃ (x71 : Int), World.cell? w8 (p7.add 2) = some (.int .i64 x71) ∧ (br (decide ((x71 : Int) ≠ 0)) (∃ (x72 : Int), World.cell? w8 (p7.add 0) = some (.int .i64 x72) ∧ (Calls Tryd.prog 99 ⟨[.int .i64 x72]⟩ w8 fun (e73 : Ending) (w74 : World) =>
  ∃ (x75 : Bool), e73 = .returned (.bool x75) ∧ (br (!x75) (R (.returned (.int .i64 8)) w74) (∃ (x76 : Option Addr) (x76n : Nat) (x76c : Nat), World.cell? w74 (p7.add 3) = some (.slice x76 x76n x76c) ∧ (br (decide ((0 : Int) < ((x76n : Int)))) (∃ (x77 : Int), World.cell? w74 (p7.add 0) = some (.int .i64 x77) ∧ (Calls Tryd.prog 100 ⟨[.int .i64 x77]⟩ w74 fun (e78 : Ending) (w79 : World) =>
  ∃ (x80 : Bool), e78 = .returned (.bool x80) ∧ (br (!x80) (R (.returned (.int .i64 8)) w79) (K9 w79)))) (K9 w74)))))) (∃ (x81 : Option Addr) (x81n : Nat) (x81c : Nat), World.cell? w8 (p7.add 3) = some (.slice x81 x81n x81c) ∧ (br (decide ((0 : Int) < ((x81n : Int)))) (∃ (x82 : Int), World.cell? w8 (p7.add 0) = some (.int .i64 x82) ∧ (Calls Tryd.prog 100 ⟨[.int .i64 x82]⟩ w8 fun (e83 : Ending) (w84 : World) =>
  ∃ (x85 : Bool), e83 = .returned (.bool x85) ∧ (br (!x85) (R (.returned (.int .i64 8)) w84) (K9 w84)))) (K9 w8)))))))))))
set_option maxRecDepth 100000 in
theorem e_ref10_single (x_1 : Int) (x_2 : List UInt8) (x_3 : Int) (x_4 : Option Addr) (x_4n : Nat) (x_4c : Nat) (before_5 : Bool) (within_6 : Bool) (R : Ending → World → Prop) (w : World) : fnV Tryd.prog Tryd.f96 an_ref10_single [.agg ⟨[.int .i64 x_1, .string ⟨⟨x_2⟩⟩, .int .i64 x_3, .slice x_4 x_4n x_4c]⟩, .bool before_5, .bool within_6] R w = sh_ref10_single x_1 x_2 x_3 x_4 x_4n x_4c before_5 within_6 R w := by kernel_rfl
theorem c_ref10_single {x_1 : Int} {x_2 : List UInt8} {x_3 : Int} {x_4 : Option Addr} {x_4n : Nat} {x_4c : Nat} {before_5 : Bool} {within_6 : Bool} {R : Ending → World → Prop} {w : World} (h : sh_ref10_single x_1 x_2 x_3 x_4 x_4n x_4c before_5 within_6 R w) : Calls Tryd.prog F_ref10_single ⟨[.agg ⟨[.int .i64 x_1, .string ⟨⟨x_2⟩⟩, .int .i64 x_3, .slice x_4 x_4n x_4c]⟩, .bool before_5, .bool within_6]⟩ w R := calls_of_fnV Tryd.func96 (by rw [e_ref10_single]; exact h)

def an_ref10_name : Ann := .two (.leaf) (.two (.leaf) (.leaf))
def sh_ref10_name (kind_1 : Int) (R : Ending → World → Prop) (w : World) : Prop :=
  al w 9 [.string ⟨⟨[]⟩⟩, .string ⟨⟨[]⟩⟩, .string ⟨⟨[108, 98]⟩⟩, .string ⟨⟨[112, 98]⟩⟩, .string ⟨⟨[115, 101, 99]⟩⟩, .string ⟨⟨[118]⟩⟩, .string ⟨⟨[103, 97, 112]⟩⟩, .string ⟨⟨[117, 110, 99, 108, 101, 97, 114]⟩⟩, .string ⟨⟨[97, 100, 100]⟩⟩, .string ⟨⟨[100, 101, 108]⟩⟩, .string ⟨⟨[97, 98]⟩⟩, .string ⟨⟨[110, 97, 109, 101]⟩⟩] fun p2 w3 =>
  idx (some p2) 12 kind_1 1 fun p4 =>
  ∃ (x5 : List UInt8), World.cell? w3 p4 = some (.string ⟨⟨x5⟩⟩) ∧ (R (.returned (.string ⟨⟨x5⟩⟩)) w3)
set_option maxRecDepth 100000 in
theorem e_ref10_name (kind_1 : Int) (R : Ending → World → Prop) (w : World) : fnV Tryd.prog Tryd.f97 an_ref10_name [.int .i64 kind_1] R w = sh_ref10_name kind_1 R w := by kernel_rfl
theorem c_ref10_name {kind_1 : Int} {R : Ending → World → Prop} {w : World} (h : sh_ref10_name kind_1 R w) : Calls Tryd.prog F_ref10_name ⟨[.int .i64 kind_1]⟩ w R := calls_of_fnV Tryd.func97 (by rw [e_ref10_name]; exact h)

def an_ref10_texts : Ann := .two (.leaf) (.two (.leaf) (.leaf))
def sh_ref10_texts (kind_1 : Int) (R : Ending → World → Prop) (w : World) : Prop :=
  br (decide ((kind_1 : Int) = 1)) (R (.returned (.bool true)) w) (br (decide ((kind_1 : Int) = 3)) (R (.returned (.bool true)) w) (br (decide ((kind_1 : Int) = 4)) (R (.returned (.bool true)) w) (br (decide ((kind_1 : Int) = 10)) (R (.returned (.bool true)) w) (R (.returned (.bool (decide ((kind_1 : Int) = 11)))) w))))
set_option maxRecDepth 100000 in
theorem e_ref10_texts (kind_1 : Int) (R : Ending → World → Prop) (w : World) : fnV Tryd.prog Tryd.f98 an_ref10_texts [.int .i64 kind_1] R w = sh_ref10_texts kind_1 R w := by kernel_rfl
theorem c_ref10_texts {kind_1 : Int} {R : Ending → World → Prop} {w : World} (h : sh_ref10_texts kind_1 R w) : Calls Tryd.prog F_ref10_texts ⟨[.int .i64 kind_1]⟩ w R := calls_of_fnV Tryd.func98 (by rw [e_ref10_texts]; exact h)

def an_ref10_numbers : Ann := .two (.leaf) (.two (.leaf) (.leaf))
def sh_ref10_numbers (kind_1 : Int) (R : Ending → World → Prop) (w : World) : Prop :=
  br (decide ((kind_1 : Int) = 6)) (R (.returned (.bool true)) w) (br (decide ((kind_1 : Int) = 8)) (R (.returned (.bool true)) w) (R (.returned (.bool (decide ((kind_1 : Int) = 9)))) w))
set_option maxRecDepth 100000 in
theorem e_ref10_numbers (kind_1 : Int) (R : Ending → World → Prop) (w : World) : fnV Tryd.prog Tryd.f99 an_ref10_numbers [.int .i64 kind_1] R w = sh_ref10_numbers kind_1 R w := by kernel_rfl
theorem c_ref10_numbers {kind_1 : Int} {R : Ending → World → Prop} {w : World} (h : sh_ref10_numbers kind_1 R w) : Calls Tryd.prog F_ref10_numbers ⟨[.int .i64 kind_1]⟩ w R := calls_of_fnV Tryd.func99 (by rw [e_ref10_numbers]; exact h)

def an_ref10_parts : Ann := .two (.leaf) (.two (.leaf) (.leaf))
def sh_ref10_parts (kind_1 : Int) (R : Ending → World → Prop) (w : World) : Prop :=
  br (decide ((7 : Int) ≤ kind_1)) (R (.returned (.bool (decide ((kind_1 : Int) ≤ 11)))) w) (R (.returned (.bool false)) w)
set_option maxRecDepth 100000 in
theorem e_ref10_parts (kind_1 : Int) (R : Ending → World → Prop) (w : World) : fnV Tryd.prog Tryd.f100 an_ref10_parts [.int .i64 kind_1] R w = sh_ref10_parts kind_1 R w := by kernel_rfl
theorem c_ref10_parts {kind_1 : Int} {R : Ending → World → Prop} {w : World} (h : sh_ref10_parts kind_1 R w) : Calls Tryd.prog F_ref10_parts ⟨[.int .i64 kind_1]⟩ w R := calls_of_fnV Tryd.func100 (by rw [e_ref10_parts]; exact h)

def an_charset_clusters_1 : Ann := .two (.leaf) (.two (.leaf) (.one (.loop 137438953464 [(3, .one (.int .i64)), (4, .one (.int .i64))] (.two (.two (.leaf) (.two (.leaf) (.leaf))) (.two (.one (.cut 268433408 [] (.two (.leaf) (.two (.leaf) (.leaf))) (.two (.two (.leaf) (.two (.leaf) (.leaf))) (.leaf)))) (.leaf))))))
def sh_charset_clusters_1 (yield_1 : Fn) (yield_1a : Array Value) (yield_1b : Array Value) (t1_2 : Option Addr) (R : Ending → World → Prop) (w : World) : Prop :=
  ∃ (I3 : Int → Int → World → Nat → Prop), (∃ m8 : Nat, I3 0 1 w m8) ∧ ∀ (from_4 : Int) (i_5 : Int) (w6 : World) (m7 : Nat), I3 from_4 i_5 w6 m7 → ∀ _ : Env, (dr t1_2 fun p9 =>
  ∃ (x10 : List UInt8), World.cell? w6 p9 = some (.string ⟨⟨x10⟩⟩) ∧ (br (decide ((i_5 : Int) ≤ ((List.length x10 : Int)))) (∀ (K11 : World → Prop), (∀  (w12 : World), (∀ _ : Env, (dr t1_2 fun p13 =>
  ∃ (x14 : List UInt8), World.cell? w12 p13 = some (.string ⟨⟨x14⟩⟩) ∧ (ssl x14 from_4 i_5 fun s15 =>
  CallV Tryd.prog (.func yield_1 yield_1a yield_1b) [.int .i64 from_4, .string ⟨⟨s15⟩⟩] w12 fun (e16 : Ending) (w17 : World) =>
  ∃ (x18 : Bool), e16 = .returned (.bool x18) ∧ (br (!x18) (R (.returned (.tuple ⟨[]⟩)) w17) (∃ m19 : Nat, m19 < m7 ∧ I3 i_5 (IntKind.i64.wrap (i_5 + 1)) w17 m19))))) → K11 w12) → (dr t1_2 fun p20 =>
  ∃ (x21 : List UInt8), World.cell? w6 p20 = some (.string ⟨⟨x21⟩⟩) ∧ (br (decide ((i_5 : Int) < ((List.length x21 : Int)))) (dr t1_2 fun p22 =>
  ∃ (x23 : List UInt8), World.cell? w6 p22 = some (.string ⟨⟨x23⟩⟩) ∧ (sidx x23 i_5 fun b24 =>
  Calls Tryd.prog 87 ⟨[.int .u8 ((b24.toNat : Int))]⟩ w6 fun (e25 : Ending) (w26 : World) =>
  ∃ (x27 : Int), e25 = .returned (.int .i64 x27) ∧ (br (decide ((x27 : Int) = 2)) (dr t1_2 fun p28 =>
  ∃ (x29 : List UInt8), World.cell? w26 p28 = some (.string ⟨⟨x29⟩⟩) ∧ (Calls Tryd.prog 102 ⟨[.string ⟨⟨x29⟩⟩, .int .i64 from_4, .int .i64 i_5]⟩ w26 fun (e30 : Ending) (w31 : World) =>
  ∃ (x32 : Bool), e30 = .returned (.bool x32) ∧ (br x32 (∃ m33 : Nat, m33 < m7 ∧ I3 from_4 (IntKind.i64.wrap (i_5 + 1)) w31 m33) (K11 w31)))) (K11 w26)))) (K11 w6)))) (R (.returned (.tuple ⟨[]⟩)) w6)))
set_option maxRecDepth 100000 in
theorem e_charset_clusters_1 (yield_1 : Fn) (yield_1a : Array Value) (yield_1b : Array Value) (t1_2 : Option Addr) (R : Ending → World → Prop) (w : World) : fnV Tryd.prog Tryd.f101 an_charset_clusters_1 [.func yield_1 yield_1a yield_1b, .pointer t1_2] R w = sh_charset_clusters_1 yield_1 yield_1a yield_1b t1_2 R w := by kernel_rfl
theorem c_charset_clusters_1 {yield_1 : Fn} {yield_1a : Array Value} {yield_1b : Array Value} {t1_2 : Option Addr} {R : Ending → World → Prop} {w : World} (h : sh_charset_clusters_1 yield_1 yield_1a yield_1b t1_2 R w) : Calls Tryd.prog F_charset_clusters_1 ⟨[.func yield_1 yield_1a yield_1b, .pointer t1_2]⟩ w R := calls_of_fnV Tryd.func101 (by rw [e_charset_clusters_1]; exact h)

def an_charset_right : Ann := .two (.leaf) (.two (.leaf) (.leaf))
def sh_charset_right (s_1 : List UInt8) (from_2 : Int) (at_3 : Int) (R : Ending → World → Prop) (w : World) : Prop :=
  sidx s_1 from_2 fun b4 =>
  Calls Tryd.prog 87 ⟨[.int .u8 ((b4.toNat : Int))]⟩ w fun (e5 : Ending) (w6 : World) =>
  ∃ (x7 : Int), e5 = .returned (.int .i64 x7) ∧ (br (decide ((x7 : Int) = 1)) (R (.returned (.bool (decide ((from_2 : Int) < at_3)))) w6) (R (.returned (.bool false)) w6))
set_option maxRecDepth 100000 in
theorem e_charset_right (s_1 : List UInt8) (from_2 : Int) (at_3 : Int) (R : Ending → World → Prop) (w : World) : fnV Tryd.prog Tryd.f102 an_charset_right [.string ⟨⟨s_1⟩⟩, .int .i64 from_2, .int .i64 at_3] R w = sh_charset_right s_1 from_2 at_3 R w := by kernel_rfl
theorem c_charset_right {s_1 : List UInt8} {from_2 : Int} {at_3 : Int} {R : Ending → World → Prop} {w : World} (h : sh_charset_right s_1 from_2 at_3 R w) : Calls Tryd.prog F_charset_right ⟨[.string ⟨⟨s_1⟩⟩, .int .i64 from_2, .int .i64 at_3]⟩ w R := calls_of_fnV Tryd.func102 (by rw [e_charset_right]; exact h)

def an_slices_IndexFunc_of_byte_byte : Ann := .two (.leaf) (.two (.two (.leaf) (.one (.loop 524080 [(8, .one (.int .i64))] (.two (.leaf) (.two (.two (.leaf) (.leaf)) (.two (.one (.two (.leaf) (.two (.leaf) (.two (.two (.leaf) (.leaf)) (.leaf))))) (.leaf))))))) (.two (.leaf) (.leaf)))
def sh_slices_IndexFunc_of_byte_byte (s_1 : Option Addr) (s_1n : Nat) (s_1c : Nat) (f_2 : Fn) (f_2a : Array Value) (f_2b : Array Value) (R : Ending → World → Prop) (w : World) : Prop :=
  ∃ (I3 : Int → World → Nat → Prop), (∃ m7 : Nat, I3 0 w m7) ∧ ∀ (t8_4 : Int) (w5 : World) (m6 : Nat), I3 t8_4 w5 m6 → ∀ _ : Env, (br (decide ((t8_4 : Int) < ((s_1n : Int)))) (idx s_1 s_1n t8_4 1 fun p8 =>
  ∃ (x9 : Int), World.cell? w5 p8 = some (.int .u8 x9) ∧ (CallV Tryd.prog (.func f_2 f_2a f_2b) [.int .u8 x9] w5 fun (e10 : Ending) (w11 : World) =>
  ∃ (x12 : Bool), e10 = .returned (.bool x12) ∧ (br x12 (R (.returned (.int .i64 t8_4)) w11) (∃ m13 : Nat, m13 < m6 ∧ I3 (IntKind.i64.wrap (t8_4 + 1)) w11 m13)))) (R (.returned (.int .i64 ((-1)))) w5))
set_option maxRecDepth 100000 in
theorem e_slices_IndexFunc_of_byte_byte (s_1 : Option Addr) (s_1n : Nat) (s_1c : Nat) (f_2 : Fn) (f_2a : Array Value) (f_2b : Array Value) (R : Ending → World → Prop) (w : World) : fnV Tryd.prog Tryd.f104 an_slices_IndexFunc_of_byte_byte [.slice s_1 s_1n s_1c, .func f_2 f_2a f_2b] R w = sh_slices_IndexFunc_of_byte_byte s_1 s_1n s_1c f_2 f_2a f_2b R w := by kernel_rfl
theorem c_slices_IndexFunc_of_byte_byte {s_1 : Option Addr} {s_1n : Nat} {s_1c : Nat} {f_2 : Fn} {f_2a : Array Value} {f_2b : Array Value} {R : Ending → World → Prop} {w : World} (h : sh_slices_IndexFunc_of_byte_byte s_1 s_1n s_1c f_2 f_2a f_2b R w) : Calls Tryd.prog F_slices_IndexFunc_of_byte_byte ⟨[.slice s_1 s_1n s_1c, .func f_2 f_2a f_2b]⟩ w R := calls_of_fnV Tryd.func104 (by rw [e_slices_IndexFunc_of_byte_byte]; exact h)

def an_ref01_Check : Ann := .two (.leaf) (.two (.two (.leaf) (.two (.two (.leaf) (.leaf)) (.leaf))) (.two (.leaf) (.two (.two (.leaf) (.one (.loop 17179867188 [(4, .one (.int .i64))] (.two (.two (.leaf) (.two (.leaf) (.leaf))) (.two (.one (.two (.leaf) (.two (.leaf) (.two (.two (.leaf) (.leaf)) (.leaf))))) (.leaf)))))) (.two (.leaf) (.leaf)))))
def sh_ref01_Check (s_1 : List UInt8) (R : Ending → World → Prop) (w : World) : Prop :=
  br (decide ((65536 : Int) < ((List.length s_1 : Int)))) (R (.returned (.int .i64 4)) w) (Calls Tryd.prog 111 ⟨[.string ⟨⟨s_1⟩⟩]⟩ w fun (e2 : Ending) (w3 : World) =>
  ∃ (x4 : Option Addr) (x4n : Nat) (x4c : Nat), e2 = .returned (.slice x4 x4n x4c) ∧ (∃ (I5 : Int → World → Nat → Prop), (∃ m9 : Nat, I5 0 w3 m9) ∧ ∀ (i_6 : Int) (w7 : World) (m8 : Nat), I5 i_6 w7 m8 → ∀ _ : Env, (br (decide ((i_6 : Int) < ((List.length s_1 : Int)))) (sidx s_1 i_6 fun b10 =>
  Calls Tryd.prog 112 ⟨[.int .u8 ((b10.toNat : Int))]⟩ w7 fun (e11 : Ending) (w12 : World) =>
  ∃ (x13 : Int), e11 = .returned (.int .i64 x13) ∧ (br (decide ((x13 : Int) = 0)) (R (.returned (.int .i64 11)) w12) (br (decide ((x13 : Int) = 2)) (idx x4 x4n i_6 1 fun p14 =>
  ∃ (x15 : Bool), World.cell? w12 p14 = some (.bool x15) ∧ (br (!x15) (R (.returned (.int .i64 11)) w12) (∃ m16 : Nat, m16 < m8 ∧ I5 (IntKind.i64.wrap (i_6 + 1)) w12 m16))) (∃ m17 : Nat, m17 < m8 ∧ I5 (IntKind.i64.wrap (i_6 + 1)) w12 m17)))) (R (.returned (.int .i64 0)) w7))))
set_option maxRecDepth 100000 in
theorem e_ref01_Check (s_1 : List UInt8) (R : Ending → World → Prop) (w : World) : fnV Tryd.prog Tryd.f106 an_ref01_Check [.string ⟨⟨s_1⟩⟩] R w = sh_ref01_Check s_1 R w := by kernel_rfl
theorem c_ref01_Check {s_1 : List UInt8} {R : Ending → World → Prop} {w : World} (h : sh_ref01_Check s_1 R w) : Calls Tryd.prog F_ref01_Check ⟨[.string ⟨⟨s_1⟩⟩]⟩ w R := calls_of_fnV Tryd.func106 (by rw [e_ref01_Check]; exact h)

def an_ref01_IsName : Ann := .two (.leaf) (.two (.leaf) (.leaf))
def sh_ref01_IsName (s_1 : List UInt8) (R : Ending → World → Prop) (w : World) : Prop :=
  br (decide ((((List.length s_1 : Int)) : Int) ≤ 16)) (Calls Tryd.prog 108 ⟨[.string ⟨⟨s_1⟩⟩]⟩ w fun (e2 : Ending) (w3 : World) =>
  ∃ (x4 : Bool), e2 = .returned (.bool x4) ∧ (br x4 (Calls Tryd.prog 113 ⟨[.string ⟨⟨s_1⟩⟩]⟩ w3 fun (e5 : Ending) (w6 : World) =>
  ∃ (x7 : Int), e5 = .returned (.int .i64 x7) ∧ (R (.returned (.bool (decide ((x7 : Int) = ((List.length s_1 : Int)))))) w6)) (R (.returned (.bool false)) w3))) (R (.returned (.bool false)) w)
set_option maxRecDepth 100000 in
theorem e_ref01_IsName (s_1 : List UInt8) (R : Ending → World → Prop) (w : World) : fnV Tryd.prog Tryd.f107 an_ref01_IsName [.string ⟨⟨s_1⟩⟩] R w = sh_ref01_IsName s_1 R w := by kernel_rfl
theorem c_ref01_IsName {s_1 : List UInt8} {R : Ending → World → Prop} {w : World} (h : sh_ref01_IsName s_1 R w) : Calls Tryd.prog F_ref01_IsName ⟨[.string ⟨⟨s_1⟩⟩]⟩ w R := calls_of_fnV Tryd.func107 (by rw [e_ref01_IsName]; exact h)

def an_ref01_IsWord : Ann := .two (.leaf) (.cut 262116 [] (.two (.leaf) (.two (.two (.leaf) (.leaf)) (.leaf))) (.cut 133955596 [] (.two (.leaf) (.two (.leaf) (.two (.two (.leaf) (.leaf)) (.leaf)))) (.two (.two (.leaf) (.one (.loop 274743689236 [(4, .one (.int .i64))] (.two (.two (.leaf) (.two (.leaf) (.leaf))) (.two (.one (.two (.leaf) (.two (.two (.leaf) (.leaf)) (.leaf)))) (.leaf)))))) (.two (.leaf) (.leaf)))))
def sh_ref01_IsWord (s_1 : List UInt8) (R : Ending → World → Prop) (w : World) : Prop :=
  ∀ (K2 : World → Prop), (∀  (w3 : World), (∀ _ : Env, (∀ (K4 : World → Prop), (∀  (w5 : World), (∀ _ : Env, (∃ (I6 : Int → World → Nat → Prop), (∃ m10 : Nat, I6 0 w5 m10) ∧ ∀ (i_7 : Int) (w8 : World) (m9 : Nat), I6 i_7 w8 m9 → ∀ _ : Env, (br (decide ((i_7 : Int) < ((List.length s_1 : Int)))) (sidx s_1 i_7 fun b11 =>
  Calls Tryd.prog 112 ⟨[.int .u8 ((b11.toNat : Int))]⟩ w8 fun (e12 : Ending) (w13 : World) =>
  ∃ (x14 : Int), e12 = .returned (.int .i64 x14) ∧ (br (decide ((4 : Int) < x14)) (R (.returned (.bool false)) w13) (∃ m15 : Nat, m15 < m9 ∧ I6 (IntKind.i64.wrap (i_7 + 1)) w13 m15))) (R (.returned (.bool true)) w8)))) → K4 w5) → (sidx s_1 0 fun b16 =>
  Calls Tryd.prog 112 ⟨[.int .u8 ((b16.toNat : Int))]⟩ w3 fun (e17 : Ending) (w18 : World) =>
  ∃ (x19 : Int), e17 = .returned (.int .i64 x19) ∧ (br (decide ((x19 : Int) ≠ 1)) (br (decide ((x19 : Int) ≠ 3)) (R (.returned (.bool false)) w18) (K4 w18)) (K4 w18))))) → K2 w3) → (br (decide ((((List.length s_1 : Int)) : Int) < 1)) (R (.returned (.bool false)) w) (br (decide ((64 : Int) < ((List.length s_1 : Int)))) (R (.returned (.bool false)) w) (Calls Tryd.prog 106 ⟨[.string ⟨⟨s_1⟩⟩]⟩ w fun (e20 : Ending) (w21 : World) =>
  ∃ (x22 : Int), e20 = .returned (.int .i64 x22) ∧ (br (decide ((x22 : Int) ≠ 0)) (R (.returned (.bool false)) w21) (K2 w21)))))
set_option maxRecDepth 100000 in
theorem e_ref01_IsWord (s_1 : List UInt8) (R : Ending → World → Prop) (w : World) : fnV Tryd.prog Tryd.f108 an_ref01_IsWord [.string ⟨⟨s_1⟩⟩] R w = sh_ref01_IsWord s_1 R w := by kernel_rfl
theorem c_ref01_IsWord {s_1 : List UInt8} {R : Ending → World → Prop} {w : World} (h : sh_ref01_IsWord s_1 R w) : Calls Tryd.prog F_ref01_IsWord ⟨[.string ⟨⟨s_1⟩⟩]⟩ w R := calls_of_fnV Tryd.func108 (by rw [e_ref01_IsWord]; exact h)

def an_ref01_right : Ann := .two (.leaf) (.two (.leaf) (.two (.two (.leaf) (.one (.loop 549755813848 [(3, .one (.slice)), (4, .one (.int .i64))] (.two (.two (.leaf) (.two (.leaf) (.leaf))) (.two (.one (.leaf)) (.leaf)))))) (.two (.leaf) (.leaf))))
def sh_ref01_right (s_1 : List UInt8) (R : Ending → World → Prop) (w : World) : Prop :=
  al w 4 [] fun p2 w3 =>
  ∃ (I4 : Option Addr → Nat → Nat → Int → World → Nat → Prop), (∃ m9 : Nat, I4 (some p2) 0 0 0 w3 m9) ∧ ∀ (out_5 : Option Addr) (out_5n : Nat) (out_5c : Nat) (i_6 : Int) (w7 : World) (m8 : Nat), I4 out_5 out_5n out_5c i_6 w7 m8 → ∀ _ : Env, (br (decide ((i_6 : Int) < ((List.length s_1 : Int)))) (sidx s_1 i_6 fun b10 =>
  Calls Tryd.prog 112 ⟨[.int .u8 ((b10.toNat : Int))]⟩ w7 fun (e11 : Ending) (w12 : World) =>
  ∃ (x13 : Int), e11 = .returned (.int .i64 x13) ∧ (br (decide ((x13 : Int) = 2)) (br (decide ((0 : Int) < i_6)) (sidx s_1 (IntKind.i64.wrap (i_6 - 1)) fun b14 =>
  Calls Tryd.prog 112 ⟨[.int .u8 ((b14.toNat : Int))]⟩ w12 fun (e15 : Ending) (w16 : World) =>
  ∃ (x17 : Int), e15 = .returned (.int .i64 x17) ∧ (br (decide ((x17 : Int) = 1)) (al w16 4 [.bool true] fun p18 w19 =>
  app Tryd.prog [130, 130] 130 (.slice out_5 out_5n out_5c) (.slice (some p18) 1 1) w19 fun a20 a20n a20c w21 =>
  ∃ m22 : Nat, m22 < m8 ∧ I4 a20 a20n a20c (IntKind.i64.wrap (i_6 + 1)) w21 m22) (idx out_5 out_5n (IntKind.i64.wrap (i_6 - 1)) 1 fun p23 =>
  ∃ (x24 : Bool), World.cell? w16 p23 = some (.bool x24) ∧ (al w16 4 [.bool x24] fun p25 w26 =>
  app Tryd.prog [130, 130] 130 (.slice out_5 out_5n out_5c) (.slice (some p25) 1 1) w26 fun a27 a27n a27c w28 =>
  ∃ m29 : Nat, m29 < m8 ∧ I4 a27 a27n a27c (IntKind.i64.wrap (i_6 + 1)) w28 m29)))) (al w12 4 [.bool false] fun p30 w31 =>
  app Tryd.prog [130, 130] 130 (.slice out_5 out_5n out_5c) (.slice (some p30) 1 1) w31 fun a32 a32n a32c w33 =>
  ∃ m34 : Nat, m34 < m8 ∧ I4 a32 a32n a32c (IntKind.i64.wrap (i_6 + 1)) w33 m34)) (al w12 4 [.bool false] fun p35 w36 =>
  app Tryd.prog [130, 130] 130 (.slice out_5 out_5n out_5c) (.slice (some p35) 1 1) w36 fun a37 a37n a37c w38 =>
  ∃ m39 : Nat, m39 < m8 ∧ I4 a37 a37n a37c (IntKind.i64.wrap (i_6 + 1)) w38 m39))) (R (.returned (.slice out_5 out_5n out_5c)) w7))
set_option maxRecDepth 100000 in
theorem e_ref01_right (s_1 : List UInt8) (R : Ending → World → Prop) (w : World) : fnV Tryd.prog Tryd.f111 an_ref01_right [.string ⟨⟨s_1⟩⟩] R w = sh_ref01_right s_1 R w := by kernel_rfl
theorem c_ref01_right {s_1 : List UInt8} {R : Ending → World → Prop} {w : World} (h : sh_ref01_right s_1 R w) : Calls Tryd.prog F_ref01_right ⟨[.string ⟨⟨s_1⟩⟩]⟩ w R := calls_of_fnV Tryd.func111 (by rw [e_ref01_right]; exact h)

def an_ref01_Kind : Ann := .two (.leaf) (.two (.one (.cut 262136 [(3, .one (.bool))] (.leaf) (.two (.two (.leaf) (.leaf)) (.cut 536608768 [(18, .one (.bool))] (.leaf) (.two (.two (.leaf) (.leaf)) (.cut 68182605824 [(29, .one (.bool))] (.leaf) (.two (.two (.leaf) (.leaf)) (.two (.leaf) (.two (.two (.leaf) (.leaf)) (.cut 18889465930928825040896 [(39, .one (.bool))] (.leaf) (.two (.two (.leaf) (.leaf)) (.two (.leaf) (.two (.two (.leaf) (.leaf)) (.leaf)))))))))))))) (.two (.leaf) (.leaf)))
def sh_ref01_Kind (c_1 : Int) (R : Ending → World → Prop) (w : World) : Prop :=
  ∀ (K2 : Bool → World → Prop), (∀ (t3_3 : Bool) (w4 : World), (∀ _ : Env, (br t3_3 (R (.returned (.int .i64 1)) w4) (∀ (K5 : Bool → World → Prop), (∀ (t18_6 : Bool) (w7 : World), (∀ _ : Env, (br t18_6 (R (.returned (.int .i64 2)) w7) (∀ (K8 : Bool → World → Prop), (∀ (t29_9 : Bool) (w10 : World), (∀ _ : Env, (br t29_9 (R (.returned (.int .i64 3)) w10) (br (decide ((c_1 : Int) = 39)) (R (.returned (.int .i64 4)) w10) (∀ (K11 : Bool → World → Prop), (∀ (t39_12 : Bool) (w13 : World), (∀ _ : Env, (br t39_12 (R (.returned (.int .i64 5)) w13) (br (decide ((c_1 : Int) = 32)) (R (.returned (.int .i64 6)) w13) (R (.returned (.int .i64 0)) w13)))) → K11 t39_12 w13) → (br (decide ((c_1 : Int) = 46)) (K11 true w10) (br (decide ((c_1 : Int) = 44)) (K11 true w10) (br (decide ((c_1 : Int) = 59)) (K11 true w10) (br (decide ((c_1 : Int) = 58)) (K11 true w10) (br (decide ((c_1 : Int) = 33)) (K11 true w10) (br (decide ((c_1 : Int) = 63)) (K11 true w10) (br (decide ((c_1 : Int) = 40)) (K11 true w10) (br (decide ((c_1 : Int) = 41)) (K11 true w10) (K11 (decide ((c_1 : Int) = 45)) w10))))))))))))) → K8 t29_9 w10) → (br (decide ((48 : Int) ≤ c_1)) (K8 (decide ((c_1 : Int) ≤ 57)) w7) (K8 false w7))))) → K5 t18_6 w7) → (br (decide ((c_1 : Int) = 94)) (K5 true w4) (br (decide ((c_1 : Int) = 126)) (K5 true w4) (K5 (decide ((c_1 : Int) = 37)) w4)))))) → K2 t3_3 w4) → (br (decide ((97 : Int) ≤ c_1)) (br (decide ((c_1 : Int) ≤ 122)) (K2 true w) (br (decide ((65 : Int) ≤ c_1)) (K2 (decide ((c_1 : Int) ≤ 90)) w) (K2 false w))) (br (decide ((65 : Int) ≤ c_1)) (K2 (decide ((c_1 : Int) ≤ 90)) w) (K2 false w)))
set_option maxRecDepth 100000 in
theorem e_ref01_Kind (c_1 : Int) (R : Ending → World → Prop) (w : World) : fnV Tryd.prog Tryd.f112 an_ref01_Kind [.int .u8 c_1] R w = sh_ref01_Kind c_1 R w := by kernel_rfl
theorem c_ref01_Kind {c_1 : Int} {R : Ending → World → Prop} {w : World} (h : sh_ref01_Kind c_1 R w) : Calls Tryd.prog F_ref01_Kind ⟨[.int .u8 c_1]⟩ w R := calls_of_fnV Tryd.func112 (by rw [e_ref01_Kind]; exact h)

def an_ref01_Letters : Ann := .two (.leaf) (.two (.leaf) (.two (.two (.leaf) (.one (.loop 16777208 [(3, .one (.int .i64)), (4, .one (.int .i64))] (.two (.two (.leaf) (.two (.leaf) (.leaf))) (.two (.one (.two (.leaf) (.two (.leaf) (.two (.leaf) (.leaf))))) (.leaf)))))) (.two (.leaf) (.leaf))))
def sh_ref01_Letters (s_1 : List UInt8) (R : Ending → World → Prop) (w : World) : Prop :=
  ∃ (I2 : Int → Int → World → Nat → Prop), (∃ m7 : Nat, I2 0 0 w m7) ∧ ∀ (n_3 : Int) (i_4 : Int) (w5 : World) (m6 : Nat), I2 n_3 i_4 w5 m6 → ∀ _ : Env, (br (decide ((i_4 : Int) < ((List.length s_1 : Int)))) (sidx s_1 i_4 fun b8 =>
  Calls Tryd.prog 112 ⟨[.int .u8 ((b8.toNat : Int))]⟩ w5 fun (e9 : Ending) (w10 : World) =>
  ∃ (x11 : Int), e9 = .returned (.int .i64 x11) ∧ (br (decide ((x11 : Int) = 1)) (∃ m12 : Nat, m12 < m6 ∧ I2 (IntKind.i64.wrap (n_3 + 1)) (IntKind.i64.wrap (i_4 + 1)) w10 m12) (br (decide ((x11 : Int) = 3)) (∃ m13 : Nat, m13 < m6 ∧ I2 (IntKind.i64.wrap (n_3 + 1)) (IntKind.i64.wrap (i_4 + 1)) w10 m13) (∃ m14 : Nat, m14 < m6 ∧ I2 n_3 (IntKind.i64.wrap (i_4 + 1)) w10 m14)))) (R (.returned (.int .i64 n_3)) w5))
set_option maxRecDepth 100000 in
theorem e_ref01_Letters (s_1 : List UInt8) (R : Ending → World → Prop) (w : World) : fnV Tryd.prog Tryd.f113 an_ref01_Letters [.string ⟨⟨s_1⟩⟩] R w = sh_ref01_Letters s_1 R w := by kernel_rfl
theorem c_ref01_Letters {s_1 : List UInt8} {R : Ending → World → Prop} {w : World} (h : sh_ref01_Letters s_1 R w) : Calls Tryd.prog F_ref01_Letters ⟨[.string ⟨⟨s_1⟩⟩]⟩ w R := calls_of_fnV Tryd.func113 (by rw [e_ref01_Letters]; exact h)

end Go.Proofs
