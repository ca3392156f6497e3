/- Written by program: for each function its verification condition, that it is the code's (by the kernel), and that it gives the call. -/
import Derived.Test.YtncjonkmhfdabaaGreatFn
namespace Go.Proofs
open Go Go.Sh
def an_parsimony_unit : Ann := .two (.leaf) (.two (.leaf) (.two (.two (.leaf) (.one (.loop 33553936 [(9, .one (.int .i64))] (.two (.leaf) (.two (.two (.leaf) (.leaf)) (.two (.one (.two (.leaf) (.two (.leaf) (.leaf)))) (.leaf))))))) (.two (.leaf) (.leaf))))
def sh_parsimony_unit (n_1 : Int) (R : Ending → World → Prop) (w : World) : Prop :=
  mks w 30 24 [.slice none 0 0] n_1 n_1 fun p2 w3 =>
  ∃ (I4 : Int → World → Nat → Prop), (∃ m8 : Nat, I4 0 w3 m8) ∧ ∀ (t9_5 : Int) (w6 : World) (m7 : Nat), I4 t9_5 w6 m7 → ∀ _ : Env, (br (decide ((t9_5 : Int) < (((Int.toNat n_1) : Int)))) (al w6 3 [.int .i64 1] fun p9 w10 =>
  Calls Tryz.prog 53 ⟨[.slice (some p9) 1 1, .int .i64 n_1]⟩ w10 fun (e11 : Ending) (w12 : World) =>
  ∃ (x13 : Option Addr) (x13n : Nat) (x13c : Nat), e11 = .returned (.slice x13 x13n x13c) ∧ (idx (some p2) (Int.toNat n_1) t9_5 1 fun p14 =>
  stL w12 p14 0 [.slice x13 x13n x13c] fun w15 =>
  idx (some p2) (Int.toNat n_1) t9_5 1 fun p16 =>
  ∃ (x17 : Option Addr) (x17n : Nat) (x17c : Nat), World.cell? w15 p16 = some (.slice x17 x17n x17c) ∧ (idx x17 x17n t9_5 1 fun p18 =>
  stL w15 p18 0 [.int .i64 0] fun w19 =>
  ∃ m20 : Nat, m20 < m7 ∧ I4 (IntKind.i64.wrap (t9_5 + 1)) w19 m20))) (R (.returned (.slice (some p2) (Int.toNat n_1) (Int.toNat n_1))) w6))
set_option maxRecDepth 100000 in
theorem e_parsimony_unit (n_1 : Int) (R : Ending → World → Prop) (w : World) : fnV Tryz.prog Tryz.f38 an_parsimony_unit [.int .i64 n_1] R w = sh_parsimony_unit n_1 R w := by kernel_rfl
theorem c_parsimony_unit {n_1 : Int} {R : Ending → World → Prop} {w : World} (h : sh_parsimony_unit n_1 R w) : Calls Tryz.prog F_parsimony_unit ⟨[.int .i64 n_1]⟩ w R := calls_of_fnV Tryz.func38 (by rw [e_parsimony_unit]; exact h)

def an_slices_IndexFunc_of_int_int : Ann := .two (.leaf) (.two (.two (.leaf) (.one (.loop 524080 [(8, .one (.int .i64))] (.two (.leaf) (.two (.two (.leaf) (.leaf)) (.two (.one (.two (.leaf) (.two (.leaf) (.two (.two (.leaf) (.leaf)) (.leaf))))) (.leaf))))))) (.two (.leaf) (.leaf)))
def sh_slices_IndexFunc_of_int_int (s_1 : Option Addr) (s_1n : Nat) (s_1c : Nat) (f_2 : Fn) (f_2a : Array Value) (f_2b : Array Value) (R : Ending → World → Prop) (w : World) : Prop :=
  ∃ (I3 : Int → World → Nat → Prop), (∃ m7 : Nat, I3 0 w m7) ∧ ∀ (t8_4 : Int) (w5 : World) (m6 : Nat), I3 t8_4 w5 m6 → ∀ _ : Env, (br (decide ((t8_4 : Int) < ((s_1n : Int)))) (idx s_1 s_1n t8_4 1 fun p8 =>
  ∃ (x9 : Int), World.cell? w5 p8 = some (.int .i64 x9) ∧ (CallV Tryz.prog (.func f_2 f_2a f_2b) [.int .i64 x9] w5 fun (e10 : Ending) (w11 : World) =>
  ∃ (x12 : Bool), e10 = .returned (.bool x12) ∧ (br x12 (R (.returned (.int .i64 t8_4)) w11) (∃ m13 : Nat, m13 < m6 ∧ I3 (IntKind.i64.wrap (t8_4 + 1)) w11 m13)))) (R (.returned (.int .i64 ((-1)))) w5))
set_option maxRecDepth 100000 in
theorem e_slices_IndexFunc_of_int_int (s_1 : Option Addr) (s_1n : Nat) (s_1c : Nat) (f_2 : Fn) (f_2a : Array Value) (f_2b : Array Value) (R : Ending → World → Prop) (w : World) : fnV Tryz.prog Tryz.f39 an_slices_IndexFunc_of_int_int [.slice s_1 s_1n s_1c, .func f_2 f_2a f_2b] R w = sh_slices_IndexFunc_of_int_int s_1 s_1n s_1c f_2 f_2a f_2b R w := by kernel_rfl
theorem c_slices_IndexFunc_of_int_int {s_1 : Option Addr} {s_1n : Nat} {s_1c : Nat} {f_2 : Fn} {f_2a : Array Value} {f_2b : Array Value} {R : Ending → World → Prop} {w : World} (h : sh_slices_IndexFunc_of_int_int s_1 s_1n s_1c f_2 f_2a f_2b R w) : Calls Tryz.prog F_slices_IndexFunc_of_int_int ⟨[.slice s_1 s_1n s_1c, .func f_2 f_2a f_2b]⟩ w R := calls_of_fnV Tryz.func39 (by rw [e_slices_IndexFunc_of_int_int]; exact h)

def an_charset_IsName : Ann := .two (.leaf) (.two (.leaf) (.leaf))
def sh_charset_IsName (s_1 : List UInt8) (R : Ending → World → Prop) (w : World) : Prop :=
  br (decide ((s_1 : List UInt8) ≠ ([]))) (br (decide ((((List.length s_1 : Int)) : Int) ≤ 16)) (Calls Tryz.prog 54 ⟨[.string ⟨⟨s_1⟩⟩]⟩ w fun (e2 : Ending) (w3 : World) =>
  ∃ (x4 : Int), e2 = .returned (.int .i64 x4) ∧ (R (.returned (.bool (decide ((x4 : Int) = ((List.length s_1 : Int)))))) w3)) (R (.returned (.bool false)) w)) (R (.returned (.bool false)) w)
set_option maxRecDepth 100000 in
theorem e_charset_IsName (s_1 : List UInt8) (R : Ending → World → Prop) (w : World) : fnV Tryz.prog Tryz.f40 an_charset_IsName [.string ⟨⟨s_1⟩⟩] R w = sh_charset_IsName s_1 R w := by kernel_rfl
theorem c_charset_IsName {s_1 : List UInt8} {R : Ending → World → Prop} {w : World} (h : sh_charset_IsName s_1 R w) : Calls Tryz.prog F_charset_IsName ⟨[.string ⟨⟨s_1⟩⟩]⟩ w R := calls_of_fnV Tryz.func40 (by rw [e_charset_IsName]; exact h)

def an_intset_Check : Ann := .two (.leaf) (.two (.two (.leaf) (.one (.loop 1073741724 [(7, .one (.int .i64))] (.two (.leaf) (.two (.two (.leaf) (.leaf)) (.two (.one (.two (.leaf) (.cut 258052 [] (.two (.leaf) (.two (.two (.leaf) (.leaf)) (.leaf))) (.two (.leaf) (.two (.two (.leaf) (.leaf)) (.leaf)))))) (.leaf))))))) (.two (.leaf) (.leaf)))
def sh_intset_Check (l_1 : Option Addr) (l_1n : Nat) (l_1c : Nat) (R : Ending → World → Prop) (w : World) : Prop :=
  ∃ (I2 : Int → World → Nat → Prop), (∃ m6 : Nat, I2 0 w m6) ∧ ∀ (t7_3 : Int) (w4 : World) (m5 : Nat), I2 t7_3 w4 m5 → ∀ _ : Env, (br (decide ((t7_3 : Int) < ((l_1n : Int)))) (idx l_1 l_1n t7_3 1 fun p7 =>
  ∃ (x8 : Int), World.cell? w4 p7 = some (.int .i64 x8) ∧ (∀ (K9 : World → Prop), (∀  (w10 : World), (∀ _ : Env, (br (decide ((0 : Int) < t7_3)) (idx l_1 l_1n (IntKind.i64.wrap (t7_3 - 1)) 1 fun p11 =>
  ∃ (x12 : Int), World.cell? w10 p11 = some (.int .i64 x12) ∧ (br (decide ((x8 : Int) ≤ x12)) (R (.returned (.int .i64 10)) w10) (∃ m13 : Nat, m13 < m5 ∧ I2 (IntKind.i64.wrap (t7_3 + 1)) w10 m13))) (∃ m14 : Nat, m14 < m5 ∧ I2 (IntKind.i64.wrap (t7_3 + 1)) w10 m14))) → K9 w10) → (br (decide ((x8 : Int) < 0)) (R (.returned (.int .i64 2)) w4) (br (decide ((63 : Int) < x8)) (R (.returned (.int .i64 2)) w4) (K9 w4))))) (R (.returned (.int .i64 0)) w4))
set_option maxRecDepth 100000 in
theorem e_intset_Check (l_1 : Option Addr) (l_1n : Nat) (l_1c : Nat) (R : Ending → World → Prop) (w : World) : fnV Tryz.prog Tryz.f41 an_intset_Check [.slice l_1 l_1n l_1c] R w = sh_intset_Check l_1 l_1n l_1c R w := by kernel_rfl
theorem c_intset_Check {l_1 : Option Addr} {l_1n : Nat} {l_1c : Nat} {R : Ending → World → Prop} {w : World} (h : sh_intset_Check l_1 l_1n l_1c R w) : Calls Tryz.prog F_intset_Check ⟨[.slice l_1 l_1n l_1c]⟩ w R := calls_of_fnV Tryz.func41 (by rw [e_intset_Check]; exact h)

def an_split_compatible : Ann := .two (.leaf) (.two (.leaf) (.two (.leaf) (.leaf)))
def sh_split_compatible (a_1 : Option Addr) (a_1n : Nat) (a_1c : Nat) (b_2 : Option Addr) (b_2n : Nat) (b_2c : Nat) (R : Ending → World → Prop) (w : World) : Prop :=
  Calls Tryz.prog 55 ⟨[.slice a_1 a_1n a_1c, .slice b_2 b_2n b_2c]⟩ w fun (e3 : Ending) (w4 : World) =>
  ∃ (x5 : Option Addr) (x5n : Nat) (x5c : Nat) (x6 : Int), e3 = .returned (.tuple ⟨[.slice x5 x5n x5c, .int .i64 x6]⟩) ∧ (br (decide ((((x5n : Int)) : Int) = 0)) (R (.returned (.bool true)) w4) (br (decide ((((x5n : Int)) : Int) = ((a_1n : Int)))) (R (.returned (.bool true)) w4) (R (.returned (.bool (decide ((((x5n : Int)) : Int) = ((b_2n : Int)))))) w4)))
set_option maxRecDepth 100000 in
theorem e_split_compatible (a_1 : Option Addr) (a_1n : Nat) (a_1c : Nat) (b_2 : Option Addr) (b_2n : Nat) (b_2c : Nat) (R : Ending → World → Prop) (w : World) : fnV Tryz.prog Tryz.f42 an_split_compatible [.slice a_1 a_1n a_1c, .slice b_2 b_2n b_2c] R w = sh_split_compatible a_1 a_1n a_1c b_2 b_2n b_2c R w := by kernel_rfl
theorem c_split_compatible {a_1 : Option Addr} {a_1n : Nat} {a_1c : Nat} {b_2 : Option Addr} {b_2n : Nat} {b_2c : Nat} {R : Ending → World → Prop} {w : World} (h : sh_split_compatible a_1 a_1n a_1c b_2 b_2n b_2c R w) : Calls Tryz.prog F_split_compatible ⟨[.slice a_1 a_1n a_1c, .slice b_2 b_2n b_2c]⟩ w R := calls_of_fnV Tryz.func42 (by rw [e_split_compatible]; exact h)

def an_phylotree_canonical : Ann := .two (.leaf) (.two (.leaf) (.two (.leaf) (.two (.leaf) (.leaf))))
def sh_phylotree_canonical (t_1 : Option Addr) (t_1n : Nat) (t_1c : Nat) (t_2 : Option Addr) (t_2n : Nat) (t_2c : Nat) (R : Ending → World → Prop) (w : World) : Prop :=
  al w 37 [.slice t_1 t_1n t_1c, .slice t_2 t_2n t_2c] fun p3 w4 =>
  al w4 37 [.slice none 0 0, .slice none 0 0] fun p5 w6 =>
  ∃ (x7 : Option Addr) (x7n : Nat) (x7c : Nat), World.cell? w6 (p3.add 0) = some (.slice x7 x7n x7c) ∧ (∃ (x8 : Option Addr) (x8n : Nat) (x8c : Nat), World.cell? w6 (p3.add 1) = some (.slice x8 x8n x8c) ∧ (Calls Tryz.prog 56 ⟨[.agg ⟨[.slice x7 x7n x7c, .slice x8 x8n x8c]⟩]⟩ w6 fun (e9 : Ending) (w10 : World) =>
  ∃ (x11 : Option Addr) (x11n : Nat) (x11c : Nat), e9 = .returned (.slice x11 x11n x11c) ∧ (idx x11 x11n 0 1 fun p12 =>
  ∃ (x13 : Option Addr), World.cell? w10 p12 = some (.pointer x13) ∧ (Calls Tryz.prog 57 ⟨[.pointer x13]⟩ w10 fun (e14 : Ending) (w15 : World) =>
  ∃ (x16 : List UInt8), e14 = .returned (.string ⟨⟨x16⟩⟩) ∧ (Calls Tryz.prog 58 ⟨[.pointer x13]⟩ w15 fun (e17 : Ending) (w18 : World) =>
  ∃ (x19 : Option Addr) (x19n : Nat) (x19c : Nat) (x20 : Option Addr) (x20n : Nat) (x20c : Nat), e17 = .returned (.agg ⟨[.slice x19 x19n x19c, .slice x20 x20n x20c]⟩) ∧ (stL w18 p5 0 [.slice x19 x19n x19c, .slice x20 x20n x20c] fun w21 =>
  ∃ (x22 : Option Addr) (x22n : Nat) (x22c : Nat), World.cell? w21 (p5.add 0) = some (.slice x22 x22n x22c) ∧ (∃ (x23 : Option Addr) (x23n : Nat) (x23c : Nat), World.cell? w21 (p5.add 1) = some (.slice x23 x23n x23c) ∧ (R (.returned (.agg ⟨[.slice x22 x22n x22c, .slice x23 x23n x23c]⟩)) w21))))))))
set_option maxRecDepth 100000 in
theorem e_phylotree_canonical (t_1 : Option Addr) (t_1n : Nat) (t_1c : Nat) (t_2 : Option Addr) (t_2n : Nat) (t_2c : Nat) (R : Ending → World → Prop) (w : World) : fnV Tryz.prog Tryz.f43 an_phylotree_canonical [.agg ⟨[.slice t_1 t_1n t_1c, .slice t_2 t_2n t_2c]⟩] R w = sh_phylotree_canonical t_1 t_1n t_1c t_2 t_2n t_2c R w := by kernel_rfl
theorem c_phylotree_canonical {t_1 : Option Addr} {t_1n : Nat} {t_1c : Nat} {t_2 : Option Addr} {t_2n : Nat} {t_2c : Nat} {R : Ending → World → Prop} {w : World} (h : sh_phylotree_canonical t_1 t_1n t_1c t_2 t_2n t_2c R w) : Calls Tryz.prog F_phylotree_canonical ⟨[.agg ⟨[.slice t_1 t_1n t_1c, .slice t_2 t_2n t_2c]⟩]⟩ w R := calls_of_fnV Tryz.func43 (by rw [e_phylotree_canonical]; exact h)

def an_slices_pdqsortCmpFunc_of_int : Ann := .two (.leaf) (.two (.leaf) (.one (.loop 356811923176489970264571492362373784095685646 [(1, .one (.int .i64)), (2, .one (.int .i64)), (3, .one (.int .i64)), (10, .one (.bool)), (11, .one (.bool))] (.one (.two (.leaf) (.two (.two (.leaf) (.two (.two (.leaf) (.leaf)) (.leaf))) (.two (.two (.leaf) (.two (.two (.leaf) (.leaf)) (.leaf))) (.cut 140462610448392 [(3, .one (.int .i64))] (.two (.leaf) (.two (.two (.leaf) (.leaf)) (.leaf))) (.two (.leaf) (.cut 295111876382333886464 [(13, .one (.int .i64)), (14, .one (.int .i64))] (.two (.leaf) (.two (.two (.leaf) (.two (.leaf) (.leaf))) (.leaf))) (.cut 2417556491324078996586496 [] (.cut 75262715820734970593280 [(75, .one (.bool))] (.leaf) (.two (.two (.leaf) (.two (.leaf) (.leaf))) (.leaf))) (.two (.cut 316910232205418121115826388992 [(97, .one (.bool))] (.leaf) (.two (.two (.leaf) (.two (.leaf) (.leaf))) (.leaf))) (.two (.leaf) (.two (.leaf) (.two (.leaf) (.two (.leaf) (.two (.leaf) (.two (.two (.leaf) (.two (.leaf) (.leaf))) (.two (.leaf) (.two (.leaf) (.leaf)))))))))))))))))))))
set_option maxRecDepth 100000 in
def sh_slices_pdqsortCmpFunc_of_int (data_1 : Option Addr) (data_1n : Nat) (data_1c : Nat) (a_2 : Int) (b_3 : Int) (limit_4 : Int) (cmp_5 : Fn) (cmp_5a : Array Value) (cmp_5b : Array Value) (R : Ending → World → Prop) (w : World) : Prop :=
  ∃ (I6 : Int → Int → Int → Bool → Bool → World → Nat → Prop), (∃ m14 : Nat, I6 a_2 b_3 limit_4 true true w m14) ∧ ∀ (a_7 : Int) (b_8 : Int) (limit_9 : Int) (wasBalanced_10 : Bool) (wasPartitioned_11 : Bool) (w12 : World) (m13 : Nat), I6 a_7 b_8 limit_9 wasBalanced_10 wasPartitioned_11 w12 m13 → ∀ _ : Env, (br (decide (((IntKind.i64.wrap (b_8 - a_7)) : Int) ≤ 12)) (Calls Tryz.prog 59 ⟨[.slice data_1 data_1n data_1c, .int .i64 a_7, .int .i64 b_8, .func cmp_5 cmp_5a cmp_5b]⟩ w12 fun (e15 : Ending) (w16 : World) =>
  e15 = .returned (.tuple ⟨[]⟩) ∧ (R (.returned (.tuple ⟨[]⟩)) w16)) (br (decide ((limit_9 : Int) = 0)) (Calls Tryz.prog 60 ⟨[.slice data_1 data_1n data_1c, .int .i64 a_7, .int .i64 b_8, .func cmp_5 cmp_5a cmp_5b]⟩ w12 fun (e17 : Ending) (w18 : World) =>
  e17 = .returned (.tuple ⟨[]⟩) ∧ (R (.returned (.tuple ⟨[]⟩)) w18)) (∀ (K19 : Int → World → Prop), (∀ (limit_20 : Int) (w21 : World), (∀ _ : Env, (Calls Tryz.prog 62 ⟨[.slice data_1 data_1n data_1c, .int .i64 a_7, .int .i64 b_8, .func cmp_5 cmp_5a cmp_5b]⟩ w21 fun (e22 : Ending) (w23 : World) =>
  ∃ (x24 : Int) (x25 : Int), e22 = .returned (.tuple ⟨[.int .i64 x24, .int .i64 x25]⟩) ∧ (∀ (K26 : Int → Int → World → Prop), (∀ (pivot_27 : Int) (hint_28 : Int) (w29 : World), (∀ _ : Env, (∀ (K30 : World → Prop), (∀  (w31 : World), (∀ _ : Env, (∀ (K32 : Bool → World → Prop), (∀ (t97_33 : Bool) (w34 : World), (∀ _ : Env, (br t97_33 (Calls Tryz.prog 65 ⟨[.slice data_1 data_1n data_1c, .int .i64 a_7, .int .i64 b_8, .int .i64 pivot_27, .func cmp_5 cmp_5a cmp_5b]⟩ w34 fun (e35 : Ending) (w36 : World) =>
  ∃ (x37 : Int), e35 = .returned (.int .i64 x37) ∧ (∃ m38 : Nat, m38 < m13 ∧ I6 x37 b_8 limit_20 wasBalanced_10 wasPartitioned_11 w36 m38)) (Calls Tryz.prog 66 ⟨[.slice data_1 data_1n data_1c, .int .i64 a_7, .int .i64 b_8, .int .i64 pivot_27, .func cmp_5 cmp_5a cmp_5b]⟩ w34 fun (e39 : Ending) (w40 : World) =>
  ∃ (x41 : Int) (x42 : Bool), e39 = .returned (.tuple ⟨[.int .i64 x41, .bool x42]⟩) ∧ (idiv 8 (br (decide (((IntKind.i64.wrap (x41 - a_7)) : Int) < (IntKind.i64.wrap (b_8 - x41)))) (Calls Tryz.prog 44 ⟨[.slice data_1 data_1n data_1c, .int .i64 a_7, .int .i64 x41, .int .i64 limit_20, .func cmp_5 cmp_5a cmp_5b]⟩ w40 fun (e43 : Ending) (w44 : World) =>
  e43 = .returned (.tuple ⟨[]⟩) ∧ (∃ m45 : Nat, m45 < m13 ∧ I6 (IntKind.i64.wrap (x41 + 1)) b_8 limit_20 (decide (((IntKind.i64.wrap (Int.tdiv (IntKind.i64.wrap (b_8 - a_7)) 8)) : Int) ≤ (IntKind.i64.wrap (x41 - a_7)))) x42 w44 m45)) (Calls Tryz.prog 44 ⟨[.slice data_1 data_1n data_1c, .int .i64 (IntKind.i64.wrap (x41 + 1)), .int .i64 b_8, .int .i64 limit_20, .func cmp_5 cmp_5a cmp_5b]⟩ w40 fun (e46 : Ending) (w47 : World) =>
  e46 = .returned (.tuple ⟨[]⟩) ∧ (∃ m48 : Nat, m48 < m13 ∧ I6 a_7 x41 limit_20 (decide (((IntKind.i64.wrap (Int.tdiv (IntKind.i64.wrap (b_8 - a_7)) 8)) : Int) ≤ (IntKind.i64.wrap (b_8 - x41)))) x42 w47 m48))))))) → K32 t97_33 w34) → (drw w31 fun w49 =>
  br (decide ((0 : Int) < a_7)) (idx data_1 data_1n (IntKind.i64.wrap (a_7 - 1)) 1 fun p50 =>
  ∃ (x51 : Option Addr) (x51n : Nat) (x51c : Nat), World.cell? w49 p50 = some (.slice x51 x51n x51c) ∧ (idx data_1 data_1n pivot_27 1 fun p52 =>
  ∃ (x53 : Option Addr) (x53n : Nat) (x53c : Nat), World.cell? w49 p52 = some (.slice x53 x53n x53c) ∧ ((CallV Tryz.prog (.func cmp_5 cmp_5a cmp_5b) [.slice x51 x51n x51c, .slice x53 x53n x53c] w49 fun (e54 : Ending) (w55 : World) =>
  ∃ (x56 : Int), e54 = .returned (.int .i64 x56) ∧ (K32 (!(decide ((x56 : Int) < 0))) w55)) ∧ True))) ((K32 false w49) ∧ True)))) → K30 w31) → (∀ (K57 : Bool → World → Prop), (∀ (t75_58 : Bool) (w59 : World), (∀ _ : Env, (br t75_58 (Calls Tryz.prog 64 ⟨[.slice data_1 data_1n data_1c, .int .i64 a_7, .int .i64 b_8, .func cmp_5 cmp_5a cmp_5b]⟩ w59 fun (e60 : Ending) (w61 : World) =>
  ∃ (x62 : Bool), e60 = .returned (.bool x62) ∧ (br x62 (R (.returned (.tuple ⟨[]⟩)) w61) (K30 w61))) (K30 w59))) → K57 t75_58 w59) → (br wasBalanced_10 (br wasPartitioned_11 (K57 (decide ((hint_28 : Int) = 1)) w29) (K57 false w29)) (K57 false w29))))) → K26 pivot_27 hint_28 w29) → (br (decide ((x25 : Int) = 2)) (Calls Tryz.prog 63 ⟨[.slice data_1 data_1n data_1c, .int .i64 a_7, .int .i64 b_8, .func cmp_5 cmp_5a cmp_5b]⟩ w23 fun (e63 : Ending) (w64 : World) =>
  e63 = .returned (.tuple ⟨[]⟩) ∧ (K26 (IntKind.i64.wrap ((IntKind.i64.wrap (b_8 - 1)) - (IntKind.i64.wrap (x24 - a_7)))) 1 w64)) (K26 x24 x25 w23))))) → K19 limit_20 w21) → (br (!wasBalanced_10) (Calls Tryz.prog 61 ⟨[.slice data_1 data_1n data_1c, .int .i64 a_7, .int .i64 b_8, .func cmp_5 cmp_5a cmp_5b]⟩ w12 fun (e65 : Ending) (w66 : World) =>
  e65 = .returned (.tuple ⟨[]⟩) ∧ (K19 (IntKind.i64.wrap (limit_9 - 1)) w66)) (K19 limit_9 w12)))))
set_option maxRecDepth 100000 in
theorem e_slices_pdqsortCmpFunc_of_int (data_1 : Option Addr) (data_1n : Nat) (data_1c : Nat) (a_2 : Int) (b_3 : Int) (limit_4 : Int) (cmp_5 : Fn) (cmp_5a : Array Value) (cmp_5b : Array Value) (R : Ending → World → Prop) (w : World) : fnV Tryz.prog Tryz.f44 an_slices_pdqsortCmpFunc_of_int [.slice data_1 data_1n data_1c, .int .i64 a_2, .int .i64 b_3, .int .i64 limit_4, .func cmp_5 cmp_5a cmp_5b] R w = sh_slices_pdqsortCmpFunc_of_int data_1 data_1n data_1c a_2 b_3 limit_4 cmp_5 cmp_5a cmp_5b R w := by kernel_rfl
theorem c_slices_pdqsortCmpFunc_of_int {data_1 : Option Addr} {data_1n : Nat} {data_1c : Nat} {a_2 : Int} {b_3 : Int} {limit_4 : Int} {cmp_5 : Fn} {cmp_5a : Array Value} {cmp_5b : Array Value} {R : Ending → World → Prop} {w : World} (h : sh_slices_pdqsortCmpFunc_of_int data_1 data_1n data_1c a_2 b_3 limit_4 cmp_5 cmp_5a cmp_5b R w) : Calls Tryz.prog F_slices_pdqsortCmpFunc_of_int ⟨[.slice data_1 data_1n data_1c, .int .i64 a_2, .int .i64 b_3, .int .i64 limit_4, .func cmp_5 cmp_5a cmp_5b]⟩ w R := calls_of_fnV Tryz.func44 (by rw [e_slices_pdqsortCmpFunc_of_int]; exact h)

def an_math_bits_Len : Ann := .two (.leaf) (.two (.two (.two (.leaf) (.leaf)) (.leaf)) (.two (.leaf) (.leaf)))
def sh_math_bits_Len (x_1 : Int) (R : Ending → World → Prop) (w : World) : Prop :=
  Calls Tryz.prog 68 ⟨[.int .u64 x_1]⟩ w fun (e2 : Ending) (w3 : World) =>
  ∃ (x4 : Int), e2 = .returned (.int .i64 x4) ∧ (R (.returned (.int .i64 x4)) w3)
set_option maxRecDepth 100000 in
theorem e_math_bits_Len (x_1 : Int) (R : Ending → World → Prop) (w : World) : fnV Tryz.prog Tryz.f45 an_math_bits_Len [.int .u64 x_1] R w = sh_math_bits_Len x_1 R w := by kernel_rfl
theorem c_math_bits_Len {x_1 : Int} {R : Ending → World → Prop} {w : World} (h : sh_math_bits_Len x_1 R w) : Calls Tryz.prog F_math_bits_Len ⟨[.int .u64 x_1]⟩ w R := calls_of_fnV Tryz.func45 (by rw [e_math_bits_Len]; exact h)

def an_cmp_isNaN_of_int : Ann := .two (.leaf) (.two (.leaf) (.leaf))
def sh_cmp_isNaN_of_int (x_1 : Int) (R : Ending → World → Prop) (w : World) : Prop :=
  R (.returned (.bool (decide ((x_1 : Int) ≠ x_1)))) w
set_option maxRecDepth 100000 in
theorem e_cmp_isNaN_of_int (x_1 : Int) (R : Ending → World → Prop) (w : World) : fnV Tryz.prog Tryz.f46 an_cmp_isNaN_of_int [.int .i64 x_1] R w = sh_cmp_isNaN_of_int x_1 R w := by kernel_rfl
theorem c_cmp_isNaN_of_int {x_1 : Int} {R : Ending → World → Prop} {w : World} (h : sh_cmp_isNaN_of_int x_1 R w) : Calls Tryz.prog F_cmp_isNaN_of_int ⟨[.int .i64 x_1]⟩ w R := calls_of_fnV Tryz.func46 (by rw [e_cmp_isNaN_of_int]; exact h)

def an_slices_Index_of_int_int : Ann := .two (.leaf) (.two (.two (.leaf) (.one (.loop 524080 [(8, .one (.int .i64))] (.two (.leaf) (.two (.two (.leaf) (.leaf)) (.two (.one (.two (.leaf) (.two (.leaf) (.two (.two (.leaf) (.leaf)) (.leaf))))) (.leaf))))))) (.two (.leaf) (.leaf)))
def sh_slices_Index_of_int_int (s_1 : Option Addr) (s_1n : Nat) (s_1c : Nat) (v_2 : Int) (R : Ending → World → Prop) (w : World) : Prop :=
  ∃ (I3 : Int → World → Nat → Prop), (∃ m7 : Nat, I3 0 w m7) ∧ ∀ (t8_4 : Int) (w5 : World) (m6 : Nat), I3 t8_4 w5 m6 → ∀ _ : Env, (br (decide ((t8_4 : Int) < ((s_1n : Int)))) (idx s_1 s_1n t8_4 1 fun p8 =>
  ∃ (x9 : Int), World.cell? w5 p8 = some (.int .i64 x9) ∧ (br (decide ((v_2 : Int) = x9)) (R (.returned (.int .i64 t8_4)) w5) (∃ m10 : Nat, m10 < m6 ∧ I3 (IntKind.i64.wrap (t8_4 + 1)) w5 m10))) (R (.returned (.int .i64 ((-1)))) w5))
set_option maxRecDepth 100000 in
theorem e_slices_Index_of_int_int (s_1 : Option Addr) (s_1n : Nat) (s_1c : Nat) (v_2 : Int) (R : Ending → World → Prop) (w : World) : fnV Tryz.prog Tryz.f47 an_slices_Index_of_int_int [.slice s_1 s_1n s_1c, .int .i64 v_2] R w = sh_slices_Index_of_int_int s_1 s_1n s_1c v_2 R w := by kernel_rfl
theorem c_slices_Index_of_int_int {s_1 : Option Addr} {s_1n : Nat} {s_1c : Nat} {v_2 : Int} {R : Ending → World → Prop} {w : World} (h : sh_slices_Index_of_int_int s_1 s_1n s_1c v_2 R w) : Calls Tryz.prog F_slices_Index_of_int_int ⟨[.slice s_1 s_1n s_1c, .int .i64 v_2]⟩ w R := calls_of_fnV Tryz.func47 (by rw [e_slices_Index_of_int_int]; exact h)

def an_phylotree_named : Ann := .two (.leaf) (.two (.two (.leaf) (.two (.leaf) (.two (.two (.leaf) (.leaf)) (.leaf)))) (.two (.leaf) (.leaf)))
def sh_phylotree_named (s_1 : List UInt8) (R : Ending → World → Prop) (w : World) : Prop :=
  Calls Tryz.prog 69 ⟨[.string ⟨⟨s_1⟩⟩, .string ⟨⟨[42]⟩⟩]⟩ w fun (e2 : Ending) (w3 : World) =>
  ∃ (x4 : List UInt8) (x5 : Bool), e2 = .returned (.tuple ⟨[.string ⟨⟨x4⟩⟩, .bool x5]⟩) ∧ (br x5 (br (decide ((((List.length s_1 : Int)) : Int) ≤ 16)) (Calls Tryz.prog 40 ⟨[.string ⟨⟨x4⟩⟩]⟩ w3 fun (e6 : Ending) (w7 : World) =>
  ∃ (x8 : Bool), e6 = .returned (.bool x8) ∧ (R (.returned (.bool x8)) w7)) (R (.returned (.bool false)) w3)) (Calls Tryz.prog 40 ⟨[.string ⟨⟨s_1⟩⟩]⟩ w3 fun (e9 : Ending) (w10 : World) =>
  ∃ (x11 : Bool), e9 = .returned (.bool x11) ∧ (R (.returned (.bool x11)) w10)))
set_option maxRecDepth 100000 in
theorem e_phylotree_named (s_1 : List UInt8) (R : Ending → World → Prop) (w : World) : fnV Tryz.prog Tryz.f48 an_phylotree_named [.string ⟨⟨s_1⟩⟩] R w = sh_phylotree_named s_1 R w := by kernel_rfl
theorem c_phylotree_named {s_1 : List UInt8} {R : Ending → World → Prop} {w : World} (h : sh_phylotree_named s_1 R w) : Calls Tryz.prog F_phylotree_named ⟨[.string ⟨⟨s_1⟩⟩]⟩ w R := calls_of_fnV Tryz.func48 (by rw [e_phylotree_named]; exact h)

def an_parsimony_known_1 : Ann := .two (.leaf) (.two (.leaf) (.leaf))
def sh_parsimony_known_1 (s_1 : Int) (t1_2 : Option Addr) (t2_3 : Option Addr) (R : Ending → World → Prop) (w : World) : Prop :=
  dr t1_2 fun p4 =>
  ∃ (x5 : Int), World.cell? w p4 = some (.int .i64 x5) ∧ (br (decide ((s_1 : Int) < x5)) (R (.returned (.bool true)) w) (dr t2_3 fun p6 =>
  ∃ (x7 : Int), World.cell? w p6 = some (.int .i64 x7) ∧ (R (.returned (.bool (decide ((x7 : Int) ≤ s_1)))) w)))
set_option maxRecDepth 100000 in
theorem e_parsimony_known_1 (s_1 : Int) (t1_2 : Option Addr) (t2_3 : Option Addr) (R : Ending → World → Prop) (w : World) : fnV Tryz.prog Tryz.f49 an_parsimony_known_1 [.int .i64 s_1, .pointer t1_2, .pointer t2_3] R w = sh_parsimony_known_1 s_1 t1_2 t2_3 R w := by kernel_rfl
theorem c_parsimony_known_1 {s_1 : Int} {t1_2 : Option Addr} {t2_3 : Option Addr} {R : Ending → World → Prop} {w : World} (h : sh_parsimony_known_1 s_1 t1_2 t2_3 R w) : Calls Tryz.prog F_parsimony_known_1 ⟨[.int .i64 s_1, .pointer t1_2, .pointer t2_3]⟩ w R := calls_of_fnV Tryz.func49 (by rw [e_parsimony_known_1]; exact h)

def an_parsimony_table_1 : Ann := .two (.leaf) (.two (.leaf) (.two (.two (.leaf) (.one (.loopD 36893628884905361920 [(21, .one (.int .i64))] (.two (.leaf) (.two (.two (.leaf) (.leaf)) (.two (.one (.two (.leaf) (.cut 17592169267200 [] (.cut 2199006478336 [(40, .one (.bool))] (.leaf) (.two (.leaf) (.leaf))) (.two (.leaf) (.one (.rf [0, 1, 3, 4, 5, 7, 8, 9, 20, 21, 46] 0)))))) (.leaf))))))) (.leaf)))
def sh_parsimony_table_1 (node_1 : Int) (t1_2 : Option Addr) (t2_3 : Option Addr) (t3_4 : Option Addr) (t4_5 : Option Addr) (t5_6 : Option Addr) (R : Ending → World → Prop) (w : World) : Prop :=
  dr t1_2 fun p7 =>
  ∃ (x8 : Option Addr) (x8n : Nat) (x8c : Nat), World.cell? w p7 = some (.slice x8 x8n x8c) ∧ (mks w 3 8 [.int .i64 0] ((x8n : Int)) ((x8n : Int)) fun p9 w10 =>
  al w10 30 [.slice none 0 0] fun p11 w12 =>
  stL w12 p11 0 [.slice (some p9) (Int.toNat ((x8n : Int))) (Int.toNat ((x8n : Int)))] fun w13 =>
  dr t2_3 fun p14 =>
  ∃ (x15 : Option Addr) (x15n : Nat) (x15c : Nat), World.cell? w13 p14 = some (.slice x15 x15n x15c) ∧ (Calls Tryz.prog 47 ⟨[.slice x15 x15n x15c, .int .i64 node_1]⟩ w13 fun (e16 : Ending) (w17 : World) =>
  ∃ (x18 : Int), e16 = .returned (.int .i64 x18) ∧ (∃ (x19 : Option Addr) (x19n : Nat) (x19c : Nat), World.cell? w17 p11 = some (.slice x19 x19n x19c) ∧ (∃ (I20 : Int → List Deferred → World → Nat → Prop), (∃ m25 : Nat, I20 0 [] w17 m25) ∧ ∀ (t21_21 : Int) (ds22 : List Deferred) (w23 : World) (m24 : Nat), I20 t21_21 ds22 w23 m24 → ∀ _ : Env, (br (decide ((t21_21 : Int) < ((x19n : Int)))) (al w23 3 [.int .i64 0] fun p26 w27 =>
  stL w27 p26 0 [.int .i64 t21_21] fun w28 =>
  ∀ (K29 : World → Prop), (∀  (w30 : World), (∀ _ : Env, (dr t4_5 fun p31 =>
  ∃ (x32 : Option Addr) (x32n : Nat) (x32c : Nat), World.cell? w30 (p31.add 0) = some (.slice x32 x32n x32c) ∧ (∃ (x33 : Option Addr) (x33n : Nat) (x33c : Nat), World.cell? w30 (p31.add 1) = some (.slice x33 x33n x33c) ∧ (Calls Tryz.prog 51 ⟨[.agg ⟨[.slice x32 x32n x32c, .slice x33 x33n x33c]⟩, .int .i64 node_1]⟩ w30 fun (e34 : Ending) (w35 : World) =>
  ∃ (x36 : Fn) (x36a : Array Value) (x36b : Array Value), e34 = .returned (.func x36 x36a x36b) ∧ (∀ base37 : Env, RFw Tryz.prog none 70 (cdAt Tryz.f50 [1, 1, 0, 1, 2, 2, 1, 1, 0, 2, 1, 1, 1, 2]) (upd (upd (upd (upd (upd (upd (upd (upd (upd (upd (upd base37 46 (.func x36 x36a x36b)) 21 (.int .i64 t21_21)) 20 (.int .i64 ((x19n : Int)))) 9 (.pointer (some p26))) 8 (.int .i64 x18)) 7 (.pointer (some p11))) 5 (.pointer t5_6)) 4 (.pointer t4_5)) 3 (.pointer t3_4)) 1 (.pointer t1_2)) 0 (.int .i64 node_1)) ds22 w35 0 (fun ds38 w39 =>
  ∃ m46 : Nat, m46 < m24 ∧ I20 (IntKind.i64.wrap (t21_21 + 1)) ds38 w39 m46) (fun ds38 w39 =>
  retD ds38 w39 fun w47 =>
  R (.returned (.tuple ⟨[]⟩)) w47) (fun ds38 w39 =>
  dr t5_6 fun p40 =>
  ∃ (x41 : Option Addr) (x41n : Nat) (x41c : Nat), World.cell? w39 p40 = some (.slice x41 x41n x41c) ∧ (∃ (x42 : Option Addr) (x42n : Nat) (x42c : Nat), World.cell? w39 p11 = some (.slice x42 x42n x42c) ∧ (idx x41 x41n node_1 1 fun p43 =>
  stL w39 p43 0 [.slice x42 x42n x42c] fun w44 =>
  retD ds38 w44 fun w45 =>
  R (.returned (.tuple ⟨[]⟩)) w45)))))))) → K29 w30) → (∀ (K48 : Bool → World → Prop), (∀ (t40_49 : Bool) (w50 : World), (∀ _ : Env, (br t40_49 (∃ (x51 : Option Addr) (x51n : Nat) (x51c : Nat), World.cell? w50 p11 = some (.slice x51 x51n x51c) ∧ (∃ (x52 : Int), World.cell? w50 p26 = some (.int .i64 x52) ∧ (idx x51 x51n x52 1 fun p53 =>
  stL w50 p53 0 [.int .i64 ((-1))] fun w54 =>
  K29 w54))) (K29 w50))) → K48 t40_49 w50) → (drw w28 fun w55 =>
  br (decide ((0 : Int) ≤ x18)) (dr t3_4 fun p56 =>
  ∃ (x57 : Option Addr) (x57n : Nat) (x57c : Nat), World.cell? w55 p56 = some (.slice x57 x57n x57c) ∧ (idx x57 x57n x18 1 fun p58 =>
  ∃ (x59 : Int), World.cell? w55 p58 = some (.int .i64 x59) ∧ (br (decide ((0 : Int) ≤ x59)) (dr t3_4 fun p60 =>
  ∃ (x61 : Option Addr) (x61n : Nat) (x61c : Nat), World.cell? w55 p60 = some (.slice x61 x61n x61c) ∧ (idx x61 x61n x18 1 fun p62 =>
  ∃ (x63 : Int), World.cell? w55 p62 = some (.int .i64 x63) ∧ (∃ (x64 : Int), World.cell? w55 p26 = some (.int .i64 x64) ∧ (K48 (decide ((x63 : Int) ≠ x64)) w55)))) (K48 false w55)))) (K48 false w55)))) (dr t5_6 fun p65 =>
  ∃ (x66 : Option Addr) (x66n : Nat) (x66c : Nat), World.cell? w23 p65 = some (.slice x66 x66n x66c) ∧ (∃ (x67 : Option Addr) (x67n : Nat) (x67c : Nat), World.cell? w23 p11 = some (.slice x67 x67n x67c) ∧ (idx x66 x66n node_1 1 fun p68 =>
  stL w23 p68 0 [.slice x67 x67n x67c] fun w69 =>
  retD ds22 w69 fun w70 =>
  R (.returned (.tuple ⟨[]⟩)) w70))))))))
set_option maxRecDepth 100000 in
theorem e_parsimony_table_1 (node_1 : Int) (t1_2 : Option Addr) (t2_3 : Option Addr) (t3_4 : Option Addr) (t4_5 : Option Addr) (t5_6 : Option Addr) (R : Ending → World → Prop) (w : World) : fnV Tryz.prog Tryz.f50 an_parsimony_table_1 [.int .i64 node_1, .pointer t1_2, .pointer t2_3, .pointer t3_4, .pointer t4_5, .pointer t5_6] R w = sh_parsimony_table_1 node_1 t1_2 t2_3 t3_4 t4_5 t5_6 R w := by kernel_rfl
theorem c_parsimony_table_1 {node_1 : Int} {t1_2 : Option Addr} {t2_3 : Option Addr} {t3_4 : Option Addr} {t4_5 : Option Addr} {t5_6 : Option Addr} {R : Ending → World → Prop} {w : World} (h : sh_parsimony_table_1 node_1 t1_2 t2_3 t3_4 t4_5 t5_6 R w) : Calls Tryz.prog F_parsimony_table_1 ⟨[.int .i64 node_1, .pointer t1_2, .pointer t2_3, .pointer t3_4, .pointer t4_5, .pointer t5_6]⟩ w R := calls_of_fnV Tryz.func50 (by rw [e_parsimony_table_1]; exact h)
def anA_parsimony_table_1_1 : Ann := .leaf
def anB_parsimony_table_1_1 : Ann := .one (.two (.leaf) (.leaf))
def rf_parsimony_table_1_1 (node_71 : Int) (t1_72 : Option Addr) (t3_73 : Option Addr) (t4_74 : Option Addr) (t5_75 : Option Addr) (row_76 : Option Addr) (k_77 : Int) (s_78 : Option Addr) (t20_79 : Int) (t21_80 : Int) (t46_81 : Fn) (t46_81a : Array Value) (t46_81b : Array Value) (t47_82 : Int) (l : Nat) (Kn Kr Kx : World → World → Prop) (w : World) : Prop :=
  Ext w w ∧ ∀ w83 : World, Upd l w w83 → (drw w83 fun w84 =>
  dr t1_72 fun p85 =>
  ∃ (x86 : Option Addr) (x86n : Nat) (x86c : Nat), World.cell? w84 p85 = some (.slice x86 x86n x86c) ∧ (dr s_78 fun p87 =>
  ∃ (x88 : Int), World.cell? w84 p87 = some (.int .i64 x88) ∧ (dr t5_75 fun p89 =>
  ∃ (x90 : Option Addr) (x90n : Nat) (x90c : Nat), World.cell? w84 p89 = some (.slice x90 x90n x90c) ∧ (idx x90 x90n t47_82 1 fun p91 =>
  ∃ (x92 : Option Addr) (x92n : Nat) (x92c : Nat), World.cell? w84 p91 = some (.slice x92 x92n x92c) ∧ ((Calls Tryz.prog 52 ⟨[.slice x86 x86n x86c, .int .i64 x88, .slice x92 x92n x92c]⟩ w84 fun (e93 : Ending) (w94 : World) =>
  ∃ (x95 : Int) (x96 : Int), e93 = .returned (.tuple ⟨[.int .i64 x95, .int .i64 x96]⟩) ∧ (dr row_76 fun p97 =>
  ∃ (x98 : Option Addr) (x98n : Nat) (x98c : Nat), World.cell? w94 p97 = some (.slice x98 x98n x98c) ∧ (dr s_78 fun p99 =>
  ∃ (x100 : Int), World.cell? w94 p99 = some (.int .i64 x100) ∧ (idx x98 x98n x100 1 fun p101 =>
  ∃ (x102 : Int), World.cell? w94 p101 = some (.int .i64 x102) ∧ (idx x98 x98n x100 1 fun p103 =>
  stL w94 p103 0 [.int .i64 (IntKind.i64.wrap (x102 + x95))] fun w104 =>
  Kn w83 w104))))) ∧ True)))))
set_option maxRecDepth 100000 in
theorem er_parsimony_table_1_1 (base : Env) (node_71 : Int) (t1_72 : Option Addr) (t3_73 : Option Addr) (t4_74 : Option Addr) (t5_75 : Option Addr) (row_76 : Option Addr) (k_77 : Int) (s_78 : Option Addr) (t20_79 : Int) (t21_80 : Int) (t46_81 : Fn) (t46_81a : Array Value) (t46_81b : Array Value) (t47_82 : Int) (l : Nat) (Kn Kr Kx : World → World → Prop) (w : World) : fragV Tryz.prog 70 anA_parsimony_table_1_1 anB_parsimony_table_1_1 (cdAt Tryz.f50 [1, 1, 0, 1, 2, 2, 1, 1, 0, 2, 1, 1, 1, 2, 5]) (cdAt Tryz.f50 [1, 1, 0, 1, 2, 2, 1, 1, 0, 2, 1, 1, 1, 2, 6]) l 0 Kn Kr Kx (updPs [47] [.int .i64 t47_82] (upd (upd (upd (upd (upd (upd (upd (upd (upd (upd (upd base 46 (.func t46_81 t46_81a t46_81b)) 21 (.int .i64 t21_80)) 20 (.int .i64 t20_79)) 9 (.pointer s_78)) 8 (.int .i64 k_77)) 7 (.pointer row_76)) 5 (.pointer t5_75)) 4 (.pointer t4_74)) 3 (.pointer t3_73)) 1 (.pointer t1_72)) 0 (.int .i64 node_71))) w = rf_parsimony_table_1_1 node_71 t1_72 t3_73 t4_74 t5_75 row_76 k_77 s_78 t20_79 t21_80 t46_81 t46_81a t46_81b t47_82 l Kn Kr Kx w := by kernel_rfl
theorem cd_parsimony_table_1_1 : cdAt Tryz.f50 [1, 1, 0, 1, 2, 2, 1, 1, 0, 2, 1, 1, 1, 2] = .rangeFunc (Operand.tmp 46) #[47] (cdAt Tryz.f50 [1, 1, 0, 1, 2, 2, 1, 1, 0, 2, 1, 1, 1, 2, 5]) (cdAt Tryz.f50 [1, 1, 0, 1, 2, 2, 1, 1, 0, 2, 1, 1, 1, 2, 6]) := by kernel_rfl

def an_parsimony_children : Ann := .two (.leaf) (.two (.leaf) (.leaf))
def sh_parsimony_children (t_1 : Option Addr) (t_1n : Nat) (t_1c : Nat) (t_2 : Option Addr) (t_2n : Nat) (t_2c : Nat) (node_3 : Int) (R : Ending → World → Prop) (w : World) : Prop :=
  al w 37 [.slice t_1 t_1n t_1c, .slice t_2 t_2n t_2c] fun p4 w5 =>
  al w5 3 [.int .i64 node_3] fun p6 w7 =>
  R (.returned (.func (.func 70) ⟨[]⟩ ⟨[.pointer (some p6), .pointer (some p4)]⟩)) w7
set_option maxRecDepth 100000 in
theorem e_parsimony_children (t_1 : Option Addr) (t_1n : Nat) (t_1c : Nat) (t_2 : Option Addr) (t_2n : Nat) (t_2c : Nat) (node_3 : Int) (R : Ending → World → Prop) (w : World) : fnV Tryz.prog Tryz.f51 an_parsimony_children [.agg ⟨[.slice t_1 t_1n t_1c, .slice t_2 t_2n t_2c]⟩, .int .i64 node_3] R w = sh_parsimony_children t_1 t_1n t_1c t_2 t_2n t_2c node_3 R w := by kernel_rfl
theorem c_parsimony_children {t_1 : Option Addr} {t_1n : Nat} {t_1c : Nat} {t_2 : Option Addr} {t_2n : Nat} {t_2c : Nat} {node_3 : Int} {R : Ending → World → Prop} {w : World} (h : sh_parsimony_children t_1 t_1n t_1c t_2 t_2n t_2c node_3 R w) : Calls Tryz.prog F_parsimony_children ⟨[.agg ⟨[.slice t_1 t_1n t_1c, .slice t_2 t_2n t_2c]⟩, .int .i64 node_3]⟩ w R := calls_of_fnV Tryz.func51 (by rw [e_parsimony_children]; exact h)

def an_parsimony_best : Ann := .two (.leaf) (.two (.leaf) (.two (.two (.leaf) (.one (.loop 2199023230720 [(8, .one (.int .i64)), (9, .one (.int .i64)), (15, .one (.int .i64))] (.two (.leaf) (.two (.two (.leaf) (.leaf)) (.two (.one (.two (.leaf) (.two (.two (.leaf) (.two (.leaf) (.leaf))) (.two (.leaf) (.cut 272730423296 [(37, .one (.bool))] (.leaf) (.two (.leaf) (.leaf))))))) (.leaf))))))) (.two (.leaf) (.leaf))))
def sh_parsimony_best (costs_1 : Option Addr) (costs_1n : Nat) (costs_1c : Nat) (state_2 : Int) (row_3 : Option Addr) (row_3n : Nat) (row_3c : Nat) (R : Ending → World → Prop) (w : World) : Prop :=
  ∃ (I4 : Int → Int → Int → World → Nat → Prop), (∃ m10 : Nat, I4 ((-1)) 0 0 w m10) ∧ ∀ (least_5 : Int) (own_6 : Int) (t15_7 : Int) (w8 : World) (m9 : Nat), I4 least_5 own_6 t15_7 w8 m9 → ∀ _ : Env, (br (decide ((t15_7 : Int) < ((row_3n : Int)))) (idx row_3 row_3n t15_7 1 fun p11 =>
  ∃ (x12 : Int), World.cell? w8 p11 = some (.int .i64 x12) ∧ (br (decide ((x12 : Int) < 0)) (∃ m13 : Nat, m13 < m9 ∧ I4 least_5 own_6 (IntKind.i64.wrap (t15_7 + 1)) w8 m13) (idx costs_1 costs_1n state_2 1 fun p14 =>
  ∃ (x15 : Option Addr) (x15n : Nat) (x15c : Nat), World.cell? w8 p14 = some (.slice x15 x15n x15c) ∧ (idx x15 x15n t15_7 1 fun p16 =>
  ∃ (x17 : Int), World.cell? w8 p16 = some (.int .i64 x17) ∧ (∀ (K18 : Bool → World → Prop), (∀ (t37_19 : Bool) (w20 : World), (∀ _ : Env, (br t37_19 (∃ m21 : Nat, m21 < m9 ∧ I4 (IntKind.i64.wrap (x17 + x12)) t15_7 (IntKind.i64.wrap (t15_7 + 1)) w20 m21) (∃ m22 : Nat, m22 < m9 ∧ I4 least_5 own_6 (IntKind.i64.wrap (t15_7 + 1)) w20 m22))) → K18 t37_19 w20) → (br (decide ((least_5 : Int) < 0)) (K18 true w8) (K18 (decide (((IntKind.i64.wrap (x17 + x12)) : Int) < least_5)) w8))))))) (R (.returned (.tuple ⟨[.int .i64 least_5, .int .i64 own_6]⟩)) w8))
set_option maxRecDepth 100000 in
theorem e_parsimony_best (costs_1 : Option Addr) (costs_1n : Nat) (costs_1c : Nat) (state_2 : Int) (row_3 : Option Addr) (row_3n : Nat) (row_3c : Nat) (R : Ending → World → Prop) (w : World) : fnV Tryz.prog Tryz.f52 an_parsimony_best [.slice costs_1 costs_1n costs_1c, .int .i64 state_2, .slice row_3 row_3n row_3c] R w = sh_parsimony_best costs_1 costs_1n costs_1c state_2 row_3 row_3n row_3c R w := by kernel_rfl
theorem c_parsimony_best {costs_1 : Option Addr} {costs_1n : Nat} {costs_1c : Nat} {state_2 : Int} {row_3 : Option Addr} {row_3n : Nat} {row_3c : Nat} {R : Ending → World → Prop} {w : World} (h : sh_parsimony_best costs_1 costs_1n costs_1c state_2 row_3 row_3n row_3c R w) : Calls Tryz.prog F_parsimony_best ⟨[.slice costs_1 costs_1n costs_1c, .int .i64 state_2, .slice row_3 row_3n row_3c]⟩ w R := calls_of_fnV Tryz.func52 (by rw [e_parsimony_best]; exact h)

def an_slices_Repeat_of_int_int : Ann := .two (.leaf) (.cut 3584 [] (.two (.leaf) (.two (.leaf) (.leaf))) (.two (.leaf) (.cut 266338304 [] (.two (.leaf) (.two (.leaf) (.leaf))) (.two (.leaf) (.two (.leaf) (.two (.one (.loop 140720308486400 [(8, .one (.int .i64))] (.two (.two (.leaf) (.two (.leaf) (.leaf))) (.one (.leaf))))) (.two (.leaf) (.leaf))))))))
def sh_slices_Repeat_of_int_int (x_1 : Option Addr) (x_1n : Nat) (x_1c : Nat) (count_2 : Int) (R : Ending → World → Prop) (w : World) : Prop :=
  ∀ (K3 : World → Prop), (∀  (w4 : World), (∀ _ : Env, (Calls Tryz.prog 71 ⟨[.int .u64 (IntKind.u64.wrap ((x_1n : Int))), .int .u64 (IntKind.u64.wrap count_2)]⟩ w4 fun (e5 : Ending) (w6 : World) =>
  ∃ (x7 : Int) (x8 : Int), e5 = .returned (.tuple ⟨[.int .u64 x7, .int .u64 x8]⟩) ∧ (∀ (K9 : World → Prop), (∀  (w10 : World), (∀ _ : Env, (mks w10 3 8 [.int .i64 0] (IntKind.i64.wrap x8) (IntKind.i64.wrap x8) fun p11 w12 =>
  cpy Tryz.prog [30, 30] 3 [.slice (some p11) (Int.toNat (IntKind.i64.wrap x8)) (Int.toNat (IntKind.i64.wrap x8)), .slice x_1 x_1n x_1c] w12 fun n14 w13 =>
  ∃ (I15 : Int → World → Nat → Prop), (∃ m19 : Nat, I15 n14 w13 m19) ∧ ∀ (n_16 : Int) (w17 : World) (m18 : Nat), I15 n_16 w17 m18 → ∀ _ : Env, (br (decide ((n_16 : Int) < (((Int.toNat (IntKind.i64.wrap x8)) : Int)))) (drw w17 fun w20 =>
  sls (some p11) (Int.toNat (IntKind.i64.wrap x8)) n_16 ((Int.toNat (IntKind.i64.wrap x8)) : Int) 1 fun a21 a21n a21c =>
  sls (some p11) (Int.toNat (IntKind.i64.wrap x8)) 0 n_16 1 fun a22 a22n a22c =>
  (cpy Tryz.prog [30, 30] 3 [.slice a21 a21n a21c, .slice a22 a22n a22c] w20 fun n24 w23 =>
  ∃ m25 : Nat, m25 < m18 ∧ I15 (IntKind.i64.wrap (n_16 + n24)) w23 m25) ∧ True) (R (.returned (.slice (some p11) (Int.toNat (IntKind.i64.wrap x8)) (Int.toNat (IntKind.i64.wrap x8)))) w17)))) → K9 w10) → (br (decide ((0 : Int) < x7)) (False) (br (decide ((9223372036854775807 : Int) < x8)) (False) (K9 w6)))))) → K3 w4) → (br (decide ((count_2 : Int) < 0)) (False) (K3 w))
set_option maxRecDepth 100000 in
theorem e_slices_Repeat_of_int_int (x_1 : Option Addr) (x_1n : Nat) (x_1c : Nat) (count_2 : Int) (R : Ending → World → Prop) (w : World) : fnV Tryz.prog Tryz.f53 an_slices_Repeat_of_int_int [.slice x_1 x_1n x_1c, .int .i64 count_2] R w = sh_slices_Repeat_of_int_int x_1 x_1n x_1c count_2 R w := by kernel_rfl
theorem c_slices_Repeat_of_int_int {x_1 : Option Addr} {x_1n : Nat} {x_1c : Nat} {count_2 : Int} {R : Ending → World → Prop} {w : World} (h : sh_slices_Repeat_of_int_int x_1 x_1n x_1c count_2 R w) : Calls Tryz.prog F_slices_Repeat_of_int_int ⟨[.slice x_1 x_1n x_1c, .int .i64 count_2]⟩ w R := calls_of_fnV Tryz.func53 (by rw [e_slices_Repeat_of_int_int]; exact h)

def an_charset_Letters : Ann := .two (.leaf) (.two (.leaf) (.two (.two (.leaf) (.one (.loop 16777016 [(3, .one (.int .i64)), (8, .one (.int .i64))] (.two (.leaf) (.two (.two (.leaf) (.leaf)) (.two (.one (.two (.leaf) (.two (.leaf) (.two (.leaf) (.two (.leaf) (.leaf)))))) (.leaf))))))) (.two (.leaf) (.leaf))))
def sh_charset_Letters (s_1 : List UInt8) (R : Ending → World → Prop) (w : World) : Prop :=
  ∃ (I2 : Int → Int → World → Nat → Prop), (∃ m7 : Nat, I2 0 0 w m7) ∧ ∀ (n_3 : Int) (t8_4 : Int) (w5 : World) (m6 : Nat), I2 n_3 t8_4 w5 m6 → ∀ _ : Env, (br (decide ((t8_4 : Int) < ((List.length s_1 : Int)))) (sidx s_1 t8_4 fun b8 =>
  Calls Tryz.prog 72 ⟨[.int .u8 ((b8.toNat : Int))]⟩ w5 fun (e9 : Ending) (w10 : World) =>
  ∃ (x11 : Int), e9 = .returned (.int .i64 x11) ∧ (br (decide ((x11 : Int) = 1)) (∃ m12 : Nat, m12 < m6 ∧ I2 (IntKind.i64.wrap (n_3 + 1)) (IntKind.i64.wrap (t8_4 + 1)) w10 m12) (br (decide ((x11 : Int) = 3)) (∃ m13 : Nat, m13 < m6 ∧ I2 (IntKind.i64.wrap (n_3 + 1)) (IntKind.i64.wrap (t8_4 + 1)) w10 m13) (∃ m14 : Nat, m14 < m6 ∧ I2 n_3 (IntKind.i64.wrap (t8_4 + 1)) w10 m14)))) (R (.returned (.int .i64 n_3)) w5))
set_option maxRecDepth 100000 in
theorem e_charset_Letters (s_1 : List UInt8) (R : Ending → World → Prop) (w : World) : fnV Tryz.prog Tryz.f54 an_charset_Letters [.string ⟨⟨s_1⟩⟩] R w = sh_charset_Letters s_1 R w := by kernel_rfl
theorem c_charset_Letters {s_1 : List UInt8} {R : Ending → World → Prop} {w : World} (h : sh_charset_Letters s_1 R w) : Calls Tryz.prog F_charset_Letters ⟨[.string ⟨⟨s_1⟩⟩]⟩ w R := calls_of_fnV Tryz.func54 (by rw [e_charset_Letters]; exact h)

def an_intset_Intersect : Ann := .two (.leaf) (.two (.leaf) (.leaf))
def sh_intset_Intersect (a_1 : Option Addr) (a_1n : Nat) (a_1c : Nat) (b_2 : Option Addr) (b_2n : Nat) (b_2c : Nat) (R : Ending → World → Prop) (w : World) : Prop :=
  Calls Tryz.prog 73 ⟨[.slice a_1 a_1n a_1c, .slice b_2 b_2n b_2c, .func (.func 74) #[] #[]]⟩ w fun (e3 : Ending) (w4 : World) =>
  ∃ (x5 : Option Addr) (x5n : Nat) (x5c : Nat) (x6 : Int), e3 = .returned (.tuple ⟨[.slice x5 x5n x5c, .int .i64 x6]⟩) ∧ (R (.returned (.tuple ⟨[.slice x5 x5n x5c, .int .i64 x6]⟩)) w4)
set_option maxRecDepth 100000 in
theorem e_intset_Intersect (a_1 : Option Addr) (a_1n : Nat) (a_1c : Nat) (b_2 : Option Addr) (b_2n : Nat) (b_2c : Nat) (R : Ending → World → Prop) (w : World) : fnV Tryz.prog Tryz.f55 an_intset_Intersect [.slice a_1 a_1n a_1c, .slice b_2 b_2n b_2c] R w = sh_intset_Intersect a_1 a_1n a_1c b_2 b_2n b_2c R w := by kernel_rfl
theorem c_intset_Intersect {a_1 : Option Addr} {a_1n : Nat} {a_1c : Nat} {b_2 : Option Addr} {b_2n : Nat} {b_2c : Nat} {R : Ending → World → Prop} {w : World} (h : sh_intset_Intersect a_1 a_1n a_1c b_2 b_2n b_2c R w) : Calls Tryz.prog F_intset_Intersect ⟨[.slice a_1 a_1n a_1c, .slice b_2 b_2n b_2c]⟩ w R := calls_of_fnV Tryz.func55 (by rw [e_intset_Intersect]; exact h)

def an_phylotree_nodes : Ann := .two (.leaf) (.two (.leaf) (.two (.two (.leaf) (.one (.loop 2251799813677104 [(13, .one (.int .i64))] (.two (.leaf) (.two (.two (.leaf) (.leaf)) (.two (.one (.two (.leaf) (.two (.leaf) (.two (.leaf) (.two (.one (.leaf)) (.leaf)))))) (.leaf))))))) (.two (.leaf) (.leaf))))
def sh_phylotree_nodes (t_1 : Option Addr) (t_1n : Nat) (t_1c : Nat) (t_2 : Option Addr) (t_2n : Nat) (t_2c : Nat) (R : Ending → World → Prop) (w : World) : Prop :=
  al w 37 [.slice t_1 t_1n t_1c, .slice t_2 t_2n t_2c] fun p3 w4 =>
  ∃ (x5 : Option Addr) (x5n : Nat) (x5c : Nat), World.cell? w4 (p3.add 0) = some (.slice x5 x5n x5c) ∧ (mks w4 88 8 [.pointer none] ((x5n : Int)) ((x5n : Int)) fun p6 w7 =>
  ∃ (x8 : Option Addr) (x8n : Nat) (x8c : Nat), World.cell? w7 (p3.add 0) = some (.slice x8 x8n x8c) ∧ (∃ (I9 : Int → World → Nat → Prop), (∃ m13 : Nat, I9 0 w7 m13) ∧ ∀ (t13_10 : Int) (w11 : World) (m12 : Nat), I9 t13_10 w11 m12 → ∀ _ : Env, (br (decide ((t13_10 : Int) < ((x8n : Int)))) (idx x8 x8n t13_10 1 fun p14 =>
  ∃ (x15 : Int), World.cell? w11 p14 = some (.int .i64 x15) ∧ (∃ (x16 : Option Addr) (x16n : Nat) (x16c : Nat), World.cell? w11 (p3.add 1) = some (.slice x16 x16n x16c) ∧ (idx x16 x16n t13_10 1 fun p17 =>
  ∃ (x18 : List UInt8), World.cell? w11 p17 = some (.string ⟨⟨x18⟩⟩) ∧ (al w11 113 [.string ⟨⟨x18⟩⟩, .slice none 0 0, .int .i64 t13_10] fun p19 w20 =>
  idx (some p6) (Int.toNat ((x5n : Int))) t13_10 1 fun p21 =>
  stL w20 p21 0 [.pointer (some p19)] fun w22 =>
  br (decide ((0 : Int) ≤ x15)) (drw w22 fun w23 =>
  idx (some p6) (Int.toNat ((x5n : Int))) x15 1 fun p24 =>
  idx (some p6) (Int.toNat ((x5n : Int))) x15 1 fun p25 =>
  ∃ (x26 : Option Addr), World.cell? w23 p25 = some (.pointer x26) ∧ (dr x26 fun p27 =>
  ∃ (x28 : Option Addr) (x28n : Nat) (x28c : Nat), World.cell? w23 (p27.add 1) = some (.slice x28 x28n x28c) ∧ (idx (some p6) (Int.toNat ((x5n : Int))) t13_10 1 fun p29 =>
  ∃ (x30 : Option Addr), World.cell? w23 p29 = some (.pointer x30) ∧ ((∃ (x31 : Option Addr), World.cell? w23 p24 = some (.pointer x31) ∧ ((al w23 88 [.pointer x30] fun p32 w33 =>
  (app Tryz.prog [89, 89] 89 (.slice x28 x28n x28c) (.slice (some p32) 1 1) w33 fun a34 a34n a34c w35 =>
  dr x31 fun p36 =>
  (stL w35 (p36.add 1) 0 [.slice a34 a34n a34c] fun w37 =>
  ∃ m38 : Nat, m38 < m12 ∧ I9 (IntKind.i64.wrap (t13_10 + 1)) w37 m38) ∧ True) ∧ True) ∧ True)) ∧ (al w23 88 [.pointer x30] fun p39 w40 =>
  (app Tryz.prog [89, 89] 89 (.slice x28 x28n x28c) (.slice (some p39) 1 1) w40 fun a41 a41n a41c w42 =>
  ∃ (x43 : Option Addr), World.cell? w42 p24 = some (.pointer x43) ∧ (dr x43 fun p44 =>
  (stL w42 (p44.add 1) 0 [.slice a41 a41n a41c] fun w45 =>
  ∃ m46 : Nat, m46 < m12 ∧ I9 (IntKind.i64.wrap (t13_10 + 1)) w45 m46) ∧ True)) ∧ True) ∧ True)))) (∃ m47 : Nat, m47 < m12 ∧ I9 (IntKind.i64.wrap (t13_10 + 1)) w22 m47))))) (R (.returned (.slice (some p6) (Int.toNat ((x5n : Int))) (Int.toNat ((x5n : Int))))) w11))))
set_option maxRecDepth 100000 in
theorem e_phylotree_nodes (t_1 : Option Addr) (t_1n : Nat) (t_1c : Nat) (t_2 : Option Addr) (t_2n : Nat) (t_2c : Nat) (R : Ending → World → Prop) (w : World) : fnV Tryz.prog Tryz.f56 an_phylotree_nodes [.agg ⟨[.slice t_1 t_1n t_1c, .slice t_2 t_2n t_2c]⟩] R w = sh_phylotree_nodes t_1 t_1n t_1c t_2 t_2n t_2c R w := by kernel_rfl
theorem c_phylotree_nodes {t_1 : Option Addr} {t_1n : Nat} {t_1c : Nat} {t_2 : Option Addr} {t_2n : Nat} {t_2c : Nat} {R : Ending → World → Prop} {w : World} (h : sh_phylotree_nodes t_1 t_1n t_1c t_2 t_2n t_2c R w) : Calls Tryz.prog F_phylotree_nodes ⟨[.agg ⟨[.slice t_1 t_1n t_1c, .slice t_2 t_2n t_2c]⟩]⟩ w R := calls_of_fnV Tryz.func56 (by rw [e_phylotree_nodes]; exact h)

def an_phylotree_sorted : Ann := .two (.leaf) (.two (.two (.leaf) (.two (.two (.leaf) (.leaf)) (.leaf))) (.two (.leaf) (.two (.two (.leaf) (.one (.loop 2143289376 [(22, .one (.int .i64))] (.two (.leaf) (.two (.two (.leaf) (.leaf)) (.two (.one (.two (.leaf) (.one (.leaf)))) (.leaf))))))) (.two (.leaf) (.two (.leaf) (.leaf))))))
def sh_phylotree_sorted (x_1 : Option Addr) (R : Ending → World → Prop) (w : World) : Prop :=
  dr x_1 fun p2 =>
  ∃ (x3 : Option Addr) (x3n : Nat) (x3c : Nat), World.cell? w (p2.add 1) = some (.slice x3 x3n x3c) ∧ (br (decide ((((x3n : Int)) : Int) = 0)) (dr x_1 fun p4 =>
  ∃ (x5 : List UInt8), World.cell? w (p4.add 0) = some (.string ⟨⟨x5⟩⟩) ∧ (R (.returned (.string ⟨⟨x5⟩⟩)) w)) (mkm w fun b6 w7 =>
  al w7 114 [.map none] fun p8 w9 =>
  stL w9 p8 0 [.map (some b6)] fun w10 =>
  dr x_1 fun p11 =>
  ∃ (x12 : Option Addr) (x12n : Nat) (x12c : Nat), World.cell? w10 (p11.add 1) = some (.slice x12 x12n x12c) ∧ (∃ (I13 : Int → World → Nat → Prop), (∃ m17 : Nat, I13 0 w10 m17) ∧ ∀ (t22_14 : Int) (w15 : World) (m16 : Nat), I13 t22_14 w15 m16 → ∀ _ : Env, (br (decide ((t22_14 : Int) < ((x12n : Int)))) (idx x12 x12n t22_14 1 fun p18 =>
  ∃ (x19 : Option Addr), World.cell? w15 p18 = some (.pointer x19) ∧ (drw w15 fun w20 =>
  (∃ (x21 : Value), World.cell? w20 p8 = some (x21) ∧ ((Calls Tryz.prog 57 ⟨[.pointer x19]⟩ w20 fun (e22 : Ending) (w23 : World) =>
  ∃ (x24 : List UInt8), e22 = .returned (.string ⟨⟨x24⟩⟩) ∧ ((mupd Tryz.prog 114 x21 (.pointer x19) (.string ⟨⟨x24⟩⟩) w23 fun w25 =>
  ∃ m26 : Nat, m26 < m16 ∧ I13 (IntKind.i64.wrap (t22_14 + 1)) w25 m26) ∧ True)) ∧ True)) ∧ (Calls Tryz.prog 57 ⟨[.pointer x19]⟩ w20 fun (e27 : Ending) (w28 : World) =>
  ∃ (x29 : List UInt8), e27 = .returned (.string ⟨⟨x29⟩⟩) ∧ (∃ (x30 : Value), World.cell? w28 p8 = some (x30) ∧ ((mupd Tryz.prog 114 x30 (.pointer x19) (.string ⟨⟨x29⟩⟩) w28 fun w31 =>
  ∃ m32 : Nat, m32 < m16 ∧ I13 (IntKind.i64.wrap (t22_14 + 1)) w31 m32) ∧ True))) ∧ True)) (dr x_1 fun p33 =>
  ∃ (x34 : Option Addr) (x34n : Nat) (x34c : Nat), World.cell? w15 (p33.add 1) = some (.slice x34 x34n x34c) ∧ (Calls Tryz.prog 75 ⟨[.slice x34 x34n x34c, .func (.func 76) ⟨[]⟩ ⟨[.pointer (some p8)]⟩]⟩ w15 fun (e35 : Ending) (w36 : World) =>
  e35 = .returned (.tuple ⟨[]⟩) ∧ (drw w36 fun w37 =>
  ∃ (x38 : Value), World.cell? w37 p8 = some (x38) ∧ (dr x_1 fun p39 =>
  ∃ (x40 : Option Addr) (x40n : Nat) (x40c : Nat), World.cell? w37 (p39.add 1) = some (.slice x40 x40n x40c) ∧ (idx x40 x40n 0 1 fun p41 =>
  ∃ (x42 : Option Addr), World.cell? w37 p41 = some (.pointer x42) ∧ ((∃ (x43 : List UInt8), lkAt Tryz.prog 114 x38 (.pointer x42) w37 (.string ⟨⟨x43⟩⟩) ∧ (R (.returned (.string ⟨⟨x43⟩⟩)) w37)) ∧ True))))))))))
set_option maxRecDepth 100000 in
theorem e_phylotree_sorted (x_1 : Option Addr) (R : Ending → World → Prop) (w : World) : fnV Tryz.prog Tryz.f57 an_phylotree_sorted [.pointer x_1] R w = sh_phylotree_sorted x_1 R w := by kernel_rfl
theorem c_phylotree_sorted {x_1 : Option Addr} {R : Ending → World → Prop} {w : World} (h : sh_phylotree_sorted x_1 R w) : Calls Tryz.prog F_phylotree_sorted ⟨[.pointer x_1]⟩ w R := calls_of_fnV Tryz.func57 (by rw [e_phylotree_sorted]; exact h)

def an_phylotree_tree : Ann := .two (.leaf) (.two (.leaf) (.two (.leaf) (.two (.two (.leaf) (.one (.rf [2, 3, 4, 10] 0))) (.two (.leaf) (.leaf)))))
def sh_phylotree_tree (root_1 : Option Addr) (R : Ending → World → Prop) (w : World) : Prop :=
  al w 37 [.slice none 0 0, .slice none 0 0] fun p2 w3 =>
  al w3 37 [.slice none 0 0, .slice none 0 0] fun p4 w5 =>
  mkm w5 fun b6 w7 =>
  mupd Tryz.prog 118 (.map (some b6)) (.pointer none) (.int .i64 ((-1))) w7 fun w8 =>
  al w8 118 [.map none] fun p9 w10 =>
  stL w10 p9 0 [.map (some b6)] fun w11 =>
  Calls Tryz.prog 78 ⟨[.pointer root_1]⟩ w11 fun (e12 : Ending) (w13 : World) =>
  ∃ (x14 : Fn) (x14a : Array Value) (x14b : Array Value), e12 = .returned (.func x14 x14a x14b) ∧ (∀ base15 : Env, RFw Tryz.prog none 36 (cdAt Tryz.f58 [1, 1, 1, 0, 1, 2]) (upd (upd (upd (upd base15 10 (.func x14 x14a x14b)) 4 (.pointer (some p9))) 3 (.pointer (some p4))) 2 (.pointer (some p2))) [] w13 0 (fun ds16 w17 =>
  ∃ (x24 : Option Addr) (x24n : Nat) (x24c : Nat), World.cell? w17 (p4.add 0) = some (.slice x24 x24n x24c) ∧ (∃ (x25 : Option Addr) (x25n : Nat) (x25c : Nat), World.cell? w17 (p4.add 1) = some (.slice x25 x25n x25c) ∧ (stL w17 p2 0 [.slice x24 x24n x24c, .slice x25 x25n x25c] fun w26 =>
  retD ds16 w26 fun w27 =>
  ∃ (x28 : Option Addr) (x28n : Nat) (x28c : Nat), World.cell? w27 (p2.add 0) = some (.slice x28 x28n x28c) ∧ (∃ (x29 : Option Addr) (x29n : Nat) (x29c : Nat), World.cell? w27 (p2.add 1) = some (.slice x29 x29n x29c) ∧ (R (.returned (.agg ⟨[.slice x28 x28n x28c, .slice x29 x29n x29c]⟩)) w27))))) (fun ds16 w17 =>
  retD ds16 w17 fun w30 =>
  ∃ (x31 : Option Addr) (x31n : Nat) (x31c : Nat), World.cell? w30 (p2.add 0) = some (.slice x31 x31n x31c) ∧ (∃ (x32 : Option Addr) (x32n : Nat) (x32c : Nat), World.cell? w30 (p2.add 1) = some (.slice x32 x32n x32c) ∧ (R (.returned (.agg ⟨[.slice x31 x31n x31c, .slice x32 x32n x32c]⟩)) w30))) (fun ds16 w17 =>
  ∃ (x18 : Option Addr) (x18n : Nat) (x18c : Nat), World.cell? w17 (p4.add 0) = some (.slice x18 x18n x18c) ∧ (∃ (x19 : Option Addr) (x19n : Nat) (x19c : Nat), World.cell? w17 (p4.add 1) = some (.slice x19 x19n x19c) ∧ (stL w17 p2 0 [.slice x18 x18n x18c, .slice x19 x19n x19c] fun w20 =>
  retD ds16 w20 fun w21 =>
  ∃ (x22 : Option Addr) (x22n : Nat) (x22c : Nat), World.cell? w21 (p2.add 0) = some (.slice x22 x22n x22c) ∧ (∃ (x23 : Option Addr) (x23n : Nat) (x23c : Nat), World.cell? w21 (p2.add 1) = some (.slice x23 x23n x23c) ∧ (R (.returned (.agg ⟨[.slice x22 x22n x22c, .slice x23 x23n x23c]⟩)) w21))))))
set_option maxRecDepth 100000 in
theorem e_phylotree_tree (root_1 : Option Addr) (R : Ending → World → Prop) (w : World) : fnV Tryz.prog Tryz.f58 an_phylotree_tree [.pointer root_1] R w = sh_phylotree_tree root_1 R w := by kernel_rfl
theorem c_phylotree_tree {root_1 : Option Addr} {R : Ending → World → Prop} {w : World} (h : sh_phylotree_tree root_1 R w) : Calls Tryz.prog F_phylotree_tree ⟨[.pointer root_1]⟩ w R := calls_of_fnV Tryz.func58 (by rw [e_phylotree_tree]; exact h)
def anA_phylotree_tree_1 : Ann := .two (.leaf) (.leaf)
def anB_phylotree_tree_1 : Ann := .one (.two (.leaf) (.one (.leaf)))
def rf_phylotree_tree_1 (t2_33 : Option Addr) (t_34 : Option Addr) (numbers_35 : Option Addr) (t10_36 : Fn) (t10_36a : Array Value) (t10_36b : Array Value) (t11_37 : Option Addr) (t12_38 : Option Addr) (l : Nat) (Kn Kr Kx : World → World → Prop) (w : World) : Prop :=
  Ext w w ∧ ∀ w39 : World, Upd l w w39 → (dr numbers_35 fun p40 =>
  ∃ (x41 : Value), World.cell? w39 p40 = some (x41) ∧ (dr t_34 fun p42 =>
  ∃ (x43 : Option Addr) (x43n : Nat) (x43c : Nat), World.cell? w39 (p42.add 0) = some (.slice x43 x43n x43c) ∧ (mupd Tryz.prog 118 x41 (.pointer t11_37) (.int .i64 ((x43n : Int))) w39 fun w44 =>
  drw w44 fun w45 =>
  dr t_34 fun p46 =>
  dr numbers_35 fun p47 =>
  ∃ (x48 : Value), World.cell? w45 p47 = some (x48) ∧ (dr t_34 fun p49 =>
  dr t11_37 fun p50 =>
  (∃ (x51 : Option Addr) (x51n : Nat) (x51c : Nat), World.cell? w45 (p46.add 0) = some (.slice x51 x51n x51c) ∧ ((∃ (x52 : Int), lkAt Tryz.prog 118 x48 (.pointer t12_38) w45 (.int .i64 x52) ∧ ((al w45 3 [.int .i64 x52] fun p53 w54 =>
  (app Tryz.prog [30, 30] 30 (.slice x51 x51n x51c) (.slice (some p53) 1 1) w54 fun a55 a55n a55c w56 =>
  ∃ (x57 : Option Addr) (x57n : Nat) (x57c : Nat), World.cell? w56 (p49.add 1) = some (.slice x57 x57n x57c) ∧ (∃ (x58 : List UInt8), World.cell? w56 (p50.add 0) = some (.string ⟨⟨x58⟩⟩) ∧ (dr t_34 fun p59 =>
  (al w56 9 [.string ⟨⟨x58⟩⟩] fun p60 w61 =>
  (app Tryz.prog [22, 22] 22 (.slice x57 x57n x57c) (.slice (some p60) 1 1) w61 fun a62 a62n a62c w63 =>
  (stL w63 (p59.add 0) 0 [.slice a55 a55n a55c] fun w64 =>
  dr t_34 fun p65 =>
  (stL w64 (p65.add 1) 0 [.slice a62 a62n a62c] fun w66 =>
  Kn w39 w66) ∧ True) ∧ True) ∧ True) ∧ True))) ∧ (∃ (x67 : Option Addr) (x67n : Nat) (x67c : Nat), World.cell? w54 (p49.add 1) = some (.slice x67 x67n x67c) ∧ ((app Tryz.prog [30, 30] 30 (.slice x51 x51n x51c) (.slice (some p53) 1 1) w54 fun a68 a68n a68c w69 =>
  ∃ (x70 : List UInt8), World.cell? w69 (p50.add 0) = some (.string ⟨⟨x70⟩⟩) ∧ (dr t_34 fun p71 =>
  (al w69 9 [.string ⟨⟨x70⟩⟩] fun p72 w73 =>
  (app Tryz.prog [22, 22] 22 (.slice x67 x67n x67c) (.slice (some p72) 1 1) w73 fun a74 a74n a74c w75 =>
  (stL w75 (p71.add 0) 0 [.slice a68 a68n a68c] fun w76 =>
  dr t_34 fun p77 =>
  (stL w76 (p77.add 1) 0 [.slice a74 a74n a74c] fun w78 =>
  Kn w39 w78) ∧ True) ∧ True) ∧ True) ∧ True)) ∧ (∃ (x79 : List UInt8), World.cell? w54 (p50.add 0) = some (.string ⟨⟨x79⟩⟩) ∧ ((app Tryz.prog [30, 30] 30 (.slice x51 x51n x51c) (.slice (some p53) 1 1) w54 fun a80 a80n a80c w81 =>
  dr t_34 fun p82 =>
  (al w81 9 [.string ⟨⟨x79⟩⟩] fun p83 w84 =>
  (app Tryz.prog [22, 22] 22 (.slice x67 x67n x67c) (.slice (some p83) 1 1) w84 fun a85 a85n a85c w86 =>
  (stL w86 (p82.add 0) 0 [.slice a80 a80n a80c] fun w87 =>
  dr t_34 fun p88 =>
  (stL w87 (p88.add 1) 0 [.slice a85 a85n a85c] fun w89 =>
  Kn w39 w89) ∧ True) ∧ True) ∧ True) ∧ True) ∧ (al w54 9 [.string ⟨⟨x79⟩⟩] fun p90 w91 =>
  (app Tryz.prog [30, 30] 30 (.slice x51 x51n x51c) (.slice (some p53) 1 1) w91 fun a92 a92n a92c w93 =>
  dr t_34 fun p94 =>
  (app Tryz.prog [22, 22] 22 (.slice x67 x67n x67c) (.slice (some p90) 1 1) w93 fun a95 a95n a95c w96 =>
  (stL w96 (p94.add 0) 0 [.slice a92 a92n a92c] fun w97 =>
  dr t_34 fun p98 =>
  (stL w97 (p98.add 1) 0 [.slice a95 a95n a95c] fun w99 =>
  Kn w39 w99) ∧ True) ∧ True) ∧ True) ∧ True) ∧ True)) ∧ True)) ∧ (∃ (x100 : List UInt8), World.cell? w54 (p50.add 0) = some (.string ⟨⟨x100⟩⟩) ∧ ((app Tryz.prog [30, 30] 30 (.slice x51 x51n x51c) (.slice (some p53) 1 1) w54 fun a101 a101n a101c w102 =>
  ∃ (x103 : Option Addr) (x103n : Nat) (x103c : Nat), World.cell? w102 (p49.add 1) = some (.slice x103 x103n x103c) ∧ (dr t_34 fun p104 =>
  (al w102 9 [.string ⟨⟨x100⟩⟩] fun p105 w106 =>
  (app Tryz.prog [22, 22] 22 (.slice x103 x103n x103c) (.slice (some p105) 1 1) w106 fun a107 a107n a107c w108 =>
  (stL w108 (p104.add 0) 0 [.slice a101 a101n a101c] fun w109 =>
  dr t_34 fun p110 =>
  (stL w109 (p110.add 1) 0 [.slice a107 a107n a107c] fun w111 =>
  Kn w39 w111) ∧ True) ∧ True) ∧ True) ∧ True)) ∧ (al w54 9 [.string ⟨⟨x100⟩⟩] fun p112 w113 =>
  (app Tryz.prog [30, 30] 30 (.slice x51 x51n x51c) (.slice (some p53) 1 1) w113 fun a114 a114n a114c w115 =>
  ∃ (x116 : Option Addr) (x116n : Nat) (x116c : Nat), World.cell? w115 (p49.add 1) = some (.slice x116 x116n x116c) ∧ (dr t_34 fun p117 =>
  (app Tryz.prog [22, 22] 22 (.slice x116 x116n x116c) (.slice (some p112) 1 1) w115 fun a118 a118n a118c w119 =>
  (stL w119 (p117.add 0) 0 [.slice a114 a114n a114c] fun w120 =>
  dr t_34 fun p121 =>
  (stL w120 (p121.add 1) 0 [.slice a118 a118n a118c] fun w122 =>
  Kn w39 w122) ∧ True) ∧ True) ∧ True)) ∧ True) ∧ True)) ∧ True) ∧ (∃ (x123 : Option Addr) (x123n : Nat) (x123c : Nat), World.cell? w45 (p49.add 1) = some (.slice x123 x123n x123c) ∧ ((al w45 3 [.int .i64 x52] fun p124 w125 =>
  (app Tryz.prog [30, 30] 30 (.slice x51 x51n x51c) (.slice (some p124) 1 1) w125 fun a126 a126n a126c w127 =>
  ∃ (x128 : List UInt8), World.cell? w127 (p50.add 0) = some (.string ⟨⟨x128⟩⟩) ∧ (dr t_34 fun p129 =>
  (al w127 9 [.string ⟨⟨x128⟩⟩] fun p130 w131 =>
  (app Tryz.prog [22, 22] 22 (.slice x123 x123n x123c) (.slice (some p130) 1 1) w131 fun a132 a132n a132c w133 =>
  (stL w133 (p129.add 0) 0 [.slice a126 a126n a126c] fun w134 =>
  dr t_34 fun p135 =>
  (stL w134 (p135.add 1) 0 [.slice a132 a132n a132c] fun w136 =>
  Kn w39 w136) ∧ True) ∧ True) ∧ True) ∧ True)) ∧ (∃ (x137 : List UInt8), World.cell? w125 (p50.add 0) = some (.string ⟨⟨x137⟩⟩) ∧ ((app Tryz.prog [30, 30] 30 (.slice x51 x51n x51c) (.slice (some p124) 1 1) w125 fun a138 a138n a138c w139 =>
  dr t_34 fun p140 =>
  (al w139 9 [.string ⟨⟨x137⟩⟩] fun p141 w142 =>
  (app Tryz.prog [22, 22] 22 (.slice x123 x123n x123c) (.slice (some p141) 1 1) w142 fun a143 a143n a143c w144 =>
  (stL w144 (p140.add 0) 0 [.slice a138 a138n a138c] fun w145 =>
  dr t_34 fun p146 =>
  (stL w145 (p146.add 1) 0 [.slice a143 a143n a143c] fun w147 =>
  Kn w39 w147) ∧ True) ∧ True) ∧ True) ∧ True) ∧ (al w125 9 [.string ⟨⟨x137⟩⟩] fun p148 w149 =>
  (app Tryz.prog [30, 30] 30 (.slice x51 x51n x51c) (.slice (some p124) 1 1) w149 fun a150 a150n a150c w151 =>
  dr t_34 fun p152 =>
  (app Tryz.prog [22, 22] 22 (.slice x123 x123n x123c) (.slice (some p148) 1 1) w151 fun a153 a153n a153c w154 =>
  (stL w154 (p152.add 0) 0 [.slice a150 a150n a150c] fun w155 =>
  dr t_34 fun p156 =>
  (stL w155 (p156.add 1) 0 [.slice a153 a153n a153c] fun w157 =>
  Kn w39 w157) ∧ True) ∧ True) ∧ True) ∧ True) ∧ True)) ∧ True) ∧ (∃ (x158 : List UInt8), World.cell? w45 (p50.add 0) = some (.string ⟨⟨x158⟩⟩) ∧ ((al w45 3 [.int .i64 x52] fun p159 w160 =>
  (app Tryz.prog [30, 30] 30 (.slice x51 x51n x51c) (.slice (some p159) 1 1) w160 fun a161 a161n a161c w162 =>
  dr t_34 fun p163 =>
  (al w162 9 [.string ⟨⟨x158⟩⟩] fun p164 w165 =>
  (app Tryz.prog [22, 22] 22 (.slice x123 x123n x123c) (.slice (some p164) 1 1) w165 fun a166 a166n a166c w167 =>
  (stL w167 (p163.add 0) 0 [.slice a161 a161n a161c] fun w168 =>
  dr t_34 fun p169 =>
  (stL w168 (p169.add 1) 0 [.slice a166 a166n a166c] fun w170 =>
  Kn w39 w170) ∧ True) ∧ True) ∧ True) ∧ True) ∧ (al w160 9 [.string ⟨⟨x158⟩⟩] fun p171 w172 =>
  (app Tryz.prog [30, 30] 30 (.slice x51 x51n x51c) (.slice (some p159) 1 1) w172 fun a173 a173n a173c w174 =>
  dr t_34 fun p175 =>
  (app Tryz.prog [22, 22] 22 (.slice x123 x123n x123c) (.slice (some p171) 1 1) w174 fun a176 a176n a176c w177 =>
  (stL w177 (p175.add 0) 0 [.slice a173 a173n a173c] fun w178 =>
  dr t_34 fun p179 =>
  (stL w178 (p179.add 1) 0 [.slice a176 a176n a176c] fun w180 =>
  Kn w39 w180) ∧ True) ∧ True) ∧ True) ∧ True) ∧ True) ∧ (al w45 9 [.string ⟨⟨x158⟩⟩] fun p181 w182 =>
  (al w182 3 [.int .i64 x52] fun p183 w184 =>
  (app Tryz.prog [30, 30] 30 (.slice x51 x51n x51c) (.slice (some p183) 1 1) w184 fun a185 a185n a185c w186 =>
  dr t_34 fun p187 =>
  (app Tryz.prog [22, 22] 22 (.slice x123 x123n x123c) (.slice (some p181) 1 1) w186 fun a188 a188n a188c w189 =>
  (stL w189 (p187.add 0) 0 [.slice a185 a185n a185c] fun w190 =>
  dr t_34 fun p191 =>
  (stL w190 (p191.add 1) 0 [.slice a188 a188n a188c] fun w192 =>
  Kn w39 w192) ∧ True) ∧ True) ∧ True) ∧ True) ∧ True) ∧ True)) ∧ True)) ∧ (∃ (x193 : List UInt8), World.cell? w45 (p50.add 0) = some (.string ⟨⟨x193⟩⟩) ∧ ((al w45 3 [.int .i64 x52] fun p194 w195 =>
  (app Tryz.prog [30, 30] 30 (.slice x51 x51n x51c) (.slice (some p194) 1 1) w195 fun a196 a196n a196c w197 =>
  ∃ (x198 : Option Addr) (x198n : Nat) (x198c : Nat), World.cell? w197 (p49.add 1) = some (.slice x198 x198n x198c) ∧ (dr t_34 fun p199 =>
  (al w197 9 [.string ⟨⟨x193⟩⟩] fun p200 w201 =>
  (app Tryz.prog [22, 22] 22 (.slice x198 x198n x198c) (.slice (some p200) 1 1) w201 fun a202 a202n a202c w203 =>
  (stL w203 (p199.add 0) 0 [.slice a196 a196n a196c] fun w204 =>
  dr t_34 fun p205 =>
  (stL w204 (p205.add 1) 0 [.slice a202 a202n a202c] fun w206 =>
  Kn w39 w206) ∧ True) ∧ True) ∧ True) ∧ True)) ∧ (al w195 9 [.string ⟨⟨x193⟩⟩] fun p207 w208 =>
  (app Tryz.prog [30, 30] 30 (.slice x51 x51n x51c) (.slice (some p194) 1 1) w208 fun a209 a209n a209c w210 =>
  ∃ (x211 : Option Addr) (x211n : Nat) (x211c : Nat), World.cell? w210 (p49.add 1) = some (.slice x211 x211n x211c) ∧ (dr t_34 fun p212 =>
  (app Tryz.prog [22, 22] 22 (.slice x211 x211n x211c) (.slice (some p207) 1 1) w210 fun a213 a213n a213c w214 =>
  (stL w214 (p212.add 0) 0 [.slice a209 a209n a209c] fun w215 =>
  dr t_34 fun p216 =>
  (stL w215 (p216.add 1) 0 [.slice a213 a213n a213c] fun w217 =>
  Kn w39 w217) ∧ True) ∧ True) ∧ True)) ∧ True) ∧ True) ∧ (al w45 9 [.string ⟨⟨x193⟩⟩] fun p218 w219 =>
  (al w219 3 [.int .i64 x52] fun p220 w221 =>
  (app Tryz.prog [30, 30] 30 (.slice x51 x51n x51c) (.slice (some p220) 1 1) w221 fun a222 a222n a222c w223 =>
  ∃ (x224 : Option Addr) (x224n : Nat) (x224c : Nat), World.cell? w223 (p49.add 1) = some (.slice x224 x224n x224c) ∧ (dr t_34 fun p225 =>
  (app Tryz.prog [22, 22] 22 (.slice x224 x224n x224c) (.slice (some p218) 1 1) w223 fun a226 a226n a226c w227 =>
  (stL w227 (p225.add 0) 0 [.slice a222 a222n a222c] fun w228 =>
  dr t_34 fun p229 =>
  (stL w228 (p229.add 1) 0 [.slice a226 a226n a226c] fun w230 =>
  Kn w39 w230) ∧ True) ∧ True) ∧ True)) ∧ True) ∧ True) ∧ True)) ∧ True)) ∧ (∃ (x231 : Option Addr) (x231n : Nat) (x231c : Nat), World.cell? w45 (p49.add 1) = some (.slice x231 x231n x231c) ∧ ((∃ (x232 : Int), lkAt Tryz.prog 118 x48 (.pointer t12_38) w45 (.int .i64 x232) ∧ ((al w45 3 [.int .i64 x232] fun p233 w234 =>
  (app Tryz.prog [30, 30] 30 (.slice x51 x51n x51c) (.slice (some p233) 1 1) w234 fun a235 a235n a235c w236 =>
  ∃ (x237 : List UInt8), World.cell? w236 (p50.add 0) = some (.string ⟨⟨x237⟩⟩) ∧ (dr t_34 fun p238 =>
  (al w236 9 [.string ⟨⟨x237⟩⟩] fun p239 w240 =>
  (app Tryz.prog [22, 22] 22 (.slice x231 x231n x231c) (.slice (some p239) 1 1) w240 fun a241 a241n a241c w242 =>
  (stL w242 (p238.add 0) 0 [.slice a235 a235n a235c] fun w243 =>
  dr t_34 fun p244 =>
  (stL w243 (p244.add 1) 0 [.slice a241 a241n a241c] fun w245 =>
  Kn w39 w245) ∧ True) ∧ True) ∧ True) ∧ True)) ∧ (∃ (x246 : List UInt8), World.cell? w234 (p50.add 0) = some (.string ⟨⟨x246⟩⟩) ∧ ((app Tryz.prog [30, 30] 30 (.slice x51 x51n x51c) (.slice (some p233) 1 1) w234 fun a247 a247n a247c w248 =>
  dr t_34 fun p249 =>
  (al w248 9 [.string ⟨⟨x246⟩⟩] fun p250 w251 =>
  (app Tryz.prog [22, 22] 22 (.slice x231 x231n x231c) (.slice (some p250) 1 1) w251 fun a252 a252n a252c w253 =>
  (stL w253 (p249.add 0) 0 [.slice a247 a247n a247c] fun w254 =>
  dr t_34 fun p255 =>
  (stL w254 (p255.add 1) 0 [.slice a252 a252n a252c] fun w256 =>
  Kn w39 w256) ∧ True) ∧ True) ∧ True) ∧ True) ∧ (al w234 9 [.string ⟨⟨x246⟩⟩] fun p257 w258 =>
  (app Tryz.prog [30, 30] 30 (.slice x51 x51n x51c) (.slice (some p233) 1 1) w258 fun a259 a259n a259c w260 =>
  dr t_34 fun p261 =>
  (app Tryz.prog [22, 22] 22 (.slice x231 x231n x231c) (.slice (some p257) 1 1) w260 fun a262 a262n a262c w263 =>
  (stL w263 (p261.add 0) 0 [.slice a259 a259n a259c] fun w264 =>
  dr t_34 fun p265 =>
  (stL w264 (p265.add 1) 0 [.slice a262 a262n a262c] fun w266 =>
  Kn w39 w266) ∧ True) ∧ True) ∧ True) ∧ True) ∧ True)) ∧ True) ∧ (∃ (x267 : List UInt8), World.cell? w45 (p50.add 0) = some (.string ⟨⟨x267⟩⟩) ∧ ((al w45 3 [.int .i64 x232] fun p268 w269 =>
  (app Tryz.prog [30, 30] 30 (.slice x51 x51n x51c) (.slice (some p268) 1 1) w269 fun a270 a270n a270c w271 =>
  dr t_34 fun p272 =>
  (al w271 9 [.string ⟨⟨x267⟩⟩] fun p273 w274 =>
  (app Tryz.prog [22, 22] 22 (.slice x231 x231n x231c) (.slice (some p273) 1 1) w274 fun a275 a275n a275c w276 =>
  (stL w276 (p272.add 0) 0 [.slice a270 a270n a270c] fun w277 =>
  dr t_34 fun p278 =>
  (stL w277 (p278.add 1) 0 [.slice a275 a275n a275c] fun w279 =>
  Kn w39 w279) ∧ True) ∧ True) ∧ True) ∧ True) ∧ (al w269 9 [.string ⟨⟨x267⟩⟩] fun p280 w281 =>
  (app Tryz.prog [30, 30] 30 (.slice x51 x51n x51c) (.slice (some p268) 1 1) w281 fun a282 a282n a282c w283 =>
  dr t_34 fun p284 =>
  (app Tryz.prog [22, 22] 22 (.slice x231 x231n x231c) (.slice (some p280) 1 1) w283 fun a285 a285n a285c w286 =>
  (stL w286 (p284.add 0) 0 [.slice a282 a282n a282c] fun w287 =>
  dr t_34 fun p288 =>
  (stL w287 (p288.add 1) 0 [.slice a285 a285n a285c] fun w289 =>
  Kn w39 w289) ∧ True) ∧ True) ∧ True) ∧ True) ∧ True) ∧ (al w45 9 [.string ⟨⟨x267⟩⟩] fun p290 w291 =>
  (al w291 3 [.int .i64 x232] fun p292 w293 =>
  (app Tryz.prog [30, 30] 30 (.slice x51 x51n x51c) (.slice (some p292) 1 1) w293 fun a294 a294n a294c w295 =>
  dr t_34 fun p296 =>
  (app Tryz.prog [22, 22] 22 (.slice x231 x231n x231c) (.slice (some p290) 1 1) w295 fun a297 a297n a297c w298 =>
  (stL w298 (p296.add 0) 0 [.slice a294 a294n a294c] fun w299 =>
  dr t_34 fun p300 =>
  (stL w299 (p300.add 1) 0 [.slice a297 a297n a297c] fun w301 =>
  Kn w39 w301) ∧ True) ∧ True) ∧ True) ∧ True) ∧ True) ∧ True)) ∧ True)) ∧ (∃ (x302 : List UInt8), World.cell? w45 (p50.add 0) = some (.string ⟨⟨x302⟩⟩) ∧ ((∃ (x303 : Int), lkAt Tryz.prog 118 x48 (.pointer t12_38) w45 (.int .i64 x303) ∧ ((al w45 3 [.int .i64 x303] fun p304 w305 =>
  (app Tryz.prog [30, 30] 30 (.slice x51 x51n x51c) (.slice (some p304) 1 1) w305 fun a306 a306n a306c w307 =>
  dr t_34 fun p308 =>
  (al w307 9 [.string ⟨⟨x302⟩⟩] fun p309 w310 =>
  (app Tryz.prog [22, 22] 22 (.slice x231 x231n x231c) (.slice (some p309) 1 1) w310 fun a311 a311n a311c w312 =>
  (stL w312 (p308.add 0) 0 [.slice a306 a306n a306c] fun w313 =>
  dr t_34 fun p314 =>
  (stL w313 (p314.add 1) 0 [.slice a311 a311n a311c] fun w315 =>
  Kn w39 w315) ∧ True) ∧ True) ∧ True) ∧ True) ∧ (al w305 9 [.string ⟨⟨x302⟩⟩] fun p316 w317 =>
  (app Tryz.prog [30, 30] 30 (.slice x51 x51n x51c) (.slice (some p304) 1 1) w317 fun a318 a318n a318c w319 =>
  dr t_34 fun p320 =>
  (app Tryz.prog [22, 22] 22 (.slice x231 x231n x231c) (.slice (some p316) 1 1) w319 fun a321 a321n a321c w322 =>
  (stL w322 (p320.add 0) 0 [.slice a318 a318n a318c] fun w323 =>
  dr t_34 fun p324 =>
  (stL w323 (p324.add 1) 0 [.slice a321 a321n a321c] fun w325 =>
  Kn w39 w325) ∧ True) ∧ True) ∧ True) ∧ True) ∧ True) ∧ (al w45 9 [.string ⟨⟨x302⟩⟩] fun p326 w327 =>
  (al w327 3 [.int .i64 x303] fun p328 w329 =>
  (app Tryz.prog [30, 30] 30 (.slice x51 x51n x51c) (.slice (some p328) 1 1) w329 fun a330 a330n a330c w331 =>
  dr t_34 fun p332 =>
  (app Tryz.prog [22, 22] 22 (.slice x231 x231n x231c) (.slice (some p326) 1 1) w331 fun a333 a333n a333c w334 =>
  (stL w334 (p332.add 0) 0 [.slice a330 a330n a330c] fun w335 =>
  dr t_34 fun p336 =>
  (stL w335 (p336.add 1) 0 [.slice a333 a333n a333c] fun w337 =>
  Kn w39 w337) ∧ True) ∧ True) ∧ True) ∧ True) ∧ True) ∧ True)) ∧ (al w45 9 [.string ⟨⟨x302⟩⟩] fun p338 w339 =>
  (∃ (x340 : Int), lkAt Tryz.prog 118 x48 (.pointer t12_38) w339 (.int .i64 x340) ∧ ((al w339 3 [.int .i64 x340] fun p341 w342 =>
  (app Tryz.prog [30, 30] 30 (.slice x51 x51n x51c) (.slice (some p341) 1 1) w342 fun a343 a343n a343c w344 =>
  dr t_34 fun p345 =>
  (app Tryz.prog [22, 22] 22 (.slice x231 x231n x231c) (.slice (some p338) 1 1) w344 fun a346 a346n a346c w347 =>
  (stL w347 (p345.add 0) 0 [.slice a343 a343n a343c] fun w348 =>
  dr t_34 fun p349 =>
  (stL w348 (p349.add 1) 0 [.slice a346 a346n a346c] fun w350 =>
  Kn w39 w350) ∧ True) ∧ True) ∧ True) ∧ True) ∧ True)) ∧ True) ∧ True)) ∧ True)) ∧ (∃ (x351 : List UInt8), World.cell? w45 (p50.add 0) = some (.string ⟨⟨x351⟩⟩) ∧ ((∃ (x352 : Int), lkAt Tryz.prog 118 x48 (.pointer t12_38) w45 (.int .i64 x352) ∧ ((al w45 3 [.int .i64 x352] fun p353 w354 =>
  (app Tryz.prog [30, 30] 30 (.slice x51 x51n x51c) (.slice (some p353) 1 1) w354 fun a355 a355n a355c w356 =>
  ∃ (x357 : Option Addr) (x357n : Nat) (x357c : Nat), World.cell? w356 (p49.add 1) = some (.slice x357 x357n x357c) ∧ (dr t_34 fun p358 =>
  (al w356 9 [.string ⟨⟨x351⟩⟩] fun p359 w360 =>
  (app Tryz.prog [22, 22] 22 (.slice x357 x357n x357c) (.slice (some p359) 1 1) w360 fun a361 a361n a361c w362 =>
  (stL w362 (p358.add 0) 0 [.slice a355 a355n a355c] fun w363 =>
  dr t_34 fun p364 =>
  (stL w363 (p364.add 1) 0 [.slice a361 a361n a361c] fun w365 =>
  Kn w39 w365) ∧ True) ∧ True) ∧ True) ∧ True)) ∧ (∃ (x366 : Option Addr) (x366n : Nat) (x366c : Nat), World.cell? w354 (p49.add 1) = some (.slice x366 x366n x366c) ∧ ((app Tryz.prog [30, 30] 30 (.slice x51 x51n x51c) (.slice (some p353) 1 1) w354 fun a367 a367n a367c w368 =>
  dr t_34 fun p369 =>
  (al w368 9 [.string ⟨⟨x351⟩⟩] fun p370 w371 =>
  (app Tryz.prog [22, 22] 22 (.slice x366 x366n x366c) (.slice (some p370) 1 1) w371 fun a372 a372n a372c w373 =>
  (stL w373 (p369.add 0) 0 [.slice a367 a367n a367c] fun w374 =>
  dr t_34 fun p375 =>
  (stL w374 (p375.add 1) 0 [.slice a372 a372n a372c] fun w376 =>
  Kn w39 w376) ∧ True) ∧ True) ∧ True) ∧ True) ∧ (al w354 9 [.string ⟨⟨x351⟩⟩] fun p377 w378 =>
  (app Tryz.prog [30, 30] 30 (.slice x51 x51n x51c) (.slice (some p353) 1 1) w378 fun a379 a379n a379c w380 =>
  dr t_34 fun p381 =>
  (app Tryz.prog [22, 22] 22 (.slice x366 x366n x366c) (.slice (some p377) 1 1) w380 fun a382 a382n a382c w383 =>
  (stL w383 (p381.add 0) 0 [.slice a379 a379n a379c] fun w384 =>
  dr t_34 fun p385 =>
  (stL w384 (p385.add 1) 0 [.slice a382 a382n a382c] fun w386 =>
  Kn w39 w386) ∧ True) ∧ True) ∧ True) ∧ True) ∧ True)) ∧ (al w354 9 [.string ⟨⟨x351⟩⟩] fun p387 w388 =>
  (app Tryz.prog [30, 30] 30 (.slice x51 x51n x51c) (.slice (some p353) 1 1) w388 fun a389 a389n a389c w390 =>
  ∃ (x391 : Option Addr) (x391n : Nat) (x391c : Nat), World.cell? w390 (p49.add 1) = some (.slice x391 x391n x391c) ∧ (dr t_34 fun p392 =>
  (app Tryz.prog [22, 22] 22 (.slice x391 x391n x391c) (.slice (some p387) 1 1) w390 fun a393 a393n a393c w394 =>
  (stL w394 (p392.add 0) 0 [.slice a389 a389n a389c] fun w395 =>
  dr t_34 fun p396 =>
  (stL w395 (p396.add 1) 0 [.slice a393 a393n a393c] fun w397 =>
  Kn w39 w397) ∧ True) ∧ True) ∧ True)) ∧ True) ∧ True) ∧ (∃ (x398 : Option Addr) (x398n : Nat) (x398c : Nat), World.cell? w45 (p49.add 1) = some (.slice x398 x398n x398c) ∧ ((al w45 3 [.int .i64 x352] fun p399 w400 =>
  (app Tryz.prog [30, 30] 30 (.slice x51 x51n x51c) (.slice (some p399) 1 1) w400 fun a401 a401n a401c w402 =>
  dr t_34 fun p403 =>
  (al w402 9 [.string ⟨⟨x351⟩⟩] fun p404 w405 =>
  (app Tryz.prog [22, 22] 22 (.slice x398 x398n x398c) (.slice (some p404) 1 1) w405 fun a406 a406n a406c w407 =>
  (stL w407 (p403.add 0) 0 [.slice a401 a401n a401c] fun w408 =>
  dr t_34 fun p409 =>
  (stL w408 (p409.add 1) 0 [.slice a406 a406n a406c] fun w410 =>
  Kn w39 w410) ∧ True) ∧ True) ∧ True) ∧ True) ∧ (al w400 9 [.string ⟨⟨x351⟩⟩] fun p411 w412 =>
  (app Tryz.prog [30, 30] 30 (.slice x51 x51n x51c) (.slice (some p399) 1 1) w412 fun a413 a413n a413c w414 =>
  dr t_34 fun p415 =>
  (app Tryz.prog [22, 22] 22 (.slice x398 x398n x398c) (.slice (some p411) 1 1) w414 fun a416 a416n a416c w417 =>
  (stL w417 (p415.add 0) 0 [.slice a413 a413n a413c] fun w418 =>
  dr t_34 fun p419 =>
  (stL w418 (p419.add 1) 0 [.slice a416 a416n a416c] fun w420 =>
  Kn w39 w420) ∧ True) ∧ True) ∧ True) ∧ True) ∧ True) ∧ (al w45 9 [.string ⟨⟨x351⟩⟩] fun p421 w422 =>
  (al w422 3 [.int .i64 x352] fun p423 w424 =>
  (app Tryz.prog [30, 30] 30 (.slice x51 x51n x51c) (.slice (some p423) 1 1) w424 fun a425 a425n a425c w426 =>
  dr t_34 fun p427 =>
  (app Tryz.prog [22, 22] 22 (.slice x398 x398n x398c) (.slice (some p421) 1 1) w426 fun a428 a428n a428c w429 =>
  (stL w429 (p427.add 0) 0 [.slice a425 a425n a425c] fun w430 =>
  dr t_34 fun p431 =>
  (stL w430 (p431.add 1) 0 [.slice a428 a428n a428c] fun w432 =>
  Kn w39 w432) ∧ True) ∧ True) ∧ True) ∧ True) ∧ True) ∧ True)) ∧ (al w45 9 [.string ⟨⟨x351⟩⟩] fun p433 w434 =>
  (al w434 3 [.int .i64 x352] fun p435 w436 =>
  (app Tryz.prog [30, 30] 30 (.slice x51 x51n x51c) (.slice (some p435) 1 1) w436 fun a437 a437n a437c w438 =>
  ∃ (x439 : Option Addr) (x439n : Nat) (x439c : Nat), World.cell? w438 (p49.add 1) = some (.slice x439 x439n x439c) ∧ (dr t_34 fun p440 =>
  (app Tryz.prog [22, 22] 22 (.slice x439 x439n x439c) (.slice (some p433) 1 1) w438 fun a441 a441n a441c w442 =>
  (stL w442 (p440.add 0) 0 [.slice a437 a437n a437c] fun w443 =>
  dr t_34 fun p444 =>
  (stL w443 (p444.add 1) 0 [.slice a441 a441n a441c] fun w445 =>
  Kn w39 w445) ∧ True) ∧ True) ∧ True)) ∧ True) ∧ True) ∧ True)) ∧ (al w45 9 [.string ⟨⟨x351⟩⟩] fun p446 w447 =>
  (∃ (x448 : Int), lkAt Tryz.prog 118 x48 (.pointer t12_38) w447 (.int .i64 x448) ∧ ((al w447 3 [.int .i64 x448] fun p449 w450 =>
  (app Tryz.prog [30, 30] 30 (.slice x51 x51n x51c) (.slice (some p449) 1 1) w450 fun a451 a451n a451c w452 =>
  ∃ (x453 : Option Addr) (x453n : Nat) (x453c : Nat), World.cell? w452 (p49.add 1) = some (.slice x453 x453n x453c) ∧ (dr t_34 fun p454 =>
  (app Tryz.prog [22, 22] 22 (.slice x453 x453n x453c) (.slice (some p446) 1 1) w452 fun a455 a455n a455c w456 =>
  (stL w456 (p454.add 0) 0 [.slice a451 a451n a451c] fun w457 =>
  dr t_34 fun p458 =>
  (stL w457 (p458.add 1) 0 [.slice a455 a455n a455c] fun w459 =>
  Kn w39 w459) ∧ True) ∧ True) ∧ True)) ∧ (∃ (x460 : Option Addr) (x460n : Nat) (x460c : Nat), World.cell? w450 (p49.add 1) = some (.slice x460 x460n x460c) ∧ ((app Tryz.prog [30, 30] 30 (.slice x51 x51n x51c) (.slice (some p449) 1 1) w450 fun a461 a461n a461c w462 =>
  dr t_34 fun p463 =>
  (app Tryz.prog [22, 22] 22 (.slice x460 x460n x460c) (.slice (some p446) 1 1) w462 fun a464 a464n a464c w465 =>
  (stL w465 (p463.add 0) 0 [.slice a461 a461n a461c] fun w466 =>
  dr t_34 fun p467 =>
  (stL w466 (p467.add 1) 0 [.slice a464 a464n a464c] fun w468 =>
  Kn w39 w468) ∧ True) ∧ True) ∧ True) ∧ True)) ∧ True) ∧ (∃ (x469 : Option Addr) (x469n : Nat) (x469c : Nat), World.cell? w447 (p49.add 1) = some (.slice x469 x469n x469c) ∧ ((al w447 3 [.int .i64 x448] fun p470 w471 =>
  (app Tryz.prog [30, 30] 30 (.slice x51 x51n x51c) (.slice (some p470) 1 1) w471 fun a472 a472n a472c w473 =>
  dr t_34 fun p474 =>
  (app Tryz.prog [22, 22] 22 (.slice x469 x469n x469c) (.slice (some p446) 1 1) w473 fun a475 a475n a475c w476 =>
  (stL w476 (p474.add 0) 0 [.slice a472 a472n a472c] fun w477 =>
  dr t_34 fun p478 =>
  (stL w477 (p478.add 1) 0 [.slice a475 a475n a475c] fun w479 =>
  Kn w39 w479) ∧ True) ∧ True) ∧ True) ∧ True) ∧ True)) ∧ True)) ∧ True) ∧ True)) ∧ True)) ∧ (∃ (x480 : Int), lkAt Tryz.prog 118 x48 (.pointer t12_38) w45 (.int .i64 x480) ∧ (∃ (x481 : Option Addr) (x481n : Nat) (x481c : Nat), World.cell? w45 (p46.add 0) = some (.slice x481 x481n x481c) ∧ ((al w45 3 [.int .i64 x480] fun p482 w483 =>
  (app Tryz.prog [30, 30] 30 (.slice x481 x481n x481c) (.slice (some p482) 1 1) w483 fun a484 a484n a484c w485 =>
  ∃ (x486 : Option Addr) (x486n : Nat) (x486c : Nat), World.cell? w485 (p49.add 1) = some (.slice x486 x486n x486c) ∧ (∃ (x487 : List UInt8), World.cell? w485 (p50.add 0) = some (.string ⟨⟨x487⟩⟩) ∧ (dr t_34 fun p488 =>
  (al w485 9 [.string ⟨⟨x487⟩⟩] fun p489 w490 =>
  (app Tryz.prog [22, 22] 22 (.slice x486 x486n x486c) (.slice (some p489) 1 1) w490 fun a491 a491n a491c w492 =>
  (stL w492 (p488.add 0) 0 [.slice a484 a484n a484c] fun w493 =>
  dr t_34 fun p494 =>
  (stL w493 (p494.add 1) 0 [.slice a491 a491n a491c] fun w495 =>
  Kn w39 w495) ∧ True) ∧ True) ∧ True) ∧ True))) ∧ (∃ (x496 : Option Addr) (x496n : Nat) (x496c : Nat), World.cell? w483 (p49.add 1) = some (.slice x496 x496n x496c) ∧ ((app Tryz.prog [30, 30] 30 (.slice x481 x481n x481c) (.slice (some p482) 1 1) w483 fun a497 a497n a497c w498 =>
  ∃ (x499 : List UInt8), World.cell? w498 (p50.add 0) = some (.string ⟨⟨x499⟩⟩) ∧ (dr t_34 fun p500 =>
  (al w498 9 [.string ⟨⟨x499⟩⟩] fun p501 w502 =>
  (app Tryz.prog [22, 22] 22 (.slice x496 x496n x496c) (.slice (some p501) 1 1) w502 fun a503 a503n a503c w504 =>
  (stL w504 (p500.add 0) 0 [.slice a497 a497n a497c] fun w505 =>
  dr t_34 fun p506 =>
  (stL w505 (p506.add 1) 0 [.slice a503 a503n a503c] fun w507 =>
  Kn w39 w507) ∧ True) ∧ True) ∧ True) ∧ True)) ∧ (∃ (x508 : List UInt8), World.cell? w483 (p50.add 0) = some (.string ⟨⟨x508⟩⟩) ∧ ((app Tryz.prog [30, 30] 30 (.slice x481 x481n x481c) (.slice (some p482) 1 1) w483 fun a509 a509n a509c w510 =>
  dr t_34 fun p511 =>
  (al w510 9 [.string ⟨⟨x508⟩⟩] fun p512 w513 =>
  (app Tryz.prog [22, 22] 22 (.slice x496 x496n x496c) (.slice (some p512) 1 1) w513 fun a514 a514n a514c w515 =>
  (stL w515 (p511.add 0) 0 [.slice a509 a509n a509c] fun w516 =>
  dr t_34 fun p517 =>
  (stL w516 (p517.add 1) 0 [.slice a514 a514n a514c] fun w518 =>
  Kn w39 w518) ∧ True) ∧ True) ∧ True) ∧ True) ∧ (al w483 9 [.string ⟨⟨x508⟩⟩] fun p519 w520 =>
  (app Tryz.prog [30, 30] 30 (.slice x481 x481n x481c) (.slice (some p482) 1 1) w520 fun a521 a521n a521c w522 =>
  dr t_34 fun p523 =>
  (app Tryz.prog [22, 22] 22 (.slice x496 x496n x496c) (.slice (some p519) 1 1) w522 fun a524 a524n a524c w525 =>
  (stL w525 (p523.add 0) 0 [.slice a521 a521n a521c] fun w526 =>
  dr t_34 fun p527 =>
  (stL w526 (p527.add 1) 0 [.slice a524 a524n a524c] fun w528 =>
  Kn w39 w528) ∧ True) ∧ True) ∧ True) ∧ True) ∧ True)) ∧ True)) ∧ (∃ (x529 : List UInt8), World.cell? w483 (p50.add 0) = some (.string ⟨⟨x529⟩⟩) ∧ ((app Tryz.prog [30, 30] 30 (.slice x481 x481n x481c) (.slice (some p482) 1 1) w483 fun a530 a530n a530c w531 =>
  ∃ (x532 : Option Addr) (x532n : Nat) (x532c : Nat), World.cell? w531 (p49.add 1) = some (.slice x532 x532n x532c) ∧ (dr t_34 fun p533 =>
  (al w531 9 [.string ⟨⟨x529⟩⟩] fun p534 w535 =>
  (app Tryz.prog [22, 22] 22 (.slice x532 x532n x532c) (.slice (some p534) 1 1) w535 fun a536 a536n a536c w537 =>
  (stL w537 (p533.add 0) 0 [.slice a530 a530n a530c] fun w538 =>
  dr t_34 fun p539 =>
  (stL w538 (p539.add 1) 0 [.slice a536 a536n a536c] fun w540 =>
  Kn w39 w540) ∧ True) ∧ True) ∧ True) ∧ True)) ∧ (al w483 9 [.string ⟨⟨x529⟩⟩] fun p541 w542 =>
  (app Tryz.prog [30, 30] 30 (.slice x481 x481n x481c) (.slice (some p482) 1 1) w542 fun a543 a543n a543c w544 =>
  ∃ (x545 : Option Addr) (x545n : Nat) (x545c : Nat), World.cell? w544 (p49.add 1) = some (.slice x545 x545n x545c) ∧ (dr t_34 fun p546 =>
  (app Tryz.prog [22, 22] 22 (.slice x545 x545n x545c) (.slice (some p541) 1 1) w544 fun a547 a547n a547c w548 =>
  (stL w548 (p546.add 0) 0 [.slice a543 a543n a543c] fun w549 =>
  dr t_34 fun p550 =>
  (stL w549 (p550.add 1) 0 [.slice a547 a547n a547c] fun w551 =>
  Kn w39 w551) ∧ True) ∧ True) ∧ True)) ∧ True) ∧ True)) ∧ True) ∧ (∃ (x552 : Option Addr) (x552n : Nat) (x552c : Nat), World.cell? w45 (p49.add 1) = some (.slice x552 x552n x552c) ∧ ((al w45 3 [.int .i64 x480] fun p553 w554 =>
  (app Tryz.prog [30, 30] 30 (.slice x481 x481n x481c) (.slice (some p553) 1 1) w554 fun a555 a555n a555c w556 =>
  ∃ (x557 : List UInt8), World.cell? w556 (p50.add 0) = some (.string ⟨⟨x557⟩⟩) ∧ (dr t_34 fun p558 =>
  (al w556 9 [.string ⟨⟨x557⟩⟩] fun p559 w560 =>
  (app Tryz.prog [22, 22] 22 (.slice x552 x552n x552c) (.slice (some p559) 1 1) w560 fun a561 a561n a561c w562 =>
  (stL w562 (p558.add 0) 0 [.slice a555 a555n a555c] fun w563 =>
  dr t_34 fun p564 =>
  (stL w563 (p564.add 1) 0 [.slice a561 a561n a561c] fun w565 =>
  Kn w39 w565) ∧ True) ∧ True) ∧ True) ∧ True)) ∧ (∃ (x566 : List UInt8), World.cell? w554 (p50.add 0) = some (.string ⟨⟨x566⟩⟩) ∧ ((app Tryz.prog [30, 30] 30 (.slice x481 x481n x481c) (.slice (some p553) 1 1) w554 fun a567 a567n a567c w568 =>
  dr t_34 fun p569 =>
  (al w568 9 [.string ⟨⟨x566⟩⟩] fun p570 w571 =>
  (app Tryz.prog [22, 22] 22 (.slice x552 x552n x552c) (.slice (some p570) 1 1) w571 fun a572 a572n a572c w573 =>
  (stL w573 (p569.add 0) 0 [.slice a567 a567n a567c] fun w574 =>
  dr t_34 fun p575 =>
  (stL w574 (p575.add 1) 0 [.slice a572 a572n a572c] fun w576 =>
  Kn w39 w576) ∧ True) ∧ True) ∧ True) ∧ True) ∧ (al w554 9 [.string ⟨⟨x566⟩⟩] fun p577 w578 =>
  (app Tryz.prog [30, 30] 30 (.slice x481 x481n x481c) (.slice (some p553) 1 1) w578 fun a579 a579n a579c w580 =>
  dr t_34 fun p581 =>
  (app Tryz.prog [22, 22] 22 (.slice x552 x552n x552c) (.slice (some p577) 1 1) w580 fun a582 a582n a582c w583 =>
  (stL w583 (p581.add 0) 0 [.slice a579 a579n a579c] fun w584 =>
  dr t_34 fun p585 =>
  (stL w584 (p585.add 1) 0 [.slice a582 a582n a582c] fun w586 =>
  Kn w39 w586) ∧ True) ∧ True) ∧ True) ∧ True) ∧ True)) ∧ True) ∧ (∃ (x587 : List UInt8), World.cell? w45 (p50.add 0) = some (.string ⟨⟨x587⟩⟩) ∧ ((al w45 3 [.int .i64 x480] fun p588 w589 =>
  (app Tryz.prog [30, 30] 30 (.slice x481 x481n x481c) (.slice (some p588) 1 1) w589 fun a590 a590n a590c w591 =>
  dr t_34 fun p592 =>
  (al w591 9 [.string ⟨⟨x587⟩⟩] fun p593 w594 =>
  (app Tryz.prog [22, 22] 22 (.slice x552 x552n x552c) (.slice (some p593) 1 1) w594 fun a595 a595n a595c w596 =>
  (stL w596 (p592.add 0) 0 [.slice a590 a590n a590c] fun w597 =>
  dr t_34 fun p598 =>
  (stL w597 (p598.add 1) 0 [.slice a595 a595n a595c] fun w599 =>
  Kn w39 w599) ∧ True) ∧ True) ∧ True) ∧ True) ∧ (al w589 9 [.string ⟨⟨x587⟩⟩] fun p600 w601 =>
  (app Tryz.prog [30, 30] 30 (.slice x481 x481n x481c) (.slice (some p588) 1 1) w601 fun a602 a602n a602c w603 =>
  dr t_34 fun p604 =>
  (app Tryz.prog [22, 22] 22 (.slice x552 x552n x552c) (.slice (some p600) 1 1) w603 fun a605 a605n a605c w606 =>
  (stL w606 (p604.add 0) 0 [.slice a602 a602n a602c] fun w607 =>
  dr t_34 fun p608 =>
  (stL w607 (p608.add 1) 0 [.slice a605 a605n a605c] fun w609 =>
  Kn w39 w609) ∧ True) ∧ True) ∧ True) ∧ True) ∧ True) ∧ (al w45 9 [.string ⟨⟨x587⟩⟩] fun p610 w611 =>
  (al w611 3 [.int .i64 x480] fun p612 w613 =>
  (app Tryz.prog [30, 30] 30 (.slice x481 x481n x481c) (.slice (some p612) 1 1) w613 fun a614 a614n a614c w615 =>
  dr t_34 fun p616 =>
  (app Tryz.prog [22, 22] 22 (.slice x552 x552n x552c) (.slice (some p610) 1 1) w615 fun a617 a617n a617c w618 =>
  (stL w618 (p616.add 0) 0 [.slice a614 a614n a614c] fun w619 =>
  dr t_34 fun p620 =>
  (stL w619 (p620.add 1) 0 [.slice a617 a617n a617c] fun w621 =>
  Kn w39 w621) ∧ True) ∧ True) ∧ True) ∧ True) ∧ True) ∧ True)) ∧ True)) ∧ (∃ (x622 : List UInt8), World.cell? w45 (p50.add 0) = some (.string ⟨⟨x622⟩⟩) ∧ ((al w45 3 [.int .i64 x480] fun p623 w624 =>
  (app Tryz.prog [30, 30] 30 (.slice x481 x481n x481c) (.slice (some p623) 1 1) w624 fun a625 a625n a625c w626 =>
  ∃ (x627 : Option Addr) (x627n : Nat) (x627c : Nat), World.cell? w626 (p49.add 1) = some (.slice x627 x627n x627c) ∧ (dr t_34 fun p628 =>
  (al w626 9 [.string ⟨⟨x622⟩⟩] fun p629 w630 =>
  (app Tryz.prog [22, 22] 22 (.slice x627 x627n x627c) (.slice (some p629) 1 1) w630 fun a631 a631n a631c w632 =>
  (stL w632 (p628.add 0) 0 [.slice a625 a625n a625c] fun w633 =>
  dr t_34 fun p634 =>
  (stL w633 (p634.add 1) 0 [.slice a631 a631n a631c] fun w635 =>
  Kn w39 w635) ∧ True) ∧ True) ∧ True) ∧ True)) ∧ (al w624 9 [.string ⟨⟨x622⟩⟩] fun p636 w637 =>
  (app Tryz.prog [30, 30] 30 (.slice x481 x481n x481c) (.slice (some p623) 1 1) w637 fun a638 a638n a638c w639 =>
  ∃ (x640 : Option Addr) (x640n : Nat) (x640c : Nat), World.cell? w639 (p49.add 1) = some (.slice x640 x640n x640c) ∧ (dr t_34 fun p641 =>
  (app Tryz.prog [22, 22] 22 (.slice x640 x640n x640c) (.slice (some p636) 1 1) w639 fun a642 a642n a642c w643 =>
  (stL w643 (p641.add 0) 0 [.slice a638 a638n a638c] fun w644 =>
  dr t_34 fun p645 =>
  (stL w644 (p645.add 1) 0 [.slice a642 a642n a642c] fun w646 =>
  Kn w39 w646) ∧ True) ∧ True) ∧ True)) ∧ True) ∧ True) ∧ (al w45 9 [.string ⟨⟨x622⟩⟩] fun p647 w648 =>
  (al w648 3 [.int .i64 x480] fun p649 w650 =>
  (app Tryz.prog [30, 30] 30 (.slice x481 x481n x481c) (.slice (some p649) 1 1) w650 fun a651 a651n a651c w652 =>
  ∃ (x653 : Option Addr) (x653n : Nat) (x653c : Nat), World.cell? w652 (p49.add 1) = some (.slice x653 x653n x653c) ∧ (dr t_34 fun p654 =>
  (app Tryz.prog [22, 22] 22 (.slice x653 x653n x653c) (.slice (some p647) 1 1) w652 fun a655 a655n a655c w656 =>
  (stL w656 (p654.add 0) 0 [.slice a651 a651n a651c] fun w657 =>
  dr t_34 fun p658 =>
  (stL w657 (p658.add 1) 0 [.slice a655 a655n a655c] fun w659 =>
  Kn w39 w659) ∧ True) ∧ True) ∧ True)) ∧ True) ∧ True) ∧ True)) ∧ True))) ∧ (∃ (x660 : Option Addr) (x660n : Nat) (x660c : Nat), World.cell? w45 (p49.add 1) = some (.slice x660 x660n x660c) ∧ ((∃ (x661 : Int), lkAt Tryz.prog 118 x48 (.pointer t12_38) w45 (.int .i64 x661) ∧ (∃ (x662 : Option Addr) (x662n : Nat) (x662c : Nat), World.cell? w45 (p46.add 0) = some (.slice x662 x662n x662c) ∧ ((al w45 3 [.int .i64 x661] fun p663 w664 =>
  (app Tryz.prog [30, 30] 30 (.slice x662 x662n x662c) (.slice (some p663) 1 1) w664 fun a665 a665n a665c w666 =>
  ∃ (x667 : List UInt8), World.cell? w666 (p50.add 0) = some (.string ⟨⟨x667⟩⟩) ∧ (dr t_34 fun p668 =>
  (al w666 9 [.string ⟨⟨x667⟩⟩] fun p669 w670 =>
  (app Tryz.prog [22, 22] 22 (.slice x660 x660n x660c) (.slice (some p669) 1 1) w670 fun a671 a671n a671c w672 =>
  (stL w672 (p668.add 0) 0 [.slice a665 a665n a665c] fun w673 =>
  dr t_34 fun p674 =>
  (stL w673 (p674.add 1) 0 [.slice a671 a671n a671c] fun w675 =>
  Kn w39 w675) ∧ True) ∧ True) ∧ True) ∧ True)) ∧ (∃ (x676 : List UInt8), World.cell? w664 (p50.add 0) = some (.string ⟨⟨x676⟩⟩) ∧ ((app Tryz.prog [30, 30] 30 (.slice x662 x662n x662c) (.slice (some p663) 1 1) w664 fun a677 a677n a677c w678 =>
  dr t_34 fun p679 =>
  (al w678 9 [.string ⟨⟨x676⟩⟩] fun p680 w681 =>
  (app Tryz.prog [22, 22] 22 (.slice x660 x660n x660c) (.slice (some p680) 1 1) w681 fun a682 a682n a682c w683 =>
  (stL w683 (p679.add 0) 0 [.slice a677 a677n a677c] fun w684 =>
  dr t_34 fun p685 =>
  (stL w684 (p685.add 1) 0 [.slice a682 a682n a682c] fun w686 =>
  Kn w39 w686) ∧ True) ∧ True) ∧ True) ∧ True) ∧ (al w664 9 [.string ⟨⟨x676⟩⟩] fun p687 w688 =>
  (app Tryz.prog [30, 30] 30 (.slice x662 x662n x662c) (.slice (some p663) 1 1) w688 fun a689 a689n a689c w690 =>
  dr t_34 fun p691 =>
  (app Tryz.prog [22, 22] 22 (.slice x660 x660n x660c) (.slice (some p687) 1 1) w690 fun a692 a692n a692c w693 =>
  (stL w693 (p691.add 0) 0 [.slice a689 a689n a689c] fun w694 =>
  dr t_34 fun p695 =>
  (stL w694 (p695.add 1) 0 [.slice a692 a692n a692c] fun w696 =>
  Kn w39 w696) ∧ True) ∧ True) ∧ True) ∧ True) ∧ True)) ∧ True) ∧ (∃ (x697 : List UInt8), World.cell? w45 (p50.add 0) = some (.string ⟨⟨x697⟩⟩) ∧ ((al w45 3 [.int .i64 x661] fun p698 w699 =>
  (app Tryz.prog [30, 30] 30 (.slice x662 x662n x662c) (.slice (some p698) 1 1) w699 fun a700 a700n a700c w701 =>
  dr t_34 fun p702 =>
  (al w701 9 [.string ⟨⟨x697⟩⟩] fun p703 w704 =>
  (app Tryz.prog [22, 22] 22 (.slice x660 x660n x660c) (.slice (some p703) 1 1) w704 fun a705 a705n a705c w706 =>
  (stL w706 (p702.add 0) 0 [.slice a700 a700n a700c] fun w707 =>
  dr t_34 fun p708 =>
  (stL w707 (p708.add 1) 0 [.slice a705 a705n a705c] fun w709 =>
  Kn w39 w709) ∧ True) ∧ True) ∧ True) ∧ True) ∧ (al w699 9 [.string ⟨⟨x697⟩⟩] fun p710 w711 =>
  (app Tryz.prog [30, 30] 30 (.slice x662 x662n x662c) (.slice (some p698) 1 1) w711 fun a712 a712n a712c w713 =>
  dr t_34 fun p714 =>
  (app Tryz.prog [22, 22] 22 (.slice x660 x660n x660c) (.slice (some p710) 1 1) w713 fun a715 a715n a715c w716 =>
  (stL w716 (p714.add 0) 0 [.slice a712 a712n a712c] fun w717 =>
  dr t_34 fun p718 =>
  (stL w717 (p718.add 1) 0 [.slice a715 a715n a715c] fun w719 =>
  Kn w39 w719) ∧ True) ∧ True) ∧ True) ∧ True) ∧ True) ∧ (al w45 9 [.string ⟨⟨x697⟩⟩] fun p720 w721 =>
  (al w721 3 [.int .i64 x661] fun p722 w723 =>
  (app Tryz.prog [30, 30] 30 (.slice x662 x662n x662c) (.slice (some p722) 1 1) w723 fun a724 a724n a724c w725 =>
  dr t_34 fun p726 =>
  (app Tryz.prog [22, 22] 22 (.slice x660 x660n x660c) (.slice (some p720) 1 1) w725 fun a727 a727n a727c w728 =>
  (stL w728 (p726.add 0) 0 [.slice a724 a724n a724c] fun w729 =>
  dr t_34 fun p730 =>
  (stL w729 (p730.add 1) 0 [.slice a727 a727n a727c] fun w731 =>
  Kn w39 w731) ∧ True) ∧ True) ∧ True) ∧ True) ∧ True) ∧ True)) ∧ True))) ∧ (∃ (x732 : List UInt8), World.cell? w45 (p50.add 0) = some (.string ⟨⟨x732⟩⟩) ∧ ((∃ (x733 : Int), lkAt Tryz.prog 118 x48 (.pointer t12_38) w45 (.int .i64 x733) ∧ (∃ (x734 : Option Addr) (x734n : Nat) (x734c : Nat), World.cell? w45 (p46.add 0) = some (.slice x734 x734n x734c) ∧ ((al w45 3 [.int .i64 x733] fun p735 w736 =>
  (app Tryz.prog [30, 30] 30 (.slice x734 x734n x734c) (.slice (some p735) 1 1) w736 fun a737 a737n a737c w738 =>
  dr t_34 fun p739 =>
  (al w738 9 [.string ⟨⟨x732⟩⟩] fun p740 w741 =>
  (app Tryz.prog [22, 22] 22 (.slice x660 x660n x660c) (.slice (some p740) 1 1) w741 fun a742 a742n a742c w743 =>
  (stL w743 (p739.add 0) 0 [.slice a737 a737n a737c] fun w744 =>
  dr t_34 fun p745 =>
  (stL w744 (p745.add 1) 0 [.slice a742 a742n a742c] fun w746 =>
  Kn w39 w746) ∧ True) ∧ True) ∧ True) ∧ True) ∧ (al w736 9 [.string ⟨⟨x732⟩⟩] fun p747 w748 =>
  (app Tryz.prog [30, 30] 30 (.slice x734 x734n x734c) (.slice (some p735) 1 1) w748 fun a749 a749n a749c w750 =>
  dr t_34 fun p751 =>
  (app Tryz.prog [22, 22] 22 (.slice x660 x660n x660c) (.slice (some p747) 1 1) w750 fun a752 a752n a752c w753 =>
  (stL w753 (p751.add 0) 0 [.slice a749 a749n a749c] fun w754 =>
  dr t_34 fun p755 =>
  (stL w754 (p755.add 1) 0 [.slice a752 a752n a752c] fun w756 =>
  Kn w39 w756) ∧ True) ∧ True) ∧ True) ∧ True) ∧ True) ∧ (al w45 9 [.string ⟨⟨x732⟩⟩] fun p757 w758 =>
  (al w758 3 [.int .i64 x733] fun p759 w760 =>
  (app Tryz.prog [30, 30] 30 (.slice x734 x734n x734c) (.slice (some p759) 1 1) w760 fun a761 a761n a761c w762 =>
  dr t_34 fun p763 =>
  (app Tryz.prog [22, 22] 22 (.slice x660 x660n x660c) (.slice (some p757) 1 1) w762 fun a764 a764n a764c w765 =>
  (stL w765 (p763.add 0) 0 [.slice a761 a761n a761c] fun w766 =>
  dr t_34 fun p767 =>
  (stL w766 (p767.add 1) 0 [.slice a764 a764n a764c] fun w768 =>
  Kn w39 w768) ∧ True) ∧ True) ∧ True) ∧ True) ∧ True) ∧ True))) ∧ (al w45 9 [.string ⟨⟨x732⟩⟩] fun p769 w770 =>
  (∃ (x771 : Int), lkAt Tryz.prog 118 x48 (.pointer t12_38) w770 (.int .i64 x771) ∧ (∃ (x772 : Option Addr) (x772n : Nat) (x772c : Nat), World.cell? w770 (p46.add 0) = some (.slice x772 x772n x772c) ∧ ((al w770 3 [.int .i64 x771] fun p773 w774 =>
  (app Tryz.prog [30, 30] 30 (.slice x772 x772n x772c) (.slice (some p773) 1 1) w774 fun a775 a775n a775c w776 =>
  dr t_34 fun p777 =>
  (app Tryz.prog [22, 22] 22 (.slice x660 x660n x660c) (.slice (some p769) 1 1) w776 fun a778 a778n a778c w779 =>
  (stL w779 (p777.add 0) 0 [.slice a775 a775n a775c] fun w780 =>
  dr t_34 fun p781 =>
  (stL w780 (p781.add 1) 0 [.slice a778 a778n a778c] fun w782 =>
  Kn w39 w782) ∧ True) ∧ True) ∧ True) ∧ True) ∧ True))) ∧ True) ∧ True)) ∧ True)) ∧ (∃ (x783 : List UInt8), World.cell? w45 (p50.add 0) = some (.string ⟨⟨x783⟩⟩) ∧ ((∃ (x784 : Int), lkAt Tryz.prog 118 x48 (.pointer t12_38) w45 (.int .i64 x784) ∧ (∃ (x785 : Option Addr) (x785n : Nat) (x785c : Nat), World.cell? w45 (p46.add 0) = some (.slice x785 x785n x785c) ∧ ((al w45 3 [.int .i64 x784] fun p786 w787 =>
  (app Tryz.prog [30, 30] 30 (.slice x785 x785n x785c) (.slice (some p786) 1 1) w787 fun a788 a788n a788c w789 =>
  ∃ (x790 : Option Addr) (x790n : Nat) (x790c : Nat), World.cell? w789 (p49.add 1) = some (.slice x790 x790n x790c) ∧ (dr t_34 fun p791 =>
  (al w789 9 [.string ⟨⟨x783⟩⟩] fun p792 w793 =>
  (app Tryz.prog [22, 22] 22 (.slice x790 x790n x790c) (.slice (some p792) 1 1) w793 fun a794 a794n a794c w795 =>
  (stL w795 (p791.add 0) 0 [.slice a788 a788n a788c] fun w796 =>
  dr t_34 fun p797 =>
  (stL w796 (p797.add 1) 0 [.slice a794 a794n a794c] fun w798 =>
  Kn w39 w798) ∧ True) ∧ True) ∧ True) ∧ True)) ∧ (∃ (x799 : Option Addr) (x799n : Nat) (x799c : Nat), World.cell? w787 (p49.add 1) = some (.slice x799 x799n x799c) ∧ ((app Tryz.prog [30, 30] 30 (.slice x785 x785n x785c) (.slice (some p786) 1 1) w787 fun a800 a800n a800c w801 =>
  dr t_34 fun p802 =>
  (al w801 9 [.string ⟨⟨x783⟩⟩] fun p803 w804 =>
  (app Tryz.prog [22, 22] 22 (.slice x799 x799n x799c) (.slice (some p803) 1 1) w804 fun a805 a805n a805c w806 =>
  (stL w806 (p802.add 0) 0 [.slice a800 a800n a800c] fun w807 =>
  dr t_34 fun p808 =>
  (stL w807 (p808.add 1) 0 [.slice a805 a805n a805c] fun w809 =>
  Kn w39 w809) ∧ True) ∧ True) ∧ True) ∧ True) ∧ (al w787 9 [.string ⟨⟨x783⟩⟩] fun p810 w811 =>
  (app Tryz.prog [30, 30] 30 (.slice x785 x785n x785c) (.slice (some p786) 1 1) w811 fun a812 a812n a812c w813 =>
  dr t_34 fun p814 =>
  (app Tryz.prog [22, 22] 22 (.slice x799 x799n x799c) (.slice (some p810) 1 1) w813 fun a815 a815n a815c w816 =>
  (stL w816 (p814.add 0) 0 [.slice a812 a812n a812c] fun w817 =>
  dr t_34 fun p818 =>
  (stL w817 (p818.add 1) 0 [.slice a815 a815n a815c] fun w819 =>
  Kn w39 w819) ∧ True) ∧ True) ∧ True) ∧ True) ∧ True)) ∧ (al w787 9 [.string ⟨⟨x783⟩⟩] fun p820 w821 =>
  (app Tryz.prog [30, 30] 30 (.slice x785 x785n x785c) (.slice (some p786) 1 1) w821 fun a822 a822n a822c w823 =>
  ∃ (x824 : Option Addr) (x824n : Nat) (x824c : Nat), World.cell? w823 (p49.add 1) = some (.slice x824 x824n x824c) ∧ (dr t_34 fun p825 =>
  (app Tryz.prog [22, 22] 22 (.slice x824 x824n x824c) (.slice (some p820) 1 1) w823 fun a826 a826n a826c w827 =>
  (stL w827 (p825.add 0) 0 [.slice a822 a822n a822c] fun w828 =>
  dr t_34 fun p829 =>
  (stL w828 (p829.add 1) 0 [.slice a826 a826n a826c] fun w830 =>
  Kn w39 w830) ∧ True) ∧ True) ∧ True)) ∧ True) ∧ True) ∧ (∃ (x831 : Option Addr) (x831n : Nat) (x831c : Nat), World.cell? w45 (p49.add 1) = some (.slice x831 x831n x831c) ∧ ((al w45 3 [.int .i64 x784] fun p832 w833 =>
  (app Tryz.prog [30, 30] 30 (.slice x785 x785n x785c) (.slice (some p832) 1 1) w833 fun a834 a834n a834c w835 =>
  dr t_34 fun p836 =>
  (al w835 9 [.string ⟨⟨x783⟩⟩] fun p837 w838 =>
  (app Tryz.prog [22, 22] 22 (.slice x831 x831n x831c) (.slice (some p837) 1 1) w838 fun a839 a839n a839c w840 =>
  (stL w840 (p836.add 0) 0 [.slice a834 a834n a834c] fun w841 =>
  dr t_34 fun p842 =>
  (stL w841 (p842.add 1) 0 [.slice a839 a839n a839c] fun w843 =>
  Kn w39 w843) ∧ True) ∧ True) ∧ True) ∧ True) ∧ (al w833 9 [.string ⟨⟨x783⟩⟩] fun p844 w845 =>
  (app Tryz.prog [30, 30] 30 (.slice x785 x785n x785c) (.slice (some p832) 1 1) w845 fun a846 a846n a846c w847 =>
  dr t_34 fun p848 =>
  (app Tryz.prog [22, 22] 22 (.slice x831 x831n x831c) (.slice (some p844) 1 1) w847 fun a849 a849n a849c w850 =>
  (stL w850 (p848.add 0) 0 [.slice a846 a846n a846c] fun w851 =>
  dr t_34 fun p852 =>
  (stL w851 (p852.add 1) 0 [.slice a849 a849n a849c] fun w853 =>
  Kn w39 w853) ∧ True) ∧ True) ∧ True) ∧ True) ∧ True) ∧ (al w45 9 [.string ⟨⟨x783⟩⟩] fun p854 w855 =>
  (al w855 3 [.int .i64 x784] fun p856 w857 =>
  (app Tryz.prog [30, 30] 30 (.slice x785 x785n x785c) (.slice (some p856) 1 1) w857 fun a858 a858n a858c w859 =>
  dr t_34 fun p860 =>
  (app Tryz.prog [22, 22] 22 (.slice x831 x831n x831c) (.slice (some p854) 1 1) w859 fun a861 a861n a861c w862 =>
  (stL w862 (p860.add 0) 0 [.slice a858 a858n a858c] fun w863 =>
  dr t_34 fun p864 =>
  (stL w863 (p864.add 1) 0 [.slice a861 a861n a861c] fun w865 =>
  Kn w39 w865) ∧ True) ∧ True) ∧ True) ∧ True) ∧ True) ∧ True)) ∧ (al w45 9 [.string ⟨⟨x783⟩⟩] fun p866 w867 =>
  (al w867 3 [.int .i64 x784] fun p868 w869 =>
  (app Tryz.prog [30, 30] 30 (.slice x785 x785n x785c) (.slice (some p868) 1 1) w869 fun a870 a870n a870c w871 =>
  ∃ (x872 : Option Addr) (x872n : Nat) (x872c : Nat), World.cell? w871 (p49.add 1) = some (.slice x872 x872n x872c) ∧ (dr t_34 fun p873 =>
  (app Tryz.prog [22, 22] 22 (.slice x872 x872n x872c) (.slice (some p866) 1 1) w871 fun a874 a874n a874c w875 =>
  (stL w875 (p873.add 0) 0 [.slice a870 a870n a870c] fun w876 =>
  dr t_34 fun p877 =>
  (stL w876 (p877.add 1) 0 [.slice a874 a874n a874c] fun w878 =>
  Kn w39 w878) ∧ True) ∧ True) ∧ True)) ∧ True) ∧ True) ∧ True))) ∧ (al w45 9 [.string ⟨⟨x783⟩⟩] fun p879 w880 =>
  (∃ (x881 : Int), lkAt Tryz.prog 118 x48 (.pointer t12_38) w880 (.int .i64 x881) ∧ (∃ (x882 : Option Addr) (x882n : Nat) (x882c : Nat), World.cell? w880 (p46.add 0) = some (.slice x882 x882n x882c) ∧ ((al w880 3 [.int .i64 x881] fun p883 w884 =>
  (app Tryz.prog [30, 30] 30 (.slice x882 x882n x882c) (.slice (some p883) 1 1) w884 fun a885 a885n a885c w886 =>
  ∃ (x887 : Option Addr) (x887n : Nat) (x887c : Nat), World.cell? w886 (p49.add 1) = some (.slice x887 x887n x887c) ∧ (dr t_34 fun p888 =>
  (app Tryz.prog [22, 22] 22 (.slice x887 x887n x887c) (.slice (some p879) 1 1) w886 fun a889 a889n a889c w890 =>
  (stL w890 (p888.add 0) 0 [.slice a885 a885n a885c] fun w891 =>
  dr t_34 fun p892 =>
  (stL w891 (p892.add 1) 0 [.slice a889 a889n a889c] fun w893 =>
  Kn w39 w893) ∧ True) ∧ True) ∧ True)) ∧ (∃ (x894 : Option Addr) (x894n : Nat) (x894c : Nat), World.cell? w884 (p49.add 1) = some (.slice x894 x894n x894c) ∧ ((app Tryz.prog [30, 30] 30 (.slice x882 x882n x882c) (.slice (some p883) 1 1) w884 fun a895 a895n a895c w896 =>
  dr t_34 fun p897 =>
  (app Tryz.prog [22, 22] 22 (.slice x894 x894n x894c) (.slice (some p879) 1 1) w896 fun a898 a898n a898c w899 =>
  (stL w899 (p897.add 0) 0 [.slice a895 a895n a895c] fun w900 =>
  dr t_34 fun p901 =>
  (stL w900 (p901.add 1) 0 [.slice a898 a898n a898c] fun w902 =>
  Kn w39 w902) ∧ True) ∧ True) ∧ True) ∧ True)) ∧ True) ∧ (∃ (x903 : Option Addr) (x903n : Nat) (x903c : Nat), World.cell? w880 (p49.add 1) = some (.slice x903 x903n x903c) ∧ ((al w880 3 [.int .i64 x881] fun p904 w905 =>
  (app Tryz.prog [30, 30] 30 (.slice x882 x882n x882c) (.slice (some p904) 1 1) w905 fun a906 a906n a906c w907 =>
  dr t_34 fun p908 =>
  (app Tryz.prog [22, 22] 22 (.slice x903 x903n x903c) (.slice (some p879) 1 1) w907 fun a909 a909n a909c w910 =>
  (stL w910 (p908.add 0) 0 [.slice a906 a906n a906c] fun w911 =>
  dr t_34 fun p912 =>
  (stL w911 (p912.add 1) 0 [.slice a909 a909n a909c] fun w913 =>
  Kn w39 w913) ∧ True) ∧ True) ∧ True) ∧ True) ∧ True)) ∧ True))) ∧ True) ∧ True)) ∧ True))))
set_option maxRecDepth 100000 in
theorem er_phylotree_tree_1 (base : Env) (t2_33 : Option Addr) (t_34 : Option Addr) (numbers_35 : Option Addr) (t10_36 : Fn) (t10_36a : Array Value) (t10_36b : Array Value) (t11_37 : Option Addr) (t12_38 : Option Addr) (l : Nat) (Kn Kr Kx : World → World → Prop) (w : World) : fragV Tryz.prog 36 anA_phylotree_tree_1 anB_phylotree_tree_1 (cdAt Tryz.f58 [1, 1, 1, 0, 1, 2, 5]) (cdAt Tryz.f58 [1, 1, 1, 0, 1, 2, 6]) l 0 Kn Kr Kx (updPs [11, 12] [.pointer t11_37, .pointer t12_38] (upd (upd (upd (upd base 10 (.func t10_36 t10_36a t10_36b)) 4 (.pointer numbers_35)) 3 (.pointer t_34)) 2 (.pointer t2_33))) w = rf_phylotree_tree_1 t2_33 t_34 numbers_35 t10_36 t10_36a t10_36b t11_37 t12_38 l Kn Kr Kx w := by kernel_rfl
theorem cd_phylotree_tree_1 : cdAt Tryz.f58 [1, 1, 1, 0, 1, 2] = .rangeFunc (Operand.tmp 10) #[11, 12] (cdAt Tryz.f58 [1, 1, 1, 0, 1, 2, 5]) (cdAt Tryz.f58 [1, 1, 1, 0, 1, 2, 6]) := by kernel_rfl

def an_slices_insertionSortCmpFunc_of_int : Ann := .two (.leaf) (.one (.loop 9007199254737664 [(8, .one (.int .i64))] (.two (.two (.leaf) (.two (.leaf) (.leaf))) (.two (.one (.two (.leaf) (.one (.loop 9007199254479360 [(9, .one (.int .i64))] (.cut 34359476224 [] (.two (.leaf) (.two (.leaf) (.leaf))) (.two (.one (.leaf)) (.leaf))))))) (.leaf)))))
def sh_slices_insertionSortCmpFunc_of_int (data_1 : Option Addr) (data_1n : Nat) (data_1c : Nat) (a_2 : Int) (b_3 : Int) (cmp_4 : Fn) (cmp_4a : Array Value) (cmp_4b : Array Value) (R : Ending → World → Prop) (w : World) : Prop :=
  ∃ (I5 : Int → World → Nat → Prop), (∃ m9 : Nat, I5 (IntKind.i64.wrap (a_2 + 1)) w m9) ∧ ∀ (i_6 : Int) (w7 : World) (m8 : Nat), I5 i_6 w7 m8 → ∀ _ : Env, (br (decide ((i_6 : Int) < b_3)) (∃ (I10 : Int → World → Nat → Prop), (∃ m14 : Nat, I10 i_6 w7 m14) ∧ ∀ (j_11 : Int) (w12 : World) (m13 : Nat), I10 j_11 w12 m13 → ∀ _ : Env, (∀ (K15 : World → Prop), (∀  (w16 : World), (∀ _ : Env, (drw w16 fun w17 =>
  idx data_1 data_1n (IntKind.i64.wrap (j_11 - 1)) 1 fun p18 =>
  ∃ (x19 : Option Addr) (x19n : Nat) (x19c : Nat), World.cell? w17 p18 = some (.slice x19 x19n x19c) ∧ (idx data_1 data_1n j_11 1 fun p20 =>
  ∃ (x21 : Option Addr) (x21n : Nat) (x21c : Nat), World.cell? w17 p20 = some (.slice x21 x21n x21c) ∧ (idx data_1 data_1n j_11 1 fun p22 =>
  (stL w17 p22 0 [.slice x19 x19n x19c] fun w23 =>
  idx data_1 data_1n (IntKind.i64.wrap (j_11 - 1)) 1 fun p24 =>
  (stL w23 p24 0 [.slice x21 x21n x21c] fun w25 =>
  ∃ m26 : Nat, m26 < m13 ∧ I10 (IntKind.i64.wrap (j_11 - 1)) w25 m26) ∧ True) ∧ True)))) → K15 w16) → (drw w12 fun w27 =>
  br (decide ((a_2 : Int) < j_11)) (idx data_1 data_1n j_11 1 fun p28 =>
  ∃ (x29 : Option Addr) (x29n : Nat) (x29c : Nat), World.cell? w27 p28 = some (.slice x29 x29n x29c) ∧ (idx data_1 data_1n (IntKind.i64.wrap (j_11 - 1)) 1 fun p30 =>
  ∃ (x31 : Option Addr) (x31n : Nat) (x31c : Nat), World.cell? w27 p30 = some (.slice x31 x31n x31c) ∧ ((CallV Tryz.prog (.func cmp_4 cmp_4a cmp_4b) [.slice x29 x29n x29c, .slice x31 x31n x31c] w27 fun (e32 : Ending) (w33 : World) =>
  ∃ (x34 : Int), e32 = .returned (.int .i64 x34) ∧ (br (decide ((x34 : Int) < 0)) (K15 w33) (∃ m35 : Nat, m35 < m8 ∧ I5 (IntKind.i64.wrap (i_6 + 1)) w33 m35))) ∧ True))) ((∃ m36 : Nat, m36 < m8 ∧ I5 (IntKind.i64.wrap (i_6 + 1)) w27 m36) ∧ True)))) (R (.returned (.tuple ⟨[]⟩)) w7))
set_option maxRecDepth 100000 in
theorem e_slices_insertionSortCmpFunc_of_int (data_1 : Option Addr) (data_1n : Nat) (data_1c : Nat) (a_2 : Int) (b_3 : Int) (cmp_4 : Fn) (cmp_4a : Array Value) (cmp_4b : Array Value) (R : Ending → World → Prop) (w : World) : fnV Tryz.prog Tryz.f59 an_slices_insertionSortCmpFunc_of_int [.slice data_1 data_1n data_1c, .int .i64 a_2, .int .i64 b_3, .func cmp_4 cmp_4a cmp_4b] R w = sh_slices_insertionSortCmpFunc_of_int data_1 data_1n data_1c a_2 b_3 cmp_4 cmp_4a cmp_4b R w := by kernel_rfl
theorem c_slices_insertionSortCmpFunc_of_int {data_1 : Option Addr} {data_1n : Nat} {data_1c : Nat} {a_2 : Int} {b_3 : Int} {cmp_4 : Fn} {cmp_4a : Array Value} {cmp_4b : Array Value} {R : Ending → World → Prop} {w : World} (h : sh_slices_insertionSortCmpFunc_of_int data_1 data_1n data_1c a_2 b_3 cmp_4 cmp_4a cmp_4b R w) : Calls Tryz.prog F_slices_insertionSortCmpFunc_of_int ⟨[.slice data_1 data_1n data_1c, .int .i64 a_2, .int .i64 b_3, .func cmp_4 cmp_4a cmp_4b]⟩ w R := calls_of_fnV Tryz.func59 (by rw [e_slices_insertionSortCmpFunc_of_int]; exact h)

def an_math_bits_Len64 : Ann := .two (.leaf) (.cut 125 [(0, .one (.int .u64)), (2, .one (.int .i64))] (.two (.leaf) (.two (.two (.leaf) (.leaf)) (.leaf))) (.cut 8069 [(0, .one (.int .u64)), (2, .one (.int .i64))] (.two (.leaf) (.two (.two (.leaf) (.leaf)) (.leaf))) (.cut 516101 [(0, .one (.int .u64)), (2, .one (.int .i64))] (.two (.leaf) (.two (.two (.leaf) (.leaf)) (.leaf))) (.two (.leaf) (.leaf)))))
def sh_math_bits_Len64 (x_1 : Int) (R : Ending → World → Prop) (w : World) : Prop :=
  ∀ (K2 : Int → Int → World → Prop), (∀ (x_3 : Int) (n_4 : Int) (w5 : World), (∀ _ : Env, (∀ (K6 : Int → Int → World → Prop), (∀ (x_7 : Int) (n_8 : Int) (w9 : World), (∀ _ : Env, (∀ (K10 : Int → Int → World → Prop), (∀ (x_11 : Int) (n_12 : Int) (w13 : World), (∀ _ : Env, (sidx ([0, 1, 2, 2, 3, 3, 3, 3, 4, 4, 4, 4, 4, 4, 4, 4, 5, 5, 5, 5, 5, 5, 5, 5, 5, 5, 5, 5, 5, 5, 5, 5, 6, 6, 6, 6, 6, 6, 6, 6, 6, 6, 6, 6, 6, 6, 6, 6, 6, 6, 6, 6, 6, 6, 6, 6, 6, 6, 6, 6, 6, 6, 6, 6, 7, 7, 7, 7, 7, 7, 7, 7, 7, 7, 7, 7, 7, 7, 7, 7, 7, 7, 7, 7, 7, 7, 7, 7, 7, 7, 7, 7, 7, 7, 7, 7, 7, 7, 7, 7, 7, 7, 7, 7, 7, 7, 7, 7, 7, 7, 7, 7, 7, 7, 7, 7, 7, 7, 7, 7, 7, 7, 7, 7, 7, 7, 7, 7, 8, 8, 8, 8, 8, 8, 8, 8, 8, 8, 8, 8, 8, 8, 8, 8, 8, 8, 8, 8, 8, 8, 8, 8, 8, 8, 8, 8, 8, 8, 8, 8, 8, 8, 8, 8, 8, 8, 8, 8, 8, 8, 8, 8, 8, 8, 8, 8, 8, 8, 8, 8, 8, 8, 8, 8, 8, 8, 8, 8, 8, 8, 8, 8, 8, 8, 8, 8, 8, 8, 8, 8, 8, 8, 8, 8, 8, 8, 8, 8, 8, 8, 8, 8, 8, 8, 8, 8, 8, 8, 8, 8, 8, 8, 8, 8, 8, 8, 8, 8, 8, 8, 8, 8, 8, 8, 8, 8, 8, 8, 8, 8, 8, 8, 8, 8, 8, 8, 8, 8, 8, 8, 8, 8, 8, 8, 8, 8]) (IntKind.u8.wrap x_11) fun b14 =>
  R (.returned (.int .i64 (IntKind.i64.wrap (n_12 + (IntKind.i64.wrap ((b14.toNat : Int))))))) w13)) → K10 x_11 n_12 w13) → (br (decide ((256 : Int) ≤ x_7)) (shf 8 (K10 (shR .u64 x_7 8) (IntKind.i64.wrap (n_8 + 8)) w9)) (K10 x_7 n_8 w9)))) → K6 x_7 n_8 w9) → (br (decide ((65536 : Int) ≤ x_3)) (shf 16 (K6 (shR .u64 x_3 16) (IntKind.i64.wrap (n_4 + 16)) w5)) (K6 x_3 n_4 w5)))) → K2 x_3 n_4 w5) → (br (decide ((4294967296 : Int) ≤ x_1)) (shf 32 (K2 (shR .u64 x_1 32) 32 w)) (K2 x_1 0 w))
set_option maxRecDepth 100000 in
theorem e_math_bits_Len64 (x_1 : Int) (R : Ending → World → Prop) (w : World) : fnV Tryz.prog Tryz.f68 an_math_bits_Len64 [.int .u64 x_1] R w = sh_math_bits_Len64 x_1 R w := by kernel_rfl
theorem c_math_bits_Len64 {x_1 : Int} {R : Ending → World → Prop} {w : World} (h : sh_math_bits_Len64 x_1 R w) : Calls Tryz.prog F_math_bits_Len64 ⟨[.int .u64 x_1]⟩ w R := calls_of_fnV Tryz.func68 (by rw [e_math_bits_Len64]; exact h)

end Go.Proofs
