/- Written by program: for each function its verification condition, that it is the code's (by the kernel), and that it gives the call. -/
import Derived.Test.YtncjonkmhfdabaaGreatFn
namespace Go.Proofs
open Go Go.Sh
def an_parsimony_children_1 : Ann := .two (.leaf) (.one (.loop 134217616 [(4, .one (.int .i64))] (.two (.two (.leaf) (.two (.leaf) (.leaf))) (.two (.one (.two (.leaf) (.two (.leaf) (.leaf)))) (.leaf)))))
def sh_parsimony_children_1 (yield_1 : Fn) (yield_1a : Array Value) (yield_1b : Array Value) (t1_2 : Option Addr) (t2_3 : Option Addr) (R : Ending → World → Prop) (w : World) : Prop :=
  dr t1_2 fun p4 =>
  ∃ (x5 : Int), World.cell? w p4 = some (.int .i64 x5) ∧ (∃ (I6 : Int → World → Nat → Prop), (∃ m10 : Nat, I6 (IntKind.i64.wrap (x5 + 1)) w m10) ∧ ∀ (i_7 : Int) (w8 : World) (m9 : Nat), I6 i_7 w8 m9 → ∀ _ : Env, (dr t2_3 fun p11 =>
  ∃ (x12 : Option Addr) (x12n : Nat) (x12c : Nat), World.cell? w8 (p11.add 0) = some (.slice x12 x12n x12c) ∧ (br (decide ((i_7 : Int) < ((x12n : Int)))) (drw w8 fun w13 =>
  dr t2_3 fun p14 =>
  ∃ (x15 : Option Addr) (x15n : Nat) (x15c : Nat), World.cell? w13 (p14.add 0) = some (.slice x15 x15n x15c) ∧ (idx x15 x15n i_7 1 fun p16 =>
  ∃ (x17 : Int), World.cell? w13 p16 = some (.int .i64 x17) ∧ (dr t1_2 fun p18 =>
  ∃ (x19 : Int), World.cell? w13 p18 = some (.int .i64 x19) ∧ (br (decide ((x17 : Int) = x19)) ((CallV Tryz.prog (.func yield_1 yield_1a yield_1b) [.int .i64 i_7] w13 fun (e20 : Ending) (w21 : World) =>
  ∃ (x22 : Bool), e20 = .returned (.bool x22) ∧ (br (!x22) (R (.returned (.tuple ⟨[]⟩)) w21) (∃ m23 : Nat, m23 < m9 ∧ I6 (IntKind.i64.wrap (i_7 + 1)) w21 m23))) ∧ True) ((∃ m24 : Nat, m24 < m9 ∧ I6 (IntKind.i64.wrap (i_7 + 1)) w13 m24) ∧ True))))) (R (.returned (.tuple ⟨[]⟩)) w8))))
set_option maxRecDepth 100000 in
theorem e_parsimony_children_1 (yield_1 : Fn) (yield_1a : Array Value) (yield_1b : Array Value) (t1_2 : Option Addr) (t2_3 : Option Addr) (R : Ending → World → Prop) (w : World) : fnV Tryz.prog Tryz.f70 an_parsimony_children_1 [.func yield_1 yield_1a yield_1b, .pointer t1_2, .pointer t2_3] R w = sh_parsimony_children_1 yield_1 yield_1a yield_1b t1_2 t2_3 R w := by kernel_rfl
theorem c_parsimony_children_1 {yield_1 : Fn} {yield_1a : Array Value} {yield_1b : Array Value} {t1_2 : Option Addr} {t2_3 : Option Addr} {R : Ending → World → Prop} {w : World} (h : sh_parsimony_children_1 yield_1 yield_1a yield_1b t1_2 t2_3 R w) : Calls Tryz.prog F_parsimony_children_1 ⟨[.func yield_1 yield_1a yield_1b, .pointer t1_2, .pointer t2_3]⟩ w R := calls_of_fnV Tryz.func70 (by rw [e_parsimony_children_1]; exact h)

def an_charset_Kind : Ann := .two (.leaf) (.two (.one (.cut 262136 [(3, .one (.bool))] (.leaf) (.two (.two (.leaf) (.leaf)) (.cut 536608768 [(18, .one (.bool))] (.leaf) (.two (.two (.leaf) (.leaf)) (.cut 68182605824 [(29, .one (.bool))] (.leaf) (.two (.two (.leaf) (.leaf)) (.two (.leaf) (.two (.two (.leaf) (.leaf)) (.two (.leaf) (.two (.two (.leaf) (.leaf)) (.two (.leaf) (.two (.two (.leaf) (.leaf)) (.leaf)))))))))))))) (.two (.leaf) (.leaf)))
def sh_charset_Kind (c_1 : Int) (R : Ending → World → Prop) (w : World) : Prop :=
  ∀ (K2 : Bool → World → Prop), (∀ (t3_3 : Bool) (w4 : World), (∀ _ : Env, (br t3_3 (R (.returned (.int .i64 1)) w4) (∀ (K5 : Bool → World → Prop), (∀ (t18_6 : Bool) (w7 : World), (∀ _ : Env, (br t18_6 (R (.returned (.int .i64 2)) w7) (∀ (K8 : Bool → World → Prop), (∀ (t29_9 : Bool) (w10 : World), (∀ _ : Env, (br t29_9 (R (.returned (.int .i64 3)) w10) (br (decide ((c_1 : Int) = 39)) (R (.returned (.int .i64 4)) w10) (br (decide ((c_1 : Int) = 32)) (R (.returned (.int .i64 6)) w10) (br (decide ((c_1 : Int) ≠ 0)) (Calls Tryz.prog 87 ⟨[.string ⟨⟨[46, 44, 59, 58, 33, 63, 40, 41, 45]⟩⟩, .int .u8 c_1]⟩ w10 fun (e11 : Ending) (w12 : World) =>
  ∃ (x13 : Int), e11 = .returned (.int .i64 x13) ∧ (br (decide ((0 : Int) ≤ x13)) (R (.returned (.int .i64 5)) w12) (R (.returned (.int .i64 0)) w12))) (R (.returned (.int .i64 0)) w10)))))) → K8 t29_9 w10) → (br (decide ((48 : Int) ≤ c_1)) (K8 (decide ((c_1 : Int) ≤ 57)) w7) (K8 false w7))))) → K5 t18_6 w7) → (br (decide ((c_1 : Int) = 94)) (K5 true w4) (br (decide ((c_1 : Int) = 126)) (K5 true w4) (K5 (decide ((c_1 : Int) = 37)) w4)))))) → K2 t3_3 w4) → (br (decide ((97 : Int) ≤ c_1)) (br (decide ((c_1 : Int) ≤ 122)) (K2 true w) (br (decide ((65 : Int) ≤ c_1)) (K2 (decide ((c_1 : Int) ≤ 90)) w) (K2 false w))) (br (decide ((65 : Int) ≤ c_1)) (K2 (decide ((c_1 : Int) ≤ 90)) w) (K2 false w)))
set_option maxRecDepth 100000 in
theorem e_charset_Kind (c_1 : Int) (R : Ending → World → Prop) (w : World) : fnV Tryz.prog Tryz.f72 an_charset_Kind [.int .u8 c_1] R w = sh_charset_Kind c_1 R w := by kernel_rfl
theorem c_charset_Kind {c_1 : Int} {R : Ending → World → Prop} {w : World} (h : sh_charset_Kind c_1 R w) : Calls Tryz.prog F_charset_Kind ⟨[.int .u8 c_1]⟩ w R := calls_of_fnV Tryz.func72 (by rw [e_charset_Kind]; exact h)

def an_intset_combine : Ann := .two (.leaf) (.cut 261312 [] (.two (.leaf) (.two (.two (.leaf) (.leaf)) (.leaf))) (.two (.leaf) (.two (.leaf) (.leaf))))
def sh_intset_combine (a_1 : Option Addr) (a_1n : Nat) (a_1c : Nat) (b_2 : Option Addr) (b_2n : Nat) (b_2c : Nat) (choose_3 : Fn) (choose_3a : Array Value) (choose_3b : Array Value) (R : Ending → World → Prop) (w : World) : Prop :=
  al w 111 [.func choose_3 choose_3a choose_3b] fun p4 w5 =>
  ∀ (K6 : World → Prop), (∀  (w7 : World), (∀ _ : Env, (Calls Tryz.prog 88 ⟨[.slice a_1 a_1n a_1c]⟩ w7 fun (e8 : Ending) (w9 : World) =>
  ∃ (x10 : Fn) (x10a : Array Value) (x10b : Array Value), e8 = .returned (.func x10 x10a x10b) ∧ (Calls Tryz.prog 88 ⟨[.slice b_2 b_2n b_2c]⟩ w9 fun (e11 : Ending) (w12 : World) =>
  ∃ (x13 : Fn) (x13a : Array Value) (x13b : Array Value), e11 = .returned (.func x13 x13a x13b) ∧ (al w12 49 [.nilFunc] fun p14 w15 =>
  al w15 49 [.nilFunc] fun p16 w17 =>
  stL w17 p14 0 [.func x10 x10a x10b] fun w18 =>
  stL w18 p16 0 [.func x13 x13a x13b] fun w19 =>
  Calls Tryz.prog 90 ⟨[.int .i64 64, .func (.func 91) ⟨[]⟩ ⟨[.pointer (some p4), .pointer (some p14), .pointer (some p16)]⟩]⟩ w19 fun (e20 : Ending) (w21 : World) =>
  ∃ (x22 : Fn) (x22a : Array Value) (x22b : Array Value), e20 = .returned (.func x22 x22a x22b) ∧ (Calls Tryz.prog 89 ⟨[.func x22 x22a x22b]⟩ w21 fun (e23 : Ending) (w24 : World) =>
  ∃ (x25 : Option Addr) (x25n : Nat) (x25c : Nat), e23 = .returned (.slice x25 x25n x25c) ∧ (R (.returned (.tuple ⟨[.slice x25 x25n x25c, .int .i64 0]⟩)) w24)))))) → K6 w7) → (Calls Tryz.prog 41 ⟨[.slice a_1 a_1n a_1c]⟩ w5 fun (e26 : Ending) (w27 : World) =>
  ∃ (x28 : Int), e26 = .returned (.int .i64 x28) ∧ (br (decide ((x28 : Int) ≠ 0)) (R (.returned (.tuple ⟨[.slice none 0 0, .int .i64 1]⟩)) w27) (Calls Tryz.prog 41 ⟨[.slice b_2 b_2n b_2c]⟩ w27 fun (e29 : Ending) (w30 : World) =>
  ∃ (x31 : Int), e29 = .returned (.int .i64 x31) ∧ (br (decide ((x31 : Int) ≠ 0)) (R (.returned (.tuple ⟨[.slice none 0 0, .int .i64 1]⟩)) w30) (K6 w30)))))
set_option maxRecDepth 100000 in
theorem e_intset_combine (a_1 : Option Addr) (a_1n : Nat) (a_1c : Nat) (b_2 : Option Addr) (b_2n : Nat) (b_2c : Nat) (choose_3 : Fn) (choose_3a : Array Value) (choose_3b : Array Value) (R : Ending → World → Prop) (w : World) : fnV Tryz.prog Tryz.f73 an_intset_combine [.slice a_1 a_1n a_1c, .slice b_2 b_2n b_2c, .func choose_3 choose_3a choose_3b] R w = sh_intset_combine a_1 a_1n a_1c b_2 b_2n b_2c choose_3 choose_3a choose_3b R w := by kernel_rfl
theorem c_intset_combine {a_1 : Option Addr} {a_1n : Nat} {a_1c : Nat} {b_2 : Option Addr} {b_2n : Nat} {b_2c : Nat} {choose_3 : Fn} {choose_3a : Array Value} {choose_3b : Array Value} {R : Ending → World → Prop} {w : World} (h : sh_intset_combine a_1 a_1n a_1c b_2 b_2n b_2c choose_3 choose_3a choose_3b R w) : Calls Tryz.prog F_intset_combine ⟨[.slice a_1 a_1n a_1c, .slice b_2 b_2n b_2c, .func choose_3 choose_3a choose_3b]⟩ w R := calls_of_fnV Tryz.func73 (by rw [e_intset_combine]; exact h)

def an_intset_Intersect_1 : Ann := .two (.leaf) (.two (.leaf) (.leaf))
def sh_intset_Intersect_1 (x_1 : Bool) (y_2 : Bool) (R : Ending → World → Prop) (w : World) : Prop :=
  br x_1 (R (.returned (.bool y_2)) w) (R (.returned (.bool false)) w)
set_option maxRecDepth 100000 in
theorem e_intset_Intersect_1 (x_1 : Bool) (y_2 : Bool) (R : Ending → World → Prop) (w : World) : fnV Tryz.prog Tryz.f74 an_intset_Intersect_1 [.bool x_1, .bool y_2] R w = sh_intset_Intersect_1 x_1 y_2 R w := by kernel_rfl
theorem c_intset_Intersect_1 {x_1 : Bool} {y_2 : Bool} {R : Ending → World → Prop} {w : World} (h : sh_intset_Intersect_1 x_1 y_2 R w) : Calls Tryz.prog F_intset_Intersect_1 ⟨[.bool x_1, .bool y_2]⟩ w R := calls_of_fnV Tryz.func74 (by rw [e_intset_Intersect_1]; exact h)

def an_slices_SortFunc_of_phylotree_node_phylotree_node : Ann := .two (.leaf) (.leaf)
def sh_slices_SortFunc_of_phylotree_node_phylotree_node (x_1 : Option Addr) (x_1n : Nat) (x_1c : Nat) (cmp_2 : Fn) (cmp_2a : Array Value) (cmp_2b : Array Value) (R : Ending → World → Prop) (w : World) : Prop :=
  Calls Tryz.prog 45 ⟨[.int .u64 (IntKind.u64.wrap ((x_1n : Int)))]⟩ w fun (e3 : Ending) (w4 : World) =>
  ∃ (x5 : Int), e3 = .returned (.int .i64 x5) ∧ (Calls Tryz.prog 92 ⟨[.slice x_1 x_1n x_1c, .int .i64 0, .int .i64 ((x_1n : Int)), .int .i64 x5, .func cmp_2 cmp_2a cmp_2b]⟩ w4 fun (e6 : Ending) (w7 : World) =>
  e6 = .returned (.tuple ⟨[]⟩) ∧ (R (.returned (.tuple ⟨[]⟩)) w7))
set_option maxRecDepth 100000 in
theorem e_slices_SortFunc_of_phylotree_node_phylotree_node (x_1 : Option Addr) (x_1n : Nat) (x_1c : Nat) (cmp_2 : Fn) (cmp_2a : Array Value) (cmp_2b : Array Value) (R : Ending → World → Prop) (w : World) : fnV Tryz.prog Tryz.f75 an_slices_SortFunc_of_phylotree_node_phylotree_node [.slice x_1 x_1n x_1c, .func cmp_2 cmp_2a cmp_2b] R w = sh_slices_SortFunc_of_phylotree_node_phylotree_node x_1 x_1n x_1c cmp_2 cmp_2a cmp_2b R w := by kernel_rfl
theorem c_slices_SortFunc_of_phylotree_node_phylotree_node {x_1 : Option Addr} {x_1n : Nat} {x_1c : Nat} {cmp_2 : Fn} {cmp_2a : Array Value} {cmp_2b : Array Value} {R : Ending → World → Prop} {w : World} (h : sh_slices_SortFunc_of_phylotree_node_phylotree_node x_1 x_1n x_1c cmp_2 cmp_2a cmp_2b R w) : Calls Tryz.prog F_slices_SortFunc_of_phylotree_node_phylotree_node ⟨[.slice x_1 x_1n x_1c, .func cmp_2 cmp_2a cmp_2b]⟩ w R := calls_of_fnV Tryz.func75 (by rw [e_slices_SortFunc_of_phylotree_node_phylotree_node]; exact h)

def an_phylotree_sorted_1 : Ann := .two (.leaf) (.two (.leaf) (.leaf))
def sh_phylotree_sorted_1 (a_1 : Option Addr) (b_2 : Option Addr) (t2_3 : Option Addr) (R : Ending → World → Prop) (w : World) : Prop :=
  dr t2_3 fun p4 =>
  ∃ (x5 : Value), World.cell? w p4 = some (x5) ∧ (∃ (x6 : List UInt8), lkAt Tryz.prog 114 x5 (.pointer a_1) w (.string ⟨⟨x6⟩⟩) ∧ (dr t2_3 fun p7 =>
  ∃ (x8 : Value), World.cell? w p7 = some (x8) ∧ (∃ (x9 : List UInt8), lkAt Tryz.prog 114 x8 (.pointer b_2) w (.string ⟨⟨x9⟩⟩) ∧ (Calls Tryz.prog 77 ⟨[.string ⟨⟨x6⟩⟩, .string ⟨⟨x9⟩⟩]⟩ w fun (e10 : Ending) (w11 : World) =>
  ∃ (x12 : Int), e10 = .returned (.int .i64 x12) ∧ (R (.returned (.int .i64 x12)) w11)))))
set_option maxRecDepth 100000 in
theorem e_phylotree_sorted_1 (a_1 : Option Addr) (b_2 : Option Addr) (t2_3 : Option Addr) (R : Ending → World → Prop) (w : World) : fnV Tryz.prog Tryz.f76 an_phylotree_sorted_1 [.pointer a_1, .pointer b_2, .pointer t2_3] R w = sh_phylotree_sorted_1 a_1 b_2 t2_3 R w := by kernel_rfl
theorem c_phylotree_sorted_1 {a_1 : Option Addr} {b_2 : Option Addr} {t2_3 : Option Addr} {R : Ending → World → Prop} {w : World} (h : sh_phylotree_sorted_1 a_1 b_2 t2_3 R w) : Calls Tryz.prog F_phylotree_sorted_1 ⟨[.pointer a_1, .pointer b_2, .pointer t2_3]⟩ w R := calls_of_fnV Tryz.func76 (by rw [e_phylotree_sorted_1]; exact h)

def an_phylotree_below : Ann := .two (.leaf) (.two (.leaf) (.leaf))
def sh_phylotree_below (x_1 : Option Addr) (R : Ending → World → Prop) (w : World) : Prop :=
  al w 88 [.pointer x_1] fun p2 w3 =>
  R (.returned (.func (.func 94) ⟨[]⟩ ⟨[.pointer (some p2)]⟩)) w3
set_option maxRecDepth 100000 in
theorem e_phylotree_below (x_1 : Option Addr) (R : Ending → World → Prop) (w : World) : fnV Tryz.prog Tryz.f78 an_phylotree_below [.pointer x_1] R w = sh_phylotree_below x_1 R w := by kernel_rfl
theorem c_phylotree_below {x_1 : Option Addr} {R : Ending → World → Prop} {w : World} (h : sh_phylotree_below x_1 R w) : Calls Tryz.prog F_phylotree_below ⟨[.pointer x_1]⟩ w R := calls_of_fnV Tryz.func78 (by rw [e_phylotree_below]; exact h)

def an_intset_has : Ann := .two (.leaf) (.two (.leaf) (.leaf))
def sh_intset_has (l_1 : Option Addr) (l_1n : Nat) (l_1c : Nat) (R : Ending → World → Prop) (w : World) : Prop :=
  al w 30 [.slice l_1 l_1n l_1c] fun p2 w3 =>
  R (.returned (.func (.func 99) ⟨[]⟩ ⟨[.pointer (some p2)]⟩)) w3
set_option maxRecDepth 100000 in
theorem e_intset_has (l_1 : Option Addr) (l_1n : Nat) (l_1c : Nat) (R : Ending → World → Prop) (w : World) : fnV Tryz.prog Tryz.f88 an_intset_has [.slice l_1 l_1n l_1c] R w = sh_intset_has l_1 l_1n l_1c R w := by kernel_rfl
theorem c_intset_has {l_1 : Option Addr} {l_1n : Nat} {l_1c : Nat} {R : Ending → World → Prop} {w : World} (h : sh_intset_has l_1 l_1n l_1c R w) : Calls Tryz.prog F_intset_has ⟨[.slice l_1 l_1n l_1c]⟩ w R := calls_of_fnV Tryz.func88 (by rw [e_intset_has]; exact h)

def an_slices_Collect_of_int : Ann := .two (.leaf) (.two (.leaf) (.leaf))
def sh_slices_Collect_of_int (seq_1 : Fn) (seq_1a : Array Value) (seq_1b : Array Value) (R : Ending → World → Prop) (w : World) : Prop :=
  Calls Tryz.prog 101 ⟨[.slice none 0 0, .func seq_1 seq_1a seq_1b]⟩ w fun (e2 : Ending) (w3 : World) =>
  ∃ (x4 : Option Addr) (x4n : Nat) (x4c : Nat), e2 = .returned (.slice x4 x4n x4c) ∧ (R (.returned (.slice x4 x4n x4c)) w3)
set_option maxRecDepth 100000 in
theorem e_slices_Collect_of_int (seq_1 : Fn) (seq_1a : Array Value) (seq_1b : Array Value) (R : Ending → World → Prop) (w : World) : fnV Tryz.prog Tryz.f89 an_slices_Collect_of_int [.func seq_1 seq_1a seq_1b] R w = sh_slices_Collect_of_int seq_1 seq_1a seq_1b R w := by kernel_rfl
theorem c_slices_Collect_of_int {seq_1 : Fn} {seq_1a : Array Value} {seq_1b : Array Value} {R : Ending → World → Prop} {w : World} (h : sh_slices_Collect_of_int seq_1 seq_1a seq_1b R w) : Calls Tryz.prog F_slices_Collect_of_int ⟨[.func seq_1 seq_1a seq_1b]⟩ w R := calls_of_fnV Tryz.func89 (by rw [e_slices_Collect_of_int]; exact h)

def an_intset_members : Ann := .two (.leaf) (.two (.leaf) (.leaf))
def sh_intset_members (n_1 : Int) (is_2 : Fn) (is_2a : Array Value) (is_2b : Array Value) (R : Ending → World → Prop) (w : World) : Prop :=
  al w 3 [.int .i64 n_1] fun p3 w4 =>
  al w4 49 [.func is_2 is_2a is_2b] fun p5 w6 =>
  R (.returned (.func (.func 102) ⟨[]⟩ ⟨[.pointer (some p3), .pointer (some p5)]⟩)) w6
set_option maxRecDepth 100000 in
theorem e_intset_members (n_1 : Int) (is_2 : Fn) (is_2a : Array Value) (is_2b : Array Value) (R : Ending → World → Prop) (w : World) : fnV Tryz.prog Tryz.f90 an_intset_members [.int .i64 n_1, .func is_2 is_2a is_2b] R w = sh_intset_members n_1 is_2 is_2a is_2b R w := by kernel_rfl
theorem c_intset_members {n_1 : Int} {is_2 : Fn} {is_2a : Array Value} {is_2b : Array Value} {R : Ending → World → Prop} {w : World} (h : sh_intset_members n_1 is_2 is_2a is_2b R w) : Calls Tryz.prog F_intset_members ⟨[.int .i64 n_1, .func is_2 is_2a is_2b]⟩ w R := calls_of_fnV Tryz.func90 (by rw [e_intset_members]; exact h)

def an_intset_combine_1 : Ann := .two (.leaf) (.two (.one (.leaf)) (.leaf))
def sh_intset_combine_1 (k_1 : Int) (t1_2 : Option Addr) (t2_3 : Option Addr) (t3_4 : Option Addr) (R : Ending → World → Prop) (w : World) : Prop :=
  drw w fun w5 =>
  dr t2_3 fun p6 =>
  ∃ (x7 : Fn) (x7a : Array Value) (x7b : Array Value), World.cell? w5 p6 = some (.func x7 x7a x7b) ∧ ((dr t1_2 fun p8 =>
  ∃ (x9 : Fn) (x9a : Array Value) (x9b : Array Value), World.cell? w5 p8 = some (.func x9 x9a x9b) ∧ ((CallV Tryz.prog (.func x7 x7a x7b) [.int .i64 k_1] w5 fun (e10 : Ending) (w11 : World) =>
  ∃ (x12 : Bool), e10 = .returned (.bool x12) ∧ (dr t3_4 fun p13 =>
  ∃ (x14 : Fn) (x14a : Array Value) (x14b : Array Value), World.cell? w11 p13 = some (.func x14 x14a x14b) ∧ ((CallV Tryz.prog (.func x14 x14a x14b) [.int .i64 k_1] w11 fun (e15 : Ending) (w16 : World) =>
  ∃ (x17 : Bool), e15 = .returned (.bool x17) ∧ ((CallV Tryz.prog (.func x9 x9a x9b) [.bool x12, .bool x17] w16 fun (e18 : Ending) (w19 : World) =>
  ∃ (x20 : Bool), e18 = .returned (.bool x20) ∧ (R (.returned (.bool x20)) w19)) ∧ True)) ∧ True))) ∧ (dr t3_4 fun p21 =>
  ∃ (x22 : Fn) (x22a : Array Value) (x22b : Array Value), World.cell? w5 p21 = some (.func x22 x22a x22b) ∧ ((CallV Tryz.prog (.func x7 x7a x7b) [.int .i64 k_1] w5 fun (e23 : Ending) (w24 : World) =>
  ∃ (x25 : Bool), e23 = .returned (.bool x25) ∧ ((CallV Tryz.prog (.func x22 x22a x22b) [.int .i64 k_1] w24 fun (e26 : Ending) (w27 : World) =>
  ∃ (x28 : Bool), e26 = .returned (.bool x28) ∧ ((CallV Tryz.prog (.func x9 x9a x9b) [.bool x25, .bool x28] w27 fun (e29 : Ending) (w30 : World) =>
  ∃ (x31 : Bool), e29 = .returned (.bool x31) ∧ (R (.returned (.bool x31)) w30)) ∧ True)) ∧ True)) ∧ True)) ∧ True)) ∧ (CallV Tryz.prog (.func x7 x7a x7b) [.int .i64 k_1] w5 fun (e32 : Ending) (w33 : World) =>
  ∃ (x34 : Bool), e32 = .returned (.bool x34) ∧ (dr t3_4 fun p35 =>
  ∃ (x36 : Fn) (x36a : Array Value) (x36b : Array Value), World.cell? w33 p35 = some (.func x36 x36a x36b) ∧ ((dr t1_2 fun p37 =>
  ∃ (x38 : Fn) (x38a : Array Value) (x38b : Array Value), World.cell? w33 p37 = some (.func x38 x38a x38b) ∧ ((CallV Tryz.prog (.func x36 x36a x36b) [.int .i64 k_1] w33 fun (e39 : Ending) (w40 : World) =>
  ∃ (x41 : Bool), e39 = .returned (.bool x41) ∧ ((CallV Tryz.prog (.func x38 x38a x38b) [.bool x34, .bool x41] w40 fun (e42 : Ending) (w43 : World) =>
  ∃ (x44 : Bool), e42 = .returned (.bool x44) ∧ (R (.returned (.bool x44)) w43)) ∧ True)) ∧ True)) ∧ (CallV Tryz.prog (.func x36 x36a x36b) [.int .i64 k_1] w33 fun (e45 : Ending) (w46 : World) =>
  ∃ (x47 : Bool), e45 = .returned (.bool x47) ∧ (dr t1_2 fun p48 =>
  ∃ (x49 : Fn) (x49a : Array Value) (x49b : Array Value), World.cell? w46 p48 = some (.func x49 x49a x49b) ∧ ((CallV Tryz.prog (.func x49 x49a x49b) [.bool x34, .bool x47] w46 fun (e50 : Ending) (w51 : World) =>
  ∃ (x52 : Bool), e50 = .returned (.bool x52) ∧ (R (.returned (.bool x52)) w51)) ∧ True))) ∧ True))) ∧ (dr t3_4 fun p53 =>
  ∃ (x54 : Fn) (x54a : Array Value) (x54b : Array Value), World.cell? w5 p53 = some (.func x54 x54a x54b) ∧ ((CallV Tryz.prog (.func x7 x7a x7b) [.int .i64 k_1] w5 fun (e55 : Ending) (w56 : World) =>
  ∃ (x57 : Bool), e55 = .returned (.bool x57) ∧ ((dr t1_2 fun p58 =>
  ∃ (x59 : Fn) (x59a : Array Value) (x59b : Array Value), World.cell? w56 p58 = some (.func x59 x59a x59b) ∧ ((CallV Tryz.prog (.func x54 x54a x54b) [.int .i64 k_1] w56 fun (e60 : Ending) (w61 : World) =>
  ∃ (x62 : Bool), e60 = .returned (.bool x62) ∧ ((CallV Tryz.prog (.func x59 x59a x59b) [.bool x57, .bool x62] w61 fun (e63 : Ending) (w64 : World) =>
  ∃ (x65 : Bool), e63 = .returned (.bool x65) ∧ (R (.returned (.bool x65)) w64)) ∧ True)) ∧ True)) ∧ (CallV Tryz.prog (.func x54 x54a x54b) [.int .i64 k_1] w56 fun (e66 : Ending) (w67 : World) =>
  ∃ (x68 : Bool), e66 = .returned (.bool x68) ∧ (dr t1_2 fun p69 =>
  ∃ (x70 : Fn) (x70a : Array Value) (x70b : Array Value), World.cell? w67 p69 = some (.func x70 x70a x70b) ∧ ((CallV Tryz.prog (.func x70 x70a x70b) [.bool x57, .bool x68] w67 fun (e71 : Ending) (w72 : World) =>
  ∃ (x73 : Bool), e71 = .returned (.bool x73) ∧ (R (.returned (.bool x73)) w72)) ∧ True))) ∧ True)) ∧ True)) ∧ True)
set_option maxRecDepth 100000 in
theorem e_intset_combine_1 (k_1 : Int) (t1_2 : Option Addr) (t2_3 : Option Addr) (t3_4 : Option Addr) (R : Ending → World → Prop) (w : World) : fnV Tryz.prog Tryz.f91 an_intset_combine_1 [.int .i64 k_1, .pointer t1_2, .pointer t2_3, .pointer t3_4] R w = sh_intset_combine_1 k_1 t1_2 t2_3 t3_4 R w := by kernel_rfl
theorem c_intset_combine_1 {k_1 : Int} {t1_2 : Option Addr} {t2_3 : Option Addr} {t3_4 : Option Addr} {R : Ending → World → Prop} {w : World} (h : sh_intset_combine_1 k_1 t1_2 t2_3 t3_4 R w) : Calls Tryz.prog F_intset_combine_1 ⟨[.int .i64 k_1, .pointer t1_2, .pointer t2_3, .pointer t3_4]⟩ w R := calls_of_fnV Tryz.func91 (by rw [e_intset_combine_1]; exact h)

def an_slices_pdqsortCmpFunc_of_phylotree_node : Ann := .two (.leaf) (.two (.leaf) (.one (.loop 356811923176489970264571492362373784095685646 [(1, .one (.int .i64)), (2, .one (.int .i64)), (3, .one (.int .i64)), (10, .one (.bool)), (11, .one (.bool))] (.one (.two (.leaf) (.two (.two (.leaf) (.two (.two (.leaf) (.leaf)) (.leaf))) (.two (.two (.leaf) (.two (.two (.leaf) (.leaf)) (.leaf))) (.cut 140462610448392 [(3, .one (.int .i64))] (.two (.leaf) (.two (.two (.leaf) (.leaf)) (.leaf))) (.two (.leaf) (.cut 295111876382333886464 [(13, .one (.int .i64)), (14, .one (.int .i64))] (.two (.leaf) (.two (.two (.leaf) (.two (.leaf) (.leaf))) (.leaf))) (.cut 2417556491324078996586496 [] (.cut 75262715820734970593280 [(75, .one (.bool))] (.leaf) (.two (.two (.leaf) (.two (.leaf) (.leaf))) (.leaf))) (.two (.cut 316910232205418121115826388992 [(97, .one (.bool))] (.leaf) (.two (.two (.leaf) (.two (.leaf) (.leaf))) (.leaf))) (.two (.leaf) (.two (.leaf) (.two (.leaf) (.two (.leaf) (.two (.leaf) (.two (.two (.leaf) (.two (.leaf) (.leaf))) (.two (.leaf) (.two (.leaf) (.leaf)))))))))))))))))))))
set_option maxRecDepth 100000 in
def sh_slices_pdqsortCmpFunc_of_phylotree_node (data_1 : Option Addr) (data_1n : Nat) (data_1c : Nat) (a_2 : Int) (b_3 : Int) (limit_4 : Int) (cmp_5 : Fn) (cmp_5a : Array Value) (cmp_5b : Array Value) (R : Ending → World → Prop) (w : World) : Prop :=
  ∃ (I6 : Int → Int → Int → Bool → Bool → World → Nat → Prop), (∃ m14 : Nat, I6 a_2 b_3 limit_4 true true w m14) ∧ ∀ (a_7 : Int) (b_8 : Int) (limit_9 : Int) (wasBalanced_10 : Bool) (wasPartitioned_11 : Bool) (w12 : World) (m13 : Nat), I6 a_7 b_8 limit_9 wasBalanced_10 wasPartitioned_11 w12 m13 → ∀ _ : Env, (br (decide (((IntKind.i64.wrap (b_8 - a_7)) : Int) ≤ 12)) (Calls Tryz.prog 103 ⟨[.slice data_1 data_1n data_1c, .int .i64 a_7, .int .i64 b_8, .func cmp_5 cmp_5a cmp_5b]⟩ w12 fun (e15 : Ending) (w16 : World) =>
  e15 = .returned (.tuple ⟨[]⟩) ∧ (R (.returned (.tuple ⟨[]⟩)) w16)) (br (decide ((limit_9 : Int) = 0)) (Calls Tryz.prog 104 ⟨[.slice data_1 data_1n data_1c, .int .i64 a_7, .int .i64 b_8, .func cmp_5 cmp_5a cmp_5b]⟩ w12 fun (e17 : Ending) (w18 : World) =>
  e17 = .returned (.tuple ⟨[]⟩) ∧ (R (.returned (.tuple ⟨[]⟩)) w18)) (∀ (K19 : Int → World → Prop), (∀ (limit_20 : Int) (w21 : World), (∀ _ : Env, (Calls Tryz.prog 106 ⟨[.slice data_1 data_1n data_1c, .int .i64 a_7, .int .i64 b_8, .func cmp_5 cmp_5a cmp_5b]⟩ w21 fun (e22 : Ending) (w23 : World) =>
  ∃ (x24 : Int) (x25 : Int), e22 = .returned (.tuple ⟨[.int .i64 x24, .int .i64 x25]⟩) ∧ (∀ (K26 : Int → Int → World → Prop), (∀ (pivot_27 : Int) (hint_28 : Int) (w29 : World), (∀ _ : Env, (∀ (K30 : World → Prop), (∀  (w31 : World), (∀ _ : Env, (∀ (K32 : Bool → World → Prop), (∀ (t97_33 : Bool) (w34 : World), (∀ _ : Env, (br t97_33 (Calls Tryz.prog 109 ⟨[.slice data_1 data_1n data_1c, .int .i64 a_7, .int .i64 b_8, .int .i64 pivot_27, .func cmp_5 cmp_5a cmp_5b]⟩ w34 fun (e35 : Ending) (w36 : World) =>
  ∃ (x37 : Int), e35 = .returned (.int .i64 x37) ∧ (∃ m38 : Nat, m38 < m13 ∧ I6 x37 b_8 limit_20 wasBalanced_10 wasPartitioned_11 w36 m38)) (Calls Tryz.prog 110 ⟨[.slice data_1 data_1n data_1c, .int .i64 a_7, .int .i64 b_8, .int .i64 pivot_27, .func cmp_5 cmp_5a cmp_5b]⟩ w34 fun (e39 : Ending) (w40 : World) =>
  ∃ (x41 : Int) (x42 : Bool), e39 = .returned (.tuple ⟨[.int .i64 x41, .bool x42]⟩) ∧ (idiv 8 (br (decide (((IntKind.i64.wrap (x41 - a_7)) : Int) < (IntKind.i64.wrap (b_8 - x41)))) (Calls Tryz.prog 92 ⟨[.slice data_1 data_1n data_1c, .int .i64 a_7, .int .i64 x41, .int .i64 limit_20, .func cmp_5 cmp_5a cmp_5b]⟩ w40 fun (e43 : Ending) (w44 : World) =>
  e43 = .returned (.tuple ⟨[]⟩) ∧ (∃ m45 : Nat, m45 < m13 ∧ I6 (IntKind.i64.wrap (x41 + 1)) b_8 limit_20 (decide (((IntKind.i64.wrap (Int.tdiv (IntKind.i64.wrap (b_8 - a_7)) 8)) : Int) ≤ (IntKind.i64.wrap (x41 - a_7)))) x42 w44 m45)) (Calls Tryz.prog 92 ⟨[.slice data_1 data_1n data_1c, .int .i64 (IntKind.i64.wrap (x41 + 1)), .int .i64 b_8, .int .i64 limit_20, .func cmp_5 cmp_5a cmp_5b]⟩ w40 fun (e46 : Ending) (w47 : World) =>
  e46 = .returned (.tuple ⟨[]⟩) ∧ (∃ m48 : Nat, m48 < m13 ∧ I6 a_7 x41 limit_20 (decide (((IntKind.i64.wrap (Int.tdiv (IntKind.i64.wrap (b_8 - a_7)) 8)) : Int) ≤ (IntKind.i64.wrap (b_8 - x41)))) x42 w47 m48))))))) → K32 t97_33 w34) → (drw w31 fun w49 =>
  br (decide ((0 : Int) < a_7)) (idx data_1 data_1n (IntKind.i64.wrap (a_7 - 1)) 1 fun p50 =>
  ∃ (x51 : Option Addr), World.cell? w49 p50 = some (.pointer x51) ∧ (idx data_1 data_1n pivot_27 1 fun p52 =>
  ∃ (x53 : Option Addr), World.cell? w49 p52 = some (.pointer x53) ∧ ((CallV Tryz.prog (.func cmp_5 cmp_5a cmp_5b) [.pointer x51, .pointer x53] w49 fun (e54 : Ending) (w55 : World) =>
  ∃ (x56 : Int), e54 = .returned (.int .i64 x56) ∧ (K32 (!(decide ((x56 : Int) < 0))) w55)) ∧ True))) ((K32 false w49) ∧ True)))) → K30 w31) → (∀ (K57 : Bool → World → Prop), (∀ (t75_58 : Bool) (w59 : World), (∀ _ : Env, (br t75_58 (Calls Tryz.prog 108 ⟨[.slice data_1 data_1n data_1c, .int .i64 a_7, .int .i64 b_8, .func cmp_5 cmp_5a cmp_5b]⟩ w59 fun (e60 : Ending) (w61 : World) =>
  ∃ (x62 : Bool), e60 = .returned (.bool x62) ∧ (br x62 (R (.returned (.tuple ⟨[]⟩)) w61) (K30 w61))) (K30 w59))) → K57 t75_58 w59) → (br wasBalanced_10 (br wasPartitioned_11 (K57 (decide ((hint_28 : Int) = 1)) w29) (K57 false w29)) (K57 false w29))))) → K26 pivot_27 hint_28 w29) → (br (decide ((x25 : Int) = 2)) (Calls Tryz.prog 107 ⟨[.slice data_1 data_1n data_1c, .int .i64 a_7, .int .i64 b_8, .func cmp_5 cmp_5a cmp_5b]⟩ w23 fun (e63 : Ending) (w64 : World) =>
  e63 = .returned (.tuple ⟨[]⟩) ∧ (K26 (IntKind.i64.wrap ((IntKind.i64.wrap (b_8 - 1)) - (IntKind.i64.wrap (x24 - a_7)))) 1 w64)) (K26 x24 x25 w23))))) → K19 limit_20 w21) → (br (!wasBalanced_10) (Calls Tryz.prog 105 ⟨[.slice data_1 data_1n data_1c, .int .i64 a_7, .int .i64 b_8, .func cmp_5 cmp_5a cmp_5b]⟩ w12 fun (e65 : Ending) (w66 : World) =>
  e65 = .returned (.tuple ⟨[]⟩) ∧ (K19 (IntKind.i64.wrap (limit_9 - 1)) w66)) (K19 limit_9 w12)))))
set_option maxRecDepth 100000 in
theorem e_slices_pdqsortCmpFunc_of_phylotree_node (data_1 : Option Addr) (data_1n : Nat) (data_1c : Nat) (a_2 : Int) (b_3 : Int) (limit_4 : Int) (cmp_5 : Fn) (cmp_5a : Array Value) (cmp_5b : Array Value) (R : Ending → World → Prop) (w : World) : fnV Tryz.prog Tryz.f92 an_slices_pdqsortCmpFunc_of_phylotree_node [.slice data_1 data_1n data_1c, .int .i64 a_2, .int .i64 b_3, .int .i64 limit_4, .func cmp_5 cmp_5a cmp_5b] R w = sh_slices_pdqsortCmpFunc_of_phylotree_node data_1 data_1n data_1c a_2 b_3 limit_4 cmp_5 cmp_5a cmp_5b R w := by kernel_rfl
theorem c_slices_pdqsortCmpFunc_of_phylotree_node {data_1 : Option Addr} {data_1n : Nat} {data_1c : Nat} {a_2 : Int} {b_3 : Int} {limit_4 : Int} {cmp_5 : Fn} {cmp_5a : Array Value} {cmp_5b : Array Value} {R : Ending → World → Prop} {w : World} (h : sh_slices_pdqsortCmpFunc_of_phylotree_node data_1 data_1n data_1c a_2 b_3 limit_4 cmp_5 cmp_5a cmp_5b R w) : Calls Tryz.prog F_slices_pdqsortCmpFunc_of_phylotree_node ⟨[.slice data_1 data_1n data_1c, .int .i64 a_2, .int .i64 b_3, .int .i64 limit_4, .func cmp_5 cmp_5a cmp_5b]⟩ w R := calls_of_fnV Tryz.func92 (by rw [e_slices_pdqsortCmpFunc_of_phylotree_node]; exact h)

def an_phylotree_below_1 : Ann := .two (.leaf) (.two (.leaf) (.two (.leaf) (.leaf)))
def sh_phylotree_below_1 (yield_1 : Fn) (yield_1a : Array Value) (yield_1b : Array Value) (t1_2 : Option Addr) (R : Ending → World → Prop) (w : World) : Prop :=
  al w 137 [.func yield_1 yield_1a yield_1b] fun p3 w4 =>
  al w4 137 [.nilFunc] fun p5 w6 =>
  stL w6 p5 0 [.func (.func 95) ⟨[]⟩ ⟨[.pointer (some p3), .pointer (some p5)]⟩] fun w7 =>
  ∃ (x8 : Fn) (x8a : Array Value) (x8b : Array Value), World.cell? w7 p5 = some (.func x8 x8a x8b) ∧ (dr t1_2 fun p9 =>
  ∃ (x10 : Option Addr), World.cell? w7 p9 = some (.pointer x10) ∧ (CallV Tryz.prog (.func x8 x8a x8b) [.pointer x10, .pointer none] w7 fun (e11 : Ending) (w12 : World) =>
  ∃ (x13 : Bool), e11 = .returned (.bool x13) ∧ (R (.returned (.tuple ⟨[]⟩)) w12)))
set_option maxRecDepth 100000 in
theorem e_phylotree_below_1 (yield_1 : Fn) (yield_1a : Array Value) (yield_1b : Array Value) (t1_2 : Option Addr) (R : Ending → World → Prop) (w : World) : fnV Tryz.prog Tryz.f94 an_phylotree_below_1 [.func yield_1 yield_1a yield_1b, .pointer t1_2] R w = sh_phylotree_below_1 yield_1 yield_1a yield_1b t1_2 R w := by kernel_rfl
theorem c_phylotree_below_1 {yield_1 : Fn} {yield_1a : Array Value} {yield_1b : Array Value} {t1_2 : Option Addr} {R : Ending → World → Prop} {w : World} (h : sh_phylotree_below_1 yield_1 yield_1a yield_1b t1_2 R w) : Calls Tryz.prog F_phylotree_below_1 ⟨[.func yield_1 yield_1a yield_1b, .pointer t1_2]⟩ w R := calls_of_fnV Tryz.func94 (by rw [e_phylotree_below_1]; exact h)

def an_phylotree_below_1_1 : Ann := .two (.leaf) (.two (.two (.leaf) (.two (.two (.leaf) (.leaf)) (.leaf))) (.two (.two (.leaf) (.one (.loop 536346944 [(19, .one (.int .i64))] (.two (.leaf) (.two (.two (.leaf) (.leaf)) (.two (.one (.two (.leaf) (.two (.leaf) (.two (.two (.leaf) (.leaf)) (.leaf))))) (.leaf))))))) (.two (.leaf) (.leaf))))
def sh_phylotree_below_1_1 (x_1 : Option Addr) (parent_2 : Option Addr) (t2_3 : Option Addr) (t3_4 : Option Addr) (R : Ending → World → Prop) (w : World) : Prop :=
  dr t2_3 fun p5 =>
  ∃ (x6 : Fn) (x6a : Array Value) (x6b : Array Value), World.cell? w p5 = some (.func x6 x6a x6b) ∧ (CallV Tryz.prog (.func x6 x6a x6b) [.pointer x_1, .pointer parent_2] w fun (e7 : Ending) (w8 : World) =>
  ∃ (x9 : Bool), e7 = .returned (.bool x9) ∧ (br (!x9) (R (.returned (.bool false)) w8) (dr x_1 fun p10 =>
  ∃ (x11 : Option Addr) (x11n : Nat) (x11c : Nat), World.cell? w8 (p10.add 1) = some (.slice x11 x11n x11c) ∧ (∃ (I12 : Int → World → Nat → Prop), (∃ m16 : Nat, I12 0 w8 m16) ∧ ∀ (t19_13 : Int) (w14 : World) (m15 : Nat), I12 t19_13 w14 m15 → ∀ _ : Env, (br (decide ((t19_13 : Int) < ((x11n : Int)))) (idx x11 x11n t19_13 1 fun p17 =>
  ∃ (x18 : Option Addr), World.cell? w14 p17 = some (.pointer x18) ∧ (dr t3_4 fun p19 =>
  ∃ (x20 : Fn) (x20a : Array Value) (x20b : Array Value), World.cell? w14 p19 = some (.func x20 x20a x20b) ∧ (CallV Tryz.prog (.func x20 x20a x20b) [.pointer x18, .pointer x_1] w14 fun (e21 : Ending) (w22 : World) =>
  ∃ (x23 : Bool), e21 = .returned (.bool x23) ∧ (br (!x23) (R (.returned (.bool false)) w22) (∃ m24 : Nat, m24 < m15 ∧ I12 (IntKind.i64.wrap (t19_13 + 1)) w22 m24))))) (R (.returned (.bool true)) w14))))))
set_option maxRecDepth 100000 in
theorem e_phylotree_below_1_1 (x_1 : Option Addr) (parent_2 : Option Addr) (t2_3 : Option Addr) (t3_4 : Option Addr) (R : Ending → World → Prop) (w : World) : fnV Tryz.prog Tryz.f95 an_phylotree_below_1_1 [.pointer x_1, .pointer parent_2, .pointer t2_3, .pointer t3_4] R w = sh_phylotree_below_1_1 x_1 parent_2 t2_3 t3_4 R w := by kernel_rfl
theorem c_phylotree_below_1_1 {x_1 : Option Addr} {parent_2 : Option Addr} {t2_3 : Option Addr} {t3_4 : Option Addr} {R : Ending → World → Prop} {w : World} (h : sh_phylotree_below_1_1 x_1 parent_2 t2_3 t3_4 R w) : Calls Tryz.prog F_phylotree_below_1_1 ⟨[.pointer x_1, .pointer parent_2, .pointer t2_3, .pointer t3_4]⟩ w R := calls_of_fnV Tryz.func95 (by rw [e_phylotree_below_1_1]; exact h)

def an_intset_has_1 : Ann := .two (.leaf) (.two (.leaf) (.two (.leaf) (.leaf)))
def sh_intset_has_1 (k_1 : Int) (t1_2 : Option Addr) (R : Ending → World → Prop) (w : World) : Prop :=
  dr t1_2 fun p3 =>
  ∃ (x4 : Option Addr) (x4n : Nat) (x4c : Nat), World.cell? w p3 = some (.slice x4 x4n x4c) ∧ (Calls Tryz.prog 100 ⟨[.slice x4 x4n x4c, .int .i64 k_1]⟩ w fun (e5 : Ending) (w6 : World) =>
  ∃ (x7 : Int) (x8 : Bool), e5 = .returned (.tuple ⟨[.int .i64 x7, .bool x8]⟩) ∧ (R (.returned (.bool x8)) w6))
set_option maxRecDepth 100000 in
theorem e_intset_has_1 (k_1 : Int) (t1_2 : Option Addr) (R : Ending → World → Prop) (w : World) : fnV Tryz.prog Tryz.f99 an_intset_has_1 [.int .i64 k_1, .pointer t1_2] R w = sh_intset_has_1 k_1 t1_2 R w := by kernel_rfl
theorem c_intset_has_1 {k_1 : Int} {t1_2 : Option Addr} {R : Ending → World → Prop} {w : World} (h : sh_intset_has_1 k_1 t1_2 R w) : Calls Tryz.prog F_intset_has_1 ⟨[.int .i64 k_1, .pointer t1_2]⟩ w R := calls_of_fnV Tryz.func99 (by rw [e_intset_has_1]; exact h)

def an_slices_AppendSeq_of_int_int : Ann := .two (.leaf) (.two (.two (.leaf) (.one (.rf [2, 4, 6] 0))) (.two (.leaf) (.leaf)))
def sh_slices_AppendSeq_of_int_int (s_1 : Option Addr) (s_1n : Nat) (s_1c : Nat) (seq_2 : Fn) (seq_2a : Array Value) (seq_2b : Array Value) (R : Ending → World → Prop) (w : World) : Prop :=
  al w 30 [.slice s_1 s_1n s_1c] fun p3 w4 =>
  ∀ base5 : Env, RFw Tryz.prog none 13 (cdAt Tryz.f101 [1, 0, 1, 2]) (upd (upd (upd base5 6 (.func seq_2 seq_2a seq_2b)) 4 (.slice none 0 0)) 2 (.pointer (some p3))) [] w4 0 (fun ds6 w7 =>
  ∃ (x10 : Option Addr) (x10n : Nat) (x10c : Nat), World.cell? w7 p3 = some (.slice x10 x10n x10c) ∧ (retD ds6 w7 fun w11 =>
  R (.returned (.slice x10 x10n x10c)) w11)) (fun ds6 w7 =>
  retD ds6 w7 fun w12 =>
  R (.returned (.slice none 0 0)) w12) (fun ds6 w7 =>
  ∃ (x8 : Option Addr) (x8n : Nat) (x8c : Nat), World.cell? w7 p3 = some (.slice x8 x8n x8c) ∧ (retD ds6 w7 fun w9 =>
  R (.returned (.slice x8 x8n x8c)) w9))
set_option maxRecDepth 100000 in
theorem e_slices_AppendSeq_of_int_int (s_1 : Option Addr) (s_1n : Nat) (s_1c : Nat) (seq_2 : Fn) (seq_2a : Array Value) (seq_2b : Array Value) (R : Ending → World → Prop) (w : World) : fnV Tryz.prog Tryz.f101 an_slices_AppendSeq_of_int_int [.slice s_1 s_1n s_1c, .func seq_2 seq_2a seq_2b] R w = sh_slices_AppendSeq_of_int_int s_1 s_1n s_1c seq_2 seq_2a seq_2b R w := by kernel_rfl
theorem c_slices_AppendSeq_of_int_int {s_1 : Option Addr} {s_1n : Nat} {s_1c : Nat} {seq_2 : Fn} {seq_2a : Array Value} {seq_2b : Array Value} {R : Ending → World → Prop} {w : World} (h : sh_slices_AppendSeq_of_int_int s_1 s_1n s_1c seq_2 seq_2a seq_2b R w) : Calls Tryz.prog F_slices_AppendSeq_of_int_int ⟨[.slice s_1 s_1n s_1c, .func seq_2 seq_2a seq_2b]⟩ w R := calls_of_fnV Tryz.func101 (by rw [e_slices_AppendSeq_of_int_int]; exact h)
def anA_slices_AppendSeq_of_int_int_1 : Ann := .leaf
def anB_slices_AppendSeq_of_int_int_1 : Ann := .one (.leaf)
def rf_slices_AppendSeq_of_int_int_1 (s_13 : Option Addr) (t4_14 : Option Addr) (t4_14n : Nat) (t4_14c : Nat) (t6_15 : Fn) (t6_15a : Array Value) (t6_15b : Array Value) (t7_16 : Int) (l : Nat) (Kn Kr Kx : World → World → Prop) (w : World) : Prop :=
  Ext w w ∧ ∀ w17 : World, Upd l w w17 → (dr s_13 fun p18 =>
  ∃ (x19 : Option Addr) (x19n : Nat) (x19c : Nat), World.cell? w17 p18 = some (.slice x19 x19n x19c) ∧ (al w17 3 [.int .i64 t7_16] fun p20 w21 =>
  app Tryz.prog [30, 30] 30 (.slice x19 x19n x19c) (.slice (some p20) 1 1) w21 fun a22 a22n a22c w23 =>
  dr s_13 fun p25 =>
  stL w23 p25 0 [.slice a22 a22n a22c] fun w24 =>
  Kn w17 w24))
set_option maxRecDepth 100000 in
theorem er_slices_AppendSeq_of_int_int_1 (base : Env) (s_13 : Option Addr) (t4_14 : Option Addr) (t4_14n : Nat) (t4_14c : Nat) (t6_15 : Fn) (t6_15a : Array Value) (t6_15b : Array Value) (t7_16 : Int) (l : Nat) (Kn Kr Kx : World → World → Prop) (w : World) : fragV Tryz.prog 13 anA_slices_AppendSeq_of_int_int_1 anB_slices_AppendSeq_of_int_int_1 (cdAt Tryz.f101 [1, 0, 1, 2, 5]) (cdAt Tryz.f101 [1, 0, 1, 2, 6]) l 0 Kn Kr Kx (updPs [7] [.int .i64 t7_16] (upd (upd (upd base 6 (.func t6_15 t6_15a t6_15b)) 4 (.slice t4_14 t4_14n t4_14c)) 2 (.pointer s_13))) w = rf_slices_AppendSeq_of_int_int_1 s_13 t4_14 t4_14n t4_14c t6_15 t6_15a t6_15b t7_16 l Kn Kr Kx w := by kernel_rfl
theorem cd_slices_AppendSeq_of_int_int_1 : cdAt Tryz.f101 [1, 0, 1, 2] = .rangeFunc (Operand.tmp 6) #[7] (cdAt Tryz.f101 [1, 0, 1, 2, 5]) (cdAt Tryz.f101 [1, 0, 1, 2, 6]) := by kernel_rfl

def an_intset_members_1 : Ann := .two (.leaf) (.one (.loop 524240 [(6, .one (.int .i64))] (.two (.leaf) (.two (.two (.leaf) (.leaf)) (.two (.one (.two (.leaf) (.two (.leaf) (.two (.leaf) (.leaf))))) (.leaf))))))
def sh_intset_members_1 (yield_1 : Fn) (yield_1a : Array Value) (yield_1b : Array Value) (t1_2 : Option Addr) (t2_3 : Option Addr) (R : Ending → World → Prop) (w : World) : Prop :=
  dr t1_2 fun p4 =>
  ∃ (x5 : Int), World.cell? w p4 = some (.int .i64 x5) ∧ (∃ (I6 : Int → World → Nat → Prop), (∃ m10 : Nat, I6 0 w m10) ∧ ∀ (t6_7 : Int) (w8 : World) (m9 : Nat), I6 t6_7 w8 m9 → ∀ _ : Env, (br (decide ((t6_7 : Int) < x5)) (dr t2_3 fun p11 =>
  ∃ (x12 : Fn) (x12a : Array Value) (x12b : Array Value), World.cell? w8 p11 = some (.func x12 x12a x12b) ∧ (CallV Tryz.prog (.func x12 x12a x12b) [.int .i64 t6_7] w8 fun (e13 : Ending) (w14 : World) =>
  ∃ (x15 : Bool), e13 = .returned (.bool x15) ∧ (br x15 (CallV Tryz.prog (.func yield_1 yield_1a yield_1b) [.int .i64 t6_7] w14 fun (e16 : Ending) (w17 : World) =>
  ∃ (x18 : Bool), e16 = .returned (.bool x18) ∧ (br (!x18) (R (.returned (.tuple ⟨[]⟩)) w17) (∃ m19 : Nat, m19 < m9 ∧ I6 (IntKind.i64.wrap (t6_7 + 1)) w17 m19))) (∃ m20 : Nat, m20 < m9 ∧ I6 (IntKind.i64.wrap (t6_7 + 1)) w14 m20)))) (R (.returned (.tuple ⟨[]⟩)) w8)))
set_option maxRecDepth 100000 in
theorem e_intset_members_1 (yield_1 : Fn) (yield_1a : Array Value) (yield_1b : Array Value) (t1_2 : Option Addr) (t2_3 : Option Addr) (R : Ending → World → Prop) (w : World) : fnV Tryz.prog Tryz.f102 an_intset_members_1 [.func yield_1 yield_1a yield_1b, .pointer t1_2, .pointer t2_3] R w = sh_intset_members_1 yield_1 yield_1a yield_1b t1_2 t2_3 R w := by kernel_rfl
theorem c_intset_members_1 {yield_1 : Fn} {yield_1a : Array Value} {yield_1b : Array Value} {t1_2 : Option Addr} {t2_3 : Option Addr} {R : Ending → World → Prop} {w : World} (h : sh_intset_members_1 yield_1 yield_1a yield_1b t1_2 t2_3 R w) : Calls Tryz.prog F_intset_members_1 ⟨[.func yield_1 yield_1a yield_1b, .pointer t1_2, .pointer t2_3]⟩ w R := calls_of_fnV Tryz.func102 (by rw [e_intset_members_1]; exact h)

def an_slices_insertionSortCmpFunc_of_phylotree_node : Ann := .two (.leaf) (.one (.loop 9007199254737664 [(8, .one (.int .i64))] (.two (.two (.leaf) (.two (.leaf) (.leaf))) (.two (.one (.two (.leaf) (.one (.loop 9007199254479360 [(9, .one (.int .i64))] (.cut 34359476224 [] (.two (.leaf) (.two (.leaf) (.leaf))) (.two (.one (.leaf)) (.leaf))))))) (.leaf)))))
def sh_slices_insertionSortCmpFunc_of_phylotree_node (data_1 : Option Addr) (data_1n : Nat) (data_1c : Nat) (a_2 : Int) (b_3 : Int) (cmp_4 : Fn) (cmp_4a : Array Value) (cmp_4b : Array Value) (R : Ending → World → Prop) (w : World) : Prop :=
  ∃ (I5 : Int → World → Nat → Prop), (∃ m9 : Nat, I5 (IntKind.i64.wrap (a_2 + 1)) w m9) ∧ ∀ (i_6 : Int) (w7 : World) (m8 : Nat), I5 i_6 w7 m8 → ∀ _ : Env, (br (decide ((i_6 : Int) < b_3)) (∃ (I10 : Int → World → Nat → Prop), (∃ m14 : Nat, I10 i_6 w7 m14) ∧ ∀ (j_11 : Int) (w12 : World) (m13 : Nat), I10 j_11 w12 m13 → ∀ _ : Env, (∀ (K15 : World → Prop), (∀  (w16 : World), (∀ _ : Env, (drw w16 fun w17 =>
  idx data_1 data_1n (IntKind.i64.wrap (j_11 - 1)) 1 fun p18 =>
  ∃ (x19 : Option Addr), World.cell? w17 p18 = some (.pointer x19) ∧ (idx data_1 data_1n j_11 1 fun p20 =>
  ∃ (x21 : Option Addr), World.cell? w17 p20 = some (.pointer x21) ∧ (idx data_1 data_1n j_11 1 fun p22 =>
  (stL w17 p22 0 [.pointer x19] fun w23 =>
  idx data_1 data_1n (IntKind.i64.wrap (j_11 - 1)) 1 fun p24 =>
  (stL w23 p24 0 [.pointer x21] fun w25 =>
  ∃ m26 : Nat, m26 < m13 ∧ I10 (IntKind.i64.wrap (j_11 - 1)) w25 m26) ∧ True) ∧ True)))) → K15 w16) → (drw w12 fun w27 =>
  br (decide ((a_2 : Int) < j_11)) (idx data_1 data_1n j_11 1 fun p28 =>
  ∃ (x29 : Option Addr), World.cell? w27 p28 = some (.pointer x29) ∧ (idx data_1 data_1n (IntKind.i64.wrap (j_11 - 1)) 1 fun p30 =>
  ∃ (x31 : Option Addr), World.cell? w27 p30 = some (.pointer x31) ∧ ((CallV Tryz.prog (.func cmp_4 cmp_4a cmp_4b) [.pointer x29, .pointer x31] w27 fun (e32 : Ending) (w33 : World) =>
  ∃ (x34 : Int), e32 = .returned (.int .i64 x34) ∧ (br (decide ((x34 : Int) < 0)) (K15 w33) (∃ m35 : Nat, m35 < m8 ∧ I5 (IntKind.i64.wrap (i_6 + 1)) w33 m35))) ∧ True))) ((∃ m36 : Nat, m36 < m8 ∧ I5 (IntKind.i64.wrap (i_6 + 1)) w27 m36) ∧ True)))) (R (.returned (.tuple ⟨[]⟩)) w7))
set_option maxRecDepth 100000 in
theorem e_slices_insertionSortCmpFunc_of_phylotree_node (data_1 : Option Addr) (data_1n : Nat) (data_1c : Nat) (a_2 : Int) (b_3 : Int) (cmp_4 : Fn) (cmp_4a : Array Value) (cmp_4b : Array Value) (R : Ending → World → Prop) (w : World) : fnV Tryz.prog Tryz.f103 an_slices_insertionSortCmpFunc_of_phylotree_node [.slice data_1 data_1n data_1c, .int .i64 a_2, .int .i64 b_3, .func cmp_4 cmp_4a cmp_4b] R w = sh_slices_insertionSortCmpFunc_of_phylotree_node data_1 data_1n data_1c a_2 b_3 cmp_4 cmp_4a cmp_4b R w := by kernel_rfl
theorem c_slices_insertionSortCmpFunc_of_phylotree_node {data_1 : Option Addr} {data_1n : Nat} {data_1c : Nat} {a_2 : Int} {b_3 : Int} {cmp_4 : Fn} {cmp_4a : Array Value} {cmp_4b : Array Value} {R : Ending → World → Prop} {w : World} (h : sh_slices_insertionSortCmpFunc_of_phylotree_node data_1 data_1n data_1c a_2 b_3 cmp_4 cmp_4a cmp_4b R w) : Calls Tryz.prog F_slices_insertionSortCmpFunc_of_phylotree_node ⟨[.slice data_1 data_1n data_1c, .int .i64 a_2, .int .i64 b_3, .func cmp_4 cmp_4a cmp_4b]⟩ w R := calls_of_fnV Tryz.func103 (by rw [e_slices_insertionSortCmpFunc_of_phylotree_node]; exact h)

end Go.Proofs
