/- Written by program: for each function its verification condition, that it is the code's (by the kernel), and that it gives the call. -/
import Derived.Test.YtlnpbjhhfffnmaaGreatDoorFn
namespace Go.Proofs
open Go Go.Sh
def an_law11_HandsReads : Ann := .two (.leaf) (.two (.two (.leaf) (.two (.two (.leaf) (.leaf)) (.leaf))) (.two (.leaf) (.two (.leaf) (.two (.leaf) (.two (.leaf) (.two (.leaf) (.two (.leaf) (.two (.leaf) (.two (.leaf) (.two (.leaf) (.two (.leaf) (.two (.leaf) (.leaf)))))))))))))
def sh_law11_HandsReads (l_1 : Option Addr) (l_1n : Nat) (l_1c : Nat) (hand_2 : Int) (R : Ending → World → Prop) (w : World) : Prop :=
  Calls Tryz.prog 4 ⟨[.slice l_1 l_1n l_1c, .int .i64 24]⟩ w fun (e3 : Ending) (w4 : World) =>
  ∃ (x5 : Bool), e3 = .returned (.bool x5) ∧ (br x5 (Calls Tryz.prog 5 ⟨[]⟩ w4 fun (e6 : Ending) (w7 : World) =>
  ∃ (x8 : Bool), e6 = .returned (.bool x8) ∧ (R (.returned (.bool x8)) w7)) (Calls Tryz.prog 6 ⟨[.slice l_1 l_1n l_1c]⟩ w4 fun (e9 : Ending) (w10 : World) =>
  ∃ (x11 : Int) (x12 : Int), e9 = .returned (.tuple ⟨[.int .i64 x11, .int .i64 x12]⟩) ∧ (Calls Tryz.prog 7 ⟨[.slice l_1 l_1n l_1c]⟩ w10 fun (e13 : Ending) (w14 : World) =>
  ∃ (x15 : Int) (x16 : Int), e13 = .returned (.tuple ⟨[.int .i64 x15, .int .i64 x16]⟩) ∧ (Calls Tryz.prog 8 ⟨[.slice l_1 l_1n l_1c]⟩ w14 fun (e17 : Ending) (w18 : World) =>
  ∃ (x19 : Bool) (x20 : Int), e17 = .returned (.tuple ⟨[.bool x19, .int .i64 x20]⟩) ∧ (Calls Tryz.prog 9 ⟨[.slice l_1 l_1n l_1c]⟩ w18 fun (e21 : Ending) (w22 : World) =>
  ∃ (x23 : Bool) (x24 : Int), e21 = .returned (.tuple ⟨[.bool x23, .int .i64 x24]⟩) ∧ (Calls Tryz.prog 10 ⟨[.slice l_1 l_1n l_1c]⟩ w22 fun (e25 : Ending) (w26 : World) =>
  ∃ (x27 : Option Addr) (x27n : Nat) (x27c : Nat) (x28 : Int), e25 = .returned (.tuple ⟨[.slice x27 x27n x27c, .int .i64 x28]⟩) ∧ (Calls Tryz.prog 11 ⟨[.slice l_1 l_1n l_1c]⟩ w26 fun (e29 : Ending) (w30 : World) =>
  ∃ (x31 : Option Addr) (x31n : Nat) (x31c : Nat) (x32 : Int), e29 = .returned (.tuple ⟨[.slice x31 x31n x31c, .int .i64 x32]⟩) ∧ (Calls Tryz.prog 12 ⟨[.slice l_1 l_1n l_1c, .int .i64 hand_2]⟩ w30 fun (e33 : Ending) (w34 : World) =>
  ∃ (x35 : Bool) (x36 : Int), e33 = .returned (.tuple ⟨[.bool x35, .int .i64 x36]⟩) ∧ (Calls Tryz.prog 13 ⟨[.slice l_1 l_1n l_1c, .int .i64 hand_2]⟩ w34 fun (e37 : Ending) (w38 : World) =>
  ∃ (x39 : Bool) (x40 : Int), e37 = .returned (.tuple ⟨[.bool x39, .int .i64 x40]⟩) ∧ (Calls Tryz.prog 14 ⟨[.slice l_1 l_1n l_1c, .int .i64 hand_2]⟩ w38 fun (e41 : Ending) (w42 : World) =>
  ∃ (x43 : Option Addr) (x43n : Nat) (x43c : Nat) (x44 : Int), e41 = .returned (.tuple ⟨[.slice x43 x43n x43c, .int .i64 x44]⟩) ∧ (Calls Tryz.prog 15 ⟨[.slice l_1 l_1n l_1c, .int .i64 hand_2]⟩ w42 fun (e45 : Ending) (w46 : World) =>
  ∃ (x47 : Option Addr) (x47n : Nat) (x47c : Nat) (x48 : Int), e45 = .returned (.tuple ⟨[.slice x47 x47n x47c, .int .i64 x48]⟩) ∧ (br (decide ((x11 : Int) = x15)) (br (decide ((x12 : Int) = x16)) (br (decide ((x19 : Bool) = x23)) (br (decide ((x20 : Int) = x24)) (Calls Tryz.prog 16 ⟨[.slice x27 x27n x27c, .slice x31 x31n x31c]⟩ w46 fun (e49 : Ending) (w50 : World) =>
  ∃ (x51 : Bool), e49 = .returned (.bool x51) ∧ (br x51 (br (decide ((x28 : Int) = x32)) (br (decide ((x35 : Bool) = x39)) (br (decide ((x36 : Int) = x40)) (Calls Tryz.prog 17 ⟨[.slice x43 x43n x43c, .slice x47 x47n x47c]⟩ w50 fun (e52 : Ending) (w53 : World) =>
  ∃ (x54 : Bool), e52 = .returned (.bool x54) ∧ (br x54 (br (decide ((x44 : Int) = x48)) (Calls Tryz.prog 5 ⟨[]⟩ w53 fun (e55 : Ending) (w56 : World) =>
  ∃ (x57 : Bool), e55 = .returned (.bool x57) ∧ (R (.returned (.bool x57)) w56)) (R (.returned (.bool false)) w53)) (R (.returned (.bool false)) w53))) (R (.returned (.bool false)) w50)) (R (.returned (.bool false)) w50)) (R (.returned (.bool false)) w50)) (R (.returned (.bool false)) w50))) (R (.returned (.bool false)) w46)) (R (.returned (.bool false)) w46)) (R (.returned (.bool false)) w46)) (R (.returned (.bool false)) w46)))))))))))))
set_option maxRecDepth 100000 in
theorem e_law11_HandsReads (l_1 : Option Addr) (l_1n : Nat) (l_1c : Nat) (hand_2 : Int) (R : Ending → World → Prop) (w : World) : fnV Tryz.prog Tryz.f3 an_law11_HandsReads [.slice l_1 l_1n l_1c, .int .i64 hand_2] R w = sh_law11_HandsReads l_1 l_1n l_1c hand_2 R w := by kernel_rfl
theorem c_law11_HandsReads {l_1 : Option Addr} {l_1n : Nat} {l_1c : Nat} {hand_2 : Int} {R : Ending → World → Prop} {w : World} (h : sh_law11_HandsReads l_1 l_1n l_1c hand_2 R w) : Calls Tryz.prog F_law11_HandsReads ⟨[.slice l_1 l_1n l_1c, .int .i64 hand_2]⟩ w R := calls_of_fnV Tryz.func3 (by rw [e_law11_HandsReads]; exact h)

def an_ref11_Great : Ann := .two (.leaf) (.two (.leaf) (.two (.leaf) (.leaf)))
def sh_ref11_Great (l_1 : Option Addr) (l_1n : Nat) (l_1c : Nat) (n_2 : Int) (R : Ending → World → Prop) (w : World) : Prop :=
  Calls Tryz.prog 18 ⟨[.slice l_1 l_1n l_1c, .int .i64 0, .int .i64 0]⟩ w fun (e3 : Ending) (w4 : World) =>
  ∃ (x5 : Int) (x6 : Bool), e3 = .returned (.tuple ⟨[.int .i64 x5, .bool x6]⟩) ∧ (br x6 (R (.returned (.bool true)) w4) (R (.returned (.bool (decide ((n_2 : Int) < x5)))) w4))
set_option maxRecDepth 100000 in
theorem e_ref11_Great (l_1 : Option Addr) (l_1n : Nat) (l_1c : Nat) (n_2 : Int) (R : Ending → World → Prop) (w : World) : fnV Tryz.prog Tryz.f4 an_ref11_Great [.slice l_1 l_1n l_1c, .int .i64 n_2] R w = sh_ref11_Great l_1 l_1n l_1c n_2 R w := by kernel_rfl
theorem c_ref11_Great {l_1 : Option Addr} {l_1n : Nat} {l_1c : Nat} {n_2 : Int} {R : Ending → World → Prop} {w : World} (h : sh_ref11_Great l_1 l_1n l_1c n_2 R w) : Calls Tryz.prog F_ref11_Great ⟨[.slice l_1 l_1n l_1c, .int .i64 n_2]⟩ w R := calls_of_fnV Tryz.func4 (by rw [e_ref11_Great]; exact h)

def an_law11_awake : Ann := .two (.leaf) (.two (.leaf) (.two (.leaf) (.two (.leaf) (.two (.leaf) (.two (.leaf) (.leaf))))))
def sh_law11_awake  (R : Ending → World → Prop) (w : World) : Prop :=
  Calls Tryz.prog 19 ⟨[.string ⟨⟨[100, 101]⟩⟩]⟩ w fun (e1 : Ending) (w2 : World) =>
  ∃ (x3 : Int) (x4 : List UInt8) (x5 : Int) (x6 : Option Addr) (x6n : Nat) (x6c : Nat), e1 = .returned (.agg ⟨[.int .i64 x3, .string ⟨⟨x4⟩⟩, .int .i64 x5, .slice x6 x6n x6c]⟩) ∧ (Calls Tryz.prog 19 ⟨[.string ⟨⟨[117]⟩⟩]⟩ w2 fun (e7 : Ending) (w8 : World) =>
  ∃ (x9 : Int) (x10 : List UInt8) (x11 : Int) (x12 : Option Addr) (x12n : Nat) (x12c : Nat), e7 = .returned (.agg ⟨[.int .i64 x9, .string ⟨⟨x10⟩⟩, .int .i64 x11, .slice x12 x12n x12c]⟩) ∧ (al w8 42 [.int .i64 x9, .string ⟨⟨x10⟩⟩, .int .i64 x11, .slice x12 x12n x12c] fun p13 w14 =>
  Calls Tryz.prog 19 ⟨[.string ⟨⟨[115]⟩⟩]⟩ w14 fun (e15 : Ending) (w16 : World) =>
  ∃ (x17 : Int) (x18 : List UInt8) (x19 : Int) (x20 : Option Addr) (x20n : Nat) (x20c : Nat), e15 = .returned (.agg ⟨[.int .i64 x17, .string ⟨⟨x18⟩⟩, .int .i64 x19, .slice x20 x20n x20c]⟩) ∧ (al w16 42 [.int .i64 x3, .string ⟨⟨x4⟩⟩, .int .i64 x5, .slice x6 x6n x6c, .int .i64 8, .string ⟨⟨[]⟩⟩, .int .i64 1, .slice (some p13) 1 1, .int .i64 x17, .string ⟨⟨x18⟩⟩, .int .i64 x19, .slice x20 x20n x20c] fun p21 w22 =>
  Calls Tryz.prog 20 ⟨[.slice (some p21) 3 3, .int .i64 0]⟩ w22 fun (e23 : Ending) (w24 : World) =>
  ∃ (x25 : Option Addr) (x25n : Nat) (x25c : Nat) (x26 : Int), e23 = .returned (.tuple ⟨[.slice x25 x25n x25c, .int .i64 x26]⟩) ∧ (Calls Tryz.prog 20 ⟨[.slice (some p21) 3 3, .int .i64 1]⟩ w24 fun (e27 : Ending) (w28 : World) =>
  ∃ (x29 : Option Addr) (x29n : Nat) (x29c : Nat) (x30 : Int), e27 = .returned (.tuple ⟨[.slice x29 x29n x29c, .int .i64 x30]⟩) ∧ (Calls Tryz.prog 19 ⟨[.string ⟨⟨[97]⟩⟩]⟩ w28 fun (e31 : Ending) (w32 : World) =>
  ∃ (x33 : Int) (x34 : List UInt8) (x35 : Int) (x36 : Option Addr) (x36n : Nat) (x36c : Nat), e31 = .returned (.agg ⟨[.int .i64 x33, .string ⟨⟨x34⟩⟩, .int .i64 x35, .slice x36 x36n x36c]⟩) ∧ (Calls Tryz.prog 19 ⟨[.string ⟨⟨[98]⟩⟩]⟩ w32 fun (e37 : Ending) (w38 : World) =>
  ∃ (x39 : Int) (x40 : List UInt8) (x41 : Int) (x42 : Option Addr) (x42n : Nat) (x42c : Nat), e37 = .returned (.agg ⟨[.int .i64 x39, .string ⟨⟨x40⟩⟩, .int .i64 x41, .slice x42 x42n x42c]⟩) ∧ (al w38 42 [.int .i64 x39, .string ⟨⟨x40⟩⟩, .int .i64 x41, .slice x42 x42n x42c, .int .i64 2, .string ⟨⟨[]⟩⟩, .int .i64 0, .slice none 0 0] fun p43 w44 =>
  al w44 42 [.int .i64 x33, .string ⟨⟨x34⟩⟩, .int .i64 x35, .slice x36 x36n x36c, .int .i64 9, .string ⟨⟨[]⟩⟩, .int .i64 2, .slice (some p43) 2 2] fun p45 w46 =>
  Calls Tryz.prog 20 ⟨[.slice (some p45) 2 2, .int .i64 2]⟩ w46 fun (e47 : Ending) (w48 : World) =>
  ∃ (x49 : Option Addr) (x49n : Nat) (x49c : Nat) (x50 : Int), e47 = .returned (.tuple ⟨[.slice x49 x49n x49c, .int .i64 x50]⟩) ∧ (br (decide ((((max (max x26 x30) x50)) : Int) = 0)) (Calls Tryz.prog 19 ⟨[.string ⟨⟨[100, 101, 115]⟩⟩]⟩ w48 fun (e51 : Ending) (w52 : World) =>
  ∃ (x53 : Int) (x54 : List UInt8) (x55 : Int) (x56 : Option Addr) (x56n : Nat) (x56c : Nat), e51 = .returned (.agg ⟨[.int .i64 x53, .string ⟨⟨x54⟩⟩, .int .i64 x55, .slice x56 x56n x56c]⟩) ∧ (al w52 42 [.int .i64 x53, .string ⟨⟨x54⟩⟩, .int .i64 x55, .slice x56 x56n x56c] fun p57 w58 =>
  Calls Tryz.prog 21 ⟨[.slice x25 x25n x25c, .slice (some p57) 1 1]⟩ w58 fun (e59 : Ending) (w60 : World) =>
  ∃ (x61 : Bool), e59 = .returned (.bool x61) ∧ (br x61 (Calls Tryz.prog 19 ⟨[.string ⟨⟨[100, 101, 117, 115]⟩⟩]⟩ w60 fun (e62 : Ending) (w63 : World) =>
  ∃ (x64 : Int) (x65 : List UInt8) (x66 : Int) (x67 : Option Addr) (x67n : Nat) (x67c : Nat), e62 = .returned (.agg ⟨[.int .i64 x64, .string ⟨⟨x65⟩⟩, .int .i64 x66, .slice x67 x67n x67c]⟩) ∧ (al w63 42 [.int .i64 x64, .string ⟨⟨x65⟩⟩, .int .i64 x66, .slice x67 x67n x67c] fun p68 w69 =>
  Calls Tryz.prog 21 ⟨[.slice x29 x29n x29c, .slice (some p68) 1 1]⟩ w69 fun (e70 : Ending) (w71 : World) =>
  ∃ (x72 : Bool), e70 = .returned (.bool x72) ∧ (br x72 (Calls Tryz.prog 19 ⟨[.string ⟨⟨[97]⟩⟩]⟩ w71 fun (e73 : Ending) (w74 : World) =>
  ∃ (x75 : Int) (x76 : List UInt8) (x77 : Int) (x78 : Option Addr) (x78n : Nat) (x78c : Nat), e73 = .returned (.agg ⟨[.int .i64 x75, .string ⟨⟨x76⟩⟩, .int .i64 x77, .slice x78 x78n x78c]⟩) ∧ (al w74 42 [.int .i64 x75, .string ⟨⟨x76⟩⟩, .int .i64 x77, .slice x78 x78n x78c, .int .i64 2, .string ⟨⟨[]⟩⟩, .int .i64 0, .slice none 0 0] fun p79 w80 =>
  Calls Tryz.prog 21 ⟨[.slice x49 x49n x49c, .slice (some p79) 2 2]⟩ w80 fun (e81 : Ending) (w82 : World) =>
  ∃ (x83 : Bool), e81 = .returned (.bool x83) ∧ (R (.returned (.bool x83)) w82))) (R (.returned (.bool false)) w71)))) (R (.returned (.bool false)) w60)))) (R (.returned (.bool false)) w48)))))))))
set_option maxRecDepth 100000 in
theorem e_law11_awake  (R : Ending → World → Prop) (w : World) : fnV Tryz.prog Tryz.f5 an_law11_awake [] R w = sh_law11_awake  R w := by kernel_rfl
theorem c_law11_awake  {R : Ending → World → Prop} {w : World} (h : sh_law11_awake  R w) : Calls Tryz.prog F_law11_awake ⟨[]⟩ w R := calls_of_fnV Tryz.func5 (by rw [e_law11_awake]; exact h)

def an_hands_Count : Ann := .two (.leaf) (.two (.two (.leaf) (.two (.two (.leaf) (.leaf)) (.leaf))) (.two (.leaf) (.two (.two (.leaf) (.one (.rf [2, 3, 4, 10] 0))) (.two (.leaf) (.leaf)))))
def sh_hands_Count (l_1 : Option Addr) (l_1n : Nat) (l_1c : Nat) (R : Ending → World → Prop) (w : World) : Prop :=
  Calls Tryz.prog 22 ⟨[.slice l_1 l_1n l_1c]⟩ w fun (e2 : Ending) (w3 : World) =>
  ∃ (x4 : Int), e2 = .returned (.int .i64 x4) ∧ (br (decide ((x4 : Int) ≠ 0)) (R (.returned (.tuple ⟨[.int .i64 0, .int .i64 1]⟩)) w3) (al w3 3 [.int .i64 0] fun p5 w6 =>
  stL w6 p5 0 [.int .i64 0] fun w7 =>
  Calls Tryz.prog 23 ⟨[.slice l_1 l_1n l_1c]⟩ w7 fun (e8 : Ending) (w9 : World) =>
  ∃ (x10 : Fn) (x10a : Array Value) (x10b : Array Value), e8 = .returned (.func x10 x10a x10b) ∧ (∀ base11 : Env, RFw Tryz.prog none 19 (cdAt Tryz.f6 [1, 1, 1, 0, 1, 2]) (upd (upd (upd (upd base11 10 (.func x10 x10a x10b)) 4 (.pointer (some p5))) 3 (.int .i64 0)) 2 (.int .i64 0)) [] w9 0 (fun ds12 w13 =>
  ∃ (x16 : Int), World.cell? w13 p5 = some (.int .i64 x16) ∧ (retD ds12 w13 fun w17 =>
  R (.returned (.tuple ⟨[.int .i64 x16, .int .i64 0]⟩)) w17)) (fun ds12 w13 =>
  retD ds12 w13 fun w18 =>
  R (.returned (.tuple ⟨[.int .i64 0, .int .i64 0]⟩)) w18) (fun ds12 w13 =>
  ∃ (x14 : Int), World.cell? w13 p5 = some (.int .i64 x14) ∧ (retD ds12 w13 fun w15 =>
  R (.returned (.tuple ⟨[.int .i64 x14, .int .i64 0]⟩)) w15)))))
set_option maxRecDepth 100000 in
theorem e_hands_Count (l_1 : Option Addr) (l_1n : Nat) (l_1c : Nat) (R : Ending → World → Prop) (w : World) : fnV Tryz.prog Tryz.f6 an_hands_Count [.slice l_1 l_1n l_1c] R w = sh_hands_Count l_1 l_1n l_1c R w := by kernel_rfl
theorem c_hands_Count {l_1 : Option Addr} {l_1n : Nat} {l_1c : Nat} {R : Ending → World → Prop} {w : World} (h : sh_hands_Count l_1 l_1n l_1c R w) : Calls Tryz.prog F_hands_Count ⟨[.slice l_1 l_1n l_1c]⟩ w R := calls_of_fnV Tryz.func6 (by rw [e_hands_Count]; exact h)
def anA_hands_Count_1 : Ann := .leaf
def anB_hands_Count_1 : Ann := .one (.two (.leaf) (.two (.leaf) (.leaf)))
def rf_hands_Count_1 (t2_19 : Int) (t3_20 : Int) (most_21 : Option Addr) (t10_22 : Fn) (t10_22a : Array Value) (t10_22b : Array Value) (t11_23 : Int) (t11_24 : List UInt8) (t11_25 : Int) (t11_26 : Option Addr) (t11_26n : Nat) (t11_26c : Nat) (l : Nat) (Kn Kr Kx : World → World → Prop) (w : World) : Prop :=
  al w 42 [.int .i64 0, .string ⟨⟨[]⟩⟩, .int .i64 0, .slice none 0 0] fun p28 w29 =>
  stL w29 p28 0 [.int .i64 t11_23, .string ⟨⟨t11_24⟩⟩, .int .i64 t11_25, .slice t11_26 t11_26n t11_26c] fun w30 =>
  Ext w w30 ∧ ∀ w27 : World, Upd l w30 w27 → (∃ (x31 : Int), World.cell? w27 (p28.add 0) = some (.int .i64 x31) ∧ (∃ (x32 : List UInt8), World.cell? w27 (p28.add 1) = some (.string ⟨⟨x32⟩⟩) ∧ (∃ (x33 : Int), World.cell? w27 (p28.add 2) = some (.int .i64 x33) ∧ (∃ (x34 : Option Addr) (x34n : Nat) (x34c : Nat), World.cell? w27 (p28.add 3) = some (.slice x34 x34n x34c) ∧ (Calls Tryz.prog 24 ⟨[.agg ⟨[.int .i64 x31, .string ⟨⟨x32⟩⟩, .int .i64 x33, .slice x34 x34n x34c]⟩]⟩ w27 fun (e35 : Ending) (w36 : World) =>
  ∃ (x37 : Bool), e35 = .returned (.bool x37) ∧ (br x37 (dr most_21 fun p38 =>
  ∃ (x39 : Int), World.cell? w36 p38 = some (.int .i64 x39) ∧ (∃ (x40 : Int), World.cell? w36 (p28.add 2) = some (.int .i64 x40) ∧ (dr most_21 fun p42 =>
  stL w36 p42 0 [.int .i64 ((max x39 x40))] fun w41 =>
  Kn w27 w41))) (Kn w27 w36)))))))
set_option maxRecDepth 100000 in
theorem er_hands_Count_1 (base : Env) (t2_19 : Int) (t3_20 : Int) (most_21 : Option Addr) (t10_22 : Fn) (t10_22a : Array Value) (t10_22b : Array Value) (t11_23 : Int) (t11_24 : List UInt8) (t11_25 : Int) (t11_26 : Option Addr) (t11_26n : Nat) (t11_26c : Nat) (l : Nat) (Kn Kr Kx : World → World → Prop) (w : World) : fragV Tryz.prog 19 anA_hands_Count_1 anB_hands_Count_1 (cdAt Tryz.f6 [1, 1, 1, 0, 1, 2, 5]) (cdAt Tryz.f6 [1, 1, 1, 0, 1, 2, 6]) l 0 Kn Kr Kx (updPs [11] [.agg ⟨[.int .i64 t11_23, .string ⟨⟨t11_24⟩⟩, .int .i64 t11_25, .slice t11_26 t11_26n t11_26c]⟩] (upd (upd (upd (upd base 10 (.func t10_22 t10_22a t10_22b)) 4 (.pointer most_21)) 3 (.int .i64 t3_20)) 2 (.int .i64 t2_19))) w = rf_hands_Count_1 t2_19 t3_20 most_21 t10_22 t10_22a t10_22b t11_23 t11_24 t11_25 t11_26 t11_26n t11_26c l Kn Kr Kx w := by kernel_rfl
theorem cd_hands_Count_1 : cdAt Tryz.f6 [1, 1, 1, 0, 1, 2] = .rangeFunc (Operand.tmp 10) #[11] (cdAt Tryz.f6 [1, 1, 1, 0, 1, 2, 5]) (cdAt Tryz.f6 [1, 1, 1, 0, 1, 2, 6]) := by kernel_rfl

def an_ref11_Count : Ann := .two (.leaf) (.two (.two (.leaf) (.two (.two (.leaf) (.leaf)) (.leaf))) (.two (.leaf) (.leaf)))
def sh_ref11_Count (l_1 : Option Addr) (l_1n : Nat) (l_1c : Nat) (R : Ending → World → Prop) (w : World) : Prop :=
  Calls Tryz.prog 25 ⟨[.slice l_1 l_1n l_1c]⟩ w fun (e2 : Ending) (w3 : World) =>
  ∃ (x4 : Int), e2 = .returned (.int .i64 x4) ∧ (br (decide ((x4 : Int) ≠ 0)) (R (.returned (.tuple ⟨[.int .i64 0, .int .i64 1]⟩)) w3) (Calls Tryz.prog 26 ⟨[.slice l_1 l_1n l_1c]⟩ w3 fun (e5 : Ending) (w6 : World) =>
  ∃ (x7 : Int), e5 = .returned (.int .i64 x7) ∧ (R (.returned (.tuple ⟨[.int .i64 x7, .int .i64 0]⟩)) w6)))
set_option maxRecDepth 100000 in
theorem e_ref11_Count (l_1 : Option Addr) (l_1n : Nat) (l_1c : Nat) (R : Ending → World → Prop) (w : World) : fnV Tryz.prog Tryz.f7 an_ref11_Count [.slice l_1 l_1n l_1c] R w = sh_ref11_Count l_1 l_1n l_1c R w := by kernel_rfl
theorem c_ref11_Count {l_1 : Option Addr} {l_1n : Nat} {l_1c : Nat} {R : Ending → World → Prop} {w : World} (h : sh_ref11_Count l_1 l_1n l_1c R w) : Calls Tryz.prog F_ref11_Count ⟨[.slice l_1 l_1n l_1c]⟩ w R := calls_of_fnV Tryz.func7 (by rw [e_ref11_Count]; exact h)

def an_hands_Clean : Ann := .two (.leaf) (.two (.two (.leaf) (.two (.two (.leaf) (.leaf)) (.leaf))) (.two (.leaf) (.leaf)))
def sh_hands_Clean (l_1 : Option Addr) (l_1n : Nat) (l_1c : Nat) (R : Ending → World → Prop) (w : World) : Prop :=
  Calls Tryz.prog 22 ⟨[.slice l_1 l_1n l_1c]⟩ w fun (e2 : Ending) (w3 : World) =>
  ∃ (x4 : Int), e2 = .returned (.int .i64 x4) ∧ (br (decide ((x4 : Int) ≠ 0)) (R (.returned (.tuple ⟨[.bool false, .int .i64 1]⟩)) w3) (Calls Tryz.prog 23 ⟨[.slice l_1 l_1n l_1c]⟩ w3 fun (e5 : Ending) (w6 : World) =>
  ∃ (x7 : Fn) (x7a : Array Value) (x7b : Array Value), e5 = .returned (.func x7 x7a x7b) ∧ (Calls Tryz.prog 28 ⟨[.func x7 x7a x7b]⟩ w6 fun (e8 : Ending) (w9 : World) =>
  ∃ (x10 : Option Addr) (x10n : Nat) (x10c : Nat), e8 = .returned (.slice x10 x10n x10c) ∧ (Calls Tryz.prog 27 ⟨[.slice x10 x10n x10c, .func (.func 24) #[] #[]]⟩ w9 fun (e11 : Ending) (w12 : World) =>
  ∃ (x13 : Bool), e11 = .returned (.bool x13) ∧ (R (.returned (.tuple ⟨[.bool (!x13), .int .i64 0]⟩)) w12)))))
set_option maxRecDepth 100000 in
theorem e_hands_Clean (l_1 : Option Addr) (l_1n : Nat) (l_1c : Nat) (R : Ending → World → Prop) (w : World) : fnV Tryz.prog Tryz.f8 an_hands_Clean [.slice l_1 l_1n l_1c] R w = sh_hands_Clean l_1 l_1n l_1c R w := by kernel_rfl
theorem c_hands_Clean {l_1 : Option Addr} {l_1n : Nat} {l_1c : Nat} {R : Ending → World → Prop} {w : World} (h : sh_hands_Clean l_1 l_1n l_1c R w) : Calls Tryz.prog F_hands_Clean ⟨[.slice l_1 l_1n l_1c]⟩ w R := calls_of_fnV Tryz.func8 (by rw [e_hands_Clean]; exact h)

def an_ref11_Clean : Ann := .two (.leaf) (.two (.leaf) (.two (.leaf) (.leaf)))
def sh_ref11_Clean (l_1 : Option Addr) (l_1n : Nat) (l_1c : Nat) (R : Ending → World → Prop) (w : World) : Prop :=
  Calls Tryz.prog 7 ⟨[.slice l_1 l_1n l_1c]⟩ w fun (e2 : Ending) (w3 : World) =>
  ∃ (x4 : Int) (x5 : Int), e2 = .returned (.tuple ⟨[.int .i64 x4, .int .i64 x5]⟩) ∧ (br (decide ((x5 : Int) = 0)) (R (.returned (.tuple ⟨[.bool (decide ((x4 : Int) = 0)), .int .i64 x5]⟩)) w3) (R (.returned (.tuple ⟨[.bool false, .int .i64 x5]⟩)) w3))
set_option maxRecDepth 100000 in
theorem e_ref11_Clean (l_1 : Option Addr) (l_1n : Nat) (l_1c : Nat) (R : Ending → World → Prop) (w : World) : fnV Tryz.prog Tryz.f9 an_ref11_Clean [.slice l_1 l_1n l_1c] R w = sh_ref11_Clean l_1 l_1n l_1c R w := by kernel_rfl
theorem c_ref11_Clean {l_1 : Option Addr} {l_1n : Nat} {l_1c : Nat} {R : Ending → World → Prop} {w : World} (h : sh_ref11_Clean l_1 l_1n l_1c R w) : Calls Tryz.prog F_ref11_Clean ⟨[.slice l_1 l_1n l_1c]⟩ w R := calls_of_fnV Tryz.func9 (by rw [e_ref11_Clean]; exact h)

def an_hands_Hands : Ann := .two (.leaf) (.two (.leaf) (.two (.two (.leaf) (.two (.two (.leaf) (.leaf)) (.leaf))) (.two (.leaf) (.two (.two (.leaf) (.one (.loop 268370112 [(6, .one (.slice)), (7, .one (.int .i64))] (.two (.two (.leaf) (.two (.leaf) (.leaf))) (.two (.one (.two (.leaf) (.two (.leaf) (.leaf)))) (.leaf)))))) (.two (.leaf) (.leaf))))))
def sh_hands_Hands (l_1 : Option Addr) (l_1n : Nat) (l_1c : Nat) (R : Ending → World → Prop) (w : World) : Prop :=
  Calls Tryz.prog 6 ⟨[.slice l_1 l_1n l_1c]⟩ w fun (e2 : Ending) (w3 : World) =>
  ∃ (x4 : Int) (x5 : Int), e2 = .returned (.tuple ⟨[.int .i64 x4, .int .i64 x5]⟩) ∧ (br (decide ((x5 : Int) ≠ 0)) (R (.returned (.tuple ⟨[.slice none 0 0, .int .i64 x5]⟩)) w3) (∃ (I6 : Option Addr → Nat → Nat → Int → World → Nat → Prop), (∃ m11 : Nat, I6 none 0 0 1 w3 m11) ∧ ∀ (out_7 : Option Addr) (out_7n : Nat) (out_7c : Nat) (hand_8 : Int) (w9 : World) (m10 : Nat), I6 out_7 out_7n out_7c hand_8 w9 m10 → ∀ _ : Env, (br (decide ((hand_8 : Int) ≤ x4)) (Calls Tryz.prog 29 ⟨[.slice l_1 l_1n l_1c, .int .i64 hand_8]⟩ w9 fun (e12 : Ending) (w13 : World) =>
  ∃ (x14 : Bool), e12 = .returned (.bool x14) ∧ (br x14 (al w13 3 [.int .i64 hand_8] fun p15 w16 =>
  app Tryz.prog [30, 30] 30 (.slice out_7 out_7n out_7c) (.slice (some p15) 1 1) w16 fun a17 a17n a17c w18 =>
  ∃ m19 : Nat, m19 < m10 ∧ I6 a17 a17n a17c (IntKind.i64.wrap (hand_8 + 1)) w18 m19) (∃ m20 : Nat, m20 < m10 ∧ I6 out_7 out_7n out_7c (IntKind.i64.wrap (hand_8 + 1)) w13 m20))) (R (.returned (.tuple ⟨[.slice out_7 out_7n out_7c, .int .i64 0]⟩)) w9))))
set_option maxRecDepth 100000 in
theorem e_hands_Hands (l_1 : Option Addr) (l_1n : Nat) (l_1c : Nat) (R : Ending → World → Prop) (w : World) : fnV Tryz.prog Tryz.f10 an_hands_Hands [.slice l_1 l_1n l_1c] R w = sh_hands_Hands l_1 l_1n l_1c R w := by kernel_rfl
theorem c_hands_Hands {l_1 : Option Addr} {l_1n : Nat} {l_1c : Nat} {R : Ending → World → Prop} {w : World} (h : sh_hands_Hands l_1 l_1n l_1c R w) : Calls Tryz.prog F_hands_Hands ⟨[.slice l_1 l_1n l_1c]⟩ w R := calls_of_fnV Tryz.func10 (by rw [e_hands_Hands]; exact h)

def an_ref11_Hands : Ann := .two (.leaf) (.two (.two (.leaf) (.two (.two (.leaf) (.leaf)) (.leaf))) (.two (.leaf) (.two (.two (.leaf) (.one (.loop 67107056 [(4, .one (.slice)), (5, .one (.int .i64))] (.two (.two (.leaf) (.two (.leaf) (.leaf))) (.two (.one (.two (.leaf) (.two (.leaf) (.two (.leaf) (.leaf))))) (.leaf)))))) (.two (.leaf) (.leaf)))))
def sh_ref11_Hands (l_1 : Option Addr) (l_1n : Nat) (l_1c : Nat) (R : Ending → World → Prop) (w : World) : Prop :=
  Calls Tryz.prog 25 ⟨[.slice l_1 l_1n l_1c]⟩ w fun (e2 : Ending) (w3 : World) =>
  ∃ (x4 : Int), e2 = .returned (.int .i64 x4) ∧ (br (decide ((x4 : Int) ≠ 0)) (R (.returned (.tuple ⟨[.slice none 0 0, .int .i64 1]⟩)) w3) (∃ (I5 : Option Addr → Nat → Nat → Int → World → Nat → Prop), (∃ m10 : Nat, I5 none 0 0 1 w3 m10) ∧ ∀ (out_6 : Option Addr) (out_6n : Nat) (out_6c : Nat) (h_7 : Int) (w8 : World) (m9 : Nat), I5 out_6 out_6n out_6c h_7 w8 m9 → ∀ _ : Env, (br (decide ((h_7 : Int) ≤ 8)) (Calls Tryz.prog 13 ⟨[.slice l_1 l_1n l_1c, .int .i64 h_7]⟩ w8 fun (e11 : Ending) (w12 : World) =>
  ∃ (x13 : Bool) (x14 : Int), e11 = .returned (.tuple ⟨[.bool x13, .int .i64 x14]⟩) ∧ (br x13 (al w12 3 [.int .i64 h_7] fun p15 w16 =>
  app Tryz.prog [30, 30] 30 (.slice out_6 out_6n out_6c) (.slice (some p15) 1 1) w16 fun a17 a17n a17c w18 =>
  ∃ m19 : Nat, m19 < m9 ∧ I5 a17 a17n a17c (IntKind.i64.wrap (h_7 + 1)) w18 m19) (∃ m20 : Nat, m20 < m9 ∧ I5 out_6 out_6n out_6c (IntKind.i64.wrap (h_7 + 1)) w12 m20))) (R (.returned (.tuple ⟨[.slice out_6 out_6n out_6c, .int .i64 0]⟩)) w8))))
set_option maxRecDepth 100000 in
theorem e_ref11_Hands (l_1 : Option Addr) (l_1n : Nat) (l_1c : Nat) (R : Ending → World → Prop) (w : World) : fnV Tryz.prog Tryz.f11 an_ref11_Hands [.slice l_1 l_1n l_1c] R w = sh_ref11_Hands l_1 l_1n l_1c R w := by kernel_rfl
theorem c_ref11_Hands {l_1 : Option Addr} {l_1n : Nat} {l_1c : Nat} {R : Ending → World → Prop} {w : World} (h : sh_ref11_Hands l_1 l_1n l_1c R w) : Calls Tryz.prog F_ref11_Hands ⟨[.slice l_1 l_1n l_1c]⟩ w R := calls_of_fnV Tryz.func11 (by rw [e_ref11_Hands]; exact h)

def an_hands_Touches : Ann := .two (.leaf) (.two (.two (.leaf) (.two (.leaf) (.two (.two (.leaf) (.leaf)) (.leaf)))) (.two (.leaf) (.leaf)))
def sh_hands_Touches (l_1 : Option Addr) (l_1n : Nat) (l_1c : Nat) (hand_2 : Int) (R : Ending → World → Prop) (w : World) : Prop :=
  Calls Tryz.prog 30 ⟨[.slice l_1 l_1n l_1c, .int .i64 hand_2]⟩ w fun (e3 : Ending) (w4 : World) =>
  ∃ (x5 : Int), e3 = .returned (.int .i64 x5) ∧ (br (decide ((x5 : Int) ≠ 0)) (R (.returned (.tuple ⟨[.bool false, .int .i64 x5]⟩)) w4) (Calls Tryz.prog 29 ⟨[.slice l_1 l_1n l_1c, .int .i64 hand_2]⟩ w4 fun (e6 : Ending) (w7 : World) =>
  ∃ (x8 : Bool), e6 = .returned (.bool x8) ∧ (R (.returned (.tuple ⟨[.bool x8, .int .i64 0]⟩)) w7)))
set_option maxRecDepth 100000 in
theorem e_hands_Touches (l_1 : Option Addr) (l_1n : Nat) (l_1c : Nat) (hand_2 : Int) (R : Ending → World → Prop) (w : World) : fnV Tryz.prog Tryz.f12 an_hands_Touches [.slice l_1 l_1n l_1c, .int .i64 hand_2] R w = sh_hands_Touches l_1 l_1n l_1c hand_2 R w := by kernel_rfl
theorem c_hands_Touches {l_1 : Option Addr} {l_1n : Nat} {l_1c : Nat} {hand_2 : Int} {R : Ending → World → Prop} {w : World} (h : sh_hands_Touches l_1 l_1n l_1c hand_2 R w) : Calls Tryz.prog F_hands_Touches ⟨[.slice l_1 l_1n l_1c, .int .i64 hand_2]⟩ w R := calls_of_fnV Tryz.func12 (by rw [e_hands_Touches]; exact h)

def an_ref11_Touches : Ann := .two (.leaf) (.two (.two (.leaf) (.two (.leaf) (.two (.two (.leaf) (.leaf)) (.leaf)))) (.two (.leaf) (.two (.leaf) (.two (.leaf) (.leaf)))))
def sh_ref11_Touches (l_1 : Option Addr) (l_1n : Nat) (l_1c : Nat) (hand_2 : Int) (R : Ending → World → Prop) (w : World) : Prop :=
  Calls Tryz.prog 31 ⟨[.slice l_1 l_1n l_1c, .int .i64 hand_2, .int .i64 1]⟩ w fun (e3 : Ending) (w4 : World) =>
  ∃ (x5 : Int), e3 = .returned (.int .i64 x5) ∧ (br (decide ((x5 : Int) ≠ 0)) (R (.returned (.tuple ⟨[.bool false, .int .i64 x5]⟩)) w4) (Calls Tryz.prog 32 ⟨[.slice l_1 l_1n l_1c, .int .i64 (IntKind.i64.wrap (hand_2 - 1))]⟩ w4 fun (e6 : Ending) (w7 : World) =>
  ∃ (x8 : Option Addr) (x8n : Nat) (x8c : Nat) (x9 : Int), e6 = .returned (.tuple ⟨[.slice x8 x8n x8c, .int .i64 x9]⟩) ∧ (Calls Tryz.prog 32 ⟨[.slice l_1 l_1n l_1c, .int .i64 hand_2]⟩ w7 fun (e10 : Ending) (w11 : World) =>
  ∃ (x12 : Option Addr) (x12n : Nat) (x12c : Nat) (x13 : Int), e10 = .returned (.tuple ⟨[.slice x12 x12n x12c, .int .i64 x13]⟩) ∧ (Calls Tryz.prog 21 ⟨[.slice x8 x8n x8c, .slice x12 x12n x12c]⟩ w11 fun (e14 : Ending) (w15 : World) =>
  ∃ (x16 : Bool), e14 = .returned (.bool x16) ∧ (R (.returned (.tuple ⟨[.bool (!x16), .int .i64 0]⟩)) w15)))))
set_option maxRecDepth 100000 in
theorem e_ref11_Touches (l_1 : Option Addr) (l_1n : Nat) (l_1c : Nat) (hand_2 : Int) (R : Ending → World → Prop) (w : World) : fnV Tryz.prog Tryz.f13 an_ref11_Touches [.slice l_1 l_1n l_1c, .int .i64 hand_2] R w = sh_ref11_Touches l_1 l_1n l_1c hand_2 R w := by kernel_rfl
theorem c_ref11_Touches {l_1 : Option Addr} {l_1n : Nat} {l_1c : Nat} {hand_2 : Int} {R : Ending → World → Prop} {w : World} (h : sh_ref11_Touches l_1 l_1n l_1c hand_2 R w) : Calls Tryz.prog F_ref11_Touches ⟨[.slice l_1 l_1n l_1c, .int .i64 hand_2]⟩ w R := calls_of_fnV Tryz.func13 (by rw [e_ref11_Touches]; exact h)

def an_hands_Changes : Ann := .two (.leaf) (.two (.two (.leaf) (.two (.leaf) (.two (.two (.leaf) (.leaf)) (.leaf)))) (.two (.leaf) (.two (.two (.leaf) (.two (.two (.leaf) (.leaf)) (.leaf))) (.two (.leaf) (.two (.two (.leaf) (.two (.two (.leaf) (.leaf)) (.leaf))) (.two (.leaf) (.leaf)))))))
def sh_hands_Changes (l_1 : Option Addr) (l_1n : Nat) (l_1c : Nat) (hand_2 : Int) (R : Ending → World → Prop) (w : World) : Prop :=
  Calls Tryz.prog 30 ⟨[.slice l_1 l_1n l_1c, .int .i64 hand_2]⟩ w fun (e3 : Ending) (w4 : World) =>
  ∃ (x5 : Int), e3 = .returned (.int .i64 x5) ∧ (br (decide ((x5 : Int) ≠ 0)) (R (.returned (.tuple ⟨[.slice none 0 0, .int .i64 x5]⟩)) w4) (Calls Tryz.prog 34 ⟨[.slice l_1 l_1n l_1c, .int .i64 (IntKind.i64.wrap (hand_2 - 1))]⟩ w4 fun (e6 : Ending) (w7 : World) =>
  ∃ (x8 : Option Addr) (x8n : Nat) (x8c : Nat), e6 = .returned (.slice x8 x8n x8c) ∧ (Calls Tryz.prog 33 ⟨[.slice x8 x8n x8c]⟩ w7 fun (e9 : Ending) (w10 : World) =>
  ∃ (x11 : List UInt8) (x12 : Int), e9 = .returned (.tuple ⟨[.string ⟨⟨x11⟩⟩, .int .i64 x12]⟩) ∧ (br (decide ((x12 : Int) ≠ 0)) (R (.returned (.tuple ⟨[.slice none 0 0, .int .i64 x12]⟩)) w10) (Calls Tryz.prog 34 ⟨[.slice l_1 l_1n l_1c, .int .i64 hand_2]⟩ w10 fun (e13 : Ending) (w14 : World) =>
  ∃ (x15 : Option Addr) (x15n : Nat) (x15c : Nat), e13 = .returned (.slice x15 x15n x15c) ∧ (Calls Tryz.prog 33 ⟨[.slice x15 x15n x15c]⟩ w14 fun (e16 : Ending) (w17 : World) =>
  ∃ (x18 : List UInt8) (x19 : Int), e16 = .returned (.tuple ⟨[.string ⟨⟨x18⟩⟩, .int .i64 x19]⟩) ∧ (br (decide ((x19 : Int) ≠ 0)) (R (.returned (.tuple ⟨[.slice none 0 0, .int .i64 x19]⟩)) w17) (Calls Tryz.prog 35 ⟨[.string ⟨⟨x11⟩⟩, .string ⟨⟨x18⟩⟩]⟩ w17 fun (e20 : Ending) (w21 : World) =>
  ∃ (x22 : Option Addr) (x22n : Nat) (x22c : Nat) (x23 : Int), e20 = .returned (.tuple ⟨[.slice x22 x22n x22c, .int .i64 x23]⟩) ∧ (R (.returned (.tuple ⟨[.slice x22 x22n x22c, .int .i64 x23]⟩)) w21)))))))))
set_option maxRecDepth 100000 in
theorem e_hands_Changes (l_1 : Option Addr) (l_1n : Nat) (l_1c : Nat) (hand_2 : Int) (R : Ending → World → Prop) (w : World) : fnV Tryz.prog Tryz.f14 an_hands_Changes [.slice l_1 l_1n l_1c, .int .i64 hand_2] R w = sh_hands_Changes l_1 l_1n l_1c hand_2 R w := by kernel_rfl
theorem c_hands_Changes {l_1 : Option Addr} {l_1n : Nat} {l_1c : Nat} {hand_2 : Int} {R : Ending → World → Prop} {w : World} (h : sh_hands_Changes l_1 l_1n l_1c hand_2 R w) : Calls Tryz.prog F_hands_Changes ⟨[.slice l_1 l_1n l_1c, .int .i64 hand_2]⟩ w R := calls_of_fnV Tryz.func14 (by rw [e_hands_Changes]; exact h)

def an_ref11_Changes : Ann := .two (.leaf) (.two (.two (.leaf) (.two (.leaf) (.two (.two (.leaf) (.leaf)) (.leaf)))) (.two (.leaf) (.two (.leaf) (.two (.leaf) (.two (.two (.leaf) (.two (.two (.leaf) (.leaf)) (.leaf))) (.two (.leaf) (.two (.two (.leaf) (.two (.two (.leaf) (.leaf)) (.leaf))) (.two (.leaf) (.leaf)))))))))
def sh_ref11_Changes (l_1 : Option Addr) (l_1n : Nat) (l_1c : Nat) (hand_2 : Int) (R : Ending → World → Prop) (w : World) : Prop :=
  Calls Tryz.prog 31 ⟨[.slice l_1 l_1n l_1c, .int .i64 hand_2, .int .i64 1]⟩ w fun (e3 : Ending) (w4 : World) =>
  ∃ (x5 : Int), e3 = .returned (.int .i64 x5) ∧ (br (decide ((x5 : Int) ≠ 0)) (R (.returned (.tuple ⟨[.slice none 0 0, .int .i64 x5]⟩)) w4) (Calls Tryz.prog 32 ⟨[.slice l_1 l_1n l_1c, .int .i64 (IntKind.i64.wrap (hand_2 - 1))]⟩ w4 fun (e6 : Ending) (w7 : World) =>
  ∃ (x8 : Option Addr) (x8n : Nat) (x8c : Nat) (x9 : Int), e6 = .returned (.tuple ⟨[.slice x8 x8n x8c, .int .i64 x9]⟩) ∧ (Calls Tryz.prog 32 ⟨[.slice l_1 l_1n l_1c, .int .i64 hand_2]⟩ w7 fun (e10 : Ending) (w11 : World) =>
  ∃ (x12 : Option Addr) (x12n : Nat) (x12c : Nat) (x13 : Int), e10 = .returned (.tuple ⟨[.slice x12 x12n x12c, .int .i64 x13]⟩) ∧ (Calls Tryz.prog 36 ⟨[.slice x8 x8n x8c]⟩ w11 fun (e14 : Ending) (w15 : World) =>
  ∃ (x16 : List UInt8) (x17 : Int), e14 = .returned (.tuple ⟨[.string ⟨⟨x16⟩⟩, .int .i64 x17]⟩) ∧ (br (decide ((x17 : Int) ≠ 0)) (R (.returned (.tuple ⟨[.slice none 0 0, .int .i64 x17]⟩)) w15) (Calls Tryz.prog 36 ⟨[.slice x12 x12n x12c]⟩ w15 fun (e18 : Ending) (w19 : World) =>
  ∃ (x20 : List UInt8) (x21 : Int), e18 = .returned (.tuple ⟨[.string ⟨⟨x20⟩⟩, .int .i64 x21]⟩) ∧ (br (decide ((x21 : Int) ≠ 0)) (R (.returned (.tuple ⟨[.slice none 0 0, .int .i64 x21]⟩)) w19) (Calls Tryz.prog 37 ⟨[.string ⟨⟨x16⟩⟩, .string ⟨⟨x20⟩⟩]⟩ w19 fun (e22 : Ending) (w23 : World) =>
  ∃ (x24 : Option Addr) (x24n : Nat) (x24c : Nat) (x25 : Int), e22 = .returned (.tuple ⟨[.slice x24 x24n x24c, .int .i64 x25]⟩) ∧ (R (.returned (.tuple ⟨[.slice x24 x24n x24c, .int .i64 x25]⟩)) w23)))))))))
set_option maxRecDepth 100000 in
theorem e_ref11_Changes (l_1 : Option Addr) (l_1n : Nat) (l_1c : Nat) (hand_2 : Int) (R : Ending → World → Prop) (w : World) : fnV Tryz.prog Tryz.f15 an_ref11_Changes [.slice l_1 l_1n l_1c, .int .i64 hand_2] R w = sh_ref11_Changes l_1 l_1n l_1c hand_2 R w := by kernel_rfl
theorem c_ref11_Changes {l_1 : Option Addr} {l_1n : Nat} {l_1c : Nat} {hand_2 : Int} {R : Ending → World → Prop} {w : World} (h : sh_ref11_Changes l_1 l_1n l_1c hand_2 R w) : Calls Tryz.prog F_ref11_Changes ⟨[.slice l_1 l_1n l_1c, .int .i64 hand_2]⟩ w R := calls_of_fnV Tryz.func15 (by rw [e_ref11_Changes]; exact h)

def an_slices_Equal_of_int_int : Ann := .two (.leaf) (.two (.two (.leaf) (.two (.two (.leaf) (.leaf)) (.leaf))) (.two (.two (.leaf) (.one (.loop 67100720 [(13, .one (.int .i64))] (.two (.leaf) (.two (.two (.leaf) (.leaf)) (.two (.one (.two (.leaf) (.two (.leaf) (.two (.two (.leaf) (.leaf)) (.leaf))))) (.leaf))))))) (.two (.leaf) (.leaf))))
def sh_slices_Equal_of_int_int (s1_1 : Option Addr) (s1_1n : Nat) (s1_1c : Nat) (s2_2 : Option Addr) (s2_2n : Nat) (s2_2c : Nat) (R : Ending → World → Prop) (w : World) : Prop :=
  br (decide ((((s1_1n : Int)) : Int) ≠ ((s2_2n : Int)))) (R (.returned (.bool false)) w) (∃ (I3 : Int → World → Nat → Prop), (∃ m7 : Nat, I3 0 w m7) ∧ ∀ (t13_4 : Int) (w5 : World) (m6 : Nat), I3 t13_4 w5 m6 → ∀ _ : Env, (br (decide ((t13_4 : Int) < ((s1_1n : Int)))) (drw w5 fun w8 =>
  idx s1_1 s1_1n t13_4 1 fun p9 =>
  ∃ (x10 : Int), World.cell? w8 p9 = some (.int .i64 x10) ∧ (idx s2_2 s2_2n t13_4 1 fun p11 =>
  ∃ (x12 : Int), World.cell? w8 p11 = some (.int .i64 x12) ∧ (br (decide ((x10 : Int) ≠ x12)) (R (.returned (.bool false)) w8) (∃ m13 : Nat, m13 < m6 ∧ I3 (IntKind.i64.wrap (t13_4 + 1)) w8 m13)))) (R (.returned (.bool true)) w5)))
set_option maxRecDepth 100000 in
theorem e_slices_Equal_of_int_int (s1_1 : Option Addr) (s1_1n : Nat) (s1_1c : Nat) (s2_2 : Option Addr) (s2_2n : Nat) (s2_2c : Nat) (R : Ending → World → Prop) (w : World) : fnV Tryz.prog Tryz.f16 an_slices_Equal_of_int_int [.slice s1_1 s1_1n s1_1c, .slice s2_2 s2_2n s2_2c] R w = sh_slices_Equal_of_int_int s1_1 s1_1n s1_1c s2_2 s2_2n s2_2c R w := by kernel_rfl
theorem c_slices_Equal_of_int_int {s1_1 : Option Addr} {s1_1n : Nat} {s1_1c : Nat} {s2_2 : Option Addr} {s2_2n : Nat} {s2_2c : Nat} {R : Ending → World → Prop} {w : World} (h : sh_slices_Equal_of_int_int s1_1 s1_1n s1_1c s2_2 s2_2n s2_2c R w) : Calls Tryz.prog F_slices_Equal_of_int_int ⟨[.slice s1_1 s1_1n s1_1c, .slice s2_2 s2_2n s2_2c]⟩ w R := calls_of_fnV Tryz.func16 (by rw [e_slices_Equal_of_int_int]; exact h)

def an_ref03_SameEdits : Ann := .two (.leaf) (.two (.two (.leaf) (.two (.two (.leaf) (.leaf)) (.leaf))) (.two (.two (.leaf) (.one (.loop 67106864 [(5, .one (.int .i64))] (.two (.two (.leaf) (.two (.leaf) (.leaf))) (.two (.one (.two (.leaf) (.two (.two (.leaf) (.leaf)) (.leaf)))) (.leaf)))))) (.two (.leaf) (.leaf))))
def sh_ref03_SameEdits (a_1 : Option Addr) (a_1n : Nat) (a_1c : Nat) (b_2 : Option Addr) (b_2n : Nat) (b_2c : Nat) (R : Ending → World → Prop) (w : World) : Prop :=
  br (decide ((((a_1n : Int)) : Int) ≠ ((b_2n : Int)))) (R (.returned (.bool false)) w) (∃ (I3 : Int → World → Nat → Prop), (∃ m7 : Nat, I3 0 w m7) ∧ ∀ (i_4 : Int) (w5 : World) (m6 : Nat), I3 i_4 w5 m6 → ∀ _ : Env, (br (decide ((i_4 : Int) < ((a_1n : Int)))) (drw w5 fun w8 =>
  idx a_1 a_1n i_4 3 fun p9 =>
  ∃ (x10 : Int), World.cell? w8 (p9.add 0) = some (.int .i64 x10) ∧ (∃ (x11 : Int), World.cell? w8 (p9.add 1) = some (.int .i64 x11) ∧ (∃ (x12 : List UInt8), World.cell? w8 (p9.add 2) = some (.string ⟨⟨x12⟩⟩) ∧ (idx b_2 b_2n i_4 3 fun p13 =>
  ∃ (x14 : Int), World.cell? w8 (p13.add 0) = some (.int .i64 x14) ∧ (∃ (x15 : Int), World.cell? w8 (p13.add 1) = some (.int .i64 x15) ∧ (∃ (x16 : List UInt8), World.cell? w8 (p13.add 2) = some (.string ⟨⟨x16⟩⟩) ∧ (br (!(decide ((x10 : Int) = x14) && (decide ((x11 : Int) = x15) && (decide ((x12 : List UInt8) = x16) && true)))) (R (.returned (.bool false)) w8) (∃ m17 : Nat, m17 < m6 ∧ I3 (IntKind.i64.wrap (i_4 + 1)) w8 m17)))))))) (R (.returned (.bool true)) w5)))
set_option maxRecDepth 100000 in
theorem e_ref03_SameEdits (a_1 : Option Addr) (a_1n : Nat) (a_1c : Nat) (b_2 : Option Addr) (b_2n : Nat) (b_2c : Nat) (R : Ending → World → Prop) (w : World) : fnV Tryz.prog Tryz.f17 an_ref03_SameEdits [.slice a_1 a_1n a_1c, .slice b_2 b_2n b_2c] R w = sh_ref03_SameEdits a_1 a_1n a_1c b_2 b_2n b_2c R w := by kernel_rfl
theorem c_ref03_SameEdits {a_1 : Option Addr} {a_1n : Nat} {a_1c : Nat} {b_2 : Option Addr} {b_2n : Nat} {b_2c : Nat} {R : Ending → World → Prop} {w : World} (h : sh_ref03_SameEdits a_1 a_1n a_1c b_2 b_2n b_2c R w) : Calls Tryz.prog F_ref03_SameEdits ⟨[.slice a_1 a_1n a_1c, .slice b_2 b_2n b_2c]⟩ w R := calls_of_fnV Tryz.func17 (by rw [e_ref03_SameEdits]; exact h)

def an_ref11_size : Ann := .two (.leaf) (.two (.two (.leaf) (.two (.two (.leaf) (.leaf)) (.leaf))) (.two (.two (.leaf) (.one (.loop 4503599627241412 [(2, .one (.int .i64)), (8, .one (.int .i64))] (.two (.two (.leaf) (.two (.leaf) (.leaf))) (.two (.one (.two (.leaf) (.cut 137405399232 [] (.two (.leaf) (.two (.two (.leaf) (.leaf)) (.leaf))) (.two (.leaf) (.two (.two (.leaf) (.two (.two (.leaf) (.leaf)) (.leaf))) (.leaf)))))) (.leaf)))))) (.two (.leaf) (.leaf))))
def sh_ref11_size (l_1 : Option Addr) (l_1n : Nat) (l_1c : Nat) (depth_2 : Int) (n_3 : Int) (R : Ending → World → Prop) (w : World) : Prop :=
  br (decide ((6 : Int) < depth_2)) (R (.returned (.tuple ⟨[.int .i64 n_3, .bool (decide ((0 : Int) < ((l_1n : Int))))]⟩)) w) (∃ (I4 : Int → Int → World → Nat → Prop), (∃ m9 : Nat, I4 n_3 0 w m9) ∧ ∀ (n_5 : Int) (i_6 : Int) (w7 : World) (m8 : Nat), I4 n_5 i_6 w7 m8 → ∀ _ : Env, (br (decide ((i_6 : Int) < ((l_1n : Int)))) (∀ (K10 : World → Prop), (∀  (w11 : World), (∀ _ : Env, (idx l_1 l_1n i_6 4 fun p12 =>
  ∃ (x13 : Option Addr) (x13n : Nat) (x13c : Nat), World.cell? w11 (p12.add 3) = some (.slice x13 x13n x13c) ∧ (Calls Tryz.prog 18 ⟨[.slice x13 x13n x13c, .int .i64 (IntKind.i64.wrap (depth_2 + 1)), .int .i64 (IntKind.i64.wrap (n_5 + 1))]⟩ w11 fun (e14 : Ending) (w15 : World) =>
  ∃ (x16 : Int) (x17 : Bool), e14 = .returned (.tuple ⟨[.int .i64 x16, .bool x17]⟩) ∧ (br x17 (R (.returned (.tuple ⟨[.int .i64 x16, .bool true]⟩)) w15) (∃ m18 : Nat, m18 < m8 ∧ I4 x16 (IntKind.i64.wrap (i_6 + 1)) w15 m18))))) → K10 w11) → (br (decide ((100 : Int) < (IntKind.i64.wrap (n_5 + 1)))) (R (.returned (.tuple ⟨[.int .i64 (IntKind.i64.wrap (n_5 + 1)), .bool true]⟩)) w7) (idx l_1 l_1n i_6 4 fun p19 =>
  ∃ (x20 : List UInt8), World.cell? w7 (p19.add 1) = some (.string ⟨⟨x20⟩⟩) ∧ (br (decide ((8 : Int) < ((List.length x20 : Int)))) (R (.returned (.tuple ⟨[.int .i64 (IntKind.i64.wrap (n_5 + 1)), .bool true]⟩)) w7) (K10 w7))))) (R (.returned (.tuple ⟨[.int .i64 n_5, .bool false]⟩)) w7)))
set_option maxRecDepth 100000 in
theorem e_ref11_size (l_1 : Option Addr) (l_1n : Nat) (l_1c : Nat) (depth_2 : Int) (n_3 : Int) (R : Ending → World → Prop) (w : World) : fnV Tryz.prog Tryz.f18 an_ref11_size [.slice l_1 l_1n l_1c, .int .i64 depth_2, .int .i64 n_3] R w = sh_ref11_size l_1 l_1n l_1c depth_2 n_3 R w := by kernel_rfl
theorem c_ref11_size {l_1 : Option Addr} {l_1n : Nat} {l_1c : Nat} {depth_2 : Int} {n_3 : Int} {R : Ending → World → Prop} {w : World} (h : sh_ref11_size l_1 l_1n l_1c depth_2 n_3 R w) : Calls Tryz.prog F_ref11_size ⟨[.slice l_1 l_1n l_1c, .int .i64 depth_2, .int .i64 n_3]⟩ w R := calls_of_fnV Tryz.func18 (by rw [e_ref11_size]; exact h)

def an_law11_text : Ann := .two (.leaf) (.two (.leaf) (.leaf))
def sh_law11_text (s_1 : List UInt8) (R : Ending → World → Prop) (w : World) : Prop :=
  al w 42 [.int .i64 0, .string ⟨⟨[]⟩⟩, .int .i64 0, .slice none 0 0] fun p2 w3 =>
  stL w3 p2 0 [.int .i64 1, .string ⟨⟨s_1⟩⟩, .int .i64 0, .slice none 0 0] fun w4 =>
  ∃ (x5 : Int), World.cell? w4 (p2.add 0) = some (.int .i64 x5) ∧ (∃ (x6 : List UInt8), World.cell? w4 (p2.add 1) = some (.string ⟨⟨x6⟩⟩) ∧ (∃ (x7 : Int), World.cell? w4 (p2.add 2) = some (.int .i64 x7) ∧ (∃ (x8 : Option Addr) (x8n : Nat) (x8c : Nat), World.cell? w4 (p2.add 3) = some (.slice x8 x8n x8c) ∧ (R (.returned (.agg ⟨[.int .i64 x5, .string ⟨⟨x6⟩⟩, .int .i64 x7, .slice x8 x8n x8c]⟩)) w4))))
set_option maxRecDepth 100000 in
theorem e_law11_text (s_1 : List UInt8) (R : Ending → World → Prop) (w : World) : fnV Tryz.prog Tryz.f19 an_law11_text [.string ⟨⟨s_1⟩⟩] R w = sh_law11_text s_1 R w := by kernel_rfl
theorem c_law11_text {s_1 : List UInt8} {R : Ending → World → Prop} {w : World} (h : sh_law11_text s_1 R w) : Calls Tryz.prog F_law11_text ⟨[.string ⟨⟨s_1⟩⟩]⟩ w R := calls_of_fnV Tryz.func19 (by rw [e_law11_text]; exact h)

def an_hands_State : Ann := .two (.leaf) (.two (.two (.leaf) (.two (.two (.leaf) (.leaf)) (.leaf))) (.cut 32304 [] (.two (.leaf) (.two (.two (.leaf) (.leaf)) (.leaf))) (.two (.leaf) (.leaf))))
def sh_hands_State (l_1 : Option Addr) (l_1n : Nat) (l_1c : Nat) (hand_2 : Int) (R : Ending → World → Prop) (w : World) : Prop :=
  Calls Tryz.prog 22 ⟨[.slice l_1 l_1n l_1c]⟩ w fun (e3 : Ending) (w4 : World) =>
  ∃ (x5 : Int), e3 = .returned (.int .i64 x5) ∧ (br (decide ((x5 : Int) ≠ 0)) (R (.returned (.tuple ⟨[.slice none 0 0, .int .i64 1]⟩)) w4) (∀ (K6 : World → Prop), (∀  (w7 : World), (∀ _ : Env, (Calls Tryz.prog 34 ⟨[.slice l_1 l_1n l_1c, .int .i64 hand_2]⟩ w7 fun (e8 : Ending) (w9 : World) =>
  ∃ (x10 : Option Addr) (x10n : Nat) (x10c : Nat), e8 = .returned (.slice x10 x10n x10c) ∧ (R (.returned (.tuple ⟨[.slice x10 x10n x10c, .int .i64 0]⟩)) w9))) → K6 w7) → (br (decide ((hand_2 : Int) < 0)) (R (.returned (.tuple ⟨[.slice none 0 0, .int .i64 13]⟩)) w4) (br (decide ((8 : Int) < hand_2)) (R (.returned (.tuple ⟨[.slice none 0 0, .int .i64 13]⟩)) w4) (K6 w4)))))
set_option maxRecDepth 100000 in
theorem e_hands_State (l_1 : Option Addr) (l_1n : Nat) (l_1c : Nat) (hand_2 : Int) (R : Ending → World → Prop) (w : World) : fnV Tryz.prog Tryz.f20 an_hands_State [.slice l_1 l_1n l_1c, .int .i64 hand_2] R w = sh_hands_State l_1 l_1n l_1c hand_2 R w := by kernel_rfl
theorem c_hands_State {l_1 : Option Addr} {l_1n : Nat} {l_1c : Nat} {hand_2 : Int} {R : Ending → World → Prop} {w : World} (h : sh_hands_State l_1 l_1n l_1c hand_2 R w) : Calls Tryz.prog F_hands_State ⟨[.slice l_1 l_1n l_1c, .int .i64 hand_2]⟩ w R := calls_of_fnV Tryz.func20 (by rw [e_hands_State]; exact h)

def an_ref10_Same : Ann := .two (.leaf) (.two (.two (.leaf) (.two (.two (.leaf) (.leaf)) (.leaf))) (.two (.two (.leaf) (.one (.loop 295147905179352823856 [(5, .one (.int .i64))] (.two (.two (.leaf) (.two (.leaf) (.leaf))) (.two (.one (.two (.leaf) (.two (.two (.leaf) (.leaf)) (.leaf)))) (.leaf)))))) (.two (.leaf) (.leaf))))
def sh_ref10_Same (a_1 : Option Addr) (a_1n : Nat) (a_1c : Nat) (b_2 : Option Addr) (b_2n : Nat) (b_2c : Nat) (R : Ending → World → Prop) (w : World) : Prop :=
  br (decide ((((a_1n : Int)) : Int) ≠ ((b_2n : Int)))) (R (.returned (.bool false)) w) (∃ (I3 : Int → World → Nat → Prop), (∃ m7 : Nat, I3 0 w m7) ∧ ∀ (i_4 : Int) (w5 : World) (m6 : Nat), I3 i_4 w5 m6 → ∀ _ : Env, (br (decide ((i_4 : Int) < ((a_1n : Int)))) (drw w5 fun w8 =>
  idx a_1 a_1n i_4 4 fun p9 =>
  ∃ (x10 : Int), World.cell? w8 (p9.add 0) = some (.int .i64 x10) ∧ (idx b_2 b_2n i_4 4 fun p11 =>
  ∃ (x12 : Int), World.cell? w8 (p11.add 0) = some (.int .i64 x12) ∧ (br (decide ((x10 : Int) ≠ x12)) ((R (.returned (.bool false)) w8) ∧ True) (idx a_1 a_1n i_4 4 fun p13 =>
  ∃ (x14 : List UInt8), World.cell? w8 (p13.add 1) = some (.string ⟨⟨x14⟩⟩) ∧ (idx b_2 b_2n i_4 4 fun p15 =>
  ∃ (x16 : List UInt8), World.cell? w8 (p15.add 1) = some (.string ⟨⟨x16⟩⟩) ∧ (br (decide ((x14 : List UInt8) ≠ x16)) ((R (.returned (.bool false)) w8) ∧ True) (idx a_1 a_1n i_4 4 fun p17 =>
  ∃ (x18 : Int), World.cell? w8 (p17.add 2) = some (.int .i64 x18) ∧ (idx b_2 b_2n i_4 4 fun p19 =>
  ∃ (x20 : Int), World.cell? w8 (p19.add 2) = some (.int .i64 x20) ∧ (br (decide ((x18 : Int) ≠ x20)) ((R (.returned (.bool false)) w8) ∧ True) (idx a_1 a_1n i_4 4 fun p21 =>
  ∃ (x22 : Option Addr) (x22n : Nat) (x22c : Nat), World.cell? w8 (p21.add 3) = some (.slice x22 x22n x22c) ∧ (idx b_2 b_2n i_4 4 fun p23 =>
  ∃ (x24 : Option Addr) (x24n : Nat) (x24c : Nat), World.cell? w8 (p23.add 3) = some (.slice x24 x24n x24c) ∧ ((Calls Tryz.prog 21 ⟨[.slice x22 x22n x22c, .slice x24 x24n x24c]⟩ w8 fun (e25 : Ending) (w26 : World) =>
  ∃ (x27 : Bool), e25 = .returned (.bool x27) ∧ (br (!x27) (R (.returned (.bool false)) w26) (∃ m28 : Nat, m28 < m6 ∧ I3 (IntKind.i64.wrap (i_4 + 1)) w26 m28))) ∧ True)))))))))))) (R (.returned (.bool true)) w5)))
set_option maxRecDepth 100000 in
theorem e_ref10_Same (a_1 : Option Addr) (a_1n : Nat) (a_1c : Nat) (b_2 : Option Addr) (b_2n : Nat) (b_2c : Nat) (R : Ending → World → Prop) (w : World) : fnV Tryz.prog Tryz.f21 an_ref10_Same [.slice a_1 a_1n a_1c, .slice b_2 b_2n b_2c] R w = sh_ref10_Same a_1 a_1n a_1c b_2 b_2n b_2c R w := by kernel_rfl
theorem c_ref10_Same {a_1 : Option Addr} {a_1n : Nat} {a_1c : Nat} {b_2 : Option Addr} {b_2n : Nat} {b_2c : Nat} {R : Ending → World → Prop} {w : World} (h : sh_ref10_Same a_1 a_1n a_1c b_2 b_2n b_2c R w) : Calls Tryz.prog F_ref10_Same ⟨[.slice a_1 a_1n a_1c, .slice b_2 b_2n b_2c]⟩ w R := calls_of_fnV Tryz.func21 (by rw [e_ref10_Same]; exact h)

def an_transcript_Check : Ann := .two (.leaf) (.two (.leaf) (.two (.leaf) (.two (.two (.leaf) (.one (.rf [0, 2, 4, 10] 0))) (.two (.two (.leaf) (.one (.rf [0, 2, 28] 0))) (.two (.two (.leaf) (.two (.two (.leaf) (.leaf)) (.leaf))) (.two (.leaf) (.leaf)))))))
def sh_transcript_Check (l_1 : Option Addr) (l_1n : Nat) (l_1c : Nat) (R : Ending → World → Prop) (w : World) : Prop :=
  al w 25 [.int .i64 0] fun p2 w3 =>
  al w3 3 [.int .i64 0] fun p4 w5 =>
  stL w5 p4 0 [.int .i64 4096] fun w6 =>
  al w6 24 [.nilFunc] fun p7 w8 =>
  stL w8 p7 0 [.func (.func 38) ⟨[]⟩ ⟨[.pointer (some p4)]⟩] fun w9 =>
  Calls Tryz.prog 39 ⟨[.slice l_1 l_1n l_1c]⟩ w9 fun (e10 : Ending) (w11 : World) =>
  ∃ (x12 : Fn) (x12a : Array Value) (x12b : Array Value), e10 = .returned (.func x12 x12a x12b) ∧ (∀ base13 : Env, RFw Tryz.prog none 39 (cdAt Tryz.f22 [1, 1, 1, 0, 1, 2]) (upd (upd (upd (upd base13 10 (.func x12 x12a x12b)) 4 (.pointer (some p7))) 2 (.pointer (some p2))) 0 (.slice l_1 l_1n l_1c)) [] w11 0 (fun ds14 w15 =>
  Calls Tryz.prog 39 ⟨[.slice l_1 l_1n l_1c]⟩ w15 fun (e33 : Ending) (w34 : World) =>
  ∃ (x35 : Fn) (x35a : Array Value) (x35b : Array Value), e33 = .returned (.func x35 x35a x35b) ∧ (∀ base36 : Env, RFw Tryz.prog none 39 (cdAt Tryz.f22 [1, 1, 1, 1, 0, 1, 2]) (upd (upd (upd base36 28 (.func x35 x35a x35b)) 2 (.pointer (some p2))) 0 (.slice l_1 l_1n l_1c)) ds14 w34 0 (fun ds37 w38 =>
  Calls Tryz.prog 41 ⟨[.slice l_1 l_1n l_1c]⟩ w38 fun (e39 : Ending) (w40 : World) =>
  ∃ (x41 : List UInt8), e39 = .returned (.string ⟨⟨x41⟩⟩) ∧ (br (decide ((65536 : Int) < ((List.length x41 : Int)))) (stL w40 p2 0 [.int .i64 4] fun w42 =>
  retD ds37 w42 fun w43 =>
  ∃ (x44 : Int), World.cell? w43 p2 = some (.int .i64 x44) ∧ (R (.returned (.int .i64 x44)) w43)) (stL w40 p2 0 [.int .i64 0] fun w45 =>
  retD ds37 w45 fun w46 =>
  ∃ (x47 : Int), World.cell? w46 p2 = some (.int .i64 x47) ∧ (R (.returned (.int .i64 x47)) w46)))) (fun ds37 w38 =>
  retD ds37 w38 fun w48 =>
  ∃ (x49 : Int), World.cell? w48 p2 = some (.int .i64 x49) ∧ (R (.returned (.int .i64 x49)) w48)) (fun ds37 w38 =>
  False))) (fun ds14 w15 =>
  retD ds14 w15 fun w50 =>
  ∃ (x51 : Int), World.cell? w50 p2 = some (.int .i64 x51) ∧ (R (.returned (.int .i64 x51)) w50)) (fun ds14 w15 =>
  Calls Tryz.prog 39 ⟨[.slice l_1 l_1n l_1c]⟩ w15 fun (e16 : Ending) (w17 : World) =>
  ∃ (x18 : Fn) (x18a : Array Value) (x18b : Array Value), e16 = .returned (.func x18 x18a x18b) ∧ (∀ base19 : Env, RFw Tryz.prog none 39 (cdAt Tryz.f22 [1, 1, 1, 1, 0, 1, 2]) (upd (upd (upd base19 28 (.func x18 x18a x18b)) 2 (.pointer (some p2))) 0 (.slice l_1 l_1n l_1c)) ds14 w17 0 (fun ds20 w21 =>
  Calls Tryz.prog 41 ⟨[.slice l_1 l_1n l_1c]⟩ w21 fun (e22 : Ending) (w23 : World) =>
  ∃ (x24 : List UInt8), e22 = .returned (.string ⟨⟨x24⟩⟩) ∧ (br (decide ((65536 : Int) < ((List.length x24 : Int)))) (stL w23 p2 0 [.int .i64 4] fun w25 =>
  retD ds20 w25 fun w26 =>
  ∃ (x27 : Int), World.cell? w26 p2 = some (.int .i64 x27) ∧ (R (.returned (.int .i64 x27)) w26)) (stL w23 p2 0 [.int .i64 0] fun w28 =>
  retD ds20 w28 fun w29 =>
  ∃ (x30 : Int), World.cell? w29 p2 = some (.int .i64 x30) ∧ (R (.returned (.int .i64 x30)) w29)))) (fun ds20 w21 =>
  retD ds20 w21 fun w31 =>
  ∃ (x32 : Int), World.cell? w31 p2 = some (.int .i64 x32) ∧ (R (.returned (.int .i64 x32)) w31)) (fun ds20 w21 =>
  False))))
set_option maxRecDepth 100000 in
theorem e_transcript_Check (l_1 : Option Addr) (l_1n : Nat) (l_1c : Nat) (R : Ending → World → Prop) (w : World) : fnV Tryz.prog Tryz.f22 an_transcript_Check [.slice l_1 l_1n l_1c] R w = sh_transcript_Check l_1 l_1n l_1c R w := by kernel_rfl
theorem c_transcript_Check {l_1 : Option Addr} {l_1n : Nat} {l_1c : Nat} {R : Ending → World → Prop} {w : World} (h : sh_transcript_Check l_1 l_1n l_1c R w) : Calls Tryz.prog F_transcript_Check ⟨[.slice l_1 l_1n l_1c]⟩ w R := calls_of_fnV Tryz.func22 (by rw [e_transcript_Check]; exact h)
def anA_transcript_Check_1 : Ann := .leaf
def anB_transcript_Check_1 : Ann := .one (.two (.leaf) (.two (.two (.leaf) (.leaf)) (.leaf)))
def rf_transcript_Check_1 (l_52 : Option Addr) (l_52n : Nat) (l_52c : Nat) (t2_53 : Option Addr) (spend_54 : Option Addr) (t10_55 : Fn) (t10_55a : Array Value) (t10_55b : Array Value) (t11_56 : Int) (t11_57 : List UInt8) (t11_58 : Int) (t11_59 : Option Addr) (t11_59n : Nat) (t11_59c : Nat) (t11_60 : Int) (t11_61 : Bool) (l : Nat) (Kn Kr Kx : World → World → Prop) (w : World) : Prop :=
  al w 67 [.int .i64 0, .string ⟨⟨[]⟩⟩, .int .i64 0, .slice none 0 0, .int .i64 0, .bool false] fun p63 w64 =>
  stL w64 p63 0 [.int .i64 t11_56, .string ⟨⟨t11_57⟩⟩, .int .i64 t11_58, .slice t11_59 t11_59n t11_59c, .int .i64 t11_60, .bool t11_61] fun w65 =>
  Ext w w65 ∧ ∀ w62 : World, Upd l w65 w62 → (dr spend_54 fun p66 =>
  ∃ (x67 : Fn) (x67a : Array Value) (x67b : Array Value), World.cell? w62 p66 = some (.func x67 x67a x67b) ∧ (CallV Tryz.prog (.func x67 x67a x67b) [] w62 fun (e68 : Ending) (w69 : World) =>
  ∃ (x70 : Bool), e68 = .returned (.bool x70) ∧ (br (!x70) (dr t2_53 fun p72 =>
  stL w69 p72 0 [.int .i64 4] fun w71 =>
  Kr w62 w71) (∃ (x73 : Int), World.cell? w69 (p63.add 4) = some (.int .i64 x73) ∧ (br (decide ((16 : Int) ≤ x73)) (∃ (x74 : Option Addr) (x74n : Nat) (x74c : Nat), World.cell? w69 ((p63.add 0).add 3) = some (.slice x74 x74n x74c) ∧ (br (decide ((0 : Int) < ((x74n : Int)))) (dr t2_53 fun p76 =>
  stL w69 p76 0 [.int .i64 4] fun w75 =>
  Kr w62 w75) (Kn w62 w69))) (Kn w62 w69))))))
set_option maxRecDepth 100000 in
theorem er_transcript_Check_1 (base : Env) (l_52 : Option Addr) (l_52n : Nat) (l_52c : Nat) (t2_53 : Option Addr) (spend_54 : Option Addr) (t10_55 : Fn) (t10_55a : Array Value) (t10_55b : Array Value) (t11_56 : Int) (t11_57 : List UInt8) (t11_58 : Int) (t11_59 : Option Addr) (t11_59n : Nat) (t11_59c : Nat) (t11_60 : Int) (t11_61 : Bool) (l : Nat) (Kn Kr Kx : World → World → Prop) (w : World) : fragV Tryz.prog 39 anA_transcript_Check_1 anB_transcript_Check_1 (cdAt Tryz.f22 [1, 1, 1, 0, 1, 2, 5]) (cdAt Tryz.f22 [1, 1, 1, 0, 1, 2, 6]) l 0 Kn Kr Kx (updPs [11] [.agg ⟨[.int .i64 t11_56, .string ⟨⟨t11_57⟩⟩, .int .i64 t11_58, .slice t11_59 t11_59n t11_59c, .int .i64 t11_60, .bool t11_61]⟩] (upd (upd (upd (upd base 10 (.func t10_55 t10_55a t10_55b)) 4 (.pointer spend_54)) 2 (.pointer t2_53)) 0 (.slice l_52 l_52n l_52c))) w = rf_transcript_Check_1 l_52 l_52n l_52c t2_53 spend_54 t10_55 t10_55a t10_55b t11_56 t11_57 t11_58 t11_59 t11_59n t11_59c t11_60 t11_61 l Kn Kr Kx w := by kernel_rfl
theorem cd_transcript_Check_1 : cdAt Tryz.f22 [1, 1, 1, 0, 1, 2] = .rangeFunc (Operand.tmp 10) #[11] (cdAt Tryz.f22 [1, 1, 1, 0, 1, 2, 5]) (cdAt Tryz.f22 [1, 1, 1, 0, 1, 2, 6]) := by kernel_rfl
def anA_transcript_Check_2 : Ann := .leaf
def anB_transcript_Check_2 : Ann := .one (.two (.leaf) (.two (.leaf) (.two (.two (.leaf) (.leaf)) (.leaf))))
def rf_transcript_Check_2 (l_77 : Option Addr) (l_77n : Nat) (l_77c : Nat) (t2_78 : Option Addr) (t28_79 : Fn) (t28_79a : Array Value) (t28_79b : Array Value) (t29_80 : Int) (t29_81 : List UInt8) (t29_82 : Int) (t29_83 : Option Addr) (t29_83n : Nat) (t29_83c : Nat) (t29_84 : Int) (t29_85 : Bool) (l : Nat) (Kn Kr Kx : World → World → Prop) (w : World) : Prop :=
  al w 67 [.int .i64 0, .string ⟨⟨[]⟩⟩, .int .i64 0, .slice none 0 0, .int .i64 0, .bool false] fun p87 w88 =>
  stL w88 p87 0 [.int .i64 t29_80, .string ⟨⟨t29_81⟩⟩, .int .i64 t29_82, .slice t29_83 t29_83n t29_83c, .int .i64 t29_84, .bool t29_85] fun w89 =>
  Ext w w89 ∧ ∀ w86 : World, Upd l w89 w86 → (∃ (x90 : Int), World.cell? w86 (p87.add 0) = some (.int .i64 x90) ∧ (∃ (x91 : List UInt8), World.cell? w86 (p87.add 1) = some (.string ⟨⟨x91⟩⟩) ∧ (∃ (x92 : Int), World.cell? w86 (p87.add 2) = some (.int .i64 x92) ∧ (∃ (x93 : Option Addr) (x93n : Nat) (x93c : Nat), World.cell? w86 (p87.add 3) = some (.slice x93 x93n x93c) ∧ (∃ (x94 : Int), World.cell? w86 (p87.add 4) = some (.int .i64 x94) ∧ (∃ (x95 : Bool), World.cell? w86 (p87.add 5) = some (.bool x95) ∧ (Calls Tryz.prog 40 ⟨[.agg ⟨[.int .i64 x90, .string ⟨⟨x91⟩⟩, .int .i64 x92, .slice x93 x93n x93c, .int .i64 x94, .bool x95]⟩]⟩ w86 fun (e96 : Ending) (w97 : World) =>
  ∃ (x98 : Int), e96 = .returned (.int .i64 x98) ∧ (br (decide ((x98 : Int) ≠ 0)) (dr t2_78 fun p100 =>
  stL w97 p100 0 [.int .i64 x98] fun w99 =>
  Kr w86 w99) (Kn w86 w97)))))))))
set_option maxRecDepth 100000 in
theorem er_transcript_Check_2 (base : Env) (l_77 : Option Addr) (l_77n : Nat) (l_77c : Nat) (t2_78 : Option Addr) (t28_79 : Fn) (t28_79a : Array Value) (t28_79b : Array Value) (t29_80 : Int) (t29_81 : List UInt8) (t29_82 : Int) (t29_83 : Option Addr) (t29_83n : Nat) (t29_83c : Nat) (t29_84 : Int) (t29_85 : Bool) (l : Nat) (Kn Kr Kx : World → World → Prop) (w : World) : fragV Tryz.prog 39 anA_transcript_Check_2 anB_transcript_Check_2 (cdAt Tryz.f22 [1, 1, 1, 1, 0, 1, 2, 5]) (cdAt Tryz.f22 [1, 1, 1, 1, 0, 1, 2, 6]) l 0 Kn Kr Kx (updPs [29] [.agg ⟨[.int .i64 t29_80, .string ⟨⟨t29_81⟩⟩, .int .i64 t29_82, .slice t29_83 t29_83n t29_83c, .int .i64 t29_84, .bool t29_85]⟩] (upd (upd (upd base 28 (.func t28_79 t28_79a t28_79b)) 2 (.pointer t2_78)) 0 (.slice l_77 l_77n l_77c))) w = rf_transcript_Check_2 l_77 l_77n l_77c t2_78 t28_79 t28_79a t28_79b t29_80 t29_81 t29_82 t29_83 t29_83n t29_83c t29_84 t29_85 l Kn Kr Kx w := by kernel_rfl
theorem cd_transcript_Check_2 : cdAt Tryz.f22 [1, 1, 1, 1, 0, 1, 2] = .rangeFunc (Operand.tmp 28) #[29] (cdAt Tryz.f22 [1, 1, 1, 1, 0, 1, 2, 5]) (cdAt Tryz.f22 [1, 1, 1, 1, 0, 1, 2, 6]) := by kernel_rfl

def an_hands_walk : Ann := .two (.leaf) (.two (.leaf) (.leaf))
def sh_hands_walk (l_1 : Option Addr) (l_1n : Nat) (l_1c : Nat) (R : Ending → World → Prop) (w : World) : Prop :=
  al w 22 [.slice l_1 l_1n l_1c] fun p2 w3 =>
  R (.returned (.func (.func 42) ⟨[]⟩ ⟨[.pointer (some p2)]⟩)) w3
set_option maxRecDepth 100000 in
theorem e_hands_walk (l_1 : Option Addr) (l_1n : Nat) (l_1c : Nat) (R : Ending → World → Prop) (w : World) : fnV Tryz.prog Tryz.f23 an_hands_walk [.slice l_1 l_1n l_1c] R w = sh_hands_walk l_1 l_1n l_1c R w := by kernel_rfl
theorem c_hands_walk {l_1 : Option Addr} {l_1n : Nat} {l_1c : Nat} {R : Ending → World → Prop} {w : World} (h : sh_hands_walk l_1 l_1n l_1c R w) : Calls Tryz.prog F_hands_walk ⟨[.slice l_1 l_1n l_1c]⟩ w R := calls_of_fnV Tryz.func23 (by rw [e_hands_walk]; exact h)

def an_hands_correction : Ann := .two (.leaf) (.two (.leaf) (.leaf))
def sh_hands_correction (x_1 : Int) (x_2 : List UInt8) (x_3 : Int) (x_4 : Option Addr) (x_4n : Nat) (x_4c : Nat) (R : Ending → World → Prop) (w : World) : Prop :=
  al w 42 [.int .i64 x_1, .string ⟨⟨x_2⟩⟩, .int .i64 x_3, .slice x_4 x_4n x_4c] fun p5 w6 =>
  ∃ (x7 : Int), World.cell? w6 (p5.add 0) = some (.int .i64 x7) ∧ (br (decide ((x7 : Int) = 8)) (R (.returned (.bool true)) w6) (∃ (x8 : Int), World.cell? w6 (p5.add 0) = some (.int .i64 x8) ∧ (R (.returned (.bool (decide ((x8 : Int) = 9)))) w6)))
set_option maxRecDepth 100000 in
theorem e_hands_correction (x_1 : Int) (x_2 : List UInt8) (x_3 : Int) (x_4 : Option Addr) (x_4n : Nat) (x_4c : Nat) (R : Ending → World → Prop) (w : World) : fnV Tryz.prog Tryz.f24 an_hands_correction [.agg ⟨[.int .i64 x_1, .string ⟨⟨x_2⟩⟩, .int .i64 x_3, .slice x_4 x_4n x_4c]⟩] R w = sh_hands_correction x_1 x_2 x_3 x_4 x_4n x_4c R w := by kernel_rfl
theorem c_hands_correction {x_1 : Int} {x_2 : List UInt8} {x_3 : Int} {x_4 : Option Addr} {x_4n : Nat} {x_4c : Nat} {R : Ending → World → Prop} {w : World} (h : sh_hands_correction x_1 x_2 x_3 x_4 x_4n x_4c R w) : Calls Tryz.prog F_hands_correction ⟨[.agg ⟨[.int .i64 x_1, .string ⟨⟨x_2⟩⟩, .int .i64 x_3, .slice x_4 x_4n x_4c]⟩]⟩ w R := calls_of_fnV Tryz.func24 (by rw [e_hands_correction]; exact h)

def an_ref10_Check : Ann := .two (.leaf) (.two (.two (.leaf) (.two (.leaf) (.two (.two (.leaf) (.leaf)) (.leaf)))) (.two (.two (.leaf) (.two (.leaf) (.two (.two (.leaf) (.leaf)) (.leaf)))) (.two (.two (.leaf) (.two (.two (.leaf) (.leaf)) (.leaf))) (.two (.leaf) (.leaf)))))
def sh_ref10_Check (l_1 : Option Addr) (l_1n : Nat) (l_1c : Nat) (R : Ending → World → Prop) (w : World) : Prop :=
  Calls Tryz.prog 44 ⟨[.slice l_1 l_1n l_1c, .int .i64 16, .int .i64 4096]⟩ w fun (e2 : Ending) (w3 : World) =>
  ∃ (x4 : Int) (x5 : Int) (x6 : Bool), e2 = .returned (.tuple ⟨[.int .i64 x4, .int .i64 x5, .bool x6]⟩) ∧ (br (!x6) (R (.returned (.int .i64 4)) w3) (Calls Tryz.prog 45 ⟨[.slice l_1 l_1n l_1c, .bool false]⟩ w3 fun (e7 : Ending) (w8 : World) =>
  ∃ (x9 : Int), e7 = .returned (.int .i64 x9) ∧ (br (decide ((x9 : Int) ≠ 0)) (R (.returned (.int .i64 x9)) w8) (Calls Tryz.prog 46 ⟨[.slice l_1 l_1n l_1c]⟩ w8 fun (e10 : Ending) (w11 : World) =>
  ∃ (x12 : List UInt8), e10 = .returned (.string ⟨⟨x12⟩⟩) ∧ (br (decide ((65536 : Int) < ((List.length x12 : Int)))) (R (.returned (.int .i64 4)) w11) (R (.returned (.int .i64 0)) w11))))))
set_option maxRecDepth 100000 in
theorem e_ref10_Check (l_1 : Option Addr) (l_1n : Nat) (l_1c : Nat) (R : Ending → World → Prop) (w : World) : fnV Tryz.prog Tryz.f25 an_ref10_Check [.slice l_1 l_1n l_1c] R w = sh_ref10_Check l_1 l_1n l_1c R w := by kernel_rfl
theorem c_ref10_Check {l_1 : Option Addr} {l_1n : Nat} {l_1c : Nat} {R : Ending → World → Prop} {w : World} (h : sh_ref10_Check l_1 l_1n l_1c R w) : Calls Tryz.prog F_ref10_Check ⟨[.slice l_1 l_1n l_1c]⟩ w R := calls_of_fnV Tryz.func25 (by rw [e_ref10_Check]; exact h)

def an_ref11_greatest : Ann := .two (.leaf) (.two (.leaf) (.two (.two (.leaf) (.one (.loop 1099511627768 [(3, .one (.int .i64)), (4, .one (.int .i64))] (.two (.two (.leaf) (.two (.leaf) (.leaf))) (.two (.one (.cut 4294965256 [(3, .one (.int .i64))] (.cut 33552384 [(24, .one (.bool))] (.leaf) (.two (.leaf) (.leaf))) (.leaf))) (.leaf)))))) (.two (.leaf) (.leaf))))
def sh_ref11_greatest (l_1 : Option Addr) (l_1n : Nat) (l_1c : Nat) (R : Ending → World → Prop) (w : World) : Prop :=
  ∃ (I2 : Int → Int → World → Nat → Prop), (∃ m7 : Nat, I2 0 0 w m7) ∧ ∀ (n_3 : Int) (i_4 : Int) (w5 : World) (m6 : Nat), I2 n_3 i_4 w5 m6 → ∀ _ : Env, (br (decide ((i_4 : Int) < ((l_1n : Int)))) (∀ (K8 : Int → World → Prop), (∀ (n_9 : Int) (w10 : World), (∀ _ : Env, (idx l_1 l_1n i_4 4 fun p11 =>
  ∃ (x12 : Option Addr) (x12n : Nat) (x12c : Nat), World.cell? w10 (p11.add 3) = some (.slice x12 x12n x12c) ∧ (Calls Tryz.prog 26 ⟨[.slice x12 x12n x12c]⟩ w10 fun (e13 : Ending) (w14 : World) =>
  ∃ (x15 : Int), e13 = .returned (.int .i64 x15) ∧ (∃ m16 : Nat, m16 < m6 ∧ I2 ((max n_9 x15)) (IntKind.i64.wrap (i_4 + 1)) w14 m16)))) → K8 n_9 w10) → (∀ (K17 : Bool → World → Prop), (∀ (t24_18 : Bool) (w19 : World), (∀ _ : Env, (br t24_18 (idx l_1 l_1n i_4 4 fun p20 =>
  ∃ (x21 : Int), World.cell? w19 (p20.add 2) = some (.int .i64 x21) ∧ (K8 ((max n_3 x21)) w19)) (K8 n_3 w19))) → K17 t24_18 w19) → (idx l_1 l_1n i_4 4 fun p22 =>
  ∃ (x23 : Int), World.cell? w5 (p22.add 0) = some (.int .i64 x23) ∧ (br (decide ((x23 : Int) = 8)) (K17 true w5) (idx l_1 l_1n i_4 4 fun p24 =>
  ∃ (x25 : Int), World.cell? w5 (p24.add 0) = some (.int .i64 x25) ∧ (K17 (decide ((x25 : Int) = 9)) w5)))))) (R (.returned (.int .i64 n_3)) w5))
set_option maxRecDepth 100000 in
theorem e_ref11_greatest (l_1 : Option Addr) (l_1n : Nat) (l_1c : Nat) (R : Ending → World → Prop) (w : World) : fnV Tryz.prog Tryz.f26 an_ref11_greatest [.slice l_1 l_1n l_1c] R w = sh_ref11_greatest l_1 l_1n l_1c R w := by kernel_rfl
theorem c_ref11_greatest {l_1 : Option Addr} {l_1n : Nat} {l_1c : Nat} {R : Ending → World → Prop} {w : World} (h : sh_ref11_greatest l_1 l_1n l_1c R w) : Calls Tryz.prog F_ref11_greatest ⟨[.slice l_1 l_1n l_1c]⟩ w R := calls_of_fnV Tryz.func26 (by rw [e_ref11_greatest]; exact h)

def an_slices_ContainsFunc_of_api_Node_api_Node : Ann := .two (.leaf) (.two (.leaf) (.leaf))
def sh_slices_ContainsFunc_of_api_Node_api_Node (s_1 : Option Addr) (s_1n : Nat) (s_1c : Nat) (f_2 : Fn) (f_2a : Array Value) (f_2b : Array Value) (R : Ending → World → Prop) (w : World) : Prop :=
  Calls Tryz.prog 47 ⟨[.slice s_1 s_1n s_1c, .func f_2 f_2a f_2b]⟩ w fun (e3 : Ending) (w4 : World) =>
  ∃ (x5 : Int), e3 = .returned (.int .i64 x5) ∧ (R (.returned (.bool (decide ((0 : Int) ≤ x5)))) w4)
set_option maxRecDepth 100000 in
theorem e_slices_ContainsFunc_of_api_Node_api_Node (s_1 : Option Addr) (s_1n : Nat) (s_1c : Nat) (f_2 : Fn) (f_2a : Array Value) (f_2b : Array Value) (R : Ending → World → Prop) (w : World) : fnV Tryz.prog Tryz.f27 an_slices_ContainsFunc_of_api_Node_api_Node [.slice s_1 s_1n s_1c, .func f_2 f_2a f_2b] R w = sh_slices_ContainsFunc_of_api_Node_api_Node s_1 s_1n s_1c f_2 f_2a f_2b R w := by kernel_rfl
theorem c_slices_ContainsFunc_of_api_Node_api_Node {s_1 : Option Addr} {s_1n : Nat} {s_1c : Nat} {f_2 : Fn} {f_2a : Array Value} {f_2b : Array Value} {R : Ending → World → Prop} {w : World} (h : sh_slices_ContainsFunc_of_api_Node_api_Node s_1 s_1n s_1c f_2 f_2a f_2b R w) : Calls Tryz.prog F_slices_ContainsFunc_of_api_Node_api_Node ⟨[.slice s_1 s_1n s_1c, .func f_2 f_2a f_2b]⟩ w R := calls_of_fnV Tryz.func27 (by rw [e_slices_ContainsFunc_of_api_Node_api_Node]; exact h)

def an_slices_Collect_of_api_Node : Ann := .two (.leaf) (.two (.leaf) (.leaf))
def sh_slices_Collect_of_api_Node (seq_1 : Fn) (seq_1a : Array Value) (seq_1b : Array Value) (R : Ending → World → Prop) (w : World) : Prop :=
  Calls Tryz.prog 48 ⟨[.slice none 0 0, .func seq_1 seq_1a seq_1b]⟩ w fun (e2 : Ending) (w3 : World) =>
  ∃ (x4 : Option Addr) (x4n : Nat) (x4c : Nat), e2 = .returned (.slice x4 x4n x4c) ∧ (R (.returned (.slice x4 x4n x4c)) w3)
set_option maxRecDepth 100000 in
theorem e_slices_Collect_of_api_Node (seq_1 : Fn) (seq_1a : Array Value) (seq_1b : Array Value) (R : Ending → World → Prop) (w : World) : fnV Tryz.prog Tryz.f28 an_slices_Collect_of_api_Node [.func seq_1 seq_1a seq_1b] R w = sh_slices_Collect_of_api_Node seq_1 seq_1a seq_1b R w := by kernel_rfl
theorem c_slices_Collect_of_api_Node {seq_1 : Fn} {seq_1a : Array Value} {seq_1b : Array Value} {R : Ending → World → Prop} {w : World} (h : sh_slices_Collect_of_api_Node seq_1 seq_1a seq_1b R w) : Calls Tryz.prog F_slices_Collect_of_api_Node ⟨[.func seq_1 seq_1a seq_1b]⟩ w R := calls_of_fnV Tryz.func28 (by rw [e_slices_Collect_of_api_Node]; exact h)

def an_hands_touches : Ann := .two (.leaf) (.two (.leaf) (.leaf))
def sh_hands_touches (l_1 : Option Addr) (l_1n : Nat) (l_1c : Nat) (hand_2 : Int) (R : Ending → World → Prop) (w : World) : Prop :=
  Calls Tryz.prog 34 ⟨[.slice l_1 l_1n l_1c, .int .i64 (IntKind.i64.wrap (hand_2 - 1))]⟩ w fun (e3 : Ending) (w4 : World) =>
  ∃ (x5 : Option Addr) (x5n : Nat) (x5c : Nat), e3 = .returned (.slice x5 x5n x5c) ∧ (Calls Tryz.prog 34 ⟨[.slice l_1 l_1n l_1c, .int .i64 hand_2]⟩ w4 fun (e6 : Ending) (w7 : World) =>
  ∃ (x8 : Option Addr) (x8n : Nat) (x8c : Nat), e6 = .returned (.slice x8 x8n x8c) ∧ (Calls Tryz.prog 49 ⟨[.slice x5 x5n x5c, .slice x8 x8n x8c]⟩ w7 fun (e9 : Ending) (w10 : World) =>
  ∃ (x11 : Bool), e9 = .returned (.bool x11) ∧ (R (.returned (.bool (!x11))) w10)))
set_option maxRecDepth 100000 in
theorem e_hands_touches (l_1 : Option Addr) (l_1n : Nat) (l_1c : Nat) (hand_2 : Int) (R : Ending → World → Prop) (w : World) : fnV Tryz.prog Tryz.f29 an_hands_touches [.slice l_1 l_1n l_1c, .int .i64 hand_2] R w = sh_hands_touches l_1 l_1n l_1c hand_2 R w := by kernel_rfl
theorem c_hands_touches {l_1 : Option Addr} {l_1n : Nat} {l_1c : Nat} {hand_2 : Int} {R : Ending → World → Prop} {w : World} (h : sh_hands_touches l_1 l_1n l_1c hand_2 R w) : Calls Tryz.prog F_hands_touches ⟨[.slice l_1 l_1n l_1c, .int .i64 hand_2]⟩ w R := calls_of_fnV Tryz.func29 (by rw [e_hands_touches]; exact h)

def an_hands_check : Ann := .two (.leaf) (.two (.one (.two (.leaf) (.two (.two (.leaf) (.leaf)) (.two (.leaf) (.two (.two (.leaf) (.leaf)) (.leaf)))))) (.two (.leaf) (.leaf)))
def sh_hands_check (l_1 : Option Addr) (l_1n : Nat) (l_1c : Nat) (hand_2 : Int) (R : Ending → World → Prop) (w : World) : Prop :=
  Calls Tryz.prog 22 ⟨[.slice l_1 l_1n l_1c]⟩ w fun (e3 : Ending) (w4 : World) =>
  ∃ (x5 : Int), e3 = .returned (.int .i64 x5) ∧ (br (decide ((x5 : Int) ≠ 0)) (R (.returned (.int .i64 1)) w4) (br (decide ((hand_2 : Int) < 1)) (R (.returned (.int .i64 13)) w4) (br (decide ((8 : Int) < hand_2)) (R (.returned (.int .i64 13)) w4) (R (.returned (.int .i64 0)) w4))))
set_option maxRecDepth 100000 in
theorem e_hands_check (l_1 : Option Addr) (l_1n : Nat) (l_1c : Nat) (hand_2 : Int) (R : Ending → World → Prop) (w : World) : fnV Tryz.prog Tryz.f30 an_hands_check [.slice l_1 l_1n l_1c, .int .i64 hand_2] R w = sh_hands_check l_1 l_1n l_1c hand_2 R w := by kernel_rfl
theorem c_hands_check {l_1 : Option Addr} {l_1n : Nat} {l_1c : Nat} {hand_2 : Int} {R : Ending → World → Prop} {w : World} (h : sh_hands_check l_1 l_1n l_1c hand_2 R w) : Calls Tryz.prog F_hands_check ⟨[.slice l_1 l_1n l_1c, .int .i64 hand_2]⟩ w R := calls_of_fnV Tryz.func30 (by rw [e_hands_check]; exact h)

def an_ref11_check : Ann := .two (.leaf) (.two (.two (.leaf) (.two (.two (.leaf) (.leaf)) (.leaf))) (.two (.two (.leaf) (.two (.two (.leaf) (.leaf)) (.leaf))) (.two (.leaf) (.leaf))))
def sh_ref11_check (l_1 : Option Addr) (l_1n : Nat) (l_1c : Nat) (hand_2 : Int) (from_3 : Int) (R : Ending → World → Prop) (w : World) : Prop :=
  Calls Tryz.prog 25 ⟨[.slice l_1 l_1n l_1c]⟩ w fun (e4 : Ending) (w5 : World) =>
  ∃ (x6 : Int), e4 = .returned (.int .i64 x6) ∧ (br (decide ((x6 : Int) ≠ 0)) (R (.returned (.int .i64 1)) w5) (br (decide ((hand_2 : Int) < from_3)) (R (.returned (.int .i64 13)) w5) (br (decide ((8 : Int) < hand_2)) (R (.returned (.int .i64 13)) w5) (R (.returned (.int .i64 0)) w5))))
set_option maxRecDepth 100000 in
theorem e_ref11_check (l_1 : Option Addr) (l_1n : Nat) (l_1c : Nat) (hand_2 : Int) (from_3 : Int) (R : Ending → World → Prop) (w : World) : fnV Tryz.prog Tryz.f31 an_ref11_check [.slice l_1 l_1n l_1c, .int .i64 hand_2, .int .i64 from_3] R w = sh_ref11_check l_1 l_1n l_1c hand_2 from_3 R w := by kernel_rfl
theorem c_ref11_check {l_1 : Option Addr} {l_1n : Nat} {l_1c : Nat} {hand_2 : Int} {from_3 : Int} {R : Ending → World → Prop} {w : World} (h : sh_ref11_check l_1 l_1n l_1c hand_2 from_3 R w) : Calls Tryz.prog F_ref11_check ⟨[.slice l_1 l_1n l_1c, .int .i64 hand_2, .int .i64 from_3]⟩ w R := calls_of_fnV Tryz.func31 (by rw [e_ref11_check]; exact h)

def an_ref11_State : Ann := .two (.leaf) (.two (.two (.leaf) (.two (.leaf) (.two (.two (.leaf) (.leaf)) (.leaf)))) (.two (.leaf) (.leaf)))
def sh_ref11_State (l_1 : Option Addr) (l_1n : Nat) (l_1c : Nat) (hand_2 : Int) (R : Ending → World → Prop) (w : World) : Prop :=
  Calls Tryz.prog 31 ⟨[.slice l_1 l_1n l_1c, .int .i64 hand_2, .int .i64 0]⟩ w fun (e3 : Ending) (w4 : World) =>
  ∃ (x5 : Int), e3 = .returned (.int .i64 x5) ∧ (br (decide ((x5 : Int) ≠ 0)) (R (.returned (.tuple ⟨[.slice none 0 0, .int .i64 x5]⟩)) w4) (Calls Tryz.prog 51 ⟨[.slice l_1 l_1n l_1c, .int .i64 hand_2, .bool false]⟩ w4 fun (e6 : Ending) (w7 : World) =>
  ∃ (x8 : Option Addr) (x8n : Nat) (x8c : Nat), e6 = .returned (.slice x8 x8n x8c) ∧ (Calls Tryz.prog 50 ⟨[.slice x8 x8n x8c]⟩ w7 fun (e9 : Ending) (w10 : World) =>
  ∃ (x11 : Option Addr) (x11n : Nat) (x11c : Nat), e9 = .returned (.slice x11 x11n x11c) ∧ (R (.returned (.tuple ⟨[.slice x11 x11n x11c, .int .i64 0]⟩)) w10))))
set_option maxRecDepth 100000 in
theorem e_ref11_State (l_1 : Option Addr) (l_1n : Nat) (l_1c : Nat) (hand_2 : Int) (R : Ending → World → Prop) (w : World) : fnV Tryz.prog Tryz.f32 an_ref11_State [.slice l_1 l_1n l_1c, .int .i64 hand_2] R w = sh_ref11_State l_1 l_1n l_1c hand_2 R w := by kernel_rfl
theorem c_ref11_State {l_1 : Option Addr} {l_1n : Nat} {l_1c : Nat} {hand_2 : Int} {R : Ending → World → Prop} {w : World} (h : sh_ref11_State l_1 l_1n l_1c hand_2 R w) : Calls Tryz.prog F_ref11_State ⟨[.slice l_1 l_1n l_1c, .int .i64 hand_2]⟩ w R := calls_of_fnV Tryz.func32 (by rw [e_ref11_State]; exact h)

def an_transcript_Characters : Ann := .two (.leaf) (.two (.two (.leaf) (.two (.two (.leaf) (.leaf)) (.leaf))) (.two (.leaf) (.two (.two (.leaf) (.one (.rf [2, 3, 4, 10] 0))) (.two (.leaf) (.leaf)))))
def sh_transcript_Characters (l_1 : Option Addr) (l_1n : Nat) (l_1c : Nat) (R : Ending → World → Prop) (w : World) : Prop :=
  Calls Tryz.prog 22 ⟨[.slice l_1 l_1n l_1c]⟩ w fun (e2 : Ending) (w3 : World) =>
  ∃ (x4 : Int), e2 = .returned (.int .i64 x4) ∧ (br (decide ((x4 : Int) ≠ 0)) (R (.returned (.tuple ⟨[.string ⟨⟨[]⟩⟩, .int .i64 1]⟩)) w3) (al w3 81 [.pointer none, .slice none 0 0] fun p5 w6 =>
  Calls Tryz.prog 39 ⟨[.slice l_1 l_1n l_1c]⟩ w6 fun (e7 : Ending) (w8 : World) =>
  ∃ (x9 : Fn) (x9a : Array Value) (x9b : Array Value), e7 = .returned (.func x9 x9a x9b) ∧ (∀ base10 : Env, RFw Tryz.prog none 21 (cdAt Tryz.f33 [1, 1, 1, 0, 1, 2]) (upd (upd (upd (upd base10 10 (.func x9 x9a x9b)) 4 (.pointer (some p5))) 3 (.int .i64 0)) 2 (.string ⟨⟨[]⟩⟩)) [] w8 0 (fun ds11 w12 =>
  Calls Tryz.prog 53 ⟨[.pointer (some p5)]⟩ w12 fun (e17 : Ending) (w18 : World) =>
  ∃ (x19 : List UInt8), e17 = .returned (.string ⟨⟨x19⟩⟩) ∧ (retD ds11 w18 fun w20 =>
  R (.returned (.tuple ⟨[.string ⟨⟨x19⟩⟩, .int .i64 0]⟩)) w20)) (fun ds11 w12 =>
  retD ds11 w12 fun w21 =>
  R (.returned (.tuple ⟨[.string ⟨⟨[]⟩⟩, .int .i64 0]⟩)) w21) (fun ds11 w12 =>
  Calls Tryz.prog 53 ⟨[.pointer (some p5)]⟩ w12 fun (e13 : Ending) (w14 : World) =>
  ∃ (x15 : List UInt8), e13 = .returned (.string ⟨⟨x15⟩⟩) ∧ (retD ds11 w14 fun w16 =>
  R (.returned (.tuple ⟨[.string ⟨⟨x15⟩⟩, .int .i64 0]⟩)) w16)))))
set_option maxRecDepth 100000 in
theorem e_transcript_Characters (l_1 : Option Addr) (l_1n : Nat) (l_1c : Nat) (R : Ending → World → Prop) (w : World) : fnV Tryz.prog Tryz.f33 an_transcript_Characters [.slice l_1 l_1n l_1c] R w = sh_transcript_Characters l_1 l_1n l_1c R w := by kernel_rfl
theorem c_transcript_Characters {l_1 : Option Addr} {l_1n : Nat} {l_1c : Nat} {R : Ending → World → Prop} {w : World} (h : sh_transcript_Characters l_1 l_1n l_1c R w) : Calls Tryz.prog F_transcript_Characters ⟨[.slice l_1 l_1n l_1c]⟩ w R := calls_of_fnV Tryz.func33 (by rw [e_transcript_Characters]; exact h)
def anA_transcript_Characters_1 : Ann := .leaf
def anB_transcript_Characters_1 : Ann := .one (.two (.leaf) (.two (.leaf) (.leaf)))
def rf_transcript_Characters_1 (t2_22 : List UInt8) (t3_23 : Int) (out_24 : Option Addr) (t10_25 : Fn) (t10_25a : Array Value) (t10_25b : Array Value) (t11_26 : Int) (t11_27 : List UInt8) (t11_28 : Int) (t11_29 : Option Addr) (t11_29n : Nat) (t11_29c : Nat) (t11_30 : Int) (t11_31 : Bool) (l : Nat) (Kn Kr Kx : World → World → Prop) (w : World) : Prop :=
  al w 67 [.int .i64 0, .string ⟨⟨[]⟩⟩, .int .i64 0, .slice none 0 0, .int .i64 0, .bool false] fun p33 w34 =>
  stL w34 p33 0 [.int .i64 t11_26, .string ⟨⟨t11_27⟩⟩, .int .i64 t11_28, .slice t11_29 t11_29n t11_29c, .int .i64 t11_30, .bool t11_31] fun w35 =>
  Ext w w35 ∧ ∀ w32 : World, Upd l w35 w32 → (∃ (x36 : Int), World.cell? w32 ((p33.add 0).add 0) = some (.int .i64 x36) ∧ (br (decide ((x36 : Int) = 1)) (∃ (x37 : List UInt8), World.cell? w32 ((p33.add 0).add 1) = some (.string ⟨⟨x37⟩⟩) ∧ (Calls Tryz.prog 52 ⟨[.pointer out_24, .string ⟨⟨x37⟩⟩]⟩ w32 fun (e38 : Ending) (w39 : World) =>
  ∃ (x40 : Int) (x41 : Value), e38 = .returned (.tuple ⟨[.int .i64 x40, x41]⟩) ∧ (Kn w32 w39))) (Kn w32 w32)))
set_option maxRecDepth 100000 in
theorem er_transcript_Characters_1 (base : Env) (t2_22 : List UInt8) (t3_23 : Int) (out_24 : Option Addr) (t10_25 : Fn) (t10_25a : Array Value) (t10_25b : Array Value) (t11_26 : Int) (t11_27 : List UInt8) (t11_28 : Int) (t11_29 : Option Addr) (t11_29n : Nat) (t11_29c : Nat) (t11_30 : Int) (t11_31 : Bool) (l : Nat) (Kn Kr Kx : World → World → Prop) (w : World) : fragV Tryz.prog 21 anA_transcript_Characters_1 anB_transcript_Characters_1 (cdAt Tryz.f33 [1, 1, 1, 0, 1, 2, 5]) (cdAt Tryz.f33 [1, 1, 1, 0, 1, 2, 6]) l 0 Kn Kr Kx (updPs [11] [.agg ⟨[.int .i64 t11_26, .string ⟨⟨t11_27⟩⟩, .int .i64 t11_28, .slice t11_29 t11_29n t11_29c, .int .i64 t11_30, .bool t11_31]⟩] (upd (upd (upd (upd base 10 (.func t10_25 t10_25a t10_25b)) 4 (.pointer out_24)) 3 (.int .i64 t3_23)) 2 (.string ⟨⟨t2_22⟩⟩))) w = rf_transcript_Characters_1 t2_22 t3_23 out_24 t10_25 t10_25a t10_25b t11_26 t11_27 t11_28 t11_29 t11_29n t11_29c t11_30 t11_31 l Kn Kr Kx w := by kernel_rfl
theorem cd_transcript_Characters_1 : cdAt Tryz.f33 [1, 1, 1, 0, 1, 2] = .rangeFunc (Operand.tmp 10) #[11] (cdAt Tryz.f33 [1, 1, 1, 0, 1, 2, 5]) (cdAt Tryz.f33 [1, 1, 1, 0, 1, 2, 6]) := by kernel_rfl

def an_hands_resolved : Ann := .two (.leaf) (.two (.leaf) (.leaf))
def sh_hands_resolved (l_1 : Option Addr) (l_1n : Nat) (l_1c : Nat) (hand_2 : Int) (R : Ending → World → Prop) (w : World) : Prop :=
  al w 3 [.int .i64 hand_2] fun p3 w4 =>
  Calls Tryz.prog 54 ⟨[.slice l_1 l_1n l_1c, .func (.func 55) ⟨[]⟩ ⟨[.pointer (some p3)]⟩]⟩ w4 fun (e5 : Ending) (w6 : World) =>
  ∃ (x7 : Option Addr) (x7n : Nat) (x7c : Nat), e5 = .returned (.slice x7 x7n x7c) ∧ (R (.returned (.slice x7 x7n x7c)) w6)
set_option maxRecDepth 100000 in
theorem e_hands_resolved (l_1 : Option Addr) (l_1n : Nat) (l_1c : Nat) (hand_2 : Int) (R : Ending → World → Prop) (w : World) : fnV Tryz.prog Tryz.f34 an_hands_resolved [.slice l_1 l_1n l_1c, .int .i64 hand_2] R w = sh_hands_resolved l_1 l_1n l_1c hand_2 R w := by kernel_rfl
theorem c_hands_resolved {l_1 : Option Addr} {l_1n : Nat} {l_1c : Nat} {hand_2 : Int} {R : Ending → World → Prop} {w : World} (h : sh_hands_resolved l_1 l_1n l_1c hand_2 R w) : Calls Tryz.prog F_hands_resolved ⟨[.slice l_1 l_1n l_1c, .int .i64 hand_2]⟩ w R := calls_of_fnV Tryz.func34 (by rw [e_hands_resolved]; exact h)

def an_editdistance_Script : Ann := .two (.leaf) (.two (.two (.leaf) (.two (.two (.leaf) (.leaf)) (.leaf))) (.two (.leaf) (.two (.two (.leaf) (.one (.loop 87112285931760246646623899502532653744512 [(23, .one (.int .i64))] (.two (.leaf) (.two (.two (.leaf) (.leaf)) (.two (.one (.two (.leaf) (.two (.leaf) (.two (.leaf) (.one (.loop 43556142965880123323311949750991453159680 [(38, .one (.int .i64))] (.two (.leaf) (.two (.two (.leaf) (.leaf)) (.two (.one (.two (.leaf) (.one (.cut 2398962173297779768557568 [(74, .one (.bool))] (.leaf) (.two (.leaf) (.two (.leaf) (.two (.leaf) (.leaf)))))))) (.leaf)))))))))) (.leaf))))))) (.two (.leaf) (.cut 948568795032094272909893509191171341133900602094995740364589904293321825348226560 [(9, .one (.slice))] (.two (.leaf) (.one (.loop 948568795032094272909893509191171341132593917806019336664890545800783835416235520 [(9, .one (.slice)), (10, .one (.int .i64)), (11, .one (.int .i64))] (.cut 87809184219214328619796890698552923429797888 [] (.two (.leaf) (.two (.leaf) (.leaf))) (.one (.one (.cut 50216813882728070701353589656110410120639772800798292967424 [(158, .one (.bool))] (.leaf) (.two (.leaf) (.cut 107839785865133537049172922577097476523967276429060793033018023346176 [(199, .one (.bool))] (.leaf) (.two (.two (.leaf) (.leaf)) (.cut 7410691944341171728724213457258525359690763191117099222906327254900239004336128 [(240, .one (.bool))] (.leaf) (.two (.two (.leaf) (.leaf)) (.two (.leaf) (.leaf)))))))))))))) (.two (.leaf) (.two (.leaf) (.leaf))))))))
def sh_editdistance_Script (a_1 : List UInt8) (b_2 : List UInt8) (R : Ending → World → Prop) (w : World) : Prop :=
  Calls Tryz.prog 57 ⟨[.int .i64 ((List.length a_1 : Int)), .int .i64 ((List.length b_2 : Int))]⟩ w fun (e3 : Ending) (w4 : World) =>
  ∃ (x5 : Bool), e3 = .returned (.bool x5) ∧ (br x5 (R (.returned (.tuple ⟨[.slice none 0 0, .int .i64 4]⟩)) w4) (mks w4 30 24 [.slice none 0 0] (IntKind.i64.wrap (((List.length a_1 : Int)) + 1)) (IntKind.i64.wrap (((List.length a_1 : Int)) + 1)) fun p6 w7 =>
  ∃ (I8 : Int → World → Nat → Prop), (∃ m12 : Nat, I8 0 w7 m12) ∧ ∀ (t23_9 : Int) (w10 : World) (m11 : Nat), I8 t23_9 w10 m11 → ∀ _ : Env, (br (decide ((t23_9 : Int) < (((Int.toNat (IntKind.i64.wrap (((List.length a_1 : Int)) + 1))) : Int)))) (mks w10 3 8 [.int .i64 0] (IntKind.i64.wrap (((List.length b_2 : Int)) + 1)) (IntKind.i64.wrap (((List.length b_2 : Int)) + 1)) fun p13 w14 =>
  idx (some p6) (Int.toNat (IntKind.i64.wrap (((List.length a_1 : Int)) + 1))) t23_9 1 fun p15 =>
  stL w14 p15 0 [.slice (some p13) (Int.toNat (IntKind.i64.wrap (((List.length b_2 : Int)) + 1))) (Int.toNat (IntKind.i64.wrap (((List.length b_2 : Int)) + 1)))] fun w16 =>
  idx (some p6) (Int.toNat (IntKind.i64.wrap (((List.length a_1 : Int)) + 1))) t23_9 1 fun p17 =>
  ∃ (x18 : Option Addr) (x18n : Nat) (x18c : Nat), World.cell? w16 p17 = some (.slice x18 x18n x18c) ∧ (∃ (I19 : Int → World → Nat → Prop), (∃ m23 : Nat, I19 0 w16 m23) ∧ ∀ (t38_20 : Int) (w21 : World) (m22 : Nat), I19 t38_20 w21 m22 → ∀ _ : Env, (br (decide ((t38_20 : Int) < ((x18n : Int)))) (∀ (K24 : Bool → World → Prop), (∀ (t74_25 : Bool) (w26 : World), (∀ _ : Env, (br t74_25 (idx (some p6) (Int.toNat (IntKind.i64.wrap (((List.length a_1 : Int)) + 1))) t23_9 1 fun p27 =>
  ∃ (x28 : Option Addr) (x28n : Nat) (x28c : Nat), World.cell? w26 p27 = some (.slice x28 x28n x28c) ∧ (idx x28 x28n t38_20 1 fun p29 =>
  stL w26 p29 0 [.int .i64 (IntKind.i64.wrap (t23_9 + t38_20))] fun w30 =>
  ∃ m31 : Nat, m31 < m22 ∧ I19 (IntKind.i64.wrap (t38_20 + 1)) w30 m31)) (drw w26 fun w32 =>
  sidx a_1 (IntKind.i64.wrap (t23_9 - 1)) fun b33 =>
  sidx b_2 (IntKind.i64.wrap (t38_20 - 1)) fun b34 =>
  br (decide ((((b33.toNat : Int)) : Int) = ((b34.toNat : Int)))) (drw w32 fun w35 =>
  idx (some p6) (Int.toNat (IntKind.i64.wrap (((List.length a_1 : Int)) + 1))) t23_9 1 fun p36 =>
  ∃ (x37 : Option Addr) (x37n : Nat) (x37c : Nat), World.cell? w35 p36 = some (.slice x37 x37n x37c) ∧ (idx (some p6) (Int.toNat (IntKind.i64.wrap (((List.length a_1 : Int)) + 1))) (IntKind.i64.wrap (t23_9 - 1)) 1 fun p38 =>
  ∃ (x39 : Option Addr) (x39n : Nat) (x39c : Nat), World.cell? w35 p38 = some (.slice x39 x39n x39c) ∧ (idx x39 x39n (IntKind.i64.wrap (t38_20 - 1)) 1 fun p40 =>
  ∃ (x41 : Int), World.cell? w35 p40 = some (.int .i64 x41) ∧ (idx (some p6) (Int.toNat (IntKind.i64.wrap (((List.length a_1 : Int)) + 1))) (IntKind.i64.wrap (t23_9 - 1)) 1 fun p42 =>
  ∃ (x43 : Option Addr) (x43n : Nat) (x43c : Nat), World.cell? w35 p42 = some (.slice x43 x43n x43c) ∧ (idx x43 x43n t38_20 1 fun p44 =>
  ∃ (x45 : Int), World.cell? w35 p44 = some (.int .i64 x45) ∧ (idx (some p6) (Int.toNat (IntKind.i64.wrap (((List.length a_1 : Int)) + 1))) t23_9 1 fun p46 =>
  ∃ (x47 : Option Addr) (x47n : Nat) (x47c : Nat), World.cell? w35 p46 = some (.slice x47 x47n x47c) ∧ (idx x47 x47n (IntKind.i64.wrap (t38_20 - 1)) 1 fun p48 =>
  ∃ (x49 : Int), World.cell? w35 p48 = some (.int .i64 x49) ∧ (idx x37 x37n t38_20 1 fun p50 =>
  (stL w35 p50 0 [.int .i64 ((min (min x41 (IntKind.i64.wrap (x45 + 1))) (IntKind.i64.wrap (x49 + 1))))] fun w51 =>
  ∃ m52 : Nat, m52 < m22 ∧ I19 (IntKind.i64.wrap (t38_20 + 1)) w51 m52) ∧ True)))))))) (drw w32 fun w53 =>
  idx (some p6) (Int.toNat (IntKind.i64.wrap (((List.length a_1 : Int)) + 1))) t23_9 1 fun p54 =>
  ∃ (x55 : Option Addr) (x55n : Nat) (x55c : Nat), World.cell? w53 p54 = some (.slice x55 x55n x55c) ∧ (idx (some p6) (Int.toNat (IntKind.i64.wrap (((List.length a_1 : Int)) + 1))) (IntKind.i64.wrap (t23_9 - 1)) 1 fun p56 =>
  ∃ (x57 : Option Addr) (x57n : Nat) (x57c : Nat), World.cell? w53 p56 = some (.slice x57 x57n x57c) ∧ (idx x57 x57n (IntKind.i64.wrap (t38_20 - 1)) 1 fun p58 =>
  ∃ (x59 : Int), World.cell? w53 p58 = some (.int .i64 x59) ∧ (idx (some p6) (Int.toNat (IntKind.i64.wrap (((List.length a_1 : Int)) + 1))) (IntKind.i64.wrap (t23_9 - 1)) 1 fun p60 =>
  ∃ (x61 : Option Addr) (x61n : Nat) (x61c : Nat), World.cell? w53 p60 = some (.slice x61 x61n x61c) ∧ (idx x61 x61n t38_20 1 fun p62 =>
  ∃ (x63 : Int), World.cell? w53 p62 = some (.int .i64 x63) ∧ (idx (some p6) (Int.toNat (IntKind.i64.wrap (((List.length a_1 : Int)) + 1))) t23_9 1 fun p64 =>
  ∃ (x65 : Option Addr) (x65n : Nat) (x65c : Nat), World.cell? w53 p64 = some (.slice x65 x65n x65c) ∧ (idx x65 x65n (IntKind.i64.wrap (t38_20 - 1)) 1 fun p66 =>
  ∃ (x67 : Int), World.cell? w53 p66 = some (.int .i64 x67) ∧ (idx x55 x55n t38_20 1 fun p68 =>
  (stL w53 p68 0 [.int .i64 (IntKind.i64.wrap (1 + ((min (min x59 x63) x67))))] fun w69 =>
  ∃ m70 : Nat, m70 < m22 ∧ I19 (IntKind.i64.wrap (t38_20 + 1)) w69 m70) ∧ True))))))))))) → K24 t74_25 w26) → (br (decide ((t23_9 : Int) = 0)) (K24 true w21) (K24 (decide ((t38_20 : Int) = 0)) w21))) (∃ m71 : Nat, m71 < m11 ∧ I8 (IntKind.i64.wrap (t23_9 + 1)) w21 m71)))) (∀ (K72 : Option Addr → Nat → Nat → World → Prop), (∀ (out_73 : Option Addr) (out_73n : Nat) (out_73c : Nat) (w74 : World), (∀ _ : Env, (Calls Tryz.prog 58 ⟨[.slice out_73 out_73n out_73c]⟩ w74 fun (e75 : Ending) (w76 : World) =>
  e75 = .returned (.tuple ⟨[]⟩) ∧ (R (.returned (.tuple ⟨[.slice out_73 out_73n out_73c, .int .i64 0]⟩)) w76))) → K72 out_73 out_73n out_73c w74) → (∃ (I77 : Option Addr → Nat → Nat → Int → Int → World → Nat → Prop), (∃ m83 : Nat, I77 none 0 0 ((List.length a_1 : Int)) ((List.length b_2 : Int)) w10 m83) ∧ ∀ (out_78 : Option Addr) (out_78n : Nat) (out_78c : Nat) (i_79 : Int) (k_80 : Int) (w81 : World) (m82 : Nat), I77 out_78 out_78n out_78c i_79 k_80 w81 m82 → ∀ _ : Env, (∀ (K84 : World → Prop), (∀  (w85 : World), (∀ _ : Env, (∀ (K86 : Bool → World → Prop), (∀ (t158_87 : Bool) (w88 : World), (∀ _ : Env, (br t158_87 (∃ m89 : Nat, m89 < m82 ∧ I77 out_78 out_78n out_78c (IntKind.i64.wrap (i_79 - 1)) (IntKind.i64.wrap (k_80 - 1)) w88 m89) (∀ (K90 : Bool → World → Prop), (∀ (t199_91 : Bool) (w92 : World), (∀ _ : Env, (br t199_91 (ssl b_2 (IntKind.i64.wrap (k_80 - 1)) (IntKind.i64.wrap ((IntKind.i64.wrap (k_80 - 1)) + 1)) fun s93 =>
  al w92 62 [.int .i64 (IntKind.i64.wrap (i_79 - 1)), .int .i64 1, .string ⟨⟨s93⟩⟩] fun p94 w95 =>
  app Tryz.prog [34, 34] 34 (.slice out_78 out_78n out_78c) (.slice (some p94) 1 1) w95 fun a96 a96n a96c w97 =>
  ∃ m98 : Nat, m98 < m82 ∧ I77 a96 a96n a96c (IntKind.i64.wrap (i_79 - 1)) (IntKind.i64.wrap (k_80 - 1)) w97 m98) (∀ (K99 : Bool → World → Prop), (∀ (t240_100 : Bool) (w101 : World), (∀ _ : Env, (br t240_100 (al w101 62 [.int .i64 (IntKind.i64.wrap (i_79 - 1)), .int .i64 1, .string ⟨⟨[]⟩⟩] fun p102 w103 =>
  app Tryz.prog [34, 34] 34 (.slice out_78 out_78n out_78c) (.slice (some p102) 1 1) w103 fun a104 a104n a104c w105 =>
  ∃ m106 : Nat, m106 < m82 ∧ I77 a104 a104n a104c (IntKind.i64.wrap (i_79 - 1)) k_80 w105 m106) (ssl b_2 (IntKind.i64.wrap (k_80 - 1)) (IntKind.i64.wrap ((IntKind.i64.wrap (k_80 - 1)) + 1)) fun s107 =>
  al w101 62 [.int .i64 i_79, .int .i64 0, .string ⟨⟨s107⟩⟩] fun p108 w109 =>
  app Tryz.prog [34, 34] 34 (.slice out_78 out_78n out_78c) (.slice (some p108) 1 1) w109 fun a110 a110n a110c w111 =>
  ∃ m112 : Nat, m112 < m82 ∧ I77 a110 a110n a110c i_79 (IntKind.i64.wrap (k_80 - 1)) w111 m112))) → K99 t240_100 w101) → (drw w92 fun w113 =>
  br (decide ((0 : Int) < i_79)) (idx (some p6) (Int.toNat (IntKind.i64.wrap (((List.length a_1 : Int)) + 1))) i_79 1 fun p114 =>
  ∃ (x115 : Option Addr) (x115n : Nat) (x115c : Nat), World.cell? w113 p114 = some (.slice x115 x115n x115c) ∧ (idx x115 x115n k_80 1 fun p116 =>
  ∃ (x117 : Int), World.cell? w113 p116 = some (.int .i64 x117) ∧ (idx (some p6) (Int.toNat (IntKind.i64.wrap (((List.length a_1 : Int)) + 1))) (IntKind.i64.wrap (i_79 - 1)) 1 fun p118 =>
  ∃ (x119 : Option Addr) (x119n : Nat) (x119c : Nat), World.cell? w113 p118 = some (.slice x119 x119n x119c) ∧ (idx x119 x119n k_80 1 fun p120 =>
  ∃ (x121 : Int), World.cell? w113 p120 = some (.int .i64 x121) ∧ (K99 (decide ((x117 : Int) = (IntKind.i64.wrap (x121 + 1)))) w113))))) (K99 false w113))))) → K90 t199_91 w92) → (drw w88 fun w122 =>
  br (decide ((0 : Int) < i_79)) (br (decide ((0 : Int) < k_80)) (idx (some p6) (Int.toNat (IntKind.i64.wrap (((List.length a_1 : Int)) + 1))) i_79 1 fun p123 =>
  ∃ (x124 : Option Addr) (x124n : Nat) (x124c : Nat), World.cell? w122 p123 = some (.slice x124 x124n x124c) ∧ (idx x124 x124n k_80 1 fun p125 =>
  ∃ (x126 : Int), World.cell? w122 p125 = some (.int .i64 x126) ∧ (idx (some p6) (Int.toNat (IntKind.i64.wrap (((List.length a_1 : Int)) + 1))) (IntKind.i64.wrap (i_79 - 1)) 1 fun p127 =>
  ∃ (x128 : Option Addr) (x128n : Nat) (x128c : Nat), World.cell? w122 p127 = some (.slice x128 x128n x128c) ∧ (idx x128 x128n (IntKind.i64.wrap (k_80 - 1)) 1 fun p129 =>
  ∃ (x130 : Int), World.cell? w122 p129 = some (.int .i64 x130) ∧ (K90 (decide ((x126 : Int) = (IntKind.i64.wrap (x130 + 1)))) w122))))) (K90 false w122)) (K90 false w122))))) → K86 t158_87 w88) → (drw w85 fun w131 =>
  br (decide ((0 : Int) < i_79)) (br (decide ((0 : Int) < k_80)) (sidx a_1 (IntKind.i64.wrap (i_79 - 1)) fun b132 =>
  sidx b_2 (IntKind.i64.wrap (k_80 - 1)) fun b133 =>
  br (decide ((((b132.toNat : Int)) : Int) = ((b133.toNat : Int)))) (idx (some p6) (Int.toNat (IntKind.i64.wrap (((List.length a_1 : Int)) + 1))) i_79 1 fun p134 =>
  ∃ (x135 : Option Addr) (x135n : Nat) (x135c : Nat), World.cell? w131 p134 = some (.slice x135 x135n x135c) ∧ (idx x135 x135n k_80 1 fun p136 =>
  ∃ (x137 : Int), World.cell? w131 p136 = some (.int .i64 x137) ∧ (idx (some p6) (Int.toNat (IntKind.i64.wrap (((List.length a_1 : Int)) + 1))) (IntKind.i64.wrap (i_79 - 1)) 1 fun p138 =>
  ∃ (x139 : Option Addr) (x139n : Nat) (x139c : Nat), World.cell? w131 p138 = some (.slice x139 x139n x139c) ∧ (idx x139 x139n (IntKind.i64.wrap (k_80 - 1)) 1 fun p140 =>
  ∃ (x141 : Int), World.cell? w131 p140 = some (.int .i64 x141) ∧ (K86 (decide ((x137 : Int) = x141)) w131))))) (K86 false w131)) (K86 false w131)) (K86 false w131)))) → K84 w85) → (br (decide ((0 : Int) < i_79)) (K84 w81) (br (decide ((0 : Int) < k_80)) (K84 w81) (K72 out_78 out_78n out_78c w81)))))))))
set_option maxRecDepth 100000 in
theorem e_editdistance_Script (a_1 : List UInt8) (b_2 : List UInt8) (R : Ending → World → Prop) (w : World) : fnV Tryz.prog Tryz.f35 an_editdistance_Script [.string ⟨⟨a_1⟩⟩, .string ⟨⟨b_2⟩⟩] R w = sh_editdistance_Script a_1 b_2 R w := by kernel_rfl
theorem c_editdistance_Script {a_1 : List UInt8} {b_2 : List UInt8} {R : Ending → World → Prop} {w : World} (h : sh_editdistance_Script a_1 b_2 R w) : Calls Tryz.prog F_editdistance_Script ⟨[.string ⟨⟨a_1⟩⟩, .string ⟨⟨b_2⟩⟩]⟩ w R := calls_of_fnV Tryz.func35 (by rw [e_editdistance_Script]; exact h)

def an_ref10_Characters : Ann := .two (.leaf) (.two (.two (.leaf) (.two (.two (.leaf) (.leaf)) (.leaf))) (.two (.leaf) (.leaf)))
def sh_ref10_Characters (l_1 : Option Addr) (l_1n : Nat) (l_1c : Nat) (R : Ending → World → Prop) (w : World) : Prop :=
  Calls Tryz.prog 25 ⟨[.slice l_1 l_1n l_1c]⟩ w fun (e2 : Ending) (w3 : World) =>
  ∃ (x4 : Int), e2 = .returned (.int .i64 x4) ∧ (br (decide ((x4 : Int) ≠ 0)) (R (.returned (.tuple ⟨[.string ⟨⟨[]⟩⟩, .int .i64 1]⟩)) w3) (Calls Tryz.prog 59 ⟨[.slice l_1 l_1n l_1c]⟩ w3 fun (e5 : Ending) (w6 : World) =>
  ∃ (x7 : List UInt8), e5 = .returned (.string ⟨⟨x7⟩⟩) ∧ (R (.returned (.tuple ⟨[.string ⟨⟨x7⟩⟩, .int .i64 0]⟩)) w6)))
set_option maxRecDepth 100000 in
theorem e_ref10_Characters (l_1 : Option Addr) (l_1n : Nat) (l_1c : Nat) (R : Ending → World → Prop) (w : World) : fnV Tryz.prog Tryz.f36 an_ref10_Characters [.slice l_1 l_1n l_1c] R w = sh_ref10_Characters l_1 l_1n l_1c R w := by kernel_rfl
theorem c_ref10_Characters {l_1 : Option Addr} {l_1n : Nat} {l_1c : Nat} {R : Ending → World → Prop} {w : World} (h : sh_ref10_Characters l_1 l_1n l_1c R w) : Calls Tryz.prog F_ref10_Characters ⟨[.slice l_1 l_1n l_1c]⟩ w R := calls_of_fnV Tryz.func36 (by rw [e_ref10_Characters]; exact h)

def an_ref03_Script : Ann := .two (.leaf) (.cut 522288 [] (.two (.leaf) (.two (.two (.leaf) (.leaf)) (.leaf))) (.two (.leaf) (.two (.leaf) (.two (.leaf) (.two (.one (.loop 5708990770823839524233143877797980545262552960 [(7, .one (.slice)), (8, .one (.int .i64)), (9, .one (.int .i64))] (.cut 16911433728 [] (.two (.leaf) (.two (.leaf) (.leaf))) (.one (.two (.leaf) (.cut 356811923176489970264571492362373766915818240 [(8, .one (.int .i64)), (9, .one (.int .i64))] (.one (.cut 1208925819605833081683968 [(43, .one (.bool))] (.leaf) (.two (.two (.leaf) (.leaf)) (.cut 2596148409924600700431181369311232 [(84, .one (.bool))] (.leaf) (.two (.two (.leaf) (.leaf)) (.cut 22300739881618640001872226657420120384602112 [(122, .one (.bool))] (.leaf) (.two (.two (.leaf) (.leaf)) (.two (.leaf) (.leaf))))))))) (.leaf))))))) (.two (.leaf) (.leaf)))))))
def sh_ref03_Script (a_1 : List UInt8) (b_2 : List UInt8) (R : Ending → World → Prop) (w : World) : Prop :=
  ∀ (K3 : World → Prop), (∀  (w4 : World), (∀ _ : Env, (Calls Tryz.prog 61 ⟨[.string ⟨⟨a_1⟩⟩]⟩ w4 fun (e5 : Ending) (w6 : World) =>
  ∃ (x7 : Option Addr) (x7n : Nat) (x7c : Nat), e5 = .returned (.slice x7 x7n x7c) ∧ (Calls Tryz.prog 61 ⟨[.string ⟨⟨b_2⟩⟩]⟩ w6 fun (e8 : Ending) (w9 : World) =>
  ∃ (x10 : Option Addr) (x10n : Nat) (x10c : Nat), e8 = .returned (.slice x10 x10n x10c) ∧ (Calls Tryz.prog 60 ⟨[.slice x7 x7n x7c, .slice x10 x10n x10c]⟩ w9 fun (e11 : Ending) (w12 : World) =>
  ∃ (x13 : Option Addr) (x13n : Nat) (x13c : Nat), e11 = .returned (.slice x13 x13n x13c) ∧ (∃ (I14 : Option Addr → Nat → Nat → Int → Int → World → Nat → Prop), (∃ m20 : Nat, I14 none 0 0 ((List.length a_1 : Int)) ((List.length b_2 : Int)) w12 m20) ∧ ∀ (l_15 : Option Addr) (l_15n : Nat) (l_15c : Nat) (i_16 : Int) (j_17 : Int) (w18 : World) (m19 : Nat), I14 l_15 l_15n l_15c i_16 j_17 w18 m19 → ∀ _ : Env, (∀ (K21 : World → Prop), (∀  (w22 : World), (∀ _ : Env, (al w22 62 [.int .i64 0, .int .i64 0, .string ⟨⟨[]⟩⟩] fun p23 w24 =>
  ∀ (K25 : Int → Int → World → Prop), (∀ (i_26 : Int) (j_27 : Int) (w28 : World), (∀ _ : Env, (∃ (x29 : Int), World.cell? w28 (p23.add 0) = some (.int .i64 x29) ∧ (∃ (x30 : Int), World.cell? w28 (p23.add 1) = some (.int .i64 x30) ∧ (∃ (x31 : List UInt8), World.cell? w28 (p23.add 2) = some (.string ⟨⟨x31⟩⟩) ∧ (al w28 62 [.int .i64 x29, .int .i64 x30, .string ⟨⟨x31⟩⟩] fun p32 w33 =>
  app Tryz.prog [34, 34] 34 (.slice (some p32) 1 1) (.slice l_15 l_15n l_15c) w33 fun a34 a34n a34c w35 =>
  ∃ m36 : Nat, m36 < m19 ∧ I14 a34 a34n a34c i_26 j_27 w35 m36))))) → K25 i_26 j_27 w28) → (∀ (K37 : Bool → World → Prop), (∀ (t43_38 : Bool) (w39 : World), (∀ _ : Env, (br t43_38 (∃ m40 : Nat, m40 < m19 ∧ I14 l_15 l_15n l_15c (IntKind.i64.wrap (i_16 - 1)) (IntKind.i64.wrap (j_17 - 1)) w39 m40) (∀ (K41 : Bool → World → Prop), (∀ (t84_42 : Bool) (w43 : World), (∀ _ : Env, (br t84_42 (ssl b_2 (IntKind.i64.wrap (j_17 - 1)) (IntKind.i64.wrap ((IntKind.i64.wrap (j_17 - 1)) + 1)) fun s44 =>
  stL w43 p23 0 [.int .i64 (IntKind.i64.wrap (i_16 - 1)), .int .i64 1, .string ⟨⟨s44⟩⟩] fun w45 =>
  K25 (IntKind.i64.wrap (i_16 - 1)) (IntKind.i64.wrap (j_17 - 1)) w45) (∀ (K46 : Bool → World → Prop), (∀ (t122_47 : Bool) (w48 : World), (∀ _ : Env, (br t122_47 (stL w48 p23 0 [.int .i64 (IntKind.i64.wrap (i_16 - 1)), .int .i64 1, .string ⟨⟨[]⟩⟩] fun w49 =>
  K25 (IntKind.i64.wrap (i_16 - 1)) j_17 w49) (ssl b_2 (IntKind.i64.wrap (j_17 - 1)) (IntKind.i64.wrap ((IntKind.i64.wrap (j_17 - 1)) + 1)) fun s50 =>
  stL w48 p23 0 [.int .i64 i_16, .int .i64 0, .string ⟨⟨s50⟩⟩] fun w51 =>
  K25 i_16 (IntKind.i64.wrap (j_17 - 1)) w51))) → K46 t122_47 w48) → (drw w43 fun w52 =>
  br (decide ((0 : Int) < i_16)) (idx x13 x13n i_16 1 fun p53 =>
  ∃ (x54 : Option Addr) (x54n : Nat) (x54c : Nat), World.cell? w52 p53 = some (.slice x54 x54n x54c) ∧ (idx x54 x54n j_17 1 fun p55 =>
  ∃ (x56 : Int), World.cell? w52 p55 = some (.int .i64 x56) ∧ (idx x13 x13n (IntKind.i64.wrap (i_16 - 1)) 1 fun p57 =>
  ∃ (x58 : Option Addr) (x58n : Nat) (x58c : Nat), World.cell? w52 p57 = some (.slice x58 x58n x58c) ∧ (idx x58 x58n j_17 1 fun p59 =>
  ∃ (x60 : Int), World.cell? w52 p59 = some (.int .i64 x60) ∧ (K46 (decide ((x56 : Int) = (IntKind.i64.wrap (x60 + 1)))) w52))))) (K46 false w52))))) → K41 t84_42 w43) → (drw w39 fun w61 =>
  br (decide ((0 : Int) < i_16)) (br (decide ((0 : Int) < j_17)) (idx x13 x13n i_16 1 fun p62 =>
  ∃ (x63 : Option Addr) (x63n : Nat) (x63c : Nat), World.cell? w61 p62 = some (.slice x63 x63n x63c) ∧ (idx x63 x63n j_17 1 fun p64 =>
  ∃ (x65 : Int), World.cell? w61 p64 = some (.int .i64 x65) ∧ (idx x13 x13n (IntKind.i64.wrap (i_16 - 1)) 1 fun p66 =>
  ∃ (x67 : Option Addr) (x67n : Nat) (x67c : Nat), World.cell? w61 p66 = some (.slice x67 x67n x67c) ∧ (idx x67 x67n (IntKind.i64.wrap (j_17 - 1)) 1 fun p68 =>
  ∃ (x69 : Int), World.cell? w61 p68 = some (.int .i64 x69) ∧ (K41 (decide ((x65 : Int) = (IntKind.i64.wrap (x69 + 1)))) w61))))) (K41 false w61)) (K41 false w61))))) → K37 t43_38 w39) → (drw w24 fun w70 =>
  br (decide ((0 : Int) < i_16)) (br (decide ((0 : Int) < j_17)) (sidx a_1 (IntKind.i64.wrap (i_16 - 1)) fun b71 =>
  sidx b_2 (IntKind.i64.wrap (j_17 - 1)) fun b72 =>
  br (decide ((((b71.toNat : Int)) : Int) = ((b72.toNat : Int)))) (idx x13 x13n i_16 1 fun p73 =>
  ∃ (x74 : Option Addr) (x74n : Nat) (x74c : Nat), World.cell? w70 p73 = some (.slice x74 x74n x74c) ∧ (idx x74 x74n j_17 1 fun p75 =>
  ∃ (x76 : Int), World.cell? w70 p75 = some (.int .i64 x76) ∧ (idx x13 x13n (IntKind.i64.wrap (i_16 - 1)) 1 fun p77 =>
  ∃ (x78 : Option Addr) (x78n : Nat) (x78c : Nat), World.cell? w70 p77 = some (.slice x78 x78n x78c) ∧ (idx x78 x78n (IntKind.i64.wrap (j_17 - 1)) 1 fun p79 =>
  ∃ (x80 : Int), World.cell? w70 p79 = some (.int .i64 x80) ∧ (K37 (decide ((x76 : Int) = x80)) w70))))) (K37 false w70)) (K37 false w70)) (K37 false w70))))) → K21 w22) → (br (decide ((0 : Int) < i_16)) (K21 w18) (br (decide ((0 : Int) < j_17)) (K21 w18) (R (.returned (.tuple ⟨[.slice l_15 l_15n l_15c, .int .i64 0]⟩)) w18))))))))) → K3 w4) → (br (decide ((256 : Int) < ((List.length a_1 : Int)))) (R (.returned (.tuple ⟨[.slice none 0 0, .int .i64 4]⟩)) w) (br (decide ((256 : Int) < ((List.length b_2 : Int)))) (R (.returned (.tuple ⟨[.slice none 0 0, .int .i64 4]⟩)) w) (K3 w)))
set_option maxRecDepth 100000 in
theorem e_ref03_Script (a_1 : List UInt8) (b_2 : List UInt8) (R : Ending → World → Prop) (w : World) : fnV Tryz.prog Tryz.f37 an_ref03_Script [.string ⟨⟨a_1⟩⟩, .string ⟨⟨b_2⟩⟩] R w = sh_ref03_Script a_1 b_2 R w := by kernel_rfl
theorem c_ref03_Script {a_1 : List UInt8} {b_2 : List UInt8} {R : Ending → World → Prop} {w : World} (h : sh_ref03_Script a_1 b_2 R w) : Calls Tryz.prog F_ref03_Script ⟨[.string ⟨⟨a_1⟩⟩, .string ⟨⟨b_2⟩⟩]⟩ w R := calls_of_fnV Tryz.func37 (by rw [e_ref03_Script]; exact h)

def an_transcript_Check_1 : Ann := .two (.leaf) (.two (.leaf) (.two (.leaf) (.leaf)))
def sh_transcript_Check_1 (t0_1 : Option Addr) (R : Ending → World → Prop) (w : World) : Prop :=
  dr t0_1 fun p2 =>
  ∃ (x3 : Int), World.cell? w p2 = some (.int .i64 x3) ∧ (dr t0_1 fun p5 =>
  stL w p5 0 [.int .i64 (IntKind.i64.wrap (x3 - 1))] fun w4 =>
  dr t0_1 fun p6 =>
  ∃ (x7 : Int), World.cell? w4 p6 = some (.int .i64 x7) ∧ (R (.returned (.bool (decide ((0 : Int) ≤ x7)))) w4))
set_option maxRecDepth 100000 in
theorem e_transcript_Check_1 (t0_1 : Option Addr) (R : Ending → World → Prop) (w : World) : fnV Tryz.prog Tryz.f38 an_transcript_Check_1 [.pointer t0_1] R w = sh_transcript_Check_1 t0_1 R w := by kernel_rfl
theorem c_transcript_Check_1 {t0_1 : Option Addr} {R : Ending → World → Prop} {w : World} (h : sh_transcript_Check_1 t0_1 R w) : Calls Tryz.prog F_transcript_Check_1 ⟨[.pointer t0_1]⟩ w R := calls_of_fnV Tryz.func38 (by rw [e_transcript_Check_1]; exact h)

def an_transcript_places : Ann := .two (.leaf) (.two (.leaf) (.leaf))
def sh_transcript_places (l_1 : Option Addr) (l_1n : Nat) (l_1c : Nat) (R : Ending → World → Prop) (w : World) : Prop :=
  al w 22 [.slice l_1 l_1n l_1c] fun p2 w3 =>
  R (.returned (.func (.func 62) ⟨[]⟩ ⟨[.pointer (some p2)]⟩)) w3
set_option maxRecDepth 100000 in
theorem e_transcript_places (l_1 : Option Addr) (l_1n : Nat) (l_1c : Nat) (R : Ending → World → Prop) (w : World) : fnV Tryz.prog Tryz.f39 an_transcript_places [.slice l_1 l_1n l_1c] R w = sh_transcript_places l_1 l_1n l_1c R w := by kernel_rfl
theorem c_transcript_places {l_1 : Option Addr} {l_1n : Nat} {l_1c : Nat} {R : Ending → World → Prop} {w : World} (h : sh_transcript_places l_1 l_1n l_1c R w) : Calls Tryz.prog F_transcript_places ⟨[.slice l_1 l_1n l_1c]⟩ w R := calls_of_fnV Tryz.func39 (by rw [e_transcript_places]; exact h)

def an_transcript_right : Ann := .two (.leaf) (.two (.leaf) (.cut 65284 [] (.two (.leaf) (.two (.two (.leaf) (.leaf)) (.leaf))) (.two (.leaf) (.two (.leaf) (.two (.one (.cut 9007199246352384 [(23, .one (.bool))] (.leaf) (.two (.two (.leaf) (.leaf)) (.cut 4722357475670390472704 [(53, .one (.bool))] (.leaf) (.two (.two (.leaf) (.leaf)) (.cut 4830980911975647053611008 [(72, .one (.bool))] (.leaf) (.two (.two (.leaf) (.leaf)) (.cut 1298074209798003628674107383480320 [(82, .one (.bool))] (.cut 4946924453863062582897672192 [(82, .one (.bool))] (.leaf) (.two (.leaf) (.leaf))) (.two (.two (.leaf) (.leaf)) (.cut 43556141667805908689605042618642248761344 [(110, .one (.bool))] (.cut 331008924731595261318819140987781120 [(110, .one (.bool))] (.leaf) (.two (.leaf) (.cut 20936639007827058705142093823497732096 [(110, .one (.bool))] (.leaf) (.two (.leaf) (.leaf))))) (.two (.two (.leaf) (.leaf)) (.cut 11106816456299431447444547186572914421923840 [(135, .one (.bool))] (.leaf) (.two (.two (.leaf) (.leaf)) (.two (.leaf) (.two (.two (.leaf) (.leaf)) (.leaf)))))))))))))))) (.two (.leaf) (.leaf)))))))
def sh_transcript_right (p_1 : Int) (p_2 : List UInt8) (p_3 : Int) (p_4 : Option Addr) (p_4n : Nat) (p_4c : Nat) (p_5 : Int) (p_6 : Bool) (R : Ending → World → Prop) (w : World) : Prop :=
  al w 67 [.int .i64 p_1, .string ⟨⟨p_2⟩⟩, .int .i64 p_3, .slice p_4 p_4n p_4c, .int .i64 p_5, .bool p_6] fun p7 w8 =>
  ∃ (x9 : Int), World.cell? w8 ((p7.add 0).add 0) = some (.int .i64 x9) ∧ (∃ (x10 : List UInt8), World.cell? w8 ((p7.add 0).add 1) = some (.string ⟨⟨x10⟩⟩) ∧ (∃ (x11 : Int), World.cell? w8 ((p7.add 0).add 2) = some (.int .i64 x11) ∧ (∃ (x12 : Option Addr) (x12n : Nat) (x12c : Nat), World.cell? w8 ((p7.add 0).add 3) = some (.slice x12 x12n x12c) ∧ (al w8 42 [.int .i64 0, .string ⟨⟨[]⟩⟩, .int .i64 0, .slice none 0 0] fun p13 w14 =>
  stL w14 p13 0 [.int .i64 x9, .string ⟨⟨x10⟩⟩, .int .i64 x11, .slice x12 x12n x12c] fun w15 =>
  ∀ (K16 : World → Prop), (∀  (w17 : World), (∀ _ : Env, (∃ (x18 : Int), World.cell? w17 (p13.add 0) = some (.int .i64 x18) ∧ (idx (some (⟨0, 0, none⟩)) 12 x18 4 fun p19 =>
  ∃ (x20 : List UInt8), World.cell? w17 (p19.add 0) = some (.string ⟨⟨x20⟩⟩) ∧ (∃ (x21 : Bool), World.cell? w17 (p19.add 1) = some (.bool x21) ∧ (∃ (x22 : Bool), World.cell? w17 (p19.add 2) = some (.bool x22) ∧ (∃ (x23 : Bool), World.cell? w17 (p19.add 3) = some (.bool x23) ∧ (al w17 99 [.string ⟨⟨[]⟩⟩, .bool false, .bool false, .bool false] fun p24 w25 =>
  stL w25 p24 0 [.string ⟨⟨x20⟩⟩, .bool x21, .bool x22, .bool x23] fun w26 =>
  ∃ (x27 : Int), World.cell? w26 (p13.add 0) = some (.int .i64 x27) ∧ (∀ (K28 : Bool → World → Prop), (∀ (t23_29 : Bool) (w30 : World), (∀ _ : Env, (br t23_29 (R (.returned (.int .i64 8)) w30) (∀ (K31 : Bool → World → Prop), (∀ (t53_32 : Bool) (w33 : World), (∀ _ : Env, (br t53_32 (R (.returned (.int .i64 5)) w33) (∀ (K34 : Bool → World → Prop), (∀ (t72_35 : Bool) (w36 : World), (∀ _ : Env, (br t72_35 (R (.returned (.int .i64 11)) w36) (∀ (K37 : Bool → World → Prop), (∀ (t82_38 : Bool) (w39 : World), (∀ _ : Env, (br t82_38 (R (.returned (.int .i64 14)) w39) (∀ (K40 : Bool → World → Prop), (∀ (t110_41 : Bool) (w42 : World), (∀ _ : Env, (br t110_41 (R (.returned (.int .i64 2)) w42) (∀ (K43 : Bool → World → Prop), (∀ (t135_44 : Bool) (w45 : World), (∀ _ : Env, (br t135_44 (R (.returned (.int .i64 10)) w45) (∃ (x46 : Int), World.cell? w45 (p13.add 0) = some (.int .i64 x46) ∧ (br (decide ((x46 : Int) = 4)) (∃ (x47 : Int), World.cell? w45 (p7.add 4) = some (.int .i64 x47) ∧ (br (decide ((0 : Int) < x47)) (R (.returned (.int .i64 12)) w45) (R (.returned (.int .i64 0)) w45))) (R (.returned (.int .i64 0)) w45))))) → K43 t135_44 w45) → (∃ (x48 : Int), World.cell? w42 (p13.add 0) = some (.int .i64 x48) ∧ (br (decide ((x48 : Int) = 1)) (∃ (x49 : Bool), World.cell? w42 (p7.add 5) = some (.bool x49) ∧ (K43 x49 w42)) (K43 false w42)))))) → K40 t110_41 w42) → (∀ (K50 : Bool → World → Prop), (∀ (t110_51 : Bool) (w52 : World), (∀ _ : Env, (br t110_51 (K40 t110_51 w52) (∀ (K53 : Bool → World → Prop), (∀ (t110_54 : Bool) (w55 : World), (∀ _ : Env, (br t110_54 (K40 t110_54 w55) (∃ (x56 : Bool), World.cell? w55 (p24.add 2) = some (.bool x56) ∧ (br x56 (br (!(decide ((x27 : Int) = 6))) (∃ (x57 : Int), World.cell? w55 (p13.add 2) = some (.int .i64 x57) ∧ (K40 (decide ((8 : Int) < x57)) w55)) (K40 false w55)) (K40 false w55))))) → K53 t110_54 w55) → (br (decide ((x27 : Int) = 6)) (∃ (x58 : Int), World.cell? w52 (p13.add 2) = some (.int .i64 x58) ∧ (K53 (decide ((64 : Int) < x58)) w52)) (K53 false w52))))) → K50 t110_51 w52) → (∃ (x59 : Bool), World.cell? w39 (p24.add 2) = some (.bool x59) ∧ (br x59 (∃ (x60 : Int), World.cell? w39 (p13.add 2) = some (.int .i64 x60) ∧ (K50 (decide ((x60 : Int) < 1)) w39)) (K50 false w39))))))) → K37 t82_38 w39) → (∀ (K61 : Bool → World → Prop), (∀ (t82_62 : Bool) (w63 : World), (∀ _ : Env, (br t82_62 (K37 t82_62 w63) (∃ (x64 : Bool), World.cell? w63 (p24.add 1) = some (.bool x64) ∧ (br x64 (∃ (x65 : Int), World.cell? w63 (p13.add 0) = some (.int .i64 x65) ∧ (br (decide ((x65 : Int) ≠ 1)) (∃ (x66 : Int), World.cell? w63 (p13.add 0) = some (.int .i64 x66) ∧ (br (decide ((x66 : Int) ≠ 10)) (∃ (x67 : List UInt8), World.cell? w63 (p13.add 1) = some (.string ⟨⟨x67⟩⟩) ∧ (Calls Tryz.prog 66 ⟨[.string ⟨⟨x67⟩⟩]⟩ w63 fun (e68 : Ending) (w69 : World) =>
  ∃ (x70 : Bool), e68 = .returned (.bool x70) ∧ (K37 (!x70) w69))) (K37 false w63))) (K37 false w63))) (K37 false w63))))) → K61 t82_62 w63) → (∃ (x71 : Int), World.cell? w36 (p13.add 0) = some (.int .i64 x71) ∧ (br (decide ((x71 : Int) = 10)) (∃ (x72 : List UInt8), World.cell? w36 (p13.add 1) = some (.string ⟨⟨x72⟩⟩) ∧ (Calls Tryz.prog 65 ⟨[.string ⟨⟨x72⟩⟩]⟩ w36 fun (e73 : Ending) (w74 : World) =>
  ∃ (x75 : Bool), e73 = .returned (.bool x75) ∧ (K61 (!x75) w74))) (K61 false w36))))))) → K34 t72_35 w36) → (∃ (x76 : Int), World.cell? w33 (p13.add 0) = some (.int .i64 x76) ∧ (br (decide ((x76 : Int) = 1)) (∃ (x77 : List UInt8), World.cell? w33 (p13.add 1) = some (.string ⟨⟨x77⟩⟩) ∧ (Calls Tryz.prog 64 ⟨[.string ⟨⟨x77⟩⟩]⟩ w33 fun (e78 : Ending) (w79 : World) =>
  ∃ (x80 : Int), e78 = .returned (.int .i64 x80) ∧ (K34 (decide ((x80 : Int) ≠ 0)) w79))) (K34 false w33)))))) → K31 t53_32 w33) → (∃ (x81 : Int), World.cell? w30 (p13.add 0) = some (.int .i64 x81) ∧ (br (decide ((x81 : Int) = 1)) (∃ (x82 : List UInt8), World.cell? w30 (p13.add 1) = some (.string ⟨⟨x82⟩⟩) ∧ (br (decide ((x82 : List UInt8) = ([]))) (K31 true w30) (∃ (x83 : Bool), World.cell? w30 (p24.add 3) = some (.bool x83) ∧ (br x83 (∃ (x84 : Option Addr) (x84n : Nat) (x84c : Nat), World.cell? w30 (p13.add 3) = some (.slice x84 x84n x84c) ∧ (K31 (decide ((((x84n : Int)) : Int) = 0)) w30)) (K31 false w30))))) (∃ (x85 : Bool), World.cell? w30 (p24.add 3) = some (.bool x85) ∧ (br x85 (∃ (x86 : Option Addr) (x86n : Nat) (x86c : Nat), World.cell? w30 (p13.add 3) = some (.slice x86 x86n x86c) ∧ (K31 (decide ((((x86n : Int)) : Int) = 0)) w30)) (K31 false w30)))))))) → K28 t23_29 w30) → (∃ (x87 : Bool), World.cell? w26 (p24.add 1) = some (.bool x87) ∧ (br (!x87) (∃ (x88 : List UInt8), World.cell? w26 (p13.add 1) = some (.string ⟨⟨x88⟩⟩) ∧ (br (decide ((x88 : List UInt8) ≠ ([]))) (K28 true w26) (∃ (x89 : Bool), World.cell? w26 (p24.add 2) = some (.bool x89) ∧ (br (!x89) (∃ (x90 : Int), World.cell? w26 (p13.add 2) = some (.int .i64 x90) ∧ (br (decide ((x90 : Int) ≠ 0)) (K28 true w26) (∃ (x91 : Bool), World.cell? w26 (p24.add 3) = some (.bool x91) ∧ (br (!x91) (∃ (x92 : Option Addr) (x92n : Nat) (x92c : Nat), World.cell? w26 (p13.add 3) = some (.slice x92 x92n x92c) ∧ (K28 (decide ((0 : Int) < ((x92n : Int)))) w26)) (K28 false w26))))) (∃ (x93 : Bool), World.cell? w26 (p24.add 3) = some (.bool x93) ∧ (br (!x93) (∃ (x94 : Option Addr) (x94n : Nat) (x94c : Nat), World.cell? w26 (p13.add 3) = some (.slice x94 x94n x94c) ∧ (K28 (decide ((0 : Int) < ((x94n : Int)))) w26)) (K28 false w26))))))) (∃ (x95 : Bool), World.cell? w26 (p24.add 2) = some (.bool x95) ∧ (br (!x95) (∃ (x96 : Int), World.cell? w26 (p13.add 2) = some (.int .i64 x96) ∧ (br (decide ((x96 : Int) ≠ 0)) (K28 true w26) (∃ (x97 : Bool), World.cell? w26 (p24.add 3) = some (.bool x97) ∧ (br (!x97) (∃ (x98 : Option Addr) (x98n : Nat) (x98c : Nat), World.cell? w26 (p13.add 3) = some (.slice x98 x98n x98c) ∧ (K28 (decide ((0 : Int) < ((x98n : Int)))) w26)) (K28 false w26))))) (∃ (x99 : Bool), World.cell? w26 (p24.add 3) = some (.bool x99) ∧ (br (!x99) (∃ (x100 : Option Addr) (x100n : Nat) (x100c : Nat), World.cell? w26 (p13.add 3) = some (.slice x100 x100n x100c) ∧ (K28 (decide ((0 : Int) < ((x100n : Int)))) w26)) (K28 false w26))))))))))))))) → K16 w17) → (∃ (x101 : Int), World.cell? w15 (p13.add 0) = some (.int .i64 x101) ∧ (br (decide ((x101 : Int) < 1)) (R (.returned (.int .i64 8)) w15) (∃ (x102 : Int), World.cell? w15 (p13.add 0) = some (.int .i64 x102) ∧ (br (decide ((11 : Int) < x102)) (R (.returned (.int .i64 8)) w15) (K16 w15)))))))))
set_option maxRecDepth 100000 in
theorem e_transcript_right (p_1 : Int) (p_2 : List UInt8) (p_3 : Int) (p_4 : Option Addr) (p_4n : Nat) (p_4c : Nat) (p_5 : Int) (p_6 : Bool) (R : Ending → World → Prop) (w : World) : fnV Tryz.prog Tryz.f40 an_transcript_right [.agg ⟨[.int .i64 p_1, .string ⟨⟨p_2⟩⟩, .int .i64 p_3, .slice p_4 p_4n p_4c, .int .i64 p_5, .bool p_6]⟩] R w = sh_transcript_right p_1 p_2 p_3 p_4 p_4n p_4c p_5 p_6 R w := by kernel_rfl
theorem c_transcript_right {p_1 : Int} {p_2 : List UInt8} {p_3 : Int} {p_4 : Option Addr} {p_4n : Nat} {p_4c : Nat} {p_5 : Int} {p_6 : Bool} {R : Ending → World → Prop} {w : World} (h : sh_transcript_right p_1 p_2 p_3 p_4 p_4n p_4c p_5 p_6 R w) : Calls Tryz.prog F_transcript_right ⟨[.agg ⟨[.int .i64 p_1, .string ⟨⟨p_2⟩⟩, .int .i64 p_3, .slice p_4 p_4n p_4c, .int .i64 p_5, .bool p_6]⟩]⟩ w R := calls_of_fnV Tryz.func40 (by rw [e_transcript_right]; exact h)

def an_transcript_marked : Ann := .two (.leaf) (.two (.leaf) (.two (.leaf) (.two (.leaf) (.two (.leaf) (.two (.leaf) (.leaf))))))
def sh_transcript_marked (l_1 : Option Addr) (l_1n : Nat) (l_1c : Nat) (R : Ending → World → Prop) (w : World) : Prop :=
  al w 81 [.pointer none, .slice none 0 0] fun p2 w3 =>
  al w3 103 [.nilFunc] fun p4 w5 =>
  stL w5 p4 0 [.func (.func 67) ⟨[]⟩ ⟨[.pointer (some p2), .pointer (some p4)]⟩] fun w6 =>
  ∃ (x7 : Fn) (x7a : Array Value) (x7b : Array Value), World.cell? w6 p4 = some (.func x7 x7a x7b) ∧ (CallV Tryz.prog (.func x7 x7a x7b) [.slice l_1 l_1n l_1c] w6 fun (e8 : Ending) (w9 : World) =>
  e8 = .returned (.tuple ⟨[]⟩) ∧ (Calls Tryz.prog 53 ⟨[.pointer (some p2)]⟩ w9 fun (e10 : Ending) (w11 : World) =>
  ∃ (x12 : List UInt8), e10 = .returned (.string ⟨⟨x12⟩⟩) ∧ (R (.returned (.string ⟨⟨x12⟩⟩)) w11)))
set_option maxRecDepth 100000 in
theorem e_transcript_marked (l_1 : Option Addr) (l_1n : Nat) (l_1c : Nat) (R : Ending → World → Prop) (w : World) : fnV Tryz.prog Tryz.f41 an_transcript_marked [.slice l_1 l_1n l_1c] R w = sh_transcript_marked l_1 l_1n l_1c R w := by kernel_rfl
theorem c_transcript_marked {l_1 : Option Addr} {l_1n : Nat} {l_1c : Nat} {R : Ending → World → Prop} {w : World} (h : sh_transcript_marked l_1 l_1n l_1c R w) : Calls Tryz.prog F_transcript_marked ⟨[.slice l_1 l_1n l_1c]⟩ w R := calls_of_fnV Tryz.func41 (by rw [e_transcript_marked]; exact h)

def an_hands_walk_1 : Ann := .two (.leaf) (.two (.leaf) (.two (.leaf) (.leaf)))
def sh_hands_walk_1 (yield_1 : Fn) (yield_1a : Array Value) (yield_1b : Array Value) (t1_2 : Option Addr) (R : Ending → World → Prop) (w : World) : Prop :=
  al w 51 [.func yield_1 yield_1a yield_1b] fun p3 w4 =>
  al w4 70 [.nilFunc] fun p5 w6 =>
  stL w6 p5 0 [.func (.func 43) ⟨[]⟩ ⟨[.pointer (some p3), .pointer (some p5)]⟩] fun w7 =>
  ∃ (x8 : Fn) (x8a : Array Value) (x8b : Array Value), World.cell? w7 p5 = some (.func x8 x8a x8b) ∧ (dr t1_2 fun p9 =>
  ∃ (x10 : Option Addr) (x10n : Nat) (x10c : Nat), World.cell? w7 p9 = some (.slice x10 x10n x10c) ∧ (CallV Tryz.prog (.func x8 x8a x8b) [.slice x10 x10n x10c] w7 fun (e11 : Ending) (w12 : World) =>
  ∃ (x13 : Bool), e11 = .returned (.bool x13) ∧ (R (.returned (.tuple ⟨[]⟩)) w12)))
set_option maxRecDepth 100000 in
theorem e_hands_walk_1 (yield_1 : Fn) (yield_1a : Array Value) (yield_1b : Array Value) (t1_2 : Option Addr) (R : Ending → World → Prop) (w : World) : fnV Tryz.prog Tryz.f42 an_hands_walk_1 [.func yield_1 yield_1a yield_1b, .pointer t1_2] R w = sh_hands_walk_1 yield_1 yield_1a yield_1b t1_2 R w := by kernel_rfl
theorem c_hands_walk_1 {yield_1 : Fn} {yield_1a : Array Value} {yield_1b : Array Value} {t1_2 : Option Addr} {R : Ending → World → Prop} {w : World} (h : sh_hands_walk_1 yield_1 yield_1a yield_1b t1_2 R w) : Calls Tryz.prog F_hands_walk_1 ⟨[.func yield_1 yield_1a yield_1b, .pointer t1_2]⟩ w R := calls_of_fnV Tryz.func42 (by rw [e_hands_walk_1]; exact h)

def an_hands_walk_1_1 : Ann := .two (.leaf) (.two (.two (.leaf) (.one (.loop 33554000 [(9, .one (.int .i64))] (.two (.leaf) (.two (.two (.leaf) (.leaf)) (.two (.one (.two (.leaf) (.two (.leaf) (.two (.two (.leaf) (.leaf)) (.leaf))))) (.leaf))))))) (.two (.leaf) (.leaf)))
def sh_hands_walk_1_1 (l_1 : Option Addr) (l_1n : Nat) (l_1c : Nat) (t1_2 : Option Addr) (t2_3 : Option Addr) (R : Ending → World → Prop) (w : World) : Prop :=
  ∃ (I4 : Int → World → Nat → Prop), (∃ m8 : Nat, I4 0 w m8) ∧ ∀ (t9_5 : Int) (w6 : World) (m7 : Nat), I4 t9_5 w6 m7 → ∀ _ : Env, (br (decide ((t9_5 : Int) < ((l_1n : Int)))) (idx l_1 l_1n t9_5 4 fun p9 =>
  ∃ (x10 : Int), World.cell? w6 (p9.add 0) = some (.int .i64 x10) ∧ (∃ (x11 : List UInt8), World.cell? w6 (p9.add 1) = some (.string ⟨⟨x11⟩⟩) ∧ (∃ (x12 : Int), World.cell? w6 (p9.add 2) = some (.int .i64 x12) ∧ (∃ (x13 : Option Addr) (x13n : Nat) (x13c : Nat), World.cell? w6 (p9.add 3) = some (.slice x13 x13n x13c) ∧ (al w6 42 [.int .i64 0, .string ⟨⟨[]⟩⟩, .int .i64 0, .slice none 0 0] fun p14 w15 =>
  stL w15 p14 0 [.int .i64 x10, .string ⟨⟨x11⟩⟩, .int .i64 x12, .slice x13 x13n x13c] fun w16 =>
  dr t1_2 fun p17 =>
  ∃ (x18 : Fn) (x18a : Array Value) (x18b : Array Value), World.cell? w16 p17 = some (.func x18 x18a x18b) ∧ (∃ (x19 : Int), World.cell? w16 (p14.add 0) = some (.int .i64 x19) ∧ (∃ (x20 : List UInt8), World.cell? w16 (p14.add 1) = some (.string ⟨⟨x20⟩⟩) ∧ (∃ (x21 : Int), World.cell? w16 (p14.add 2) = some (.int .i64 x21) ∧ (∃ (x22 : Option Addr) (x22n : Nat) (x22c : Nat), World.cell? w16 (p14.add 3) = some (.slice x22 x22n x22c) ∧ (CallV Tryz.prog (.func x18 x18a x18b) [.agg ⟨[.int .i64 x19, .string ⟨⟨x20⟩⟩, .int .i64 x21, .slice x22 x22n x22c]⟩] w16 fun (e23 : Ending) (w24 : World) =>
  ∃ (x25 : Bool), e23 = .returned (.bool x25) ∧ (br (!x25) (R (.returned (.bool false)) w24) (dr t2_3 fun p26 =>
  ∃ (x27 : Fn) (x27a : Array Value) (x27b : Array Value), World.cell? w24 p26 = some (.func x27 x27a x27b) ∧ (∃ (x28 : Option Addr) (x28n : Nat) (x28c : Nat), World.cell? w24 (p14.add 3) = some (.slice x28 x28n x28c) ∧ (CallV Tryz.prog (.func x27 x27a x27b) [.slice x28 x28n x28c] w24 fun (e29 : Ending) (w30 : World) =>
  ∃ (x31 : Bool), e29 = .returned (.bool x31) ∧ (br (!x31) (R (.returned (.bool false)) w30) (∃ m32 : Nat, m32 < m7 ∧ I4 (IntKind.i64.wrap (t9_5 + 1)) w30 m32)))))))))))))))) (R (.returned (.bool true)) w6))
set_option maxRecDepth 100000 in
theorem e_hands_walk_1_1 (l_1 : Option Addr) (l_1n : Nat) (l_1c : Nat) (t1_2 : Option Addr) (t2_3 : Option Addr) (R : Ending → World → Prop) (w : World) : fnV Tryz.prog Tryz.f43 an_hands_walk_1_1 [.slice l_1 l_1n l_1c, .pointer t1_2, .pointer t2_3] R w = sh_hands_walk_1_1 l_1 l_1n l_1c t1_2 t2_3 R w := by kernel_rfl
theorem c_hands_walk_1_1 {l_1 : Option Addr} {l_1n : Nat} {l_1c : Nat} {t1_2 : Option Addr} {t2_3 : Option Addr} {R : Ending → World → Prop} {w : World} (h : sh_hands_walk_1_1 l_1 l_1n l_1c t1_2 t2_3 R w) : Calls Tryz.prog F_hands_walk_1_1 ⟨[.slice l_1 l_1n l_1c, .pointer t1_2, .pointer t2_3]⟩ w R := calls_of_fnV Tryz.func43 (by rw [e_hands_walk_1_1]; exact h)

def an_ref10_size : Ann := .two (.leaf) (.two (.leaf) (.two (.two (.leaf) (.one (.loop 576460752303423424 [(9, .one (.int .i64)), (10, .one (.int .i64)), (11, .one (.int .i64))] (.two (.two (.leaf) (.two (.leaf) (.leaf))) (.two (.one (.two (.leaf) (.two (.two (.leaf) (.two (.two (.leaf) (.leaf)) (.leaf))) (.two (.two (.leaf) (.two (.leaf) (.leaf))) (.two (.two (.leaf) (.two (.two (.leaf) (.leaf)) (.leaf))) (.two (.leaf) (.two (.two (.leaf) (.two (.two (.leaf) (.leaf)) (.leaf))) (.two (.leaf) (.leaf))))))))) (.leaf)))))) (.two (.leaf) (.leaf))))
def sh_ref10_size (l_1 : Option Addr) (l_1n : Nat) (l_1c : Nat) (depth_2 : Int) (most_3 : Int) (R : Ending → World → Prop) (w : World) : Prop :=
  ∃ (I4 : Int → Int → Int → World → Nat → Prop), (∃ m10 : Nat, I4 0 0 0 w m10) ∧ ∀ (n_5 : Int) (deep_6 : Int) (i_7 : Int) (w8 : World) (m9 : Nat), I4 n_5 deep_6 i_7 w8 m9 → ∀ _ : Env, (br (decide ((i_7 : Int) < ((l_1n : Int)))) (br (decide ((most_3 : Int) < (IntKind.i64.wrap (n_5 + 1)))) (R (.returned (.tuple ⟨[.int .i64 0, .int .i64 0, .bool false]⟩)) w8) (idx l_1 l_1n i_7 4 fun p11 =>
  ∃ (x12 : Option Addr) (x12n : Nat) (x12c : Nat), World.cell? w8 (p11.add 3) = some (.slice x12 x12n x12c) ∧ (br (decide ((((x12n : Int)) : Int) = 0)) (∃ m13 : Nat, m13 < m9 ∧ I4 (IntKind.i64.wrap (n_5 + 1)) deep_6 (IntKind.i64.wrap (i_7 + 1)) w8 m13) (br (decide ((depth_2 : Int) = 0)) (R (.returned (.tuple ⟨[.int .i64 0, .int .i64 0, .bool false]⟩)) w8) (idx l_1 l_1n i_7 4 fun p14 =>
  ∃ (x15 : Option Addr) (x15n : Nat) (x15c : Nat), World.cell? w8 (p14.add 3) = some (.slice x15 x15n x15c) ∧ (Calls Tryz.prog 44 ⟨[.slice x15 x15n x15c, .int .i64 (IntKind.i64.wrap (depth_2 - 1)), .int .i64 (IntKind.i64.wrap (most_3 - (IntKind.i64.wrap (n_5 + 1))))]⟩ w8 fun (e16 : Ending) (w17 : World) =>
  ∃ (x18 : Int) (x19 : Int) (x20 : Bool), e16 = .returned (.tuple ⟨[.int .i64 x18, .int .i64 x19, .bool x20]⟩) ∧ (br (!x20) (R (.returned (.tuple ⟨[.int .i64 0, .int .i64 0, .bool false]⟩)) w17) (∃ m21 : Nat, m21 < m9 ∧ I4 (IntKind.i64.wrap ((IntKind.i64.wrap (n_5 + 1)) + x18)) ((max deep_6 (IntKind.i64.wrap (x19 + 1)))) (IntKind.i64.wrap (i_7 + 1)) w17 m21)))))))) (R (.returned (.tuple ⟨[.int .i64 n_5, .int .i64 deep_6, .bool true]⟩)) w8))
set_option maxRecDepth 100000 in
theorem e_ref10_size (l_1 : Option Addr) (l_1n : Nat) (l_1c : Nat) (depth_2 : Int) (most_3 : Int) (R : Ending → World → Prop) (w : World) : fnV Tryz.prog Tryz.f44 an_ref10_size [.slice l_1 l_1n l_1c, .int .i64 depth_2, .int .i64 most_3] R w = sh_ref10_size l_1 l_1n l_1c depth_2 most_3 R w := by kernel_rfl
theorem c_ref10_size {l_1 : Option Addr} {l_1n : Nat} {l_1c : Nat} {depth_2 : Int} {most_3 : Int} {R : Ending → World → Prop} {w : World} (h : sh_ref10_size l_1 l_1n l_1c depth_2 most_3 R w) : Calls Tryz.prog F_ref10_size ⟨[.slice l_1 l_1n l_1c, .int .i64 depth_2, .int .i64 most_3]⟩ w R := calls_of_fnV Tryz.func44 (by rw [e_ref10_size]; exact h)

def an_ref10_all : Ann := .two (.leaf) (.two (.two (.leaf) (.one (.loop 8796093022192 [(5, .one (.int .i64))] (.two (.two (.leaf) (.two (.leaf) (.leaf))) (.two (.one (.two (.cut 2147467328 [(6, .one (.int .i64))] (.leaf) (.two (.leaf) (.two (.two (.leaf) (.leaf)) (.leaf)))) (.two (.leaf) (.two (.leaf) (.two (.two (.leaf) (.leaf)) (.leaf)))))) (.leaf)))))) (.two (.leaf) (.leaf)))
def sh_ref10_all (l_1 : Option Addr) (l_1n : Nat) (l_1c : Nat) (within_2 : Bool) (R : Ending → World → Prop) (w : World) : Prop :=
  ∃ (I3 : Int → World → Nat → Prop), (∃ m7 : Nat, I3 0 w m7) ∧ ∀ (i_4 : Int) (w5 : World) (m6 : Nat), I3 i_4 w5 m6 → ∀ _ : Env, (br (decide ((i_4 : Int) < ((l_1n : Int)))) (∀ (K8 : Int → World → Prop), (∀ (e_9 : Int) (w10 : World), (∀ _ : Env, (br (decide ((e_9 : Int) ≠ 0)) (R (.returned (.int .i64 e_9)) w10) (idx l_1 l_1n i_4 4 fun p11 =>
  ∃ (x12 : Option Addr) (x12n : Nat) (x12c : Nat), World.cell? w10 (p11.add 3) = some (.slice x12 x12n x12c) ∧ (Calls Tryz.prog 45 ⟨[.slice x12 x12n x12c, .bool true]⟩ w10 fun (e13 : Ending) (w14 : World) =>
  ∃ (x15 : Int), e13 = .returned (.int .i64 x15) ∧ (br (decide ((x15 : Int) ≠ 0)) (R (.returned (.int .i64 x15)) w14) (∃ m16 : Nat, m16 < m6 ∧ I3 (IntKind.i64.wrap (i_4 + 1)) w14 m16)))))) → K8 e_9 w10) → (drw w5 fun w17 =>
  idx l_1 l_1n i_4 4 fun p18 =>
  ∃ (x19 : Int), World.cell? w17 (p18.add 0) = some (.int .i64 x19) ∧ (∃ (x20 : List UInt8), World.cell? w17 (p18.add 1) = some (.string ⟨⟨x20⟩⟩) ∧ (∃ (x21 : Int), World.cell? w17 (p18.add 2) = some (.int .i64 x21) ∧ (∃ (x22 : Option Addr) (x22n : Nat) (x22c : Nat), World.cell? w17 (p18.add 3) = some (.slice x22 x22n x22c) ∧ (br (decide ((0 : Int) < i_4)) (idx l_1 l_1n (IntKind.i64.wrap (i_4 - 1)) 4 fun p23 =>
  ∃ (x24 : Int), World.cell? w17 (p23.add 0) = some (.int .i64 x24) ∧ ((Calls Tryz.prog 69 ⟨[.agg ⟨[.int .i64 x19, .string ⟨⟨x20⟩⟩, .int .i64 x21, .slice x22 x22n x22c]⟩, .bool (decide ((x24 : Int) = 1)), .bool within_2]⟩ w17 fun (e25 : Ending) (w26 : World) =>
  ∃ (x27 : Int), e25 = .returned (.int .i64 x27) ∧ (K8 x27 w26)) ∧ True)) ((Calls Tryz.prog 69 ⟨[.agg ⟨[.int .i64 x19, .string ⟨⟨x20⟩⟩, .int .i64 x21, .slice x22 x22n x22c]⟩, .bool false, .bool within_2]⟩ w17 fun (e28 : Ending) (w29 : World) =>
  ∃ (x30 : Int), e28 = .returned (.int .i64 x30) ∧ (K8 x30 w29)) ∧ True))))))) (R (.returned (.int .i64 0)) w5))
set_option maxRecDepth 100000 in
theorem e_ref10_all (l_1 : Option Addr) (l_1n : Nat) (l_1c : Nat) (within_2 : Bool) (R : Ending → World → Prop) (w : World) : fnV Tryz.prog Tryz.f45 an_ref10_all [.slice l_1 l_1n l_1c, .bool within_2] R w = sh_ref10_all l_1 l_1n l_1c within_2 R w := by kernel_rfl
theorem c_ref10_all {l_1 : Option Addr} {l_1n : Nat} {l_1c : Nat} {within_2 : Bool} {R : Ending → World → Prop} {w : World} (h : sh_ref10_all l_1 l_1n l_1c within_2 R w) : Calls Tryz.prog F_ref10_all ⟨[.slice l_1 l_1n l_1c, .bool within_2]⟩ w R := calls_of_fnV Tryz.func45 (by rw [e_ref10_all]; exact h)

def an_ref10_print : Ann := .two (.leaf) (.two (.leaf) (.two (.two (.leaf) (.one (.loop 147573952589676412920 [(3, .one (.str)), (4, .one (.int .i64))] (.two (.two (.leaf) (.two (.leaf) (.leaf))) (.two (.one (.two (.leaf) (.two (.two (.leaf) (.two (.two (.leaf) (.leaf)) (.leaf))) (.two (.leaf) (.cut 68451041344 [(6, .one (.str))] (.two (.leaf) (.two (.leaf) (.leaf))) (.cut 35115652612160 [(6, .one (.str))] (.two (.leaf) (.two (.leaf) (.leaf))) (.two (.two (.leaf) (.two (.two (.leaf) (.leaf)) (.leaf))) (.leaf)))))))) (.leaf)))))) (.two (.leaf) (.leaf))))
def sh_ref10_print (l_1 : Option Addr) (l_1n : Nat) (l_1c : Nat) (R : Ending → World → Prop) (w : World) : Prop :=
  ∃ (I2 : List UInt8 → Int → World → Nat → Prop), (∃ m7 : Nat, I2 ([]) 0 w m7) ∧ ∀ (out_3 : List UInt8) (i_4 : Int) (w5 : World) (m6 : Nat), I2 out_3 i_4 w5 m6 → ∀ _ : Env, (br (decide ((i_4 : Int) < ((l_1n : Int)))) (idx l_1 l_1n i_4 4 fun p8 =>
  ∃ (x9 : Int), World.cell? w5 (p8.add 0) = some (.int .i64 x9) ∧ (∃ (x10 : List UInt8), World.cell? w5 (p8.add 1) = some (.string ⟨⟨x10⟩⟩) ∧ (∃ (x11 : Int), World.cell? w5 (p8.add 2) = some (.int .i64 x11) ∧ (∃ (x12 : Option Addr) (x12n : Nat) (x12c : Nat), World.cell? w5 (p8.add 3) = some (.slice x12 x12n x12c) ∧ (al w5 42 [.int .i64 0, .string ⟨⟨[]⟩⟩, .int .i64 0, .slice none 0 0] fun p13 w14 =>
  stL w14 p13 0 [.int .i64 x9, .string ⟨⟨x10⟩⟩, .int .i64 x11, .slice x12 x12n x12c] fun w15 =>
  ∃ (x16 : Int), World.cell? w15 (p13.add 0) = some (.int .i64 x16) ∧ (br (decide ((x16 : Int) = 1)) (∃ (x17 : List UInt8), World.cell? w15 (p13.add 1) = some (.string ⟨⟨x17⟩⟩) ∧ (sadd out_3 x17 fun s18 =>
  ∃ m19 : Nat, m19 < m6 ∧ I2 s18 (IntKind.i64.wrap (i_4 + 1)) w15 m19)) (∃ (x20 : Int), World.cell? w15 (p13.add 0) = some (.int .i64 x20) ∧ (Calls Tryz.prog 70 ⟨[.int .i64 x20]⟩ w15 fun (e21 : Ending) (w22 : World) =>
  ∃ (x23 : List UInt8), e21 = .returned (.string ⟨⟨x23⟩⟩) ∧ (sadd ([60]) x23 fun s24 =>
  ∀ (K25 : List UInt8 → World → Prop), (∀ (tag_26 : List UInt8) (w27 : World), (∀ _ : Env, (∀ (K28 : List UInt8 → World → Prop), (∀ (tag_29 : List UInt8) (w30 : World), (∀ _ : Env, (∃ (x31 : Int), World.cell? w30 (p13.add 0) = some (.int .i64 x31) ∧ (Calls Tryz.prog 74 ⟨[.int .i64 x31]⟩ w30 fun (e32 : Ending) (w33 : World) =>
  ∃ (x34 : Bool), e32 = .returned (.bool x34) ∧ (br (!x34) (sadd out_3 tag_29 fun s35 =>
  sadd s35 ([47, 62]) fun s36 =>
  ∃ m37 : Nat, m37 < m6 ∧ I2 s36 (IntKind.i64.wrap (i_4 + 1)) w33 m37) (drw w33 fun w38 =>
  sadd out_3 tag_29 fun s39 =>
  sadd s39 ([62]) fun s40 =>
  ∃ (x41 : Option Addr) (x41n : Nat) (x41c : Nat), World.cell? w38 (p13.add 3) = some (.slice x41 x41n x41c) ∧ ((Calls Tryz.prog 46 ⟨[.slice x41 x41n x41c]⟩ w38 fun (e42 : Ending) (w43 : World) =>
  ∃ (x44 : List UInt8), e42 = .returned (.string ⟨⟨x44⟩⟩) ∧ (sadd s40 x44 fun s45 =>
  sadd s45 ([60, 47]) fun s46 =>
  ∃ (x47 : Int), World.cell? w43 (p13.add 0) = some (.int .i64 x47) ∧ ((Calls Tryz.prog 70 ⟨[.int .i64 x47]⟩ w43 fun (e48 : Ending) (w49 : World) =>
  ∃ (x50 : List UInt8), e48 = .returned (.string ⟨⟨x50⟩⟩) ∧ (sadd s46 x50 fun s51 =>
  sadd s51 ([62]) fun s52 =>
  ∃ m53 : Nat, m53 < m6 ∧ I2 s52 (IntKind.i64.wrap (i_4 + 1)) w49 m53)) ∧ True))) ∧ ((Calls Tryz.prog 46 ⟨[.slice x41 x41n x41c]⟩ w38 fun (e54 : Ending) (w55 : World) =>
  ∃ (x56 : List UInt8), e54 = .returned (.string ⟨⟨x56⟩⟩) ∧ (sadd s40 x56 fun s57 =>
  sadd s57 ([60, 47]) fun s58 =>
  ∃ (x59 : Int), World.cell? w55 (p13.add 0) = some (.int .i64 x59) ∧ ((Calls Tryz.prog 70 ⟨[.int .i64 x59]⟩ w55 fun (e60 : Ending) (w61 : World) =>
  ∃ (x62 : List UInt8), e60 = .returned (.string ⟨⟨x62⟩⟩) ∧ (sadd s58 x62 fun s63 =>
  sadd s63 ([62]) fun s64 =>
  ∃ m65 : Nat, m65 < m6 ∧ I2 s64 (IntKind.i64.wrap (i_4 + 1)) w61 m65)) ∧ True))) ∧ (∃ (x66 : Int), World.cell? w38 (p13.add 0) = some (.int .i64 x66) ∧ ((Calls Tryz.prog 46 ⟨[.slice x41 x41n x41c]⟩ w38 fun (e67 : Ending) (w68 : World) =>
  ∃ (x69 : List UInt8), e67 = .returned (.string ⟨⟨x69⟩⟩) ∧ (sadd s40 x69 fun s70 =>
  sadd s70 ([60, 47]) fun s71 =>
  (Calls Tryz.prog 70 ⟨[.int .i64 x66]⟩ w68 fun (e72 : Ending) (w73 : World) =>
  ∃ (x74 : List UInt8), e72 = .returned (.string ⟨⟨x74⟩⟩) ∧ (sadd s71 x74 fun s75 =>
  sadd s75 ([62]) fun s76 =>
  ∃ m77 : Nat, m77 < m6 ∧ I2 s76 (IntKind.i64.wrap (i_4 + 1)) w73 m77)) ∧ True)) ∧ True)) ∧ True) ∧ True)))))) → K28 tag_29 w30) → (∃ (x78 : Int), World.cell? w27 (p13.add 0) = some (.int .i64 x78) ∧ (Calls Tryz.prog 72 ⟨[.int .i64 x78]⟩ w27 fun (e79 : Ending) (w80 : World) =>
  ∃ (x81 : Bool), e79 = .returned (.bool x81) ∧ (br x81 (sadd tag_26 ([32]) fun s82 =>
  ∃ (x83 : Int), World.cell? w80 (p13.add 2) = some (.int .i64 x83) ∧ (Calls Tryz.prog 73 ⟨[.int .i64 x83]⟩ w80 fun (e84 : Ending) (w85 : World) =>
  ∃ (x86 : List UInt8), e84 = .returned (.string ⟨⟨x86⟩⟩) ∧ (sadd s82 x86 fun s87 =>
  K28 s87 w85))) (K28 tag_26 w80)))))) → K25 tag_26 w27) → (∃ (x88 : Int), World.cell? w22 (p13.add 0) = some (.int .i64 x88) ∧ (Calls Tryz.prog 71 ⟨[.int .i64 x88]⟩ w22 fun (e89 : Ending) (w90 : World) =>
  ∃ (x91 : Bool), e89 = .returned (.bool x91) ∧ (br x91 (sadd s24 ([32]) fun s92 =>
  ∃ (x93 : List UInt8), World.cell? w90 (p13.add 1) = some (.string ⟨⟨x93⟩⟩) ∧ (sadd s92 x93 fun s94 =>
  K25 s94 w90)) (K25 s24 w90))))))))))))) (R (.returned (.string ⟨⟨out_3⟩⟩)) w5))
set_option maxRecDepth 100000 in
theorem e_ref10_print (l_1 : Option Addr) (l_1n : Nat) (l_1c : Nat) (R : Ending → World → Prop) (w : World) : fnV Tryz.prog Tryz.f46 an_ref10_print [.slice l_1 l_1n l_1c] R w = sh_ref10_print l_1 l_1n l_1c R w := by kernel_rfl
theorem c_ref10_print {l_1 : Option Addr} {l_1n : Nat} {l_1c : Nat} {R : Ending → World → Prop} {w : World} (h : sh_ref10_print l_1 l_1n l_1c R w) : Calls Tryz.prog F_ref10_print ⟨[.slice l_1 l_1n l_1c]⟩ w R := calls_of_fnV Tryz.func46 (by rw [e_ref10_print]; exact h)

def an_slices_IndexFunc_of_api_Node_api_Node : Ann := .two (.leaf) (.two (.two (.leaf) (.one (.loop 524080 [(8, .one (.int .i64))] (.two (.leaf) (.two (.two (.leaf) (.leaf)) (.two (.one (.two (.leaf) (.two (.leaf) (.two (.two (.leaf) (.leaf)) (.leaf))))) (.leaf))))))) (.two (.leaf) (.leaf)))
def sh_slices_IndexFunc_of_api_Node_api_Node (s_1 : Option Addr) (s_1n : Nat) (s_1c : Nat) (f_2 : Fn) (f_2a : Array Value) (f_2b : Array Value) (R : Ending → World → Prop) (w : World) : Prop :=
  ∃ (I3 : Int → World → Nat → Prop), (∃ m7 : Nat, I3 0 w m7) ∧ ∀ (t8_4 : Int) (w5 : World) (m6 : Nat), I3 t8_4 w5 m6 → ∀ _ : Env, (br (decide ((t8_4 : Int) < ((s_1n : Int)))) (idx s_1 s_1n t8_4 4 fun p8 =>
  ∃ (x9 : Int), World.cell? w5 (p8.add 0) = some (.int .i64 x9) ∧ (∃ (x10 : List UInt8), World.cell? w5 (p8.add 1) = some (.string ⟨⟨x10⟩⟩) ∧ (∃ (x11 : Int), World.cell? w5 (p8.add 2) = some (.int .i64 x11) ∧ (∃ (x12 : Option Addr) (x12n : Nat) (x12c : Nat), World.cell? w5 (p8.add 3) = some (.slice x12 x12n x12c) ∧ (CallV Tryz.prog (.func f_2 f_2a f_2b) [.agg ⟨[.int .i64 x9, .string ⟨⟨x10⟩⟩, .int .i64 x11, .slice x12 x12n x12c]⟩] w5 fun (e13 : Ending) (w14 : World) =>
  ∃ (x15 : Bool), e13 = .returned (.bool x15) ∧ (br x15 (R (.returned (.int .i64 t8_4)) w14) (∃ m16 : Nat, m16 < m6 ∧ I3 (IntKind.i64.wrap (t8_4 + 1)) w14 m16))))))) (R (.returned (.int .i64 ((-1)))) w5))
set_option maxRecDepth 100000 in
theorem e_slices_IndexFunc_of_api_Node_api_Node (s_1 : Option Addr) (s_1n : Nat) (s_1c : Nat) (f_2 : Fn) (f_2a : Array Value) (f_2b : Array Value) (R : Ending → World → Prop) (w : World) : fnV Tryz.prog Tryz.f47 an_slices_IndexFunc_of_api_Node_api_Node [.slice s_1 s_1n s_1c, .func f_2 f_2a f_2b] R w = sh_slices_IndexFunc_of_api_Node_api_Node s_1 s_1n s_1c f_2 f_2a f_2b R w := by kernel_rfl
theorem c_slices_IndexFunc_of_api_Node_api_Node {s_1 : Option Addr} {s_1n : Nat} {s_1c : Nat} {f_2 : Fn} {f_2a : Array Value} {f_2b : Array Value} {R : Ending → World → Prop} {w : World} (h : sh_slices_IndexFunc_of_api_Node_api_Node s_1 s_1n s_1c f_2 f_2a f_2b R w) : Calls Tryz.prog F_slices_IndexFunc_of_api_Node_api_Node ⟨[.slice s_1 s_1n s_1c, .func f_2 f_2a f_2b]⟩ w R := calls_of_fnV Tryz.func47 (by rw [e_slices_IndexFunc_of_api_Node_api_Node]; exact h)

def an_slices_AppendSeq_of_api_Node_api_Node : Ann := .two (.leaf) (.two (.two (.leaf) (.one (.rf [2, 4, 6] 0))) (.two (.leaf) (.leaf)))
def sh_slices_AppendSeq_of_api_Node_api_Node (s_1 : Option Addr) (s_1n : Nat) (s_1c : Nat) (seq_2 : Fn) (seq_2a : Array Value) (seq_2b : Array Value) (R : Ending → World → Prop) (w : World) : Prop :=
  al w 22 [.slice s_1 s_1n s_1c] fun p3 w4 =>
  ∀ base5 : Env, RFw Tryz.prog none 15 (cdAt Tryz.f48 [1, 0, 1, 2]) (upd (upd (upd base5 6 (.func seq_2 seq_2a seq_2b)) 4 (.slice none 0 0)) 2 (.pointer (some p3))) [] w4 0 (fun ds6 w7 =>
  ∃ (x10 : Option Addr) (x10n : Nat) (x10c : Nat), World.cell? w7 p3 = some (.slice x10 x10n x10c) ∧ (retD ds6 w7 fun w11 =>
  R (.returned (.slice x10 x10n x10c)) w11)) (fun ds6 w7 =>
  retD ds6 w7 fun w12 =>
  R (.returned (.slice none 0 0)) w12) (fun ds6 w7 =>
  ∃ (x8 : Option Addr) (x8n : Nat) (x8c : Nat), World.cell? w7 p3 = some (.slice x8 x8n x8c) ∧ (retD ds6 w7 fun w9 =>
  R (.returned (.slice x8 x8n x8c)) w9))
set_option maxRecDepth 100000 in
theorem e_slices_AppendSeq_of_api_Node_api_Node (s_1 : Option Addr) (s_1n : Nat) (s_1c : Nat) (seq_2 : Fn) (seq_2a : Array Value) (seq_2b : Array Value) (R : Ending → World → Prop) (w : World) : fnV Tryz.prog Tryz.f48 an_slices_AppendSeq_of_api_Node_api_Node [.slice s_1 s_1n s_1c, .func seq_2 seq_2a seq_2b] R w = sh_slices_AppendSeq_of_api_Node_api_Node s_1 s_1n s_1c seq_2 seq_2a seq_2b R w := by kernel_rfl
theorem c_slices_AppendSeq_of_api_Node_api_Node {s_1 : Option Addr} {s_1n : Nat} {s_1c : Nat} {seq_2 : Fn} {seq_2a : Array Value} {seq_2b : Array Value} {R : Ending → World → Prop} {w : World} (h : sh_slices_AppendSeq_of_api_Node_api_Node s_1 s_1n s_1c seq_2 seq_2a seq_2b R w) : Calls Tryz.prog F_slices_AppendSeq_of_api_Node_api_Node ⟨[.slice s_1 s_1n s_1c, .func seq_2 seq_2a seq_2b]⟩ w R := calls_of_fnV Tryz.func48 (by rw [e_slices_AppendSeq_of_api_Node_api_Node]; exact h)
def anA_slices_AppendSeq_of_api_Node_api_Node_1 : Ann := .leaf
def anB_slices_AppendSeq_of_api_Node_api_Node_1 : Ann := .one (.leaf)
def rf_slices_AppendSeq_of_api_Node_api_Node_1 (s_13 : Option Addr) (t4_14 : Option Addr) (t4_14n : Nat) (t4_14c : Nat) (t6_15 : Fn) (t6_15a : Array Value) (t6_15b : Array Value) (t7_16 : Int) (t7_17 : List UInt8) (t7_18 : Int) (t7_19 : Option Addr) (t7_19n : Nat) (t7_19c : Nat) (l : Nat) (Kn Kr Kx : World → World → Prop) (w : World) : Prop :=
  al w 42 [.int .i64 0, .string ⟨⟨[]⟩⟩, .int .i64 0, .slice none 0 0] fun p21 w22 =>
  stL w22 p21 0 [.int .i64 t7_16, .string ⟨⟨t7_17⟩⟩, .int .i64 t7_18, .slice t7_19 t7_19n t7_19c] fun w23 =>
  Ext w w23 ∧ ∀ w20 : World, Upd l w23 w20 → (drw w20 fun w24 =>
  dr s_13 fun p25 =>
  ∃ (x26 : Option Addr) (x26n : Nat) (x26c : Nat), World.cell? w24 p25 = some (.slice x26 x26n x26c) ∧ (∃ (x27 : Int), World.cell? w24 (p21.add 0) = some (.int .i64 x27) ∧ (∃ (x28 : List UInt8), World.cell? w24 (p21.add 1) = some (.string ⟨⟨x28⟩⟩) ∧ (∃ (x29 : Int), World.cell? w24 (p21.add 2) = some (.int .i64 x29) ∧ (∃ (x30 : Option Addr) (x30n : Nat) (x30c : Nat), World.cell? w24 (p21.add 3) = some (.slice x30 x30n x30c) ∧ ((al w24 42 [.int .i64 0, .string ⟨⟨[]⟩⟩, .int .i64 0, .slice none 0 0] fun p31 w32 =>
  (app Tryz.prog [22, 22] 22 (.slice x26 x26n x26c) (.slice (some p31) 1 1) w32 fun a33 a33n a33c w34 =>
  idx a33 a33n ((x26n : Int)) 4 fun p35 =>
  (stL w34 p35 0 [.int .i64 x27, .string ⟨⟨x28⟩⟩, .int .i64 x29, .slice x30 x30n x30c] fun w36 =>
  (dr s_13 fun p38 =>
  stL w36 p38 0 [.slice a33 a33n a33c] fun w37 =>
  Kn w20 w37) ∧ True) ∧ (dr s_13 fun p40 =>
  stL w34 p40 0 [.slice a33 a33n a33c] fun w39 =>
  (stL w39 p35 0 [.int .i64 x27, .string ⟨⟨x28⟩⟩, .int .i64 x29, .slice x30 x30n x30c] fun w41 =>
  Kn w20 w41) ∧ True) ∧ True) ∧ True) ∧ True))))))
set_option maxRecDepth 100000 in
theorem er_slices_AppendSeq_of_api_Node_api_Node_1 (base : Env) (s_13 : Option Addr) (t4_14 : Option Addr) (t4_14n : Nat) (t4_14c : Nat) (t6_15 : Fn) (t6_15a : Array Value) (t6_15b : Array Value) (t7_16 : Int) (t7_17 : List UInt8) (t7_18 : Int) (t7_19 : Option Addr) (t7_19n : Nat) (t7_19c : Nat) (l : Nat) (Kn Kr Kx : World → World → Prop) (w : World) : fragV Tryz.prog 15 anA_slices_AppendSeq_of_api_Node_api_Node_1 anB_slices_AppendSeq_of_api_Node_api_Node_1 (cdAt Tryz.f48 [1, 0, 1, 2, 5]) (cdAt Tryz.f48 [1, 0, 1, 2, 6]) l 0 Kn Kr Kx (updPs [7] [.agg ⟨[.int .i64 t7_16, .string ⟨⟨t7_17⟩⟩, .int .i64 t7_18, .slice t7_19 t7_19n t7_19c]⟩] (upd (upd (upd base 6 (.func t6_15 t6_15a t6_15b)) 4 (.slice t4_14 t4_14n t4_14c)) 2 (.pointer s_13))) w = rf_slices_AppendSeq_of_api_Node_api_Node_1 s_13 t4_14 t4_14n t4_14c t6_15 t6_15a t6_15b t7_16 t7_17 t7_18 t7_19 t7_19n t7_19c l Kn Kr Kx w := by kernel_rfl
theorem cd_slices_AppendSeq_of_api_Node_api_Node_1 : cdAt Tryz.f48 [1, 0, 1, 2] = .rangeFunc (Operand.tmp 6) #[7] (cdAt Tryz.f48 [1, 0, 1, 2, 5]) (cdAt Tryz.f48 [1, 0, 1, 2, 6]) := by kernel_rfl

def an_transcript_Same : Ann := .two (.leaf) (.two (.leaf) (.leaf))
def sh_transcript_Same (a_1 : Option Addr) (a_1n : Nat) (a_1c : Nat) (b_2 : Option Addr) (b_2n : Nat) (b_2c : Nat) (R : Ending → World → Prop) (w : World) : Prop :=
  Calls Tryz.prog 75 ⟨[.slice a_1 a_1n a_1c, .slice b_2 b_2n b_2c, .func (.func 76) #[] #[]]⟩ w fun (e3 : Ending) (w4 : World) =>
  ∃ (x5 : Bool), e3 = .returned (.bool x5) ∧ (R (.returned (.bool x5)) w4)
set_option maxRecDepth 100000 in
theorem e_transcript_Same (a_1 : Option Addr) (a_1n : Nat) (a_1c : Nat) (b_2 : Option Addr) (b_2n : Nat) (b_2c : Nat) (R : Ending → World → Prop) (w : World) : fnV Tryz.prog Tryz.f49 an_transcript_Same [.slice a_1 a_1n a_1c, .slice b_2 b_2n b_2c] R w = sh_transcript_Same a_1 a_1n a_1c b_2 b_2n b_2c R w := by kernel_rfl
theorem c_transcript_Same {a_1 : Option Addr} {a_1n : Nat} {a_1c : Nat} {b_2 : Option Addr} {b_2n : Nat} {b_2c : Nat} {R : Ending → World → Prop} {w : World} (h : sh_transcript_Same a_1 a_1n a_1c b_2 b_2n b_2c R w) : Calls Tryz.prog F_transcript_Same ⟨[.slice a_1 a_1n a_1c, .slice b_2 b_2n b_2c]⟩ w R := calls_of_fnV Tryz.func49 (by rw [e_transcript_Same]; exact h)

def an_ref10_Merge : Ann := .two (.leaf) (.two (.leaf) (.two (.two (.leaf) (.one (.loop 1180591620717411303288 [(3, .one (.slice)), (4, .one (.int .i64))] (.two (.two (.leaf) (.two (.leaf) (.leaf))) (.two (.one (.two (.leaf) (.cut 66846720 [] (.two (.leaf) (.two (.leaf) (.leaf))) (.cut 17112760320 [] (.two (.leaf) (.two (.leaf) (.leaf))) (.two (.two (.leaf) (.cut 4503530907893760 [(51, .one (.bool))] (.leaf) (.two (.two (.leaf) (.leaf)) (.leaf)))) (.leaf)))))) (.leaf)))))) (.two (.leaf) (.leaf))))
def sh_ref10_Merge (l_1 : Option Addr) (l_1n : Nat) (l_1c : Nat) (R : Ending → World → Prop) (w : World) : Prop :=
  al w 42 [] fun p2 w3 =>
  ∃ (I4 : Option Addr → Nat → Nat → Int → World → Nat → Prop), (∃ m9 : Nat, I4 (some p2) 0 0 0 w3 m9) ∧ ∀ (out_5 : Option Addr) (out_5n : Nat) (out_5c : Nat) (i_6 : Int) (w7 : World) (m8 : Nat), I4 out_5 out_5n out_5c i_6 w7 m8 → ∀ _ : Env, (br (decide ((i_6 : Int) < ((l_1n : Int)))) (idx l_1 l_1n i_6 4 fun p10 =>
  ∃ (x11 : Int), World.cell? w7 (p10.add 0) = some (.int .i64 x11) ∧ (∃ (x12 : List UInt8), World.cell? w7 (p10.add 1) = some (.string ⟨⟨x12⟩⟩) ∧ (∃ (x13 : Int), World.cell? w7 (p10.add 2) = some (.int .i64 x13) ∧ (∃ (x14 : Option Addr) (x14n : Nat) (x14c : Nat), World.cell? w7 (p10.add 3) = some (.slice x14 x14n x14c) ∧ (al w7 42 [.int .i64 0, .string ⟨⟨[]⟩⟩, .int .i64 0, .slice none 0 0] fun p15 w16 =>
  stL w16 p15 0 [.int .i64 x11, .string ⟨⟨x12⟩⟩, .int .i64 x13, .slice x14 x14n x14c] fun w17 =>
  ∀ (K18 : World → Prop), (∀  (w19 : World), (∀ _ : Env, (∀ (K20 : World → Prop), (∀  (w21 : World), (∀ _ : Env, (∀ (K22 : Bool → World → Prop), (∀ (t51_23 : Bool) (w24 : World), (∀ _ : Env, (br t51_23 (drw w24 fun w25 =>
  idx out_5 out_5n (IntKind.i64.wrap (((out_5n : Int)) - 1)) 4 fun p26 =>
  ∃ (x27 : List UInt8), World.cell? w25 (p26.add 1) = some (.string ⟨⟨x27⟩⟩) ∧ (∃ (x28 : List UInt8), World.cell? w25 (p15.add 1) = some (.string ⟨⟨x28⟩⟩) ∧ (sadd x27 x28 fun s29 =>
  idx out_5 out_5n (IntKind.i64.wrap (((out_5n : Int)) - 1)) 4 fun p30 =>
  (stL w25 (p30.add 1) 0 [.string ⟨⟨s29⟩⟩] fun w31 =>
  ∃ m32 : Nat, m32 < m8 ∧ I4 out_5 out_5n out_5c (IntKind.i64.wrap (i_6 + 1)) w31 m32) ∧ True))) (∃ (x33 : Int), World.cell? w24 (p15.add 0) = some (.int .i64 x33) ∧ (∃ (x34 : List UInt8), World.cell? w24 (p15.add 1) = some (.string ⟨⟨x34⟩⟩) ∧ (∃ (x35 : Int), World.cell? w24 (p15.add 2) = some (.int .i64 x35) ∧ (∃ (x36 : Option Addr) (x36n : Nat) (x36c : Nat), World.cell? w24 (p15.add 3) = some (.slice x36 x36n x36c) ∧ (al w24 42 [.int .i64 x33, .string ⟨⟨x34⟩⟩, .int .i64 x35, .slice x36 x36n x36c] fun p37 w38 =>
  app Tryz.prog [22, 22] 22 (.slice out_5 out_5n out_5c) (.slice (some p37) 1 1) w38 fun a39 a39n a39c w40 =>
  ∃ m41 : Nat, m41 < m8 ∧ I4 a39 a39n a39c (IntKind.i64.wrap (i_6 + 1)) w40 m41))))))) → K22 t51_23 w24) → (∃ (x42 : Int), World.cell? w21 (p15.add 0) = some (.int .i64 x42) ∧ (br (decide ((x42 : Int) = 1)) (br (decide ((0 : Int) < ((out_5n : Int)))) (idx out_5 out_5n (IntKind.i64.wrap (((out_5n : Int)) - 1)) 4 fun p43 =>
  ∃ (x44 : Int), World.cell? w21 (p43.add 0) = some (.int .i64 x44) ∧ (K22 (decide ((x44 : Int) = 1)) w21)) (K22 false w21)) (K22 false w21))))) → K20 w21) → (∃ (x45 : Option Addr) (x45n : Nat) (x45c : Nat), World.cell? w19 (p15.add 3) = some (.slice x45 x45n x45c) ∧ (br (decide ((0 : Int) < ((x45n : Int)))) (∃ (x46 : Option Addr) (x46n : Nat) (x46c : Nat), World.cell? w19 (p15.add 3) = some (.slice x46 x46n x46c) ∧ (Calls Tryz.prog 50 ⟨[.slice x46 x46n x46c]⟩ w19 fun (e47 : Ending) (w48 : World) =>
  ∃ (x49 : Option Addr) (x49n : Nat) (x49c : Nat), e47 = .returned (.slice x49 x49n x49c) ∧ (stL w48 (p15.add 3) 0 [.slice x49 x49n x49c] fun w50 =>
  K20 w50))) (K20 w19))))) → K18 w19) → (∃ (x51 : Int), World.cell? w17 (p15.add 0) = some (.int .i64 x51) ∧ (br (decide ((x51 : Int) = 1)) (∃ (x52 : List UInt8), World.cell? w17 (p15.add 1) = some (.string ⟨⟨x52⟩⟩) ∧ (br (decide ((x52 : List UInt8) = ([]))) (∃ m53 : Nat, m53 < m8 ∧ I4 out_5 out_5n out_5c (IntKind.i64.wrap (i_6 + 1)) w17 m53) (K18 w17))) (K18 w17)))))))) (R (.returned (.slice out_5 out_5n out_5c)) w7))
set_option maxRecDepth 100000 in
theorem e_ref10_Merge (l_1 : Option Addr) (l_1n : Nat) (l_1c : Nat) (R : Ending → World → Prop) (w : World) : fnV Tryz.prog Tryz.f50 an_ref10_Merge [.slice l_1 l_1n l_1c] R w = sh_ref10_Merge l_1 l_1n l_1c R w := by kernel_rfl
theorem c_ref10_Merge {l_1 : Option Addr} {l_1n : Nat} {l_1c : Nat} {R : Ending → World → Prop} {w : World} (h : sh_ref10_Merge l_1 l_1n l_1c R w) : Calls Tryz.prog F_ref10_Merge ⟨[.slice l_1 l_1n l_1c]⟩ w R := calls_of_fnV Tryz.func50 (by rw [e_ref10_Merge]; exact h)

end Go.Proofs
