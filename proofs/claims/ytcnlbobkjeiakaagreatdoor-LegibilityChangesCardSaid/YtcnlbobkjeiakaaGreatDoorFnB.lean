/- Written by program: for each function its verification condition, that it is the code's (by the kernel), and that it gives the call. -/
import Derived.Test.YtcnlbobkjeiakaaGreatDoorFn
namespace Go.Proofs
open Go Go.Sh
def an_ref10_Check : Ann := .two (.leaf) (.two (.two (.leaf) (.two (.leaf) (.two (.two (.leaf) (.leaf)) (.leaf)))) (.two (.two (.leaf) (.two (.leaf) (.two (.two (.leaf) (.leaf)) (.leaf)))) (.two (.two (.leaf) (.two (.two (.leaf) (.leaf)) (.leaf))) (.two (.leaf) (.leaf)))))
def sh_ref10_Check (l_1 : Option Addr) (l_1n : Nat) (l_1c : Nat) (R : Ending → World → Prop) (w : World) : Prop :=
  Calls Tryz.prog 19 ⟨[.slice l_1 l_1n l_1c, .int .i64 16, .int .i64 4096]⟩ w fun (e2 : Ending) (w3 : World) =>
  ∃ (x4 : Int) (x5 : Int) (x6 : Bool), e2 = .returned (.tuple ⟨[.int .i64 x4, .int .i64 x5, .bool x6]⟩) ∧ (br (!x6) (R (.returned (.int .i64 4)) w3) (Calls Tryz.prog 55 ⟨[.slice l_1 l_1n l_1c, .bool false]⟩ w3 fun (e7 : Ending) (w8 : World) =>
  ∃ (x9 : Int), e7 = .returned (.int .i64 x9) ∧ (br (decide ((x9 : Int) ≠ 0)) (R (.returned (.int .i64 x9)) w8) (Calls Tryz.prog 56 ⟨[.slice l_1 l_1n l_1c]⟩ w8 fun (e10 : Ending) (w11 : World) =>
  ∃ (x12 : List UInt8), e10 = .returned (.string ⟨⟨x12⟩⟩) ∧ (br (decide ((65536 : Int) < ((List.length x12 : Int)))) (R (.returned (.int .i64 4)) w11) (R (.returned (.int .i64 0)) w11))))))
set_option maxRecDepth 100000 in
theorem e_ref10_Check (l_1 : Option Addr) (l_1n : Nat) (l_1c : Nat) (R : Ending → World → Prop) (w : World) : fnV Tryz.prog Tryz.f35 an_ref10_Check [.slice l_1 l_1n l_1c] R w = sh_ref10_Check l_1 l_1n l_1c R w := by kernel_rfl
theorem c_ref10_Check {l_1 : Option Addr} {l_1n : Nat} {l_1c : Nat} {R : Ending → World → Prop} {w : World} (h : sh_ref10_Check l_1 l_1n l_1c R w) : Calls Tryz.prog F_ref10_Check ⟨[.slice l_1 l_1n l_1c]⟩ w R := calls_of_fnV Tryz.func35 (by rw [e_ref10_Check]; exact h)

def an_charset_IsWord : Ann := .two (.leaf) (.cut 65524 [] (.two (.leaf) (.two (.two (.leaf) (.leaf)) (.leaf))) (.cut 33488908 [] (.two (.leaf) (.two (.leaf) (.two (.two (.leaf) (.leaf)) (.leaf)))) (.two (.leaf) (.leaf))))
def sh_charset_IsWord (s_1 : List UInt8) (R : Ending → World → Prop) (w : World) : Prop :=
  ∀ (K2 : World → Prop), (∀  (w3 : World), (∀ _ : Env, (∀ (K4 : World → Prop), (∀  (w5 : World), (∀ _ : Env, (s2b Tryz.prog w5 5 s_1 fun a6 a6n a6c w7 =>
  Calls Tryz.prog 58 ⟨[.slice a6 a6n a6c, .func (.func 59) #[] #[]]⟩ w7 fun (e8 : Ending) (w9 : World) =>
  ∃ (x10 : Bool), e8 = .returned (.bool x10) ∧ (R (.returned (.bool (!x10))) w9))) → K4 w5) → (sidx s_1 0 fun b11 =>
  Calls Tryz.prog 57 ⟨[.int .u8 ((b11.toNat : Int))]⟩ w3 fun (e12 : Ending) (w13 : World) =>
  ∃ (x14 : Int), e12 = .returned (.int .i64 x14) ∧ (br (decide ((x14 : Int) ≠ 1)) (br (decide ((x14 : Int) ≠ 3)) (R (.returned (.bool false)) w13) (K4 w13)) (K4 w13))))) → K2 w3) → (br (decide ((s_1 : List UInt8) = ([]))) (R (.returned (.bool false)) w) (br (decide ((64 : Int) < ((List.length s_1 : Int)))) (R (.returned (.bool false)) w) (Calls Tryz.prog 37 ⟨[.string ⟨⟨s_1⟩⟩]⟩ w fun (e15 : Ending) (w16 : World) =>
  ∃ (x17 : Int), e15 = .returned (.int .i64 x17) ∧ (br (decide ((x17 : Int) ≠ 0)) (R (.returned (.bool false)) w16) (K2 w16)))))
set_option maxRecDepth 100000 in
theorem e_charset_IsWord (s_1 : List UInt8) (R : Ending → World → Prop) (w : World) : fnV Tryz.prog Tryz.f36 an_charset_IsWord [.string ⟨⟨s_1⟩⟩] R w = sh_charset_IsWord s_1 R w := by kernel_rfl
theorem c_charset_IsWord {s_1 : List UInt8} {R : Ending → World → Prop} {w : World} (h : sh_charset_IsWord s_1 R w) : Calls Tryz.prog F_charset_IsWord ⟨[.string ⟨⟨s_1⟩⟩]⟩ w R := calls_of_fnV Tryz.func36 (by rw [e_charset_IsWord]; exact h)

def an_charset_Check : Ann := .two (.leaf) (.two (.two (.leaf) (.two (.two (.leaf) (.leaf)) (.leaf))) (.two (.two (.leaf) (.one (.rf [2, 10] 0))) (.two (.leaf) (.leaf))))
def sh_charset_Check (s_1 : List UInt8) (R : Ending → World → Prop) (w : World) : Prop :=
  al w 30 [.int .i64 0] fun p2 w3 =>
  br (decide ((65536 : Int) < ((List.length s_1 : Int)))) (stL w3 p2 0 [.int .i64 4] fun w4 =>
  ∃ (x5 : Int), World.cell? w4 p2 = some (.int .i64 x5) ∧ (R (.returned (.int .i64 x5)) w4)) (Calls Tryz.prog 60 ⟨[.string ⟨⟨s_1⟩⟩]⟩ w3 fun (e6 : Ending) (w7 : World) =>
  ∃ (x8 : Fn) (x8a : Array Value) (x8b : Array Value), e6 = .returned (.func x8 x8a x8b) ∧ (∀ base9 : Env, RFw Tryz.prog none 22 (cdAt Tryz.f37 [1, 1, 0, 1, 2]) (upd (upd base9 10 (.func x8 x8a x8b)) 2 (.pointer (some p2))) [] w7 0 (fun ds10 w11 =>
  stL w11 p2 0 [.int .i64 0] fun w15 =>
  retD ds10 w15 fun w16 =>
  ∃ (x17 : Int), World.cell? w16 p2 = some (.int .i64 x17) ∧ (R (.returned (.int .i64 x17)) w16)) (fun ds10 w11 =>
  retD ds10 w11 fun w18 =>
  ∃ (x19 : Int), World.cell? w18 p2 = some (.int .i64 x19) ∧ (R (.returned (.int .i64 x19)) w18)) (fun ds10 w11 =>
  stL w11 p2 0 [.int .i64 0] fun w12 =>
  retD ds10 w12 fun w13 =>
  ∃ (x14 : Int), World.cell? w13 p2 = some (.int .i64 x14) ∧ (R (.returned (.int .i64 x14)) w13))))
set_option maxRecDepth 100000 in
theorem e_charset_Check (s_1 : List UInt8) (R : Ending → World → Prop) (w : World) : fnV Tryz.prog Tryz.f37 an_charset_Check [.string ⟨⟨s_1⟩⟩] R w = sh_charset_Check s_1 R w := by kernel_rfl
theorem c_charset_Check {s_1 : List UInt8} {R : Ending → World → Prop} {w : World} (h : sh_charset_Check s_1 R w) : Calls Tryz.prog F_charset_Check ⟨[.string ⟨⟨s_1⟩⟩]⟩ w R := calls_of_fnV Tryz.func37 (by rw [e_charset_Check]; exact h)
def anA_charset_Check_1 : Ann := .leaf
def anB_charset_Check_1 : Ann := .one (.two (.leaf) (.two (.leaf) (.two (.two (.leaf) (.leaf)) (.leaf))))
def rf_charset_Check_1 (t2_20 : Option Addr) (t10_21 : Fn) (t10_21a : Array Value) (t10_21b : Array Value) (t11_22 : Value) (t12_23 : List UInt8) (l : Nat) (Kn Kr Kx : World → World → Prop) (w : World) : Prop :=
  Ext w w ∧ ∀ w24 : World, Upd l w w24 → (sidx t12_23 0 fun b25 =>
  Calls Tryz.prog 57 ⟨[.int .u8 ((b25.toNat : Int))]⟩ w24 fun (e26 : Ending) (w27 : World) =>
  ∃ (x28 : Int), e26 = .returned (.int .i64 x28) ∧ (br (decide ((x28 : Int) = 0)) (dr t2_20 fun p30 =>
  stL w27 p30 0 [.int .i64 11] fun w29 =>
  Kr w24 w29) (br (decide ((x28 : Int) = 2)) (dr t2_20 fun p32 =>
  stL w27 p32 0 [.int .i64 11] fun w31 =>
  Kr w24 w31) (Kn w24 w27))))
set_option maxRecDepth 100000 in
theorem er_charset_Check_1 (base : Env) (t2_20 : Option Addr) (t10_21 : Fn) (t10_21a : Array Value) (t10_21b : Array Value) (t11_22 : Value) (t12_23 : List UInt8) (l : Nat) (Kn Kr Kx : World → World → Prop) (w : World) : fragV Tryz.prog 22 anA_charset_Check_1 anB_charset_Check_1 (cdAt Tryz.f37 [1, 1, 0, 1, 2, 5]) (cdAt Tryz.f37 [1, 1, 0, 1, 2, 6]) l 0 Kn Kr Kx (updPs [11, 12] [t11_22, .string ⟨⟨t12_23⟩⟩] (upd (upd base 10 (.func t10_21 t10_21a t10_21b)) 2 (.pointer t2_20))) w = rf_charset_Check_1 t2_20 t10_21 t10_21a t10_21b t11_22 t12_23 l Kn Kr Kx w := by kernel_rfl
theorem cd_charset_Check_1 : cdAt Tryz.f37 [1, 1, 0, 1, 2] = .rangeFunc (Operand.tmp 10) #[11, 12] (cdAt Tryz.f37 [1, 1, 0, 1, 2, 5]) (cdAt Tryz.f37 [1, 1, 0, 1, 2, 6]) := by kernel_rfl

def an_legibility_Expand_1 : Ann := .two (.leaf) (.two (.leaf) (.two (.two (.leaf) (.one (.loopD 129127209615478457216 [(15, .one (.int .i64))] (.two (.leaf) (.two (.two (.leaf) (.leaf)) (.two (.one (.two (.leaf) (.two (.two (.leaf) (.two (.cut 1069547520 [] (.two (.leaf) (.two (.leaf) (.leaf))) (.two (.leaf) (.leaf))) (.leaf))) (.two (.leaf) (.two (.leaf) (.two (.two (.leaf) (.one (.rf [1, 2, 4, 5, 8, 9, 13, 14, 15, 39] 0))) (.leaf))))))) (.leaf))))))) (.two (.leaf) (.leaf))))
def sh_legibility_Expand_1 (l_1 : Option Addr) (l_1n : Nat) (l_1c : Nat) (t1_2 : Option Addr) (t2_3 : Option Addr) (R : Ending → World → Prop) (w : World) : Prop :=
  al w 22 [.slice none 0 0] fun p4 w5 =>
  ∃ (I6 : Int → List Deferred → World → Nat → Prop), (∃ m11 : Nat, I6 0 [] w5 m11) ∧ ∀ (t15_7 : Int) (ds8 : List Deferred) (w9 : World) (m10 : Nat), I6 t15_7 ds8 w9 m10 → ∀ _ : Env, (br (decide ((t15_7 : Int) < ((l_1n : Int)))) (idx l_1 l_1n t15_7 4 fun p12 =>
  ∃ (x13 : Int), World.cell? w9 (p12.add 0) = some (.int .i64 x13) ∧ (∃ (x14 : List UInt8), World.cell? w9 (p12.add 1) = some (.string ⟨⟨x14⟩⟩) ∧ (∃ (x15 : Int), World.cell? w9 (p12.add 2) = some (.int .i64 x15) ∧ (∃ (x16 : Option Addr) (x16n : Nat) (x16c : Nat), World.cell? w9 (p12.add 3) = some (.slice x16 x16n x16c) ∧ (al w9 45 [.int .i64 0, .string ⟨⟨[]⟩⟩, .int .i64 0, .slice none 0 0] fun p17 w18 =>
  stL w18 p17 0 [.int .i64 x13, .string ⟨⟨x14⟩⟩, .int .i64 x15, .slice x16 x16n x16c] fun w19 =>
  ∃ (x20 : Int), World.cell? w19 (p17.add 0) = some (.int .i64 x20) ∧ (br (decide ((x20 : Int) ≠ 1)) (∀ (K21 : World → Prop), (∀  (w22 : World), (∀ _ : Env, (drw w22 fun w23 =>
  ∃ (x24 : Option Addr) (x24n : Nat) (x24c : Nat), World.cell? w23 p4 = some (.slice x24 x24n x24c) ∧ (∃ (x25 : Int), World.cell? w23 (p17.add 0) = some (.int .i64 x25) ∧ (∃ (x26 : List UInt8), World.cell? w23 (p17.add 1) = some (.string ⟨⟨x26⟩⟩) ∧ (∃ (x27 : Int), World.cell? w23 (p17.add 2) = some (.int .i64 x27) ∧ (∃ (x28 : Option Addr) (x28n : Nat) (x28c : Nat), World.cell? w23 (p17.add 3) = some (.slice x28 x28n x28c) ∧ ((al w23 45 [.int .i64 0, .string ⟨⟨[]⟩⟩, .int .i64 0, .slice none 0 0] fun p29 w30 =>
  (app Tryz.prog [22, 22] 22 (.slice x24 x24n x24c) (.slice (some p29) 1 1) w30 fun a31 a31n a31c w32 =>
  idx a31 a31n ((x24n : Int)) 4 fun p33 =>
  (stL w32 p33 0 [.int .i64 x25, .string ⟨⟨x26⟩⟩, .int .i64 x27, .slice x28 x28n x28c] fun w34 =>
  (stL w34 p4 0 [.slice a31 a31n a31c] fun w35 =>
  ∃ m36 : Nat, m36 < m10 ∧ I6 (IntKind.i64.wrap (t15_7 + 1)) ds8 w35 m36) ∧ True) ∧ (stL w32 p4 0 [.slice a31 a31n a31c] fun w37 =>
  (stL w37 p33 0 [.int .i64 x25, .string ⟨⟨x26⟩⟩, .int .i64 x27, .slice x28 x28n x28c] fun w38 =>
  ∃ m39 : Nat, m39 < m10 ∧ I6 (IntKind.i64.wrap (t15_7 + 1)) ds8 w38 m39) ∧ True) ∧ True) ∧ True) ∧ True))))))) → K21 w22) → (∃ (x40 : Int), World.cell? w19 (p17.add 0) = some (.int .i64 x40) ∧ (br (decide ((x40 : Int) ≠ 10)) (dr t1_2 fun p41 =>
  ∃ (x42 : Fn) (x42a : Array Value) (x42b : Array Value), World.cell? w19 p41 = some (.func x42 x42a x42b) ∧ (∃ (x43 : Option Addr) (x43n : Nat) (x43c : Nat), World.cell? w19 (p17.add 3) = some (.slice x43 x43n x43c) ∧ (CallV Tryz.prog (.func x42 x42a x42b) [.slice x43 x43n x43c] w19 fun (e44 : Ending) (w45 : World) =>
  ∃ (x46 : Option Addr) (x46n : Nat) (x46c : Nat), e44 = .returned (.slice x46 x46n x46c) ∧ (stL w45 (p17.add 3) 0 [.slice x46 x46n x46c] fun w47 =>
  K21 w47)))) (K21 w19)))) (al w19 9 [.string ⟨⟨[]⟩⟩] fun p48 w49 =>
  stL w49 p48 0 [.string ⟨⟨[]⟩⟩] fun w50 =>
  al w50 1 [.nilFunc] fun p51 w52 =>
  stL w52 p51 0 [.func (.func 39) ⟨[]⟩ ⟨[.pointer (some p48), .pointer (some p4)]⟩] fun w53 =>
  ∃ (x54 : List UInt8), World.cell? w53 (p17.add 1) = some (.string ⟨⟨x54⟩⟩) ∧ (Calls Tryz.prog 40 ⟨[.string ⟨⟨x54⟩⟩]⟩ w53 fun (e55 : Ending) (w56 : World) =>
  ∃ (x57 : Fn) (x57a : Array Value) (x57b : Array Value), e55 = .returned (.func x57 x57a x57b) ∧ (∀ base58 : Env, RFw Tryz.prog none 68 (cdAt Tryz.f38 [1, 1, 0, 1, 2, 2, 1, 1, 0, 2, 1, 1, 1, 1, 0, 1, 2]) (upd (upd (upd (upd (upd (upd (upd (upd (upd (upd base58 39 (.func x57 x57a x57b)) 15 (.int .i64 t15_7)) 14 (.int .i64 ((l_1n : Int)))) 13 (.slice l_1 l_1n l_1c)) 9 (.pointer (some p51))) 8 (.pointer (some p48))) 5 (.pointer (some p4))) 4 (.slice none 0 0)) 2 (.pointer t2_3)) 1 (.pointer t1_2)) ds8 w56 0 (fun ds59 w60 =>
  ∃ (x63 : Fn) (x63a : Array Value) (x63b : Array Value), World.cell? w60 p51 = some (.func x63 x63a x63b) ∧ (CallV Tryz.prog (.func x63 x63a x63b) [] w60 fun (e64 : Ending) (w65 : World) =>
  e64 = .returned (.tuple ⟨[]⟩) ∧ (∃ m66 : Nat, m66 < m10 ∧ I6 (IntKind.i64.wrap (t15_7 + 1)) ds59 w65 m66))) (fun ds59 w60 =>
  retD ds59 w60 fun w67 =>
  R (.returned (.slice none 0 0)) w67) (fun ds59 w60 =>
  ∃ (x61 : Option Addr) (x61n : Nat) (x61c : Nat), World.cell? w60 p4 = some (.slice x61 x61n x61c) ∧ (retD ds59 w60 fun w62 =>
  R (.returned (.slice x61 x61n x61c)) w62))))))))))) (∃ (x68 : Option Addr) (x68n : Nat) (x68c : Nat), World.cell? w9 p4 = some (.slice x68 x68n x68c) ∧ (retD ds8 w9 fun w69 =>
  R (.returned (.slice x68 x68n x68c)) w69)))
set_option maxRecDepth 100000 in
theorem e_legibility_Expand_1 (l_1 : Option Addr) (l_1n : Nat) (l_1c : Nat) (t1_2 : Option Addr) (t2_3 : Option Addr) (R : Ending → World → Prop) (w : World) : fnV Tryz.prog Tryz.f38 an_legibility_Expand_1 [.slice l_1 l_1n l_1c, .pointer t1_2, .pointer t2_3] R w = sh_legibility_Expand_1 l_1 l_1n l_1c t1_2 t2_3 R w := by kernel_rfl
theorem c_legibility_Expand_1 {l_1 : Option Addr} {l_1n : Nat} {l_1c : Nat} {t1_2 : Option Addr} {t2_3 : Option Addr} {R : Ending → World → Prop} {w : World} (h : sh_legibility_Expand_1 l_1 l_1n l_1c t1_2 t2_3 R w) : Calls Tryz.prog F_legibility_Expand_1 ⟨[.slice l_1 l_1n l_1c, .pointer t1_2, .pointer t2_3]⟩ w R := calls_of_fnV Tryz.func38 (by rw [e_legibility_Expand_1]; exact h)
def anA_legibility_Expand_1_1 : Ann := .leaf
def anB_legibility_Expand_1_1 : Ann := .one (.two (.leaf) (.two (.two (.leaf) (.two (.two (.leaf) (.leaf)) (.leaf))) (.two (.leaf) (.one (.leaf)))))
def rf_legibility_Expand_1_1 (t1_70 : Option Addr) (t2_71 : Option Addr) (t4_72 : Option Addr) (t4_72n : Nat) (t4_72c : Nat) (out_73 : Option Addr) (rest_74 : Option Addr) (flush_75 : Option Addr) (t13_76 : Option Addr) (t13_76n : Nat) (t13_76c : Nat) (t14_77 : Int) (t15_78 : Int) (t39_79 : Fn) (t39_79a : Array Value) (t39_79b : Array Value) (t40_80 : List UInt8) (l : Nat) (Kn Kr Kx : World → World → Prop) (w : World) : Prop :=
  Ext w w ∧ ∀ w81 : World, Upd l w w81 → (dr t2_71 fun p82 =>
  ∃ (x83 : Value), World.cell? w81 p82 = some (x83) ∧ (∃ (x84 : List UInt8), ∃ (b85 : Bool), lkAt2 Tryz.prog 61 x83 (.string ⟨⟨t40_80⟩⟩) w81 (.string ⟨⟨x84⟩⟩) b85 ∧ (br (!b85) (dr rest_74 fun p86 =>
  ∃ (x87 : List UInt8), World.cell? w81 p86 = some (.string ⟨⟨x87⟩⟩) ∧ (sadd x87 t40_80 fun s88 =>
  dr rest_74 fun p90 =>
  stL w81 p90 0 [.string ⟨⟨s88⟩⟩] fun w89 =>
  Kn w81 w89)) (dr flush_75 fun p91 =>
  ∃ (x92 : Fn) (x92a : Array Value) (x92b : Array Value), World.cell? w81 p91 = some (.func x92 x92a x92b) ∧ (CallV Tryz.prog (.func x92 x92a x92b) [] w81 fun (e93 : Ending) (w94 : World) =>
  e93 = .returned (.tuple ⟨[]⟩) ∧ (drw w94 fun w95 =>
  dr out_73 fun p96 =>
  ∃ (x97 : Option Addr) (x97n : Nat) (x97c : Nat), World.cell? w95 p96 = some (.slice x97 x97n x97c) ∧ ((al w95 45 [.int .i64 1, .string ⟨⟨x84⟩⟩, .int .i64 0, .slice none 0 0] fun p98 w99 =>
  (al w99 45 [.int .i64 0, .string ⟨⟨[]⟩⟩, .int .i64 0, .slice none 0 0] fun p100 w101 =>
  (app Tryz.prog [22, 22] 22 (.slice x97 x97n x97c) (.slice (some p100) 1 1) w101 fun a102 a102n a102c w103 =>
  idx a102 a102n ((x97n : Int)) 4 fun p104 =>
  (stL w103 p104 0 [.int .i64 10, .string ⟨⟨t40_80⟩⟩, .int .i64 0, .slice (some p98) 1 1] fun w105 =>
  (dr out_73 fun p107 =>
  stL w105 p107 0 [.slice a102 a102n a102c] fun w106 =>
  Kn w81 w106) ∧ True) ∧ (dr out_73 fun p109 =>
  stL w103 p109 0 [.slice a102 a102n a102c] fun w108 =>
  (stL w108 p104 0 [.int .i64 10, .string ⟨⟨t40_80⟩⟩, .int .i64 0, .slice (some p98) 1 1] fun w110 =>
  Kn w81 w110) ∧ True) ∧ True) ∧ True) ∧ True) ∧ (al w95 45 [.int .i64 0, .string ⟨⟨[]⟩⟩, .int .i64 0, .slice none 0 0] fun p111 w112 =>
  (al w112 45 [.int .i64 1, .string ⟨⟨x84⟩⟩, .int .i64 0, .slice none 0 0] fun p113 w114 =>
  (app Tryz.prog [22, 22] 22 (.slice x97 x97n x97c) (.slice (some p111) 1 1) w114 fun a115 a115n a115c w116 =>
  idx a115 a115n ((x97n : Int)) 4 fun p117 =>
  (stL w116 p117 0 [.int .i64 10, .string ⟨⟨t40_80⟩⟩, .int .i64 0, .slice (some p113) 1 1] fun w118 =>
  (dr out_73 fun p120 =>
  stL w118 p120 0 [.slice a115 a115n a115c] fun w119 =>
  Kn w81 w119) ∧ True) ∧ (dr out_73 fun p122 =>
  stL w116 p122 0 [.slice a115 a115n a115c] fun w121 =>
  (stL w121 p117 0 [.int .i64 10, .string ⟨⟨t40_80⟩⟩, .int .i64 0, .slice (some p113) 1 1] fun w123 =>
  Kn w81 w123) ∧ True) ∧ True) ∧ True) ∧ True) ∧ True)))))))
set_option maxRecDepth 100000 in
theorem er_legibility_Expand_1_1 (base : Env) (t1_70 : Option Addr) (t2_71 : Option Addr) (t4_72 : Option Addr) (t4_72n : Nat) (t4_72c : Nat) (out_73 : Option Addr) (rest_74 : Option Addr) (flush_75 : Option Addr) (t13_76 : Option Addr) (t13_76n : Nat) (t13_76c : Nat) (t14_77 : Int) (t15_78 : Int) (t39_79 : Fn) (t39_79a : Array Value) (t39_79b : Array Value) (t40_80 : List UInt8) (l : Nat) (Kn Kr Kx : World → World → Prop) (w : World) : fragV Tryz.prog 68 anA_legibility_Expand_1_1 anB_legibility_Expand_1_1 (cdAt Tryz.f38 [1, 1, 0, 1, 2, 2, 1, 1, 0, 2, 1, 1, 1, 1, 0, 1, 2, 5]) (cdAt Tryz.f38 [1, 1, 0, 1, 2, 2, 1, 1, 0, 2, 1, 1, 1, 1, 0, 1, 2, 6]) l 0 Kn Kr Kx (updPs [40] [.string ⟨⟨t40_80⟩⟩] (upd (upd (upd (upd (upd (upd (upd (upd (upd (upd base 39 (.func t39_79 t39_79a t39_79b)) 15 (.int .i64 t15_78)) 14 (.int .i64 t14_77)) 13 (.slice t13_76 t13_76n t13_76c)) 9 (.pointer flush_75)) 8 (.pointer rest_74)) 5 (.pointer out_73)) 4 (.slice t4_72 t4_72n t4_72c)) 2 (.pointer t2_71)) 1 (.pointer t1_70))) w = rf_legibility_Expand_1_1 t1_70 t2_71 t4_72 t4_72n t4_72c out_73 rest_74 flush_75 t13_76 t13_76n t13_76c t14_77 t15_78 t39_79 t39_79a t39_79b t40_80 l Kn Kr Kx w := by kernel_rfl
theorem cd_legibility_Expand_1_1 : cdAt Tryz.f38 [1, 1, 0, 1, 2, 2, 1, 1, 0, 2, 1, 1, 1, 1, 0, 1, 2] = .rangeFunc (Operand.tmp 39) #[40] (cdAt Tryz.f38 [1, 1, 0, 1, 2, 2, 1, 1, 0, 2, 1, 1, 1, 1, 0, 1, 2, 5]) (cdAt Tryz.f38 [1, 1, 0, 1, 2, 2, 1, 1, 0, 2, 1, 1, 1, 1, 0, 1, 2, 6]) := by kernel_rfl

def an_legibility_Expand_1_1 : Ann := .two (.two (.leaf) (.two (.leaf) (.leaf))) (.leaf)
def sh_legibility_Expand_1_1 (t0_1 : Option Addr) (t1_2 : Option Addr) (R : Ending → World → Prop) (w : World) : Prop :=
  dr t0_1 fun p3 =>
  ∃ (x4 : List UInt8), World.cell? w p3 = some (.string ⟨⟨x4⟩⟩) ∧ (br (decide ((x4 : List UInt8) ≠ ([]))) (drw w fun w5 =>
  dr t1_2 fun p6 =>
  ∃ (x7 : Option Addr) (x7n : Nat) (x7c : Nat), World.cell? w5 p6 = some (.slice x7 x7n x7c) ∧ (dr t0_1 fun p8 =>
  ∃ (x9 : List UInt8), World.cell? w5 p8 = some (.string ⟨⟨x9⟩⟩) ∧ ((al w5 45 [.int .i64 0, .string ⟨⟨[]⟩⟩, .int .i64 0, .slice none 0 0] fun p10 w11 =>
  (app Tryz.prog [22, 22] 22 (.slice x7 x7n x7c) (.slice (some p10) 1 1) w11 fun a12 a12n a12c w13 =>
  idx a12 a12n ((x7n : Int)) 4 fun p14 =>
  (stL w13 p14 0 [.int .i64 1, .string ⟨⟨x9⟩⟩, .int .i64 0, .slice none 0 0] fun w15 =>
  (dr t1_2 fun p17 =>
  stL w15 p17 0 [.slice a12 a12n a12c] fun w16 =>
  dr t0_1 fun p19 =>
  stL w16 p19 0 [.string ⟨⟨[]⟩⟩] fun w18 =>
  R (.returned (.tuple ⟨[]⟩)) w18) ∧ True) ∧ (dr t1_2 fun p21 =>
  stL w13 p21 0 [.slice a12 a12n a12c] fun w20 =>
  (stL w20 p14 0 [.int .i64 1, .string ⟨⟨x9⟩⟩, .int .i64 0, .slice none 0 0] fun w22 =>
  dr t0_1 fun p24 =>
  stL w22 p24 0 [.string ⟨⟨[]⟩⟩] fun w23 =>
  R (.returned (.tuple ⟨[]⟩)) w23) ∧ True) ∧ True) ∧ True) ∧ True))) (dr t0_1 fun p26 =>
  stL w p26 0 [.string ⟨⟨[]⟩⟩] fun w25 =>
  R (.returned (.tuple ⟨[]⟩)) w25))
set_option maxRecDepth 100000 in
theorem e_legibility_Expand_1_1 (t0_1 : Option Addr) (t1_2 : Option Addr) (R : Ending → World → Prop) (w : World) : fnV Tryz.prog Tryz.f39 an_legibility_Expand_1_1 [.pointer t0_1, .pointer t1_2] R w = sh_legibility_Expand_1_1 t0_1 t1_2 R w := by kernel_rfl
theorem c_legibility_Expand_1_1 {t0_1 : Option Addr} {t1_2 : Option Addr} {R : Ending → World → Prop} {w : World} (h : sh_legibility_Expand_1_1 t0_1 t1_2 R w) : Calls Tryz.prog F_legibility_Expand_1_1 ⟨[.pointer t0_1, .pointer t1_2]⟩ w R := calls_of_fnV Tryz.func39 (by rw [e_legibility_Expand_1_1]; exact h)

def an_legibility_parts : Ann := .two (.leaf) (.two (.leaf) (.leaf))
def sh_legibility_parts (s_1 : List UInt8) (R : Ending → World → Prop) (w : World) : Prop :=
  al w 9 [.string ⟨⟨s_1⟩⟩] fun p2 w3 =>
  R (.returned (.func (.func 61) ⟨[]⟩ ⟨[.pointer (some p2)]⟩)) w3
set_option maxRecDepth 100000 in
theorem e_legibility_parts (s_1 : List UInt8) (R : Ending → World → Prop) (w : World) : fnV Tryz.prog Tryz.f40 an_legibility_parts [.string ⟨⟨s_1⟩⟩] R w = sh_legibility_parts s_1 R w := by kernel_rfl
theorem c_legibility_parts {s_1 : List UInt8} {R : Ending → World → Prop} {w : World} (h : sh_legibility_parts s_1 R w) : Calls Tryz.prog F_legibility_parts ⟨[.string ⟨⟨s_1⟩⟩]⟩ w R := calls_of_fnV Tryz.func40 (by rw [e_legibility_parts]; exact h)

def an_ref01_IsWord : Ann := .two (.leaf) (.cut 262116 [] (.two (.leaf) (.two (.two (.leaf) (.leaf)) (.leaf))) (.cut 133955596 [] (.two (.leaf) (.two (.leaf) (.two (.two (.leaf) (.leaf)) (.leaf)))) (.two (.two (.leaf) (.one (.loop 274743689236 [(4, .one (.int .i64))] (.two (.two (.leaf) (.two (.leaf) (.leaf))) (.two (.one (.two (.leaf) (.two (.two (.leaf) (.leaf)) (.leaf)))) (.leaf)))))) (.two (.leaf) (.leaf)))))
def sh_ref01_IsWord (s_1 : List UInt8) (R : Ending → World → Prop) (w : World) : Prop :=
  ∀ (K2 : World → Prop), (∀  (w3 : World), (∀ _ : Env, (∀ (K4 : World → Prop), (∀  (w5 : World), (∀ _ : Env, (∃ (I6 : Int → World → Nat → Prop), (∃ m10 : Nat, I6 0 w5 m10) ∧ ∀ (i_7 : Int) (w8 : World) (m9 : Nat), I6 i_7 w8 m9 → ∀ _ : Env, (br (decide ((i_7 : Int) < ((List.length s_1 : Int)))) (sidx s_1 i_7 fun b11 =>
  Calls Tryz.prog 63 ⟨[.int .u8 ((b11.toNat : Int))]⟩ w8 fun (e12 : Ending) (w13 : World) =>
  ∃ (x14 : Int), e12 = .returned (.int .i64 x14) ∧ (br (decide ((4 : Int) < x14)) (R (.returned (.bool false)) w13) (∃ m15 : Nat, m15 < m9 ∧ I6 (IntKind.i64.wrap (i_7 + 1)) w13 m15))) (R (.returned (.bool true)) w8)))) → K4 w5) → (sidx s_1 0 fun b16 =>
  Calls Tryz.prog 63 ⟨[.int .u8 ((b16.toNat : Int))]⟩ w3 fun (e17 : Ending) (w18 : World) =>
  ∃ (x19 : Int), e17 = .returned (.int .i64 x19) ∧ (br (decide ((x19 : Int) ≠ 1)) (br (decide ((x19 : Int) ≠ 3)) (R (.returned (.bool false)) w18) (K4 w18)) (K4 w18))))) → K2 w3) → (br (decide ((((List.length s_1 : Int)) : Int) < 1)) (R (.returned (.bool false)) w) (br (decide ((64 : Int) < ((List.length s_1 : Int)))) (R (.returned (.bool false)) w) (Calls Tryz.prog 42 ⟨[.string ⟨⟨s_1⟩⟩]⟩ w fun (e20 : Ending) (w21 : World) =>
  ∃ (x22 : Int), e20 = .returned (.int .i64 x22) ∧ (br (decide ((x22 : Int) ≠ 0)) (R (.returned (.bool false)) w21) (K2 w21)))))
set_option maxRecDepth 100000 in
theorem e_ref01_IsWord (s_1 : List UInt8) (R : Ending → World → Prop) (w : World) : fnV Tryz.prog Tryz.f41 an_ref01_IsWord [.string ⟨⟨s_1⟩⟩] R w = sh_ref01_IsWord s_1 R w := by kernel_rfl
theorem c_ref01_IsWord {s_1 : List UInt8} {R : Ending → World → Prop} {w : World} (h : sh_ref01_IsWord s_1 R w) : Calls Tryz.prog F_ref01_IsWord ⟨[.string ⟨⟨s_1⟩⟩]⟩ w R := calls_of_fnV Tryz.func41 (by rw [e_ref01_IsWord]; exact h)

def an_ref01_Check : Ann := .two (.leaf) (.two (.two (.leaf) (.two (.two (.leaf) (.leaf)) (.leaf))) (.two (.leaf) (.two (.two (.leaf) (.one (.loop 17179867188 [(4, .one (.int .i64))] (.two (.two (.leaf) (.two (.leaf) (.leaf))) (.two (.one (.two (.leaf) (.two (.leaf) (.two (.two (.leaf) (.leaf)) (.leaf))))) (.leaf)))))) (.two (.leaf) (.leaf)))))
def sh_ref01_Check (s_1 : List UInt8) (R : Ending → World → Prop) (w : World) : Prop :=
  br (decide ((65536 : Int) < ((List.length s_1 : Int)))) (R (.returned (.int .i64 4)) w) (Calls Tryz.prog 64 ⟨[.string ⟨⟨s_1⟩⟩]⟩ w fun (e2 : Ending) (w3 : World) =>
  ∃ (x4 : Option Addr) (x4n : Nat) (x4c : Nat), e2 = .returned (.slice x4 x4n x4c) ∧ (∃ (I5 : Int → World → Nat → Prop), (∃ m9 : Nat, I5 0 w3 m9) ∧ ∀ (i_6 : Int) (w7 : World) (m8 : Nat), I5 i_6 w7 m8 → ∀ _ : Env, (br (decide ((i_6 : Int) < ((List.length s_1 : Int)))) (sidx s_1 i_6 fun b10 =>
  Calls Tryz.prog 63 ⟨[.int .u8 ((b10.toNat : Int))]⟩ w7 fun (e11 : Ending) (w12 : World) =>
  ∃ (x13 : Int), e11 = .returned (.int .i64 x13) ∧ (br (decide ((x13 : Int) = 0)) (R (.returned (.int .i64 11)) w12) (br (decide ((x13 : Int) = 2)) (idx x4 x4n i_6 1 fun p14 =>
  ∃ (x15 : Bool), World.cell? w12 p14 = some (.bool x15) ∧ (br (!x15) (R (.returned (.int .i64 11)) w12) (∃ m16 : Nat, m16 < m8 ∧ I5 (IntKind.i64.wrap (i_6 + 1)) w12 m16))) (∃ m17 : Nat, m17 < m8 ∧ I5 (IntKind.i64.wrap (i_6 + 1)) w12 m17)))) (R (.returned (.int .i64 0)) w7))))
set_option maxRecDepth 100000 in
theorem e_ref01_Check (s_1 : List UInt8) (R : Ending → World → Prop) (w : World) : fnV Tryz.prog Tryz.f42 an_ref01_Check [.string ⟨⟨s_1⟩⟩] R w = sh_ref01_Check s_1 R w := by kernel_rfl
theorem c_ref01_Check {s_1 : List UInt8} {R : Ending → World → Prop} {w : World} (h : sh_ref01_Check s_1 R w) : Calls Tryz.prog F_ref01_Check ⟨[.string ⟨⟨s_1⟩⟩]⟩ w R := calls_of_fnV Tryz.func42 (by rw [e_ref01_Check]; exact h)

def an_ref12_expand : Ann := .two (.leaf) (.two (.leaf) (.two (.two (.leaf) (.one (.loop 1099511627488 [(5, .one (.slice)), (6, .one (.int .i64))] (.two (.two (.leaf) (.two (.leaf) (.leaf))) (.two (.one (.two (.leaf) (.two (.two (.leaf) (.two (.two (.leaf) (.leaf)) (.leaf))) (.cut 68451041280 [] (.two (.leaf) (.two (.leaf) (.leaf))) (.leaf))))) (.leaf)))))) (.two (.leaf) (.leaf))))
def sh_ref12_expand (l_1 : Option Addr) (l_1n : Nat) (l_1c : Nat) (pairs_2 : Option Addr) (pairs_2n : Nat) (pairs_2c : Nat) (R : Ending → World → Prop) (w : World) : Prop :=
  al w 45 [] fun p3 w4 =>
  ∃ (I5 : Option Addr → Nat → Nat → Int → World → Nat → Prop), (∃ m10 : Nat, I5 (some p3) 0 0 0 w4 m10) ∧ ∀ (out_6 : Option Addr) (out_6n : Nat) (out_6c : Nat) (i_7 : Int) (w8 : World) (m9 : Nat), I5 out_6 out_6n out_6c i_7 w8 m9 → ∀ _ : Env, (br (decide ((i_7 : Int) < ((l_1n : Int)))) (idx l_1 l_1n i_7 4 fun p11 =>
  ∃ (x12 : Int), World.cell? w8 (p11.add 0) = some (.int .i64 x12) ∧ (∃ (x13 : List UInt8), World.cell? w8 (p11.add 1) = some (.string ⟨⟨x13⟩⟩) ∧ (∃ (x14 : Int), World.cell? w8 (p11.add 2) = some (.int .i64 x14) ∧ (∃ (x15 : Option Addr) (x15n : Nat) (x15c : Nat), World.cell? w8 (p11.add 3) = some (.slice x15 x15n x15c) ∧ (al w8 45 [.int .i64 0, .string ⟨⟨[]⟩⟩, .int .i64 0, .slice none 0 0] fun p16 w17 =>
  stL w17 p16 0 [.int .i64 x12, .string ⟨⟨x13⟩⟩, .int .i64 x14, .slice x15 x15n x15c] fun w18 =>
  ∃ (x19 : Int), World.cell? w18 (p16.add 0) = some (.int .i64 x19) ∧ (br (decide ((x19 : Int) = 1)) (∃ (x20 : List UInt8), World.cell? w18 (p16.add 1) = some (.string ⟨⟨x20⟩⟩) ∧ (Calls Tryz.prog 65 ⟨[.string ⟨⟨x20⟩⟩, .slice pairs_2 pairs_2n pairs_2c]⟩ w18 fun (e21 : Ending) (w22 : World) =>
  ∃ (x23 : Option Addr) (x23n : Nat) (x23c : Nat), e21 = .returned (.slice x23 x23n x23c) ∧ (app Tryz.prog [22, 22] 22 (.slice out_6 out_6n out_6c) (.slice x23 x23n x23c) w22 fun a24 a24n a24c w25 =>
  ∃ m26 : Nat, m26 < m9 ∧ I5 a24 a24n a24c (IntKind.i64.wrap (i_7 + 1)) w25 m26))) (∀ (K27 : World → Prop), (∀  (w28 : World), (∀ _ : Env, (∃ (x29 : Int), World.cell? w28 (p16.add 0) = some (.int .i64 x29) ∧ (∃ (x30 : List UInt8), World.cell? w28 (p16.add 1) = some (.string ⟨⟨x30⟩⟩) ∧ (∃ (x31 : Int), World.cell? w28 (p16.add 2) = some (.int .i64 x31) ∧ (∃ (x32 : Option Addr) (x32n : Nat) (x32c : Nat), World.cell? w28 (p16.add 3) = some (.slice x32 x32n x32c) ∧ (al w28 45 [.int .i64 x29, .string ⟨⟨x30⟩⟩, .int .i64 x31, .slice x32 x32n x32c] fun p33 w34 =>
  app Tryz.prog [22, 22] 22 (.slice out_6 out_6n out_6c) (.slice (some p33) 1 1) w34 fun a35 a35n a35c w36 =>
  ∃ m37 : Nat, m37 < m9 ∧ I5 a35 a35n a35c (IntKind.i64.wrap (i_7 + 1)) w36 m37)))))) → K27 w28) → (∃ (x38 : Int), World.cell? w18 (p16.add 0) = some (.int .i64 x38) ∧ (br (decide ((x38 : Int) ≠ 10)) (∃ (x39 : Option Addr) (x39n : Nat) (x39c : Nat), World.cell? w18 (p16.add 3) = some (.slice x39 x39n x39c) ∧ (Calls Tryz.prog 43 ⟨[.slice x39 x39n x39c, .slice pairs_2 pairs_2n pairs_2c]⟩ w18 fun (e40 : Ending) (w41 : World) =>
  ∃ (x42 : Option Addr) (x42n : Nat) (x42c : Nat), e40 = .returned (.slice x42 x42n x42c) ∧ (stL w41 (p16.add 3) 0 [.slice x42 x42n x42c] fun w43 =>
  K27 w43))) (K27 w18)))))))))) (R (.returned (.slice out_6 out_6n out_6c)) w8))
set_option maxRecDepth 100000 in
theorem e_ref12_expand (l_1 : Option Addr) (l_1n : Nat) (l_1c : Nat) (pairs_2 : Option Addr) (pairs_2n : Nat) (pairs_2c : Nat) (R : Ending → World → Prop) (w : World) : fnV Tryz.prog Tryz.f43 an_ref12_expand [.slice l_1 l_1n l_1c, .slice pairs_2 pairs_2n pairs_2c] R w = sh_ref12_expand l_1 l_1n l_1c pairs_2 pairs_2n pairs_2c R w := by kernel_rfl
theorem c_ref12_expand {l_1 : Option Addr} {l_1n : Nat} {l_1c : Nat} {pairs_2 : Option Addr} {pairs_2n : Nat} {pairs_2c : Nat} {R : Ending → World → Prop} {w : World} (h : sh_ref12_expand l_1 l_1n l_1c pairs_2 pairs_2n pairs_2c R w) : Calls Tryz.prog F_ref12_expand ⟨[.slice l_1 l_1n l_1c, .slice pairs_2 pairs_2n pairs_2c]⟩ w R := calls_of_fnV Tryz.func43 (by rw [e_ref12_expand]; exact h)

def an_slices_DeleteFunc_of_string_string : Ann := .two (.leaf) (.two (.leaf) (.two (.two (.leaf) (.two (.two (.leaf) (.leaf)) (.leaf))) (.two (.two (.leaf) (.one (.loop 68719411424 [(5, .one (.int .i64)), (6, .one (.int .i64))] (.two (.two (.leaf) (.two (.leaf) (.leaf))) (.two (.one (.two (.leaf) (.two (.leaf) (.two (.two (.leaf) (.leaf)) (.leaf))))) (.leaf)))))) (.two (.leaf) (.two (.leaf) (.leaf))))))
def sh_slices_DeleteFunc_of_string_string (s_1 : Option Addr) (s_1n : Nat) (s_1c : Nat) (del_2 : Fn) (del_2a : Array Value) (del_2b : Array Value) (R : Ending → World → Prop) (w : World) : Prop :=
  Calls Tryz.prog 21 ⟨[.slice s_1 s_1n s_1c, .func del_2 del_2a del_2b]⟩ w fun (e3 : Ending) (w4 : World) =>
  ∃ (x5 : Int), e3 = .returned (.int .i64 x5) ∧ (br (decide ((x5 : Int) = ((-1)))) (R (.returned (.slice s_1 s_1n s_1c)) w4) (∃ (I6 : Int → Int → World → Nat → Prop), (∃ m11 : Nat, I6 x5 (IntKind.i64.wrap (x5 + 1)) w4 m11) ∧ ∀ (i_7 : Int) (j_8 : Int) (w9 : World) (m10 : Nat), I6 i_7 j_8 w9 m10 → ∀ _ : Env, (br (decide ((j_8 : Int) < ((s_1n : Int)))) (idx s_1 s_1n j_8 1 fun p12 =>
  ∃ (x13 : List UInt8), World.cell? w9 p12 = some (.string ⟨⟨x13⟩⟩) ∧ (CallV Tryz.prog (.func del_2 del_2a del_2b) [.string ⟨⟨x13⟩⟩] w9 fun (e14 : Ending) (w15 : World) =>
  ∃ (x16 : Bool), e14 = .returned (.bool x16) ∧ (br (!x16) (idx s_1 s_1n i_7 1 fun p17 =>
  stL w15 p17 0 [.string ⟨⟨x13⟩⟩] fun w18 =>
  ∃ m19 : Nat, m19 < m10 ∧ I6 (IntKind.i64.wrap (i_7 + 1)) (IntKind.i64.wrap (j_8 + 1)) w18 m19) (∃ m20 : Nat, m20 < m10 ∧ I6 i_7 (IntKind.i64.wrap (j_8 + 1)) w15 m20)))) (sls s_1 s_1c i_7 (s_1n : Int) 1 fun a21 a21n a21c =>
  clr Tryz.prog [23] 0 [.slice a21 a21n a21c] w9 fun w22 =>
  sls s_1 s_1c 0 i_7 1 fun a23 a23n a23c =>
  R (.returned (.slice a23 a23n a23c)) w22))))
set_option maxRecDepth 100000 in
theorem e_slices_DeleteFunc_of_string_string (s_1 : Option Addr) (s_1n : Nat) (s_1c : Nat) (del_2 : Fn) (del_2a : Array Value) (del_2b : Array Value) (R : Ending → World → Prop) (w : World) : fnV Tryz.prog Tryz.f44 an_slices_DeleteFunc_of_string_string [.slice s_1 s_1n s_1c, .func del_2 del_2a del_2b] R w = sh_slices_DeleteFunc_of_string_string s_1 s_1n s_1c del_2 del_2a del_2b R w := by kernel_rfl
theorem c_slices_DeleteFunc_of_string_string {s_1 : Option Addr} {s_1n : Nat} {s_1c : Nat} {del_2 : Fn} {del_2a : Array Value} {del_2b : Array Value} {R : Ending → World → Prop} {w : World} (h : sh_slices_DeleteFunc_of_string_string s_1 s_1n s_1c del_2 del_2a del_2b R w) : Calls Tryz.prog F_slices_DeleteFunc_of_string_string ⟨[.slice s_1 s_1n s_1c, .func del_2 del_2a del_2b]⟩ w R := calls_of_fnV Tryz.func44 (by rw [e_slices_DeleteFunc_of_string_string]; exact h)

def an_legibility_Conflicts_1 : Ann := .two (.leaf) (.two (.leaf) (.leaf))
def sh_legibility_Conflicts_1 (s_1 : List UInt8) (t1_2 : Option Addr) (R : Ending → World → Prop) (w : World) : Prop :=
  dr t1_2 fun p3 =>
  ∃ (x4 : Value), World.cell? w p3 = some (x4) ∧ (∃ (x5 : Bool), lkAt Tryz.prog 68 x4 (.string ⟨⟨s_1⟩⟩) w (.bool x5) ∧ (R (.returned (.bool (!x5))) w))
set_option maxRecDepth 100000 in
theorem e_legibility_Conflicts_1 (s_1 : List UInt8) (t1_2 : Option Addr) (R : Ending → World → Prop) (w : World) : fnV Tryz.prog Tryz.f45 an_legibility_Conflicts_1 [.string ⟨⟨s_1⟩⟩, .pointer t1_2] R w = sh_legibility_Conflicts_1 s_1 t1_2 R w := by kernel_rfl
theorem c_legibility_Conflicts_1 {s_1 : List UInt8} {t1_2 : Option Addr} {R : Ending → World → Prop} {w : World} (h : sh_legibility_Conflicts_1 s_1 t1_2 R w) : Calls Tryz.prog F_legibility_Conflicts_1 ⟨[.string ⟨⟨s_1⟩⟩, .pointer t1_2]⟩ w R := calls_of_fnV Tryz.func45 (by rw [e_legibility_Conflicts_1]; exact h)

def an_legibility_limited : Ann := .two (.leaf) (.two (.two (.leaf) (.two (.two (.leaf) (.leaf)) (.leaf))) (.two (.leaf) (.leaf)))
def sh_legibility_limited (s_1 : List UInt8) (R : Ending → World → Prop) (w : World) : Prop :=
  br (decide ((65536 : Int) < ((List.length s_1 : Int)))) (R (.returned (.tuple ⟨[.string ⟨⟨[]⟩⟩, .int .i64 4]⟩)) w) (R (.returned (.tuple ⟨[.string ⟨⟨s_1⟩⟩, .int .i64 0]⟩)) w)
set_option maxRecDepth 100000 in
theorem e_legibility_limited (s_1 : List UInt8) (R : Ending → World → Prop) (w : World) : fnV Tryz.prog Tryz.f46 an_legibility_limited [.string ⟨⟨s_1⟩⟩] R w = sh_legibility_limited s_1 R w := by kernel_rfl
theorem c_legibility_limited {s_1 : List UInt8} {R : Ending → World → Prop} {w : World} (h : sh_legibility_limited s_1 R w) : Calls Tryz.prog F_legibility_limited ⟨[.string ⟨⟨s_1⟩⟩]⟩ w R := calls_of_fnV Tryz.func46 (by rw [e_legibility_limited]; exact h)

def an_legibility_pattern : Ann := .two (.leaf) (.two (.leaf) (.two (.two (.leaf) (.one (.rf [2, 3, 6] 0))) (.two (.leaf) (.leaf))))
def sh_legibility_pattern (l_1 : Option Addr) (l_1n : Nat) (l_1c : Nat) (R : Ending → World → Prop) (w : World) : Prop :=
  al w 95 [.pointer none, .slice none 0 0] fun p2 w3 =>
  Calls Tryz.prog 49 ⟨[.slice l_1 l_1n l_1c]⟩ w3 fun (e4 : Ending) (w5 : World) =>
  ∃ (x6 : Fn) (x6a : Array Value) (x6b : Array Value), e4 = .returned (.func x6 x6a x6b) ∧ (∀ base7 : Env, RFw Tryz.prog none 23 (cdAt Tryz.f47 [1, 1, 0, 1, 2]) (upd (upd (upd base7 6 (.func x6 x6a x6b)) 3 (.pointer (some p2))) 2 (.string ⟨⟨[]⟩⟩)) [] w5 0 (fun ds8 w9 =>
  Calls Tryz.prog 68 ⟨[.pointer (some p2)]⟩ w9 fun (e14 : Ending) (w15 : World) =>
  ∃ (x16 : List UInt8), e14 = .returned (.string ⟨⟨x16⟩⟩) ∧ (retD ds8 w15 fun w17 =>
  R (.returned (.string ⟨⟨x16⟩⟩)) w17)) (fun ds8 w9 =>
  retD ds8 w9 fun w18 =>
  R (.returned (.string ⟨⟨[]⟩⟩)) w18) (fun ds8 w9 =>
  Calls Tryz.prog 68 ⟨[.pointer (some p2)]⟩ w9 fun (e10 : Ending) (w11 : World) =>
  ∃ (x12 : List UInt8), e10 = .returned (.string ⟨⟨x12⟩⟩) ∧ (retD ds8 w11 fun w13 =>
  R (.returned (.string ⟨⟨x12⟩⟩)) w13)))
set_option maxRecDepth 100000 in
theorem e_legibility_pattern (l_1 : Option Addr) (l_1n : Nat) (l_1c : Nat) (R : Ending → World → Prop) (w : World) : fnV Tryz.prog Tryz.f47 an_legibility_pattern [.slice l_1 l_1n l_1c] R w = sh_legibility_pattern l_1 l_1n l_1c R w := by kernel_rfl
theorem c_legibility_pattern {l_1 : Option Addr} {l_1n : Nat} {l_1c : Nat} {R : Ending → World → Prop} {w : World} (h : sh_legibility_pattern l_1 l_1n l_1c R w) : Calls Tryz.prog F_legibility_pattern ⟨[.slice l_1 l_1n l_1c]⟩ w R := calls_of_fnV Tryz.func47 (by rw [e_legibility_pattern]; exact h)
def anA_legibility_pattern_1 : Ann := .leaf
def anB_legibility_pattern_1 : Ann := .one (.two (.leaf) (.one (.two (.leaf) (.two (.leaf) (.two (.leaf) (.two (.leaf) (.leaf)))))))
def rf_legibility_pattern_1 (t2_19 : List UInt8) (w_20 : Option Addr) (t6_21 : Fn) (t6_21a : Array Value) (t6_21b : Array Value) (t7_22 : Int) (t7_23 : List UInt8) (t7_24 : Int) (t7_25 : Option Addr) (t7_25n : Nat) (t7_25c : Nat) (t8_26 : Value) (l : Nat) (Kn Kr Kx : World → World → Prop) (w : World) : Prop :=
  al w 45 [.int .i64 0, .string ⟨⟨[]⟩⟩, .int .i64 0, .slice none 0 0] fun p28 w29 =>
  stL w29 p28 0 [.int .i64 t7_22, .string ⟨⟨t7_23⟩⟩, .int .i64 t7_24, .slice t7_25 t7_25n t7_25c] fun w30 =>
  Ext w w30 ∧ ∀ w27 : World, Upd l w30 w27 → (∃ (x31 : Int), World.cell? w27 (p28.add 0) = some (.int .i64 x31) ∧ (br (decide ((x31 : Int) = 1)) (∃ (x32 : List UInt8), World.cell? w27 (p28.add 1) = some (.string ⟨⟨x32⟩⟩) ∧ (Calls Tryz.prog 66 ⟨[.pointer w_20, .string ⟨⟨x32⟩⟩]⟩ w27 fun (e33 : Ending) (w34 : World) =>
  ∃ (x35 : Int) (x36 : Value), e33 = .returned (.tuple ⟨[.int .i64 x35, x36]⟩) ∧ (Kn w27 w34))) (br (decide ((x31 : Int) = 6)) (∃ (x37 : Int), World.cell? w27 (p28.add 2) = some (.int .i64 x37) ∧ (Calls Tryz.prog 67 ⟨[.string ⟨⟨[95]⟩⟩, .int .i64 x37]⟩ w27 fun (e38 : Ending) (w39 : World) =>
  ∃ (x40 : List UInt8), e38 = .returned (.string ⟨⟨x40⟩⟩) ∧ (Calls Tryz.prog 66 ⟨[.pointer w_20, .string ⟨⟨x40⟩⟩]⟩ w39 fun (e41 : Ending) (w42 : World) =>
  ∃ (x43 : Int) (x44 : Value), e41 = .returned (.tuple ⟨[.int .i64 x43, x44]⟩) ∧ (Kn w27 w42)))) (Kn w27 w27))))
set_option maxRecDepth 100000 in
theorem er_legibility_pattern_1 (base : Env) (t2_19 : List UInt8) (w_20 : Option Addr) (t6_21 : Fn) (t6_21a : Array Value) (t6_21b : Array Value) (t7_22 : Int) (t7_23 : List UInt8) (t7_24 : Int) (t7_25 : Option Addr) (t7_25n : Nat) (t7_25c : Nat) (t8_26 : Value) (l : Nat) (Kn Kr Kx : World → World → Prop) (w : World) : fragV Tryz.prog 23 anA_legibility_pattern_1 anB_legibility_pattern_1 (cdAt Tryz.f47 [1, 1, 0, 1, 2, 5]) (cdAt Tryz.f47 [1, 1, 0, 1, 2, 6]) l 0 Kn Kr Kx (updPs [7, 8] [.agg ⟨[.int .i64 t7_22, .string ⟨⟨t7_23⟩⟩, .int .i64 t7_24, .slice t7_25 t7_25n t7_25c]⟩, t8_26] (upd (upd (upd base 6 (.func t6_21 t6_21a t6_21b)) 3 (.pointer w_20)) 2 (.string ⟨⟨t2_19⟩⟩))) w = rf_legibility_pattern_1 t2_19 w_20 t6_21 t6_21a t6_21b t7_22 t7_23 t7_24 t7_25 t7_25n t7_25c t8_26 l Kn Kr Kx w := by kernel_rfl
theorem cd_legibility_pattern_1 : cdAt Tryz.f47 [1, 1, 0, 1, 2] = .rangeFunc (Operand.tmp 6) #[7, 8] (cdAt Tryz.f47 [1, 1, 0, 1, 2, 5]) (cdAt Tryz.f47 [1, 1, 0, 1, 2, 6]) := by kernel_rfl

def an_legibility_written : Ann := .two (.leaf) (.two (.leaf) (.two (.two (.leaf) (.one (.loop 2147483424 [(8, .one (.int .i64))] (.two (.leaf) (.two (.two (.leaf) (.leaf)) (.two (.one (.two (.leaf) (.two (.leaf) (.one (.cut 1835008 [(18, .one (.bool))] (.two (.leaf) (.two (.leaf) (.leaf))) (.two (.leaf) (.two (.leaf) (.two (.leaf) (.leaf))))))))) (.leaf))))))) (.two (.leaf) (.leaf))))
def sh_legibility_written (l_1 : Option Addr) (l_1n : Nat) (l_1c : Nat) (R : Ending → World → Prop) (w : World) : Prop :=
  al w 95 [.pointer none, .slice none 0 0] fun p2 w3 =>
  ∃ (I4 : Int → World → Nat → Prop), (∃ m8 : Nat, I4 0 w3 m8) ∧ ∀ (t8_5 : Int) (w6 : World) (m7 : Nat), I4 t8_5 w6 m7 → ∀ _ : Env, (br (decide ((t8_5 : Int) < ((l_1n : Int)))) (idx l_1 l_1n t8_5 4 fun p9 =>
  ∃ (x10 : Int), World.cell? w6 (p9.add 0) = some (.int .i64 x10) ∧ (∃ (x11 : List UInt8), World.cell? w6 (p9.add 1) = some (.string ⟨⟨x11⟩⟩) ∧ (∃ (x12 : Int), World.cell? w6 (p9.add 2) = some (.int .i64 x12) ∧ (∃ (x13 : Option Addr) (x13n : Nat) (x13c : Nat), World.cell? w6 (p9.add 3) = some (.slice x13 x13n x13c) ∧ (al w6 45 [.int .i64 0, .string ⟨⟨[]⟩⟩, .int .i64 0, .slice none 0 0] fun p14 w15 =>
  stL w15 p14 0 [.int .i64 x10, .string ⟨⟨x11⟩⟩, .int .i64 x12, .slice x13 x13n x13c] fun w16 =>
  ∃ (x17 : Int), World.cell? w16 (p14.add 0) = some (.int .i64 x17) ∧ (∀ (K18 : Bool → World → Prop), (∀ (t18_19 : Bool) (w20 : World), (∀ _ : Env, (br t18_19 (∃ (x21 : List UInt8), World.cell? w20 (p14.add 1) = some (.string ⟨⟨x21⟩⟩) ∧ (Calls Tryz.prog 66 ⟨[.pointer (some p2), .string ⟨⟨x21⟩⟩]⟩ w20 fun (e22 : Ending) (w23 : World) =>
  ∃ (x24 : Int) (x25 : Value), e22 = .returned (.tuple ⟨[.int .i64 x24, x25]⟩) ∧ (∃ m26 : Nat, m26 < m7 ∧ I4 (IntKind.i64.wrap (t8_5 + 1)) w23 m26))) (br (decide ((x17 : Int) = 6)) (∃ (x27 : Int), World.cell? w20 (p14.add 2) = some (.int .i64 x27) ∧ (Calls Tryz.prog 67 ⟨[.string ⟨⟨[95]⟩⟩, .int .i64 x27]⟩ w20 fun (e28 : Ending) (w29 : World) =>
  ∃ (x30 : List UInt8), e28 = .returned (.string ⟨⟨x30⟩⟩) ∧ (Calls Tryz.prog 66 ⟨[.pointer (some p2), .string ⟨⟨x30⟩⟩]⟩ w29 fun (e31 : Ending) (w32 : World) =>
  ∃ (x33 : Int) (x34 : Value), e31 = .returned (.tuple ⟨[.int .i64 x33, x34]⟩) ∧ (∃ m35 : Nat, m35 < m7 ∧ I4 (IntKind.i64.wrap (t8_5 + 1)) w32 m35)))) (∃ (x36 : Option Addr) (x36n : Nat) (x36c : Nat), World.cell? w20 (p14.add 3) = some (.slice x36 x36n x36c) ∧ (Calls Tryz.prog 48 ⟨[.slice x36 x36n x36c]⟩ w20 fun (e37 : Ending) (w38 : World) =>
  ∃ (x39 : List UInt8), e37 = .returned (.string ⟨⟨x39⟩⟩) ∧ (Calls Tryz.prog 66 ⟨[.pointer (some p2), .string ⟨⟨x39⟩⟩]⟩ w38 fun (e40 : Ending) (w41 : World) =>
  ∃ (x42 : Int) (x43 : Value), e40 = .returned (.tuple ⟨[.int .i64 x42, x43]⟩) ∧ (∃ m44 : Nat, m44 < m7 ∧ I4 (IntKind.i64.wrap (t8_5 + 1)) w41 m44))))))) → K18 t18_19 w20) → (br (decide ((x17 : Int) = 1)) (K18 (decide ((x17 : Int) = 1)) w16) (K18 (decide ((x17 : Int) = 10)) w16)))))))) (Calls Tryz.prog 68 ⟨[.pointer (some p2)]⟩ w6 fun (e45 : Ending) (w46 : World) =>
  ∃ (x47 : List UInt8), e45 = .returned (.string ⟨⟨x47⟩⟩) ∧ (R (.returned (.string ⟨⟨x47⟩⟩)) w46)))
set_option maxRecDepth 100000 in
theorem e_legibility_written (l_1 : Option Addr) (l_1n : Nat) (l_1c : Nat) (R : Ending → World → Prop) (w : World) : fnV Tryz.prog Tryz.f48 an_legibility_written [.slice l_1 l_1n l_1c] R w = sh_legibility_written l_1 l_1n l_1c R w := by kernel_rfl
theorem c_legibility_written {l_1 : Option Addr} {l_1n : Nat} {l_1c : Nat} {R : Ending → World → Prop} {w : World} (h : sh_legibility_written l_1 l_1n l_1c R w) : Calls Tryz.prog F_legibility_written ⟨[.slice l_1 l_1n l_1c]⟩ w R := calls_of_fnV Tryz.func48 (by rw [e_legibility_written]; exact h)

def an_legibility_all : Ann := .two (.leaf) (.two (.leaf) (.leaf))
def sh_legibility_all (l_1 : Option Addr) (l_1n : Nat) (l_1c : Nat) (R : Ending → World → Prop) (w : World) : Prop :=
  al w 22 [.slice l_1 l_1n l_1c] fun p2 w3 =>
  R (.returned (.func (.func 69) ⟨[]⟩ ⟨[.pointer (some p2)]⟩)) w3
set_option maxRecDepth 100000 in
theorem e_legibility_all (l_1 : Option Addr) (l_1n : Nat) (l_1c : Nat) (R : Ending → World → Prop) (w : World) : fnV Tryz.prog Tryz.f49 an_legibility_all [.slice l_1 l_1n l_1c] R w = sh_legibility_all l_1 l_1n l_1c R w := by kernel_rfl
theorem c_legibility_all {l_1 : Option Addr} {l_1n : Nat} {l_1c : Nat} {R : Ending → World → Prop} {w : World} (h : sh_legibility_all l_1 l_1n l_1c R w) : Calls Tryz.prog F_legibility_all ⟨[.slice l_1 l_1n l_1c]⟩ w R := calls_of_fnV Tryz.func49 (by rw [e_legibility_all]; exact h)

def an_transcript_Check_1 : Ann := .two (.leaf) (.two (.leaf) (.two (.leaf) (.leaf)))
def sh_transcript_Check_1 (t0_1 : Option Addr) (R : Ending → World → Prop) (w : World) : Prop :=
  dr t0_1 fun p2 =>
  ∃ (x3 : Int), World.cell? w p2 = some (.int .i64 x3) ∧ (dr t0_1 fun p5 =>
  stL w p5 0 [.int .i64 (IntKind.i64.wrap (x3 - 1))] fun w4 =>
  dr t0_1 fun p6 =>
  ∃ (x7 : Int), World.cell? w4 p6 = some (.int .i64 x7) ∧ (R (.returned (.bool (decide ((0 : Int) ≤ x7)))) w4))
set_option maxRecDepth 100000 in
theorem e_transcript_Check_1 (t0_1 : Option Addr) (R : Ending → World → Prop) (w : World) : fnV Tryz.prog Tryz.f50 an_transcript_Check_1 [.pointer t0_1] R w = sh_transcript_Check_1 t0_1 R w := by kernel_rfl
theorem c_transcript_Check_1 {t0_1 : Option Addr} {R : Ending → World → Prop} {w : World} (h : sh_transcript_Check_1 t0_1 R w) : Calls Tryz.prog F_transcript_Check_1 ⟨[.pointer t0_1]⟩ w R := calls_of_fnV Tryz.func50 (by rw [e_transcript_Check_1]; exact h)

def an_transcript_places : Ann := .two (.leaf) (.two (.leaf) (.leaf))
def sh_transcript_places (l_1 : Option Addr) (l_1n : Nat) (l_1c : Nat) (R : Ending → World → Prop) (w : World) : Prop :=
  al w 22 [.slice l_1 l_1n l_1c] fun p2 w3 =>
  R (.returned (.func (.func 71) ⟨[]⟩ ⟨[.pointer (some p2)]⟩)) w3
set_option maxRecDepth 100000 in
theorem e_transcript_places (l_1 : Option Addr) (l_1n : Nat) (l_1c : Nat) (R : Ending → World → Prop) (w : World) : fnV Tryz.prog Tryz.f51 an_transcript_places [.slice l_1 l_1n l_1c] R w = sh_transcript_places l_1 l_1n l_1c R w := by kernel_rfl
theorem c_transcript_places {l_1 : Option Addr} {l_1n : Nat} {l_1c : Nat} {R : Ending → World → Prop} {w : World} (h : sh_transcript_places l_1 l_1n l_1c R w) : Calls Tryz.prog F_transcript_places ⟨[.slice l_1 l_1n l_1c]⟩ w R := calls_of_fnV Tryz.func51 (by rw [e_transcript_places]; exact h)

def an_transcript_right : Ann := .two (.leaf) (.two (.leaf) (.cut 65284 [] (.two (.leaf) (.two (.two (.leaf) (.leaf)) (.leaf))) (.two (.leaf) (.two (.leaf) (.two (.one (.cut 9007199246352384 [(23, .one (.bool))] (.leaf) (.two (.two (.leaf) (.leaf)) (.cut 4722357475670390472704 [(53, .one (.bool))] (.leaf) (.two (.two (.leaf) (.leaf)) (.cut 4830980911975647053611008 [(72, .one (.bool))] (.leaf) (.two (.two (.leaf) (.leaf)) (.cut 1298074209798003628674107383480320 [(82, .one (.bool))] (.cut 4946924453863062582897672192 [(82, .one (.bool))] (.leaf) (.two (.leaf) (.leaf))) (.two (.two (.leaf) (.leaf)) (.cut 43556141667805908689605042618642248761344 [(110, .one (.bool))] (.cut 331008924731595261318819140987781120 [(110, .one (.bool))] (.leaf) (.two (.leaf) (.cut 20936639007827058705142093823497732096 [(110, .one (.bool))] (.leaf) (.two (.leaf) (.leaf))))) (.two (.two (.leaf) (.leaf)) (.cut 11106816456299431447444547186572914421923840 [(135, .one (.bool))] (.leaf) (.two (.two (.leaf) (.leaf)) (.two (.leaf) (.two (.two (.leaf) (.leaf)) (.leaf)))))))))))))))) (.two (.leaf) (.leaf)))))))
def sh_transcript_right (p_1 : Int) (p_2 : List UInt8) (p_3 : Int) (p_4 : Option Addr) (p_4n : Nat) (p_4c : Nat) (p_5 : Int) (p_6 : Bool) (R : Ending → World → Prop) (w : World) : Prop :=
  al w 80 [.int .i64 p_1, .string ⟨⟨p_2⟩⟩, .int .i64 p_3, .slice p_4 p_4n p_4c, .int .i64 p_5, .bool p_6] fun p7 w8 =>
  ∃ (x9 : Int), World.cell? w8 ((p7.add 0).add 0) = some (.int .i64 x9) ∧ (∃ (x10 : List UInt8), World.cell? w8 ((p7.add 0).add 1) = some (.string ⟨⟨x10⟩⟩) ∧ (∃ (x11 : Int), World.cell? w8 ((p7.add 0).add 2) = some (.int .i64 x11) ∧ (∃ (x12 : Option Addr) (x12n : Nat) (x12c : Nat), World.cell? w8 ((p7.add 0).add 3) = some (.slice x12 x12n x12c) ∧ (al w8 45 [.int .i64 0, .string ⟨⟨[]⟩⟩, .int .i64 0, .slice none 0 0] fun p13 w14 =>
  stL w14 p13 0 [.int .i64 x9, .string ⟨⟨x10⟩⟩, .int .i64 x11, .slice x12 x12n x12c] fun w15 =>
  ∀ (K16 : World → Prop), (∀  (w17 : World), (∀ _ : Env, (∃ (x18 : Int), World.cell? w17 (p13.add 0) = some (.int .i64 x18) ∧ (idx (some (⟨0, 0, none⟩)) 12 x18 4 fun p19 =>
  ∃ (x20 : List UInt8), World.cell? w17 (p19.add 0) = some (.string ⟨⟨x20⟩⟩) ∧ (∃ (x21 : Bool), World.cell? w17 (p19.add 1) = some (.bool x21) ∧ (∃ (x22 : Bool), World.cell? w17 (p19.add 2) = some (.bool x22) ∧ (∃ (x23 : Bool), World.cell? w17 (p19.add 3) = some (.bool x23) ∧ (al w17 106 [.string ⟨⟨[]⟩⟩, .bool false, .bool false, .bool false] fun p24 w25 =>
  stL w25 p24 0 [.string ⟨⟨x20⟩⟩, .bool x21, .bool x22, .bool x23] fun w26 =>
  ∃ (x27 : Int), World.cell? w26 (p13.add 0) = some (.int .i64 x27) ∧ (∀ (K28 : Bool → World → Prop), (∀ (t23_29 : Bool) (w30 : World), (∀ _ : Env, (br t23_29 (R (.returned (.int .i64 8)) w30) (∀ (K31 : Bool → World → Prop), (∀ (t53_32 : Bool) (w33 : World), (∀ _ : Env, (br t53_32 (R (.returned (.int .i64 5)) w33) (∀ (K34 : Bool → World → Prop), (∀ (t72_35 : Bool) (w36 : World), (∀ _ : Env, (br t72_35 (R (.returned (.int .i64 11)) w36) (∀ (K37 : Bool → World → Prop), (∀ (t82_38 : Bool) (w39 : World), (∀ _ : Env, (br t82_38 (R (.returned (.int .i64 14)) w39) (∀ (K40 : Bool → World → Prop), (∀ (t110_41 : Bool) (w42 : World), (∀ _ : Env, (br t110_41 (R (.returned (.int .i64 2)) w42) (∀ (K43 : Bool → World → Prop), (∀ (t135_44 : Bool) (w45 : World), (∀ _ : Env, (br t135_44 (R (.returned (.int .i64 10)) w45) (∃ (x46 : Int), World.cell? w45 (p13.add 0) = some (.int .i64 x46) ∧ (br (decide ((x46 : Int) = 4)) (∃ (x47 : Int), World.cell? w45 (p7.add 4) = some (.int .i64 x47) ∧ (br (decide ((0 : Int) < x47)) (R (.returned (.int .i64 12)) w45) (R (.returned (.int .i64 0)) w45))) (R (.returned (.int .i64 0)) w45))))) → K43 t135_44 w45) → (∃ (x48 : Int), World.cell? w42 (p13.add 0) = some (.int .i64 x48) ∧ (br (decide ((x48 : Int) = 1)) (∃ (x49 : Bool), World.cell? w42 (p7.add 5) = some (.bool x49) ∧ (K43 x49 w42)) (K43 false w42)))))) → K40 t110_41 w42) → (∀ (K50 : Bool → World → Prop), (∀ (t110_51 : Bool) (w52 : World), (∀ _ : Env, (br t110_51 (K40 t110_51 w52) (∀ (K53 : Bool → World → Prop), (∀ (t110_54 : Bool) (w55 : World), (∀ _ : Env, (br t110_54 (K40 t110_54 w55) (∃ (x56 : Bool), World.cell? w55 (p24.add 2) = some (.bool x56) ∧ (br x56 (br (!(decide ((x27 : Int) = 6))) (∃ (x57 : Int), World.cell? w55 (p13.add 2) = some (.int .i64 x57) ∧ (K40 (decide ((8 : Int) < x57)) w55)) (K40 false w55)) (K40 false w55))))) → K53 t110_54 w55) → (br (decide ((x27 : Int) = 6)) (∃ (x58 : Int), World.cell? w52 (p13.add 2) = some (.int .i64 x58) ∧ (K53 (decide ((64 : Int) < x58)) w52)) (K53 false w52))))) → K50 t110_51 w52) → (∃ (x59 : Bool), World.cell? w39 (p24.add 2) = some (.bool x59) ∧ (br x59 (∃ (x60 : Int), World.cell? w39 (p13.add 2) = some (.int .i64 x60) ∧ (K50 (decide ((x60 : Int) < 1)) w39)) (K50 false w39))))))) → K37 t82_38 w39) → (∀ (K61 : Bool → World → Prop), (∀ (t82_62 : Bool) (w63 : World), (∀ _ : Env, (br t82_62 (K37 t82_62 w63) (∃ (x64 : Bool), World.cell? w63 (p24.add 1) = some (.bool x64) ∧ (br x64 (∃ (x65 : Int), World.cell? w63 (p13.add 0) = some (.int .i64 x65) ∧ (br (decide ((x65 : Int) ≠ 1)) (∃ (x66 : Int), World.cell? w63 (p13.add 0) = some (.int .i64 x66) ∧ (br (decide ((x66 : Int) ≠ 10)) (∃ (x67 : List UInt8), World.cell? w63 (p13.add 1) = some (.string ⟨⟨x67⟩⟩) ∧ (Calls Tryz.prog 73 ⟨[.string ⟨⟨x67⟩⟩]⟩ w63 fun (e68 : Ending) (w69 : World) =>
  ∃ (x70 : Bool), e68 = .returned (.bool x70) ∧ (K37 (!x70) w69))) (K37 false w63))) (K37 false w63))) (K37 false w63))))) → K61 t82_62 w63) → (∃ (x71 : Int), World.cell? w36 (p13.add 0) = some (.int .i64 x71) ∧ (br (decide ((x71 : Int) = 10)) (∃ (x72 : List UInt8), World.cell? w36 (p13.add 1) = some (.string ⟨⟨x72⟩⟩) ∧ (Calls Tryz.prog 36 ⟨[.string ⟨⟨x72⟩⟩]⟩ w36 fun (e73 : Ending) (w74 : World) =>
  ∃ (x75 : Bool), e73 = .returned (.bool x75) ∧ (K61 (!x75) w74))) (K61 false w36))))))) → K34 t72_35 w36) → (∃ (x76 : Int), World.cell? w33 (p13.add 0) = some (.int .i64 x76) ∧ (br (decide ((x76 : Int) = 1)) (∃ (x77 : List UInt8), World.cell? w33 (p13.add 1) = some (.string ⟨⟨x77⟩⟩) ∧ (Calls Tryz.prog 37 ⟨[.string ⟨⟨x77⟩⟩]⟩ w33 fun (e78 : Ending) (w79 : World) =>
  ∃ (x80 : Int), e78 = .returned (.int .i64 x80) ∧ (K34 (decide ((x80 : Int) ≠ 0)) w79))) (K34 false w33)))))) → K31 t53_32 w33) → (∃ (x81 : Int), World.cell? w30 (p13.add 0) = some (.int .i64 x81) ∧ (br (decide ((x81 : Int) = 1)) (∃ (x82 : List UInt8), World.cell? w30 (p13.add 1) = some (.string ⟨⟨x82⟩⟩) ∧ (br (decide ((x82 : List UInt8) = ([]))) (K31 true w30) (∃ (x83 : Bool), World.cell? w30 (p24.add 3) = some (.bool x83) ∧ (br x83 (∃ (x84 : Option Addr) (x84n : Nat) (x84c : Nat), World.cell? w30 (p13.add 3) = some (.slice x84 x84n x84c) ∧ (K31 (decide ((((x84n : Int)) : Int) = 0)) w30)) (K31 false w30))))) (∃ (x85 : Bool), World.cell? w30 (p24.add 3) = some (.bool x85) ∧ (br x85 (∃ (x86 : Option Addr) (x86n : Nat) (x86c : Nat), World.cell? w30 (p13.add 3) = some (.slice x86 x86n x86c) ∧ (K31 (decide ((((x86n : Int)) : Int) = 0)) w30)) (K31 false w30)))))))) → K28 t23_29 w30) → (∃ (x87 : Bool), World.cell? w26 (p24.add 1) = some (.bool x87) ∧ (br (!x87) (∃ (x88 : List UInt8), World.cell? w26 (p13.add 1) = some (.string ⟨⟨x88⟩⟩) ∧ (br (decide ((x88 : List UInt8) ≠ ([]))) (K28 true w26) (∃ (x89 : Bool), World.cell? w26 (p24.add 2) = some (.bool x89) ∧ (br (!x89) (∃ (x90 : Int), World.cell? w26 (p13.add 2) = some (.int .i64 x90) ∧ (br (decide ((x90 : Int) ≠ 0)) (K28 true w26) (∃ (x91 : Bool), World.cell? w26 (p24.add 3) = some (.bool x91) ∧ (br (!x91) (∃ (x92 : Option Addr) (x92n : Nat) (x92c : Nat), World.cell? w26 (p13.add 3) = some (.slice x92 x92n x92c) ∧ (K28 (decide ((0 : Int) < ((x92n : Int)))) w26)) (K28 false w26))))) (∃ (x93 : Bool), World.cell? w26 (p24.add 3) = some (.bool x93) ∧ (br (!x93) (∃ (x94 : Option Addr) (x94n : Nat) (x94c : Nat), World.cell? w26 (p13.add 3) = some (.slice x94 x94n x94c) ∧ (K28 (decide ((0 : Int) < ((x94n : Int)))) w26)) (K28 false w26))))))) (∃ (x95 : Bool), World.cell? w26 (p24.add 2) = some (.bool x95) ∧ (br (!x95) (∃ (x96 : Int), World.cell? w26 (p13.add 2) = some (.int .i64 x96) ∧ (br (decide ((x96 : Int) ≠ 0)) (K28 true w26) (∃ (x97 : Bool), World.cell? w26 (p24.add 3) = some (.bool x97) ∧ (br (!x97) (∃ (x98 : Option Addr) (x98n : Nat) (x98c : Nat), World.cell? w26 (p13.add 3) = some (.slice x98 x98n x98c) ∧ (K28 (decide ((0 : Int) < ((x98n : Int)))) w26)) (K28 false w26))))) (∃ (x99 : Bool), World.cell? w26 (p24.add 3) = some (.bool x99) ∧ (br (!x99) (∃ (x100 : Option Addr) (x100n : Nat) (x100c : Nat), World.cell? w26 (p13.add 3) = some (.slice x100 x100n x100c) ∧ (K28 (decide ((0 : Int) < ((x100n : Int)))) w26)) (K28 false w26))))))))))))))) → K16 w17) → (∃ (x101 : Int), World.cell? w15 (p13.add 0) = some (.int .i64 x101) ∧ (br (decide ((x101 : Int) < 1)) (R (.returned (.int .i64 8)) w15) (∃ (x102 : Int), World.cell? w15 (p13.add 0) = some (.int .i64 x102) ∧ (br (decide ((11 : Int) < x102)) (R (.returned (.int .i64 8)) w15) (K16 w15)))))))))
set_option maxRecDepth 100000 in
theorem e_transcript_right (p_1 : Int) (p_2 : List UInt8) (p_3 : Int) (p_4 : Option Addr) (p_4n : Nat) (p_4c : Nat) (p_5 : Int) (p_6 : Bool) (R : Ending → World → Prop) (w : World) : fnV Tryz.prog Tryz.f52 an_transcript_right [.agg ⟨[.int .i64 p_1, .string ⟨⟨p_2⟩⟩, .int .i64 p_3, .slice p_4 p_4n p_4c, .int .i64 p_5, .bool p_6]⟩] R w = sh_transcript_right p_1 p_2 p_3 p_4 p_4n p_4c p_5 p_6 R w := by kernel_rfl
theorem c_transcript_right {p_1 : Int} {p_2 : List UInt8} {p_3 : Int} {p_4 : Option Addr} {p_4n : Nat} {p_4c : Nat} {p_5 : Int} {p_6 : Bool} {R : Ending → World → Prop} {w : World} (h : sh_transcript_right p_1 p_2 p_3 p_4 p_4n p_4c p_5 p_6 R w) : Calls Tryz.prog F_transcript_right ⟨[.agg ⟨[.int .i64 p_1, .string ⟨⟨p_2⟩⟩, .int .i64 p_3, .slice p_4 p_4n p_4c, .int .i64 p_5, .bool p_6]⟩]⟩ w R := calls_of_fnV Tryz.func52 (by rw [e_transcript_right]; exact h)

def an_transcript_marked : Ann := .two (.leaf) (.two (.leaf) (.two (.leaf) (.two (.leaf) (.two (.leaf) (.two (.leaf) (.leaf))))))
def sh_transcript_marked (l_1 : Option Addr) (l_1n : Nat) (l_1c : Nat) (R : Ending → World → Prop) (w : World) : Prop :=
  al w 95 [.pointer none, .slice none 0 0] fun p2 w3 =>
  al w3 108 [.nilFunc] fun p4 w5 =>
  stL w5 p4 0 [.func (.func 74) ⟨[]⟩ ⟨[.pointer (some p2), .pointer (some p4)]⟩] fun w6 =>
  ∃ (x7 : Fn) (x7a : Array Value) (x7b : Array Value), World.cell? w6 p4 = some (.func x7 x7a x7b) ∧ (CallV Tryz.prog (.func x7 x7a x7b) [.slice l_1 l_1n l_1c] w6 fun (e8 : Ending) (w9 : World) =>
  e8 = .returned (.tuple ⟨[]⟩) ∧ (Calls Tryz.prog 68 ⟨[.pointer (some p2)]⟩ w9 fun (e10 : Ending) (w11 : World) =>
  ∃ (x12 : List UInt8), e10 = .returned (.string ⟨⟨x12⟩⟩) ∧ (R (.returned (.string ⟨⟨x12⟩⟩)) w11)))
set_option maxRecDepth 100000 in
theorem e_transcript_marked (l_1 : Option Addr) (l_1n : Nat) (l_1c : Nat) (R : Ending → World → Prop) (w : World) : fnV Tryz.prog Tryz.f53 an_transcript_marked [.slice l_1 l_1n l_1c] R w = sh_transcript_marked l_1 l_1n l_1c R w := by kernel_rfl
theorem c_transcript_marked {l_1 : Option Addr} {l_1n : Nat} {l_1c : Nat} {R : Ending → World → Prop} {w : World} (h : sh_transcript_marked l_1 l_1n l_1c R w) : Calls Tryz.prog F_transcript_marked ⟨[.slice l_1 l_1n l_1c]⟩ w R := calls_of_fnV Tryz.func53 (by rw [e_transcript_marked]; exact h)

def an_ref12_clean : Ann := .two (.leaf) (.two (.two (.leaf) (.one (.loop 8589934588 [(3, .one (.int .i64))] (.two (.two (.leaf) (.two (.leaf) (.leaf))) (.two (.one (.two (.leaf) (.two (.two (.leaf) (.leaf)) (.leaf)))) (.leaf)))))) (.two (.leaf) (.leaf)))
def sh_ref12_clean (l_1 : Option Addr) (l_1n : Nat) (l_1c : Nat) (R : Ending → World → Prop) (w : World) : Prop :=
  ∃ (I2 : Int → World → Nat → Prop), (∃ m6 : Nat, I2 0 w m6) ∧ ∀ (i_3 : Int) (w4 : World) (m5 : Nat), I2 i_3 w4 m5 → ∀ _ : Env, (br (decide ((i_3 : Int) < ((l_1n : Int)))) (idx l_1 l_1n i_3 4 fun p7 =>
  ∃ (x8 : Int), World.cell? w4 (p7.add 0) = some (.int .i64 x8) ∧ (br (decide ((x8 : Int) = 8)) (R (.returned (.bool false)) w4) (idx l_1 l_1n i_3 4 fun p9 =>
  ∃ (x10 : Int), World.cell? w4 (p9.add 0) = some (.int .i64 x10) ∧ (br (decide ((x10 : Int) = 9)) (R (.returned (.bool false)) w4) (idx l_1 l_1n i_3 4 fun p11 =>
  ∃ (x12 : Option Addr) (x12n : Nat) (x12c : Nat), World.cell? w4 (p11.add 3) = some (.slice x12 x12n x12c) ∧ (Calls Tryz.prog 54 ⟨[.slice x12 x12n x12c]⟩ w4 fun (e13 : Ending) (w14 : World) =>
  ∃ (x15 : Bool), e13 = .returned (.bool x15) ∧ (br (!x15) (R (.returned (.bool false)) w14) (∃ m16 : Nat, m16 < m5 ∧ I2 (IntKind.i64.wrap (i_3 + 1)) w14 m16)))))))) (R (.returned (.bool true)) w4))
set_option maxRecDepth 100000 in
theorem e_ref12_clean (l_1 : Option Addr) (l_1n : Nat) (l_1c : Nat) (R : Ending → World → Prop) (w : World) : fnV Tryz.prog Tryz.f54 an_ref12_clean [.slice l_1 l_1n l_1c] R w = sh_ref12_clean l_1 l_1n l_1c R w := by kernel_rfl
theorem c_ref12_clean {l_1 : Option Addr} {l_1n : Nat} {l_1c : Nat} {R : Ending → World → Prop} {w : World} (h : sh_ref12_clean l_1 l_1n l_1c R w) : Calls Tryz.prog F_ref12_clean ⟨[.slice l_1 l_1n l_1c]⟩ w R := calls_of_fnV Tryz.func54 (by rw [e_ref12_clean]; exact h)

def an_ref10_all : Ann := .two (.leaf) (.two (.two (.leaf) (.one (.loop 8796093022192 [(5, .one (.int .i64))] (.two (.two (.leaf) (.two (.leaf) (.leaf))) (.two (.one (.two (.cut 2147467328 [(6, .one (.int .i64))] (.leaf) (.two (.leaf) (.two (.two (.leaf) (.leaf)) (.leaf)))) (.two (.leaf) (.two (.leaf) (.two (.two (.leaf) (.leaf)) (.leaf)))))) (.leaf)))))) (.two (.leaf) (.leaf)))
def sh_ref10_all (l_1 : Option Addr) (l_1n : Nat) (l_1c : Nat) (within_2 : Bool) (R : Ending → World → Prop) (w : World) : Prop :=
  ∃ (I3 : Int → World → Nat → Prop), (∃ m7 : Nat, I3 0 w m7) ∧ ∀ (i_4 : Int) (w5 : World) (m6 : Nat), I3 i_4 w5 m6 → ∀ _ : Env, (br (decide ((i_4 : Int) < ((l_1n : Int)))) (∀ (K8 : Int → World → Prop), (∀ (e_9 : Int) (w10 : World), (∀ _ : Env, (br (decide ((e_9 : Int) ≠ 0)) (R (.returned (.int .i64 e_9)) w10) (idx l_1 l_1n i_4 4 fun p11 =>
  ∃ (x12 : Option Addr) (x12n : Nat) (x12c : Nat), World.cell? w10 (p11.add 3) = some (.slice x12 x12n x12c) ∧ (Calls Tryz.prog 55 ⟨[.slice x12 x12n x12c, .bool true]⟩ w10 fun (e13 : Ending) (w14 : World) =>
  ∃ (x15 : Int), e13 = .returned (.int .i64 x15) ∧ (br (decide ((x15 : Int) ≠ 0)) (R (.returned (.int .i64 x15)) w14) (∃ m16 : Nat, m16 < m6 ∧ I3 (IntKind.i64.wrap (i_4 + 1)) w14 m16)))))) → K8 e_9 w10) → (drw w5 fun w17 =>
  idx l_1 l_1n i_4 4 fun p18 =>
  ∃ (x19 : Int), World.cell? w17 (p18.add 0) = some (.int .i64 x19) ∧ (∃ (x20 : List UInt8), World.cell? w17 (p18.add 1) = some (.string ⟨⟨x20⟩⟩) ∧ (∃ (x21 : Int), World.cell? w17 (p18.add 2) = some (.int .i64 x21) ∧ (∃ (x22 : Option Addr) (x22n : Nat) (x22c : Nat), World.cell? w17 (p18.add 3) = some (.slice x22 x22n x22c) ∧ (br (decide ((0 : Int) < i_4)) (idx l_1 l_1n (IntKind.i64.wrap (i_4 - 1)) 4 fun p23 =>
  ∃ (x24 : Int), World.cell? w17 (p23.add 0) = some (.int .i64 x24) ∧ ((Calls Tryz.prog 76 ⟨[.agg ⟨[.int .i64 x19, .string ⟨⟨x20⟩⟩, .int .i64 x21, .slice x22 x22n x22c]⟩, .bool (decide ((x24 : Int) = 1)), .bool within_2]⟩ w17 fun (e25 : Ending) (w26 : World) =>
  ∃ (x27 : Int), e25 = .returned (.int .i64 x27) ∧ (K8 x27 w26)) ∧ True)) ((Calls Tryz.prog 76 ⟨[.agg ⟨[.int .i64 x19, .string ⟨⟨x20⟩⟩, .int .i64 x21, .slice x22 x22n x22c]⟩, .bool false, .bool within_2]⟩ w17 fun (e28 : Ending) (w29 : World) =>
  ∃ (x30 : Int), e28 = .returned (.int .i64 x30) ∧ (K8 x30 w29)) ∧ True))))))) (R (.returned (.int .i64 0)) w5))
set_option maxRecDepth 100000 in
theorem e_ref10_all (l_1 : Option Addr) (l_1n : Nat) (l_1c : Nat) (within_2 : Bool) (R : Ending → World → Prop) (w : World) : fnV Tryz.prog Tryz.f55 an_ref10_all [.slice l_1 l_1n l_1c, .bool within_2] R w = sh_ref10_all l_1 l_1n l_1c within_2 R w := by kernel_rfl
theorem c_ref10_all {l_1 : Option Addr} {l_1n : Nat} {l_1c : Nat} {within_2 : Bool} {R : Ending → World → Prop} {w : World} (h : sh_ref10_all l_1 l_1n l_1c within_2 R w) : Calls Tryz.prog F_ref10_all ⟨[.slice l_1 l_1n l_1c, .bool within_2]⟩ w R := calls_of_fnV Tryz.func55 (by rw [e_ref10_all]; exact h)

def an_ref10_print : Ann := .two (.leaf) (.two (.leaf) (.two (.two (.leaf) (.one (.loop 147573952589676412920 [(3, .one (.str)), (4, .one (.int .i64))] (.two (.two (.leaf) (.two (.leaf) (.leaf))) (.two (.one (.two (.leaf) (.two (.two (.leaf) (.two (.two (.leaf) (.leaf)) (.leaf))) (.two (.leaf) (.cut 68451041344 [(6, .one (.str))] (.two (.leaf) (.two (.leaf) (.leaf))) (.cut 35115652612160 [(6, .one (.str))] (.two (.leaf) (.two (.leaf) (.leaf))) (.two (.two (.leaf) (.two (.two (.leaf) (.leaf)) (.leaf))) (.leaf)))))))) (.leaf)))))) (.two (.leaf) (.leaf))))
def sh_ref10_print (l_1 : Option Addr) (l_1n : Nat) (l_1c : Nat) (R : Ending → World → Prop) (w : World) : Prop :=
  ∃ (I2 : List UInt8 → Int → World → Nat → Prop), (∃ m7 : Nat, I2 ([]) 0 w m7) ∧ ∀ (out_3 : List UInt8) (i_4 : Int) (w5 : World) (m6 : Nat), I2 out_3 i_4 w5 m6 → ∀ _ : Env, (br (decide ((i_4 : Int) < ((l_1n : Int)))) (idx l_1 l_1n i_4 4 fun p8 =>
  ∃ (x9 : Int), World.cell? w5 (p8.add 0) = some (.int .i64 x9) ∧ (∃ (x10 : List UInt8), World.cell? w5 (p8.add 1) = some (.string ⟨⟨x10⟩⟩) ∧ (∃ (x11 : Int), World.cell? w5 (p8.add 2) = some (.int .i64 x11) ∧ (∃ (x12 : Option Addr) (x12n : Nat) (x12c : Nat), World.cell? w5 (p8.add 3) = some (.slice x12 x12n x12c) ∧ (al w5 45 [.int .i64 0, .string ⟨⟨[]⟩⟩, .int .i64 0, .slice none 0 0] fun p13 w14 =>
  stL w14 p13 0 [.int .i64 x9, .string ⟨⟨x10⟩⟩, .int .i64 x11, .slice x12 x12n x12c] fun w15 =>
  ∃ (x16 : Int), World.cell? w15 (p13.add 0) = some (.int .i64 x16) ∧ (br (decide ((x16 : Int) = 1)) (∃ (x17 : List UInt8), World.cell? w15 (p13.add 1) = some (.string ⟨⟨x17⟩⟩) ∧ (sadd out_3 x17 fun s18 =>
  ∃ m19 : Nat, m19 < m6 ∧ I2 s18 (IntKind.i64.wrap (i_4 + 1)) w15 m19)) (∃ (x20 : Int), World.cell? w15 (p13.add 0) = some (.int .i64 x20) ∧ (Calls Tryz.prog 77 ⟨[.int .i64 x20]⟩ w15 fun (e21 : Ending) (w22 : World) =>
  ∃ (x23 : List UInt8), e21 = .returned (.string ⟨⟨x23⟩⟩) ∧ (sadd ([60]) x23 fun s24 =>
  ∀ (K25 : List UInt8 → World → Prop), (∀ (tag_26 : List UInt8) (w27 : World), (∀ _ : Env, (∀ (K28 : List UInt8 → World → Prop), (∀ (tag_29 : List UInt8) (w30 : World), (∀ _ : Env, (∃ (x31 : Int), World.cell? w30 (p13.add 0) = some (.int .i64 x31) ∧ (Calls Tryz.prog 81 ⟨[.int .i64 x31]⟩ w30 fun (e32 : Ending) (w33 : World) =>
  ∃ (x34 : Bool), e32 = .returned (.bool x34) ∧ (br (!x34) (sadd out_3 tag_29 fun s35 =>
  sadd s35 ([47, 62]) fun s36 =>
  ∃ m37 : Nat, m37 < m6 ∧ I2 s36 (IntKind.i64.wrap (i_4 + 1)) w33 m37) (drw w33 fun w38 =>
  sadd out_3 tag_29 fun s39 =>
  sadd s39 ([62]) fun s40 =>
  ∃ (x41 : Option Addr) (x41n : Nat) (x41c : Nat), World.cell? w38 (p13.add 3) = some (.slice x41 x41n x41c) ∧ ((Calls Tryz.prog 56 ⟨[.slice x41 x41n x41c]⟩ w38 fun (e42 : Ending) (w43 : World) =>
  ∃ (x44 : List UInt8), e42 = .returned (.string ⟨⟨x44⟩⟩) ∧ (sadd s40 x44 fun s45 =>
  sadd s45 ([60, 47]) fun s46 =>
  ∃ (x47 : Int), World.cell? w43 (p13.add 0) = some (.int .i64 x47) ∧ ((Calls Tryz.prog 77 ⟨[.int .i64 x47]⟩ w43 fun (e48 : Ending) (w49 : World) =>
  ∃ (x50 : List UInt8), e48 = .returned (.string ⟨⟨x50⟩⟩) ∧ (sadd s46 x50 fun s51 =>
  sadd s51 ([62]) fun s52 =>
  ∃ m53 : Nat, m53 < m6 ∧ I2 s52 (IntKind.i64.wrap (i_4 + 1)) w49 m53)) ∧ True))) ∧ ((Calls Tryz.prog 56 ⟨[.slice x41 x41n x41c]⟩ w38 fun (e54 : Ending) (w55 : World) =>
  ∃ (x56 : List UInt8), e54 = .returned (.string ⟨⟨x56⟩⟩) ∧ (sadd s40 x56 fun s57 =>
  sadd s57 ([60, 47]) fun s58 =>
  ∃ (x59 : Int), World.cell? w55 (p13.add 0) = some (.int .i64 x59) ∧ ((Calls Tryz.prog 77 ⟨[.int .i64 x59]⟩ w55 fun (e60 : Ending) (w61 : World) =>
  ∃ (x62 : List UInt8), e60 = .returned (.string ⟨⟨x62⟩⟩) ∧ (sadd s58 x62 fun s63 =>
  sadd s63 ([62]) fun s64 =>
  ∃ m65 : Nat, m65 < m6 ∧ I2 s64 (IntKind.i64.wrap (i_4 + 1)) w61 m65)) ∧ True))) ∧ (∃ (x66 : Int), World.cell? w38 (p13.add 0) = some (.int .i64 x66) ∧ ((Calls Tryz.prog 56 ⟨[.slice x41 x41n x41c]⟩ w38 fun (e67 : Ending) (w68 : World) =>
  ∃ (x69 : List UInt8), e67 = .returned (.string ⟨⟨x69⟩⟩) ∧ (sadd s40 x69 fun s70 =>
  sadd s70 ([60, 47]) fun s71 =>
  (Calls Tryz.prog 77 ⟨[.int .i64 x66]⟩ w68 fun (e72 : Ending) (w73 : World) =>
  ∃ (x74 : List UInt8), e72 = .returned (.string ⟨⟨x74⟩⟩) ∧ (sadd s71 x74 fun s75 =>
  sadd s75 ([62]) fun s76 =>
  ∃ m77 : Nat, m77 < m6 ∧ I2 s76 (IntKind.i64.wrap (i_4 + 1)) w73 m77)) ∧ True)) ∧ True)) ∧ True) ∧ True)))))) → K28 tag_29 w30) → (∃ (x78 : Int), World.cell? w27 (p13.add 0) = some (.int .i64 x78) ∧ (Calls Tryz.prog 79 ⟨[.int .i64 x78]⟩ w27 fun (e79 : Ending) (w80 : World) =>
  ∃ (x81 : Bool), e79 = .returned (.bool x81) ∧ (br x81 (sadd tag_26 ([32]) fun s82 =>
  ∃ (x83 : Int), World.cell? w80 (p13.add 2) = some (.int .i64 x83) ∧ (Calls Tryz.prog 80 ⟨[.int .i64 x83]⟩ w80 fun (e84 : Ending) (w85 : World) =>
  ∃ (x86 : List UInt8), e84 = .returned (.string ⟨⟨x86⟩⟩) ∧ (sadd s82 x86 fun s87 =>
  K28 s87 w85))) (K28 tag_26 w80)))))) → K25 tag_26 w27) → (∃ (x88 : Int), World.cell? w22 (p13.add 0) = some (.int .i64 x88) ∧ (Calls Tryz.prog 78 ⟨[.int .i64 x88]⟩ w22 fun (e89 : Ending) (w90 : World) =>
  ∃ (x91 : Bool), e89 = .returned (.bool x91) ∧ (br x91 (sadd s24 ([32]) fun s92 =>
  ∃ (x93 : List UInt8), World.cell? w90 (p13.add 1) = some (.string ⟨⟨x93⟩⟩) ∧ (sadd s92 x93 fun s94 =>
  K25 s94 w90)) (K25 s24 w90))))))))))))) (R (.returned (.string ⟨⟨out_3⟩⟩)) w5))
set_option maxRecDepth 100000 in
theorem e_ref10_print (l_1 : Option Addr) (l_1n : Nat) (l_1c : Nat) (R : Ending → World → Prop) (w : World) : fnV Tryz.prog Tryz.f56 an_ref10_print [.slice l_1 l_1n l_1c] R w = sh_ref10_print l_1 l_1n l_1c R w := by kernel_rfl
theorem c_ref10_print {l_1 : Option Addr} {l_1n : Nat} {l_1c : Nat} {R : Ending → World → Prop} {w : World} (h : sh_ref10_print l_1 l_1n l_1c R w) : Calls Tryz.prog F_ref10_print ⟨[.slice l_1 l_1n l_1c]⟩ w R := calls_of_fnV Tryz.func56 (by rw [e_ref10_print]; exact h)

def an_charset_Kind : Ann := .two (.leaf) (.two (.one (.cut 262136 [(3, .one (.bool))] (.leaf) (.two (.two (.leaf) (.leaf)) (.cut 536608768 [(18, .one (.bool))] (.leaf) (.two (.two (.leaf) (.leaf)) (.cut 68182605824 [(29, .one (.bool))] (.leaf) (.two (.two (.leaf) (.leaf)) (.two (.leaf) (.two (.two (.leaf) (.leaf)) (.two (.leaf) (.two (.two (.leaf) (.leaf)) (.two (.leaf) (.two (.two (.leaf) (.leaf)) (.leaf)))))))))))))) (.two (.leaf) (.leaf)))
def sh_charset_Kind (c_1 : Int) (R : Ending → World → Prop) (w : World) : Prop :=
  ∀ (K2 : Bool → World → Prop), (∀ (t3_3 : Bool) (w4 : World), (∀ _ : Env, (br t3_3 (R (.returned (.int .i64 1)) w4) (∀ (K5 : Bool → World → Prop), (∀ (t18_6 : Bool) (w7 : World), (∀ _ : Env, (br t18_6 (R (.returned (.int .i64 2)) w7) (∀ (K8 : Bool → World → Prop), (∀ (t29_9 : Bool) (w10 : World), (∀ _ : Env, (br t29_9 (R (.returned (.int .i64 3)) w10) (br (decide ((c_1 : Int) = 39)) (R (.returned (.int .i64 4)) w10) (br (decide ((c_1 : Int) = 32)) (R (.returned (.int .i64 6)) w10) (br (decide ((c_1 : Int) ≠ 0)) (Calls Tryz.prog 82 ⟨[.string ⟨⟨[46, 44, 59, 58, 33, 63, 40, 41, 45]⟩⟩, .int .u8 c_1]⟩ w10 fun (e11 : Ending) (w12 : World) =>
  ∃ (x13 : Int), e11 = .returned (.int .i64 x13) ∧ (br (decide ((0 : Int) ≤ x13)) (R (.returned (.int .i64 5)) w12) (R (.returned (.int .i64 0)) w12))) (R (.returned (.int .i64 0)) w10)))))) → K8 t29_9 w10) → (br (decide ((48 : Int) ≤ c_1)) (K8 (decide ((c_1 : Int) ≤ 57)) w7) (K8 false w7))))) → K5 t18_6 w7) → (br (decide ((c_1 : Int) = 94)) (K5 true w4) (br (decide ((c_1 : Int) = 126)) (K5 true w4) (K5 (decide ((c_1 : Int) = 37)) w4)))))) → K2 t3_3 w4) → (br (decide ((97 : Int) ≤ c_1)) (br (decide ((c_1 : Int) ≤ 122)) (K2 true w) (br (decide ((65 : Int) ≤ c_1)) (K2 (decide ((c_1 : Int) ≤ 90)) w) (K2 false w))) (br (decide ((65 : Int) ≤ c_1)) (K2 (decide ((c_1 : Int) ≤ 90)) w) (K2 false w)))
set_option maxRecDepth 100000 in
theorem e_charset_Kind (c_1 : Int) (R : Ending → World → Prop) (w : World) : fnV Tryz.prog Tryz.f57 an_charset_Kind [.int .u8 c_1] R w = sh_charset_Kind c_1 R w := by kernel_rfl
theorem c_charset_Kind {c_1 : Int} {R : Ending → World → Prop} {w : World} (h : sh_charset_Kind c_1 R w) : Calls Tryz.prog F_charset_Kind ⟨[.int .u8 c_1]⟩ w R := calls_of_fnV Tryz.func57 (by rw [e_charset_Kind]; exact h)

def an_slices_ContainsFunc_of_byte_byte : Ann := .two (.leaf) (.two (.leaf) (.leaf))
def sh_slices_ContainsFunc_of_byte_byte (s_1 : Option Addr) (s_1n : Nat) (s_1c : Nat) (f_2 : Fn) (f_2a : Array Value) (f_2b : Array Value) (R : Ending → World → Prop) (w : World) : Prop :=
  Calls Tryz.prog 83 ⟨[.slice s_1 s_1n s_1c, .func f_2 f_2a f_2b]⟩ w fun (e3 : Ending) (w4 : World) =>
  ∃ (x5 : Int), e3 = .returned (.int .i64 x5) ∧ (R (.returned (.bool (decide ((0 : Int) ≤ x5)))) w4)
set_option maxRecDepth 100000 in
theorem e_slices_ContainsFunc_of_byte_byte (s_1 : Option Addr) (s_1n : Nat) (s_1c : Nat) (f_2 : Fn) (f_2a : Array Value) (f_2b : Array Value) (R : Ending → World → Prop) (w : World) : fnV Tryz.prog Tryz.f58 an_slices_ContainsFunc_of_byte_byte [.slice s_1 s_1n s_1c, .func f_2 f_2a f_2b] R w = sh_slices_ContainsFunc_of_byte_byte s_1 s_1n s_1c f_2 f_2a f_2b R w := by kernel_rfl
theorem c_slices_ContainsFunc_of_byte_byte {s_1 : Option Addr} {s_1n : Nat} {s_1c : Nat} {f_2 : Fn} {f_2a : Array Value} {f_2b : Array Value} {R : Ending → World → Prop} {w : World} (h : sh_slices_ContainsFunc_of_byte_byte s_1 s_1n s_1c f_2 f_2a f_2b R w) : Calls Tryz.prog F_slices_ContainsFunc_of_byte_byte ⟨[.slice s_1 s_1n s_1c, .func f_2 f_2a f_2b]⟩ w R := calls_of_fnV Tryz.func58 (by rw [e_slices_ContainsFunc_of_byte_byte]; exact h)

def an_charset_IsWord_1 : Ann := .two (.leaf) (.two (.leaf) (.two (.leaf) (.leaf)))
def sh_charset_IsWord_1 (c_1 : Int) (R : Ending → World → Prop) (w : World) : Prop :=
  Calls Tryz.prog 57 ⟨[.int .u8 c_1]⟩ w fun (e2 : Ending) (w3 : World) =>
  ∃ (x4 : Int), e2 = .returned (.int .i64 x4) ∧ (br (decide ((x4 : Int) = 5)) (R (.returned (.bool true)) w3) (R (.returned (.bool (decide ((x4 : Int) = 6)))) w3))
set_option maxRecDepth 100000 in
theorem e_charset_IsWord_1 (c_1 : Int) (R : Ending → World → Prop) (w : World) : fnV Tryz.prog Tryz.f59 an_charset_IsWord_1 [.int .u8 c_1] R w = sh_charset_IsWord_1 c_1 R w := by kernel_rfl
theorem c_charset_IsWord_1 {c_1 : Int} {R : Ending → World → Prop} {w : World} (h : sh_charset_IsWord_1 c_1 R w) : Calls Tryz.prog F_charset_IsWord_1 ⟨[.int .u8 c_1]⟩ w R := calls_of_fnV Tryz.func59 (by rw [e_charset_IsWord_1]; exact h)

def an_charset_clusters : Ann := .two (.leaf) (.two (.leaf) (.leaf))
def sh_charset_clusters (s_1 : List UInt8) (R : Ending → World → Prop) (w : World) : Prop :=
  al w 9 [.string ⟨⟨s_1⟩⟩] fun p2 w3 =>
  R (.returned (.func (.func 84) ⟨[]⟩ ⟨[.pointer (some p2)]⟩)) w3
set_option maxRecDepth 100000 in
theorem e_charset_clusters (s_1 : List UInt8) (R : Ending → World → Prop) (w : World) : fnV Tryz.prog Tryz.f60 an_charset_clusters [.string ⟨⟨s_1⟩⟩] R w = sh_charset_clusters s_1 R w := by kernel_rfl
theorem c_charset_clusters {s_1 : List UInt8} {R : Ending → World → Prop} {w : World} (h : sh_charset_clusters s_1 R w) : Calls Tryz.prog F_charset_clusters ⟨[.string ⟨⟨s_1⟩⟩]⟩ w R := calls_of_fnV Tryz.func60 (by rw [e_charset_clusters]; exact h)

def an_legibility_parts_1 : Ann := .one (.loop 4294967288 [] (.two (.two (.leaf) (.two (.leaf) (.leaf))) (.one (.two (.leaf) (.cut 8388488 [(3, .one (.int .i64))] (.one (.loop 8388488 [(3, .one (.int .i64))] (.two (.two (.leaf) (.two (.leaf) (.leaf))) (.one (.leaf))))) (.two (.two (.leaf) (.two (.leaf) (.leaf))) (.leaf)))))))
def sh_legibility_parts_1 (yield_1 : Fn) (yield_1a : Array Value) (yield_1b : Array Value) (t1_2 : Option Addr) (R : Ending → World → Prop) (w : World) : Prop :=
  ∃ (I3 : World → Nat → Prop), (∃ m6 : Nat, I3 w m6) ∧ ∀  (w4 : World) (m5 : Nat), I3 w4 m5 → ∀ _ : Env, (dr t1_2 fun p7 =>
  ∃ (x8 : List UInt8), World.cell? w4 p7 = some (.string ⟨⟨x8⟩⟩) ∧ (br (decide ((0 : Int) < ((List.length x8 : Int)))) (∀ (K9 : Int → World → Prop), (∀ (n_10 : Int) (w11 : World), (∀ _ : Env, (dr t1_2 fun p12 =>
  ∃ (x13 : List UInt8), World.cell? w11 p12 = some (.string ⟨⟨x13⟩⟩) ∧ (ssl x13 0 n_10 fun s14 =>
  CallV Tryz.prog (.func yield_1 yield_1a yield_1b) [.string ⟨⟨s14⟩⟩] w11 fun (e15 : Ending) (w16 : World) =>
  ∃ (x17 : Bool), e15 = .returned (.bool x17) ∧ (br (!x17) (R (.returned (.tuple ⟨[]⟩)) w16) (dr t1_2 fun p18 =>
  ∃ (x19 : List UInt8), World.cell? w16 p18 = some (.string ⟨⟨x19⟩⟩) ∧ (ssl x19 n_10 (List.length x19 : Int) fun s20 =>
  dr t1_2 fun p22 =>
  stL w16 p22 0 [.string ⟨⟨s20⟩⟩] fun w21 =>
  ∃ m23 : Nat, m23 < m5 ∧ I3 w21 m23)))))) → K9 n_10 w11) → (∃ (I24 : Int → World → Nat → Prop), (∃ m28 : Nat, I24 1 w4 m28) ∧ ∀ (n_25 : Int) (w26 : World) (m27 : Nat), I24 n_25 w26 m27 → ∀ _ : Env, (drw w26 fun w29 =>
  dr t1_2 fun p30 =>
  ∃ (x31 : List UInt8), World.cell? w29 p30 = some (.string ⟨⟨x31⟩⟩) ∧ (br (decide ((n_25 : Int) < ((List.length x31 : Int)))) (dr t1_2 fun p32 =>
  ∃ (x33 : List UInt8), World.cell? w29 p32 = some (.string ⟨⟨x33⟩⟩) ∧ (sidx x33 n_25 fun b34 =>
  (Calls Tryz.prog 62 ⟨[.int .u8 ((b34.toNat : Int))]⟩ w29 fun (e35 : Ending) (w36 : World) =>
  ∃ (x37 : Bool), e35 = .returned (.bool x37) ∧ (dr t1_2 fun p38 =>
  ∃ (x39 : List UInt8), World.cell? w36 p38 = some (.string ⟨⟨x39⟩⟩) ∧ (sidx x39 0 fun b40 =>
  (Calls Tryz.prog 62 ⟨[.int .u8 ((b40.toNat : Int))]⟩ w36 fun (e41 : Ending) (w42 : World) =>
  ∃ (x43 : Bool), e41 = .returned (.bool x43) ∧ (br (decide ((x37 : Bool) = x43)) (∃ m44 : Nat, m44 < m27 ∧ I24 (IntKind.i64.wrap (n_25 + 1)) w42 m44) (K9 n_25 w42))) ∧ True))) ∧ (dr t1_2 fun p45 =>
  ∃ (x46 : List UInt8), World.cell? w29 p45 = some (.string ⟨⟨x46⟩⟩) ∧ ((Calls Tryz.prog 62 ⟨[.int .u8 ((b34.toNat : Int))]⟩ w29 fun (e47 : Ending) (w48 : World) =>
  ∃ (x49 : Bool), e47 = .returned (.bool x49) ∧ (sidx x46 0 fun b50 =>
  (Calls Tryz.prog 62 ⟨[.int .u8 ((b50.toNat : Int))]⟩ w48 fun (e51 : Ending) (w52 : World) =>
  ∃ (x53 : Bool), e51 = .returned (.bool x53) ∧ (br (decide ((x49 : Bool) = x53)) (∃ m54 : Nat, m54 < m27 ∧ I24 (IntKind.i64.wrap (n_25 + 1)) w52 m54) (K9 n_25 w52))) ∧ True)) ∧ (sidx x46 0 fun b55 =>
  (Calls Tryz.prog 62 ⟨[.int .u8 ((b34.toNat : Int))]⟩ w29 fun (e56 : Ending) (w57 : World) =>
  ∃ (x58 : Bool), e56 = .returned (.bool x58) ∧ ((Calls Tryz.prog 62 ⟨[.int .u8 ((b55.toNat : Int))]⟩ w57 fun (e59 : Ending) (w60 : World) =>
  ∃ (x61 : Bool), e59 = .returned (.bool x61) ∧ (br (decide ((x58 : Bool) = x61)) (∃ m62 : Nat, m62 < m27 ∧ I24 (IntKind.i64.wrap (n_25 + 1)) w60 m62) (K9 n_25 w60))) ∧ True)) ∧ True) ∧ True)) ∧ True)) (((K9 n_25 w29) ∧ True) ∧ (((K9 n_25 w29) ∧ True) ∧ (((K9 n_25 w29) ∧ True) ∧ True) ∧ True) ∧ True))))) (R (.returned (.tuple ⟨[]⟩)) w4)))
set_option maxRecDepth 100000 in
theorem e_legibility_parts_1 (yield_1 : Fn) (yield_1a : Array Value) (yield_1b : Array Value) (t1_2 : Option Addr) (R : Ending → World → Prop) (w : World) : fnV Tryz.prog Tryz.f61 an_legibility_parts_1 [.func yield_1 yield_1a yield_1b, .pointer t1_2] R w = sh_legibility_parts_1 yield_1 yield_1a yield_1b t1_2 R w := by kernel_rfl
theorem c_legibility_parts_1 {yield_1 : Fn} {yield_1a : Array Value} {yield_1b : Array Value} {t1_2 : Option Addr} {R : Ending → World → Prop} {w : World} (h : sh_legibility_parts_1 yield_1 yield_1a yield_1b t1_2 R w) : Calls Tryz.prog F_legibility_parts_1 ⟨[.func yield_1 yield_1a yield_1b, .pointer t1_2]⟩ w R := calls_of_fnV Tryz.func61 (by rw [e_legibility_parts_1]; exact h)

def an_legibility_inWord : Ann := .two (.leaf) (.two (.leaf) (.two (.leaf) (.leaf)))
def sh_legibility_inWord (c_1 : Int) (R : Ending → World → Prop) (w : World) : Prop :=
  Calls Tryz.prog 57 ⟨[.int .u8 c_1]⟩ w fun (e2 : Ending) (w3 : World) =>
  ∃ (x4 : Int), e2 = .returned (.int .i64 x4) ∧ (br (decide ((x4 : Int) = 1)) (R (.returned (.bool true)) w3) (br (decide ((x4 : Int) = 2)) (R (.returned (.bool true)) w3) (br (decide ((x4 : Int) = 3)) (R (.returned (.bool true)) w3) (R (.returned (.bool (decide ((x4 : Int) = 4)))) w3))))
set_option maxRecDepth 100000 in
theorem e_legibility_inWord (c_1 : Int) (R : Ending → World → Prop) (w : World) : fnV Tryz.prog Tryz.f62 an_legibility_inWord [.int .u8 c_1] R w = sh_legibility_inWord c_1 R w := by kernel_rfl
theorem c_legibility_inWord {c_1 : Int} {R : Ending → World → Prop} {w : World} (h : sh_legibility_inWord c_1 R w) : Calls Tryz.prog F_legibility_inWord ⟨[.int .u8 c_1]⟩ w R := calls_of_fnV Tryz.func62 (by rw [e_legibility_inWord]; exact h)

def an_ref01_Kind : Ann := .two (.leaf) (.two (.one (.cut 262136 [(3, .one (.bool))] (.leaf) (.two (.two (.leaf) (.leaf)) (.cut 536608768 [(18, .one (.bool))] (.leaf) (.two (.two (.leaf) (.leaf)) (.cut 68182605824 [(29, .one (.bool))] (.leaf) (.two (.two (.leaf) (.leaf)) (.two (.leaf) (.two (.two (.leaf) (.leaf)) (.cut 18889465930928825040896 [(39, .one (.bool))] (.leaf) (.two (.two (.leaf) (.leaf)) (.two (.leaf) (.two (.two (.leaf) (.leaf)) (.leaf)))))))))))))) (.two (.leaf) (.leaf)))
def sh_ref01_Kind (c_1 : Int) (R : Ending → World → Prop) (w : World) : Prop :=
  ∀ (K2 : Bool → World → Prop), (∀ (t3_3 : Bool) (w4 : World), (∀ _ : Env, (br t3_3 (R (.returned (.int .i64 1)) w4) (∀ (K5 : Bool → World → Prop), (∀ (t18_6 : Bool) (w7 : World), (∀ _ : Env, (br t18_6 (R (.returned (.int .i64 2)) w7) (∀ (K8 : Bool → World → Prop), (∀ (t29_9 : Bool) (w10 : World), (∀ _ : Env, (br t29_9 (R (.returned (.int .i64 3)) w10) (br (decide ((c_1 : Int) = 39)) (R (.returned (.int .i64 4)) w10) (∀ (K11 : Bool → World → Prop), (∀ (t39_12 : Bool) (w13 : World), (∀ _ : Env, (br t39_12 (R (.returned (.int .i64 5)) w13) (br (decide ((c_1 : Int) = 32)) (R (.returned (.int .i64 6)) w13) (R (.returned (.int .i64 0)) w13)))) → K11 t39_12 w13) → (br (decide ((c_1 : Int) = 46)) (K11 true w10) (br (decide ((c_1 : Int) = 44)) (K11 true w10) (br (decide ((c_1 : Int) = 59)) (K11 true w10) (br (decide ((c_1 : Int) = 58)) (K11 true w10) (br (decide ((c_1 : Int) = 33)) (K11 true w10) (br (decide ((c_1 : Int) = 63)) (K11 true w10) (br (decide ((c_1 : Int) = 40)) (K11 true w10) (br (decide ((c_1 : Int) = 41)) (K11 true w10) (K11 (decide ((c_1 : Int) = 45)) w10))))))))))))) → K8 t29_9 w10) → (br (decide ((48 : Int) ≤ c_1)) (K8 (decide ((c_1 : Int) ≤ 57)) w7) (K8 false w7))))) → K5 t18_6 w7) → (br (decide ((c_1 : Int) = 94)) (K5 true w4) (br (decide ((c_1 : Int) = 126)) (K5 true w4) (K5 (decide ((c_1 : Int) = 37)) w4)))))) → K2 t3_3 w4) → (br (decide ((97 : Int) ≤ c_1)) (br (decide ((c_1 : Int) ≤ 122)) (K2 true w) (br (decide ((65 : Int) ≤ c_1)) (K2 (decide ((c_1 : Int) ≤ 90)) w) (K2 false w))) (br (decide ((65 : Int) ≤ c_1)) (K2 (decide ((c_1 : Int) ≤ 90)) w) (K2 false w)))
set_option maxRecDepth 100000 in
theorem e_ref01_Kind (c_1 : Int) (R : Ending → World → Prop) (w : World) : fnV Tryz.prog Tryz.f63 an_ref01_Kind [.int .u8 c_1] R w = sh_ref01_Kind c_1 R w := by kernel_rfl
theorem c_ref01_Kind {c_1 : Int} {R : Ending → World → Prop} {w : World} (h : sh_ref01_Kind c_1 R w) : Calls Tryz.prog F_ref01_Kind ⟨[.int .u8 c_1]⟩ w R := calls_of_fnV Tryz.func63 (by rw [e_ref01_Kind]; exact h)

def an_ref01_right : Ann := .two (.leaf) (.two (.leaf) (.two (.two (.leaf) (.one (.loop 549755813848 [(3, .one (.slice)), (4, .one (.int .i64))] (.two (.two (.leaf) (.two (.leaf) (.leaf))) (.two (.one (.leaf)) (.leaf)))))) (.two (.leaf) (.leaf))))
def sh_ref01_right (s_1 : List UInt8) (R : Ending → World → Prop) (w : World) : Prop :=
  al w 4 [] fun p2 w3 =>
  ∃ (I4 : Option Addr → Nat → Nat → Int → World → Nat → Prop), (∃ m9 : Nat, I4 (some p2) 0 0 0 w3 m9) ∧ ∀ (out_5 : Option Addr) (out_5n : Nat) (out_5c : Nat) (i_6 : Int) (w7 : World) (m8 : Nat), I4 out_5 out_5n out_5c i_6 w7 m8 → ∀ _ : Env, (br (decide ((i_6 : Int) < ((List.length s_1 : Int)))) (sidx s_1 i_6 fun b10 =>
  Calls Tryz.prog 63 ⟨[.int .u8 ((b10.toNat : Int))]⟩ w7 fun (e11 : Ending) (w12 : World) =>
  ∃ (x13 : Int), e11 = .returned (.int .i64 x13) ∧ (br (decide ((x13 : Int) = 2)) (br (decide ((0 : Int) < i_6)) (sidx s_1 (IntKind.i64.wrap (i_6 - 1)) fun b14 =>
  Calls Tryz.prog 63 ⟨[.int .u8 ((b14.toNat : Int))]⟩ w12 fun (e15 : Ending) (w16 : World) =>
  ∃ (x17 : Int), e15 = .returned (.int .i64 x17) ∧ (br (decide ((x17 : Int) = 1)) (al w16 4 [.bool true] fun p18 w19 =>
  app Tryz.prog [90, 90] 90 (.slice out_5 out_5n out_5c) (.slice (some p18) 1 1) w19 fun a20 a20n a20c w21 =>
  ∃ m22 : Nat, m22 < m8 ∧ I4 a20 a20n a20c (IntKind.i64.wrap (i_6 + 1)) w21 m22) (idx out_5 out_5n (IntKind.i64.wrap (i_6 - 1)) 1 fun p23 =>
  ∃ (x24 : Bool), World.cell? w16 p23 = some (.bool x24) ∧ (al w16 4 [.bool x24] fun p25 w26 =>
  app Tryz.prog [90, 90] 90 (.slice out_5 out_5n out_5c) (.slice (some p25) 1 1) w26 fun a27 a27n a27c w28 =>
  ∃ m29 : Nat, m29 < m8 ∧ I4 a27 a27n a27c (IntKind.i64.wrap (i_6 + 1)) w28 m29)))) (al w12 4 [.bool false] fun p30 w31 =>
  app Tryz.prog [90, 90] 90 (.slice out_5 out_5n out_5c) (.slice (some p30) 1 1) w31 fun a32 a32n a32c w33 =>
  ∃ m34 : Nat, m34 < m8 ∧ I4 a32 a32n a32c (IntKind.i64.wrap (i_6 + 1)) w33 m34)) (al w12 4 [.bool false] fun p35 w36 =>
  app Tryz.prog [90, 90] 90 (.slice out_5 out_5n out_5c) (.slice (some p35) 1 1) w36 fun a37 a37n a37c w38 =>
  ∃ m39 : Nat, m39 < m8 ∧ I4 a37 a37n a37c (IntKind.i64.wrap (i_6 + 1)) w38 m39))) (R (.returned (.slice out_5 out_5n out_5c)) w7))
set_option maxRecDepth 100000 in
theorem e_ref01_right (s_1 : List UInt8) (R : Ending → World → Prop) (w : World) : fnV Tryz.prog Tryz.f64 an_ref01_right [.string ⟨⟨s_1⟩⟩] R w = sh_ref01_right s_1 R w := by kernel_rfl
theorem c_ref01_right {s_1 : List UInt8} {R : Ending → World → Prop} {w : World} (h : sh_ref01_right s_1 R w) : Calls Tryz.prog F_ref01_right ⟨[.string ⟨⟨s_1⟩⟩]⟩ w R := calls_of_fnV Tryz.func64 (by rw [e_ref01_right]; exact h)

def an_ref12_divided : Ann := .two (.leaf) (.two (.leaf) (.two (.leaf) (.two (.two (.leaf) (.one (.loop 77371252455336267181191136 [(5, .one (.slice)), (6, .one (.str)), (7, .one (.int .i64))] (.two (.two (.leaf) (.two (.leaf) (.leaf))) (.one (.two (.leaf) (.cut 1073479936 [(8, .one (.int .i64))] (.one (.loop 1073479936 [(8, .one (.int .i64))] (.two (.two (.leaf) (.two (.leaf) (.leaf))) (.one (.leaf))))) (.two (.two (.leaf) (.two (.two (.leaf) (.two (.leaf) (.leaf))) (.leaf))) (.two (.leaf) (.two (.leaf) (.two (.two (.leaf) (.one (.loop 2305280059260275712 [(10, .one (.int .i64)), (11, .one (.int .i64))] (.two (.two (.leaf) (.two (.leaf) (.leaf))) (.two (.one (.two (.leaf) (.two (.leaf) (.leaf)))) (.leaf)))))) (.two (.two (.leaf) (.two (.leaf) (.cut 9370945989444452220960 [(5, .one (.slice))] (.two (.leaf) (.two (.leaf) (.leaf))) (.two (.leaf) (.leaf))))) (.leaf))))))))))))) (.two (.two (.leaf) (.two (.leaf) (.leaf))) (.two (.leaf) (.leaf))))))
def sh_ref12_divided (s_1 : List UInt8) (pairs_2 : Option Addr) (pairs_2n : Nat) (pairs_2c : Nat) (R : Ending → World → Prop) (w : World) : Prop :=
  al w 45 [] fun p3 w4 =>
  ∃ (I5 : Option Addr → Nat → Nat → List UInt8 → Int → World → Nat → Prop), (∃ m11 : Nat, I5 (some p3) 0 0 ([]) 0 w4 m11) ∧ ∀ (out_6 : Option Addr) (out_6n : Nat) (out_6c : Nat) (text_7 : List UInt8) (i_8 : Int) (w9 : World) (m10 : Nat), I5 out_6 out_6n out_6c text_7 i_8 w9 m10 → ∀ _ : Env, (br (decide ((i_8 : Int) < ((List.length s_1 : Int)))) (∀ (K12 : Int → World → Prop), (∀ (k_13 : Int) (w14 : World), (∀ _ : Env, (br (decide ((k_13 : Int) = i_8)) (ssl s_1 i_8 (IntKind.i64.wrap (i_8 + 1)) fun s15 =>
  sadd text_7 s15 fun s16 =>
  ∃ m17 : Nat, m17 < m10 ∧ I5 out_6 out_6n out_6c s16 (IntKind.i64.wrap (i_8 + 1)) w14 m17) (ssl s_1 i_8 k_13 fun s18 =>
  ∃ (I19 : Int → Int → World → Nat → Prop), (∃ m24 : Nat, I19 ((-1)) (IntKind.i64.wrap (((pairs_2n : Int)) - 1)) w14 m24) ∧ ∀ (found_20 : Int) (j_21 : Int) (w22 : World) (m23 : Nat), I19 found_20 j_21 w22 m23 → ∀ _ : Env, (br (decide ((0 : Int) ≤ j_21)) (idx pairs_2 pairs_2n j_21 2 fun p25 =>
  ∃ (x26 : List UInt8), World.cell? w22 (p25.add 0) = some (.string ⟨⟨x26⟩⟩) ∧ (br (decide ((x26 : List UInt8) = s18)) (∃ m27 : Nat, m27 < m23 ∧ I19 j_21 (IntKind.i64.wrap (j_21 - 1)) w22 m27) (∃ m28 : Nat, m28 < m23 ∧ I19 found_20 (IntKind.i64.wrap (j_21 - 1)) w22 m28))) (br (decide ((found_20 : Int) < 0)) (sadd text_7 s18 fun s29 =>
  ∃ m30 : Nat, m30 < m10 ∧ I5 out_6 out_6n out_6c s29 k_13 w22 m30) (∀ (K31 : Option Addr → Nat → Nat → World → Prop), (∀ (out_32 : Option Addr) (out_32n : Nat) (out_32c : Nat) (w33 : World), (∀ _ : Env, (idx pairs_2 pairs_2n found_20 2 fun p34 =>
  ∃ (x35 : List UInt8), World.cell? w33 (p34.add 1) = some (.string ⟨⟨x35⟩⟩) ∧ (al w33 45 [.int .i64 1, .string ⟨⟨x35⟩⟩, .int .i64 0, .slice none 0 0] fun p36 w37 =>
  al w37 45 [.int .i64 10, .string ⟨⟨s18⟩⟩, .int .i64 0, .slice (some p36) 1 1] fun p38 w39 =>
  app Tryz.prog [22, 22] 22 (.slice out_32 out_32n out_32c) (.slice (some p38) 1 1) w39 fun a40 a40n a40c w41 =>
  ∃ m42 : Nat, m42 < m10 ∧ I5 a40 a40n a40c ([]) k_13 w41 m42))) → K31 out_32 out_32n out_32c w33) → (br (decide ((text_7 : List UInt8) ≠ ([]))) (al w22 45 [.int .i64 1, .string ⟨⟨text_7⟩⟩, .int .i64 0, .slice none 0 0] fun p43 w44 =>
  app Tryz.prog [22, 22] 22 (.slice out_6 out_6n out_6c) (.slice (some p43) 1 1) w44 fun a45 a45n a45c w46 =>
  K31 a45 a45n a45c w46) (K31 out_6 out_6n out_6c w22)))))))) → K12 k_13 w14) → (∃ (I47 : Int → World → Nat → Prop), (∃ m51 : Nat, I47 i_8 w9 m51) ∧ ∀ (k_48 : Int) (w49 : World) (m50 : Nat), I47 k_48 w49 m50 → ∀ _ : Env, (br (decide ((k_48 : Int) < ((List.length s_1 : Int)))) (sidx s_1 k_48 fun b52 =>
  Calls Tryz.prog 86 ⟨[.int .u8 ((b52.toNat : Int))]⟩ w49 fun (e53 : Ending) (w54 : World) =>
  ∃ (x55 : Bool), e53 = .returned (.bool x55) ∧ (br x55 (∃ m56 : Nat, m56 < m50 ∧ I47 (IntKind.i64.wrap (k_48 + 1)) w54 m56) (K12 k_48 w54))) (K12 k_48 w49)))) (br (decide ((text_7 : List UInt8) ≠ ([]))) (al w9 45 [.int .i64 1, .string ⟨⟨text_7⟩⟩, .int .i64 0, .slice none 0 0] fun p57 w58 =>
  app Tryz.prog [22, 22] 22 (.slice out_6 out_6n out_6c) (.slice (some p57) 1 1) w58 fun a59 a59n a59c w60 =>
  R (.returned (.slice a59 a59n a59c)) w60) (R (.returned (.slice out_6 out_6n out_6c)) w9)))
set_option maxRecDepth 100000 in
theorem e_ref12_divided (s_1 : List UInt8) (pairs_2 : Option Addr) (pairs_2n : Nat) (pairs_2c : Nat) (R : Ending → World → Prop) (w : World) : fnV Tryz.prog Tryz.f65 an_ref12_divided [.string ⟨⟨s_1⟩⟩, .slice pairs_2 pairs_2n pairs_2c] R w = sh_ref12_divided s_1 pairs_2 pairs_2n pairs_2c R w := by kernel_rfl
theorem c_ref12_divided {s_1 : List UInt8} {pairs_2 : Option Addr} {pairs_2n : Nat} {pairs_2c : Nat} {R : Ending → World → Prop} {w : World} (h : sh_ref12_divided s_1 pairs_2 pairs_2n pairs_2c R w) : Calls Tryz.prog F_ref12_divided ⟨[.string ⟨⟨s_1⟩⟩, .slice pairs_2 pairs_2n pairs_2c]⟩ w R := calls_of_fnV Tryz.func65 (by rw [e_ref12_divided]; exact h)

def an_strings_Builder_WriteString : Ann := .two (.leaf) (.two (.leaf) (.two (.leaf) (.two (.leaf) (.leaf))))
def sh_strings_Builder_WriteString (b_1 : Option Addr) (s_2 : List UInt8) (R : Ending → World → Prop) (w : World) : Prop :=
  Calls Tryz.prog 87 ⟨[.pointer b_1]⟩ w fun (e3 : Ending) (w4 : World) =>
  e3 = .returned (.tuple ⟨[]⟩) ∧ (dr b_1 fun p5 =>
  ∃ (x6 : Option Addr) (x6n : Nat) (x6c : Nat), World.cell? w4 (p5.add 1) = some (.slice x6 x6n x6c) ∧ (app Tryz.prog [85, 9] 85 (.slice x6 x6n x6c) (.string ⟨⟨s_2⟩⟩) w4 fun a7 a7n a7c w8 =>
  dr b_1 fun p9 =>
  stL w8 (p9.add 1) 0 [.slice a7 a7n a7c] fun w10 =>
  R (.returned (.tuple ⟨[.int .i64 ((List.length s_2 : Int)), .nilIface]⟩)) w10))
set_option maxRecDepth 100000 in
theorem e_strings_Builder_WriteString (b_1 : Option Addr) (s_2 : List UInt8) (R : Ending → World → Prop) (w : World) : fnV Tryz.prog Tryz.f66 an_strings_Builder_WriteString [.pointer b_1, .string ⟨⟨s_2⟩⟩] R w = sh_strings_Builder_WriteString b_1 s_2 R w := by kernel_rfl
theorem c_strings_Builder_WriteString {b_1 : Option Addr} {s_2 : List UInt8} {R : Ending → World → Prop} {w : World} (h : sh_strings_Builder_WriteString b_1 s_2 R w) : Calls Tryz.prog F_strings_Builder_WriteString ⟨[.pointer b_1, .string ⟨⟨s_2⟩⟩]⟩ w R := calls_of_fnV Tryz.func66 (by rw [e_strings_Builder_WriteString]; exact h)

def an_legibility_all_1 : Ann := .two (.leaf) (.two (.leaf) (.two (.leaf) (.leaf)))
def sh_legibility_all_1 (yield_1 : Fn) (yield_1a : Array Value) (yield_1b : Array Value) (t1_2 : Option Addr) (R : Ending → World → Prop) (w : World) : Prop :=
  al w 102 [.func yield_1 yield_1a yield_1b] fun p3 w4 =>
  al w4 103 [.nilFunc] fun p5 w6 =>
  stL w6 p5 0 [.func (.func 70) ⟨[]⟩ ⟨[.pointer (some p3), .pointer (some p5)]⟩] fun w7 =>
  ∃ (x8 : Fn) (x8a : Array Value) (x8b : Array Value), World.cell? w7 p5 = some (.func x8 x8a x8b) ∧ (dr t1_2 fun p9 =>
  ∃ (x10 : Option Addr) (x10n : Nat) (x10c : Nat), World.cell? w7 p9 = some (.slice x10 x10n x10c) ∧ (CallV Tryz.prog (.func x8 x8a x8b) [.slice x10 x10n x10c, .bool false] w7 fun (e11 : Ending) (w12 : World) =>
  ∃ (x13 : Bool), e11 = .returned (.bool x13) ∧ (R (.returned (.tuple ⟨[]⟩)) w12)))
set_option maxRecDepth 100000 in
theorem e_legibility_all_1 (yield_1 : Fn) (yield_1a : Array Value) (yield_1b : Array Value) (t1_2 : Option Addr) (R : Ending → World → Prop) (w : World) : fnV Tryz.prog Tryz.f69 an_legibility_all_1 [.func yield_1 yield_1a yield_1b, .pointer t1_2] R w = sh_legibility_all_1 yield_1 yield_1a yield_1b t1_2 R w := by kernel_rfl
theorem c_legibility_all_1 {yield_1 : Fn} {yield_1a : Array Value} {yield_1b : Array Value} {t1_2 : Option Addr} {R : Ending → World → Prop} {w : World} (h : sh_legibility_all_1 yield_1 yield_1a yield_1b t1_2 R w) : Calls Tryz.prog F_legibility_all_1 ⟨[.func yield_1 yield_1a yield_1b, .pointer t1_2]⟩ w R := calls_of_fnV Tryz.func69 (by rw [e_legibility_all_1]; exact h)

def an_legibility_all_1_1 : Ann := .two (.leaf) (.two (.two (.leaf) (.one (.loop 17179867456 [(11, .one (.int .i64))] (.two (.leaf) (.two (.two (.leaf) (.leaf)) (.two (.one (.two (.leaf) (.two (.leaf) (.two (.two (.leaf) (.leaf)) (.leaf))))) (.leaf))))))) (.two (.leaf) (.leaf)))
def sh_legibility_all_1_1 (l_1 : Option Addr) (l_1n : Nat) (l_1c : Nat) (unclear_2 : Bool) (t2_3 : Option Addr) (t3_4 : Option Addr) (R : Ending → World → Prop) (w : World) : Prop :=
  ∃ (I5 : Int → World → Nat → Prop), (∃ m9 : Nat, I5 0 w m9) ∧ ∀ (t11_6 : Int) (w7 : World) (m8 : Nat), I5 t11_6 w7 m8 → ∀ _ : Env, (br (decide ((t11_6 : Int) < ((l_1n : Int)))) (idx l_1 l_1n t11_6 4 fun p10 =>
  ∃ (x11 : Int), World.cell? w7 (p10.add 0) = some (.int .i64 x11) ∧ (∃ (x12 : List UInt8), World.cell? w7 (p10.add 1) = some (.string ⟨⟨x12⟩⟩) ∧ (∃ (x13 : Int), World.cell? w7 (p10.add 2) = some (.int .i64 x13) ∧ (∃ (x14 : Option Addr) (x14n : Nat) (x14c : Nat), World.cell? w7 (p10.add 3) = some (.slice x14 x14n x14c) ∧ (al w7 45 [.int .i64 0, .string ⟨⟨[]⟩⟩, .int .i64 0, .slice none 0 0] fun p15 w16 =>
  stL w16 p15 0 [.int .i64 x11, .string ⟨⟨x12⟩⟩, .int .i64 x13, .slice x14 x14n x14c] fun w17 =>
  dr t2_3 fun p18 =>
  ∃ (x19 : Fn) (x19a : Array Value) (x19b : Array Value), World.cell? w17 p18 = some (.func x19 x19a x19b) ∧ (∃ (x20 : Int), World.cell? w17 (p15.add 0) = some (.int .i64 x20) ∧ (∃ (x21 : List UInt8), World.cell? w17 (p15.add 1) = some (.string ⟨⟨x21⟩⟩) ∧ (∃ (x22 : Int), World.cell? w17 (p15.add 2) = some (.int .i64 x22) ∧ (∃ (x23 : Option Addr) (x23n : Nat) (x23c : Nat), World.cell? w17 (p15.add 3) = some (.slice x23 x23n x23c) ∧ (CallV Tryz.prog (.func x19 x19a x19b) [.agg ⟨[.int .i64 x20, .string ⟨⟨x21⟩⟩, .int .i64 x22, .slice x23 x23n x23c]⟩, .bool unclear_2] w17 fun (e24 : Ending) (w25 : World) =>
  ∃ (x26 : Bool), e24 = .returned (.bool x26) ∧ (br (!x26) (R (.returned (.bool false)) w25) (dr t3_4 fun p27 =>
  ∃ (x28 : Fn) (x28a : Array Value) (x28b : Array Value), World.cell? w25 p27 = some (.func x28 x28a x28b) ∧ (∃ (x29 : Option Addr) (x29n : Nat) (x29c : Nat), World.cell? w25 (p15.add 3) = some (.slice x29 x29n x29c) ∧ (br unclear_2 (CallV Tryz.prog (.func x28 x28a x28b) [.slice x29 x29n x29c, .bool true] w25 fun (e30 : Ending) (w31 : World) =>
  ∃ (x32 : Bool), e30 = .returned (.bool x32) ∧ (br (!x32) (R (.returned (.bool false)) w31) (∃ m33 : Nat, m33 < m8 ∧ I5 (IntKind.i64.wrap (t11_6 + 1)) w31 m33))) (∃ (x34 : Int), World.cell? w25 (p15.add 0) = some (.int .i64 x34) ∧ (CallV Tryz.prog (.func x28 x28a x28b) [.slice x29 x29n x29c, .bool (decide ((x34 : Int) = 7))] w25 fun (e35 : Ending) (w36 : World) =>
  ∃ (x37 : Bool), e35 = .returned (.bool x37) ∧ (br (!x37) (R (.returned (.bool false)) w36) (∃ m38 : Nat, m38 < m8 ∧ I5 (IntKind.i64.wrap (t11_6 + 1)) w36 m38)))))))))))))))))) (R (.returned (.bool true)) w7))
set_option maxRecDepth 100000 in
theorem e_legibility_all_1_1 (l_1 : Option Addr) (l_1n : Nat) (l_1c : Nat) (unclear_2 : Bool) (t2_3 : Option Addr) (t3_4 : Option Addr) (R : Ending → World → Prop) (w : World) : fnV Tryz.prog Tryz.f70 an_legibility_all_1_1 [.slice l_1 l_1n l_1c, .bool unclear_2, .pointer t2_3, .pointer t3_4] R w = sh_legibility_all_1_1 l_1 l_1n l_1c unclear_2 t2_3 t3_4 R w := by kernel_rfl
theorem c_legibility_all_1_1 {l_1 : Option Addr} {l_1n : Nat} {l_1c : Nat} {unclear_2 : Bool} {t2_3 : Option Addr} {t3_4 : Option Addr} {R : Ending → World → Prop} {w : World} (h : sh_legibility_all_1_1 l_1 l_1n l_1c unclear_2 t2_3 t3_4 R w) : Calls Tryz.prog F_legibility_all_1_1 ⟨[.slice l_1 l_1n l_1c, .bool unclear_2, .pointer t2_3, .pointer t3_4]⟩ w R := calls_of_fnV Tryz.func70 (by rw [e_legibility_all_1_1]; exact h)

def an_transcript_places_1 : Ann := .two (.leaf) (.two (.leaf) (.two (.leaf) (.leaf)))
def sh_transcript_places_1 (yield_1 : Fn) (yield_1a : Array Value) (yield_1b : Array Value) (t1_2 : Option Addr) (R : Ending → World → Prop) (w : World) : Prop :=
  al w 104 [.func yield_1 yield_1a yield_1b] fun p3 w4 =>
  al w4 43 [.nilFunc] fun p5 w6 =>
  stL w6 p5 0 [.func (.func 72) ⟨[]⟩ ⟨[.pointer (some p3), .pointer (some p5)]⟩] fun w7 =>
  ∃ (x8 : Fn) (x8a : Array Value) (x8b : Array Value), World.cell? w7 p5 = some (.func x8 x8a x8b) ∧ (dr t1_2 fun p9 =>
  ∃ (x10 : Option Addr) (x10n : Nat) (x10c : Nat), World.cell? w7 p9 = some (.slice x10 x10n x10c) ∧ (CallV Tryz.prog (.func x8 x8a x8b) [.slice x10 x10n x10c, .int .i64 0] w7 fun (e11 : Ending) (w12 : World) =>
  ∃ (x13 : Bool), e11 = .returned (.bool x13) ∧ (R (.returned (.tuple ⟨[]⟩)) w12)))
set_option maxRecDepth 100000 in
theorem e_transcript_places_1 (yield_1 : Fn) (yield_1a : Array Value) (yield_1b : Array Value) (t1_2 : Option Addr) (R : Ending → World → Prop) (w : World) : fnV Tryz.prog Tryz.f71 an_transcript_places_1 [.func yield_1 yield_1a yield_1b, .pointer t1_2] R w = sh_transcript_places_1 yield_1 yield_1a yield_1b t1_2 R w := by kernel_rfl
theorem c_transcript_places_1 {yield_1 : Fn} {yield_1a : Array Value} {yield_1b : Array Value} {t1_2 : Option Addr} {R : Ending → World → Prop} {w : World} (h : sh_transcript_places_1 yield_1 yield_1a yield_1b t1_2 R w) : Calls Tryz.prog F_transcript_places_1 ⟨[.func yield_1 yield_1a yield_1b, .pointer t1_2]⟩ w R := calls_of_fnV Tryz.func71 (by rw [e_transcript_places_1]; exact h)

def an_transcript_places_1_1 : Ann := .two (.leaf) (.two (.leaf) (.two (.two (.leaf) (.one (.loop 1099511624384 [(7, .one (.bool)), (12, .one (.int .i64))] (.two (.leaf) (.two (.two (.leaf) (.leaf)) (.two (.one (.two (.leaf) (.two (.two (.leaf) (.two (.two (.leaf) (.leaf)) (.leaf))) (.leaf)))) (.leaf))))))) (.two (.leaf) (.leaf))))
def sh_transcript_places_1_1 (l_1 : Option Addr) (l_1n : Nat) (l_1c : Nat) (depth_2 : Int) (t2_3 : Option Addr) (t3_4 : Option Addr) (R : Ending → World → Prop) (w : World) : Prop :=
  ∃ (I5 : Bool → Int → World → Nat → Prop), (∃ m10 : Nat, I5 false 0 w m10) ∧ ∀ (text_6 : Bool) (t12_7 : Int) (w8 : World) (m9 : Nat), I5 text_6 t12_7 w8 m9 → ∀ _ : Env, (br (decide ((t12_7 : Int) < ((l_1n : Int)))) (idx l_1 l_1n t12_7 4 fun p11 =>
  ∃ (x12 : Int), World.cell? w8 (p11.add 0) = some (.int .i64 x12) ∧ (∃ (x13 : List UInt8), World.cell? w8 (p11.add 1) = some (.string ⟨⟨x13⟩⟩) ∧ (∃ (x14 : Int), World.cell? w8 (p11.add 2) = some (.int .i64 x14) ∧ (∃ (x15 : Option Addr) (x15n : Nat) (x15c : Nat), World.cell? w8 (p11.add 3) = some (.slice x15 x15n x15c) ∧ (al w8 45 [.int .i64 0, .string ⟨⟨[]⟩⟩, .int .i64 0, .slice none 0 0] fun p16 w17 =>
  stL w17 p16 0 [.int .i64 x12, .string ⟨⟨x13⟩⟩, .int .i64 x14, .slice x15 x15n x15c] fun w18 =>
  dr t2_3 fun p19 =>
  ∃ (x20 : Fn) (x20a : Array Value) (x20b : Array Value), World.cell? w18 p19 = some (.func x20 x20a x20b) ∧ (∃ (x21 : Int), World.cell? w18 (p16.add 0) = some (.int .i64 x21) ∧ (∃ (x22 : List UInt8), World.cell? w18 (p16.add 1) = some (.string ⟨⟨x22⟩⟩) ∧ (∃ (x23 : Int), World.cell? w18 (p16.add 2) = some (.int .i64 x23) ∧ (∃ (x24 : Option Addr) (x24n : Nat) (x24c : Nat), World.cell? w18 (p16.add 3) = some (.slice x24 x24n x24c) ∧ (CallV Tryz.prog (.func x20 x20a x20b) [.agg ⟨[.int .i64 x21, .string ⟨⟨x22⟩⟩, .int .i64 x23, .slice x24 x24n x24c, .int .i64 depth_2, .bool text_6]⟩] w18 fun (e25 : Ending) (w26 : World) =>
  ∃ (x27 : Bool), e25 = .returned (.bool x27) ∧ (br (!x27) (R (.returned (.bool false)) w26) (br (decide ((depth_2 : Int) ≤ 16)) (dr t3_4 fun p28 =>
  ∃ (x29 : Fn) (x29a : Array Value) (x29b : Array Value), World.cell? w26 p28 = some (.func x29 x29a x29b) ∧ (∃ (x30 : Option Addr) (x30n : Nat) (x30c : Nat), World.cell? w26 (p16.add 3) = some (.slice x30 x30n x30c) ∧ (CallV Tryz.prog (.func x29 x29a x29b) [.slice x30 x30n x30c, .int .i64 (IntKind.i64.wrap (depth_2 + 1))] w26 fun (e31 : Ending) (w32 : World) =>
  ∃ (x33 : Bool), e31 = .returned (.bool x33) ∧ (br (!x33) (R (.returned (.bool false)) w32) (∃ (x34 : Int), World.cell? w32 (p16.add 0) = some (.int .i64 x34) ∧ (∃ m35 : Nat, m35 < m9 ∧ I5 (decide ((x34 : Int) = 1)) (IntKind.i64.wrap (t12_7 + 1)) w32 m35)))))) (∃ (x36 : Int), World.cell? w26 (p16.add 0) = some (.int .i64 x36) ∧ (∃ m37 : Nat, m37 < m9 ∧ I5 (decide ((x36 : Int) = 1)) (IntKind.i64.wrap (t12_7 + 1)) w26 m37)))))))))))))) (R (.returned (.bool true)) w8))
set_option maxRecDepth 100000 in
theorem e_transcript_places_1_1 (l_1 : Option Addr) (l_1n : Nat) (l_1c : Nat) (depth_2 : Int) (t2_3 : Option Addr) (t3_4 : Option Addr) (R : Ending → World → Prop) (w : World) : fnV Tryz.prog Tryz.f72 an_transcript_places_1_1 [.slice l_1 l_1n l_1c, .int .i64 depth_2, .pointer t2_3, .pointer t3_4] R w = sh_transcript_places_1_1 l_1 l_1n l_1c depth_2 t2_3 t3_4 R w := by kernel_rfl
theorem c_transcript_places_1_1 {l_1 : Option Addr} {l_1n : Nat} {l_1c : Nat} {depth_2 : Int} {t2_3 : Option Addr} {t3_4 : Option Addr} {R : Ending → World → Prop} {w : World} (h : sh_transcript_places_1_1 l_1 l_1n l_1c depth_2 t2_3 t3_4 R w) : Calls Tryz.prog F_transcript_places_1_1 ⟨[.slice l_1 l_1n l_1c, .int .i64 depth_2, .pointer t2_3, .pointer t3_4]⟩ w R := calls_of_fnV Tryz.func72 (by rw [e_transcript_places_1_1]; exact h)

def an_charset_IsName : Ann := .two (.leaf) (.two (.leaf) (.leaf))
def sh_charset_IsName (s_1 : List UInt8) (R : Ending → World → Prop) (w : World) : Prop :=
  br (decide ((s_1 : List UInt8) ≠ ([]))) (br (decide ((((List.length s_1 : Int)) : Int) ≤ 16)) (Calls Tryz.prog 92 ⟨[.string ⟨⟨s_1⟩⟩]⟩ w fun (e2 : Ending) (w3 : World) =>
  ∃ (x4 : Int), e2 = .returned (.int .i64 x4) ∧ (R (.returned (.bool (decide ((x4 : Int) = ((List.length s_1 : Int)))))) w3)) (R (.returned (.bool false)) w)) (R (.returned (.bool false)) w)
set_option maxRecDepth 100000 in
theorem e_charset_IsName (s_1 : List UInt8) (R : Ending → World → Prop) (w : World) : fnV Tryz.prog Tryz.f73 an_charset_IsName [.string ⟨⟨s_1⟩⟩] R w = sh_charset_IsName s_1 R w := by kernel_rfl
theorem c_charset_IsName {s_1 : List UInt8} {R : Ending → World → Prop} {w : World} (h : sh_charset_IsName s_1 R w) : Calls Tryz.prog F_charset_IsName ⟨[.string ⟨⟨s_1⟩⟩]⟩ w R := calls_of_fnV Tryz.func73 (by rw [e_charset_IsName]; exact h)

end Go.Proofs
