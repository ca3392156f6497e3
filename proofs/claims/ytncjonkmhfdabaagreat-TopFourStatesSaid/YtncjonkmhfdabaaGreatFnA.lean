/- Written by program: for each function its verification condition, that it is the code's (by the kernel), and that it gives the call. -/
import Derived.Test.YtncjonkmhfdabaaGreatFn
namespace Go.Proofs
open Go Go.Sh
def an_apographtop_TopFourStates : Ann := .two (.leaf) (.cut 2251791223750672 [] (.two (.leaf) (.two (.two (.leaf) (.leaf)) (.leaf))) (.two (.leaf) (.two (.leaf) (.two (.leaf) (.two (.two (.leaf) (.one (.loop 10633823966279326983221449282988998640 [(5, .one (.bool)), (6, .one (.slice)), (7, .one (.slice)), (53, .one (.int .i64))] (.two (.leaf) (.two (.two (.leaf) (.leaf)) (.two (.one (.two (.leaf) (.two (.leaf) (.two (.two (.leaf) (.one (.loop 9435509593702435657728 [(63, .one (.int .i64))] (.two (.leaf) (.two (.two (.leaf) (.leaf)) (.two (.one (.two (.leaf) (.two (.leaf) (.two (.leaf) (.leaf))))) (.leaf))))))) (.two (.leaf) (.two (.leaf) (.two (.two (.leaf) (.two (.two (.leaf) (.leaf)) (.leaf))) (.cut 1199254413057712141308526656 [(6, .one (.slice))] (.two (.leaf) (.two (.leaf) (.leaf))) (.two (.leaf) (.one (.loop 5316911963332622863049143842736308256 [(5, .one (.bool)), (94, .one (.int .i64))] (.two (.leaf) (.two (.two (.leaf) (.leaf)) (.two (.one (.two (.leaf) (.two (.leaf) (.two (.two (.leaf) (.one (.loop 41535839567078164569440977227874304 [(101, .one (.int .i64))] (.two (.leaf) (.two (.two (.leaf) (.leaf)) (.two (.one (.two (.leaf) (.leaf))) (.leaf))))))) (.two (.leaf) (.leaf)))))) (.leaf))))))))))))))) (.leaf))))))) (.two (.leaf) (.two (.two (.leaf) (.two (.two (.leaf) (.leaf)) (.leaf))) (.two (.two (.leaf) (.two (.two (.leaf) (.leaf)) (.leaf))) (.two (.leaf) (.cut 22791361592898296850649504074646625459111985168 [] (.two (.leaf) (.two (.two (.leaf) (.leaf)) (.leaf))) (.two (.two (.leaf) (.one (.loop 1645504557321205950811116849375918117252433820865891143291764752 [(156, .one (.int .i64))] (.two (.leaf) (.two (.two (.leaf) (.leaf)) (.two (.one (.two (.leaf) (.two (.leaf) (.two (.two (.leaf) (.one (.loop 24519916961841123086510206804926285207635668708349706256 [(26, .one (.slice)), (163, .one (.int .i64))] (.two (.leaf) (.two (.two (.leaf) (.leaf)) (.two (.one (.two (.leaf) (.two (.leaf) (.two (.two (.leaf) (.two (.two (.leaf) (.leaf)) (.leaf))) (.leaf))))) (.leaf))))))) (.two (.leaf) (.cut 100409107837533037999638897218888257710699787285470688313344 [(30, .one (.int .i64))] (.two (.leaf) (.two (.leaf) (.leaf))) (.two (.leaf) (.two (.leaf) (.two (.two (.leaf) (.leaf)) (.leaf)))))))))) (.leaf))))))) (.two (.leaf) (.leaf)))))))))))))
set_option maxRecDepth 100000 in
def sh_apographtop_TopFourStates (names_1 : Option Addr) (names_1n : Nat) (names_1c : Nat) (rows_2 : Option Addr) (rows_2n : Nat) (rows_2c : Nat) (R : Ending → World → Prop) (w : World) : Prop :=
  al w 22 [.slice names_1 names_1n names_1c] fun p3 w4 =>
  ∀ (K5 : World → Prop), (∀  (w6 : World), (∀ _ : Env, (∃ (I7 : Bool → Option Addr → Nat → Nat → Option Addr → Nat → Nat → Int → World → Nat → Prop), (∃ m14 : Nat, I7 false none 0 0 none 0 0 0 w6 m14) ∧ ∀ (four_8 : Bool) (l_9 : Option Addr) (l_9n : Nat) (l_9c : Nat) (all_10 : Option Addr) (all_10n : Nat) (all_10c : Nat) (t53_11 : Int) (w12 : World) (m13 : Nat), I7 four_8 l_9 l_9n l_9c all_10 all_10n all_10c t53_11 w12 m13 → ∀ _ : Env, (br (decide ((t53_11 : Int) < ((rows_2n : Int)))) (idx rows_2 rows_2n t53_11 1 fun p15 =>
  ∃ (x16 : Option Addr) (x16n : Nat) (x16c : Nat), World.cell? w12 p15 = some (.slice x16 x16n x16c) ∧ (mks w12 3 8 [.int .i64 0] ((x16n : Int)) ((x16n : Int)) fun p17 w18 =>
  ∃ (I19 : Int → World → Nat → Prop), (∃ m23 : Nat, I19 0 w18 m23) ∧ ∀ (t63_20 : Int) (w21 : World) (m22 : Nat), I19 t63_20 w21 m22 → ∀ _ : Env, (br (decide ((t63_20 : Int) < ((x16n : Int)))) (idx x16 x16n t63_20 1 fun p24 =>
  ∃ (x25 : Bool), World.cell? w21 p24 = some (.bool x25) ∧ (br x25 (idx (some p17) (Int.toNat ((x16n : Int))) t63_20 1 fun p26 =>
  stL w21 p26 0 [.int .i64 1] fun w27 =>
  ∃ m28 : Nat, m28 < m22 ∧ I19 (IntKind.i64.wrap (t63_20 + 1)) w27 m28) (∃ m29 : Nat, m29 < m22 ∧ I19 (IntKind.i64.wrap (t63_20 + 1)) w21 m29))) (al w21 30 [.slice (some p17) (Int.toNat ((x16n : Int))) (Int.toNat ((x16n : Int)))] fun p30 w31 =>
  app Tryz.prog [29, 29] 29 (.slice all_10 all_10n all_10c) (.slice (some p30) 1 1) w31 fun a32 a32n a32c w33 =>
  Calls Tryz.prog 8 ⟨[.slice (some p17) (Int.toNat ((x16n : Int))) (Int.toNat ((x16n : Int)))]⟩ w33 fun (e34 : Ending) (w35 : World) =>
  ∃ (x36 : Option Addr) (x36n : Nat) (x36c : Nat) (x37 : Bool) (x38 : Int), e34 = .returned (.tuple ⟨[.slice x36 x36n x36c, .bool x37, .int .i64 x38]⟩) ∧ (br (decide ((x38 : Int) ≠ 0)) (R (.returned (.bool false)) w35) (∀ (K39 : Option Addr → Nat → Nat → World → Prop), (∀ (l_40 : Option Addr) (l_40n : Nat) (l_40c : Nat) (w41 : World), (∀ _ : Env, (sls rows_2 rows_2c 0 t53_11 1 fun a42 a42n a42c =>
  ∃ (I43 : Bool → Int → World → Nat → Prop), (∃ m48 : Nat, I43 four_8 0 w41 m48) ∧ ∀ (four_44 : Bool) (t94_45 : Int) (w46 : World) (m47 : Nat), I43 four_44 t94_45 w46 m47 → ∀ _ : Env, (br (decide ((t94_45 : Int) < ((a42n : Int)))) (idx a42 a42n t94_45 1 fun p49 =>
  ∃ (x50 : Option Addr) (x50n : Nat) (x50c : Nat), World.cell? w46 p49 = some (.slice x50 x50n x50c) ∧ (mkm w46 fun b51 w52 =>
  ∃ (I53 : Int → World → Nat → Prop), (∃ m57 : Nat, I53 0 w52 m57) ∧ ∀ (t101_54 : Int) (w55 : World) (m56 : Nat), I53 t101_54 w55 m56 → ∀ _ : Env, (br (decide ((t101_54 : Int) < ((x16n : Int)))) (drw w55 fun w58 =>
  idx x16 x16n t101_54 1 fun p59 =>
  ∃ (x60 : Bool), World.cell? w58 p59 = some (.bool x60) ∧ (idx x50 x50n t101_54 1 fun p61 =>
  ∃ (x62 : Bool), World.cell? w58 p61 = some (.bool x62) ∧ ((mupd Tryz.prog 34 (.map (some b51)) (.agg ⟨[.bool x60, .bool x62]⟩) (.bool true) w58 fun w63 =>
  ∃ m64 : Nat, m64 < m56 ∧ I53 (IntKind.i64.wrap (t101_54 + 1)) w63 m64) ∧ True))) (br four_44 (∃ m65 : Nat, m65 < m47 ∧ I43 true (IntKind.i64.wrap (t94_45 + 1)) w55 m65) (mlenV w55 (.map (some b51)) fun n66 =>
  ∃ m67 : Nat, m67 < m47 ∧ I43 (decide ((n66 : Int) = 4)) (IntKind.i64.wrap (t94_45 + 1)) w55 m67))))) (∃ m68 : Nat, m68 < m13 ∧ I7 four_44 l_40 l_40n l_40c a32 a32n a32c (IntKind.i64.wrap (t53_11 + 1)) w46 m68)))) → K39 l_40 l_40n l_40c w41) → (br x37 (al w35 30 [.slice x36 x36n x36c] fun p69 w70 =>
  app Tryz.prog [29, 29] 29 (.slice l_9 l_9n l_9c) (.slice (some p69) 1 1) w70 fun a71 a71n a71c w72 =>
  K39 a71 a71n a71c w72) (K39 l_9 l_9n l_9c w35)))))))) (∃ (x73 : Option Addr) (x73n : Nat) (x73c : Nat), World.cell? w12 p3 = some (.slice x73 x73n x73c) ∧ (Calls Tryz.prog 9 ⟨[.slice x73 x73n x73c, .slice l_9 l_9n l_9c]⟩ w12 fun (e74 : Ending) (w75 : World) =>
  ∃ (x76 : Option Addr) (x76n : Nat) (x76c : Nat) (x77 : Option Addr) (x77n : Nat) (x77c : Nat) (x78 : Int), e74 = .returned (.tuple ⟨[.agg ⟨[.slice x76 x76n x76c, .slice x77 x77n x77c]⟩, .int .i64 x78]⟩) ∧ (al w75 37 [.slice none 0 0, .slice none 0 0] fun p79 w80 =>
  stL w80 p79 0 [.slice x76 x76n x76c, .slice x77 x77n x77c] fun w81 =>
  br (decide ((x78 : Int) ≠ 0)) (br (decide ((x78 : Int) ≠ 17)) (Calls Tryz.prog 7 ⟨[]⟩ w81 fun (e82 : Ending) (w83 : World) =>
  ∃ (x84 : Bool), e82 = .returned (.bool x84) ∧ (R (.returned (.bool x84)) w83)) (br four_8 (Calls Tryz.prog 7 ⟨[]⟩ w81 fun (e85 : Ending) (w86 : World) =>
  ∃ (x87 : Bool), e85 = .returned (.bool x87) ∧ (R (.returned (.bool x87)) w86)) (R (.returned (.bool false)) w81))) (br four_8 (R (.returned (.bool false)) w81) (∃ (x88 : Option Addr) (x88n : Nat) (x88c : Nat), World.cell? w81 (p79.add 0) = some (.slice x88 x88n x88c) ∧ (∃ (x89 : Option Addr) (x89n : Nat) (x89c : Nat), World.cell? w81 (p79.add 1) = some (.slice x89 x89n x89c) ∧ (Calls Tryz.prog 10 ⟨[.agg ⟨[.slice x88 x88n x88c, .slice x89 x89n x89c]⟩]⟩ w81 fun (e90 : Ending) (w91 : World) =>
  ∃ (x92 : Option Addr) (x92n : Nat) (x92c : Nat) (x93 : Int), e90 = .returned (.tuple ⟨[.slice x92 x92n x92c, .int .i64 x93]⟩) ∧ (∀ (K94 : World → Prop), (∀  (w95 : World), (∀ _ : Env, (∃ (I96 : Int → World → Nat → Prop), (∃ m100 : Nat, I96 0 w95 m100) ∧ ∀ (t156_97 : Int) (w98 : World) (m99 : Nat), I96 t156_97 w98 m99 → ∀ _ : Env, (br (decide ((t156_97 : Int) < ((all_10n : Int)))) (idx all_10 all_10n t156_97 1 fun p101 =>
  ∃ (x102 : Option Addr) (x102n : Nat) (x102c : Nat), World.cell? w98 p101 = some (.slice x102 x102n x102c) ∧ (∃ (I103 : Option Addr → Nat → Nat → Int → World → Nat → Prop), (∃ m108 : Nat, I103 none 0 0 0 w98 m108) ∧ ∀ (own_104 : Option Addr) (own_104n : Nat) (own_104c : Nat) (t163_105 : Int) (w106 : World) (m107 : Nat), I103 own_104 own_104n own_104c t163_105 w106 m107 → ∀ _ : Env, (br (decide ((t163_105 : Int) < ((x92n : Int)))) (idx x92 x92n t163_105 1 fun p109 =>
  ∃ (x110 : Int), World.cell? w106 p109 = some (.int .i64 x110) ∧ (drw w106 fun w111 =>
  ∃ (x112 : Option Addr) (x112n : Nat) (x112c : Nat), World.cell? w111 p3 = some (.slice x112 x112n x112c) ∧ (∃ (x113 : Option Addr) (x113n : Nat) (x113c : Nat), World.cell? w111 (p79.add 1) = some (.slice x113 x113n x113c) ∧ (idx x113 x113n x110 1 fun p114 =>
  ∃ (x115 : List UInt8), World.cell? w111 p114 = some (.string ⟨⟨x115⟩⟩) ∧ ((Calls Tryz.prog 11 ⟨[.slice x112 x112n x112c, .string ⟨⟨x115⟩⟩]⟩ w111 fun (e116 : Ending) (w117 : World) =>
  ∃ (x118 : Int), e116 = .returned (.int .i64 x118) ∧ (br (decide ((x118 : Int) < 0)) (R (.returned (.bool false)) w117) (idx x102 x102n x118 1 fun p119 =>
  ∃ (x120 : Int), World.cell? w117 p119 = some (.int .i64 x120) ∧ (al w117 3 [.int .i64 x120] fun p121 w122 =>
  app Tryz.prog [30, 30] 30 (.slice own_104 own_104n own_104c) (.slice (some p121) 1 1) w122 fun a123 a123n a123c w124 =>
  ∃ m125 : Nat, m125 < m107 ∧ I103 a123 a123n a123c (IntKind.i64.wrap (t163_105 + 1)) w124 m125)))) ∧ True))))) (∀ (K126 : Int → World → Prop), (∀ (want_127 : Int) (w128 : World), (∀ _ : Env, (∃ (x129 : Option Addr) (x129n : Nat) (x129c : Nat), World.cell? w128 (p79.add 0) = some (.slice x129 x129n x129c) ∧ (∃ (x130 : Option Addr) (x130n : Nat) (x130c : Nat), World.cell? w128 (p79.add 1) = some (.slice x130 x130n x130c) ∧ (Calls Tryz.prog 13 ⟨[.agg ⟨[.slice x129 x129n x129c, .slice x130 x130n x130c]⟩, .slice own_104 own_104n own_104c]⟩ w128 fun (e131 : Ending) (w132 : World) =>
  ∃ (x133 : Int) (x134 : Int), e131 = .returned (.tuple ⟨[.int .i64 x133, .int .i64 x134]⟩) ∧ (br (decide ((x134 : Int) ≠ 0)) (R (.returned (.bool false)) w132) (br (decide ((x133 : Int) ≠ want_127)) (R (.returned (.bool false)) w132) (∃ m135 : Nat, m135 < m99 ∧ I96 (IntKind.i64.wrap (t156_97 + 1)) w132 m135))))))) → K126 want_127 w128) → (idx rows_2 rows_2n t156_97 1 fun p136 =>
  ∃ (x137 : Option Addr) (x137n : Nat) (x137c : Nat), World.cell? w106 p136 = some (.slice x137 x137n x137c) ∧ (Calls Tryz.prog 12 ⟨[.slice x137 x137n x137c, .bool true]⟩ w106 fun (e138 : Ending) (w139 : World) =>
  ∃ (x140 : Bool), e138 = .returned (.bool x140) ∧ (br x140 (idx rows_2 rows_2n t156_97 1 fun p141 =>
  ∃ (x142 : Option Addr) (x142n : Nat) (x142c : Nat), World.cell? w139 p141 = some (.slice x142 x142n x142c) ∧ (Calls Tryz.prog 12 ⟨[.slice x142 x142n x142c, .bool false]⟩ w139 fun (e143 : Ending) (w144 : World) =>
  ∃ (x145 : Bool), e143 = .returned (.bool x145) ∧ (br x145 (K126 1 w144) (K126 0 w144)))) (K126 0 w139)))))))) (Calls Tryz.prog 7 ⟨[]⟩ w98 fun (e146 : Ending) (w147 : World) =>
  ∃ (x148 : Bool), e146 = .returned (.bool x148) ∧ (R (.returned (.bool x148)) w147))))) → K94 w95) → (br (decide ((x93 : Int) ≠ 0)) (R (.returned (.bool false)) w91) (∃ (x149 : Option Addr) (x149n : Nat) (x149c : Nat), World.cell? w91 p3 = some (.slice x149 x149n x149c) ∧ (br (decide ((((x92n : Int)) : Int) ≠ ((x149n : Int)))) (R (.returned (.bool false)) w91) (K94 w91))))))))))))))) → K5 w6) → (∃ (x150 : Option Addr) (x150n : Nat) (x150c : Nat), World.cell? w4 p3 = some (.slice x150 x150n x150c) ∧ (Calls Tryz.prog 4 ⟨[.slice x150 x150n x150c]⟩ w4 fun (e151 : Ending) (w152 : World) =>
  ∃ (x153 : Bool), e151 = .returned (.bool x153) ∧ (br x153 (Calls Tryz.prog 7 ⟨[]⟩ w152 fun (e154 : Ending) (w155 : World) =>
  ∃ (x156 : Bool), e154 = .returned (.bool x156) ∧ (R (.returned (.bool x156)) w155)) (∃ (x157 : Option Addr) (x157n : Nat) (x157c : Nat), World.cell? w152 p3 = some (.slice x157 x157n x157c) ∧ (br (decide ((8 : Int) < ((x157n : Int)))) (Calls Tryz.prog 7 ⟨[]⟩ w152 fun (e158 : Ending) (w159 : World) =>
  ∃ (x160 : Bool), e158 = .returned (.bool x160) ∧ (R (.returned (.bool x160)) w159)) (br (decide ((5 : Int) < ((rows_2n : Int)))) (Calls Tryz.prog 7 ⟨[]⟩ w152 fun (e161 : Ending) (w162 : World) =>
  ∃ (x163 : Bool), e161 = .returned (.bool x163) ∧ (R (.returned (.bool x163)) w162)) (Calls Tryz.prog 5 ⟨[.slice rows_2 rows_2n rows_2c, .func (.func 6) ⟨[]⟩ ⟨[.pointer (some p3)]⟩]⟩ w152 fun (e164 : Ending) (w165 : World) =>
  ∃ (x166 : Bool), e164 = .returned (.bool x166) ∧ (br x166 (Calls Tryz.prog 7 ⟨[]⟩ w165 fun (e167 : Ending) (w168 : World) =>
  ∃ (x169 : Bool), e167 = .returned (.bool x169) ∧ (R (.returned (.bool x169)) w168)) (K5 w165)))))))))
set_option maxRecDepth 100000 in
theorem e_apographtop_TopFourStates (names_1 : Option Addr) (names_1n : Nat) (names_1c : Nat) (rows_2 : Option Addr) (rows_2n : Nat) (rows_2c : Nat) (R : Ending → World → Prop) (w : World) : fnV Tryz.prog Tryz.f3 an_apographtop_TopFourStates [.slice names_1 names_1n names_1c, .slice rows_2 rows_2n rows_2c] R w = sh_apographtop_TopFourStates names_1 names_1n names_1c rows_2 rows_2n rows_2c R w := by kernel_rfl
theorem c_apographtop_TopFourStates {names_1 : Option Addr} {names_1n : Nat} {names_1c : Nat} {rows_2 : Option Addr} {rows_2n : Nat} {rows_2c : Nat} {R : Ending → World → Prop} {w : World} (h : sh_apographtop_TopFourStates names_1 names_1n names_1c rows_2 rows_2n rows_2c R w) : Calls Tryz.prog F_apographtop_TopFourStates ⟨[.slice names_1 names_1n names_1c, .slice rows_2 rows_2n rows_2c]⟩ w R := calls_of_fnV Tryz.func3 (by rw [e_apographtop_TopFourStates]; exact h)

def an_ref32_GreatNames : Ann := .two (.leaf) (.two (.two (.leaf) (.one (.loop 8589934588 [(3, .one (.int .i64))] (.two (.two (.leaf) (.two (.leaf) (.leaf))) (.two (.one (.two (.leaf) (.two (.two (.leaf) (.leaf)) (.leaf)))) (.leaf)))))) (.two (.leaf) (.leaf)))
def sh_ref32_GreatNames (names_1 : Option Addr) (names_1n : Nat) (names_1c : Nat) (R : Ending → World → Prop) (w : World) : Prop :=
  ∃ (I2 : Int → World → Nat → Prop), (∃ m6 : Nat, I2 0 w m6) ∧ ∀ (i_3 : Int) (w4 : World) (m5 : Nat), I2 i_3 w4 m5 → ∀ _ : Env, (br (decide ((i_3 : Int) < ((names_1n : Int)))) (idx names_1 names_1n i_3 1 fun p7 =>
  ∃ (x8 : List UInt8), World.cell? w4 p7 = some (.string ⟨⟨x8⟩⟩) ∧ (br (decide ((20 : Int) < ((List.length x8 : Int)))) (R (.returned (.bool true)) w4) (br (decide ((9 : Int) < ((names_1n : Int)))) (br (decide ((((names_1n : Int)) : Int) ≤ 32)) (R (.returned (.bool true)) w4) (idx names_1 names_1n i_3 1 fun p9 =>
  ∃ (x10 : List UInt8), World.cell? w4 p9 = some (.string ⟨⟨x10⟩⟩) ∧ (br (decide ((x10 : List UInt8) ≠ ([]))) (R (.returned (.bool true)) w4) (∃ m11 : Nat, m11 < m5 ∧ I2 (IntKind.i64.wrap (i_3 + 1)) w4 m11)))) (∃ m12 : Nat, m12 < m5 ∧ I2 (IntKind.i64.wrap (i_3 + 1)) w4 m12)))) (R (.returned (.bool (decide ((40 : Int) < ((names_1n : Int)))))) w4))
set_option maxRecDepth 100000 in
theorem e_ref32_GreatNames (names_1 : Option Addr) (names_1n : Nat) (names_1c : Nat) (R : Ending → World → Prop) (w : World) : fnV Tryz.prog Tryz.f4 an_ref32_GreatNames [.slice names_1 names_1n names_1c] R w = sh_ref32_GreatNames names_1 names_1n names_1c R w := by kernel_rfl
theorem c_ref32_GreatNames {names_1 : Option Addr} {names_1n : Nat} {names_1c : Nat} {R : Ending → World → Prop} {w : World} (h : sh_ref32_GreatNames names_1 names_1n names_1c R w) : Calls Tryz.prog F_ref32_GreatNames ⟨[.slice names_1 names_1n names_1c]⟩ w R := calls_of_fnV Tryz.func4 (by rw [e_ref32_GreatNames]; exact h)

def an_slices_ContainsFunc_of_bool_bool : Ann := .two (.leaf) (.two (.leaf) (.leaf))
def sh_slices_ContainsFunc_of_bool_bool (s_1 : Option Addr) (s_1n : Nat) (s_1c : Nat) (f_2 : Fn) (f_2a : Array Value) (f_2b : Array Value) (R : Ending → World → Prop) (w : World) : Prop :=
  Calls Tryz.prog 14 ⟨[.slice s_1 s_1n s_1c, .func f_2 f_2a f_2b]⟩ w fun (e3 : Ending) (w4 : World) =>
  ∃ (x5 : Int), e3 = .returned (.int .i64 x5) ∧ (R (.returned (.bool (decide ((0 : Int) ≤ x5)))) w4)
set_option maxRecDepth 100000 in
theorem e_slices_ContainsFunc_of_bool_bool (s_1 : Option Addr) (s_1n : Nat) (s_1c : Nat) (f_2 : Fn) (f_2a : Array Value) (f_2b : Array Value) (R : Ending → World → Prop) (w : World) : fnV Tryz.prog Tryz.f5 an_slices_ContainsFunc_of_bool_bool [.slice s_1 s_1n s_1c, .func f_2 f_2a f_2b] R w = sh_slices_ContainsFunc_of_bool_bool s_1 s_1n s_1c f_2 f_2a f_2b R w := by kernel_rfl
theorem c_slices_ContainsFunc_of_bool_bool {s_1 : Option Addr} {s_1n : Nat} {s_1c : Nat} {f_2 : Fn} {f_2a : Array Value} {f_2b : Array Value} {R : Ending → World → Prop} {w : World} (h : sh_slices_ContainsFunc_of_bool_bool s_1 s_1n s_1c f_2 f_2a f_2b R w) : Calls Tryz.prog F_slices_ContainsFunc_of_bool_bool ⟨[.slice s_1 s_1n s_1c, .func f_2 f_2a f_2b]⟩ w R := calls_of_fnV Tryz.func5 (by rw [e_slices_ContainsFunc_of_bool_bool]; exact h)

def an_apographtop_TopFourStates_1 : Ann := .two (.leaf) (.two (.leaf) (.leaf))
def sh_apographtop_TopFourStates_1 (row_1 : Option Addr) (row_1n : Nat) (row_1c : Nat) (t1_2 : Option Addr) (R : Ending → World → Prop) (w : World) : Prop :=
  dr t1_2 fun p3 =>
  ∃ (x4 : Option Addr) (x4n : Nat) (x4c : Nat), World.cell? w p3 = some (.slice x4 x4n x4c) ∧ (R (.returned (.bool (decide ((((row_1n : Int)) : Int) ≠ ((x4n : Int)))))) w)
set_option maxRecDepth 100000 in
theorem e_apographtop_TopFourStates_1 (row_1 : Option Addr) (row_1n : Nat) (row_1c : Nat) (t1_2 : Option Addr) (R : Ending → World → Prop) (w : World) : fnV Tryz.prog Tryz.f6 an_apographtop_TopFourStates_1 [.slice row_1 row_1n row_1c, .pointer t1_2] R w = sh_apographtop_TopFourStates_1 row_1 row_1n row_1c t1_2 R w := by kernel_rfl
theorem c_apographtop_TopFourStates_1 {row_1 : Option Addr} {row_1n : Nat} {row_1c : Nat} {t1_2 : Option Addr} {R : Ending → World → Prop} {w : World} (h : sh_apographtop_TopFourStates_1 row_1 row_1n row_1c t1_2 R w) : Calls Tryz.prog F_apographtop_TopFourStates_1 ⟨[.slice row_1 row_1n row_1c, .pointer t1_2]⟩ w R := calls_of_fnV Tryz.func6 (by rw [e_apographtop_TopFourStates_1]; exact h)

def an_apographtop_top36Awake : Ann := .two (.leaf) (.two (.leaf) (.two (.leaf) (.two (.leaf) (.two (.leaf) (.leaf)))))
def sh_apographtop_top36Awake  (R : Ending → World → Prop) (w : World) : Prop :=
  al w 9 [.string ⟨⟨[65]⟩⟩, .string ⟨⟨[66]⟩⟩, .string ⟨⟨[67]⟩⟩, .string ⟨⟨[68]⟩⟩] fun p1 w2 =>
  al w2 3 [.int .i64 2, .int .i64 3] fun p3 w4 =>
  al w4 30 [.slice (some p3) 2 2] fun p5 w6 =>
  Calls Tryz.prog 9 ⟨[.slice (some p1) 4 4, .slice (some p5) 1 1]⟩ w6 fun (e7 : Ending) (w8 : World) =>
  ∃ (x9 : Option Addr) (x9n : Nat) (x9c : Nat) (x10 : Option Addr) (x10n : Nat) (x10c : Nat) (x11 : Int), e7 = .returned (.tuple ⟨[.agg ⟨[.slice x9 x9n x9c, .slice x10 x10n x10c]⟩, .int .i64 x11]⟩) ∧ (al w8 37 [.slice none 0 0, .slice none 0 0] fun p12 w13 =>
  stL w13 p12 0 [.slice x9 x9n x9c, .slice x10 x10n x10c] fun w14 =>
  ∃ (x15 : Option Addr) (x15n : Nat) (x15c : Nat), World.cell? w14 (p12.add 0) = some (.slice x15 x15n x15c) ∧ (∃ (x16 : Option Addr) (x16n : Nat) (x16c : Nat), World.cell? w14 (p12.add 1) = some (.slice x16 x16n x16c) ∧ (al w14 3 [.int .i64 0, .int .i64 0, .int .i64 1, .int .i64 1] fun p17 w18 =>
  Calls Tryz.prog 13 ⟨[.agg ⟨[.slice x15 x15n x15c, .slice x16 x16n x16c]⟩, .slice (some p17) 4 4]⟩ w18 fun (e19 : Ending) (w20 : World) =>
  ∃ (x21 : Int) (x22 : Int), e19 = .returned (.tuple ⟨[.int .i64 x21, .int .i64 x22]⟩) ∧ (∃ (x23 : Option Addr) (x23n : Nat) (x23c : Nat), World.cell? w20 (p12.add 0) = some (.slice x23 x23n x23c) ∧ (∃ (x24 : Option Addr) (x24n : Nat) (x24c : Nat), World.cell? w20 (p12.add 1) = some (.slice x24 x24n x24c) ∧ (al w20 3 [.int .i64 0, .int .i64 1, .int .i64 0, .int .i64 1] fun p25 w26 =>
  Calls Tryz.prog 13 ⟨[.agg ⟨[.slice x23 x23n x23c, .slice x24 x24n x24c]⟩, .slice (some p25) 4 4]⟩ w26 fun (e27 : Ending) (w28 : World) =>
  ∃ (x29 : Int) (x30 : Int), e27 = .returned (.tuple ⟨[.int .i64 x29, .int .i64 x30]⟩) ∧ (br (decide ((((max (max x11 x22) x30)) : Int) = 0)) (br (decide ((x21 : Int) = 1)) (R (.returned (.bool (decide ((x29 : Int) = 2)))) w28) (R (.returned (.bool false)) w28)) (R (.returned (.bool false)) w28))))))))
set_option maxRecDepth 100000 in
theorem e_apographtop_top36Awake  (R : Ending → World → Prop) (w : World) : fnV Tryz.prog Tryz.f7 an_apographtop_top36Awake [] R w = sh_apographtop_top36Awake  R w := by kernel_rfl
theorem c_apographtop_top36Awake  {R : Ending → World → Prop} {w : World} (h : sh_apographtop_top36Awake  R w) : Calls Tryz.prog F_apographtop_top36Awake ⟨[]⟩ w R := calls_of_fnV Tryz.func7 (by rw [e_apographtop_top36Awake]; exact h)

def an_split_OfStates : Ann := .two (.leaf) (.two (.one (.two (.leaf) (.two (.two (.leaf) (.leaf)) (.two (.leaf) (.two (.two (.leaf) (.leaf)) (.leaf)))))) (.two (.leaf) (.two (.leaf) (.two (.two (.leaf) (.one (.loop 274877383104 [(6, .one (.slice)), (19, .one (.int .i64))] (.two (.leaf) (.two (.two (.leaf) (.leaf)) (.two (.one (.two (.leaf) (.two (.leaf) (.two (.leaf) (.two (.leaf) (.leaf)))))) (.leaf))))))) (.two (.two (.two (.leaf) (.leaf)) (.two (.two (.leaf) (.leaf)) (.leaf))) (.two (.leaf) (.leaf)))))))
def sh_split_OfStates (states_1 : Option Addr) (states_1n : Nat) (states_1c : Nat) (R : Ending → World → Prop) (w : World) : Prop :=
  br (decide ((32 : Int) < ((states_1n : Int)))) (R (.returned (.tuple ⟨[.slice none 0 0, .bool false, .int .i64 4]⟩)) w) (Calls Tryz.prog 15 ⟨[.slice states_1 states_1n states_1c, .func (.func 16) #[] #[]]⟩ w fun (e2 : Ending) (w3 : World) =>
  ∃ (x4 : Bool), e2 = .returned (.bool x4) ∧ (br x4 (R (.returned (.tuple ⟨[.slice none 0 0, .bool false, .int .i64 2]⟩)) w3) (mkm w3 fun b5 w6 =>
  ∃ (I7 : Option Addr → Nat → Nat → Int → World → Nat → Prop), (∃ m12 : Nat, I7 none 0 0 0 w6 m12) ∧ ∀ (out_8 : Option Addr) (out_8n : Nat) (out_8c : Nat) (t19_9 : Int) (w10 : World) (m11 : Nat), I7 out_8 out_8n out_8c t19_9 w10 m11 → ∀ _ : Env, (br (decide ((t19_9 : Int) < ((states_1n : Int)))) (idx states_1 states_1n t19_9 1 fun p13 =>
  ∃ (x14 : Int), World.cell? w10 p13 = some (.int .i64 x14) ∧ (∃ (x15 : Int), lkAt Tryz.prog 50 (.map (some b5)) (.int .i64 x14) w10 (.int .i64 x15) ∧ (mupd Tryz.prog 50 (.map (some b5)) (.int .i64 x14) (.int .i64 (IntKind.i64.wrap (x15 + 1))) w10 fun w16 =>
  idx states_1 states_1n 0 1 fun p17 =>
  ∃ (x18 : Int), World.cell? w16 p17 = some (.int .i64 x18) ∧ (br (decide ((x14 : Int) ≠ x18)) (al w16 3 [.int .i64 t19_9] fun p19 w20 =>
  app Tryz.prog [30, 30] 30 (.slice out_8 out_8n out_8c) (.slice (some p19) 1 1) w20 fun a21 a21n a21c w22 =>
  ∃ m23 : Nat, m23 < m11 ∧ I7 a21 a21n a21c (IntKind.i64.wrap (t19_9 + 1)) w22 m23) (∃ m24 : Nat, m24 < m11 ∧ I7 out_8 out_8n out_8c (IntKind.i64.wrap (t19_9 + 1)) w16 m24))))) (∃ (x25 : Int), lkAt Tryz.prog 50 (.map (some b5)) (.int .i64 ((-1))) w10 (.int .i64 x25) ∧ (br (decide ((0 : Int) < x25)) (R (.returned (.tuple ⟨[.slice none 0 0, .bool false, .int .i64 0]⟩)) w10) (mlenV w10 (.map (some b5)) fun n26 =>
  br (decide ((n26 : Int) ≠ 2)) (R (.returned (.tuple ⟨[.slice none 0 0, .bool false, .int .i64 0]⟩)) w10) (br (decide ((((out_8n : Int)) : Int) < 2)) (R (.returned (.tuple ⟨[.slice none 0 0, .bool false, .int .i64 0]⟩)) w10) (br (decide (((IntKind.i64.wrap (((states_1n : Int)) - 2)) : Int) < ((out_8n : Int)))) (R (.returned (.tuple ⟨[.slice none 0 0, .bool false, .int .i64 0]⟩)) w10) (R (.returned (.tuple ⟨[.slice out_8 out_8n out_8c, .bool true, .int .i64 0]⟩)) w10))))))))))
set_option maxRecDepth 100000 in
theorem e_split_OfStates (states_1 : Option Addr) (states_1n : Nat) (states_1c : Nat) (R : Ending → World → Prop) (w : World) : fnV Tryz.prog Tryz.f8 an_split_OfStates [.slice states_1 states_1n states_1c] R w = sh_split_OfStates states_1 states_1n states_1c R w := by kernel_rfl
theorem c_split_OfStates {states_1 : Option Addr} {states_1n : Nat} {states_1c : Nat} {R : Ending → World → Prop} {w : World} (h : sh_split_OfStates states_1 states_1n states_1c R w) : Calls Tryz.prog F_split_OfStates ⟨[.slice states_1 states_1n states_1c]⟩ w R := calls_of_fnV Tryz.func8 (by rw [e_split_OfStates]; exact h)

def an_split_Build : Ann := .two (.leaf) (.cut 1099478073376 [] (.one (.two (.leaf) (.two (.two (.leaf) (.leaf)) (.two (.leaf) (.two (.two (.leaf) (.leaf)) (.leaf)))))) (.two (.two (.leaf) (.one (.loop 288225978105200864 [(42, .one (.int .i64))] (.two (.leaf) (.two (.two (.leaf) (.leaf)) (.two (.one (.two (.leaf) (.two (.two (.leaf) (.two (.two (.leaf) (.leaf)) (.leaf))) (.two (.leaf) (.two (.two (.leaf) (.leaf)) (.leaf)))))) (.leaf))))))) (.two (.leaf) (.two (.two (.leaf) (.one (.loop 18884854245460153469984 [(62, .one (.int .i64))] (.two (.leaf) (.two (.two (.leaf) (.leaf)) (.two (.one (.two (.leaf) (.two (.leaf) (.two (.leaf) (.two (.two (.leaf) (.leaf)) (.leaf)))))) (.leaf))))))) (.two (.two (.leaf) (.two (.leaf) (.two (.two (.leaf) (.leaf)) (.leaf)))) (.two (.two (.leaf) (.two (.two (.leaf) (.leaf)) (.leaf))) (.two (.leaf) (.two (.leaf) (.two (.leaf) (.two (.leaf) (.two (.two (.leaf) (.two (.two (.leaf) (.two (.leaf) (.leaf))) (.leaf))) (.two (.leaf) (.two (.leaf) (.two (.leaf) (.two (.leaf) (.two (.leaf) (.two (.leaf) (.two (.two (.leaf) (.one (.loop 2787571882168395334037998323168080715317248 [(124, .one (.int .i64))] (.two (.leaf) (.two (.two (.leaf) (.leaf)) (.two (.one (.two (.leaf) (.one (.leaf)))) (.leaf))))))) (.two (.two (.leaf) (.one (.loop 182684917073213048447567912124751296411820097536 [(24, .one (.int .i64))] (.two (.two (.leaf) (.two (.leaf) (.leaf))) (.two (.one (.one (.leaf))) (.leaf)))))) (.two (.leaf) (.leaf)))))))))))))))))))))
set_option maxRecDepth 100000 in
def sh_split_Build (names_1 : Option Addr) (names_1n : Nat) (names_1c : Nat) (l_2 : Option Addr) (l_2n : Nat) (l_2c : Nat) (R : Ending → World → Prop) (w : World) : Prop :=
  al w 37 [.slice none 0 0, .slice none 0 0] fun p3 w4 =>
  ∀ (K5 : World → Prop), (∀  (w6 : World), (∀ _ : Env, (∃ (I7 : Int → World → Nat → Prop), (∃ m11 : Nat, I7 0 w6 m11) ∧ ∀ (t42_8 : Int) (w9 : World) (m10 : Nat), I7 t42_8 w9 m10 → ∀ _ : Env, (br (decide ((t42_8 : Int) < ((names_1n : Int)))) (idx names_1 names_1n t42_8 1 fun p12 =>
  ∃ (x13 : List UInt8), World.cell? w9 p12 = some (.string ⟨⟨x13⟩⟩) ∧ (Calls Tryz.prog 17 ⟨[.string ⟨⟨x13⟩⟩]⟩ w9 fun (e14 : Ending) (w15 : World) =>
  ∃ (x16 : Bool), e14 = .returned (.bool x16) ∧ (br (!x16) (stL w15 p3 0 [.slice none 0 0, .slice none 0 0] fun w17 =>
  ∃ (x18 : Option Addr) (x18n : Nat) (x18c : Nat), World.cell? w17 (p3.add 0) = some (.slice x18 x18n x18c) ∧ (∃ (x19 : Option Addr) (x19n : Nat) (x19c : Nat), World.cell? w17 (p3.add 1) = some (.slice x19 x19n x19c) ∧ (R (.returned (.tuple ⟨[.agg ⟨[.slice x18 x18n x18c, .slice x19 x19n x19c]⟩, .int .i64 14]⟩)) w17))) (sls names_1 names_1c 0 t42_8 1 fun a20 a20n a20c =>
  Calls Tryz.prog 18 ⟨[.slice a20 a20n a20c, .string ⟨⟨x13⟩⟩]⟩ w15 fun (e21 : Ending) (w22 : World) =>
  ∃ (x23 : Bool), e21 = .returned (.bool x23) ∧ (br x23 (stL w22 p3 0 [.slice none 0 0, .slice none 0 0] fun w24 =>
  ∃ (x25 : Option Addr) (x25n : Nat) (x25c : Nat), World.cell? w24 (p3.add 0) = some (.slice x25 x25n x25c) ∧ (∃ (x26 : Option Addr) (x26n : Nat) (x26c : Nat), World.cell? w24 (p3.add 1) = some (.slice x26 x26n x26c) ∧ (R (.returned (.tuple ⟨[.agg ⟨[.slice x25 x25n x25c, .slice x26 x26n x26c]⟩, .int .i64 7]⟩)) w24))) (∃ m27 : Nat, m27 < m10 ∧ I7 (IntKind.i64.wrap (t42_8 + 1)) w22 m27)))))) (∃ (I28 : Int → World → Nat → Prop), (∃ m32 : Nat, I28 0 w9 m32) ∧ ∀ (t62_29 : Int) (w30 : World) (m31 : Nat), I28 t62_29 w30 m31 → ∀ _ : Env, (br (decide ((t62_29 : Int) < ((l_2n : Int)))) (idx l_2 l_2n t62_29 1 fun p33 =>
  ∃ (x34 : Option Addr) (x34n : Nat) (x34c : Nat), World.cell? w30 p33 = some (.slice x34 x34n x34c) ∧ (Calls Tryz.prog 19 ⟨[.int .i64 ((names_1n : Int)), .slice x34 x34n x34c]⟩ w30 fun (e35 : Ending) (w36 : World) =>
  ∃ (x37 : Int), e35 = .returned (.int .i64 x37) ∧ (br (decide ((x37 : Int) ≠ 0)) (stL w36 p3 0 [.slice none 0 0, .slice none 0 0] fun w38 =>
  ∃ (x39 : Option Addr) (x39n : Nat) (x39c : Nat), World.cell? w38 (p3.add 0) = some (.slice x39 x39n x39c) ∧ (∃ (x40 : Option Addr) (x40n : Nat) (x40c : Nat), World.cell? w38 (p3.add 1) = some (.slice x40 x40n x40c) ∧ (R (.returned (.tuple ⟨[.agg ⟨[.slice x39 x39n x39c, .slice x40 x40n x40c]⟩, .int .i64 x37]⟩)) w38))) (∃ m41 : Nat, m41 < m31 ∧ I28 (IntKind.i64.wrap (t62_29 + 1)) w36 m41)))) (Calls Tryz.prog 20 ⟨[.slice l_2 l_2n l_2c]⟩ w30 fun (e42 : Ending) (w43 : World) =>
  ∃ (x44 : Int) (x45 : Int) (x46 : Bool), e42 = .returned (.tuple ⟨[.int .i64 x44, .int .i64 x45, .bool x46]⟩) ∧ (br (!x46) (stL w43 p3 0 [.slice none 0 0, .slice none 0 0] fun w47 =>
  ∃ (x48 : Option Addr) (x48n : Nat) (x48c : Nat), World.cell? w47 (p3.add 0) = some (.slice x48 x48n x48c) ∧ (∃ (x49 : Option Addr) (x49n : Nat) (x49c : Nat), World.cell? w47 (p3.add 1) = some (.slice x49 x49n x49c) ∧ (R (.returned (.tuple ⟨[.agg ⟨[.slice x48 x48n x48c, .slice x49 x49n x49c]⟩, .int .i64 17]⟩)) w47))) (br (decide ((((names_1n : Int)) : Int) = 1)) (al w43 3 [.int .i64 ((-1))] fun p50 w51 =>
  idx names_1 names_1n 0 1 fun p52 =>
  ∃ (x53 : List UInt8), World.cell? w51 p52 = some (.string ⟨⟨x53⟩⟩) ∧ (al w51 9 [.string ⟨⟨x53⟩⟩] fun p54 w55 =>
  stL w55 p3 0 [.slice (some p50) 1 1, .slice (some p54) 1 1] fun w56 =>
  ∃ (x57 : Option Addr) (x57n : Nat) (x57c : Nat), World.cell? w56 (p3.add 0) = some (.slice x57 x57n x57c) ∧ (∃ (x58 : Option Addr) (x58n : Nat) (x58c : Nat), World.cell? w56 (p3.add 1) = some (.slice x58 x58n x58c) ∧ (R (.returned (.tuple ⟨[.agg ⟨[.slice x57 x57n x57c, .slice x58 x58n x58c]⟩, .int .i64 0]⟩)) w56)))) (al w43 37 [.slice none 0 0, .slice none 0 0] fun p59 w60 =>
  CallV Tryz.prog (.func (.func 21) ⟨[]⟩ ⟨[.pointer (some p59)]⟩) [.int .i64 ((-1)), .string ⟨⟨[]⟩⟩] w60 fun (e61 : Ending) (w62 : World) =>
  ∃ (x63 : Int), e61 = .returned (.int .i64 x63) ∧ (idx names_1 names_1n 0 1 fun p64 =>
  ∃ (x65 : List UInt8), World.cell? w62 p64 = some (.string ⟨⟨x65⟩⟩) ∧ (CallV Tryz.prog (.func (.func 21) ⟨[]⟩ ⟨[.pointer (some p59)]⟩) [.int .i64 x63, .string ⟨⟨x65⟩⟩] w62 fun (e66 : Ending) (w67 : World) =>
  ∃ (x68 : Int), e66 = .returned (.int .i64 x68) ∧ (br (decide ((((names_1n : Int)) : Int) = 2)) (idx names_1 names_1n 1 1 fun p69 =>
  ∃ (x70 : List UInt8), World.cell? w67 p69 = some (.string ⟨⟨x70⟩⟩) ∧ (CallV Tryz.prog (.func (.func 21) ⟨[]⟩ ⟨[.pointer (some p59)]⟩) [.int .i64 x63, .string ⟨⟨x70⟩⟩] w67 fun (e71 : Ending) (w72 : World) =>
  ∃ (x73 : Int), e71 = .returned (.int .i64 x73) ∧ (∃ (x74 : Option Addr) (x74n : Nat) (x74c : Nat), World.cell? w72 (p59.add 0) = some (.slice x74 x74n x74c) ∧ (∃ (x75 : Option Addr) (x75n : Nat) (x75c : Nat), World.cell? w72 (p59.add 1) = some (.slice x75 x75n x75c) ∧ (Calls Tryz.prog 22 ⟨[.agg ⟨[.slice x74 x74n x74c, .slice x75 x75n x75c]⟩]⟩ w72 fun (e76 : Ending) (w77 : World) =>
  ∃ (x78 : Option Addr) (x78n : Nat) (x78c : Nat) (x79 : Option Addr) (x79n : Nat) (x79c : Nat) (x80 : Int), e76 = .returned (.tuple ⟨[.agg ⟨[.slice x78 x78n x78c, .slice x79 x79n x79c]⟩, .int .i64 x80]⟩) ∧ (stL w77 p3 0 [.slice x78 x78n x78c, .slice x79 x79n x79c] fun w81 =>
  ∃ (x82 : Option Addr) (x82n : Nat) (x82c : Nat), World.cell? w81 (p3.add 0) = some (.slice x82 x82n x82c) ∧ (∃ (x83 : Option Addr) (x83n : Nat) (x83c : Nat), World.cell? w81 (p3.add 1) = some (.slice x83 x83n x83c) ∧ (R (.returned (.tuple ⟨[.agg ⟨[.slice x82 x82n x82c, .slice x83 x83n x83c]⟩, .int .i64 x80]⟩)) w81)))))))) (CallV Tryz.prog (.func (.func 21) ⟨[]⟩ ⟨[.pointer (some p59)]⟩) [.int .i64 x63, .string ⟨⟨[]⟩⟩] w67 fun (e84 : Ending) (w85 : World) =>
  ∃ (x86 : Int), e84 = .returned (.int .i64 x86) ∧ (al w85 3 [.int .i64 0] fun p87 w88 =>
  stL w88 p87 0 [.int .i64 x86] fun w89 =>
  Calls Tryz.prog 23 ⟨[.slice l_2 l_2n l_2c]⟩ w89 fun (e90 : Ending) (w91 : World) =>
  ∃ (x92 : Option Addr) (x92n : Nat) (x92c : Nat), e90 = .returned (.slice x92 x92n x92c) ∧ (al w91 29 [.slice none 0 0] fun p93 w94 =>
  stL w94 p93 0 [.slice x92 x92n x92c] fun w95 =>
  ∃ (x96 : Option Addr) (x96n : Nat) (x96c : Nat), World.cell? w95 p93 = some (.slice x96 x96n x96c) ∧ (Calls Tryz.prog 24 ⟨[.slice x96 x96n x96c, .func (.func 25) #[] #[]]⟩ w95 fun (e97 : Ending) (w98 : World) =>
  e97 = .returned (.tuple ⟨[]⟩) ∧ (∃ (x99 : Option Addr) (x99n : Nat) (x99c : Nat), World.cell? w98 p93 = some (.slice x99 x99n x99c) ∧ (Calls Tryz.prog 29 ⟨[.slice x99 x99n x99c, .func (.func 30) #[] #[]]⟩ w98 fun (e100 : Ending) (w101 : World) =>
  ∃ (x102 : Option Addr) (x102n : Nat) (x102c : Nat), e100 = .returned (.slice x102 x102n x102c) ∧ (stL w101 p93 0 [.slice x102 x102n x102c] fun w103 =>
  al w103 30 [.slice none 0 0] fun p104 w105 =>
  ∃ (x106 : Option Addr) (x106n : Nat) (x106c : Nat), World.cell? w105 p93 = some (.slice x106 x106n x106c) ∧ (∃ (I107 : Int → World → Nat → Prop), (∃ m111 : Nat, I107 0 w105 m111) ∧ ∀ (t124_108 : Int) (w109 : World) (m110 : Nat), I107 t124_108 w109 m110 → ∀ _ : Env, (br (decide ((t124_108 : Int) < ((x106n : Int)))) (idx x106 x106n t124_108 1 fun p112 =>
  ∃ (x113 : Option Addr) (x113n : Nat) (x113c : Nat), World.cell? w109 p112 = some (.slice x113 x113n x113c) ∧ (drw w109 fun w114 =>
  idx x113 x113n 0 1 fun p115 =>
  ∃ (x116 : Int), World.cell? w114 p115 = some (.int .i64 x116) ∧ ((∃ (x117 : Option Addr) (x117n : Nat) (x117c : Nat), World.cell? w114 p104 = some (.slice x117 x117n x117c) ∧ ((CallV Tryz.prog (.func (.func 31) ⟨[]⟩ ⟨[.pointer (some p93), .pointer (some p104), .pointer (some p87)]⟩) [.int .i64 x116, .int .i64 t124_108] w114 fun (e118 : Ending) (w119 : World) =>
  ∃ (x120 : Int), e118 = .returned (.int .i64 x120) ∧ ((CallV Tryz.prog (.func (.func 21) ⟨[]⟩ ⟨[.pointer (some p59)]⟩) [.int .i64 x120, .string ⟨⟨[]⟩⟩] w119 fun (e121 : Ending) (w122 : World) =>
  ∃ (x123 : Int), e121 = .returned (.int .i64 x123) ∧ ((al w122 3 [.int .i64 x123] fun p124 w125 =>
  (app Tryz.prog [30, 30] 30 (.slice x117 x117n x117c) (.slice (some p124) 1 1) w125 fun a126 a126n a126c w127 =>
  (stL w127 p104 0 [.slice a126 a126n a126c] fun w128 =>
  ∃ m129 : Nat, m129 < m110 ∧ I107 (IntKind.i64.wrap (t124_108 + 1)) w128 m129) ∧ True) ∧ True) ∧ True)) ∧ True)) ∧ True)) ∧ (CallV Tryz.prog (.func (.func 31) ⟨[]⟩ ⟨[.pointer (some p93), .pointer (some p104), .pointer (some p87)]⟩) [.int .i64 x116, .int .i64 t124_108] w114 fun (e130 : Ending) (w131 : World) =>
  ∃ (x132 : Int), e130 = .returned (.int .i64 x132) ∧ ((∃ (x133 : Option Addr) (x133n : Nat) (x133c : Nat), World.cell? w131 p104 = some (.slice x133 x133n x133c) ∧ ((CallV Tryz.prog (.func (.func 21) ⟨[]⟩ ⟨[.pointer (some p59)]⟩) [.int .i64 x132, .string ⟨⟨[]⟩⟩] w131 fun (e134 : Ending) (w135 : World) =>
  ∃ (x136 : Int), e134 = .returned (.int .i64 x136) ∧ ((al w135 3 [.int .i64 x136] fun p137 w138 =>
  (app Tryz.prog [30, 30] 30 (.slice x133 x133n x133c) (.slice (some p137) 1 1) w138 fun a139 a139n a139c w140 =>
  (stL w140 p104 0 [.slice a139 a139n a139c] fun w141 =>
  ∃ m142 : Nat, m142 < m110 ∧ I107 (IntKind.i64.wrap (t124_108 + 1)) w141 m142) ∧ True) ∧ True) ∧ True)) ∧ True)) ∧ (CallV Tryz.prog (.func (.func 21) ⟨[]⟩ ⟨[.pointer (some p59)]⟩) [.int .i64 x132, .string ⟨⟨[]⟩⟩] w131 fun (e143 : Ending) (w144 : World) =>
  ∃ (x145 : Int), e143 = .returned (.int .i64 x145) ∧ (∃ (x146 : Option Addr) (x146n : Nat) (x146c : Nat), World.cell? w144 p104 = some (.slice x146 x146n x146c) ∧ ((al w144 3 [.int .i64 x145] fun p147 w148 =>
  (app Tryz.prog [30, 30] 30 (.slice x146 x146n x146c) (.slice (some p147) 1 1) w148 fun a149 a149n a149c w150 =>
  (stL w150 p104 0 [.slice a149 a149n a149c] fun w151 =>
  ∃ m152 : Nat, m152 < m110 ∧ I107 (IntKind.i64.wrap (t124_108 + 1)) w151 m152) ∧ True) ∧ True) ∧ True))) ∧ True)) ∧ True))) (∃ (I153 : Int → World → Nat → Prop), (∃ m157 : Nat, I153 1 w109 m157) ∧ ∀ (leaf_154 : Int) (w155 : World) (m156 : Nat), I153 leaf_154 w155 m156 → ∀ _ : Env, (br (decide ((leaf_154 : Int) < ((names_1n : Int)))) (drw w155 fun w158 =>
  ∃ (x159 : Option Addr) (x159n : Nat) (x159c : Nat), World.cell? w158 p93 = some (.slice x159 x159n x159c) ∧ (idx names_1 names_1n leaf_154 1 fun p160 =>
  (CallV Tryz.prog (.func (.func 31) ⟨[]⟩ ⟨[.pointer (some p93), .pointer (some p104), .pointer (some p87)]⟩) [.int .i64 leaf_154, .int .i64 ((x159n : Int))] w158 fun (e161 : Ending) (w162 : World) =>
  ∃ (x163 : Int), e161 = .returned (.int .i64 x163) ∧ (∃ (x164 : List UInt8), World.cell? w162 p160 = some (.string ⟨⟨x164⟩⟩) ∧ ((CallV Tryz.prog (.func (.func 21) ⟨[]⟩ ⟨[.pointer (some p59)]⟩) [.int .i64 x163, .string ⟨⟨x164⟩⟩] w162 fun (e165 : Ending) (w166 : World) =>
  ∃ (x167 : Int), e165 = .returned (.int .i64 x167) ∧ (∃ m168 : Nat, m168 < m156 ∧ I153 (IntKind.i64.wrap (leaf_154 + 1)) w166 m168)) ∧ True))) ∧ (∃ (x169 : List UInt8), World.cell? w158 p160 = some (.string ⟨⟨x169⟩⟩) ∧ ((CallV Tryz.prog (.func (.func 31) ⟨[]⟩ ⟨[.pointer (some p93), .pointer (some p104), .pointer (some p87)]⟩) [.int .i64 leaf_154, .int .i64 ((x159n : Int))] w158 fun (e170 : Ending) (w171 : World) =>
  ∃ (x172 : Int), e170 = .returned (.int .i64 x172) ∧ ((CallV Tryz.prog (.func (.func 21) ⟨[]⟩ ⟨[.pointer (some p59)]⟩) [.int .i64 x172, .string ⟨⟨x169⟩⟩] w171 fun (e173 : Ending) (w174 : World) =>
  ∃ (x175 : Int), e173 = .returned (.int .i64 x175) ∧ (∃ m176 : Nat, m176 < m156 ∧ I153 (IntKind.i64.wrap (leaf_154 + 1)) w174 m176)) ∧ True)) ∧ True)) ∧ True)) (∃ (x177 : Option Addr) (x177n : Nat) (x177c : Nat), World.cell? w155 (p59.add 0) = some (.slice x177 x177n x177c) ∧ (∃ (x178 : Option Addr) (x178n : Nat) (x178c : Nat), World.cell? w155 (p59.add 1) = some (.slice x178 x178n x178c) ∧ (Calls Tryz.prog 22 ⟨[.agg ⟨[.slice x177 x177n x177c, .slice x178 x178n x178c]⟩]⟩ w155 fun (e179 : Ending) (w180 : World) =>
  ∃ (x181 : Option Addr) (x181n : Nat) (x181c : Nat) (x182 : Option Addr) (x182n : Nat) (x182c : Nat) (x183 : Int), e179 = .returned (.tuple ⟨[.agg ⟨[.slice x181 x181n x181c, .slice x182 x182n x182c]⟩, .int .i64 x183]⟩) ∧ (stL w180 p3 0 [.slice x181 x181n x181c, .slice x182 x182n x182c] fun w184 =>
  ∃ (x185 : Option Addr) (x185n : Nat) (x185c : Nat), World.cell? w184 (p3.add 0) = some (.slice x185 x185n x185c) ∧ (∃ (x186 : Option Addr) (x186n : Nat) (x186c : Nat), World.cell? w184 (p3.add 1) = some (.slice x186 x186n x186c) ∧ (R (.returned (.tuple ⟨[.agg ⟨[.slice x185 x185n x185c, .slice x186 x186n x186c]⟩, .int .i64 x183]⟩)) w184))))))))))))))))))))))))))))) → K5 w6) → (br (decide ((((names_1n : Int)) : Int) = 0)) (stL w4 p3 0 [.slice none 0 0, .slice none 0 0] fun w187 =>
  ∃ (x188 : Option Addr) (x188n : Nat) (x188c : Nat), World.cell? w187 (p3.add 0) = some (.slice x188 x188n x188c) ∧ (∃ (x189 : Option Addr) (x189n : Nat) (x189c : Nat), World.cell? w187 (p3.add 1) = some (.slice x189 x189n x189c) ∧ (R (.returned (.tuple ⟨[.agg ⟨[.slice x188 x188n x188c, .slice x189 x189n x189c]⟩, .int .i64 5]⟩)) w187))) (br (decide ((32 : Int) < ((names_1n : Int)))) (stL w4 p3 0 [.slice none 0 0, .slice none 0 0] fun w190 =>
  ∃ (x191 : Option Addr) (x191n : Nat) (x191c : Nat), World.cell? w190 (p3.add 0) = some (.slice x191 x191n x191c) ∧ (∃ (x192 : Option Addr) (x192n : Nat) (x192c : Nat), World.cell? w190 (p3.add 1) = some (.slice x192 x192n x192c) ∧ (R (.returned (.tuple ⟨[.agg ⟨[.slice x191 x191n x191c, .slice x192 x192n x192c]⟩, .int .i64 4]⟩)) w190))) (br (decide ((64 : Int) < ((l_2n : Int)))) (stL w4 p3 0 [.slice none 0 0, .slice none 0 0] fun w193 =>
  ∃ (x194 : Option Addr) (x194n : Nat) (x194c : Nat), World.cell? w193 (p3.add 0) = some (.slice x194 x194n x194c) ∧ (∃ (x195 : Option Addr) (x195n : Nat) (x195c : Nat), World.cell? w193 (p3.add 1) = some (.slice x195 x195n x195c) ∧ (R (.returned (.tuple ⟨[.agg ⟨[.slice x194 x194n x194c, .slice x195 x195n x195c]⟩, .int .i64 4]⟩)) w193))) (K5 w4))))
set_option maxRecDepth 100000 in
theorem e_split_Build (names_1 : Option Addr) (names_1n : Nat) (names_1c : Nat) (l_2 : Option Addr) (l_2n : Nat) (l_2c : Nat) (R : Ending → World → Prop) (w : World) : fnV Tryz.prog Tryz.f9 an_split_Build [.slice names_1 names_1n names_1c, .slice l_2 l_2n l_2c] R w = sh_split_Build names_1 names_1n names_1c l_2 l_2n l_2c R w := by kernel_rfl
theorem c_split_Build {names_1 : Option Addr} {names_1n : Nat} {names_1c : Nat} {l_2 : Option Addr} {l_2n : Nat} {l_2c : Nat} {R : Ending → World → Prop} {w : World} (h : sh_split_Build names_1 names_1n names_1c l_2 l_2n l_2c R w) : Calls Tryz.prog F_split_Build ⟨[.slice names_1 names_1n names_1c, .slice l_2 l_2n l_2c]⟩ w R := calls_of_fnV Tryz.func9 (by rw [e_split_Build]; exact h)

def an_phylotree_Leaves : Ann := .two (.leaf) (.two (.two (.leaf) (.two (.two (.leaf) (.leaf)) (.leaf))) (.two (.leaf) (.two (.two (.leaf) (.one (.loop 33546352 [(4, .one (.slice)), (13, .one (.int .i64))] (.two (.leaf) (.two (.two (.leaf) (.leaf)) (.two (.one (.two (.leaf) (.two (.leaf) (.two (.leaf) (.leaf))))) (.leaf))))))) (.two (.leaf) (.leaf)))))
def sh_phylotree_Leaves (t_1 : Option Addr) (t_1n : Nat) (t_1c : Nat) (t_2 : Option Addr) (t_2n : Nat) (t_2c : Nat) (R : Ending → World → Prop) (w : World) : Prop :=
  al w 37 [.slice t_1 t_1n t_1c, .slice t_2 t_2n t_2c] fun p3 w4 =>
  ∃ (x5 : Option Addr) (x5n : Nat) (x5c : Nat), World.cell? w4 (p3.add 0) = some (.slice x5 x5n x5c) ∧ (∃ (x6 : Option Addr) (x6n : Nat) (x6c : Nat), World.cell? w4 (p3.add 1) = some (.slice x6 x6n x6c) ∧ (Calls Tryz.prog 33 ⟨[.agg ⟨[.slice x5 x5n x5c, .slice x6 x6n x6c]⟩]⟩ w4 fun (e7 : Ending) (w8 : World) =>
  ∃ (x9 : Int), e7 = .returned (.int .i64 x9) ∧ (br (decide ((x9 : Int) ≠ 0)) (R (.returned (.tuple ⟨[.slice none 0 0, .int .i64 1]⟩)) w8) (∃ (x10 : Option Addr) (x10n : Nat) (x10c : Nat), World.cell? w8 (p3.add 1) = some (.slice x10 x10n x10c) ∧ (∃ (I11 : Option Addr → Nat → Nat → Int → World → Nat → Prop), (∃ m16 : Nat, I11 none 0 0 0 w8 m16) ∧ ∀ (out_12 : Option Addr) (out_12n : Nat) (out_12c : Nat) (t13_13 : Int) (w14 : World) (m15 : Nat), I11 out_12 out_12n out_12c t13_13 w14 m15 → ∀ _ : Env, (br (decide ((t13_13 : Int) < ((x10n : Int)))) (idx x10 x10n t13_13 1 fun p17 =>
  ∃ (x18 : List UInt8), World.cell? w14 p17 = some (.string ⟨⟨x18⟩⟩) ∧ (br (decide ((x18 : List UInt8) ≠ ([]))) (al w14 3 [.int .i64 t13_13] fun p19 w20 =>
  app Tryz.prog [30, 30] 30 (.slice out_12 out_12n out_12c) (.slice (some p19) 1 1) w20 fun a21 a21n a21c w22 =>
  ∃ m23 : Nat, m23 < m15 ∧ I11 a21 a21n a21c (IntKind.i64.wrap (t13_13 + 1)) w22 m23) (∃ m24 : Nat, m24 < m15 ∧ I11 out_12 out_12n out_12c (IntKind.i64.wrap (t13_13 + 1)) w14 m24))) (R (.returned (.tuple ⟨[.slice out_12 out_12n out_12c, .int .i64 0]⟩)) w14)))))))
set_option maxRecDepth 100000 in
theorem e_phylotree_Leaves (t_1 : Option Addr) (t_1n : Nat) (t_1c : Nat) (t_2 : Option Addr) (t_2n : Nat) (t_2c : Nat) (R : Ending → World → Prop) (w : World) : fnV Tryz.prog Tryz.f10 an_phylotree_Leaves [.agg ⟨[.slice t_1 t_1n t_1c, .slice t_2 t_2n t_2c]⟩] R w = sh_phylotree_Leaves t_1 t_1n t_1c t_2 t_2n t_2c R w := by kernel_rfl
theorem c_phylotree_Leaves {t_1 : Option Addr} {t_1n : Nat} {t_1c : Nat} {t_2 : Option Addr} {t_2n : Nat} {t_2c : Nat} {R : Ending → World → Prop} {w : World} (h : sh_phylotree_Leaves t_1 t_1n t_1c t_2 t_2n t_2c R w) : Calls Tryz.prog F_phylotree_Leaves ⟨[.agg ⟨[.slice t_1 t_1n t_1c, .slice t_2 t_2n t_2c]⟩]⟩ w R := calls_of_fnV Tryz.func10 (by rw [e_phylotree_Leaves]; exact h)

def an_slices_Index_of_string_string : Ann := .two (.leaf) (.two (.two (.leaf) (.one (.loop 524080 [(8, .one (.int .i64))] (.two (.leaf) (.two (.two (.leaf) (.leaf)) (.two (.one (.two (.leaf) (.two (.leaf) (.two (.two (.leaf) (.leaf)) (.leaf))))) (.leaf))))))) (.two (.leaf) (.leaf)))
def sh_slices_Index_of_string_string (s_1 : Option Addr) (s_1n : Nat) (s_1c : Nat) (v_2 : List UInt8) (R : Ending → World → Prop) (w : World) : Prop :=
  ∃ (I3 : Int → World → Nat → Prop), (∃ m7 : Nat, I3 0 w m7) ∧ ∀ (t8_4 : Int) (w5 : World) (m6 : Nat), I3 t8_4 w5 m6 → ∀ _ : Env, (br (decide ((t8_4 : Int) < ((s_1n : Int)))) (idx s_1 s_1n t8_4 1 fun p8 =>
  ∃ (x9 : List UInt8), World.cell? w5 p8 = some (.string ⟨⟨x9⟩⟩) ∧ (br (decide ((v_2 : List UInt8) = x9)) (R (.returned (.int .i64 t8_4)) w5) (∃ m10 : Nat, m10 < m6 ∧ I3 (IntKind.i64.wrap (t8_4 + 1)) w5 m10))) (R (.returned (.int .i64 ((-1)))) w5))
set_option maxRecDepth 100000 in
theorem e_slices_Index_of_string_string (s_1 : Option Addr) (s_1n : Nat) (s_1c : Nat) (v_2 : List UInt8) (R : Ending → World → Prop) (w : World) : fnV Tryz.prog Tryz.f11 an_slices_Index_of_string_string [.slice s_1 s_1n s_1c, .string ⟨⟨v_2⟩⟩] R w = sh_slices_Index_of_string_string s_1 s_1n s_1c v_2 R w := by kernel_rfl
theorem c_slices_Index_of_string_string {s_1 : Option Addr} {s_1n : Nat} {s_1c : Nat} {v_2 : List UInt8} {R : Ending → World → Prop} {w : World} (h : sh_slices_Index_of_string_string s_1 s_1n s_1c v_2 R w) : Calls Tryz.prog F_slices_Index_of_string_string ⟨[.slice s_1 s_1n s_1c, .string ⟨⟨v_2⟩⟩]⟩ w R := calls_of_fnV Tryz.func11 (by rw [e_slices_Index_of_string_string]; exact h)

def an_slices_Contains_of_bool_bool : Ann := .two (.leaf) (.two (.leaf) (.leaf))
def sh_slices_Contains_of_bool_bool (s_1 : Option Addr) (s_1n : Nat) (s_1c : Nat) (v_2 : Bool) (R : Ending → World → Prop) (w : World) : Prop :=
  Calls Tryz.prog 34 ⟨[.slice s_1 s_1n s_1c, .bool v_2]⟩ w fun (e3 : Ending) (w4 : World) =>
  ∃ (x5 : Int), e3 = .returned (.int .i64 x5) ∧ (R (.returned (.bool (decide ((0 : Int) ≤ x5)))) w4)
set_option maxRecDepth 100000 in
theorem e_slices_Contains_of_bool_bool (s_1 : Option Addr) (s_1n : Nat) (s_1c : Nat) (v_2 : Bool) (R : Ending → World → Prop) (w : World) : fnV Tryz.prog Tryz.f12 an_slices_Contains_of_bool_bool [.slice s_1 s_1n s_1c, .bool v_2] R w = sh_slices_Contains_of_bool_bool s_1 s_1n s_1c v_2 R w := by kernel_rfl
theorem c_slices_Contains_of_bool_bool {s_1 : Option Addr} {s_1n : Nat} {s_1c : Nat} {v_2 : Bool} {R : Ending → World → Prop} {w : World} (h : sh_slices_Contains_of_bool_bool s_1 s_1n s_1c v_2 R w) : Calls Tryz.prog F_slices_Contains_of_bool_bool ⟨[.slice s_1 s_1n s_1c, .bool v_2]⟩ w R := calls_of_fnV Tryz.func12 (by rw [e_slices_Contains_of_bool_bool]; exact h)

def an_parsimony_Fitch : Ann := .two (.leaf) (.two (.leaf) (.two (.two (.leaf) (.two (.two (.leaf) (.leaf)) (.leaf))) (.two (.two (.leaf) (.two (.leaf) (.two (.two (.leaf) (.leaf)) (.leaf)))) (.two (.leaf) (.two (.leaf) (.leaf))))))
set_option maxRecDepth 100000 in
def sh_parsimony_Fitch (t_1 : Option Addr) (t_1n : Nat) (t_1c : Nat) (t_2 : Option Addr) (t_2n : Nat) (t_2c : Nat) (states_3 : Option Addr) (states_3n : Nat) (states_3c : Nat) (R : Ending → World → Prop) (w : World) : Prop :=
  al w 37 [.slice t_1 t_1n t_1c, .slice t_2 t_2n t_2c] fun p4 w5 =>
  ∃ (x6 : Option Addr) (x6n : Nat) (x6c : Nat), World.cell? w5 (p4.add 0) = some (.slice x6 x6n x6c) ∧ (∃ (x7 : Option Addr) (x7n : Nat) (x7c : Nat), World.cell? w5 (p4.add 1) = some (.slice x7 x7n x7c) ∧ (Calls Tryz.prog 10 ⟨[.agg ⟨[.slice x6 x6n x6c, .slice x7 x7n x7c]⟩]⟩ w5 fun (e8 : Ending) (w9 : World) =>
  ∃ (x10 : Option Addr) (x10n : Nat) (x10c : Nat) (x11 : Int), e8 = .returned (.tuple ⟨[.slice x10 x10n x10c, .int .i64 x11]⟩) ∧ (br (decide ((x11 : Int) ≠ 0)) (R (.returned (.tuple ⟨[.int .i64 0, .int .i64 1]⟩)) w9) (Calls Tryz.prog 35 ⟨[.slice states_3 states_3n states_3c, .int .i64 ((x10n : Int)), .int .i64 ((-1)), .int .i64 16]⟩ w9 fun (e12 : Ending) (w13 : World) =>
  ∃ (x14 : Int), e12 = .returned (.int .i64 x14) ∧ (br (decide ((x14 : Int) ≠ 0)) (R (.returned (.tuple ⟨[.int .i64 0, .int .i64 x14]⟩)) w13) (drw w13 fun w15 =>
  (∃ (x16 : Option Addr) (x16n : Nat) (x16c : Nat), World.cell? w15 (p4.add 0) = some (.slice x16 x16n x16c) ∧ (∃ (x17 : Option Addr) (x17n : Nat) (x17c : Nat), World.cell? w15 (p4.add 1) = some (.slice x17 x17n x17c) ∧ ((Calls Tryz.prog 38 ⟨[.int .i64 16]⟩ w15 fun (e18 : Ending) (w19 : World) =>
  ∃ (x20 : Option Addr) (x20n : Nat) (x20c : Nat), e18 = .returned (.slice x20 x20n x20c) ∧ ((Calls Tryz.prog 37 ⟨[.agg ⟨[.slice x16 x16n x16c, .slice x17 x17n x17c]⟩, .slice states_3 states_3n states_3c, .slice x20 x20n x20c]⟩ w19 fun (e21 : Ending) (w22 : World) =>
  ∃ (x23 : Option Addr) (x23n : Nat) (x23c : Nat), e21 = .returned (.slice x23 x23n x23c) ∧ (idx x23 x23n 0 1 fun p24 =>
  ∃ (x25 : Option Addr) (x25n : Nat) (x25c : Nat), World.cell? w22 p24 = some (.slice x25 x25n x25c) ∧ ((Calls Tryz.prog 36 ⟨[.slice x25 x25n x25c]⟩ w22 fun (e26 : Ending) (w27 : World) =>
  ∃ (x28 : Int) (x29 : Int), e26 = .returned (.tuple ⟨[.int .i64 x28, .int .i64 x29]⟩) ∧ (R (.returned (.tuple ⟨[.int .i64 x28, .int .i64 0]⟩)) w27)) ∧ True))) ∧ True)) ∧ True))) ∧ ((∃ (x30 : Option Addr) (x30n : Nat) (x30c : Nat), World.cell? w15 (p4.add 0) = some (.slice x30 x30n x30c) ∧ (∃ (x31 : Option Addr) (x31n : Nat) (x31c : Nat), World.cell? w15 (p4.add 1) = some (.slice x31 x31n x31c) ∧ ((Calls Tryz.prog 38 ⟨[.int .i64 16]⟩ w15 fun (e32 : Ending) (w33 : World) =>
  ∃ (x34 : Option Addr) (x34n : Nat) (x34c : Nat), e32 = .returned (.slice x34 x34n x34c) ∧ ((Calls Tryz.prog 37 ⟨[.agg ⟨[.slice x30 x30n x30c, .slice x31 x31n x31c]⟩, .slice states_3 states_3n states_3c, .slice x34 x34n x34c]⟩ w33 fun (e35 : Ending) (w36 : World) =>
  ∃ (x37 : Option Addr) (x37n : Nat) (x37c : Nat), e35 = .returned (.slice x37 x37n x37c) ∧ (idx x37 x37n 0 1 fun p38 =>
  ∃ (x39 : Option Addr) (x39n : Nat) (x39c : Nat), World.cell? w36 p38 = some (.slice x39 x39n x39c) ∧ ((Calls Tryz.prog 36 ⟨[.slice x39 x39n x39c]⟩ w36 fun (e40 : Ending) (w41 : World) =>
  ∃ (x42 : Int) (x43 : Int), e40 = .returned (.tuple ⟨[.int .i64 x42, .int .i64 x43]⟩) ∧ (R (.returned (.tuple ⟨[.int .i64 x42, .int .i64 0]⟩)) w41)) ∧ True))) ∧ True)) ∧ True))) ∧ (Calls Tryz.prog 38 ⟨[.int .i64 16]⟩ w15 fun (e44 : Ending) (w45 : World) =>
  ∃ (x46 : Option Addr) (x46n : Nat) (x46c : Nat), e44 = .returned (.slice x46 x46n x46c) ∧ (∃ (x47 : Option Addr) (x47n : Nat) (x47c : Nat), World.cell? w45 (p4.add 0) = some (.slice x47 x47n x47c) ∧ (∃ (x48 : Option Addr) (x48n : Nat) (x48c : Nat), World.cell? w45 (p4.add 1) = some (.slice x48 x48n x48c) ∧ ((Calls Tryz.prog 37 ⟨[.agg ⟨[.slice x47 x47n x47c, .slice x48 x48n x48c]⟩, .slice states_3 states_3n states_3c, .slice x46 x46n x46c]⟩ w45 fun (e49 : Ending) (w50 : World) =>
  ∃ (x51 : Option Addr) (x51n : Nat) (x51c : Nat), e49 = .returned (.slice x51 x51n x51c) ∧ (idx x51 x51n 0 1 fun p52 =>
  ∃ (x53 : Option Addr) (x53n : Nat) (x53c : Nat), World.cell? w50 p52 = some (.slice x53 x53n x53c) ∧ ((Calls Tryz.prog 36 ⟨[.slice x53 x53n x53c]⟩ w50 fun (e54 : Ending) (w55 : World) =>
  ∃ (x56 : Int) (x57 : Int), e54 = .returned (.tuple ⟨[.int .i64 x56, .int .i64 x57]⟩) ∧ (R (.returned (.tuple ⟨[.int .i64 x56, .int .i64 0]⟩)) w55)) ∧ True))) ∧ True)))) ∧ True) ∧ (Calls Tryz.prog 38 ⟨[.int .i64 16]⟩ w15 fun (e58 : Ending) (w59 : World) =>
  ∃ (x60 : Option Addr) (x60n : Nat) (x60c : Nat), e58 = .returned (.slice x60 x60n x60c) ∧ (∃ (x61 : Option Addr) (x61n : Nat) (x61c : Nat), World.cell? w59 (p4.add 0) = some (.slice x61 x61n x61c) ∧ (∃ (x62 : Option Addr) (x62n : Nat) (x62c : Nat), World.cell? w59 (p4.add 1) = some (.slice x62 x62n x62c) ∧ ((Calls Tryz.prog 37 ⟨[.agg ⟨[.slice x61 x61n x61c, .slice x62 x62n x62c]⟩, .slice states_3 states_3n states_3c, .slice x60 x60n x60c]⟩ w59 fun (e63 : Ending) (w64 : World) =>
  ∃ (x65 : Option Addr) (x65n : Nat) (x65c : Nat), e63 = .returned (.slice x65 x65n x65c) ∧ (idx x65 x65n 0 1 fun p66 =>
  ∃ (x67 : Option Addr) (x67n : Nat) (x67c : Nat), World.cell? w64 p66 = some (.slice x67 x67n x67c) ∧ ((Calls Tryz.prog 36 ⟨[.slice x67 x67n x67c]⟩ w64 fun (e68 : Ending) (w69 : World) =>
  ∃ (x70 : Int) (x71 : Int), e68 = .returned (.tuple ⟨[.int .i64 x70, .int .i64 x71]⟩) ∧ (R (.returned (.tuple ⟨[.int .i64 x70, .int .i64 0]⟩)) w69)) ∧ True))) ∧ True)))) ∧ True))))))
set_option maxRecDepth 100000 in
theorem e_parsimony_Fitch (t_1 : Option Addr) (t_1n : Nat) (t_1c : Nat) (t_2 : Option Addr) (t_2n : Nat) (t_2c : Nat) (states_3 : Option Addr) (states_3n : Nat) (states_3c : Nat) (R : Ending → World → Prop) (w : World) : fnV Tryz.prog Tryz.f13 an_parsimony_Fitch [.agg ⟨[.slice t_1 t_1n t_1c, .slice t_2 t_2n t_2c]⟩, .slice states_3 states_3n states_3c] R w = sh_parsimony_Fitch t_1 t_1n t_1c t_2 t_2n t_2c states_3 states_3n states_3c R w := by kernel_rfl
theorem c_parsimony_Fitch {t_1 : Option Addr} {t_1n : Nat} {t_1c : Nat} {t_2 : Option Addr} {t_2n : Nat} {t_2c : Nat} {states_3 : Option Addr} {states_3n : Nat} {states_3c : Nat} {R : Ending → World → Prop} {w : World} (h : sh_parsimony_Fitch t_1 t_1n t_1c t_2 t_2n t_2c states_3 states_3n states_3c R w) : Calls Tryz.prog F_parsimony_Fitch ⟨[.agg ⟨[.slice t_1 t_1n t_1c, .slice t_2 t_2n t_2c]⟩, .slice states_3 states_3n states_3c]⟩ w R := calls_of_fnV Tryz.func13 (by rw [e_parsimony_Fitch]; exact h)

def an_slices_IndexFunc_of_bool_bool : Ann := .two (.leaf) (.two (.two (.leaf) (.one (.loop 524080 [(8, .one (.int .i64))] (.two (.leaf) (.two (.two (.leaf) (.leaf)) (.two (.one (.two (.leaf) (.two (.leaf) (.two (.two (.leaf) (.leaf)) (.leaf))))) (.leaf))))))) (.two (.leaf) (.leaf)))
def sh_slices_IndexFunc_of_bool_bool (s_1 : Option Addr) (s_1n : Nat) (s_1c : Nat) (f_2 : Fn) (f_2a : Array Value) (f_2b : Array Value) (R : Ending → World → Prop) (w : World) : Prop :=
  ∃ (I3 : Int → World → Nat → Prop), (∃ m7 : Nat, I3 0 w m7) ∧ ∀ (t8_4 : Int) (w5 : World) (m6 : Nat), I3 t8_4 w5 m6 → ∀ _ : Env, (br (decide ((t8_4 : Int) < ((s_1n : Int)))) (idx s_1 s_1n t8_4 1 fun p8 =>
  ∃ (x9 : Option Addr) (x9n : Nat) (x9c : Nat), World.cell? w5 p8 = some (.slice x9 x9n x9c) ∧ (CallV Tryz.prog (.func f_2 f_2a f_2b) [.slice x9 x9n x9c] w5 fun (e10 : Ending) (w11 : World) =>
  ∃ (x12 : Bool), e10 = .returned (.bool x12) ∧ (br x12 (R (.returned (.int .i64 t8_4)) w11) (∃ m13 : Nat, m13 < m6 ∧ I3 (IntKind.i64.wrap (t8_4 + 1)) w11 m13)))) (R (.returned (.int .i64 ((-1)))) w5))
set_option maxRecDepth 100000 in
theorem e_slices_IndexFunc_of_bool_bool (s_1 : Option Addr) (s_1n : Nat) (s_1c : Nat) (f_2 : Fn) (f_2a : Array Value) (f_2b : Array Value) (R : Ending → World → Prop) (w : World) : fnV Tryz.prog Tryz.f14 an_slices_IndexFunc_of_bool_bool [.slice s_1 s_1n s_1c, .func f_2 f_2a f_2b] R w = sh_slices_IndexFunc_of_bool_bool s_1 s_1n s_1c f_2 f_2a f_2b R w := by kernel_rfl
theorem c_slices_IndexFunc_of_bool_bool {s_1 : Option Addr} {s_1n : Nat} {s_1c : Nat} {f_2 : Fn} {f_2a : Array Value} {f_2b : Array Value} {R : Ending → World → Prop} {w : World} (h : sh_slices_IndexFunc_of_bool_bool s_1 s_1n s_1c f_2 f_2a f_2b R w) : Calls Tryz.prog F_slices_IndexFunc_of_bool_bool ⟨[.slice s_1 s_1n s_1c, .func f_2 f_2a f_2b]⟩ w R := calls_of_fnV Tryz.func14 (by rw [e_slices_IndexFunc_of_bool_bool]; exact h)

def an_slices_ContainsFunc_of_int_int : Ann := .two (.leaf) (.two (.leaf) (.leaf))
def sh_slices_ContainsFunc_of_int_int (s_1 : Option Addr) (s_1n : Nat) (s_1c : Nat) (f_2 : Fn) (f_2a : Array Value) (f_2b : Array Value) (R : Ending → World → Prop) (w : World) : Prop :=
  Calls Tryz.prog 39 ⟨[.slice s_1 s_1n s_1c, .func f_2 f_2a f_2b]⟩ w fun (e3 : Ending) (w4 : World) =>
  ∃ (x5 : Int), e3 = .returned (.int .i64 x5) ∧ (R (.returned (.bool (decide ((0 : Int) ≤ x5)))) w4)
set_option maxRecDepth 100000 in
theorem e_slices_ContainsFunc_of_int_int (s_1 : Option Addr) (s_1n : Nat) (s_1c : Nat) (f_2 : Fn) (f_2a : Array Value) (f_2b : Array Value) (R : Ending → World → Prop) (w : World) : fnV Tryz.prog Tryz.f15 an_slices_ContainsFunc_of_int_int [.slice s_1 s_1n s_1c, .func f_2 f_2a f_2b] R w = sh_slices_ContainsFunc_of_int_int s_1 s_1n s_1c f_2 f_2a f_2b R w := by kernel_rfl
theorem c_slices_ContainsFunc_of_int_int {s_1 : Option Addr} {s_1n : Nat} {s_1c : Nat} {f_2 : Fn} {f_2a : Array Value} {f_2b : Array Value} {R : Ending → World → Prop} {w : World} (h : sh_slices_ContainsFunc_of_int_int s_1 s_1n s_1c f_2 f_2a f_2b R w) : Calls Tryz.prog F_slices_ContainsFunc_of_int_int ⟨[.slice s_1 s_1n s_1c, .func f_2 f_2a f_2b]⟩ w R := calls_of_fnV Tryz.func15 (by rw [e_slices_ContainsFunc_of_int_int]; exact h)

def an_split_OfStates_1 : Ann := .two (.leaf) (.two (.leaf) (.leaf))
def sh_split_OfStates_1 (s_1 : Int) (R : Ending → World → Prop) (w : World) : Prop :=
  br (decide ((s_1 : Int) < ((-1)))) (R (.returned (.bool true)) w) (R (.returned (.bool (decide ((16 : Int) ≤ s_1)))) w)
set_option maxRecDepth 100000 in
theorem e_split_OfStates_1 (s_1 : Int) (R : Ending → World → Prop) (w : World) : fnV Tryz.prog Tryz.f16 an_split_OfStates_1 [.int .i64 s_1] R w = sh_split_OfStates_1 s_1 R w := by kernel_rfl
theorem c_split_OfStates_1 {s_1 : Int} {R : Ending → World → Prop} {w : World} (h : sh_split_OfStates_1 s_1 R w) : Calls Tryz.prog F_split_OfStates_1 ⟨[.int .i64 s_1]⟩ w R := calls_of_fnV Tryz.func16 (by rw [e_split_OfStates_1]; exact h)

def an_split_leafName : Ann := .two (.leaf) (.two (.two (.leaf) (.cut 32704 [(14, .one (.bool))] (.leaf) (.two (.two (.leaf) (.leaf)) (.leaf)))) (.two (.leaf) (.leaf)))
def sh_split_leafName (s_1 : List UInt8) (R : Ending → World → Prop) (w : World) : Prop :=
  ∀ (K2 : Bool → World → Prop), (∀ (t14_3 : Bool) (w4 : World), (∀ _ : Env, (br t14_3 (br (decide ((((List.length s_1 : Int)) : Int) ≤ 16)) (ssl s_1 0 (IntKind.i64.wrap (((List.length s_1 : Int)) - 1)) fun s5 =>
  Calls Tryz.prog 40 ⟨[.string ⟨⟨s5⟩⟩]⟩ w4 fun (e6 : Ending) (w7 : World) =>
  ∃ (x8 : Bool), e6 = .returned (.bool x8) ∧ (R (.returned (.bool x8)) w7)) (R (.returned (.bool false)) w4)) (Calls Tryz.prog 40 ⟨[.string ⟨⟨s_1⟩⟩]⟩ w4 fun (e9 : Ending) (w10 : World) =>
  ∃ (x11 : Bool), e9 = .returned (.bool x11) ∧ (R (.returned (.bool x11)) w10)))) → K2 t14_3 w4) → (br (decide ((0 : Int) < ((List.length s_1 : Int)))) (sidx s_1 (IntKind.i64.wrap (((List.length s_1 : Int)) - 1)) fun b12 =>
  K2 (decide ((((b12.toNat : Int)) : Int) = 42)) w) (K2 false w))
set_option maxRecDepth 100000 in
theorem e_split_leafName (s_1 : List UInt8) (R : Ending → World → Prop) (w : World) : fnV Tryz.prog Tryz.f17 an_split_leafName [.string ⟨⟨s_1⟩⟩] R w = sh_split_leafName s_1 R w := by kernel_rfl
theorem c_split_leafName {s_1 : List UInt8} {R : Ending → World → Prop} {w : World} (h : sh_split_leafName s_1 R w) : Calls Tryz.prog F_split_leafName ⟨[.string ⟨⟨s_1⟩⟩]⟩ w R := calls_of_fnV Tryz.func17 (by rw [e_split_leafName]; exact h)

def an_slices_Contains_of_string_string : Ann := .two (.leaf) (.two (.leaf) (.leaf))
def sh_slices_Contains_of_string_string (s_1 : Option Addr) (s_1n : Nat) (s_1c : Nat) (v_2 : List UInt8) (R : Ending → World → Prop) (w : World) : Prop :=
  Calls Tryz.prog 11 ⟨[.slice s_1 s_1n s_1c, .string ⟨⟨v_2⟩⟩]⟩ w fun (e3 : Ending) (w4 : World) =>
  ∃ (x5 : Int), e3 = .returned (.int .i64 x5) ∧ (R (.returned (.bool (decide ((0 : Int) ≤ x5)))) w4)
set_option maxRecDepth 100000 in
theorem e_slices_Contains_of_string_string (s_1 : Option Addr) (s_1n : Nat) (s_1c : Nat) (v_2 : List UInt8) (R : Ending → World → Prop) (w : World) : fnV Tryz.prog Tryz.f18 an_slices_Contains_of_string_string [.slice s_1 s_1n s_1c, .string ⟨⟨v_2⟩⟩] R w = sh_slices_Contains_of_string_string s_1 s_1n s_1c v_2 R w := by kernel_rfl
theorem c_slices_Contains_of_string_string {s_1 : Option Addr} {s_1n : Nat} {s_1c : Nat} {v_2 : List UInt8} {R : Ending → World → Prop} {w : World} (h : sh_slices_Contains_of_string_string s_1 s_1n s_1c v_2 R w) : Calls Tryz.prog F_slices_Contains_of_string_string ⟨[.slice s_1 s_1n s_1c, .string ⟨⟨v_2⟩⟩]⟩ w R := calls_of_fnV Tryz.func18 (by rw [e_slices_Contains_of_string_string]; exact h)

def an_split_Check : Ann := .two (.leaf) (.cut 4048 [] (.two (.leaf) (.two (.two (.leaf) (.leaf)) (.leaf))) (.two (.two (.leaf) (.two (.leaf) (.two (.two (.leaf) (.leaf)) (.leaf)))) (.two (.one (.cut 137438822400 [(17, .one (.bool))] (.leaf) (.two (.two (.leaf) (.leaf)) (.two (.leaf) (.two (.two (.leaf) (.leaf)) (.leaf)))))) (.two (.leaf) (.leaf)))))
def sh_split_Check (n_1 : Int) (s_2 : Option Addr) (s_2n : Nat) (s_2c : Nat) (R : Ending → World → Prop) (w : World) : Prop :=
  ∀ (K3 : World → Prop), (∀  (w4 : World), (∀ _ : Env, (Calls Tryz.prog 41 ⟨[.slice s_2 s_2n s_2c]⟩ w4 fun (e5 : Ending) (w6 : World) =>
  ∃ (x7 : Int), e5 = .returned (.int .i64 x7) ∧ (br (decide ((x7 : Int) ≠ 0)) (R (.returned (.int .i64 x7)) w6) (∀ (K8 : Bool → World → Prop), (∀ (t17_9 : Bool) (w10 : World), (∀ _ : Env, (br t17_9 (R (.returned (.int .i64 2)) w10) (br (decide ((((s_2n : Int)) : Int) < 2)) (R (.returned (.int .i64 8)) w10) (br (decide (((IntKind.i64.wrap (n_1 - 2)) : Int) < ((s_2n : Int)))) (R (.returned (.int .i64 8)) w10) (R (.returned (.int .i64 0)) w10))))) → K8 t17_9 w10) → (br (decide ((0 : Int) < ((s_2n : Int)))) (idx s_2 s_2n 0 1 fun p11 =>
  ∃ (x12 : Int), World.cell? w6 p11 = some (.int .i64 x12) ∧ (br (decide ((x12 : Int) = 0)) (K8 true w6) (idx s_2 s_2n (IntKind.i64.wrap (((s_2n : Int)) - 1)) 1 fun p13 =>
  ∃ (x14 : Int), World.cell? w6 p13 = some (.int .i64 x14) ∧ (K8 (decide ((n_1 : Int) ≤ x14)) w6)))) (K8 false w6)))))) → K3 w4) → (br (decide ((n_1 : Int) < 1)) (R (.returned (.int .i64 2)) w) (br (decide ((32 : Int) < n_1)) (R (.returned (.int .i64 2)) w) (K3 w)))
set_option maxRecDepth 100000 in
theorem e_split_Check (n_1 : Int) (s_2 : Option Addr) (s_2n : Nat) (s_2c : Nat) (R : Ending → World → Prop) (w : World) : fnV Tryz.prog Tryz.f19 an_split_Check [.int .i64 n_1, .slice s_2 s_2n s_2c] R w = sh_split_Check n_1 s_2 s_2n s_2c R w := by kernel_rfl
theorem c_split_Check {n_1 : Int} {s_2 : Option Addr} {s_2n : Nat} {s_2c : Nat} {R : Ending → World → Prop} {w : World} (h : sh_split_Check n_1 s_2 s_2n s_2c R w) : Calls Tryz.prog F_split_Check ⟨[.int .i64 n_1, .slice s_2 s_2n s_2c]⟩ w R := calls_of_fnV Tryz.func19 (by rw [e_split_Check]; exact h)

def an_split_pair : Ann := .two (.leaf) (.two (.two (.leaf) (.one (.loop 8589934204 [(9, .one (.int .i64))] (.two (.leaf) (.two (.two (.leaf) (.leaf)) (.two (.one (.two (.leaf) (.two (.leaf) (.one (.loop 4294951004 [(6, .one (.int .i64))] (.two (.two (.leaf) (.two (.leaf) (.leaf))) (.two (.one (.two (.leaf) (.two (.two (.leaf) (.leaf)) (.leaf)))) (.leaf)))))))) (.leaf))))))) (.two (.leaf) (.leaf)))
def sh_split_pair (l_1 : Option Addr) (l_1n : Nat) (l_1c : Nat) (R : Ending → World → Prop) (w : World) : Prop :=
  ∃ (I2 : Int → World → Nat → Prop), (∃ m6 : Nat, I2 0 w m6) ∧ ∀ (t9_3 : Int) (w4 : World) (m5 : Nat), I2 t9_3 w4 m5 → ∀ _ : Env, (br (decide ((t9_3 : Int) < ((l_1n : Int)))) (∃ (I7 : Int → World → Nat → Prop), (∃ m11 : Nat, I7 (IntKind.i64.wrap (t9_3 + 1)) w4 m11) ∧ ∀ (k_8 : Int) (w9 : World) (m10 : Nat), I7 k_8 w9 m10 → ∀ _ : Env, (br (decide ((k_8 : Int) < ((l_1n : Int)))) (drw w9 fun w12 =>
  idx l_1 l_1n t9_3 1 fun p13 =>
  ∃ (x14 : Option Addr) (x14n : Nat) (x14c : Nat), World.cell? w12 p13 = some (.slice x14 x14n x14c) ∧ (idx l_1 l_1n k_8 1 fun p15 =>
  ∃ (x16 : Option Addr) (x16n : Nat) (x16c : Nat), World.cell? w12 p15 = some (.slice x16 x16n x16c) ∧ ((Calls Tryz.prog 42 ⟨[.slice x14 x14n x14c, .slice x16 x16n x16c]⟩ w12 fun (e17 : Ending) (w18 : World) =>
  ∃ (x19 : Bool), e17 = .returned (.bool x19) ∧ (br (!x19) (R (.returned (.tuple ⟨[.int .i64 t9_3, .int .i64 k_8, .bool false]⟩)) w18) (∃ m20 : Nat, m20 < m10 ∧ I7 (IntKind.i64.wrap (k_8 + 1)) w18 m20))) ∧ True))) (∃ m21 : Nat, m21 < m5 ∧ I2 (IntKind.i64.wrap (t9_3 + 1)) w9 m21))) (R (.returned (.tuple ⟨[.int .i64 0, .int .i64 0, .bool true]⟩)) w4))
set_option maxRecDepth 100000 in
theorem e_split_pair (l_1 : Option Addr) (l_1n : Nat) (l_1c : Nat) (R : Ending → World → Prop) (w : World) : fnV Tryz.prog Tryz.f20 an_split_pair [.slice l_1 l_1n l_1c] R w = sh_split_pair l_1 l_1n l_1c R w := by kernel_rfl
theorem c_split_pair {l_1 : Option Addr} {l_1n : Nat} {l_1c : Nat} {R : Ending → World → Prop} {w : World} (h : sh_split_pair l_1 l_1n l_1c R w) : Calls Tryz.prog F_split_pair ⟨[.slice l_1 l_1n l_1c]⟩ w R := calls_of_fnV Tryz.func20 (by rw [e_split_pair]; exact h)

def an_split_Build_1 : Ann := .two (.leaf) (.cut 262080 [] (.one (.leaf)) (.two (.leaf) (.leaf)))
set_option maxRecDepth 100000 in
def sh_split_Build_1 (parent_1 : Int) (name_2 : List UInt8) (t2_3 : Option Addr) (R : Ending → World → Prop) (w : World) : Prop :=
  ∀ (K4 : World → Prop), (∀  (w5 : World), (∀ _ : Env, (dr t2_3 fun p6 =>
  ∃ (x7 : Option Addr) (x7n : Nat) (x7c : Nat), World.cell? w5 (p6.add 0) = some (.slice x7 x7n x7c) ∧ (R (.returned (.int .i64 (IntKind.i64.wrap (((x7n : Int)) - 1)))) w5))) → K4 w5) → (drw w fun w8 =>
  dr t2_3 fun p9 =>
  ∃ (x10 : Option Addr) (x10n : Nat) (x10c : Nat), World.cell? w8 (p9.add 0) = some (.slice x10 x10n x10c) ∧ (dr t2_3 fun p11 =>
  (al w8 3 [.int .i64 parent_1] fun p12 w13 =>
  (app Tryz.prog [30, 30] 30 (.slice x10 x10n x10c) (.slice (some p12) 1 1) w13 fun a14 a14n a14c w15 =>
  ∃ (x16 : Option Addr) (x16n : Nat) (x16c : Nat), World.cell? w15 (p11.add 1) = some (.slice x16 x16n x16c) ∧ (dr t2_3 fun p17 =>
  (al w15 9 [.string ⟨⟨name_2⟩⟩] fun p18 w19 =>
  (app Tryz.prog [22, 22] 22 (.slice x16 x16n x16c) (.slice (some p18) 1 1) w19 fun a20 a20n a20c w21 =>
  (stL w21 (p17.add 0) 0 [.slice a14 a14n a14c] fun w22 =>
  dr t2_3 fun p23 =>
  (stL w22 (p23.add 1) 0 [.slice a20 a20n a20c] fun w24 =>
  K4 w24) ∧ True) ∧ True) ∧ True) ∧ True)) ∧ (∃ (x25 : Option Addr) (x25n : Nat) (x25c : Nat), World.cell? w13 (p11.add 1) = some (.slice x25 x25n x25c) ∧ ((app Tryz.prog [30, 30] 30 (.slice x10 x10n x10c) (.slice (some p12) 1 1) w13 fun a26 a26n a26c w27 =>
  dr t2_3 fun p28 =>
  (al w27 9 [.string ⟨⟨name_2⟩⟩] fun p29 w30 =>
  (app Tryz.prog [22, 22] 22 (.slice x25 x25n x25c) (.slice (some p29) 1 1) w30 fun a31 a31n a31c w32 =>
  (stL w32 (p28.add 0) 0 [.slice a26 a26n a26c] fun w33 =>
  dr t2_3 fun p34 =>
  (stL w33 (p34.add 1) 0 [.slice a31 a31n a31c] fun w35 =>
  K4 w35) ∧ True) ∧ True) ∧ True) ∧ True) ∧ (al w13 9 [.string ⟨⟨name_2⟩⟩] fun p36 w37 =>
  (app Tryz.prog [30, 30] 30 (.slice x10 x10n x10c) (.slice (some p12) 1 1) w37 fun a38 a38n a38c w39 =>
  dr t2_3 fun p40 =>
  (app Tryz.prog [22, 22] 22 (.slice x25 x25n x25c) (.slice (some p36) 1 1) w39 fun a41 a41n a41c w42 =>
  (stL w42 (p40.add 0) 0 [.slice a38 a38n a38c] fun w43 =>
  dr t2_3 fun p44 =>
  (stL w43 (p44.add 1) 0 [.slice a41 a41n a41c] fun w45 =>
  K4 w45) ∧ True) ∧ True) ∧ True) ∧ True) ∧ True)) ∧ (al w13 9 [.string ⟨⟨name_2⟩⟩] fun p46 w47 =>
  (app Tryz.prog [30, 30] 30 (.slice x10 x10n x10c) (.slice (some p12) 1 1) w47 fun a48 a48n a48c w49 =>
  ∃ (x50 : Option Addr) (x50n : Nat) (x50c : Nat), World.cell? w49 (p11.add 1) = some (.slice x50 x50n x50c) ∧ (dr t2_3 fun p51 =>
  (app Tryz.prog [22, 22] 22 (.slice x50 x50n x50c) (.slice (some p46) 1 1) w49 fun a52 a52n a52c w53 =>
  (stL w53 (p51.add 0) 0 [.slice a48 a48n a48c] fun w54 =>
  dr t2_3 fun p55 =>
  (stL w54 (p55.add 1) 0 [.slice a52 a52n a52c] fun w56 =>
  K4 w56) ∧ True) ∧ True) ∧ True)) ∧ True) ∧ True) ∧ (∃ (x57 : Option Addr) (x57n : Nat) (x57c : Nat), World.cell? w8 (p11.add 1) = some (.slice x57 x57n x57c) ∧ ((al w8 3 [.int .i64 parent_1] fun p58 w59 =>
  (app Tryz.prog [30, 30] 30 (.slice x10 x10n x10c) (.slice (some p58) 1 1) w59 fun a60 a60n a60c w61 =>
  dr t2_3 fun p62 =>
  (al w61 9 [.string ⟨⟨name_2⟩⟩] fun p63 w64 =>
  (app Tryz.prog [22, 22] 22 (.slice x57 x57n x57c) (.slice (some p63) 1 1) w64 fun a65 a65n a65c w66 =>
  (stL w66 (p62.add 0) 0 [.slice a60 a60n a60c] fun w67 =>
  dr t2_3 fun p68 =>
  (stL w67 (p68.add 1) 0 [.slice a65 a65n a65c] fun w69 =>
  K4 w69) ∧ True) ∧ True) ∧ True) ∧ True) ∧ (al w59 9 [.string ⟨⟨name_2⟩⟩] fun p70 w71 =>
  (app Tryz.prog [30, 30] 30 (.slice x10 x10n x10c) (.slice (some p58) 1 1) w71 fun a72 a72n a72c w73 =>
  dr t2_3 fun p74 =>
  (app Tryz.prog [22, 22] 22 (.slice x57 x57n x57c) (.slice (some p70) 1 1) w73 fun a75 a75n a75c w76 =>
  (stL w76 (p74.add 0) 0 [.slice a72 a72n a72c] fun w77 =>
  dr t2_3 fun p78 =>
  (stL w77 (p78.add 1) 0 [.slice a75 a75n a75c] fun w79 =>
  K4 w79) ∧ True) ∧ True) ∧ True) ∧ True) ∧ True) ∧ (al w8 9 [.string ⟨⟨name_2⟩⟩] fun p80 w81 =>
  (al w81 3 [.int .i64 parent_1] fun p82 w83 =>
  (app Tryz.prog [30, 30] 30 (.slice x10 x10n x10c) (.slice (some p82) 1 1) w83 fun a84 a84n a84c w85 =>
  dr t2_3 fun p86 =>
  (app Tryz.prog [22, 22] 22 (.slice x57 x57n x57c) (.slice (some p80) 1 1) w85 fun a87 a87n a87c w88 =>
  (stL w88 (p86.add 0) 0 [.slice a84 a84n a84c] fun w89 =>
  dr t2_3 fun p90 =>
  (stL w89 (p90.add 1) 0 [.slice a87 a87n a87c] fun w91 =>
  K4 w91) ∧ True) ∧ True) ∧ True) ∧ True) ∧ True) ∧ True)) ∧ (al w8 9 [.string ⟨⟨name_2⟩⟩] fun p92 w93 =>
  (al w93 3 [.int .i64 parent_1] fun p94 w95 =>
  (app Tryz.prog [30, 30] 30 (.slice x10 x10n x10c) (.slice (some p94) 1 1) w95 fun a96 a96n a96c w97 =>
  ∃ (x98 : Option Addr) (x98n : Nat) (x98c : Nat), World.cell? w97 (p11.add 1) = some (.slice x98 x98n x98c) ∧ (dr t2_3 fun p99 =>
  (app Tryz.prog [22, 22] 22 (.slice x98 x98n x98c) (.slice (some p92) 1 1) w97 fun a100 a100n a100c w101 =>
  (stL w101 (p99.add 0) 0 [.slice a96 a96n a96c] fun w102 =>
  dr t2_3 fun p103 =>
  (stL w102 (p103.add 1) 0 [.slice a100 a100n a100c] fun w104 =>
  K4 w104) ∧ True) ∧ True) ∧ True)) ∧ True) ∧ True) ∧ True))
set_option maxRecDepth 100000 in
theorem e_split_Build_1 (parent_1 : Int) (name_2 : List UInt8) (t2_3 : Option Addr) (R : Ending → World → Prop) (w : World) : fnV Tryz.prog Tryz.f21 an_split_Build_1 [.int .i64 parent_1, .string ⟨⟨name_2⟩⟩, .pointer t2_3] R w = sh_split_Build_1 parent_1 name_2 t2_3 R w := by kernel_rfl
theorem c_split_Build_1 {parent_1 : Int} {name_2 : List UInt8} {t2_3 : Option Addr} {R : Ending → World → Prop} {w : World} (h : sh_split_Build_1 parent_1 name_2 t2_3 R w) : Calls Tryz.prog F_split_Build_1 ⟨[.int .i64 parent_1, .string ⟨⟨name_2⟩⟩, .pointer t2_3]⟩ w R := calls_of_fnV Tryz.func21 (by rw [e_split_Build_1]; exact h)

def an_phylotree_Canonical : Ann := .two (.leaf) (.two (.two (.leaf) (.two (.two (.leaf) (.leaf)) (.leaf))) (.two (.leaf) (.leaf)))
def sh_phylotree_Canonical (t_1 : Option Addr) (t_1n : Nat) (t_1c : Nat) (t_2 : Option Addr) (t_2n : Nat) (t_2c : Nat) (R : Ending → World → Prop) (w : World) : Prop :=
  al w 37 [.slice t_1 t_1n t_1c, .slice t_2 t_2n t_2c] fun p3 w4 =>
  al w4 37 [.slice none 0 0, .slice none 0 0] fun p5 w6 =>
  ∃ (x7 : Option Addr) (x7n : Nat) (x7c : Nat), World.cell? w6 (p3.add 0) = some (.slice x7 x7n x7c) ∧ (∃ (x8 : Option Addr) (x8n : Nat) (x8c : Nat), World.cell? w6 (p3.add 1) = some (.slice x8 x8n x8c) ∧ (Calls Tryz.prog 33 ⟨[.agg ⟨[.slice x7 x7n x7c, .slice x8 x8n x8c]⟩]⟩ w6 fun (e9 : Ending) (w10 : World) =>
  ∃ (x11 : Int), e9 = .returned (.int .i64 x11) ∧ (br (decide ((x11 : Int) ≠ 0)) (stL w10 p5 0 [.slice none 0 0, .slice none 0 0] fun w12 =>
  ∃ (x13 : Option Addr) (x13n : Nat) (x13c : Nat), World.cell? w12 (p5.add 0) = some (.slice x13 x13n x13c) ∧ (∃ (x14 : Option Addr) (x14n : Nat) (x14c : Nat), World.cell? w12 (p5.add 1) = some (.slice x14 x14n x14c) ∧ (R (.returned (.tuple ⟨[.agg ⟨[.slice x13 x13n x13c, .slice x14 x14n x14c]⟩, .int .i64 1]⟩)) w12))) (∃ (x15 : Option Addr) (x15n : Nat) (x15c : Nat), World.cell? w10 (p3.add 0) = some (.slice x15 x15n x15c) ∧ (∃ (x16 : Option Addr) (x16n : Nat) (x16c : Nat), World.cell? w10 (p3.add 1) = some (.slice x16 x16n x16c) ∧ (Calls Tryz.prog 43 ⟨[.agg ⟨[.slice x15 x15n x15c, .slice x16 x16n x16c]⟩]⟩ w10 fun (e17 : Ending) (w18 : World) =>
  ∃ (x19 : Option Addr) (x19n : Nat) (x19c : Nat) (x20 : Option Addr) (x20n : Nat) (x20c : Nat), e17 = .returned (.agg ⟨[.slice x19 x19n x19c, .slice x20 x20n x20c]⟩) ∧ (stL w18 p5 0 [.slice x19 x19n x19c, .slice x20 x20n x20c] fun w21 =>
  ∃ (x22 : Option Addr) (x22n : Nat) (x22c : Nat), World.cell? w21 (p5.add 0) = some (.slice x22 x22n x22c) ∧ (∃ (x23 : Option Addr) (x23n : Nat) (x23c : Nat), World.cell? w21 (p5.add 1) = some (.slice x23 x23n x23c) ∧ (R (.returned (.tuple ⟨[.agg ⟨[.slice x22 x22n x22c, .slice x23 x23n x23c]⟩, .int .i64 0]⟩)) w21)))))))))
set_option maxRecDepth 100000 in
theorem e_phylotree_Canonical (t_1 : Option Addr) (t_1n : Nat) (t_1c : Nat) (t_2 : Option Addr) (t_2n : Nat) (t_2c : Nat) (R : Ending → World → Prop) (w : World) : fnV Tryz.prog Tryz.f22 an_phylotree_Canonical [.agg ⟨[.slice t_1 t_1n t_1c, .slice t_2 t_2n t_2c]⟩] R w = sh_phylotree_Canonical t_1 t_1n t_1c t_2 t_2n t_2c R w := by kernel_rfl
theorem c_phylotree_Canonical {t_1 : Option Addr} {t_1n : Nat} {t_1c : Nat} {t_2 : Option Addr} {t_2n : Nat} {t_2c : Nat} {R : Ending → World → Prop} {w : World} (h : sh_phylotree_Canonical t_1 t_1n t_1c t_2 t_2n t_2c R w) : Calls Tryz.prog F_phylotree_Canonical ⟨[.agg ⟨[.slice t_1 t_1n t_1c, .slice t_2 t_2n t_2c]⟩]⟩ w R := calls_of_fnV Tryz.func22 (by rw [e_phylotree_Canonical]; exact h)

def an_slices_Clone_of_int_int : Ann := .two (.leaf) (.two (.two (.leaf) (.two (.two (.leaf) (.leaf)) (.leaf))) (.two (.leaf) (.leaf)))
def sh_slices_Clone_of_int_int (s_1 : Option Addr) (s_1n : Nat) (s_1c : Nat) (R : Ending → World → Prop) (w : World) : Prop :=
  br (Option.isNone s_1) (R (.returned (.slice none 0 0)) w) (al w 30 [] fun p2 w3 =>
  app Tryz.prog [29, 29] 29 (.slice (some p2) 0 0) (.slice s_1 s_1n s_1c) w3 fun a4 a4n a4c w5 =>
  R (.returned (.slice a4 a4n a4c)) w5)
set_option maxRecDepth 100000 in
theorem e_slices_Clone_of_int_int (s_1 : Option Addr) (s_1n : Nat) (s_1c : Nat) (R : Ending → World → Prop) (w : World) : fnV Tryz.prog Tryz.f23 an_slices_Clone_of_int_int [.slice s_1 s_1n s_1c] R w = sh_slices_Clone_of_int_int s_1 s_1n s_1c R w := by kernel_rfl
theorem c_slices_Clone_of_int_int {s_1 : Option Addr} {s_1n : Nat} {s_1c : Nat} {R : Ending → World → Prop} {w : World} (h : sh_slices_Clone_of_int_int s_1 s_1n s_1c R w) : Calls Tryz.prog F_slices_Clone_of_int_int ⟨[.slice s_1 s_1n s_1c]⟩ w R := calls_of_fnV Tryz.func23 (by rw [e_slices_Clone_of_int_int]; exact h)

def an_slices_SortFunc_of_int_int : Ann := .two (.leaf) (.leaf)
def sh_slices_SortFunc_of_int_int (x_1 : Option Addr) (x_1n : Nat) (x_1c : Nat) (cmp_2 : Fn) (cmp_2a : Array Value) (cmp_2b : Array Value) (R : Ending → World → Prop) (w : World) : Prop :=
  Calls Tryz.prog 45 ⟨[.int .u64 (IntKind.u64.wrap ((x_1n : Int)))]⟩ w fun (e3 : Ending) (w4 : World) =>
  ∃ (x5 : Int), e3 = .returned (.int .i64 x5) ∧ (Calls Tryz.prog 44 ⟨[.slice x_1 x_1n x_1c, .int .i64 0, .int .i64 ((x_1n : Int)), .int .i64 x5, .func cmp_2 cmp_2a cmp_2b]⟩ w4 fun (e6 : Ending) (w7 : World) =>
  e6 = .returned (.tuple ⟨[]⟩) ∧ (R (.returned (.tuple ⟨[]⟩)) w7))
set_option maxRecDepth 100000 in
theorem e_slices_SortFunc_of_int_int (x_1 : Option Addr) (x_1n : Nat) (x_1c : Nat) (cmp_2 : Fn) (cmp_2a : Array Value) (cmp_2b : Array Value) (R : Ending → World → Prop) (w : World) : fnV Tryz.prog Tryz.f24 an_slices_SortFunc_of_int_int [.slice x_1 x_1n x_1c, .func cmp_2 cmp_2a cmp_2b] R w = sh_slices_SortFunc_of_int_int x_1 x_1n x_1c cmp_2 cmp_2a cmp_2b R w := by kernel_rfl
theorem c_slices_SortFunc_of_int_int {x_1 : Option Addr} {x_1n : Nat} {x_1c : Nat} {cmp_2 : Fn} {cmp_2a : Array Value} {cmp_2b : Array Value} {R : Ending → World → Prop} {w : World} (h : sh_slices_SortFunc_of_int_int x_1 x_1n x_1c cmp_2 cmp_2a cmp_2b R w) : Calls Tryz.prog F_slices_SortFunc_of_int_int ⟨[.slice x_1 x_1n x_1c, .func cmp_2 cmp_2a cmp_2b]⟩ w R := calls_of_fnV Tryz.func24 (by rw [e_slices_SortFunc_of_int_int]; exact h)

def an_split_Build_2 : Ann := .two (.leaf) (.two (.leaf) (.leaf))
def sh_split_Build_2 (a_1 : Option Addr) (a_1n : Nat) (a_1c : Nat) (b_2 : Option Addr) (b_2n : Nat) (b_2c : Nat) (R : Ending → World → Prop) (w : World) : Prop :=
  Calls Tryz.prog 27 ⟨[.int .i64 ((b_2n : Int)), .int .i64 ((a_1n : Int))]⟩ w fun (e3 : Ending) (w4 : World) =>
  ∃ (x5 : Int), e3 = .returned (.int .i64 x5) ∧ (Calls Tryz.prog 28 ⟨[.slice a_1 a_1n a_1c, .slice b_2 b_2n b_2c]⟩ w4 fun (e6 : Ending) (w7 : World) =>
  ∃ (x8 : Int), e6 = .returned (.int .i64 x8) ∧ (al w7 3 [.int .i64 x5, .int .i64 x8] fun p9 w10 =>
  Calls Tryz.prog 26 ⟨[.slice (some p9) 2 2]⟩ w10 fun (e11 : Ending) (w12 : World) =>
  ∃ (x13 : Int), e11 = .returned (.int .i64 x13) ∧ (R (.returned (.int .i64 x13)) w12)))
set_option maxRecDepth 100000 in
theorem e_split_Build_2 (a_1 : Option Addr) (a_1n : Nat) (a_1c : Nat) (b_2 : Option Addr) (b_2n : Nat) (b_2c : Nat) (R : Ending → World → Prop) (w : World) : fnV Tryz.prog Tryz.f25 an_split_Build_2 [.slice a_1 a_1n a_1c, .slice b_2 b_2n b_2c] R w = sh_split_Build_2 a_1 a_1n a_1c b_2 b_2n b_2c R w := by kernel_rfl
theorem c_split_Build_2 {a_1 : Option Addr} {a_1n : Nat} {a_1c : Nat} {b_2 : Option Addr} {b_2n : Nat} {b_2c : Nat} {R : Ending → World → Prop} {w : World} (h : sh_split_Build_2 a_1 a_1n a_1c b_2 b_2n b_2c R w) : Calls Tryz.prog F_split_Build_2 ⟨[.slice a_1 a_1n a_1c, .slice b_2 b_2n b_2c]⟩ w R := calls_of_fnV Tryz.func25 (by rw [e_split_Build_2]; exact h)

def an_cmp_Or_of_int : Ann := .two (.leaf) (.two (.leaf) (.two (.two (.leaf) (.one (.loop 130852 [(8, .one (.int .i64))] (.two (.leaf) (.two (.two (.leaf) (.leaf)) (.two (.one (.two (.leaf) (.two (.leaf) (.two (.two (.leaf) (.leaf)) (.leaf))))) (.leaf))))))) (.two (.leaf) (.leaf))))
def sh_cmp_Or_of_int (vals_1 : Option Addr) (vals_1n : Nat) (vals_1c : Nat) (R : Ending → World → Prop) (w : World) : Prop :=
  ∃ (I2 : Int → World → Nat → Prop), (∃ m6 : Nat, I2 0 w m6) ∧ ∀ (t8_3 : Int) (w4 : World) (m5 : Nat), I2 t8_3 w4 m5 → ∀ _ : Env, (br (decide ((t8_3 : Int) < ((vals_1n : Int)))) (idx vals_1 vals_1n t8_3 1 fun p7 =>
  ∃ (x8 : Int), World.cell? w4 p7 = some (.int .i64 x8) ∧ (br (decide ((x8 : Int) ≠ 0)) (R (.returned (.int .i64 x8)) w4) (∃ m9 : Nat, m9 < m5 ∧ I2 (IntKind.i64.wrap (t8_3 + 1)) w4 m9))) (R (.returned (.int .i64 0)) w4))
set_option maxRecDepth 100000 in
theorem e_cmp_Or_of_int (vals_1 : Option Addr) (vals_1n : Nat) (vals_1c : Nat) (R : Ending → World → Prop) (w : World) : fnV Tryz.prog Tryz.f26 an_cmp_Or_of_int [.slice vals_1 vals_1n vals_1c] R w = sh_cmp_Or_of_int vals_1 vals_1n vals_1c R w := by kernel_rfl
theorem c_cmp_Or_of_int {vals_1 : Option Addr} {vals_1n : Nat} {vals_1c : Nat} {R : Ending → World → Prop} {w : World} (h : sh_cmp_Or_of_int vals_1 vals_1n vals_1c R w) : Calls Tryz.prog F_cmp_Or_of_int ⟨[.slice vals_1 vals_1n vals_1c]⟩ w R := calls_of_fnV Tryz.func26 (by rw [e_cmp_Or_of_int]; exact h)

def an_cmp_Compare_of_int : Ann := .two (.leaf) (.two (.leaf) (.two (.leaf) (.two (.two (.leaf) (.two (.two (.two (.leaf) (.two (.two (.leaf) (.leaf)) (.leaf))) (.two (.leaf) (.leaf))) (.leaf))) (.two (.two (.leaf) (.two (.two (.leaf) (.leaf)) (.leaf))) (.two (.two (.leaf) (.two (.two (.leaf) (.leaf)) (.leaf))) (.two (.two (.leaf) (.two (.two (.leaf) (.leaf)) (.leaf))) (.two (.leaf) (.leaf))))))))
def sh_cmp_Compare_of_int (x_1 : Int) (y_2 : Int) (R : Ending → World → Prop) (w : World) : Prop :=
  Calls Tryz.prog 46 ⟨[.int .i64 x_1]⟩ w fun (e3 : Ending) (w4 : World) =>
  ∃ (x5 : Bool), e3 = .returned (.bool x5) ∧ (Calls Tryz.prog 46 ⟨[.int .i64 y_2]⟩ w4 fun (e6 : Ending) (w7 : World) =>
  ∃ (x8 : Bool), e6 = .returned (.bool x8) ∧ (br x5 (br x8 (R (.returned (.int .i64 0)) w7) (R (.returned (.int .i64 ((-1)))) w7)) (br x8 (R (.returned (.int .i64 1)) w7) (br (decide ((x_1 : Int) < y_2)) (R (.returned (.int .i64 ((-1)))) w7) (br (decide ((y_2 : Int) < x_1)) (R (.returned (.int .i64 1)) w7) (R (.returned (.int .i64 0)) w7))))))
set_option maxRecDepth 100000 in
theorem e_cmp_Compare_of_int (x_1 : Int) (y_2 : Int) (R : Ending → World → Prop) (w : World) : fnV Tryz.prog Tryz.f27 an_cmp_Compare_of_int [.int .i64 x_1, .int .i64 y_2] R w = sh_cmp_Compare_of_int x_1 y_2 R w := by kernel_rfl
theorem c_cmp_Compare_of_int {x_1 : Int} {y_2 : Int} {R : Ending → World → Prop} {w : World} (h : sh_cmp_Compare_of_int x_1 y_2 R w) : Calls Tryz.prog F_cmp_Compare_of_int ⟨[.int .i64 x_1, .int .i64 y_2]⟩ w R := calls_of_fnV Tryz.func27 (by rw [e_cmp_Compare_of_int]; exact h)

def an_slices_Compare_of_int_int : Ann := .two (.leaf) (.two (.two (.leaf) (.one (.loop 2147482096 [(11, .one (.int .i64))] (.two (.leaf) (.two (.two (.leaf) (.leaf)) (.two (.one (.two (.leaf) (.two (.two (.leaf) (.two (.two (.leaf) (.leaf)) (.leaf))) (.two (.leaf) (.two (.leaf) (.two (.leaf) (.two (.two (.leaf) (.leaf)) (.leaf)))))))) (.leaf))))))) (.two (.two (.leaf) (.two (.two (.leaf) (.leaf)) (.leaf))) (.two (.leaf) (.leaf))))
def sh_slices_Compare_of_int_int (s1_1 : Option Addr) (s1_1n : Nat) (s1_1c : Nat) (s2_2 : Option Addr) (s2_2n : Nat) (s2_2c : Nat) (R : Ending → World → Prop) (w : World) : Prop :=
  ∃ (I3 : Int → World → Nat → Prop), (∃ m7 : Nat, I3 0 w m7) ∧ ∀ (t11_4 : Int) (w5 : World) (m6 : Nat), I3 t11_4 w5 m6 → ∀ _ : Env, (br (decide ((t11_4 : Int) < ((s1_1n : Int)))) (idx s1_1 s1_1n t11_4 1 fun p8 =>
  ∃ (x9 : Int), World.cell? w5 p8 = some (.int .i64 x9) ∧ (br (decide ((((s2_2n : Int)) : Int) ≤ t11_4)) (R (.returned (.int .i64 1)) w5) (idx s2_2 s2_2n t11_4 1 fun p10 =>
  ∃ (x11 : Int), World.cell? w5 p10 = some (.int .i64 x11) ∧ (Calls Tryz.prog 27 ⟨[.int .i64 x9, .int .i64 x11]⟩ w5 fun (e12 : Ending) (w13 : World) =>
  ∃ (x14 : Int), e12 = .returned (.int .i64 x14) ∧ (br (decide ((x14 : Int) ≠ 0)) (R (.returned (.int .i64 x14)) w13) (∃ m15 : Nat, m15 < m6 ∧ I3 (IntKind.i64.wrap (t11_4 + 1)) w13 m15)))))) (br (decide ((((s1_1n : Int)) : Int) < ((s2_2n : Int)))) (R (.returned (.int .i64 ((-1)))) w5) (R (.returned (.int .i64 0)) w5)))
set_option maxRecDepth 100000 in
theorem e_slices_Compare_of_int_int (s1_1 : Option Addr) (s1_1n : Nat) (s1_1c : Nat) (s2_2 : Option Addr) (s2_2n : Nat) (s2_2c : Nat) (R : Ending → World → Prop) (w : World) : fnV Tryz.prog Tryz.f28 an_slices_Compare_of_int_int [.slice s1_1 s1_1n s1_1c, .slice s2_2 s2_2n s2_2c] R w = sh_slices_Compare_of_int_int s1_1 s1_1n s1_1c s2_2 s2_2n s2_2c R w := by kernel_rfl
theorem c_slices_Compare_of_int_int {s1_1 : Option Addr} {s1_1n : Nat} {s1_1c : Nat} {s2_2 : Option Addr} {s2_2n : Nat} {s2_2c : Nat} {R : Ending → World → Prop} {w : World} (h : sh_slices_Compare_of_int_int s1_1 s1_1n s1_1c s2_2 s2_2n s2_2c R w) : Calls Tryz.prog F_slices_Compare_of_int_int ⟨[.slice s1_1 s1_1n s1_1c, .slice s2_2 s2_2n s2_2c]⟩ w R := calls_of_fnV Tryz.func28 (by rw [e_slices_Compare_of_int_int]; exact h)

def an_slices_CompactFunc_of_int_int : Ann := .two (.leaf) (.two (.two (.leaf) (.two (.two (.leaf) (.leaf)) (.leaf))) (.two (.two (.leaf) (.one (.loop 36893488147419099376 [(5, .one (.int .i64))] (.two (.two (.leaf) (.two (.leaf) (.leaf))) (.two (.one (.two (.leaf) (.two (.two (.leaf) (.two (.two (.leaf) (.one (.loop 576460748008456352 [(5, .one (.int .i64)), (7, .one (.int .i64))] (.two (.two (.leaf) (.two (.leaf) (.leaf))) (.two (.one (.two (.leaf) (.two (.two (.leaf) (.leaf)) (.leaf)))) (.leaf)))))) (.two (.leaf) (.two (.leaf) (.leaf))))) (.leaf)))) (.leaf)))))) (.two (.leaf) (.leaf))))
def sh_slices_CompactFunc_of_int_int (s_1 : Option Addr) (s_1n : Nat) (s_1c : Nat) (eq_2 : Fn) (eq_2a : Array Value) (eq_2b : Array Value) (R : Ending → World → Prop) (w : World) : Prop :=
  br (decide ((((s_1n : Int)) : Int) < 2)) (R (.returned (.slice s_1 s_1n s_1c)) w) (∃ (I3 : Int → World → Nat → Prop), (∃ m7 : Nat, I3 1 w m7) ∧ ∀ (k_4 : Int) (w5 : World) (m6 : Nat), I3 k_4 w5 m6 → ∀ _ : Env, (br (decide ((k_4 : Int) < ((s_1n : Int)))) (drw w5 fun w8 =>
  idx s_1 s_1n k_4 1 fun p9 =>
  ∃ (x10 : Option Addr) (x10n : Nat) (x10c : Nat), World.cell? w8 p9 = some (.slice x10 x10n x10c) ∧ (idx s_1 s_1n (IntKind.i64.wrap (k_4 - 1)) 1 fun p11 =>
  ∃ (x12 : Option Addr) (x12n : Nat) (x12c : Nat), World.cell? w8 p11 = some (.slice x12 x12n x12c) ∧ ((CallV Tryz.prog (.func eq_2 eq_2a eq_2b) [.slice x10 x10n x10c, .slice x12 x12n x12c] w8 fun (e13 : Ending) (w14 : World) =>
  ∃ (x15 : Bool), e13 = .returned (.bool x15) ∧ (br x15 (sls s_1 s_1c k_4 (s_1n : Int) 1 fun a16 a16n a16c =>
  ∃ (I17 : Int → Int → World → Nat → Prop), (∃ m22 : Nat, I17 k_4 1 w14 m22) ∧ ∀ (k_18 : Int) (k2_19 : Int) (w20 : World) (m21 : Nat), I17 k_18 k2_19 w20 m21 → ∀ _ : Env, (br (decide ((k2_19 : Int) < ((a16n : Int)))) (drw w20 fun w23 =>
  idx a16 a16n k2_19 1 fun p24 =>
  ∃ (x25 : Option Addr) (x25n : Nat) (x25c : Nat), World.cell? w23 p24 = some (.slice x25 x25n x25c) ∧ (idx a16 a16n (IntKind.i64.wrap (k2_19 - 1)) 1 fun p26 =>
  ∃ (x27 : Option Addr) (x27n : Nat) (x27c : Nat), World.cell? w23 p26 = some (.slice x27 x27n x27c) ∧ ((CallV Tryz.prog (.func eq_2 eq_2a eq_2b) [.slice x25 x25n x25c, .slice x27 x27n x27c] w23 fun (e28 : Ending) (w29 : World) =>
  ∃ (x30 : Bool), e28 = .returned (.bool x30) ∧ (br (!x30) (idx a16 a16n k2_19 1 fun p31 =>
  ∃ (x32 : Option Addr) (x32n : Nat) (x32c : Nat), World.cell? w29 p31 = some (.slice x32 x32n x32c) ∧ (idx s_1 s_1n k_18 1 fun p33 =>
  stL w29 p33 0 [.slice x32 x32n x32c] fun w34 =>
  ∃ m35 : Nat, m35 < m21 ∧ I17 (IntKind.i64.wrap (k_18 + 1)) (IntKind.i64.wrap (k2_19 + 1)) w34 m35)) (∃ m36 : Nat, m36 < m21 ∧ I17 k_18 (IntKind.i64.wrap (k2_19 + 1)) w29 m36))) ∧ True))) (sls s_1 s_1c k_18 (s_1n : Int) 1 fun a37 a37n a37c =>
  clr Tryz.prog [29] 0 [.slice a37 a37n a37c] w20 fun w38 =>
  sls s_1 s_1c 0 k_18 1 fun a39 a39n a39c =>
  R (.returned (.slice a39 a39n a39c)) w38))) (∃ m40 : Nat, m40 < m6 ∧ I3 (IntKind.i64.wrap (k_4 + 1)) w14 m40))) ∧ True))) (R (.returned (.slice s_1 s_1n s_1c)) w5)))
set_option maxRecDepth 100000 in
theorem e_slices_CompactFunc_of_int_int (s_1 : Option Addr) (s_1n : Nat) (s_1c : Nat) (eq_2 : Fn) (eq_2a : Array Value) (eq_2b : Array Value) (R : Ending → World → Prop) (w : World) : fnV Tryz.prog Tryz.f29 an_slices_CompactFunc_of_int_int [.slice s_1 s_1n s_1c, .func eq_2 eq_2a eq_2b] R w = sh_slices_CompactFunc_of_int_int s_1 s_1n s_1c eq_2 eq_2a eq_2b R w := by kernel_rfl
theorem c_slices_CompactFunc_of_int_int {s_1 : Option Addr} {s_1n : Nat} {s_1c : Nat} {eq_2 : Fn} {eq_2a : Array Value} {eq_2b : Array Value} {R : Ending → World → Prop} {w : World} (h : sh_slices_CompactFunc_of_int_int s_1 s_1n s_1c eq_2 eq_2a eq_2b R w) : Calls Tryz.prog F_slices_CompactFunc_of_int_int ⟨[.slice s_1 s_1n s_1c, .func eq_2 eq_2a eq_2b]⟩ w R := calls_of_fnV Tryz.func29 (by rw [e_slices_CompactFunc_of_int_int]; exact h)

def an_slices_Equal_of_int_int : Ann := .two (.leaf) (.two (.two (.leaf) (.two (.two (.leaf) (.leaf)) (.leaf))) (.two (.two (.leaf) (.one (.loop 67100720 [(13, .one (.int .i64))] (.two (.leaf) (.two (.two (.leaf) (.leaf)) (.two (.one (.two (.leaf) (.two (.leaf) (.two (.two (.leaf) (.leaf)) (.leaf))))) (.leaf))))))) (.two (.leaf) (.leaf))))
def sh_slices_Equal_of_int_int (s1_1 : Option Addr) (s1_1n : Nat) (s1_1c : Nat) (s2_2 : Option Addr) (s2_2n : Nat) (s2_2c : Nat) (R : Ending → World → Prop) (w : World) : Prop :=
  br (decide ((((s1_1n : Int)) : Int) ≠ ((s2_2n : Int)))) (R (.returned (.bool false)) w) (∃ (I3 : Int → World → Nat → Prop), (∃ m7 : Nat, I3 0 w m7) ∧ ∀ (t13_4 : Int) (w5 : World) (m6 : Nat), I3 t13_4 w5 m6 → ∀ _ : Env, (br (decide ((t13_4 : Int) < ((s1_1n : Int)))) (drw w5 fun w8 =>
  idx s1_1 s1_1n t13_4 1 fun p9 =>
  ∃ (x10 : Int), World.cell? w8 p9 = some (.int .i64 x10) ∧ (idx s2_2 s2_2n t13_4 1 fun p11 =>
  ∃ (x12 : Int), World.cell? w8 p11 = some (.int .i64 x12) ∧ (br (decide ((x10 : Int) ≠ x12)) (R (.returned (.bool false)) w8) (∃ m13 : Nat, m13 < m6 ∧ I3 (IntKind.i64.wrap (t13_4 + 1)) w8 m13)))) (R (.returned (.bool true)) w5)))
set_option maxRecDepth 100000 in
theorem e_slices_Equal_of_int_int (s1_1 : Option Addr) (s1_1n : Nat) (s1_1c : Nat) (s2_2 : Option Addr) (s2_2n : Nat) (s2_2c : Nat) (R : Ending → World → Prop) (w : World) : fnV Tryz.prog Tryz.f30 an_slices_Equal_of_int_int [.slice s1_1 s1_1n s1_1c, .slice s2_2 s2_2n s2_2c] R w = sh_slices_Equal_of_int_int s1_1 s1_1n s1_1c s2_2 s2_2n s2_2c R w := by kernel_rfl
theorem c_slices_Equal_of_int_int {s1_1 : Option Addr} {s1_1n : Nat} {s1_1c : Nat} {s2_2 : Option Addr} {s2_2n : Nat} {s2_2c : Nat} {R : Ending → World → Prop} {w : World} (h : sh_slices_Equal_of_int_int s1_1 s1_1n s1_1c s2_2 s2_2n s2_2c R w) : Calls Tryz.prog F_slices_Equal_of_int_int ⟨[.slice s1_1 s1_1n s1_1c, .slice s2_2 s2_2n s2_2c]⟩ w R := calls_of_fnV Tryz.func30 (by rw [e_slices_Equal_of_int_int]; exact h)

def an_split_Build_3 : Ann := .two (.leaf) (.two (.two (.leaf) (.one (.loop 33552768 [(8, .one (.int .i64))] (.two (.two (.leaf) (.two (.leaf) (.leaf))) (.two (.one (.two (.leaf) (.two (.two (.leaf) (.leaf)) (.leaf)))) (.leaf)))))) (.two (.leaf) (.leaf)))
def sh_split_Build_3 (leaf_1 : Int) (before_2 : Int) (t2_3 : Option Addr) (t3_4 : Option Addr) (t4_5 : Option Addr) (R : Ending → World → Prop) (w : World) : Prop :=
  ∃ (I6 : Int → World → Nat → Prop), (∃ m10 : Nat, I6 (IntKind.i64.wrap (before_2 - 1)) w m10) ∧ ∀ (k_7 : Int) (w8 : World) (m9 : Nat), I6 k_7 w8 m9 → ∀ _ : Env, (br (decide ((0 : Int) ≤ k_7)) (dr t2_3 fun p11 =>
  ∃ (x12 : Option Addr) (x12n : Nat) (x12c : Nat), World.cell? w8 p11 = some (.slice x12 x12n x12c) ∧ (idx x12 x12n k_7 1 fun p13 =>
  ∃ (x14 : Option Addr) (x14n : Nat) (x14c : Nat), World.cell? w8 p13 = some (.slice x14 x14n x14c) ∧ (Calls Tryz.prog 32 ⟨[.slice x14 x14n x14c, .int .i64 leaf_1]⟩ w8 fun (e15 : Ending) (w16 : World) =>
  ∃ (x17 : Bool), e15 = .returned (.bool x17) ∧ (br x17 (dr t3_4 fun p18 =>
  ∃ (x19 : Option Addr) (x19n : Nat) (x19c : Nat), World.cell? w16 p18 = some (.slice x19 x19n x19c) ∧ (idx x19 x19n k_7 1 fun p20 =>
  ∃ (x21 : Int), World.cell? w16 p20 = some (.int .i64 x21) ∧ (R (.returned (.int .i64 x21)) w16))) (∃ m22 : Nat, m22 < m9 ∧ I6 (IntKind.i64.wrap (k_7 - 1)) w16 m22))))) (dr t4_5 fun p23 =>
  ∃ (x24 : Int), World.cell? w8 p23 = some (.int .i64 x24) ∧ (R (.returned (.int .i64 x24)) w8)))
set_option maxRecDepth 100000 in
theorem e_split_Build_3 (leaf_1 : Int) (before_2 : Int) (t2_3 : Option Addr) (t3_4 : Option Addr) (t4_5 : Option Addr) (R : Ending → World → Prop) (w : World) : fnV Tryz.prog Tryz.f31 an_split_Build_3 [.int .i64 leaf_1, .int .i64 before_2, .pointer t2_3, .pointer t3_4, .pointer t4_5] R w = sh_split_Build_3 leaf_1 before_2 t2_3 t3_4 t4_5 R w := by kernel_rfl
theorem c_split_Build_3 {leaf_1 : Int} {before_2 : Int} {t2_3 : Option Addr} {t3_4 : Option Addr} {t4_5 : Option Addr} {R : Ending → World → Prop} {w : World} (h : sh_split_Build_3 leaf_1 before_2 t2_3 t3_4 t4_5 R w) : Calls Tryz.prog F_split_Build_3 ⟨[.int .i64 leaf_1, .int .i64 before_2, .pointer t2_3, .pointer t3_4, .pointer t4_5]⟩ w R := calls_of_fnV Tryz.func31 (by rw [e_split_Build_3]; exact h)

def an_slices_Contains_of_int_int : Ann := .two (.leaf) (.two (.leaf) (.leaf))
def sh_slices_Contains_of_int_int (s_1 : Option Addr) (s_1n : Nat) (s_1c : Nat) (v_2 : Int) (R : Ending → World → Prop) (w : World) : Prop :=
  Calls Tryz.prog 47 ⟨[.slice s_1 s_1n s_1c, .int .i64 v_2]⟩ w fun (e3 : Ending) (w4 : World) =>
  ∃ (x5 : Int), e3 = .returned (.int .i64 x5) ∧ (R (.returned (.bool (decide ((0 : Int) ≤ x5)))) w4)
set_option maxRecDepth 100000 in
theorem e_slices_Contains_of_int_int (s_1 : Option Addr) (s_1n : Nat) (s_1c : Nat) (v_2 : Int) (R : Ending → World → Prop) (w : World) : fnV Tryz.prog Tryz.f32 an_slices_Contains_of_int_int [.slice s_1 s_1n s_1c, .int .i64 v_2] R w = sh_slices_Contains_of_int_int s_1 s_1n s_1c v_2 R w := by kernel_rfl
theorem c_slices_Contains_of_int_int {s_1 : Option Addr} {s_1n : Nat} {s_1c : Nat} {v_2 : Int} {R : Ending → World → Prop} {w : World} (h : sh_slices_Contains_of_int_int s_1 s_1n s_1c v_2 R w) : Calls Tryz.prog F_slices_Contains_of_int_int ⟨[.slice s_1 s_1n s_1c, .int .i64 v_2]⟩ w R := calls_of_fnV Tryz.func32 (by rw [e_slices_Contains_of_int_int]; exact h)

def an_phylotree_Check : Ann := .two (.leaf) (.two (.one (.two (.leaf) (.two (.two (.leaf) (.leaf)) (.two (.leaf) (.two (.two (.leaf) (.leaf)) (.two (.leaf) (.two (.two (.leaf) (.leaf)) (.leaf)))))))) (.two (.leaf) (.two (.two (.leaf) (.one (.loop 9223372028264841268 [(33, .one (.int .i64))] (.two (.leaf) (.two (.two (.leaf) (.leaf)) (.two (.one (.two (.leaf) (.cut 144114913197948932 [] (.two (.leaf) (.two (.two (.leaf) (.leaf)) (.leaf))) (.two (.leaf) (.two (.leaf) (.leaf)))))) (.leaf))))))) (.two (.two (.leaf) (.one (.loop 316912649983270374079337595076 [(66, .one (.int .i64))] (.two (.leaf) (.two (.two (.leaf) (.leaf)) (.two (.one (.two (.leaf) (.one (.cut 1206564636373194352099328 [(71, .one (.bool))] (.leaf) (.two (.leaf) (.cut 1236731113465765645724418048 [(80, .one (.bool))] (.leaf) (.two (.two (.leaf) (.leaf)) (.two (.leaf) (.two (.two (.leaf) (.leaf)) (.leaf)))))))))) (.leaf))))))) (.two (.leaf) (.leaf))))))
def sh_phylotree_Check (t_1 : Option Addr) (t_1n : Nat) (t_1c : Nat) (t_2 : Option Addr) (t_2n : Nat) (t_2c : Nat) (R : Ending → World → Prop) (w : World) : Prop :=
  al w 37 [.slice t_1 t_1n t_1c, .slice t_2 t_2n t_2c] fun p3 w4 =>
  ∃ (x5 : Option Addr) (x5n : Nat) (x5c : Nat), World.cell? w4 (p3.add 0) = some (.slice x5 x5n x5c) ∧ (br (decide ((((x5n : Int)) : Int) = 0)) (R (.returned (.int .i64 5)) w4) (∃ (x6 : Option Addr) (x6n : Nat) (x6c : Nat), World.cell? w4 (p3.add 0) = some (.slice x6 x6n x6c) ∧ (br (decide ((64 : Int) < ((x6n : Int)))) (R (.returned (.int .i64 4)) w4) (∃ (x7 : Option Addr) (x7n : Nat) (x7c : Nat), World.cell? w4 (p3.add 1) = some (.slice x7 x7n x7c) ∧ (∃ (x8 : Option Addr) (x8n : Nat) (x8c : Nat), World.cell? w4 (p3.add 0) = some (.slice x8 x8n x8c) ∧ (br (decide ((((x7n : Int)) : Int) ≠ ((x8n : Int)))) (R (.returned (.int .i64 9)) w4) (∃ (x9 : Option Addr) (x9n : Nat) (x9c : Nat), World.cell? w4 (p3.add 0) = some (.slice x9 x9n x9c) ∧ (mks w4 4 1 [.bool false] ((x9n : Int)) ((x9n : Int)) fun p10 w11 =>
  ∃ (x12 : Option Addr) (x12n : Nat) (x12c : Nat), World.cell? w11 (p3.add 0) = some (.slice x12 x12n x12c) ∧ (∃ (I13 : Int → World → Nat → Prop), (∃ m17 : Nat, I13 0 w11 m17) ∧ ∀ (t33_14 : Int) (w15 : World) (m16 : Nat), I13 t33_14 w15 m16 → ∀ _ : Env, (br (decide ((t33_14 : Int) < ((x12n : Int)))) (idx x12 x12n t33_14 1 fun p18 =>
  ∃ (x19 : Int), World.cell? w15 p18 = some (.int .i64 x19) ∧ (∀ (K20 : World → Prop), (∀  (w21 : World), (∀ _ : Env, (br (decide ((0 : Int) < t33_14)) (idx (some p10) (Int.toNat ((x9n : Int))) x19 1 fun p22 =>
  stL w21 p22 0 [.bool true] fun w23 =>
  ∃ m24 : Nat, m24 < m16 ∧ I13 (IntKind.i64.wrap (t33_14 + 1)) w23 m24) (∃ m25 : Nat, m25 < m16 ∧ I13 (IntKind.i64.wrap (t33_14 + 1)) w21 m25))) → K20 w21) → (br (decide ((t33_14 : Int) = 0)) (br (decide ((x19 : Int) ≠ ((-1)))) (R (.returned (.int .i64 2)) w15) (br (decide ((0 : Int) < t33_14)) (br (decide ((x19 : Int) < 0)) (R (.returned (.int .i64 2)) w15) (br (decide ((t33_14 : Int) ≤ x19)) (R (.returned (.int .i64 2)) w15) (K20 w15))) (K20 w15))) (br (decide ((0 : Int) < t33_14)) (br (decide ((x19 : Int) < 0)) (R (.returned (.int .i64 2)) w15) (br (decide ((t33_14 : Int) ≤ x19)) (R (.returned (.int .i64 2)) w15) (K20 w15))) (K20 w15))))) (∃ (x26 : Option Addr) (x26n : Nat) (x26c : Nat), World.cell? w15 (p3.add 1) = some (.slice x26 x26n x26c) ∧ (∃ (I27 : Int → World → Nat → Prop), (∃ m31 : Nat, I27 0 w15 m31) ∧ ∀ (t66_28 : Int) (w29 : World) (m30 : Nat), I27 t66_28 w29 m30 → ∀ _ : Env, (br (decide ((t66_28 : Int) < ((x26n : Int)))) (idx x26 x26n t66_28 1 fun p32 =>
  ∃ (x33 : List UInt8), World.cell? w29 p32 = some (.string ⟨⟨x33⟩⟩) ∧ (∀ (K34 : Bool → World → Prop), (∀ (t71_35 : Bool) (w36 : World), (∀ _ : Env, (br t71_35 (∃ m37 : Nat, m37 < m30 ∧ I27 (IntKind.i64.wrap (t66_28 + 1)) w36 m37) (∀ (K38 : Bool → World → Prop), (∀ (t80_39 : Bool) (w40 : World), (∀ _ : Env, (br t80_39 (R (.returned (.int .i64 14)) w40) (∃ (x41 : Option Addr) (x41n : Nat) (x41c : Nat), World.cell? w40 (p3.add 1) = some (.slice x41 x41n x41c) ∧ (sls x41 x41c 0 t66_28 1 fun a42 a42n a42c =>
  Calls Tryz.prog 18 ⟨[.slice a42 a42n a42c, .string ⟨⟨x33⟩⟩]⟩ w40 fun (e43 : Ending) (w44 : World) =>
  ∃ (x45 : Bool), e43 = .returned (.bool x45) ∧ (br x45 (R (.returned (.int .i64 7)) w44) (∃ m46 : Nat, m46 < m30 ∧ I27 (IntKind.i64.wrap (t66_28 + 1)) w44 m46)))))) → K38 t80_39 w40) → (idx (some p10) (Int.toNat ((x9n : Int))) t66_28 1 fun p47 =>
  ∃ (x48 : Bool), World.cell? w36 p47 = some (.bool x48) ∧ (br x48 (K38 true w36) (Calls Tryz.prog 48 ⟨[.string ⟨⟨x33⟩⟩]⟩ w36 fun (e49 : Ending) (w50 : World) =>
  ∃ (x51 : Bool), e49 = .returned (.bool x51) ∧ (K38 (!x51) w50))))))) → K34 t71_35 w36) → (idx (some p10) (Int.toNat ((x9n : Int))) t66_28 1 fun p52 =>
  ∃ (x53 : Bool), World.cell? w29 p52 = some (.bool x53) ∧ (br x53 (K34 (decide ((x33 : List UInt8) = ([]))) w29) (K34 false w29))))) (R (.returned (.int .i64 0)) w29))))))))))))))
set_option maxRecDepth 100000 in
theorem e_phylotree_Check (t_1 : Option Addr) (t_1n : Nat) (t_1c : Nat) (t_2 : Option Addr) (t_2n : Nat) (t_2c : Nat) (R : Ending → World → Prop) (w : World) : fnV Tryz.prog Tryz.f33 an_phylotree_Check [.agg ⟨[.slice t_1 t_1n t_1c, .slice t_2 t_2n t_2c]⟩] R w = sh_phylotree_Check t_1 t_1n t_1c t_2 t_2n t_2c R w := by kernel_rfl
theorem c_phylotree_Check {t_1 : Option Addr} {t_1n : Nat} {t_1c : Nat} {t_2 : Option Addr} {t_2n : Nat} {t_2c : Nat} {R : Ending → World → Prop} {w : World} (h : sh_phylotree_Check t_1 t_1n t_1c t_2 t_2n t_2c R w) : Calls Tryz.prog F_phylotree_Check ⟨[.agg ⟨[.slice t_1 t_1n t_1c, .slice t_2 t_2n t_2c]⟩]⟩ w R := calls_of_fnV Tryz.func33 (by rw [e_phylotree_Check]; exact h)

def an_slices_Index_of_bool_bool : Ann := .two (.leaf) (.two (.two (.leaf) (.one (.loop 524080 [(8, .one (.int .i64))] (.two (.leaf) (.two (.two (.leaf) (.leaf)) (.two (.one (.two (.leaf) (.two (.leaf) (.two (.two (.leaf) (.leaf)) (.leaf))))) (.leaf))))))) (.two (.leaf) (.leaf)))
def sh_slices_Index_of_bool_bool (s_1 : Option Addr) (s_1n : Nat) (s_1c : Nat) (v_2 : Bool) (R : Ending → World → Prop) (w : World) : Prop :=
  ∃ (I3 : Int → World → Nat → Prop), (∃ m7 : Nat, I3 0 w m7) ∧ ∀ (t8_4 : Int) (w5 : World) (m6 : Nat), I3 t8_4 w5 m6 → ∀ _ : Env, (br (decide ((t8_4 : Int) < ((s_1n : Int)))) (idx s_1 s_1n t8_4 1 fun p8 =>
  ∃ (x9 : Bool), World.cell? w5 p8 = some (.bool x9) ∧ (br (decide ((v_2 : Bool) = x9)) (R (.returned (.int .i64 t8_4)) w5) (∃ m10 : Nat, m10 < m6 ∧ I3 (IntKind.i64.wrap (t8_4 + 1)) w5 m10))) (R (.returned (.int .i64 ((-1)))) w5))
set_option maxRecDepth 100000 in
theorem e_slices_Index_of_bool_bool (s_1 : Option Addr) (s_1n : Nat) (s_1c : Nat) (v_2 : Bool) (R : Ending → World → Prop) (w : World) : fnV Tryz.prog Tryz.f34 an_slices_Index_of_bool_bool [.slice s_1 s_1n s_1c, .bool v_2] R w = sh_slices_Index_of_bool_bool s_1 s_1n s_1c v_2 R w := by kernel_rfl
theorem c_slices_Index_of_bool_bool {s_1 : Option Addr} {s_1n : Nat} {s_1c : Nat} {v_2 : Bool} {R : Ending → World → Prop} {w : World} (h : sh_slices_Index_of_bool_bool s_1 s_1n s_1c v_2 R w) : Calls Tryz.prog F_slices_Index_of_bool_bool ⟨[.slice s_1 s_1n s_1c, .bool v_2]⟩ w R := calls_of_fnV Tryz.func34 (by rw [e_slices_Index_of_bool_bool]; exact h)

def an_parsimony_known : Ann := .two (.leaf) (.two (.two (.leaf) (.two (.two (.leaf) (.leaf)) (.leaf))) (.two (.two (.leaf) (.two (.two (.leaf) (.leaf)) (.leaf))) (.two (.leaf) (.leaf))))
def sh_parsimony_known (states_1 : Option Addr) (states_1n : Nat) (states_1c : Nat) (n_2 : Int) (least_3 : Int) (most_4 : Int) (R : Ending → World → Prop) (w : World) : Prop :=
  al w 3 [.int .i64 least_3] fun p5 w6 =>
  al w6 3 [.int .i64 most_4] fun p7 w8 =>
  br (decide ((((states_1n : Int)) : Int) ≠ n_2)) (R (.returned (.int .i64 9)) w8) (Calls Tryz.prog 15 ⟨[.slice states_1 states_1n states_1c, .func (.func 49) ⟨[]⟩ ⟨[.pointer (some p5), .pointer (some p7)]⟩]⟩ w8 fun (e9 : Ending) (w10 : World) =>
  ∃ (x11 : Bool), e9 = .returned (.bool x11) ∧ (br x11 (R (.returned (.int .i64 2)) w10) (R (.returned (.int .i64 0)) w10)))
set_option maxRecDepth 100000 in
theorem e_parsimony_known (states_1 : Option Addr) (states_1n : Nat) (states_1c : Nat) (n_2 : Int) (least_3 : Int) (most_4 : Int) (R : Ending → World → Prop) (w : World) : fnV Tryz.prog Tryz.f35 an_parsimony_known [.slice states_1 states_1n states_1c, .int .i64 n_2, .int .i64 least_3, .int .i64 most_4] R w = sh_parsimony_known states_1 states_1n states_1c n_2 least_3 most_4 R w := by kernel_rfl
theorem c_parsimony_known {states_1 : Option Addr} {states_1n : Nat} {states_1c : Nat} {n_2 : Int} {least_3 : Int} {most_4 : Int} {R : Ending → World → Prop} {w : World} (h : sh_parsimony_known states_1 states_1n states_1c n_2 least_3 most_4 R w) : Calls Tryz.prog F_parsimony_known ⟨[.slice states_1 states_1n states_1c, .int .i64 n_2, .int .i64 least_3, .int .i64 most_4]⟩ w R := calls_of_fnV Tryz.func35 (by rw [e_parsimony_known]; exact h)

def an_parsimony_least : Ann := .two (.leaf) (.two (.leaf) (.two (.two (.leaf) (.one (.loop 536870128 [(4, .one (.int .i64)), (5, .one (.int .i64)), (10, .one (.int .i64))] (.two (.leaf) (.two (.two (.leaf) (.leaf)) (.two (.one (.two (.leaf) (.cut 67076096 [(25, .one (.bool))] (.leaf) (.two (.leaf) (.leaf))))) (.leaf))))))) (.two (.leaf) (.leaf))))
def sh_parsimony_least (row_1 : Option Addr) (row_1n : Nat) (row_1c : Nat) (R : Ending → World → Prop) (w : World) : Prop :=
  ∃ (I2 : Int → Int → Int → World → Nat → Prop), (∃ m8 : Nat, I2 ((-1)) 0 0 w m8) ∧ ∀ (n_3 : Int) (own_4 : Int) (t10_5 : Int) (w6 : World) (m7 : Nat), I2 n_3 own_4 t10_5 w6 m7 → ∀ _ : Env, (br (decide ((t10_5 : Int) < ((row_1n : Int)))) (idx row_1 row_1n t10_5 1 fun p9 =>
  ∃ (x10 : Int), World.cell? w6 p9 = some (.int .i64 x10) ∧ (∀ (K11 : Bool → World → Prop), (∀ (t25_12 : Bool) (w13 : World), (∀ _ : Env, (br t25_12 (∃ m14 : Nat, m14 < m7 ∧ I2 x10 t10_5 (IntKind.i64.wrap (t10_5 + 1)) w13 m14) (∃ m15 : Nat, m15 < m7 ∧ I2 n_3 own_4 (IntKind.i64.wrap (t10_5 + 1)) w13 m15))) → K11 t25_12 w13) → (br (decide ((0 : Int) ≤ x10)) (br (decide ((n_3 : Int) < 0)) (K11 true w6) (K11 (decide ((x10 : Int) < n_3)) w6)) (K11 false w6)))) (R (.returned (.tuple ⟨[.int .i64 n_3, .int .i64 own_4]⟩)) w6))
set_option maxRecDepth 100000 in
theorem e_parsimony_least (row_1 : Option Addr) (row_1n : Nat) (row_1c : Nat) (R : Ending → World → Prop) (w : World) : fnV Tryz.prog Tryz.f36 an_parsimony_least [.slice row_1 row_1n row_1c] R w = sh_parsimony_least row_1 row_1n row_1c R w := by kernel_rfl
theorem c_parsimony_least {row_1 : Option Addr} {row_1n : Nat} {row_1c : Nat} {R : Ending → World → Prop} {w : World} (h : sh_parsimony_least row_1 row_1n row_1c R w) : Calls Tryz.prog F_parsimony_least ⟨[.slice row_1 row_1n row_1c]⟩ w R := calls_of_fnV Tryz.func36 (by rw [e_parsimony_least]; exact h)

def an_parsimony_table : Ann := .two (.leaf) (.two (.leaf) (.two (.leaf) (.two (.leaf) (.two (.two (.leaf) (.one (.loop 4261414912 [(11, .one (.int .i64))] (.two (.two (.leaf) (.two (.leaf) (.leaf))) (.two (.one (.leaf)) (.leaf)))))) (.two (.leaf) (.leaf))))))
def sh_parsimony_table (t_1 : Option Addr) (t_1n : Nat) (t_1c : Nat) (t_2 : Option Addr) (t_2n : Nat) (t_2c : Nat) (states_3 : Option Addr) (states_3n : Nat) (states_3c : Nat) (costs_4 : Option Addr) (costs_4n : Nat) (costs_4c : Nat) (R : Ending → World → Prop) (w : World) : Prop :=
  al w 37 [.slice t_1 t_1n t_1c, .slice t_2 t_2n t_2c] fun p5 w6 =>
  al w6 30 [.slice states_3 states_3n states_3c] fun p7 w8 =>
  al w8 29 [.slice costs_4 costs_4n costs_4c] fun p9 w10 =>
  ∃ (x11 : Option Addr) (x11n : Nat) (x11c : Nat), World.cell? w10 (p5.add 0) = some (.slice x11 x11n x11c) ∧ (mks w10 30 24 [.slice none 0 0] ((x11n : Int)) ((x11n : Int)) fun p12 w13 =>
  al w13 29 [.slice none 0 0] fun p14 w15 =>
  stL w15 p14 0 [.slice (some p12) (Int.toNat ((x11n : Int))) (Int.toNat ((x11n : Int)))] fun w16 =>
  ∃ (x17 : Option Addr) (x17n : Nat) (x17c : Nat), World.cell? w16 (p5.add 0) = some (.slice x17 x17n x17c) ∧ (∃ (x18 : Option Addr) (x18n : Nat) (x18c : Nat), World.cell? w16 (p5.add 1) = some (.slice x18 x18n x18c) ∧ (Calls Tryz.prog 10 ⟨[.agg ⟨[.slice x17 x17n x17c, .slice x18 x18n x18c]⟩]⟩ w16 fun (e19 : Ending) (w20 : World) =>
  ∃ (x21 : Option Addr) (x21n : Nat) (x21c : Nat) (x22 : Int), e19 = .returned (.tuple ⟨[.slice x21 x21n x21c, .int .i64 x22]⟩) ∧ (al w20 30 [.slice none 0 0] fun p23 w24 =>
  stL w24 p23 0 [.slice x21 x21n x21c] fun w25 =>
  ∃ (x26 : Option Addr) (x26n : Nat) (x26c : Nat), World.cell? w25 p14 = some (.slice x26 x26n x26c) ∧ (∃ (I27 : Int → World → Nat → Prop), (∃ m31 : Nat, I27 (IntKind.i64.wrap (((x26n : Int)) - 1)) w25 m31) ∧ ∀ (node_28 : Int) (w29 : World) (m30 : Nat), I27 node_28 w29 m30 → ∀ _ : Env, (br (decide ((0 : Int) ≤ node_28)) (CallV Tryz.prog (.func (.func 50) ⟨[]⟩ ⟨[.pointer (some p9), .pointer (some p23), .pointer (some p7), .pointer (some p5), .pointer (some p14)]⟩) [.int .i64 node_28] w29 fun (e32 : Ending) (w33 : World) =>
  e32 = .returned (.tuple ⟨[]⟩) ∧ (∃ m34 : Nat, m34 < m30 ∧ I27 (IntKind.i64.wrap (node_28 - 1)) w33 m34)) (∃ (x35 : Option Addr) (x35n : Nat) (x35c : Nat), World.cell? w29 p14 = some (.slice x35 x35n x35c) ∧ (R (.returned (.slice x35 x35n x35c)) w29))))))))
set_option maxRecDepth 100000 in
theorem e_parsimony_table (t_1 : Option Addr) (t_1n : Nat) (t_1c : Nat) (t_2 : Option Addr) (t_2n : Nat) (t_2c : Nat) (states_3 : Option Addr) (states_3n : Nat) (states_3c : Nat) (costs_4 : Option Addr) (costs_4n : Nat) (costs_4c : Nat) (R : Ending → World → Prop) (w : World) : fnV Tryz.prog Tryz.f37 an_parsimony_table [.agg ⟨[.slice t_1 t_1n t_1c, .slice t_2 t_2n t_2c]⟩, .slice states_3 states_3n states_3c, .slice costs_4 costs_4n costs_4c] R w = sh_parsimony_table t_1 t_1n t_1c t_2 t_2n t_2c states_3 states_3n states_3c costs_4 costs_4n costs_4c R w := by kernel_rfl
theorem c_parsimony_table {t_1 : Option Addr} {t_1n : Nat} {t_1c : Nat} {t_2 : Option Addr} {t_2n : Nat} {t_2c : Nat} {states_3 : Option Addr} {states_3n : Nat} {states_3c : Nat} {costs_4 : Option Addr} {costs_4n : Nat} {costs_4c : Nat} {R : Ending → World → Prop} {w : World} (h : sh_parsimony_table t_1 t_1n t_1c t_2 t_2n t_2c states_3 states_3n states_3c costs_4 costs_4n costs_4c R w) : Calls Tryz.prog F_parsimony_table ⟨[.agg ⟨[.slice t_1 t_1n t_1c, .slice t_2 t_2n t_2c]⟩, .slice states_3 states_3n states_3c, .slice costs_4 costs_4n costs_4c]⟩ w R := calls_of_fnV Tryz.func37 (by rw [e_parsimony_table]; exact h)

end Go.Proofs
