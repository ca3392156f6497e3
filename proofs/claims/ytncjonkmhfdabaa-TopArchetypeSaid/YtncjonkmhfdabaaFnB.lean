/- Written by program: for each function its verification condition, that it is the code's (by the kernel), and that it gives the call. -/
import Derived.Test.YtncjonkmhfdabaaFn
namespace Go.Proofs
open Go Go.Sh
def an_contamination_assignments_1 : Ann := .two (.leaf) (.cut 984 [(3, .one (.ptr)), (4, .one (.ptr))] (.one (.leaf)) (.two (.leaf) (.two (.leaf) (.leaf))))
set_option maxRecDepth 100000 in
def sh_contamination_assignments_1 (yield_1 : Fn) (yield_1a : Array Value) (yield_1b : Array Value) (t1_2 : Option Addr) (R : Ending → World → Prop) (w : World) : Prop :=
  al w 90 [.func yield_1 yield_1a yield_1b] fun p3 w4 =>
  ∀ (K5 : Option Addr → Option Addr → World → Prop), (∀ (values_6 : Option Addr) (out_7 : Option Addr) (w8 : World), (∀ _ : Env, (al w8 101 [.nilFunc] fun p9 w10 =>
  stL w10 p9 0 [.func (.func 79) ⟨[]⟩ ⟨[.pointer t1_2, .pointer (some p3), .pointer out_7, .pointer (some p9), .pointer values_6]⟩] fun w11 =>
  ∃ (x12 : Fn) (x12a : Array Value) (x12b : Array Value), World.cell? w11 p9 = some (.func x12 x12a x12b) ∧ (CallV Try.prog (.func x12 x12a x12b) [.int .i64 0] w11 fun (e13 : Ending) (w14 : World) =>
  ∃ (x15 : Bool), e13 = .returned (.bool x15) ∧ (R (.returned (.tuple ⟨[]⟩)) w14)))) → K5 values_6 out_7 w8) → (drw w4 fun w16 =>
  dr t1_2 fun p17 =>
  ∃ (x18 : Option Addr) (x18n : Nat) (x18c : Nat), World.cell? w16 p17 = some (.slice x18 x18n x18c) ∧ ((Calls Try.prog 76 ⟨[.slice x18 x18n x18c]⟩ w16 fun (e19 : Ending) (w20 : World) =>
  ∃ (x21 : Option Addr) (x21n : Nat) (x21c : Nat), e19 = .returned (.slice x21 x21n x21c) ∧ (dr t1_2 fun p22 =>
  ∃ (x23 : Option Addr) (x23n : Nat) (x23c : Nat), World.cell? w20 p22 = some (.slice x23 x23n x23c) ∧ ((Calls Try.prog 9 ⟨[.slice x23 x23n x23c]⟩ w20 fun (e24 : Ending) (w25 : World) =>
  ∃ (x26 : Option Addr) (x26n : Nat) (x26c : Nat), e24 = .returned (.slice x26 x26n x26c) ∧ ((al w25 27 [.slice none 0 0] fun p27 w28 =>
  (al w28 27 [.slice none 0 0] fun p29 w30 =>
  (stL w30 p27 0 [.slice x21 x21n x21c] fun w31 =>
  (stL w31 p29 0 [.slice x26 x26n x26c] fun w32 =>
  K5 (some p27) (some p29) w32) ∧ True) ∧ True) ∧ True) ∧ (al w25 27 [.slice none 0 0] fun p33 w34 =>
  (al w34 27 [.slice none 0 0] fun p35 w36 =>
  (stL w36 p35 0 [.slice x21 x21n x21c] fun w37 =>
  (stL w37 p33 0 [.slice x26 x26n x26c] fun w38 =>
  K5 (some p35) (some p33) w38) ∧ True) ∧ True) ∧ True) ∧ True)) ∧ (al w20 27 [.slice none 0 0] fun p39 w40 =>
  (Calls Try.prog 9 ⟨[.slice x23 x23n x23c]⟩ w40 fun (e41 : Ending) (w42 : World) =>
  ∃ (x43 : Option Addr) (x43n : Nat) (x43c : Nat), e41 = .returned (.slice x43 x43n x43c) ∧ ((al w42 27 [.slice none 0 0] fun p44 w45 =>
  (stL w45 p39 0 [.slice x21 x21n x21c] fun w46 =>
  (stL w46 p44 0 [.slice x43 x43n x43c] fun w47 =>
  K5 (some p39) (some p44) w47) ∧ True) ∧ True) ∧ True)) ∧ (al w40 27 [.slice none 0 0] fun p48 w49 =>
  (Calls Try.prog 9 ⟨[.slice x23 x23n x23c]⟩ w49 fun (e50 : Ending) (w51 : World) =>
  ∃ (x52 : Option Addr) (x52n : Nat) (x52c : Nat), e50 = .returned (.slice x52 x52n x52c) ∧ ((stL w51 p39 0 [.slice x21 x21n x21c] fun w53 =>
  (stL w53 p48 0 [.slice x52 x52n x52c] fun w54 =>
  K5 (some p39) (some p48) w54) ∧ True) ∧ True)) ∧ True) ∧ True) ∧ (al w20 27 [.slice none 0 0] fun p55 w56 =>
  (Calls Try.prog 9 ⟨[.slice x23 x23n x23c]⟩ w56 fun (e57 : Ending) (w58 : World) =>
  ∃ (x59 : Option Addr) (x59n : Nat) (x59c : Nat), e57 = .returned (.slice x59 x59n x59c) ∧ ((al w58 27 [.slice none 0 0] fun p60 w61 =>
  (stL w61 p60 0 [.slice x21 x21n x21c] fun w62 =>
  (stL w62 p55 0 [.slice x59 x59n x59c] fun w63 =>
  K5 (some p60) (some p55) w63) ∧ True) ∧ True) ∧ True)) ∧ (al w56 27 [.slice none 0 0] fun p64 w65 =>
  (Calls Try.prog 9 ⟨[.slice x23 x23n x23c]⟩ w65 fun (e66 : Ending) (w67 : World) =>
  ∃ (x68 : Option Addr) (x68n : Nat) (x68c : Nat), e66 = .returned (.slice x68 x68n x68c) ∧ ((stL w67 p64 0 [.slice x21 x21n x21c] fun w69 =>
  (stL w69 p55 0 [.slice x68 x68n x68c] fun w70 =>
  K5 (some p64) (some p55) w70) ∧ True) ∧ True)) ∧ True) ∧ True) ∧ True))) ∧ (dr t1_2 fun p71 =>
  ∃ (x72 : Option Addr) (x72n : Nat) (x72c : Nat), World.cell? w16 p71 = some (.slice x72 x72n x72c) ∧ ((Calls Try.prog 76 ⟨[.slice x18 x18n x18c]⟩ w16 fun (e73 : Ending) (w74 : World) =>
  ∃ (x75 : Option Addr) (x75n : Nat) (x75c : Nat), e73 = .returned (.slice x75 x75n x75c) ∧ ((Calls Try.prog 9 ⟨[.slice x72 x72n x72c]⟩ w74 fun (e76 : Ending) (w77 : World) =>
  ∃ (x78 : Option Addr) (x78n : Nat) (x78c : Nat), e76 = .returned (.slice x78 x78n x78c) ∧ ((al w77 27 [.slice none 0 0] fun p79 w80 =>
  (al w80 27 [.slice none 0 0] fun p81 w82 =>
  (stL w82 p79 0 [.slice x75 x75n x75c] fun w83 =>
  (stL w83 p81 0 [.slice x78 x78n x78c] fun w84 =>
  K5 (some p79) (some p81) w84) ∧ True) ∧ True) ∧ True) ∧ (al w77 27 [.slice none 0 0] fun p85 w86 =>
  (al w86 27 [.slice none 0 0] fun p87 w88 =>
  (stL w88 p87 0 [.slice x75 x75n x75c] fun w89 =>
  (stL w89 p85 0 [.slice x78 x78n x78c] fun w90 =>
  K5 (some p87) (some p85) w90) ∧ True) ∧ True) ∧ True) ∧ True)) ∧ (al w74 27 [.slice none 0 0] fun p91 w92 =>
  (Calls Try.prog 9 ⟨[.slice x72 x72n x72c]⟩ w92 fun (e93 : Ending) (w94 : World) =>
  ∃ (x95 : Option Addr) (x95n : Nat) (x95c : Nat), e93 = .returned (.slice x95 x95n x95c) ∧ ((al w94 27 [.slice none 0 0] fun p96 w97 =>
  (stL w97 p91 0 [.slice x75 x75n x75c] fun w98 =>
  (stL w98 p96 0 [.slice x95 x95n x95c] fun w99 =>
  K5 (some p91) (some p96) w99) ∧ True) ∧ True) ∧ True)) ∧ (al w92 27 [.slice none 0 0] fun p100 w101 =>
  (Calls Try.prog 9 ⟨[.slice x72 x72n x72c]⟩ w101 fun (e102 : Ending) (w103 : World) =>
  ∃ (x104 : Option Addr) (x104n : Nat) (x104c : Nat), e102 = .returned (.slice x104 x104n x104c) ∧ ((stL w103 p91 0 [.slice x75 x75n x75c] fun w105 =>
  (stL w105 p100 0 [.slice x104 x104n x104c] fun w106 =>
  K5 (some p91) (some p100) w106) ∧ True) ∧ True)) ∧ True) ∧ True) ∧ (al w74 27 [.slice none 0 0] fun p107 w108 =>
  (Calls Try.prog 9 ⟨[.slice x72 x72n x72c]⟩ w108 fun (e109 : Ending) (w110 : World) =>
  ∃ (x111 : Option Addr) (x111n : Nat) (x111c : Nat), e109 = .returned (.slice x111 x111n x111c) ∧ ((al w110 27 [.slice none 0 0] fun p112 w113 =>
  (stL w113 p112 0 [.slice x75 x75n x75c] fun w114 =>
  (stL w114 p107 0 [.slice x111 x111n x111c] fun w115 =>
  K5 (some p112) (some p107) w115) ∧ True) ∧ True) ∧ True)) ∧ (al w108 27 [.slice none 0 0] fun p116 w117 =>
  (Calls Try.prog 9 ⟨[.slice x72 x72n x72c]⟩ w117 fun (e118 : Ending) (w119 : World) =>
  ∃ (x120 : Option Addr) (x120n : Nat) (x120c : Nat), e118 = .returned (.slice x120 x120n x120c) ∧ ((stL w119 p116 0 [.slice x75 x75n x75c] fun w121 =>
  (stL w121 p107 0 [.slice x120 x120n x120c] fun w122 =>
  K5 (some p116) (some p107) w122) ∧ True) ∧ True)) ∧ True) ∧ True) ∧ True)) ∧ (al w16 27 [.slice none 0 0] fun p123 w124 =>
  (Calls Try.prog 76 ⟨[.slice x18 x18n x18c]⟩ w124 fun (e125 : Ending) (w126 : World) =>
  ∃ (x127 : Option Addr) (x127n : Nat) (x127c : Nat), e125 = .returned (.slice x127 x127n x127c) ∧ ((Calls Try.prog 9 ⟨[.slice x72 x72n x72c]⟩ w126 fun (e128 : Ending) (w129 : World) =>
  ∃ (x130 : Option Addr) (x130n : Nat) (x130c : Nat), e128 = .returned (.slice x130 x130n x130c) ∧ ((al w129 27 [.slice none 0 0] fun p131 w132 =>
  (stL w132 p123 0 [.slice x127 x127n x127c] fun w133 =>
  (stL w133 p131 0 [.slice x130 x130n x130c] fun w134 =>
  K5 (some p123) (some p131) w134) ∧ True) ∧ True) ∧ True)) ∧ (al w126 27 [.slice none 0 0] fun p135 w136 =>
  (Calls Try.prog 9 ⟨[.slice x72 x72n x72c]⟩ w136 fun (e137 : Ending) (w138 : World) =>
  ∃ (x139 : Option Addr) (x139n : Nat) (x139c : Nat), e137 = .returned (.slice x139 x139n x139c) ∧ ((stL w138 p123 0 [.slice x127 x127n x127c] fun w140 =>
  (stL w140 p135 0 [.slice x139 x139n x139c] fun w141 =>
  K5 (some p123) (some p135) w141) ∧ True) ∧ True)) ∧ True) ∧ True)) ∧ (al w124 27 [.slice none 0 0] fun p142 w143 =>
  (Calls Try.prog 76 ⟨[.slice x18 x18n x18c]⟩ w143 fun (e144 : Ending) (w145 : World) =>
  ∃ (x146 : Option Addr) (x146n : Nat) (x146c : Nat), e144 = .returned (.slice x146 x146n x146c) ∧ ((Calls Try.prog 9 ⟨[.slice x72 x72n x72c]⟩ w145 fun (e147 : Ending) (w148 : World) =>
  ∃ (x149 : Option Addr) (x149n : Nat) (x149c : Nat), e147 = .returned (.slice x149 x149n x149c) ∧ ((stL w148 p123 0 [.slice x146 x146n x146c] fun w150 =>
  (stL w150 p142 0 [.slice x149 x149n x149c] fun w151 =>
  K5 (some p123) (some p142) w151) ∧ True) ∧ True)) ∧ True)) ∧ True) ∧ True) ∧ (al w16 27 [.slice none 0 0] fun p152 w153 =>
  (Calls Try.prog 76 ⟨[.slice x18 x18n x18c]⟩ w153 fun (e154 : Ending) (w155 : World) =>
  ∃ (x156 : Option Addr) (x156n : Nat) (x156c : Nat), e154 = .returned (.slice x156 x156n x156c) ∧ ((Calls Try.prog 9 ⟨[.slice x72 x72n x72c]⟩ w155 fun (e157 : Ending) (w158 : World) =>
  ∃ (x159 : Option Addr) (x159n : Nat) (x159c : Nat), e157 = .returned (.slice x159 x159n x159c) ∧ ((al w158 27 [.slice none 0 0] fun p160 w161 =>
  (stL w161 p160 0 [.slice x156 x156n x156c] fun w162 =>
  (stL w162 p152 0 [.slice x159 x159n x159c] fun w163 =>
  K5 (some p160) (some p152) w163) ∧ True) ∧ True) ∧ True)) ∧ (al w155 27 [.slice none 0 0] fun p164 w165 =>
  (Calls Try.prog 9 ⟨[.slice x72 x72n x72c]⟩ w165 fun (e166 : Ending) (w167 : World) =>
  ∃ (x168 : Option Addr) (x168n : Nat) (x168c : Nat), e166 = .returned (.slice x168 x168n x168c) ∧ ((stL w167 p164 0 [.slice x156 x156n x156c] fun w169 =>
  (stL w169 p152 0 [.slice x168 x168n x168c] fun w170 =>
  K5 (some p164) (some p152) w170) ∧ True) ∧ True)) ∧ True) ∧ True)) ∧ (al w153 27 [.slice none 0 0] fun p171 w172 =>
  (Calls Try.prog 76 ⟨[.slice x18 x18n x18c]⟩ w172 fun (e173 : Ending) (w174 : World) =>
  ∃ (x175 : Option Addr) (x175n : Nat) (x175c : Nat), e173 = .returned (.slice x175 x175n x175c) ∧ ((Calls Try.prog 9 ⟨[.slice x72 x72n x72c]⟩ w174 fun (e176 : Ending) (w177 : World) =>
  ∃ (x178 : Option Addr) (x178n : Nat) (x178c : Nat), e176 = .returned (.slice x178 x178n x178c) ∧ ((stL w177 p171 0 [.slice x175 x175n x175c] fun w179 =>
  (stL w179 p152 0 [.slice x178 x178n x178c] fun w180 =>
  K5 (some p171) (some p152) w180) ∧ True) ∧ True)) ∧ True)) ∧ True) ∧ True) ∧ True)) ∧ (al w16 27 [.slice none 0 0] fun p181 w182 =>
  (Calls Try.prog 76 ⟨[.slice x18 x18n x18c]⟩ w182 fun (e183 : Ending) (w184 : World) =>
  ∃ (x185 : Option Addr) (x185n : Nat) (x185c : Nat), e183 = .returned (.slice x185 x185n x185c) ∧ (dr t1_2 fun p186 =>
  ∃ (x187 : Option Addr) (x187n : Nat) (x187c : Nat), World.cell? w184 p186 = some (.slice x187 x187n x187c) ∧ ((Calls Try.prog 9 ⟨[.slice x187 x187n x187c]⟩ w184 fun (e188 : Ending) (w189 : World) =>
  ∃ (x190 : Option Addr) (x190n : Nat) (x190c : Nat), e188 = .returned (.slice x190 x190n x190c) ∧ ((al w189 27 [.slice none 0 0] fun p191 w192 =>
  (stL w192 p181 0 [.slice x185 x185n x185c] fun w193 =>
  (stL w193 p191 0 [.slice x190 x190n x190c] fun w194 =>
  K5 (some p181) (some p191) w194) ∧ True) ∧ True) ∧ True)) ∧ (al w184 27 [.slice none 0 0] fun p195 w196 =>
  (Calls Try.prog 9 ⟨[.slice x187 x187n x187c]⟩ w196 fun (e197 : Ending) (w198 : World) =>
  ∃ (x199 : Option Addr) (x199n : Nat) (x199c : Nat), e197 = .returned (.slice x199 x199n x199c) ∧ ((stL w198 p181 0 [.slice x185 x185n x185c] fun w200 =>
  (stL w200 p195 0 [.slice x199 x199n x199c] fun w201 =>
  K5 (some p181) (some p195) w201) ∧ True) ∧ True)) ∧ True) ∧ True))) ∧ (al w182 27 [.slice none 0 0] fun p202 w203 =>
  (Calls Try.prog 76 ⟨[.slice x18 x18n x18c]⟩ w203 fun (e204 : Ending) (w205 : World) =>
  ∃ (x206 : Option Addr) (x206n : Nat) (x206c : Nat), e204 = .returned (.slice x206 x206n x206c) ∧ (dr t1_2 fun p207 =>
  ∃ (x208 : Option Addr) (x208n : Nat) (x208c : Nat), World.cell? w205 p207 = some (.slice x208 x208n x208c) ∧ ((Calls Try.prog 9 ⟨[.slice x208 x208n x208c]⟩ w205 fun (e209 : Ending) (w210 : World) =>
  ∃ (x211 : Option Addr) (x211n : Nat) (x211c : Nat), e209 = .returned (.slice x211 x211n x211c) ∧ ((stL w210 p181 0 [.slice x206 x206n x206c] fun w212 =>
  (stL w212 p202 0 [.slice x211 x211n x211c] fun w213 =>
  K5 (some p181) (some p202) w213) ∧ True) ∧ True)) ∧ True))) ∧ True) ∧ True) ∧ (al w16 27 [.slice none 0 0] fun p214 w215 =>
  (Calls Try.prog 76 ⟨[.slice x18 x18n x18c]⟩ w215 fun (e216 : Ending) (w217 : World) =>
  ∃ (x218 : Option Addr) (x218n : Nat) (x218c : Nat), e216 = .returned (.slice x218 x218n x218c) ∧ (dr t1_2 fun p219 =>
  ∃ (x220 : Option Addr) (x220n : Nat) (x220c : Nat), World.cell? w217 p219 = some (.slice x220 x220n x220c) ∧ ((Calls Try.prog 9 ⟨[.slice x220 x220n x220c]⟩ w217 fun (e221 : Ending) (w222 : World) =>
  ∃ (x223 : Option Addr) (x223n : Nat) (x223c : Nat), e221 = .returned (.slice x223 x223n x223c) ∧ ((al w222 27 [.slice none 0 0] fun p224 w225 =>
  (stL w225 p224 0 [.slice x218 x218n x218c] fun w226 =>
  (stL w226 p214 0 [.slice x223 x223n x223c] fun w227 =>
  K5 (some p224) (some p214) w227) ∧ True) ∧ True) ∧ True)) ∧ (al w217 27 [.slice none 0 0] fun p228 w229 =>
  (Calls Try.prog 9 ⟨[.slice x220 x220n x220c]⟩ w229 fun (e230 : Ending) (w231 : World) =>
  ∃ (x232 : Option Addr) (x232n : Nat) (x232c : Nat), e230 = .returned (.slice x232 x232n x232c) ∧ ((stL w231 p228 0 [.slice x218 x218n x218c] fun w233 =>
  (stL w233 p214 0 [.slice x232 x232n x232c] fun w234 =>
  K5 (some p228) (some p214) w234) ∧ True) ∧ True)) ∧ True) ∧ True))) ∧ (al w215 27 [.slice none 0 0] fun p235 w236 =>
  (Calls Try.prog 76 ⟨[.slice x18 x18n x18c]⟩ w236 fun (e237 : Ending) (w238 : World) =>
  ∃ (x239 : Option Addr) (x239n : Nat) (x239c : Nat), e237 = .returned (.slice x239 x239n x239c) ∧ (dr t1_2 fun p240 =>
  ∃ (x241 : Option Addr) (x241n : Nat) (x241c : Nat), World.cell? w238 p240 = some (.slice x241 x241n x241c) ∧ ((Calls Try.prog 9 ⟨[.slice x241 x241n x241c]⟩ w238 fun (e242 : Ending) (w243 : World) =>
  ∃ (x244 : Option Addr) (x244n : Nat) (x244c : Nat), e242 = .returned (.slice x244 x244n x244c) ∧ ((stL w243 p235 0 [.slice x239 x239n x239c] fun w245 =>
  (stL w245 p214 0 [.slice x244 x244n x244c] fun w246 =>
  K5 (some p235) (some p214) w246) ∧ True) ∧ True)) ∧ True))) ∧ True) ∧ True) ∧ True))
set_option maxRecDepth 100000 in
theorem e_contamination_assignments_1 (yield_1 : Fn) (yield_1a : Array Value) (yield_1b : Array Value) (t1_2 : Option Addr) (R : Ending → World → Prop) (w : World) : fnV Try.prog Try.f78 an_contamination_assignments_1 [.func yield_1 yield_1a yield_1b, .pointer t1_2] R w = sh_contamination_assignments_1 yield_1 yield_1a yield_1b t1_2 R w := by kernel_rfl
theorem c_contamination_assignments_1 {yield_1 : Fn} {yield_1a : Array Value} {yield_1b : Array Value} {t1_2 : Option Addr} {R : Ending → World → Prop} {w : World} (h : sh_contamination_assignments_1 yield_1 yield_1a yield_1b t1_2 R w) : Calls Try.prog F_contamination_assignments_1 ⟨[.func yield_1 yield_1a yield_1b, .pointer t1_2]⟩ w R := calls_of_fnV Try.func78 (by rw [e_contamination_assignments_1]; exact h)

def an_contamination_assignments_1_1 : Ann := .two (.leaf) (.two (.two (.leaf) (.two (.two (.leaf) (.leaf)) (.leaf))) (.two (.two (.leaf) (.two (.two (.leaf) (.leaf)) (.leaf))) (.two (.two (.leaf) (.one (.loop 4397778076288 [(28, .one (.int .i64))] (.two (.leaf) (.two (.two (.leaf) (.leaf)) (.two (.one (.two (.leaf) (.two (.leaf) (.two (.leaf) (.two (.two (.leaf) (.leaf)) (.leaf)))))) (.leaf))))))) (.two (.leaf) (.leaf)))))
def sh_contamination_assignments_1_1 (i_1 : Int) (t1_2 : Option Addr) (t2_3 : Option Addr) (t3_4 : Option Addr) (t4_5 : Option Addr) (t5_6 : Option Addr) (R : Ending → World → Prop) (w : World) : Prop :=
  dr t1_2 fun p7 =>
  ∃ (x8 : Option Addr) (x8n : Nat) (x8c : Nat), World.cell? w p7 = some (.slice x8 x8n x8c) ∧ (br (decide ((i_1 : Int) = ((x8n : Int)))) (dr t2_3 fun p9 =>
  ∃ (x10 : Fn) (x10a : Array Value) (x10b : Array Value), World.cell? w p9 = some (.func x10 x10a x10b) ∧ (dr t3_4 fun p11 =>
  ∃ (x12 : Option Addr) (x12n : Nat) (x12c : Nat), World.cell? w p11 = some (.slice x12 x12n x12c) ∧ (CallV Try.prog (.func x10 x10a x10b) [.slice x12 x12n x12c] w fun (e13 : Ending) (w14 : World) =>
  ∃ (x15 : Bool), e13 = .returned (.bool x15) ∧ (R (.returned (.bool x15)) w14)))) (dr t1_2 fun p16 =>
  ∃ (x17 : Option Addr) (x17n : Nat) (x17c : Nat), World.cell? w p16 = some (.slice x17 x17n x17c) ∧ (idx x17 x17n i_1 1 fun p18 =>
  ∃ (x19 : Int), World.cell? w p18 = some (.int .i64 x19) ∧ (br (decide ((0 : Int) ≤ x19)) (dr t4_5 fun p20 =>
  ∃ (x21 : Fn) (x21a : Array Value) (x21b : Array Value), World.cell? w p20 = some (.func x21 x21a x21b) ∧ (CallV Try.prog (.func x21 x21a x21b) [.int .i64 (IntKind.i64.wrap (i_1 + 1))] w fun (e22 : Ending) (w23 : World) =>
  ∃ (x24 : Bool), e22 = .returned (.bool x24) ∧ (R (.returned (.bool x24)) w23))) (dr t5_6 fun p25 =>
  ∃ (x26 : Option Addr) (x26n : Nat) (x26c : Nat), World.cell? w p25 = some (.slice x26 x26n x26c) ∧ (∃ (I27 : Int → World → Nat → Prop), (∃ m31 : Nat, I27 0 w m31) ∧ ∀ (t28_28 : Int) (w29 : World) (m30 : Nat), I27 t28_28 w29 m30 → ∀ _ : Env, (br (decide ((t28_28 : Int) < ((x26n : Int)))) (idx x26 x26n t28_28 1 fun p32 =>
  ∃ (x33 : Int), World.cell? w29 p32 = some (.int .i64 x33) ∧ (dr t3_4 fun p34 =>
  ∃ (x35 : Option Addr) (x35n : Nat) (x35c : Nat), World.cell? w29 p34 = some (.slice x35 x35n x35c) ∧ (idx x35 x35n i_1 1 fun p36 =>
  stL w29 p36 0 [.int .i64 x33] fun w37 =>
  dr t4_5 fun p38 =>
  ∃ (x39 : Fn) (x39a : Array Value) (x39b : Array Value), World.cell? w37 p38 = some (.func x39 x39a x39b) ∧ (CallV Try.prog (.func x39 x39a x39b) [.int .i64 (IntKind.i64.wrap (i_1 + 1))] w37 fun (e40 : Ending) (w41 : World) =>
  ∃ (x42 : Bool), e40 = .returned (.bool x42) ∧ (br (!x42) (R (.returned (.bool false)) w41) (∃ m43 : Nat, m43 < m30 ∧ I27 (IntKind.i64.wrap (t28_28 + 1)) w41 m43)))))) (R (.returned (.bool true)) w29))))))))
set_option maxRecDepth 100000 in
theorem e_contamination_assignments_1_1 (i_1 : Int) (t1_2 : Option Addr) (t2_3 : Option Addr) (t3_4 : Option Addr) (t4_5 : Option Addr) (t5_6 : Option Addr) (R : Ending → World → Prop) (w : World) : fnV Try.prog Try.f79 an_contamination_assignments_1_1 [.int .i64 i_1, .pointer t1_2, .pointer t2_3, .pointer t3_4, .pointer t4_5, .pointer t5_6] R w = sh_contamination_assignments_1_1 i_1 t1_2 t2_3 t3_4 t4_5 t5_6 R w := by kernel_rfl
theorem c_contamination_assignments_1_1 {i_1 : Int} {t1_2 : Option Addr} {t2_3 : Option Addr} {t3_4 : Option Addr} {t4_5 : Option Addr} {t5_6 : Option Addr} {R : Ending → World → Prop} {w : World} (h : sh_contamination_assignments_1_1 i_1 t1_2 t2_3 t3_4 t4_5 t5_6 R w) : Calls Try.prog F_contamination_assignments_1_1 ⟨[.int .i64 i_1, .pointer t1_2, .pointer t2_3, .pointer t3_4, .pointer t4_5, .pointer t5_6]⟩ w R := calls_of_fnV Try.func79 (by rw [e_contamination_assignments_1_1]; exact h)

def an_stemma_leafName : Ann := .two (.leaf) (.two (.two (.leaf) (.cut 32704 [(14, .one (.bool))] (.leaf) (.two (.two (.leaf) (.leaf)) (.leaf)))) (.two (.leaf) (.leaf)))
def sh_stemma_leafName (s_1 : List UInt8) (R : Ending → World → Prop) (w : World) : Prop :=
  ∀ (K2 : Bool → World → Prop), (∀ (t14_3 : Bool) (w4 : World), (∀ _ : Env, (br t14_3 (br (decide ((((List.length s_1 : Int)) : Int) ≤ 16)) (ssl s_1 0 (IntKind.i64.wrap (((List.length s_1 : Int)) - 1)) fun s5 =>
  Calls Try.prog 93 ⟨[.string ⟨⟨s5⟩⟩]⟩ w4 fun (e6 : Ending) (w7 : World) =>
  ∃ (x8 : Bool), e6 = .returned (.bool x8) ∧ (R (.returned (.bool x8)) w7)) (R (.returned (.bool false)) w4)) (Calls Try.prog 93 ⟨[.string ⟨⟨s_1⟩⟩]⟩ w4 fun (e9 : Ending) (w10 : World) =>
  ∃ (x11 : Bool), e9 = .returned (.bool x11) ∧ (R (.returned (.bool x11)) w10)))) → K2 t14_3 w4) → (br (decide ((0 : Int) < ((List.length s_1 : Int)))) (sidx s_1 (IntKind.i64.wrap (((List.length s_1 : Int)) - 1)) fun b12 =>
  K2 (decide ((((b12.toNat : Int)) : Int) = 42)) w) (K2 false w))
set_option maxRecDepth 100000 in
theorem e_stemma_leafName (s_1 : List UInt8) (R : Ending → World → Prop) (w : World) : fnV Try.prog Try.f80 an_stemma_leafName [.string ⟨⟨s_1⟩⟩] R w = sh_stemma_leafName s_1 R w := by kernel_rfl
theorem c_stemma_leafName {s_1 : List UInt8} {R : Ending → World → Prop} {w : World} (h : sh_stemma_leafName s_1 R w) : Calls Try.prog F_stemma_leafName ⟨[.string ⟨⟨s_1⟩⟩]⟩ w R := calls_of_fnV Try.func80 (by rw [e_stemma_leafName]; exact h)

def an_slices_Contains_of_string_string : Ann := .two (.leaf) (.two (.leaf) (.leaf))
def sh_slices_Contains_of_string_string (s_1 : Option Addr) (s_1n : Nat) (s_1c : Nat) (v_2 : List UInt8) (R : Ending → World → Prop) (w : World) : Prop :=
  Calls Try.prog 94 ⟨[.slice s_1 s_1n s_1c, .string ⟨⟨v_2⟩⟩]⟩ w fun (e3 : Ending) (w4 : World) =>
  ∃ (x5 : Int), e3 = .returned (.int .i64 x5) ∧ (R (.returned (.bool (decide ((0 : Int) ≤ x5)))) w4)
set_option maxRecDepth 100000 in
theorem e_slices_Contains_of_string_string (s_1 : Option Addr) (s_1n : Nat) (s_1c : Nat) (v_2 : List UInt8) (R : Ending → World → Prop) (w : World) : fnV Try.prog Try.f81 an_slices_Contains_of_string_string [.slice s_1 s_1n s_1c, .string ⟨⟨v_2⟩⟩] R w = sh_slices_Contains_of_string_string s_1 s_1n s_1c v_2 R w := by kernel_rfl
theorem c_slices_Contains_of_string_string {s_1 : Option Addr} {s_1n : Nat} {s_1c : Nat} {v_2 : List UInt8} {R : Ending → World → Prop} {w : World} (h : sh_slices_Contains_of_string_string s_1 s_1n s_1c v_2 R w) : Calls Try.prog F_slices_Contains_of_string_string ⟨[.slice s_1 s_1n s_1c, .string ⟨⟨v_2⟩⟩]⟩ w R := calls_of_fnV Try.func81 (by rw [e_slices_Contains_of_string_string]; exact h)

def an_stemma_Check_1 : Ann := .two (.leaf) (.two (.leaf) (.leaf))
def sh_stemma_Check_1 (p_1 : Int) (t1_2 : Option Addr) (R : Ending → World → Prop) (w : World) : Prop :=
  br (decide ((p_1 : Int) < 0)) (R (.returned (.bool true)) w) (dr t1_2 fun p3 =>
  ∃ (x4 : Int), World.cell? w p3 = some (.int .i64 x4) ∧ (R (.returned (.bool (decide ((x4 : Int) ≤ p_1)))) w))
set_option maxRecDepth 100000 in
theorem e_stemma_Check_1 (p_1 : Int) (t1_2 : Option Addr) (R : Ending → World → Prop) (w : World) : fnV Try.prog Try.f82 an_stemma_Check_1 [.int .i64 p_1, .pointer t1_2] R w = sh_stemma_Check_1 p_1 t1_2 R w := by kernel_rfl
theorem c_stemma_Check_1 {p_1 : Int} {t1_2 : Option Addr} {R : Ending → World → Prop} {w : World} (h : sh_stemma_Check_1 p_1 t1_2 R w) : Calls Try.prog F_stemma_Check_1 ⟨[.int .i64 p_1, .pointer t1_2]⟩ w R := calls_of_fnV Try.func82 (by rw [e_stemma_Check_1]; exact h)

def an_slices_Sort_of_int_int : Ann := .two (.leaf) (.leaf)
def sh_slices_Sort_of_int_int (x_1 : Option Addr) (x_1n : Nat) (x_1c : Nat) (R : Ending → World → Prop) (w : World) : Prop :=
  Calls Try.prog 36 ⟨[.int .u64 (IntKind.u64.wrap ((x_1n : Int)))]⟩ w fun (e2 : Ending) (w3 : World) =>
  ∃ (x4 : Int), e2 = .returned (.int .i64 x4) ∧ (Calls Try.prog 100 ⟨[.slice x_1 x_1n x_1c, .int .i64 0, .int .i64 ((x_1n : Int)), .int .i64 x4]⟩ w3 fun (e5 : Ending) (w6 : World) =>
  e5 = .returned (.tuple ⟨[]⟩) ∧ (R (.returned (.tuple ⟨[]⟩)) w6))
set_option maxRecDepth 100000 in
theorem e_slices_Sort_of_int_int (x_1 : Option Addr) (x_1n : Nat) (x_1c : Nat) (R : Ending → World → Prop) (w : World) : fnV Try.prog Try.f91 an_slices_Sort_of_int_int [.slice x_1 x_1n x_1c] R w = sh_slices_Sort_of_int_int x_1 x_1n x_1c R w := by kernel_rfl
theorem c_slices_Sort_of_int_int {x_1 : Option Addr} {x_1n : Nat} {x_1c : Nat} {R : Ending → World → Prop} {w : World} (h : sh_slices_Sort_of_int_int x_1 x_1n x_1c R w) : Calls Try.prog F_slices_Sort_of_int_int ⟨[.slice x_1 x_1n x_1c]⟩ w R := calls_of_fnV Try.func91 (by rw [e_slices_Sort_of_int_int]; exact h)

def an_slices_Compact_of_int_int : Ann := .two (.leaf) (.two (.two (.leaf) (.two (.two (.leaf) (.leaf)) (.leaf))) (.two (.two (.leaf) (.one (.loop 1152921504606846012 [(3, .one (.int .i64))] (.two (.two (.leaf) (.two (.leaf) (.leaf))) (.two (.one (.two (.leaf) (.two (.two (.leaf) (.two (.two (.leaf) (.one (.loop 18014397972611112 [(3, .one (.int .i64)), (5, .one (.int .i64))] (.two (.two (.leaf) (.two (.leaf) (.leaf))) (.two (.one (.two (.leaf) (.two (.two (.leaf) (.leaf)) (.leaf)))) (.leaf)))))) (.two (.leaf) (.two (.leaf) (.leaf))))) (.leaf)))) (.leaf)))))) (.two (.leaf) (.leaf))))
def sh_slices_Compact_of_int_int (s_1 : Option Addr) (s_1n : Nat) (s_1c : Nat) (R : Ending → World → Prop) (w : World) : Prop :=
  br (decide ((((s_1n : Int)) : Int) < 2)) (R (.returned (.slice s_1 s_1n s_1c)) w) (∃ (I2 : Int → World → Nat → Prop), (∃ m6 : Nat, I2 1 w m6) ∧ ∀ (k_3 : Int) (w4 : World) (m5 : Nat), I2 k_3 w4 m5 → ∀ _ : Env, (br (decide ((k_3 : Int) < ((s_1n : Int)))) (drw w4 fun w7 =>
  idx s_1 s_1n k_3 1 fun p8 =>
  ∃ (x9 : Int), World.cell? w7 p8 = some (.int .i64 x9) ∧ (idx s_1 s_1n (IntKind.i64.wrap (k_3 - 1)) 1 fun p10 =>
  ∃ (x11 : Int), World.cell? w7 p10 = some (.int .i64 x11) ∧ (br (decide ((x9 : Int) = x11)) (sls s_1 s_1c k_3 (s_1n : Int) 1 fun a12 a12n a12c =>
  ∃ (I13 : Int → Int → World → Nat → Prop), (∃ m18 : Nat, I13 k_3 1 w7 m18) ∧ ∀ (k_14 : Int) (k2_15 : Int) (w16 : World) (m17 : Nat), I13 k_14 k2_15 w16 m17 → ∀ _ : Env, (br (decide ((k2_15 : Int) < ((a12n : Int)))) (drw w16 fun w19 =>
  idx a12 a12n k2_15 1 fun p20 =>
  ∃ (x21 : Int), World.cell? w19 p20 = some (.int .i64 x21) ∧ (idx a12 a12n (IntKind.i64.wrap (k2_15 - 1)) 1 fun p22 =>
  ∃ (x23 : Int), World.cell? w19 p22 = some (.int .i64 x23) ∧ (br (decide ((x21 : Int) ≠ x23)) (idx a12 a12n k2_15 1 fun p24 =>
  ∃ (x25 : Int), World.cell? w19 p24 = some (.int .i64 x25) ∧ (idx s_1 s_1n k_14 1 fun p26 =>
  stL w19 p26 0 [.int .i64 x25] fun w27 =>
  ∃ m28 : Nat, m28 < m17 ∧ I13 (IntKind.i64.wrap (k_14 + 1)) (IntKind.i64.wrap (k2_15 + 1)) w27 m28)) (∃ m29 : Nat, m29 < m17 ∧ I13 k_14 (IntKind.i64.wrap (k2_15 + 1)) w19 m29)))) (sls s_1 s_1c k_14 (s_1n : Int) 1 fun a30 a30n a30c =>
  clr Try.prog [27] 0 [.slice a30 a30n a30c] w16 fun w31 =>
  sls s_1 s_1c 0 k_14 1 fun a32 a32n a32c =>
  R (.returned (.slice a32 a32n a32c)) w31))) (∃ m33 : Nat, m33 < m5 ∧ I2 (IntKind.i64.wrap (k_3 + 1)) w7 m33)))) (R (.returned (.slice s_1 s_1n s_1c)) w4)))
set_option maxRecDepth 100000 in
theorem e_slices_Compact_of_int_int (s_1 : Option Addr) (s_1n : Nat) (s_1c : Nat) (R : Ending → World → Prop) (w : World) : fnV Try.prog Try.f92 an_slices_Compact_of_int_int [.slice s_1 s_1n s_1c] R w = sh_slices_Compact_of_int_int s_1 s_1n s_1c R w := by kernel_rfl
theorem c_slices_Compact_of_int_int {s_1 : Option Addr} {s_1n : Nat} {s_1c : Nat} {R : Ending → World → Prop} {w : World} (h : sh_slices_Compact_of_int_int s_1 s_1n s_1c R w) : Calls Try.prog F_slices_Compact_of_int_int ⟨[.slice s_1 s_1n s_1c]⟩ w R := calls_of_fnV Try.func92 (by rw [e_slices_Compact_of_int_int]; exact h)

def an_charset_IsName : Ann := .two (.leaf) (.two (.leaf) (.leaf))
def sh_charset_IsName (s_1 : List UInt8) (R : Ending → World → Prop) (w : World) : Prop :=
  br (decide ((s_1 : List UInt8) ≠ ([]))) (br (decide ((((List.length s_1 : Int)) : Int) ≤ 16)) (Calls Try.prog 101 ⟨[.string ⟨⟨s_1⟩⟩]⟩ w fun (e2 : Ending) (w3 : World) =>
  ∃ (x4 : Int), e2 = .returned (.int .i64 x4) ∧ (R (.returned (.bool (decide ((x4 : Int) = ((List.length s_1 : Int)))))) w3)) (R (.returned (.bool false)) w)) (R (.returned (.bool false)) w)
set_option maxRecDepth 100000 in
theorem e_charset_IsName (s_1 : List UInt8) (R : Ending → World → Prop) (w : World) : fnV Try.prog Try.f93 an_charset_IsName [.string ⟨⟨s_1⟩⟩] R w = sh_charset_IsName s_1 R w := by kernel_rfl
theorem c_charset_IsName {s_1 : List UInt8} {R : Ending → World → Prop} {w : World} (h : sh_charset_IsName s_1 R w) : Calls Try.prog F_charset_IsName ⟨[.string ⟨⟨s_1⟩⟩]⟩ w R := calls_of_fnV Try.func93 (by rw [e_charset_IsName]; exact h)

def an_slices_Index_of_string_string : Ann := .two (.leaf) (.two (.two (.leaf) (.one (.loop 524080 [(8, .one (.int .i64))] (.two (.leaf) (.two (.two (.leaf) (.leaf)) (.two (.one (.two (.leaf) (.two (.leaf) (.two (.two (.leaf) (.leaf)) (.leaf))))) (.leaf))))))) (.two (.leaf) (.leaf)))
def sh_slices_Index_of_string_string (s_1 : Option Addr) (s_1n : Nat) (s_1c : Nat) (v_2 : List UInt8) (R : Ending → World → Prop) (w : World) : Prop :=
  ∃ (I3 : Int → World → Nat → Prop), (∃ m7 : Nat, I3 0 w m7) ∧ ∀ (t8_4 : Int) (w5 : World) (m6 : Nat), I3 t8_4 w5 m6 → ∀ _ : Env, (br (decide ((t8_4 : Int) < ((s_1n : Int)))) (idx s_1 s_1n t8_4 1 fun p8 =>
  ∃ (x9 : List UInt8), World.cell? w5 p8 = some (.string ⟨⟨x9⟩⟩) ∧ (br (decide ((v_2 : List UInt8) = x9)) (R (.returned (.int .i64 t8_4)) w5) (∃ m10 : Nat, m10 < m6 ∧ I3 (IntKind.i64.wrap (t8_4 + 1)) w5 m10))) (R (.returned (.int .i64 ((-1)))) w5))
set_option maxRecDepth 100000 in
theorem e_slices_Index_of_string_string (s_1 : Option Addr) (s_1n : Nat) (s_1c : Nat) (v_2 : List UInt8) (R : Ending → World → Prop) (w : World) : fnV Try.prog Try.f94 an_slices_Index_of_string_string [.slice s_1 s_1n s_1c, .string ⟨⟨v_2⟩⟩] R w = sh_slices_Index_of_string_string s_1 s_1n s_1c v_2 R w := by kernel_rfl
theorem c_slices_Index_of_string_string {s_1 : Option Addr} {s_1n : Nat} {s_1c : Nat} {v_2 : List UInt8} {R : Ending → World → Prop} {w : World} (h : sh_slices_Index_of_string_string s_1 s_1n s_1c v_2 R w) : Calls Try.prog F_slices_Index_of_string_string ⟨[.slice s_1 s_1n s_1c, .string ⟨⟨v_2⟩⟩]⟩ w R := calls_of_fnV Try.func94 (by rw [e_slices_Index_of_string_string]; exact h)

def an_slices_pdqsortOrdered_of_int : Ann := .two (.leaf) (.two (.leaf) (.one (.loop 21778071482940061661655974875633165532942 [(1, .one (.int .i64)), (2, .one (.int .i64)), (3, .one (.int .i64)), (8, .one (.bool)), (9, .one (.bool))] (.one (.two (.leaf) (.two (.two (.leaf) (.two (.two (.leaf) (.leaf)) (.leaf))) (.two (.two (.leaf) (.two (.two (.leaf) (.leaf)) (.leaf))) (.cut 4380866641928 [(3, .one (.int .i64))] (.two (.leaf) (.two (.two (.leaf) (.leaf)) (.leaf))) (.two (.leaf) (.cut 2305280059260278784 [(11, .one (.int .i64)), (12, .one (.int .i64))] (.two (.leaf) (.two (.two (.leaf) (.two (.leaf) (.leaf))) (.leaf))) (.cut 9442427122730076733440 [] (.cut 587989967349491957760 [(68, .one (.bool))] (.leaf) (.two (.two (.leaf) (.two (.leaf) (.leaf))) (.leaf))) (.two (.cut 309475565088379329434353664 [(87, .one (.bool))] (.leaf) (.two (.two (.leaf) (.two (.leaf) (.leaf))) (.leaf))) (.two (.leaf) (.two (.leaf) (.two (.leaf) (.two (.leaf) (.two (.leaf) (.two (.two (.leaf) (.two (.leaf) (.leaf))) (.two (.leaf) (.two (.leaf) (.leaf)))))))))))))))))))))
set_option maxRecDepth 100000 in
def sh_slices_pdqsortOrdered_of_int (data_1 : Option Addr) (data_1n : Nat) (data_1c : Nat) (a_2 : Int) (b_3 : Int) (limit_4 : Int) (R : Ending → World → Prop) (w : World) : Prop :=
  ∃ (I5 : Int → Int → Int → Bool → Bool → World → Nat → Prop), (∃ m13 : Nat, I5 a_2 b_3 limit_4 true true w m13) ∧ ∀ (a_6 : Int) (b_7 : Int) (limit_8 : Int) (wasBalanced_9 : Bool) (wasPartitioned_10 : Bool) (w11 : World) (m12 : Nat), I5 a_6 b_7 limit_8 wasBalanced_9 wasPartitioned_10 w11 m12 → ∀ _ : Env, (br (decide (((IntKind.i64.wrap (b_7 - a_6)) : Int) ≤ 12)) (Calls Try.prog 103 ⟨[.slice data_1 data_1n data_1c, .int .i64 a_6, .int .i64 b_7]⟩ w11 fun (e14 : Ending) (w15 : World) =>
  e14 = .returned (.tuple ⟨[]⟩) ∧ (R (.returned (.tuple ⟨[]⟩)) w15)) (br (decide ((limit_8 : Int) = 0)) (Calls Try.prog 104 ⟨[.slice data_1 data_1n data_1c, .int .i64 a_6, .int .i64 b_7]⟩ w11 fun (e16 : Ending) (w17 : World) =>
  e16 = .returned (.tuple ⟨[]⟩) ∧ (R (.returned (.tuple ⟨[]⟩)) w17)) (∀ (K18 : Int → World → Prop), (∀ (limit_19 : Int) (w20 : World), (∀ _ : Env, (Calls Try.prog 106 ⟨[.slice data_1 data_1n data_1c, .int .i64 a_6, .int .i64 b_7]⟩ w20 fun (e21 : Ending) (w22 : World) =>
  ∃ (x23 : Int) (x24 : Int), e21 = .returned (.tuple ⟨[.int .i64 x23, .int .i64 x24]⟩) ∧ (∀ (K25 : Int → Int → World → Prop), (∀ (pivot_26 : Int) (hint_27 : Int) (w28 : World), (∀ _ : Env, (∀ (K29 : World → Prop), (∀  (w30 : World), (∀ _ : Env, (∀ (K31 : Bool → World → Prop), (∀ (t87_32 : Bool) (w33 : World), (∀ _ : Env, (br t87_32 (Calls Try.prog 110 ⟨[.slice data_1 data_1n data_1c, .int .i64 a_6, .int .i64 b_7, .int .i64 pivot_26]⟩ w33 fun (e34 : Ending) (w35 : World) =>
  ∃ (x36 : Int), e34 = .returned (.int .i64 x36) ∧ (∃ m37 : Nat, m37 < m12 ∧ I5 x36 b_7 limit_19 wasBalanced_9 wasPartitioned_10 w35 m37)) (Calls Try.prog 111 ⟨[.slice data_1 data_1n data_1c, .int .i64 a_6, .int .i64 b_7, .int .i64 pivot_26]⟩ w33 fun (e38 : Ending) (w39 : World) =>
  ∃ (x40 : Int) (x41 : Bool), e38 = .returned (.tuple ⟨[.int .i64 x40, .bool x41]⟩) ∧ (idiv 8 (br (decide (((IntKind.i64.wrap (x40 - a_6)) : Int) < (IntKind.i64.wrap (b_7 - x40)))) (Calls Try.prog 100 ⟨[.slice data_1 data_1n data_1c, .int .i64 a_6, .int .i64 x40, .int .i64 limit_19]⟩ w39 fun (e42 : Ending) (w43 : World) =>
  e42 = .returned (.tuple ⟨[]⟩) ∧ (∃ m44 : Nat, m44 < m12 ∧ I5 (IntKind.i64.wrap (x40 + 1)) b_7 limit_19 (decide (((IntKind.i64.wrap (Int.tdiv (IntKind.i64.wrap (b_7 - a_6)) 8)) : Int) ≤ (IntKind.i64.wrap (x40 - a_6)))) x41 w43 m44)) (Calls Try.prog 100 ⟨[.slice data_1 data_1n data_1c, .int .i64 (IntKind.i64.wrap (x40 + 1)), .int .i64 b_7, .int .i64 limit_19]⟩ w39 fun (e45 : Ending) (w46 : World) =>
  e45 = .returned (.tuple ⟨[]⟩) ∧ (∃ m47 : Nat, m47 < m12 ∧ I5 a_6 x40 limit_19 (decide (((IntKind.i64.wrap (Int.tdiv (IntKind.i64.wrap (b_7 - a_6)) 8)) : Int) ≤ (IntKind.i64.wrap (b_7 - x40)))) x41 w46 m47))))))) → K31 t87_32 w33) → (drw w30 fun w48 =>
  br (decide ((0 : Int) < a_6)) (idx data_1 data_1n (IntKind.i64.wrap (a_6 - 1)) 1 fun p49 =>
  ∃ (x50 : Int), World.cell? w48 p49 = some (.int .i64 x50) ∧ (idx data_1 data_1n pivot_26 1 fun p51 =>
  ∃ (x52 : Int), World.cell? w48 p51 = some (.int .i64 x52) ∧ ((Calls Try.prog 109 ⟨[.int .i64 x50, .int .i64 x52]⟩ w48 fun (e53 : Ending) (w54 : World) =>
  ∃ (x55 : Bool), e53 = .returned (.bool x55) ∧ (K31 (!x55) w54)) ∧ True))) ((K31 false w48) ∧ True)))) → K29 w30) → (∀ (K56 : Bool → World → Prop), (∀ (t68_57 : Bool) (w58 : World), (∀ _ : Env, (br t68_57 (Calls Try.prog 108 ⟨[.slice data_1 data_1n data_1c, .int .i64 a_6, .int .i64 b_7]⟩ w58 fun (e59 : Ending) (w60 : World) =>
  ∃ (x61 : Bool), e59 = .returned (.bool x61) ∧ (br x61 (R (.returned (.tuple ⟨[]⟩)) w60) (K29 w60))) (K29 w58))) → K56 t68_57 w58) → (br wasBalanced_9 (br wasPartitioned_10 (K56 (decide ((hint_27 : Int) = 1)) w28) (K56 false w28)) (K56 false w28))))) → K25 pivot_26 hint_27 w28) → (br (decide ((x24 : Int) = 2)) (Calls Try.prog 107 ⟨[.slice data_1 data_1n data_1c, .int .i64 a_6, .int .i64 b_7]⟩ w22 fun (e62 : Ending) (w63 : World) =>
  e62 = .returned (.tuple ⟨[]⟩) ∧ (K25 (IntKind.i64.wrap ((IntKind.i64.wrap (b_7 - 1)) - (IntKind.i64.wrap (x23 - a_6)))) 1 w63)) (K25 x23 x24 w22))))) → K18 limit_19 w20) → (br (!wasBalanced_9) (Calls Try.prog 105 ⟨[.slice data_1 data_1n data_1c, .int .i64 a_6, .int .i64 b_7]⟩ w11 fun (e64 : Ending) (w65 : World) =>
  e64 = .returned (.tuple ⟨[]⟩) ∧ (K18 (IntKind.i64.wrap (limit_8 - 1)) w65)) (K18 limit_8 w11)))))
set_option maxRecDepth 100000 in
theorem e_slices_pdqsortOrdered_of_int (data_1 : Option Addr) (data_1n : Nat) (data_1c : Nat) (a_2 : Int) (b_3 : Int) (limit_4 : Int) (R : Ending → World → Prop) (w : World) : fnV Try.prog Try.f100 an_slices_pdqsortOrdered_of_int [.slice data_1 data_1n data_1c, .int .i64 a_2, .int .i64 b_3, .int .i64 limit_4] R w = sh_slices_pdqsortOrdered_of_int data_1 data_1n data_1c a_2 b_3 limit_4 R w := by kernel_rfl
theorem c_slices_pdqsortOrdered_of_int {data_1 : Option Addr} {data_1n : Nat} {data_1c : Nat} {a_2 : Int} {b_3 : Int} {limit_4 : Int} {R : Ending → World → Prop} {w : World} (h : sh_slices_pdqsortOrdered_of_int data_1 data_1n data_1c a_2 b_3 limit_4 R w) : Calls Try.prog F_slices_pdqsortOrdered_of_int ⟨[.slice data_1 data_1n data_1c, .int .i64 a_2, .int .i64 b_3, .int .i64 limit_4]⟩ w R := calls_of_fnV Try.func100 (by rw [e_slices_pdqsortOrdered_of_int]; exact h)

def an_charset_Letters : Ann := .two (.leaf) (.two (.leaf) (.two (.two (.leaf) (.one (.loop 16777016 [(3, .one (.int .i64)), (8, .one (.int .i64))] (.two (.leaf) (.two (.two (.leaf) (.leaf)) (.two (.one (.two (.leaf) (.two (.leaf) (.two (.leaf) (.two (.leaf) (.leaf)))))) (.leaf))))))) (.two (.leaf) (.leaf))))
def sh_charset_Letters (s_1 : List UInt8) (R : Ending → World → Prop) (w : World) : Prop :=
  ∃ (I2 : Int → Int → World → Nat → Prop), (∃ m7 : Nat, I2 0 0 w m7) ∧ ∀ (n_3 : Int) (t8_4 : Int) (w5 : World) (m6 : Nat), I2 n_3 t8_4 w5 m6 → ∀ _ : Env, (br (decide ((t8_4 : Int) < ((List.length s_1 : Int)))) (sidx s_1 t8_4 fun b8 =>
  Calls Try.prog 112 ⟨[.int .u8 ((b8.toNat : Int))]⟩ w5 fun (e9 : Ending) (w10 : World) =>
  ∃ (x11 : Int), e9 = .returned (.int .i64 x11) ∧ (br (decide ((x11 : Int) = 1)) (∃ m12 : Nat, m12 < m6 ∧ I2 (IntKind.i64.wrap (n_3 + 1)) (IntKind.i64.wrap (t8_4 + 1)) w10 m12) (br (decide ((x11 : Int) = 3)) (∃ m13 : Nat, m13 < m6 ∧ I2 (IntKind.i64.wrap (n_3 + 1)) (IntKind.i64.wrap (t8_4 + 1)) w10 m13) (∃ m14 : Nat, m14 < m6 ∧ I2 n_3 (IntKind.i64.wrap (t8_4 + 1)) w10 m14)))) (R (.returned (.int .i64 n_3)) w5))
set_option maxRecDepth 100000 in
theorem e_charset_Letters (s_1 : List UInt8) (R : Ending → World → Prop) (w : World) : fnV Try.prog Try.f101 an_charset_Letters [.string ⟨⟨s_1⟩⟩] R w = sh_charset_Letters s_1 R w := by kernel_rfl
theorem c_charset_Letters {s_1 : List UInt8} {R : Ending → World → Prop} {w : World} (h : sh_charset_Letters s_1 R w) : Calls Try.prog F_charset_Letters ⟨[.string ⟨⟨s_1⟩⟩]⟩ w R := calls_of_fnV Try.func101 (by rw [e_charset_Letters]; exact h)

def an_slices_insertionSortOrdered_of_int : Ann := .two (.leaf) (.one (.loop 562949953420480 [(6, .one (.int .i64))] (.two (.two (.leaf) (.two (.leaf) (.leaf))) (.two (.one (.two (.leaf) (.one (.loop 562949953355904 [(7, .one (.int .i64))] (.cut 2147418112 [] (.two (.leaf) (.two (.leaf) (.leaf))) (.two (.one (.leaf)) (.leaf))))))) (.leaf)))))
def sh_slices_insertionSortOrdered_of_int (data_1 : Option Addr) (data_1n : Nat) (data_1c : Nat) (a_2 : Int) (b_3 : Int) (R : Ending → World → Prop) (w : World) : Prop :=
  ∃ (I4 : Int → World → Nat → Prop), (∃ m8 : Nat, I4 (IntKind.i64.wrap (a_2 + 1)) w m8) ∧ ∀ (i_5 : Int) (w6 : World) (m7 : Nat), I4 i_5 w6 m7 → ∀ _ : Env, (br (decide ((i_5 : Int) < b_3)) (∃ (I9 : Int → World → Nat → Prop), (∃ m13 : Nat, I9 i_5 w6 m13) ∧ ∀ (j_10 : Int) (w11 : World) (m12 : Nat), I9 j_10 w11 m12 → ∀ _ : Env, (∀ (K14 : World → Prop), (∀  (w15 : World), (∀ _ : Env, (drw w15 fun w16 =>
  idx data_1 data_1n (IntKind.i64.wrap (j_10 - 1)) 1 fun p17 =>
  ∃ (x18 : Int), World.cell? w16 p17 = some (.int .i64 x18) ∧ (idx data_1 data_1n j_10 1 fun p19 =>
  ∃ (x20 : Int), World.cell? w16 p19 = some (.int .i64 x20) ∧ (idx data_1 data_1n j_10 1 fun p21 =>
  (stL w16 p21 0 [.int .i64 x18] fun w22 =>
  idx data_1 data_1n (IntKind.i64.wrap (j_10 - 1)) 1 fun p23 =>
  (stL w22 p23 0 [.int .i64 x20] fun w24 =>
  ∃ m25 : Nat, m25 < m12 ∧ I9 (IntKind.i64.wrap (j_10 - 1)) w24 m25) ∧ True) ∧ True)))) → K14 w15) → (drw w11 fun w26 =>
  br (decide ((a_2 : Int) < j_10)) (idx data_1 data_1n j_10 1 fun p27 =>
  ∃ (x28 : Int), World.cell? w26 p27 = some (.int .i64 x28) ∧ (idx data_1 data_1n (IntKind.i64.wrap (j_10 - 1)) 1 fun p29 =>
  ∃ (x30 : Int), World.cell? w26 p29 = some (.int .i64 x30) ∧ ((Calls Try.prog 109 ⟨[.int .i64 x28, .int .i64 x30]⟩ w26 fun (e31 : Ending) (w32 : World) =>
  ∃ (x33 : Bool), e31 = .returned (.bool x33) ∧ (br x33 (K14 w32) (∃ m34 : Nat, m34 < m7 ∧ I4 (IntKind.i64.wrap (i_5 + 1)) w32 m34))) ∧ True))) ((∃ m35 : Nat, m35 < m7 ∧ I4 (IntKind.i64.wrap (i_5 + 1)) w26 m35) ∧ True)))) (R (.returned (.tuple ⟨[]⟩)) w6))
set_option maxRecDepth 100000 in
theorem e_slices_insertionSortOrdered_of_int (data_1 : Option Addr) (data_1n : Nat) (data_1c : Nat) (a_2 : Int) (b_3 : Int) (R : Ending → World → Prop) (w : World) : fnV Try.prog Try.f103 an_slices_insertionSortOrdered_of_int [.slice data_1 data_1n data_1c, .int .i64 a_2, .int .i64 b_3] R w = sh_slices_insertionSortOrdered_of_int data_1 data_1n data_1c a_2 b_3 R w := by kernel_rfl
theorem c_slices_insertionSortOrdered_of_int {data_1 : Option Addr} {data_1n : Nat} {data_1c : Nat} {a_2 : Int} {b_3 : Int} {R : Ending → World → Prop} {w : World} (h : sh_slices_insertionSortOrdered_of_int data_1 data_1n data_1c a_2 b_3 R w) : Calls Try.prog F_slices_insertionSortOrdered_of_int ⟨[.slice data_1 data_1n data_1c, .int .i64 a_2, .int .i64 b_3]⟩ w R := calls_of_fnV Try.func103 (by rw [e_slices_insertionSortOrdered_of_int]; exact h)

def an_cmp_Less_of_int : Ann := .two (.leaf) (.two (.leaf) (.leaf))
def sh_cmp_Less_of_int (x_1 : Int) (y_2 : Int) (R : Ending → World → Prop) (w : World) : Prop :=
  Calls Try.prog 70 ⟨[.int .i64 x_1]⟩ w fun (e3 : Ending) (w4 : World) =>
  ∃ (x5 : Bool), e3 = .returned (.bool x5) ∧ (br x5 (Calls Try.prog 70 ⟨[.int .i64 y_2]⟩ w4 fun (e6 : Ending) (w7 : World) =>
  ∃ (x8 : Bool), e6 = .returned (.bool x8) ∧ (br (!x8) (R (.returned (.bool true)) w7) (R (.returned (.bool (decide ((x_1 : Int) < y_2)))) w7))) (R (.returned (.bool (decide ((x_1 : Int) < y_2)))) w4))
set_option maxRecDepth 100000 in
theorem e_cmp_Less_of_int (x_1 : Int) (y_2 : Int) (R : Ending → World → Prop) (w : World) : fnV Try.prog Try.f109 an_cmp_Less_of_int [.int .i64 x_1, .int .i64 y_2] R w = sh_cmp_Less_of_int x_1 y_2 R w := by kernel_rfl
theorem c_cmp_Less_of_int {x_1 : Int} {y_2 : Int} {R : Ending → World → Prop} {w : World} (h : sh_cmp_Less_of_int x_1 y_2 R w) : Calls Try.prog F_cmp_Less_of_int ⟨[.int .i64 x_1, .int .i64 y_2]⟩ w R := calls_of_fnV Try.func109 (by rw [e_cmp_Less_of_int]; exact h)

def an_charset_Kind : Ann := .two (.leaf) (.two (.one (.cut 262136 [(3, .one (.bool))] (.leaf) (.two (.two (.leaf) (.leaf)) (.cut 536608768 [(18, .one (.bool))] (.leaf) (.two (.two (.leaf) (.leaf)) (.cut 68182605824 [(29, .one (.bool))] (.leaf) (.two (.two (.leaf) (.leaf)) (.two (.leaf) (.two (.two (.leaf) (.leaf)) (.two (.leaf) (.two (.two (.leaf) (.leaf)) (.two (.leaf) (.two (.two (.leaf) (.leaf)) (.leaf)))))))))))))) (.two (.leaf) (.leaf)))
def sh_charset_Kind (c_1 : Int) (R : Ending → World → Prop) (w : World) : Prop :=
  ∀ (K2 : Bool → World → Prop), (∀ (t3_3 : Bool) (w4 : World), (∀ _ : Env, (br t3_3 (R (.returned (.int .i64 1)) w4) (∀ (K5 : Bool → World → Prop), (∀ (t18_6 : Bool) (w7 : World), (∀ _ : Env, (br t18_6 (R (.returned (.int .i64 2)) w7) (∀ (K8 : Bool → World → Prop), (∀ (t29_9 : Bool) (w10 : World), (∀ _ : Env, (br t29_9 (R (.returned (.int .i64 3)) w10) (br (decide ((c_1 : Int) = 39)) (R (.returned (.int .i64 4)) w10) (br (decide ((c_1 : Int) = 32)) (R (.returned (.int .i64 6)) w10) (br (decide ((c_1 : Int) ≠ 0)) (Calls Try.prog 116 ⟨[.string ⟨⟨[46, 44, 59, 58, 33, 63, 40, 41, 45]⟩⟩, .int .u8 c_1]⟩ w10 fun (e11 : Ending) (w12 : World) =>
  ∃ (x13 : Int), e11 = .returned (.int .i64 x13) ∧ (br (decide ((0 : Int) ≤ x13)) (R (.returned (.int .i64 5)) w12) (R (.returned (.int .i64 0)) w12))) (R (.returned (.int .i64 0)) w10)))))) → K8 t29_9 w10) → (br (decide ((48 : Int) ≤ c_1)) (K8 (decide ((c_1 : Int) ≤ 57)) w7) (K8 false w7))))) → K5 t18_6 w7) → (br (decide ((c_1 : Int) = 94)) (K5 true w4) (br (decide ((c_1 : Int) = 126)) (K5 true w4) (K5 (decide ((c_1 : Int) = 37)) w4)))))) → K2 t3_3 w4) → (br (decide ((97 : Int) ≤ c_1)) (br (decide ((c_1 : Int) ≤ 122)) (K2 true w) (br (decide ((65 : Int) ≤ c_1)) (K2 (decide ((c_1 : Int) ≤ 90)) w) (K2 false w))) (br (decide ((65 : Int) ≤ c_1)) (K2 (decide ((c_1 : Int) ≤ 90)) w) (K2 false w)))
set_option maxRecDepth 100000 in
theorem e_charset_Kind (c_1 : Int) (R : Ending → World → Prop) (w : World) : fnV Try.prog Try.f112 an_charset_Kind [.int .u8 c_1] R w = sh_charset_Kind c_1 R w := by kernel_rfl
theorem c_charset_Kind {c_1 : Int} {R : Ending → World → Prop} {w : World} (h : sh_charset_Kind c_1 R w) : Calls Try.prog F_charset_Kind ⟨[.int .u8 c_1]⟩ w R := calls_of_fnV Try.func112 (by rw [e_charset_Kind]; exact h)

end Go.Proofs
