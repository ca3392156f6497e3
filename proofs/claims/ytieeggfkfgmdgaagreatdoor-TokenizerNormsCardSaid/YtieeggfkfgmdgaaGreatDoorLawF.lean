/- The contracts of the functions that the law reaches, one after the other, and at the end the law's card. -/
import Derived.Test.YtieeggfkfgmdgaaGreatDoorLawE
import Derived.Lib.Replace
namespace Go.Proofs
open Go Go.Sh Go.RowKit

section
variable {R : Ending → World → Prop} {w : World}
theorem tok_get {S : Nat → Prop} {a : Option Addr} {n i : Nat} {l : List Tok} {x : Tok} (hR : RowAt encTk S w a n l) (hi : l[i]? = some x) :
    ∃ q : Addr, (∀ K : Addr → Prop, K q → idx a n (i : Int) 6 K) ∧ w.cell? (q.add 0) = some (.string ⟨⟨x.t⟩⟩) ∧ w.cell? (q.add 1) = some (.string ⟨⟨x.m⟩⟩) ∧ w.cell? (q.add 2) = some (.string ⟨⟨x.p.1⟩⟩) ∧ w.cell? (q.add 3) = some (.int .i64 x.p.2) ∧ w.cell? (q.add 4) = some (.int .i64 x.g) ∧ w.cell? (q.add 5) = some (.string ⟨⟨x.a⟩⟩) := by
  obtain ⟨b, o, hq, _, _, hc⟩ := hR.get hi
  refine ⟨⟨b, o, none⟩, hq, ?_⟩
  simp only [add_none]
  exact ⟨hc 0 _ rfl, hc 1 _ rfl, hc 2 _ rfl, hc 3 _ rfl, hc 4 _ rfl, hc 5 _ rfl⟩
theorem one6t (x : Tok) : ∀ u ∈ ([.string ⟨⟨x.t⟩⟩, .string ⟨⟨x.m⟩⟩, .string ⟨⟨x.p.1⟩⟩, .int .i64 x.p.2, .int .i64 x.g, .string ⟨⟨x.a⟩⟩] : List Value), u.oneCell' = true := by
  intro u hu; simp only [List.mem_cons, List.not_mem_nil, or_false] at hu; rcases hu with rfl | rfl | rfl | rfl | rfl | rfl <;> rfl
set_option maxRecDepth 20000 in
theorem Words_spec {S : Nat → Prop} {a : Option Addr} {n c : Nat} (l : List Tok) (hR : RowAt encTk S w a n l) (hn : n ≤ 1000000000) (h : ∀ a' c' w', OwnL Sh.encStr w' w.heap.size 9 a' n c' (txs l) → Ext w w' → R (.returned (.slice a' n c')) w') :
    Calls Tryz.prog F_tokenizer_Words ⟨[.slice a n c]⟩ w R := by
  apply c_tokenizer_Words
  have hln := hR.1
  refine ⟨fun oa on oc i W m => ∃ k : Nat, i = k ∧ k ≤ n ∧ m = n - k ∧ on = k ∧ Ext w W ∧ OwnL Sh.encStr W w.heap.size 9 oa on oc (txs (l.take k)), ⟨_, 0, rfl, by omega, rfl, rfl, Below.refl _ _, Owns.nil _ _ _ _⟩, ?_⟩
  rintro oa on oc _ W m ⟨k, rfl, hk, rfl, rfl, he, hO⟩ _
  refine br_split (fun hlt => ?_) (fun hge => ?_)
  · have hkl : on < l.length := by omega
    obtain ⟨q, hq, c0, c1, c2, c3, c4, c5⟩ := tok_get (hR.ext he) (show l[on]? = some l[on] by simp [hkl])
    refine hq _ ⟨_, c0, _, c1, _, c2, _, c3, _, c4, _, c5, ?_⟩
    refine al_stL rfl (one6t _) fun b15 w17 hb15 B15 e17 s17 => ⟨_, (blk6' B15).1, ?_⟩
    refine al_intro fun b19 w20 hb19 B19 e20 s20 => ?_
    have E20 := ext_trans e17 e20
    have B19' : Blk w20 b19 (Sh.encStr.enc l[on].t) 9 := B19
    have z20 := (ext_trans he E20).size
    refine OwnL.app1 (P := Tryz.prog) slT_strT (Owns.ext hO E20) (by omega) B19' (by omega) (by omega) fun a' c'' w22 ho hcg hn2 => ?_
    refine ⟨n - (on + 1), by omega, on + 1, by rw [wrap_nat (by omega)], by omega, rfl, rfl, ext_chgS (ext_trans he E20) hcg fun k hk => ?_, ?_⟩
    · exact ((Owns.ext hO E20).bk hk).1
    · have e : txs (l.take (on + 1)) = txs (l.take on) ++ [l[on].t] := by unfold txs; rw [List.take_succ_eq_append_getElem hkl, List.map_append]; rfl
      rw [e]; exact ho
  · have hkn : on = n := by omega
    subst hkn
    rw [List.take_of_length_le (by omega)] at hO
    exact h oa oc W hO he
theorem text15_spec (s : List UInt8) (h : ∀ w', Ext w w' → R (.returned (.agg ⟨[.int .i64 1, .string ⟨⟨s⟩⟩, .int .i64 0, .slice none 0 0]⟩)) w') : Calls Tryz.prog F_law15_text ⟨[.string ⟨⟨s⟩⟩]⟩ w R := by
  apply c_law15_text
  refine al_stL rfl (by intro u hu; simp only [List.mem_cons, List.not_mem_nil, or_false] at hu; rcases hu with rfl | rfl | rfl | rfl <;> rfl) fun b w' hb B e s => ?_
  obtain ⟨y0, y1, y2, y3⟩ := blk4 B
  exact ⟨_, y0, _, y1, _, y2, _, _, _, y3, h w' e⟩
theorem tkget_str {S : Nat → Prop} {w : World} {a : Option Addr} {n : Nat} {L : List (List UInt8)} (h : RowAt Sh.encStr S w a n L) {k : Nat} (hk : k < L.length) :
    ∃ q : Addr, (∀ K : Addr → Prop, K q → idx a n (k : Int) 1 K) ∧ w.cell? q = some (.string ⟨⟨L[k]⟩⟩) := by
  obtain ⟨bb, o, hq, _, _, hc⟩ := h.get (i := k) (x := L[k]) (List.getElem?_eq_getElem hk)
  exact ⟨⟨bb, o, none⟩, hq, hc 0 _ rfl⟩
set_option maxRecDepth 20000 in
theorem EqStr_spec {S S' : Nat → Prop} {a a' : Option Addr} {n n' c c' : Nat} (L M : List (List UInt8)) (hL : RowAt Sh.encStr S w a n L) (hM : RowAt Sh.encStr S' w a' n' M) (hb : L.length ≤ 1000000000) (h : ∀ w', Ext w w' → R (.returned (.bool (decide (L = M)))) w') :
    Calls Tryz.prog F_slices_Equal_of_string_string ⟨[.slice a n c, .slice a' n' c']⟩ w R := by
  apply c_slices_Equal_of_string_string
  have hn : n = L.length := hL.1
  have hn' : n' = M.length := hM.1
  refine br_split (fun g => ?_) (fun g => ?_)
  · have : decide (L = M) = false := decide_eq_false (fun e => g (by rw [hn, hn', e]))
    rw [← this]; exact h w (Below.refl _ _)
  refine ⟨fun t W m => ∃ k : Nat, t = k ∧ k ≤ n ∧ m = n - k ∧ L.take k = M.take k ∧ Ext w W, ⟨_, 0, rfl, by omega, rfl, rfl, Below.refl _ _⟩, ?_⟩
  rintro _ W m ⟨k, rfl, hk, rfl, heq, he⟩ _
  have hnn : L.length = M.length := by omega
  refine br_split (fun hlt => ?_) (fun hge => ?_)
  · have hkL : k < L.length := by omega
    have hkM : k < M.length := by omega
    unfold drw
    have Ed := ext_trans he (ext_drew W)
    obtain ⟨q, hq, c0⟩ := tkget_str (hL.ext Ed) hkL
    obtain ⟨q', hq', d0⟩ := tkget_str (hM.ext Ed) hkM
    refine hq _ ⟨_, c0, hq' _ ⟨_, d0, br_split (fun g2 => ?_) (fun g2 => ?_)⟩⟩
    · have : decide (L = M) = false := decide_eq_false (fun e => g2 (by subst e; rfl))
      rw [← this]; exact h _ Ed
    · refine ⟨n - (k + 1), by omega, k + 1, by rw [wrap_nat (by omega)], by omega, rfl, ?_, Ed⟩
      rw [List.take_succ_eq_append_getElem hkL, List.take_succ_eq_append_getElem hkM, heq, Classical.not_not.1 g2]
  · have hkn : k = L.length := by omega
    have : decide (L = M) = true := decide_eq_true (by
      rw [List.take_of_length_le (by omega), List.take_of_length_le (by omega)] at heq; exact heq)
    rw [← this]; exact h W he
/- equal lists of tokens -/
def eqTk (x y : Tok) : Bool := decide (x.t = y.t) && (decide (x.m = y.m) && ((decide (x.p.1 = y.p.1) && (decide (x.p.2 = y.p.2) && true)) && (decide (x.g = y.g) && (decide (x.a = y.a) && true))))
theorem eqTk_iff (x y : Tok) : eqTk x y = true ↔ x = y := by
  obtain ⟨t, m, ⟨p, q⟩, g, a⟩ := x
  obtain ⟨t', m', ⟨p', q'⟩, g', a'⟩ := y
  simp [eqTk, and_assoc]
instance (x y : Tok) : Decidable (x = y) := decidable_of_iff _ (eqTk_iff x y)
set_option maxRecDepth 20000 in
theorem EqualTk_spec {S S' : Nat → Prop} {a a' : Option Addr} {n n' c c' : Nat} (L M : List Tok) (hL : RowAt encTk S w a n L) (hM : RowAt encTk S' w a' n' M) (hb : n ≤ 1000000000) (h : ∀ w', Ext w w' → R (.returned (.bool (decide (L = M)))) w') :
    Calls Tryz.prog F_slices_Equal_of_api_Token_api_Token ⟨[.slice a n c, .slice a' n' c']⟩ w R := by
  apply c_slices_Equal_of_api_Token_api_Token
  have h1 := hL.1
  have h2 := hM.1
  refine br_split (fun g => ?_) (fun g => ?_)
  · rw [decide_eq_false (fun hh => g (by rw [h1, h2, hh]))] at h
    exact h w (Below.refl _ _)
  refine ⟨fun i W m => ∃ k : Nat, i = k ∧ k ≤ n ∧ m = n - k ∧ L.take k = M.take k ∧ Ext w W, ⟨_, 0, rfl, by omega, rfl, rfl, Below.refl _ _⟩, ?_⟩
  rintro _ W m ⟨k, rfl, hk, rfl, ht, he⟩ _
  refine br_split (fun hlt => ?_) (fun hge => ?_)
  · have hkL : k < L.length := by omega
    have hkM : k < M.length := by omega
    unfold drw
    have ed := ext_drew W
    have hd := ext_trans he ed
    generalize W.drew = Wd at *
    obtain ⟨q, hq, c0, c1, c2, c3, c4, c5⟩ := tok_get (hL.ext hd) (show L[k]? = some L[k] by simp [hkL])
    obtain ⟨q', hq', d0, d1, d2, d3, d4, d5⟩ := tok_get (hM.ext hd) (show M[k]? = some M[k] by simp [hkM])
    refine hq _ ⟨_, c0, _, c1, _, c2, _, c3, _, c4, _, c5, hq' _ ⟨_, d0, _, d1, _, d2, _, d3, _, d4, _, d5, ?_⟩⟩
    show br (!eqTk L[k] M[k]) _ _
    refine br_cases (fun g1 => ?_) (fun g1 => ?_)
    · have hne : L[k] ≠ M[k] := fun hh => by rw [(eqTk_iff _ _).2 hh] at g1; cases g1
      rw [decide_eq_false (fun hh => hne (by subst hh; rfl))] at h
      exact h _ hd
    · have heq : L[k] = M[k] := (eqTk_iff _ _).1 (by rw [Bool.not_eq_false'] at g1; exact g1)
      refine ⟨n - (k + 1), by omega, k + 1, by rw [wrap_nat (by omega)], by omega, rfl, ?_, hd⟩
      rw [List.take_succ_eq_append_getElem hkL, List.take_succ_eq_append_getElem hkM, ht, heq]
  · rw [List.take_of_length_le (by omega), List.take_of_length_le (by omega)] at ht
    rw [decide_eq_true ht] at h
    exact h _ he
/- a plain string's tokens -/
def splE (s : List UInt8) : Int := if checkC s ≠ 0 then checkC s else if s = [] then 0 else tksE ([], 0) (.one 1 s 0 .nil) []
def splR (s : List UInt8) : List (List UInt8) := if checkC s ≠ 0 then [] else if s = [] then [] else txs (tksR ([], 0) (.one 1 s 0 .nil) [])
theorem tks_len (p : Ps) (f : Fo) (rs : List Rw) : (tksR p f rs).length ≤ 1024 := by
  by_cases h : tksE p f rs = 0
  · obtain ⟨h1, h2⟩ := tks_ok h
    have := h1.lg
    unfold longT at this
    rw [Bool.or_eq_false_iff, decide_eq_false_iff_not] at this
    rw [h2, List.length_map]; omega
  · unfold tksR; rw [if_pos h]; exact Nat.zero_le _
theorem one_slf {b : Nat} {s : List UInt8} {T : TypeId} (hb : Blk w b [.int .i64 1, .string ⟨⟨s⟩⟩, .int .i64 0, .slice none 0 0] T) : SlF (fun _ => True) w (some ⟨b, 0, none⟩) 1 (.one 1 s 0 .nil) :=
  ⟨rfl, _, .inr ⟨b, 0, rfl, trivial, hb.lt, fun j v hj => by rw [Nat.zero_add, hb.cell]; exact hj⟩, none, 0, [], [], rfl, .inl rfl, rfl, rfl⟩
theorem one_small (k : Int) (s : List UInt8) (n : Int) : small (.one k s n .nil) := by unfold small Fo.one; simp [Fo.size]
theorem rules_none (S : Nat → Prop) (v : World) : RowAt encRw S v none 0 [] := RowAt.nil none
theorem smallR_nil : smallR [] := fun x hx => by cases hx
set_option maxRecDepth 20000 in
theorem Split_spec (s : List UInt8) (hs : s.length ≤ 4611686018427387904) (hF : Forms w) (h : ∀ a' n' c' w', n' = (splR s).length → OwnL Sh.encStr w' w.heap.size 9 a' n' c' (splR s) → Ext w w' → R (.returned (.tuple ⟨[.slice a' n' c', .int .i64 (splE s)]⟩)) w') :
    Calls Tryz.prog F_tokenizer_Split ⟨[.string ⟨⟨s⟩⟩]⟩ w R := by
  apply c_tokenizer_Split
  refine Check_spec s fun w3 e3 => ⟨_, rfl, br_split (fun g => ?_) (fun g => br_split (fun g2 => ?_) (fun g2 => ?_))⟩
  · have hE : splE s = checkC s := by unfold splE; rw [if_pos g]
    have hR : splR s = [] := by unfold splR; rw [if_pos g]
    rw [hE, hR] at h
    exact h none 0 0 w3 rfl (Owns.nil _ _ _ _) e3
  · have hE : splE s = 0 := by unfold splE; rw [if_neg g, if_pos g2]
    have hR : splR s = [] := by unfold splR; rw [if_neg g, if_pos g2]
    rw [hE, hR] at h
    exact h none 0 0 w3 rfl (Owns.nil _ _ _ _) e3
  · have hE : splE s = tksE ([], 0) (.one 1 s 0 .nil) [] := by unfold splE; rw [if_neg g, if_neg g2]
    have hR : splR s = txs (tksR ([], 0) (.one 1 s 0 .nil) []) := by unfold splR; rw [if_neg g, if_neg g2]
    refine al_intro fun b5 w6 hb5 B5 e6 s6 => ?_
    have E6 := ext_trans e3 e6
    refine Tokens_spec (S := fun _ => True) (S2 := fun _ => True) ([], 0) (.one 1 s 0 .nil) [] (one_small _ _ _) (hF.ext E6) (one_slf B5) smallR_nil (rules_none _ _) fun a' n' c' w8 hn ho e8 => ⟨_, _, _, _, rfl, ?_⟩
    have hl := tks_len ([], 0) (.one 1 s 0 .nil) []
    have E8 := ext_trans E6 e8
    refine Words_spec (tksR ([], 0) (.one 1 s 0 .nil) []) (OwnL.out ho) (by omega) fun a2 c2 w12 ho2 e12 => ⟨_, _, _, rfl, ?_⟩
    rw [← hE]
    have hz := E8.size
    refine h a2 n' c2 w12 ?_ ?_ (ext_trans E8 e12)
    · rw [hR, hn]; unfold txs; rw [List.length_map]
    · rw [hR]; exact Owns.weak ho2 hz
end
end Go.Proofs
namespace Go.Proofs
open Go Go.Sh Go.RowKit

/- the examples -/
def cutC (p : Ps) (f : Fo) : List Tok := shut ((amsF p f false []).foldl addB bs0)
theorem cutT_eq (p : Ps) (f : Fo) : cutT p f = cutC p f := (fold_tok _).symm
theorem tks_val {p : Ps} {f : Fo} {rs : List Rw} {L : List Tok} (h1 : checkT f = 0) (h2 : ruleE rs = 0) (h3 : 0 ≤ p.2 ∧ p.2 ≤ 4096) (h4 : namedB p.1 = true) (h5 : cntF 8 f + cntF 9 f = 0) (h6 : cutC p f = L) (h7 : longT L = false) (h8 : nrmE rs L = 0) :
    tksE p f rs = 0 ∧ tksR p f rs = L.map (nrmT rs) := by
  have he : tksE p f rs = 0 := by
    unfold tksE
    rw [cutT_eq, h6, if_neg (by rw [h1, h2]; simp), if_neg (by omega), if_neg (by rw [h4]; simp), if_neg (by omega), if_neg (by rw [h7]; simp), h8]
  refine ⟨he, ?_⟩
  rw [(tks_ok he).2, cutT_eq, h6]
def aw1 : Fo := .cons 1 [68, 101] 0 .nil (.cons 2 [] 0 .nil (.one 1 [117, 115, 32, 101, 115, 116, 44] 0 .nil))
def aw2 : Fo := .cons 1 [109, 97] 0 .nil (.cons 6 [] 2 .nil (.one 1 [117, 115] 0 .nil))
def aw3 : List UInt8 := [97, 98, 39, 99, 32, 39, 100]
def awL : List Tok := [⟨[68, 101, 117, 115], [68, 101, 117, 115], ([], 0), 0, []⟩, ⟨[101, 115, 116], [101, 115, 116], ([], 1), 0, []⟩, ⟨[44], [44], ([], 1), 24, []⟩]
theorem aw1_val : tksE ([], 0) aw1 [] = 0 ∧ tksR ([], 0) aw1 [] = awL := by
  have h := tks_val (p := ([], 0)) (f := aw1) (rs := []) (L := [⟨[68, 101, 117, 115], [], ([], 0), 0, []⟩, ⟨[101, 115, 116], [], ([], 1), 0, []⟩, ⟨[44], [], ([], 1), 24, []⟩])
    (by decide +kernel) (by decide +kernel) (by decide) (by decide +kernel) (by decide +kernel) (by decide +kernel) (by decide +kernel) (by decide +kernel)
  refine ⟨h.1, h.2.trans ?_⟩
  decide +kernel
theorem aw2_val : tksE ([], 0) aw2 [] = 0 ∧ ∃ x y z : Tok, tksR ([], 0) aw2 [] = [x, y, z] ∧ y.t = [91, 50, 93] ∧ z.g = 16 := by
  have h := tks_val (p := ([], 0)) (f := aw2) (rs := []) (L := [⟨[109, 97], [], ([], 0), 0, []⟩, ⟨[91, 50, 93], [], ([], 0), 18, []⟩, ⟨[117, 115], [], ([], 0), 16, []⟩])
    (by decide +kernel) (by decide +kernel) (by decide) (by decide +kernel) (by decide +kernel) (by decide +kernel) (by decide +kernel) (by decide +kernel)
  exact ⟨h.1, _, _, _, h.2, rfl, rfl⟩
theorem aw3_val : splE aw3 = 0 ∧ splR aw3 = [[97, 98, 39, 99], [39], [100]] := by
  have h := tks_val (p := ([], 0)) (f := .one 1 aw3 0 .nil) (rs := []) (L := [⟨[97, 98, 39, 99], [], ([], 0), 0, []⟩, ⟨[39], [], ([], 0), 8, []⟩, ⟨[100], [], ([], 0), 16, []⟩])
    (by decide +kernel) (by decide +kernel) (by decide) (by decide +kernel) (by decide +kernel) (by decide +kernel) (by decide +kernel) (by decide +kernel)
  have hc : checkC aw3 = 0 := by decide +kernel
  refine ⟨?_, ?_⟩
  · unfold splE; rw [if_neg (by rw [hc]; simp), if_neg (by decide)]; exact h.1
  · unfold splR; rw [if_neg (by rw [hc]; simp), if_neg (by decide), h.2]; rfl
section
variable {R : Ending → World → Prop} {w : World}
theorem foC3 {S : Nat → Prop} {k1 k2 k3 n1 n2 n3 : Int} {t1 t2 t3 : List UInt8} {b : Nat} {T : TypeId} (hb : Blk w b [.int .i64 k1, .string ⟨⟨t1⟩⟩, .int .i64 n1, .slice none 0 0, .int .i64 k2, .string ⟨⟨t2⟩⟩, .int .i64 n2, .slice none 0 0, .int .i64 k3, .string ⟨⟨t3⟩⟩, .int .i64 n3, .slice none 0 0] T) :
    SlF (fun _ => True) w (some ⟨b, 0, none⟩) 3 (.cons k1 t1 n1 .nil (.cons k2 t2 n2 .nil (.one k3 t3 n3 .nil))) :=
  ⟨rfl, _, .inr ⟨b, 0, rfl, trivial, hb.lt, fun j v hj => by rw [Nat.zero_add, hb.cell]; exact hj⟩, none, 0, [], _, rfl, .inl rfl, rfl, none, 0, [], _, rfl, .inl rfl, rfl, none, 0, [], [], rfl, .inl rfl, rfl, rfl⟩
theorem small_aw (k1 k2 k3 n1 n2 n3 : Int) (t1 t2 t3 : List UInt8) : small (.cons k1 t1 n1 .nil (.cons k2 t2 n2 .nil (.one k3 t3 n3 .nil))) := by unfold small Fo.one; simp [Fo.size]
set_option maxRecDepth 20000 in
theorem awake15_spec (hF : Forms w) (h : ∀ w', Ext w w' → R (.returned (.bool true)) w') : Calls Tryz.prog F_law15_awake ⟨[]⟩ w R := by
  apply c_law15_awake
  refine text15_spec _ fun w2 e2 => ⟨_, _, _, _, _, _, rfl, ?_⟩
  refine text15_spec _ fun w8 e8 => ⟨_, _, _, _, _, _, rfl, ?_⟩
  refine al_intro fun b13 w14 hb13 B13 e14 s14 => ?_
  have E14 := ext_trans (ext_trans e2 e8) e14
  obtain ⟨v1, v2⟩ := aw1_val
  obtain ⟨u1, x, y, z, u2, u3, u4⟩ := aw2_val
  obtain ⟨t1, t2⟩ := aw3_val
  have B13' : Blk w14 b13 [.int .i64 1, .string ⟨⟨[68, 101]⟩⟩, .int .i64 0, .slice none 0 0, .int .i64 2, .string ⟨⟨[]⟩⟩, .int .i64 0, .slice none 0 0, .int .i64 1, .string ⟨⟨[117, 115, 32, 101, 115, 116, 44]⟩⟩, .int .i64 0, .slice none 0 0] 64 := B13
  refine Tokens_spec (S := fun _ => True) (S2 := fun _ => True) ([], 0) aw1 [] (small_aw _ _ _ _ _ _ _ _ _) (hF.ext E14) (foC3 (S := fun _ => True) B13') smallR_nil (rules_none _ _) fun a1 n1 c1 w16 hn1 ho1 e16 => ⟨_, _, _, _, rfl, ?_⟩
  have E16 := ext_trans E14 e16
  refine Split_spec aw3 (by decide) (hF.ext E16) fun a2 n2 c2 w20 hn2 ho2 e20 => ⟨_, _, _, _, rfl, ?_⟩
  have E20 := ext_trans E16 e20
  refine text15_spec _ fun w24 e24 => ⟨_, _, _, _, _, _, rfl, ?_⟩
  refine text15_spec _ fun w30 e30 => ⟨_, _, _, _, _, _, rfl, ?_⟩
  refine al_intro fun b35 w36 hb35 B35 e36 s36 => ?_
  have F36 := ext_trans (ext_trans e24 e30) e36
  have E36 := ext_trans E20 F36
  have B35' : Blk w36 b35 [.int .i64 1, .string ⟨⟨[109, 97]⟩⟩, .int .i64 0, .slice none 0 0, .int .i64 6, .string ⟨⟨[]⟩⟩, .int .i64 2, .slice none 0 0, .int .i64 1, .string ⟨⟨[117, 115]⟩⟩, .int .i64 0, .slice none 0 0] 64 := B35
  refine Tokens_spec (S := fun _ => True) (S2 := fun _ => True) ([], 0) aw2 [] (small_aw _ _ _ _ _ _ _ _ _) (hF.ext E36) (foC3 (S := fun _ => True) B35') smallR_nil (rules_none _ _) fun a3 n3 c3 w38 hn3 ho3 e38 => ⟨_, _, _, _, rfl, ?_⟩
  have E38 := ext_trans E36 e38
  rw [v1, t1, u1]
  rw [v2] at ho1 hn1
  rw [t2] at ho2 hn2
  rw [u2] at ho3 hn3
  have hr1 := (((OwnL.out ho1).ext e20).ext F36).ext e38
  have hr2 := ((OwnL.out ho2).ext F36).ext e38
  have hr3 := OwnL.out ho3
  intro K41 hK41
  have k41 : ∀ w42, Ext w38 w42 → K41 w42 := by
    intro w42 e42
    refine hK41 _ fun _ => ?_
    refine al_stL rfl (by intro u hu; simp only [List.mem_cons, List.not_mem_nil, or_false] at hu; rcases hu with rfl | rfl <;> rfl) fun b43 w45 hb43 B43 e45 s45 => ?_
    obtain ⟨p0, p1⟩ := blk2' B43
    refine ⟨_, p0, _, p1, _, p0, _, p1, ?_⟩
    refine al_intro fun b50 w51 hb50 B50 e51 s51 => ?_
    have F51 := ext_trans (ext_trans e42 e45) e51
    have hrow : RowAt encTk (fun _ => True) w51 (some ⟨b50, 0, none⟩) 3 awL := ⟨rfl, .inr ⟨b50, 0, rfl, trivial, B50.lt, fun j v hj => by rw [Nat.zero_add, B50.cell]; exact hj⟩⟩
    refine EqualTk_spec awL awL (hr1.ext F51) hrow (by rw [hn1]; decide) fun w53 e53 => ⟨_, rfl, ?_⟩
    rw [decide_eq_true rfl]
    exact h w53 (ext_trans (ext_trans E38 F51) e53)
  refine br_split (fun hh => absurd (by decide) hh) (fun _ => ?_)
  refine al_intro fun b55 w56 hb55 B55 e56 s56 => ?_
  have hrow : RowAt Sh.encStr (fun _ => True) w56 (some ⟨b55, 0, none⟩) 3 [[97, 98, 39, 99], [39], [100]] := ⟨rfl, .inr ⟨b55, 0, rfl, trivial, B55.lt, fun j v hj => by rw [Nat.zero_add, B55.cell]; exact hj⟩⟩
  refine EqStr_spec [[97, 98, 39, 99], [39], [100]] [[97, 98, 39, 99], [39], [100]] (hr2.ext e56) hrow (by decide) fun w58 e58 => ⟨_, rfl, ?_⟩
  rw [decide_eq_true rfl]
  simp only [Bool.not_true, br_f]
  refine br_split (fun hh => absurd (by rw [hn3]; rfl) hh) (fun _ => ?_)
  have hr3' := (hr3.ext e56).ext e58
  obtain ⟨q, hq, d0, d1, d2, d3, d4, d5⟩ := tok_get hr3' (show [x, y, z][1]? = some y from rfl)
  refine hq _ ⟨_, d0, br_split (fun hh => absurd u3 hh) (fun _ => ?_)⟩
  obtain ⟨q', hq', f0, f1, f2, f3, f4, f5⟩ := tok_get hr3' (show [x, y, z][2]? = some z from rfl)
  exact hq' _ ⟨_, f4, br_split (fun hh => absurd u4 hh) (fun _ => k41 w58 (ext_trans e56 e58))⟩
/- sizes -/
def gr1 (x : Rw) : Bool := (decide (8 < x.1.length) && decide (x.1.length ≤ 64)) || ((decide (8 < x.2.length) && decide (x.2.length ≤ 64)) || (decide (66 < x.1.length) || decide (66 < x.2.length)))
def greatRu (l : List Rw) : Bool := ((decide (5 < l.length) && decide (l.length ≤ 64)) || decide (66 < l.length)) || l.any gr1
set_option maxRecDepth 20000 in
theorem GreatRules_spec {S : Nat → Prop} {a : Option Addr} {n c : Nat} (rs : List Rw) (hR : RowAt encRw S w a n rs) (h : R (.returned (.bool (greatRu rs))) w) : Calls Tryz.prog F_ref15_GreatRules ⟨[.slice a n c]⟩ w R := by
  apply c_ref15_GreatRules
  have hn := hR.1
  intro K2 hK2
  have k2 : ((decide (5 < rs.length) && decide (rs.length ≤ 64)) || decide (66 < rs.length)) = false → K2 w := by
    intro hno
    have h66 : rs.length ≤ 66 := by simp at hno; omega
    have hE : greatRu rs = rs.any gr1 := by unfold greatRu; rw [hno, Bool.false_or]
    rw [hE] at h
    refine hK2 _ fun _ => ?_
    refine ⟨fun i W m => ∃ k : Nat, i = k ∧ k ≤ n ∧ m = n - k ∧ (rs.take k).any gr1 = false ∧ W = w, ⟨_, 0, rfl, by omega, rfl, rfl, rfl⟩, ?_⟩
    rintro _ W m ⟨k, rfl, hk, rfl, hz, rfl⟩ _
    refine br_split (fun hlt => ?_) (fun hge => ?_)
    · have hkl : k < rs.length := by omega
      obtain ⟨b, o, hq, _, _, hc⟩ := hR.get (show rs[k]? = some rs[k] by simp [hkl])
      have c0 : W.cell? ((⟨b, o, none⟩ : Addr).add 0) = some (.string ⟨⟨rs[k].1⟩⟩) := by rw [add_none]; exact hc 0 _ rfl
      have c1 : W.cell? ((⟨b, o, none⟩ : Addr).add 1) = some (.string ⟨⟨rs[k].2⟩⟩) := by rw [add_none]; exact hc 1 _ rfl
      have yes : gr1 rs[k] = true → R (.returned (.bool true)) W := fun hg => by
        have : rs.any gr1 = true := List.any_eq_true.2 ⟨_, List.getElem_mem hkl, hg⟩
        rw [this] at h; exact h
      have no : gr1 rs[k] = false → ∃ m', m' < n - k ∧ ∃ k' : Nat, IntKind.i64.wrap ((k : Int) + 1) = k' ∧ k' ≤ n ∧ m' = n - k' ∧ (rs.take k').any gr1 = false ∧ W = W := fun hg =>
        ⟨n - (k + 1), by omega, k + 1, by rw [wrap_nat (by omega)], by omega, rfl, by rw [List.take_succ_eq_append_getElem hkl, List.any_append, hz]; simp [hg], rfl⟩
      generalize rs[k] = x at *
      refine hq _ ⟨_, c0, br_split (fun g1 => hq _ ⟨_, c0, br_split (fun g2 => yes (by unfold gr1; simp; omega)) (fun g2 => hq _ ⟨_, c1, br_split (fun g3 => hq _ ⟨_, c1, br_split (fun g4 => yes (by unfold gr1; simp; omega)) (fun g4 => hq _ ⟨_, c0, br_split (fun g5 => yes (by unfold gr1; simp; omega)) (fun g5 => hq _ ⟨_, c1, br_split (fun g6 => yes (by unfold gr1; simp; omega)) (fun g6 => no (by unfold gr1; simp; omega))⟩)⟩)⟩)
        (fun g3 => hq _ ⟨_, c0, br_split (fun g5 => yes (by unfold gr1; simp; omega)) (fun g5 => hq _ ⟨_, c1, br_split (fun g6 => yes (by unfold gr1; simp; omega)) (fun g6 => no (by unfold gr1; simp; omega))⟩)⟩)⟩)⟩) (fun g1 => hq _ ⟨_, c1, br_split (fun g3 => hq _ ⟨_, c1, br_split (fun g4 => yes (by unfold gr1; simp; omega)) (fun g4 => hq _ ⟨_, c0, br_split (fun g5 => yes (by unfold gr1; simp; omega)) (fun g5 => hq _ ⟨_, c1, br_split (fun g6 => yes (by unfold gr1; simp; omega)) (fun g6 => no (by unfold gr1; simp; omega))⟩)⟩)⟩)
        (fun g3 => hq _ ⟨_, c0, br_split (fun g5 => yes (by unfold gr1; simp; omega)) (fun g5 => hq _ ⟨_, c1, br_split (fun g6 => yes (by unfold gr1; simp; omega)) (fun g6 => no (by unfold gr1; simp; omega))⟩)⟩)⟩)⟩
    · rw [List.take_of_length_le (by omega)] at hz
      rw [hz] at h
      exact h
  have tr : ((decide (5 < rs.length) && decide (rs.length ≤ 64)) || decide (66 < rs.length)) = true → R (.returned (.bool true)) w := fun hh => by
    have : greatRu rs = true := by unfold greatRu; rw [hh, Bool.true_or]
    rw [this] at h; exact h
  refine br_split (fun g1 => br_split (fun g2 => tr (by simp; omega)) (fun g2 => br_split (fun g3 => tr (by simp; omega)) (fun g3 => k2 (by simp; omega)))) (fun g1 => br_split (fun g3 => tr (by simp; omega)) (fun g3 => k2 (by simp; omega)))
def great15 (f : Fo) (rs : List Rw) : Bool := greatF f || greatRu rs
theorem great15_spec {S S2 : Nat → Prop} {a a2 : Option Addr} {n c n2 c2 : Nat} (f : Fo) (rs : List Rw) (hf : SlF S w a n f) (hR : RowAt encRw S2 w a2 n2 rs) (h : ∀ w', Ext w w' → R (.returned (.bool (great15 f rs))) w') : Calls Tryz.prog F_law15_great ⟨[.slice a n c, .slice a2 n2 c2]⟩ w R := by
  apply c_law15_great
  refine Great_spec hf fun w4 e4 => ⟨_, rfl, ?_⟩
  unfold great15 at h
  cases hg : greatF f with
  | true => rw [hg, Bool.true_or] at h; simp only [br_t]; exact h w4 e4
  | false =>
    rw [hg, Bool.false_or] at h; simp only [br_f]
    exact GreatRules_spec rs (hR.ext e4) ⟨_, rfl, h w4 e4⟩
/- the tokens of a state -/
theorem smallR_of {rs : List Rw} (h : greatRu rs = false) : smallR rs := by
  unfold greatRu at h
  rw [Bool.or_eq_false_iff] at h
  intro x hx
  have := List.any_eq_false.1 h.2 x hx
  unfold gr1 at this
  simp at this
  omega
def tokB (f : Fo) (hd : Int) (rs : List Rw) : Bool := !great15 f rs && (decide (checkT f = 0) && (decide (ruleE rs = 0) && decide (tksE ([], 0) (stF f hd) rs = 0)))
set_option maxRecDepth 20000 in
theorem tokens15_spec {S S2 : Nat → Prop} {a a2 : Option Addr} {n c n2 c2 : Nat} (f : Fo) (hand : Int) (rs : List Rw) (hh0 : 0 ≤ hand ∧ hand < 256) (hF : Forms w) (hf : SlF S w a n f) (hR : RowAt encRw S2 w a2 n2 rs)
    (h : ∀ a1 n1 c1 a3 n3 c3 w', Ext w w' → (tokB f (hand % 9) rs = true → FineF f ∧ RowAt encTk (fun k => w.heap.size ≤ k) w' a1 n1 (tksR ([], 0) (stF f (hand % 9)) rs) ∧ SlF (fun k => S k ∨ w.heap.size ≤ k) w' a3 n3 (stF f (hand % 9))) → R (.returned (.tuple ⟨[.slice a1 n1 c1, .slice a3 n3 c3, .bool (tokB f (hand % 9) rs)]⟩)) w') :
    Calls Tryz.prog F_law15_tokens ⟨[.slice a n c, .int .u8 hand, .slice a2 n2 c2]⟩ w R := by
  apply c_law15_tokens
  intro K4 hK4
  have no : ∀ v, Ext w v → tokB f (hand % 9) rs = false → R (.returned (.tuple ⟨[.slice none 0 0, .slice none 0 0, .bool false]⟩)) v := fun v ev hb => by
    rw [hb] at h
    exact h none 0 0 none 0 0 v ev (fun hh => by cases hh)
  have k4 : ∀ w5, Ext w w5 → great15 f rs = false → checkT f = 0 → ruleE rs = 0 → K4 w5 := by
    intro w5 e5 hg hc hr
    refine hK4 _ fun _ => ⟨by decide, ?_⟩
    have hgf : greatF f = false := by unfold great15 at hg; rw [Bool.or_eq_false_iff] at hg; exact hg.1
    have hsm : smallR rs := smallR_of (by unfold great15 at hg; rw [Bool.or_eq_false_iff] at hg; exact hg.2)
    have hfine := fine_of hgf hc
    have e : Int.tmod (IntKind.i64.wrap hand) 9 = hand % 9 := by rw [wrap_id (by omega), Int.tmod_eq_emod_of_nonneg hh0.1]
    rw [e]
    have hh8 : 0 ≤ hand % 9 ∧ hand % 9 ≤ 8 := by omega
    refine State_spec f (hand % 9) hfine.small (hF.ext e5) (hf.ext e5) fun a3 n3 c3 w7 hs3 e7 => ⟨_, _, _, _, rfl, ?_⟩
    have E7 := ext_trans e5 e7
    rw [hfine.err hh8.1 hh8.2]
    have hst : resS f (hand % 9) false = stF f (hand % 9) := hfine.resS false hh8.1 hh8.2
    rw [hst] at hs3
    have hfs : FineF (stF f (hand % 9)) := hfine.res _ _
    have z5 := e5.size
    have hs3' := hs3.imp (S' := fun k => S k ∨ w.heap.size ≤ k) fun k hk _ => hk.imp id fun hh => by omega
    refine Tokens_spec ([], 0) (stF f (hand % 9)) rs hfs.small (hF.ext E7) hs3' hsm (hR.ext E7) fun a1 n1 c1 w11 hn1 ho1 e11 => ⟨_, _, _, _, rfl, br_split (fun _ => ?_) (fun hh => absurd rfl hh)⟩
    have hb : tokB f (hand % 9) rs = decide (tksE ([], 0) (stF f (hand % 9)) rs = 0) := by
      unfold tokB; rw [hg, hc, hr]; simp
    rw [← hb]
    have zE := E7.size
    refine h a1 n1 c1 a3 n3 c3 w11 (ext_trans E7 e11) fun _ => ⟨hfine, ?_, hs3'.ext e11⟩
    exact (OwnL.out ho1).imp fun k hk _ => by have := (ho1.bk hk).1; omega
  refine great15_spec f rs hf hR fun w15 e15 => ⟨_, rfl, br_cases (fun g => no w15 e15 (by unfold tokB; rw [g]; rfl)) (fun g => ?_)⟩
  by_cases hc : checkT f = 0
  · have hfine := fine_of (by unfold great15 at g; rw [Bool.or_eq_false_iff] at g; exact g.1) hc
    have hsm : smallR rs := smallR_of (by unfold great15 at g; rw [Bool.or_eq_false_iff] at g; exact g.2)
    refine Check22_spec f hfine.small (hf.ext e15) (hF.ext e15) fun w18 e18 => ⟨_, rfl, br_split (fun hh => absurd hc hh) (fun _ => ?_)⟩
    have E18 := ext_trans e15 e18
    refine rwCheck_spec rs hsm (hR.ext E18) fun w21 e21 => ⟨_, rfl, br_split (fun hh => ?_) (fun hh => ?_)⟩
    · exact no w21 (ext_trans E18 e21) (by unfold tokB; rw [decide_eq_false hh]; simp)
    · exact k4 w21 (ext_trans E18 e21) g hc (Decidable.not_not.1 hh)
  · have hgf : greatF f = false := by unfold great15 at g; rw [Bool.or_eq_false_iff] at g; exact g.1
    have hsm' : small f := by have := (great_small hgf).1; unfold small; omega
    refine Check22_spec f hsm' (hf.ext e15) (hF.ext e15) fun w18 e18 => ⟨_, rfl, br_split (fun hh => ?_) (fun hh => absurd (Decidable.not_not.1 hh) hc)⟩
    exact no w18 (ext_trans e15 e18) (by unfold tokB; rw [decide_eq_false hc]; simp)
end
end Go.Proofs
namespace Go.Proofs
open Go Go.Sh Go.RowKit

/- whether a token is right -/
theorem gapB_iff (s : List UInt8) : gapB s = true ↔ ∃ n : Int, 1 ≤ n ∧ n ≤ 64 ∧ gapT n = s := by
  unfold gapB
  rw [List.any_eq_true]
  constructor
  · rintro ⟨i, hi, h⟩
    rw [List.mem_range] at hi
    exact ⟨(i : Int) + 1, by omega, by omega, by simpa using h⟩
  · rintro ⟨n, h1, h2, h3⟩
    refine ⟨(n - 1).toNat, by rw [List.mem_range]; omega, ?_⟩
    rw [show (((n - 1).toNat : Nat) : Int) + 1 = n by omega, h3]; simp
theorem dec_pos : ∀ n : Nat, n < 100 → 1 ≤ (Lib.decDigits n).length := by decide +kernel
section
variable {R : Ending → World → Prop} {w : World}
theorem gap_inner (n : Int) : ((gapT n).take ((gapT n).length - 1)).drop 1 = Lib.decDigits n.toNat := by
  unfold gapT
  simp
set_option maxRecDepth 20000 in
theorem gap_spec (s : List UInt8) (hs : s.length ≤ 1000000000000) (hM : Mk w) (h : ∀ w', Ext w w' → R (.returned (.bool (gapB s))) w') : Calls Tryz.prog F_tokenizer_gap ⟨[.string ⟨⟨s⟩⟩]⟩ w R := by
  apply c_tokenizer_gap
  have bad : ∀ w', Ext w w' → (∀ n : Int, 1 ≤ n → n ≤ 64 → gapT n ≠ s) → R (.returned (.bool false)) w' := by
    intro w' he hn
    have : gapB s = false := by
      rw [Bool.eq_false_iff]
      intro hh
      obtain ⟨n, h1, h2, h3⟩ := (gapB_iff s).1 hh
      exact hn n h1 h2 h3
    rw [← this]; exact h w' he
  intro K2 hK2
  have k2 : 3 ≤ s.length → K2 w := by
    intro h3
    refine hK2 _ fun _ => ?_
    rw [wrap_id (by omega), show ((s.length : Nat) : Int) - 1 = ((s.length - 1 : Nat) : Int) by omega]
    have h1 : ((1 : Nat) : Int) = 1 := rfl
    rw [← h1]
    refine ssl_nat (by omega) (by omega) ?_
    generalize hin : (s.take (s.length - 1)).drop 1 = u
    have hul : u.length ≤ s.length := by rw [← hin]; simp; omega
    have hz : (⟨⟨u⟩⟩ : ByteArray).size = u.length := rfl
    obtain ⟨_, ⟨t, p, h2⟩, ⟨t', p', h3'⟩⟩ := hM
    have nodec : (∀ v, Lib.atoiAll u ≠ .ok v) → ∀ n : Int, 1 ≤ n → n ≤ 64 → gapT n ≠ s := by
      intro hv n n1 n2 hh
      have := gap_inner n
      rw [hh, hin] at this
      have ha := atoi_dec (n.toNat - 1) (by omega)
      rw [show n.toNat - 1 + 1 = n.toNat by omega, ← this] at ha
      exact hv _ ha
    cases ha : Lib.atoiAll u
    · rename_i v
      refine (Tryz.strconv_Atoi_ok ⟨⟨u⟩⟩ (by rw [hz]; omega) v ha w).mono ?_
      rintro e w4 ⟨rfl, hw⟩
      have he : Ext w w4 := by
        rcases hw with rfl | ⟨t, rfl⟩
        · exact Below.refl _ _
        · exact Joins.below_bytesWorld _ _ _ _ (Nat.le_refl _)
      refine ⟨v, .nilIface, rfl, ?_⟩
      refine ifc_nil ?_
      simp only [br_t]
      have key : ∀ n : Int, 1 ≤ n → n ≤ 64 → gapT n = s → n = v := by
        intro n n1 n2 hh
        have h5 := gap_inner n
        rw [hh, hin] at h5
        have ha' := atoi_dec (n.toNat - 1) (by omega)
        rw [show n.toNat - 1 + 1 = n.toNat by omega, ← h5, ha] at ha'
        injection ha' with ha'
        omega
      refine br_split (fun g => br_split (fun g2 => ?_) (fun g2 => bad w4 he fun n n1 n2 hh => by have := key n n1 n2 hh; omega)) (fun g => bad w4 he fun n n1 n2 hh => by have := key n n1 n2 hh; omega)
      have hmm : v = ((v.toNat : Nat) : Int) := by omega
      have hI := Tryz.strconv_Itoa_small v.toNat (by omega) w4
      rw [← hmm] at hI
      refine hI.mono ?_
      rintro _ w5 ⟨rfl, hw5⟩
      subst hw5
      have hdl := decDigits_len v.toNat (by omega)
      refine ⟨_, rfl, ?_⟩
      refine ⟨by simp; omega, by simp; omega, ?_⟩
      have e : decide (s = [91] ++ Lib.decDigits v.toNat ++ [93]) = gapB s := by
        rw [Bool.eq_iff_iff, decide_eq_true_eq, gapB_iff]
        constructor
        · intro hh; exact ⟨v, g, g2, by rw [hh]; simp [gapT]⟩
        · rintro ⟨n, n1, n2, n3⟩
          have := key n n1 n2 n3
          subst this
          rw [← n3]; simp [gapT]
      show R (.returned (.bool (decide (s = [91] ++ Lib.decDigits v.toNat ++ [93])))) w5
      rw [e]; exact h w5 he
    · refine (Tryz.strconv_Atoi_syntax ⟨⟨u⟩⟩ (by rw [hz]; omega) ha _ w h2 (.inr ⟨_, _, rfl⟩)).mono ?_
      rintro e w4 ⟨N, rfl, _, _, he⟩
      refine ⟨_, _, rfl, ?_⟩
      refine ifc_some ?_
      simp only [br_f]
      exact bad w4 he (nodec fun v hv => by rw [ha] at hv; cases hv)
    · refine (Tryz.strconv_Atoi_range ⟨⟨u⟩⟩ (by rw [hz]; omega) ha _ w h3' (.inr ⟨_, _, rfl⟩)).mono ?_
      rintro e w4 ⟨N, rfl, _, _, he⟩
      refine ⟨_, _, rfl, ?_⟩
      refine ifc_some ?_
      simp only [br_f]
      exact bad w4 he (nodec fun v hv => by rw [ha] at hv; cases hv)
  refine br_split (fun g => bad w (Below.refl _ _) fun n n1 n2 hh => ?_) (fun g => ?_)
  · have := dec_pos n.toNat (by omega)
    have h5 : (gapT n).length = (Lib.decDigits n.toNat).length + 2 := by unfold gapT; simp
    rw [hh] at h5; omega
  have h00 : ((0 : Nat) : Int) = 0 := rfl
  rw [← h00]
  refine sidx_nat (by omega) (br_split (fun g1 => bad w (Below.refl _ _) fun n n1 n2 hh => ?_) (fun g1 => ?_))
  · subst hh; exact g1 (by simp [gapT])
  rw [wrap_id (by omega), show ((s.length : Nat) : Int) - 1 = ((s.length - 1 : Nat) : Int) by omega]
  refine sidx_nat (by omega) (br_split (fun g2 => bad w (Below.refl _ _) fun n n1 n2 hh => ?_) (fun g2 => k2 (by omega)))
  subst hh
  exact g2 (by simp [gapT])
theorem mark_spec (s : List UInt8) (h : R (.returned (.bool (markB s))) w) : Calls Tryz.prog F_tokenizer_mark ⟨[.string ⟨⟨s⟩⟩]⟩ w R := by
  apply c_tokenizer_mark
  refine br_split (fun g => ?_) (fun g => ?_)
  · have : markB s = false := by
      unfold markB
      split
      · simp at g
      · rfl
    rw [this] at h; exact h
  · obtain ⟨c, rfl⟩ : ∃ c, s = [c] := by
      have hl : s.length = 1 := by omega
      exact List.length_eq_one_iff.1 hl
    have h00 : ((0 : Nat) : Int) = 0 := rfl
    rw [← h00]
    refine sidx_nat (by simp) (Kind_spec _ ⟨_, rfl, ?_⟩)
    have hb : markB [c] = (decide (kd c = 5) || decide (kd c = 4)) := rfl
    rw [hb] at h
    refine br_split (fun g5 => ?_) (fun g5 => ?_)
    · have g5 : kd c = 5 := g5
      rw [decide_eq_true g5, Bool.true_or] at h; exact h
    · have g5' : ¬ kd c = 5 := g5
      rw [decide_eq_false g5', Bool.false_or] at h; exact h
set_option maxRecDepth 20000 in
theorem norm15_spec (s : List UInt8) (hs : s.length ≤ 4611686018427387904) (h : R (.returned (.bool (normB s))) w) : Calls Tryz.prog F_tokenizer_norm ⟨[.string ⟨⟨s⟩⟩]⟩ w R := by
  apply c_tokenizer_norm
  refine ⟨fun i W m => ∃ k : Nat, i = k ∧ k ≤ s.length ∧ m = s.length - k ∧ wordlyF (s.take k) = true ∧ W = w, ⟨_, 0, rfl, by omega, rfl, by rw [List.take_zero]; rfl, rfl⟩, ?_⟩
  rintro _ W m ⟨k, rfl, hk, rfl, hw, rfl⟩ _
  refine br_split (fun hlt => ?_) (fun hge => ?_)
  · have hkl : k < s.length := by omega
    refine sidx_nat hkl (tkinner_spec _ ⟨_, rfl, br_cases (fun g => ?_) (fun g => ?_)⟩)
    · have : normB s = false := by
        unfold normB
        have h1 := wordly_no s k hkl (by rw [Bool.not_eq_true'] at g; exact g)
        unfold wordlyF at h1
        rw [h1, Bool.and_false]
      rw [this] at h; exact h
    · exact ⟨s.length - (k + 1), by omega, k + 1, by rw [wrap_nat (by omega)], by omega, rfl, by rw [wordly_at s k hkl, hw]; rw [Bool.not_eq_false'] at g; rw [g]; rfl, rfl⟩
  · rw [List.take_of_length_le (by omega)] at hw
    unfold wordlyF at hw
    unfold normB at h
    rw [hw, Bool.and_true] at h
    refine br_split (fun g => ?_) (fun g => ?_)
    · rw [decide_eq_true g, Bool.true_and, decide_eq_decide.2 (show s.length ≤ 64 ↔ ((s.length : Nat) : Int) ≤ 64 by omega)] at h
      exact h
    · rw [decide_eq_false g, Bool.false_and] at h; exact h
set_option maxRecDepth 40000 in
theorem TokCheck_spec (x : Tok) (ht : x.t.length ≤ 1000000000000) (hm : x.m.length ≤ 4611686018427387904) (hM : Mk w) (h : ∀ w', Ext w w' → R (.returned (.int .i64 (tokE x))) w') : Calls Tryz.prog F_tokenizer_Check ⟨[aggT x]⟩ w R := by
  apply c_tokenizer_Check
  refine al_intro fun b7 w8 hb7 B7 e8 s8 => ?_
  intro K9 hK9
  have k9 : ¬ (x.g < 0 ∨ 31 < x.g) → K9 w8 := by
    intro hg
    obtain ⟨f10, f2, f8, f16⟩ := bitA_facts (g := x.g) (by omega) (by omega)
    refine hK9 _ fun _ => ?_
    unfold drw
    have ed := ext_drew w8
    have B11 := B7.ext ed
    have E11 := ext_trans e8 ed
    generalize w8.drew = w11 at *
    obtain ⟨c0, c1, c2, c3, c4, c5⟩ := blk6' B11
    have H : ∀ (e : Int) (v : World), tokE x = e → Ext w v → R (.returned (.int .i64 e)) v := fun e v he hv => by rw [← he]; exact h v hv
    refine ⟨_, c4, _, c4, ?_⟩
    intro K14 hK14
    rw [f2, f8]
    have k14 : ¬ (hasG x.g 2 = true ∧ hasG x.g 8 = true) → K14 w11 := by
      intro hno
      refine hK14 _ fun _ => ?_
      have hT : tokE x = if textB x = false then 11 else if x.p.2 < 0 then 2 else if namedB x.p.1 = false ∨ namedB x.a = false then 14 else 0 := by unfold tokE; rw [if_neg hg, if_neg hno]
      intro K16 hK16
      have k16 : ∀ (f1 : FuncId), (f1 = if hasG x.g 2 = true then 50 else 15) → K16 (.func f1) #[] #[] w11 := by
        intro f1 hf1
        refine hK16 _ _ _ _ fun _ => ?_
        intro K19 hK19
        have k19 : ∀ (f2 : FuncId), (f2 = if hasG x.g 8 = true then 51 else f1) → K19 (.func f2) #[] #[] w11 := by
          intro fn hfn
          refine hK19 _ _ _ _ fun _ => ?_
          intro K22 hK22
          have k22 : ∀ (t : Bool) (v : World), Ext w11 v → t = !textB x → K22 t v := by
            intro t v hv htb
            refine hK22 _ _ fun _ => ?_
            have Bv := B11.ext hv
            have Ev := ext_trans E11 hv
            obtain ⟨d0, d1, d2, d3, d4, d5⟩ := blk6' Bv
            subst htb
            have e21 : ((⟨b7, 0, none⟩ : Addr).add 2).add 1 = (⟨b7, 0, none⟩ : Addr).add 3 := by simp only [add_none]
            have e20 : ((⟨b7, 0, none⟩ : Addr).add 2).add 0 = (⟨b7, 0, none⟩ : Addr).add 2 := by simp only [add_none]
            cases htx : textB x with
            | false =>
              simp only [Bool.not_false, br_t]
              exact H 11 v (by rw [hT, if_pos htx]) Ev
            | true =>
              simp only [Bool.not_true, br_f]
              rw [if_neg (by rw [htx]; decide)] at hT
              refine ⟨_, by rw [e21]; exact d3, br_split (fun q => H 2 v (by rw [hT, if_pos q]) Ev) (fun q => ⟨_, by rw [e20]; exact d2, ?_⟩)⟩
              rw [if_neg q] at hT
              refine named_spec _ ⟨_, rfl, br_cases (fun q1 => H 14 v (by rw [hT, if_pos (.inl (by simpa using q1))]) Ev) (fun q1 => ⟨_, d5, ?_⟩)⟩
              refine named_spec _ ⟨_, rfl, br_cases (fun q2 => H 14 v (by rw [hT, if_pos (.inr (by simpa using q2))]) Ev) (fun q2 => H 0 v ?_ Ev)⟩
              rw [hT, if_neg]
              rintro (hh | hh)
              · rw [hh] at q1; cases q1
              · rw [hh] at q2; cases q2
          -- the form
          have hform : ∀ R' : Ending → World → Prop, (∀ v', Ext w11 v' → R' (.returned (.bool (if hasG x.g 2 = true then gapB x.t else if hasG x.g 8 = true then markB x.t else isWordF x.t))) v') → CallV Tryz.prog (.func (.func fn) #[] #[]) [.string ⟨⟨x.t⟩⟩] w11 R' := by
            intro R' hR'
            cases h2 : hasG x.g 2 with
            | true =>
              have h8 : hasG x.g 8 = false := by
                cases h8 : hasG x.g 8 with
                | false => rfl
                | true => exact absurd ⟨h2, h8⟩ hno
              have : fn = 50 := by rw [hfn, h8, if_neg (by decide), hf1, h2]; rfl
              subst this
              rw [h2, if_pos rfl] at hR'
              exact ⟨by kernel_rfl, gap_spec x.t ht (hM.ext E11) hR'⟩
            | false =>
              rw [h2, if_neg (by decide)] at hR'
              cases h8 : hasG x.g 8 with
              | true =>
                have : fn = 51 := by rw [hfn, h8]; rfl
                subst this
                rw [h8, if_pos rfl] at hR'
                exact ⟨by kernel_rfl, mark_spec x.t (hR' w11 (Below.refl _ _))⟩
              | false =>
                have : fn = 15 := by rw [hfn, h8, if_neg (by decide), hf1, h2]; rfl
                subst this
                rw [h8, if_neg (by decide)] at hR'
                exact ⟨by kernel_rfl, IsWord_spec x.t hR'⟩
          have hTx : textB x = ((if hasG x.g 2 = true then gapB x.t else if hasG x.g 8 = true then markB x.t else isWordF x.t) && (if wordG x.g = true then normB x.m else decide (x.m = x.t))) := by
            unfold textB wordG
            cases hasG x.g 2 <;> cases hasG x.g 8 <;> rfl
          refine ⟨_, c0, hform _ fun w36 e36 => ⟨_, rfl, ?_⟩⟩
          generalize hfm : (if hasG x.g 2 = true then gapB x.t else if hasG x.g 8 = true then markB x.t else isWordF x.t) = fm at *
          have B36 := B11.ext e36
          cases fm with
          | false =>
            simp only [Bool.not_false, br_t]
            exact k22 true w36 e36 (by rw [hTx]; rfl)
          | true =>
            simp only [Bool.not_true, br_f]
            rw [Bool.true_and] at hTx
            intro K38 hK38
            have k38 : ∀ (t : Bool) (v : World), Ext w11 v → t = (wordG x.g && !normB x.m) → K38 t v := by
              intro t v hv ht'
              refine hK38 _ _ fun _ => ?_
              cases t with
              | true =>
                simp only [br_t]
                refine k22 true v hv ?_
                rw [hTx]
                cases hw : wordG x.g with
                | true => rw [hw] at ht'; simp at ht' ⊢; exact ht'.symm ▸ rfl
                | false => rw [hw] at ht'; cases ht'
              | false =>
                simp only [br_f]
                obtain ⟨d0, d1, d2, d3, d4, d5⟩ := blk6' (B11.ext hv)
                refine ⟨_, d0, _, d1, _, d2, _, d3, _, d4, _, d5, ?_⟩
                refine isWordT_spec x (by omega) (by omega) fun w48 e48 => ⟨_, rfl, ?_⟩
                have F48 := ext_trans hv e48
                cases hw : wordG x.g with
                | true =>
                  simp only [Bool.not_true, br_f]
                  refine k22 false w48 F48 ?_
                  rw [hTx, hw, if_pos rfl]
                  rw [hw] at ht'
                  simp at ht' ⊢
                  exact ht'
                | false =>
                  simp only [Bool.not_false, br_t]
                  obtain ⟨f0, f1, _⟩ := blk6' (B11.ext F48)
                  refine ⟨_, f1, _, f0, k22 _ w48 F48 ?_⟩
                  rw [hTx, hw, if_neg (by decide)]
                  by_cases hmt : x.m = x.t <;> simp [hmt]
            obtain ⟨d0, d1, d2, d3, d4, d5⟩ := blk6' B36
            refine ⟨_, d0, _, d1, _, d2, _, d3, _, d4, _, d5, ?_⟩
            refine isWordT_spec x (by omega) (by omega) fun w59 e59 => ⟨_, rfl, ?_⟩
            have F59 := ext_trans e36 e59
            cases hw : wordG x.g with
            | true =>
              simp only [br_t]
              refine ⟨_, (blk6' (B11.ext F59)).2.1, norm15_spec x.m hm ⟨_, rfl, k38 _ w59 F59 ?_⟩⟩
              rw [hw, Bool.true_and]
            | false =>
              simp only [br_f]
              exact k38 false w59 F59 (by rw [hw]; rfl)
        refine br_cases (fun q => k19 51 (by rw [← f8, q]; rfl)) (fun q => k19 f1 (by rw [← f8, q]; rfl))
      refine br_cases (fun q => k16 50 (by first | (rw [← f2, q]; rfl) | (rw [q]; rfl))) (fun q => k16 15 (by first | (rw [← f2, q]; rfl) | (rw [q]; rfl)))
    refine br_cases (fun q => br_cases (fun q2 => H 8 w11 (by unfold tokE; rw [if_neg hg, if_pos ⟨q, q2⟩]) E11) (fun q2 => k14 (fun hh => by rw [hh.2] at q2; cases q2))) (fun q => k14 (fun hh => by rw [hh.1] at q; cases q))
  obtain ⟨c0, c1, c2, c3, c4, c5⟩ := blk6' B7
  refine ⟨_, c4, br_split (fun q => ?_) (fun q => ⟨_, c4, br_split (fun q2 => ?_) (fun q2 => k9 (by omega))⟩)⟩
  · have : tokE x = 2 := by unfold tokE; rw [if_pos (.inl q)]
    rw [← this]; exact h w8 e8
  · have : tokE x = 2 := by unfold tokE; rw [if_pos (.inr q2)]
    rw [← this]; exact h w8 e8
end
end Go.Proofs
namespace Go.Proofs
open Go Go.Sh Go.RowKit

/- the law Valid -/
theorem raw_ne {x : Tok} (h : Raw x) : x.t ≠ [] := by
  rcases h.k with ⟨_, _, n, _, _, e⟩ | ⟨_, _, c, e, _⟩ | ⟨_, _, c, s, e, _⟩ <;> rw [e]
  · unfold gapT; simp
  · simp
  · simp
theorem cut_raw {p : Ps} {f : Fo} {rs : List Rw} (H : TksOk p f rs) (ho : okF false f) {x : Tok} (hx : x ∈ cutT p f) : Raw x ∧ x.t.length ≤ 64 ∧ tokE (nrmT rs x) = 0 ∧ isWordF x.t = wordG x.g := by
  have hp : plOk p := ⟨H.p0, by have := H.nm; unfold namedB at this; simpa using this⟩
  have hr := div_raw _ _ false false (Nat.le_refl _) (okA_ams (u := false) (nm := []) ho hp (.inl rfl)) x hx
  have hl : x.t.length ≤ 64 := by
    have := H.lg
    unfold longT at this
    rw [Bool.or_eq_false_iff] at this
    have h2 := List.any_eq_false.1 this.2 x hx
    simpa using h2
  have hm : if wordG x.g = true then normB (if wordG x.g = true then rwR rs x.t else x.t) = true else (if wordG x.g = true then rwR rs x.t else x.t) = x.t := by
    by_cases hw : wordG x.g = true
    · rw [if_pos hw, if_pos hw]
      exact rw_norm (nrmE_mem H.n x hx hw) (raw_ne hr)
    · rw [if_neg hw, if_neg hw]
  exact ⟨hr, hl, hr.ok hl hm⟩
theorem adj_at : ∀ (l : List Tok) {pw : Bool} {i : Nat} {x y : Tok}, adjT pw l → l[i]? = some x → l[i + 1]? = some y → ¬ (wordG x.g = true ∧ wordG y.g = true ∧ hasG y.g 16 = true)
  | [], _, _, _, _, _, hx, _ => by cases hx
  | z :: r, pw, 0, x, y, h, hx, hy => by
    cases r with
    | nil => cases hy
    | cons y' r =>
      obtain rfl : z = x := by simpa using hx
      obtain rfl : y' = y := by simpa using hy
      exact h.2.1
  | z :: r, pw, i + 1, x, y, h, hx, hy => adj_at r h.2 (by simpa using hx) (by simpa using hy)
theorem state_tks {f : Fo} {h : Int} {rs : List Rw} (hb : tokB f h rs = true) : TksOk ([], 0) (stF f h) rs ∧ tksR ([], 0) (stF f h) rs = (cutT ([], 0) (stF f h)).map (nrmT rs) := by
  unfold tokB at hb
  simp at hb
  exact tks_ok hb.2.2.2
theorem nrm_g (rs : List Rw) (x : Tok) : (nrmT rs x).g = x.g := rfl
theorem nrm_t (rs : List Rw) (x : Tok) : (nrmT rs x).t = x.t := rfl
theorem nrm_m {p : Ps} {f : Fo} {rs : List Rw} (H : TksOk p f rs) (ho : okF false f) {x : Tok} (hx : x ∈ cutT p f) : (nrmT rs x).m.length ≤ 64 := by
  obtain ⟨hr, hl, _, _⟩ := cut_raw H ho hx
  show (if wordG x.g = true then rwR rs x.t else x.t).length ≤ 64
  by_cases hw : wordG x.g = true
  · rw [if_pos hw]
    have := rw_norm (nrmE_mem H.n x hx hw) (raw_ne hr)
    unfold normB at this
    simp at this
    exact this.1.2
  · rw [if_neg hw]; exact hl
section
variable {R : Ending → World → Prop} {w : World}
theorem bit16 {g : Int} (h0 : 0 ≤ g) (h1 : g ≤ 31) : decide (bitA .i64 g 16 ≠ 0) = hasG g 16 := by
  have := (bitA_facts h0 h1).2.2.2
  by_cases h : bitA .i64 g 16 = 0
  · rw [decide_eq_true h] at this
    rw [decide_eq_false (by simpa using h)]
    cases hh : hasG g 16 <;> simp [hh] at this ⊢
  · rw [decide_eq_false h] at this
    rw [decide_eq_true h]
    cases hh : hasG g 16 <;> simp [hh] at this ⊢
set_option maxRecDepth 20000 in
theorem TokenizerValid_spec {S S2 : Nat → Prop} {a a2 : Option Addr} {n c n2 c2 : Nat} (f : Fo) (hand : Int) (rs : List Rw) (hh0 : 0 ≤ hand ∧ hand < 256) (hF : Forms w) (hM : Mk w) (hf : SlF S w a n f) (hR : RowAt encRw S2 w a2 n2 rs)
    (h : ∀ w', Ext w w' → R (.returned (.bool true)) w') : Calls Tryz.prog F_law15_TokenizerValid ⟨[.slice a n c, .int .u8 hand, .slice a2 n2 c2]⟩ w R := by
  apply c_law15_TokenizerValid
  have aw : ∀ v, Ext w v → Calls Tryz.prog F_law15_awake ⟨[]⟩ v (fun e w' => ∃ x : Bool, e = .returned (.bool x) ∧ R (.returned (.bool x)) w') := fun v ev => awake15_spec (hF.ext ev) fun v' e' => ⟨_, rfl, h v' (ext_trans ev e')⟩
  refine tokens15_spec f hand rs hh0 hF hf hR fun a1 n1 c1 a3 n3 c3 w5 e5 hp => ⟨_, _, _, _, _, _, _, rfl, ?_⟩
  cases hb : tokB f (hand % 9) rs with
  | false => simp only [Bool.not_false, br_t]; exact aw w5 e5
  | true =>
    simp only [Bool.not_true, br_f]
    obtain ⟨hfi, hL, _⟩ := hp hb
    obtain ⟨H, hE⟩ := state_tks hb
    have ho : okF false (stF f (hand % 9)) := (hfi.res (hand % 9) false : FineF (stF f (hand % 9))).ok
    rw [hE] at hL
    generalize stF f (hand % 9) = F at *
    have hn1 := hL.1
    have hlen : (cutT ([], 0) F).length ≤ 1024 := by
      have := H.lg
      unfold longT at this
      simp at this
      exact this.1
    rw [List.length_map] at hn1
    refine ⟨fun i W m => ∃ k : Nat, i = k ∧ k ≤ n1 ∧ m = n1 - k ∧ Ext w5 W, ⟨_, 0, rfl, by omega, rfl, Below.refl _ _⟩, ?_⟩
    rintro _ W m ⟨k, rfl, hk, rfl, eW⟩ _
    have EW := ext_trans e5 eW
    refine br_split (fun hlt => ?_) (fun hge => aw W EW)
    have hkl : k < (cutT ([], 0) F).length := by omega
    have hx : (cutT ([], 0) F)[k] ∈ cutT ([], 0) F := List.getElem_mem hkl
    have hxe : (cutT ([], 0) F)[k]? = some (cutT ([], 0) F)[k] := by simp [hkl]
    obtain ⟨q1, q2, q3, q4⟩ := cut_raw H ho hx
    have q5 := nrm_m H ho hx
    have hfirst : ∀ x, (cutT ([], 0) F)[k]? = some x → k = 0 → hasG x.g 16 = false := by
      intro x hx hk0
      subst hk0
      cases hc : cutT ([], 0) F with
      | nil => rw [hc] at hkl; cases hkl
      | cons z r =>
        rw [hc] at hx
        obtain rfl : z = x := by simpa using hx
        exact div_first _ _ false (Nat.le_refl _) hc
    have hfirst := hfirst _ hxe
    generalize (cutT ([], 0) F)[k] = x at *
    have hme : ((cutT ([], 0) F).map (nrmT rs))[k]? = some (nrmT rs x) := by rw [List.getElem?_map, hxe]; rfl
    have hLW := hL.ext eW
    obtain ⟨q, hq, d0, d1, d2, d3, d4, d5⟩ := tok_get hLW hme
    obtain ⟨f10, f2, f8, f16'⟩ := bitA_facts q1.g0 q1.g1
    have f16 := bit16 q1.g0 q1.g1
    have next : ∀ v, Ext W v → ∃ m', m' < n1 - k ∧ ∃ k' : Nat, IntKind.i64.wrap ((k : Int) + 1) = k' ∧ k' ≤ n1 ∧ m' = n1 - k' ∧ Ext w5 v := fun v ev =>
      ⟨n1 - (k + 1), by omega, k + 1, by rw [wrap_nat (by omega)], by omega, rfl, ext_trans eW ev⟩
    refine hq _ ⟨_, d0, _, d1, _, d2, _, d3, _, d4, _, d5, ?_⟩
    refine al_stL rfl (one6t _) fun b24 w26 hb24 B24 e26 s26 => ?_
    obtain ⟨c0, c1', c2', c3', c4, c5⟩ := blk6' B24
    refine ⟨_, c4, ?_⟩
    rw [nrm_g, f10]
    intro K28 hK28
    have k28 : ∀ v, Ext w26 v → K28 v := by
      intro v ev
      refine hK28 _ fun _ => ?_
      have Bv := B24.ext ev
      have Ev := ext_trans e26 ev
      obtain ⟨g0, g1, g2, g3, g4, g5⟩ := blk6' Bv
      cases hw : wordG x.g with
      | false => simp only [br_f]; exact next v Ev
      | true =>
        simp only [br_t]
        refine ⟨_, g4, ?_⟩
        rw [nrm_g, f16]
        cases hj : hasG x.g 16 with
        | false => simp only [br_f]; exact next v Ev
        | true =>
          simp only [br_t]
          have hk1 : 1 ≤ k := by
            rcases Nat.eq_zero_or_pos k with h0 | h0
            · rw [hfirst h0] at hj; cases hj
            · exact h0
          have hkl2 : k - 1 < (cutT ([], 0) F).length := by omega
          have hye : (cutT ([], 0) F)[k - 1]? = some (cutT ([], 0) F)[k - 1] := by simp [hkl2]
          have hy : (cutT ([], 0) F)[k - 1] ∈ cutT ([], 0) F := List.getElem_mem hkl2
          generalize (cutT ([], 0) F)[k - 1] = y at *
          obtain ⟨p1, _, _, _⟩ := cut_raw H ho hy
          have hmy : ((cutT ([], 0) F).map (nrmT rs))[k - 1]? = some (nrmT rs y) := by rw [List.getElem?_map, hye]; rfl
          obtain ⟨q', hq', _, _, _, _, z4, _⟩ := tok_get (hLW.ext Ev) hmy
          rw [wrap_id (by omega), show (k : Int) - 1 = ((k - 1 : Nat) : Int) by omega]
          refine hq' _ ⟨_, z4, ?_⟩
          rw [nrm_g, (bitA_facts p1.g0 p1.g1).1]
          cases hwy : wordG y.g with
          | false => simp only [br_f]; exact next v Ev
          | true =>
            exact absurd ⟨hwy, hw, hj⟩ (adj_at _ (div_adj _ _ false false false (Nat.le_refl _) (fun hh => by cases hh)) hye (by rw [show k - 1 + 1 = k by omega]; exact hxe))
    refine ⟨_, c0, _, c1', _, c2', _, c3', _, c4, _, c5, ?_⟩
    refine TokCheck_spec (nrmT rs x) (by rw [nrm_t]; omega) (by omega) (hM.ext (ext_trans EW e26)) fun w43 e43 => ⟨_, rfl, ?_⟩
    refine br_split (fun hh => absurd q3 hh) (fun _ => ?_)
    obtain ⟨g0, g1, g2, g3, g4, g5⟩ := blk6' (B24.ext e43)
    have fin : ∃ (x46 : List UInt8), w43.cell? ((⟨b24, 0, none⟩ : Addr).add 0) = some (.string ⟨⟨x46⟩⟩) ∧ (Calls Tryz.prog 15 ⟨[.string ⟨⟨x46⟩⟩]⟩ w43 fun (e47 : Ending) (w48 : World) =>
        ∃ (x49 : Bool), e47 = .returned (.bool x49) ∧ (br (decide ((wordG x.g : Bool) ≠ x49)) (R (.returned (.bool false)) w48) (K28 w48))) := by
      refine ⟨_, g0, ?_⟩
      rw [nrm_t]
      refine IsWord_spec x.t fun w48 e48 => ⟨_, rfl, ?_⟩
      exact br_split (fun hh => absurd q4.symm hh) (fun _ => k28 w48 (ext_trans e43 e48))
    refine br_split (fun hk0 => ?_) (fun hk0 => fin)
    refine ⟨_, g4, ?_⟩
    rw [nrm_g, f16, hfirst (by omega)]
    exact fin
end
end Go.Proofs
namespace Go.Proofs
open Go Go.Sh Go.RowKit

/- a piece of a list of nodes -/
theorem SlF.one {S : Nat → Prop} {w : World} {a : Option Addr} {n : Nat} {f pre r : Fo} {k t m ps} (h : SlF S w a n f) (hf : f = pre.app (.cons k t m ps r)) {c : Nat} (hc : n ≤ c) {K : Option Addr → Nat → Nat → Prop}
    (hk : ∀ a' c', SlF S w a' 1 (.one k t m ps) → K a' 1 c') : sls a c (pre.len : Int) ((pre.len + 1 : Nat) : Int) 4 K := by
  have hn := h.1
  have hl := Fo.sub_len hf
  refine ⟨by omega, by omega, by omega, ?_⟩
  rw [Int.toNat_natCast, Int.toNat_natCast, show pre.len + 1 - pre.len = 1 by omega]
  refine hk _ _ ?_
  obtain ⟨_, us, h2, h3⟩ := h
  rw [hf] at h3
  obtain ⟨xs, ys, rfl, g1, a', c', zs, vs', rfl, g2, g3, g4⟩ := h3.split
  have hxl := g1.len
  rcases h2 with h2 | ⟨b, o, rfl, hb, hbl, hcell⟩
  · simp at h2
  refine ⟨rfl, [.int .i64 k, .string ⟨⟨t⟩⟩, .int .i64 m, .slice a' ps.len c'], ?_, a', c', zs, [], rfl, g2, g3, rfl⟩
  have hsl : slA (some ⟨b, o, none⟩) c pre.len 4 = some ⟨b, o + pre.len * 4, none⟩ := by
    unfold slA
    rw [if_neg (by omega)]
    simp only [Option.map_some, add_none]
  rw [hsl]
  refine .inr ⟨b, o + pre.len * 4, rfl, hb, hbl, fun j v hj => ?_⟩
  have hj4 : j < 4 := by have := (List.getElem?_eq_some_iff.1 hj).1; simpa using this
  rw [Nat.add_assoc]
  refine hcell _ _ ?_
  rw [List.getElem?_append_right (by omega), show pre.len * 4 + j - xs.length = j by omega]
  rcases (by omega : j = 0 ∨ j = 1 ∨ j = 2 ∨ j = 3) with rfl | rfl | rfl | rfl <;> simpa using hj

/- a piece of a right list is right -/
end Go.Proofs
namespace Go.Proofs
open Go Go.Sh Go.RowKit

/- the marks of loss in the pattern -/
/- replacing one byte by nothing -/
theorem replaceK_one (c : UInt8) : ∀ (k : Nat) (s : List UInt8), s.count c = k → Lib.replaceK [c] [] k s = s.filter fun x => decide (x ≠ c)
  | 0, s, h => by
    have hn := List.count_eq_zero.1 h
    rw [Lib.replaceK]
    symm
    rw [List.filter_eq_self]
    intro x hx
    rw [decide_eq_true_eq]
    rintro rfl
    exact hn hx
  | k + 1, s, h => by
    have h0 : 0 < Lib.count s [c] := by rw [Lib.count_one]; omega
    obtain ⟨i, hi⟩ := Lib.index_of_count h0
    rw [Lib.replaceK_hit [c] [] k s i hi]
    rw [Lib.index_one] at hi
    obtain ⟨g1, g2⟩ := Lib.indexByte_some hi
    obtain ⟨hl, g1'⟩ := List.getElem?_eq_some_iff.1 g1
    have e : s = s.take i ++ c :: s.drop (i + 1) := by
      rw [← g1', ← List.drop_eq_getElem_cons hl, List.take_append_drop]
    have hn : c ∉ s.take i := by
      intro hm
      obtain ⟨j, hj, he⟩ := List.getElem_of_mem hm
      rw [List.length_take] at hj
      rw [List.getElem_take] at he
      exact g2 j (by omega) (by rw [List.getElem?_eq_getElem (by omega), he])
    have hc : (s.drop (i + 1)).count c = k := by
      have := h
      rw [e, List.count_append, List.count_cons_self, List.count_eq_zero.2 hn] at this
      omega
    rw [show i + [c].length = i + 1 from rfl, replaceK_one c k _ hc]
    conv => rhs; rw [e]
    rw [List.filter_append, List.filter_cons]
    rw [if_neg (by simp), List.append_nil]
    congr 1
    symm
    rw [List.filter_eq_self]
    intro x hx
    rw [decide_eq_true_eq]
    rintro rfl
    exact hn hx
theorem replaceAll_one (c : UInt8) (s : List UInt8) : Lib.replaceAll s [c] [] = s.filter fun x => decide (x ≠ c) := by
  unfold Lib.replaceAll Lib.replace
  rw [if_neg (by simp), show Lib.replaceNum s [c] (-1) = s.count c by unfold Lib.replaceNum; rw [if_pos (.inl (by decide)), Lib.count_one]]
  exact replaceK_one c _ s rfl

end Go.Proofs
namespace Go.Proofs
open Go Go.Sh Go.RowKit

/- the law Characters -/
theorem words_len : ∀ l : List Tok, (∀ x ∈ l, x.t.length ≤ 64) → (wordsT l).length ≤ 64 * l.length
  | [], _ => by simp [wordsT]
  | x :: l, h => by
    have h1 := words_len l fun y hy => h y (List.mem_cons_of_mem _ hy)
    have h2 := h x (List.mem_cons_self ..)
    unfold wordsT at h1 ⊢
    rw [List.flatMap_cons, List.length_append, List.length_cons]
    split
    · simp only [List.length_nil]; omega
    · omega
theorem sp32 (s : List UInt8) : (s.filter fun x => decide (x ≠ (32 : UInt8))) = s.filter noSp := by
  congr 1
  funext x
  unfold noSp
  by_cases h : x = 32
  · subst h; rfl
  · have : ¬ kd x = 6 := fun hh => h (kd6.1 hh)
    simp [h, this]
theorem cut_words {p : Ps} {f : Fo} : wordsT (cutT p f) = (charsF f).filter noSp ∧ (((cutT p f).filter fun x => hasG x.g 2).length : Int) = cntF 6 f := by
  obtain ⟨h1, h2⟩ := div_chars _ (amsF p f false []) false false (Nat.le_refl _)
  unfold cutT
  rw [h1, ams_chars, h2, ams_gaps]
  exact ⟨rfl, rfl⟩
section
variable {R : Ending → World → Prop} {w : World}
set_option maxRecDepth 20000 in
theorem TokenizerCharacters_spec {S S2 : Nat → Prop} {a a2 : Option Addr} {n c n2 c2 : Nat} (f : Fo) (hand : Int) (rs : List Rw) (hh0 : 0 ≤ hand ∧ hand < 256) (hF : Forms w) (hM : ∃ m, w.cell? ⟨G_internal_bytealg_MaxLen, 0, none⟩ = some (.int .i64 m)) (hf : SlF S w a n f) (hR : RowAt encRw S2 w a2 n2 rs)
    (h : ∀ w', Ext w w' → R (.returned (.bool true)) w') : Calls Tryz.prog F_law15_TokenizerCharacters ⟨[.slice a n c, .int .u8 hand, .slice a2 n2 c2]⟩ w R := by
  apply c_law15_TokenizerCharacters
  have aw : ∀ v, Ext w v → Calls Tryz.prog F_law15_awake ⟨[]⟩ v (fun e w' => ∃ x : Bool, e = .returned (.bool x) ∧ R (.returned (.bool x)) w') := fun v ev => awake15_spec (hF.ext ev) fun v' e' => ⟨_, rfl, h v' (ext_trans ev e')⟩
  refine tokens15_spec f hand rs hh0 hF hf hR fun a1 n1 c1 a3 n3 c3 w5 e5 hp => ⟨_, _, _, _, _, _, _, rfl, ?_⟩
  cases hb : tokB f (hand % 9) rs with
  | false => simp only [Bool.not_false, br_t]; exact aw w5 e5
  | true =>
    simp only [Bool.not_true, br_f]
    obtain ⟨hfi, hL, h3⟩ := hp hb
    obtain ⟨H, hE⟩ := state_tks hb
    have hfs : FineF (stF f (hand % 9)) := hfi.res (hand % 9) false
    have ho := hfs.ok
    have hsF := hfs.small
    rw [hE] at hL
    generalize stF f (hand % 9) = F at *
    have hn1 := hL.1
    have hlen : (cutT ([], 0) F).length ≤ 1024 := by
      have := H.lg
      unfold longT at this
      simp at this
      exact this.1
    rw [List.length_map] at hn1
    have hraw : ∀ x ∈ cutT ([], 0) F, Raw x ∧ x.t.length ≤ 64 := fun x hx => ⟨(cut_raw H ho hx).1, (cut_raw H ho hx).2.1⟩
    obtain ⟨u1, u2⟩ := cut_words (p := ([], 0)) (f := F)
    generalize cutT ([], 0) F = L at *
    refine ⟨fun all gaps i W m => ∃ k : Nat, i = k ∧ k ≤ n1 ∧ m = n1 - k ∧ all = wordsT (L.take k) ∧ gaps = (((L.take k).filter fun x => hasG x.g 2).length : Nat) ∧ Ext w5 W, ⟨_, 0, rfl, by omega, rfl, by rw [List.take_zero]; rfl, by rw [List.take_zero]; rfl, Below.refl _ _⟩, ?_⟩
    rintro _ _ _ W m ⟨k, rfl, hk, rfl, rfl, rfl, eW⟩ _
    have EW := ext_trans e5 eW
    refine br_split (fun hlt => ?_) (fun hge => ?_)
    · have hkl : k < L.length := by omega
      have hx : L[k] ∈ L := List.getElem_mem hkl
      have hxe : L[k]? = some L[k] := by simp [hkl]
      have htk : L.take (k + 1) = L.take k ++ [L[k]] := List.take_succ_eq_append_getElem hkl
      have hwl := words_len (L.take k) fun y hy => (hraw y (List.mem_of_mem_take hy)).2
      have hgl : ((L.take k).filter fun x => hasG x.g 2).length ≤ k := by
        refine Nat.le_trans (List.length_filter_le _ _) ?_
        rw [List.length_take]; omega
      rw [List.length_take] at hwl
      obtain ⟨q1, q2⟩ := hraw _ hx
      generalize L[k] = x at *
      have hme : (L.map (nrmT rs))[k]? = some (nrmT rs x) := by rw [List.getElem?_map, hxe]; rfl
      obtain ⟨q, hq, d0, d1, d2, d3, d4, d5⟩ := tok_get (hL.ext eW) hme
      obtain ⟨f10, f2, f8, f16⟩ := bitA_facts q1.g0 q1.g1
      refine hq _ ⟨_, d0, _, d1, _, d2, _, d3, _, d4, _, d5, ?_⟩
      refine al_stL rfl (one6t _) fun b24 w26 hb24 B24 e26 s26 => ?_
      obtain ⟨c0, c1', c2', c3', c4, c5⟩ := blk6' B24
      refine ⟨_, c4, ?_⟩
      rw [nrm_g, f2]
      cases hg : hasG x.g 2 with
      | true =>
        simp only [br_t]
        refine ⟨n1 - (k + 1), by omega, k + 1, by rw [wrap_nat (by omega)], by omega, rfl, ?_, ?_, ext_trans eW e26⟩
        · rw [htk]; unfold wordsT; simp [hg]
        · rw [htk, List.filter_append, List.length_append, wrap_nat (by omega)]
          simp [hg]
      | false =>
        simp only [br_f]
        refine ⟨_, c0, ?_⟩
        rw [nrm_t]
        refine sadd_ok (by omega) ?_
        refine ⟨n1 - (k + 1), by omega, k + 1, by rw [wrap_nat (by omega)], by omega, rfl, ?_, ?_, ext_trans eW e26⟩
        · rw [htk]; unfold wordsT; simp [hg]
        · rw [htk, List.filter_append, List.length_append]
          simp [hg]
    · rw [List.take_of_length_le (by omega)]
      refine Characters_spec F hsF (hF.ext EW) (h3.ext eW) fun w35 e35 => ⟨_, _, rfl, ?_⟩
      have E35 := ext_trans EW e35
      refine CountT_spec 6 F hsF (hF.ext E35) (h3.ext (ext_trans eW e35)) fun w39 e39 => ⟨_, _, rfl, ?_⟩
      have E39 := ext_trans E35 e39
      have hc0 := H.c
      have he : couE 6 F = 0 := by unfold couE; rw [if_neg (by rw [hc0]; simp), if_neg (by omega)]
      have hr : couR 6 F = cntF 6 F := by unfold couR; rw [if_neg (by rw [he]; simp)]
      have hcl := Nat.le_trans (charsF_tlen F) (check_zero hc0).2.2
      rw [if_neg (by rw [hc0]; simp), if_neg (by rw [hc0]; simp), he, hr]
      simp only [decide_true, br_t]
      obtain ⟨mx, hmx0⟩ := hM
      have hmx := cell_ext hmx0 E39
      refine (Tryz.strings_ReplaceAll ⟨⟨charsF F⟩⟩ ⟨⟨[32]⟩⟩ ⟨⟨[]⟩⟩ mx w39 (by show (charsF F).length < _; omega) hmx (by show 1 ≤ 1; omega) (by show (charsF F).length + _ * 0 ≤ _; omega)).mono ?_
      rintro e w43 ⟨rfl, hbl⟩
      refine ⟨_, rfl, ?_⟩
      have hrr : (Lib.replaceAll (charsF F) [32] []) = (charsF F).filter noSp := by rw [replaceAll_one, sp32]
      simp only [List.toList_toArray] at hrr ⊢
      rw [hrr, u1, ← u2]
      simp only [decide_true, br_t]
      exact aw _ (ext_trans E39 hbl)
end
end Go.Proofs
namespace Go.Proofs
open Go Go.Sh Go.RowKit

/- Normalize and the law Norms -/
def nmE (rs : List Rw) (l : List Tok) : Int := if ruleE rs ≠ 0 then 1 else if 1024 < l.length then 4 else if (l.any fun x => decide (tokE x ≠ 0)) = true then 1 else nrmE rs l
def nmR (rs : List Rw) (l : List Tok) : List Tok := if nmE rs l = 0 then l.map (nrmT rs) else []
theorem tokE_g {x : Tok} (h : tokE x = 0) : 0 ≤ x.g ∧ x.g ≤ 31 := by
  unfold tokE at h
  split at h
  · cases h
  · omega
section
variable {R : Ending → World → Prop} {w : World}
theorem at_nilT {S : Nat → Prop} {n : Nat} {L : List Tok} (h : RowAt encTk S w none n L) : L = [] := by
  rcases h.2 with h | ⟨b, o, h, _⟩
  · cases L with
    | nil => rfl
    | cons x r => rw [row_cons] at h; cases h
  · cases h
theorem CloneTk_spec {S : Nat → Prop} {a : Option Addr} {n c : Nat} (L : List Tok) (hL : RowAt encTk S w a n L) (hb : L.length ≤ 1000000) (h : ∀ a' c' w', OwnL encTk w' w.heap.size 31 a' n c' L → Ext w w' → R (.returned (.slice a' n c')) w') :
    Calls Tryz.prog F_slices_Clone_of_api_Token_api_Token ⟨[.slice a n c]⟩ w R := by
  apply c_slices_Clone_of_api_Token_api_Token
  have hn : n = L.length := hL.1
  refine br_cases (fun g => ?_) (fun g => ?_)
  · have ha : a = none := by simpa using g
    subst ha
    have := at_nilT hL
    subst this
    obtain rfl : n = 0 := hn
    exact h none 0 w (Owns.nil _ _ _ _) (Below.refl _ _)
  · refine al_intro fun b w3 hb3 B3 e3 s3 => ?_
    have ho : OwnL encTk w3 w.heap.size 31 (some ⟨b, 0, none⟩) 0 0 [] := Owns.made B3 (by omega)
    have z3 := e3.size
    refine OwnL.pushAll slT_tok ho z3 (hL.ext e3) (by omega) (by omega) fun a' c' w5 o1 o2 o3 => ?_
    rw [Nat.zero_add] at o1 ⊢
    rw [List.nil_append] at o1
    exact h a' c' w5 o1 (ext_chgS e3 o2 fun j hj => (Owns.bk ho hj).1)
theorem ContainsT_spec' {S : Nat → Prop} {a : Option Addr} {n c : Nat} (l : List Tok) (q : Tok → Bool) (fn : FuncId) (hok : okFn Tryz.prog fn = true) (hp : ∀ {R : Ending → World → Prop} {v : World} (x : Tok), Ext w v → x ∈ l → (∀ v', Ext v v' → R (.returned (.bool (q x))) v') → Calls Tryz.prog fn ⟨[aggT x]⟩ v R)
    (hR : RowAt encTk S w a n l) (hn : n ≤ 4611686018427387904) (h : ∀ w', Ext w w' → R (.returned (.bool (l.any q))) w') : Calls Tryz.prog F_slices_ContainsFunc_of_api_Token_api_Token ⟨[.slice a n c, .func (.func fn) #[] #[]]⟩ w R := by
  apply c_slices_ContainsFunc_of_api_Token_api_Token
  apply c_slices_IndexFunc_of_api_Token_api_Token
  have hln := hR.1
  refine ⟨fun i W m => ∃ k : Nat, i = k ∧ k ≤ n ∧ m = n - k ∧ Ext w W ∧ (l.take k).any q = false, ⟨_, 0, rfl, by omega, rfl, Below.refl _ _, rfl⟩, ?_⟩
  rintro _ W m ⟨k, rfl, hk, rfl, he, hz⟩ _
  refine br_split (fun hlt => ?_) (fun hge => ?_)
  · have hkl : k < l.length := by omega
    obtain ⟨bb, o, hq, _, _, hc⟩ := (hR.ext he).get (show l[k]? = some l[k] by simp [hkl])
    refine hq _ ⟨_, by rw [add_none]; exact hc 0 _ rfl, _, by rw [add_none]; exact hc 1 _ rfl, _, by rw [add_none]; exact hc 2 _ rfl, _, by rw [add_none]; exact hc 3 _ rfl, _, by rw [add_none]; exact hc 4 _ rfl, _, by rw [add_none]; exact hc 5 _ rfl, hok, ?_⟩
    refine hp l[k] he (List.getElem_mem hkl) fun w16 e16 => ⟨_, rfl, br_cases (fun g => ?_) (fun g => ?_)⟩
    · refine ⟨_, rfl, ?_⟩
      have : l.any q = true := List.any_eq_true.2 ⟨l[k], List.getElem_mem hkl, g⟩
      rw [decide_eq_true (show (0 : Int) ≤ (k : Int) by omega), ← this]
      exact h w16 (ext_trans he e16)
    · refine ⟨n - (k + 1), by omega, k + 1, by rw [wrap_nat (by omega)], by omega, rfl, ext_trans he e16, ?_⟩
      rw [List.take_succ_eq_append_getElem hkl, List.any_append, hz]; simp [g]
  · rw [List.take_of_length_le (by omega)] at hz
    rw [hz] at h
    exact ⟨_, rfl, h W he⟩
def bigT (x : Tok) : Prop := x.t.length ≤ 1000000000000 ∧ x.m.length ≤ 4611686018427387904
theorem bad15_spec (x : Tok) (hx : bigT x) (hM : Mk w) (h : ∀ w', Ext w w' → R (.returned (.bool (decide (tokE x ≠ 0)))) w') : Calls Tryz.prog F_tokenizer_bad ⟨[aggT x]⟩ w R := by
  apply c_tokenizer_bad
  refine al_intro fun b7 w8 hb7 B7 e8 s8 => ?_
  obtain ⟨c0, c1, c2, c3, c4, c5⟩ := blk6' B7
  refine ⟨_, c0, _, c1, _, c2, _, c3, _, c4, _, c5, ?_⟩
  exact TokCheck_spec x hx.1 hx.2 (hM.ext e8) fun w16 e16 => ⟨_, rfl, h w16 (ext_trans e8 e16)⟩
theorem Same15_spec {S S' : Nat → Prop} {a a' : Option Addr} {n n' c c' : Nat} (L M : List Tok) (hL : RowAt encTk S w a n L) (hM : RowAt encTk S' w a' n' M) (hb : n ≤ 1000000000) (h : ∀ w', Ext w w' → R (.returned (.bool (decide (L = M)))) w') :
    Calls Tryz.prog F_ref15_SameTokens ⟨[.slice a n c, .slice a' n' c']⟩ w R := by
  apply c_ref15_SameTokens
  have h1 := hL.1
  have h2 := hM.1
  refine br_split (fun g => ?_) (fun g => ?_)
  · rw [decide_eq_false (fun hh => g (by rw [h1, h2, hh]))] at h
    exact h w (Below.refl _ _)
  refine ⟨fun i W m => ∃ k : Nat, i = k ∧ k ≤ n ∧ m = n - k ∧ L.take k = M.take k ∧ Ext w W, ⟨_, 0, rfl, by omega, rfl, rfl, Below.refl _ _⟩, ?_⟩
  rintro _ W m ⟨k, rfl, hk, rfl, ht, he⟩ _
  refine br_split (fun hlt => ?_) (fun hge => ?_)
  · have hkL : k < L.length := by omega
    have hkM : k < M.length := by omega
    unfold drw
    have ed := ext_drew W
    have hd := ext_trans he ed
    generalize W.drew = Wd at *
    obtain ⟨q, hq, c0, c1, c2, c3, c4, c5⟩ := tok_get (hL.ext hd) (show L[k]? = some L[k] by simp [hkL])
    obtain ⟨q', hq', d0, d1, d2, d3, d4, d5⟩ := tok_get (hM.ext hd) (show M[k]? = some M[k] by simp [hkM])
    refine hq _ ⟨_, c0, _, c1, _, c2, _, c3, _, c4, _, c5, hq' _ ⟨_, d0, _, d1, _, d2, _, d3, _, d4, _, d5, ?_⟩⟩
    show br (!eqTk L[k] M[k]) _ _
    refine br_cases (fun g1 => ?_) (fun g1 => ?_)
    · have hne : L[k] ≠ M[k] := fun hh => by rw [(eqTk_iff _ _).2 hh] at g1; cases g1
      rw [decide_eq_false (fun hh => hne (by subst hh; rfl))] at h
      exact h _ hd
    · have heq : L[k] = M[k] := (eqTk_iff _ _).1 (by rw [Bool.not_eq_false'] at g1; exact g1)
      refine ⟨n - (k + 1), by omega, k + 1, by rw [wrap_nat (by omega)], by omega, rfl, ?_, hd⟩
      rw [List.take_succ_eq_append_getElem hkL, List.take_succ_eq_append_getElem hkM, ht, heq]
  · rw [List.take_of_length_le (by omega), List.take_of_length_le (by omega)] at ht
    rw [decide_eq_true ht] at h
    exact h _ he
set_option maxRecDepth 20000 in
theorem Normalize15_spec {S S2 : Nat → Prop} {a a2 : Option Addr} {n c n2 c2 : Nat} (rs : List Rw) (l : List Tok) (hM : Mk w) (hsm : smallR rs) (hbig : ∀ x ∈ l, bigT x) (hn : n ≤ 4611686018427387904) (hR : RowAt encRw S2 w a2 n2 rs) (hL : RowAt encTk S w a n l)
    (h : ∀ a' n' c' w', RowAt encTk (fun k => w.heap.size ≤ k) w' a' n' (nmR rs l) → Ext w w' → R (.returned (.tuple ⟨[.slice a' n' c', .int .i64 (nmE rs l)]⟩)) w') :
    Calls Tryz.prog F_tokenizer_Normalize ⟨[.slice a2 n2 c2, .slice a n c]⟩ w R := by
  apply c_tokenizer_Normalize
  have hln := hL.1
  have bad : ∀ (e : Int) (v : World), e ≠ 0 → nmE rs l = e → Ext w v → R (.returned (.tuple ⟨[.slice none 0 0, .int .i64 e]⟩)) v := by
    intro e v he h0 hv
    have hr : nmR rs l = [] := by unfold nmR; rw [h0, if_neg he]
    rw [hr, h0] at h
    exact h none 0 0 v (RowAt.nil _) hv
  refine rwCheck_spec rs hsm hR fun w4 e4 => ⟨_, rfl, br_split (fun g1 => bad 1 w4 (by decide) (by unfold nmE; rw [if_pos g1]) e4) (fun g1 => br_split (fun g2 => bad 4 w4 (by decide) (by unfold nmE; rw [if_neg g1, if_pos (by omega)]) e4) (fun g2 => ?_))⟩
  refine ContainsT_spec' l (fun x => decide (tokE x ≠ 0)) 60 (by kernel_rfl) (fun {R} {v} x ev hx hR => bad15_spec x (hbig x hx) (hM.ext (ext_trans e4 ev)) hR) (hL.ext e4) hn fun w7 e7 => ⟨_, rfl, ?_⟩
  have E7 := ext_trans e4 e7
  have hE : nmE rs l = if (l.any fun x => decide (tokE x ≠ 0)) = true then 1 else nrmE rs l := by unfold nmE; rw [if_neg g1, if_neg (by omega)]
  refine br_cases (fun g3 => bad 1 w7 (by decide) (by rw [hE, if_pos g3]) E7) (fun g3 => ?_)
  rw [if_neg (by rw [g3]; decide)] at hE
  refine CloneTk_spec l (hL.ext E7) (by omega) fun a' c' w10 ho e10 => ⟨_, _, _, rfl, ?_⟩
  have E10 := ext_trans E7 e10
  have hR10 := ((hR.imp (S' := fun k => S2 k ∧ k < w.heap.size) fun k hk hl => ⟨hk, hl⟩).ext E10)
  have z7 := E7.size
  refine normalized_spec rs l hsm hR10 ho (fun k hk hh => by have := (Owns.bk ho hh).1; omega) (fun x hx => ?_) (by omega) fun w13 c13 ho2 => ?_
  · have := List.any_eq_false.1 g3 x hx
    exact tokE_g (by simpa using this)
  have E13 : Ext w w13 := ext_chgS E10 c13 fun k hk => by have := (Owns.bk ho hk).1; omega
  by_cases hz : nrmE rs l = 0
  · rw [if_pos hz]
    refine ⟨_, _, _, _, rfl, ?_⟩
    rw [← hE]
    have hr : nmR rs l = l.map (nrmT rs) := by unfold nmR; rw [if_pos (by rw [hE, hz])]
    refine h a' n c' w13 ?_ E13
    rw [hr]
    exact (OwnL.out (ho2 hz)).imp fun k hk _ => by have := ((ho2 hz).bk hk).1; omega
  · rw [if_neg hz]
    exact ⟨_, _, _, _, rfl, bad _ w13 hz hE E13⟩
end
end Go.Proofs
namespace Go.Proofs
open Go Go.Sh Go.RowKit

/- the law Norms -/
theorem nrm_nrm (rs rs2 : List Rw) (l : List Tok) : (l.map (nrmT rs)).map (nrmT rs2) = l.map (nrmT rs2) := by
  rw [List.map_map]; rfl
theorem nrmE_map (rs rs2 : List Rw) : ∀ l : List Tok, nrmE rs2 (l.map (nrmT rs)) = nrmE rs2 l
  | [] => rfl
  | x :: l => by
    rw [List.map_cons]
    unfold nrmE
    rw [nrm_g, nrm_t, nrmE_map rs rs2 l]
theorem nrmE_some {rs : List Rw} : ∀ {l : List Tok}, nrmE rs l ≠ 0 → ∃ x ∈ l, wordG x.g = true ∧ nrmE rs l = rwE rs x.t
  | [], h => absurd rfl h
  | x :: l, h => by
    unfold nrmE at h ⊢
    split
    · rename_i hh; exact ⟨x, List.mem_cons_self .., hh.1, rfl⟩
    · rename_i hh
      rw [if_neg hh] at h
      obtain ⟨y, hy, h1, h2⟩ := nrmE_some h
      exact ⟨y, List.mem_cons_of_mem _ hy, h1, h2⟩
theorem raw_word {x : Tok} (h : Raw x) (hw : wordG x.g = true) : wordlyF x.t = true := by
  unfold wordG at hw
  rcases h.k with ⟨e, _⟩ | ⟨_, e, _⟩ | ⟨_, _, c, s, e, h1, h2, h3⟩
  · rw [e] at hw; cases hw
  · rw [e] at hw; simp at hw
  · rw [e]
    unfold wordlyF
    rw [List.all_cons, let_inn h1, Bool.true_and, List.all_eq_true]
    exact h3
theorem rw_04 {rs : List Rw} {x : Tok} (h : Raw x) (hw : wordG x.g = true) (hl : x.t.length ≤ 64) (hr : ruleE rs = 0) : rwE rs x.t = 0 ∨ rwE rs x.t = 4 := by
  unfold rwE
  rw [if_neg (by rw [hr]; simp), if_neg (by omega), if_neg (by rw [raw_word h hw]; decide)]
  split
  · exact .inr rfl
  · exact .inl rfl
theorem cut_other {p : Ps} {f : Fo} {rs ot : List Rw} (H : TksOk p f rs) (ho : okF false f) (hn : nrmE ot (cutT p f) = 0) {x : Tok} (hx : x ∈ cutT p f) : tokE (nrmT ot x) = 0 ∧ (nrmT ot x).m.length ≤ 64 := by
  obtain ⟨hr, hl, _, _⟩ := cut_raw H ho hx
  have hm : if wordG x.g = true then normB (if wordG x.g = true then rwR ot x.t else x.t) = true else (if wordG x.g = true then rwR ot x.t else x.t) = x.t := by
    by_cases hw : wordG x.g = true
    · rw [if_pos hw, if_pos hw]
      exact rw_norm (nrmE_mem hn x hx hw) (raw_ne hr)
    · rw [if_neg hw, if_neg hw]
  refine ⟨(hr.ok hl hm).1, ?_⟩
  show (if wordG x.g = true then rwR ot x.t else x.t).length ≤ 64
  by_cases hw : wordG x.g = true
  · rw [if_pos hw, if_pos hw] at hm
    rw [if_pos hw]
    unfold normB at hm
    simp at hm
    exact hm.1.2
  · rw [if_neg hw]; exact hl
theorem nmE_of {rs : List Rw} {l : List Tok} (h1 : ruleE rs = 0) (h2 : l.length ≤ 1024) (h3 : ∀ x ∈ l, tokE x = 0) : nmE rs l = nrmE rs l := by
  unfold nmE
  rw [if_neg (by rw [h1]; simp), if_neg (by omega), if_neg]
  intro hh
  obtain ⟨x, hx, hb⟩ := List.any_eq_true.1 hh
  rw [decide_eq_true_eq] at hb
  exact hb (h3 x hx)
section
variable {R : Ending → World → Prop} {w : World}
set_option maxRecDepth 20000 in
theorem TokenizerNorms_spec {S S2 S3 : Nat → Prop} {a a2 b : Option Addr} {n c n2 c2 nb cb : Nat} (f : Fo) (hand : Int) (rs ot : List Rw) (hh0 : 0 ≤ hand ∧ hand < 256) (hF : Forms w) (hM : Mk w) (hf : SlF S w a n f) (hR : RowAt encRw S2 w a2 n2 rs) (hR3 : RowAt encRw S3 w b nb ot)
    (h : ∀ w', Ext w w' → R (.returned (.bool true)) w') : Calls Tryz.prog F_law15_TokenizerNorms ⟨[.slice a n c, .int .u8 hand, .slice a2 n2 c2, .slice b nb cb]⟩ w R := by
  apply c_law15_TokenizerNorms
  have aw : ∀ v, Ext w v → Calls Tryz.prog F_law15_awake ⟨[]⟩ v (fun e w' => ∃ x : Bool, e = .returned (.bool x) ∧ R (.returned (.bool x)) w') := fun v ev => awake15_spec (hF.ext ev) fun v' e' => ⟨_, rfl, h v' (ext_trans ev e')⟩
  refine tokens15_spec f hand rs hh0 hF hf hR fun a1 n1 c1 a3 n3 c3 w6 e6 hp => ⟨_, _, _, _, _, _, _, rfl, ?_⟩
  intro K10 hK10
  cases hb : tokB f (hand % 9) rs with
  | false => simp only [Bool.not_false, br_t]; exact aw w6 e6
  | true =>
    simp only [Bool.not_true, br_f]
    obtain ⟨hfi, hL, _⟩ := hp hb
    obtain ⟨H, hE⟩ := state_tks hb
    have hsr : smallR rs := smallR_of (by
      unfold tokB great15 at hb
      simp at hb
      exact hb.1.2)
    have hfs : FineF (stF f (hand % 9)) := hfi.res (hand % 9) false
    have ho := hfs.ok
    rw [hE] at hL
    generalize stF f (hand % 9) = F at *
    have hn1 := hL.1
    have hlen : (cutT ([], 0) F).length ≤ 1024 := by
      have := H.lg
      unfold longT at this
      simp at this
      exact this.1
    rw [List.length_map] at hn1
    refine GreatRules_spec ot (hR3.ext e6) ⟨_, rfl, br_cases (fun _ => aw w6 e6) (fun go => ?_)⟩
    have hso : smallR ot := smallR_of go
    refine rwCheck_spec ot hso (hR3.ext e6) fun w88 e88 => ⟨_, rfl, br_split (fun _ => aw w88 (ext_trans e6 e88)) (fun ro => ?_)⟩
    have ro : ruleE ot = 0 := Decidable.not_not.1 ro
    have E88 := ext_trans e6 e88
    refine hK10 w88 fun _ => ?_
    have hraw : ∀ x ∈ cutT ([], 0) F, Raw x ∧ x.t.length ≤ 64 ∧ tokE (nrmT rs x) = 0 ∧ (nrmT rs x).m.length ≤ 64 := fun x hx => ⟨(cut_raw H ho hx).1, (cut_raw H ho hx).2.1, (cut_raw H ho hx).2.2.1, nrm_m H ho hx⟩
    have hmem := fun x hx => nrmE_mem H.n x hx
    have hoth : nrmE ot (cutT ([], 0) F) = 0 → ∀ x ∈ cutT ([], 0) F, tokE (nrmT ot x) = 0 ∧ (nrmT ot x).m.length ≤ 64 := fun hn x hx => cut_other H ho hn hx
    have hrs := H.r
    have hnz := H.n
    generalize cutT ([], 0) F = L at *
    refine ⟨fun i W m => ∃ k : Nat, i = k ∧ k ≤ n1 ∧ m = n1 - k ∧ Ext w88 W, ⟨_, 0, rfl, by omega, rfl, Below.refl _ _⟩, ?_⟩
    rintro _ W m ⟨k, rfl, hk, rfl, eW⟩ _
    have EW := ext_trans E88 eW
    have e6W := ext_trans e88 eW
    refine br_split (fun hlt => ?_) (fun hge => ?_)
    · have hkl : k < L.length := by omega
      have hx : L[k] ∈ L := List.getElem_mem hkl
      have hxe : L[k]? = some L[k] := by simp [hkl]
      obtain ⟨q1, q2, q3, q4⟩ := hraw _ hx
      have q5 := hmem _ hx
      generalize L[k] = x at *
      have hme : (L.map (nrmT rs))[k]? = some (nrmT rs x) := by rw [List.getElem?_map, hxe]; rfl
      obtain ⟨q, hq, d0, d1, d2, d3, d4, d5⟩ := tok_get (hL.ext e6W) hme
      obtain ⟨f10, f2, f8, f16⟩ := bitA_facts q1.g0 q1.g1
      refine hq _ ⟨_, d0, _, d1, _, d2, _, d3, _, d4, _, d5, ?_⟩
      refine al_stL rfl (one6t _) fun b24 w26 hb24 B24 e26 s26 => ?_
      obtain ⟨c0, c1', c2', c3', c4, c5⟩ := blk6' B24
      refine ⟨_, c0, ?_⟩
      intro K28 hK28
      have k28 : ∀ (wt : List UInt8) (v : World), Ext w26 v → wt = (nrmT rs x).m → K28 wt 0 v := by
        rintro _ v ev rfl
        refine hK28 _ _ _ fun _ => br_split (fun hh => absurd rfl hh) (fun _ => ?_)
        obtain ⟨g0, g1, g2, g3, g4, g5⟩ := blk6' (B24.ext ev)
        refine ⟨_, g1, br_split (fun hh => absurd rfl hh) (fun _ => ?_)⟩
        exact ⟨n1 - (k + 1), by omega, k + 1, by rw [wrap_nat (by omega)], by omega, rfl, ext_trans eW (ext_trans e26 ev)⟩
      refine ⟨_, c4, ?_⟩
      rw [nrm_g, f10]
      cases hw : wordG x.g with
      | true =>
        simp only [br_t]
        refine ⟨_, c0, ?_⟩
        rw [nrm_t]
        refine rwNorm_spec rs x.t hsr (hR.ext (ext_trans EW e26)) fun w37 e37 => ⟨_, _, rfl, ?_⟩
        rw [q5 hw]
        refine k28 _ w37 e37 ?_
        show _ = (if wordG x.g = true then rwR rs x.t else x.t)
        rw [if_pos hw]
      | false =>
        simp only [br_f]
        refine k28 _ w26 (Below.refl _ _) ?_
        show x.t = (if wordG x.g = true then rwR rs x.t else x.t)
        rw [if_neg (by rw [hw]; decide)]
    · have hbigN : ∀ (r2 : List Rw), (∀ x ∈ L, (nrmT r2 x).m.length ≤ 64) → ∀ y ∈ L.map (nrmT r2), bigT y := by
        intro r2 hm y hy
        obtain ⟨x, hx, rfl⟩ := List.mem_map.1 hy
        have h1 := (hraw x hx).2.1
        have h2 := hm x hx
        exact ⟨by rw [nrm_t]; omega, by omega⟩
      have hT0 : ∀ y ∈ L.map (nrmT rs), tokE y = 0 := by
        intro y hy
        obtain ⟨x, hx, rfl⟩ := List.mem_map.1 hy
        exact (hraw x hx).2.2.1
      have hTl : (L.map (nrmT rs)).length ≤ 1024 := by rw [List.length_map]; omega
      have hb1 := hbigN rs fun x hx => (hraw x hx).2.2.2
      have v1 : nmE rs (L.map (nrmT rs)) = 0 := by rw [nmE_of hrs hTl hT0, nrmE_map, hnz]
      have v1' : nmR rs (L.map (nrmT rs)) = L.map (nrmT rs) := by unfold nmR; rw [if_pos v1, nrm_nrm]
      have v2 : nmE ot (L.map (nrmT rs)) = nrmE ot L := by rw [nmE_of ro hTl hT0, nrmE_map]
      have hLW := hL.ext e6W
      refine Normalize15_spec rs _ (hM.ext EW) hsr hb1 (by omega) (hR.ext EW) hLW fun a42 n42 c42 w41 h41 e41 => ⟨_, _, _, _, rfl, ?_⟩
      have E41 := ext_trans EW e41
      refine Normalize15_spec ot _ (hM.ext E41) hso hb1 (by omega) (hR3.ext E41) (hLW.ext e41) fun a46 n46 c46 w45 h45 e45 => ⟨_, _, _, _, rfl, ?_⟩
      have E45 := ext_trans E41 e45
      have hn46 := h45.1
      have hch : nmR ot (L.map (nrmT rs)) = if nrmE ot L = 0 then L.map (nrmT ot) else [] := by unfold nmR; rw [v2, nrm_nrm]
      have hbc : ∀ y ∈ nmR ot (L.map (nrmT rs)), bigT y := by
        intro y hy
        rw [hch] at hy
        by_cases hz : nrmE ot L = 0
        · rw [if_pos hz] at hy
          exact hbigN ot (fun x hx => (hoth hz x hx).2) y hy
        · rw [if_neg hz] at hy; cases hy
      have hcl : (nmR ot (L.map (nrmT rs))).length ≤ 1024 := by
        rw [hch]; split
        · rw [List.length_map]; omega
        · simp
      have hc0 : ∀ y ∈ nmR ot (L.map (nrmT rs)), tokE y = 0 := by
        intro y hy
        rw [hch] at hy
        by_cases hz : nrmE ot L = 0
        · rw [if_pos hz] at hy
          obtain ⟨x, hx, rfl⟩ := List.mem_map.1 hy
          exact (hoth hz x hx).1
        · rw [if_neg hz] at hy; cases hy
      refine Normalize15_spec rs _ (hM.ext E45) hsr hbc (by omega) (hR.ext E45) h45 fun a50 n50 c50 w49 h49 e49 => ⟨_, _, _, _, rfl, ?_⟩
      have E49 := ext_trans E45 e49
      have v3 : nmE rs (nmR ot (L.map (nrmT rs))) = 0 := by
        rw [nmE_of hrs hcl hc0, hch]
        split
        · rw [nrmE_map, hnz]
        · rfl
      rw [v1] at *
      rw [v1'] at h41
      rw [v2, v3]
      have hn42 := h41.1
      rw [List.length_map] at hn42
      intro K52 hK52
      have k52 : ∀ v, Ext w49 v → K52 v := by
        intro v ev
        refine hK52 _ fun _ => ?_
        have Ev := ext_trans E49 ev
        intro K54 hK54
        have k54t : nrmE ot L ≠ 0 → K54 true v := by
          intro hnz'
          refine hK54 _ _ fun _ => ?_
          simp only [br_t]
          obtain ⟨x, hx, hw, he⟩ := nrmE_some hnz'
          have h4 := rw_04 (hraw x hx).1 hw (hraw x hx).2.1 ro
          exact br_split (fun _ => aw v Ev) (fun hh => absurd (by rw [he] at hnz' ⊢; exact h4.resolve_left hnz') hh)
        have k54f : nrmE ot L = 0 → K54 false v := by
          intro hz
          refine hK54 _ _ fun _ => ?_
          simp only [br_f]
          have v4 : nmR rs (nmR ot (L.map (nrmT rs))) = L.map (nrmT rs) := by
            unfold nmR at v3 ⊢
            rw [if_pos v3]
            have := hch
            unfold nmR at this
            rw [this, if_pos hz, nrm_nrm]
          rw [v4] at h49
          rw [hch, if_pos hz] at h45
          have hn50 := h49.1
          rw [List.length_map] at hn50
          have hn46' := h45.1
          rw [List.length_map] at hn46'
          refine Same15_spec _ _ (h49.ext ev) (hLW.ext (ext_trans e41 (ext_trans e45 (ext_trans e49 ev)))) (by omega) fun w61 e61 => ⟨_, rfl, ?_⟩
          rw [decide_eq_true rfl]
          simp only [br_t]
          have F61 := ext_trans ev e61
          refine Words_spec _ (h45.ext (ext_trans e49 F61)) (by omega) fun a65 c65 w64 o64 e64 => ⟨_, _, _, rfl, ?_⟩
          have F64 := ext_trans F61 e64
          refine Words_spec _ (hLW.ext (ext_trans e41 (ext_trans e45 (ext_trans e49 F64)))) (by omega) fun a68 c68 w67 o67 e67 => ⟨_, _, _, rfl, ?_⟩
          have ht : txs (L.map (nrmT ot)) = txs (L.map (nrmT rs)) := by unfold txs; rw [List.map_map, List.map_map]; rfl
          rw [ht] at o64
          refine EqStr_spec _ _ ((OwnL.out o64).ext e67) (OwnL.out o67) (by unfold txs; rw [List.length_map, List.length_map]; omega) fun w70 e70 => ⟨_, rfl, ?_⟩
          rw [decide_eq_true rfl]
          simp only [br_t]
          exact aw w70 (ext_trans E49 (ext_trans F64 (ext_trans e67 e70)))
        exact br_split (fun hh => k54t hh) (fun hh => k54f (Decidable.not_not.1 hh))
      refine br_split (fun hh => absurd rfl hh) (fun _ => ?_)
      refine Same15_spec _ _ (h41.ext (ext_trans e45 e49)) (hLW.ext (ext_trans e41 (ext_trans e45 e49))) (by omega) fun w76 e76 => ⟨_, rfl, ?_⟩
      rw [decide_eq_true rfl]
      simp only [Bool.not_true, br_f]
      exact k52 w76 e76
end
end Go.Proofs
