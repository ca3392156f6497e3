/- The contracts of the functions that the law reaches, one after the other, and at the end the law's card. -/
import Derived.Test.YtieeggfkfgmdgaaDoorLawE
namespace Go.Proofs
open Go Go.Sh Go.RowKit

section
variable {R : Ending → World → Prop} {w : World}
theorem tok_get {S : Nat → Prop} {a : Option Addr} {n i : Nat} {l : List Tok} {x : Tok} (hR : RowAt encTk S w a n l) (hi : l[i]? = some x) :
    ∃ q : Addr, (∀ K : Addr → Prop, K q → idx a n (i : Int) 6 K) ∧ w.cell? (q.add 0) = some (.string ⟨⟨x.t⟩⟩) ∧ w.cell? (q.add 1) = some (.string ⟨⟨x.m⟩⟩) ∧ w.cell? (q.add 2) = some (.string ⟨⟨x.p.1⟩⟩) ∧ w.cell? (q.add 3) = some (.int .i64 x.p.2) ∧ w.cell? (q.add 4) = some (.int .i64 x.g) ∧ w.cell? (q.add 5) = some (.string ⟨⟨x.a⟩⟩) := by
  obtain ⟨b, o, hq, _, _, hc⟩ := hR.get hi
  refine ⟨⟨b, o, none⟩, hq, ?_⟩
  simp only [add_none]
  exact ⟨hc 0 _ rfl, hc 1 _ rfl, hc 2 _ rfl, hc 3 _ rfl, hc 4 _ rfl, hc 5 _ rfl⟩
theorem one6t (x : Tok) : ∀ u ∈ ([.string ⟨⟨x.t⟩⟩, .string ⟨⟨x.m⟩⟩, .string ⟨⟨x.p.1⟩⟩, .int .i64 x.p.2, .int .i64 x.g, .string ⟨⟨x.a⟩⟩] : List Value), u.oneCell' = true := by
  intro u hu; simp only [List.mem_cons, List.not_mem_nil, or_false] at hu; rcases hu with rfl | rfl | rfl | rfl | rfl | rfl <;> rfl
set_option maxRecDepth 20000 in
theorem Words_spec {S : Nat → Prop} {a : Option Addr} {n c : Nat} (l : List Tok) (hR : RowAt encTk S w a n l) (hn : n ≤ 1000000000) (h : ∀ a' c' w', OwnL Sh.encStr w' w.heap.size 9 a' n c' (txs l) → Ext w w' → R (.returned (.slice a' n c')) w') :
    Calls Tryd.prog F_tokenizer_Words ⟨[.slice a n c]⟩ w R := by
  apply c_tokenizer_Words
  have hln := hR.1
  refine ⟨fun oa on oc i W m => ∃ k : Nat, i = k ∧ k ≤ n ∧ m = n - k ∧ on = k ∧ Ext w W ∧ OwnL Sh.encStr W w.heap.size 9 oa on oc (txs (l.take k)), ⟨_, 0, rfl, by omega, rfl, rfl, Below.refl _ _, Owns.nil _ _ _ _⟩, ?_⟩
  rintro oa on oc _ W m ⟨k, rfl, hk, rfl, rfl, he, hO⟩ _
  refine br_split (fun hlt => ?_) (fun hge => ?_)
  · have hkl : on < l.length := by omega
    obtain ⟨q, hq, c0, c1, c2, c3, c4, c5⟩ := tok_get (hR.ext he) (show l[on]? = some l[on] by simp [hkl])
    refine hq _ ⟨_, c0, _, c1, _, c2, _, c3, _, c4, _, c5, ?_⟩
    refine al_stL rfl (one6t _) fun b15 w17 hb15 B15 e17 s17 => ⟨_, (blk6' B15).1, ?_⟩
    refine al_intro fun b19 w20 hb19 B19 e20 s20 => ?_
    have E20 := ext_trans e17 e20
    have B19' : Blk w20 b19 (Sh.encStr.enc l[on].t) 9 := B19
    have z20 := (ext_trans he E20).size
    refine OwnL.app1 (P := Tryd.prog) slT_strT (Owns.ext hO E20) (by omega) B19' (by omega) (by omega) fun a' c'' w22 ho hcg hn2 => ?_
    refine ⟨n - (on + 1), by omega, on + 1, by rw [wrap_nat (by omega)], by omega, rfl, rfl, ext_chgS (ext_trans he E20) hcg fun k hk => ?_, ?_⟩
    · exact ((Owns.ext hO E20).bk hk).1
    · have e : txs (l.take (on + 1)) = txs (l.take on) ++ [l[on].t] := by unfold txs; rw [List.take_succ_eq_append_getElem hkl, List.map_append]; rfl
      rw [e]; exact ho
  · have hkn : on = n := by omega
    subst hkn
    rw [List.take_of_length_le (by omega)] at hO
    exact h oa oc W hO he
theorem text15_spec (s : List UInt8) (h : ∀ w', Ext w w' → R (.returned (.agg ⟨[.int .i64 1, .string ⟨⟨s⟩⟩, .int .i64 0, .slice none 0 0]⟩)) w') : Calls Tryd.prog F_law15_text ⟨[.string ⟨⟨s⟩⟩]⟩ w R := by
  apply c_law15_text
  refine al_stL rfl (by intro u hu; simp only [List.mem_cons, List.not_mem_nil, or_false] at hu; rcases hu with rfl | rfl | rfl | rfl <;> rfl) fun b w' hb B e s => ?_
  obtain ⟨y0, y1, y2, y3⟩ := blk4 B
  exact ⟨_, y0, _, y1, _, y2, _, _, _, y3, h w' e⟩
theorem tkget_str {S : Nat → Prop} {w : World} {a : Option Addr} {n : Nat} {L : List (List UInt8)} (h : RowAt Sh.encStr S w a n L) {k : Nat} (hk : k < L.length) :
    ∃ q : Addr, (∀ K : Addr → Prop, K q → idx a n (k : Int) 1 K) ∧ w.cell? q = some (.string ⟨⟨L[k]⟩⟩) := by
  obtain ⟨bb, o, hq, _, _, hc⟩ := h.get (i := k) (x := L[k]) (List.getElem?_eq_getElem hk)
  exact ⟨⟨bb, o, none⟩, hq, hc 0 _ rfl⟩
set_option maxRecDepth 20000 in
theorem EqStr_spec {S S' : Nat → Prop} {a a' : Option Addr} {n n' c c' : Nat} (L M : List (List UInt8)) (hL : RowAt Sh.encStr S w a n L) (hM : RowAt Sh.encStr S' w a' n' M) (hb : L.length ≤ 1000000000) (h : ∀ w', Ext w w' → R (.returned (.bool (decide (L = M)))) w') :
    Calls Tryd.prog F_slices_Equal_of_string_string ⟨[.slice a n c, .slice a' n' c']⟩ w R := by
  apply c_slices_Equal_of_string_string
  have hn : n = L.length := hL.1
  have hn' : n' = M.length := hM.1
  refine br_split (fun g => ?_) (fun g => ?_)
  · have : decide (L = M) = false := decide_eq_false (fun e => g (by rw [hn, hn', e]))
    rw [← this]; exact h w (Below.refl _ _)
  refine ⟨fun t W m => ∃ k : Nat, t = k ∧ k ≤ n ∧ m = n - k ∧ L.take k = M.take k ∧ Ext w W, ⟨_, 0, rfl, by omega, rfl, rfl, Below.refl _ _⟩, ?_⟩
  rintro _ W m ⟨k, rfl, hk, rfl, heq, he⟩ _
  have hnn : L.length = M.length := by omega
  refine br_split (fun hlt => ?_) (fun hge => ?_)
  · have hkL : k < L.length := by omega
    have hkM : k < M.length := by omega
    unfold drw
    have Ed := ext_trans he (ext_drew W)
    obtain ⟨q, hq, c0⟩ := tkget_str (hL.ext Ed) hkL
    obtain ⟨q', hq', d0⟩ := tkget_str (hM.ext Ed) hkM
    refine hq _ ⟨_, c0, hq' _ ⟨_, d0, br_split (fun g2 => ?_) (fun g2 => ?_)⟩⟩
    · have : decide (L = M) = false := decide_eq_false (fun e => g2 (by subst e; rfl))
      rw [← this]; exact h _ Ed
    · refine ⟨n - (k + 1), by omega, k + 1, by rw [wrap_nat (by omega)], by omega, rfl, ?_, Ed⟩
      rw [List.take_succ_eq_append_getElem hkL, List.take_succ_eq_append_getElem hkM, heq, Classical.not_not.1 g2]
  · have hkn : k = L.length := by omega
    have : decide (L = M) = true := decide_eq_true (by
      rw [List.take_of_length_le (by omega), List.take_of_length_le (by omega)] at heq; exact heq)
    rw [← this]; exact h W he
/- equal lists of tokens -/
def eqTk (x y : Tok) : Bool := decide (x.t = y.t) && (decide (x.m = y.m) && ((decide (x.p.1 = y.p.1) && (decide (x.p.2 = y.p.2) && true)) && (decide (x.g = y.g) && (decide (x.a = y.a) && true))))
theorem eqTk_iff (x y : Tok) : eqTk x y = true ↔ x = y := by
  obtain ⟨t, m, ⟨p, q⟩, g, a⟩ := x
  obtain ⟨t', m', ⟨p', q'⟩, g', a'⟩ := y
  simp [eqTk, and_assoc]
instance (x y : Tok) : Decidable (x = y) := decidable_of_iff _ (eqTk_iff x y)
set_option maxRecDepth 20000 in
theorem EqualTk_spec {S S' : Nat → Prop} {a a' : Option Addr} {n n' c c' : Nat} (L M : List Tok) (hL : RowAt encTk S w a n L) (hM : RowAt encTk S' w a' n' M) (hb : n ≤ 1000000000) (h : ∀ w', Ext w w' → R (.returned (.bool (decide (L = M)))) w') :
    Calls Tryd.prog F_slices_Equal_of_api_Token_api_Token ⟨[.slice a n c, .slice a' n' c']⟩ w R := by
  apply c_slices_Equal_of_api_Token_api_Token
  have h1 := hL.1
  have h2 := hM.1
  refine br_split (fun g => ?_) (fun g => ?_)
  · rw [decide_eq_false (fun hh => g (by rw [h1, h2, hh]))] at h
    exact h w (Below.refl _ _)
  refine ⟨fun i W m => ∃ k : Nat, i = k ∧ k ≤ n ∧ m = n - k ∧ L.take k = M.take k ∧ Ext w W, ⟨_, 0, rfl, by omega, rfl, rfl, Below.refl _ _⟩, ?_⟩
  rintro _ W m ⟨k, rfl, hk, rfl, ht, he⟩ _
  refine br_split (fun hlt => ?_) (fun hge => ?_)
  · have hkL : k < L.length := by omega
    have hkM : k < M.length := by omega
    unfold drw
    have ed := ext_drew W
    have hd := ext_trans he ed
    generalize W.drew = Wd at *
    obtain ⟨q, hq, c0, c1, c2, c3, c4, c5⟩ := tok_get (hL.ext hd) (show L[k]? = some L[k] by simp [hkL])
    obtain ⟨q', hq', d0, d1, d2, d3, d4, d5⟩ := tok_get (hM.ext hd) (show M[k]? = some M[k] by simp [hkM])
    refine hq _ ⟨_, c0, _, c1, _, c2, _, c3, _, c4, _, c5, hq' _ ⟨_, d0, _, d1, _, d2, _, d3, _, d4, _, d5, ?_⟩⟩
    show br (!eqTk L[k] M[k]) _ _
    refine br_cases (fun g1 => ?_) (fun g1 => ?_)
    · have hne : L[k] ≠ M[k] := fun hh => by rw [(eqTk_iff _ _).2 hh] at g1; cases g1
      rw [decide_eq_false (fun hh => hne (by subst hh; rfl))] at h
      exact h _ hd
    · have heq : L[k] = M[k] := (eqTk_iff _ _).1 (by rw [Bool.not_eq_false'] at g1; exact g1)
      refine ⟨n - (k + 1), by omega, k + 1, by rw [wrap_nat (by omega)], by omega, rfl, ?_, hd⟩
      rw [List.take_succ_eq_append_getElem hkL, List.take_succ_eq_append_getElem hkM, ht, heq]
  · rw [List.take_of_length_le (by omega), List.take_of_length_le (by omega)] at ht
    rw [decide_eq_true ht] at h
    exact h _ he
/- a plain string's tokens -/
def splE (s : List UInt8) : Int := if checkC s ≠ 0 then checkC s else if s = [] then 0 else tksE ([], 0) (.one 1 s 0 .nil) []
def splR (s : List UInt8) : List (List UInt8) := if checkC s ≠ 0 then [] else if s = [] then [] else txs (tksR ([], 0) (.one 1 s 0 .nil) [])
theorem tks_len (p : Ps) (f : Fo) (rs : List Rw) : (tksR p f rs).length ≤ 1024 := by
  by_cases h : tksE p f rs = 0
  · obtain ⟨h1, h2⟩ := tks_ok h
    have := h1.lg
    unfold longT at this
    rw [Bool.or_eq_false_iff, decide_eq_false_iff_not] at this
    rw [h2, List.length_map]; omega
  · unfold tksR; rw [if_pos h]; exact Nat.zero_le _
theorem one_slf {b : Nat} {s : List UInt8} {T : TypeId} (hb : Blk w b [.int .i64 1, .string ⟨⟨s⟩⟩, .int .i64 0, .slice none 0 0] T) : SlF (fun _ => True) w (some ⟨b, 0, none⟩) 1 (.one 1 s 0 .nil) :=
  ⟨rfl, _, .inr ⟨b, 0, rfl, trivial, hb.lt, fun j v hj => by rw [Nat.zero_add, hb.cell]; exact hj⟩, none, 0, [], [], rfl, .inl rfl, rfl, rfl⟩
theorem one_small (k : Int) (s : List UInt8) (n : Int) : small (.one k s n .nil) := by unfold small Fo.one; simp [Fo.size]
theorem rules_none (S : Nat → Prop) (v : World) : RowAt encRw S v none 0 [] := RowAt.nil none
theorem smallR_nil : smallR [] := fun x hx => by cases hx
set_option maxRecDepth 20000 in
theorem Split_spec (s : List UInt8) (hs : s.length ≤ 4611686018427387904) (hF : Forms w) (h : ∀ a' n' c' w', n' = (splR s).length → OwnL Sh.encStr w' w.heap.size 9 a' n' c' (splR s) → Ext w w' → R (.returned (.tuple ⟨[.slice a' n' c', .int .i64 (splE s)]⟩)) w') :
    Calls Tryd.prog F_tokenizer_Split ⟨[.string ⟨⟨s⟩⟩]⟩ w R := by
  apply c_tokenizer_Split
  refine Check_spec s fun w3 e3 => ⟨_, rfl, br_split (fun g => ?_) (fun g => br_split (fun g2 => ?_) (fun g2 => ?_))⟩
  · have hE : splE s = checkC s := by unfold splE; rw [if_pos g]
    have hR : splR s = [] := by unfold splR; rw [if_pos g]
    rw [hE, hR] at h
    exact h none 0 0 w3 rfl (Owns.nil _ _ _ _) e3
  · have hE : splE s = 0 := by unfold splE; rw [if_neg g, if_pos g2]
    have hR : splR s = [] := by unfold splR; rw [if_neg g, if_pos g2]
    rw [hE, hR] at h
    exact h none 0 0 w3 rfl (Owns.nil _ _ _ _) e3
  · have hE : splE s = tksE ([], 0) (.one 1 s 0 .nil) [] := by unfold splE; rw [if_neg g, if_neg g2]
    have hR : splR s = txs (tksR ([], 0) (.one 1 s 0 .nil) []) := by unfold splR; rw [if_neg g, if_neg g2]
    refine al_intro fun b5 w6 hb5 B5 e6 s6 => ?_
    have E6 := ext_trans e3 e6
    refine Tokens_spec (S := fun _ => True) (S2 := fun _ => True) ([], 0) (.one 1 s 0 .nil) [] (one_small _ _ _) (hF.ext E6) (one_slf B5) smallR_nil (rules_none _ _) fun a' n' c' w8 hn ho e8 => ⟨_, _, _, _, rfl, ?_⟩
    have hl := tks_len ([], 0) (.one 1 s 0 .nil) []
    have E8 := ext_trans E6 e8
    refine Words_spec (tksR ([], 0) (.one 1 s 0 .nil) []) (OwnL.out ho) (by omega) fun a2 c2 w12 ho2 e12 => ⟨_, _, _, rfl, ?_⟩
    rw [← hE]
    have hz := E8.size
    refine h a2 n' c2 w12 ?_ ?_ (ext_trans E8 e12)
    · rw [hR, hn]; unfold txs; rw [List.length_map]
    · rw [hR]; exact Owns.weak ho2 hz
end
end Go.Proofs
namespace Go.Proofs
open Go Go.Sh Go.RowKit

/- the examples -/
def cutC (p : Ps) (f : Fo) : List Tok := shut ((amsF p f false []).foldl addB bs0)
theorem cutT_eq (p : Ps) (f : Fo) : cutT p f = cutC p f := (fold_tok _).symm
theorem tks_val {p : Ps} {f : Fo} {rs : List Rw} {L : List Tok} (h1 : checkT f = 0) (h2 : ruleE rs = 0) (h3 : 0 ≤ p.2 ∧ p.2 ≤ 4096) (h4 : namedB p.1 = true) (h5 : cntF 8 f + cntF 9 f = 0) (h6 : cutC p f = L) (h7 : longT L = false) (h8 : nrmE rs L = 0) :
    tksE p f rs = 0 ∧ tksR p f rs = L.map (nrmT rs) := by
  have he : tksE p f rs = 0 := by
    unfold tksE
    rw [cutT_eq, h6, if_neg (by rw [h1, h2]; simp), if_neg (by omega), if_neg (by rw [h4]; simp), if_neg (by omega), if_neg (by rw [h7]; simp), h8]
  refine ⟨he, ?_⟩
  rw [(tks_ok he).2, cutT_eq, h6]
def aw1 : Fo := .cons 1 [68, 101] 0 .nil (.cons 2 [] 0 .nil (.one 1 [117, 115, 32, 101, 115, 116, 44] 0 .nil))
def aw2 : Fo := .cons 1 [109, 97] 0 .nil (.cons 6 [] 2 .nil (.one 1 [117, 115] 0 .nil))
def aw3 : List UInt8 := [97, 98, 39, 99, 32, 39, 100]
def awL : List Tok := [⟨[68, 101, 117, 115], [68, 101, 117, 115], ([], 0), 0, []⟩, ⟨[101, 115, 116], [101, 115, 116], ([], 1), 0, []⟩, ⟨[44], [44], ([], 1), 24, []⟩]
theorem aw1_val : tksE ([], 0) aw1 [] = 0 ∧ tksR ([], 0) aw1 [] = awL := by
  have h := tks_val (p := ([], 0)) (f := aw1) (rs := []) (L := [⟨[68, 101, 117, 115], [], ([], 0), 0, []⟩, ⟨[101, 115, 116], [], ([], 1), 0, []⟩, ⟨[44], [], ([], 1), 24, []⟩])
    (by decide +kernel) (by decide +kernel) (by decide) (by decide +kernel) (by decide +kernel) (by decide +kernel) (by decide +kernel) (by decide +kernel)
  refine ⟨h.1, h.2.trans ?_⟩
  decide +kernel
theorem aw2_val : tksE ([], 0) aw2 [] = 0 ∧ ∃ x y z : Tok, tksR ([], 0) aw2 [] = [x, y, z] ∧ y.t = [91, 50, 93] ∧ z.g = 16 := by
  have h := tks_val (p := ([], 0)) (f := aw2) (rs := []) (L := [⟨[109, 97], [], ([], 0), 0, []⟩, ⟨[91, 50, 93], [], ([], 0), 18, []⟩, ⟨[117, 115], [], ([], 0), 16, []⟩])
    (by decide +kernel) (by decide +kernel) (by decide) (by decide +kernel) (by decide +kernel) (by decide +kernel) (by decide +kernel) (by decide +kernel)
  exact ⟨h.1, _, _, _, h.2, rfl, rfl⟩
theorem aw3_val : splE aw3 = 0 ∧ splR aw3 = [[97, 98, 39, 99], [39], [100]] := by
  have h := tks_val (p := ([], 0)) (f := .one 1 aw3 0 .nil) (rs := []) (L := [⟨[97, 98, 39, 99], [], ([], 0), 0, []⟩, ⟨[39], [], ([], 0), 8, []⟩, ⟨[100], [], ([], 0), 16, []⟩])
    (by decide +kernel) (by decide +kernel) (by decide) (by decide +kernel) (by decide +kernel) (by decide +kernel) (by decide +kernel) (by decide +kernel)
  have hc : checkC aw3 = 0 := by decide +kernel
  refine ⟨?_, ?_⟩
  · unfold splE; rw [if_neg (by rw [hc]; simp), if_neg (by decide)]; exact h.1
  · unfold splR; rw [if_neg (by rw [hc]; simp), if_neg (by decide), h.2]; rfl
section
variable {R : Ending → World → Prop} {w : World}
theorem foC3 {S : Nat → Prop} {k1 k2 k3 n1 n2 n3 : Int} {t1 t2 t3 : List UInt8} {b : Nat} {T : TypeId} (hb : Blk w b [.int .i64 k1, .string ⟨⟨t1⟩⟩, .int .i64 n1, .slice none 0 0, .int .i64 k2, .string ⟨⟨t2⟩⟩, .int .i64 n2, .slice none 0 0, .int .i64 k3, .string ⟨⟨t3⟩⟩, .int .i64 n3, .slice none 0 0] T) :
    SlF (fun _ => True) w (some ⟨b, 0, none⟩) 3 (.cons k1 t1 n1 .nil (.cons k2 t2 n2 .nil (.one k3 t3 n3 .nil))) :=
  ⟨rfl, _, .inr ⟨b, 0, rfl, trivial, hb.lt, fun j v hj => by rw [Nat.zero_add, hb.cell]; exact hj⟩, none, 0, [], _, rfl, .inl rfl, rfl, none, 0, [], _, rfl, .inl rfl, rfl, none, 0, [], [], rfl, .inl rfl, rfl, rfl⟩
theorem small_aw (k1 k2 k3 n1 n2 n3 : Int) (t1 t2 t3 : List UInt8) : small (.cons k1 t1 n1 .nil (.cons k2 t2 n2 .nil (.one k3 t3 n3 .nil))) := by unfold small Fo.one; simp [Fo.size]
set_option maxRecDepth 20000 in
theorem awake15_spec (hF : Forms w) (h : ∀ w', Ext w w' → R (.returned (.bool true)) w') : Calls Tryd.prog F_law15_awake ⟨[]⟩ w R := by
  apply c_law15_awake
  refine text15_spec _ fun w2 e2 => ⟨_, _, _, _, _, _, rfl, ?_⟩
  refine text15_spec _ fun w8 e8 => ⟨_, _, _, _, _, _, rfl, ?_⟩
  refine al_intro fun b13 w14 hb13 B13 e14 s14 => ?_
  have E14 := ext_trans (ext_trans e2 e8) e14
  obtain ⟨v1, v2⟩ := aw1_val
  obtain ⟨u1, x, y, z, u2, u3, u4⟩ := aw2_val
  obtain ⟨t1, t2⟩ := aw3_val
  have B13' : Blk w14 b13 [.int .i64 1, .string ⟨⟨[68, 101]⟩⟩, .int .i64 0, .slice none 0 0, .int .i64 2, .string ⟨⟨[]⟩⟩, .int .i64 0, .slice none 0 0, .int .i64 1, .string ⟨⟨[117, 115, 32, 101, 115, 116, 44]⟩⟩, .int .i64 0, .slice none 0 0] 44 := B13
  refine Tokens_spec (S := fun _ => True) (S2 := fun _ => True) ([], 0) aw1 [] (small_aw _ _ _ _ _ _ _ _ _) (hF.ext E14) (foC3 (S := fun _ => True) B13') smallR_nil (rules_none _ _) fun a1 n1 c1 w16 hn1 ho1 e16 => ⟨_, _, _, _, rfl, ?_⟩
  have E16 := ext_trans E14 e16
  refine Split_spec aw3 (by decide) (hF.ext E16) fun a2 n2 c2 w20 hn2 ho2 e20 => ⟨_, _, _, _, rfl, ?_⟩
  have E20 := ext_trans E16 e20
  refine text15_spec _ fun w24 e24 => ⟨_, _, _, _, _, _, rfl, ?_⟩
  refine text15_spec _ fun w30 e30 => ⟨_, _, _, _, _, _, rfl, ?_⟩
  refine al_intro fun b35 w36 hb35 B35 e36 s36 => ?_
  have F36 := ext_trans (ext_trans e24 e30) e36
  have E36 := ext_trans E20 F36
  have B35' : Blk w36 b35 [.int .i64 1, .string ⟨⟨[109, 97]⟩⟩, .int .i64 0, .slice none 0 0, .int .i64 6, .string ⟨⟨[]⟩⟩, .int .i64 2, .slice none 0 0, .int .i64 1, .string ⟨⟨[117, 115]⟩⟩, .int .i64 0, .slice none 0 0] 44 := B35
  refine Tokens_spec (S := fun _ => True) (S2 := fun _ => True) ([], 0) aw2 [] (small_aw _ _ _ _ _ _ _ _ _) (hF.ext E36) (foC3 (S := fun _ => True) B35') smallR_nil (rules_none _ _) fun a3 n3 c3 w38 hn3 ho3 e38 => ⟨_, _, _, _, rfl, ?_⟩
  have E38 := ext_trans E36 e38
  rw [v1, t1, u1]
  rw [v2] at ho1 hn1
  rw [t2] at ho2 hn2
  rw [u2] at ho3 hn3
  have hr1 := (((OwnL.out ho1).ext e20).ext F36).ext e38
  have hr2 := ((OwnL.out ho2).ext F36).ext e38
  have hr3 := OwnL.out ho3
  intro K41 hK41
  have k41 : ∀ w42, Ext w38 w42 → K41 w42 := by
    intro w42 e42
    refine hK41 _ fun _ => ?_
    refine al_stL rfl (by intro u hu; simp only [List.mem_cons, List.not_mem_nil, or_false] at hu; rcases hu with rfl | rfl <;> rfl) fun b43 w45 hb43 B43 e45 s45 => ?_
    obtain ⟨p0, p1⟩ := blk2' B43
    refine ⟨_, p0, _, p1, _, p0, _, p1, ?_⟩
    refine al_intro fun b50 w51 hb50 B50 e51 s51 => ?_
    have F51 := ext_trans (ext_trans e42 e45) e51
    have hrow : RowAt encTk (fun _ => True) w51 (some ⟨b50, 0, none⟩) 3 awL := ⟨rfl, .inr ⟨b50, 0, rfl, trivial, B50.lt, fun j v hj => by rw [Nat.zero_add, B50.cell]; exact hj⟩⟩
    refine EqualTk_spec awL awL (hr1.ext F51) hrow (by rw [hn1]; decide) fun w53 e53 => ⟨_, rfl, ?_⟩
    rw [decide_eq_true rfl]
    exact h w53 (ext_trans (ext_trans E38 F51) e53)
  refine br_split (fun hh => absurd (by decide) hh) (fun _ => ?_)
  refine al_intro fun b55 w56 hb55 B55 e56 s56 => ?_
  have hrow : RowAt Sh.encStr (fun _ => True) w56 (some ⟨b55, 0, none⟩) 3 [[97, 98, 39, 99], [39], [100]] := ⟨rfl, .inr ⟨b55, 0, rfl, trivial, B55.lt, fun j v hj => by rw [Nat.zero_add, B55.cell]; exact hj⟩⟩
  refine EqStr_spec [[97, 98, 39, 99], [39], [100]] [[97, 98, 39, 99], [39], [100]] (hr2.ext e56) hrow (by decide) fun w58 e58 => ⟨_, rfl, ?_⟩
  rw [decide_eq_true rfl]
  simp only [Bool.not_true, br_f]
  refine br_split (fun hh => absurd (by rw [hn3]; rfl) hh) (fun _ => ?_)
  have hr3' := (hr3.ext e56).ext e58
  obtain ⟨q, hq, d0, d1, d2, d3, d4, d5⟩ := tok_get hr3' (show [x, y, z][1]? = some y from rfl)
  refine hq _ ⟨_, d0, br_split (fun hh => absurd u3 hh) (fun _ => ?_)⟩
  obtain ⟨q', hq', f0, f1, f2, f3, f4, f5⟩ := tok_get hr3' (show [x, y, z][2]? = some z from rfl)
  exact hq' _ ⟨_, f4, br_split (fun hh => absurd u4 hh) (fun _ => k41 w58 (ext_trans e56 e58))⟩
/- sizes -/
def gr1 (x : Rw) : Bool := (decide (8 < x.1.length) && decide (x.1.length ≤ 64)) || ((decide (8 < x.2.length) && decide (x.2.length ≤ 64)) || (decide (66 < x.1.length) || decide (66 < x.2.length)))
def greatRu (l : List Rw) : Bool := ((decide (5 < l.length) && decide (l.length ≤ 64)) || decide (66 < l.length)) || l.any gr1
set_option maxRecDepth 20000 in
theorem GreatRules_spec {S : Nat → Prop} {a : Option Addr} {n c : Nat} (rs : List Rw) (hR : RowAt encRw S w a n rs) (h : R (.returned (.bool (greatRu rs))) w) : Calls Tryd.prog F_ref15_GreatRules ⟨[.slice a n c]⟩ w R := by
  apply c_ref15_GreatRules
  have hn := hR.1
  intro K2 hK2
  have k2 : ((decide (5 < rs.length) && decide (rs.length ≤ 64)) || decide (66 < rs.length)) = false → K2 w := by
    intro hno
    have h66 : rs.length ≤ 66 := by simp at hno; omega
    have hE : greatRu rs = rs.any gr1 := by unfold greatRu; rw [hno, Bool.false_or]
    rw [hE] at h
    refine hK2 _ fun _ => ?_
    refine ⟨fun i W m => ∃ k : Nat, i = k ∧ k ≤ n ∧ m = n - k ∧ (rs.take k).any gr1 = false ∧ W = w, ⟨_, 0, rfl, by omega, rfl, rfl, rfl⟩, ?_⟩
    rintro _ W m ⟨k, rfl, hk, rfl, hz, rfl⟩ _
    refine br_split (fun hlt => ?_) (fun hge => ?_)
    · have hkl : k < rs.length := by omega
      obtain ⟨b, o, hq, _, _, hc⟩ := hR.get (show rs[k]? = some rs[k] by simp [hkl])
      have c0 : W.cell? ((⟨b, o, none⟩ : Addr).add 0) = some (.string ⟨⟨rs[k].1⟩⟩) := by rw [add_none]; exact hc 0 _ rfl
      have c1 : W.cell? ((⟨b, o, none⟩ : Addr).add 1) = some (.string ⟨⟨rs[k].2⟩⟩) := by rw [add_none]; exact hc 1 _ rfl
      have yes : gr1 rs[k] = true → R (.returned (.bool true)) W := fun hg => by
        have : rs.any gr1 = true := List.any_eq_true.2 ⟨_, List.getElem_mem hkl, hg⟩
        rw [this] at h; exact h
      have no : gr1 rs[k] = false → ∃ m', m' < n - k ∧ ∃ k' : Nat, IntKind.i64.wrap ((k : Int) + 1) = k' ∧ k' ≤ n ∧ m' = n - k' ∧ (rs.take k').any gr1 = false ∧ W = W := fun hg =>
        ⟨n - (k + 1), by omega, k + 1, by rw [wrap_nat (by omega)], by omega, rfl, by rw [List.take_succ_eq_append_getElem hkl, List.any_append, hz]; simp [hg], rfl⟩
      generalize rs[k] = x at *
      refine hq _ ⟨_, c0, br_split (fun g1 => hq _ ⟨_, c0, br_split (fun g2 => yes (by unfold gr1; simp; omega)) (fun g2 => hq _ ⟨_, c1, br_split (fun g3 => hq _ ⟨_, c1, br_split (fun g4 => yes (by unfold gr1; simp; omega)) (fun g4 => hq _ ⟨_, c0, br_split (fun g5 => yes (by unfold gr1; simp; omega)) (fun g5 => hq _ ⟨_, c1, br_split (fun g6 => yes (by unfold gr1; simp; omega)) (fun g6 => no (by unfold gr1; simp; omega))⟩)⟩)⟩)
        (fun g3 => hq _ ⟨_, c0, br_split (fun g5 => yes (by unfold gr1; simp; omega)) (fun g5 => hq _ ⟨_, c1, br_split (fun g6 => yes (by unfold gr1; simp; omega)) (fun g6 => no (by unfold gr1; simp; omega))⟩)⟩)⟩)⟩) (fun g1 => hq _ ⟨_, c1, br_split (fun g3 => hq _ ⟨_, c1, br_split (fun g4 => yes (by unfold gr1; simp; omega)) (fun g4 => hq _ ⟨_, c0, br_split (fun g5 => yes (by unfold gr1; simp; omega)) (fun g5 => hq _ ⟨_, c1, br_split (fun g6 => yes (by unfold gr1; simp; omega)) (fun g6 => no (by unfold gr1; simp; omega))⟩)⟩)⟩)
        (fun g3 => hq _ ⟨_, c0, br_split (fun g5 => yes (by unfold gr1; simp; omega)) (fun g5 => hq _ ⟨_, c1, br_split (fun g6 => yes (by unfold gr1; simp; omega)) (fun g6 => no (by unfold gr1; simp; omega))⟩)⟩)⟩)⟩
    · rw [List.take_of_length_le (by omega)] at hz
      rw [hz] at h
      exact h
  have tr : ((decide (5 < rs.length) && decide (rs.length ≤ 64)) || decide (66 < rs.length)) = true → R (.returned (.bool true)) w := fun hh => by
    have : greatRu rs = true := by unfold greatRu; rw [hh, Bool.true_or]
    rw [this] at h; exact h
  refine br_split (fun g1 => br_split (fun g2 => tr (by simp; omega)) (fun g2 => br_split (fun g3 => tr (by simp; omega)) (fun g3 => k2 (by simp; omega)))) (fun g1 => br_split (fun g3 => tr (by simp; omega)) (fun g3 => k2 (by simp; omega)))
def great15 (f : Fo) (rs : List Rw) : Bool := greatF f || greatRu rs
theorem great15_spec {S S2 : Nat → Prop} {a a2 : Option Addr} {n c n2 c2 : Nat} (f : Fo) (rs : List Rw) (hf : SlF S w a n f) (hR : RowAt encRw S2 w a2 n2 rs) (h : ∀ w', Ext w w' → R (.returned (.bool (great15 f rs))) w') : Calls Tryd.prog F_law15_great ⟨[.slice a n c, .slice a2 n2 c2]⟩ w R := by
  apply c_law15_great
  refine Great_spec hf fun w4 e4 => ⟨_, rfl, ?_⟩
  unfold great15 at h
  cases hg : greatF f with
  | true => rw [hg, Bool.true_or] at h; simp only [br_t]; exact h w4 e4
  | false =>
    rw [hg, Bool.false_or] at h; simp only [br_f]
    exact GreatRules_spec rs (hR.ext e4) ⟨_, rfl, h w4 e4⟩
/- the tokens of a state -/
theorem smallR_of {rs : List Rw} (h : greatRu rs = false) : smallR rs := by
  unfold greatRu at h
  rw [Bool.or_eq_false_iff] at h
  intro x hx
  have := List.any_eq_false.1 h.2 x hx
  unfold gr1 at this
  simp at this
  omega
def tokB (f : Fo) (hd : Int) (rs : List Rw) : Bool := !great15 f rs && (decide (checkT f = 0) && (decide (ruleE rs = 0) && decide (tksE ([], 0) (stF f hd) rs = 0)))
set_option maxRecDepth 20000 in
theorem tokens15_spec {S S2 : Nat → Prop} {a a2 : Option Addr} {n c n2 c2 : Nat} (f : Fo) (hand : Int) (rs : List Rw) (hh0 : 0 ≤ hand ∧ hand < 256) (hF : Forms w) (hf : SlF S w a n f) (hR : RowAt encRw S2 w a2 n2 rs)
    (h : ∀ a1 n1 c1 a3 n3 c3 w', Ext w w' → (tokB f (hand % 9) rs = true → FineF f ∧ RowAt encTk (fun k => w.heap.size ≤ k) w' a1 n1 (tksR ([], 0) (stF f (hand % 9)) rs) ∧ SlF (fun k => S k ∨ w.heap.size ≤ k) w' a3 n3 (stF f (hand % 9))) → R (.returned (.tuple ⟨[.slice a1 n1 c1, .slice a3 n3 c3, .bool (tokB f (hand % 9) rs)]⟩)) w') :
    Calls Tryd.prog F_law15_tokens ⟨[.slice a n c, .int .u8 hand, .slice a2 n2 c2]⟩ w R := by
  apply c_law15_tokens
  intro K4 hK4
  have no : ∀ v, Ext w v → tokB f (hand % 9) rs = false → R (.returned (.tuple ⟨[.slice none 0 0, .slice none 0 0, .bool false]⟩)) v := fun v ev hb => by
    rw [hb] at h
    exact h none 0 0 none 0 0 v ev (fun hh => by cases hh)
  have k4 : ∀ w5, Ext w w5 → great15 f rs = false → checkT f = 0 → ruleE rs = 0 → K4 w5 := by
    intro w5 e5 hg hc hr
    refine hK4 _ fun _ => ⟨by decide, ?_⟩
    have hgf : greatF f = false := by unfold great15 at hg; rw [Bool.or_eq_false_iff] at hg; exact hg.1
    have hsm : smallR rs := smallR_of (by unfold great15 at hg; rw [Bool.or_eq_false_iff] at hg; exact hg.2)
    have hfine := fine_of hgf hc
    have e : Int.tmod (IntKind.i64.wrap hand) 9 = hand % 9 := by rw [wrap_id (by omega), Int.tmod_eq_emod_of_nonneg hh0.1]
    rw [e]
    have hh8 : 0 ≤ hand % 9 ∧ hand % 9 ≤ 8 := by omega
    refine State_spec f (hand % 9) hfine.small (hF.ext e5) (hf.ext e5) fun a3 n3 c3 w7 hs3 e7 => ⟨_, _, _, _, rfl, ?_⟩
    have E7 := ext_trans e5 e7
    rw [hfine.err hh8.1 hh8.2]
    have hst : resS f (hand % 9) false = stF f (hand % 9) := hfine.resS false hh8.1 hh8.2
    rw [hst] at hs3
    have hfs : FineF (stF f (hand % 9)) := hfine.res _ _
    have z5 := e5.size
    have hs3' := hs3.imp (S' := fun k => S k ∨ w.heap.size ≤ k) fun k hk _ => hk.imp id fun hh => by omega
    refine Tokens_spec ([], 0) (stF f (hand % 9)) rs hfs.small (hF.ext E7) hs3' hsm (hR.ext E7) fun a1 n1 c1 w11 hn1 ho1 e11 => ⟨_, _, _, _, rfl, br_split (fun _ => ?_) (fun hh => absurd rfl hh)⟩
    have hb : tokB f (hand % 9) rs = decide (tksE ([], 0) (stF f (hand % 9)) rs = 0) := by
      unfold tokB; rw [hg, hc, hr]; simp
    rw [← hb]
    have zE := E7.size
    refine h a1 n1 c1 a3 n3 c3 w11 (ext_trans E7 e11) fun _ => ⟨hfine, ?_, hs3'.ext e11⟩
    exact (OwnL.out ho1).imp fun k hk _ => by have := (ho1.bk hk).1; omega
  refine great15_spec f rs hf hR fun w15 e15 => ⟨_, rfl, br_cases (fun g => no w15 e15 (by unfold tokB; rw [g]; rfl)) (fun g => ?_)⟩
  by_cases hc : checkT f = 0
  · have hfine := fine_of (by unfold great15 at g; rw [Bool.or_eq_false_iff] at g; exact g.1) hc
    have hsm : smallR rs := smallR_of (by unfold great15 at g; rw [Bool.or_eq_false_iff] at g; exact g.2)
    refine Check22_spec f hfine.small (hf.ext e15) (hF.ext e15) fun w18 e18 => ⟨_, rfl, br_split (fun hh => absurd hc hh) (fun _ => ?_)⟩
    have E18 := ext_trans e15 e18
    refine rwCheck_spec rs hsm (hR.ext E18) fun w21 e21 => ⟨_, rfl, br_split (fun hh => ?_) (fun hh => ?_)⟩
    · exact no w21 (ext_trans E18 e21) (by unfold tokB; rw [decide_eq_false hh]; simp)
    · exact k4 w21 (ext_trans E18 e21) g hc (Decidable.not_not.1 hh)
  · have hgf : greatF f = false := by unfold great15 at g; rw [Bool.or_eq_false_iff] at g; exact g.1
    have hsm' : small f := by have := (great_small hgf).1; unfold small; omega
    refine Check22_spec f hsm' (hf.ext e15) (hF.ext e15) fun w18 e18 => ⟨_, rfl, br_split (fun hh => ?_) (fun hh => absurd (Decidable.not_not.1 hh) hc)⟩
    exact no w18 (ext_trans e15 e18) (by unfold tokB; rw [decide_eq_false hc]; simp)
end
end Go.Proofs
namespace Go.Proofs
open Go Go.Sh Go.RowKit

/- a later beginning -/
theorem cut_mv {F : Fo} (ho : okF false F) (b : Int) : cutT ([112], b) F = (cutT ([], 0) F).map (mvT b) := by
  have h1 := mv_ams b (p := ([], 0)) (u := false) (nm := []) ho
  have e : mvP b ([], 0) = ([112], b) := by unfold mvP; rw [if_pos rfl]; simp
  rw [e] at h1
  unfold cutT
  rw [h1, mv_div b _ (amsF ([], 0) F false []) false false (Nat.le_refl _)]
theorem long_mv (b : Int) (l : List Tok) : longT (l.map (mvT b)) = longT l := by
  unfold longT
  rw [List.length_map, List.any_map]; rfl
theorem nrmE_mv (b : Int) (rs : List Rw) : ∀ l : List Tok, nrmE rs (l.map (mvT b)) = nrmE rs l
  | [] => rfl
  | x :: l => by
    rw [List.map_cons]
    unfold nrmE
    rw [nrmE_mv b rs l]; rfl
theorem tks_mv {F : Fo} {rs : List Rw} {b : Int} (H : TksOk ([], 0) F rs) (ho : okF false F) (hb : 0 ≤ b ∧ b ≤ 99) : tksE ([112], b) F rs = 0 ∧ tksR ([112], b) F rs = ((cutT ([], 0) F).map (nrmT rs)).map (mvT b) := by
  have he : tksE ([112], b) F rs = 0 := by
    unfold tksE
    have hn : namedB [112] = true := by decide +kernel
    have h1 := H.c
    have h2 := H.r
    have h3 := H.cl
    have h4 := H.lg
    have h5 := H.n
    rw [cut_mv ho, long_mv, nrmE_mv, if_neg (by rw [h1, h2]; simp), if_neg (by show ¬ (b < 0 ∨ 4096 < b); omega), if_neg (by rw [hn]; simp), if_neg (by rw [h3]; simp), if_neg (by rw [h4]; simp), h5]
  refine ⟨he, ?_⟩
  rw [(tks_ok he).2, cut_mv ho, List.map_map, List.map_map]; rfl
theorem cut_line {F : Fo} {x : Tok} (hx : x ∈ cutT ([], 0) F) : 0 ≤ x.p.2 ∧ x.p.2 ≤ cntF 2 F ∧ (cntF 3 F = 0 → x.p.1 = []) := by
  have hs := div_place _ (amsF ([], 0) F false []) false false (Nat.le_refl _)
  have hm : x.p ∈ (amsF ([], 0) F false []).flatMap plA := hs.subset (List.mem_map_of_mem hx)
  obtain ⟨h1, h2, h3⟩ := ams_line F ([], 0) false [] (by decide) _ hm
  exact ⟨h1, by simpa using h2, h3⟩
theorem cut_up {F : Fo} (ho : okF false F) {i j : Nat} {x y : Tok} (hij : i < j) (hx : (cutT ([], 0) F)[i]? = some x) (hy : (cutT ([], 0) F)[j]? = some y) : upP x.p y.p := by
  have hs := div_place _ (amsF ([], 0) F false []) false false (Nat.le_refl _)
  have hp := (ams_up (p := ([], 0)) (u := false) (nm := []) ho).1.sublist hs
  obtain ⟨hi, rfl⟩ := List.getElem?_eq_some_iff.1 hx
  obtain ⟨hj, rfl⟩ := List.getElem?_eq_some_iff.1 hy
  have := List.pairwise_iff_getElem.1 hp i j (by rw [List.length_map]; exact hi) (by rw [List.length_map]; exact hj) hij
  rw [List.getElem_map, List.getElem_map] at this
  exact this
theorem state_tksP {f : Fo} {h : Int} {rs : List Rw} (hb : tokB f h rs = true) : TksOk ([], 0) (stF f h) rs ∧ tksR ([], 0) (stF f h) rs = (cutT ([], 0) (stF f h)).map (nrmT rs) := by
  unfold tokB at hb
  simp at hb
  exact tks_ok hb.2.2.2
end Go.Proofs
namespace Go.Proofs
open Go Go.Sh Go.RowKit

/- the law Places (seat D) -/
theorem allP_snoc (L : List Tok) {k : Nat} (hk : k < L.length) : ((L.take (k + 1)).all fun x => decide (x.p.1 = [])) = (((L.take k).all fun x => decide (x.p.1 = [])) && decide (L[k].p.1 = [])) := by
  rw [List.take_succ_eq_append_getElem hk, List.all_append]
  simp
section
variable {R : Ending → World → Prop} {w : World}
theorem want_store {b : Nat} {x : Tok} (pg : List UInt8) (ln : Int) (hb : Blk w b [.string ⟨⟨x.t⟩⟩, .string ⟨⟨x.m⟩⟩, .string ⟨⟨x.p.1⟩⟩, .int .i64 x.p.2, .int .i64 x.g, .string ⟨⟨x.a⟩⟩] 35) {K : World → Prop}
    (h : ∀ w', Blk w' b [.string ⟨⟨x.t⟩⟩, .string ⟨⟨x.m⟩⟩, .string ⟨⟨pg⟩⟩, .int .i64 ln, .int .i64 x.g, .string ⟨⟨x.a⟩⟩] 35 → Chg (fun k => k = b) w w' → K w') : stL w ((⟨b, 0, none⟩ : Addr).add 2) 0 [.string ⟨⟨pg⟩⟩, .int .i64 ln] K := by
  rw [add_none]
  refine stL_blk hb (by simp) (by intro u hu; simp only [List.mem_cons, List.not_mem_nil, or_false] at hu; rcases hu with rfl | rfl <;> rfl) fun w3 r1 r2 r3 r4 r5 r6 => ?_
  exact h w3 r1 ⟨r4, r5, r6, by omega, fun k _ hk => r2 k hk⟩
set_option maxRecDepth 40000 in
theorem TokenizerPlaces_spec {S : Nat → Prop} {a : Option Addr} {n c : Nat} (f : Fo) (hand line : Int) (hh0 : 0 ≤ hand ∧ hand < 256) (hl0 : 0 ≤ line ∧ line < 256) (hF : Forms w) (hf : SlF S w a n f)
    (h : ∀ w', Ext w w' → R (.returned (.bool true)) w') : Calls Tryd.prog F_law15_TokenizerPlaces ⟨[.slice a n c, .int .u8 hand, .int .u8 line]⟩ w R := by
  apply c_law15_TokenizerPlaces
  have aw : ∀ v, Ext w v → Calls Tryd.prog F_law15_awake ⟨[]⟩ v (fun e w' => ∃ x : Bool, e = .returned (.bool x) ∧ R (.returned (.bool x)) w') := fun v ev => awake15_spec (hF.ext ev) fun v' e' => ⟨_, rfl, h v' (ext_trans ev e')⟩
  refine tokens15_spec (S2 := fun _ => True) f hand [] hh0 hF hf (rules_none _ _) fun a1 n1 c1 a3 n3 c3 w5 e5 hp => ⟨_, _, _, _, _, _, _, rfl, ?_⟩
  cases hb : tokB f (hand % 9) [] with
  | false => simp only [Bool.not_false, br_t]; exact aw w5 e5
  | true =>
    simp only [Bool.not_true, br_f]
    obtain ⟨hfi, hL, h3⟩ := hp hb
    obtain ⟨H, hE⟩ := state_tksP hb
    have hfs : FineF (stF f (hand % 9)) := hfi.res (hand % 9) false
    have ho := hfs.ok
    have hsF := hfs.small
    rw [hE] at hL
    generalize stF f (hand % 9) = F at *
    have hn1 := hL.1
    rw [List.length_map] at hn1
    have hlen : (cutT ([], 0) F).length ≤ 1024 := by
      have := H.lg
      unfold longT at this
      simp at this
      exact this.1
    have hc0 := H.c
    have co : ∀ k : Int, 1 ≤ k → k ≤ 11 → couE k F = 0 ∧ couR k F = cntF k F := fun k h1 h2 => by
      have he : couE k F = 0 := by unfold couE; rw [if_neg (by rw [hc0]; simp), if_neg (by omega)]
      exact ⟨he, by unfold couR; rw [he]; rfl⟩
    refine CountT_spec 2 F hsF (hF.ext e5) h3 fun w13 e13 => ⟨_, _, rfl, ?_⟩
    have E13 := ext_trans e5 e13
    refine CountT_spec 3 F hsF (hF.ext E13) (h3.ext e13) fun w17 e17 => ⟨_, _, rfl, ?_⟩
    have E17 := ext_trans E13 e17
    rw [(co 2 (by decide) (by decide)).1, (co 2 (by decide) (by decide)).2, (co 3 (by decide) (by decide)).1, (co 3 (by decide) (by decide)).2]
    refine ⟨by decide, ?_⟩
    have eby : Int.tmod (IntKind.i64.wrap line) 100 = line % 100 := by rw [wrap_id (by omega), Int.tmod_eq_emod_of_nonneg hl0.1]
    rw [eby]
    have hby : 0 ≤ line % 100 ∧ line % 100 ≤ 99 := by omega
    generalize line % 100 = by_ at *
    obtain ⟨m1, m2⟩ := tks_mv H ho hby
    refine Tokens_spec (S2 := fun _ => True) ([112], by_) F [] hsF (hF.ext E17) (h3.ext (ext_trans e13 e17)) smallR_nil (rules_none _ _) fun a22 n22 c22 w21 hn22 ho22 e21 => ⟨_, _, _, _, rfl, ?_⟩
    have E21 := ext_trans E17 e21
    rw [m1]
    rw [m2] at hn22 ho22
    rw [List.length_map, List.length_map] at hn22
    have hR22 := OwnL.out ho22
    have e5_21 := ext_trans (ext_trans e13 e17) e21
    have hR1 := hL.ext e5_21
    intro K24 hK24
    have k24 : K24 w21 := by
      refine hK24 _ fun _ => ?_
      have hln : ∀ x ∈ cutT ([], 0) F, 0 ≤ x.p.2 ∧ x.p.2 ≤ cntF 2 F ∧ (cntF 3 F = 0 → x.p.1 = []) := fun x hx => cut_line hx
      have hup : ∀ {i j : Nat} {x y : Tok}, i < j → (cutT ([], 0) F)[i]? = some x → (cutT ([], 0) F)[j]? = some y → upP x.p y.p := fun hij hx hy => cut_up ho hij hx hy
      have h2c := cnt_size 2 F
      have hszF : F.size ≤ 24 := hfs.size
      generalize cutT ([], 0) F = L at *
      refine ⟨fun fi i W m => ∃ k : Nat, i = k ∧ k ≤ n1 ∧ m = n1 - k ∧ fi = ((L.take k).all fun x => decide (x.p.1 = [])) ∧ Ext w21 W, ⟨_, 0, rfl, by omega, rfl, rfl, Below.refl _ _⟩, ?_⟩
      rintro _ _ W m ⟨k, rfl, hk, rfl, rfl, eW⟩ _
      have EW := ext_trans E21 eW
      refine br_split (fun hlt => ?_) (fun hge => aw W EW)
      have hkl : k < L.length := by omega
      have hx : L[k] ∈ L := List.getElem_mem hkl
      have hxe : L[k]? = some L[k] := by simp [hkl]
      obtain ⟨l1, l2, l3⟩ := hln _ hx
      have hall := allP_snoc L hkl
      have hfirst : ((L.take (k + 1)).all fun x => decide (x.p.1 = [])) = decide (L[k].p.1 = []) := by
        rw [hall]
        by_cases hp0 : L[k].p.1 = []
        · rw [decide_eq_true hp0, Bool.and_true, List.all_eq_true]
          intro y hy
          obtain ⟨i, hi, rfl⟩ := List.getElem_of_mem hy
          rw [List.length_take] at hi
          rw [List.getElem_take, decide_eq_true_eq]
          have hu := hup (i := i) (j := k) (x := L[i]'(by omega)) (y := L[k]) (by omega) (List.getElem?_eq_getElem _) hxe
          by_cases hq : (L[i]'(by omega)).p.1 = []
          · exact hq
          · exact absurd hp0 (hu.1 hq)
        · rw [decide_eq_false hp0, Bool.and_false]
      have hprev : ∀ y, 1 ≤ k → L[k - 1]? = some y → upP y.p L[k].p := fun y h1 hy => hup (by omega) hy hxe
      generalize L[k] = x at *
      have hme : (L.map (nrmT []))[k]? = some (nrmT [] x) := by rw [List.getElem?_map, hxe]; rfl
      have hmm : ((L.map (nrmT [])).map (mvT by_))[k]? = some (mvT by_ (nrmT [] x)) := by rw [List.getElem?_map, hme]; rfl
      obtain ⟨q, hq, d0, d1, d2, d3, d4, d5⟩ := tok_get (hR1.ext eW) hme
      have ex : (nrmT [] x).p = x.p := rfl
      generalize nrmT [] x = y at *
      rw [← ex] at l1 l2 l3 hprev hfirst hall
      refine hq _ ⟨_, d0, _, d1, _, d2, _, d3, _, d4, _, d5, ?_⟩
      refine al_stL rfl (one6t _) fun b39 w41 hb39 B39 e41 s41 => ?_
      have F41 := ext_trans eW e41
      intro K42 hK42
      have next : ∀ v, Ext w41 v → ∃ m', m' < n1 - k ∧ ∃ k' : Nat, IntKind.i64.wrap ((k : Int) + 1) = k' ∧ k' ≤ n1 ∧ m' = n1 - k' ∧ decide (y.p.1 = []) = ((L.take k').all fun x => decide (x.p.1 = [])) ∧ Ext w21 v := fun v ev =>
        ⟨n1 - (k + 1), by omega, k + 1, by rw [wrap_nat (by omega)], by omega, rfl, hfirst.symm, ext_trans F41 ev⟩
      have k42 : ∀ v, Ext w41 v → K42 v := by
        intro w43 e43
        refine hK42 _ fun _ => ?_
        have B43 := B39.ext e43
        have G43 := ext_trans F41 e43
        intro K44 hK44
        have k44 : K44 (decide (y.p.1 = [])) w43 := by
          refine hK44 _ _ fun _ => ?_
          obtain ⟨g0, g1, g2, g3, g4, g5⟩ := blk6' B43
          refine ⟨_, g0, _, g1, _, g2, _, g3, _, g4, _, g5, ?_⟩
          refine al_stL rfl (one6t _) fun b53 w55 hb53 B53 e55 s55 => ?_
          have z43 := B43.lt
          intro K56 hK56
          have k56 : ∀ (z : Tok) (v : World), z = mvT by_ y → Blk v b53 [.string ⟨⟨z.t⟩⟩, .string ⟨⟨z.m⟩⟩, .string ⟨⟨z.p.1⟩⟩, .int .i64 z.p.2, .int .i64 z.g, .string ⟨⟨z.a⟩⟩] 35 → Ext w41 v → K56 v := by
            intro z w57 hz B57 e57
            refine hK56 _ fun _ => ?_
            unfold drw
            have ed := ext_drew w57
            have B58 := B57.ext ed
            have e58 := ext_trans e57 ed
            generalize w57.drew = w58 at *
            obtain ⟨f0, f1, f2, f3, f4, f5⟩ := blk6' B58
            obtain ⟨q', hq', r0, r1, r2, r3, r4, r5⟩ := tok_get (hR22.ext (ext_trans F41 e58)) hmm
            refine hq' _ ⟨_, r0, _, r1, _, r2, _, r3, _, r4, _, r5, _, f0, _, f1, _, f2, _, f3, _, f4, _, f5, ?_⟩
            show br (!eqTk (mvT by_ y) z) _ _
            rw [(eqTk_iff _ _).2 hz.symm]
            simp only [Bool.not_true, br_f]
            exact next w58 e58
          by_cases hp0 : y.p.1 = []
          · rw [decide_eq_true hp0]
            simp only [br_t]
            have e31 : (((⟨b39, 0, none⟩ : Addr).add 2).add 1) = (⟨b39, 0, none⟩ : Addr).add 3 := by simp only [add_none]
            obtain ⟨u0, u1, u2, u3, u4, u5⟩ := blk6' (B43.ext e55)
            refine ⟨_, by rw [e31]; exact u3, ?_⟩
            refine want_store _ _ B53 fun w74 B74 c74 => ?_
            refine k56 (mvT by_ y) w74 rfl ?_ (ext_chgS (ext_trans e43 e55) c74 fun j hj => by have := e43.size; omega)
            have em : mvP by_ y.p = ([112], y.p.2 + by_) := by unfold mvP; rw [if_pos hp0]
            rw [wrap_id (by omega)] at B74
            show Blk w74 b53 [.string ⟨⟨y.t⟩⟩, .string ⟨⟨y.m⟩⟩, .string ⟨⟨(mvP by_ y.p).1⟩⟩, .int .i64 (mvP by_ y.p).2, .int .i64 y.g, .string ⟨⟨y.a⟩⟩] 35
            rw [em]; exact B74
          · rw [decide_eq_false hp0]
            simp only [br_f]
            refine k56 y w55 ?_ B53 (ext_trans e43 e55)
            unfold mvT mvP
            rw [if_neg hp0]
        cases hfa : ((L.take k).all fun x => decide (x.p.1 = [])) with
        | true =>
          simp only [br_t]
          have e20 : (((⟨b39, 0, none⟩ : Addr).add 2).add 0) = (⟨b39, 0, none⟩ : Addr).add 2 := by simp only [add_none]
          obtain ⟨u0, u1, u2, u3, u4, u5⟩ := blk6' B43
          exact ⟨_, by rw [e20]; exact u2, k44⟩
        | false =>
          simp only [br_f]
          rw [hall, hfa, Bool.false_and] at hfirst
          rw [← hfirst] at k44
          exact k44
      unfold drw
      have ed := ext_drew w41
      have B76 := B39.ext ed
      generalize w41.drew = w76 at *
      obtain ⟨u0, u1, u2, u3, u4, u5⟩ := blk6' B76
      have e31 : (((⟨b39, 0, none⟩ : Addr).add 2).add 1) = (⟨b39, 0, none⟩ : Addr).add 3 := by simp only [add_none]
      have e20 : (((⟨b39, 0, none⟩ : Addr).add 2).add 0) = (⟨b39, 0, none⟩ : Addr).add 2 := by simp only [add_none]
      rw [e31, e20]
      have hK := k42 w76 ed
      refine ⟨_, u3, br_split (fun hh => absurd hh (by omega)) (fun _ => ⟨_, u3, br_split (fun hh => absurd hh (by omega)) (fun _ => ?_)⟩)⟩
      have tail : br (decide ((0 : Int) < (k : Int))) (∃ (x86 : List UInt8), World.cell? w76 ((⟨b39, 0, none⟩ : Addr).add 2) = some (.string ⟨⟨x86⟩⟩) ∧ (idx a1 n1 (IntKind.i64.wrap ((k : Int) - 1)) 6 fun p87 =>
  ∃ (x88 : List UInt8), World.cell? w76 ((p87.add 2).add 0) = some (.string ⟨⟨x88⟩⟩) ∧ (br (decide ((x86 : List UInt8) = x88)) (br (decide ((cntF 3 F : Int) = 0)) (∃ (x89 : Int), World.cell? w76 ((⟨b39, 0, none⟩ : Addr).add 3) = some (.int .i64 x89) ∧ (idx a1 n1 (IntKind.i64.wrap ((k : Int) - 1)) 6 fun p90 =>
  ∃ (x91 : Int), World.cell? w76 ((p90.add 2).add 1) = some (.int .i64 x91) ∧ (br (decide ((x89 : Int) < x91)) (R (.returned (.bool false)) w76) (K42 w76)))) (K42 w76)) (K42 w76)))) (K42 w76) := by
        refine br_split (fun hk0 => ⟨_, u2, ?_⟩) (fun _ => hK)
        have hkl2 : k - 1 < L.length := by omega
        have hye : L[k - 1]? = some L[k - 1] := by simp [hkl2]
        have hu := hprev _ (by omega) hye
        have hly := (hln _ (List.getElem_mem hkl2)).2.2
        generalize L[k - 1] = z at *
        have hmz : (L.map (nrmT []))[k - 1]? = some (nrmT [] z) := by rw [List.getElem?_map, hye]; rfl
        obtain ⟨qb, qo, hq', _, _, hqc⟩ := (hR1.ext (ext_trans F41 ed)).get hmz
        have ez : (nrmT [] z).p = z.p := rfl
        generalize nrmT [] z = zz at *
        rw [← ez] at hu hly
        have r2 : w76.cell? (((⟨qb, qo, none⟩ : Addr).add 2).add 0) = some (.string ⟨⟨zz.p.1⟩⟩) := by simp only [add_none]; exact hqc 2 _ rfl
        have r3 : w76.cell? (((⟨qb, qo, none⟩ : Addr).add 2).add 1) = some (.int .i64 zz.p.2) := by simp only [add_none]; exact hqc 3 _ rfl
        rw [wrap_id (by omega), show (k : Int) - 1 = ((k - 1 : Nat) : Int) by omega]
        refine hq' _ ⟨_, r2, br_split (fun hpe => br_split (fun hz3 => ⟨_, u3, hq' _ ⟨_, r3, br_split (fun hlt2 => ?_) (fun _ => hK)⟩⟩) (fun _ => hK)) (fun _ => hK)⟩
        have := hu.2 hpe.symm (hly (by omega))
        omega
      refine br_split (fun hz => ⟨_, u2, br_split (fun hh => absurd (l3 (by omega)) hh) (fun _ => tail)⟩) (fun _ => tail)
    refine br_split (fun hh => absurd (by simp) hh) (fun _ => br_split (fun hh => absurd (by rw [hn22, hn1]) hh) (fun _ => k24))
end
end Go.Proofs
