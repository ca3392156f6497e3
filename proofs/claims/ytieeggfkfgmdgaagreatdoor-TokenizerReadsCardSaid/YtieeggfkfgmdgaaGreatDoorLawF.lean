/- The contracts of the functions that the law reaches, one after the other, and at the end the law's card. -/
import Derived.Test.YtieeggfkfgmdgaaGreatDoorLawE
import Derived.Lib.SliceRun
import Derived.Lib.SlicesCompact
namespace Go.Proofs
open Go Go.Sh Go.RowKit

/- Normalize and the law Norms -/
def nmE (rs : List Rw) (l : List Tok) : Int := if ruleE rs ≠ 0 then 1 else if 1024 < l.length then 4 else if (l.any fun x => decide (tokE x ≠ 0)) = true then 1 else nrmE rs l
def nmR (rs : List Rw) (l : List Tok) : List Tok := if nmE rs l = 0 then l.map (nrmT rs) else []
theorem tokE_g {x : Tok} (h : tokE x = 0) : 0 ≤ x.g ∧ x.g ≤ 31 := by
  unfold tokE at h
  split at h
  · cases h
  · omega
section
variable {R : Ending → World → Prop} {w : World}
theorem at_nilT {S : Nat → Prop} {n : Nat} {L : List Tok} (h : RowAt encTk S w none n L) : L = [] := by
  rcases h.2 with h | ⟨b, o, h, _⟩
  · cases L with
    | nil => rfl
    | cons x r => rw [row_cons] at h; cases h
  · cases h
theorem CloneTk_spec {S : Nat → Prop} {a : Option Addr} {n c : Nat} (L : List Tok) (hL : RowAt encTk S w a n L) (hb : L.length ≤ 1000000) (h : ∀ a' c' w', OwnL encTk w' w.heap.size 31 a' n c' L → Ext w w' → R (.returned (.slice a' n c')) w') :
    Calls Tryz.prog F_slices_Clone_of_api_Token_api_Token ⟨[.slice a n c]⟩ w R := by
  apply c_slices_Clone_of_api_Token_api_Token
  have hn : n = L.length := hL.1
  refine br_cases (fun g => ?_) (fun g => ?_)
  · have ha : a = none := by simpa using g
    subst ha
    have := at_nilT hL
    subst this
    obtain rfl : n = 0 := hn
    exact h none 0 w (Owns.nil _ _ _ _) (Below.refl _ _)
  · refine al_intro fun b w3 hb3 B3 e3 s3 => ?_
    have ho : OwnL encTk w3 w.heap.size 31 (some ⟨b, 0, none⟩) 0 0 [] := Owns.made B3 (by omega)
    have z3 := e3.size
    refine OwnL.pushAll slT_tok ho z3 (hL.ext e3) (by omega) (by omega) fun a' c' w5 o1 o2 o3 => ?_
    rw [Nat.zero_add] at o1 ⊢
    rw [List.nil_append] at o1
    exact h a' c' w5 o1 (ext_chgS e3 o2 fun j hj => (Owns.bk ho hj).1)
theorem ContainsT_spec' {S : Nat → Prop} {a : Option Addr} {n c : Nat} (l : List Tok) (q : Tok → Bool) (fn : FuncId) (hok : okFn Tryz.prog fn = true) (hp : ∀ {R : Ending → World → Prop} {v : World} (x : Tok), Ext w v → x ∈ l → (∀ v', Ext v v' → R (.returned (.bool (q x))) v') → Calls Tryz.prog fn ⟨[aggT x]⟩ v R)
    (hR : RowAt encTk S w a n l) (hn : n ≤ 4611686018427387904) (h : ∀ w', Ext w w' → R (.returned (.bool (l.any q))) w') : Calls Tryz.prog F_slices_ContainsFunc_of_api_Token_api_Token ⟨[.slice a n c, .func (.func fn) #[] #[]]⟩ w R := by
  apply c_slices_ContainsFunc_of_api_Token_api_Token
  apply c_slices_IndexFunc_of_api_Token_api_Token
  have hln := hR.1
  refine ⟨fun i W m => ∃ k : Nat, i = k ∧ k ≤ n ∧ m = n - k ∧ Ext w W ∧ (l.take k).any q = false, ⟨_, 0, rfl, by omega, rfl, Below.refl _ _, rfl⟩, ?_⟩
  rintro _ W m ⟨k, rfl, hk, rfl, he, hz⟩ _
  refine br_split (fun hlt => ?_) (fun hge => ?_)
  · have hkl : k < l.length := by omega
    obtain ⟨bb, o, hq, _, _, hc⟩ := (hR.ext he).get (show l[k]? = some l[k] by simp [hkl])
    refine hq _ ⟨_, by rw [add_none]; exact hc 0 _ rfl, _, by rw [add_none]; exact hc 1 _ rfl, _, by rw [add_none]; exact hc 2 _ rfl, _, by rw [add_none]; exact hc 3 _ rfl, _, by rw [add_none]; exact hc 4 _ rfl, _, by rw [add_none]; exact hc 5 _ rfl, hok, ?_⟩
    refine hp l[k] he (List.getElem_mem hkl) fun w16 e16 => ⟨_, rfl, br_cases (fun g => ?_) (fun g => ?_)⟩
    · refine ⟨_, rfl, ?_⟩
      have : l.any q = true := List.any_eq_true.2 ⟨l[k], List.getElem_mem hkl, g⟩
      rw [decide_eq_true (show (0 : Int) ≤ (k : Int) by omega), ← this]
      exact h w16 (ext_trans he e16)
    · refine ⟨n - (k + 1), by omega, k + 1, by rw [wrap_nat (by omega)], by omega, rfl, ext_trans he e16, ?_⟩
      rw [List.take_succ_eq_append_getElem hkl, List.any_append, hz]; simp [g]
  · rw [List.take_of_length_le (by omega)] at hz
    rw [hz] at h
    exact ⟨_, rfl, h W he⟩
def bigT (x : Tok) : Prop := x.t.length ≤ 1000000000000 ∧ x.m.length ≤ 4611686018427387904
theorem bad15_spec (x : Tok) (hx : bigT x) (hM : Mk w) (h : ∀ w', Ext w w' → R (.returned (.bool (decide (tokE x ≠ 0)))) w') : Calls Tryz.prog F_tokenizer_bad ⟨[aggT x]⟩ w R := by
  apply c_tokenizer_bad
  refine al_intro fun b7 w8 hb7 B7 e8 s8 => ?_
  obtain ⟨c0, c1, c2, c3, c4, c5⟩ := blk6' B7
  refine ⟨_, c0, _, c1, _, c2, _, c3, _, c4, _, c5, ?_⟩
  exact TokCheck_spec x hx.1 hx.2 (hM.ext e8) fun w16 e16 => ⟨_, rfl, h w16 (ext_trans e8 e16)⟩
theorem Same15_spec {S S' : Nat → Prop} {a a' : Option Addr} {n n' c c' : Nat} (L M : List Tok) (hL : RowAt encTk S w a n L) (hM : RowAt encTk S' w a' n' M) (hb : n ≤ 1000000000) (h : ∀ w', Ext w w' → R (.returned (.bool (decide (L = M)))) w') :
    Calls Tryz.prog F_ref15_SameTokens ⟨[.slice a n c, .slice a' n' c']⟩ w R := by
  apply c_ref15_SameTokens
  have h1 := hL.1
  have h2 := hM.1
  refine br_split (fun g => ?_) (fun g => ?_)
  · rw [decide_eq_false (fun hh => g (by rw [h1, h2, hh]))] at h
    exact h w (Below.refl _ _)
  refine ⟨fun i W m => ∃ k : Nat, i = k ∧ k ≤ n ∧ m = n - k ∧ L.take k = M.take k ∧ Ext w W, ⟨_, 0, rfl, by omega, rfl, rfl, Below.refl _ _⟩, ?_⟩
  rintro _ W m ⟨k, rfl, hk, rfl, ht, he⟩ _
  refine br_split (fun hlt => ?_) (fun hge => ?_)
  · have hkL : k < L.length := by omega
    have hkM : k < M.length := by omega
    unfold drw
    have ed := ext_drew W
    have hd := ext_trans he ed
    generalize W.drew = Wd at *
    obtain ⟨q, hq, c0, c1, c2, c3, c4, c5⟩ := tok_get (hL.ext hd) (show L[k]? = some L[k] by simp [hkL])
    obtain ⟨q', hq', d0, d1, d2, d3, d4, d5⟩ := tok_get (hM.ext hd) (show M[k]? = some M[k] by simp [hkM])
    refine hq _ ⟨_, c0, _, c1, _, c2, _, c3, _, c4, _, c5, hq' _ ⟨_, d0, _, d1, _, d2, _, d3, _, d4, _, d5, ?_⟩⟩
    show br (!eqTk L[k] M[k]) _ _
    refine br_cases (fun g1 => ?_) (fun g1 => ?_)
    · have hne : L[k] ≠ M[k] := fun hh => by rw [(eqTk_iff _ _).2 hh] at g1; cases g1
      rw [decide_eq_false (fun hh => hne (by subst hh; rfl))] at h
      exact h _ hd
    · have heq : L[k] = M[k] := (eqTk_iff _ _).1 (by rw [Bool.not_eq_false'] at g1; exact g1)
      refine ⟨n - (k + 1), by omega, k + 1, by rw [wrap_nat (by omega)], by omega, rfl, ?_, hd⟩
      rw [List.take_succ_eq_append_getElem hkL, List.take_succ_eq_append_getElem hkM, ht, heq]
  · rw [List.take_of_length_le (by omega), List.take_of_length_le (by omega)] at ht
    rw [decide_eq_true ht] at h
    exact h _ he
set_option maxRecDepth 20000 in
theorem Normalize15_spec {S S2 : Nat → Prop} {a a2 : Option Addr} {n c n2 c2 : Nat} (rs : List Rw) (l : List Tok) (hM : Mk w) (hsm : smallR rs) (hbig : ∀ x ∈ l, bigT x) (hn : n ≤ 4611686018427387904) (hR : RowAt encRw S2 w a2 n2 rs) (hL : RowAt encTk S w a n l)
    (h : ∀ a' n' c' w', RowAt encTk (fun k => w.heap.size ≤ k) w' a' n' (nmR rs l) → Ext w w' → R (.returned (.tuple ⟨[.slice a' n' c', .int .i64 (nmE rs l)]⟩)) w') :
    Calls Tryz.prog F_tokenizer_Normalize ⟨[.slice a2 n2 c2, .slice a n c]⟩ w R := by
  apply c_tokenizer_Normalize
  have hln := hL.1
  have bad : ∀ (e : Int) (v : World), e ≠ 0 → nmE rs l = e → Ext w v → R (.returned (.tuple ⟨[.slice none 0 0, .int .i64 e]⟩)) v := by
    intro e v he h0 hv
    have hr : nmR rs l = [] := by unfold nmR; rw [h0, if_neg he]
    rw [hr, h0] at h
    exact h none 0 0 v (RowAt.nil _) hv
  refine rwCheck_spec rs hsm hR fun w4 e4 => ⟨_, rfl, br_split (fun g1 => bad 1 w4 (by decide) (by unfold nmE; rw [if_pos g1]) e4) (fun g1 => br_split (fun g2 => bad 4 w4 (by decide) (by unfold nmE; rw [if_neg g1, if_pos (by omega)]) e4) (fun g2 => ?_))⟩
  refine ContainsT_spec' l (fun x => decide (tokE x ≠ 0)) 60 (by kernel_rfl) (fun {R} {v} x ev hx hR => bad15_spec x (hbig x hx) (hM.ext (ext_trans e4 ev)) hR) (hL.ext e4) hn fun w7 e7 => ⟨_, rfl, ?_⟩
  have E7 := ext_trans e4 e7
  have hE : nmE rs l = if (l.any fun x => decide (tokE x ≠ 0)) = true then 1 else nrmE rs l := by unfold nmE; rw [if_neg g1, if_neg (by omega)]
  refine br_cases (fun g3 => bad 1 w7 (by decide) (by rw [hE, if_pos g3]) E7) (fun g3 => ?_)
  rw [if_neg (by rw [g3]; decide)] at hE
  refine CloneTk_spec l (hL.ext E7) (by omega) fun a' c' w10 ho e10 => ⟨_, _, _, rfl, ?_⟩
  have E10 := ext_trans E7 e10
  have hR10 := ((hR.imp (S' := fun k => S2 k ∧ k < w.heap.size) fun k hk hl => ⟨hk, hl⟩).ext E10)
  have z7 := E7.size
  refine normalized_spec rs l hsm hR10 ho (fun k hk hh => by have := (Owns.bk ho hh).1; omega) (fun x hx => ?_) (by omega) fun w13 c13 ho2 => ?_
  · have := List.any_eq_false.1 g3 x hx
    exact tokE_g (by simpa using this)
  have E13 : Ext w w13 := ext_chgS E10 c13 fun k hk => by have := (Owns.bk ho hk).1; omega
  by_cases hz : nrmE rs l = 0
  · rw [if_pos hz]
    refine ⟨_, _, _, _, rfl, ?_⟩
    rw [← hE]
    have hr : nmR rs l = l.map (nrmT rs) := by unfold nmR; rw [if_pos (by rw [hE, hz])]
    refine h a' n c' w13 ?_ E13
    rw [hr]
    exact (OwnL.out (ho2 hz)).imp fun k hk _ => by have := ((ho2 hz).bk hk).1; omega
  · rw [if_neg hz]
    exact ⟨_, _, _, _, rfl, bad _ w13 hz hE E13⟩
end
end Go.Proofs
namespace Go.Sh
open Go Go.RowKit

/- clearing the end of a slice that the call has made, and cutting it off -/
theorem setCells_blk {T : TypeId} : ∀ {vs cs : List Value} {w : World} {b o : Nat}, Blk w b cs T →
    Blk (w.setCells b o vs) b (putAt cs o vs) T ∧ (∀ k, k ≠ b → (w.setCells b o vs).heap[k]? = w.heap[k]?) ∧ (w.setCells b o vs).heap.size = w.heap.size ∧
      (w.setCells b o vs).os = w.os ∧ (w.setCells b o vs).tape = w.tape ∧ (w.setCells b o vs).output = w.output
  | [], cs, w, b, o, h => ⟨h, fun _ _ => rfl, rfl, rfl, rfl, rfl⟩
  | v :: vs, cs, w, b, o, h => by
    obtain ⟨a1, a2, a3, a4, a5, a6⟩ := setCells_blk (vs := vs) (o := o + 1) (h.set o v)
    refine ⟨a1, fun k hk => (a2 k hk).trans ?_, a3.trans (by simp), a4, a5, a6⟩
    simp only [World.setCell, Array.getElem?_modify]
    rw [if_neg (fun e => hk e.symm)]
theorem slA_zero (a : Option Addr) (c : Nat) (ha : a = none ∨ ∃ g, a = some ⟨g, 0, none⟩) : slA a c 0 1 = a := by
  unfold slA
  split
  · rfl
  · rcases ha with rfl | ⟨g, rfl⟩
    · rfl
    · simp [add_none]
section
variable {α : Type} {E : Enc α} {w : World} {B : Nat} {e : TypeId} {a : Option Addr} {n c : Nat} {l : List α}
end
end Go.Sh
namespace Go.Proofs
open Go Go.Sh Go.RowKit

/- slices.IndexFunc, DeleteFunc of strings -/
def idxF {α : Type} (q : α → Bool) (l : List α) : Int := if l.any q then (l.findIdx q : Int) else -1
theorem get_str {S : Nat → Prop} {w : World} {a : Option Addr} {n : Nat} {L : List (List UInt8)} (h : RowAt Sh.encStr S w a n L) {k : Nat} (hk : k < L.length) :
    ∃ q : Addr, (∀ K : Addr → Prop, K q → idx a n (k : Int) 1 K) ∧ w.cell? q = some (.string ⟨⟨L[k]⟩⟩) := by
  obtain ⟨bb, o, hq, _, _, hc⟩ := h.get (i := k) (x := L[k]) (List.getElem?_eq_getElem hk)
  exact ⟨⟨bb, o, none⟩, hq, hc 0 _ rfl⟩
theorem findIdx_at {α : Type} {q : α → Bool} {l : List α} {k : Nat} (hk : k < l.length) (hq : q l[k] = true) (hno : ∀ j (h : j < k), q (l[j]'(by omega)) = false) : l.findIdx q = k := by
  rw [List.findIdx_eq hk]
  exact ⟨hq, fun j hj => by simp [hno j hj]⟩
theorem filter_take_succ {α : Type} (p : α → Bool) {l : List α} {k : Nat} (hk : k < l.length) : (l.take (k + 1)).filter p = if p l[k] = true then (l.take k).filter p ++ [l[k]] else (l.take k).filter p := by
  rw [List.take_add_one, List.getElem?_eq_getElem hk, List.filter_append]
  by_cases h : p l[k] = true <;> simp [h]
end Go.Proofs
namespace Go.Proofs
open Go Go.Sh Go.RowKit

/- the bytes of a string, as the conversion lays them: unfrozen up to the row's end -/
def BBk (w : World) (b : Nat) (cs : List Value) : Prop := w.heap[b]? = some (.cells ⟨cs⟩ 5 (cs.length, cs.length + 1))
theorem BBk.cell {w : World} {b : Nat} {cs : List Value} (h : BBk w b cs) (i : Nat) : w.cell? ⟨b, i, none⟩ = cs[i]? := by
  simp [World.cell?, show w.heap[b]? = _ from h]
theorem BBk.lt {w : World} {b : Nat} {cs : List Value} (h : BBk w b cs) : b < w.heap.size := (Array.getElem?_eq_some_iff.1 h).1
theorem BBk.frozen {w : World} {b : Nat} {cs : List Value} (h : BBk w b cs) {i : Nat} (hi : i < cs.length) : w.frozen? ⟨b, i, none⟩ = false := by
  simp [World.frozen?, show w.heap[b]? = _ from h]
  omega
theorem BBk.set {w : World} {b : Nat} {cs : List Value} (h : BBk w b cs) (i : Nat) (v : Value) : BBk (w.setCell ⟨b, i, none⟩ v) b (cs.set i v) := by
  unfold BBk at *
  simp [World.setCell, Array.getElem?_modify, h]
theorem BBk.ext {w w' : World} {b : Nat} {cs : List Value} (h : BBk w b cs) (e : Ext w w') : BBk w' b cs := by
  have := e.block b h.lt
  unfold BBk at *
  rw [this]; exact h
theorem st_bbk {w : World} {b : Nat} {cs : List Value} {i : Nat} {v : Value} (h : BBk w b cs) (hi : i < cs.length) (ho : v.oneCell' = true) {K : World → Prop} (hk : ∀ w', BBk w' b (cs.set i v) → Chg (fun k => k = b) w w' → K w') : stL w ⟨b, i, none⟩ 0 [v] K := by
  refine ⟨?_, ?_, ho, ?_⟩
  · rw [add_none, Nat.add_zero, h.cell]; exact ⟨cs[i], by simp [hi]⟩
  · rw [add_none, Nat.add_zero]; exact h.frozen hi
  · rw [add_none, Nat.add_zero]
    refine hk _ (h.set i v) ⟨rfl, rfl, rfl, by simp, fun k _ hkb => ?_⟩
    simp only [World.setCell, Array.getElem?_modify]
    rw [if_neg (fun e => hkb e.symm)]
theorem s2b_row {w : World} {l : List UInt8} {K : Option Addr → Nat → Nat → World → Prop}
    (h : ∀ w' zs, BBk w' w.heap.size (Lib.byteCells l ++ zs) → Ext w w' → K (some ⟨w.heap.size, 0, none⟩) l.length (l.length + zs.length) w') : s2b Tryz.prog w 5 l K := by
  have hsh : ∀ c : Array Value, (w.drew.alloc (.cells c 5)).shape? w.heap.size = some (5, c.size) := by
    intro c
    simp [World.shape?, World.alloc, World.drew, -World.alloc_eq, -World.drew_eq]
  have hg := Lib.bytesWorld_at_new w 5 ⟨⟨l⟩⟩
  have hcs : Lib.bytesCells w 5 ⟨⟨l⟩⟩ = ⟨Lib.byteCells l ++ List.replicate (grownCap w l.length 0 5 - l.length) (.int .u8 0)⟩ := by
    unfold Lib.bytesCells Lib.byteCells
    simp [ByteArray.size]
  have hgc : l.length ≤ grownCap w l.length 0 5 := by
    exact grownCap_ge w _ _ _
  refine ⟨some ⟨w.heap.size, 0, none⟩, l.length, grownCap w l.length 0 5, Lib.bytesWorld w 5 ⟨⟨l⟩⟩, ?_, ?_⟩
  · have := hsh
    simp [Conv.stringToBytes, newRow, markStringish, Question.forced, Lib.bytesWorld, Lib.bytesCells, grownCap, hsh, Result.andThen, ByteArray.size]
  · have h2 := h (Lib.bytesWorld w 5 ⟨⟨l⟩⟩) (List.replicate (grownCap w l.length 0 5 - l.length) (.int .u8 0)) (by
      unfold BBk
      rw [hg, hcs]; rfl) ⟨rfl, rfl, rfl, by rw [Lib.bytesWorld_size]; omega, fun k hk => Lib.bytesWorld_at_old w 5 _ k hk⟩
    rw [List.length_replicate, show l.length + (grownCap w l.length 0 5 - l.length) = grownCap w l.length 0 5 by omega] at h2
    exact h2
theorem b2s_cells {w : World} {b c : Nat} {l : List UInt8} {K : List UInt8 → Prop} (h : ∀ j (hj : j < l.length), w.cell? ⟨b, j, none⟩ = some (.int .u8 (l[j].toNat : Int))) (hK : K l) : b2s Tryz.prog w (some ⟨b, 0, none⟩) l.length c K := by
  refine ⟨l, ?_, hK⟩
  have := run_convert_bytes_back (P := Tryz.prog) w 73 9 5 ⟨b, 0, none⟩ c l (by kernel_rfl) (by kernel_rfl) (by kernel_rfl) (fun j hj => by rw [add_none, Nat.zero_add]; exact h j hj)
  rw [run_convert_bytes_string w 73 9 5 _ _ _ (by kernel_rfl) (by kernel_rfl) (by kernel_rfl)] at this
  exact this
theorem byteR_set (A D : List UInt8) (c d : UInt8) (zs : List Value) : (Lib.byteCells (A ++ c :: D) ++ zs).set A.length (.int .u8 (d.toNat : Int)) = Lib.byteCells (A ++ d :: D) ++ zs := by
  simp [Lib.byteCells, List.set_append]
theorem byteR_at (A D : List UInt8) (c : UInt8) (zs : List Value) : (Lib.byteCells (A ++ c :: D) ++ zs)[A.length]? = some (.int .u8 (c.toNat : Int)) := by
  simp [Lib.byteCells]
theorem byte_row {w : World} {b : Nat} {l : List UInt8} {zs : List Value} (h : BBk w b (Lib.byteCells l ++ zs)) : ∀ j (hj : j < l.length), w.cell? ⟨b, j, none⟩ = some (.int .u8 (l[j].toNat : Int)) := by
  intro j hj
  rw [h.cell, List.getElem?_append_left (by simpa [Lib.byteCells] using hj)]
  simp [Lib.byteCells, hj]
theorem idx_row {b n k : Nat} (hk : k < n) {K : Addr → Prop} (h : K ⟨b, k, none⟩) : idx (some ⟨b, 0, none⟩) n (k : Int) 1 K := by
  refine ⟨by omega, by omega, ?_⟩
  show K _
  rw [add_none, Int.toNat_natCast, Nat.mul_one, Nat.zero_add]; exact h
/- lower case -/
def lowC (c : UInt8) : UInt8 := if 65 ≤ c.toNat ∧ c.toNat ≤ 90 then UInt8.ofNat (c.toNat + 32) else c
theorem low_wrap {c : UInt8} (h : 65 ≤ c.toNat ∧ c.toNat ≤ 90) : IntKind.u8.wrap (IntKind.u8.wrap ((c.toNat : Int) - 65) + 97) = ((lowC c).toNat : Int) := by
  have e : (lowC c).toNat = c.toNat + 32 := by
    unfold lowC
    rw [if_pos h, UInt8.toNat_ofNat']
    omega
  rw [e]
  have w1 : ∀ n : Int, 0 ≤ n → n < 256 → IntKind.u8.wrap n = n := fun n h0 h1 => by
    simp [IntKind.wrap, IntKind.signed, IntKind.bits]
    omega
  rw [w1 ((c.toNat : Int) - 65) (by omega) (by omega), w1 _ (by omega) (by omega)]
  omega
section
variable {R : Ending → World → Prop} {w : World}
set_option maxRecDepth 20000 in
theorem Fold_spec (s : List UInt8) (hs : s.length ≤ 1000000000) (h : ∀ w', Ext w w' → R (.returned (.string ⟨⟨s.map lowC⟩⟩)) w') : Calls Tryz.prog F_charset_Fold ⟨[.string ⟨⟨s⟩⟩]⟩ w R := by
  apply c_charset_Fold
  refine s2b_row fun w3 zs B3 e3 => ?_
  refine ⟨fun i W m => ∃ k : Nat, i = k ∧ k ≤ s.length ∧ m = s.length - k ∧ BBk W w.heap.size (Lib.byteCells ((s.take k).map lowC ++ s.drop k) ++ zs) ∧ Ext w W, ⟨_, 0, rfl, by omega, rfl, by simpa using B3, e3⟩, ?_⟩
  rintro _ W m ⟨k, rfl, hk, rfl, hB, eW⟩ _
  refine br_split (fun hlt => ?_) (fun hge => ?_)
  · have hkl : k < s.length := by omega
    have hA : ((s.take k).map lowC).length = k := by simp; omega
    have hd : s.drop k = s[k] :: s.drop (k + 1) := List.drop_eq_getElem_cons hkl
    have ht : (s.take (k + 1)).map lowC = (s.take k).map lowC ++ [lowC s[k]] := by rw [List.take_succ_eq_append_getElem hkl, List.map_append]; rfl
    rw [hd] at hB
    have hcell : W.cell? ⟨w.heap.size, k, none⟩ = some (.int .u8 (s[k].toNat : Int)) := by
      rw [hB.cell]
      have := byteR_at ((s.take k).map lowC) (s.drop (k + 1)) s[k] zs
      rw [hA] at this; exact this
    refine idx_row hkl ⟨_, hcell, ?_⟩
    intro K11 hK11
    have next : ∀ v, BBk v w.heap.size (Lib.byteCells ((s.take (k + 1)).map lowC ++ s.drop (k + 1)) ++ zs) → Ext w v → ∃ m', m' < s.length - k ∧ ∃ k' : Nat, IntKind.i64.wrap ((k : Int) + 1) = k' ∧ k' ≤ s.length ∧ m' = s.length - k' ∧ BBk v w.heap.size (Lib.byteCells ((s.take k').map lowC ++ s.drop k') ++ zs) ∧ Ext w v := fun v hb he =>
      ⟨s.length - (k + 1), by omega, k + 1, by rw [wrap_nat (by omega)], by omega, rfl, hb, he⟩
    have kt : (65 ≤ s[k].toNat ∧ s[k].toNat ≤ 90) → K11 true W := fun hc => by
      refine hK11 _ _ fun _ => ?_
      simp only [br_t]
      refine idx_row hkl ?_
      rw [low_wrap hc]
      refine st_bbk hB (by simp [Lib.byteCells]; omega) rfl fun v hv cv => next v ?_ (ext_chgS eW cv fun j hj => by omega)
      have := byteR_set ((s.take k).map lowC) (s.drop (k + 1)) s[k] (lowC s[k]) zs
      rw [hA] at this
      rw [this] at hv
      rw [ht, List.append_assoc]
      exact hv
    have kf : ¬ (65 ≤ s[k].toNat ∧ s[k].toNat ≤ 90) → K11 false W := fun hc => by
      refine hK11 _ _ fun _ => ?_
      simp only [br_f]
      refine next W ?_ eW
      have e : lowC s[k] = s[k] := by unfold lowC; rw [if_neg hc]
      rw [ht, e, List.append_assoc]
      exact hB
    refine br_split (fun g1 => ?_) (fun g1 => kf (by omega))
    by_cases g2 : s[k].toNat ≤ 90
    · rw [decide_eq_true (by omega)]; exact kt (by omega)
    · rw [decide_eq_false (by omega)]; exact kf (by omega)
  · have hkn : k = s.length := by omega
    subst hkn
    rw [List.take_length, List.drop_length, List.append_nil] at hB
    have hl : (s.map lowC).length = s.length := by simp
    rw [← hl]
    exact b2s_cells (byte_row hB) (h W eW)
end
end Go.Proofs
namespace Go.Proofs
open Go Go.Sh Go.RowKit

/- slices.DeleteFunc over the bytes of a string, and Plain -/
def psM (c : UInt8) : Bool := decide (kd c = 2)
theorem setCells_bbk : ∀ {vs cs : List Value} {w : World} {b o : Nat}, BBk w b cs → BBk (w.setCells b o vs) b (putAt cs o vs) ∧ Chg (fun k => k = b) w (w.setCells b o vs)
  | [], cs, w, b, o, h => ⟨h, Chg.refl _ _⟩
  | v :: vs, cs, w, b, o, h => by
    obtain ⟨a1, a2⟩ := setCells_bbk (vs := vs) (o := o + 1) (h.set o v)
    have c1 : Chg (fun k => k = b) w (w.setCell ⟨b, o, none⟩ v) := ⟨rfl, rfl, rfl, by simp, fun k _ hkb => by
      simp only [World.setCell, Array.getElem?_modify]
      rw [if_neg (fun e => hkb e.symm)]⟩
    exact ⟨a1, c1.trans a2⟩
theorem byteR_set2 {M : List UInt8} {i : Nat} (hi : i < M.length) (d : UInt8) (zs : List Value) : (Lib.byteCells M ++ zs).set i (.int .u8 (d.toNat : Int)) = Lib.byteCells (M.set i d) ++ zs := by
  rw [List.set_append_left _ _ (by simpa [Lib.byteCells] using hi)]
  simp [Lib.byteCells, List.map_set]
section
variable {R : Ending → World → Prop} {w : World}
theorem Plain1_spec (c : UInt8) (h : R (.returned (.bool (psM c))) w) : Calls Tryz.prog F_charset_Plain_1 ⟨[.int .u8 (c.toNat : Int)]⟩ w R := by
  apply c_charset_Plain_1
  exact Kind_spec _ ⟨_, rfl, h⟩
theorem callM (c : UInt8) (h : R (.returned (.bool (psM c))) w) : CallV Tryz.prog (.func (.func F_charset_Plain_1) #[] #[]) [.int .u8 (c.toNat : Int)] w R :=
  ⟨by kernel_rfl, Plain1_spec c h⟩
set_option maxRecDepth 20000 in
theorem IndexM_spec {b c : Nat} {L : List UInt8} {zs : List Value} (hB : BBk w b (Lib.byteCells L ++ zs)) (hs : L.length ≤ 1000000000) (h : R (.returned (.int .i64 (idxF psM L))) w) :
    Calls Tryz.prog F_slices_IndexFunc_of_byte_byte ⟨[.slice (some ⟨b, 0, none⟩) L.length c, .func (.func F_charset_Plain_1) #[] #[]]⟩ w R := by
  apply c_slices_IndexFunc_of_byte_byte
  refine ⟨fun i W m => ∃ k : Nat, i = k ∧ k ≤ L.length ∧ m = L.length - k ∧ (∀ j (hj : j < k) (hk : k ≤ L.length), psM (L[j]'(by omega)) = false) ∧ W = w, ⟨_, 0, rfl, by omega, rfl, fun j hj => by omega, rfl⟩, ?_⟩
  rintro _ W m ⟨k, rfl, hk, rfl, hno, rfl⟩ _
  refine br_split (fun hlt => ?_) (fun hge => ?_)
  · have hkL : k < L.length := by omega
    refine idx_row hkL ⟨_, byte_row hB k hkL, callM _ ⟨_, rfl, br_cases (fun g => ?_) (fun g => ?_)⟩⟩
    · unfold idxF at h
      rw [if_pos (List.any_eq_true.2 ⟨_, List.getElem_mem hkL, g⟩), findIdx_at hkL g (fun j hj => hno j hj (by omega))] at h
      exact h
    · refine ⟨L.length - (k + 1), by omega, k + 1, by rw [wrap_nat (by omega)], by omega, rfl, fun j hj hk' => ?_, rfl⟩
      by_cases hjk : j = k
      · subst hjk; exact g
      · exact hno j (by omega) (by omega)
  · unfold idxF at h
    rw [if_neg] at h
    · exact h
    · rw [Bool.not_eq_true, List.any_eq_false]
      intro x hx
      obtain ⟨j, hj, rfl⟩ := List.getElem_of_mem hx
      rw [hno j (by omega) (by omega)]; simp
set_option maxRecDepth 20000 in
theorem DeleteM_spec {b : Nat} {L : List UInt8} {zs : List Value} (hB : BBk w b (Lib.byteCells L ++ zs)) (hs : L.length ≤ 1000000000)
    (h : ∀ w', (∀ j (hj : j < (L.filter fun s => !psM s).length), w'.cell? ⟨b, j, none⟩ = some (.int .u8 ((L.filter fun s => !psM s)[j].toNat : Int))) → Chg (fun k => k = b) w w' → R (.returned (.slice (some ⟨b, 0, none⟩) (L.filter fun s => !psM s).length (L.length + zs.length))) w') :
    Calls Tryz.prog F_slices_DeleteFunc_of_byte_byte ⟨[.slice (some ⟨b, 0, none⟩) L.length (L.length + zs.length), .func (.func F_charset_Plain_1) #[] #[]]⟩ w R := by
  apply c_slices_DeleteFunc_of_byte_byte
  refine IndexM_spec hB hs ⟨_, rfl, ?_⟩
  by_cases hany : L.any psM = true
  · have hx : L.findIdx psM < L.length := List.findIdx_lt_length_of_exists (List.any_eq_true.1 hany)
    unfold idxF
    rw [if_pos hany]
    generalize hi0 : L.findIdx psM = i0 at hx ⊢
    have hq0 : psM L[i0] = true := by subst hi0; exact List.findIdx_getElem
    have hlt0 : ∀ j (hj : j < i0), psM (L[j]'(by omega)) = false := fun j hj => by
      have := List.not_of_lt_findIdx (p := psM) (xs := L) (i := j) (by omega)
      simpa using this
    refine br_split (fun hh => by omega) (fun _ => ?_)
    have f0 : (L.take (i0 + 1)).filter (fun s => !psM s) = L.take i0 := by
      rw [filter_take_succ _ hx, if_neg (by simp [hq0]), List.filter_eq_self]
      intro s hs
      obtain ⟨j, hj, rfl⟩ := List.getElem_of_mem hs
      rw [List.length_take] at hj
      rw [List.getElem_take, hlt0 j (by omega)]; rfl
    refine ⟨fun i j W m => ∃ (k : Nat) (M : List UInt8) (i' : Nat), i = i' ∧ j = k ∧ k ≤ L.length ∧ m = L.length - k ∧ i' < k ∧ BBk W b (Lib.byteCells M ++ zs) ∧ M.length = L.length ∧ M.take i' = (L.take k).filter (fun s => !psM s) ∧ M.drop k = L.drop k ∧ Chg (fun k => k = b) w W,
      ⟨_, i0 + 1, L, i0, rfl, by rw [wrap_nat (by omega)], by omega, rfl, by omega, hB, rfl, f0.symm, rfl, Chg.refl _ _⟩, ?_⟩
    rintro _ _ W m ⟨k, M, i', rfl, rfl, hk, rfl, hik, hM, hml, ht, hd, hc⟩ _
    refine br_split (fun hlt => ?_) (fun hge => ?_)
    · have hkM : k < M.length := by omega
      have hkL : k < L.length := by omega
      have hMk : M[k] = L[k] := by
        have : M.drop k = M[k] :: M.drop (k + 1) := List.drop_eq_getElem_cons hkM
        rw [hd, List.drop_eq_getElem_cons hkL] at this
        exact (List.cons.inj this).1.symm
      have hcl := byte_row hM k hkM
      rw [hMk] at hcl
      refine idx_row hkL ⟨_, hcl, callM _ ⟨_, rfl, ?_⟩⟩
      refine br_cases (fun g => ?_) (fun g => ?_)
      · have gq : psM L[k] = false := by simpa using g
        refine idx_row (by omega) ?_
        refine st_bbk hM (by simp [Lib.byteCells]; omega) rfl fun w18 hM18 hc18 => ?_
        rw [byteR_set2 (by omega)] at hM18
        refine ⟨L.length - (k + 1), by omega, k + 1, M.set i' L[k], i' + 1, by rw [wrap_nat (by omega)], by rw [wrap_nat (by omega)], by omega, rfl, by omega, hM18, by simpa using hml, ?_, ?_, hc.trans hc18⟩
        · rw [filter_take_succ _ hkL, if_pos (by simp [gq]), ← ht]
          have hl2 : i' < (M.set i' L[k]).length := by simp; omega
          rw [List.take_add_one, List.getElem?_eq_getElem hl2, List.take_set_of_le (Nat.le_refl _)]
          simp
        · rw [List.drop_set_of_lt (by omega)]
          have : M.drop (k + 1) = (M.drop k).drop 1 := by rw [List.drop_drop]
          rw [this, hd, List.drop_drop]
      · have gq : psM L[k] = true := by simpa using g
        refine ⟨L.length - (k + 1), by omega, k + 1, M, i', rfl, by rw [wrap_nat (by omega)], by omega, rfl, by omega, hM, hml, ?_, ?_, hc⟩
        · rw [filter_take_succ _ hkL, if_neg (by simp [gq]), ht]
        · have : M.drop (k + 1) = (M.drop k).drop 1 := by rw [List.drop_drop]
          rw [this, hd, List.drop_drop]
    · have hkn : k = L.length := by omega
      subst hkn
      rw [List.take_length] at ht
      have hfl : (L.filter fun s => !psM s).length = i' := by rw [← ht, List.length_take]; omega
      obtain ⟨a1, a2⟩ := setCells_bbk (vs := List.replicate (L.length - i') (.int .u8 0)) (o := i') hM
      refine ⟨by omega, by omega, by omega, ?_⟩
      rw [Int.toNat_natCast, Int.toNat_natCast]
      have hsl : slA (some (⟨b, 0, none⟩ : Addr)) (L.length + zs.length) i' 1 = some ⟨b, i', none⟩ := by
        unfold slA
        rw [if_neg (by omega)]
        simp [add_none]
      rw [hsl]
      refine ⟨W.setCells b i' (List.replicate (L.length - i') (.int .u8 0)), ?_, ?_⟩
      · refine Lib.run_clear_slice W 73 5 0 (.int .u8 0) slT_byte.under (fun w => zero_run (by kernel_rfl) w) rfl rfl b i' (L.length - i') _ (by omega) (fun j hj => ?_) (fun j hj => ?_)
        · have := byte_row hM (i' + j) (by omega)
          rw [this]; rfl
        · exact hM.frozen (by simp [Lib.byteCells]; omega)
      · refine ⟨by omega, by omega, by omega, ?_⟩
        rw [show (0 : Int).toNat = 0 from rfl, Go.Sh.slA_zero _ _ (.inr ⟨b, rfl⟩), Int.toNat_natCast, Nat.sub_zero, Nat.sub_zero]
        have := h (W.setCells b i' (List.replicate (L.length - i') (.int .u8 0))) (fun j hj => ?_) (hc.trans a2)
        · rw [hfl] at this; exact this
        · have hj' : j < i' := by rw [hfl] at hj; exact hj
          rw [a1.cell, putAt_get, if_neg (by omega)]
          have h1 : (L.filter fun s => !psM s)[j] = M[j]'(by omega) := by
            have : (M.take i')[j]? = (L.filter fun s => !psM s)[j]? := by rw [ht]
            rw [List.getElem?_take, if_pos hj', List.getElem?_eq_getElem (by omega), List.getElem?_eq_getElem hj] at this
            exact (Option.some.inj this).symm
          rw [h1, ← hM.cell, byte_row hM j (by omega)]
  · unfold idxF
    rw [if_neg hany]
    refine br_split (fun _ => ?_) (fun hh => absurd rfl hh)
    have e : L.filter (fun s => !psM s) = L := by
      rw [List.filter_eq_self]
      intro s hs
      have := List.any_eq_false.1 (by simpa using hany) s hs
      simpa using this
    rw [e] at h
    exact h w (byte_row hB) (Chg.refl _ _)
set_option maxRecDepth 20000 in
theorem Plain_spec (s : List UInt8) (hs : s.length ≤ 1000000000) (h : ∀ w', Ext w w' → R (.returned (.string ⟨⟨s.filter fun c => !psM c⟩⟩)) w') : Calls Tryz.prog F_charset_Plain ⟨[.string ⟨⟨s⟩⟩]⟩ w R := by
  apply c_charset_Plain
  refine s2b_row fun w3 zs B3 e3 => ?_
  exact DeleteM_spec B3 hs fun w5 hc c5 => ⟨_, _, _, rfl, b2s_cells hc (h w5 (ext_chgS e3 c5 fun j hj => by omega))⟩
end
end Go.Proofs
namespace Go.Proofs
open Go Go.Sh Go.RowKit

/- charset.Compare -/
def plainL (s : List UInt8) : List UInt8 := s.filter fun c => !psM c
def cmpB (x y : List UInt8) : Int := if Op.bytesLess x y = true then -1 else if (Op.bytesLess x y || decide (x = y)) = true then 0 else 1
def stepC (i : Nat) (s : List UInt8) : List UInt8 := if i = 0 then (plainL s).map lowC else if i = 1 then plainL s else s
def cmpC (a b : List UInt8) : Int := if cmpB (stepC 0 a) (stepC 0 b) ≠ 0 then cmpB (stepC 0 a) (stepC 0 b) else if cmpB (stepC 1 a) (stepC 1 b) ≠ 0 then cmpB (stepC 1 a) (stepC 1 b) else cmpB (stepC 2 a) (stepC 2 b)
def fnC (i : Nat) : FuncId := if i = 0 then F_charset_Compare_1 else if i = 1 then F_charset_Plain else F_charset_Compare_2
section
variable {R : Ending → World → Prop} {w : World}
theorem cmpS_spec (x y : List UInt8) (h : R (.returned (.int .i64 (cmpB x y))) w) : Calls Tryz.prog F_cmp_Compare_of_string ⟨[.string ⟨⟨x⟩⟩, .string ⟨⟨y⟩⟩]⟩ w R := by
  apply c_cmp_Compare_of_string
  apply c_cmp_isNaN_of_string
  refine ⟨_, rfl, ?_⟩
  apply c_cmp_isNaN_of_string
  refine ⟨_, rfl, ?_⟩
  rw [decide_eq_false (by simp), decide_eq_false (by simp)]
  simp only [br_f]
  unfold cmpB at h
  refine br_cases (fun g => ?_) (fun g => br_cases (fun g2 => ?_) (fun g2 => ?_))
  · rw [if_pos g] at h; exact h
  · rw [if_neg (by rw [g]; decide), if_neg (by rw [Bool.not_eq_true'] at g2; rw [g2]; decide)] at h; exact h
  · rw [if_neg (by rw [g]; decide), if_pos (by rw [Bool.not_eq_false'] at g2; exact g2)] at h; exact h
theorem step_call (k : Nat) (hk : k < 3) (s : List UInt8) (hs : s.length ≤ 1000000000) (h : ∀ w', Ext w w' → R (.returned (.string ⟨⟨stepC k s⟩⟩)) w') : CallV Tryz.prog (.func (.func (fnC k)) #[] #[]) [.string ⟨⟨s⟩⟩] w R := by
  rcases (by omega : k = 0 ∨ k = 1 ∨ k = 2) with rfl | rfl | rfl
  · refine ⟨by kernel_rfl, ?_⟩
    show Calls Tryz.prog F_charset_Compare_1 _ _ _
    apply c_charset_Compare_1
    refine Plain_spec s hs fun w3 e3 => ⟨_, rfl, ?_⟩
    have := List.length_filter_le (fun c => !psM c) s
    exact Fold_spec _ (by omega) fun w6 e6 => ⟨_, rfl, h w6 (ext_trans e3 e6)⟩
  · exact ⟨by kernel_rfl, Plain_spec s hs h⟩
  · refine ⟨by kernel_rfl, ?_⟩
    show Calls Tryz.prog F_charset_Compare_2 _ _ _
    apply c_charset_Compare_2
    exact h w (Below.refl _ _)
set_option maxRecDepth 20000 in
theorem CompareC_spec (a b : List UInt8) (ha : a.length ≤ 1000000000) (hb : b.length ≤ 1000000000) (h : ∀ w', Ext w w' → R (.returned (.int .i64 (cmpC a b))) w') : Calls Tryz.prog F_charset_Compare ⟨[.string ⟨⟨a⟩⟩, .string ⟨⟨b⟩⟩]⟩ w R := by
  apply c_charset_Compare
  refine al_intro fun b3 w4 hb3 B3 e4 s4 => ?_
  refine ⟨fun i W m => ∃ k : Nat, i = k ∧ k ≤ 3 ∧ m = 3 - k ∧ Ext w4 W ∧ ∀ j, j < k → cmpB (stepC j a) (stepC j b) = 0, ⟨_, 0, rfl, by omega, rfl, Below.refl _ _, fun j hj => by omega⟩, ?_⟩
  rintro _ W m ⟨k, rfl, hk, rfl, eW, hz⟩ _
  have EW := ext_trans e4 eW
  have hC : ∀ c, c = cmpC a b → ∀ v, Ext w v → R (.returned (.int .i64 c)) v := fun c hc v hv => by rw [hc]; exact h v hv
  refine br_split (fun hlt => ?_) (fun hge => ?_)
  · have hk3 : k < 3 := by omega
    have hcell : W.cell? ⟨b3, k, none⟩ = some (.func (.func (fnC k)) #[] #[]) := by
      rw [(B3.ext eW).cell]
      rcases (by omega : k = 0 ∨ k = 1 ∨ k = 2) with rfl | rfl | rfl <;> rfl
    refine idx_row hk3 ⟨_, _, _, hcell, ?_⟩
    refine step_call k hk3 a ha fun w13 e13 => ⟨_, rfl, ?_⟩
    refine step_call k hk3 b hb fun w16 e16 => ⟨_, rfl, ?_⟩
    refine cmpS_spec _ _ ⟨_, rfl, ?_⟩
    have E16 := ext_trans EW (ext_trans e13 e16)
    refine br_split (fun hne => hC _ ?_ w16 E16) (fun heq => ?_)
    · unfold cmpC
      rcases (by omega : k = 0 ∨ k = 1 ∨ k = 2) with rfl | rfl | rfl
      · rw [if_pos hne]
      · rw [if_neg (by rw [hz 0 (by omega)]; simp), if_pos hne]
      · rw [if_neg (by rw [hz 0 (by omega)]; simp), if_neg (by rw [hz 1 (by omega)]; simp)]
    · refine ⟨3 - (k + 1), by omega, k + 1, by rw [wrap_nat (by omega)], by omega, rfl, ext_trans eW (ext_trans e13 e16), fun j hj => ?_⟩
      by_cases hjk : j = k
      · subst hjk; exact Decidable.not_not.1 heq
      · exact hz j (by omega)
  · refine hC 0 ?_ W EW
    unfold cmpC
    rw [if_neg (by rw [hz 0 (by omega)]; simp), if_neg (by rw [hz 1 (by omega)]; simp), hz 2 (by omega)]
end
/- its order -/
theorem cmpB_lt {x y : List UInt8} : cmpB x y < 0 ↔ x < y := by
  unfold cmpB
  rw [bytesLess_eq]
  by_cases h : x < y
  · simp [h]
  · by_cases e : x = y
    · subst e; simp [List.lt_irrefl]
    · simp [h, e]
theorem cmpB_zero {x y : List UInt8} : cmpB x y = 0 ↔ x = y := by
  unfold cmpB
  rw [bytesLess_eq]
  by_cases h : x < y
  · have : x ≠ y := fun e => by subst e; exact List.lt_irrefl _ h
    simp [h, this]
  · by_cases e : x = y <;> simp [h, e]
theorem cmpB_neg (x y : List UInt8) : cmpB y x = - cmpB x y := by
  unfold cmpB
  rw [bytesLess_eq, bytesLess_eq]
  by_cases h : x < y
  · have h1 : ¬ y < x := fun h2 => List.lt_asymm h h2
    have h2 : y ≠ x := fun e => by subst e; exact List.lt_irrefl _ h
    simp [h, h1, h2]
  · by_cases e : x = y
    · subst e; simp [List.lt_irrefl]
    · have h1 : y < x := by
        by_cases h1 : y < x
        · exact h1
        · exact absurd (List.le_antisymm (List.not_lt.1 h1) (List.not_lt.1 h)) e
      simp [h, e, h1]
theorem cmpC_neg (a b : List UInt8) : cmpC b a = - cmpC a b := by
  unfold cmpC
  rw [cmpB_neg (stepC 0 a), cmpB_neg (stepC 1 a), cmpB_neg (stepC 2 a)]
  by_cases h0 : cmpB (stepC 0 a) (stepC 0 b) = 0
  · by_cases h1 : cmpB (stepC 1 a) (stepC 1 b) = 0
    · simp [h0, h1]
    · simp [h0, h1]
  · simp [h0]
theorem cmpC_zero {a b : List UInt8} (h : cmpC a b = 0) : a = b := by
  unfold cmpC at h
  split at h
  · rename_i hh; exact absurd h hh
  split at h
  · rename_i hh; exact absurd h hh
  exact cmpB_zero.1 h
end Go.Proofs
namespace Go.Proofs
open Go Go.Sh Go.RowKit

/- charset.Compare once more: what it draws goes forward -/
def ExtD (w w' : World) : Prop := Ext w w' ∧ w.drawn ≤ w'.drawn
theorem ExtD.refl (w : World) : ExtD w w := ⟨Below.refl _ _, Nat.le_refl _⟩
theorem ExtD.trans {a b c : World} (h : ExtD a b) (k : ExtD b c) : ExtD a c := ⟨ext_trans h.1 k.1, Nat.le_trans h.2 k.2⟩
theorem al_introD {w : World} {T : TypeId} {cs : List Value} {K : Addr → World → Prop}
    (h : ∀ b w', b = w.heap.size → Blk w' b cs T → ExtD w w' → w'.heap.size = b + 1 → K ⟨b, 0, none⟩ w') : al w T cs K := by
  refine h _ _ rfl (Blk.new w cs T) ⟨(Below.refl _ w).alloc (Nat.le_refl _) _, ?_⟩ (by simp)
  show w.drawn ≤ w.drawn
  exact Nat.le_refl _
theorem st_bbkD {w : World} {b : Nat} {cs : List Value} {i : Nat} {v : Value} (h : BBk w b cs) (hi : i < cs.length) (ho : v.oneCell' = true) {K : World → Prop} (hk : ∀ w', BBk w' b (cs.set i v) → Chg (fun k => k = b) w w' → w'.drawn = w.drawn → K w') : stL w ⟨b, i, none⟩ 0 [v] K := by
  refine ⟨?_, ?_, ho, ?_⟩
  · rw [add_none, Nat.add_zero, h.cell]; exact ⟨cs[i], by simp [hi]⟩
  · rw [add_none, Nat.add_zero]; exact h.frozen hi
  · rw [add_none, Nat.add_zero]
    refine hk _ (h.set i v) ⟨rfl, rfl, rfl, by simp, fun k _ hkb => ?_⟩ rfl
    simp only [World.setCell, Array.getElem?_modify]
    rw [if_neg (fun e => hkb e.symm)]
theorem s2b_rowD {w : World} {l : List UInt8} {K : Option Addr → Nat → Nat → World → Prop}
    (h : ∀ w' zs, BBk w' w.heap.size (Lib.byteCells l ++ zs) → ExtD w w' → K (some ⟨w.heap.size, 0, none⟩) l.length (l.length + zs.length) w') : s2b Tryz.prog w 5 l K := by
  have hsh : ∀ c : Array Value, (w.drew.alloc (.cells c 5)).shape? w.heap.size = some (5, c.size) := by
    intro c
    simp [World.shape?, World.alloc, World.drew, -World.alloc_eq, -World.drew_eq]
  have hg := Lib.bytesWorld_at_new w 5 ⟨⟨l⟩⟩
  have hcs : Lib.bytesCells w 5 ⟨⟨l⟩⟩ = ⟨Lib.byteCells l ++ List.replicate (grownCap w l.length 0 5 - l.length) (.int .u8 0)⟩ := by
    unfold Lib.bytesCells Lib.byteCells
    simp [ByteArray.size]
  have hgc : l.length ≤ grownCap w l.length 0 5 := by
    exact grownCap_ge w _ _ _
  refine ⟨some ⟨w.heap.size, 0, none⟩, l.length, grownCap w l.length 0 5, Lib.bytesWorld w 5 ⟨⟨l⟩⟩, ?_, ?_⟩
  · have := hsh
    simp [Conv.stringToBytes, newRow, markStringish, Question.forced, Lib.bytesWorld, Lib.bytesCells, grownCap, hsh, Result.andThen, ByteArray.size]
  · have h2 := h (Lib.bytesWorld w 5 ⟨⟨l⟩⟩) (List.replicate (grownCap w l.length 0 5 - l.length) (.int .u8 0)) (by
      unfold BBk
      rw [hg, hcs]; rfl) ⟨⟨rfl, rfl, rfl, by rw [Lib.bytesWorld_size]; omega, fun k hk => Lib.bytesWorld_at_old w 5 _ k hk⟩, by
        show w.drawn ≤ w.drawn + 1
        omega⟩
    rw [List.length_replicate, show l.length + (grownCap w l.length 0 5 - l.length) = grownCap w l.length 0 5 by omega] at h2
    exact h2
theorem setCells_drawn : ∀ {vs : List Value} {w : World} {b o : Nat}, (w.setCells b o vs).drawn = w.drawn
  | [], _, _, _ => rfl
  | v :: vs, w, b, o => setCells_drawn (vs := vs) (w := w.setCell ⟨b, o, none⟩ v) (o := o + 1)
section
variable {R : Ending → World → Prop} {w : World}
set_option maxRecDepth 20000 in
theorem Fold_specD (s : List UInt8) (hs : s.length ≤ 1000000000) (h : ∀ w', ExtD w w' → R (.returned (.string ⟨⟨s.map lowC⟩⟩)) w') : Calls Tryz.prog F_charset_Fold ⟨[.string ⟨⟨s⟩⟩]⟩ w R := by
  apply c_charset_Fold
  refine s2b_rowD fun w3 zs B3 e3 => ?_
  refine ⟨fun i W m => ∃ k : Nat, i = k ∧ k ≤ s.length ∧ m = s.length - k ∧ BBk W w.heap.size (Lib.byteCells ((s.take k).map lowC ++ s.drop k) ++ zs) ∧ ExtD w W, ⟨_, 0, rfl, by omega, rfl, by simpa using B3, e3⟩, ?_⟩
  rintro _ W m ⟨k, rfl, hk, rfl, hB, eW⟩ _
  refine br_split (fun hlt => ?_) (fun hge => ?_)
  · have hkl : k < s.length := by omega
    have hA : ((s.take k).map lowC).length = k := by simp; omega
    have hd : s.drop k = s[k] :: s.drop (k + 1) := List.drop_eq_getElem_cons hkl
    have ht : (s.take (k + 1)).map lowC = (s.take k).map lowC ++ [lowC s[k]] := by rw [List.take_succ_eq_append_getElem hkl, List.map_append]; rfl
    rw [hd] at hB
    have hcell : W.cell? ⟨w.heap.size, k, none⟩ = some (.int .u8 (s[k].toNat : Int)) := by
      rw [hB.cell]
      have := byteR_at ((s.take k).map lowC) (s.drop (k + 1)) s[k] zs
      rw [hA] at this; exact this
    refine idx_row hkl ⟨_, hcell, ?_⟩
    intro K11 hK11
    have next : ∀ v, BBk v w.heap.size (Lib.byteCells ((s.take (k + 1)).map lowC ++ s.drop (k + 1)) ++ zs) → ExtD w v → ∃ m', m' < s.length - k ∧ ∃ k' : Nat, IntKind.i64.wrap ((k : Int) + 1) = k' ∧ k' ≤ s.length ∧ m' = s.length - k' ∧ BBk v w.heap.size (Lib.byteCells ((s.take k').map lowC ++ s.drop k') ++ zs) ∧ ExtD w v := fun v hb he =>
      ⟨s.length - (k + 1), by omega, k + 1, by rw [wrap_nat (by omega)], by omega, rfl, hb, he⟩
    have kt : (65 ≤ s[k].toNat ∧ s[k].toNat ≤ 90) → K11 true W := fun hc => by
      refine hK11 _ _ fun _ => ?_
      simp only [br_t]
      refine idx_row hkl ?_
      rw [low_wrap hc]
      refine st_bbkD hB (by simp [Lib.byteCells]; omega) rfl fun v hv cv dv => next v ?_ ⟨ext_chgS eW.1 cv fun j hj => by omega, by rw [dv]; exact eW.2⟩
      have := byteR_set ((s.take k).map lowC) (s.drop (k + 1)) s[k] (lowC s[k]) zs
      rw [hA] at this
      rw [this] at hv
      rw [ht, List.append_assoc]
      exact hv
    have kf : ¬ (65 ≤ s[k].toNat ∧ s[k].toNat ≤ 90) → K11 false W := fun hc => by
      refine hK11 _ _ fun _ => ?_
      simp only [br_f]
      refine next W ?_ eW
      have e : lowC s[k] = s[k] := by unfold lowC; rw [if_neg hc]
      rw [ht, e, List.append_assoc]
      exact hB
    refine br_split (fun g1 => ?_) (fun g1 => kf (by omega))
    by_cases g2 : s[k].toNat ≤ 90
    · rw [decide_eq_true (by omega)]; exact kt (by omega)
    · rw [decide_eq_false (by omega)]; exact kf (by omega)
  · have hkn : k = s.length := by omega
    subst hkn
    rw [List.take_length, List.drop_length, List.append_nil] at hB
    have hl : (s.map lowC).length = s.length := by simp
    rw [← hl]
    exact b2s_cells (byte_row hB) (h W eW)
set_option maxRecDepth 20000 in
theorem DeleteM_specD {b : Nat} {L : List UInt8} {zs : List Value} (hB : BBk w b (Lib.byteCells L ++ zs)) (hs : L.length ≤ 1000000000)
    (h : ∀ w', (∀ j (hj : j < (L.filter fun s => !psM s).length), w'.cell? ⟨b, j, none⟩ = some (.int .u8 ((L.filter fun s => !psM s)[j].toNat : Int))) → Chg (fun k => k = b) w w' → w'.drawn = w.drawn → R (.returned (.slice (some ⟨b, 0, none⟩) (L.filter fun s => !psM s).length (L.length + zs.length))) w') :
    Calls Tryz.prog F_slices_DeleteFunc_of_byte_byte ⟨[.slice (some ⟨b, 0, none⟩) L.length (L.length + zs.length), .func (.func F_charset_Plain_1) #[] #[]]⟩ w R := by
  apply c_slices_DeleteFunc_of_byte_byte
  refine IndexM_spec hB hs ⟨_, rfl, ?_⟩
  by_cases hany : L.any psM = true
  · have hx : L.findIdx psM < L.length := List.findIdx_lt_length_of_exists (List.any_eq_true.1 hany)
    unfold idxF
    rw [if_pos hany]
    generalize hi0 : L.findIdx psM = i0 at hx ⊢
    have hq0 : psM L[i0] = true := by subst hi0; exact List.findIdx_getElem
    have hlt0 : ∀ j (hj : j < i0), psM (L[j]'(by omega)) = false := fun j hj => by
      have := List.not_of_lt_findIdx (p := psM) (xs := L) (i := j) (by omega)
      simpa using this
    refine br_split (fun hh => by omega) (fun _ => ?_)
    have f0 : (L.take (i0 + 1)).filter (fun s => !psM s) = L.take i0 := by
      rw [filter_take_succ _ hx, if_neg (by simp [hq0]), List.filter_eq_self]
      intro s hs
      obtain ⟨j, hj, rfl⟩ := List.getElem_of_mem hs
      rw [List.length_take] at hj
      rw [List.getElem_take, hlt0 j (by omega)]; rfl
    refine ⟨fun i j W m => ∃ (k : Nat) (M : List UInt8) (i' : Nat), i = i' ∧ j = k ∧ k ≤ L.length ∧ m = L.length - k ∧ i' < k ∧ BBk W b (Lib.byteCells M ++ zs) ∧ M.length = L.length ∧ M.take i' = (L.take k).filter (fun s => !psM s) ∧ M.drop k = L.drop k ∧ Chg (fun k => k = b) w W ∧ W.drawn = w.drawn,
      ⟨_, i0 + 1, L, i0, rfl, by rw [wrap_nat (by omega)], by omega, rfl, by omega, hB, rfl, f0.symm, rfl, Chg.refl _ _, rfl⟩, ?_⟩
    rintro _ _ W m ⟨k, M, i', rfl, rfl, hk, rfl, hik, hM, hml, ht, hd, hc, hdw⟩ _
    refine br_split (fun hlt => ?_) (fun hge => ?_)
    · have hkM : k < M.length := by omega
      have hkL : k < L.length := by omega
      have hMk : M[k] = L[k] := by
        have : M.drop k = M[k] :: M.drop (k + 1) := List.drop_eq_getElem_cons hkM
        rw [hd, List.drop_eq_getElem_cons hkL] at this
        exact (List.cons.inj this).1.symm
      have hcl := byte_row hM k hkM
      rw [hMk] at hcl
      refine idx_row hkL ⟨_, hcl, callM _ ⟨_, rfl, ?_⟩⟩
      refine br_cases (fun g => ?_) (fun g => ?_)
      · have gq : psM L[k] = false := by simpa using g
        refine idx_row (by omega) ?_
        refine st_bbkD hM (by simp [Lib.byteCells]; omega) rfl fun w18 hM18 hc18 hd18 => ?_
        rw [byteR_set2 (by omega)] at hM18
        refine ⟨L.length - (k + 1), by omega, k + 1, M.set i' L[k], i' + 1, by rw [wrap_nat (by omega)], by rw [wrap_nat (by omega)], by omega, rfl, by omega, hM18, by simpa using hml, ?_, ?_, hc.trans hc18, by rw [hd18]; exact hdw⟩
        · rw [filter_take_succ _ hkL, if_pos (by simp [gq]), ← ht]
          have hl2 : i' < (M.set i' L[k]).length := by simp; omega
          rw [List.take_add_one, List.getElem?_eq_getElem hl2, List.take_set_of_le (Nat.le_refl _)]
          simp
        · rw [List.drop_set_of_lt (by omega)]
          have : M.drop (k + 1) = (M.drop k).drop 1 := by rw [List.drop_drop]
          rw [this, hd, List.drop_drop]
      · have gq : psM L[k] = true := by simpa using g
        refine ⟨L.length - (k + 1), by omega, k + 1, M, i', rfl, by rw [wrap_nat (by omega)], by omega, rfl, by omega, hM, hml, ?_, ?_, hc, hdw⟩
        · rw [filter_take_succ _ hkL, if_neg (by simp [gq]), ht]
        · have : M.drop (k + 1) = (M.drop k).drop 1 := by rw [List.drop_drop]
          rw [this, hd, List.drop_drop]
    · have hkn : k = L.length := by omega
      subst hkn
      rw [List.take_length] at ht
      have hfl : (L.filter fun s => !psM s).length = i' := by rw [← ht, List.length_take]; omega
      obtain ⟨a1, a2⟩ := setCells_bbk (vs := List.replicate (L.length - i') (.int .u8 0)) (o := i') hM
      refine ⟨by omega, by omega, by omega, ?_⟩
      rw [Int.toNat_natCast, Int.toNat_natCast]
      have hsl : slA (some (⟨b, 0, none⟩ : Addr)) (L.length + zs.length) i' 1 = some ⟨b, i', none⟩ := by
        unfold slA
        rw [if_neg (by omega)]
        simp [add_none]
      rw [hsl]
      refine ⟨W.setCells b i' (List.replicate (L.length - i') (.int .u8 0)), ?_, ?_⟩
      · refine Lib.run_clear_slice W 73 5 0 (.int .u8 0) slT_byte.under (fun w => zero_run (by kernel_rfl) w) rfl rfl b i' (L.length - i') _ (by omega) (fun j hj => ?_) (fun j hj => ?_)
        · have := byte_row hM (i' + j) (by omega)
          rw [this]; rfl
        · exact hM.frozen (by simp [Lib.byteCells]; omega)
      · refine ⟨by omega, by omega, by omega, ?_⟩
        rw [show (0 : Int).toNat = 0 from rfl, Go.Sh.slA_zero _ _ (.inr ⟨b, rfl⟩), Int.toNat_natCast, Nat.sub_zero, Nat.sub_zero]
        have := h (W.setCells b i' (List.replicate (L.length - i') (.int .u8 0))) (fun j hj => ?_) (hc.trans a2) (by rw [setCells_drawn]; exact hdw)
        · rw [hfl] at this; exact this
        · have hj' : j < i' := by rw [hfl] at hj; exact hj
          rw [a1.cell, putAt_get, if_neg (by omega)]
          have h1 : (L.filter fun s => !psM s)[j] = M[j]'(by omega) := by
            have : (M.take i')[j]? = (L.filter fun s => !psM s)[j]? := by rw [ht]
            rw [List.getElem?_take, if_pos hj', List.getElem?_eq_getElem (by omega), List.getElem?_eq_getElem hj] at this
            exact (Option.some.inj this).symm
          rw [h1, ← hM.cell, byte_row hM j (by omega)]
  · unfold idxF
    rw [if_neg hany]
    refine br_split (fun _ => ?_) (fun hh => absurd rfl hh)
    have e : L.filter (fun s => !psM s) = L := by
      rw [List.filter_eq_self]
      intro s hs
      have := List.any_eq_false.1 (by simpa using hany) s hs
      simpa using this
    rw [e] at h
    exact h w (byte_row hB) (Chg.refl _ _) rfl
set_option maxRecDepth 20000 in
theorem Plain_specD (s : List UInt8) (hs : s.length ≤ 1000000000) (h : ∀ w', ExtD w w' → R (.returned (.string ⟨⟨s.filter fun c => !psM c⟩⟩)) w') : Calls Tryz.prog F_charset_Plain ⟨[.string ⟨⟨s⟩⟩]⟩ w R := by
  apply c_charset_Plain
  refine s2b_rowD fun w3 zs B3 e3 => ?_
  exact DeleteM_specD B3 hs fun w5 hc c5 d5 => ⟨_, _, _, rfl, b2s_cells hc (h w5 ⟨ext_chgS e3.1 c5 fun j hj => by omega, by rw [d5]; exact e3.2⟩)⟩
theorem step_callD (k : Nat) (hk : k < 3) (s : List UInt8) (hs : s.length ≤ 1000000000) (h : ∀ w', ExtD w w' → R (.returned (.string ⟨⟨stepC k s⟩⟩)) w') : CallV Tryz.prog (.func (.func (fnC k)) #[] #[]) [.string ⟨⟨s⟩⟩] w R := by
  rcases (by omega : k = 0 ∨ k = 1 ∨ k = 2) with rfl | rfl | rfl
  · refine ⟨by kernel_rfl, ?_⟩
    show Calls Tryz.prog F_charset_Compare_1 _ _ _
    apply c_charset_Compare_1
    refine Plain_specD s hs fun w3 e3 => ⟨_, rfl, ?_⟩
    have := List.length_filter_le (fun c => !psM c) s
    exact Fold_specD _ (by omega) fun w6 e6 => ⟨_, rfl, h w6 (e3.trans e6)⟩
  · exact ⟨by kernel_rfl, Plain_specD s hs h⟩
  · refine ⟨by kernel_rfl, ?_⟩
    show Calls Tryz.prog F_charset_Compare_2 _ _ _
    apply c_charset_Compare_2
    exact h w (ExtD.refl _)
set_option maxRecDepth 20000 in
theorem CompareC_specD (a b : List UInt8) (ha : a.length ≤ 1000000000) (hb : b.length ≤ 1000000000) (h : ∀ w', ExtD w w' → R (.returned (.int .i64 (cmpC a b))) w') : Calls Tryz.prog F_charset_Compare ⟨[.string ⟨⟨a⟩⟩, .string ⟨⟨b⟩⟩]⟩ w R := by
  apply c_charset_Compare
  refine al_introD fun b3 w4 hb3 B3 e4 s4 => ?_
  refine ⟨fun i W m => ∃ k : Nat, i = k ∧ k ≤ 3 ∧ m = 3 - k ∧ ExtD w4 W ∧ ∀ j, j < k → cmpB (stepC j a) (stepC j b) = 0, ⟨_, 0, rfl, by omega, rfl, ExtD.refl _, fun j hj => by omega⟩, ?_⟩
  rintro _ W m ⟨k, rfl, hk, rfl, eW, hz⟩ _
  have EW := e4.trans eW
  have hC : ∀ c, c = cmpC a b → ∀ v, ExtD w v → R (.returned (.int .i64 c)) v := fun c hc v hv => by rw [hc]; exact h v hv
  refine br_split (fun hlt => ?_) (fun hge => ?_)
  · have hk3 : k < 3 := by omega
    have hcell : W.cell? ⟨b3, k, none⟩ = some (.func (.func (fnC k)) #[] #[]) := by
      rw [(B3.ext eW.1).cell]
      rcases (by omega : k = 0 ∨ k = 1 ∨ k = 2) with rfl | rfl | rfl <;> rfl
    refine idx_row hk3 ⟨_, _, _, hcell, ?_⟩
    refine step_callD k hk3 a ha fun w13 e13 => ⟨_, rfl, ?_⟩
    refine step_callD k hk3 b hb fun w16 e16 => ⟨_, rfl, ?_⟩
    refine cmpS_spec _ _ ⟨_, rfl, ?_⟩
    have E16 := EW.trans (e13.trans e16)
    refine br_split (fun hne => hC _ ?_ w16 E16) (fun heq => ?_)
    · unfold cmpC
      rcases (by omega : k = 0 ∨ k = 1 ∨ k = 2) with rfl | rfl | rfl
      · rw [if_pos hne]
      · rw [if_neg (by rw [hz 0 (by omega)]; simp), if_pos hne]
      · rw [if_neg (by rw [hz 0 (by omega)]; simp), if_neg (by rw [hz 1 (by omega)]; simp)]
    · refine ⟨3 - (k + 1), by omega, k + 1, by rw [wrap_nat (by omega)], by omega, rfl, eW.trans (e13.trans e16), fun j hj => ?_⟩
      by_cases hjk : j = k
      · subst hjk; exact Decidable.not_not.1 heq
      · exact hz j (by omega)
  · refine hC 0 ?_ W EW
    unfold cmpC
    rw [if_neg (by rw [hz 0 (by omega)]; simp), if_neg (by rw [hz 1 (by omega)]; simp), hz 2 (by omega)]
end
/- a world ahead is the old one, some draws on and some blocks more -/
theorem ext_grow {w w' : World} (h : ExtD w w') : ∃ q os, w' = Go.Sort.grow (w.drewN q) os := by
  refine ⟨w'.drawn - w.drawn, w'.heap.extract w.heap.size w'.heap.size, ?_⟩
  have h1 := h.1
  have h2 := h.2
  have hh : w'.heap = w.heap ++ w'.heap.extract w.heap.size w'.heap.size := by
    apply Array.ext_getElem?
    intro i
    by_cases hi : i < w.heap.size
    · rw [h1.block i hi, Array.getElem?_append_left hi]
    · rw [Array.getElem?_append_right (by omega), Array.getElem?_extract]
      by_cases h3 : i < w'.heap.size
      · rw [if_pos (by omega)]; congr 1; omega
      · rw [if_neg (by omega)]; exact Array.getElem?_eq_none (by omega)
  have hd : w.drawn + (w'.drawn - w.drawn) = w'.drawn := by omega
  cases w'
  cases w
  simp only [World.drewN, Go.Sort.grow] at *
  simp only [World.mk.injEq]
  refine ⟨?_, h1.tape, hd.symm, h1.os, h1.output⟩
  exact hh
/- its order is total -/
theorem cmpB_trans {x y z : List UInt8} (h1 : cmpB x y < 0) (h2 : cmpB y z < 0) : cmpB x z < 0 := cmpB_lt.2 (List.lt_trans (cmpB_lt.1 h1) (cmpB_lt.1 h2))
theorem cmpC_lt (a b : List UInt8) : cmpC a b < 0 ↔ (cmpB (stepC 0 a) (stepC 0 b) < 0 ∨ (stepC 0 a = stepC 0 b ∧ (cmpB (stepC 1 a) (stepC 1 b) < 0 ∨ (stepC 1 a = stepC 1 b ∧ cmpB (stepC 2 a) (stepC 2 b) < 0)))) := by
  unfold cmpC
  by_cases h0 : cmpB (stepC 0 a) (stepC 0 b) = 0
  · rw [if_neg (by simp [h0])]
    have e0 := cmpB_zero.1 h0
    by_cases h1 : cmpB (stepC 1 a) (stepC 1 b) = 0
    · rw [if_neg (by simp [h1])]
      have e1 := cmpB_zero.1 h1
      simp [e0, e1, cmpB_zero.2]
    · rw [if_pos h1]
      have e1 : stepC 1 a ≠ stepC 1 b := fun e => h1 (cmpB_zero.2 e)
      simp [e0, e1, cmpB_zero.2]
  · rw [if_pos h0]
    have e0 : stepC 0 a ≠ stepC 0 b := fun e => h0 (cmpB_zero.2 e)
    simp [e0]
theorem cmpC_trans {a b c : List UInt8} (h1 : cmpC a b < 0) (h2 : cmpC b c < 0) : cmpC a c < 0 := by
  rw [cmpC_lt] at *
  rcases h1 with h1 | ⟨e0, h1⟩
  · rcases h2 with h2 | ⟨f0, _⟩
    · exact .inl (cmpB_trans h1 h2)
    · exact .inl (f0 ▸ h1)
  · rcases h2 with h2 | ⟨f0, h2⟩
    · exact .inl (by rw [e0]; exact h2)
    · refine .inr ⟨e0.trans f0, ?_⟩
      rcases h1 with h1 | ⟨e1, h1⟩
      · rcases h2 with h2 | ⟨f1, _⟩
        · exact .inl (cmpB_trans h1 h2)
        · exact .inl (f1 ▸ h1)
      · rcases h2 with h2 | ⟨f1, h2⟩
        · exact .inl (by rw [e1]; exact h2)
        · exact .inr ⟨e1.trans f1, cmpB_trans h1 h2⟩
theorem cmpC_self (a : List UInt8) : cmpC a a = 0 := by
  have := cmpC_neg a a
  omega
end Go.Proofs
namespace Go.Proofs
open Go Go.Sh Go.RowKit

/- slices.SortFunc with charset.Compare over at most 12 strings: the library's insertion sort -/
def gS (M : List (List UInt8)) (i : Nat) : List UInt8 := (M[i]?).getD []
theorem gS_at {M : List (List UInt8)} {i : Nat} (h : i < M.length) : gS M i = M[i] := by unfold gS; simp [h]
theorem gS_set {M : List (List UInt8)} {j : Nat} (h : j < M.length) (v : List UInt8) (i : Nat) : gS (M.set j v) i = if i = j then v else gS M i := by
  unfold gS
  rw [List.getElem?_set]
  by_cases e : j = i
  · subst e; simp [h]
  · rw [if_neg e, if_neg (fun q => e q.symm)]
theorem gS_mem {M : List (List UInt8)} {x : List UInt8} : x ∈ M ↔ ∃ i, i < M.length ∧ gS M i = x := by
  rw [List.mem_iff_getElem]
  constructor
  · rintro ⟨i, hi, e⟩; exact ⟨i, hi, by rw [gS_at hi, e]⟩
  · rintro ⟨i, hi, e⟩; exact ⟨i, hi, by rw [← gS_at hi, e]⟩
def swp (M : List (List UInt8)) (j : Nat) : List (List UInt8) := (M.set j (gS M (j - 1))).set (j - 1) (gS M j)
theorem swp_len (M : List (List UInt8)) (j : Nat) : (swp M j).length = M.length := by unfold swp; simp
theorem swp_g {M : List (List UInt8)} {j : Nat} (h0 : 0 < j) (hj : j < M.length) (i : Nat) : gS (swp M j) i = if i = j - 1 then gS M j else if i = j then gS M (j - 1) else gS M i := by
  unfold swp
  rw [gS_set (by simp; omega), gS_set hj]
theorem swp_mem {M : List (List UInt8)} {j : Nat} (h0 : 0 < j) (hj : j < M.length) (x : List UInt8) : x ∈ swp M j ↔ x ∈ M := by
  rw [gS_mem, gS_mem, swp_len]
  constructor
  · rintro ⟨i, hi, e⟩
    rw [swp_g h0 hj] at e
    split at e
    · exact ⟨j, hj, e⟩
    split at e
    · exact ⟨j - 1, by omega, e⟩
    · exact ⟨i, hi, e⟩
  · rintro ⟨i, hi, e⟩
    by_cases h1 : i = j
    · exact ⟨j - 1, by omega, by rw [swp_g h0 hj, if_pos rfl, ← h1, e]⟩
    by_cases h2 : i = j - 1
    · exact ⟨j, hj, by rw [swp_g h0 hj, if_neg (by omega), if_pos rfl, ← h2, e]⟩
    · exact ⟨i, hi, by rw [swp_g h0 hj, if_neg h2, if_neg h1, e]⟩
def srt (M : List (List UInt8)) (p q : Nat) : Prop := ¬ cmpC (gS M q) (gS M p) < 0
section
variable {R : Ending → World → Prop} {w : World}
theorem callC (a b : List UInt8) (ha : a.length ≤ 1000000000) (hb : b.length ≤ 1000000000) (h : ∀ w', Ext w w' → R (.returned (.int .i64 (cmpC a b))) w') : CallV Tryz.prog (.func (.func F_charset_Compare) #[] #[]) [.string ⟨⟨a⟩⟩, .string ⟨⟨b⟩⟩] w R :=
  ⟨by kernel_rfl, CompareC_spec a b ha hb h⟩
set_option maxRecDepth 20000 in
theorem insertion_spec {B : Nat} {a : Option Addr} {n c : Nat} {L : List (List UInt8)} (hO : OwnL Sh.encStr w B 9 a n c L) (hn : n ≤ 1000000) (hB : B ≤ w.heap.size) (hbig : ∀ x ∈ L, x.length ≤ 1000000000)
    (h : ∀ M w', OwnL Sh.encStr w' B 9 a n c M → (∀ x, x ∈ M ↔ x ∈ L) → (∀ p, p + 1 < n → srt M p (p + 1)) → Chg (bk a) w w' → R (.returned (.tuple ⟨[]⟩)) w') :
    Calls Tryz.prog F_slices_insertionSortCmpFunc_of_string ⟨[.slice a n c, .int .i64 0, .int .i64 n, .func (.func F_charset_Compare) #[] #[]]⟩ w R := by
  apply c_slices_insertionSortCmpFunc_of_string
  refine ⟨fun i W m => ∃ k : Nat, ∃ M, i = k ∧ 1 ≤ k ∧ k ≤ n + 1 ∧ m = n + 1 - k ∧ OwnL Sh.encStr W B 9 a n c M ∧ (∀ x, x ∈ M ↔ x ∈ L) ∧ (∀ p, p + 1 < k → p + 1 < n → srt M p (p + 1)) ∧ Chg (bk a) w W,
    ⟨_, 1, L, by decide, by omega, by omega, rfl, hO, fun x => Iff.rfl, fun p hp => by omega, Chg.refl _ _⟩, ?_⟩
  rintro _ W m ⟨k, M, rfl, hk1, hk2, rfl, hM, hm, hs, hc⟩ _
  refine br_split (fun hlt => ?_) (fun hge => h M W hM hm (fun p hp => hs p (by omega) hp) hc)
  have hkn : k < n := by omega
  refine ⟨fun j V m' => ∃ jj : Nat, ∃ N, j = jj ∧ jj ≤ k ∧ m' = jj + 0 ∧ OwnL Sh.encStr V B 9 a n c N ∧ (∀ x, x ∈ N ↔ x ∈ L) ∧ (∀ p, p + 1 ≤ k → p + 1 ≠ jj → srt N p (p + 1)) ∧ (1 ≤ jj → jj + 1 ≤ k → srt N (jj - 1) (jj + 1)) ∧ Chg (bk a) w V,
    ⟨_, k, M, rfl, by omega, rfl, hM, hm, fun p hp hne => hs p (by omega) (by omega), fun _ hh => by omega, hc⟩, ?_⟩
  rintro _ V m' ⟨j, N, rfl, hj, hm', hN, hmN, hsN, hsk, hcV⟩ _
  have hln := hN.length
  intro K15 hK15
  -- leaving the inner loop
  have out : ∀ v, Ext V v → (1 ≤ j → srt N (j - 1) j) → ∃ m36 : Nat, m36 < n + 1 - k ∧ ∃ k' : Nat, ∃ M, IntKind.i64.wrap ((k : Int) + 1) = k' ∧ 1 ≤ k' ∧ k' ≤ n + 1 ∧ m36 = n + 1 - k' ∧ OwnL Sh.encStr v B 9 a n c M ∧ (∀ x, x ∈ M ↔ x ∈ L) ∧ (∀ p, p + 1 < k' → p + 1 < n → srt M p (p + 1)) ∧ Chg (bk a) w v := by
    intro v ev hj1
    refine ⟨n + 1 - (k + 1), by omega, k + 1, N, by rw [wrap_nat (by omega)], by omega, by omega, rfl, hN.ext ev, hmN, fun p hp hpn => ?_, hcV.trans (.of_ext ev)⟩
    by_cases hpj : p + 1 = j
    · have := hj1 (by omega)
      rw [← hpj, show p + 1 - 1 = p by omega] at this; exact this
    · exact hsN p (by omega) hpj
  have k15 : ∀ v, Ext V v → 0 < j → cmpC (gS N j) (gS N (j - 1)) < 0 → K15 v := by
    intro v ev hj0 hlt'
    refine hK15 _ fun _ => ?_
    unfold drw
    have ed := ext_drew v
    have e17 := ext_trans ev ed
    generalize v.drew = w17 at *
    have hN17 := hN.ext e17
    have hjl : j < N.length := by omega
    obtain ⟨p1, hp1, hc1⟩ := get_str (OwnL.out hN17) (show j - 1 < N.length by omega)
    obtain ⟨p2, hp2, hc2⟩ := get_str (OwnL.out hN17) hjl
    rw [wrap_id (by omega), show (j : Int) - 1 = ((j - 1 : Nat) : Int) by omega]
    refine hp1 _ ⟨_, hc1, hp2 _ ⟨_, hc2, ?_⟩⟩
    obtain ⟨g, rfl, hi1, hst⟩ := OwnL.store hN17 (i := j) (by omega) N[j - 1]
    refine hi1 _ ⟨hst _ fun w23 h23 c23 s23 => ?_, trivial⟩
    obtain ⟨g', hg', hi2, hst2⟩ := OwnL.store h23 (i := j - 1) (by omega) N[j]
    obtain rfl : g = g' := by simpa using hg'
    refine hi2 _ ⟨hst2 _ fun w25 h25 c25 s25 => ?_, trivial⟩
    have e1 : (N.set j N[j - 1]).set (j - 1) N[j] = swp N j := by
      unfold swp
      rw [gS_at hjl, gS_at (show j - 1 < N.length by omega)]
    rw [e1] at h25
    have hsg := swp_g hj0 hjl
    refine ⟨j - 1, by omega, j - 1, swp N j, rfl, by omega, rfl, h25, fun x => (swp_mem hj0 hjl x).trans (hmN x), fun p hp hne => ?_, fun h1 h2 => ?_, hcV.trans ((Chg.of_ext e17).trans (c23.trans c25))⟩
    · unfold srt
      rw [hsg, hsg]
      by_cases q1 : p = j - 1
      · subst q1
        rw [if_neg (by omega), if_pos (by omega), if_pos rfl, cmpC_neg]; omega
      by_cases q2 : p = j
      · subst q2
        rw [if_neg (by omega), if_neg (by omega), if_neg (by omega), if_pos rfl]
        exact hsk (by omega) (by omega)
      · rw [if_neg (by omega), if_neg (by omega), if_neg q1, if_neg q2]
        exact hsN p hp (by omega)
    · unfold srt
      rw [hsg, hsg, if_neg (by omega), if_pos (by omega), if_neg (by omega), if_neg (by omega)]
      have := hsN (j - 1 - 1) (by omega) (by omega)
      rw [show j - 1 - 1 + 1 = j - 1 by omega] at this
      exact this
  unfold drw
  have ed := ext_drew V
  generalize V.drew = w27 at *
  refine br_split (fun hj0 => ?_) (fun hj0 => ⟨out w27 ed (fun hh => by omega), trivial⟩)
  have hN27 := hN.ext ed
  have hj0' : 0 < j := by omega
  have hjl : j < N.length := by omega
  obtain ⟨p1, hp1, hc1⟩ := get_str (OwnL.out hN27) (show j - 1 < N.length by omega)
  obtain ⟨p2, hp2, hc2⟩ := get_str (OwnL.out hN27) hjl
  refine hp2 _ ⟨_, hc2, ?_⟩
  rw [wrap_id (by omega), show (j : Int) - 1 = ((j - 1 : Nat) : Int) by omega]
  refine hp1 _ ⟨_, hc1, ?_, trivial⟩
  have b1 := hbig _ ((hmN _).1 (List.getElem_mem hjl))
  have b2 := hbig _ ((hmN _).1 (List.getElem_mem (show j - 1 < N.length by omega)))
  refine callC _ _ b1 b2 fun w33 e33 => ⟨_, rfl, ?_⟩
  rw [← gS_at hjl, ← gS_at (show j - 1 < N.length by omega)]
  exact br_split (fun g => k15 w33 (ext_trans ed e33) hj0' g) (fun g => out w33 (ext_trans ed e33) fun _ => g)
end
end Go.Proofs
namespace Go.Proofs
open Go Go.Sh Go.RowKit

/- slices.SortFunc of at most 12 strings -/
section
variable {R : Ending → World → Prop} {w : World}
set_option maxRecDepth 20000 in
theorem SortC_spec {B : Nat} {a : Option Addr} {n c : Nat} {L : List (List UInt8)} (hO : OwnL Sh.encStr w B 9 a n c L) (hn : n ≤ 12) (hB : B ≤ w.heap.size) (hbig : ∀ x ∈ L, x.length ≤ 1000000000)
    (h : ∀ M w', OwnL Sh.encStr w' B 9 a n c M → (∀ x, x ∈ M ↔ x ∈ L) → (∀ p, p + 1 < n → srt M p (p + 1)) → Chg (bk a) w w' → R (.returned (.tuple ⟨[]⟩)) w') :
    Calls Tryz.prog F_slices_SortFunc_of_string_string ⟨[.slice a n c, .func (.func F_charset_Compare) #[] #[]]⟩ w R := by
  apply c_slices_SortFunc_of_string_string
  have wr : IntKind.u64.wrap (n : Int) = n := by simp [IntKind.wrap, IntKind.bits, IntKind.signed]; omega
  unfold sh_slices_SortFunc_of_string_string
  rw [wr]
  refine (Tryz.bits_Len (n : Int) w (by omega) (by omega)).mono ?_
  rintro e w4 ⟨rfl, rfl⟩
  refine ⟨_, rfl, ?_⟩
  apply c_slices_pdqsortCmpFunc_of_string
  unfold sh_slices_pdqsortCmpFunc_of_string
  refine ⟨fun a' b' _ _ _ W m => a' = 0 ∧ b' = n ∧ W = w4 ∧ m = 0, ⟨0, rfl, rfl, rfl, rfl⟩, ?_⟩
  rintro _ _ _ _ _ _ _ ⟨rfl, rfl, rfl, rfl⟩ _
  rw [Int.sub_zero, wrap_id (by omega)]
  refine br_split (fun _ => ?_) (fun hh => absurd (by omega) hh)
  exact insertion_spec hO (by omega) hB hbig fun M w' h1 h2 h3 h4 => ⟨rfl, rfl, h M w' h1 h2 h3 h4⟩
end
end Go.Proofs
namespace Go.Proofs
open Go Go.Sh Go.RowKit

/- slices.Compact of strings in order -/
theorem gS_snoc (C : List (List UInt8)) (v : List UInt8) (i : Nat) : gS (C ++ [v]) i = if i < C.length then gS C i else if i = C.length then v else [] := by
  unfold gS
  by_cases h : i < C.length
  · rw [if_pos h, List.getElem?_append_left h]
  · rw [if_neg h, List.getElem?_append_right (by omega)]
    by_cases h2 : i = C.length
    · subst h2; simp
    · rw [if_neg h2, List.getElem?_eq_none (by simp; omega)]; rfl
theorem cpt_facts (d : Array (List UInt8)) (hs : ∀ p, p + 1 < d.size → ¬ cmpC d[p + 1]! d[p]! < 0) : ∀ m, m ≤ d.size →
    (∀ x, x ∈ Lib.compactUpTo d m ↔ ∃ i, i < m ∧ d[i]! = x) ∧ (∀ p, p + 1 < (Lib.compactUpTo d m).length → cmpC (gS (Lib.compactUpTo d m) p) (gS (Lib.compactUpTo d m) (p + 1)) < 0) ∧
      (0 < m → 0 < (Lib.compactUpTo d m).length ∧ gS (Lib.compactUpTo d m) ((Lib.compactUpTo d m).length - 1) = d[m - 1]!)
  | 0, _ => by
    have e : Lib.compactUpTo d 0 = [] := rfl
    rw [e]
    exact ⟨fun x => ⟨fun h => (by cases h), fun ⟨i, hi, _⟩ => by omega⟩, fun p hp => by simp at hp, fun h => by omega⟩
  | m + 1, hm => by
    obtain ⟨i1, i2, i3⟩ := cpt_facts d hs m (by omega)
    rw [Lib.compactUpTo_succ]
    by_cases hk : Lib.keeps d m = true
    · rw [if_pos hk]
      generalize Lib.compactUpTo d m = C at *
      refine ⟨fun x => ?_, fun p hp => ?_, fun _ => ⟨by simp, ?_⟩⟩
      · rw [List.mem_append, i1, List.mem_singleton]
        constructor
        · rintro (⟨i, hi, e⟩ | e)
          · exact ⟨i, by omega, e⟩
          · exact ⟨m, by omega, e.symm⟩
        · rintro ⟨i, hi, e⟩
          by_cases him : i = m
          · subst him; exact .inr e.symm
          · exact .inl ⟨i, by omega, e⟩
      · rw [List.length_append, List.length_singleton] at hp
        rw [gS_snoc, gS_snoc, if_pos (by omega)]
        by_cases hpl : p + 1 < C.length
        · rw [if_pos hpl]; exact i2 p hpl
        · rw [if_neg hpl, if_pos (by omega)]
          have hm0 : 0 < m := by
            rcases Nat.eq_zero_or_pos m with h0 | h0
            · subst h0
              have : C = [] := by
                cases C with
                | nil => rfl
                | cons x r => obtain ⟨i, hi, _⟩ := (i1 x).1 (List.mem_cons_self ..); omega
              subst this; simp at hp
            · exact h0
          obtain ⟨j1, j2⟩ := i3 hm0
          rw [show p = C.length - 1 by omega, j2]
          have hne : d[m]! ≠ d[m - 1]! := by
            unfold Lib.keeps at hk
            rw [decide_eq_true_eq] at hk
            exact hk.resolve_left (by omega)
          have h1 := hs (m - 1) (by omega)
          rw [show m - 1 + 1 = m by omega] at h1
          have h2 := cmpC_neg d[m]! d[m - 1]!
          have h3 : cmpC d[m]! d[m - 1]! ≠ 0 := fun hh => hne (cmpC_zero hh)
          omega
      · rw [List.length_append, List.length_singleton, gS_snoc, if_neg (by omega), if_pos (by omega)]; rfl
    · have hk' : Lib.keeps d m = false := by simpa using hk
      rw [if_neg hk, List.append_nil]
      have hh : ¬ (m = 0 ∨ d[m]! ≠ d[m - 1]!) := by
        unfold Lib.keeps at hk'
        exact of_decide_eq_false hk'
      rw [not_or, Decidable.not_not] at hh
      obtain ⟨j1, j2⟩ := i3 (by omega)
      refine ⟨fun x => ?_, i2, fun _ => ⟨j1, ?_⟩⟩
      · rw [i1]
        constructor
        · rintro ⟨i, hi, e⟩; exact ⟨i, by omega, e⟩
        · rintro ⟨i, hi, e⟩
          by_cases him : i = m
          · subst him; exact ⟨i - 1, by omega, by rw [← hh.2]; exact e⟩
          · exact ⟨i, by omega, e⟩
      · rw [j2, show m + 1 - 1 = m by omega, hh.2]
end Go.Proofs
namespace Go.Proofs
open Go Go.Sh Go.RowKit

section
variable {R : Ending → World → Prop} {w : World}
theorem row_strs : ∀ l : List (List UInt8), Sh.encStr.row l = l.map fun s => Value.string ⟨s.toArray⟩
  | [] => rfl
  | x :: l => by rw [row_cons, row_strs l]; rfl
set_option maxRecDepth 20000 in
theorem CompactS_spec {B : Nat} {a : Option Addr} {n c : Nat} {M : List (List UInt8)} (hO : OwnL Sh.encStr w B 9 a n c M) (hn : n ≤ 1000000)
    (h : ∀ w', RowAt Sh.encStr (bk a) w' a (Lib.compact M).length (Lib.compact M) → Chg (bk a) w w' → R (.returned (.slice a (Lib.compact M).length c)) w') :
    Calls Tryz.prog F_slices_Compact_of_string_string ⟨[.slice a n c]⟩ w R := by
  have hl := OwnL.length hO
  by_cases h0 : n = 0
  · subst h0
    have hM : M = [] := List.eq_nil_of_length_eq_zero hl
    subst hM
    refine (Tryz.slices_Compact_string_empty a c w).mono ?_
    rintro e w' ⟨rfl, rfl⟩
    exact h w' (RowAt.nil _) (Chg.refl _ _)
  · have ho := hO
    rcases hO.2 with h1 | ⟨g, cap, cur, e1, e2, e3, e4, e5, e6, e7⟩
    · exact absurd h1.2 h0
    obtain ⟨rfl, _, rfl⟩ : a = some ⟨g, 0, none⟩ ∧ True ∧ c = cap := by simpa using e1
    have hB : Blk w g cur.toList 9 := e3
    have e7' : cur.toList.take n = Sh.encStr.row M := by
      have : List.take (n * Sh.encStr.size) cur.toList = Sh.encStr.row M := e7
      rw [show n * Sh.encStr.size = n by simp [Sh.encStr]] at this
      exact this
    have hcell : ∀ i, i < n → w.cell? ⟨g, 0 + i, none⟩ = some (.string ⟨(gS M i).toArray⟩) := fun i hi => by
      rw [Nat.zero_add, hB.cell]
      have : cur.toList[i]? = (Sh.encStr.row M)[i]? := by rw [← e7', List.getElem?_take, if_pos hi]
      rw [this, row_strs, List.getElem?_map, List.getElem?_eq_getElem (by omega), gS_at (by omega)]; rfl
    have hst : Lib.strsOf (fun i => (⟨(gS M i).toArray⟩ : ByteArray)) n = M := by
      unfold Lib.strsOf
      apply List.ext_getElem
      · simp; omega
      · intro i h1 h2
        simp [gS_at h2]
    refine (Tryz.slices_Compact_string_cells g 0 n c (fun i => ⟨(gS M i).toArray⟩) w (by omega) e4 hcell (fun j hj => hB.frozen _)).mono ?_
    rintro e w' ⟨rfl, q, rfl⟩
    rw [hst]
    have hB2 : Blk (w.drewN q) g cur.toList 9 := e3
    have hcl : (Lib.compact M).length ≤ n := by
      unfold Lib.compact Lib.compactUpTo
      rw [List.length_map]
      refine Nat.le_trans (List.length_filter_le _ _) ?_
      rw [List.length_range]; omega
    generalize Lib.compact M = C at *
    have he : ((C ++ List.replicate (n - C.length) []).map encStr) = C.map (fun s => Value.string ⟨s.toArray⟩) ++ List.replicate (n - C.length) (.string ⟨#[]⟩) := by
      rw [List.map_append, List.map_replicate]
    rw [he]
    obtain ⟨a1, a2, a3, a4, a5, a6⟩ := setCells_blk (vs := C.map (fun s => Value.string ⟨s.toArray⟩) ++ List.replicate (n - C.length) (.string ⟨#[]⟩)) (o := 0) hB2
    refine h _ ⟨rfl, .inr ⟨g, 0, rfl, by simp [bk], a1.lt, fun j v hj => ?_⟩⟩ ?_
    · rw [Nat.zero_add, a1.cell, putAt_get]
      rw [row_strs] at hj
      have hjl : j < C.length := by have := (List.getElem?_eq_some_iff.1 hj).1; simpa using this
      have hcn : n ≤ cur.toList.length := by
        have : cur.size = c * Sh.encStr.size := e6
        rw [show c * Sh.encStr.size = c by simp [Sh.encStr]] at this
        simp; omega
      have hcz : cur.toList.length = cur.size := by simp
      rw [if_pos (by simp; omega), Nat.sub_zero, List.getElem?_append_left (by simpa using hjl)]
      exact hj
    · exact ⟨a4, a5, a6, by rw [a3]; exact Nat.le_refl _, fun k _ hk => a2 k fun e => hk (by simp [bk, e])⟩
end
end Go.Proofs
namespace Go.Proofs
open Go Go.Sh Go.RowKit

/- tokenizer.Names: the names in order, each once -/
def nmsL (l : List Tok) : List (List UInt8) := (l.filter fun x => decide (x.a ≠ [])).map (·.a)
theorem nmsL_snoc (l : List Tok) (x : Tok) : nmsL (l ++ [x]) = nmsL l ++ if x.a = [] then [] else [x.a] := by
  unfold nmsL
  rw [List.filter_append, List.map_append]
  by_cases h : x.a = [] <;> simp [h]
theorem nmsL_mem {l : List Tok} {s : List UInt8} : s ∈ nmsL l ↔ s ≠ [] ∧ ∃ x ∈ l, x.a = s := by
  unfold nmsL
  rw [List.mem_map]
  constructor
  · rintro ⟨x, hx, rfl⟩
    obtain ⟨h1, h2⟩ := List.mem_filter.1 hx
    exact ⟨by simpa using h2, x, h1, rfl⟩
  · rintro ⟨h1, x, hx, rfl⟩
    exact ⟨x, List.mem_filter.2 ⟨hx, by simpa using h1⟩, rfl⟩
theorem nmsL_len (l : List Tok) : (nmsL l).length ≤ l.length := by
  unfold nmsL
  rw [List.length_map]; exact List.length_filter_le _ _
/- what Names hands back -/
structure NmOk (l : List Tok) (C : List (List UInt8)) : Prop where
  mem : ∀ s, s ∈ C ↔ s ∈ nmsL l
  ord : ∀ p, p + 1 < C.length → cmpC (gS C p) (gS C (p + 1)) < 0
  len : C.length ≤ l.length
section
variable {R : Ending → World → Prop} {w : World}
end
end Go.Proofs
namespace Go.Proofs
open Go Go.Sh Go.RowKit

/- slices.SortFunc with charset.Compare, at whatever length -/
abbrev StrB := { s : List UInt8 // s.length ≤ 1000000000 }
instance : Inhabited StrB := ⟨⟨[], Nat.zero_le _⟩⟩
def encB (x : StrB) : Value := .string ⟨⟨x.1⟩⟩
def cmpSB (x y : StrB) : Int := cmpC x.1 y.1
theorem swo_cmp : Go.Sort.SWO (ltOf cmpSB) where
  irrefl x := by
    unfold ltOf cmpSB
    rw [cmpC_self]; rfl
  trans x y z h1 h2 := by
    unfold ltOf cmpSB at *
    rw [decide_eq_true_eq] at *
    exact cmpC_trans h1 h2
  ntrans x y z h1 h2 := by
    unfold ltOf cmpSB at *
    rw [decide_eq_false_iff_not] at *
    intro h3
    by_cases h0 : cmpC x.1 y.1 = 0
    · rw [cmpC_zero h0] at h3; exact h2 h3
    · have h4 := cmpC_neg x.1 y.1
      exact h2 (cmpC_trans (by omega) h3)
theorem oneB : OneCell encB := fun _ => rfl
theorem cmpLays {blk off size : Nat} {w : World} : CmpLays1 Tryz.prog F_charset_Compare #[] encB cmpSB blk off size w := by
  intro m os dk _ x y
  have e : (#[encB x, encB y] ++ #[] : Array Value) = ⟨[.string ⟨⟨x.1⟩⟩, .string ⟨⟨y.1⟩⟩]⟩ := by simp [encB]
  rw [e]
  exact CompareC_specD x.1 y.1 x.2 y.2 fun w' hw => ⟨rfl, ext_grow hw⟩
section
variable {R : Ending → World → Prop} {w : World}
theorem SortAny_spec {B : Nat} {a : Option Addr} {n c : Nat} {L : List (List UInt8)} (hO : OwnL Sh.encStr w B 9 a n c L) (hn : n ≤ 1000000) (hB : B ≤ w.heap.size) (hbig : ∀ x ∈ L, x.length ≤ 1000000000)
    (h : ∀ M w', OwnL Sh.encStr w' B 9 a n c M → (∀ x, x ∈ M ↔ x ∈ L) → (∀ p, p + 1 < n → srt M p (p + 1)) → Chg (bk a) w w' → R (.returned (.tuple ⟨[]⟩)) w') :
    Calls Tryz.prog F_slices_SortFunc_of_string_string ⟨[.slice a n c, .func (.func F_charset_Compare) #[] #[]]⟩ w R := by
  by_cases h12 : n ≤ 12
  · exact SortC_spec hO h12 hB hbig h
  have hl := OwnL.length hO
  rcases hO.2 with h1 | ⟨g, cap, cur, e1, e2, e3, e4, e5, e6, e7⟩
  · exact absurd h1.2 (by omega)
  obtain ⟨rfl, _, rfl⟩ : a = some ⟨g, 0, none⟩ ∧ True ∧ c = cap := by simpa using e1
  have hBk : Blk w g cur.toList 9 := e3
  have e7' : cur.toList.take n = Sh.encStr.row L := by
    have : List.take (n * Sh.encStr.size) cur.toList = Sh.encStr.row L := e7
    rw [show n * Sh.encStr.size = n by simp [Sh.encStr]] at this
    exact this
  have hcz : cur.size = c := by
    have : cur.size = c * Sh.encStr.size := e6
    rw [show c * Sh.encStr.size = c by simp [Sh.encStr]] at this
    exact this
  have hcell : ∀ i, i < n → cur[i]? = some (.string ⟨(gS L i).toArray⟩) := fun i hi => by
    have : cur.toList[i]? = (Sh.encStr.row L)[i]? := by rw [← e7', List.getElem?_take, if_pos hi]
    rw [← Array.getElem?_toList, this, row_strs, List.getElem?_map, List.getElem?_eq_getElem (show i < L.length by omega), gS_at (show i < L.length by omega)]; rfl
  -- the row as bounded strings
  let dl : List StrB := L.pmap (fun s h => (⟨s, h⟩ : StrB)) hbig
  have hdl : dl.length = n := by simp [dl, hl]
  have hdm : dl.map (·.1) = L := by
    simp only [dl, List.map_pmap]
    simp
  generalize hd : dl.toArray = d
  have hds : d.size = n := by rw [← hd]; simpa using hdl
  have hdt : d.toList = dl := by rw [← hd]
  have hval : ∀ (e : Array StrB) (i : Nat), i < e.size → (e[i]!).1 = gS (e.toList.map (·.1)) i := fun e i hi => by
    rw [getElem!_pos e i hi, gS_at (by simpa using hi)]; simp
  have hH : Go.Sort.Holds encB w g 0 d := by
    intro j hj
    refine ⟨?_, hBk.frozen _⟩
    rw [Nat.zero_add, hBk.cell, Array.getElem?_toList, hcell j (by omega)]
    unfold encB
    rw [hval d j hj, hdt, hdm]
  have hrun := Tryz.slices_SortFunc encB oneB cmpSB swo_cmp F_charset_Compare #[] g 0 c d w (fun args v => callFunc_run args v (by kernel_rfl)) cmpLays hH hBk.lt (by omega)
  rw [hds] at hrun
  refine hrun.mono ?_
  rintro e w' ⟨rfl, d', m, os, hp, hs, rfl⟩
  have hds' : d'.size = n := by rw [hp.1, hds]
  have hperm : d'.toList.Perm d.toList := by
    have := hp.2.2
    rw [Array.extract_eq_self_of_le (by omega), Array.extract_eq_self_of_le (by omega)] at this
    exact this
  have hML : (d'.toList.map (·.1)).length = n := by simp [hds']
  have hheap : ∀ k, k < w.heap.size → (sortWorld encB w g 0 m d' os).heap[k]? = if g = k then some (.cells (Go.Sort.putCells encB 0 d' cur) 9 (0, 0)) else w.heap[k]? := by
    intro k hk
    unfold sortWorld Go.Sort.grow Go.Sort.putRow Go.Sort.mapBlock Go.Sort.ahead
    simp only
    rw [Array.getElem?_append_left (by simpa using hk), Array.getElem?_modify]
    by_cases hgk : g = k
    · subst hgk
      rw [if_pos rfl, if_pos rfl, e3]; rfl
    · rw [if_neg hgk, if_neg hgk]
  have hsz : w.heap.size ≤ (sortWorld encB w g 0 m d' os).heap.size := by
    unfold sortWorld Go.Sort.grow Go.Sort.putRow Go.Sort.mapBlock Go.Sort.ahead
    simp
  refine h (d'.toList.map (·.1)) _ ?_ ?_ ?_ ?_
  · refine ⟨by rw [row_len, hML], .inr ⟨g, c, Go.Sort.putCells encB 0 d' cur, rfl, e2, ?_, e4, e5, ?_, ?_⟩⟩
    · rw [hheap g hBk.lt, if_pos rfl]
    · unfold Go.Sort.putCells; rw [Array.size_mapIdx]; exact e6
    · rw [show n * Sh.encStr.size = n by simp [Sh.encStr]]
      apply List.ext_getElem?
      intro i
      rw [List.getElem?_take, row_strs, List.getElem?_map, List.getElem?_map]
      by_cases hi : i < n
      · rw [if_pos hi, Array.getElem?_toList]
        unfold Go.Sort.putCells
        rw [Array.getElem?_mapIdx, Array.getElem?_eq_getElem (by omega), Option.map_some, if_pos (by omega), Nat.sub_zero, getElem!_pos d' i (by omega), Array.getElem?_toList, Array.getElem?_eq_getElem (by omega)]
        rfl
      · rw [if_neg hi, Array.getElem?_toList, Array.getElem?_eq_none (by omega)]; rfl
  · intro x
    rw [← hdm, ← hdt]
    exact (hperm.map _).mem_iff
  · intro p hp1
    have h2 := hs p (p + 1) (Nat.zero_le _) (by omega) (by omega)
    unfold ltOf cmpSB at h2
    rw [decide_eq_false_iff_not, hval d' (p + 1) (by omega), hval d' p (by omega)] at h2
    exact h2
  · refine ⟨rfl, rfl, rfl, hsz, fun k hk hkb => ?_⟩
    rw [hheap k hk, if_neg (fun e => hkb (by simp [bk, e]))]
set_option maxRecDepth 20000 in
theorem NamesAny_spec {S : Nat → Prop} {a : Option Addr} {n c : Nat} (l : List Tok) (hR : RowAt encTk S w a n l) (hn : n ≤ 2000) (hbig : ∀ x ∈ l, x.a.length ≤ 1000000000)
    (h : ∀ a' c' C w', NmOk l C → RowAt Sh.encStr (fun k => w.heap.size ≤ k) w' a' C.length C → Ext w w' → R (.returned (.slice a' C.length c')) w') :
    Calls Tryz.prog F_tokenizer_Names ⟨[.slice a n c]⟩ w R := by
  apply c_tokenizer_Names
  have hln := hR.1
  refine ⟨fun oa on oc i W m => ∃ k : Nat, i = k ∧ k ≤ n ∧ m = n - k ∧ on ≤ k ∧ Ext w W ∧ OwnL Sh.encStr W w.heap.size 9 oa on oc (nmsL (l.take k)), ⟨_, 0, rfl, by omega, rfl, by omega, Below.refl _ _, Owns.nil _ _ _ _⟩, ?_⟩
  rintro oa on oc _ W m ⟨k, rfl, hk, rfl, hon, he, hO⟩ _
  refine br_split (fun hlt => ?_) (fun hge => ?_)
  · have hkl : k < l.length := by omega
    obtain ⟨q, hq, c0, c1, c2, c3, c4, c5⟩ := tok_get (hR.ext he) (show l[k]? = some l[k] by simp [hkl])
    refine hq _ ⟨_, c0, _, c1, _, c2, _, c3, _, c4, _, c5, ?_⟩
    refine al_stL rfl (one6t _) fun b15 w17 hb15 B15 e17 s17 => ?_
    obtain ⟨d0, d1, d2, d3, d4, d5⟩ := blk6' B15
    have hsn : nmsL (l.take (k + 1)) = nmsL (l.take k) ++ if l[k].a = [] then [] else [l[k].a] := by rw [List.take_succ_eq_append_getElem hkl, nmsL_snoc]
    refine ⟨_, d5, br_split (fun hne => ⟨_, d5, ?_⟩) (fun hne => ?_)⟩
    · refine al_intro fun b19 w20 hb19 B19 e20 s20 => ?_
      have E20 := ext_trans e17 e20
      have B19' : Blk w20 b19 (Sh.encStr.enc l[k].a) 9 := B19
      have z20 := (ext_trans he E20).size
      refine OwnL.app1 (P := Tryz.prog) slT_strT (Owns.ext hO E20) (by omega) B19' (by omega) (by omega) fun a' c'' w22 ho hcg hn2 => ?_
      refine ⟨n - (k + 1), by omega, k + 1, by rw [wrap_nat (by omega)], by omega, rfl, by omega, ext_chgS (ext_trans he E20) hcg fun j hj => ?_, ?_⟩
      · exact ((Owns.ext hO E20).bk hj).1
      · rw [hsn, if_neg hne]; exact ho
    · refine ⟨n - (k + 1), by omega, k + 1, by rw [wrap_nat (by omega)], by omega, rfl, by omega, ext_trans he e17, ?_⟩
      rw [hsn, if_pos (Decidable.not_not.1 hne), List.append_nil]
      exact Owns.ext hO e17
  · rw [List.take_of_length_le (by omega)] at hO
    have z := he.size
    have hlo := OwnL.length hO
    refine SortAny_spec hO (by omega) z (fun s hs => ?_) fun M w27 hM hm hs c27 => ⟨rfl, ?_⟩
    · obtain ⟨_, x, hx, rfl⟩ := nmsL_mem.1 hs
      exact hbig x hx
    have hlM := OwnL.length hM
    have hbk : ∀ j, bk oa j → w.heap.size ≤ j := fun j hj => (Owns.bk hO hj).1
    refine CompactS_spec hM (by omega) fun w29 h29 c29 => ⟨_, _, _, rfl, ?_⟩
    have E29 : Ext w w29 := ext_chgS (ext_chgS he c27 hbk) c29 hbk
    have hsz : M.toArray.size = M.length := by simp
    have hg : ∀ i, i < M.length → M.toArray[i]! = gS M i := fun i hi => by
      unfold gS; simp [hi]
    obtain ⟨f1, f2, _⟩ := cpt_facts M.toArray (fun p hp => by
      rw [hsz] at hp
      rw [hg _ hp, hg _ (by omega)]
      exact hs p (by omega)) M.length (by simp)
    have hC : Lib.compactUpTo M.toArray M.length = Lib.compact M := rfl
    rw [hC] at f1 f2
    have hcl : (Lib.compact M).length ≤ M.length := by
      unfold Lib.compact Lib.compactUpTo
      rw [List.length_map]
      refine Nat.le_trans (List.length_filter_le _ _) ?_
      rw [List.length_range]; omega
    have hnl := nmsL_len l
    refine h oa oc (Lib.compact M) w29 ⟨fun s => ?_, f2, by omega⟩ (h29.imp fun k hk _ => hbk k hk) E29
    rw [f1, ← hm s, gS_mem]
    constructor
    · rintro ⟨i, hi, e⟩; exact ⟨i, hi, by rw [← hg i hi]; exact e⟩
    · rintro ⟨i, hi, e⟩; exact ⟨i, hi, by rw [hg i hi]; exact e⟩
end
end Go.Proofs
namespace Go.Proofs
open Go Go.Sh Go.RowKit

/- the reference's rewriting -/
section
variable {R : Ending → World → Prop} {w : World}
set_option maxRecDepth 20000 in
theorem letters14_spec (s : List UInt8) (hs : s.length ≤ 4611686018427387904) (h : R (.returned (.bool (wordlyF s))) w) : Calls Tryz.prog F_ref14_letters ⟨[.string ⟨⟨s⟩⟩]⟩ w R := by
  apply c_ref14_letters
  refine ⟨fun i W m => ∃ k : Nat, i = k ∧ k ≤ s.length ∧ m = s.length - k ∧ wordlyF (s.take k) = true ∧ W = w, ⟨_, 0, rfl, by omega, rfl, by rw [List.take_zero]; rfl, rfl⟩, ?_⟩
  rintro _ W m ⟨k, rfl, hk, rfl, hw, rfl⟩ _
  refine br_split (fun hlt => ?_) (fun hge => ?_)
  · have hkl : k < s.length := by omega
    refine sidx_nat hkl ?_
    refine Kind_spec' _ ⟨_, rfl, ?_⟩
    have yes : (kd s[k] = 1 ∨ kd s[k] = 2 ∨ kd s[k] = 3 ∨ kd s[k] = 4) → ∃ m', m' < s.length - k ∧ ∃ k' : Nat, IntKind.i64.wrap ((k : Int) + 1) = k' ∧ k' ≤ s.length ∧ m' = s.length - k' ∧ wordlyF (s.take k') = true ∧ W = W := fun hh =>
      ⟨s.length - (k + 1), by omega, k + 1, by rw [wrap_nat (by omega)], by omega, rfl, by rw [wordly_at s k hkl, hw, inn_of, decide_eq_true hh]; rfl, rfl⟩
    refine br_split (fun g1 => br_split (fun g2 => br_split (fun g3 => br_split (fun g4 => ?_) (fun g4 => ?_)) (fun g3 => ?_)) (fun g2 => ?_)) (fun g1 => ?_)
    · rw [wordly_no s k hkl (by rw [inn_of]; exact decide_eq_false (by omega))] at h; exact h
    · exact yes (.inr (.inr (.inr (Decidable.not_not.1 g4))))
    · exact yes (.inr (.inr (.inl (Decidable.not_not.1 g3))))
    · exact yes (.inr (.inl (Decidable.not_not.1 g2)))
    · exact yes (.inl (Decidable.not_not.1 g1))
  · rw [List.take_of_length_le (by omega)] at hw
    rw [hw] at h; exact h
set_option maxRecDepth 20000 in
theorem Check14_spec {S : Nat → Prop} {a : Option Addr} {n c : Nat} (rs : List Rw) (hsm : smallR rs) (hR : RowAt encRw S w a n rs) (h : ∀ w', Ext w w' → R (.returned (.int .i64 (ruleE rs))) w') : Calls Tryz.prog F_ref14_Check ⟨[.slice a n c]⟩ w R := by
  apply c_ref14_Check
  have hn := hR.1
  refine br_split (fun g => ?_) (fun g => ?_)
  · have : ruleE rs = 4 := by unfold ruleE; rw [if_pos (by omega)]
    rw [← this]; exact h w (Below.refl _ _)
  have hE : ruleE rs = rulesE rs := by unfold ruleE; rw [if_neg (by omega)]
  rw [hE] at h
  refine ⟨fun i W m => ∃ k : Nat, i = k ∧ k ≤ n ∧ m = n - k ∧ rulesE (rs.take k) = 0 ∧ Ext w W, ⟨_, 0, rfl, by omega, rfl, rfl, Below.refl _ _⟩, ?_⟩
  rintro _ W m ⟨k, rfl, hk, rfl, hz, he⟩ _
  refine br_split (fun hlt => ?_) (fun hge => ?_)
  · have hkl : k < rs.length := by omega
    have hx : rs[k]? = some rs[k] := by simp [hkl]
    unfold drw
    have Ed := ext_trans he (ext_drew W)
    generalize W.drew = v at *
    obtain ⟨bb, o, hq, _, _, hc⟩ := (hR.ext Ed).get hx
    obtain ⟨q1, q2⟩ := hsm rs[k] (List.getElem_mem hkl)
    have bad : ∀ e : Int, rule1E rs[k] = e → e ≠ 0 → R (.returned (.int .i64 e)) v := fun e he1 he2 => by
      have := rulesE_at hkl hz (by rw [he1]; exact he2)
      rw [this, he1] at h
      exact h v Ed
    have go : rule1E rs[k] = 0 → ∃ m', m' < n - k ∧ ∃ k' : Nat, IntKind.i64.wrap ((k : Int) + 1) = k' ∧ k' ≤ n ∧ m' = n - k' ∧ rulesE (rs.take k') = 0 ∧ Ext w v := fun e =>
      ⟨n - (k + 1), by omega, k + 1, by rw [wrap_nat (by omega)], by omega, rfl, rulesE_take hkl hz e, Ed⟩
    refine hq _ ⟨_, by rw [add_none]; exact hc 0 _ rfl, hq _ ⟨_, by rw [add_none]; exact hc 1 _ rfl, ?_⟩⟩
    generalize rs[k] = x at *
    intro K12 hK12
    have k12 : ¬ (x.1 = [] ∨ x.2 = []) → K12 v := by
      intro n1
      refine hK12 _ fun _ => ?_
      intro K14 hK14
      have k14 : ¬ (64 < x.1.length ∨ 64 < x.2.length) → K14 v := by
        intro n2
        refine hK14 _ fun _ => ?_
        intro K16 hK16
        have k16 : ¬ (wordlyF x.1 = false ∨ wordlyF x.2 = false) → K16 v := by
          intro n3
          refine hK16 _ fun _ => ?_
          have fin : ∀ e, (if x.1.length < x.2.length ∨ (x.2.length = x.1.length ∧ Op.bytesLess x.2 x.1 = false) then (24 : Int) else 0) = e → rule1E x = e := fun e he => by unfold rule1E; rw [if_neg n1, if_neg n2, if_neg n3]; exact he
          refine br_split (fun q => bad 24 (fin _ (if_pos (.inl (by omega)))) (by decide)) (fun q => br_split (fun q2 => br_cases (fun q3 => bad 24 (fin _ (if_pos (.inr ⟨by omega, by simpa using q3⟩))) (by decide)) (fun q3 => go (fin _ (if_neg ?_)))) (fun q2 => go (fin _ (if_neg ?_))))
          · rintro (hh | ⟨_, hh⟩)
            · omega
            · rw [hh] at q3; cases q3
          · rintro (hh | ⟨hh, _⟩)
            · omega
            · exact q2 (by omega)
        refine letters14_spec _ q1 ⟨_, rfl, br_cases (fun g => bad 11 ?_ (by decide)) (fun g => letters14_spec _ q2 ⟨_, rfl, br_cases (fun g2 => bad 11 ?_ (by decide)) (fun g2 => k16 ?_)⟩)⟩
        · have : wordlyF x.1 = false := by simpa using g
          unfold rule1E; rw [if_neg n1, if_neg n2, if_pos (.inl this)]
        · have : wordlyF x.2 = false := by simpa using g2
          unfold rule1E; rw [if_neg n1, if_neg n2, if_pos (.inr this)]
        · have h1 : wordlyF x.1 = true := by simpa using g
          have h2 : wordlyF x.2 = true := by simpa using g2
          simp [h1, h2]
      refine br_split (fun g => bad 4 ?_ (by decide)) (fun g => br_split (fun g2 => bad 4 ?_ (by decide)) (fun g2 => k14 (by omega)))
      · unfold rule1E; rw [if_neg n1, if_pos (by omega)]
      · unfold rule1E; rw [if_neg n1, if_pos (by omega)]
    refine br_split (fun g => bad 5 ?_ (by decide)) (fun g => br_split (fun g2 => bad 5 ?_ (by decide)) (fun g2 => k12 (fun hh => hh.elim g g2)))
    · unfold rule1E; rw [if_pos (.inl g)]
    · unfold rule1E; rw [if_pos (.inr g2)]
  · rw [List.take_of_length_le (by omega)] at hz
    rw [hz] at h
    exact h W he
theorem check14_spec {S : Nat → Prop} {a : Option Addr} {n c : Nat} (rs : List Rw) (s : List UInt8) (hsm : smallR rs) (hR : RowAt encRw S w a n rs) (h : ∀ w', Ext w w' → R (.returned (.int .i64 (chkE rs s))) w') : Calls Tryz.prog F_ref14_check ⟨[.slice a n c, .string ⟨⟨s⟩⟩]⟩ w R := by
  apply c_ref14_check
  refine Check14_spec rs hsm hR fun w4 e4 => ⟨_, rfl, ?_⟩
  have H : ∀ e : Int, chkE rs s = e → R (.returned (.int .i64 e)) w4 := fun e he => by rw [← he]; exact h w4 e4
  refine br_split (fun g => H 1 (by unfold chkE; rw [if_pos g])) (fun g => br_split (fun g2 => H 4 (by unfold chkE; rw [if_neg g, if_pos (by omega)])) (fun g2 => ?_))
  refine letters14_spec s (by omega) ⟨_, rfl, br_cases (fun g3 => H 11 ?_) (fun g3 => H 0 ?_)⟩
  · unfold chkE; rw [if_neg g, if_neg (by omega), if_pos (by simpa using g3)]
  · unfold chkE; rw [if_neg g, if_neg (by omega), if_neg (by simpa using g3)]
theorem at14_spec (s u : List UInt8) (k : Nat) (hk : k ≤ s.length) (hs : s.length ≤ 1000000000) (hu : u.length ≤ 1000000000) (h : R (.returned (.bool (hitB s u k))) w) : Calls Tryz.prog F_ref14_at ⟨[.string ⟨⟨s⟩⟩, .string ⟨⟨u⟩⟩, .int .i64 (k : Int)]⟩ w R := by
  apply c_ref14_at
  unfold sh_ref14_at
  rw [wrap_id (by omega), show (k : Int) + (u.length : Int) = ((k + u.length : Nat) : Int) by omega]
  unfold hitB at h
  refine br_split (fun g => ?_) (fun g => ?_)
  · refine ssl_nat (by omega) (by omega) ?_
    rw [decide_eq_true (show k + u.length ≤ s.length by omega), Bool.true_and] at h
    have e : (s.take (k + u.length)).drop k = (s.drop k).take u.length := by rw [List.drop_take]; congr 1; omega
    rw [e]; exact h
  · rw [decide_eq_false (show ¬ k + u.length ≤ s.length by omega), Bool.false_and] at h
    exact h
theorem replace14_spec (x : Rw) (s : List UInt8) (k : Nat) (hk : k + x.1.length ≤ s.length) (hs : s.length ≤ 1000000000) (hu : x.2.length ≤ 1000000000) (h : ∀ w', Ext w w' → R (.returned (.string ⟨⟨putW s x k⟩⟩)) w') : Calls Tryz.prog F_ref14_replace ⟨[.agg ⟨[.string ⟨⟨x.1⟩⟩, .string ⟨⟨x.2⟩⟩]⟩, .string ⟨⟨s⟩⟩, .int .i64 (k : Int)]⟩ w R := by
  apply c_ref14_replace
  refine al_intro fun b w6 hb B6 e6 s6 => ?_
  unfold drw
  have Ed := ext_trans e6 (ext_drew w6)
  have B7 := B6.ext (ext_drew w6)
  generalize w6.drew = v at *
  obtain ⟨c0, c1⟩ := blk2' B7
  have h00 : ((0 : Nat) : Int) = 0 := rfl
  rw [← h00]
  refine ssl_nat (by omega) (by omega) ⟨_, c1, ⟨by simp; omega, _, c0, ?_⟩⟩
  rw [wrap_id (by omega), show (k : Int) + (x.1.length : Int) = ((k + x.1.length : Nat) : Int) by omega]
  refine ssl_nat (by omega) (Nat.le_refl _) ⟨by simp; omega, ?_⟩
  have e : (s.take k).drop 0 ++ x.2 ++ (s.take s.length).drop (k + x.1.length) = putW s x k := by unfold putW; rw [List.drop_zero, List.take_length, List.append_assoc]
  rw [e]; exact h v Ed
theorem stepAt_head {rs : List Rw} {s : List UInt8} {k : Nat} {j : Nat} (hj : j < rs.length) (h0 : stepAt (rs.take j) s k = []) (h1 : hitB s rs[j].1 k = true) : (stepAt rs s k).head? = some (putW s rs[j] k) := by
  have h2 := stepAt_snoc (rs.take j) rs[j] s k
  rw [← List.take_succ_eq_append_getElem hj, h0, if_pos h1, List.nil_append] at h2
  have h3 := stepAt_pre (rs.take (j + 1)) (rs.drop (j + 1)) s k
  rw [List.take_append_drop, h2] at h3
  obtain ⟨t, ht⟩ := h3
  rw [← ht]; rfl
theorem step_found {rs : List Rw} {s x : List UInt8} {k : Nat} (hk : k < s.length) (h0 : (List.range k).flatMap (stepAt rs s) = []) (h1 : (stepAt rs s k).head? = some x) : stepW rs s = some x := by
  unfold stepW
  obtain ⟨t, ht⟩ := resW_pre rs s k hk
  rw [h0, List.nil_append] at ht
  rw [← ht]
  cases hh : stepAt rs s k with
  | nil => rw [hh] at h1; cases h1
  | cons y l => rw [hh] at h1; exact h1
theorem step_range {rs : List Rw} {s : List UInt8} {k : Nat} (h0 : (List.range k).flatMap (stepAt rs s) = []) (h1 : stepAt rs s k = []) : (List.range (k + 1)).flatMap (stepAt rs s) = [] := by
  rw [List.range_succ, List.flatMap_append, h0]; simpa using h1
set_option maxRecDepth 20000 in
theorem step14_spec {S : Nat → Prop} {a : Option Addr} {n c : Nat} (rs : List Rw) (s : List UInt8) (hln : rs.length ≤ 64) (hr : ∀ x ∈ rs, x.1.length ≤ 64 ∧ x.2.length ≤ 64) (hs : s.length ≤ 64) (hR : RowAt encRw S w a n rs)
    (h : ∀ w', Ext w w' → R (.returned (.tuple ⟨[.string ⟨⟨(stepW rs s).getD s⟩⟩, .bool (stepW rs s).isSome]⟩)) w') : Calls Tryz.prog F_ref14_step ⟨[.slice a n c, .string ⟨⟨s⟩⟩]⟩ w R := by
  apply c_ref14_step
  have hn := hR.1
  refine ⟨fun i W m => ∃ k : Nat, i = k ∧ k ≤ s.length ∧ m = s.length - k ∧ (List.range k).flatMap (stepAt rs s) = [] ∧ Ext w W, ⟨_, 0, rfl, by omega, rfl, rfl, Below.refl _ _⟩, ?_⟩
  rintro _ W m ⟨k, rfl, hk, rfl, hz, he⟩ _
  refine br_split (fun hlt => ?_) (fun hge => ?_)
  · have hkl : k < s.length := by omega
    refine ⟨fun i2 W2 m2 => ∃ j : Nat, i2 = j ∧ j ≤ n ∧ m2 = n - j ∧ stepAt (rs.take j) s k = [] ∧ Ext w W2, ⟨_, 0, rfl, by omega, rfl, rfl, he⟩, ?_⟩
    rintro _ W2 m2 ⟨j, rfl, hj, rfl, hz2, he2⟩ _
    refine br_split (fun hlt2 => ?_) (fun hge2 => ?_)
    · have hjl : j < rs.length := by omega
      have hx : rs[j]? = some rs[j] := by simp [hjl]
      obtain ⟨r1, r2⟩ := hr rs[j] (List.getElem_mem hjl)
      obtain ⟨bb, o, hq, _, _, hc⟩ := (hR.ext he2).get hx
      refine hq _ ⟨_, by rw [add_none]; exact hc 0 _ rfl, ?_⟩
      refine at14_spec s _ k (by omega) (by omega) (by omega) ⟨_, rfl, br_cases (fun g => ?_) (fun g => ?_)⟩
      · refine hq _ ⟨_, by rw [add_none]; exact hc 0 _ rfl, _, by rw [add_none]; exact hc 1 _ rfl, ?_⟩
        have hle : k + rs[j].1.length ≤ s.length := by
          unfold hitB at g
          rw [Bool.and_eq_true, decide_eq_true_eq] at g; exact g.1
        refine replace14_spec rs[j] s k hle (by omega) (by omega) fun w22 e22 => ⟨_, rfl, ?_⟩
        have hst := step_found hkl hz (stepAt_head hjl hz2 g)
        rw [hst] at h
        exact h w22 (ext_trans he2 e22)
      · refine ⟨n - (j + 1), by omega, j + 1, by rw [wrap_nat (by omega)], by omega, rfl, ?_, he2⟩
        rw [List.take_succ_eq_append_getElem hjl, stepAt_snoc, hz2, g]; rfl
    · rw [List.take_of_length_le (by omega)] at hz2
      exact ⟨s.length - (k + 1), by omega, k + 1, by rw [wrap_nat (by omega)], by omega, rfl, step_range hz hz2, he2⟩
  · have hkn : k = s.length := by omega
    subst hkn
    have hst : stepW rs s = none := by unfold stepW resW; rw [hz]; rfl
    rw [hst] at h
    exact h W he
set_option maxRecDepth 20000 in
theorem Trace14_spec {S : Nat → Prop} {a : Option Addr} {n c : Nat} (rs : List Rw) (s : List UInt8) (hsm : smallR rs) (hR : RowAt encRw S w a n rs)
    (h : ∀ a' n' c' w' (L : List (List UInt8)), (rwE rs s = 0 → RowAt Sh.encStr (fun k => w.heap.size ≤ k) w' a' n' (L ++ [rwR rs s]) ∧ L.length ≤ 4095) → Ext w w' → R (.returned (.tuple ⟨[.slice a' n' c', .int .i64 (rwE rs s)]⟩)) w') :
    Calls Tryz.prog F_ref14_Trace ⟨[.slice a n c, .string ⟨⟨s⟩⟩]⟩ w R := by
  apply c_ref14_Trace
  refine check14_spec rs s hsm hR fun w4 e4 => ⟨_, rfl, br_split (fun g => ?_) (fun g => ?_)⟩
  · have hE : rwE rs s = chkE rs s := by rw [rwE_eq, if_pos g]
    rw [hE] at h
    exact h none 0 0 w4 [] (fun hh => absurd hh g) e4
  obtain ⟨hln, hr, hs, hw⟩ := chk_zero (Decidable.not_not.1 g)
  have hE : rwE rs s = if (traceG rs 4095 s).isNone = true then 4 else 0 := by rw [rwE_eq, if_neg g]
  refine al_intro fun b3 w7 hb3 B3 e7 s7 => ?_
  have E7 := ext_trans e4 e7
  have z4 := e4.size
  refine ⟨fun x oa on oc W m => ∃ (L : List (List UInt8)), on = L.length + 1 ∧ m = 4095 - L.length ∧ L.length ≤ 4095 ∧ OwnL Sh.encStr W w.heap.size 9 oa on oc (L ++ [x]) ∧ traceG rs m x = traceG rs 4095 s ∧ x.length ≤ 64 ∧ wordlyF x = true ∧ Ext w W,
    ⟨_, [], rfl, rfl, by simp, ?_, rfl, hs, hw, E7⟩, ?_⟩
  · have hb : Blk w7 b3 ((List.replicate 1 (Sh.encStr.enc s)).flatten) 9 := B3
    have := OwnL.made (E := Sh.encStr) (x := s) (n := 1) (B := w.heap.size) hb (by omega) (by decide)
    exact this
  rintro x oa on oc W k ⟨L, rfl, hk, hL, hO, htr, hx, hwx, he⟩ _
  have zW := he.size
  refine step14_spec rs x hln (rules_small hr) hx (hR.ext he) fun w13 e13 => ⟨_, _, rfl, ?_⟩
  have E13 := ext_trans he e13
  have hO13 := hO.ext e13
  cases hst : stepW rs x with
  | none =>
    simp only [Option.isSome_none, Bool.not_false, br_t]
    have ht := trace_stop (n := k) hst
    rw [htr] at ht
    have hE0 : rwE rs s = 0 := by rw [hE, ht]; rfl
    have hRx : rwR rs s = x := by unfold rwR; rw [if_neg (by rw [hE0]; decide), ht]; rfl
    rw [hE0, hRx] at h
    refine h oa _ oc w13 L (fun _ => ?_) E13
    exact ⟨(OwnL.out hO13).imp fun k hk _ => (Owns.bk hO13 hk).1, hL⟩
  | some y =>
    simp only [Option.isSome_some, Bool.not_true, br_f, Option.getD_some]
    refine br_split (fun g2 => ?_) (fun g2 => ?_)
    · have hk0 : k = 0 := by omega
      subst hk0
      rw [trace_full hst] at htr
      have hE4 : rwE rs s = 4 := by rw [hE, ← htr]; rfl
      rw [hE4] at h
      exact h none 0 0 w13 [] (fun hr' => by cases hr') E13
    · obtain ⟨q1, q2, q3⟩ := step_word hr hwx (List.mem_of_head? (show (resW rs x).head? = some y from hst))
      refine al_intro fun b16 w17 hb16 B16 e17 s17 => ?_
      have z13 := E13.size
      have B16' : Blk w17 b16 (Sh.encStr.enc y) 9 := B16
      refine OwnL.app1 (P := Tryz.prog) slT_strT (hO13.ext e17) (by omega) B16' (by omega) (by omega) fun a' c'' w19 ho hcg hn => ?_
      have z17 := e17.size
      refine ⟨k - 1, by omega, L ++ [x], by simp, by simp; omega, by simp; omega, ?_, ?_, by omega, q1, ?_⟩
      · exact ho
      · rw [← htr, show k = (k - 1) + 1 by omega, trace_step hst, Nat.add_sub_cancel]
      · exact ext_chgS (ext_trans E13 e17) hcg fun k hk => (hO13.bk hk).1
theorem Norm14_spec {S : Nat → Prop} {a : Option Addr} {n c : Nat} (rs : List Rw) (s : List UInt8) (hsm : smallR rs) (hR : RowAt encRw S w a n rs)
    (h : ∀ w', Ext w w' → R (.returned (.tuple ⟨[.string ⟨⟨rwR rs s⟩⟩, .int .i64 (rwE rs s)]⟩)) w') : Calls Tryz.prog F_ref14_Normalize ⟨[.slice a n c, .string ⟨⟨s⟩⟩]⟩ w R := by
  apply c_ref14_Normalize
  refine Trace14_spec rs s hsm hR fun a' n' c' w4 L hL e4 => ⟨_, _, _, _, rfl, br_split (fun g => ?_) (fun g => ?_)⟩
  · have hR' : rwR rs s = [] := by unfold rwR; rw [if_pos g]
    rw [hR'] at h; exact h w4 e4
  · have g0 : rwE rs s = 0 := Decidable.not_not.1 g
    obtain ⟨hRow, hl⟩ := hL g0
    have hg : (L ++ [rwR rs s])[L.length]? = some (rwR rs s) := by simp
    have hn : n' = L.length + 1 := by have := hRow.1; simpa using this
    obtain ⟨bb, o, hq, _, _, hc⟩ := hRow.get hg
    have ei : IntKind.i64.wrap (((n' : Nat) : Int) - 1) = (L.length : Int) := by rw [wrap_id (by omega)]; omega
    rw [ei]
    refine hq _ ⟨_, hc 0 _ rfl, ?_⟩
    rw [g0] at h
    exact h w4 e4
end
end Go.Proofs
namespace Go.Proofs
open Go Go.Sh Go.RowKit

/- a row of tokens as a text -/
theorem textJ_snoc : ∀ (l : List Tok) (b : Bool) (x : Tok), textJ b (l ++ [x]) = textJ b l ++ ((if (b = true ∧ l = []) ∨ hasG x.g 16 = true then [] else [32]) ++ x.t)
  | [], b, x => by simp [textJ]
  | y :: l, b, x => by
    rw [List.cons_append, textJ, textJ, textJ_snoc l false x]
    simp
def txE (l : List Tok) : Int := if 1024 < l.length then 4 else if (l.any fun x => decide (tokE x ≠ 0)) = true then 1 else if 65536 < (textJ true l).length then 4 else 0
def txR (l : List Tok) : List UInt8 := if txE l = 0 then textJ true l else []
theorem textJ_len : ∀ (l : List Tok) (b : Bool) (N : Nat), (∀ x ∈ l, x.t.length ≤ N) → (textJ b l).length ≤ (N + 1) * l.length
  | [], _, _, _ => by simp [textJ]
  | x :: l, b, N, h => by
    have h1 := textJ_len l false N fun y hy => h y (List.mem_cons_of_mem _ hy)
    have h2 := h x (List.mem_cons_self ..)
    rw [textJ, List.length_append, List.length_append, List.length_cons, Nat.mul_add]
    split
    · simp only [List.length_nil]; omega
    · simp only [List.length_cons, List.length_nil]; omega
section
variable {R : Ending → World → Prop} {w : World}
theorem WriteByteB_spec {b : Nat} {a : Option Addr} {l : List UInt8} (h : BldAt w b a l) (x : UInt8) (hlen : l.length ≤ 1000000000000)
    (hk : ∀ a' w', BldAt w' b a' (l ++ [x]) → (∀ k, bk a' k → bk a k ∨ w.heap.size ≤ k) → Chg (fun k => k = b ∨ bk a k) w w' → R (.returned .nilIface) w') :
    Calls Tryz.prog F_strings_Builder_WriteByte ⟨[.pointer (some ⟨b, 0, none⟩), .int .u8 (x.toNat : Int)]⟩ w R := by
  apply c_strings_Builder_WriteByte
  obtain ⟨p, c, g1, g2, g3⟩ := h
  have hbl := g1.lt
  have hnb : ¬ bk a b := fun hb => by have := (g3.bk hb).1; omega
  have main : ∀ w1, Blk w1 b [.pointer (some ⟨b, 0, none⟩), .slice a l.length c] 75 → Owns w1 (b + 1) 5 1 a l.length c (Lib.byteCells l) → Chg (· = b) w w1 → w1.heap.size = w.heap.size →
      (dr (some ⟨b, 0, none⟩) fun p5 =>
  ∃ (x6 : Option Addr) (x6n : Nat) (x6c : Nat), World.cell? w1 (p5.add 1) = some (.slice x6 x6n x6c) ∧ (al w1 5 [.int .u8 (x.toNat : Int)] fun p7 w8 =>
  app Tryz.prog [73, 73] 73 (.slice x6 x6n x6c) (.slice (some p7) 1 1) w8 fun a9 a9n a9c w10 =>
  dr (some ⟨b, 0, none⟩) fun p11 =>
  stL w10 (p11.add 1) 0 [.slice a9 a9n a9c] fun w12 =>
  R (.returned (.nilIface)) w12)) := by
    intro w1 q1 q2 q3 q4
    refine dr_ok ⟨a, l.length, c, by rw [add_none, q1.cell]; rfl, ?_⟩
    refine app_one2 slT_byte q2 (by omega) [.int .u8 (x.toNat : Int)] rfl (by intro u hu; rw [List.mem_singleton.1 hu]; rfl) (by omega) (by omega) fun a' c'' w2 ho hc hn => dr_ok ?_
    have q5 : Blk w2 b [.pointer (some ⟨b, 0, none⟩), .slice a l.length c] 75 := hc.blk q1 hnb
    have e : l.length + 1 = (l ++ [x]).length := by simp
    have eb : Lib.byteCells (l ++ [x]) = Lib.byteCells l ++ [.int .u8 (x.toNat : Int)] := by simp [Lib.byteCells]
    rw [add_none]
    refine stL_blk q5 (by simp) (by simp [Value.oneCell']) fun w3 r1 r2 r3 r4 r5 r6 => ?_
    have hw23 : Chg (· = b) w2 w3 := ⟨r4, r5, r6, by omega, fun k _ hk => r2 k hk⟩
    have hnb' : ∀ k, bk a' k → ¬ k = b := fun k hk he => by have := (ho.bk hk).1; omega
    refine hk a' w3 ⟨.pointer (some ⟨b, 0, none⟩), c'', ?_, .inr rfl, ?_⟩ (fun k hk => (hn k hk).imp id (by omega)) ?_
    · rw [← e]; exact r1
    · rw [← e, eb]; exact ho.chg hw23 hnb'
    · exact ((q3.mono fun k _ h => .inl h).trans (hc.mono fun k _ h => .inr h)).trans (hw23.mono fun k _ h => .inl h)
  rcases g2 with rfl | rfl
  · refine (copyCheck_fresh b w (by rw [g1.cell]; rfl) (by simp [World.shape?, show w.heap[b]? = _ from g1]) (g1.frozen 0)).mono ?_
    rintro e w' ⟨rfl, rfl⟩
    have hset := g1.set 0 (.pointer (some ⟨b, 0, none⟩))
    have hc : Chg (· = b) w (w.setCell ⟨b, 0, none⟩ (.pointer (some ⟨b, 0, none⟩))) :=
      ⟨rfl, rfl, rfl, by simp, fun k _ hk => by simp only [World.setCell, Array.getElem?_modify]; rw [if_neg (fun e => hk e.symm)]⟩
    exact ⟨rfl, main _ hset (g3.chg hc fun k hk he => hnb (he ▸ hk)) hc (by simp)⟩
  · refine (copyCheck_used b w (by rw [g1.cell]; rfl)).mono ?_
    rintro e w' ⟨rfl, rfl⟩
    exact ⟨rfl, main _ g1 g3 (Chg.refl _ _) rfl⟩
set_option maxRecDepth 20000 in
theorem Text15_spec {S : Nat → Prop} {a : Option Addr} {n c : Nat} (l : List Tok) (hM : Mk w) (hbig : ∀ x ∈ l, bigT x) (hn : n ≤ 4611686018427387904) (hL : RowAt encTk S w a n l)
    (hg : ∀ x ∈ l, tokE x = 0 → x.t.length ≤ 64)
    (h : ∀ w', Ext w w' → R (.returned (.tuple ⟨[.string ⟨⟨txR l⟩⟩, .int .i64 (txE l)]⟩)) w') : Calls Tryz.prog F_tokenizer_Text ⟨[.slice a n c]⟩ w R := by
  apply c_tokenizer_Text
  have hln := hL.1
  have bad : ∀ (e : Int) (v : World), e ≠ 0 → txE l = e → Ext w v → R (.returned (.tuple ⟨[.string ⟨⟨[]⟩⟩, .int .i64 e]⟩)) v := by
    intro e v he h0 hv
    have hr : txR l = [] := by unfold txR; rw [h0, if_neg he]
    rw [hr, h0] at h
    exact h v hv
  refine br_split (fun g2 => bad 4 w (by decide) (by unfold txE; rw [if_pos (by omega)]) (Below.refl _ _)) (fun g2 => ?_)
  refine ContainsT_spec' l (fun x => decide (tokE x ≠ 0)) 60 (by kernel_rfl) (fun {R} {v} x ev hx hR => bad15_spec x (hbig x hx) (hM.ext ev) hR) hL hn fun w3 e3 => ⟨_, rfl, ?_⟩
  have hE : txE l = if (l.any fun x => decide (tokE x ≠ 0)) = true then 1 else if 65536 < (textJ true l).length then 4 else 0 := by unfold txE; rw [if_neg (by omega)]
  refine br_cases (fun g3 => bad 1 w3 (by decide) (by rw [hE, if_pos g3]) e3) (fun g3 => ?_)
  rw [if_neg (by rw [g3]; decide)] at hE
  have h0 : ∀ x ∈ l, tokE x = 0 := fun x hx => by have := List.any_eq_false.1 g3 x hx; simpa using this
  have hlen64 : ∀ x ∈ l, x.t.length ≤ 64 := fun x hx => hg x hx (h0 x hx)
  have hR3 := hL.ext e3
  refine al_intro fun b w6 hb B6 e6 s6 => ?_
  have hR6 := hR3.ext e6
  have E6 := ext_trans e3 e6
  have z6 := E6.size
  have z3 := e3.size
  refine ⟨fun i W m => ∃ k : Nat, ∃ a', i = k ∧ k ≤ n ∧ m = n - k ∧ BldAt W b a' (textJ true (l.take k)) ∧ Ext w3 W, ⟨_, 0, none, rfl, by omega, rfl, ⟨.pointer none, 0, B6, .inl rfl, Owns.nil _ _ _ _⟩, e6⟩, ?_⟩
  rintro _ W m ⟨k, a', rfl, hk, rfl, hB, eW⟩ _
  have EW := ext_trans e3 eW
  refine br_split (fun hlt => ?_) (fun hge => ?_)
  · have hkl : k < l.length := by omega
    have hx : l[k] ∈ l := List.getElem_mem hkl
    have hxe : l[k]? = some l[k] := by simp [hkl]
    have htk : l.take (k + 1) = l.take k ++ [l[k]] := List.take_succ_eq_append_getElem hkl
    have hpl := textJ_len (l.take k) true 64 fun y hy => hlen64 y (List.mem_of_mem_take hy)
    rw [List.length_take] at hpl
    have hx0 := tokE_g (h0 _ hx)
    have hxl := hlen64 _ hx
    have hemp : l.take k = [] ↔ k = 0 := by
      constructor
      · intro hh
        have := congrArg List.length hh
        rw [List.length_take, List.length_nil] at this
        omega
      · rintro rfl; rfl
    generalize l[k] = x at *
    obtain ⟨q, hq, d0, d1, d2, d3, d4, d5⟩ := tok_get (hR3.ext eW) hxe
    have f16 : decide (bitA .i64 x.g 16 = 0) = !hasG x.g 16 := (bitA_facts hx0.1 hx0.2).2.2.2
    refine hq _ ⟨_, d0, _, d1, _, d2, _, d3, _, d4, _, d5, ?_⟩
    refine al_stL rfl (one6t _) fun b19 w21 hb19 B19 e21 s21 => ?_
    obtain ⟨c0, c1', c2', c3', c4, c5⟩ := blk6' B19
    have hB21 := hB.ext e21
    have z21 := e21.size
    have fin : ∀ (a2 : Option Addr) (v : World) (pre : List UInt8), BldAt v b a2 pre → Ext w3 v → pre.length ≤ 1000000 → textJ true (l.take (k + 1)) = pre ++ x.t → Calls Tryz.prog 47 ⟨[.pointer (some ⟨b, 0, none⟩), .string ⟨⟨x.t⟩⟩]⟩ v fun (e27 : Ending) (w28 : World) =>
        ∃ (x29 : Int) (x30 : Value), e27 = .returned (.tuple ⟨[.int .i64 x29, x30]⟩) ∧ (∃ m31 : Nat, m31 < n - k ∧ ∃ k' : Nat, ∃ a', IntKind.i64.wrap ((k : Int) + 1) = k' ∧ k' ≤ n ∧ m31 = n - k' ∧ BldAt w28 b a' (textJ true (l.take k')) ∧ Ext w3 w28) := by
      intro a2 v pre hv ev hp he
      refine WriteString_spec hv (by omega) fun a9 w28 h28 hn9 c28 => ⟨_, _, rfl, n - (k + 1), by omega, k + 1, a9, by rw [wrap_nat (by omega)], by omega, rfl, by rw [he]; exact h28, ?_⟩
      exact ext_chgS ev c28 fun j hj => by
        rcases hj with rfl | hj
        · omega
        · have := hv.bk hj; omega
    refine br_split (fun hk0 => ⟨_, c4, ?_⟩) (fun hk0 => ⟨_, c0, fin a' w21 _ hB21 (ext_trans eW e21) (by omega) ?_⟩)
    · rw [f16]
      cases hj : hasG x.g 16 with
      | false =>
        simp only [Bool.not_false, br_t]
        refine WriteByteB_spec hB21 32 (by omega) fun a9 w24 h24 hn9 c24 => ⟨_, rfl, _, ?_, fin a9 w24 _ h24 ?_ (by rw [List.length_append, List.length_cons, List.length_nil]; omega) ?_⟩
        · have := hB21.lt
          have hB24 := c24.blk B19 (by
            rintro (hh | hh)
            · have := hB.lt; omega
            · have := hB.bk hh; omega)
          exact (blk6' hB24).1
        · exact ext_chgS (ext_trans eW e21) c24 fun j hj => by
            rcases hj with rfl | hj
            · omega
            · have := hB21.bk hj; omega
        · rw [htk, textJ_snoc, if_neg (by rw [hemp, hj]; simp; omega), List.append_assoc]
      | true =>
        simp only [Bool.not_true, br_f]
        refine ⟨_, c0, fin a' w21 _ hB21 (ext_trans eW e21) (by omega) ?_⟩
        rw [htk, textJ_snoc, if_pos (.inr hj), List.nil_append]
    · have : k = 0 := by omega
      rw [htk, textJ_snoc, if_pos (.inl ⟨rfl, hemp.2 this⟩), List.nil_append]
  · rw [List.take_of_length_le (by omega)] at hB
    refine (Tryz.Builder_Len b b _ W hB.isB).mono ?_
    rintro e w45 ⟨rfl, rfl⟩
    refine ⟨_, rfl, ?_⟩
    rw [Lib.byteCells_length]
    refine br_split (fun g5 => bad 4 w45 (by decide) (by rw [hE, if_pos (by omega)]) EW) (fun g5 => ?_)
    have hE0 : txE l = 0 := by rw [hE, if_neg (by omega)]
    have hr : txR l = textJ true l := by unfold txR; rw [if_pos hE0]
    rw [hr, hE0] at h
    refine String_spec hB fun w48 b48 => ⟨_, rfl, ?_⟩
    exact h w48 (EW.trans (b48.mono (by omega)))
end
end Go.Proofs
