/- The contracts of the functions that the law reaches, one after the other, and at the end the law's card. -/
import Derived.Test.YtieeggfkfgmdgaaGreatDoorLawB
import Derived.Lib.AppendZerosOnto
import Derived.Maps.Own
import Derived.DeepKeys4
import Derived.Lib.AtoiAll
import Derived.Lib.ItoaNum
import Derived.Lib.IndexAny
import Derived.Lib.IndexMore
import Derived.Lib.Strings
import Derived.Laws.Runes
import Derived.Laws.RangeString
import Derived.Laws.Strings3
import Derived.Scope
import Derived.WalkMore
import Derived.LoopN
import Derived.WalkSmall
import Derived.Deep.QuietTactic
import Derived.BigQuiet
import Derived.Lib.IndexBytes
import Derived.Deep.LoopGhost
import Derived.Lib.OthersKept
import Derived.Laws.RangeAny
import Derived.Lib.SmallJoins
import Derived.Carry
import Derived.ChangeSame
import Derived.RowKit
import Derived.OpenShut
import Derived.Test.YtieeggfkfgmdgaaGreatDoorCards
import Derived.Test.YtieeggfkfgmdgaaGreatDoorTie
import Derived.Deep.DeepHandedRow
import Derived.Lib.LaidTab
import Derived.Lib.LaidU8
import Derived.WalkKit
import Derived.ProofKit
namespace Go.Sh
open Go Go.RowKit

/- entering a round: the loop's variable is laid, the record turns -/
theorem round_in {W : World} {T : TypeId} {zs vs : List Value} {l : Nat} {B : Addr → World → World → Prop} (hl : l < W.heap.size) (hlen : vs.length = zs.length) (ho : ∀ v ∈ vs, v.oneCell' = true)
    (h : ∀ bx W1 W2, bx = W.heap.size → Ext W W1 → Blk W2 bx vs T → Chg (fun k => k = l) W W2 → W2.heap.size = bx + 1 → B ⟨bx, 0, none⟩ W1 W2) :
    al W T zs fun p w1 => stL w1 p 0 vs fun w2 => Ext W w2 ∧ ∀ W2 : World, Upd l w2 W2 → B p w2 W2 := by
  refine al_stL hlen ho fun bx w1 hbx hBx e2 s2 => ⟨e2, fun W2 hU => ?_⟩
  have zU := hU.size
  have hUc : Chg (fun k => k = l) w1 W2 := ⟨hU.os, hU.tape, hU.output, by omega, fun k _ hk => hU.block k hk⟩
  exact h bx w1 W2 hbx e2 (hBx.keep (hU.block bx (by omega))) ((Chg.of_ext e2).trans hUc) (by omega)

/- a loop over an iterator that counts in one cell -/
theorem RFw_count {α : Type} {P : Program} {N : Nat} {g : Operand} {ps : Array Tmp} {assign body : Code} {env : Env} {ds : List Deferred} {w : World} {x : Nat} {Qn Qr Qx : List Deferred → World → Prop}
    (xA xB : Ann) {gf : FuncId} {cap : List Value} (hg : ev env g = .func (.func gf) ⟨[]⟩ ⟨cap⟩) (hok : okFn P gf = true)
    {xs : List α} {E : α → List Value → Prop} {Rd : Nat → Prop} (hit : ∀ w1, Ext w w1 → IterO P gf cap xs E Rd w1)
    (hps : ∀ y vs, E y vs → vs.length = ps.size) (hpN : ∀ p ∈ ps.toList, p < N)
    (hRd : ∀ k, Rd k → k < w.heap.size) {w0 : World} (hw0 : Ext w0 w) {b5 : Nat} {T5 : TypeId} (h0 : w0.heap.size ≤ b5) (hn5 : ¬ Rd b5) (val : List α → Int) (B5 : Blk w b5 [.int .i64 (val [])] T5)
    (hround : ∀ pre y vs W l, E y vs → pre ++ [y] <+: xs → w.heap.size ≤ l → l < W.heap.size → b5 ≠ l → Blk W b5 [.int .i64 (val pre)] T5 → Ext w0 W →
      ∀ Kn Kr Kx : World → World → Prop, (∀ W2 W', Ext w0 W2 → Chg (fun k => k = b5) W2 W' → Blk W' b5 [.int .i64 (val (pre ++ [y]))] T5 → Kn W2 W') → fragV P N xA xB assign body l x Kn Kr Kx (updPs ps.toList vs env) W)
    (hn : ∀ D W, w.heap.size ≤ D → D < W.heap.size → b5 ≠ D → W.heap[D]? = some (.deferred (some [])) → Blk W b5 [.int .i64 (val xs)] T5 → Ext w0 W → Qn ({ target := .collected D, args := #[] } :: ds) W) :
    RFw P none N (.rangeFunc g ps assign body) env ds w x Qn Qr Qx := by
  have l5 := B5.lt
  refine RFw_lawO xA xB hg hok (xs := xs) (E := E) (Rd := Rd) hit hps hpN hRd (fun k => k = b5) (fun k hk => ⟨hk ▸ l5, hk ▸ hn5⟩)
    (fun pre S1 W => Blk W b5 [.int .i64 (val pre)] T5 ∧ (∀ k, S1 k ↔ k = b5) ∧ Ext w0 W) (fun _ _ => False) (fun _ _ => False)
    ?_ (fun _ _ _ h => h.elim) (fun _ _ _ h => h.elim) ⟨B5, fun k => Iff.rfl, hw0⟩ ?_ ?_ (fun _ _ _ _ _ _ _ h => h.elim) (fun _ _ _ _ _ _ _ h => h.elim)
  · rintro pre S1 W W' ⟨g1, g2, g3⟩ hc
    have z := hw0.size
    refine ⟨hc.blk g1 (fun hh => hh.2 ((g2 _).2 rfl)), g2, ?_⟩
    exact g3.trans ⟨hc.os, hc.tape, hc.output, hc.size, fun k hk => hc.block k (Nat.lt_of_lt_of_le hk g3.size) (fun hh => by have := hh.1; omega)⟩
  · rintro pre y vs S1 W l hE hpre hl1 hl2 hl3 hS1 ⟨g1, g2, g3⟩
    have nl : b5 ≠ l := fun he => hl3 ((g2 l).2 he.symm)
    refine hround pre y vs W l hE hpre hl1 hl2 nl g1 g3 _ _ _ fun W2 W' he hc hb => ⟨hc.mono fun k _ hk => .inl ((g2 k).2 hk), fun k => k = b5, fun k hk => ⟨.inl ((g2 k).2 hk), hk ▸ hb.lt⟩, hb, fun k => Iff.rfl, ?_⟩
    exact he.trans ⟨hc.os, hc.tape, hc.output, hc.size, fun k hk => hc.block k (Nat.lt_of_lt_of_le hk he.size) (fun hh => by omega)⟩
  · rintro D S1 W hD1 hD2 hD3 hD4 ⟨g1, g2, g3⟩
    exact hn D W hD1 hD2 (fun he => hD3 ((g2 D).2 he.symm)) hD4 g1 g3
end Go.Sh
namespace Go.Sh
open Go Go.RowKit

/- how the elements of a slice lie in cells -/
structure Enc (α : Type) where
  enc : α → List Value
  size : Nat
  len : ∀ x, (enc x).length = size
  pos : 0 < size
  one : ∀ x, ∀ v ∈ enc x, v.oneCell' = true
section
variable {α : Type} {E : Enc α}
def Enc.row (E : Enc α) (l : List α) : List Value := l.flatMap E.enc
@[simp] theorem row_nil : E.row [] = [] := rfl
theorem row_cons (x : α) (l : List α) : E.row (x :: l) = E.enc x ++ E.row l := rfl
theorem row_snoc (l : List α) (x : α) : E.row (l ++ [x]) = E.row l ++ E.enc x := by simp [Enc.row]
theorem row_len : ∀ l : List α, (E.row l).length = l.length * E.size
  | [] => by simp
  | x :: l => by rw [row_cons, List.length_append, E.len, row_len l, List.length_cons, Nat.add_mul, Nat.one_mul]; omega
theorem row_get {x : α} : ∀ {l : List α} {i j : Nat}, l[i]? = some x → j < E.size → (E.row l)[i * E.size + j]? = (E.enc x)[j]?
  | [], i, j, h, _ => by simp at h
  | y :: l, 0, j, h, hj => by
    simp at h; subst h
    rw [row_cons, Nat.zero_mul, Nat.zero_add, List.getElem?_append_left (by rw [E.len]; exact hj)]
  | y :: l, i + 1, j, h, hj => by
    simp at h
    rw [row_cons, List.getElem?_append_right (by rw [E.len, Nat.add_mul, Nat.one_mul]; omega), E.len, show (i + 1) * E.size + j - E.size = i * E.size + j by rw [Nat.add_mul, Nat.one_mul]; omega]
    exact row_get h hj
theorem putAt_app : ∀ (vs : List Value) (a b : List Value) (o : Nat), putAt (a ++ b) (a.length + o) vs = a ++ putAt b o vs
  | [], a, b, o => rfl
  | v :: vs, a, b, o => by
    rw [putAt, putAt, List.set_append_right _ _ (by omega), show a.length + o - a.length = o by omega, Nat.add_assoc, putAt_app vs a (b.set o v) (o + 1)]
theorem putAt_head : ∀ (vs a : List Value) (rest : List Value), vs.length = a.length → putAt (a ++ rest) 0 vs = vs ++ rest := by
  intro vs a rest h
  apply List.ext_getElem?
  intro i
  rw [putAt_get]
  by_cases hi : i < vs.length
  · rw [if_pos ⟨by omega, by omega, by simp; omega⟩, List.getElem?_append_left (by omega)]; simp
  · rw [if_neg (by omega), List.getElem?_append_right (by omega), List.getElem?_append_right (by omega), h]
theorem row_put {x : α} {rest : List Value} : ∀ {l : List α} {i : Nat}, i < l.length → putAt (E.row l ++ rest) (i * E.size) (E.enc x) = E.row (l.set i x) ++ rest
  | [], i, h => by simp at h
  | y :: l, 0, h => by
    rw [Nat.zero_mul, row_cons, List.set_cons_zero, row_cons, List.append_assoc, putAt_head _ _ _ (by rw [E.len, E.len]), List.append_assoc]
  | y :: l, i + 1, h => by
    rw [row_cons, List.set_cons_succ, row_cons, List.append_assoc, List.append_assoc, show (i + 1) * E.size = (E.enc y).length + i * E.size by rw [E.len, Nat.add_mul, Nat.one_mul]; omega, putAt_app, row_put (by simpa using h)]

/- a slice that can be read -/
def RowAt (E : Enc α) (S : Nat → Prop) (w : World) (a : Option Addr) (n : Nat) (l : List α) : Prop := n = l.length ∧ At S w a (E.row l)
section
variable {S S' : Nat → Prop} {w w' : World} {a : Option Addr} {n : Nat} {l : List α}
theorem RowAt.keep (h : RowAt E S w a n l) (hs : ∀ k, S k → k < w.heap.size → S' k ∧ w'.heap[k]? = w.heap[k]?) (hz : w.heap.size ≤ w'.heap.size) : RowAt E S' w' a n l := ⟨h.1, h.2.keep hs hz⟩
theorem RowAt.ext (h : RowAt E S w a n l) (he : Ext w w') : RowAt E S w' a n l := h.keep (fun k hk hl => ⟨hk, he.block k hl⟩) he.size
theorem RowAt.chg {T : Nat → Prop} (h : RowAt E S w a n l) (he : Chg T w w') (hd : ∀ k, S k → ¬ T k) : RowAt E S w' a n l := h.keep (fun k hk hl => ⟨hk, he.block k hl (hd k hk)⟩) he.size
theorem RowAt.imp (h : RowAt E S w a n l) (hs : ∀ k, S k → k < w.heap.size → S' k) : RowAt E S' w a n l := h.keep (fun k hk hl => ⟨hs k hk hl, rfl⟩) (Nat.le_refl _)
theorem RowAt.nil (a : Option Addr) : RowAt E S w a 0 [] := ⟨rfl, .inl rfl⟩
theorem RowAt.get (h : RowAt E S w a n l) {i : Nat} {x : α} (hi : l[i]? = some x) :
    ∃ b o, (∀ K : Addr → Prop, K ⟨b, o, none⟩ → idx a n (i : Int) E.size K) ∧ S b ∧ b < w.heap.size ∧ ∀ j v, (E.enc x)[j]? = some v → w.cell? ⟨b, o + j, none⟩ = some v := by
  have hlt := (List.getElem?_eq_some_iff.1 hi).1
  have hn := h.1
  rcases h.2 with h2 | ⟨b, o, rfl, hb, hbl, hc⟩
  · have := congrArg List.length h2
    rw [row_len] at this
    simp only [List.length_nil] at this
    rcases Nat.mul_eq_zero.1 this with h | h
    · omega
    · have := E.pos; omega
  refine ⟨b, o + i * E.size, fun K hK => ⟨by omega, by omega, ?_⟩, hb, hbl, fun j v hj => ?_⟩
  · show K _
    rw [add_none, Int.toNat_natCast]; exact hK
  · rw [Nat.add_assoc]
    refine hc _ _ ?_
    rw [row_get hi (by have := (List.getElem?_eq_some_iff.1 hj).1; rw [E.len] at this; exact this)]; exact hj
end

/- a slice that the call has made -/
abbrev OwnL (E : Enc α) (w : World) (B : Nat) (e : TypeId) (a : Option Addr) (n c : Nat) (l : List α) : Prop := Owns w B e E.size a n c (E.row l)
section
variable {w w' : World} {B : Nat} {e : TypeId} {a : Option Addr} {n c : Nat} {l : List α}
theorem OwnL.length (h : OwnL E w B e a n c l) : l.length = n := by
  have := h.len
  rw [row_len] at this
  exact Nat.eq_of_mul_eq_mul_right E.pos this
theorem OwnL.out (h : OwnL E w B e a n c l) : RowAt E (bk a) w a n l := by
  refine ⟨h.length.symm, ?_⟩
  by_cases hn : 0 < n
  · obtain ⟨g, rfl, hg, hc⟩ := h.cell hn
    exact .inr ⟨g, 0, rfl, by simp [bk], (h.bk (by simp [bk])).2, fun j v hj => by rw [Nat.zero_add]; exact hc j v hj⟩
  · have hx : l = [] := List.eq_nil_of_length_eq_zero (by rw [h.length]; omega)
    subst hx
    exact .inl rfl
theorem OwnL.push {P : Program} {t ty : TypeId} {bytes : Nat} {z : Value} (hT : SlT P t e E.size bytes z) (h : OwnL E w B e a n c l) (hB : B ≤ w.heap.size) (x : α) (hlen : n + 1 ≤ 4611686018427387904) (hbytes : (n + 1) * bytes ≤ 140737488355328) {K : Option Addr → Nat → Nat → World → Prop}
    (hk : ∀ a' c'' w', OwnL E w' B e a' (n + 1) c'' (l ++ [x]) → Chg (bk a) w w' → (∀ k, bk a' k → bk a k ∨ w.heap.size ≤ k) → K a' (n + 1) c'' w') :
    al w e (E.enc x) fun p w1 => app P [t, t] ty (.slice a n c) (.slice (some p) 1 1) w1 K :=
  app_one2 hT h hB _ (E.len x) (E.one x) hlen hbytes fun a' c'' w' ho hc hn => hk a' c'' w' (by unfold OwnL; rw [row_snoc]; exact ho) hc hn
/- writing one element -/
theorem OwnL.store (h : OwnL E w B e a n c l) {i : Nat} (hi : i < n) (x : α) :
    ∃ g, a = some ⟨g, 0, none⟩ ∧ (∀ K : Addr → Prop, K ⟨g, i * E.size, none⟩ → idx a n (i : Int) E.size K) ∧
      ∀ K : World → Prop, (∀ w', OwnL E w' B e a n c (l.set i x) → Chg (bk a) w w' → w'.heap.size = w.heap.size → K w') → stL w ⟨g, i * E.size, none⟩ 0 (E.enc x) K := by
  have hl := h.length
  rcases h.2 with h1 | ⟨g, cap, cur, e1, e2, e3, e4, e5, e6, e7⟩
  · omega
  obtain ⟨rfl, _, rfl⟩ : a = some ⟨g, 0, none⟩ ∧ True ∧ c = cap := by simpa using e1
  have hB : Blk w g cur.toList e := e3
  have hcl : cur.toList.length = c * E.size := by simpa using e6
  have hcur : cur.toList = E.row l ++ cur.toList.drop (n * E.size) := by rw [← e7, List.take_append_drop]
  have hin : i * E.size + E.size ≤ n * E.size := by
    have : (i + 1) * E.size ≤ n * E.size := Nat.mul_le_mul_right _ hi
    rwa [Nat.add_mul, Nat.one_mul] at this
  have hnc : n * E.size ≤ c * E.size := Nat.mul_le_mul_right _ e4
  refine ⟨g, rfl, fun K hK => ⟨by omega, by omega, ?_⟩, fun K hK => ?_⟩
  · show K _
    rw [add_none, Int.toNat_natCast, Nat.zero_add]; exact hK
  refine stL_blk hB (by rw [E.len]; omega) (E.one x) fun w' b1 b2 b3 b4 b5 b6 => ?_
  have hc : Chg (bk (some (⟨g, 0, none⟩ : Addr))) w w' := ⟨b4, b5, b6, by omega, fun k' _ hk => b2 k' fun e => hk (by simp [bk, e])⟩
  rw [Nat.add_zero, hcur, row_put (by omega)] at b1
  refine hK w' ⟨by rw [row_len, List.length_set, hl], .inr ⟨g, c, ⟨_⟩, rfl, e2, b1, e4, e5, ?_, ?_⟩⟩ hc b3
  · show (E.row (l.set i x) ++ cur.toList.drop (n * E.size)).length = c * E.size
    rw [List.length_append, List.length_drop, hcl, row_len, List.length_set, hl]; omega
  · show List.take (n * E.size) (E.row (l.set i x) ++ _) = _
    rw [List.take_append_of_le_length (by rw [row_len, List.length_set, hl]; exact Nat.le_refl _), List.take_of_length_le (by rw [row_len, List.length_set, hl]; exact Nat.le_refl _)]
end

/- making a row of zeros -/
theorem row_replicate (x : α) (n : Nat) : E.row (List.replicate n x) = (List.replicate n (E.enc x)).flatten := by
  induction n with
  | zero => rfl
  | succ n ih => rw [List.replicate_succ, row_cons, ih, List.replicate_succ, List.flatten_cons]
theorem OwnL.made {w : World} {b B : Nat} {e : TypeId} {x : α} {n : Nat} (h : Blk w b (List.replicate n (E.enc x)).flatten e) (hB : B ≤ b) (hn : n ≤ maxLen) : OwnL E w B e (some ⟨b, 0, none⟩) n n (List.replicate n x) := by
  rw [← row_replicate] at h
  refine ⟨by rw [row_len, List.length_replicate], .inr ⟨b, n, _, rfl, hB, h, Nat.le_refl _, hn, ?_, ?_⟩⟩
  · show (E.row (List.replicate n x)).length = n * E.size
    rw [row_len, List.length_replicate]
  · show List.take _ (E.row _) = _
    rw [List.take_of_length_le (by rw [row_len, List.length_replicate]; exact Nat.le_refl _)]
end

/- the elements that occur -/
def encI : Enc Int := ⟨fun i => [.int .i64 i], 1, fun _ => rfl, by decide, by intro x v hv; simp only [List.mem_singleton] at hv; subst hv; rfl⟩
def encStr : Enc (List UInt8) := ⟨fun s => [.string ⟨⟨s⟩⟩], 1, fun _ => rfl, by decide, by intro x v hv; simp only [List.mem_singleton] at hv; subst hv; rfl⟩
end Go.Sh
namespace Go.Proofs
open Go Go.Sh Go.RowKit

/- the lost characters -/
end Go.Proofs
namespace Go.Proofs
open Go Go.Sh Go.RowKit

/- the unclear characters -/
/- the reference -/
end Go.Proofs
namespace Go.Proofs
open Go Go.Sh Go.RowKit

/- positions -/
abbrev Ps := List UInt8 × Int
def posN (at_ : Ps) (x : Nn) : Ps × Nat :=
  if x.k = 1 then (at_, x.t.length) else if x.k = 6 then (at_, x.n.toNat) else if x.k = 3 then ((x.t, 0), 0) else if x.k = 2 then ((at_.1, at_.2 + 1), 0) else (at_, 0)
def endL : Ps → List Nn → Ps
  | p, [] => p
  | p, x :: l => endL (posN p x).1 l
theorem endL_app : ∀ (l : List Nn) (p : Ps) (m : List Nn), endL p (l ++ m) = endL (endL p l) m
  | [], _, _ => rfl
  | x :: l, p, m => by simp only [List.cons_append, endL, endL_app l]
theorem endL_bd : ∀ (l : List Nn) (p : Ps) (B : Int), 0 ≤ p.2 → p.2 ≤ B → 0 ≤ B → 0 ≤ (endL p l).2 ∧ (endL p l).2 ≤ B + l.length
  | [], p, B, h0, h1, h2 => ⟨h0, by simp [endL]; omega⟩
  | x :: l, p, B, h0, h1, h2 => by
    rw [endL]
    have key : 0 ≤ (posN p x).1.2 ∧ (posN p x).1.2 ≤ B + 1 := by
      unfold posN
      split
      · exact ⟨h0, by show p.2 ≤ _; omega⟩
      · split
        · exact ⟨h0, by show p.2 ≤ _; omega⟩
        · split
          · exact ⟨Int.le_refl _, by show (0 : Int) ≤ _; omega⟩
          · split
            · exact ⟨by show 0 ≤ p.2 + 1; omega, by show p.2 + 1 ≤ _; omega⟩
            · exact ⟨h0, by show p.2 ≤ _; omega⟩
    have := endL_bd l (posN p x).1 (B + 1) key.1 key.2 (by omega)
    exact ⟨this.1, by simp only [List.length_cons]; omega⟩

structure PTo (b6 b10 : Nat) (oa : Option Addr) (W : World) (oa' : Option Addr) (W' : World) : Prop where
  chg : Chg (fun j => j = b6 ∨ j = b10 ∨ bk oa j) W W'
  bk : ∀ k, Sh.bk oa' k → Sh.bk oa k ∨ W.heap.size ≤ k
section
variable {b6 b10 B : Nat} {W W' W'' : World} {oa oa' oa'' : Option Addr} {L : List Ps} {p : Ps}
theorem PTo.refl (W : World) (oa : Option Addr) : PTo b6 b10 oa W oa W := ⟨Chg.refl _ _, fun _ h => .inl h⟩
theorem PTo.trans (h6 : b6 < W.heap.size) (h10 : b10 < W.heap.size) (h : PTo b6 b10 oa W oa' W') (k : PTo b6 b10 oa' W' oa'' W'') : PTo b6 b10 oa W oa'' W'' :=
  ⟨chg_then h.chg k.chg fun i hi hh => hh.elim .inl fun hh => hh.elim (fun e => .inr (.inl e)) fun hh => (h.bk i hh).elim (fun e => .inr (.inr e)) (fun e => by omega),
   fun j hj => (k.bk j hj).elim (h.bk j) (fun e => .inr (Nat.le_trans h.chg.size e))⟩
theorem PTo.ext (h : Ext W W') : PTo b6 b10 oa W oa W' := ⟨Chg.of_ext h, fun _ h => .inl h⟩
end

end Go.Proofs
namespace Go.Proofs
open Go Go.Sh Go.RowKit

theorem blk2 {w : World} {b : Nat} {v0 v1 : Value} {T : TypeId} (h : Blk w b [v0, v1] T) : w.cell? ((⟨b, 0, none⟩ : Addr).add 0) = some v0 ∧ w.cell? ((⟨b, 0, none⟩ : Addr).add 1) = some v1 := by
  simp only [add_none, h.cell]; exact ⟨rfl, rfl⟩

end Go.Proofs
namespace Go.Proofs
open Go Go.Sh Go.RowKit

/- rows of successive equal positions -/
/- where rows begin -/
/- characters within words -/
end Go.Proofs
namespace Go.Proofs
open Go Go.Sh Go.RowKit

end Go.Proofs
namespace Go.Proofs
open Go Go.Sh Go.RowKit

/- Positions -/
/- the example of the chapter -/
end Go.Proofs
namespace Go.Proofs
open Go Go.Sh Go.RowKit

/- whether a node of one of two kinds stands in a list -/
/- without pages and lines all stands at one place -/
end Go.Proofs
namespace Go.Proofs
open Go Go.Sh Go.RowKit

end Go.Proofs
namespace Go.Proofs
open Go Go.Sh Go.RowKit

/- where the characters of a position stand -/
end Go.Proofs
namespace Go.Proofs
open Go Go.Sh Go.RowKit

/- the characters of a position -/
end Go.Proofs
namespace Go.Proofs
open Go Go.Sh Go.RowKit

end Go.Proofs
namespace Go.Proofs
open Go Go.Sh Go.RowKit

/- growing the nil slice: room is made, nothing is held -/
end Go.Proofs
namespace Go.Proofs
open Go Go.Sh Go.RowKit

theorem slA_zero (b c s : Nat) : slA (some ⟨b, 0, none⟩) c 0 s = some ⟨b, 0, none⟩ := by
  unfold slA; split <;> simp [Addr.add]
end Go.Proofs
namespace Go.Proofs
open Go Go.Sh Go.RowKit

end Go.Proofs
namespace Go.Proofs
open Go Go.Sh Go.RowKit

/- names of pages -/
end Go.Proofs
namespace Go.Proofs
open Go Go.Sh Go.RowKit

/- two lists with a verse between them -/
end Go.Proofs
namespace Go.Proofs
open Go Go.Sh Go.RowKit

end Go.Proofs
namespace Go.Sh
open Go Go.RowKit
open Go.WideElems (Fit)
open Go.Maps (Keyed)

/- a map that stands in a block, as a partial function of keys -/
def anyV : Value → Option (DataW Unit × List MemPlace) := fun _ => some (.nil, [])
def MapT {K V : Type} (P : Program) (k : TypeId) (eK : K → Value) (eV : V → Value) (w : World) (b n : Nat) (f : K → Option V) : Prop :=
  ∃ es clock, w.heap[b]? = some (.map es clock) ∧ Fit P k anyV es clock ∧ es.size ≤ n ∧
    ∀ x, (f x = none ∧ ∀ e ∈ es.toList, e.key ≠ eK x) ∨ ∃ v, f x = some v ∧ ∃ e ∈ es.toList, e.key = eK x ∧ e.val = eV v

section
variable {K V : Type} {P : Program} {k t e : TypeId} {eK : K → Value} {eV : V → Value} {w w' : World} {b n : Nat} {f : K → Option V}
theorem MapT.made (w : World) : MapT P k eK eV (w.alloc (.map #[] 0)) w.heap.size 0 (fun _ => none) :=
  ⟨#[], 0, (MapKept.heap_alloc w _).1, ⟨by simp, MapKept.stamped_empty 0, by simp⟩, Nat.le_refl _, fun x => .inl ⟨rfl, by simp⟩⟩
theorem MapT.lt (h : MapT P k eK eV w b n f) : b < w.heap.size := by
  obtain ⟨es, clock, hb, _⟩ := h
  exact (Array.getElem?_eq_some_iff.1 hb).1
theorem MapT.keep (h : MapT P k eK eV w b n f) (hw : w'.heap[b]? = w.heap[b]?) : MapT P k eK eV w' b n f := by
  obtain ⟨es, clock, hb, h⟩ := h
  exact ⟨es, clock, hw.trans hb, h⟩
theorem MapT.ext (h : MapT P k eK eV w b n f) (hw : Ext w w') : MapT P k eK eV w' b n f := h.keep (hw.block b h.lt)
theorem MapT.chg {S : Nat → Prop} (h : MapT P k eK eV w b n f) (hw : Chg S w w') (hs : ¬ S b) : MapT P k eK eV w' b n f := h.keep (hw.block b h.lt hs)
theorem MapT.mono (h : MapT P k eK eV w b n f) {m : Nat} (hm : n ≤ m) : MapT P k eK eV w b m f := by
  obtain ⟨es, clock, hb, F, hs, h⟩ := h
  exact ⟨es, clock, hb, F, Nat.le_trans hs hm, h⟩
theorem MapT.congr {g : K → Option V} (h : MapT P k eK eV w b n f) (hg : ∀ x, f x = g x) : MapT P k eK eV w b n g := by
  rw [← (funext hg : f = g)]; exact h

theorem MapT.look (h : MapT P k eK eV w b n f) (Kd : Keyed P k) (ht : P.underlying t = some (.map k e)) {z : Value} (hz : (zeroValue e).run P w = .ok z w) {x : K} {kl : Lit} (hkey : keyOf P k (eK x) = some kl) :
    lkAt P t (.map (some b)) (eK x) w (((f x).map eV).getD z) := by
  obtain ⟨es, clock, hb, F, _, hf⟩ := h
  unfold lkAt
  rcases Maps.fit_look false Kd ht hz hb F hkey with ⟨hrun, hno, _⟩ | ⟨e0, y, h1, h2, hrun, _⟩
  · rcases hf x with ⟨h0, _⟩ | ⟨v, _, e1, he1, hk1, _⟩
    · rw [h0]; exact hrun
    · exact absurd hk1 (hno e1 he1)
  · rcases hf x with ⟨_, h0⟩ | ⟨v, hv, e1, he1, hk1, hv1⟩
    · exact absurd h2 (h0 e0 h1)
    · rw [hv]
      have : e0 = e1 := by
        have hn : es.toList.Pairwise (fun x y => x.key ≠ y.key) := ((MapKept.stamped_iff es clock).1 F.stamped).2.2
        obtain ⟨i, hi, rfl⟩ := List.getElem_of_mem h1
        obtain ⟨j, hj, rfl⟩ := List.getElem_of_mem he1
        have : i = j := by
          apply Classical.byContradiction
          intro hne
          rcases Nat.lt_or_gt_of_ne hne with hl | hl
          · exact List.pairwise_iff_getElem.1 hn i j hi hj hl (h2.trans hk1.symm)
          · exact List.pairwise_iff_getElem.1 hn j i hj hi hl (hk1.trans h2.symm)
        subst this; rfl
      subst this
      rw [hv1] at hrun
      simpa using hrun
end
end Go.Sh
namespace Go.Proofs
open Go Go.Sh Go.RowKit

/- collect: calling a function with each node of a kind -/
def ofK (kind : Int) (f : Fo) : List Nn := (nodesF f).filter fun x => decide (x.k = kind)
theorem ofK_cons (kind : Int) (k t n) (ps r : Fo) : ofK kind (.cons k t n ps r) = (if k = kind then [⟨k, t, n, ps⟩] else []) ++ (ofK kind ps ++ ofK kind r) := by
  unfold ofK
  rw [nodesF, List.filter_cons, List.filter_append]
  by_cases h : k = kind
  · simp [h]
  · simp [h]
/- Pages -/
theorem zero_run {P : Program} {T : TypeId} {v : Value} (h : (P.info? T).bind (·.zero) = some v) (w : World) : (zeroValue T).run P w = .ok v w := by
  cases hi : P.info? T with
  | none => rw [hi] at h; cases h
  | some i =>
    rw [hi] at h
    have hz : i.zero = some v := h
    simp [zeroValue, typeInfo, hi, hz]

end Go.Proofs
namespace Go.Proofs
open Go Go.Sh Go.RowKit

/- what is written -/
/- Written -/
/- the reference: the same, where nodes of texts and gaps have no parts -/
end Go.Proofs
namespace Go.Proofs
open Go Go.Sh Go.RowKit

abbrev Rw := List UInt8 × List UInt8
def encRw : Enc Rw := ⟨fun x => [.string ⟨⟨x.1⟩⟩, .string ⟨⟨x.2⟩⟩], 2, fun _ => rfl, by decide, by intro x v hv; simp only [List.mem_cons, List.not_mem_nil, or_false] at hv; rcases hv with rfl | rfl <;> rfl⟩
end Go.Proofs
namespace Go.Proofs
open Go Go.Sh Go.RowKit

/- slices of strings and of pairs, out of what a row says of the arguments -/
theorem row_build {α : Type} {E : Enc α} {w : World} {a : Addr} {len : Nat} (hel : ∀ i, i < len → ∃ x : α, ∀ j v, (E.enc x)[j]? = some v → w.cell? ((a.add (i * E.size)).add j) = some v) :
    ∃ L : List α, RowAt E (fun _ => True) w (some a) len L := by
  by_cases hl0 : len = 0
  · subst hl0; exact ⟨[], RowAt.nil _⟩
  obtain ⟨b, o, rfl⟩ : ∃ b o, a = ⟨b, o, none⟩ := by
    obtain ⟨x, hx⟩ := hel 0 (by omega)
    have hp := E.pos
    have h0 := hx 0 _ (List.getElem?_eq_getElem (by rw [E.len]; exact hp))
    obtain ⟨b, o, spot⟩ := a
    have hspot : spot = none := by simpa [Addr.add] using World.cell?_spot h0
    subst hspot
    exact ⟨b, o, rfl⟩
  have build : ∀ k, k ≤ len → ∃ L : List α, L.length = k ∧ ∀ j v, (E.row L)[j]? = some v → w.cell? ((⟨b, o, none⟩ : Addr).add j) = some v := by
    intro k
    induction k with
    | zero => exact fun _ => ⟨[], rfl, fun j v hj => by simp at hj⟩
    | succ k ihk =>
      intro hk
      obtain ⟨L, hL, hus⟩ := ihk (by omega)
      obtain ⟨x, hx⟩ := hel k (by omega)
      refine ⟨L ++ [x], by simp [hL], fun j v hj => ?_⟩
      rw [row_snoc] at hj
      by_cases hlt : j < (E.row L).length
      · rw [List.getElem?_append_left hlt] at hj
        exact hus j v hj
      · rw [List.getElem?_append_right (by omega)] at hj
        have := hx _ _ hj
        rw [add_none, add_none] at this
        rw [row_len, hL] at this hlt
        rw [add_none, show o + j = o + k * E.size + (j - k * E.size) by omega]
        exact this
  obtain ⟨L, hL, hus⟩ := build len (Nat.le_refl _)
  refine ⟨L, hL.symm, ?_⟩
  cases hr : E.row L with
  | nil => exact .inl rfl
  | cons u us =>
    rw [hr] at hus
    have h0 := hus 0 u rfl
    refine .inr ⟨b, o, rfl, trivial, ?_, fun j v hj => ?_⟩
    · have := World.block_lt_of_cell? w _ h0
      simpa [Addr.add] using this
    · have := hus j v hj
      rw [add_none] at this; exact this
theorem len2 {α : Type} {l : List α} (h : l.length = 2) : ∃ a b, l = [a, b] := by
  match l, h with
  | [a, b], _ => exact ⟨a, b, rfl⟩
end Go.Proofs
namespace Go.Proofs
open Go Go.Sh Go.RowKit

/- lexemes -/
structure Lx where
  k : Int
  nm : List UInt8
  vl : List UInt8
  pos : Int
def innF (nm vl : List UInt8) : List UInt8 := if vl ≠ [] then nm ++ ([32] ++ vl) else nm
def textF (x : Lx) : List UInt8 :=
  if x.k = 2 then ([60] ++ innF x.nm x.vl) ++ [62] else if x.k = 3 then ([60, 47] ++ innF x.nm x.vl) ++ [62] else if x.k = 4 then ([60] ++ innF x.nm x.vl) ++ [47, 62] else x.vl
end Go.Proofs
namespace Go.Proofs
open Go Go.Sh Go.RowKit

end Go.Proofs
namespace Go.Proofs
open Go Go.Sh Go.RowKit

/- the parts of a string: characters up to the next <, and what stands from < to the next > -/
def cutX (t : List UInt8) : Nat :=
  if t.head? = some 60 then (if 0 ≤ Lib.indexByte t 62 then (Lib.indexByte t 62).toNat + 1 else t.length)
  else if 0 ≤ Lib.indexByte t 60 then (Lib.indexByte t 60).toNat else t.length
theorem cutX_bd {c : UInt8} {r : List UInt8} : 1 ≤ cutX (c :: r) ∧ cutX (c :: r) ≤ (c :: r).length := by
  have lt : ∀ {x : UInt8}, 0 ≤ Lib.indexByte (c :: r) x → (Lib.indexByte (c :: r) x).toNat < (c :: r).length := fun {x} hx => by
    obtain ⟨h1, _⟩ := Lib.indexByte_some (l := c :: r) (c := x) (o := (Lib.indexByte (c :: r) x).toNat) (by omega)
    exact (List.getElem?_eq_some_iff.1 h1).1
  unfold cutX
  split
  · split
    · rename_i h; have := lt h; omega
    · simp
  · rename_i hc
    split
    · rename_i h
      have := lt h
      obtain ⟨h1, _⟩ := Lib.indexByte_some (l := c :: r) (c := 60) (o := (Lib.indexByte (c :: r) 60).toNat) (by omega)
      refine ⟨?_, by omega⟩
      apply Classical.byContradiction
      intro h0
      have : (Lib.indexByte (c :: r) 60).toNat = 0 := by omega
      rw [this] at h1
      simp at h1 hc
      exact hc h1
    · simp
def partsM : List UInt8 → Nat → List (Nat × List UInt8)
  | [], _ => []
  | c :: r, at_ => (at_, (c :: r).take (cutX (c :: r))) :: partsM ((c :: r).drop (cutX (c :: r))) (at_ + cutX (c :: r))
  termination_by t => t.length
  decreasing_by
    have := cutX_bd (c := c) (r := r)
    rw [List.length_drop]; omega
end Go.Proofs
namespace Go.Proofs
open Go Go.Sh Go.RowKit

end Go.Proofs
namespace Go.Proofs
open Go Go.Sh Go.RowKit

/- the tags: name, whether it is empty, the function of its value -/
end Go.Proofs
namespace Go.Proofs
open Go Go.Sh Go.RowKit

end Go.Proofs
namespace Go.Proofs
open Go Go.Sh Go.RowKit

/- numbers from 1 to most -/
def numV (most : Nat) (s : List UInt8) : Bool := (List.range most).any fun i => decide (Lib.decDigits (i + 1) = s)
theorem atoi_dec : ∀ i : Nat, i < 64 → Lib.atoiAll (Lib.decDigits (i + 1)) = .ok ((i + 1 : Nat) : Int) := by decide +kernel
theorem dec_dig : ∀ i : Nat, i < 64 → (Lib.decDigits (i + 1)).all (fun c => decide (kd c = 3)) = true := by decide +kernel
theorem numV_iff {most : Nat} (hm : most ≤ 64) (s : List UInt8) : numV most s = true ↔ ∃ n : Nat, Lib.atoiAll s = .ok (n : Int) ∧ 1 ≤ n ∧ n ≤ most ∧ Lib.decDigits n = s := by
  unfold numV
  rw [List.any_eq_true]
  constructor
  · rintro ⟨i, hi, h⟩
    have hi := List.mem_range.1 hi
    have h := of_decide_eq_true h
    exact ⟨i + 1, by rw [← h]; exact atoi_dec i (by omega), by omega, by omega, h⟩
  · rintro ⟨n, _, h1, h2, h⟩
    exact ⟨n - 1, List.mem_range.2 (by omega), by rw [show n - 1 + 1 = n by omega]; exact decide_eq_true h⟩
theorem numV_dig {most : Nat} (hm : most ≤ 64) {s : List UInt8} (h : numV most s = true) : ∀ c ∈ s, kd c = 3 := by
  obtain ⟨n, _, h1, h2, rfl⟩ := (numV_iff hm s).1 h
  have := dec_dig (n - 1) (by omega)
  rw [show n - 1 + 1 = n by omega] at this
  intro c hc
  exact of_decide_eq_true (List.all_eq_true.1 this c hc)
/- the reference's reading of a number -/
/- the tags' names, forms and values -/
def tagNames : List (List UInt8) := [[97, 98], [97, 100, 100], [100, 101, 108], [103, 97, 112], [108, 98], [110, 97, 109, 101], [112, 98], [115, 101, 99], [117, 110, 99, 108, 101, 97, 114], [118]]
def knownB (nm : List UInt8) : Bool := decide (nm ∈ tagNames)
def emptyB (nm : List UInt8) : Bool := decide (nm ∈ [[108, 98], [118], [112, 98], [115, 101, 99], [103, 97, 112]])
def valB (nm vl : List UInt8) : Bool :=
  if nm = [108, 98] ∨ nm = [118] ∨ nm = [117, 110, 99, 108, 101, 97, 114] then decide (vl = []) else if nm = [103, 97, 112] then numV 64 vl
  else if nm = [97, 100, 100] ∨ nm = [100, 101, 108] then numV 8 vl else if nm = [97, 98] then isWordF vl else isNameF vl
theorem known_cases {nm : List UInt8} {C : List UInt8 → Prop} (h : knownB nm = true) (hc : ∀ x ∈ tagNames, C x) : C nm := hc nm (of_decide_eq_true h)
/- what stands in values -/
theorem word_kd {v : List UInt8} (h : isWordF v = true) : ∀ c ∈ v, kd c ≠ 0 ∧ kd c ≤ 4 := by
  unfold isWordF at h
  simp only [Bool.and_eq_true, decide_eq_true_eq, List.all_eq_true] at h
  obtain ⟨⟨⟨⟨_, h2⟩, h3⟩, _⟩, h5⟩ := h
  rw [checkC_eq, if_neg (by omega)] at h3
  intro c hc
  refine ⟨?_, h5 c hc⟩
  by_cases ho : okChars v = true
  · obtain ⟨j, hj, rfl⟩ := List.mem_iff_getElem.1 hc
    have := List.all_eq_true.1 ho j (List.mem_range.2 hj)
    unfold okAt at this
    have hk := kA_eq hj
    intro h0
    rw [← hk, h0] at this
    simp at this
  · rw [if_neg ho] at h3; cases h3
theorem name_kd {v : List UInt8} (h : isNameF v = true) : ∀ c ∈ v, kd c ≠ 0 ∧ kd c ≤ 4 := by
  unfold isNameF at h
  simp only [Bool.and_eq_true, decide_eq_true_eq] at h
  intro c hc
  rcases lettersF_all h.2 c hc with h | h <;> rw [h] <;> decide
theorem val_kd {nm v : List UInt8} (h : valB nm v = true) : ∀ c ∈ v, kd c ≠ 0 ∧ kd c ≤ 4 := by
  unfold valB at h
  repeat' split at h
  · intro c hc; rw [of_decide_eq_true h] at hc; cases hc
  · intro c hc; rw [numV_dig (by omega) h c hc]; decide
  · intro c hc; rw [numV_dig (by omega) h c hc]; decide
  · exact word_kd h
  · exact name_kd h
theorem kd_bad {c : UInt8} (h : kd c ≠ 0 ∧ kd c ≤ 4) : c ≠ 32 ∧ c ≠ 47 ∧ c ≠ 60 ∧ c ≠ 62 := by
  refine ⟨?_, ?_, ?_, ?_⟩ <;> rintro rfl <;> revert h <;> decide
theorem kd_ok {c : UInt8} (h : kd c ≠ 0) : c ≠ 47 ∧ c ≠ 60 ∧ c ≠ 62 := by
  refine ⟨?_, ?_, ?_⟩ <;> rintro rfl <;> revert h <;> decide
theorem nm_bad {nm : List UInt8} (h : knownB nm = true) : nm ≠ [] ∧ nm.length ≤ 7 ∧ ∀ c ∈ nm, c ≠ 32 ∧ c ≠ 47 ∧ c ≠ 60 ∧ c ≠ 62 :=
  known_cases (C := fun nm => nm ≠ [] ∧ nm.length ≤ 7 ∧ ∀ c ∈ nm, c ≠ 32 ∧ c ≠ 47 ∧ c ≠ 60 ∧ c ≠ 62) h (by decide)
end Go.Proofs
namespace Go.Proofs
open Go Go.Sh Go.RowKit

/- reading a tag -/
def nameF (t : List UInt8) : List UInt8 := t.takeWhile fun c => !(c == 32 || c == 47)
def innerF (part : List UInt8) : List UInt8 := (part.take (part.length - 1)).drop 1
def tailF : List UInt8 → List UInt8
  | [] => []
  | c :: r => if c = 32 then r.takeWhile (fun c => !(c == 47)) else []
def valueF (inner nm : List UInt8) : List UInt8 := tailF (inner.drop nm.length)
def valueP (inner : List UInt8) : List UInt8 := (Lib.cut (Lib.trimSuffix inner [47]) [32]).2.1
def zeroX : Lx := ⟨0, [], [], 0⟩
def tagX (nm vl : List UInt8) : Lx := ⟨if emptyB nm = true then 4 else 2, nm, vl, 0⟩
def accX (part nm vl : List UInt8) : Lx × Int := if valB nm vl = true ∧ textF (tagX nm vl) = part then (tagX nm vl, 0) else (zeroX, 3)
def readF (part : List UInt8) : Lx × Int :=
  if (innerF part).head? = some 47 then
    (if knownB (nameF ((innerF part).drop 1)) = false then (zeroX, 12)
     else if emptyB (nameF ((innerF part).drop 1)) = false ∧ [60, 47] ++ nameF ((innerF part).drop 1) ++ [62] = part then (⟨3, nameF ((innerF part).drop 1), [], 0⟩, 0) else (zeroX, 3))
  else (if knownB (nameF (innerF part)) = false then (zeroX, 12) else accX part (nameF (innerF part)) (valueF (innerF part) (nameF (innerF part))))
theorem inner_two (m : List UInt8) : innerF (60 :: (m ++ [62])) = m := by
  unfold innerF
  rw [show (60 :: (m ++ [62]) : List UInt8).length - 1 = (60 :: m : List UInt8).length by simp, show (60 :: (m ++ [62]) : List UInt8) = (60 :: m) ++ [62] by simp, List.take_left]
  rfl
theorem index_none : ∀ {l : List UInt8} {c : UInt8}, c ∉ l → Lib.index l [c] = -1
  | [], _, _ => rfl
  | b :: l, c, h => by
    rw [Lib.index, index_none (fun hh => h (List.mem_cons_of_mem _ hh))]
    have : ¬ c = b := fun e => h (by rw [e]; exact List.mem_cons_self)
    simp [this]
theorem index_at : ∀ {l r : List UInt8} {c : UInt8}, c ∉ l → Lib.index (l ++ c :: r) [c] = (l.length : Int)
  | [], r, c, _ => by rw [List.nil_append, Lib.index]; simp
  | b :: l, r, c, h => by
    rw [List.cons_append, Lib.index, index_at (fun hh => h (List.mem_cons_of_mem _ hh))]
    have : ¬ c = b := fun e => h (by rw [e]; exact List.mem_cons_self)
    have h2 : ¬ ((l.length : Int) = -1) := by omega
    simp [this, h2]
theorem inn_chars {nm v : List UInt8} (hn : ∀ c ∈ nm, c ≠ 32 ∧ c ≠ 47 ∧ c ≠ 60 ∧ c ≠ 62) (hv : ∀ c ∈ v, c ≠ 32 ∧ c ≠ 47 ∧ c ≠ 60 ∧ c ≠ 62) : ∀ c ∈ innF nm v, c ≠ 47 ∧ c ≠ 60 ∧ c ≠ 62 := by
  intro c hc
  unfold innF at hc
  split at hc
  · simp only [List.mem_append, List.mem_cons, List.not_mem_nil, or_false] at hc
    rcases hc with h | rfl | h
    · exact (hn c h).2
    · decide
    · exact (hv c h).2
  · exact (hn c hc).2
theorem cut_inn {nm v : List UInt8} (hn : ∀ c ∈ nm, c ≠ 32 ∧ c ≠ 47 ∧ c ≠ 60 ∧ c ≠ 62) : (Lib.cut (innF nm v) [32]).2.1 = v := by
  have h32 : (32 : UInt8) ∉ nm := fun h => (hn 32 h).1 rfl
  unfold Lib.cut innF
  by_cases hv : v = []
  · subst hv
    have e : (if ([] : List UInt8) ≠ [] then nm ++ ([32] ++ []) else nm) = nm := if_neg (by simp)
    rw [e, index_none h32]
    rfl
  · rw [if_pos hv, List.singleton_append, index_at h32, if_pos (by omega)]
    show List.drop ((nm.length : Int).toNat + 1) (nm ++ 32 :: v) = v
    rw [Int.toNat_natCast, ← List.drop_drop, List.drop_left]
    rfl
theorem no_suffix {m : List UInt8} (h : ∀ c ∈ m, c ≠ 47 ∧ c ≠ 60 ∧ c ≠ 62) : Lib.trimSuffix m [47] = m := by
  unfold Lib.trimSuffix Lib.hasSuffix
  rw [if_neg]
  intro hs
  obtain ⟨t, ht⟩ := List.isSuffixOf_iff_suffix.1 hs
  exact (h 47 (by rw [← ht]; simp)).1 rfl
theorem one_suffix (m : List UInt8) : Lib.trimSuffix (m ++ [47]) [47] = m := by
  unfold Lib.trimSuffix Lib.hasSuffix
  rw [if_pos (List.isSuffixOf_iff_suffix.2 ⟨m, rfl⟩)]
  simp
theorem tail_inn {nm v t : List UInt8} (hv : ∀ c ∈ v, c ≠ 32 ∧ c ≠ 47 ∧ c ≠ 60 ∧ c ≠ 62) (ht : t = [] ∨ t = [47]) : valueF (innF nm v ++ t) nm = v := by
  unfold valueF innF
  by_cases h : v = []
  · subst h
    rw [if_neg (by simp), List.drop_left]
    rcases ht with rfl | rfl <;> rfl
  · rw [if_pos h, List.append_assoc, List.drop_left]
    show tailF (32 :: (v ++ t)) = v
    rw [tailF, if_pos rfl]
    have hh : ∀ c ∈ v, (!(c == 47)) = true := fun c hc => by simpa using (hv c hc).2.1
    rw [List.takeWhile_append_of_pos hh]
    rcases ht with rfl | rfl <;> simp
theorem val_key {part nm v : List UInt8} (hn : knownB nm = true) (hv : valB nm v = true) (hp : textF (tagX nm v) = part) : valueP (innerF part) = v ∧ valueF (innerF part) nm = v := by
  obtain ⟨_, _, hc⟩ := nm_bad hn
  have hvc : ∀ c ∈ v, c ≠ 32 ∧ c ≠ 47 ∧ c ≠ 60 ∧ c ≠ 62 := fun c h => kd_bad (val_kd hv c h)
  have hin := inn_chars hc hvc
  subst hp
  unfold tagX textF
  by_cases he : emptyB nm = true
  · simp only [he, if_true]
    rw [if_neg (by decide), if_neg (by decide)]
    have e : ([60] ++ innF nm v ++ [47, 62] : List UInt8) = 60 :: ((innF nm v ++ [47]) ++ [62]) := by simp
    rw [e, inner_two]
    exact ⟨by unfold valueP; rw [one_suffix, cut_inn hc], tail_inn hvc (.inr rfl)⟩
  · simp only [he]
    rw [if_pos (by rfl)]
    have e : ([60] ++ innF nm v ++ [62] : List UInt8) = 60 :: (innF nm v ++ [62]) := by simp
    rw [e, inner_two]
    refine ⟨by unfold valueP; rw [no_suffix hin, cut_inn hc], ?_⟩
    have := tail_inn (nm := nm) hvc (.inl rfl)
    rwa [List.append_nil] at this
/- the first of the bytes space and slash -/
/- the lexeme of a part -/
def lexP (at_ : Nat) (part : List UInt8) : Lx × Int :=
  if part.head? ≠ some 60 then (if checkC part = 0 then (⟨1, [], part, at_⟩, 0) else (zeroX, 11))
  else if part.getLast? ≠ some 62 then (zeroX, 3)
  else if (readF part).2 = 0 then ({ (readF part).1 with pos := at_ }, 0) else (zeroX, (readF part).2)
def scanL : List (Nat × List UInt8) → List Lx × Int
  | [] => ([], 0)
  | p :: r => if (lexP p.1 p.2).2 = 0 then (if (scanL r).2 = 0 then ((lexP p.1 p.2).1 :: (scanL r).1, 0) else ([], (scanL r).2)) else ([], (lexP p.1 p.2).2)
def scanF (s : List UInt8) : List Lx × Int := if 65536 < s.length then ([], 4) else scanL (partsM s 0)
/- why lexemes are not valid -/
def singleX (x : Lx) : Int :=
  if x.k = 1 then (if x.nm ≠ [] then 12 else if x.vl = [] then 5 else if checkC x.vl ≠ 0 then 11 else 0)
  else if x.k = 2 ∨ x.k = 3 ∨ x.k = 4 then (if knownB x.nm = true ∧ emptyB x.nm = decide (x.k = 4) then 0 else 12) else 8
def rightX (x : Lx) : Bool := if x.k = 3 then decide (x.vl = []) else valB x.nm x.vl
def chkOne (x : Lx) (pt : Bool) (at_ : Int) : Int :=
  if singleX x ≠ 0 then singleX x else if x.k = 1 ∧ pt = true then 10 else if x.k ≠ 1 ∧ rightX x = false then 3 else if x.pos ≠ at_ then 9 else 0
def chkGo : List Lx → Bool → Nat → Int
  | [], _, at_ => if 65536 < at_ then 4 else 0
  | x :: r, pt, at_ => if chkOne x pt at_ ≠ 0 then chkOne x pt at_ else chkGo r (decide (x.k = 1)) (at_ + (textF x).length)
def chkX (l : List Lx) : Int := chkGo l false 0
def printX (l : List Lx) : List UInt8 := l.flatMap textF
/- the lexeme at an offset -/
end Go.Proofs
namespace Go.Proofs
open Go Go.Sh Go.RowKit

/- what is read is what stands there -/
theorem read_ok {part : List UInt8} {x : Lx} (h : readF part = (x, 0)) : textF x = part ∧ x.pos = 0 ∧ x.k ≠ 1 ∧ singleX x = 0 ∧ rightX x = true := by
  unfold readF at h
  split at h
  · split at h
    · exact absurd (Prod.mk.inj h).2 (by decide)
    · rename_i hk
      split at h
      · rename_i hh
        obtain rfl := (Prod.mk.inj h).1
        have hk : knownB (nameF (List.drop 1 (innerF part))) = true := by simpa using hk
        refine ⟨?_, rfl, by show (3 : Int) ≠ 1; decide, ?_, ?_⟩
        · exact Eq.trans rfl hh.2
        · unfold singleX
          rw [if_neg (by simp), if_pos (.inr (.inl rfl)), if_pos ⟨hk, by rw [hh.1]; rfl⟩]
        · rfl
      · exact absurd (Prod.mk.inj h).2 (by decide)
  · split at h
    · exact absurd (Prod.mk.inj h).2 (by decide)
    · rename_i hk
      have hk : knownB (nameF (innerF part)) = true := by simpa using hk
      unfold accX at h
      split at h
      · rename_i hh
        obtain rfl := (Prod.mk.inj h).1
        refine ⟨hh.2, rfl, ?_, ?_, ?_⟩
        · unfold tagX; split <;> simp
        · unfold singleX tagX
          by_cases he : emptyB (nameF (innerF part)) = true
          · rw [if_pos he, if_neg (by simp), if_pos (.inr (.inr rfl)), if_pos ⟨hk, by rw [he]; rfl⟩]
          · rw [if_neg he, if_neg (by simp), if_pos (.inl rfl), if_pos ⟨hk, by simpa using he⟩]
        · unfold rightX
          rw [if_neg (by unfold tagX; split <;> simp)]
          exact hh.1
      · exact absurd (Prod.mk.inj h).2 (by decide)
theorem lex_ok {at_ : Nat} {part : List UInt8} {x : Lx} (hne : part ≠ []) (hl : part.length ≤ 65536) (h : lexP at_ part = (x, 0)) :
    textF x = part ∧ x.pos = at_ ∧ (x.k = 1 ↔ part.head? ≠ some 60) ∧ singleX x = 0 ∧ (x.k ≠ 1 → rightX x = true) := by
  unfold lexP at h
  split at h
  · rename_i hp
    split at h
    · rename_i hc
      obtain rfl := (Prod.mk.inj h).1
      refine ⟨rfl, rfl, iff_of_true rfl hp, ?_, fun h => absurd rfl h⟩
      unfold singleX
      rw [if_pos rfl, if_neg (by simp), if_neg hne, if_neg (by simpa using hc)]
    · exact absurd (Prod.mk.inj h).2 (by decide)
  · rename_i hp
    split at h
    · exact absurd (Prod.mk.inj h).2 (by decide)
    · split at h
      · rename_i h0
        obtain rfl := (Prod.mk.inj h).1
        obtain ⟨r1, r2, r3, r4, r5⟩ := read_ok (part := part) (x := (readF part).1) (by rw [← h0])
        exact ⟨r1, rfl, iff_of_false r3 (by simpa using hp), r4, fun _ => r5⟩
      · rename_i h0
        exact absurd (Prod.mk.inj h).2 h0
theorem cut_next {c : UInt8} {r : List UInt8} (hc : c ≠ 60) : ((c :: r).drop (cutX (c :: r))).head? = some 60 ∨ (c :: r).drop (cutX (c :: r)) = [] := by
  unfold cutX
  rw [if_neg (by simpa using hc)]
  split
  · rename_i h
    obtain ⟨h1, _⟩ := Lib.indexByte_some (l := c :: r) (c := 60) (o := (Lib.indexByte (c :: r) 60).toNat) (by omega)
    left
    rw [List.head?_drop, h1]
  · right; simp
theorem take_cut_head {c : UInt8} {r : List UInt8} : ((c :: r).take (cutX (c :: r))).head? = some c := by
  obtain ⟨h1, _⟩ := cutX_bd (c := c) (r := r)
  obtain ⟨m, hm⟩ : ∃ m, cutX (c :: r) = m + 1 := ⟨cutX (c :: r) - 1, by omega⟩
  rw [hm]; rfl
theorem scanL_cons {p : Nat × List UInt8} {r : List (Nat × List UInt8)} {l : List Lx} (h : scanL (p :: r) = (l, 0)) : ∃ x l', l = x :: l' ∧ lexP p.1 p.2 = (x, 0) ∧ scanL r = (l', 0) := by
  rw [scanL] at h
  split at h
  · rename_i h1
    split at h
    · rename_i h2
      exact ⟨_, _, (Prod.mk.inj h).1.symm, by rw [← h1], by rw [← h2]⟩
    · rename_i h2; exact absurd (Prod.mk.inj h).2 h2
  · rename_i h1; exact absurd (Prod.mk.inj h).2 h1
theorem chk_ok {x : Lx} {pt : Bool} {at_ : Nat} (h1 : singleX x = 0) (h2 : ¬ (x.k = 1 ∧ pt = true)) (h3 : x.k ≠ 1 → rightX x = true) (h4 : x.pos = at_) : chkOne x pt at_ = 0 := by
  unfold chkOne
  rw [if_neg (by simpa using h1), if_neg h2, if_neg, if_neg (by simpa using h4)]
  rintro ⟨a, b⟩
  rw [h3 a] at b; cases b
theorem chk_inv {x : Lx} {pt : Bool} {at_ : Int} (h : chkOne x pt at_ = 0) : singleX x = 0 ∧ ¬ (x.k = 1 ∧ pt = true) ∧ (x.k ≠ 1 → rightX x = true) ∧ x.pos = at_ := by
  unfold chkOne at h
  split at h
  · rename_i h1; exact absurd h h1
  · rename_i h1
    split at h
    · cases h
    · rename_i h2
      split at h
      · cases h
      · rename_i h3
        split at h
        · cases h
        · rename_i h4
          refine ⟨by simpa using h1, h2, fun hk => ?_, by simpa using h4⟩
          cases hr : rightX x with
          | true => rfl
          | false => exact absurd ⟨hk, hr⟩ h3
theorem chkGo_cons {x : Lx} {r : List Lx} {pt : Bool} {at_ : Nat} : chkGo (x :: r) pt at_ = 0 ↔ chkOne x pt at_ = 0 ∧ chkGo r (decide (x.k = 1)) (at_ + (textF x).length) = 0 := by
  rw [chkGo]
  by_cases h : chkOne x pt at_ = 0
  · rw [if_neg (by simpa using h)]; simp [h]
  · rw [if_pos h]; simp [h]
theorem scan_chk : ∀ (n : Nat) (t : List UInt8) (at_ : Nat) (pt : Bool) (l : List Lx), t.length ≤ n → scanL (partsM t at_) = (l, 0) → (pt = true → t.head? = some 60 ∨ t = []) → at_ + t.length ≤ 65536 → chkGo l pt at_ = 0 ∧ printX l = t
  | n, [], at_, pt, l, _, h, _, hb => by
    rw [partsM] at h
    obtain rfl := (Prod.mk.inj h).1.symm
    refine ⟨?_, rfl⟩
    rw [chkGo, if_neg (by simp at hb; omega)]
  | 0, c :: r, _, _, _, hn, _, _, _ => absurd hn (by simp)
  | n + 1, c :: r, at_, pt, l, hn, h, hpt, hb => by
    rw [partsM] at h
    obtain ⟨x, l', rfl, hx, hl⟩ := scanL_cons h
    obtain ⟨b1, b2⟩ := cutX_bd (c := c) (r := r)
    have hpl : ((c :: r).take (cutX (c :: r))).length = cutX (c :: r) := by rw [List.length_take]; omega
    obtain ⟨x1, x2, x3, x4, x5⟩ := lex_ok (fun e => by rw [show (c :: r).take (cutX (c :: r)) = [] from e] at hpl; simp at hpl; omega) (show ((c :: r).take (cutX (c :: r))).length ≤ 65536 by rw [hpl]; omega) hx
    rw [take_cut_head] at x3
    have hdl : ((c :: r).drop (cutX (c :: r))).length = (c :: r).length - cutX (c :: r) := List.length_drop
    obtain ⟨y1, y2⟩ := scan_chk n _ _ (decide (x.k = 1)) l' (by omega) hl (fun hk => by
      have hk : x.k = 1 := of_decide_eq_true hk
      have hc : c ≠ 60 := by have := x3.1 hk; simpa using this
      exact cut_next hc) (by omega)
    refine ⟨chkGo_cons.2 ⟨chk_ok x4 ?_ x5 x2, ?_⟩, ?_⟩
    · rintro ⟨a, b⟩
      have h1 := x3.1 a
      rcases hpt b with h2 | h2
      · exact h1 (by simpa using h2)
      · cases h2
    · rw [x1, show ((at_, (c :: r).take (cutX (c :: r))).2).length = _ from hpl]; exact y1
    · rw [printX, List.flatMap_cons, x1, ← printX, y2, List.take_append_drop]
theorem scan_print {s : List UInt8} {l : List Lx} (h : scanF s = (l, 0)) : chkX l = 0 ∧ printX l = s := by
  unfold scanF at h
  split at h
  · exact absurd (Prod.mk.inj h).2 (by decide)
  · rename_i hs
    exact scan_chk s.length s 0 false l (Nat.le_refl _) h (fun h => by cases h) (by omega)

/- the parts of what lexemes are printed as -/
theorem check_kd {v : List UInt8} (h : checkC v = 0) : ∀ c ∈ v, kd c ≠ 0 := by
  rw [checkC_eq] at h
  split at h
  · cases h
  · by_cases ho : okChars v = true
    · intro c hc
      obtain ⟨j, hj, rfl⟩ := List.mem_iff_getElem.1 hc
      have := List.all_eq_true.1 ho j (List.mem_range.2 hj)
      unfold okAt at this
      have hk := kA_eq hj
      intro h0
      rw [← hk, h0] at this
      simp at this
    · rw [if_neg ho] at h; cases h
theorem indexB_none : ∀ {l : List UInt8} {c : UInt8}, c ∉ l → Lib.indexByte l c = -1
  | [], _, _ => rfl
  | b :: l, c, h => by
    rw [Lib.indexByte, indexB_none (fun hh => h (List.mem_cons_of_mem _ hh))]
    have : ¬ b = c := fun e => h (by rw [e]; exact List.mem_cons_self)
    simp [this]
theorem indexB_at : ∀ {l r : List UInt8} {c : UInt8}, c ∉ l → Lib.indexByte (l ++ c :: r) c = (l.length : Int)
  | [], r, c, _ => by rw [List.nil_append, Lib.indexByte]; simp
  | b :: l, r, c, h => by
    rw [List.cons_append, Lib.indexByte, indexB_at (fun hh => h (List.mem_cons_of_mem _ hh))]
    have : ¬ b = c := fun e => h (by rw [e]; exact List.mem_cons_self)
    have h2 : ¬ ((l.length : Int) = -1) := by omega
    simp [this, h2]
theorem cut_text {v t : List UInt8} (hne : v ≠ []) (hv : ∀ c ∈ v, c ≠ 60) (ht : t = [] ∨ t.head? = some 60) : cutX (v ++ t) = v.length := by
  unfold cutX
  have h0 : ¬ (v ++ t).head? = some 60 := by
    cases v with
    | nil => exact absurd rfl hne
    | cons a v => simpa using hv a List.mem_cons_self
  have hn : (60 : UInt8) ∉ v := fun h => hv 60 h rfl
  rw [if_neg h0]
  rcases ht with rfl | ht
  · rw [List.append_nil, indexB_none hn, if_neg (by decide)]
  · cases t with
    | nil => cases ht
    | cons a t =>
      obtain rfl : a = 60 := by simpa using ht
      rw [indexB_at hn, if_pos (by omega), Int.toNat_natCast]
theorem cut_tag {m t : List UInt8} (hm : ∀ c ∈ m, c ≠ 62) : cutX ((60 :: (m ++ [62])) ++ t) = (60 :: (m ++ [62]) : List UInt8).length := by
  have hn : (62 : UInt8) ∉ (60 :: m : List UInt8) := by
    intro h
    rcases List.mem_cons.1 h with h | h
    · exact absurd h (by decide)
    · exact hm 62 h rfl
  have e : (60 :: (m ++ [62])) ++ t = (60 :: m) ++ 62 :: t := by simp
  unfold cutX
  rw [e, indexB_at hn, if_pos (show (60 :: m ++ 62 :: t).head? = some 60 by rfl), if_pos (by omega), Int.toNat_natCast]
  simp
theorem takeW_all {p : UInt8 → Bool} {l : List UInt8} (h : ∀ c ∈ l, p c = true) : l.takeWhile p = l := by
  have := List.takeWhile_append_of_pos (l₂ := []) h
  rwa [List.append_nil, List.takeWhile_nil, List.append_nil] at this
theorem name_self {nm : List UInt8} (hc : ∀ c ∈ nm, c ≠ 32 ∧ c ≠ 47 ∧ c ≠ 60 ∧ c ≠ 62) : nameF nm = nm := takeW_all fun c h => by
  have := hc c h
  simp [this.1, this.2.1]
/- tags -/
theorem tag_form {x : Lx} (h1 : singleX x = 0) (hk : x.k ≠ 1) (h3 : rightX x = true) : ∃ m, textF x = 60 :: (m ++ [62]) ∧ (∀ c ∈ m, c ≠ 62) ∧ readF (textF x) = ({ x with pos := 0 }, 0) := by
  unfold singleX at h1
  rw [if_neg hk] at h1
  split at h1
  · rename_i hk3
    split at h1
    · rename_i hkn
      obtain ⟨hkn, hem⟩ := hkn
      obtain ⟨nn, _, hc⟩ := nm_bad hkn
      by_cases k3 : x.k = 3
      · have hv : x.vl = [] := by unfold rightX at h3; rw [if_pos k3] at h3; exact of_decide_eq_true h3
        have e : textF x = 60 :: ((47 :: x.nm) ++ [62]) := by
          unfold textF innF
          rw [if_neg (by omega), if_pos k3, hv, if_neg (by simp)]; rfl
        refine ⟨47 :: x.nm, e, ?_, ?_⟩
        · intro c hcm
          rcases List.mem_cons.1 hcm with rfl | h
          · decide
          · exact (hc c h).2.2.2
        · unfold readF
          rw [e, inner_two, if_pos (show (47 :: x.nm : List UInt8).head? = some 47 by rfl)]
          have en : nameF (List.drop 1 (47 :: x.nm)) = x.nm := by
            exact name_self hc
          rw [en, if_neg (by rw [hkn]; decide), if_pos ⟨by rw [hem]; exact decide_eq_false (by omega), by simp⟩, ← k3, ← hv]
      · have hval : valB x.nm x.vl = true := by unfold rightX at h3; rw [if_neg k3] at h3; exact h3
        have hvc : ∀ c ∈ x.vl, c ≠ 32 ∧ c ≠ 47 ∧ c ≠ 60 ∧ c ≠ 62 := fun c h => kd_bad (val_kd hval c h)
        have hin := inn_chars hc hvc
        have et : tagX x.nm x.vl = { x with pos := 0 } := by
          unfold tagX
          by_cases k4 : x.k = 4
          · rw [if_pos (by rw [hem]; exact decide_eq_true k4), ← k4]
          · have k2 : x.k = 2 := by omega
            rw [if_neg (by rw [hem]; simpa using k4), ← k2]
        have etx : textF (tagX x.nm x.vl) = textF x := by rw [et]; rfl
        have kk : ∀ m, innerF (textF x) = m → (∃ t, m = innF x.nm x.vl ++ t ∧ (t = [] ∨ t = [47])) → readF (textF x) = ({ x with pos := 0 }, 0) := by
          rintro m hm ⟨t, rfl, ht⟩
          have en : nameF (innF x.nm x.vl ++ t) = x.nm := by
            unfold nameF innF
            have hh : ∀ c ∈ x.nm, (!(c == 32 || c == 47)) = true := fun c h => by
              have := hc c h
              simp [this.1, this.2.1]
            split
            · rw [List.append_assoc, List.takeWhile_append_of_pos hh]
              show x.nm ++ List.takeWhile _ (32 :: _) = x.nm
              rw [List.takeWhile_cons]; simp
            · rw [List.takeWhile_append_of_pos hh]
              rcases ht with rfl | rfl
              · simp
              · simp
          have hhd : ¬ (innF x.nm x.vl ++ t).head? = some 47 := by
            unfold innF
            cases hnm : x.nm with
            | nil => exact absurd hnm nn
            | cons a r =>
              have := (hc a (by rw [hnm]; exact List.mem_cons_self)).2.1
              split <;> simpa using this
          unfold readF
          rw [hm, if_neg hhd, en, if_neg (by rw [hkn]; decide)]
          have hv := (val_key hkn hval etx).2
          rw [hm] at hv
          rw [hv]
          unfold accX
          rw [if_pos ⟨hval, etx⟩, et]
        by_cases k4 : x.k = 4
        · have e : textF x = 60 :: ((innF x.nm x.vl ++ [47]) ++ [62]) := by
            unfold textF
            rw [if_neg (by omega), if_neg k3, if_pos k4]; simp
          refine ⟨_, e, ?_, kk _ (by rw [e, inner_two]) ⟨[47], rfl, .inr rfl⟩⟩
          intro c hcm
          rcases List.mem_append.1 hcm with h | h
          · exact (hin c h).2.2
          · rw [List.mem_singleton.1 h]; decide
        · have k2 : x.k = 2 := by omega
          have e : textF x = 60 :: (innF x.nm x.vl ++ [62]) := by
            unfold textF
            rw [if_pos k2]; simp
          exact ⟨_, e, fun c h => (hin c h).2.2, kk _ (by rw [e, inner_two]) ⟨[], by simp, .inl rfl⟩⟩
    · cases h1
  · cases h1
theorem text_form {x : Lx} (h1 : singleX x = 0) (hk : x.k = 1) : x.nm = [] ∧ x.vl ≠ [] ∧ checkC x.vl = 0 ∧ textF x = x.vl := by
  unfold singleX at h1
  rw [if_pos hk] at h1
  split at h1
  · cases h1
  · rename_i a
    split at h1
    · cases h1
    · rename_i b
      split at h1
      · cases h1
      · rename_i c
        refine ⟨by simpa using a, b, by simpa using c, ?_⟩
        unfold textF
        rw [if_neg (by omega), if_neg (by omega), if_neg (by omega)]
theorem text_pos {x : Lx} (h1 : singleX x = 0) (h3 : x.k ≠ 1 → rightX x = true) : textF x ≠ [] := by
  by_cases hk : x.k = 1
  · obtain ⟨_, b, _, d⟩ := text_form h1 hk; rw [d]; exact b
  · obtain ⟨m, e, _⟩ := tag_form h1 hk (h3 hk); rw [e]; simp
theorem print_head {r : List Lx} {at_ : Nat} (h : chkGo r true at_ = 0) : printX r = [] ∨ (printX r).head? = some 60 := by
  cases r with
  | nil => exact .inl rfl
  | cons y r =>
    obtain ⟨h1, _⟩ := chkGo_cons.1 h
    obtain ⟨a, b, c, _⟩ := chk_inv h1
    have hk : y.k ≠ 1 := fun e => b ⟨e, rfl⟩
    obtain ⟨m, e, _⟩ := tag_form a hk (c hk)
    right
    rw [printX, List.flatMap_cons, e]; rfl
theorem chk_parts : ∀ (l : List Lx) (pt : Bool) (at_ : Nat), chkGo l pt at_ = 0 → partsM (printX l) at_ = l.map (fun x => (x.pos.toNat, textF x)) ∧ scanL (l.map fun x => (x.pos.toNat, textF x)) = (l, 0)
  | [], _, _, _ => ⟨by show partsM [] _ = []; rw [partsM], rfl⟩
  | x :: r, pt, at_, h => by
    obtain ⟨h1, h2⟩ := chkGo_cons.1 h
    obtain ⟨a, b, c, d⟩ := chk_inv h1
    obtain ⟨i1, i2⟩ := chk_parts r _ _ h2
    have hd : x.pos.toNat = at_ := by omega
    have hcut : cutX (textF x ++ printX r) = (textF x).length := by
      by_cases hk : x.k = 1
      · obtain ⟨_, b', c', d'⟩ := text_form a hk
        rw [d']
        rw [decide_eq_true hk] at h2
        exact cut_text b' (fun c hc => (kd_ok (check_kd c' c hc)).2.1) (print_head h2)
      · obtain ⟨m, e, hm, _⟩ := tag_form a hk (c hk)
        rw [e]; exact cut_tag hm
    have hne := text_pos a c
    have hlex : lexP x.pos.toNat (textF x) = (x, 0) := by
      have hx : ({ x with pos := ((x.pos.toNat : Nat) : Int) } : Lx) = x := by
        have : ((x.pos.toNat : Nat) : Int) = x.pos := by omega
        rw [this]
      unfold lexP
      by_cases hk : x.k = 1
      · obtain ⟨a', b', c', d'⟩ := text_form a hk
        rw [d', if_pos, if_pos c']
        · have : (⟨1, [], x.vl, ((x.pos.toNat : Nat) : Int)⟩ : Lx) = { x with pos := ((x.pos.toNat : Nat) : Int) } := by rw [← hk, ← a']
          rw [this, hx]
        · intro hh
          cases hv : x.vl with
          | nil => exact b' hv
          | cons q v =>
            rw [hv] at hh c'
            exact (kd_ok (check_kd c' q List.mem_cons_self)).2.1 (by simpa using hh)
      · obtain ⟨m, e, hm, hr⟩ := tag_form a hk (c hk)
        rw [if_neg (by rw [e]; simp), if_neg (by rw [e, ← List.cons_append, List.getLast?_concat]; simp), hr, if_pos rfl]
        exact congrArg (·, 0) hx
    refine ⟨?_, ?_⟩
    · rw [printX, List.flatMap_cons, ← printX, List.map_cons, hd]
      cases ht : textF x with
      | nil => exact absurd ht hne
      | cons q t =>
        rw [ht] at hcut
        rw [List.cons_append, partsM]
        rw [List.cons_append] at hcut
        rw [hcut, ← List.cons_append, List.take_left, List.drop_left]
        rw [ht] at i1
        rw [i1]
    · rw [List.map_cons, scanL, hlex, if_pos rfl, i2, if_pos rfl]
theorem chk_len : ∀ (l : List Lx) (pt : Bool) (at_ : Nat), chkGo l pt at_ = 0 → at_ + (printX l).length ≤ 65536
  | [], _, at_, h => by
    rw [chkGo] at h
    split at h
    · cases h
    · show at_ + 0 ≤ 65536; omega
  | x :: r, _, at_, h => by
    have := chk_len r _ _ (chkGo_cons.1 h).2
    rw [printX, List.flatMap_cons, List.length_append, ← printX]; omega
theorem print_scan {l : List Lx} (h : chkX l = 0) : scanF (printX l) = (l, 0) := by
  have hl := chk_len l _ _ h
  obtain ⟨h1, h2⟩ := chk_parts l _ _ h
  unfold scanF
  rw [if_neg (by omega), h1, h2]
end Go.Proofs
namespace Go.Proofs
open Go Go.Sh Go.RowKit

/- lexemes and offsets -/
theorem print_cons (x : Lx) (r : List Lx) : printX (x :: r) = textF x ++ printX r := by unfold printX; rw [List.flatMap_cons]
/- the last lexeme that begins at the offset or before it decides -/
/- two strings, one after the other -/
def shiftX (d : Int) (x : Lx) : Lx := { x with pos := x.pos + d }
def lastK (pt : Bool) (l : List Lx) : Bool := match l.getLast? with
  | some x => decide (x.k = 1)
  | none => pt
theorem lastK_cons (x : Lx) (r : List Lx) (pt : Bool) : lastK (decide (x.k = 1)) r = lastK pt (x :: r) := by
  unfold lastK
  rw [List.getLast?_cons]
  cases r.getLast? <;> rfl
theorem chkGo_app : ∀ (l m : List Lx) (pt : Bool) (at_ : Nat), chkGo l pt at_ = 0 → chkGo (l ++ m) pt at_ = chkGo m (lastK pt l) (at_ + (printX l).length)
  | [], m, pt, at_, _ => rfl
  | x :: r, m, pt, at_, h => by
    obtain ⟨h1, h2⟩ := chkGo_cons.1 h
    rw [List.cons_append, chkGo, if_neg (by simpa using h1), chkGo_app r m _ _ h2, lastK_cons x r pt, print_cons, List.length_append, Nat.add_assoc]
theorem chkGo_shift : ∀ (l : List Lx) (pt pt' : Bool) (at_ d : Nat), chkGo l pt at_ = 0 → at_ + d + (printX l).length ≤ 65536 → (pt' = true → ∀ x, l.head? = some x → x.k ≠ 1) → chkGo (l.map (shiftX d)) pt' (at_ + d) = 0
  | [], _, _, _, _, _, hb, _ => by
    have : (printX []).length = 0 := rfl
    rw [List.map_nil, chkGo, if_neg (by omega)]
  | x :: r, pt, pt', at_, d, h, hb, hp => by
    obtain ⟨h1, h2⟩ := chkGo_cons.1 h
    obtain ⟨a, b, c, e⟩ := chk_inv h1
    have hl : (printX (x :: r)).length = (textF x).length + (printX r).length := by rw [printX, List.flatMap_cons, List.length_append]; rfl
    rw [List.map_cons]
    refine chkGo_cons.2 ⟨chk_ok a ?_ c ?_, ?_⟩
    · rintro ⟨k1, k2⟩
      exact hp k2 x rfl k1
    · show x.pos + d = ((at_ + d : Nat) : Int)
      omega
    · have ih := chkGo_shift r (decide (x.k = 1)) (decide (x.k = 1)) (at_ + (textF x).length) d h2 (by omega) (by
        intro hk y hy
        cases r with
        | nil => cases hy
        | cons z r =>
          obtain rfl : z = y := by simpa using hy
          intro hz
          exact (chk_inv (chkGo_cons.1 h2).1).2.1 ⟨hz, hk⟩)
      show chkGo (r.map (shiftX d)) (decide (x.k = 1)) (at_ + d + (textF x).length) = 0
      rw [Nat.add_right_comm]; exact ih
theorem print_shift (l : List Lx) (d : Int) : printX (l.map (shiftX d)) = printX l := by
  unfold printX
  rw [List.flatMap_map]
  rfl
theorem print_app (l m : List Lx) : printX (l ++ m) = printX l ++ printX m := by unfold printX; rw [List.flatMap_append]
theorem join_one {s t : List UInt8} {a b : List Lx} (ha : scanF s = (a, 0)) (hb : scanF t = (b, 0)) (hl : s.length + t.length ≤ 65536)
    (hn : ∀ x y, a.getLast? = some x → b.head? = some y → ¬ (x.k = 1 ∧ y.k = 1)) : scanF (s ++ t) = (a ++ b.map (shiftX s.length), 0) := by
  obtain ⟨a1, a2⟩ := scan_print ha
  obtain ⟨b1, b2⟩ := scan_print hb
  have key : chkX (a ++ b.map (shiftX s.length)) = 0 := by
    unfold chkX
    rw [chkGo_app _ _ _ _ a1, a2, Nat.zero_add]
    have := chkGo_shift b false (lastK false a) 0 s.length b1 (by rw [b2]; omega) (by
      intro hk y hy hy1
      unfold lastK at hk
      cases hx : a.getLast? with
      | none => rw [hx] at hk; cases hk
      | some x => rw [hx] at hk; exact hn x y hx hy ⟨of_decide_eq_true hk, hy1⟩)
    rwa [Nat.zero_add] at this
  have := print_scan key
  rwa [print_app, print_shift, a2, b2] at this
/- characters of two strings -/
/- stripped strings -/
end Go.Proofs
namespace Go.Proofs
open Go Go.Sh Go.RowKit

/- lexemes with their right offsets -/
/- nesting asks for kinds and names alone -/
/- an empty tag in place of a tag -/
/- one tag alone -/
end Go.Proofs
namespace Go.Proofs
open Go Go.Sh Go.RowKit Go.Lib

section
variable (r : Int) (w : World) (h1 : 128 ≤ r) (h2 : r ≠ 65533) (hv' : Lib.validRune r = true)
set_option maxHeartbeats 4000000 in
set_option maxRecDepth 1000000 in
include h1 h2 hv' in
set_option maxHeartbeats 4000000 in
set_option maxRecDepth 1000000 in
include h1 h2 hv' in
set_option maxHeartbeats 4000000 in
set_option maxRecDepth 1000000 in
include h1 h2 hv' in
end
/- what a decoded rune takes up -/
end Go.Proofs
namespace Go.Proofs
open Go Go.Sh Go.RowKit Go.Lib

end Go.Proofs
namespace Go.Proofs
open Go Go.Sh Go.RowKit

/- what the library reads of the world: the variables of strings.Cut and strconv.Atoi -/
def Mk (w : World) : Prop := (∃ m, w.cell? ⟨G_internal_bytealg_MaxLen, 0, none⟩ = some (.int .i64 m)) ∧ (∃ t p, w.cell? ⟨G_strconv_ErrSyntax, 0, none⟩ = some (.iface t p)) ∧ (∃ t p, w.cell? ⟨G_strconv_ErrRange, 0, none⟩ = some (.iface t p))
theorem cell_ext {w w' : World} {a : Addr} {v : Value} (h : w.cell? a = some v) (he : Ext w w') : w'.cell? a = some v := by
  rw [he.cell (World.block_lt_of_cell? w _ h)]; exact h
theorem Mk.ext {w w' : World} (h : Mk w) (he : Ext w w') : Mk w' := by
  obtain ⟨⟨m, h1⟩, ⟨t, p, h2⟩, ⟨t', p', h3⟩⟩ := h
  exact ⟨⟨m, cell_ext h1 he⟩, ⟨t, p, cell_ext h2 he⟩, ⟨t', p', cell_ext h3 he⟩⟩

theorem ifc_nil {K : Bool → Prop} (h : K true) : ifc .nilIface K := h
theorem ifc_some {K : Bool → Prop} {t : TypeId} {v : Value} (h : K false) : ifc (.iface t v) K := h
variable {R : Ending → World → Prop} {w : World}
end Go.Proofs
namespace Go.Sh
open Go Go.RowKit Go.ChangeShapes
section
variable {H : Type} {enc : TypeId × Value → H} {P : Program} {W W' : World}
theorem trodAll_carry {sp : Nat → Bool} : ∀ {ts : List TypeId} {vs : List Value} {ds : List (DataW H)} {ps : List MemPlace}, DataW.TrodAll enc P W 0 sp true ts vs ds ps → (∀ p ∈ ps, W.sameAt W' p) → DataW.TrodAll enc P W' 0 sp true ts vs ds ps
  | [], [], [], _, h, _ => h
  | _ :: _, _ :: _, _ :: _, _, ⟨p, q, ⟨n, hn⟩, h2, e⟩, hs =>
    ⟨p, q, ⟨n, DataW.trod_carry n _ _ _ hn fun x hx => hs x (by rw [e]; exact List.mem_append_left _ hx)⟩, trodAll_carry h2 (fun x hx => hs x (by rw [e]; exact List.mem_append_right _ hx)), e⟩
  | [], [], _ :: _, _, h, _ => h.elim
  | [], _ :: _, _, _, h, _ => h.elim
  | _ :: _, [], _, _, h, _ => h.elim
  | _ :: _, _ :: _, [], _, h, _ => h.elim
theorem trodAll_below (hl : laidOutB P = true) : ∀ {ts : List TypeId} {vs : List Value} {ds : List (DataW H)} {ps : List MemPlace}, (∀ t ∈ ts, P.readableRec t = true ∧ t < P.types.size) → DataW.TrodAll enc P W 0 (fun _ => true) true ts vs ds ps → Below W.heap.size W W' → (∀ x ∈ ps, x.block < W.heap.size) →
    DataW.TrodAll enc P W' 0 (fun b => decide (b < W.heap.size)) true ts vs ds ps
  | [], [], [], _, _, h, _, _ => h
  | _ :: _, _ :: _, _ :: _, _, ht, ⟨p, q, h1, h2, e⟩, hb, hlt =>
    ⟨p, q, Below.trod hl (ht _ (by simp)).1 (ht _ (by simp)).2 h1 hb (fun x hx => hlt x (by rw [e]; exact List.mem_append_left _ hx)),
      trodAll_below hl (fun t h => ht t (List.mem_cons_of_mem _ h)) h2 hb (fun x hx => hlt x (by rw [e]; exact List.mem_append_right _ hx)), e⟩
  | [], [], _ :: _, _, _, h, _, _ => h.elim
  | [], _ :: _, _, _, _, h, _, _ => h.elim
  | _ :: _, [], _, _, _, h, _, _ => h.elim
  | _ :: _, _ :: _, [], _, _, h, _, _ => h.elim

/- a law's 'post' where it answers true and what was there stands -/
theorem post_ext {f : Func} {s : ChangeSpec} {apart fresh handsOn again : Bool} {args : Array Value} {ds gs : List (DataW H)} {before : List MemPlace} {tb : TypeId} (hl : laidOutB P = true) (hts : ∀ t ∈ f.params.toList, P.readableRec t = true ∧ t < P.types.size) (hres : f.resultTypes = #[tb]) (htb : P.underlying tb = some .bool) (hvars : s.vars = [])
    (hW : DataW.Whole enc P f.params.toList s.vars apart W args.toList ds gs before) (hfn : s.fn H (ds ++ gs) = { results := [.lit (.bool true)], args := ds }) (he : Ext W W') :
    s.post enc P f apart fresh handsOn again W args (.bool true) W' := by
  have hlt := hW.lt
  have hW0 := hW
  obtain ⟨p, q, h1, h2, hpq, hz, hn⟩ := hW0
  rw [hvars] at h2
  obtain ⟨hg, hq⟩ := trodVars_none h2
  subst hg hq
  simp only [List.append_nil] at hpq
  subst hpq
  have hbool : ∀ (b : Nat) (sp : Nat → Bool) (hd : Bool), DataW.TrodAll enc P W' b sp hd f.resultTypes.toList ((Value.bool true).resultList f.resultTypes.size) [.lit (.bool true)] [] := by
    intro b sp hd
    rw [hres]
    exact trodAll_mk1 (shut_bool htb true)
  refine ⟨ds, [], before, [], before, [], hW, ?_, ?_, ?_, he.frame _, fun _ => ⟨ok_one hres rfl (okWide_bool_mk htb true), [.lit (.bool true)] ++ ds, [], [] ++ before, ⟨[] ++ before, [], ?_, ?_, by simp, ?_, ?_⟩, ?_⟩⟩
  · rw [hfn]; exact hbool _ _ _
  · rw [hfn]; exact trodAll_below hl hts h1 he hlt
  · rw [hfn, hvars]; rfl
  · exact trodAll_append (trodAll_carry h1 fun x hx => he.same (hlt x hx)) (hbool _ _ _)
  · rw [hvars]; rfl
  · intro b off hp
    simp only [List.nil_append] at hp
    rw [he.frozen (hlt _ hp)]
    exact hz b off hp
  · intro ha; simpa using hn ha
  · intro x hx _; simpa using hx
end
end Go.Sh
namespace Go.Proofs.YtieeggfkfgmdgaaGreatDoor
open Go Go.Sh Go.RowKit Go.ChangeShapes Go.WideShapes Go.ChangeAt

theorem own : ownKnob Tryz.prog.godebug = none := by kernel_rfl
theorem laidOut : laidOutB Tryz.prog = true := by kernel_rfl
theorem form_row {W : World} {m : Nat} {cs : List Value} {x : DataW Unit × List MemPlace} {tag : List UInt8} {a b c : Bool} (h : DataW.trod (fun _ => ()) Tryz.prog W 0 (fun _ => true) false m 161 cs = some x)
    (hx : x.1 = .agg [.lit (.string tag), .lit (.bool a), .lit (.bool b), .lit (.bool c)]) : cs = [.string ⟨⟨tag⟩⟩, .bool a, .bool b, .bool c] := by
  have h96 : Tryz.prog.cellsOf 161 = 4 := by kernel_rfl
  have h9 : Tryz.prog.cellsOf 9 = 1 := by kernel_rfl
  have h4 : Tryz.prog.cellsOf 4 = 1 := by kernel_rfl
  obtain ⟨xs, n, rfl, rfl, hl, hxl, hf⟩ := DataW.trod_struct Tryz.underlying161 h
  rw [h96] at hl
  obtain ⟨v0, v1, v2, v3, rfl⟩ := len4 hl
  obtain ⟨y0, y1, y2, y3, rfl⟩ := len4 (show xs.length = 4 from hxl)
  simp only [List.map_cons, List.map_nil, DataW.agg.injEq, List.cons.injEq, and_true] at hx
  obtain ⟨z0, z1, z2, z3⟩ := hx
  have g0 := hf 0 _ rfl
  have g1 := hf 1 _ rfl
  have g2 := hf 2 _ rfl
  have g3 := hf 3 _ rfl
  obtain ⟨t, e0, f0, _⟩ := DataW.trod_string Tryz.underlying9 g0
  obtain ⟨b1, e1, f1⟩ := DataW.trod_bool Tryz.underlying4 g1
  obtain ⟨b2, e2, f2⟩ := DataW.trod_bool Tryz.underlying4 g2
  obtain ⟨b3, e3, f3⟩ := DataW.trod_bool Tryz.underlying4 g3
  simp [h9, h4] at e0 e1 e2 e3
  subst e0 e1 e2 e3
  try simp at f0 f1 f2 f3
  rw [f0] at z0
  rw [f1] at z1
  rw [f2] at z2
  rw [f3] at z3
  simp at z0 z1 z2 z3
  subst z0 z1 z2 z3
  rfl
set_option maxRecDepth 20000 in
theorem forms_of {W : World} (h : Go.Lib.VarReads Tryz.prog W "apograph/transcript.forms" Rows.laid_apograph_transcript_forms) : Forms W := by
  obtain ⟨g4, t4, cs, f4, p4, hg, ht, hvar, hd⟩ := h
  have hg0 : Tryz.prog.globalNamed "apograph/transcript.forms" = some G_transcript_forms := by kernel_rfl
  have ht0 : (Tryz.prog.globals[G_transcript_forms]?).map (·.type) = some 162 := by kernel_rfl
  obtain rfl := Option.some.inj (hg0.symm.trans hg)
  obtain rfl := Option.some.inj (ht0.symm.trans ht)
  have h96 : Tryz.prog.cellsOf 161 = 4 := by kernel_rfl
  have h97 : Tryz.prog.cellsOf 162 = 48 := by kernel_rfl
  obtain ⟨xs, m, rfl, hx, hl, hxl, hall⟩ := DataW.trod_array Tryz.underlying162 hd
  rw [h97] at hl
  rw [h96] at hall
  simp only [Prod.mk.injEq, Rows.laid_apograph_transcript_forms, DataW.agg.injEq] at hx
  obtain ⟨hm, _⟩ := hx
  have chunk : ∀ i, i < 12 → (cs.toList.drop (i * 4)).take 4 = (formsCells.drop (i * 4)).take 4 := by
    intro i hi
    have hh := hall i hi
    have hxi : (xs[i]?).map (·.1) = _ := (List.getElem?_map (f := (·.1)) (l := xs) (i := i)).symm.trans (by rw [← hm])
    rw [List.getElem?_eq_getElem (by omega)] at hh hxi
    simp only [Option.map_some] at hxi
    rcases (by omega : i = 0 ∨ i = 1 ∨ i = 2 ∨ i = 3 ∨ i = 4 ∨ i = 5 ∨ i = 6 ∨ i = 7 ∨ i = 8 ∨ i = 9 ∨ i = 10 ∨ i = 11) with rfl | rfl | rfl | rfl | rfl | rfl | rfl | rfl | rfl | rfl | rfl | rfl <;>
      exact form_row hh (Option.some.inj hxi)
  have hsz : G_transcript_forms < W.heap.size := by
    simp only [World.var?, hg0, Option.bind_some] at hvar
    split at hvar
    · rename_i hh; exact (Array.getElem?_eq_some_iff.1 hh).1
    · cases hvar
  refine ⟨hsz, fun j v hj => ?_⟩
  have hj48 : j < 48 := by have := (List.getElem?_eq_some_iff.1 hj).1; exact this
  rw [World.var?_cell hg0 hvar j]
  have hc := chunk (j / 4) (by omega)
  have e : ∀ l : List Value, l[j]? = ((l.drop (j / 4 * 4)).take 4)[j - j / 4 * 4]? := fun l => by
    rw [List.getElem?_take, if_pos (by omega), List.getElem?_drop]
    congr 1; omega
  rw [← Array.getElem?_toList, e, hc, ← e]; exact hj

noncomputable def flatV : Nat → DataW Unit → List Value
  | n + 1, .agg l => l.flatMap (flatV n)
  | _, .lit (.int k n) => [.int k n]
  | _, .lit (.bool b) => [.bool b]
  | _, .lit (.string s) => [.string ⟨s.toArray⟩]
  | _, _ => []
theorem trod_iface {P : Program} {W : World} {fuel : Nat} {t : TypeId} {cs : List Value} {ms : Array (String × TypeId)} {nm : String} {d : DataW Unit} {p : List MemPlace} (hu : P.underlying t = some (.interface ms)) (h : DataW.trod (fun _ => ()) P W 0 (fun _ => true) false fuel t cs = some (.iface nm d, p)) : ∃ u v, cs = [.iface u v] := by
  cases fuel with
  | zero => simp [DataW.trod] at h
  | succ n =>
    unfold DataW.trod at h
    rw [hu] at h
    split at h <;> simp_all
theorem err_of {W : World} {n : String} {nm : String} {d : DataW Unit} {g : Nat} {ti : TypeId} {ms : Array (String × TypeId)} (h : Go.Lib.VarReads Tryz.prog W n (.iface nm d)) (hg : Tryz.prog.globalNamed n = some g) (ht : (Tryz.prog.globals[g]?).map (·.type) = some ti) (hi : Tryz.prog.underlying ti = some (.interface ms)) :
    ∃ t p, W.cell? ⟨g, 0, none⟩ = some (.iface t p) := by
  obtain ⟨g', t', cs, fuel, p, hg', ht', hv, hd⟩ := h
  obtain rfl := Option.some.inj (hg.symm.trans hg')
  obtain rfl := Option.some.inj (ht.symm.trans ht')
  obtain ⟨u, v, hc⟩ := trod_iface hi hd
  refine ⟨u, v, ?_⟩
  rw [World.var?_cell hg hv 0]
  have := congrArg (fun l => l[0]?) hc
  simpa using this
theorem max_of {W : World} (hSh : W.ShapedOpen Tryz.prog) : ∃ m, W.cell? ⟨G_internal_bytealg_MaxLen, 0, none⟩ = some (.int .i64 m) := Tryz.laysM155.s1_3 W hSh
theorem mk_of {W : World} (e1 : Go.Lib.VarReads Tryz.prog W "strconv.ErrSyntax" Rows.laid_strconv_ErrSyntax) (e2 : Go.Lib.VarReads Tryz.prog W "strconv.ErrRange" Rows.laid_strconv_ErrRange) (hSh : W.ShapedOpen Tryz.prog) : Mk W :=
  ⟨max_of hSh, err_of e1 (by kernel_rfl) (by kernel_rfl) Tryz.underlying82, err_of e2 (by kernel_rfl) (by kernel_rfl) Tryz.underlying82⟩
noncomputable def putG (h : Array Obj) (g : Nat) (cs : List Value) : Array Obj := h.modify g fun
  | .cells _ t frozen => .cells ⟨cs⟩ t frozen
  | o => o
noncomputable def layOne (h : Array Obj) (g : Nat) (d : DataW Unit) : Array Obj := match d with
  | .iface _ (.ptr (.agg [.lit (.string t)])) => putG (h.push (.cells ⟨[.string ⟨t.toArray⟩]⟩ 244 (0, 0))) g [.iface 242 (.pointer (some ⟨h.size, 0, none⟩))]
  | d => putG h g (flatV 5 d)
noncomputable def layAll (laid : List (String × DataW Unit)) (h : Array Obj) : Array Obj :=
  laid.foldl (fun h x => match Tryz.prog.globalNamed x.1 with
    | some g => layOne h g x.2
    | none => h) h
noncomputable def laidWorldOf (laid : List (String × DataW Unit)) (os : Os) : World :=
  { World.holding Tryz.prog os ⟨#[], #[], []⟩ with heap := layAll laid (World.holding Tryz.prog os ⟨#[], #[], []⟩).heap }
end Go.Proofs.YtieeggfkfgmdgaaGreatDoor
namespace Go.Proofs
open Go Go.Sh Go.RowKit

/- atoms of a transcript: characters, gaps, and what ends words -/
inductive Am where
  | ch (c : UInt8) (p : Ps) (u : Bool) (nm : List UInt8)
  | gap (n : Int) (p : Ps) (u : Bool) (nm : List UInt8)
  | brk (v : Bool)
structure Nc where
  x : Nn
  u : Bool
  nm : List UInt8
def nodesX : Fo → Bool → List UInt8 → List Nc
  | .nil, _, _ => []
  | .cons k t n ps r, u, nm => ⟨⟨k, t, n, ps⟩, u, nm⟩ :: (nodesX ps (u || decide (k = 7)) (if k = 11 then t else nm) ++ nodesX r u nm)
def amT (t : List UInt8) (p : Ps) (u : Bool) (nm : List UInt8) : List Am := t.map fun c => .ch c p u nm
def amN (p : Ps) (x : Nc) : List Am :=
  if x.x.k = 1 then amT x.x.t p x.u x.nm else if x.x.k = 6 then [.gap x.x.n p x.u x.nm] else if x.x.k = 4 ∨ x.x.k = 5 then [.brk (decide (x.x.k = 5))] else []
def amsL : Ps → List Nc → List Am
  | _, [] => []
  | p, x :: l => amN p x ++ amsL (posN p x.x).1 l
def amsF (p : Ps) (f : Fo) (u : Bool) (nm : List UInt8) : List Am := amsL p (nodesX f u nm)
theorem nodesX_map : ∀ (f : Fo) (u : Bool) (nm : List UInt8), (nodesX f u nm).map (·.x) = nodesF f
  | .nil, _, _ => rfl
  | .cons k t n ps r, u, nm => by simp only [nodesX, nodesF, List.map_cons, List.map_append, nodesX_map ps, nodesX_map r]
theorem amsL_app : ∀ (l : List Nc) (p : Ps) (m : List Nc), amsL p (l ++ m) = amsL p l ++ amsL (endL p (l.map (·.x))) m
  | [], _, _ => rfl
  | x :: l, p, m => by simp only [List.cons_append, amsL, List.map_cons, endL, amsL_app l, List.append_assoc]
theorem amsF_cons (p : Ps) (k t n ps r) (u : Bool) (nm : List UInt8) : amsF p (.cons k t n ps r) u nm =
    amN p ⟨⟨k, t, n, ps⟩, u, nm⟩ ++ (amsF (posN p ⟨k, t, n, ps⟩).1 ps (u || decide (k = 7)) (if k = 11 then t else nm) ++ amsF (endL (posN p ⟨k, t, n, ps⟩).1 (nodesF ps)) r u nm) := by
  unfold amsF
  rw [nodesX, amsL, amsL_app, nodesX_map]
/- tokens -/
structure Tok where
  t : List UInt8
  m : List UInt8
  p : Ps
  g : Int
  a : List UInt8
def encTk : Enc Tok := ⟨fun x => [.string ⟨⟨x.t⟩⟩, .string ⟨⟨x.m⟩⟩, .string ⟨⟨x.p.1⟩⟩, .int .i64 x.p.2, .int .i64 x.g, .string ⟨⟨x.a⟩⟩], 6, fun _ => rfl, by decide, by intro x v hv; simp only [List.mem_cons, List.not_mem_nil, or_false] at hv; rcases hv with rfl | rfl | rfl | rfl | rfl | rfl <;> rfl⟩
def innC (c : UInt8) : Bool := letB c || (decide (kd c = 2) || decide (kd c = 4))
def inA : Am → Bool
  | .ch c _ _ _ => innC c
  | _ => false
def chA : Am → List UInt8
  | .ch c _ _ _ => [c]
  | _ => []
def unA : Am → Bool
  | .ch _ _ u _ => u
  | .gap _ _ u _ => u
  | .brk _ => false
def flI (u j v : Bool) (base : Int) : Int := base + (if u then 1 else 0) + (if v then 4 else 0) + (if j then 16 else 0)
def gapT (n : Int) : List UInt8 := 91 :: (Lib.decDigits n.toNat ++ [93])
theorem dropWhile_le {α : Type} (p : α → Bool) : ∀ l : List α, (l.dropWhile p).length ≤ l.length
  | [] => by simp
  | x :: l => by
    have := dropWhile_le p l
    rw [List.dropWhile_cons]
    split
    · simp only [List.length_cons]; omega
    · exact Nat.le_refl _
def divF (j v : Bool) : List Am → List Tok
  | [] => []
  | .brk b :: r => divF false (v || b) r
  | .gap n p u nm :: r => ⟨gapT n, [], p, flI u j v 2, nm⟩ :: divF true false r
  | .ch c p u nm :: r =>
    if kd c = 6 then divF false v r
    else if letB c = true then ⟨c :: (r.takeWhile inA).flatMap chA, [], p, flI (u || (r.takeWhile inA).any unA) j v 0, nm⟩ :: divF true false (r.dropWhile inA)
    else ⟨[c], [], p, flI u j v 8, nm⟩ :: divF true false r
  termination_by l => l.length
  decreasing_by
    all_goals simp only [List.length_cons]
    all_goals first | omega | (have := dropWhile_le inA r; omega)
/- the builder -/
structure Bs where
  out : List Tok
  cur : Option (Tok × List UInt8)
  j : Bool
  v : Bool
def shut (b : Bs) : List Tok := match b.cur with
  | none => b.out
  | some (t, w) => b.out ++ [{ t with t := w }]
def orU (g : Int) (u : Bool) : Int := if u = true ∧ g % 2 = 0 then g + 1 else g
def addB (b : Bs) : Am → Bs
  | .ch c p u nm => match b.cur, innC c with
    | some (t, w), true => ⟨b.out, some ({ t with g := orU t.g u }, w ++ [c]), b.j, b.v⟩
    | _, _ =>
      if letB c = true then ⟨shut b, some (⟨[], [], p, flI u b.j b.v 0, nm⟩, [c]), true, false⟩
      else if kd c = 6 then ⟨shut b, none, false, b.v⟩
      else ⟨shut b ++ [⟨[c], [], p, flI u b.j b.v 8, nm⟩], none, true, false⟩
  | .gap n p u nm => ⟨shut b ++ [⟨gapT n, [], p, flI u b.j b.v 2, nm⟩], none, true, false⟩
  | .brk x => ⟨shut b, none, false, b.v || x⟩
def bs0 : Bs := ⟨[], none, false, false⟩
theorem orU_orU (g : Int) (u v : Bool) : orU (orU g u) v = orU g (u || v) := by
  unfold orU
  cases u <;> cases v
  · simp
  · simp
  · simp
  · by_cases h : g % 2 = 0
    · simp only [h, and_self, if_true, Bool.or_self]
      rw [if_neg (by omega)]
    · simp [h]
theorem orU_fl (u u' j v : Bool) (base : Int) (hb : base % 2 = 0) : orU (flI u j v base) u' = flI (u || u') j v base := by
  unfold orU flI
  cases u <;> cases u' <;> cases j <;> cases v <;> simp <;> omega
theorem space_let {c : UInt8} (h : kd c = 6) : letB c = false := by unfold letB; rw [h]; rfl
theorem space_inn {c : UInt8} (h : kd c = 6) : innC c = false := by unfold innC; rw [space_let h, h]; rfl
theorem let_inn {c : UInt8} (h : letB c = true) : innC c = true := by unfold innC; rw [h]; rfl
/- the state with an open word is that with a shut one, and what is left of the word -/
theorem fold_div : ∀ (l : List Am) (b : Bs), shut (l.foldl addB b) = match b.cur with
    | none => b.out ++ divF b.j b.v l
    | some (t, w) => b.out ++ { t with g := orU t.g ((l.takeWhile inA).any unA), t := w ++ (l.takeWhile inA).flatMap chA } :: divF b.j b.v (l.dropWhile inA)
  | [], ⟨out, none, j, v⟩ => by simp [shut, divF]
  | [], ⟨out, some (t, w), j, v⟩ => by simp [shut, divF, orU]
  | .brk x :: r, ⟨out, none, j, v⟩ => by
    rw [List.foldl_cons, fold_div r]
    show out ++ divF false (v || x) r = _
    rw [divF]
  | .brk x :: r, ⟨out, some (t, w), j, v⟩ => by
    rw [List.foldl_cons, fold_div r]
    have e : inA (.brk x) = false := rfl
    simp only [List.takeWhile_cons, List.dropWhile_cons, e, Bool.false_eq_true, if_false]
    rw [divF]
    simp [addB, shut, orU]
  | .gap n p u nm :: r, ⟨out, none, j, v⟩ => by
    rw [List.foldl_cons, fold_div r, divF]
    simp [addB, shut]
  | .gap n p u nm :: r, ⟨out, some (t, w), j, v⟩ => by
    rw [List.foldl_cons, fold_div r]
    have e : inA (.gap n p u nm) = false := rfl
    simp only [List.takeWhile_cons, List.dropWhile_cons, e, Bool.false_eq_true, if_false]
    rw [divF]
    simp [addB, shut, orU]
  | .ch c p u nm :: r, ⟨out, none, j, v⟩ => by
    rw [List.foldl_cons, fold_div r, divF]
    by_cases hl : letB c = true
    · have h6 : ¬ kd c = 6 := fun h => by rw [space_let h] at hl; cases hl
      simp only [addB, hl, h6, if_true, if_false, shut]
      rw [orU_fl _ _ _ _ _ rfl]
      rfl
    · by_cases h6 : kd c = 6
      · simp [addB, hl, h6, shut]
      · simp [addB, hl, h6, shut]
  | .ch c p u nm :: r, ⟨out, some (t, w), j, v⟩ => by
    rw [List.foldl_cons, fold_div r]
    by_cases hi : innC c = true
    · have e : inA (.ch c p u nm) = true := hi
      simp only [List.takeWhile_cons, List.dropWhile_cons, e, if_true]
      have h1 : orU (orU t.g u) ((r.takeWhile inA).any unA) = orU t.g (u || (r.takeWhile inA).any unA) := orU_orU _ _ _
      simp [addB, hi, chA, unA, h1]
    · have e : inA (.ch c p u nm) = false := by show innC c = false; simpa using hi
      have hl : ¬ letB c = true := fun h => hi (let_inn h)
      simp only [List.takeWhile_cons, List.dropWhile_cons, e, Bool.false_eq_true, if_false]
      rw [divF]
      by_cases h6 : kd c = 6
      · simp [addB, hi, hl, h6, shut, orU]
      · simp [addB, hi, hl, h6, shut, orU]
theorem fold_tok (l : List Am) : shut (l.foldl addB bs0) = divF false false l := by rw [fold_div]; rfl
end Go.Proofs
namespace Go.Proofs
open Go Go.Sh Go.RowKit

theorem len5k {α : Type} {l : List α} (h : l.length = 5) : ∃ a b c d e, l = [a, b, c, d, e] := by
  match l, h with
  | [a, b, c, d, e], _ => exact ⟨a, b, c, d, e, rfl⟩
theorem len6k {α : Type} {l : List α} (h : l.length = 6) : ∃ a b c d e f, l = [a, b, c, d, e, f] := by
  match l, h with
  | [a, b, c, d, e, f], _ => exact ⟨a, b, c, d, e, f, rfl⟩
set_option maxRecDepth 20000 in
theorem open_toks {H : Type} {enc : TypeId × Value → H} {w : World} {base : Nat} {sp : Nat → Bool} {hd : Bool} (fuel : Nat) (cs : List Value) (x : DataW H × List MemPlace) (h : DataW.trod enc Tryz.prog w base sp hd fuel 24 cs = some x) :
    ∃ (a : Option Addr) (n c : Nat) (L : List Tok), cs = [.slice a n c] ∧ RowAt encTk (fun _ => True) w a n L := by
  rcases DataW.trod_slice Tryz.underlying24 h with ⟨rfl, _⟩ | ⟨a, len, cap, elems, rest, n, rfl, rfl, _, hb, hl, hm, hel, hall, _⟩
  · exact ⟨none, 0, 0, [], rfl, RowAt.nil _⟩
  have h9 : Tryz.prog.cellsOf 9 = 1 := by kernel_rfl
  have h3 : Tryz.prog.cellsOf 3 = 1 := by kernel_rfl
  have h29 : Tryz.prog.cellsOf 29 = 2 := by kernel_rfl
  have h31 : Tryz.prog.cellsOf 31 = 6 := by kernel_rfl
  obtain ⟨L, hL⟩ := row_build (E := encTk) (w := w) (a := a) (len := len) fun i hi => by
    have hh := hall i hi
    rw [List.getElem?_eq_getElem (by omega)] at hh
    obtain ⟨cs', hc1, hc2⟩ := Option.bind_eq_some_iff.1 hh
    rw [h31] at hc1
    obtain ⟨_, hlen, hcell⟩ := World.cells?_some hc1
    obtain ⟨xs, n', rfl, _, hcl, hxl, hf⟩ := DataW.trod_struct Tryz.underlying31 hc2
    obtain ⟨v0, v1, v2, v3, v4, v5, rfl⟩ := len6k hlen
    obtain ⟨y0, y1, y2, y3, y4, rfl⟩ := len5k (show xs.length = 5 from hxl)
    have g0 := hf 0 _ rfl
    have g1 := hf 1 _ rfl
    have g2 := hf 2 _ rfl
    have g3 := hf 3 _ rfl
    have g4 := hf 4 _ rfl
    try dsimp only at g0
    try simp only [h9] at g0
    try dsimp only at g1
    try simp only [h9] at g1
    try dsimp only at g2
    try simp only [h29] at g2
    try dsimp only at g3
    try simp only [h3] at g3
    try dsimp only at g4
    try simp only [h9] at g4
    obtain ⟨t0, e0, _, _⟩ := DataW.trod_string Tryz.underlying9 g0
    obtain ⟨t1, e1, _, _⟩ := DataW.trod_string Tryz.underlying9 g1
    obtain ⟨m3, e3, _, _⟩ := DataW.trod_int (k := .i64) Tryz.underlying3 g3
    obtain ⟨t4, e4, _, _⟩ := DataW.trod_string Tryz.underlying9 g4
    obtain ⟨zs, n2, rfl, _, hcl2, hzl, hf2⟩ := DataW.trod_struct Tryz.underlying29 g2
    obtain ⟨z0, z1, rfl⟩ := len2 (show zs.length = 2 from hzl)
    have k0 := hf2 0 _ rfl
    have k1 := hf2 1 _ rfl
    try dsimp only at k0
    try simp only [h9] at k0
    try dsimp only at k1
    try simp only [h3] at k1
    obtain ⟨t2, e2, _, _⟩ := DataW.trod_string Tryz.underlying9 k0
    obtain ⟨m2, e5, _, _⟩ := DataW.trod_int (k := .i64) Tryz.underlying3 k1
    simp [h9, h3, h29] at e0 e1 e2 e3 e4 e5
    subst e0 e1 e2 e3 e4 e5
    refine ⟨⟨t0.data.toList, t1.data.toList, (t2.data.toList, m2), m3, t4.data.toList⟩, fun j v hj => ?_⟩
    have hj6 : j < 6 := (List.getElem?_eq_some_iff.1 hj).1
    rw [show i * encTk.size = i * 6 from rfl, hcell j hj6]
    exact hj
  exact ⟨some a, len, cap, L, rfl, hL⟩
end Go.Proofs
namespace Go.Proofs
open Go Go.Sh Go.RowKit

/- the builder of words within the builder of tokens -/
section
attribute [local irreducible] World.shape?
set_option maxRecDepth 20000 in
theorem conv_to1 {w : World} {b : Nat} {j : TypeInfo} (hj : Tryz.prog.info? 75 = some j) (hjs : j.size = 2) (hsh : w.shape? b = some (113, 6)) :
    (convert 72 169 (.pointer (some ⟨b, 1, none⟩))).run Tryz.prog w = .ok (.pointer (some ⟨b, 1, none⟩)) w := by
  simp [convert, run_underlying Tryz.underlying72, run_underlying Tryz.underlying169]
  conv => lhs; whnf
  simp [sem_bind, sem_pure, hsh, cellsIn, sizeOf, typeInfo, hj, hjs]
set_option maxRecDepth 20000 in
theorem conv_from1 {w : World} {b : Nat} {j : TypeInfo} (hj : Tryz.prog.info? 75 = some j) (hsh : w.shape? b = some (113, 6)) :
    (convert 169 72 (.pointer (some ⟨b, 1, none⟩))).run Tryz.prog w = .ok (.pointer (some ⟨b, 1, none⟩)) w := by
  have hl : liesAt Tryz.prog Tryz.prog.depth 113 (6 / Tryz.prog.cellsOf 113) 1 75 1 = true := by kernel_rfl
  simp [convert, run_underlying Tryz.underlying72, run_underlying Tryz.underlying169]
  conv => lhs; whnf
  simp [sem_bind, sem_pure, hsh, sizeOf, typeInfo, hj, variablesAt, hl]
end
set_option maxRecDepth 100000 in
theorem copyCheck1_used (b : Nat) (w : World) (h0 : w.cell? ⟨b, 1, none⟩ = some (.pointer (some ⟨b, 1, none⟩))) :
    Calls Tryz.prog 104 #[.pointer (some ⟨b, 1, none⟩)] w fun e w' => e = .returned (.tuple #[]) ∧ w' = w := by
  obtain ⟨j, hj, _⟩ := Option.map_eq_some_iff.1 (show (Tryz.prog.info? 75).map (·.size) = some 2 by kernel_rfl)
  go_enter Tryz.func104, Tryz.ntmps104
  go_wp2
  rw [Lib.run_neq_ptr_same w _ Tryz.underlying72 hj]
  go_wp2
  go_end0
  exact ⟨rfl, rfl⟩
set_option maxRecDepth 100000 in
theorem copyCheck1_fresh (b : Nat) (w : World) (h0 : w.cell? ⟨b, 1, none⟩ = some (.pointer none)) (hsh : w.shape? b = some (113, 6)) (hfz : w.frozen? ⟨b, 1, none⟩ = false) :
    Calls Tryz.prog 104 #[.pointer (some ⟨b, 1, none⟩)] w fun e w' => e = .returned (.tuple #[]) ∧ w' = w.setCell ⟨b, 1, none⟩ (.pointer (some ⟨b, 1, none⟩)) := by
  obtain ⟨j, hj, hjs⟩ := Option.map_eq_some_iff.1 (show (Tryz.prog.info? 75).map (·.size) = some 2 by kernel_rfl)
  go_enter Tryz.func104, Tryz.ntmps104
  go_wp2
  rw [conv_to1 hj hjs hsh]
  simp only [Result.andThen]
  rw [Oper.upon_value]
  go_wp2
  rw [run_callFunc_extern Tryz.func147 (by kernel_rfl) (by kernel_rfl) (by kernel_rfl) (e := Extern.AbiNoEscape.same) (by kernel_rfl)]
  rw [Lib.run_noEscape]
  simp only [Result.andThen]
  rw [Oper.upon_value]
  go_wp2
  rw [conv_from1 hj hsh]
  simp only [Result.andThen]
  rw [Oper.upon_value]
  go_wp2
  go_end0
  exact ⟨rfl, rfl⟩
theorem freeze_chg (w : World) (g : Nat) (n : Nat) : Chg (fun k => k = g) w (w.freeze ⟨g, 0, none⟩ n) := by
  unfold World.freeze
  split
  · exact Chg.refl _ _
  · exact ⟨rfl, rfl, rfl, by simp, fun k _ hk => by simp only [Array.getElem?_modify]; rw [if_neg (fun e => hk e.symm)]⟩
set_option maxHeartbeats 1000000 in
set_option maxRecDepth 100000 in
theorem String1_spec (b g cap : Nat) (cur : Array Value) (l : List UInt8) (w : World) (h0 : l ≠ []) (h1 : w.cell? ⟨b, 2, none⟩ = some (.slice (some ⟨g, 0, none⟩) l.length cap)) (hg : w.heap[g]? = some (.cells cur 5 (0, 0)))
    (hnc : l.length ≤ cap) (hcm : cap ≤ maxLen) (hcs : cur.size = cap) (htake : cur.toList.take l.length = Lib.byteCells l) :
    Calls Tryz.prog 48 #[.pointer (some ⟨b, 1, none⟩)] w fun e w' => e = .returned (.string ⟨l.toArray⟩) ∧ Chg (fun k => k = g) w w' := by
  have hl0 : l.length ≠ 0 := by simpa using h0
  have c1 : w.drew.cell? ⟨b, 2, none⟩ = some (.slice (some ⟨g, 0, none⟩) l.length cap) := h1
  have hSD : (Builtin.unsafeSliceData_ #[73] 129 #[.slice (some ⟨g, 0, none⟩) l.length cap]).run Tryz.prog w.drew = .ok (.pointer (some ⟨g, 0, none⟩)) w.drew :=
    Lib.run_unsafeSliceData_row _ _ _ _ _ _ (by omega)
  have hUS : (Builtin.unsafeString_ #[129, 3] 9 #[.pointer (some ⟨g, 0, none⟩), .int .i64 l.length]).run Tryz.prog w.drew = .ok (.string ⟨l.toArray⟩) (w.drew.freeze ⟨g, 0, none⟩ l.length) := by
    refine Lib.run_unsafeString_row w.drew 129 3 9 5 Tryz.underlying129 (by kernel_rfl) g cur.size (by have hg' : w.drew.heap[g]? = some (.cells cur 5 (0, 0)) := hg; simp [World.shape?, hg']) l h0 (by omega) (by unfold maxLen at hcm; omega) ?_
    intro j x hx
    have hj : j < l.length := (List.getElem?_eq_some_iff.1 hx).1
    have hc : w.drew.cell? ⟨g, j, none⟩ = cur[j]? := by
      have hg' : w.drew.heap[g]? = some (.cells cur 5 (0, 0)) := hg
      simp [World.cell?, hg']
    rw [add_none, Nat.zero_add, hc]
    have : (cur.toList.take l.length)[j]? = some (.int .u8 x.toNat) := by rw [htake]; simp [Lib.byteCells, hx]
    rw [List.getElem?_take, if_pos hj] at this
    simpa using this
  have mixed : Tryz.prog.follows .mixedOrders = true := by kernel_rfl
  go_enter Tryz.func48, Tryz.ntmps48
  go_wp2
  go_region_o
  all_goals (go_wp2; go_ret; exact ⟨rfl, (Chg.drew w).trans (freeze_chg w.drew g _)⟩)

/- the builder of tokens in its block -/
abbrev bsCells (oa : Option Addr) (on oc : Nat) (p : Value) (wa : Option Addr) (wl wc : Nat) (op j v : Bool) : List Value := [.slice oa on oc, p, .slice wa wl wc, .bool op, .bool j, .bool v]
structure BsAt (w : World) (b : Nat) (oa wa : Option Addr) (l : List Tok) (s : List UInt8) (op j v : Bool) (p : Value) (oc wc : Nat) : Prop where
  blk : Blk w b (bsCells oa l.length oc p wa s.length wc op j v) 113
  p : p = .pointer none ∨ p = .pointer (some ⟨b, 1, none⟩)
  out : OwnL encTk w (b + 1) 31 oa l.length oc l
  word : Owns w (b + 1) 5 1 wa s.length wc (Lib.byteCells s)
section
variable {w w' : World} {b : Nat} {oa wa : Option Addr} {l : List Tok} {s : List UInt8} {op j v : Bool} {p : Value} {oc wc : Nat} {R : Ending → World → Prop}
theorem BsAt.apart (h : BsAt w b oa wa l s op j v p oc wc) : ∀ k, bk oa k → ¬ bk wa k := by
  intro k h1 h2
  rcases h.out.2 with ho | ⟨g, cap, cur, e1, e2, e3, _⟩
  · simp at ho; rw [ho.1.1] at h1; simp [bk] at h1
  rcases h.word.2 with hw | ⟨g', cap', cur', f1, f2, f3, _⟩
  · simp at hw; rw [hw.1.1] at h2; simp [bk] at h2
  have q1 : oa = some ⟨g, 0, none⟩ := by simpa using (Value.slice.inj e1).1
  have q2 : wa = some ⟨g', 0, none⟩ := by simpa using (Value.slice.inj f1).1
  rw [q1] at h1
  rw [q2] at h2
  simp [bk] at h1 h2
  subst h1
  subst h2
  rw [e3] at f3
  simp at f3
theorem BsAt.bkO (h : BsAt w b oa wa l s op j v p oc wc) {k : Nat} (hk : bk oa k) : b < k ∧ k < w.heap.size := by have := h.out.bk hk; omega
theorem BsAt.bkW (h : BsAt w b oa wa l s op j v p oc wc) {k : Nat} (hk : bk wa k) : b < k ∧ k < w.heap.size := by have := h.word.bk hk; omega
theorem BsAt.lt (h : BsAt w b oa wa l s op j v p oc wc) : b < w.heap.size := h.blk.lt
theorem BsAt.chg {S : Nat → Prop} (h : BsAt w b oa wa l s op j v p oc wc) (hc : Chg S w w') (h1 : ¬ S b) (h2 : ∀ k, bk oa k → ¬ S k) (h3 : ∀ k, bk wa k → ¬ S k) : BsAt w' b oa wa l s op j v p oc wc :=
  ⟨hc.blk h.blk h1, h.p, h.out.chg hc h2, h.word.chg hc h3⟩
theorem BsAt.ext (h : BsAt w b oa wa l s op j v p oc wc) (hc : Ext w w') : BsAt w' b oa wa l s op j v p oc wc :=
  h.chg (S := fun _ => False) (.of_ext hc) (fun h => h) (fun _ _ h => h) (fun _ _ h => h)
/- writing one cell of the block -/
theorem BsAt.cells (h : BsAt w b oa wa l s op j v p oc wc) : w.cell? ((⟨b, 0, none⟩ : Addr).add 0) = some (.slice oa l.length oc) ∧ w.cell? ((⟨b, 0, none⟩ : Addr).add 3) = some (.bool op) ∧ w.cell? ((⟨b, 0, none⟩ : Addr).add 4) = some (.bool j) ∧ w.cell? ((⟨b, 0, none⟩ : Addr).add 5) = some (.bool v) := by
  simp only [add_none, h.blk.cell]; exact ⟨rfl, rfl, rfl, rfl⟩
theorem blk_set {w : World} {b i : Nat} {T : TypeId} {cs : List Value} {u : Value} (hb : Blk w b cs T) (hi : i < cs.length) (hu : u.oneCell' = true) {K : World → Prop}
    (h : ∀ w', Blk w' b (cs.set i u) T → Chg (fun k => k = b) w w' → w'.heap.size = w.heap.size → K w') : stL w ((⟨b, 0, none⟩ : Addr).add i) 0 [u] K := by
  rw [add_none]
  refine stL_blk hb (by simp; omega) (by intro x hx; rw [List.mem_singleton.1 hx]; exact hu) fun w' b1 x2 x3 x4 x5 x6 => ?_
  have e : putAt cs (0 + i + 0) [u] = cs.set i u := by rw [Nat.zero_add, Nat.add_zero]; rfl
  rw [e] at b1
  exact h w' b1 ⟨x4, x5, x6, by omega, fun j _ hj => x2 j hj⟩ x3
theorem BsAt.setOp (h : BsAt w b oa wa l s op j v p oc wc) (op' : Bool) {K : World → Prop} (hk : ∀ w', BsAt w' b oa wa l s op' j v p oc wc → Chg (fun k => k = b) w w' → w'.heap.size = w.heap.size → K w') : stL w ((⟨b, 0, none⟩ : Addr).add 3) 0 [.bool op'] K :=
  blk_set h.blk (by simp) rfl fun w' b1 hc hs => hk w' ⟨b1, h.p, h.out.chg hc fun k hk hh => by have := h.bkO hk; omega, h.word.chg hc fun k hk hh => by have := h.bkW hk; omega⟩ hc hs
theorem BsAt.setJ (h : BsAt w b oa wa l s op j v p oc wc) (j' : Bool) {K : World → Prop} (hk : ∀ w', BsAt w' b oa wa l s op j' v p oc wc → Chg (fun k => k = b) w w' → w'.heap.size = w.heap.size → K w') : stL w ((⟨b, 0, none⟩ : Addr).add 4) 0 [.bool j'] K :=
  blk_set h.blk (by simp) rfl fun w' b1 hc hs => hk w' ⟨b1, h.p, h.out.chg hc fun k hk hh => by have := h.bkO hk; omega, h.word.chg hc fun k hk hh => by have := h.bkW hk; omega⟩ hc hs
theorem BsAt.setV (h : BsAt w b oa wa l s op j v p oc wc) (v' : Bool) {K : World → Prop} (hk : ∀ w', BsAt w' b oa wa l s op j v' p oc wc → Chg (fun k => k = b) w w' → w'.heap.size = w.heap.size → K w') : stL w ((⟨b, 0, none⟩ : Addr).add 5) 0 [.bool v'] K :=
  blk_set h.blk (by simp) rfl fun w' b1 hc hs => hk w' ⟨b1, h.p, h.out.chg hc fun k hk hh => by have := h.bkO hk; omega, h.word.chg hc fun k hk hh => by have := h.bkW hk; omega⟩ hc hs
theorem slT_tok : SlT Tryz.prog 24 31 6 80 (.agg #[.string ⟨#[]⟩, .string ⟨#[]⟩, .string ⟨#[]⟩, .int .i64 0, .int .i64 0, .string ⟨#[]⟩]) := ⟨by kernel_rfl, by kernel_rfl, rfl, by decide⟩
/- writing one byte -/
theorem WriteByte1_spec (h : BsAt w b oa wa l s op j v p oc wc) (c : UInt8) (hlen : s.length ≤ 1000000000)
    (hk : ∀ wa' wc' w', BsAt w' b oa wa' l (s ++ [c]) op j v (.pointer (some ⟨b, 1, none⟩)) oc wc' → Chg (fun k => k = b ∨ bk wa k) w w' → (∀ k, bk wa' k → bk wa k ∨ w.heap.size ≤ k) → R (.returned .nilIface) w') :
    Calls Tryz.prog F_strings_Builder_WriteByte ⟨[.pointer (some ⟨b, 1, none⟩), .int .u8 (c.toNat : Int)]⟩ w R := by
  apply c_strings_Builder_WriteByte
  have hbl := h.lt
  have main : ∀ w1, BsAt w1 b oa wa l s op j v (.pointer (some ⟨b, 1, none⟩)) oc wc → Chg (· = b) w w1 → w1.heap.size = w.heap.size →
      (dr (some ⟨b, 1, none⟩) fun p5 =>
  ∃ (x6 : Option Addr) (x6n : Nat) (x6c : Nat), World.cell? w1 (p5.add 1) = some (.slice x6 x6n x6c) ∧ (al w1 5 [.int .u8 (c.toNat : Int)] fun p7 w8 =>
  app Tryz.prog [73, 73] 73 (.slice x6 x6n x6c) (.slice (some p7) 1 1) w8 fun a9 a9n a9c w10 =>
  dr (some ⟨b, 1, none⟩) fun p11 =>
  stL w10 (p11.add 1) 0 [.slice a9 a9n a9c] fun w12 =>
  R (.returned (.nilIface)) w12)) := by
    intro w1 q1 q3 q4
    refine dr_ok ⟨wa, s.length, wc, by rw [add_none, q1.blk.cell]; rfl, ?_⟩
    refine app_one2 slT_byte q1.word (by have := q1.lt; omega) [.int .u8 (c.toNat : Int)] rfl (by intro u hu; rw [List.mem_singleton.1 hu]; rfl) (by omega) (by omega) fun a' c'' w2 ho hc hn => dr_ok ?_
    have q5 := hc.blk q1.blk (fun hh => by have := q1.bkW hh; omega)
    have e : s.length + 1 = (s ++ [c]).length := by simp
    have eb : Lib.byteCells (s ++ [c]) = Lib.byteCells s ++ [.int .u8 (c.toNat : Int)] := by simp [Lib.byteCells]
    have q6 := q1.out.chg hc fun k hk hh => q1.apart k hk hh
    rw [add_none]
    refine stL_blk q5 (by simp) (by simp [Value.oneCell']) fun w3 r1 r2 r3 r4 r5 r6 => ?_
    have hw23 : Chg (· = b) w2 w3 := ⟨r4, r5, r6, by omega, fun k _ hk => r2 k hk⟩
    have hnb' : ∀ k, bk a' k → ¬ k = b := fun k hk he => by have := (ho.bk hk).1; omega
    refine hk a' c'' w3 ⟨?_, .inr rfl, q6.chg hw23 fun k hk he => by have := q1.bkO hk; omega, ?_⟩ ?_ (fun k hk => (hn k hk).imp id (by omega))
    · rw [← e]; exact r1
    · rw [← e, eb]; exact ho.chg hw23 hnb'
    · exact ((q3.mono fun k _ h => .inl h).trans (hc.mono fun k _ h => .inr h)).trans (hw23.mono fun k _ h => .inl h)
  rcases h.p with rfl | rfl
  · refine (copyCheck1_fresh b w (by rw [h.blk.cell]; rfl) (by simp [World.shape?, show w.heap[b]? = _ from h.blk]) (h.blk.frozen 1)).mono ?_
    rintro e w' ⟨rfl, rfl⟩
    have hset := h.blk.set 1 (.pointer (some ⟨b, 1, none⟩))
    have hc : Chg (· = b) w (w.setCell ⟨b, 1, none⟩ (.pointer (some ⟨b, 1, none⟩))) :=
      ⟨rfl, rfl, rfl, by simp, fun k _ hk => by simp only [World.setCell, Array.getElem?_modify]; rw [if_neg (fun e => hk e.symm)]⟩
    exact ⟨rfl, main _ ⟨hset, .inr rfl, h.out.chg hc fun k hk he => by have := h.bkO hk; omega, h.word.chg hc fun k hk he => by have := h.bkW hk; omega⟩ hc (by simp)⟩
  · refine (copyCheck1_used b w (by rw [h.blk.cell]; rfl)).mono ?_
    rintro e w' ⟨rfl, rfl⟩
    exact ⟨rfl, main _ h (Chg.refl _ _) rfl⟩
end
end Go.Proofs
