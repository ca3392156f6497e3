/- The contracts of the functions that the law reaches, one after the other, and at the end the law's card. -/
import Derived.Test.YtpnhhkjagkajoaaGreatDoorLawA
import Derived.Lib.AtoiAll
import Derived.Lib.ItoaNum
import Derived.Lib.IndexAny
import Derived.Lib.IndexMore
import Derived.Lib.Strings
import Derived.Laws.Runes
import Derived.Laws.RangeString
import Derived.Laws.Strings3
import Derived.Scope
import Derived.WalkMore
import Derived.LoopN
import Derived.WalkSmall
import Derived.Deep.QuietTactic
import Derived.BigQuiet
import Derived.Lib.IndexBytes
import Derived.Deep.LoopGhost
namespace Go.Sh
open Go Go.RowKit

/- an iterator whose caller's body may write blocks of its own, new ones among them: S, as it stands -/
def IterO {α : Type} (P : Program) (gf : FuncId) (cap : List Value) (xs : List α) (E : α → List Value → Prop) (Rd : Nat → Prop) (w : World) : Prop :=
  ∀ (yf : Fn) (ya yb : Array Value) (S0 : Nat → Prop) (J : List α → (Nat → Prop) → World → Prop) (Jx : (Nat → Prop) → World → Prop) (R : Ending → World → Prop),
    (∀ k, S0 k → k < w.heap.size ∧ ¬ Rd k) →
    (∀ pre S W W', J pre S W → Chg (fun k => w.heap.size ≤ k ∧ ¬ S k) W W' → J pre S W') → (∀ S W W', Jx S W → Chg (fun k => w.heap.size ≤ k ∧ ¬ S k) W W' → Jx S W') →
    (∀ pre x vs S W, E x vs → pre ++ [x] <+: xs → w.heap.size ≤ W.heap.size → (∀ k, S k → k < W.heap.size ∧ ¬ Rd k) → J pre S W → CallV P (.func yf ya yb) vs W fun e W' => Chg S W W' ∧
      ∃ S' : Nat → Prop, (∀ k, S' k → (S k ∨ W.heap.size ≤ k) ∧ k < W'.heap.size) ∧ ((e = .returned (.bool true) ∧ J (pre ++ [x]) S' W') ∨ (e = .returned (.bool false) ∧ Jx S' W'))) →
    J [] S0 w → (∀ S W, w.heap.size ≤ W.heap.size → J xs S W → R (.returned (.tuple ⟨[]⟩)) W) → (∀ S W, w.heap.size ≤ W.heap.size → Jx S W → R (.returned (.tuple ⟨[]⟩)) W) →
    Calls P gf ⟨.func yf ya yb :: cap⟩ w R
theorem IterO.mono {α : Type} {P : Program} {gf : FuncId} {cap : List Value} {xs : List α} {E E' : α → List Value → Prop} {Rd : Nat → Prop} {w : World} (h : IterO P gf cap xs E Rd w) (hE : ∀ x vs, E x vs → E' x vs) : IterO P gf cap xs E' Rd w :=
  fun yf ya yb S0 J Jx R hS hJ hJx hbody h0 h1 h2 => h yf ya yb S0 J Jx R hS hJ hJx (fun pre x vs S W he => hbody pre x vs S W (hE _ _ he)) h0 h1 h2

theorem RFw_lawO {α : Type} {P : Program} {N : Nat} {g : Operand} {ps : Array Tmp} {assign body : Code} {env : Env} {ds : List Deferred} {w : World} {x : Nat} {Qn Qr Qx : List Deferred → World → Prop}
    (xA xB : Ann) {gf : FuncId} {cap : List Value} (hg : ev env g = .func (.func gf) ⟨[]⟩ ⟨cap⟩) (hok : okFn P gf = true)
    {xs : List α} {E : α → List Value → Prop} {Rd : Nat → Prop} (hit : ∀ w1, Ext w w1 → IterO P gf cap xs E Rd w1)
    (hps : ∀ y vs, E y vs → vs.length = ps.size) (hpN : ∀ p ∈ ps.toList, p < N)
    (hRd : ∀ k, Rd k → k < w.heap.size) (S0 : Nat → Prop) (hS : ∀ k, S0 k → k < w.heap.size ∧ ¬ Rd k)
    (I : List α → (Nat → Prop) → World → Prop) (Kr Kx : (Nat → Prop) → World → Prop)
    (hI : ∀ pre S W W', I pre S W → Chg (fun k => w.heap.size ≤ k ∧ ¬ S k) W W' → I pre S W')
    (hKr : ∀ S W W', Kr S W → Chg (fun k => w.heap.size ≤ k ∧ ¬ S k) W W' → Kr S W') (hKx : ∀ S W W', Kx S W → Chg (fun k => w.heap.size ≤ k ∧ ¬ S k) W W' → Kx S W')
    (h0 : I [] S0 w)
    (hround : ∀ pre y vs S W l, E y vs → pre ++ [y] <+: xs → w.heap.size ≤ l → l < W.heap.size → ¬ S l → (∀ k, S k → k < W.heap.size ∧ ¬ Rd k) → I pre S W →
      fragV P N xA xB assign body l x (fun W2 W' => Chg (fun k => S k ∨ W.heap.size ≤ k) W2 W' ∧ ∃ S' : Nat → Prop, (∀ k, S' k → (S k ∨ W.heap.size ≤ k) ∧ k < W'.heap.size) ∧ I (pre ++ [y]) S' W')
        (fun W2 W' => Chg (fun k => S k ∨ W.heap.size ≤ k) W2 W' ∧ ∃ S' : Nat → Prop, (∀ k, S' k → (S k ∨ W.heap.size ≤ k) ∧ k < W'.heap.size) ∧ Kr S' W')
        (fun W2 W' => Chg (fun k => S k ∨ W.heap.size ≤ k) W2 W' ∧ ∃ S' : Nat → Prop, (∀ k, S' k → (S k ∨ W.heap.size ≤ k) ∧ k < W'.heap.size) ∧ Kx S' W') (updPs ps.toList vs env) W)
    (hn : ∀ D S W, w.heap.size ≤ D → D < W.heap.size → ¬ S D → W.heap[D]? = some (.deferred (some [])) → I xs S W → Qn ({ target := .collected D, args := #[] } :: ds) W)
    (hr : ∀ D S W, w.heap.size ≤ D → D < W.heap.size → ¬ S D → W.heap[D]? = some (.deferred (some [])) → Kr S W → Qr ({ target := .collected D, args := #[] } :: ds) W)
    (hx : ∀ D S W, w.heap.size ≤ D → D < W.heap.size → ¬ S D → W.heap[D]? = some (.deferred (some [])) → Kx S W → Qx ({ target := .collected D, args := #[] } :: ds) W) :
    RFw P none N (.rangeFunc g ps assign body) env ds w x Qn Qr Qx := by
  intro a ha hd
  refine wpIn_rangeFunc fun fn _ => ?_
  let rec0 : Loop := { state := .ready, pending := none, fn, tmps := a.tmps, params := ps, assign, body, defers := w.heap.size }
  let w1 : World := (w.alloc (.deferred (some []))).alloc (.loop rec0)
  have hw1 : w1.heap.size = w.heap.size + 2 := by simp [w1]
  have hext : Ext w w1 := ((Below.refl _ w).alloc (Nat.le_refl _) _).alloc (by simp) _
  have hD1 : w1.heap[w.heap.size]? = some (.deferred (some [])) := by
    show ((w.alloc _).alloc _).heap[w.heap.size]? = _
    rw [Below.heap_alloc _ _ _ (by simp), World.alloc_heap_new]
  have hl1 : w1.heap[w.heap.size + 1]? = some (.loop rec0) := by
    have := World.alloc_heap_new (w.alloc (.deferred (some []))) (.loop rec0)
    simpa [w1] using this
  have hgv : a.eval g = .func (.func gf) ⟨[]⟩ ⟨cap⟩ := by rw [ha.ev]; exact hg
  refine ⟨w.heap.size + 1, [{ target := .collected w.heap.size, args := #[] }], w1, { target := .fn (.func gf) ⟨cap⟩, args := #[.func (.yield (w.heap.size + 1)) #[] #[]] }, w1, gf,
    ⟨.func (.yield (w.heap.size + 1)) #[] #[] :: cap⟩, w1, run_enterLoop_outer fn a.tmps ps assign body, ?_, fun _ _ => trivial, ?_, fun h => by simp [Fr, Fence.wide] at h, ?_⟩
  · have em : Array.map a.eval #[Operand.const (.func (.yield (w.heap.size + 1)) #[] #[])] = #[.func (.yield (w.heap.size + 1)) #[] #[]] := by simp [Act.eval]
    simp only [resolve, rangeCall, hgv, Deferred.ofValue, em]
    simp
  · have e : (#[.func (.yield (w.heap.size + 1)) #[] #[]] : Array Value) ++ (⟨cap⟩ : Array Value) = ⟨.func (.yield (w.heap.size + 1)) #[] #[] :: cap⟩ := by apply Array.ext'; simp
    simp only [invoke, e]
    exact callFunc_run _ w1 hok
  · show CallsIn Fence.wide 0 P gf _ w1 _
    refine callsIn_wide.2 ?_
    refine hit w1 hext (.yield (w.heap.size + 1)) #[] #[] (fun k => S0 k ∨ k = w.heap.size + 1)
      (fun pre S W => ∃ Sb : Nat → Prop, (∀ k, S k ↔ Sb k ∨ k = w.heap.size + 1) ∧ ¬ Sb (w.heap.size + 1) ∧ ¬ Sb w.heap.size ∧ I pre Sb W ∧ W.heap[w.heap.size + 1]? = some (.loop rec0) ∧ W.heap[w.heap.size]? = some (.deferred (some [])))
      (fun S W => ∃ Sb : Nat → Prop, (∀ k, S k ↔ Sb k ∨ k = w.heap.size + 1) ∧ ¬ Sb (w.heap.size + 1) ∧ ¬ Sb w.heap.size ∧ W.heap[w.heap.size]? = some (.deferred (some [])) ∧ ((W.heap[w.heap.size + 1]? = some (.loop { rec0 with state := .done, pending := some .ret }) ∧ Kr Sb W) ∨
        (W.heap[w.heap.size + 1]? = some (.loop { rec0 with state := .done, pending := some (.exit x) }) ∧ Kx Sb W)))
      _ (fun k hk => hk.elim (fun h => ⟨by have := (hS k h).1; omega, (hS k h).2⟩) (fun h => ⟨by omega, fun hr => by have := hRd k hr; omega⟩)) ?_ ?_ ?_
      ⟨S0, fun k => Iff.rfl, fun h => by have := (hS _ h).1; omega, fun h => by have := (hS _ h).1; omega, hI _ _ _ _ h0 (.of_ext hext), hl1, hD1⟩ ?_ ?_
    · rintro pre S W W' ⟨Sb, hb1, hb2, hb3, h1, h2, h3⟩ hc
      have hlt := (Array.getElem?_eq_some_iff.1 h2).1
      have hlt' := (Array.getElem?_eq_some_iff.1 h3).1
      exact ⟨Sb, hb1, hb2, hb3, hI _ _ _ _ h1 (hc.mono fun k _ hk => ⟨by omega, fun hh => hk.2 ((hb1 k).2 (.inl hh))⟩), (hc.block _ hlt (by omega)).trans h2, (hc.block _ hlt' (by omega)).trans h3⟩
    · rintro S W W' ⟨Sb, hb1, hb2, hb3, h3, h⟩ hc
      have hlt' := (Array.getElem?_eq_some_iff.1 h3).1
      have hc' : Chg (fun k => w.heap.size ≤ k ∧ ¬ Sb k) W W' := hc.mono fun k _ hk => ⟨by omega, fun hh => hk.2 ((hb1 k).2 (.inl hh))⟩
      refine ⟨Sb, hb1, hb2, hb3, (hc.block _ hlt' (by omega)).trans h3, ?_⟩
      rcases h with ⟨h1, h2⟩ | ⟨h1, h2⟩
      · exact .inl ⟨(hc.block _ (Array.getElem?_eq_some_iff.1 h1).1 (by omega)).trans h1, hKr _ _ _ h2 hc'⟩
      · exact .inr ⟨(hc.block _ (Array.getElem?_eq_some_iff.1 h1).1 (by omega)).trans h1, hKx _ _ _ h2 hc'⟩
    · rintro pre y vs S W hE hpre hsz hSW ⟨Sb, hb1, hb2, hb3, h1, h2, h3⟩
      have hlt := (Array.getElem?_eq_some_iff.1 h2).1
      have hlt' := (Array.getElem?_eq_some_iff.1 h3).1
      refine ⟨_, _, _, _, run_yield h2 (by simp [rec0, hps y vs hE]), ?_⟩
      have hfr := hround pre y vs Sb W (w.heap.size + 1) hE hpre (by omega) hlt hb2 (fun k hk => hSW k ((hb1 k).2 (.inl hk))) h1
      have hrep : Rep N (updPs ps.toList (vs) env) { tmps := (ps.toList.zip (vs)).foldl (fun t (p, v) => t.setIfInBounds p v) a.tmps, defers := [] } :=
        foldl_rep _ _ _ _ ⟨ha.1, ha.2⟩ hpN
      have ezip : (ps.zip (⟨(#[] : Array Value).toList ++ vs⟩ : Array Value)).foldl (fun t (x : Nat × Value) => t.setIfInBounds x.1 x.2) a.tmps = (ps.toList.zip (vs)).foldl (fun t (p, v) => t.setIfInBounds p v) a.tmps := by
        rw [← Array.foldl_toList]
        simp [Array.toList_zip]
      refine roundIn_of_wpIn (F := Fence.wide) (l := w.heap.size + 1) trivial ?_
      show assign.wpIn (Fr (some (w.heap.size + 1))) 0 P _ _ W
      have hva := vc_sound xA assign hfr hrep rfl
      refine wpIn_mono (Eq.mp (by rw [← ezip]) hva) fun e a1 W1 hh => ?_
      obtain ⟨env1, r1, q1, _⟩ := hh
      cases e with
      | normal =>
        obtain ⟨e1, q1⟩ := q1
        have hl' : W1.heap[w.heap.size + 1]? = some (.loop rec0) := (e1.block _ hlt).trans h2
        have hD' : W1.heap[w.heap.size]? = some (.deferred (some [])) := (e1.block _ hlt').trans h3
        refine ⟨_, run_beginRound hl' rfl, ?_⟩
        have hl2 : (W1.putObj (w.heap.size + 1) (.loop { rec0 with state := .busy })).heap[w.heap.size + 1]? = some (.loop { rec0 with state := .busy }) :=
          World.putObj_heap_same (Array.getElem?_eq_some_iff.1 hl').1
        have hD2 : (W1.putObj (w.heap.size + 1) (.loop { rec0 with state := .busy })).heap[w.heap.size]? = some (.deferred (some [])) := (World.putObj_heap_other (by omega)).trans hD'
        have hq := q1 _ (Upd.put (w.heap.size + 1) W1 (.loop { rec0 with state := .busy }))
        have hvb := vc_sound xB body hq r1 rfl
        have hlt1 := (Array.getElem?_eq_some_iff.1 hl').1
        have hWW2 : Chg S W (W1.putObj (w.heap.size + 1) (.loop { rec0 with state := .busy })) :=
          (Chg.of_ext e1).trans (Chg.put _ _ _ ((hb1 _).2 (.inr rfl)))
        generalize W1.putObj (w.heap.size + 1) (.loop { rec0 with state := .busy }) = W2 at hl2 hD2 hvb hWW2 ⊢
        refine wpIn_mono hvb fun e' a' W' hh' => ?_
        obtain ⟨env2, r2, q2, _⟩ := hh'
        have nS : ¬ (Sb (w.heap.size + 1) ∨ W.heap.size ≤ w.heap.size + 1) := fun h => h.elim hb2 (by omega)
        have nS' : ¬ (Sb w.heap.size ∨ W.heap.size ≤ w.heap.size) := fun h => h.elim hb3 (by omega)
        have fin : ∀ (jump : Option Code) (st : LoopState), Chg (fun k => Sb k ∨ W.heap.size ≤ k) W2 W' → ∀ S' : Nat → Prop, (∀ k, S' k → (Sb k ∨ W.heap.size ≤ k) ∧ k < W'.heap.size) → ∀ Z, Z = W'.putObj (w.heap.size + 1) (.loop { rec0 with state := st, pending := jump }) →
            Chg S W Z ∧ (∀ k, (S' k ∨ k = w.heap.size + 1) → (S k ∨ W.heap.size ≤ k) ∧ k < Z.heap.size) ∧ ¬ S' (w.heap.size + 1) ∧ ¬ S' w.heap.size ∧ Z.heap[w.heap.size + 1]? = some (.loop { rec0 with state := st, pending := jump }) ∧ Z.heap[w.heap.size]? = some (.deferred (some [])) ∧
            Chg (fun k => w.heap.size ≤ k ∧ ¬ S' k) W' Z := by
          intro jump st hc S' hS' Z hZ
          have hl3 := (hc.block _ (Array.getElem?_eq_some_iff.1 hl2).1 nS).trans hl2
          have hD3 := (hc.block _ (Array.getElem?_eq_some_iff.1 hD2).1 nS').trans hD2
          have n1 : ¬ S' (w.heap.size + 1) := fun hh => nS (hS' _ hh).1
          have n2 : ¬ S' w.heap.size := fun hh => nS' (hS' _ hh).1
          have l3 := (Array.getElem?_eq_some_iff.1 hl3).1
          subst hZ
          refine ⟨?_, ?_, n1, n2, World.putObj_heap_same l3, (World.putObj_heap_other (by omega)).trans hD3, Chg.put _ _ _ ⟨by omega, n1⟩⟩
          · have hW2' : Chg S W W' := ⟨hc.os.trans hWW2.os, hc.tape.trans hWW2.tape, hc.output.trans hWW2.output, Nat.le_trans hWW2.size hc.size,
              fun k hk hn => (hc.block k (Nat.lt_of_lt_of_le hk hWW2.size) (fun hh => hh.elim (fun h => hn ((hb1 k).2 (.inl h))) (fun h => by omega))).trans (hWW2.block k hk hn)⟩
            exact hW2'.trans (Chg.put _ _ _ ((hb1 _).2 (.inr rfl)))
          · rintro k (hk | rfl)
            · exact ⟨(hS' k hk).1.imp (fun h => (hb1 k).2 (.inl h)) id, by simpa using (hS' k hk).2⟩
            · exact ⟨.inl ((hb1 _).2 (.inr rfl)), by simpa using l3⟩
        have hrec : ∀ (jump : Option Code), Chg (fun k => Sb k ∨ W.heap.size ≤ k) W2 W' → (Instr.endRound (w.heap.size + 1) jump).run P W' = .ok (.bool jump.isNone) (W'.putObj (w.heap.size + 1) (.loop { rec0 with state := if jump.isNone then .ready else .done, pending := jump })) := by
          intro jump hc
          exact run_endRound (r := { rec0 with state := .busy }) jump ((hc.block _ (Array.getElem?_eq_some_iff.1 hl2).1 nS).trans hl2)
        cases e' with
        | normal =>
          obtain ⟨hc, S', hS', hi⟩ := q2
          obtain ⟨f1, f2, f3, f4, f5, f6, f7⟩ := fin none .ready hc S' hS' _ rfl
          exact ⟨_, _, hrec none hc, f1, _, f2, .inl ⟨rfl, S', fun k => Iff.rfl, f3, f4, hI _ _ _ _ hi f7, f5, f6⟩⟩
        | ret =>
          obtain ⟨hc, S', hS', hi⟩ := q2
          obtain ⟨f1, f2, f3, f4, f5, f6, f7⟩ := fin (some .ret) .done hc S' hS' _ rfl
          exact ⟨_, _, hrec (some .ret) hc, f1, _, f2, .inr ⟨rfl, S', fun k => Iff.rfl, f3, f4, f6, .inl ⟨f5, hKr _ _ _ hi f7⟩⟩⟩
        | exit i =>
          simp only [fragQ] at q2
          cases hb : Nat.beq i x <;> rw [hb] at q2
          · exact q2.elim
          have hix := Nat.eq_of_beq_eq_true hb
          subst hix
          obtain ⟨hc, S', hS', hi⟩ := q2
          obtain ⟨f1, f2, f3, f4, f5, f6, f7⟩ := fin (some (.exit i)) .done hc S' hS' _ rfl
          exact ⟨_, _, hrec (some (.exit i)) hc, f1, _, f2, .inr ⟨rfl, S', fun k => Iff.rfl, f3, f4, f6, .inr ⟨f5, hKx _ _ _ hi f7⟩⟩⟩
        | goto l => exact q2.elim
        | panic c => exact q2.elim
        | outgrown => exact q2.elim
      | exit i => exact q1.elim
      | ret => exact q1.elim
      | goto t => exact q1.elim
      | panic c => exact q1.elim
      | outgrown => exact q1.elim
    · rintro S W hsz ⟨Sb, hb1, hb2, hb3, h1, h2, h3⟩
      refine ⟨none, _, run_endLoop h2 (by simp [rec0]), ?_⟩
      have hlt := (Array.getElem?_eq_some_iff.1 h2).1
      refine ⟨rfl, ?_⟩
      show Qn (_ :: a.defers) _
      rw [hd]
      refine hn w.heap.size Sb _ (Nat.le_refl _) (by simp; omega) hb3 ((World.putObj_heap_other (by omega)).trans h3) (hI _ _ _ _ h1 (Chg.put _ _ _ ⟨by omega, hb2⟩))
    · rintro S W hsz ⟨Sb, hb1, hb2, hb3, h3, h⟩
      rcases h with ⟨h1, h2⟩ | ⟨h1, h2⟩
      · have hlt := (Array.getElem?_eq_some_iff.1 h1).1
        refine ⟨some .ret, _, run_endLoop h1 (by simp), ?_⟩
        refine wpIn_ret ⟨rfl, ?_⟩
        show Qr (_ :: a.defers) _
        rw [hd]
        exact hr w.heap.size Sb _ (Nat.le_refl _) (by simp; omega) hb3 ((World.putObj_heap_other (by omega)).trans h3) (hKr _ _ _ h2 (Chg.put _ _ _ ⟨by omega, hb2⟩))
      · have hlt := (Array.getElem?_eq_some_iff.1 h1).1
        refine ⟨some (.exit x), _, run_endLoop h1 (by simp), ?_⟩
        refine wpIn_exit ⟨rfl, rfl, ?_⟩
        show Qx (_ :: a.defers) _
        rw [hd]
        exact hx w.heap.size Sb _ (Nat.le_refl _) (by simp; omega) hb3 ((World.putObj_heap_other (by omega)).trans h3) (hKx _ _ _ h2 (Chg.put _ _ _ ⟨by omega, hb2⟩))
end Go.Sh
namespace Go.Sh
open Go Go.RowKit
section
variable {S : Nat → Prop} {w w' : World} {e : TypeId} {B : Nat} {a : Option Addr} {n c : Nat} {f : Fo}
/- a list whose nodes have no parts hangs on no block but its own -/
end
end Go.Sh
namespace Go.Sh
open Go Go.RowKit
/- appending one element to a slice variable that lies in a block of its own: the new element and the variable are laid in either order -/
theorem putAt_get : ∀ (vs cs : List Value) (o i : Nat), (putAt cs o vs)[i]? = if o ≤ i ∧ i < o + vs.length ∧ i < cs.length then vs[i - o]? else cs[i]?
  | [], cs, o, i => by
    rw [if_neg (by simp; omega)]; rfl
  | v :: vs, cs, o, i => by
    rw [putAt, putAt_get vs (cs.set o v) (o + 1) i]
    simp only [List.length_set, List.length_cons]
    by_cases h1 : o + 1 ≤ i ∧ i < o + 1 + vs.length ∧ i < cs.length
    · rw [if_pos h1, if_pos (by omega), show i - o = (i - (o + 1)) + 1 by omega, List.getElem?_cons_succ]
    · rw [if_neg h1]
      by_cases h2 : i = o
      · subst h2
        by_cases h3 : i < cs.length
        · rw [if_pos (by omega)]; simp [h3]
        · rw [if_neg (by omega)]; rw [List.getElem?_eq_none (by simp; omega), List.getElem?_eq_none (by omega)]
      · rw [List.getElem?_set_ne (Ne.symm h2)]
        rw [if_neg (by omega)]
theorem putAt_last {cs xs zs vs : List Value} {m : Nat} (h : cs.take m = xs ++ zs) (hl : zs.length = vs.length) (hm : xs.length + vs.length = m) (hc : m ≤ cs.length) : (putAt cs xs.length vs).take m = xs ++ vs := by
  apply List.ext_getElem?
  intro i
  have hp := putAt_get vs cs xs.length i
  have hg : i < m → cs[i]? = (xs ++ zs)[i]? := fun hi => by rw [← h, List.getElem?_take, if_pos hi]
  rw [List.getElem?_take]
  by_cases hi : i < m
  · rw [if_pos hi, hp]
    by_cases h1 : xs.length ≤ i
    · rw [if_pos ⟨h1, by omega, by omega⟩, List.getElem?_append_right h1]
    · rw [if_neg (by omega), hg hi, List.getElem?_append_left (by omega), List.getElem?_append_left (by omega)]
  · rw [if_neg hi, List.getElem?_eq_none (by simp; omega)]

theorem Owns.storeLast {w : World} {B : Nat} {e : TypeId} {size : Nat} {a : Option Addr} {n c : Nat} {xs zs vs : List Value} (h : Owns w B e size a (n + 1) c (xs ++ zs)) (hz : zs.length = size) (hv : vs.length = size) (h1 : ∀ v ∈ vs, v.oneCell' = true) :
    ∃ g : Nat, a = some ⟨g, 0, none⟩ ∧ (∀ K : Addr → Prop, K ⟨g, n * size, none⟩ → idx a (n + 1) (n : Int) size K) ∧
      ∀ K : World → Prop, (∀ w', Owns w' B e size a (n + 1) c (xs ++ vs) → Chg (Sh.bk a) w w' → w'.heap.size = w.heap.size → K w') → stL w ⟨g, n * size, none⟩ 0 vs K := by
  have hl := h.1
  simp only [List.length_append, hz, Nat.add_mul, Nat.one_mul] at hl
  rcases h.2 with h | ⟨g, cap, cur, e1, e2, e3, e4, e5, e6, e7⟩
  · omega
  obtain ⟨rfl, _, rfl⟩ : a = some ⟨g, 0, none⟩ ∧ True ∧ c = cap := by simpa using e1
  have hB : Blk w g cur.toList e := e3
  have hcl : cur.toList.length = c * size := by simpa using e6
  have hxl : (n + 1) * size ≤ cur.toList.length := by rw [hcl]; exact Nat.mul_le_mul_right _ e4
  have hxe : xs.length = n * size := by omega
  refine ⟨g, rfl, fun K hK => ⟨by omega, by omega, ?_⟩, fun K hK => ?_⟩
  · show K _
    rw [add_none, Int.toNat_natCast, Nat.zero_add]; exact hK
  refine stL_blk hB (by rw [hv]; have : (n + 1) * size = n * size + size := by rw [Nat.add_mul, Nat.one_mul]
                        omega) h1 fun w' b1 b2 b3 b4 b5 b6 => ?_
  have hc : Chg (Sh.bk (some (⟨g, 0, none⟩ : Addr))) w w' := ⟨b4, b5, b6, by omega, fun k' _ hk => b2 k' fun e => hk (by simp [Sh.bk, e])⟩
  refine hK w' ⟨by simp only [List.length_append, hv, Nat.add_mul, Nat.one_mul]; omega, .inr ⟨g, c, ⟨_⟩, rfl, e2, b1, e4, e5, ?_, ?_⟩⟩ hc b3
  · have := putAt_length vs cur.toList (n * size + 0)
    simp only [List.size_toArray]; rw [this]; exact hcl
  · show (putAt cur.toList (n * size + 0) vs).take _ = _
    rw [Nat.add_zero, ← hxe]
    refine putAt_last e7 (by omega) ?_ hxl
    rw [hxe, hv, Nat.add_mul, Nat.one_mul]

end Go.Sh
namespace Go.Sh
open Go Go.RowKit

/- how the elements of a slice lie in cells -/
structure Enc (α : Type) where
  enc : α → List Value
  size : Nat
  len : ∀ x, (enc x).length = size
  pos : 0 < size
  one : ∀ x, ∀ v ∈ enc x, v.oneCell' = true
section
variable {α : Type} {E : Enc α}
def Enc.row (E : Enc α) (l : List α) : List Value := l.flatMap E.enc
@[simp] theorem row_nil : E.row [] = [] := rfl
theorem row_cons (x : α) (l : List α) : E.row (x :: l) = E.enc x ++ E.row l := rfl
theorem row_app (l m : List α) : E.row (l ++ m) = E.row l ++ E.row m := by simp [Enc.row]
theorem row_snoc (l : List α) (x : α) : E.row (l ++ [x]) = E.row l ++ E.enc x := by simp [Enc.row]
theorem row_len : ∀ l : List α, (E.row l).length = l.length * E.size
  | [] => by simp
  | x :: l => by rw [row_cons, List.length_append, E.len, row_len l, List.length_cons, Nat.add_mul, Nat.one_mul]; omega
theorem row_one (l : List α) : ∀ v ∈ E.row l, v.oneCell' = true := by
  intro v hv
  obtain ⟨x, _, hx⟩ := List.mem_flatMap.1 hv
  exact E.one x v hx
theorem row_get {x : α} : ∀ {l : List α} {i j : Nat}, l[i]? = some x → j < E.size → (E.row l)[i * E.size + j]? = (E.enc x)[j]?
  | [], i, j, h, _ => by simp at h
  | y :: l, 0, j, h, hj => by
    simp at h; subst h
    rw [row_cons, Nat.zero_mul, Nat.zero_add, List.getElem?_append_left (by rw [E.len]; exact hj)]
  | y :: l, i + 1, j, h, hj => by
    simp at h
    rw [row_cons, List.getElem?_append_right (by rw [E.len, Nat.add_mul, Nat.one_mul]; omega), E.len, show (i + 1) * E.size + j - E.size = i * E.size + j by rw [Nat.add_mul, Nat.one_mul]; omega]
    exact row_get h hj
theorem putAt_app : ∀ (vs : List Value) (a b : List Value) (o : Nat), putAt (a ++ b) (a.length + o) vs = a ++ putAt b o vs
  | [], a, b, o => rfl
  | v :: vs, a, b, o => by
    rw [putAt, putAt, List.set_append_right _ _ (by omega), show a.length + o - a.length = o by omega, Nat.add_assoc, putAt_app vs a (b.set o v) (o + 1)]
theorem putAt_head : ∀ (vs a : List Value) (rest : List Value), vs.length = a.length → putAt (a ++ rest) 0 vs = vs ++ rest := by
  intro vs a rest h
  apply List.ext_getElem?
  intro i
  rw [putAt_get]
  by_cases hi : i < vs.length
  · rw [if_pos ⟨by omega, by omega, by simp; omega⟩, List.getElem?_append_left (by omega)]; simp
  · rw [if_neg (by omega), List.getElem?_append_right (by omega), List.getElem?_append_right (by omega), h]
theorem row_put {x : α} {rest : List Value} : ∀ {l : List α} {i : Nat}, i < l.length → putAt (E.row l ++ rest) (i * E.size) (E.enc x) = E.row (l.set i x) ++ rest
  | [], i, h => by simp at h
  | y :: l, 0, h => by
    rw [Nat.zero_mul, row_cons, List.set_cons_zero, row_cons, List.append_assoc, putAt_head _ _ _ (by rw [E.len, E.len]), List.append_assoc]
  | y :: l, i + 1, h => by
    rw [row_cons, List.set_cons_succ, row_cons, List.append_assoc, List.append_assoc, show (i + 1) * E.size = (E.enc y).length + i * E.size by rw [E.len, Nat.add_mul, Nat.one_mul]; omega, putAt_app, row_put (by simpa using h)]

/- a slice that can be read -/
def RowAt (E : Enc α) (S : Nat → Prop) (w : World) (a : Option Addr) (n : Nat) (l : List α) : Prop := n = l.length ∧ At S w a (E.row l)
section
variable {S S' : Nat → Prop} {w w' : World} {a : Option Addr} {n : Nat} {l : List α}
theorem RowAt.keep (h : RowAt E S w a n l) (hs : ∀ k, S k → k < w.heap.size → S' k ∧ w'.heap[k]? = w.heap[k]?) (hz : w.heap.size ≤ w'.heap.size) : RowAt E S' w' a n l := ⟨h.1, h.2.keep hs hz⟩
theorem RowAt.ext (h : RowAt E S w a n l) (he : Ext w w') : RowAt E S w' a n l := h.keep (fun k hk hl => ⟨hk, he.block k hl⟩) he.size
theorem RowAt.chg {T : Nat → Prop} (h : RowAt E S w a n l) (he : Chg T w w') (hd : ∀ k, S k → ¬ T k) : RowAt E S w' a n l := h.keep (fun k hk hl => ⟨hk, he.block k hl (hd k hk)⟩) he.size
theorem RowAt.imp (h : RowAt E S w a n l) (hs : ∀ k, S k → k < w.heap.size → S' k) : RowAt E S' w a n l := h.keep (fun k hk hl => ⟨hs k hk hl, rfl⟩) (Nat.le_refl _)
theorem RowAt.nil (a : Option Addr) : RowAt E S w a 0 [] := ⟨rfl, .inl rfl⟩
theorem RowAt.get (h : RowAt E S w a n l) {i : Nat} {x : α} (hi : l[i]? = some x) :
    ∃ b o, (∀ K : Addr → Prop, K ⟨b, o, none⟩ → idx a n (i : Int) E.size K) ∧ S b ∧ b < w.heap.size ∧ ∀ j v, (E.enc x)[j]? = some v → w.cell? ⟨b, o + j, none⟩ = some v := by
  have hlt := (List.getElem?_eq_some_iff.1 hi).1
  have hn := h.1
  rcases h.2 with h2 | ⟨b, o, rfl, hb, hbl, hc⟩
  · have := congrArg List.length h2
    rw [row_len] at this
    simp only [List.length_nil] at this
    rcases Nat.mul_eq_zero.1 this with h | h
    · omega
    · have := E.pos; omega
  refine ⟨b, o + i * E.size, fun K hK => ⟨by omega, by omega, ?_⟩, hb, hbl, fun j v hj => ?_⟩
  · show K _
    rw [add_none, Int.toNat_natCast]; exact hK
  · rw [Nat.add_assoc]
    refine hc _ _ ?_
    rw [row_get hi (by have := (List.getElem?_eq_some_iff.1 hj).1; rw [E.len] at this; exact this)]; exact hj
end

/- a slice that the call has made -/
abbrev OwnL (E : Enc α) (w : World) (B : Nat) (e : TypeId) (a : Option Addr) (n c : Nat) (l : List α) : Prop := Owns w B e E.size a n c (E.row l)
section
variable {w w' : World} {B : Nat} {e : TypeId} {a : Option Addr} {n c : Nat} {l : List α}
theorem OwnL.length (h : OwnL E w B e a n c l) : l.length = n := by
  have := h.len
  rw [row_len] at this
  exact Nat.eq_of_mul_eq_mul_right E.pos this
theorem OwnL.out (h : OwnL E w B e a n c l) : RowAt E (bk a) w a n l := by
  refine ⟨h.length.symm, ?_⟩
  by_cases hn : 0 < n
  · obtain ⟨g, rfl, hg, hc⟩ := h.cell hn
    exact .inr ⟨g, 0, rfl, by simp [bk], (h.bk (by simp [bk])).2, fun j v hj => by rw [Nat.zero_add]; exact hc j v hj⟩
  · have hx : l = [] := List.eq_nil_of_length_eq_zero (by rw [h.length]; omega)
    subst hx
    exact .inl rfl
theorem OwnL.push {P : Program} {t ty : TypeId} {bytes : Nat} {z : Value} (hT : SlT P t e E.size bytes z) (h : OwnL E w B e a n c l) (hB : B ≤ w.heap.size) (x : α) (hlen : n + 1 ≤ 4611686018427387904) (hbytes : (n + 1) * bytes ≤ 140737488355328) {K : Option Addr → Nat → Nat → World → Prop}
    (hk : ∀ a' c'' w', OwnL E w' B e a' (n + 1) c'' (l ++ [x]) → Chg (bk a) w w' → (∀ k, bk a' k → bk a k ∨ w.heap.size ≤ k) → K a' (n + 1) c'' w') :
    al w e (E.enc x) fun p w1 => app P [t, t] ty (.slice a n c) (.slice (some p) 1 1) w1 K :=
  app_one2 hT h hB _ (E.len x) (E.one x) hlen hbytes fun a' c'' w' ho hc hn => hk a' c'' w' (by unfold OwnL; rw [row_snoc]; exact ho) hc hn
theorem OwnL.pushAll {P : Program} {t ty : TypeId} {bytes : Nat} {z : Value} (hT : SlT P t e E.size bytes z) (h : OwnL E w B e a n c l) (hB : B ≤ w.heap.size) {S : Nat → Prop} {a1 : Option Addr} {m c1 : Nat} {l' : List α} (hg : RowAt E S w a1 m l') (hlen : n + m ≤ 4611686018427387904) (hbytes : (n + m) * bytes ≤ 140737488355328) {K : Option Addr → Nat → Nat → World → Prop}
    (hk : ∀ a' c'' w', OwnL E w' B e a' (n + m) c'' (l ++ l') → Chg (bk a) w w' → (∀ k, bk a' k → bk a k ∨ w.heap.size ≤ k) → K a' (n + m) c'' w') :
    app P [t, t] ty (.slice a n c) (.slice a1 m c1) w K :=
  app_own2 hT h hB (E.row l') (by rw [row_len, ← hg.1]) hg.2 (row_one l') hlen hbytes fun a' c'' w' ho hc hn => hk a' c'' w' (by unfold OwnL; rw [row_app]; exact ho) hc hn
/- writing one element -/
theorem OwnL.store (h : OwnL E w B e a n c l) {i : Nat} (hi : i < n) (x : α) :
    ∃ g, a = some ⟨g, 0, none⟩ ∧ (∀ K : Addr → Prop, K ⟨g, i * E.size, none⟩ → idx a n (i : Int) E.size K) ∧
      ∀ K : World → Prop, (∀ w', OwnL E w' B e a n c (l.set i x) → Chg (bk a) w w' → w'.heap.size = w.heap.size → K w') → stL w ⟨g, i * E.size, none⟩ 0 (E.enc x) K := by
  have hl := h.length
  rcases h.2 with h1 | ⟨g, cap, cur, e1, e2, e3, e4, e5, e6, e7⟩
  · omega
  obtain ⟨rfl, _, rfl⟩ : a = some ⟨g, 0, none⟩ ∧ True ∧ c = cap := by simpa using e1
  have hB : Blk w g cur.toList e := e3
  have hcl : cur.toList.length = c * E.size := by simpa using e6
  have hcur : cur.toList = E.row l ++ cur.toList.drop (n * E.size) := by rw [← e7, List.take_append_drop]
  have hin : i * E.size + E.size ≤ n * E.size := by
    have : (i + 1) * E.size ≤ n * E.size := Nat.mul_le_mul_right _ hi
    rwa [Nat.add_mul, Nat.one_mul] at this
  have hnc : n * E.size ≤ c * E.size := Nat.mul_le_mul_right _ e4
  refine ⟨g, rfl, fun K hK => ⟨by omega, by omega, ?_⟩, fun K hK => ?_⟩
  · show K _
    rw [add_none, Int.toNat_natCast, Nat.zero_add]; exact hK
  refine stL_blk hB (by rw [E.len]; omega) (E.one x) fun w' b1 b2 b3 b4 b5 b6 => ?_
  have hc : Chg (bk (some (⟨g, 0, none⟩ : Addr))) w w' := ⟨b4, b5, b6, by omega, fun k' _ hk => b2 k' fun e => hk (by simp [bk, e])⟩
  rw [Nat.add_zero, hcur, row_put (by omega)] at b1
  refine hK w' ⟨by rw [row_len, List.length_set, hl], .inr ⟨g, c, ⟨_⟩, rfl, e2, b1, e4, e5, ?_, ?_⟩⟩ hc b3
  · show (E.row (l.set i x) ++ cur.toList.drop (n * E.size)).length = c * E.size
    rw [List.length_append, List.length_drop, hcl, row_len, List.length_set, hl]; omega
  · show List.take (n * E.size) (E.row (l.set i x) ++ _) = _
    rw [List.take_append_of_le_length (by rw [row_len, List.length_set, hl]; exact Nat.le_refl _), List.take_of_length_le (by rw [row_len, List.length_set, hl]; exact Nat.le_refl _)]
end

/- making a row of zeros -/
theorem row_replicate (x : α) (n : Nat) : E.row (List.replicate n x) = (List.replicate n (E.enc x)).flatten := by
  induction n with
  | zero => rfl
  | succ n ih => rw [List.replicate_succ, row_cons, ih, List.replicate_succ, List.flatten_cons]
theorem OwnL.made {w : World} {b B : Nat} {e : TypeId} {x : α} {n : Nat} (h : Blk w b (List.replicate n (E.enc x)).flatten e) (hB : B ≤ b) (hn : n ≤ maxLen) : OwnL E w B e (some ⟨b, 0, none⟩) n n (List.replicate n x) := by
  rw [← row_replicate] at h
  refine ⟨by rw [row_len, List.length_replicate], .inr ⟨b, n, _, rfl, hB, h, Nat.le_refl _, hn, ?_, ?_⟩⟩
  · show (E.row (List.replicate n x)).length = n * E.size
    rw [row_len, List.length_replicate]
  · show List.take _ (E.row _) = _
    rw [List.take_of_length_le (by rw [row_len, List.length_replicate]; exact Nat.le_refl _)]
end

/- the elements that occur -/
def encI : Enc Int := ⟨fun i => [.int .i64 i], 1, fun _ => rfl, by decide, by intro x v hv; simp only [List.mem_singleton] at hv; subst hv; rfl⟩
def encStr : Enc (List UInt8) := ⟨fun s => [.string ⟨⟨s⟩⟩], 1, fun _ => rfl, by decide, by intro x v hv; simp only [List.mem_singleton] at hv; subst hv; rfl⟩
end Go.Sh
namespace Go.Proofs
open Go Go.Sh Go.RowKit

/- lexemes -/
structure Lx where
  k : Int
  nm : List UInt8
  vl : List UInt8
  pos : Int
def encX : Enc Lx := ⟨fun x => [.int .i64 x.k, .string ⟨⟨x.nm⟩⟩, .string ⟨⟨x.vl⟩⟩, .int .i64 x.pos], 4, fun _ => rfl, by decide, by intro x v hv; simp only [List.mem_cons, List.not_mem_nil, or_false] at hv; rcases hv with rfl | rfl | rfl | rfl <;> rfl⟩
abbrev aggX (x : Lx) : Value := .agg ⟨[.int .i64 x.k, .string ⟨⟨x.nm⟩⟩, .string ⟨⟨x.vl⟩⟩, .int .i64 x.pos]⟩
def innF (nm vl : List UInt8) : List UInt8 := if vl ≠ [] then nm ++ ([32] ++ vl) else nm
def textF (x : Lx) : List UInt8 :=
  if x.k = 2 then ([60] ++ innF x.nm x.vl) ++ [62] else if x.k = 3 then ([60, 47] ++ innF x.nm x.vl) ++ [62] else if x.k = 4 then ([60] ++ innF x.nm x.vl) ++ [47, 62] else x.vl
theorem blk4x {w : World} {b : Nat} {x : Lx} {T : TypeId} (h : Blk w b [.int .i64 x.k, .string ⟨⟨x.nm⟩⟩, .string ⟨⟨x.vl⟩⟩, .int .i64 x.pos] T) :
    w.cell? ((⟨b, 0, none⟩ : Addr).add 0) = some (.int .i64 x.k) ∧ w.cell? ((⟨b, 0, none⟩ : Addr).add 1) = some (.string ⟨⟨x.nm⟩⟩) ∧ w.cell? ((⟨b, 0, none⟩ : Addr).add 2) = some (.string ⟨⟨x.vl⟩⟩) ∧ w.cell? ((⟨b, 0, none⟩ : Addr).add 3) = some (.int .i64 x.pos) := by
  simp only [add_none, h.cell]; exact ⟨rfl, rfl, rfl, rfl⟩
set_option maxRecDepth 20000 in
theorem text_spec {R : Ending → World → Prop} {w : World} (x : Lx) (h1 : x.nm.length ≤ 1000000000) (h2 : x.vl.length ≤ 1000000000) (h : ∀ w', Ext w w' → R (.returned (.string ⟨⟨textF x⟩⟩)) w') : Calls Tryz.prog F_markup_text ⟨[aggX x]⟩ w R := by
  apply c_markup_text
  refine al_intro fun b5 w6 hb5 B5 e6 s6 => ?_
  obtain ⟨c0, c1, c2, c3⟩ := blk4x B5
  have hr := h w6 e6
  unfold textF at hr
  refine ⟨_, c1, ?_⟩
  intro K8 hK8
  have k8 : ∀ inner, inner = innF x.nm x.vl → inner.length ≤ 3000000000 → K8 inner w6 := by
    rintro _ rfl hl
    refine hK8 _ _ fun _ => ⟨_, c0, br_split (fun g => ?_) (fun g2 => br_split (fun g => ?_) (fun g3 => br_split (fun g => ?_) (fun g4 => ⟨_, c2, ?_⟩)))⟩
    · rw [if_pos g] at hr
      exact ⟨by simp; omega, by simp; omega, hr⟩
    · rw [if_neg g2, if_pos g] at hr
      exact ⟨by simp; omega, by simp; omega, hr⟩
    · rw [if_neg g2, if_neg g3, if_pos g] at hr
      exact ⟨by simp; omega, by simp; omega, hr⟩
    · rw [if_neg g2, if_neg g3, if_neg g4] at hr
      exact hr
  refine ⟨_, c2, br_split (fun g => ⟨_, c2, by simp; omega, by simp; omega, k8 _ ?_ ?_⟩) (fun g => k8 _ ?_ ?_)⟩
  · unfold innF; rw [if_pos g]
  · simp; omega
  · unfold innF; rw [if_neg g]
  · omega
end Go.Proofs
namespace Go.Proofs
open Go Go.Sh Go.RowKit

/- a lexeme but for the value of a tag -/
theorem none_spec {R : Ending → World → Prop} {w : World} (s : List UInt8) (h : R (.returned (.bool (decide (s = [])))) w) : Calls Tryz.prog F_markup_none ⟨[.string ⟨⟨s⟩⟩]⟩ w R := c_markup_none h
theorem number_spec {R : Ending → World → Prop} {w : World} (n : Int) (h : ∀ b w', b = w.heap.size → Blk w' b [.int .i64 n] 3 → Ext w w' → w'.heap.size = b + 1 → R (.returned (.func (.func 150) ⟨[]⟩ ⟨[.pointer (some ⟨b, 0, none⟩)]⟩)) w') : Calls Tryz.prog F_markup_number ⟨[.int .i64 n]⟩ w R := by
  apply c_markup_number
  exact al_intro fun b w' hb B e s => h b w' hb B e s
end Go.Proofs
namespace Go.Proofs
open Go Go.Sh Go.RowKit

/- the parts of a string: characters up to the next <, and what stands from < to the next > -/
def cutX (t : List UInt8) : Nat :=
  if t.head? = some 60 then (if 0 ≤ Lib.indexByte t 62 then (Lib.indexByte t 62).toNat + 1 else t.length)
  else if 0 ≤ Lib.indexByte t 60 then (Lib.indexByte t 60).toNat else t.length
theorem cutX_bd {c : UInt8} {r : List UInt8} : 1 ≤ cutX (c :: r) ∧ cutX (c :: r) ≤ (c :: r).length := by
  have lt : ∀ {x : UInt8}, 0 ≤ Lib.indexByte (c :: r) x → (Lib.indexByte (c :: r) x).toNat < (c :: r).length := fun {x} hx => by
    obtain ⟨h1, _⟩ := Lib.indexByte_some (l := c :: r) (c := x) (o := (Lib.indexByte (c :: r) x).toNat) (by omega)
    exact (List.getElem?_eq_some_iff.1 h1).1
  unfold cutX
  split
  · split
    · rename_i h; have := lt h; omega
    · simp
  · rename_i hc
    split
    · rename_i h
      have := lt h
      obtain ⟨h1, _⟩ := Lib.indexByte_some (l := c :: r) (c := 60) (o := (Lib.indexByte (c :: r) 60).toNat) (by omega)
      refine ⟨?_, by omega⟩
      apply Classical.byContradiction
      intro h0
      have : (Lib.indexByte (c :: r) 60).toNat = 0 := by omega
      rw [this] at h1
      simp at h1 hc
      exact hc h1
    · simp
def partsM : List UInt8 → Nat → List (Nat × List UInt8)
  | [], _ => []
  | c :: r, at_ => (at_, (c :: r).take (cutX (c :: r))) :: partsM ((c :: r).drop (cutX (c :: r))) (at_ + cutX (c :: r))
  termination_by t => t.length
  decreasing_by
    have := cutX_bd (c := c) (r := r)
    rw [List.length_drop]; omega
end Go.Proofs
namespace Go.Proofs
open Go Go.Sh Go.RowKit

end Go.Proofs
namespace Go.Proofs
open Go Go.Sh Go.RowKit

/- the tags: name, whether it is empty, the function of its value -/
structure TagV where
  nm : List UInt8
  em : Bool
  f : Fn
  fa : Array Value
  fb : Array Value
def encT : Enc TagV := ⟨fun x => [.string ⟨⟨x.nm⟩⟩, .bool x.em, .func x.f x.fa x.fb], 3, fun _ => rfl, by decide, by intro x v hv; simp only [List.mem_cons, List.not_mem_nil, or_false] at hv; rcases hv with rfl | rfl | rfl <;> rfl⟩
def tagsV (b8 b64 : Nat) : List TagV :=
  let hand : List UInt8 → TagV := fun nm => ⟨nm, false, .func 150, ⟨[]⟩, ⟨[.pointer (some ⟨b8, 0, none⟩)]⟩⟩
  [⟨[97, 98], false, .func 76, #[], #[]⟩, hand [97, 100, 100], hand [100, 101, 108], ⟨[103, 97, 112], true, .func 150, ⟨[]⟩, ⟨[.pointer (some ⟨b64, 0, none⟩)]⟩⟩, ⟨[108, 98], true, .func 140, #[], #[]⟩, ⟨[110, 97, 109, 101], false, .func 77, #[], #[]⟩,
    ⟨[112, 98], true, .func 77, #[], #[]⟩, ⟨[115, 101, 99], true, .func 77, #[], #[]⟩, ⟨[117, 110, 99, 108, 101, 97, 114], false, .func 140, #[], #[]⟩, ⟨[118], true, .func 140, #[], #[]⟩]
set_option maxRecDepth 20000 in
theorem tags_spec {R : Ending → World → Prop} {w : World}
    (h : ∀ b8 b64 bt w', w.heap.size ≤ b8 → w.heap.size ≤ b64 → Blk w' b8 [.int .i64 8] 3 → Blk w' b64 [.int .i64 64] 3 → RowAt encT (fun k => w.heap.size ≤ k) w' (some ⟨bt, 0, none⟩) 10 (tagsV b8 b64) → Ext w w' → R (.returned (.slice (some ⟨bt, 0, none⟩) 10 10)) w') :
    Calls Tryz.prog F_markup_tags ⟨[]⟩ w R := by
  apply c_markup_tags
  refine number_spec 8 fun b8 w2 hb8 B8 e2 s2 => ⟨_, _, _, rfl, ?_⟩
  refine number_spec 64 fun b64 w5 hb64 B64 e5 s5 => ⟨_, _, _, rfl, ?_⟩
  refine al_intro fun bt w8 hbt Bt e8 s8 => ?_
  refine h b8 b64 bt w8 (by omega) (by omega) ((B8.ext e5).ext e8) (B64.ext e8) ⟨rfl, .inr ⟨bt, 0, rfl, by show w.heap.size ≤ bt; omega, Bt.lt, fun j v hj => ?_⟩⟩ (ext_trans (ext_trans e2 e5) e8)
  rw [Nat.zero_add, Bt.cell]; exact hj
end Go.Proofs
namespace Go.Proofs
open Go Go.Sh Go.RowKit

/- the reference's measure of a transcript -/
section
variable {R : Ending → World → Prop} {S : Nat → Prop}
end
end Go.Proofs
namespace Go.Proofs
open Go Go.Sh Go.RowKit

theorem ext_drew (W : World) : Ext W W.drew := ⟨rfl, rfl, rfl, Nat.le_refl _, fun _ _ => rfl⟩
abbrev small (f : Fo) : Prop := f.size ≤ 4611686018427387904
theorem wrap_nat {n : Nat} (h : n ≤ 4611686018427387904) : IntKind.i64.wrap ((n : Int) + 1) = ((n + 1 : Nat) : Int) := by rw [wrap_id (by omega)]; omega

theorem Same_spec {S S' : Nat → Prop} : ∀ (f : Fo) {R : Ending → World → Prop} {w : World} {a b : Option Addr} {n c n' c' : Nat} {g : Fo} (hf : SlF S w a n f) (hg : SlF S' w b n' g) (hs : small f)
    (h : ∀ w', Ext w w' → R (.returned (.bool (decide (f = g)))) w'), Calls Tryz.prog F_ref10_Same ⟨[.slice a n c, .slice b n' c']⟩ w R := by
  intro f
  induction hz : f.size using Nat.strongRecOn generalizing f with
  | _ z ih =>
  intro R w a b n c n' c' g hf hg hs h
  apply c_ref10_Same
  have hn := hf.1
  have hn' := hg.1
  refine br_split (fun h1 => ?_) (fun h1 => ?_)
  · rw [show decide (f = g) = false by rw [decide_eq_false_iff_not]; rintro rfl; omega] at h
    exact h w (Below.refl _ _)
  refine ⟨fun i W m => ∃ (p1 r1 p2 r2 : Fo), f = p1.app r1 ∧ g = p2.app r2 ∧ p1.len = p2.len ∧ i = p1.len ∧ m = r1.len ∧ Ext w W ∧ (f = g ↔ r1 = r2), ⟨_, .nil, f, .nil, g, rfl, rfl, rfl, rfl, rfl, Below.refl _ _, Iff.rfl⟩, ?_⟩
  rintro _ W m ⟨p1, r1, p2, r2, e1, e2, e3, rfl, rfl, he, hiff⟩ _
  refine br_split (fun hlt => ?_) (fun hge => ?_)
  · obtain ⟨k1, t1, m1, s1, r1, rfl⟩ := Fo.next e1 (by omega)
    obtain ⟨k2, t2, m2, s2, r2, rfl⟩ := Fo.next e2 (by omega)
    have hd := ext_trans he (ext_drew W)
    obtain ⟨q1, a1, c1, i1, _, _, n1⟩ := (hf.ext hd).get e1
    obtain ⟨q2, a2, c2, i2, _, _, n2⟩ := (hg.ext hd).get e2
    rw [← e3] at i2
    have hsub := Fo.sub_size e1
    have hsl := Fo.sub_len e1
    have hle := f.len_le_size
    have no : (f ≠ g) → R (.returned (.bool false)) W.drew := fun hne => by
      rw [show decide (f = g) = false by rw [decide_eq_false_iff_not]; exact hne] at h
      exact h _ hd
    simp only [Fo.cons.injEq] at hiff
    unfold drw
    refine i1 _ ⟨_, n1.kind, i2 _ ⟨_, n2.kind, br_split (fun d1 => ⟨no fun he => d1 (hiff.1 he).1, trivial⟩) (fun d1 => ?_)⟩⟩
    refine i1 _ ⟨_, n1.text, i2 _ ⟨_, n2.text, br_split (fun d2 => ⟨no fun he => d2 (hiff.1 he).2.1, trivial⟩) (fun d2 => ?_)⟩⟩
    refine i1 _ ⟨_, n1.num, i2 _ ⟨_, n2.num, br_split (fun d3 => ⟨no fun he => d3 (hiff.1 he).2.2.1, trivial⟩) (fun d3 => ?_)⟩⟩
    refine i1 _ ⟨_, _, _, n1.parts, i2 _ ⟨_, _, _, n2.parts, ?_, trivial⟩⟩
    refine ih _ (hz ▸ hsub) s1 rfl n1.sl n2.sl (by unfold small at hs ⊢; omega) fun w' he' => ⟨_, rfl, ?_⟩
    have hdd := ext_trans hd he'
    simp only [Decidable.not_not] at d1 d2 d3
    refine br_cases (fun d4 => ?_) (fun d4 => ?_)
    · rw [show decide (f = g) = false by rw [decide_eq_false_iff_not]; intro he; rw [decide_eq_true (hiff.1 he).2.2.2.1] at d4; cases d4] at h
      exact h _ hdd
    · have d5 : s1 = s2 := by simpa using d4
      refine ⟨r1.len, by simp, p1.app (.one k1 t1 m1 s1), r1, p2.app (.one k2 t2 m2 s2), r2, by rw [Fo.app_one_app]; exact e1, by rw [Fo.app_one_app]; exact e2, by simp [Fo.one]; exact e3, ?_, rfl, hdd, ?_⟩
      · rw [wrap_nat (by unfold small at hs; omega)]; simp [Fo.one]
      · rw [hiff]; simp [d1, d2, d3, d5]
  · obtain ⟨rfl, rfl⟩ := Fo.last e1 (by omega)
    have := Fo.last e2 (by omega)
    rw [show decide (p1 = g) = true by rw [decide_eq_true_iff]; exact hiff.2 this.1.symm] at h
    exact h _ he

/- the fields of the kinds -/
def textsF (k : Int) : Bool := decide (k = 1 ∨ k = 3 ∨ k = 4 ∨ k = 10 ∨ k = 11)
def numsF (k : Int) : Bool := decide (k = 6 ∨ k = 8 ∨ k = 9)
def partsF (k : Int) : Bool := decide (7 ≤ k ∧ k ≤ 11)
section
variable {R : Ending → World → Prop} {w : World}
theorem texts_spec (k : Int) (h : R (.returned (.bool (textsF k))) w) : Calls Tryz.prog F_ref10_texts ⟨[.int .i64 k]⟩ w R := by
  apply c_ref10_texts
  unfold textsF at h
  refine br_split (fun h1 => ?_) (fun h1 => br_split (fun h2 => ?_) (fun h2 => br_split (fun h3 => ?_) (fun h3 => br_split (fun h4 => ?_) (fun h4 => ?_))))
  · rw [decide_eq_true (.inl h1)] at h; exact h
  · rw [decide_eq_true (.inr (.inl h2))] at h; exact h
  · rw [decide_eq_true (.inr (.inr (.inl h3)))] at h; exact h
  · rw [decide_eq_true (.inr (.inr (.inr (.inl h4))))] at h; exact h
  · simp only [h1, h2, h3, h4, false_or] at h; exact h
theorem numbers_spec (k : Int) (h : R (.returned (.bool (numsF k))) w) : Calls Tryz.prog F_ref10_numbers ⟨[.int .i64 k]⟩ w R := by
  apply c_ref10_numbers
  unfold numsF at h
  refine br_split (fun h1 => ?_) (fun h1 => br_split (fun h2 => ?_) (fun h2 => ?_))
  · rw [decide_eq_true (.inl h1)] at h; exact h
  · rw [decide_eq_true (.inr (.inl h2))] at h; exact h
  · simp only [h1, h2, false_or] at h; exact h
theorem parts_spec (k : Int) (h : R (.returned (.bool (partsF k))) w) : Calls Tryz.prog F_ref10_parts ⟨[.int .i64 k]⟩ w R := by
  apply c_ref10_parts
  unfold partsF at h
  refine br_split (fun h1 => ?_) (fun h1 => ?_)
  · simp only [h1, true_and] at h; exact h
  · simp only [h1, false_and] at h; exact h

/- the error of a node alone -/
def singleF (k : Int) (t : List UInt8) (n : Int) (ps : Fo) (before within : Bool) : Int :=
  if k < 1 ∨ 11 < k ∨ (t ≠ [] ∧ textsF k = false) ∨ (n ≠ 0 ∧ numsF k = false) ∨ (0 < ps.len ∧ partsF k = false) then 8
  else if (k = 1 ∧ t = []) ∨ (partsF k = true ∧ ps.len = 0) then 5
  else if k = 1 then (if checkC t ≠ 0 then 11 else if before = true then 10 else 0)
  else if k = 3 ∨ k = 4 ∨ k = 11 then (if isNameF t = false then 14 else if within = true ∧ k = 4 then 12 else 0)
  else if k = 10 then (if isWordF t = false then 14 else 0)
  else if k = 6 then (if n < 1 ∨ 64 < n then 2 else 0)
  else if k = 8 ∨ k = 9 then (if n < 1 ∨ 8 < n then 2 else 0)
  else 0
end

theorem blk4 {w : World} {b : Nat} {k : Int} {t : List UInt8} {n : Int} {v : Value} {T : TypeId} (h : Blk w b [.int .i64 k, .string ⟨⟨t⟩⟩, .int .i64 n, v] T) :
    w.cell? ((⟨b, 0, none⟩ : Addr).add 0) = some (.int .i64 k) ∧ w.cell? ((⟨b, 0, none⟩ : Addr).add 1) = some (.string ⟨⟨t⟩⟩) ∧ w.cell? ((⟨b, 0, none⟩ : Addr).add 2) = some (.int .i64 n) ∧ w.cell? ((⟨b, 0, none⟩ : Addr).add 3) = some v := by
  simp only [add_none, h.cell]; exact ⟨rfl, rfl, rfl, rfl⟩

section
variable {R : Ending → World → Prop} {w : World}
theorem single_spec (k : Int) (t : List UInt8) (n : Int) (a : Option Addr) (c : Nat) (ps : Fo) (before within : Bool) (h : ∀ w', Ext w w' → R (.returned (.int .i64 (singleF k t n ps before within))) w') :
    Calls Tryz.prog F_ref10_single ⟨[.agg ⟨[.int .i64 k, .string ⟨⟨t⟩⟩, .int .i64 n, .slice a ps.len c]⟩, .bool before, .bool within]⟩ w R := by
  apply c_ref10_single
  refine al_intro fun b w1 hb h1 h2 h3 => ?_
  obtain ⟨c0, c1, c2, c3⟩ := blk4 h1
  have hne : ∀ (x : Int), (∃ y : Int, w1.cell? ((⟨b, 0, none⟩ : Addr).add 0) = some (.int .i64 y) ∧ True) := fun _ => ⟨k, c0, trivial⟩
  intro K9 hK9
  -- the wrong kind
  have bad : ∀ x : Int, singleF k t n ps before within = x → R (.returned (.int .i64 x)) w1 := fun x hx => hx ▸ h w1 h2
  have k8 : (k < 1 ∨ 11 < k ∨ (t ≠ [] ∧ textsF k = false) ∨ (n ≠ 0 ∧ numsF k = false) ∨ (0 < ps.len ∧ partsF k = false)) → R (.returned (.int .i64 8)) w1 := fun hc => bad 8 (by unfold singleF; rw [if_pos hc])
  refine ⟨k, c0, br_split (fun d1 => k8 (.inl d1)) (fun d1 => ⟨k, c0, br_split (fun d2 => k8 (.inr (.inl d2))) (fun d2 => ⟨t, c1, ?_⟩)⟩)⟩
  have main : ¬ (k < 1 ∨ 11 < k ∨ (t ≠ [] ∧ textsF k = false) ∨ (n ≠ 0 ∧ numsF k = false) ∨ (0 < ps.len ∧ partsF k = false)) → K9 w1 := by
    intro hno
    refine hK9 _ fun _ => ?_
    intro K11 hK11
    have k5 : ((k = 1 ∧ t = []) ∨ (partsF k = true ∧ ps.len = 0)) → R (.returned (.int .i64 5)) w1 := fun hc => bad 5 (by unfold singleF; rw [if_neg hno, if_pos hc])
    have main2 : ¬ ((k = 1 ∧ t = []) ∨ (partsF k = true ∧ ps.len = 0)) → K11 w1 := by
      intro hno2
      refine hK11 _ fun _ => ⟨k, c0, ?_⟩
      have e : singleF k t n ps before within = (if k = 1 then (if checkC t ≠ 0 then 11 else if before = true then 10 else 0)
        else if k = 3 ∨ k = 4 ∨ k = 11 then (if isNameF t = false then 14 else if within = true ∧ k = 4 then 12 else 0)
        else if k = 10 then (if isWordF t = false then 14 else 0)
        else if k = 6 then (if n < 1 ∨ 64 < n then 2 else 0)
        else if k = 8 ∨ k = 9 then (if n < 1 ∨ 8 < n then 2 else 0)
        else 0) := by unfold singleF; rw [if_neg hno, if_neg hno2]
      rw [e] at h
      refine br_split (fun g1 => ⟨t, c1, Check_spec' t fun w2 he2 => ⟨_, rfl, br_split (fun g2 => ?_) (fun g2 => ?_)⟩⟩) (fun g1 => ?_)
      · rw [if_pos g1, if_pos g2] at h; exact h _ (ext_trans h2 he2)
      · rw [if_pos g1, if_neg g2] at h
        have := h _ (ext_trans h2 he2)
        cases before <;> exact this
      rw [if_neg g1] at h
      intro K18 hK18
      have nm : (k = 3 ∨ k = 4 ∨ k = 11) → K18 true w1 := by
        intro hk
        rw [if_pos hk] at h
        refine hK18 _ _ fun _ => ⟨t, c1, IsName_spec' t fun w2 he2 => ⟨_, rfl, br_cases (fun g2 => ?_) (fun g2 => ?_)⟩⟩
        · rw [if_pos (by simpa using g2)] at h; exact h _ (ext_trans h2 he2)
        · rw [if_neg (by simpa using g2)] at h
          have := h _ (ext_trans h2 he2)
          cases within with
          | false => simpa using this
          | true =>
            refine ⟨k, (blk4 (h1.ext he2)).1, br_split (fun g3 => ?_) (fun g3 => ?_)⟩
            · simpa [g3] using this
            · simpa [g3] using this
      refine br_split (fun g3 => ?_) (fun g3 => br_split (fun g4 => ?_) (fun g4 => ?_))
      · rw [decide_eq_true g3]; exact nm (.inl g3)
      · rw [decide_eq_true g4]; exact nm (.inr (.inl g4))
      by_cases g5 : k = 11
      · rw [decide_eq_true g5]; exact nm (.inr (.inr g5))
      rw [decide_eq_false g5]
      rw [if_neg (by omega)] at h
      refine hK18 _ _ fun _ => br_split (fun g6 => ⟨t, c1, IsWord_spec' t fun w2 he2 => ⟨_, rfl, br_cases (fun g7 => ?_) (fun g7 => ?_)⟩⟩) (fun g6 => br_split (fun g7 => ?_) (fun g7 => ?_))
      · rw [if_pos g6, if_pos (by simpa using g7)] at h; exact h _ (ext_trans h2 he2)
      · rw [if_pos g6, if_neg (by simpa using g7)] at h; exact h _ (ext_trans h2 he2)
      · rw [if_neg g6, if_pos g7] at h
        refine ⟨n, c2, br_split (fun g8 => ?_) (fun g8 => ⟨n, c2, br_split (fun g9 => ?_) (fun g9 => ?_)⟩)⟩
        · rw [if_pos (.inl g8)] at h; exact h _ h2
        · rw [if_pos (.inr g9)] at h; exact h _ h2
        · rw [if_neg (by omega)] at h; exact h _ h2
      · rw [if_neg g6, if_neg g7] at h
        intro K32 hK32
        have hd : (k = 8 ∨ k = 9) → K32 true w1 := fun hk => by
          rw [if_pos hk] at h
          refine hK32 _ _ fun _ => ⟨n, c2, br_split (fun g8 => ?_) (fun g8 => ⟨n, c2, br_split (fun g9 => ?_) (fun g9 => ?_)⟩)⟩
          · rw [if_pos (.inl g8)] at h; exact h _ h2
          · rw [if_pos (.inr g9)] at h; exact h _ h2
          · rw [if_neg (by omega)] at h; exact h _ h2
        refine br_split (fun g8 => ?_) (fun g8 => ?_)
        · rw [decide_eq_true g8]; exact hd (.inl g8)
        · by_cases g9 : k = 9
          · rw [decide_eq_true g9]; exact hd (.inr g9)
          · rw [decide_eq_false g9]
            rw [if_neg (by omega)] at h
            exact hK32 _ _ fun _ => h _ h2
    have pr : ¬ (k = 1 ∧ t = []) → (∃ (x44 : Int), w1.cell? ((⟨b, 0, none⟩ : Addr).add 0) = some (.int .i64 x44) ∧ (Calls Tryz.prog 84 ⟨[.int .i64 x44]⟩ w1 fun (e45 : Ending) (w46 : World) =>
        ∃ (x47 : Bool), e45 = .returned (.bool x47) ∧ (br x47 (∃ (x48 : Option Addr) (x48n : Nat) (x48c : Nat), World.cell? w46 ((⟨b, 0, none⟩ : Addr).add 3) = some (.slice x48 x48n x48c) ∧ (br (decide ((((x48n : Int)) : Int) = 0)) (R (.returned (.int .i64 5)) w46) (K11 w46))) (K11 w46)))) := by
      intro hk1
      refine ⟨k, c0, parts_spec k ⟨_, rfl, br_cases (fun g1 => ⟨a, ps.len, c, c3, br_split (fun g2 => k5 (.inr ⟨g1, by omega⟩)) (fun g2 => main2 ?_)⟩) (fun g1 => main2 ?_)⟩⟩
      · rintro (hh | hh)
        · exact hk1 hh
        · exact g2 (by omega)
      · rintro (hh | hh)
        · exact hk1 hh
        · rw [hh.1] at g1; cases g1
    refine ⟨k, c0, br_split (fun g1 => ⟨t, c1, br_split (fun g2 => k5 (.inl ⟨g1, g2⟩)) (fun g2 => pr fun hh => g2 hh.2)⟩) (fun g1 => pr fun hh => g1 hh.1)⟩
  have ptail : ¬ (t ≠ [] ∧ textsF k = false) → ¬ (n ≠ 0 ∧ numsF k = false) →
      (∃ (x61 : Option Addr) (x61n : Nat) (x61c : Nat), World.cell? w1 ((⟨b, 0, none⟩ : Addr).add 3) = some (.slice x61 x61n x61c) ∧ (br (decide ((0 : Int) < ((x61n : Int)))) (∃ (x62 : Int), World.cell? w1 ((⟨b, 0, none⟩ : Addr).add 0) = some (.int .i64 x62) ∧ (Calls Tryz.prog 84 ⟨[.int .i64 x62]⟩ w1 fun (e63 : Ending) (w64 : World) =>
  ∃ (x65 : Bool), e63 = .returned (.bool x65) ∧ (br (!x65) (R (.returned (.int .i64 8)) w64) (K9 w64)))) (K9 w1))) := by
    intro q1 q2
    refine ⟨a, ps.len, c, c3, br_split (fun g1 => ⟨k, c0, parts_spec k ⟨_, rfl, br_cases (fun g2 => k8 (.inr (.inr (.inr (.inr ⟨by omega, by simpa using g2⟩))))) (fun g2 => main ?_)⟩⟩) (fun g1 => main ?_)⟩
    · rintro (hh | hh | hh | hh | hh)
      · exact d1 hh
      · exact d2 hh
      · exact q1 hh
      · exact q2 hh
      · rw [hh.2] at g2; cases g2
    · rintro (hh | hh | hh | hh | hh)
      · exact d1 hh
      · exact d2 hh
      · exact q1 hh
      · exact q2 hh
      · exact g1 (by omega)
  have ntail : ¬ (t ≠ [] ∧ textsF k = false) → (∃ (x56 : Int), World.cell? w1 ((⟨b, 0, none⟩ : Addr).add 2) = some (.int .i64 x56) ∧ (br (decide ((x56 : Int) ≠ 0)) (∃ (x57 : Int), World.cell? w1 ((⟨b, 0, none⟩ : Addr).add 0) = some (.int .i64 x57) ∧ (Calls Tryz.prog 82 ⟨[.int .i64 x57]⟩ w1 fun (e58 : Ending) (w59 : World) =>
  ∃ (x60 : Bool), e58 = .returned (.bool x60) ∧ (br (!x60) (R (.returned (.int .i64 8)) w59) (∃ (x61 : Option Addr) (x61n : Nat) (x61c : Nat), World.cell? w59 ((⟨b, 0, none⟩ : Addr).add 3) = some (.slice x61 x61n x61c) ∧ (br (decide ((0 : Int) < ((x61n : Int)))) (∃ (x62 : Int), World.cell? w59 ((⟨b, 0, none⟩ : Addr).add 0) = some (.int .i64 x62) ∧ (Calls Tryz.prog 84 ⟨[.int .i64 x62]⟩ w59 fun (e63 : Ending) (w64 : World) =>
  ∃ (x65 : Bool), e63 = .returned (.bool x65) ∧ (br (!x65) (R (.returned (.int .i64 8)) w64) (K9 w64)))) (K9 w59)))))) (∃ (x66 : Option Addr) (x66n : Nat) (x66c : Nat), World.cell? w1 ((⟨b, 0, none⟩ : Addr).add 3) = some (.slice x66 x66n x66c) ∧ (br (decide ((0 : Int) < ((x66n : Int)))) (∃ (x67 : Int), World.cell? w1 ((⟨b, 0, none⟩ : Addr).add 0) = some (.int .i64 x67) ∧ (Calls Tryz.prog 84 ⟨[.int .i64 x67]⟩ w1 fun (e68 : Ending) (w69 : World) =>
  ∃ (x70 : Bool), e68 = .returned (.bool x70) ∧ (br (!x70) (R (.returned (.int .i64 8)) w69) (K9 w69)))) (K9 w1))))) := by
    intro q1
    refine ⟨n, c2, br_split (fun g1 => ⟨k, c0, numbers_spec k ⟨_, rfl, br_cases (fun g2 => k8 (.inr (.inr (.inr (.inl ⟨g1, by simpa using g2⟩))))) (fun g2 => ptail q1 ?_)⟩⟩) (fun g1 => ptail q1 ?_)⟩
    · rintro ⟨_, hh⟩; rw [hh] at g2; cases g2
    · rintro ⟨hh, _⟩; exact g1 hh
  refine br_split (fun g1 => ⟨k, c0, texts_spec k ⟨_, rfl, br_cases (fun g2 => k8 (.inr (.inr (.inl ⟨g1, by simpa using g2⟩)))) (fun g2 => ntail ?_)⟩⟩) (fun g1 => ntail ?_)
  · rintro ⟨_, hh⟩; rw [hh] at g2; cases g2
  · rintro ⟨hh, _⟩; exact g1 hh
end
end Go.Proofs
namespace Go.Proofs
open Go Go.Sh Go.RowKit

theorem get_tag {S : Nat → Prop} {w : World} {a : Option Addr} {n : Nat} {L : List TagV} (h : RowAt encT S w a n L) {k : Nat} (hk : k < L.length) :
    ∃ q : Addr, (∀ K : Addr → Prop, K q → idx a n (k : Int) 3 K) ∧ w.cell? (q.add 0) = some (.string ⟨⟨L[k].nm⟩⟩) ∧ w.cell? (q.add 1) = some (.bool L[k].em) ∧ w.cell? (q.add 2) = some (.func L[k].f L[k].fa L[k].fb) := by
  obtain ⟨bb, o, hq, _, _, hc⟩ := h.get (i := k) (x := L[k]) (List.getElem?_eq_getElem hk)
  exact ⟨⟨bb, o, none⟩, hq, by rw [add_none]; exact hc 0 _ rfl, by rw [add_none]; exact hc 1 _ rfl, by rw [add_none]; exact hc 2 _ rfl⟩
def tagAt (b8 b64 : Nat) (nm : List UInt8) : Option TagV := (tagsV b8 b64).find? fun x => decide (x.nm = nm)
theorem blk3 {w : World} {b : Nat} {v0 v1 v2 : Value} {T : TypeId} (h : Blk w b [v0, v1, v2] T) : w.cell? ((⟨b, 0, none⟩ : Addr).add 0) = some v0 ∧ w.cell? ((⟨b, 0, none⟩ : Addr).add 1) = some v1 ∧ w.cell? ((⟨b, 0, none⟩ : Addr).add 2) = some v2 := by
  simp only [add_none, h.cell]; exact ⟨rfl, rfl, rfl⟩
set_option maxRecDepth 20000 in
theorem find_spec {R : Ending → World → Prop} {w : World} (nm : List UInt8)
    (h1 : ∀ b8 b64 w' x, w.heap.size ≤ b8 → w.heap.size ≤ b64 → Blk w' b8 [.int .i64 8] 3 → Blk w' b64 [.int .i64 64] 3 → tagAt b8 b64 nm = some x → Ext w w' → R (.returned (.tuple ⟨[.agg ⟨[.string ⟨⟨nm⟩⟩, .bool x.em, .func x.f x.fa x.fb]⟩, .bool true]⟩)) w')
    (h2 : ∀ w', (∀ b8 b64, tagAt b8 b64 nm = none) → Ext w w' → R (.returned (.tuple ⟨[.agg ⟨[.string ⟨⟨[]⟩⟩, .bool false, .nilFunc]⟩, .bool false]⟩)) w') :
    Calls Tryz.prog F_markup_find ⟨[.string ⟨⟨nm⟩⟩]⟩ w R := by
  apply c_markup_find
  refine al_intro fun b2 w3 hb2 B2 e3 s3 => ?_
  refine tags_spec fun b8 b64 bt w5 hb8 hb64 B8 B64 hT e5 => ⟨_, _, _, rfl, ?_⟩
  have E5 := ext_trans e3 e5
  have hlen : (tagsV b8 b64).length = 10 := rfl
  have hna : ∀ b8' b64', tagAt b8 b64 nm = none → tagAt b8' b64' nm = none := by
    intro b8' b64' hn
    unfold tagAt at hn ⊢
    rw [List.find?_eq_none] at hn ⊢
    intro x hx
    have hm : (tagsV b8 b64).map (·.nm) = (tagsV b8' b64').map (·.nm) := rfl
    have : x.nm ∈ (tagsV b8 b64).map (·.nm) := by rw [hm]; exact List.mem_map_of_mem hx
    obtain ⟨y, hy, hxy⟩ := List.mem_map.1 this
    have := hn y hy
    rw [← hxy]; exact this
  refine ⟨fun i W m => ∃ k : Nat, i = k ∧ k ≤ 10 ∧ m = 10 - k ∧ ((tagsV b8 b64).take k).all (fun x => decide (x.nm ≠ nm)) = true ∧ Ext w5 W, ⟨_, 0, rfl, by omega, rfl, rfl, Below.refl _ _⟩, ?_⟩
  rintro _ W m ⟨k, rfl, hk, rfl, hall, he⟩ _
  have EW := ext_trans E5 he
  have B2' := (B2.ext e5).ext he
  have z3 := e3.size
  refine br_split (fun hlt => ?_) (fun hge => ?_)
  · have hkL : k < (tagsV b8 b64).length := by rw [hlen]; omega
    obtain ⟨q, hq, c0, c1, c2⟩ := get_tag (hT.ext he) hkL
    refine hq _ ⟨_, c0, _, c1, _, c2, ?_⟩
    refine al_stL (by simp) (by intro u hu; simp only [List.mem_cons, List.not_mem_nil, or_false] at hu; rcases hu with rfl | rfl | rfl <;> rfl) fun bx w18 hbx hBx e18 s18 => ?_
    obtain ⟨y0, y1, y2⟩ := blk3 hBx
    have z18 := e18.size
    refine ⟨_, y0, br_split (fun g => ?_) (fun g => ?_)⟩
    · refine ⟨_, y0, _, y1, _, y2, ?_⟩
      refine stL_blk (B2'.ext e18) (by simp) (by intro u hu; simp only [List.mem_cons, List.not_mem_nil, or_false] at hu; rcases hu with rfl | rfl | rfl <;> rfl) fun w23 b1 x2 x3 x4 x5 x6 => ?_
      have b1' : Blk w23 b2 [.string ⟨⟨(tagsV b8 b64)[k].nm⟩⟩, .bool (tagsV b8 b64)[k].em, .func (tagsV b8 b64)[k].f (tagsV b8 b64)[k].fa (tagsV b8 b64)[k].fb] 110 := b1
      have hc : Chg (fun j => j = b2) w18 w23 := ⟨x4, x5, x6, by omega, fun j _ hj => x2 j hj⟩
      obtain ⟨u0, u1, u2⟩ := blk3 b1'
      have E23 : Ext w w23 := ext_chgS (ext_trans EW e18) hc fun j hj => by omega
      refine ⟨_, u0, _, u1, _, u2, ?_⟩
      rw [g]
      refine h1 b8 b64 w23 _ (by omega) (by omega) (hc.blk ((B8.ext he).ext e18) (by omega)) (hc.blk ((B64.ext he).ext e18) (by omega)) ?_ E23
      unfold tagAt
      rw [List.find?_eq_some_iff_getElem]
      refine ⟨by simpa using g, k, hkL, rfl, fun j hj => ?_⟩
      have := List.all_eq_true.1 hall ((tagsV b8 b64)[j]'(by omega)) (by rw [List.mem_take_iff_getElem]; exact ⟨j, by omega, rfl⟩)
      simpa using this
    · refine ⟨10 - (k + 1), by omega, k + 1, by rw [wrap_nat (by omega)], by omega, rfl, ?_, ext_trans he e18⟩
      rw [List.take_add_one, List.getElem?_eq_getElem hkL, List.all_append, hall]
      simpa using g
  · have hk10 : k = 10 := by omega
    subst hk10
    refine stL_blk B2' (by simp) (by intro u hu; simp only [List.mem_cons, List.not_mem_nil, or_false] at hu; rcases hu with rfl | rfl | rfl <;> rfl) fun w28 b1 x2 x3 x4 x5 x6 => ?_
    have b1' : Blk w28 b2 [.string ⟨⟨[]⟩⟩, .bool false, .nilFunc] 110 := b1
    have hc : Chg (fun j => j = b2) W w28 := ⟨x4, x5, x6, by omega, fun j _ hj => x2 j hj⟩
    obtain ⟨u0, u1, u2⟩ := blk3 b1'
    refine ⟨_, u0, _, u1, _, u2, h2 w28 (fun b8' b64' => hna b8' b64' ?_) (ext_chgS EW hc fun j hj => by omega)⟩
    unfold tagAt
    rw [List.find?_eq_none]
    intro x hx
    rw [List.take_of_length_le (by rw [hlen]; omega)] at hall
    have := List.all_eq_true.1 hall x hx
    simpa using this
end Go.Proofs
namespace Go.Proofs
open Go Go.Sh Go.RowKit

/- numbers from 1 to most -/
def numV (most : Nat) (s : List UInt8) : Bool := (List.range most).any fun i => decide (Lib.decDigits (i + 1) = s)
theorem atoi_dec : ∀ i : Nat, i < 64 → Lib.atoiAll (Lib.decDigits (i + 1)) = .ok ((i + 1 : Nat) : Int) := by decide +kernel
theorem dec_dig : ∀ i : Nat, i < 64 → (Lib.decDigits (i + 1)).all (fun c => decide (kd c = 3)) = true := by decide +kernel
theorem numV_iff {most : Nat} (hm : most ≤ 64) (s : List UInt8) : numV most s = true ↔ ∃ n : Nat, Lib.atoiAll s = .ok (n : Int) ∧ 1 ≤ n ∧ n ≤ most ∧ Lib.decDigits n = s := by
  unfold numV
  rw [List.any_eq_true]
  constructor
  · rintro ⟨i, hi, h⟩
    have hi := List.mem_range.1 hi
    have h := of_decide_eq_true h
    exact ⟨i + 1, by rw [← h]; exact atoi_dec i (by omega), by omega, by omega, h⟩
  · rintro ⟨n, _, h1, h2, h⟩
    exact ⟨n - 1, List.mem_range.2 (by omega), by rw [show n - 1 + 1 = n by omega]; exact decide_eq_true h⟩
theorem numV_dig {most : Nat} (hm : most ≤ 64) {s : List UInt8} (h : numV most s = true) : ∀ c ∈ s, kd c = 3 := by
  obtain ⟨n, _, h1, h2, rfl⟩ := (numV_iff hm s).1 h
  have := dec_dig (n - 1) (by omega)
  rw [show n - 1 + 1 = n by omega] at this
  intro c hc
  exact of_decide_eq_true (List.all_eq_true.1 this c hc)
/- the reference's reading of a number -/
/- the tags' names, forms and values -/
def tagNames : List (List UInt8) := [[97, 98], [97, 100, 100], [100, 101, 108], [103, 97, 112], [108, 98], [110, 97, 109, 101], [112, 98], [115, 101, 99], [117, 110, 99, 108, 101, 97, 114], [118]]
def knownB (nm : List UInt8) : Bool := decide (nm ∈ tagNames)
def emptyB (nm : List UInt8) : Bool := decide (nm ∈ [[108, 98], [118], [112, 98], [115, 101, 99], [103, 97, 112]])
def valB (nm vl : List UInt8) : Bool :=
  if nm = [108, 98] ∨ nm = [118] ∨ nm = [117, 110, 99, 108, 101, 97, 114] then decide (vl = []) else if nm = [103, 97, 112] then numV 64 vl
  else if nm = [97, 100, 100] ∨ nm = [100, 101, 108] then numV 8 vl else if nm = [97, 98] then isWordF vl else isNameF vl
theorem known_cases {nm : List UInt8} {C : List UInt8 → Prop} (h : knownB nm = true) (hc : ∀ x ∈ tagNames, C x) : C nm := hc nm (of_decide_eq_true h)
/- what stands in values -/
theorem word_kd {v : List UInt8} (h : isWordF v = true) : ∀ c ∈ v, kd c ≠ 0 ∧ kd c ≤ 4 := by
  unfold isWordF at h
  simp only [Bool.and_eq_true, decide_eq_true_eq, List.all_eq_true] at h
  obtain ⟨⟨⟨⟨_, h2⟩, h3⟩, _⟩, h5⟩ := h
  rw [checkC_eq, if_neg (by omega)] at h3
  intro c hc
  refine ⟨?_, h5 c hc⟩
  by_cases ho : okChars v = true
  · obtain ⟨j, hj, rfl⟩ := List.mem_iff_getElem.1 hc
    have := List.all_eq_true.1 ho j (List.mem_range.2 hj)
    unfold okAt at this
    have hk := kA_eq hj
    intro h0
    rw [← hk, h0] at this
    simp at this
  · rw [if_neg ho] at h3; cases h3
theorem name_kd {v : List UInt8} (h : isNameF v = true) : ∀ c ∈ v, kd c ≠ 0 ∧ kd c ≤ 4 := by
  unfold isNameF at h
  simp only [Bool.and_eq_true, decide_eq_true_eq] at h
  intro c hc
  rcases lettersF_all h.2 c hc with h | h <;> rw [h] <;> decide
theorem val_kd {nm v : List UInt8} (h : valB nm v = true) : ∀ c ∈ v, kd c ≠ 0 ∧ kd c ≤ 4 := by
  unfold valB at h
  repeat' split at h
  · intro c hc; rw [of_decide_eq_true h] at hc; cases hc
  · intro c hc; rw [numV_dig (by omega) h c hc]; decide
  · intro c hc; rw [numV_dig (by omega) h c hc]; decide
  · exact word_kd h
  · exact name_kd h
theorem kd_bad {c : UInt8} (h : kd c ≠ 0 ∧ kd c ≤ 4) : c ≠ 32 ∧ c ≠ 47 ∧ c ≠ 60 ∧ c ≠ 62 := by
  refine ⟨?_, ?_, ?_, ?_⟩ <;> rintro rfl <;> revert h <;> decide
theorem kd_ok {c : UInt8} (h : kd c ≠ 0) : c ≠ 47 ∧ c ≠ 60 ∧ c ≠ 62 := by
  refine ⟨?_, ?_, ?_⟩ <;> rintro rfl <;> revert h <;> decide
theorem nm_bad {nm : List UInt8} (h : knownB nm = true) : nm ≠ [] ∧ nm.length ≤ 7 ∧ ∀ c ∈ nm, c ≠ 32 ∧ c ≠ 47 ∧ c ≠ 60 ∧ c ≠ 62 :=
  known_cases (C := fun nm => nm ≠ [] ∧ nm.length ≤ 7 ∧ ∀ c ∈ nm, c ≠ 32 ∧ c ≠ 47 ∧ c ≠ 60 ∧ c ≠ 62) h (by decide)
end Go.Proofs
namespace Go.Proofs
open Go Go.Sh Go.RowKit

/- reading a tag -/
def nameF (t : List UInt8) : List UInt8 := t.takeWhile fun c => !(c == 32 || c == 47)
def innerF (part : List UInt8) : List UInt8 := (part.take (part.length - 1)).drop 1
def tailF : List UInt8 → List UInt8
  | [] => []
  | c :: r => if c = 32 then r.takeWhile (fun c => !(c == 47)) else []
def valueF (inner nm : List UInt8) : List UInt8 := tailF (inner.drop nm.length)
def valueP (inner : List UInt8) : List UInt8 := (Lib.cut (Lib.trimSuffix inner [47]) [32]).2.1
def zeroX : Lx := ⟨0, [], [], 0⟩
def tagX (nm vl : List UInt8) : Lx := ⟨if emptyB nm = true then 4 else 2, nm, vl, 0⟩
def accX (part nm vl : List UInt8) : Lx × Int := if valB nm vl = true ∧ textF (tagX nm vl) = part then (tagX nm vl, 0) else (zeroX, 3)
def readF (part : List UInt8) : Lx × Int :=
  if (innerF part).head? = some 47 then
    (if knownB (nameF ((innerF part).drop 1)) = false then (zeroX, 12)
     else if emptyB (nameF ((innerF part).drop 1)) = false ∧ [60, 47] ++ nameF ((innerF part).drop 1) ++ [62] = part then (⟨3, nameF ((innerF part).drop 1), [], 0⟩, 0) else (zeroX, 3))
  else (if knownB (nameF (innerF part)) = false then (zeroX, 12) else accX part (nameF (innerF part)) (valueF (innerF part) (nameF (innerF part))))
theorem inner_two (m : List UInt8) : innerF (60 :: (m ++ [62])) = m := by
  unfold innerF
  rw [show (60 :: (m ++ [62]) : List UInt8).length - 1 = (60 :: m : List UInt8).length by simp, show (60 :: (m ++ [62]) : List UInt8) = (60 :: m) ++ [62] by simp, List.take_left]
  rfl
theorem index_none : ∀ {l : List UInt8} {c : UInt8}, c ∉ l → Lib.index l [c] = -1
  | [], _, _ => rfl
  | b :: l, c, h => by
    rw [Lib.index, index_none (fun hh => h (List.mem_cons_of_mem _ hh))]
    have : ¬ c = b := fun e => h (by rw [e]; exact List.mem_cons_self)
    simp [this]
theorem index_at : ∀ {l r : List UInt8} {c : UInt8}, c ∉ l → Lib.index (l ++ c :: r) [c] = (l.length : Int)
  | [], r, c, _ => by rw [List.nil_append, Lib.index]; simp
  | b :: l, r, c, h => by
    rw [List.cons_append, Lib.index, index_at (fun hh => h (List.mem_cons_of_mem _ hh))]
    have : ¬ c = b := fun e => h (by rw [e]; exact List.mem_cons_self)
    have h2 : ¬ ((l.length : Int) = -1) := by omega
    simp [this, h2]
theorem inn_chars {nm v : List UInt8} (hn : ∀ c ∈ nm, c ≠ 32 ∧ c ≠ 47 ∧ c ≠ 60 ∧ c ≠ 62) (hv : ∀ c ∈ v, c ≠ 32 ∧ c ≠ 47 ∧ c ≠ 60 ∧ c ≠ 62) : ∀ c ∈ innF nm v, c ≠ 47 ∧ c ≠ 60 ∧ c ≠ 62 := by
  intro c hc
  unfold innF at hc
  split at hc
  · simp only [List.mem_append, List.mem_cons, List.not_mem_nil, or_false] at hc
    rcases hc with h | rfl | h
    · exact (hn c h).2
    · decide
    · exact (hv c h).2
  · exact (hn c hc).2
theorem cut_inn {nm v : List UInt8} (hn : ∀ c ∈ nm, c ≠ 32 ∧ c ≠ 47 ∧ c ≠ 60 ∧ c ≠ 62) : (Lib.cut (innF nm v) [32]).2.1 = v := by
  have h32 : (32 : UInt8) ∉ nm := fun h => (hn 32 h).1 rfl
  unfold Lib.cut innF
  by_cases hv : v = []
  · subst hv
    have e : (if ([] : List UInt8) ≠ [] then nm ++ ([32] ++ []) else nm) = nm := if_neg (by simp)
    rw [e, index_none h32]
    rfl
  · rw [if_pos hv, List.singleton_append, index_at h32, if_pos (by omega)]
    show List.drop ((nm.length : Int).toNat + 1) (nm ++ 32 :: v) = v
    rw [Int.toNat_natCast, ← List.drop_drop, List.drop_left]
    rfl
theorem no_suffix {m : List UInt8} (h : ∀ c ∈ m, c ≠ 47 ∧ c ≠ 60 ∧ c ≠ 62) : Lib.trimSuffix m [47] = m := by
  unfold Lib.trimSuffix Lib.hasSuffix
  rw [if_neg]
  intro hs
  obtain ⟨t, ht⟩ := List.isSuffixOf_iff_suffix.1 hs
  exact (h 47 (by rw [← ht]; simp)).1 rfl
theorem one_suffix (m : List UInt8) : Lib.trimSuffix (m ++ [47]) [47] = m := by
  unfold Lib.trimSuffix Lib.hasSuffix
  rw [if_pos (List.isSuffixOf_iff_suffix.2 ⟨m, rfl⟩)]
  simp
theorem tail_inn {nm v t : List UInt8} (hv : ∀ c ∈ v, c ≠ 32 ∧ c ≠ 47 ∧ c ≠ 60 ∧ c ≠ 62) (ht : t = [] ∨ t = [47]) : valueF (innF nm v ++ t) nm = v := by
  unfold valueF innF
  by_cases h : v = []
  · subst h
    rw [if_neg (by simp), List.drop_left]
    rcases ht with rfl | rfl <;> rfl
  · rw [if_pos h, List.append_assoc, List.drop_left]
    show tailF (32 :: (v ++ t)) = v
    rw [tailF, if_pos rfl]
    have hh : ∀ c ∈ v, (!(c == 47)) = true := fun c hc => by simpa using (hv c hc).2.1
    rw [List.takeWhile_append_of_pos hh]
    rcases ht with rfl | rfl <;> simp
theorem val_key {part nm v : List UInt8} (hn : knownB nm = true) (hv : valB nm v = true) (hp : textF (tagX nm v) = part) : valueP (innerF part) = v ∧ valueF (innerF part) nm = v := by
  obtain ⟨_, _, hc⟩ := nm_bad hn
  have hvc : ∀ c ∈ v, c ≠ 32 ∧ c ≠ 47 ∧ c ≠ 60 ∧ c ≠ 62 := fun c h => kd_bad (val_kd hv c h)
  have hin := inn_chars hc hvc
  subst hp
  unfold tagX textF
  by_cases he : emptyB nm = true
  · simp only [he, if_true]
    rw [if_neg (by decide), if_neg (by decide)]
    have e : ([60] ++ innF nm v ++ [47, 62] : List UInt8) = 60 :: ((innF nm v ++ [47]) ++ [62]) := by simp
    rw [e, inner_two]
    exact ⟨by unfold valueP; rw [one_suffix, cut_inn hc], tail_inn hvc (.inr rfl)⟩
  · simp only [he]
    rw [if_pos (by rfl)]
    have e : ([60] ++ innF nm v ++ [62] : List UInt8) = 60 :: (innF nm v ++ [62]) := by simp
    rw [e, inner_two]
    refine ⟨by unfold valueP; rw [no_suffix hin, cut_inn hc], ?_⟩
    have := tail_inn (nm := nm) hvc (.inl rfl)
    rwa [List.append_nil] at this
theorem acc_PF {part nm : List UInt8} (hn : knownB nm = true) : accX part nm (valueP (innerF part)) = accX part nm (valueF (innerF part) nm) := by
  by_cases hP : valB nm (valueP (innerF part)) = true ∧ textF (tagX nm (valueP (innerF part))) = part
  · rw [(val_key hn hP.1 hP.2).2]
  · by_cases hF : valB nm (valueF (innerF part) nm) = true ∧ textF (tagX nm (valueF (innerF part) nm)) = part
    · rw [(val_key hn hF.1 hF.2).1]
    · unfold accX
      rw [if_neg hP, if_neg hF]
/- the first of the bytes space and slash -/
theorem any_name : ∀ b : List UInt8, nameF b = if 0 ≤ Lib.indexAny b [32, 47] then b.take (Lib.indexAny b [32, 47]).toNat else b
  | [] => rfl
  | c :: l => by
    have ih := any_name l
    have hg := Lib.indexAny_ge [32, 47] l
    unfold nameF at ih ⊢
    rw [Lib.indexAny, List.takeWhile_cons]
    by_cases hc : c = 32 ∨ c = 47
    · have h1 : ([32, 47] : List UInt8).contains c = true := by rcases hc with rfl | rfl <;> rfl
      have h2 : (!(c == 32 || c == 47)) = false := by rcases hc with rfl | rfl <;> rfl
      rw [h1, h2]
      rfl
    · have h1 : ([32, 47] : List UInt8).contains c = false := by simpa using hc
      have h2 : (!(c == 32 || c == 47)) = true := by simpa using hc
      rw [h1, h2, ih]
      simp only [if_true, Bool.false_eq_true, if_false]
      by_cases hm : Lib.indexAny l [32, 47] = -1
      · rw [hm]; simp
      · have h0 : 0 ≤ Lib.indexAny l [32, 47] := by omega
        have hb : (Lib.indexAny l [32, 47] == -1) = false := by simpa using hm
        rw [hb, if_pos h0]
        simp only [Bool.false_eq_true, if_false]
        rw [if_pos (by omega), show (Lib.indexAny l [32, 47] + 1).toNat = (Lib.indexAny l [32, 47]).toNat + 1 by omega, List.take_succ_cons]
theorem name_le (b : List UInt8) : (nameF b).length ≤ b.length := (List.takeWhile_prefix _).length_le

/- the lexeme of a part -/
def lexP (at_ : Nat) (part : List UInt8) : Lx × Int :=
  if part.head? ≠ some 60 then (if checkC part = 0 then (⟨1, [], part, at_⟩, 0) else (zeroX, 11))
  else if part.getLast? ≠ some 62 then (zeroX, 3)
  else if (readF part).2 = 0 then ({ (readF part).1 with pos := at_ }, 0) else (zeroX, (readF part).2)
def scanL : List (Nat × List UInt8) → List Lx × Int
  | [] => ([], 0)
  | p :: r => if (lexP p.1 p.2).2 = 0 then (if (scanL r).2 = 0 then ((lexP p.1 p.2).1 :: (scanL r).1, 0) else ([], (scanL r).2)) else ([], (lexP p.1 p.2).2)
def scanF (s : List UInt8) : List Lx × Int := if 65536 < s.length then ([], 4) else scanL (partsM s 0)
theorem scanL_app : ∀ {pre : List (Nat × List UInt8)} {out : List Lx}, scanL pre = (out, 0) → ∀ r, scanL (pre ++ r) = if (scanL r).2 = 0 then (out ++ (scanL r).1, 0) else ([], (scanL r).2)
  | [], out, h, r => by
    obtain rfl : out = [] := (Prod.mk.inj h).1.symm
    rw [List.nil_append]
    split
    · rename_i h0; rw [List.nil_append, ← h0]
    · rename_i h0
      cases r with
      | nil => exact absurd rfl h0
      | cons p r =>
        rw [scanL] at h0 ⊢
        split
        · rename_i h1
          rw [if_pos h1] at h0
          split
          · rename_i h2; rw [if_pos h2] at h0; exact absurd rfl h0
          · rename_i h2; rfl
        · rfl
  | p :: pre, out, h, r => by
    rw [scanL] at h
    by_cases h1 : (lexP p.1 p.2).2 = 0
    · rw [if_pos h1] at h
      by_cases h2 : (scanL pre).2 = 0
      · rw [if_pos h2] at h
        obtain rfl : (lexP p.1 p.2).1 :: (scanL pre).1 = out := (Prod.mk.inj h).1
        have ih := scanL_app (pre := pre) (out := (scanL pre).1) (by rw [← h2]) r
        rw [List.cons_append, scanL, if_pos h1, ih]
        split
        · rw [if_pos rfl]; rfl
        · rfl
      · rw [if_neg h2] at h
        exact absurd (Prod.mk.inj h).2 h2
    · rw [if_neg h1] at h
      exact absurd (Prod.mk.inj h).2 h1
theorem scanL_one {at_ : Nat} {part : List UInt8} {x : Lx} (h : lexP at_ part = (x, 0)) : scanL [(at_, part)] = ([x], 0) := by
  rw [scanL]; rw [h]; rfl
theorem scanL_bad {pre r : List (Nat × List UInt8)} {out : List Lx} {p : Nat × List UInt8} {e : Int} (h : scanL pre = (out, 0)) (hl : (lexP p.1 p.2).2 = e) (he : e ≠ 0) : scanL (pre ++ p :: r) = ([], e) := by
  have e : scanL (p :: r) = ([], e) := by rw [scanL, if_neg (by rw [hl]; exact he), hl]
  rw [scanL_app h, e]
  exact if_neg he
theorem scanL_err : ∀ {l : List (Nat × List UInt8)}, (scanL l).2 ≠ 0 → (scanL l).1 = []
  | [], h => absurd rfl h
  | p :: r, h => by
    rw [scanL] at h ⊢
    split
    · rename_i h1
      rw [if_pos h1] at h
      split
      · rename_i h2; rw [if_pos h2] at h; exact absurd rfl h
      · rfl
    · rfl
theorem scanF_err {s : List UInt8} (h : (scanF s).2 ≠ 0) : (scanF s).1 = [] := by
  unfold scanF at h ⊢
  split
  · rfl
  · rename_i h1; rw [if_neg h1] at h; exact scanL_err h

/- why lexemes are not valid -/
def singleX (x : Lx) : Int :=
  if x.k = 1 then (if x.nm ≠ [] then 12 else if x.vl = [] then 5 else if checkC x.vl ≠ 0 then 11 else 0)
  else if x.k = 2 ∨ x.k = 3 ∨ x.k = 4 then (if knownB x.nm = true ∧ emptyB x.nm = decide (x.k = 4) then 0 else 12) else 8
def rightX (x : Lx) : Bool := if x.k = 3 then decide (x.vl = []) else valB x.nm x.vl
def chkOne (x : Lx) (pt : Bool) (at_ : Int) : Int :=
  if singleX x ≠ 0 then singleX x else if x.k = 1 ∧ pt = true then 10 else if x.k ≠ 1 ∧ rightX x = false then 3 else if x.pos ≠ at_ then 9 else 0
def chkGo : List Lx → Bool → Nat → Int
  | [], _, at_ => if 65536 < at_ then 4 else 0
  | x :: r, pt, at_ => if chkOne x pt at_ ≠ 0 then chkOne x pt at_ else chkGo r (decide (x.k = 1)) (at_ + (textF x).length)
def chkX (l : List Lx) : Int := chkGo l false 0
def printX (l : List Lx) : List UInt8 := l.flatMap textF
def popS (nm : List UInt8) (st : List (List UInt8)) : Option (List (List UInt8)) := match st with
  | [] => none
  | t :: st => if t = nm then some st else none
def nestGo : List Lx → List (List UInt8) → Int
  | [], st => if st = [] then 0 else 12
  | x :: r, st => if x.k = 2 then (if 16 < st.length + 1 then 4 else nestGo r (x.nm :: st))
    else if x.k = 3 then (match popS x.nm st with
      | none => 12
      | some st' => nestGo r st')
    else nestGo r st
def nestX (l : List Lx) : Int := if chkX l ≠ 0 then 1 else nestGo l []
/- the lexeme at an offset -/
end Go.Proofs
namespace Go.Proofs
open Go Go.Sh Go.RowKit

/- what is read is what stands there -/
theorem read_ok {part : List UInt8} {x : Lx} (h : readF part = (x, 0)) : textF x = part ∧ x.pos = 0 ∧ x.k ≠ 1 ∧ singleX x = 0 ∧ rightX x = true := by
  unfold readF at h
  split at h
  · split at h
    · exact absurd (Prod.mk.inj h).2 (by decide)
    · rename_i hk
      split at h
      · rename_i hh
        obtain rfl := (Prod.mk.inj h).1
        have hk : knownB (nameF (List.drop 1 (innerF part))) = true := by simpa using hk
        refine ⟨?_, rfl, by show (3 : Int) ≠ 1; decide, ?_, ?_⟩
        · exact Eq.trans rfl hh.2
        · unfold singleX
          rw [if_neg (by simp), if_pos (.inr (.inl rfl)), if_pos ⟨hk, by rw [hh.1]; rfl⟩]
        · rfl
      · exact absurd (Prod.mk.inj h).2 (by decide)
  · split at h
    · exact absurd (Prod.mk.inj h).2 (by decide)
    · rename_i hk
      have hk : knownB (nameF (innerF part)) = true := by simpa using hk
      unfold accX at h
      split at h
      · rename_i hh
        obtain rfl := (Prod.mk.inj h).1
        refine ⟨hh.2, rfl, ?_, ?_, ?_⟩
        · unfold tagX; split <;> simp
        · unfold singleX tagX
          by_cases he : emptyB (nameF (innerF part)) = true
          · rw [if_pos he, if_neg (by simp), if_pos (.inr (.inr rfl)), if_pos ⟨hk, by rw [he]; rfl⟩]
          · rw [if_neg he, if_neg (by simp), if_pos (.inl rfl), if_pos ⟨hk, by simpa using he⟩]
        · unfold rightX
          rw [if_neg (by unfold tagX; split <;> simp)]
          exact hh.1
      · exact absurd (Prod.mk.inj h).2 (by decide)
theorem lex_ok {at_ : Nat} {part : List UInt8} {x : Lx} (hne : part ≠ []) (hl : part.length ≤ 65536) (h : lexP at_ part = (x, 0)) :
    textF x = part ∧ x.pos = at_ ∧ (x.k = 1 ↔ part.head? ≠ some 60) ∧ singleX x = 0 ∧ (x.k ≠ 1 → rightX x = true) := by
  unfold lexP at h
  split at h
  · rename_i hp
    split at h
    · rename_i hc
      obtain rfl := (Prod.mk.inj h).1
      refine ⟨rfl, rfl, iff_of_true rfl hp, ?_, fun h => absurd rfl h⟩
      unfold singleX
      rw [if_pos rfl, if_neg (by simp), if_neg hne, if_neg (by simpa using hc)]
    · exact absurd (Prod.mk.inj h).2 (by decide)
  · rename_i hp
    split at h
    · exact absurd (Prod.mk.inj h).2 (by decide)
    · split at h
      · rename_i h0
        obtain rfl := (Prod.mk.inj h).1
        obtain ⟨r1, r2, r3, r4, r5⟩ := read_ok (part := part) (x := (readF part).1) (by rw [← h0])
        exact ⟨r1, rfl, iff_of_false r3 (by simpa using hp), r4, fun _ => r5⟩
      · rename_i h0
        exact absurd (Prod.mk.inj h).2 h0
theorem cut_next {c : UInt8} {r : List UInt8} (hc : c ≠ 60) : ((c :: r).drop (cutX (c :: r))).head? = some 60 ∨ (c :: r).drop (cutX (c :: r)) = [] := by
  unfold cutX
  rw [if_neg (by simpa using hc)]
  split
  · rename_i h
    obtain ⟨h1, _⟩ := Lib.indexByte_some (l := c :: r) (c := 60) (o := (Lib.indexByte (c :: r) 60).toNat) (by omega)
    left
    rw [List.head?_drop, h1]
  · right; simp
theorem take_cut_head {c : UInt8} {r : List UInt8} : ((c :: r).take (cutX (c :: r))).head? = some c := by
  obtain ⟨h1, _⟩ := cutX_bd (c := c) (r := r)
  obtain ⟨m, hm⟩ : ∃ m, cutX (c :: r) = m + 1 := ⟨cutX (c :: r) - 1, by omega⟩
  rw [hm]; rfl
theorem scanL_cons {p : Nat × List UInt8} {r : List (Nat × List UInt8)} {l : List Lx} (h : scanL (p :: r) = (l, 0)) : ∃ x l', l = x :: l' ∧ lexP p.1 p.2 = (x, 0) ∧ scanL r = (l', 0) := by
  rw [scanL] at h
  split at h
  · rename_i h1
    split at h
    · rename_i h2
      exact ⟨_, _, (Prod.mk.inj h).1.symm, by rw [← h1], by rw [← h2]⟩
    · rename_i h2; exact absurd (Prod.mk.inj h).2 h2
  · rename_i h1; exact absurd (Prod.mk.inj h).2 h1
theorem chk_ok {x : Lx} {pt : Bool} {at_ : Nat} (h1 : singleX x = 0) (h2 : ¬ (x.k = 1 ∧ pt = true)) (h3 : x.k ≠ 1 → rightX x = true) (h4 : x.pos = at_) : chkOne x pt at_ = 0 := by
  unfold chkOne
  rw [if_neg (by simpa using h1), if_neg h2, if_neg, if_neg (by simpa using h4)]
  rintro ⟨a, b⟩
  rw [h3 a] at b; cases b
theorem chk_inv {x : Lx} {pt : Bool} {at_ : Int} (h : chkOne x pt at_ = 0) : singleX x = 0 ∧ ¬ (x.k = 1 ∧ pt = true) ∧ (x.k ≠ 1 → rightX x = true) ∧ x.pos = at_ := by
  unfold chkOne at h
  split at h
  · rename_i h1; exact absurd h h1
  · rename_i h1
    split at h
    · cases h
    · rename_i h2
      split at h
      · cases h
      · rename_i h3
        split at h
        · cases h
        · rename_i h4
          refine ⟨by simpa using h1, h2, fun hk => ?_, by simpa using h4⟩
          cases hr : rightX x with
          | true => rfl
          | false => exact absurd ⟨hk, hr⟩ h3
theorem chkGo_cons {x : Lx} {r : List Lx} {pt : Bool} {at_ : Nat} : chkGo (x :: r) pt at_ = 0 ↔ chkOne x pt at_ = 0 ∧ chkGo r (decide (x.k = 1)) (at_ + (textF x).length) = 0 := by
  rw [chkGo]
  by_cases h : chkOne x pt at_ = 0
  · rw [if_neg (by simpa using h)]; simp [h]
  · rw [if_pos h]; simp [h]
theorem scan_chk : ∀ (n : Nat) (t : List UInt8) (at_ : Nat) (pt : Bool) (l : List Lx), t.length ≤ n → scanL (partsM t at_) = (l, 0) → (pt = true → t.head? = some 60 ∨ t = []) → at_ + t.length ≤ 65536 → chkGo l pt at_ = 0 ∧ printX l = t
  | n, [], at_, pt, l, _, h, _, hb => by
    rw [partsM] at h
    obtain rfl := (Prod.mk.inj h).1.symm
    refine ⟨?_, rfl⟩
    rw [chkGo, if_neg (by simp at hb; omega)]
  | 0, c :: r, _, _, _, hn, _, _, _ => absurd hn (by simp)
  | n + 1, c :: r, at_, pt, l, hn, h, hpt, hb => by
    rw [partsM] at h
    obtain ⟨x, l', rfl, hx, hl⟩ := scanL_cons h
    obtain ⟨b1, b2⟩ := cutX_bd (c := c) (r := r)
    have hpl : ((c :: r).take (cutX (c :: r))).length = cutX (c :: r) := by rw [List.length_take]; omega
    obtain ⟨x1, x2, x3, x4, x5⟩ := lex_ok (fun e => by rw [show (c :: r).take (cutX (c :: r)) = [] from e] at hpl; simp at hpl; omega) (show ((c :: r).take (cutX (c :: r))).length ≤ 65536 by rw [hpl]; omega) hx
    rw [take_cut_head] at x3
    have hdl : ((c :: r).drop (cutX (c :: r))).length = (c :: r).length - cutX (c :: r) := List.length_drop
    obtain ⟨y1, y2⟩ := scan_chk n _ _ (decide (x.k = 1)) l' (by omega) hl (fun hk => by
      have hk : x.k = 1 := of_decide_eq_true hk
      have hc : c ≠ 60 := by have := x3.1 hk; simpa using this
      exact cut_next hc) (by omega)
    refine ⟨chkGo_cons.2 ⟨chk_ok x4 ?_ x5 x2, ?_⟩, ?_⟩
    · rintro ⟨a, b⟩
      have h1 := x3.1 a
      rcases hpt b with h2 | h2
      · exact h1 (by simpa using h2)
      · cases h2
    · rw [x1, show ((at_, (c :: r).take (cutX (c :: r))).2).length = _ from hpl]; exact y1
    · rw [printX, List.flatMap_cons, x1, ← printX, y2, List.take_append_drop]
theorem scan_print {s : List UInt8} {l : List Lx} (h : scanF s = (l, 0)) : chkX l = 0 ∧ printX l = s := by
  unfold scanF at h
  split at h
  · exact absurd (Prod.mk.inj h).2 (by decide)
  · rename_i hs
    exact scan_chk s.length s 0 false l (Nat.le_refl _) h (fun h => by cases h) (by omega)

/- the parts of what lexemes are printed as -/
theorem check_kd {v : List UInt8} (h : checkC v = 0) : ∀ c ∈ v, kd c ≠ 0 := by
  rw [checkC_eq] at h
  split at h
  · cases h
  · by_cases ho : okChars v = true
    · intro c hc
      obtain ⟨j, hj, rfl⟩ := List.mem_iff_getElem.1 hc
      have := List.all_eq_true.1 ho j (List.mem_range.2 hj)
      unfold okAt at this
      have hk := kA_eq hj
      intro h0
      rw [← hk, h0] at this
      simp at this
    · rw [if_neg ho] at h; cases h
theorem indexB_none : ∀ {l : List UInt8} {c : UInt8}, c ∉ l → Lib.indexByte l c = -1
  | [], _, _ => rfl
  | b :: l, c, h => by
    rw [Lib.indexByte, indexB_none (fun hh => h (List.mem_cons_of_mem _ hh))]
    have : ¬ b = c := fun e => h (by rw [e]; exact List.mem_cons_self)
    simp [this]
theorem indexB_at : ∀ {l r : List UInt8} {c : UInt8}, c ∉ l → Lib.indexByte (l ++ c :: r) c = (l.length : Int)
  | [], r, c, _ => by rw [List.nil_append, Lib.indexByte]; simp
  | b :: l, r, c, h => by
    rw [List.cons_append, Lib.indexByte, indexB_at (fun hh => h (List.mem_cons_of_mem _ hh))]
    have : ¬ b = c := fun e => h (by rw [e]; exact List.mem_cons_self)
    have h2 : ¬ ((l.length : Int) = -1) := by omega
    simp [this, h2]
theorem cut_text {v t : List UInt8} (hne : v ≠ []) (hv : ∀ c ∈ v, c ≠ 60) (ht : t = [] ∨ t.head? = some 60) : cutX (v ++ t) = v.length := by
  unfold cutX
  have h0 : ¬ (v ++ t).head? = some 60 := by
    cases v with
    | nil => exact absurd rfl hne
    | cons a v => simpa using hv a List.mem_cons_self
  have hn : (60 : UInt8) ∉ v := fun h => hv 60 h rfl
  rw [if_neg h0]
  rcases ht with rfl | ht
  · rw [List.append_nil, indexB_none hn, if_neg (by decide)]
  · cases t with
    | nil => cases ht
    | cons a t =>
      obtain rfl : a = 60 := by simpa using ht
      rw [indexB_at hn, if_pos (by omega), Int.toNat_natCast]
theorem cut_tag {m t : List UInt8} (hm : ∀ c ∈ m, c ≠ 62) : cutX ((60 :: (m ++ [62])) ++ t) = (60 :: (m ++ [62]) : List UInt8).length := by
  have hn : (62 : UInt8) ∉ (60 :: m : List UInt8) := by
    intro h
    rcases List.mem_cons.1 h with h | h
    · exact absurd h (by decide)
    · exact hm 62 h rfl
  have e : (60 :: (m ++ [62])) ++ t = (60 :: m) ++ 62 :: t := by simp
  unfold cutX
  rw [e, indexB_at hn, if_pos (show (60 :: m ++ 62 :: t).head? = some 60 by rfl), if_pos (by omega), Int.toNat_natCast]
  simp
theorem takeW_all {p : UInt8 → Bool} {l : List UInt8} (h : ∀ c ∈ l, p c = true) : l.takeWhile p = l := by
  have := List.takeWhile_append_of_pos (l₂ := []) h
  rwa [List.append_nil, List.takeWhile_nil, List.append_nil] at this
theorem name_self {nm : List UInt8} (hc : ∀ c ∈ nm, c ≠ 32 ∧ c ≠ 47 ∧ c ≠ 60 ∧ c ≠ 62) : nameF nm = nm := takeW_all fun c h => by
  have := hc c h
  simp [this.1, this.2.1]
/- tags -/
theorem tag_form {x : Lx} (h1 : singleX x = 0) (hk : x.k ≠ 1) (h3 : rightX x = true) : ∃ m, textF x = 60 :: (m ++ [62]) ∧ (∀ c ∈ m, c ≠ 62) ∧ readF (textF x) = ({ x with pos := 0 }, 0) := by
  unfold singleX at h1
  rw [if_neg hk] at h1
  split at h1
  · rename_i hk3
    split at h1
    · rename_i hkn
      obtain ⟨hkn, hem⟩ := hkn
      obtain ⟨nn, _, hc⟩ := nm_bad hkn
      by_cases k3 : x.k = 3
      · have hv : x.vl = [] := by unfold rightX at h3; rw [if_pos k3] at h3; exact of_decide_eq_true h3
        have e : textF x = 60 :: ((47 :: x.nm) ++ [62]) := by
          unfold textF innF
          rw [if_neg (by omega), if_pos k3, hv, if_neg (by simp)]; rfl
        refine ⟨47 :: x.nm, e, ?_, ?_⟩
        · intro c hcm
          rcases List.mem_cons.1 hcm with rfl | h
          · decide
          · exact (hc c h).2.2.2
        · unfold readF
          rw [e, inner_two, if_pos (show (47 :: x.nm : List UInt8).head? = some 47 by rfl)]
          have en : nameF (List.drop 1 (47 :: x.nm)) = x.nm := by
            exact name_self hc
          rw [en, if_neg (by rw [hkn]; decide), if_pos ⟨by rw [hem]; exact decide_eq_false (by omega), by simp⟩, ← k3, ← hv]
      · have hval : valB x.nm x.vl = true := by unfold rightX at h3; rw [if_neg k3] at h3; exact h3
        have hvc : ∀ c ∈ x.vl, c ≠ 32 ∧ c ≠ 47 ∧ c ≠ 60 ∧ c ≠ 62 := fun c h => kd_bad (val_kd hval c h)
        have hin := inn_chars hc hvc
        have et : tagX x.nm x.vl = { x with pos := 0 } := by
          unfold tagX
          by_cases k4 : x.k = 4
          · rw [if_pos (by rw [hem]; exact decide_eq_true k4), ← k4]
          · have k2 : x.k = 2 := by omega
            rw [if_neg (by rw [hem]; simpa using k4), ← k2]
        have etx : textF (tagX x.nm x.vl) = textF x := by rw [et]; rfl
        have kk : ∀ m, innerF (textF x) = m → (∃ t, m = innF x.nm x.vl ++ t ∧ (t = [] ∨ t = [47])) → readF (textF x) = ({ x with pos := 0 }, 0) := by
          rintro m hm ⟨t, rfl, ht⟩
          have en : nameF (innF x.nm x.vl ++ t) = x.nm := by
            unfold nameF innF
            have hh : ∀ c ∈ x.nm, (!(c == 32 || c == 47)) = true := fun c h => by
              have := hc c h
              simp [this.1, this.2.1]
            split
            · rw [List.append_assoc, List.takeWhile_append_of_pos hh]
              show x.nm ++ List.takeWhile _ (32 :: _) = x.nm
              rw [List.takeWhile_cons]; simp
            · rw [List.takeWhile_append_of_pos hh]
              rcases ht with rfl | rfl
              · simp
              · simp
          have hhd : ¬ (innF x.nm x.vl ++ t).head? = some 47 := by
            unfold innF
            cases hnm : x.nm with
            | nil => exact absurd hnm nn
            | cons a r =>
              have := (hc a (by rw [hnm]; exact List.mem_cons_self)).2.1
              split <;> simpa using this
          unfold readF
          rw [hm, if_neg hhd, en, if_neg (by rw [hkn]; decide)]
          have hv := (val_key hkn hval etx).2
          rw [hm] at hv
          rw [hv]
          unfold accX
          rw [if_pos ⟨hval, etx⟩, et]
        by_cases k4 : x.k = 4
        · have e : textF x = 60 :: ((innF x.nm x.vl ++ [47]) ++ [62]) := by
            unfold textF
            rw [if_neg (by omega), if_neg k3, if_pos k4]; simp
          refine ⟨_, e, ?_, kk _ (by rw [e, inner_two]) ⟨[47], rfl, .inr rfl⟩⟩
          intro c hcm
          rcases List.mem_append.1 hcm with h | h
          · exact (hin c h).2.2
          · rw [List.mem_singleton.1 h]; decide
        · have k2 : x.k = 2 := by omega
          have e : textF x = 60 :: (innF x.nm x.vl ++ [62]) := by
            unfold textF
            rw [if_pos k2]; simp
          exact ⟨_, e, fun c h => (hin c h).2.2, kk _ (by rw [e, inner_two]) ⟨[], by simp, .inl rfl⟩⟩
    · cases h1
  · cases h1
theorem text_form {x : Lx} (h1 : singleX x = 0) (hk : x.k = 1) : x.nm = [] ∧ x.vl ≠ [] ∧ checkC x.vl = 0 ∧ textF x = x.vl := by
  unfold singleX at h1
  rw [if_pos hk] at h1
  split at h1
  · cases h1
  · rename_i a
    split at h1
    · cases h1
    · rename_i b
      split at h1
      · cases h1
      · rename_i c
        refine ⟨by simpa using a, b, by simpa using c, ?_⟩
        unfold textF
        rw [if_neg (by omega), if_neg (by omega), if_neg (by omega)]
theorem text_pos {x : Lx} (h1 : singleX x = 0) (h3 : x.k ≠ 1 → rightX x = true) : textF x ≠ [] := by
  by_cases hk : x.k = 1
  · obtain ⟨_, b, _, d⟩ := text_form h1 hk; rw [d]; exact b
  · obtain ⟨m, e, _⟩ := tag_form h1 hk (h3 hk); rw [e]; simp
theorem print_head {r : List Lx} {at_ : Nat} (h : chkGo r true at_ = 0) : printX r = [] ∨ (printX r).head? = some 60 := by
  cases r with
  | nil => exact .inl rfl
  | cons y r =>
    obtain ⟨h1, _⟩ := chkGo_cons.1 h
    obtain ⟨a, b, c, _⟩ := chk_inv h1
    have hk : y.k ≠ 1 := fun e => b ⟨e, rfl⟩
    obtain ⟨m, e, _⟩ := tag_form a hk (c hk)
    right
    rw [printX, List.flatMap_cons, e]; rfl
theorem chk_parts : ∀ (l : List Lx) (pt : Bool) (at_ : Nat), chkGo l pt at_ = 0 → partsM (printX l) at_ = l.map (fun x => (x.pos.toNat, textF x)) ∧ scanL (l.map fun x => (x.pos.toNat, textF x)) = (l, 0)
  | [], _, _, _ => ⟨by show partsM [] _ = []; rw [partsM], rfl⟩
  | x :: r, pt, at_, h => by
    obtain ⟨h1, h2⟩ := chkGo_cons.1 h
    obtain ⟨a, b, c, d⟩ := chk_inv h1
    obtain ⟨i1, i2⟩ := chk_parts r _ _ h2
    have hd : x.pos.toNat = at_ := by omega
    have hcut : cutX (textF x ++ printX r) = (textF x).length := by
      by_cases hk : x.k = 1
      · obtain ⟨_, b', c', d'⟩ := text_form a hk
        rw [d']
        rw [decide_eq_true hk] at h2
        exact cut_text b' (fun c hc => (kd_ok (check_kd c' c hc)).2.1) (print_head h2)
      · obtain ⟨m, e, hm, _⟩ := tag_form a hk (c hk)
        rw [e]; exact cut_tag hm
    have hne := text_pos a c
    have hlex : lexP x.pos.toNat (textF x) = (x, 0) := by
      have hx : ({ x with pos := ((x.pos.toNat : Nat) : Int) } : Lx) = x := by
        have : ((x.pos.toNat : Nat) : Int) = x.pos := by omega
        rw [this]
      unfold lexP
      by_cases hk : x.k = 1
      · obtain ⟨a', b', c', d'⟩ := text_form a hk
        rw [d', if_pos, if_pos c']
        · have : (⟨1, [], x.vl, ((x.pos.toNat : Nat) : Int)⟩ : Lx) = { x with pos := ((x.pos.toNat : Nat) : Int) } := by rw [← hk, ← a']
          rw [this, hx]
        · intro hh
          cases hv : x.vl with
          | nil => exact b' hv
          | cons q v =>
            rw [hv] at hh c'
            exact (kd_ok (check_kd c' q List.mem_cons_self)).2.1 (by simpa using hh)
      · obtain ⟨m, e, hm, hr⟩ := tag_form a hk (c hk)
        rw [if_neg (by rw [e]; simp), if_neg (by rw [e, ← List.cons_append, List.getLast?_concat]; simp), hr, if_pos rfl]
        exact congrArg (·, 0) hx
    refine ⟨?_, ?_⟩
    · rw [printX, List.flatMap_cons, ← printX, List.map_cons, hd]
      cases ht : textF x with
      | nil => exact absurd ht hne
      | cons q t =>
        rw [ht] at hcut
        rw [List.cons_append, partsM]
        rw [List.cons_append] at hcut
        rw [hcut, ← List.cons_append, List.take_left, List.drop_left]
        rw [ht] at i1
        rw [i1]
    · rw [List.map_cons, scanL, hlex, if_pos rfl, i2, if_pos rfl]
theorem chk_len : ∀ (l : List Lx) (pt : Bool) (at_ : Nat), chkGo l pt at_ = 0 → at_ + (printX l).length ≤ 65536
  | [], _, at_, h => by
    rw [chkGo] at h
    split at h
    · cases h
    · show at_ + 0 ≤ 65536; omega
  | x :: r, _, at_, h => by
    have := chk_len r _ _ (chkGo_cons.1 h).2
    rw [printX, List.flatMap_cons, List.length_append, ← printX]; omega
theorem print_scan {l : List Lx} (h : chkX l = 0) : scanF (printX l) = (l, 0) := by
  have hl := chk_len l _ _ h
  obtain ⟨h1, h2⟩ := chk_parts l _ _ h
  unfold scanF
  rw [if_neg (by omega), h1, h2]
end Go.Proofs
namespace Go.Proofs
open Go Go.Sh Go.RowKit

/- lexemes and offsets -/
theorem print_cons (x : Lx) (r : List Lx) : printX (x :: r) = textF x ++ printX r := by unfold printX; rw [List.flatMap_cons]
/- the last lexeme that begins at the offset or before it decides -/
/- two strings, one after the other -/
def lastK (pt : Bool) (l : List Lx) : Bool := match l.getLast? with
  | some x => decide (x.k = 1)
  | none => pt
theorem print_app (l m : List Lx) : printX (l ++ m) = printX l ++ printX m := by unfold printX; rw [List.flatMap_append]
/- characters of two strings -/
/- stripped strings -/
end Go.Proofs
namespace Go.Proofs
open Go Go.Sh Go.RowKit

/- lexemes with their right offsets -/
/- nesting asks for kinds and names alone -/
def closes (l : List Lx) : Nat := (l.filter fun x => decide (x.k = 3)).length
/- an empty tag in place of a tag -/
/- one tag alone -/
end Go.Proofs
namespace Go.Proofs
open Go Go.Sh Go.RowKit Go.Lib

set_option maxHeartbeats 4000000 in
set_option maxRecDepth 1000000 in
theorem IndexRune_bad (s : ByteArray) (r : Int) (w : World) (h1 : 128 ≤ r) (h2 : r ≠ 65533) (hv : Go.validRune r = false) :
    Calls Tryz.prog 117 #[.string s, .int .i32 r] w fun e w' => e = .returned (.int .i64 (-1)) ∧ w' = w := by
  have hv' : Lib.validRune r = false := hv
  go_enter Tryz.func117, Tryz.ntmps117
  go_wp2_with (go_at_call 136; refine (Tryz.utf8_ValidRune _ _).mono ?_; rintro e w' ⟨rfl, hw⟩; rw [hw, hv'])
  go_ret
  exact ⟨rfl, rfl⟩
theorem encode_forms (r : Int) (h1 : 128 ≤ r) (hv : Go.validRune r = true) : (∃ x y : UInt8, 128 ≤ y.toNat ∧ Utf8.encode r = ⟨#[x, y]⟩) ∨ (∃ x y z : UInt8, Utf8.encode r = ⟨#[x, y, z]⟩) ∨ (∃ x y z u : UInt8, Utf8.encode r = ⟨#[x, y, z, u]⟩) := by
  have hv : Utf8.valid r = true := by rw [validRune_eq]; exact hv
  have hc : ¬ r.toNat < 128 := by omega
  unfold Utf8.encode
  simp only [hv, if_true, hc, if_false]
  split
  · exact .inl ⟨_, _, by simp; omega, rfl⟩
  · split
    · exact .inr (.inl ⟨_, _, _, rfl⟩)
    · exact .inr (.inr ⟨_, _, _, _, rfl⟩)
section
variable (r : Int) (w : World) (h1 : 128 ≤ r) (h2 : r ≠ 65533) (hv' : Lib.validRune r = true)
set_option maxHeartbeats 4000000 in
set_option maxRecDepth 1000000 in
include h1 h2 hv' in
theorem IndexRune_two (x y : UInt8) (hy : 128 ≤ y.toNat) (he : Utf8.encode r = ⟨#[x, y]⟩) :
    Calls Tryz.prog 117 #[.string ⟨#[32, 47]⟩, .int .i32 r] w fun e w' => e = .returned (.int .i64 (-1)) ∧ ∃ n, w' = w.drewN n := by
  have hcv : ∀ w, (convert 21 9 (.int .i32 r)).run Tryz.prog w = .ok (.string ⟨#[x, y]⟩) w := fun w => by rw [← he]; exact run_convert_int_string w 21 9 .i32 r (by rw [Tryz.underlying21]; rfl) Tryz.underlying9
  have hne : ¬ ((47 : Int) = (y.toNat : Int)) := by omega
  have hwr : IntKind.i64.wrap 2 = 2 := rfl
  have hsz : (⟨#[32, 47]⟩ : ByteArray).size = 2 := rfl
  have hib : Lib.indexByte (ByteArray.extract ⟨#[32, 47]⟩ 2 2).data.toList ((y.toNat : Int)).toNat.toUInt8 = -1 := rfl
  go_enter Tryz.func117, Tryz.ntmps117
  go_wp2_with (go_at_call 136; refine (Tryz.utf8_ValidRune _ _).mono ?_; rintro e w' ⟨rfl, hw⟩; rw [hw, hv'])
  subst hw
  go_step3
  go_wp2
  refine wp_loop_rounds 1 ?_
  rw [rounds_succ]
  go_wp2
  go_step3
  go_wp2_with fail
  go_quiet (fail)
  go_wp2_with fail
  go_quiet (first | (go_at_call 86; refine (Tryz.strings_IndexByte _ _ _).mono ?_; rintro e w'' ⟨rfl, rfl⟩; exact ⟨rfl, _, rfl⟩))
  go_wp2
  · simp only [Exit.noGoto, Exit.inBlock, Exit.then]
    go_ret
    exact ⟨rfl, _, rfl⟩
  · exfalso
    have hh : ((47 : Int) != (y.toNat : Int)) = false := by assumption
    simp at hh
    omega
set_option maxHeartbeats 4000000 in
set_option maxRecDepth 1000000 in
include h1 h2 hv' in
theorem IndexRune_three (x y z : UInt8) (he : Utf8.encode r = ⟨#[x, y, z]⟩) :
    Calls Tryz.prog 117 #[.string ⟨#[32, 47]⟩, .int .i32 r] w fun e w' => e = .returned (.int .i64 (-1)) ∧ w' = w := by
  have hcv : ∀ w, (convert 21 9 (.int .i32 r)).run Tryz.prog w = .ok (.string ⟨#[x, y, z]⟩) w := fun w => by rw [← he]; exact run_convert_int_string w 21 9 .i32 r (by rw [Tryz.underlying21]; rfl) Tryz.underlying9
  go_enter Tryz.func117, Tryz.ntmps117
  go_wp2_with (go_at_call 136; refine (Tryz.utf8_ValidRune _ _).mono ?_; rintro e w' ⟨rfl, hw⟩; rw [hw, hv'])
  subst hw
  go_step3
  go_wp2
  refine wp_loop_rounds 1 ?_
  rw [rounds_succ]
  go_wp2
  simp only [Exit.noGoto, Exit.inBlock]
  go_ret
  exact ⟨rfl, rfl⟩
set_option maxHeartbeats 4000000 in
set_option maxRecDepth 1000000 in
include h1 h2 hv' in
theorem IndexRune_four (x y z u : UInt8) (he : Utf8.encode r = ⟨#[x, y, z, u]⟩) :
    Calls Tryz.prog 117 #[.string ⟨#[32, 47]⟩, .int .i32 r] w fun e w' => e = .returned (.int .i64 (-1)) ∧ w' = w := by
  have hcv : ∀ w, (convert 21 9 (.int .i32 r)).run Tryz.prog w = .ok (.string ⟨#[x, y, z, u]⟩) w := fun w => by rw [← he]; exact run_convert_int_string w 21 9 .i32 r (by rw [Tryz.underlying21]; rfl) Tryz.underlying9
  go_enter Tryz.func117, Tryz.ntmps117
  go_wp2_with (go_at_call 136; refine (Tryz.utf8_ValidRune _ _).mono ?_; rintro e w' ⟨rfl, hw⟩; rw [hw, hv'])
  subst hw
  go_step3
  go_wp2
  refine wp_loop_rounds 1 ?_
  rw [rounds_succ]
  go_wp2
  simp only [Exit.noGoto, Exit.inBlock]
  go_ret
  exact ⟨rfl, rfl⟩
end
set_option maxHeartbeats 4000000 in
set_option maxRecDepth 1000000 in
theorem IndexRune_err (w : World) : Calls Tryz.prog 117 #[.string ⟨#[32, 47]⟩, .int .i32 65533] w fun e w' => e = .returned (.int .i64 (-1)) ∧ ∃ pos, w' = w.iter ⟨#[32, 47]⟩ pos := by
  go_enter Tryz.func117, Tryz.ntmps117
  have k0 := fun ty => run_next_ascii (P := Tryz.prog) w ⟨#[32, 47]⟩ 0 ty (by decide) (by decide)
  have k1 := fun ty => run_next_ascii (P := Tryz.prog) w ⟨#[32, 47]⟩ 1 ty (by decide) (by decide)
  have k2 := run_next_end (P := Tryz.prog) w ⟨#[32, 47]⟩ 2
  have e0 : ((⟨#[32, 47]⟩ : ByteArray)[0]'(by decide)).toNat = 32 := rfl
  have e1 : ((⟨#[32, 47]⟩ : ByteArray)[1]'(by decide)).toNat = 47 := rfl
  rw [e0] at k0
  rw [e1] at k1
  go_wp2
  refine wp_loop_rounds 3 ?_
  rw [rounds_succ]
  go_wp2
  rw [rounds_succ]
  go_wp2
  rw [rounds_succ]
  go_wp2
  go_ret
  exact ⟨rfl, _, rfl⟩
theorem IndexRune_any (r : Int) (w : World) (h1 : 128 ≤ r) (h3 : r ≤ 2147483647) : Calls Tryz.prog 117 #[.string ⟨#[32, 47]⟩, .int .i32 r] w fun e w' => e = .returned (.int .i64 (-1)) ∧ Below w.heap.size w w' := by
  by_cases h2 : r = 65533
  · subst h2
    refine (IndexRune_err w).mono ?_
    rintro e w' ⟨he, pos, rfl⟩
    exact ⟨he, (Below.refl _ _).alloc (Nat.le_refl _) _⟩
  · cases hv : Go.validRune r with
    | false =>
      refine (IndexRune_bad ⟨#[32, 47]⟩ r w h1 h2 hv).mono ?_
      rintro e w' ⟨he, rfl⟩
      exact ⟨he, Below.refl _ _⟩
    | true =>
      rcases encode_forms r h1 hv with ⟨x, y, hy, he⟩ | ⟨x, y, z, he⟩ | ⟨x, y, z, u, he⟩
      · refine (IndexRune_two r w h1 h2 hv x y hy he).mono ?_
        rintro e w' ⟨he, n, rfl⟩
        exact ⟨he, below_drewN (Below.refl _ _) n⟩
      · refine (IndexRune_three r w h1 h2 hv x y z he).mono ?_
        rintro e w' ⟨he, rfl⟩
        exact ⟨he, Below.refl _ _⟩
      · refine (IndexRune_four r w h1 h2 hv x y z u he).mono ?_
        rintro e w' ⟨he, rfl⟩
        exact ⟨he, Below.refl _ _⟩
/- what a decoded rune takes up -/
theorem decode_span (s : ByteArray) (pos : Nat) (h : pos < s.size) (ha : 128 ≤ (s[pos]'h).toNat) : ∃ n, (Utf8.decode s pos).2 = n ∧ 1 ≤ n ∧ pos + n ≤ s.size ∧ ∀ k, k < n → 128 ≤ (s.get! (pos + k)).toNat := by
  have hg := get_at s pos h
  have hn : ¬ (s[pos]'h).toNat < 128 := by omega
  have one : ∃ n, (1 : Nat) = n ∧ 1 ≤ n ∧ pos + n ≤ s.size ∧ ∀ k, k < n → 128 ≤ (s.get! (pos + k)).toNat :=
    ⟨1, rfl, Nat.le_refl _, by omega, by
      intro k hk
      have hk0 : k = 0 := by omega
      subst hk0
      rw [hg]; exact ha⟩
  simp only [Utf8.decode, hg, hn, if_false]
  split
  · rename_i h1
    simp only [Bool.and_eq_true, decide_eq_true_eq, beq_iff_eq] at h1
    split
    · refine ⟨2, rfl, by omega, by omega, fun k hk => ?_⟩
      rcases (by omega : k = 0 ∨ k = 1) with rfl | rfl
      · rw [hg]; exact ha
      · omega
    · exact one
  · split
    · rename_i h1
      simp only [Bool.and_eq_true, decide_eq_true_eq, beq_iff_eq] at h1
      split
      · refine ⟨3, rfl, by omega, by omega, fun k hk => ?_⟩
        rcases (by omega : k = 0 ∨ k = 1 ∨ k = 2) with rfl | rfl | rfl
        · rw [hg]; exact ha
        · omega
        · omega
      · exact one
    · split
      · rename_i h1
        simp only [Bool.and_eq_true, decide_eq_true_eq, beq_iff_eq] at h1
        split
        · refine ⟨4, rfl, by omega, by omega, fun k hk => ?_⟩
          rcases (by omega : k = 0 ∨ k = 1 ∨ k = 2 ∨ k = 3) with rfl | rfl | rfl | rfl
          · rw [hg]; exact ha
          · omega
          · omega
          · omega
        · exact one
      · exact one
end Go.Proofs
