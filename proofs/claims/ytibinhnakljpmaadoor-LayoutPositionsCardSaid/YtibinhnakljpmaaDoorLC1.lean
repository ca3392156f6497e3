/- The card of one law, out of the contracts of the functions that it reaches. -/
import Derived.Test.YtibinhnakljpmaaDoorLawE
import Derived.Test.YtibinhnakljpmaaDoorCards
import Derived.Test.YtibinhnakljpmaaDoorTie
import Derived.Deep.DeepHandedRow
import Derived.Lib.LaidTab
import Derived.WalkKit
import Derived.Lib.SmallJoins
import Derived.ProofKit
/- THE CARD OF LayoutPositions: whatever the input: true; the input reads as it did. -/
namespace Go.Proofs.YtibinhnakljpmaaDoor
open Go Go.Sh Go.RowKit Go.ChangeShapes Go.WideShapes Go.ChangeAt

namespace LayoutPositions
theorem rec_nodes : Tryd.prog.readableRec 24 = true ∧ 24 < Tryd.prog.types.size := ⟨by kernel_rfl, of_decide_eq_true (by kernel_rfl)⟩
theorem rec_pos : Tryd.prog.readableRec 23 = true ∧ 23 < Tryd.prog.types.size := ⟨by kernel_rfl, of_decide_eq_true (by kernel_rfl)⟩
set_option maxRecDepth 20000 in
theorem contract (H : Type) (enc : TypeId × Value → H) (W : World) (base : Nat) (args : Array Value) (ds gs : List (DataW H)) (before : List MemPlace)
    (hval : ∀ (j : Nat) t v, Tryd.f3.params[j]? = some t → args[j]? = some v → Value.okWide Tryd.prog W .any base t v)
    (hW : DataW.Whole enc Tryd.prog Tryd.f3.params.toList Rows.layoutPositionsSpec.vars false W args.toList ds gs before) (hL : laidMetH Tryd.prog Rows.layoutPositionsRow.laid W) :
    Calls Tryd.prog 3 args W fun e W' => ∃ v, e = .returned v ∧ Rows.layoutPositionsSpec.post enc Tryd.prog Tryd.f3 false true false false W args v W' := by
  have hW' := hW
  obtain ⟨p, q, hA0, hV, rfl, hfz, hnd⟩ := hW
  have hA : DataW.TrodAll enc Tryd.prog W 0 (fun _ => true) true Tryd.f3.params.toList args.toList ds p := hA0
  rw [Tryd.params3] at hA hval
  obtain ⟨v0, vs0, d0, ds0, p0, q0, hargs, rfl, rfl, h0, r0⟩ := trodAll_cons hA
  obtain ⟨v1, vs1, d1, ds1, p1, q1, rfl, rfl, rfl, h1, r1⟩ := trodAll_cons r0
  obtain ⟨rfl, rfl, rfl⟩ := trodAll_nil r1
  obtain rfl : args = #[v0, v1] := by cases args; simp_all
  obtain ⟨rfl, rfl⟩ := trodVars_none hV
  obtain ⟨c0a, c0b, y0a, y0b, m0p, rfl, rfl, rfl, hy0a, hy0b⟩ := Go.Joins.open_agg2 Tryd.underlying23 (by kernel_rfl) (by kernel_rfl) (hval 0 23 v0 rfl rfl) h0
  obtain ⟨t0, e0a, _, _⟩ := DataW.trod_string Tryd.underlying9 hy0a
  obtain ⟨x0, e0b, _, _⟩ := DataW.trod_int (k := .i64) Tryd.underlying3 hy0b
  simp at e0a e0b
  subst e0a e0b
  obtain ⟨fuel1, hf1⟩ := h1
  obtain ⟨a1, n1, c1, f1, hc1, hsl1⟩ := open_nodes fuel1 _ _ hf1
  obtain ⟨b1, m1, e1, rfl⟩ := okWide_slice Tryd.underlying24 (hval 1 24 v1 rfl rfl)
  obtain ⟨rfl, rfl, rfl⟩ : b1 = a1 ∧ m1 = n1 ∧ e1 = c1 := by simpa [Value.cells] using hc1
  refine (Go.Proofs.LayoutPositions_spec (t0.data.toList, x0) f1  (forms_of hL) hsl1 fun w' he => ?_)
  exact ⟨_, rfl, post_ext laidOut (by rw [Tryd.params3]; intro t ht; simp only [List.mem_cons, List.not_mem_nil, or_false] at ht; rcases ht with rfl | rfl <;> first | exact rec_nodes | exact rec_pos) (by kernel_rfl) Tryd.underlying4 rfl hW' rfl he⟩

theorem laid_met (os : Os) : laidMet Tryd.prog Rows.layoutPositionsRow.laid ((laidWorld os).forCall (fun _ _ => 0) ⟨#[], #[.agg #[.string ⟨⟨[]⟩⟩, .int .i64 0], .slice none 0 0], []⟩).memory :=
  laidMet_of_run' 8 (by kernel_rfl) (by kernel_rfl)
theorem reads (os : Os) {H : Type} (enc : TypeId × Value → H) : ∃ places, DataW.whole enc Tryd.prog ((laidWorld os).forCall (fun _ _ => 0) ⟨#[], #[.agg #[.string ⟨⟨[]⟩⟩, .int .i64 0], .slice none 0 0], []⟩).memory Tryd.f3.params.toList Rows.layoutPositionsSpec.vars false (#[.agg #[.string ⟨⟨[]⟩⟩, .int .i64 0], .slice none 0 0] : Array Value).toList 8 = some ([.agg [.lit (.string []), .lit (.int .i64 0)], .nil], [], places) :=
  ⟨[], by kernel_rfl⟩

set_option maxRecDepth 100000 in
theorem lifted (os : Os) (started : os.Started) (H : Type) (enc : TypeId × Value → H) (F : Stop.Interp) :
    ReturnsInHanded {} Tryd.checked os 3 .any ((OpenSpec.ofChange Rows.layoutPositionsSpec).preRow enc Tryd.prog Tryd.f3 Rows.layoutPositionsRow.domain false Rows.layoutPositionsRow.laid) (((OpenSpec.ofChange Rows.layoutPositionsSpec).at F).post enc Tryd.prog Tryd.f3 false true false false) := by
  obtain ⟨places, hx⟩ := reads os enc
  refine returnsInHanded_of_row (C := Tryd.checked) (s := OpenSpec.ofChange Rows.layoutPositionsSpec) own started (by kernel_rfl) Tryd.func3
    (witness_row_at (enc := enc) (C := Tryd.checked) false (laidWorld os) #[.agg #[.string ⟨⟨[]⟩⟩, .int .i64 0], .slice none 0 0] rfl (by kernel_rfl) (by kernel_rfl) (by kernel_rfl)
      (OpenSpec.preRow_of_cond 8 hx (by kernel_rfl) (fun k hk => by cases hk) (by kernel_rfl) (laid_met os))) ?_
  intro W base args ds gs before hval hW _ _ _ hL _ _
  exact contract H enc W base args ds gs before hval hW hL

theorem said : Rows.LayoutPositionsSaid :=
  OpenClaim.holds_of_cond 3 Tryd.f3 rfl rfl rfl rfl rfl rfl rfl ⟨rfl, rfl, rfl, rfl, rfl⟩ rfl rfl rfl rfl rfl (by kernel_rfl) Tryd.func3 (by kernel_rfl)
    (of_decide_eq_true (by kernel_rfl)) (by unfold Func.isWrapper; first | (rw [if_pos (by decide +kernel)]; kernel_rfl) | (rw [if_neg (by decide +kernel)]; exact ⟨rfl, rfl⟩))
    (fun os started H enc _ F => by rw [OpenClaim.pre_eq_preRow]; exact lifted os started H enc F)

theorem plain (f : FuncId) (fn : Func) (hf : Tryd.pinned.checked.prog.funcNamed "apograph/apographlaw13.LayoutPositions" = some f) (hfn : Tryd.pinned.checked.prog.funcs[f]? = some fn) :
    false = Tryd.pinned.checked.prog.looks [] ∧ ∀ (j : Nat) t, fn.params[j]? = some t → Tryd.pinned.checked.prog.wantsStandIn t = false := by
  obtain rfl : f = 3 := Option.some.inj ((show Tryd.prog.funcNamed "apograph/apographlaw13.LayoutPositions" = some 3 by kernel_rfl).symm.trans hf) |>.symm
  obtain rfl : fn = Tryd.f3 := (Option.some.inj (Tryd.func3.symm.trans hfn)).symm
  refine ⟨by kernel_rfl, fun j t ht => ?_⟩
  rw [Tryd.params3] at ht
  have hm : t = 23 ∨ t = 24 := by simpa using Array.mem_of_getElem? ht
  rcases hm with rfl | rfl
  · exact (show Tryd.prog.wantsStandIn 23 = false by kernel_rfl)
  · exact (show Tryd.prog.wantsStandIn 24 = false by kernel_rfl)

theorem card : Rows.LayoutPositionsCardSaid :=
  Claim7.holds_tied_plain_at .later [] _ _ _ _ said (fun _ h => by cases h) (by kernel_rfl) (fun _ h => by cases h) layoutPositions_row_tie rfl ⟨rfl, rfl⟩ (by kernel_rfl) rfl plain (by kernel_rfl)
end LayoutPositions
end Go.Proofs.YtibinhnakljpmaaDoor
