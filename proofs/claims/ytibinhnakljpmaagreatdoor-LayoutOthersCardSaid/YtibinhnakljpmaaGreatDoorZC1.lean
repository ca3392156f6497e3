/- The card of one law, out of the contracts of the functions that it reaches. -/
import Derived.Test.YtibinhnakljpmaaGreatDoorLawF
import Derived.Test.YtibinhnakljpmaaGreatDoorCards
import Derived.Test.YtibinhnakljpmaaGreatDoorTie
import Derived.Deep.DeepHandedRow
import Derived.Lib.LaidTab
import Derived.WalkKit
import Derived.Lib.SmallJoins
import Derived.ProofKit
/- THE CARD OF LayoutOthers: whatever the input: true; the input reads as it did. -/
namespace Go.Proofs.YtibinhnakljpmaaGreatDoor
open Go Go.Sh Go.RowKit Go.ChangeShapes Go.WideShapes Go.ChangeAt

namespace LayoutOthers
theorem rec_nodes : Tryz.prog.readableRec 22 = true ∧ 22 < Tryz.prog.types.size := ⟨by kernel_rfl, of_decide_eq_true (by kernel_rfl)⟩
theorem rec_pos : Tryz.prog.readableRec 24 = true ∧ 24 < Tryz.prog.types.size := ⟨by kernel_rfl, of_decide_eq_true (by kernel_rfl)⟩
set_option maxRecDepth 20000 in
theorem contract (H : Type) (enc : TypeId × Value → H) (W : World) (base : Nat) (args : Array Value) (ds gs : List (DataW H)) (before : List MemPlace)
    (hval : ∀ (j : Nat) t v, Tryz.f3.params[j]? = some t → args[j]? = some v → Value.okWide Tryz.prog W .any base t v)
    (hW : DataW.Whole enc Tryz.prog Tryz.f3.params.toList Rows.layoutOthersSpec.vars false W args.toList ds gs before) (hL : laidMetH Tryz.prog Rows.layoutOthersRow.laid W) :
    Calls Tryz.prog 3 args W fun e W' => ∃ v, e = .returned v ∧ Rows.layoutOthersSpec.post enc Tryz.prog Tryz.f3 false true false false W args v W' := by
  have hW' := hW
  obtain ⟨p, q, hA0, hV, rfl, hfz, hnd⟩ := hW
  have hA : DataW.TrodAll enc Tryz.prog W 0 (fun _ => true) true Tryz.f3.params.toList args.toList ds p := hA0
  rw [Tryz.params3] at hA hval
  obtain ⟨v0, vs0, d0, ds0, p0, q0, hargs, rfl, rfl, h0, r0⟩ := trodAll_cons hA
  obtain ⟨v1, vs1, d1, ds1, p1, q1, rfl, rfl, rfl, h1, r1⟩ := trodAll_cons r0
  obtain ⟨v2, vs2, d2, ds2, p2, q2, rfl, rfl, rfl, h2, r2⟩ := trodAll_cons r1
  obtain ⟨rfl, rfl, rfl⟩ := trodAll_nil r2
  obtain rfl : args = #[v0, v1, v2] := by cases args; simp_all
  obtain ⟨rfl, rfl⟩ := trodVars_none hV
  obtain ⟨fuel0, hf0⟩ := h0
  obtain ⟨a0, n0, c0, f0, hc0, hsl0⟩ := open_nodes fuel0 _ _ hf0
  obtain ⟨c1a, c1b, y1a, y1b, m1p, rfl, rfl, rfl, hy1a, hy1b⟩ := Go.Joins.open_agg2 Tryz.underlying24 (by kernel_rfl) (by kernel_rfl) (hval 1 24 v1 rfl rfl) h1
  obtain ⟨t1, e1a, _, _⟩ := DataW.trod_string Tryz.underlying9 hy1a
  obtain ⟨x1, e1b, _, _⟩ := DataW.trod_int (k := .i64) Tryz.underlying3 hy1b
  simp at e1a e1b
  subst e1a e1b
  obtain ⟨c2a, c2b, y2a, y2b, m2p, rfl, rfl, rfl, hy2a, hy2b⟩ := Go.Joins.open_agg2 Tryz.underlying24 (by kernel_rfl) (by kernel_rfl) (hval 2 24 v2 rfl rfl) h2
  obtain ⟨t2, e2a, _, _⟩ := DataW.trod_string Tryz.underlying9 hy2a
  obtain ⟨x2, e2b, _, _⟩ := DataW.trod_int (k := .i64) Tryz.underlying3 hy2b
  simp at e2a e2b
  subst e2a e2b
  obtain ⟨b0, m0, e0, rfl⟩ := okWide_slice Tryz.underlying22 (hval 0 22 v0 rfl rfl)
  obtain ⟨rfl, rfl, rfl⟩ : b0 = a0 ∧ m0 = n0 ∧ e0 = c0 := by simpa [Value.cells] using hc0
  refine (Go.Proofs.LayoutOthers_spec f0 (t1.data.toList, x1) (t2.data.toList, x2)  (forms_of hL) hsl0 fun w' he => ?_)
  exact ⟨_, rfl, post_ext laidOut (by rw [Tryz.params3]; intro t ht; simp only [List.mem_cons, List.not_mem_nil, or_false] at ht; rcases ht with rfl | rfl | rfl <;> first | exact rec_nodes | exact rec_pos) (by kernel_rfl) Tryz.underlying4 rfl hW' rfl he⟩

theorem laid_met (os : Os) : laidMet Tryz.prog Rows.layoutOthersRow.laid ((laidWorld os).forCall (fun _ _ => 0) ⟨#[], #[.slice none 0 0, .agg #[.string ⟨⟨[]⟩⟩, .int .i64 0], .agg #[.string ⟨⟨[]⟩⟩, .int .i64 0]], []⟩).memory :=
  laidMet_of_run' 8 (by kernel_rfl) (by kernel_rfl)
theorem reads (os : Os) {H : Type} (enc : TypeId × Value → H) : ∃ places, DataW.whole enc Tryz.prog ((laidWorld os).forCall (fun _ _ => 0) ⟨#[], #[.slice none 0 0, .agg #[.string ⟨⟨[]⟩⟩, .int .i64 0], .agg #[.string ⟨⟨[]⟩⟩, .int .i64 0]], []⟩).memory Tryz.f3.params.toList Rows.layoutOthersSpec.vars false (#[.slice none 0 0, .agg #[.string ⟨⟨[]⟩⟩, .int .i64 0], .agg #[.string ⟨⟨[]⟩⟩, .int .i64 0]] : Array Value).toList 8 = some ([.nil, .agg [.lit (.string []), .lit (.int .i64 0)], .agg [.lit (.string []), .lit (.int .i64 0)]], [], places) :=
  ⟨[], by kernel_rfl⟩

set_option maxRecDepth 100000 in
theorem lifted (os : Os) (started : os.Started) (H : Type) (enc : TypeId × Value → H) (F : Stop.Interp) :
    ReturnsInHanded {} Tryz.checked os 3 .any ((OpenSpec.ofChange Rows.layoutOthersSpec).preRow enc Tryz.prog Tryz.f3 Rows.layoutOthersRow.domain false Rows.layoutOthersRow.laid) (((OpenSpec.ofChange Rows.layoutOthersSpec).at F).post enc Tryz.prog Tryz.f3 false true false false) := by
  obtain ⟨places, hx⟩ := reads os enc
  refine returnsInHanded_of_row (C := Tryz.checked) (s := OpenSpec.ofChange Rows.layoutOthersSpec) own started (by kernel_rfl) Tryz.func3
    (witness_row_at (enc := enc) (C := Tryz.checked) false (laidWorld os) #[.slice none 0 0, .agg #[.string ⟨⟨[]⟩⟩, .int .i64 0], .agg #[.string ⟨⟨[]⟩⟩, .int .i64 0]] rfl (by kernel_rfl) (by kernel_rfl) (by kernel_rfl)
      (OpenSpec.preRow_of_cond 8 hx (by kernel_rfl) (fun k hk => by cases hk) (by kernel_rfl) (laid_met os))) ?_
  intro W base args ds gs before hval hW _ _ _ hL _ _
  exact contract H enc W base args ds gs before hval hW hL

theorem said : Rows.LayoutOthersSaid :=
  OpenClaim.holds_of_cond 3 Tryz.f3 rfl rfl rfl rfl rfl rfl rfl ⟨rfl, rfl, rfl, rfl, rfl⟩ rfl rfl rfl rfl rfl (by kernel_rfl) Tryz.func3 (by kernel_rfl)
    (of_decide_eq_true (by kernel_rfl)) (by unfold Func.isWrapper; first | (rw [if_pos (by decide +kernel)]; kernel_rfl) | (rw [if_neg (by decide +kernel)]; exact ⟨rfl, rfl⟩))
    (fun os started H enc _ F => by rw [OpenClaim.pre_eq_preRow]; exact lifted os started H enc F)

theorem plain (f : FuncId) (fn : Func) (hf : Tryz.pinned.checked.prog.funcNamed "apograph/apographlaw13.LayoutOthers" = some f) (hfn : Tryz.pinned.checked.prog.funcs[f]? = some fn) :
    false = Tryz.pinned.checked.prog.looks [] ∧ ∀ (j : Nat) t, fn.params[j]? = some t → Tryz.pinned.checked.prog.wantsStandIn t = false := by
  obtain rfl : f = 3 := Option.some.inj ((show Tryz.prog.funcNamed "apograph/apographlaw13.LayoutOthers" = some 3 by kernel_rfl).symm.trans hf) |>.symm
  obtain rfl : fn = Tryz.f3 := (Option.some.inj (Tryz.func3.symm.trans hfn)).symm
  refine ⟨by kernel_rfl, fun j t ht => ?_⟩
  rw [Tryz.params3] at ht
  have hm : t = 22 ∨ t = 24 := by have := Array.mem_of_getElem? ht; simp at this; omega
  rcases hm with rfl | rfl
  · exact (show Tryz.prog.wantsStandIn 22 = false by kernel_rfl)
  · exact (show Tryz.prog.wantsStandIn 24 = false by kernel_rfl)

theorem card : Rows.LayoutOthersCardSaid :=
  Claim7.holds_tied_plain_at .later [] _ _ _ _ said (fun _ h => by cases h) (by kernel_rfl) (fun _ h => by cases h) layoutOthers_row_tie rfl ⟨rfl, rfl⟩ (by kernel_rfl) rfl plain (by kernel_rfl)
end LayoutOthers
end Go.Proofs.YtibinhnakljpmaaGreatDoor
