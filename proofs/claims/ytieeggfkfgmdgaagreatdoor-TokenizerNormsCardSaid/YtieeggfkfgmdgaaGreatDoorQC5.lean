/- The card of one law, out of the contracts of the functions that it reaches. -/
import Derived.Test.YtieeggfkfgmdgaaGreatDoorLawF
import Derived.Test.YtieeggfkfgmdgaaGreatDoorCards
import Derived.Test.YtieeggfkfgmdgaaGreatDoorTie
import Derived.Deep.DeepHandedRow
import Derived.Lib.LaidTab
import Derived.WalkKit
import Derived.ProofKit
import Derived.ChangeMaps5
/- THE CARD OF TokenizerNorms: whatever the input: true; the input reads as it did. -/
namespace Go.Proofs.YtieeggfkfgmdgaaGreatDoor
open Go Go.Sh Go.RowKit Go.ChangeShapes Go.WideShapes Go.ChangeAt

namespace TokenizerNorms
theorem rec_nodes : Tryz.prog.readableRec 22 = true ∧ 22 < Tryz.prog.types.size := ⟨by kernel_rfl, of_decide_eq_true (by kernel_rfl)⟩
theorem rec_rws : Tryz.prog.readableRec 23 = true ∧ 23 < Tryz.prog.types.size := ⟨by kernel_rfl, of_decide_eq_true (by kernel_rfl)⟩
theorem rec_u8 : Tryz.prog.readableRec 5 = true ∧ 5 < Tryz.prog.types.size := ⟨by kernel_rfl, of_decide_eq_true (by kernel_rfl)⟩
set_option maxRecDepth 20000 in
theorem contract (H : Type) (enc : TypeId × Value → H) (W : World) (base : Nat) (args : Array Value) (ds gs : List (DataW H)) (before : List MemPlace)
    (hval : ∀ (j : Nat) t v, Tryz.f5.params[j]? = some t → args[j]? = some v → Value.okWide Tryz.prog W .any base t v)
    (hW : DataW.Whole enc Tryz.prog Tryz.f5.params.toList Rows.tokenizerNormsSpec.vars false W args.toList ds gs before) (hL : laidMetH Tryz.prog Rows.tokenizerNormsRow.laid W) (hSh : W.ShapedOpen Tryz.prog) :
    Calls Tryz.prog 5 args W fun e W' => ∃ v, e = .returned v ∧ Rows.tokenizerNormsSpec.post enc Tryz.prog Tryz.f5 false true false false W args v W' := by
  have hW' := hW
  obtain ⟨p, q, hA0, hV, rfl, hfz, hnd⟩ := hW
  have hA : DataW.TrodAll enc Tryz.prog W 0 (fun _ => true) true Tryz.f5.params.toList args.toList ds p := hA0
  rw [Tryz.params5] at hA hval
  obtain ⟨v0, vs0, d0, ds0, p0, q0, hargs, rfl, rfl, h0, r0⟩ := trodAll_cons hA
  obtain ⟨v1, vs1, d1, ds1, p1, q1, rfl, rfl, rfl, h1, r1⟩ := trodAll_cons r0
  obtain ⟨v2, vs2, d2, ds2, p2, q2, rfl, rfl, rfl, h2, r2⟩ := trodAll_cons r1
  obtain ⟨v3, vs3, d3, ds3, p3, q3, rfl, rfl, rfl, h3, r3⟩ := trodAll_cons r2
  obtain ⟨rfl, rfl, rfl⟩ := trodAll_nil r3
  obtain rfl : args = #[v0, v1, v2, v3] := by cases args; simp_all
  obtain ⟨rfl, rfl⟩ := trodVars_none hV
  obtain ⟨fuel0, hf0⟩ := h0
  obtain ⟨a0, n0, c0, f0, hc0, hsl0⟩ := open_nodes fuel0 _ _ hf0
  obtain ⟨x1, rfl, rfl, rfl, wf1⟩ := open_int (k := .u8) Tryz.underlying5 (hval 1 5 v1 rfl rfl) h1
  have hx1 : 0 ≤ x1 ∧ x1 < 256 := u8_wf wf1
  obtain ⟨fuel2, hf2⟩ := h2
  obtain ⟨a2, n2, c2, L2, hc2, hsl2⟩ := open_rws fuel2 _ _ hf2
  obtain ⟨fuel3, hf3⟩ := h3
  obtain ⟨a3, n3, c3, L3, hc3, hsl3⟩ := open_rws fuel3 _ _ hf3
  obtain ⟨b0, m0, e0, rfl⟩ := okWide_slice Tryz.underlying22 (hval 0 22 v0 rfl rfl)
  obtain ⟨rfl, rfl, rfl⟩ : b0 = a0 ∧ m0 = n0 ∧ e0 = c0 := by simpa [Value.cells] using hc0
  obtain ⟨b2, m2, e2, rfl⟩ := okWide_slice Tryz.underlying23 (hval 2 23 v2 rfl rfl)
  obtain ⟨rfl, rfl, rfl⟩ : b2 = a2 ∧ m2 = n2 ∧ e2 = c2 := by simpa [Value.cells] using hc2
  obtain ⟨b3, m3, e3, rfl⟩ := okWide_slice Tryz.underlying23 (hval 3 23 v3 rfl rfl)
  obtain ⟨rfl, rfl, rfl⟩ : b3 = a3 ∧ m3 = n3 ∧ e3 = c3 := by simpa [Value.cells] using hc3
  refine (Go.Proofs.TokenizerNorms_spec f0 x1 L2 L3 hx1 (forms_of (Go.Lib.laidMet.reads (show laidMet Tryz.prog Rows.tokenizerNormsRow.laid W from hL) (.tail _ (.tail _ (.tail _ (.tail _ (.tail _ (.head _)))))))) (mk_of (Go.Lib.laidMet.reads (show laidMet Tryz.prog Rows.tokenizerNormsRow.laid W from hL) (.tail _ (.tail _ (.tail _ (.tail _ (.head _)))))) (Go.Lib.laidMet.reads (show laidMet Tryz.prog Rows.tokenizerNormsRow.laid W from hL) (.tail _ (.tail _ (.tail _ (.head _))))) hSh) hsl0 hsl2 hsl3 fun w' he => ?_)
  exact ⟨_, rfl, post_ext laidOut (by rw [Tryz.params5]; intro t ht; simp only [List.mem_cons, List.not_mem_nil, or_false] at ht; rcases ht with rfl | rfl | rfl | rfl <;> first | exact rec_nodes | exact rec_rws | exact rec_u8) (by kernel_rfl) Tryz.underlying4 rfl hW' rfl he⟩

noncomputable def laidWorld (os : Os) : World := laidWorldOf Rows.tokenizerNormsRow.laid os
theorem laid_met (os : Os) : laidMet Tryz.prog Rows.tokenizerNormsRow.laid ((laidWorld os).forCall (fun _ _ => 0) ⟨#[], #[.slice none 0 0, .int .u8 0, .slice none 0 0, .slice none 0 0], []⟩).memory :=
  laidMet_of_run' 8 (by kernel_rfl) (by kernel_rfl)
theorem reads (os : Os) {H : Type} (enc : TypeId × Value → H) : ∃ places, DataW.whole enc Tryz.prog ((laidWorld os).forCall (fun _ _ => 0) ⟨#[], #[.slice none 0 0, .int .u8 0, .slice none 0 0, .slice none 0 0], []⟩).memory Tryz.f5.params.toList Rows.tokenizerNormsSpec.vars false (#[.slice none 0 0, .int .u8 0, .slice none 0 0, .slice none 0 0] : Array Value).toList 8 = some ([.nil, .lit (.int .u8 0), .nil, .nil], [], places) :=
  ⟨[], by kernel_rfl⟩

set_option maxRecDepth 100000 in
theorem lifted (os : Os) (started : os.Started) (H : Type) (enc : TypeId × Value → H) (F : Stop.Interp) :
    ReturnsInHanded {} Tryz.checked os 5 .any ((OpenSpec.ofChange Rows.tokenizerNormsSpec).preRow enc Tryz.prog Tryz.f5 Rows.tokenizerNormsRow.domain false Rows.tokenizerNormsRow.laid) (((OpenSpec.ofChange Rows.tokenizerNormsSpec).at F).post enc Tryz.prog Tryz.f5 false true false false) := by
  obtain ⟨places, hx⟩ := reads os enc
  refine returnsInHanded_of_row (C := Tryz.checked) (s := OpenSpec.ofChange Rows.tokenizerNormsSpec) own started (by kernel_rfl) Tryz.func5
    (witness_row_at (enc := enc) (C := Tryz.checked) false (laidWorld os) #[.slice none 0 0, .int .u8 0, .slice none 0 0, .slice none 0 0] rfl (by kernel_rfl) (by kernel_rfl) (by kernel_rfl)
      (OpenSpec.preRow_of_cond 8 hx (by kernel_rfl) (fun k hk => by cases hk) (by kernel_rfl) (laid_met os))) ?_
  intro W base args ds gs before hval hW _ _ hZ hL hSh _
  exact contract H enc W base args ds gs before hval hW hL hSh

theorem said : Rows.TokenizerNormsSaid :=
  OpenClaim.holds_of_cond 5 Tryz.f5 rfl rfl rfl rfl rfl rfl rfl ⟨rfl, rfl, rfl, rfl, rfl⟩ rfl rfl rfl rfl rfl (by kernel_rfl) Tryz.func5 (by kernel_rfl)
    (of_decide_eq_true (by kernel_rfl)) (by unfold Func.isWrapper; first | (rw [if_pos (by decide +kernel)]; kernel_rfl) | (rw [if_neg (by decide +kernel)]; exact ⟨rfl, rfl⟩))
    (fun os started H enc _ F => by rw [OpenClaim.pre_eq_preRow]; exact lifted os started H enc F)

theorem plain (f : FuncId) (fn : Func) (hf : Tryz.pinned.checked.prog.funcNamed "apograph/apographlaw15.TokenizerNorms" = some f) (hfn : Tryz.pinned.checked.prog.funcs[f]? = some fn) :
    true = Tryz.pinned.checked.prog.looks [] ∧ ∀ (j : Nat) t, fn.params[j]? = some t → Tryz.pinned.checked.prog.wantsStandIn t = false := by
  obtain rfl : f = 5 := Option.some.inj ((show Tryz.prog.funcNamed "apograph/apographlaw15.TokenizerNorms" = some 5 by kernel_rfl).symm.trans hf) |>.symm
  obtain rfl : fn = Tryz.f5 := (Option.some.inj (Tryz.func5.symm.trans hfn)).symm
  refine ⟨by kernel_rfl, fun j t ht => ?_⟩
  rw [Tryz.params5] at ht
  have hm : t = 22 ∨ t = 5 ∨ t = 23 := by have := Array.mem_of_getElem? ht; simp at this; omega
  rcases hm with rfl | rfl | rfl
  · exact (show Tryz.prog.wantsStandIn 22 = false by kernel_rfl)
  · exact (show Tryz.prog.wantsStandIn 5 = false by kernel_rfl)
  · exact (show Tryz.prog.wantsStandIn 23 = false by kernel_rfl)

theorem card : Rows.TokenizerNormsCardSaid :=
  Claim7.holds_tied_plain_at .later [] _ _ _ _ said (fun _ h => by cases h) (by kernel_rfl) (fun _ h => by cases h) tokenizerNorms_row_tie rfl ⟨rfl, rfl⟩ (by kernel_rfl) rfl plain (by kernel_rfl)
end TokenizerNorms
end Go.Proofs.YtieeggfkfgmdgaaGreatDoor
