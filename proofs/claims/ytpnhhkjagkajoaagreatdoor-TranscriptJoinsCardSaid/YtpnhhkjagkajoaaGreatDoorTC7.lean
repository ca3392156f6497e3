/- The card of one law, out of the contracts of the functions that it reaches. -/
import Derived.Test.YtpnhhkjagkajoaaGreatDoorLawG
import Derived.Test.YtpnhhkjagkajoaaGreatDoorCards
import Derived.Test.YtpnhhkjagkajoaaGreatDoorTie
import Derived.Deep.DeepHandedRow
import Derived.Lib.LaidTab
import Derived.WalkKit
import Derived.ProofKit
import Derived.ChangeMaps5
/- THE CARD OF TranscriptJoins: whatever the input: true; the input reads as it did. -/
namespace Go.Proofs.YtpnhhkjagkajoaaGreatDoor
open Go Go.Sh Go.RowKit Go.ChangeShapes Go.WideShapes Go.ChangeAt

namespace TranscriptJoins
theorem rec_nodes : Tryz.prog.readableRec 24 = true ∧ 24 < Tryz.prog.types.size := ⟨by kernel_rfl, of_decide_eq_true (by kernel_rfl)⟩
theorem rec_u8 : Tryz.prog.readableRec 5 = true ∧ 5 < Tryz.prog.types.size := ⟨by kernel_rfl, of_decide_eq_true (by kernel_rfl)⟩
set_option maxRecDepth 20000 in
theorem contract (H : Type) (enc : TypeId × Value → H) (W : World) (base : Nat) (args : Array Value) (ds gs : List (DataW H)) (before : List MemPlace)
    (hval : ∀ (j : Nat) t v, Tryz.f9.params[j]? = some t → args[j]? = some v → Value.okWide Tryz.prog W .any base t v)
    (hW : DataW.Whole enc Tryz.prog Tryz.f9.params.toList Rows.transcriptJoinsSpec.vars false W args.toList ds gs before) (hL : laidMetH Tryz.prog Rows.transcriptJoinsRow.laid W) (hZ : (DataW.weightsEach Tryz.prog (Tryz.f9.params.toList ++ (OpenSpec.ofChange Rows.transcriptJoinsSpec).bare.plain.varTypes Tryz.prog) (ds ++ gs)).all (· ≤ reachBytes) = true) (hSh : W.ShapedOpen Tryz.prog) :
    Calls Tryz.prog 9 args W fun e W' => ∃ v, e = .returned v ∧ Rows.transcriptJoinsSpec.post enc Tryz.prog Tryz.f9 false true false false W args v W' := by
  have hW' := hW
  obtain ⟨p, q, hA0, hV, rfl, hfz, hnd⟩ := hW
  have hA : DataW.TrodAll enc Tryz.prog W 0 (fun _ => true) true Tryz.f9.params.toList args.toList ds p := hA0
  rw [Tryz.params9] at hA hval
  obtain ⟨v0, vs0, d0, ds0, p0, q0, hargs, rfl, rfl, h0, r0⟩ := trodAll_cons hA
  obtain ⟨v1, vs1, d1, ds1, p1, q1, rfl, rfl, rfl, h1, r1⟩ := trodAll_cons r0
  obtain ⟨v2, vs2, d2, ds2, p2, q2, rfl, rfl, rfl, h2, r2⟩ := trodAll_cons r1
  obtain ⟨rfl, rfl, rfl⟩ := trodAll_nil r2
  obtain rfl : args = #[v0, v1, v2] := by cases args; simp_all
  obtain ⟨rfl, rfl⟩ := trodVars_none hV
  obtain ⟨fuel0, hf0⟩ := h0
  obtain ⟨a0, n0, c0, f0, hc0, hsl0⟩ := open_nodes fuel0 _ _ hf0
  obtain ⟨fuel1, hf1⟩ := h1
  obtain ⟨a1, n1, c1, f1, hc1, hsl1⟩ := open_nodes fuel1 _ _ hf1
  obtain ⟨x2, rfl, rfl, rfl, wf2⟩ := open_int (k := .u8) Tryz.underlying5 (hval 2 5 v2 rfl rfl) h2
  have hx2 : 0 ≤ x2 ∧ x2 < 256 := u8_wf wf2
  obtain ⟨b0, m0, e0, rfl⟩ := okWide_slice Tryz.underlying24 (hval 0 24 v0 rfl rfl)
  obtain ⟨rfl, rfl, rfl⟩ : b0 = a0 ∧ m0 = n0 ∧ e0 = c0 := by simpa [Value.cells] using hc0
  obtain ⟨b1, m1, e1, rfl⟩ := okWide_slice Tryz.underlying24 (hval 1 24 v1 rfl rfl)
  obtain ⟨rfl, rfl, rfl⟩ : b1 = a1 ∧ m1 = n1 ∧ e1 = c1 := by simpa [Value.cells] using hc1
  refine (Go.Proofs.TranscriptJoins_spec f0 f1 x2 hx2 (forms_of (show laidMetH Tryz.prog Rows.transcriptLexemesRow.laid W from hL)) (mk_of (show laidMetH Tryz.prog Rows.transcriptLexemesRow.laid W from hL) hSh) hsl0 hsl1 fun w' he => ?_)
  exact ⟨_, rfl, post_ext laidOut (by rw [Tryz.params9]; intro t ht; simp only [List.mem_cons, List.not_mem_nil, or_false] at ht; rcases ht with rfl | rfl | rfl <;> first | exact rec_nodes | exact rec_u8) (by kernel_rfl) Tryz.underlying4 rfl hW' rfl he⟩

noncomputable def laidWorld (os : Os) : World := laidWorldOf Rows.transcriptJoinsRow.laid os
theorem laid_met (os : Os) : laidMet Tryz.prog Rows.transcriptJoinsRow.laid ((laidWorld os).forCall (fun _ _ => 0) ⟨#[], #[.slice none 0 0, .slice none 0 0, .int .u8 0], []⟩).memory :=
  laidMet_of_run' 8 (by kernel_rfl) (by kernel_rfl)
theorem reads (os : Os) {H : Type} (enc : TypeId × Value → H) : ∃ places, DataW.whole enc Tryz.prog ((laidWorld os).forCall (fun _ _ => 0) ⟨#[], #[.slice none 0 0, .slice none 0 0, .int .u8 0], []⟩).memory Tryz.f9.params.toList Rows.transcriptJoinsSpec.vars false (#[.slice none 0 0, .slice none 0 0, .int .u8 0] : Array Value).toList 8 = some ([.nil, .nil, .lit (.int .u8 0)], [], places) :=
  ⟨[], by kernel_rfl⟩

set_option maxRecDepth 100000 in
theorem lifted (os : Os) (started : os.Started) (H : Type) (enc : TypeId × Value → H) (F : Stop.Interp) :
    ReturnsInHanded {} Tryz.checked os 9 .any ((OpenSpec.ofChange Rows.transcriptJoinsSpec).preRow enc Tryz.prog Tryz.f9 Rows.transcriptJoinsRow.domain false Rows.transcriptJoinsRow.laid) (((OpenSpec.ofChange Rows.transcriptJoinsSpec).at F).post enc Tryz.prog Tryz.f9 false true false false) := by
  obtain ⟨places, hx⟩ := reads os enc
  refine returnsInHanded_of_row (C := Tryz.checked) (s := OpenSpec.ofChange Rows.transcriptJoinsSpec) own started (by kernel_rfl) Tryz.func9
    (witness_row_at (enc := enc) (C := Tryz.checked) false (laidWorld os) #[.slice none 0 0, .slice none 0 0, .int .u8 0] rfl (by kernel_rfl) (by kernel_rfl) (by kernel_rfl)
      (OpenSpec.preRow_of_cond 8 hx (by kernel_rfl) (fun k hk => by cases hk) (by kernel_rfl) (laid_met os))) ?_
  intro W base args ds gs before hval hW _ _ hZ hL hSh _
  exact contract H enc W base args ds gs before hval hW hL hZ hSh

theorem said : Rows.TranscriptJoinsSaid :=
  OpenClaim.holds_of_cond 9 Tryz.f9 rfl rfl rfl rfl rfl rfl rfl ⟨rfl, rfl, rfl, rfl, rfl⟩ rfl rfl rfl rfl rfl (by kernel_rfl) Tryz.func9 (by kernel_rfl)
    (of_decide_eq_true (by kernel_rfl)) (by unfold Func.isWrapper; first | (rw [if_pos (by decide +kernel)]; kernel_rfl) | (rw [if_neg (by decide +kernel)]; exact ⟨rfl, rfl⟩))
    (fun os started H enc _ F => by rw [OpenClaim.pre_eq_preRow]; exact lifted os started H enc F)

theorem plain (f : FuncId) (fn : Func) (hf : Tryz.pinned.checked.prog.funcNamed "apograph/apographlaw10.TranscriptJoins" = some f) (hfn : Tryz.pinned.checked.prog.funcs[f]? = some fn) :
    true = Tryz.pinned.checked.prog.looks [] ∧ ∀ (j : Nat) t, fn.params[j]? = some t → Tryz.pinned.checked.prog.wantsStandIn t = false := by
  obtain rfl : f = 9 := Option.some.inj ((show Tryz.prog.funcNamed "apograph/apographlaw10.TranscriptJoins" = some 9 by kernel_rfl).symm.trans hf) |>.symm
  obtain rfl : fn = Tryz.f9 := (Option.some.inj (Tryz.func9.symm.trans hfn)).symm
  refine ⟨by kernel_rfl, fun j t ht => ?_⟩
  rw [Tryz.params9] at ht
  have hm : t = 24 ∨ t = 5 := by have := Array.mem_of_getElem? ht; simp at this; omega
  rcases hm with rfl | rfl
  · exact (show Tryz.prog.wantsStandIn 24 = false by kernel_rfl)
  · exact (show Tryz.prog.wantsStandIn 5 = false by kernel_rfl)

theorem card : Rows.TranscriptJoinsCardSaid :=
  Claim7.holds_tied_plain_at .later [] _ _ _ _ said (fun _ h => by cases h) (by kernel_rfl) (fun _ h => by cases h) transcriptJoins_row_tie rfl ⟨rfl, rfl⟩ (by kernel_rfl) rfl plain (by kernel_rfl)
end TranscriptJoins
end Go.Proofs.YtpnhhkjagkajoaaGreatDoor
