/- The card of one law, out of the contracts of the functions that it reaches. -/
import Derived.Test.YtncjonkmhfdabaaGreatLawF
/- Proved: whatever the input, TopFourStates returns true, and the input reads as it did. No condition stands ahead of it. -/
namespace Go.Proofs.YtncjonkmhfdabaaGreat
open Go Go.Sh Go.RowKit Go.ChangeShapes Go.WideShapes Go.ChangeAt
namespace TopFourStates
theorem rec_strs : Tryz.prog.readableRec 22 = true ∧ 22 < Tryz.prog.types.size := ⟨by kernel_rfl, of_decide_eq_true (by kernel_rfl)⟩
theorem rec_rows : Tryz.prog.readableRec 23 = true ∧ 23 < Tryz.prog.types.size := ⟨by kernel_rfl, of_decide_eq_true (by kernel_rfl)⟩
set_option maxRecDepth 20000 in
theorem contract (H : Type) (enc : TypeId × Value → H) (W : World) (base : Nat) (args : Array Value) (ds gs : List (DataW H)) (before : List MemPlace)
    (hval : ∀ (j : Nat) t v, Tryz.f3.params[j]? = some t → args[j]? = some v → Value.okWide Tryz.prog W .any base t v)
    (hW : DataW.Whole enc Tryz.prog Tryz.f3.params.toList Rows.topFourStatesSpec.vars false W args.toList ds gs before) (hZ : (DataW.weightsEach Tryz.prog (Tryz.f3.params.toList ++ (OpenSpec.ofChange Rows.topFourStatesSpec).bare.plain.varTypes Tryz.prog) (ds ++ gs)).all (· ≤ reachBytes) = true) :
    Calls Tryz.prog 3 args W fun e W' => ∃ v, e = .returned v ∧ Rows.topFourStatesSpec.post enc Tryz.prog Tryz.f3 false true false false W args v W' := by
  have hW' := hW
  obtain ⟨p, q, hA0, hV, rfl, hfz, hnd⟩ := hW
  have hA : DataW.TrodAll enc Tryz.prog W 0 (fun _ => true) true Tryz.f3.params.toList args.toList ds p := hA0
  rw [Tryz.params3] at hA hval hZ
  obtain ⟨v0, vs0, d0, ds0, p0, q0, hargs, rfl, rfl, h0, r0⟩ := trodAll_cons hA
  obtain ⟨v1, vs1, d1, ds1, p1, q1, rfl, rfl, rfl, h1, r1⟩ := trodAll_cons r0
  obtain ⟨rfl, rfl, rfl⟩ := trodAll_nil r1
  obtain rfl : args = #[v0, v1] := by cases args; simp_all
  obtain ⟨rfl, rfl⟩ := trodVars_none hV
  have z0 : ∀ m ∈ d0.weights Tryz.prog 22, m ≤ reachBytes := fun m hm => by
    have := List.all_eq_true.1 hZ m (DataW.weights_mem_each (j := 0) (t := 22) (d := d0) rfl rfl m hm)
    simpa using this
  have z1 : ∀ m ∈ d1.weights Tryz.prog 23, m ≤ reachBytes := fun m hm => by
    have := List.all_eq_true.1 hZ m (DataW.weights_mem_each (j := 1) (t := 23) (d := d1) rfl rfl m hm)
    simpa using this
  have k9 : Tryz.prog.cellsOf 9 = 1 := by kernel_rfl
  have k4 : Tryz.prog.cellsOf 4 = 1 := by kernel_rfl
  have k26 : Tryz.prog.cellsOf 26 = 1 := by kernel_rfl
  have b9 : 0 < Tryz.prog.bytesOf 9 := of_decide_eq_true (by kernel_rfl)
  have b4 : 0 < Tryz.prog.bytesOf 4 := of_decide_eq_true (by kernel_rfl)
  have b26 : 0 < Tryz.prog.bytesOf 26 := of_decide_eq_true (by kernel_rfl)
  obtain ⟨fuel0, hf0⟩ := h0
  obtain ⟨fuel1, hf1⟩ := h1
  obtain ⟨na, nn, nc, NM, es, hcN, hN, hNl, _⟩ := open_slV (V := vS) Tryz.underlying22 k9 b9 (el_str Tryz.underlying9) _ _ _ z0 hf0
  obtain ⟨ka, kn, kc, RW, ek, hcR, hR, _, _⟩ := open_slV (V := vBs) Tryz.underlying23 k26 b26 (el_sl Tryz.underlying26 k4 b4 (el_bool Tryz.underlying4)) _ _ _ z1 hf1
  obtain ⟨b1, m1, e1, rfl⟩ := okWide_slice Tryz.underlying22 (hval 0 22 v0 rfl rfl)
  obtain ⟨rfl, rfl, rfl⟩ : b1 = na ∧ m1 = nn ∧ e1 = nc := by simpa [Value.cells] using es
  obtain ⟨b2, m2, e2, rfl⟩ := okWide_slice Tryz.underlying23 (hval 1 23 v1 rfl rfl)
  obtain ⟨rfl, rfl, rfl⟩ : b2 = ka ∧ m2 = kn ∧ e2 = kc := by simpa [Value.cells] using ek
  refine (Go.Proofs.Four_spec (NM := NM) (RW := RW) hN hcN (by have := hN.1; omega) hR hcR fun w' he => ?_)
  exact ⟨_, rfl, post_ext laidOut (by rw [Tryz.params3]; intro t ht; simp only [List.mem_cons, List.not_mem_nil, or_false] at ht; rcases ht with rfl | rfl <;> first | exact rec_strs | exact rec_rows) (by kernel_rfl) Tryz.underlying4 rfl hW' rfl he⟩
theorem reads (os : Os) {H : Type} (enc : TypeId × Value → H) : ∃ places, DataW.whole enc Tryz.prog ((plainWorld os).forCall (fun _ _ => 0) ⟨#[], #[.slice none 0 0, .slice none 0 0], []⟩).memory Tryz.f3.params.toList Rows.topFourStatesSpec.vars false (#[.slice none 0 0, .slice none 0 0] : Array Value).toList 8 = some ([.nil, .nil], [], places) :=
  ⟨[], by kernel_rfl⟩
end TopFourStates
end Go.Proofs.YtncjonkmhfdabaaGreat
