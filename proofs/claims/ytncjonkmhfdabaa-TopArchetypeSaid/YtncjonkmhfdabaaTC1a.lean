/- The card of one law, out of the contracts of the functions that it reaches. -/
import Derived.Test.YtncjonkmhfdabaaLawC
/- Proved: whatever the input, TopArchetype returns true, and the input reads as it did. No condition stands ahead of it. -/
namespace Go.Proofs.Ytncjonkmhfdabaa
open Go Go.Sh Go.RowKit Go.ChangeShapes Go.WideShapes Go.ChangeAt
namespace TopArchetype
theorem rec_stem : Try.prog.readableRec 26 = true ∧ 26 < Try.prog.types.size := ⟨by kernel_rfl, of_decide_eq_true (by kernel_rfl)⟩
theorem rec_ints : Try.prog.readableRec 27 = true ∧ 27 < Try.prog.types.size := ⟨by kernel_rfl, of_decide_eq_true (by kernel_rfl)⟩
theorem rec_u8s : Try.prog.readableRec 28 = true ∧ 28 < Try.prog.types.size := ⟨by kernel_rfl, of_decide_eq_true (by kernel_rfl)⟩
set_option maxRecDepth 20000 in
theorem contract (H : Type) (enc : TypeId × Value → H) (W : World) (base : Nat) (args : Array Value) (ds gs : List (DataW H)) (before : List MemPlace)
    (hval : ∀ (j : Nat) t v, Try.f3.params[j]? = some t → args[j]? = some v → Value.okWide Try.prog W .any base t v)
    (hW : DataW.Whole enc Try.prog Try.f3.params.toList Rows.topArchetypeSpec.vars false W args.toList ds gs before) (hZ : (DataW.weightsEach Try.prog (Try.f3.params.toList ++ (OpenSpec.ofChange Rows.topArchetypeSpec).bare.plain.varTypes Try.prog) (ds ++ gs)).all (· ≤ reachBytes) = true) :
    Calls Try.prog 3 args W fun e W' => ∃ v, e = .returned v ∧ Rows.topArchetypeSpec.post enc Try.prog Try.f3 false true false false W args v W' := by
  have hW' := hW
  obtain ⟨p, q, hA0, hV, rfl, hfz, hnd⟩ := hW
  have hA : DataW.TrodAll enc Try.prog W 0 (fun _ => true) true Try.f3.params.toList args.toList ds p := hA0
  rw [Try.params3] at hA hval hZ
  obtain ⟨v0, vs0, d0, ds0, p0, q0, hargs, rfl, rfl, h0, r0⟩ := trodAll_cons hA
  obtain ⟨v1, vs1, d1, ds1, p1, q1, rfl, rfl, rfl, h1, r1⟩ := trodAll_cons r0
  obtain ⟨v2, vs2, d2, ds2, p2, q2, rfl, rfl, rfl, h2, r2⟩ := trodAll_cons r1
  obtain ⟨rfl, rfl, rfl⟩ := trodAll_nil r2
  obtain rfl : args = #[v0, v1, v2] := by cases args; simp_all
  obtain ⟨rfl, rfl⟩ := trodVars_none hV
  have z0 : ∀ m ∈ d0.weights Try.prog 26, m ≤ reachBytes := fun m hm => by
    have := List.all_eq_true.1 hZ m (DataW.weights_mem_each (j := 0) (t := 26) (d := d0) rfl rfl m hm)
    simpa using this
  have z1 : ∀ m ∈ d1.weights Try.prog 27, m ≤ reachBytes := fun m hm => by
    have := List.all_eq_true.1 hZ m (DataW.weights_mem_each (j := 1) (t := 27) (d := d1) rfl rfl m hm)
    simpa using this
  have z2 : ∀ m ∈ d2.weights Try.prog 28, m ≤ reachBytes := fun m hm => by
    have := List.all_eq_true.1 hZ m (DataW.weights_mem_each (j := 2) (t := 28) (d := d2) rfl rfl m hm)
    simpa using this
  obtain ⟨c0a, c0b, c0c, y0a, y0b, y0c, m0, rfl, rfl, rfl, hya, hyb, hyc⟩ := Go.Joins.open_agg3 Try.underlying26 (by kernel_rfl) (by kernel_rfl) (hval 0 26 v0 rfl rfl) h0
  have za : ∀ m ∈ y0a.1.weights Try.prog 22, m ≤ reachBytes := fun m hm => z0 m (by simp only [DataW.weights, Try.underlying26]; exact DataW.weights_mem_each (j := 0) (t := 22) (d := y0a.1) rfl rfl m hm)
  have zb : ∀ m ∈ y0b.1.weights Try.prog 23, m ≤ reachBytes := fun m hm => z0 m (by simp only [DataW.weights, Try.underlying26]; exact DataW.weights_mem_each (j := 1) (t := 23) (d := y0b.1) rfl rfl m hm)
  have zc : ∀ m ∈ y0c.1.weights Try.prog 24, m ≤ reachBytes := fun m hm => z0 m (by simp only [DataW.weights, Try.underlying26]; exact DataW.weights_mem_each (j := 2) (t := 24) (d := y0c.1) rfl rfl m hm)
  have k9 : Try.prog.cellsOf 9 = 1 := by kernel_rfl
  have k3 : Try.prog.cellsOf 3 = 1 := by kernel_rfl
  have k5 : Try.prog.cellsOf 5 = 1 := by kernel_rfl
  have k27 : Try.prog.cellsOf 27 = 1 := by kernel_rfl
  have b9 : 0 < Try.prog.bytesOf 9 := of_decide_eq_true (by kernel_rfl)
  have b3 : 0 < Try.prog.bytesOf 3 := of_decide_eq_true (by kernel_rfl)
  have b5 : 0 < Try.prog.bytesOf 5 := of_decide_eq_true (by kernel_rfl)
  have b27 : 0 < Try.prog.bytesOf 27 := of_decide_eq_true (by kernel_rfl)
  obtain ⟨na, nn, nc, N, ea, hcN, hN, hNl, _⟩ := open_slV (V := vS) Try.underlying22 k9 b9 (el_str Try.underlying9) _ _ _ za hya
  obtain ⟨ba, bn, bc, eb⟩ : ∃ (a : Option Addr) (n c : Nat), c0b = .slice a n c := by
    rcases DataW.trod_slice Try.underlying23 hyb with ⟨he, _⟩ | ⟨a, len, cap, elems, rest, n, _, he, _⟩
    · exact ⟨none, 0, 0, by simpa using he⟩
    · exact ⟨some a, len, cap, by simpa using he⟩
  obtain ⟨pa, pn, pc, P, ec, hcP, hP, hPl, _⟩ := open_slV (V := vIs) Try.underlying24 k27 b27 (el_sl Try.underlying27 k3 b3 (el_int Try.underlying3)) _ _ _ zc hyc
  obtain ⟨fuel1, hf1⟩ := h1
  obtain ⟨fuel2, hf2⟩ := h2
  obtain ⟨sa, sn, sc, st, es, hcS, hS, hSl, _⟩ := open_slV (V := vI) Try.underlying27 k3 b3 (el_int Try.underlying3) _ _ _ z1 hf1
  obtain ⟨ka, kn, kc, K, ek, hcK, hK, hKl, _⟩ := open_slV (V := View.enc encU8) Try.underlying28 k5 b5 (el_u8 Try.underlying5) _ _ _ z2 hf2
  simp at ea ec
  subst ea eb ec
  obtain ⟨b1, m1, e1, rfl⟩ := okWide_slice Try.underlying27 (hval 1 27 v1 rfl rfl)
  obtain ⟨rfl, rfl, rfl⟩ : b1 = sa ∧ m1 = sn ∧ e1 = sc := by simpa [Value.cells] using es
  obtain ⟨b2, m2, e2, rfl⟩ := okWide_slice Try.underlying28 (hval 2 28 v2 rfl rfl)
  obtain ⟨rfl, rfl, rfl⟩ : b2 = ka ∧ m2 = kn ∧ e2 = kc := by simpa [Value.cells] using ek
  refine (Go.Proofs.TopArchetype_spec N P st K hNl hPl hSl hcN (rowV_enc.1 hN) hP (rowV_enc.1 hS) (rowV_enc.1 hK) fun w' he => ?_)
  exact ⟨_, rfl, post_ext laidOut (by rw [Try.params3]; intro t ht; simp only [List.mem_cons, List.not_mem_nil, or_false] at ht; rcases ht with rfl | rfl | rfl <;> first | exact rec_stem | exact rec_ints | exact rec_u8s) (by kernel_rfl) Try.underlying4 rfl hW' rfl he⟩
theorem reads (os : Os) {H : Type} (enc : TypeId × Value → H) : ∃ places, DataW.whole enc Try.prog ((plainWorld os).forCall (fun _ _ => 0) ⟨#[], #[.agg #[.slice none 0 0, .slice none 0 0, .slice none 0 0], .slice none 0 0, .slice none 0 0], []⟩).memory Try.f3.params.toList Rows.topArchetypeSpec.vars false (#[.agg #[.slice none 0 0, .slice none 0 0, .slice none 0 0], .slice none 0 0, .slice none 0 0] : Array Value).toList 8 = some ([.agg [.nil, .nil, .nil], .nil, .nil], [], places) :=
  ⟨[], by kernel_rfl⟩
end TopArchetype
end Go.Proofs.Ytncjonkmhfdabaa
