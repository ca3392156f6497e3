/- The card of one law, out of the contracts of the functions that it reaches. -/
import Derived.Test.YtncjonkmhfdabaaLawD
/- Proved: whatever the input, TopFacingAnchors returns true, and the input reads as it did. No condition stands ahead of it. -/
namespace Go.Proofs.Ytncjonkmhfdabaa
open Go Go.Sh Go.RowKit Go.ChangeShapes Go.WideShapes Go.ChangeAt
namespace TopFacingAnchors
theorem rec_sides : Try.prog.readableRec 49 = true ∧ 49 < Try.prog.types.size := ⟨by kernel_rfl, of_decide_eq_true (by kernel_rfl)⟩
theorem rec_u8 : Try.prog.readableRec 5 = true ∧ 5 < Try.prog.types.size := ⟨by kernel_rfl, of_decide_eq_true (by kernel_rfl)⟩
theorem l1 {α : Type} {l : List α} (h : l.length = 1) : ∃ a, l = [a] := match l, h with | [a], _ => ⟨a, rfl⟩
theorem l3 {α : Type} {l : List α} (h : l.length = 3) : ∃ a b c, l = [a, b, c] := match l, h with | [a, b, c], _ => ⟨a, b, c, rfl⟩
theorem l5 {α : Type} {l : List α} (h : l.length = 5) : ∃ a b c d e, l = [a, b, c, d, e] := match l, h with | [a, b, c, d, e], _ => ⟨a, b, c, d, e, rfl⟩
theorem k24 : Try.prog.cellsOf 24 = 1 := by kernel_rfl
theorem k27 : Try.prog.cellsOf 27 = 1 := by kernel_rfl
theorem k3 : Try.prog.cellsOf 3 = 1 := by kernel_rfl
theorem k47 : Try.prog.cellsOf 47 = 5 := by kernel_rfl
theorem k49 : Try.prog.cellsOf 49 = 11 := by kernel_rfl
theorem b27 : 0 < Try.prog.bytesOf 27 := of_decide_eq_true (by kernel_rfl)
theorem b3 : 0 < Try.prog.bytesOf 3 := of_decide_eq_true (by kernel_rfl)
section
variable {H : Type} {enc : TypeId × Value → H} {w : World} {base : Nat} {sp : Nat → Bool} {hd : Bool}
theorem open_ints {m : Nat} {cs : List Value} {y : DataW H × List MemPlace} (hz : ∀ m ∈ y.1.weights Try.prog 27, m ≤ reachBytes) (h : DataW.trod enc Try.prog w base sp hd m 27 cs = some y) :
    ∃ (x : Slv) (L : List Int), cs = [.slice x.1 x.2.1 x.2.2] ∧ RowV vI (fun _ => True) w x.1 x.2.1 L := by
  obtain ⟨a, n, c, L, h1, _, h2, _, _⟩ := open_slV (V := vI) Try.underlying27 k3 b3 (el_int Try.underlying3) _ _ _ hz h
  exact ⟨(a, n, c), L, h1, h2⟩
theorem open_intss {m : Nat} {cs : List Value} {y : DataW H × List MemPlace} (hz : ∀ m ∈ y.1.weights Try.prog 24, m ≤ reachBytes) (h : DataW.trod enc Try.prog w base sp hd m 24 cs = some y) :
    ∃ (x : Slv) (L : List (List Int)), cs = [.slice x.1 x.2.1 x.2.2] ∧ RowV vIs (fun _ => True) w x.1 x.2.1 L ∧ L.length ≤ 140737488355328 := by
  obtain ⟨a, n, c, L, h1, _, h2, h3, _⟩ := open_slV (V := vIs) Try.underlying24 k27 b27 (el_sl Try.underlying27 k3 b3 (el_int Try.underlying3)) _ _ _ hz h
  exact ⟨(a, n, c), L, h1, h2, h3⟩
set_option maxRecDepth 20000 in
theorem open_pp {m : Nat} {cs : List Value} {y : DataW H × List MemPlace} (hz : ∀ m ∈ y.1.weights Try.prog 47, m ≤ reachBytes) (h : DataW.trod enc Try.prog w base sp hd m 47 cs = some y) :
    ∃ (x : PV) (q : PQ), cs = x.cs ∧ PrV (fun _ => True) w x q ∧ q.T.length ≤ 140737488355328 := by
  obtain ⟨xs, n, rfl, rfl, hl, hxl, hf⟩ := DataW.trod_struct Try.underlying47 h
  rw [k47] at hl
  obtain ⟨v0, v1, v2, v3, v4, rfl⟩ := l5 hl
  obtain ⟨y0, y1, y2, y3, y4, rfl⟩ := l5 (show xs.length = 5 from hxl)
  have z0 : ∀ m ∈ y0.1.weights Try.prog 27, m ≤ reachBytes := fun m hm => hz m (by simp only [DataW.weights, Try.underlying47]; exact DataW.weights_mem_each (j := 0) (t := 27) (d := y0.1) rfl rfl m hm)
  have z1 : ∀ m ∈ y1.1.weights Try.prog 24, m ≤ reachBytes := fun m hm => hz m (by simp only [DataW.weights, Try.underlying47]; exact DataW.weights_mem_each (j := 1) (t := 24) (d := y1.1) rfl rfl m hm)
  have z2 : ∀ m ∈ y2.1.weights Try.prog 27, m ≤ reachBytes := fun m hm => hz m (by simp only [DataW.weights, Try.underlying47]; exact DataW.weights_mem_each (j := 2) (t := 27) (d := y2.1) rfl rfl m hm)
  have g0 : DataW.trod enc Try.prog w base sp hd n 27 (([v0, v1, v2, v3, v4].drop 0).take (Try.prog.cellsOf 27)) = some y0 := hf 0 _ rfl
  have g1 : DataW.trod enc Try.prog w base sp hd n 24 (([v0, v1, v2, v3, v4].drop 1).take (Try.prog.cellsOf 24)) = some y1 := hf 1 _ rfl
  have g2 : DataW.trod enc Try.prog w base sp hd n 27 (([v0, v1, v2, v3, v4].drop 2).take (Try.prog.cellsOf 27)) = some y2 := hf 2 _ rfl
  have g3 : DataW.trod enc Try.prog w base sp hd n 3 (([v0, v1, v2, v3, v4].drop 3).take (Try.prog.cellsOf 3)) = some y3 := hf 3 _ rfl
  have g4 : DataW.trod enc Try.prog w base sp hd n 3 (([v0, v1, v2, v3, v4].drop 4).take (Try.prog.cellsOf 3)) = some y4 := hf 4 _ rfl
  rw [k27] at g0 g2
  rw [k24] at g1
  rw [k3] at g3 g4
  obtain ⟨a0, L, e0, r0⟩ := open_ints z0 g0
  obtain ⟨a1, T, e1, r1, r1l⟩ := open_intss z1 g1
  obtain ⟨a2, N, e2, r2⟩ := open_ints z2 g2
  obtain ⟨h3, e3, _⟩ := DataW.trod_int Try.underlying3 g3
  obtain ⟨h4, e4, _⟩ := DataW.trod_int Try.underlying3 g4
  simp at e0 e1 e2 e3 e4
  subst e0 e1 e2 e3 e4
  exact ⟨⟨a0, a1, a2, h3, h4⟩, ⟨L, T, N⟩, rfl, ⟨r0, r1, r2⟩, r1l⟩
end
set_option maxRecDepth 20000 in
theorem contract (H : Type) (enc : TypeId × Value → H) (W : World) (base : Nat) (args : Array Value) (ds gs : List (DataW H)) (before : List MemPlace)
    (hval : ∀ (j : Nat) t v, Try.f4.params[j]? = some t → args[j]? = some v → Value.okWide Try.prog W .any base t v)
    (hW : DataW.Whole enc Try.prog Try.f4.params.toList Rows.topFacingAnchorsSpec.vars false W args.toList ds gs before) (hZ : (DataW.weightsEach Try.prog (Try.f4.params.toList ++ (OpenSpec.ofChange Rows.topFacingAnchorsSpec).bare.plain.varTypes Try.prog) (ds ++ gs)).all (· ≤ reachBytes) = true) :
    Calls Try.prog 4 args W fun e W' => ∃ v, e = .returned v ∧ Rows.topFacingAnchorsSpec.post enc Try.prog Try.f4 false true false false W args v W' := by
  have hW' := hW
  obtain ⟨p, q, hA0, hV, rfl, hfz, hnd⟩ := hW
  have hA : DataW.TrodAll enc Try.prog W 0 (fun _ => true) true Try.f4.params.toList args.toList ds p := hA0
  rw [Try.params4] at hA hval hZ
  obtain ⟨v0, vs0, d0, ds0, p0, q0, hargs, rfl, rfl, h0, r0⟩ := trodAll_cons hA
  obtain ⟨v1, vs1, d1, ds1, p1, q1, rfl, rfl, rfl, h1, r1⟩ := trodAll_cons r0
  obtain ⟨v2, vs2, d2, ds2, p2, q2, rfl, rfl, rfl, h2, r2⟩ := trodAll_cons r1
  obtain ⟨rfl, rfl, rfl⟩ := trodAll_nil r2
  obtain rfl : args = #[v0, v1, v2] := by cases args; simp_all
  obtain ⟨rfl, rfl⟩ := trodVars_none hV
  have z0 : ∀ m ∈ d0.weights Try.prog 49, m ≤ reachBytes := fun m hm => by
    have := List.all_eq_true.1 hZ m (DataW.weights_mem_each (j := 0) (t := 49) (d := d0) rfl rfl m hm)
    simpa using this
  obtain ⟨cs, rfl, hsz⟩ := okWide_struct Try.underlying49 (hval 0 49 v0 rfl rfl)
  obtain ⟨fuel, hf⟩ := h0
  obtain ⟨xs, n, rfl, hx, hl, hxl, hfs⟩ := DataW.trod_struct Try.underlying49 hf
  obtain ⟨y0, y1, y2, rfl⟩ := l3 (show xs.length = 3 from hxl)
  simp only [Prod.mk.injEq] at hx
  obtain ⟨rfl, _⟩ := hx
  have za : ∀ m ∈ y0.1.weights Try.prog 47, m ≤ reachBytes := fun m hm => z0 m (by simp only [DataW.weights, Try.underlying49]; exact DataW.weights_mem_each (j := 0) (t := 47) (d := y0.1) rfl rfl m hm)
  have zb : ∀ m ∈ y1.1.weights Try.prog 47, m ≤ reachBytes := fun m hm => z0 m (by simp only [DataW.weights, Try.underlying49]; exact DataW.weights_mem_each (j := 1) (t := 47) (d := y1.1) rfl rfl m hm)
  have zc : ∀ m ∈ y2.1.weights Try.prog 24, m ≤ reachBytes := fun m hm => z0 m (by simp only [DataW.weights, Try.underlying49]; exact DataW.weights_mem_each (j := 2) (t := 24) (d := y2.1) rfl rfl m hm)
  have g0 : DataW.trod enc Try.prog W 0 (fun _ => true) true n 47 ((cs.toList.drop 0).take (Try.prog.cellsOf 47)) = some y0 := hfs 0 _ rfl
  have g1 : DataW.trod enc Try.prog W 0 (fun _ => true) true n 47 ((cs.toList.drop 5).take (Try.prog.cellsOf 47)) = some y1 := hfs 1 _ rfl
  have g2 : DataW.trod enc Try.prog W 0 (fun _ => true) true n 24 ((cs.toList.drop 10).take (Try.prog.cellsOf 24)) = some y2 := hfs 2 _ rfl
  rw [k47] at g0 g1
  rw [k24] at g2
  obtain ⟨xl, ql, el, hl', hlT⟩ := open_pp za g0
  obtain ⟨xr, qr, er, hr', hrT⟩ := open_pp zb g1
  obtain ⟨an, A, ea, hA', hAl⟩ := open_intss zc g2
  have hcs : cs = ⟨xCs xl xr an⟩ := by
    obtain ⟨l⟩ := cs
    have hll : l.length = 11 := by rw [← k49, ← hsz]; rfl
    have el : (l.drop 0).take 5 = xl.cs := el
    have er : (l.drop 5).take 5 = xr.cs := er
    have ea : (l.drop 10).take 1 = [.slice an.1 an.2.1 an.2.2] := ea
    congr 1
    have e1 : l = (l.drop 0).take 5 ++ ((l.drop 5).take 5 ++ (l.drop 10).take 1) := by
      rw [List.drop_zero]
      conv => lhs; rw [← List.take_append_drop 5 l]
      congr 1
      conv => lhs; rw [← List.take_append_drop 5 (l.drop 5)]
      rw [List.drop_drop]
      congr 1
      rw [List.take_of_length_le (by rw [List.length_drop]; omega)]
    rw [e1, el, er, ea]
    rfl
  subst hcs
  obtain ⟨l, rfl⟩ := okWide_int Try.underlying5 (hval 1 5 v1 rfl rfl)
  obtain ⟨r, rfl⟩ := okWide_int Try.underlying5 (hval 2 5 v2 rfl rfl)
  refine (Go.Proofs.TopFacingAnchors_spec (xl := xl) (xr := xr) (an := an) (q := ⟨ql, qr, A⟩) hl' hr' hA' (Nat.le_trans hlT (by decide)) (Nat.le_trans hrT (by decide)) (Nat.le_trans hAl (by decide)) fun w' he => ?_)
  exact ⟨_, rfl, post_ext laidOut (by rw [Try.params4]; intro t ht; simp only [List.mem_cons, List.not_mem_nil, or_false] at ht; rcases ht with rfl | rfl | rfl <;> first | exact rec_sides | exact rec_u8) (by kernel_rfl) Try.underlying4 rfl hW' rfl he⟩
theorem reads (os : Os) {H : Type} (enc : TypeId × Value → H) : ∃ places, DataW.whole enc Try.prog ((plainWorld os).forCall (fun _ _ => 0) ⟨#[], #[.agg #[.slice none 0 0, .slice none 0 0, .slice none 0 0, .int .i64 0, .int .i64 0, .slice none 0 0, .slice none 0 0, .slice none 0 0, .int .i64 0, .int .i64 0, .slice none 0 0], .int .u8 0, .int .u8 0], []⟩).memory Try.f4.params.toList Rows.topFacingAnchorsSpec.vars false (#[.agg #[.slice none 0 0, .slice none 0 0, .slice none 0 0, .int .i64 0, .int .i64 0, .slice none 0 0, .slice none 0 0, .slice none 0 0, .int .i64 0, .int .i64 0, .slice none 0 0], .int .u8 0, .int .u8 0] : Array Value).toList 8 = some ([.agg [.agg [.nil, .nil, .nil, .lit (.int .i64 0), .lit (.int .i64 0)], .agg [.nil, .nil, .nil, .lit (.int .i64 0), .lit (.int .i64 0)], .nil], .lit (.int .u8 0), .lit (.int .u8 0)], [], places) :=
  ⟨[], by kernel_rfl⟩
end TopFacingAnchors
end Go.Proofs.Ytncjonkmhfdabaa
