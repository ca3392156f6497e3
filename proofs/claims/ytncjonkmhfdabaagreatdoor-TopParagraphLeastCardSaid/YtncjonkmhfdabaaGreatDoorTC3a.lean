/- The card of one law, out of the contracts of the functions that it reaches. -/
import Derived.Test.YtncjonkmhfdabaaGreatDoorLawE
/- Proved: whatever the input, TopParagraphLeast returns true, and the input reads as it did. No condition stands ahead of it. -/
namespace Go.Proofs.YtncjonkmhfdabaaGreatDoor
open Go Go.Sh Go.RowKit Go.ChangeShapes Go.WideShapes Go.ChangeAt
namespace TopParagraphLeast
theorem rec29 : Tryz.prog.readableRec 29 = true ∧ 29 < Tryz.prog.types.size := ⟨by kernel_rfl, of_decide_eq_true (by kernel_rfl)⟩
theorem rec3 : Tryz.prog.readableRec 3 = true ∧ 3 < Tryz.prog.types.size := ⟨by kernel_rfl, of_decide_eq_true (by kernel_rfl)⟩
theorem rec30 : Tryz.prog.readableRec 30 = true ∧ 30 < Tryz.prog.types.size := ⟨by kernel_rfl, of_decide_eq_true (by kernel_rfl)⟩
theorem l2 {α : Type} {l : List α} (h : l.length = 2) : ∃ a b, l = [a, b] := match l, h with | [a, b], _ => ⟨a, b, rfl⟩
theorem l3 {α : Type} {l : List α} (h : l.length = 3) : ∃ a b c, l = [a, b, c] := match l, h with | [a, b, c], _ => ⟨a, b, c, rfl⟩
theorem l7 {α : Type} {l : List α} (h : l.length = 7) : ∃ a b c d e f g, l = [a, b, c, d, e, f, g] := match l, h with | [a, b, c, d, e, f, g], _ => ⟨a, b, c, d, e, f, g, rfl⟩
theorem l13 {α : Type} {l : List α} (h : l.length = 13) : ∃ a b c d e f g i j k m n o, l = [a, b, c, d, e, f, g, i, j, k, m, n, o] := match l, h with | [a, b, c, d, e, f, g, i, j, k, m, n, o], _ => ⟨a, b, c, d, e, f, g, i, j, k, m, n, o, rfl⟩
theorem k3 : Tryz.prog.cellsOf 3 = 1 := by kernel_rfl
theorem k4 : Tryz.prog.cellsOf 4 = 1 := by kernel_rfl
theorem k9 : Tryz.prog.cellsOf 9 = 1 := by kernel_rfl
theorem k22 : Tryz.prog.cellsOf 22 = 1 := by kernel_rfl
theorem k23 : Tryz.prog.cellsOf 23 = 1 := by kernel_rfl
theorem k25 : Tryz.prog.cellsOf 25 = 13 := by kernel_rfl
theorem k26 : Tryz.prog.cellsOf 26 = 1 := by kernel_rfl
theorem k27 : Tryz.prog.cellsOf 27 = 1 := by kernel_rfl
theorem k29 : Tryz.prog.cellsOf 29 = 15 := by kernel_rfl
theorem k36 : Tryz.prog.cellsOf 36 = 7 := by kernel_rfl
theorem k40 : Tryz.prog.cellsOf 40 = 1 := by kernel_rfl
theorem k85 : Tryz.prog.cellsOf 85 = 2 := by kernel_rfl
theorem b3 : 0 < Tryz.prog.bytesOf 3 := of_decide_eq_true (by kernel_rfl)
theorem b36 : 0 < Tryz.prog.bytesOf 36 := of_decide_eq_true (by kernel_rfl)
theorem b85 : 0 < Tryz.prog.bytesOf 85 := of_decide_eq_true (by kernel_rfl)
theorem max_of {W : World} (hSh : W.ShapedOpen Tryz.prog) : ∃ m, W.cell? ⟨0, 0, none⟩ = some (.int .i64 m) := Tryz.laysM143.s1_3 W hSh
section
variable {H : Type} {enc : TypeId × Value → H} {w : World} {base : Nat} {sp : Nat → Bool} {hd : Bool}
theorem open_any {t e : TypeId} (ht : Tryz.prog.underlying t = some (.slice e)) {m : Nat} {cs : List Value} {y : DataW H × List MemPlace} (h : DataW.trod enc Tryz.prog w base sp hd m t cs = some y) : ∃ x : Slv, cs = [.slice x.1 x.2.1 x.2.2] := by
  rcases DataW.trod_slice ht h with ⟨rfl, _⟩ | ⟨a, len, cap, elems, rest, n, rfl, rfl, _⟩
  · exact ⟨(none, 0, 0), rfl⟩
  · exact ⟨(some a, len, cap), rfl⟩
set_option maxRecDepth 20000 in
theorem el_pat : ∀ (n : Nat) (cs : List Value) (y : DataW H × List MemPlace), (∀ m ∈ y.1.weights Tryz.prog 85, m ≤ reachBytes) → cs.length = Tryz.prog.cellsOf 85 → DataW.trod enc Tryz.prog w base sp hd n 85 cs = some y → ∃ x : List UInt8 × List Int, True ∧ (View.pair vS (View.sl vI)).C (fun _ => True) w x cs := by
  intro m cs y hz hl h
  obtain ⟨xs, n, rfl, rfl, _, hxl, hf⟩ := DataW.trod_struct Tryz.underlying85 h
  rw [k85] at hl
  obtain ⟨v0, v1, rfl⟩ := l2 hl
  obtain ⟨y0, y1, rfl⟩ := l2 (show xs.length = 2 from hxl)
  have z1 : ∀ m ∈ y1.1.weights Tryz.prog 40, m ≤ reachBytes := fun m hm => hz m (by simp only [DataW.weights, Tryz.underlying85]; exact DataW.weights_mem_each (j := 1) (t := 40) (d := y1.1) rfl rfl m hm)
  have g0 : DataW.trod enc Tryz.prog w base sp hd n 9 (([v0, v1].drop 0).take (Tryz.prog.cellsOf 9)) = some y0 := hf 0 _ rfl
  have g1 : DataW.trod enc Tryz.prog w base sp hd n 40 (([v0, v1].drop 1).take (Tryz.prog.cellsOf 40)) = some y1 := hf 1 _ rfl
  rw [k9] at g0
  rw [k40] at g1
  obtain ⟨t, e0, _, _⟩ := DataW.trod_string Tryz.underlying9 g0
  obtain ⟨L, _, hL⟩ := el_sl (V := vI) Tryz.underlying40 k3 b3 (el_int Tryz.underlying3) n _ _ z1 (by rw [k40]; rfl) g1
  exact ⟨(t.data.toList, L), trivial, [v0], [v1], rfl, e0, hL⟩
set_option maxRecDepth 20000 in
theorem el_wd : ∀ (n : Nat) (cs : List Value) (y : DataW H × List MemPlace), (∀ m ∈ y.1.weights Tryz.prog 36, m ≤ reachBytes) → cs.length = Tryz.prog.cellsOf 36 → DataW.trod enc Tryz.prog w base sp hd n 36 cs = some y → ∃ x : Wd, True ∧ vWd.C (fun _ => True) w x cs := by
  intro m cs y hz hl h
  obtain ⟨xs, n, rfl, rfl, _, hxl, hf⟩ := DataW.trod_struct Tryz.underlying36 h
  rw [k36] at hl
  obtain ⟨v0, v1, v2, v3, v4, v5, v6, rfl⟩ := l7 hl
  obtain ⟨y0, y1, y2, y3, y4, y5, y6, rfl⟩ := l7 (show xs.length = 7 from hxl)
  have g0 : DataW.trod enc Tryz.prog w base sp hd n 9 (([v0, v1, v2, v3, v4, v5, v6].drop 0).take (Tryz.prog.cellsOf 9)) = some y0 := hf 0 _ rfl
  have g1 : DataW.trod enc Tryz.prog w base sp hd n 3 (([v0, v1, v2, v3, v4, v5, v6].drop 1).take (Tryz.prog.cellsOf 3)) = some y1 := hf 1 _ rfl
  have g2 : DataW.trod enc Tryz.prog w base sp hd n 3 (([v0, v1, v2, v3, v4, v5, v6].drop 2).take (Tryz.prog.cellsOf 3)) = some y2 := hf 2 _ rfl
  have g3 : DataW.trod enc Tryz.prog w base sp hd n 3 (([v0, v1, v2, v3, v4, v5, v6].drop 3).take (Tryz.prog.cellsOf 3)) = some y3 := hf 3 _ rfl
  have g4 : DataW.trod enc Tryz.prog w base sp hd n 4 (([v0, v1, v2, v3, v4, v5, v6].drop 4).take (Tryz.prog.cellsOf 4)) = some y4 := hf 4 _ rfl
  have g5 : DataW.trod enc Tryz.prog w base sp hd n 4 (([v0, v1, v2, v3, v4, v5, v6].drop 5).take (Tryz.prog.cellsOf 4)) = some y5 := hf 5 _ rfl
  have g6 : DataW.trod enc Tryz.prog w base sp hd n 9 (([v0, v1, v2, v3, v4, v5, v6].drop 6).take (Tryz.prog.cellsOf 9)) = some y6 := hf 6 _ rfl
  rw [k9] at g0 g6
  rw [k3] at g1 g2 g3
  rw [k4] at g4 g5
  obtain ⟨t0, e0, _, _⟩ := DataW.trod_string Tryz.underlying9 g0
  obtain ⟨t1, e1, _⟩ := DataW.trod_int Tryz.underlying3 g1
  obtain ⟨t2, e2, _⟩ := DataW.trod_int Tryz.underlying3 g2
  obtain ⟨t3, e3, _⟩ := DataW.trod_int Tryz.underlying3 g3
  obtain ⟨t4, e4, _⟩ := DataW.trod_bool Tryz.underlying4 g4
  obtain ⟨t5, e5, _⟩ := DataW.trod_bool Tryz.underlying4 g5
  obtain ⟨t6, e6, _, _⟩ := DataW.trod_string Tryz.underlying9 g6
  simp at e0 e1 e2 e3 e4 e5 e6
  subst e0 e1 e2 e3 e4 e5 e6
  exact ⟨⟨t0.data.toList, t1, t2, t3, t4, t5, t6.data.toList⟩, trivial, rfl⟩
set_option maxRecDepth 20000 in
theorem open_sty {m : Nat} {cs : List Value} {y : DataW H × List MemPlace} (h : DataW.trod enc Tryz.prog w base sp hd m 25 cs = some y) : ∃ s : Sty, cs = s.cs := by
  obtain ⟨xs, n, rfl, rfl, hl, hxl, hf⟩ := DataW.trod_struct Tryz.underlying25 h
  rw [k25] at hl
  obtain ⟨v0, v1, v2, v3, v4, v5, v6, v7, v8, v9, v10, v11, v12, rfl⟩ := l13 hl
  obtain ⟨y0, y1, y2, y3, y4, y5, y6, y7, y8, y9, y10, y11, y12, rfl⟩ := l13 (show xs.length = 13 from hxl)
  have g0 : DataW.trod enc Tryz.prog w base sp hd n 3 (([v0, v1, v2, v3, v4, v5, v6, v7, v8, v9, v10, v11, v12].drop 0).take (Tryz.prog.cellsOf 3)) = some y0 := hf 0 _ rfl
  have g1 : DataW.trod enc Tryz.prog w base sp hd n 3 (([v0, v1, v2, v3, v4, v5, v6, v7, v8, v9, v10, v11, v12].drop 1).take (Tryz.prog.cellsOf 3)) = some y1 := hf 1 _ rfl
  have g2 : DataW.trod enc Tryz.prog w base sp hd n 3 (([v0, v1, v2, v3, v4, v5, v6, v7, v8, v9, v10, v11, v12].drop 2).take (Tryz.prog.cellsOf 3)) = some y2 := hf 2 _ rfl
  have g3 : DataW.trod enc Tryz.prog w base sp hd n 3 (([v0, v1, v2, v3, v4, v5, v6, v7, v8, v9, v10, v11, v12].drop 3).take (Tryz.prog.cellsOf 3)) = some y3 := hf 3 _ rfl
  have g4 : DataW.trod enc Tryz.prog w base sp hd n 3 (([v0, v1, v2, v3, v4, v5, v6, v7, v8, v9, v10, v11, v12].drop 4).take (Tryz.prog.cellsOf 3)) = some y4 := hf 4 _ rfl
  have g5 : DataW.trod enc Tryz.prog w base sp hd n 3 (([v0, v1, v2, v3, v4, v5, v6, v7, v8, v9, v10, v11, v12].drop 5).take (Tryz.prog.cellsOf 3)) = some y5 := hf 5 _ rfl
  have g6 : DataW.trod enc Tryz.prog w base sp hd n 3 (([v0, v1, v2, v3, v4, v5, v6, v7, v8, v9, v10, v11, v12].drop 6).take (Tryz.prog.cellsOf 3)) = some y6 := hf 6 _ rfl
  have g7 : DataW.trod enc Tryz.prog w base sp hd n 3 (([v0, v1, v2, v3, v4, v5, v6, v7, v8, v9, v10, v11, v12].drop 7).take (Tryz.prog.cellsOf 3)) = some y7 := hf 7 _ rfl
  have g8 : DataW.trod enc Tryz.prog w base sp hd n 3 (([v0, v1, v2, v3, v4, v5, v6, v7, v8, v9, v10, v11, v12].drop 8).take (Tryz.prog.cellsOf 3)) = some y8 := hf 8 _ rfl
  have g9 : DataW.trod enc Tryz.prog w base sp hd n 3 (([v0, v1, v2, v3, v4, v5, v6, v7, v8, v9, v10, v11, v12].drop 9).take (Tryz.prog.cellsOf 3)) = some y9 := hf 9 _ rfl
  have g10 : DataW.trod enc Tryz.prog w base sp hd n 3 (([v0, v1, v2, v3, v4, v5, v6, v7, v8, v9, v10, v11, v12].drop 10).take (Tryz.prog.cellsOf 3)) = some y10 := hf 10 _ rfl
  have g11 : DataW.trod enc Tryz.prog w base sp hd n 22 (([v0, v1, v2, v3, v4, v5, v6, v7, v8, v9, v10, v11, v12].drop 11).take (Tryz.prog.cellsOf 22)) = some y11 := hf 11 _ rfl
  have g12 : DataW.trod enc Tryz.prog w base sp hd n 23 (([v0, v1, v2, v3, v4, v5, v6, v7, v8, v9, v10, v11, v12].drop 12).take (Tryz.prog.cellsOf 23)) = some y12 := hf 12 _ rfl
  rw [k3] at g0 g1 g2 g3 g4 g5 g6 g7 g8 g9 g10
  rw [k22] at g11
  rw [k23] at g12
  obtain ⟨t0, e0, _⟩ := DataW.trod_int Tryz.underlying3 g0
  obtain ⟨t1, e1, _⟩ := DataW.trod_int Tryz.underlying3 g1
  obtain ⟨t2, e2, _⟩ := DataW.trod_int Tryz.underlying3 g2
  obtain ⟨t3, e3, _⟩ := DataW.trod_int Tryz.underlying3 g3
  obtain ⟨t4, e4, _⟩ := DataW.trod_int Tryz.underlying3 g4
  obtain ⟨t5, e5, _⟩ := DataW.trod_int Tryz.underlying3 g5
  obtain ⟨t6, e6, _⟩ := DataW.trod_int Tryz.underlying3 g6
  obtain ⟨t7, e7, _⟩ := DataW.trod_int Tryz.underlying3 g7
  obtain ⟨t8, e8, _⟩ := DataW.trod_int Tryz.underlying3 g8
  obtain ⟨t9, e9, _⟩ := DataW.trod_int Tryz.underlying3 g9
  obtain ⟨t10, e10, _⟩ := DataW.trod_int Tryz.underlying3 g10
  obtain ⟨t11, e11⟩ := open_any Tryz.underlying22 g11
  obtain ⟨t12, e12⟩ := open_any Tryz.underlying23 g12
  simp at e0 e1 e2 e3 e4 e5 e6 e7 e8 e9 e10 e11 e12
  subst e0 e1 e2 e3 e4 e5 e6 e7 e8 e9 e10 e11 e12
  exact ⟨⟨t0, t1, t2, t3, t4, t5, t6, t7, t8, t9, t10, t11, t12⟩, rfl⟩
end
set_option maxRecDepth 20000 in
theorem contract (H : Type) (enc : TypeId × Value → H) (W : World) (base : Nat) (args : Array Value) (ds gs : List (DataW H)) (before : List MemPlace)
    (hval : ∀ (j : Nat) t v, Tryz.f3.params[j]? = some t → args[j]? = some v → Value.okWide Tryz.prog W .any base t v)
    (hW : DataW.Whole enc Tryz.prog Tryz.f3.params.toList Rows.topParagraphLeastSpec.vars false W args.toList ds gs before) (hZ : (DataW.weightsEach Tryz.prog (Tryz.f3.params.toList ++ (OpenSpec.ofChange Rows.topParagraphLeastSpec).bare.plain.varTypes Tryz.prog) (ds ++ gs)).all (· ≤ reachBytes) = true) (hSh : W.ShapedOpen Tryz.prog) :
    Calls Tryz.prog 3 args W fun e W' => ∃ v, e = .returned v ∧ Rows.topParagraphLeastSpec.post enc Tryz.prog Tryz.f3 false true false false W args v W' := by
  have hW' := hW
  obtain ⟨p, q, hA0, hV, rfl, hfz, hnd⟩ := hW
  have hA : DataW.TrodAll enc Tryz.prog W 0 (fun _ => true) true Tryz.f3.params.toList args.toList ds p := hA0
  rw [Tryz.params3] at hA hval hZ
  obtain ⟨v0, vs0, d0, ds0, p0, q0, hargs, rfl, rfl, h0, r0⟩ := trodAll_cons hA
  obtain ⟨v1, vs1, d1, ds1, p1, q1, rfl, rfl, rfl, h1, r1⟩ := trodAll_cons r0
  obtain ⟨v2, vs2, d2, ds2, p2, q2, rfl, rfl, rfl, h2, r2⟩ := trodAll_cons r1
  obtain ⟨rfl, rfl, rfl⟩ := trodAll_nil r2
  obtain rfl : args = #[v0, v1, v2] := by cases args; simp_all
  obtain ⟨rfl, rfl⟩ := trodVars_none hV
  have z0 : ∀ m ∈ d0.weights Tryz.prog 29, m ≤ reachBytes := fun m hm => by
    have := List.all_eq_true.1 hZ m (DataW.weights_mem_each (j := 0) (t := 29) (d := d0) rfl rfl m hm)
    simpa using this
  obtain ⟨cs, rfl, hsz⟩ := okWide_struct Tryz.underlying29 (hval 0 29 v0 rfl rfl)
  obtain ⟨fuel, hf⟩ := h0
  obtain ⟨xs, n, rfl, hx, hl, hxl, hfs⟩ := DataW.trod_struct Tryz.underlying29 hf
  obtain ⟨y0, y1, y2, rfl⟩ := l3 (show xs.length = 3 from hxl)
  simp only [Prod.mk.injEq] at hx
  obtain ⟨rfl, _⟩ := hx
  have zb : ∀ m ∈ y1.1.weights Tryz.prog 26, m ≤ reachBytes := fun m hm => z0 m (by simp only [DataW.weights, Tryz.underlying29]; exact DataW.weights_mem_each (j := 1) (t := 26) (d := y1.1) rfl rfl m hm)
  have zc : ∀ m ∈ y2.1.weights Tryz.prog 27, m ≤ reachBytes := fun m hm => z0 m (by simp only [DataW.weights, Tryz.underlying29]; exact DataW.weights_mem_each (j := 2) (t := 27) (d := y2.1) rfl rfl m hm)
  have g0 : DataW.trod enc Tryz.prog W 0 (fun _ => true) true n 25 ((cs.toList.drop 0).take (Tryz.prog.cellsOf 25)) = some y0 := hfs 0 _ rfl
  have g1 : DataW.trod enc Tryz.prog W 0 (fun _ => true) true n 26 ((cs.toList.drop 13).take (Tryz.prog.cellsOf 26)) = some y1 := hfs 1 _ rfl
  have g2 : DataW.trod enc Tryz.prog W 0 (fun _ => true) true n 27 ((cs.toList.drop 14).take (Tryz.prog.cellsOf 27)) = some y2 := hfs 2 _ rfl
  rw [k25] at g0
  rw [k26] at g1
  rw [k27] at g2
  obtain ⟨s, es⟩ := open_sty g0
  obtain ⟨pa, pn, pc, P, ep, _, hP, hPl, _⟩ := open_slV (V := View.pair vS (View.sl vI)) Tryz.underlying26 k85 b85 el_pat _ _ _ zb g1
  obtain ⟨qa, qn, qc, W0, eq, _, hW0, hWl, _⟩ := open_slV (V := vWd) Tryz.underlying27 k36 b36 el_wd _ _ _ zc g2
  have hcs : cs = ⟨setC s (pa, pn, pc) (qa, qn, qc)⟩ := by
    obtain ⟨l⟩ := cs
    have hll : l.length = 15 := by rw [← k29, ← hsz]; rfl
    have es : (l.drop 0).take 13 = s.cs := es
    have ep : (l.drop 13).take 1 = [.slice pa pn pc] := ep
    have eq : (l.drop 14).take 1 = [.slice qa qn qc] := eq
    congr 1
    have e1 : l = (l.drop 0).take 13 ++ ((l.drop 13).take 1 ++ (l.drop 14).take 1) := by
      rw [List.drop_zero]
      conv => lhs; rw [← List.take_append_drop 13 l]
      congr 1
      conv => lhs; rw [← List.take_append_drop 1 (l.drop 13)]
      rw [List.drop_drop]
      congr 1
      rw [List.take_of_length_le (by rw [List.length_drop]; omega)]
    rw [e1, es, ep, eq]
    rfl
  subst hcs
  obtain ⟨l, rfl⟩ := okWide_int Tryz.underlying3 (hval 1 3 v1 rfl rfl)
  obtain ⟨r, rfl⟩ := okWide_int Tryz.underlying30 (hval 2 30 v2 rfl rfl)
  have hPn : pn = P.length := hP.1
  have hWn : qn = W0.length := hW0.1
  refine (Go.Proofs.TopParagraphLeast_spec (s := s) (p := (pa, pn, pc)) (q := (qa, qn, qc)) hP hW0 (Nat.le_trans (Nat.le_of_eq hPn) (Nat.le_trans hPl (by decide))) (Nat.le_trans (Nat.le_of_eq hWn) (Nat.le_trans hWl (by decide))) (max_of hSh) fun w' he => ?_)
  exact ⟨_, rfl, post_ext laidOut (by rw [Tryz.params3]; intro t ht; simp only [List.mem_cons, List.not_mem_nil, or_false] at ht; rcases ht with rfl | rfl | rfl <;> first | exact rec29 | exact rec3 | exact rec30) (by kernel_rfl) Tryz.underlying4 rfl hW' rfl he⟩
noncomputable def laidWorld (os : Os) : World := laidWorldOf Rows.topParagraphLeastRow.laid os
theorem laid_met (os : Os) : laidMet Tryz.prog Rows.topParagraphLeastRow.laid ((laidWorld os).forCall (fun _ _ => 0) ⟨#[], #[.agg #[.int .i64 0, .int .i64 0, .int .i64 0, .int .i64 0, .int .i64 0, .int .i64 0, .int .i64 0, .int .i64 0, .int .i64 0, .int .i64 0, .int .i64 0, .slice none 0 0, .slice none 0 0, .slice none 0 0, .slice none 0 0], .int .i64 0, .int .u16 0], []⟩).memory :=
  laidMet_of_run' 8 (by kernel_rfl) (by kernel_rfl)
theorem reads (os : Os) {H : Type} (enc : TypeId × Value → H) : ∃ places, DataW.whole enc Tryz.prog ((laidWorld os).forCall (fun _ _ => 0) ⟨#[], #[.agg #[.int .i64 0, .int .i64 0, .int .i64 0, .int .i64 0, .int .i64 0, .int .i64 0, .int .i64 0, .int .i64 0, .int .i64 0, .int .i64 0, .int .i64 0, .slice none 0 0, .slice none 0 0, .slice none 0 0, .slice none 0 0], .int .i64 0, .int .u16 0], []⟩).memory Tryz.f3.params.toList Rows.topParagraphLeastSpec.vars false (#[.agg #[.int .i64 0, .int .i64 0, .int .i64 0, .int .i64 0, .int .i64 0, .int .i64 0, .int .i64 0, .int .i64 0, .int .i64 0, .int .i64 0, .int .i64 0, .slice none 0 0, .slice none 0 0, .slice none 0 0, .slice none 0 0], .int .i64 0, .int .u16 0] : Array Value).toList 8 = some ([.agg [.agg [.lit (.int .i64 0), .lit (.int .i64 0), .lit (.int .i64 0), .lit (.int .i64 0), .lit (.int .i64 0), .lit (.int .i64 0), .lit (.int .i64 0), .lit (.int .i64 0), .lit (.int .i64 0), .lit (.int .i64 0), .lit (.int .i64 0), .nil, .nil], .nil, .nil], .lit (.int .i64 0), .lit (.int .u16 0)], [], places) :=
  ⟨[], by kernel_rfl⟩
end TopParagraphLeast
end Go.Proofs.YtncjonkmhfdabaaGreatDoor
