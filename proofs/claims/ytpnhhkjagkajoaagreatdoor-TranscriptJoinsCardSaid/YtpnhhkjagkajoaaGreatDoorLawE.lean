/- The contracts of the functions that the law reaches, one after the other, and at the end the law's card. -/
import Derived.Test.YtpnhhkjagkajoaaGreatDoorLawD
namespace Go.Proofs
open Go Go.Sh Go.RowKit

variable {e : TypeId} {B : Nat} {w w' : World} {a : Option Addr} {n c : Nat} {st : List Fr} {O : Nat → Prop}
/- one more node in the list of the innermost open node, the new element laid down after the row has grown, and the list's head before it or after it -/
theorem StAt.grow {P : Program} {t ty : TypeId} {bytes : Nat} {z : Value} (hT : SlT P t e 4 bytes z) {f : Fr} {r : List Fr} (h : StAt e B w a n c (f :: r) O) (hB : B ≤ w.heap.size) {bz : Nat} {Tz : TypeId} {zc : List Value} (hbz : Blk w bz zc Tz) (hzc : zc.length = 4) (hz1 : ∀ u ∈ zc, u.oneCell' = true)
    {hd : Hd} {ps : Fo} {a' : Option Addr} {c' : Nat} {O2 : Nat → Prop}
    (hps : SlF O2 w a' ps.len ps) (hO2 : ∀ k, O2 k → (B ≤ k ∧ k < w.heap.size) ∧ ¬ O k ∧ ¬ Sh.bk a k) (hlen : f.f.len + 1 ≤ 4611686018427387904) (hbytes : (f.f.len + 1) * bytes ≤ 140737488355328) {pa : Option Addr} {pc g : Nat} (ha : a = some ⟨g, 0, none⟩) (hcell : w.cell? ⟨g, r.length * 4 + 3, none⟩ = some (.slice pa f.f.len pc))
    {K4 : Option Addr → Nat → Nat → World → Prop}
    (hK : ∀ a1 c1 w2 (q : Addr), (∀ KK : Addr → Prop, KK q → idx a1 (f.f.len + 1) (f.f.len : Int) 4 KK) →
      (∀ K : World → Prop, (∀ w' O', StAt e B w' a n c (f.add hd ps :: r) O' → Chg (fun k => Sh.bk a k ∨ O k) w w' → (∀ k, O' k → O k ∨ O2 k ∨ (w.heap.size ≤ k ∧ k < w'.heap.size)) → K w') →
        (stL w2 q 0 (cellsH hd a' ps.len c') fun w3 => (stL w3 ⟨g, r.length * 4 + 3, none⟩ 0 [.slice a1 (f.f.len + 1) c1] K) ∧ True) ∧
        (stL w2 ⟨g, r.length * 4 + 3, none⟩ 0 [.slice a1 (f.f.len + 1) c1] fun w3 => (stL w3 q 0 (cellsH hd a' ps.len c') K) ∧ True) ∧
        (stL w2 ⟨g, r.length * 4 + 3, none⟩ 0 [.slice a1 (f.f.len + 1) c1] fun w3 => idx a1 (f.f.len + 1) (f.f.len : Int) 4 fun q => stL w3 q 0 (cellsH hd a' ps.len c') K) ∧
        (zc = cellsH hd a' ps.len c' → stL w2 ⟨g, r.length * 4 + 3, none⟩ 0 [.slice a1 (f.f.len + 1) c1] K)) → K4 a1 (f.f.len + 1) c1 w2) :
    app P [t, t] ty (.slice pa f.f.len pc) (.slice (some ⟨bz, 0, none⟩) 1 1) w K4 := by
  obtain ⟨h0, xs, h1, ⟨pa', pc', O0, Or, ys, rfl, h2, h3, h4, h5⟩, h6⟩ := h
  obtain ⟨g', ha', hg, hc⟩ := h1.cell (by rw [h0]; simp)
  obtain rfl : g' = g := by rw [ha] at ha'; simpa using ha'.symm
  have hl := h3.len
  have hn : n = r.length + 1 := by rw [h0, List.length_cons]
  have hcell' : w.cell? ⟨g', r.length * 4 + 3, none⟩ = some (.slice pa' f.f.len pc') := by
    refine hc _ _ ?_
    rw [List.getElem?_append_right (by omega), show r.length * 4 + 3 - ys.length = 3 by omega]; rfl
  obtain ⟨rfl, rfl⟩ : pa' = pa ∧ pc' = pc := by
    rw [hcell] at hcell'
    have := Value.slice.inj (Option.some.inj hcell')
    exact ⟨this.1.symm, this.2.2.symm⟩
  obtain ⟨_, o1, o2, px, q1, q2⟩ := h2
  refine app_own2 hT q1 hB (S := fun _ => True) zc (by rw [hzc, Nat.one_mul]) (.inr ⟨bz, 0, rfl, trivial, hbz.lt, fun j v hj => by rw [Nat.zero_add, hbz.cell]; exact hj⟩) hz1 hlen hbytes fun a1 c1 w2 ho hcw hnn => ?_
  have z := hcw.size
  obtain ⟨g1, ha1, hidx, hst⟩ := ho.storeLast (vs := cellsH hd a' ps.len c') hzc rfl (by intro u hu; simp only [List.mem_cons, List.not_mem_nil, or_false] at hu; rcases hu with rfl | rfl | rfl | rfl <;> rfl)
  have paO : ∀ k, Sh.bk pa' k → O k := fun k hk => (h4 k).2 (.inl (o1 k hk))
  have h1' : Owns w2 B e 4 a n c (ys ++ cellsH f.h pa' f.f.len pc') := h1.chg hcw fun k hk hp => h6 k (paO k hp) hk
  have na1 : ∀ k, Sh.bk a1 k → ¬ Sh.bk a k := fun k hk hb => (hnn k hk).elim (fun h => h6 k (paO k h) hb) (fun h => by have := (h1.bk hb).2; omega)
  have hset : (ys ++ cellsH f.h pa' f.f.len pc').set (r.length * 4 + 3) (.slice a1 (f.f.len + 1) c1) = ys ++ cellsH f.h a1 (f.f.len + 1) c1 := by
    rw [List.set_append_right _ _ (by omega), show r.length * 4 + 3 - ys.length = 3 by omega]; rfl
  have hlen' : (f.add hd ps).f.len = f.f.len + 1 := by unfold Fr.add; simp [Fo.one]
  have fin : ∀ w', Owns w' B e 4 a1 (f.f.len + 1) c1 (px ++ cellsH hd a' ps.len c') → Owns w' B e 4 a n c (ys ++ cellsH f.h a1 (f.f.len + 1) c1) → Chg (fun k => Sh.bk a1 k ∨ Sh.bk a k) w2 w' →
      StAt e B w' a n c (f.add hd ps :: r) (fun k => (O0 k ∨ O2 k ∨ Sh.bk a1 k) ∨ Or k) ∧ Chg (fun k => Sh.bk a k ∨ O k) w w' ∧ (∀ k, ((O0 k ∨ O2 k ∨ Sh.bk a1 k) ∨ Or k) → O k ∨ O2 k ∨ (w.heap.size ≤ k ∧ k < w'.heap.size)) := by
    intro w' x1 x2 x3
    have z3 := x3.size
    have own1 : ∀ k, (O0 k ∨ O2 k ∨ Sh.bk a1 k) → B ≤ k ∧ k < w'.heap.size := fun k hk => by
      rcases hk with hk | hk | hk
      · exact ⟨(o2 k hk).1, by have := (o2 k hk).2; omega⟩
      · exact ⟨(hO2 k hk).1.1, by have := (hO2 k hk).1.2; omega⟩
      · exact x1.bk hk
    have same : ∀ k, k < w.heap.size → ¬ Sh.bk pa' k → ¬ Sh.bk a k → ¬ Sh.bk a1 k ∧ w'.heap[k]? = w.heap[k]? := fun k hk n1 n2 => by
      have n3 : ¬ Sh.bk a1 k := fun hh => (hnn k hh).elim n1 (by omega)
      exact ⟨n3, (x3.block k (by omega) fun hh => hh.elim n3 n2).trans (hcw.block k hk n1)⟩
    refine ⟨⟨by rw [h0]; rfl, _, x2, ⟨a1, c1, _, Or, ys, by rw [hlen']; rfl, ?_, ?_, fun k => Iff.rfl, ?_⟩, ?_⟩, ?_, ?_⟩
    · rw [hlen']
      refine ⟨by show _ = (f.f.app _).len; simp [Fo.one], fun k hk => .inr (.inr hk), own1, _, x1, ?_⟩
      obtain ⟨_, us, g3, g4⟩ := hps
      have k1 : ∀ k, ((False ∨ O0 k) ∧ ¬ Sh.bk pa' k) → k < w.heap.size → ((False ∨ O0 k ∨ O2 k ∨ Sh.bk a1 k) ∧ ¬ Sh.bk a1 k) ∧ w'.heap[k]? = w.heap[k]? := fun k hk hl => by
        have ho : O0 k := hk.1.elim (fun h => h.elim) id
        obtain ⟨s1, s2⟩ := same k hl hk.2 (h6 k ((h4 k).2 (.inl ho)))
        exact ⟨⟨.inr (.inl ho), s1⟩, s2⟩
      have k2 : ∀ k, O2 k → k < w.heap.size → ((False ∨ O0 k ∨ O2 k ∨ Sh.bk a1 k) ∧ ¬ Sh.bk a1 k) ∧ w'.heap[k]? = w.heap[k]? := fun k hk hl => by
        obtain ⟨s1, s2⟩ := same k hl (fun hh => (hO2 k hk).2.1 (paO k hh)) (hO2 k hk).2.2
        exact ⟨⟨.inr (.inr (.inl hk)), s1⟩, s2⟩
      exact (q2.keep k1 (by omega)).app ⟨a', c', us, [], rfl, g3.keep k2 (by omega), g4.keep k2 (by omega), rfl⟩
    · exact (h3.chg hcw fun k hk hp => h5 k (o1 k hp) hk).chg x3 fun k hk hh => hh.elim (fun hb => (hnn k hb).elim (fun hp => h5 k (o1 k hp) hk) (fun hp => by have := (h3.own k hk).2; omega)) (h6 k ((h4 k).2 (.inr hk)))
    · intro k hk h2'
      rcases hk with hk | hk | hk
      · exact h5 k hk h2'
      · exact (hO2 k hk).2.1 ((h4 k).2 (.inr h2'))
      · rcases hnn k hk with hp | hp
        · exact h5 k (o1 k hp) h2'
        · have := (h3.own k h2').2; omega
    · intro k hk
      rcases hk with hk | hk
      · rcases hk with hk | hk | hk
        · exact h6 k ((h4 k).2 (.inl hk))
        · exact (hO2 k hk).2.2
        · exact na1 k hk
      · exact h6 k ((h4 k).2 (.inr hk))
    · refine ⟨x3.os.trans hcw.os, x3.tape.trans hcw.tape, x3.output.trans hcw.output, by omega, fun k hk hh => (same k hk (fun hp => hh (.inr (paO k hp))) (fun hb => hh (.inl hb))).2⟩
    · intro k hk
      rcases hk with hk | hk
      · rcases hk with hk | hk | hk
        · exact .inl ((h4 k).2 (.inl hk))
        · exact .inr (.inl hk)
        · rcases hnn k hk with hp | hp
          · exact .inl (paO k hp)
          · exact .inr (.inr ⟨hp, (x1.bk hk).2⟩)
      · exact .inl ((h4 k).2 (.inr hk))
  have seth : ∀ {W : World} {K : World → Prop}, Owns W B e 4 a n c (ys ++ cellsH f.h pa' f.f.len pc') → (∀ w', Owns w' B e 4 a n c (ys ++ cellsH f.h a1 (f.f.len + 1) c1) → Chg (Sh.bk a) W w' → w'.heap.size = W.heap.size → K w') → stL W ⟨g', r.length * 4 + 3, none⟩ 0 [.slice a1 (f.f.len + 1) c1] K := by
    intro W K hW hk
    obtain ⟨g2, hg2, hst2⟩ := owns_set hW (j := r.length * 4 + 3) (by omega) (v := .slice a1 (f.f.len + 1) c1) rfl
    obtain rfl : g2 = g' := by rw [ha] at hg2; simpa using hg2.symm
    refine hst2 K fun w' x1 x2 x3 => hk w' (by rw [← hset]; exact x1) x2 x3
  have sete : ∀ {W : World} {K : World → Prop}, Owns W B e 4 a1 (f.f.len + 1) c1 (px ++ zc) → (∀ w', Owns w' B e 4 a1 (f.f.len + 1) c1 (px ++ cellsH hd a' ps.len c') → Chg (Sh.bk a1) W w' → w'.heap.size = W.heap.size → K w') → stL W ⟨g1, f.f.len * 4, none⟩ 0 (cellsH hd a' ps.len c') K := by
    intro W K hW hk
    obtain ⟨g2, hg2, _, hst2⟩ := hW.storeLast (vs := cellsH hd a' ps.len c') hzc rfl (by intro u hu; simp only [List.mem_cons, List.not_mem_nil, or_false] at hu; rcases hu with rfl | rfl | rfl | rfl <;> rfl)
    obtain rfl : g2 = g1 := by rw [ha1] at hg2; simpa using hg2.symm
    exact hst2 K hk
  refine hK a1 c1 w2 ⟨g1, f.f.len * 4, none⟩ hidx fun K hk => ?_
  have eh : ∀ {K : World → Prop}, (∀ w' O', StAt e B w' a n c (f.add hd ps :: r) O' → Chg (fun k => Sh.bk a k ∨ O k) w w' → (∀ k, O' k → O k ∨ O2 k ∨ (w.heap.size ≤ k ∧ k < w'.heap.size)) → K w') → stL w2 ⟨g1, f.f.len * 4, none⟩ 0 (cellsH hd a' ps.len c') fun w3 => (stL w3 ⟨g', r.length * 4 + 3, none⟩ 0 [.slice a1 (f.f.len + 1) c1] K) ∧ True := by
    intro K hk
    refine sete ho fun w3 x1 x2 x3 => ⟨seth (h1'.chg x2 fun k hk hh => na1 k hh hk) fun w4 y1 y2 y3 => ?_, trivial⟩
    obtain ⟨f1, f2, f3⟩ := fin w4 (x1.chg y2 fun k hk hh => na1 k hk hh) y1 ((x2.mono fun k _ hk => .inl hk).trans (y2.mono fun k _ hk => .inr hk))
    exact hk w4 _ f1 f2 f3
  have he : ∀ {W : World} {K : World → Prop}, (∀ w' O', StAt e B w' a n c (f.add hd ps :: r) O' → Chg (fun k => Sh.bk a k ∨ O k) w w' → (∀ k, O' k → O k ∨ O2 k ∨ (w.heap.size ≤ k ∧ k < w'.heap.size)) → K w') → Owns W B e 4 a n c (ys ++ cellsH f.h a1 (f.f.len + 1) c1) → Chg (Sh.bk a) w2 W → stL W ⟨g1, f.f.len * 4, none⟩ 0 (cellsH hd a' ps.len c') K := by
    intro W K hk y1 y2
    refine sete (ho.chg y2 fun k hk hh => na1 k hk hh) fun w4 x1 x2 x3 => ?_
    obtain ⟨f1, f2, f3⟩ := fin w4 x1 (y1.chg x2 fun k hk hh => na1 k hh hk) ((y2.mono fun k _ hk => .inr hk).trans (x2.mono fun k _ hk => .inl hk))
    exact hk w4 _ f1 f2 f3
  refine ⟨eh hk, seth h1' fun w3 y1 y2 _ => ⟨he hk y1 y2, trivial⟩, seth h1' fun w3 y1 y2 _ => hidx _ (he hk y1 y2), fun hz => seth h1' fun w3 y1 y2 _ => ?_⟩
  obtain ⟨f1, f2, f3⟩ := fin w3 (by rw [← hz]; exact ho.chg y2 fun k hk hh => na1 k hk hh) y1 (y2.mono fun k _ hk => .inr hk)
  exact hk w3 _ f1 f2 f3
end Go.Proofs
namespace Go.Proofs
open Go Go.Sh Go.RowKit

/- tokens that are right alone -/
def tkOk (x : Tk) : Prop := (x.k = 1 ∧ x.nm = []) ∨ ((x.k = 2 ∨ x.k = 3 ∨ x.k = 4) ∧ knownB x.nm = true ∧ emptyB x.nm = decide (x.k = 4) ∧ (x.k = 3 → x.vl = []) ∧ (x.k ≠ 3 → valB x.nm x.vl = true))
theorem chk_tk {x : Lx} {pt : Bool} {at_ : Int} (h : chkOne x pt at_ = 0) : tkOk (tkX x) := by
  obtain ⟨h1, _, h3, _⟩ := chk_inv h
  unfold singleX at h1
  unfold tkOk tkX
  by_cases hk : x.k = 1
  · left
    rw [if_pos hk] at h1
    split at h1
    · cases h1
    · rename_i hn; exact ⟨hk, Classical.not_not.1 hn⟩
  · right
    rw [if_neg hk] at h1
    split at h1
    · rename_i hk2
      split at h1
      · rename_i hn
        have hr := h3 hk
        unfold rightX at hr
        refine ⟨hk2, hn.1, hn.2, fun h => ?_, fun h => ?_⟩
        · rw [if_pos h] at hr; exact of_decide_eq_true hr
        · rw [if_neg h] at hr; exact hr
      · cases h1
    · cases h1
theorem chkGo_tk : ∀ {L : List Lx} {pt : Bool} {at_ : Nat}, chkGo L pt at_ = 0 → ∀ x ∈ L, tkOk (tkX x)
  | [], _, _, _, x, hx => by cases hx
  | y :: r, pt, at_, h, x, hx => by
    obtain ⟨h1, h2⟩ := chkGo_cons.1 h
    rcases List.mem_cons.1 hx with rfl | hx
    · exact chk_tk h1
    · exact chkGo_tk h2 x hx
/- the node of an opening or an empty tag -/
theorem num_val {most : Nat} (hm : most ≤ 64) {v : List UInt8} (h : numV most v = true) : 1 ≤ numOf v ∧ numOf v ≤ 64 ∧ Lib.decDigits (numOf v).toNat = v := by
  obtain ⟨n, h1, h2, h3, h4⟩ := (numV_iff hm v).1 h
  unfold numOf
  rw [h1]
  exact ⟨by show (1 : Int) ≤ (n : Int); omega, by show (n : Int) ≤ 64; omega, h4⟩
theorem head_back {nm vl : List UInt8} {c : Int} (hc : c ≠ 1) (h1 : knownB nm = true) (h2 : valB nm vl = true) :
    let h := headF ⟨c, nm, vl⟩
    tagF h.k = nm ∧ valT h.k h.t h.n = vl ∧ fieldsOk h.k h.t h.n ∧ h.k ≠ 1 ∧ partsF h.k = !emptyB nm := by
  have hm : nm ∈ tagNames := of_decide_eq_true h1
  unfold headF
  simp only [hc, if_false]
  simp only [tagNames, List.mem_cons, List.not_mem_nil, or_false] at hm
  have sm : ∀ i : Nat, i < 12 → 2 ≤ i → (if textsF (i : Int) = true then vl else []) = (if textsF (i : Int) then vl else []) := fun _ _ _ => rfl
  rcases hm with rfl | rfl | rfl | rfl | rfl | rfl | rfl | rfl | rfl | rfl
  · rw [show kindN [97, 98] = 10 by decide +kernel]
    exact ⟨rfl, rfl, .inr ⟨by decide, by decide, fun hh => (by cases hh), fun _ => rfl, fun hh => (by cases hh)⟩, by decide, rfl⟩
  · rw [show kindN [97, 100, 100] = 8 by decide +kernel]
    obtain ⟨a, b, d⟩ := num_val (most := 8) (by omega) h2
    exact ⟨rfl, d, .inr ⟨by decide, by decide, fun _ => rfl, fun hh => (by cases hh), fun _ => ⟨a, b⟩⟩, by decide, rfl⟩
  · rw [show kindN [100, 101, 108] = 9 by decide +kernel]
    obtain ⟨a, b, d⟩ := num_val (most := 8) (by omega) h2
    exact ⟨rfl, d, .inr ⟨by decide, by decide, fun _ => rfl, fun hh => (by cases hh), fun _ => ⟨a, b⟩⟩, by decide, rfl⟩
  · rw [show kindN [103, 97, 112] = 6 by decide +kernel]
    obtain ⟨a, b, d⟩ := num_val (most := 64) (by omega) h2
    exact ⟨rfl, d, .inr ⟨by decide, by decide, fun _ => rfl, fun hh => (by cases hh), fun _ => ⟨a, b⟩⟩, by decide, rfl⟩
  · rw [show kindN [108, 98] = 2 by decide +kernel]
    exact ⟨rfl, (of_decide_eq_true h2).symm, .inr ⟨by decide, by decide, fun _ => rfl, fun _ => rfl, fun hh => (by cases hh)⟩, by decide, rfl⟩
  · rw [show kindN [110, 97, 109, 101] = 11 by decide +kernel]
    exact ⟨rfl, rfl, .inr ⟨by decide, by decide, fun hh => (by cases hh), fun _ => rfl, fun hh => (by cases hh)⟩, by decide, rfl⟩
  · rw [show kindN [112, 98] = 3 by decide +kernel]
    exact ⟨rfl, rfl, .inr ⟨by decide, by decide, fun hh => (by cases hh), fun _ => rfl, fun hh => (by cases hh)⟩, by decide, rfl⟩
  · rw [show kindN [115, 101, 99] = 4 by decide +kernel]
    exact ⟨rfl, rfl, .inr ⟨by decide, by decide, fun hh => (by cases hh), fun _ => rfl, fun hh => (by cases hh)⟩, by decide, rfl⟩
  · rw [show kindN [117, 110, 99, 108, 101, 97, 114] = 7 by decide +kernel]
    exact ⟨rfl, (of_decide_eq_true h2).symm, .inr ⟨by decide, by decide, fun _ => rfl, fun _ => rfl, fun hh => (by cases hh)⟩, by decide, rfl⟩
  · rw [show kindN [118] = 5 by decide +kernel]
    exact ⟨rfl, (of_decide_eq_true h2).symm, .inr ⟨by decide, by decide, fun _ => rfl, fun _ => rfl, fun hh => (by cases hh)⟩, by decide, rfl⟩
/- the tokens that lie in what is open -/
def hdTk (h : Hd) : Tk := ⟨2, tagF h.k, valT h.k h.t h.n⟩
def unp : List Fr → List Tk
  | [] => []
  | [f] => tksF f.f
  | f :: g :: r => unp (g :: r) ++ hdTk f.h :: tksF f.f
def hdOk (h : Hd) : Prop := fieldsOk h.k h.t h.n ∧ h.k ≠ 1 ∧ partsF h.k = true
def frOk : List Fr → Prop
  | [] => False
  | [f] => shapeF f.f
  | f :: g :: r => hdOk f.h ∧ shapeF f.f ∧ frOk (g :: r)
def namesF : List Fr → List (List UInt8)
  | [] => []
  | [_] => []
  | f :: g :: r => tagF f.h.k :: namesF (g :: r)
theorem shape_app {f g : Fo} : shapeF (f.app g) ↔ shapeF f ∧ shapeF g := by
  induction f with
  | nil => simp [shapeF]
  | cons k t n ps r _ ih => simp only [Fo.cons_app, shapeF, ih, and_assoc]
theorem unp_add (f : Fr) (h : Hd) (ps : Fo) (r : List Fr) : unp (f.add h ps :: r) = unp (f :: r) ++ tksF (.one h.k h.t h.n ps) := by
  cases r with
  | nil => exact tksF_app _ _
  | cons g r =>
    show unp (g :: r) ++ hdTk f.h :: tksF (f.f.app _) = (unp (g :: r) ++ hdTk f.h :: tksF f.f) ++ _
    rw [tksF_app]; simp
theorem fr_add {f : Fr} {h : Hd} {ps : Fo} {r : List Fr} (hf : frOk (f :: r)) (hs : shapeF (.one h.k h.t h.n ps)) : frOk (f.add h ps :: r) := by
  cases r with
  | nil => exact shape_app.2 ⟨hf, hs⟩
  | cons g r => exact ⟨hf.1, shape_app.2 ⟨hf.2.1, hs⟩, hf.2.2⟩
theorem names_add (f : Fr) (h : Hd) (ps : Fo) (r : List Fr) : namesF (f.add h ps :: r) = namesF (f :: r) := by
  cases r <;> rfl
theorem tks_one (h : Hd) (ps : Fo) : tksF (.one h.k h.t h.n ps) = (if h.k = 1 then [⟨1, [], h.t⟩] else if partsF h.k then ⟨2, tagF h.k, valT h.k h.t h.n⟩ :: (tksF ps ++ [⟨3, tagF h.k, []⟩]) else [⟨4, tagF h.k, valT h.k h.t h.n⟩]) := by
  unfold Fo.one
  rw [tksF, tksF, List.append_nil]
theorem parse_inv : ∀ (L : List Lx) (st : List Fr), frOk st → (∀ x ∈ L, tkOk (tkX x)) → nestGo L (namesF st) = 0 → ∃ fr : Fr, (L.map tkX).foldl stepP st = [fr] ∧ shapeF fr.f ∧ tksF fr.f = unp st ++ L.map tkX
  | [], st, hf, _, hn => by
    match st, hf with
    | [f], hf => exact ⟨f, rfl, hf, by simp [unp]⟩
    | f :: g :: r, hf =>
      rw [namesF, nestGo] at hn
      simp at hn
  | x :: L, st, hf, ht, hn => by
    have hx := ht x List.mem_cons_self
    have htl : ∀ y ∈ L, tkOk (tkX y) := fun y hy => ht y (List.mem_cons_of_mem _ hy)
    obtain ⟨f, r, rfl⟩ : ∃ f r, st = f :: r := by
      cases st with
      | nil => exact hf.elim
      | cons f r => exact ⟨f, r, rfl⟩
    rw [List.map_cons, List.foldl_cons]
    rw [nestGo] at hn
    have fin : ∀ st', stepP (f :: r) (tkX x) = st' → frOk st' → nestGo L (namesF st') = 0 → unp st' = unp (f :: r) ++ [tkX x] → ∃ fr : Fr, (L.map tkX).foldl stepP (stepP (f :: r) (tkX x)) = [fr] ∧ shapeF fr.f ∧ tksF fr.f = unp (f :: r) ++ tkX x :: L.map tkX := by
      intro st' h1 h2 h3 h4
      obtain ⟨fr, g1, g2, g3⟩ := parse_inv L st' h2 htl h3
      exact ⟨fr, by rw [h1]; exact g1, g2, by rw [g3, h4]; simp⟩
    by_cases h2 : x.k = 2
    · rw [if_pos h2] at hn
      split at hn
      · cases hn
      rcases hx with hx | ⟨_, hk, he, _, hv⟩
      · exact absurd (hx.1.symm.trans h2) (by decide)
      have hb := head_back (c := x.k) (by omega) hk (hv (by show x.k ≠ 3; omega))
      obtain ⟨b1, b2, b3, b4, b5⟩ := hb
      have hpt : partsF (headF (tkX x)).k = true := by
        rw [show partsF (headF (tkX x)).k = !emptyB x.nm from b5]
        have : emptyB x.nm = decide (x.k = 4) := he
        rw [this, decide_eq_false (by omega)]; rfl
      refine fin (⟨headF (tkX x), .nil⟩ :: f :: r) (by unfold stepP; rw [if_pos (show (tkX x).k = 2 from h2)]) ⟨⟨b3, b4, hpt⟩, trivial, hf⟩ ?_ ?_
      · show nestGo L (tagF (headF (tkX x)).k :: namesF (f :: r)) = 0
        rw [show tagF (headF (tkX x)).k = x.nm from b1]; exact hn
      · show unp (f :: r) ++ [hdTk (headF (tkX x))] = _
        have : hdTk (headF (tkX x)) = tkX x := by
          unfold hdTk
          rw [show tagF (headF (tkX x)).k = x.nm from b1, show valT (headF (tkX x)).k (headF (tkX x)).t (headF (tkX x)).n = x.vl from b2]
          unfold tkX; rw [h2]
        rw [this]
    · rw [if_neg h2] at hn
      by_cases h3 : x.k = 3
      · rw [if_pos h3] at hn
        cases r with
        | nil => simp [namesF, popS] at hn
        | cons f1 r =>
          rw [namesF] at hn
          by_cases he : tagF f.h.k = x.nm
          · rw [popS, if_pos he] at hn
            obtain ⟨⟨a1, a2, a3⟩, a4, a5⟩ := hf
            have hvl : x.vl = [] := by
              rcases hx with hx | ⟨_, _, _, hv, _⟩
              · exact absurd (hx.1.symm.trans h3) (by decide)
              · exact hv h3
            refine fin (f1.add f.h f.f :: r) ?_ (fr_add a5 ?_) (by rw [names_add]; exact hn) ?_
            · unfold stepP; rw [if_neg (show ¬ (tkX x).k = 2 from h2), if_pos (show (tkX x).k = 3 from h3)]
            · exact ⟨a1, fun hh => (by rw [a3] at hh; cases hh), a4, trivial⟩
            · rw [unp_add, tks_one, if_neg a2, if_pos a3]
              show _ = (unp (f1 :: r) ++ hdTk f.h :: tksF f.f) ++ [tkX x]
              have : tkX x = ⟨3, tagF f.h.k, []⟩ := by unfold tkX; rw [h3, he, hvl]
              rw [this]; simp [hdTk]
          · rw [popS, if_neg he] at hn
            simp at hn
      · rw [if_neg h3] at hn
        have hs : stepP (f :: r) (tkX x) = f.add (headF (tkX x)) .nil :: r := by
          unfold stepP; rw [if_neg (show ¬ (tkX x).k = 2 from h2), if_neg (show ¬ (tkX x).k = 3 from h3)]
        rcases hx with hx | ⟨hk4, hk, he, _, hv⟩
        · obtain ⟨k1, n0⟩ := hx
          have k1 : x.k = 1 := k1
          have n0 : x.nm = [] := n0
          have hh : headF (tkX x) = ⟨1, x.vl, 0⟩ := by unfold headF; rw [if_pos (show (tkX x).k = 1 from k1)]; rfl
          refine fin _ hs (fr_add hf ?_) (by rw [names_add]; exact hn) ?_
          · rw [hh]; exact ⟨.inl ⟨rfl, rfl⟩, fun _ => rfl, trivial, trivial⟩
          · rw [unp_add, tks_one, hh, if_pos rfl]
            unfold tkX; rw [k1, n0]
        · have k4 : x.k = 4 := by
            have : x.k = 2 ∨ x.k = 3 ∨ x.k = 4 := hk4
            omega
          obtain ⟨b1, b2, b3, b4, b5⟩ := head_back (c := x.k) (by omega) hk (hv (by show x.k ≠ 3; omega))
          have hpt : partsF (headF (tkX x)).k = false := by
            rw [show partsF (headF (tkX x)).k = !emptyB x.nm from b5]
            have : emptyB x.nm = decide (x.k = 4) := he
            rw [this, decide_eq_true k4]; rfl
          refine fin _ hs (fr_add hf ⟨b3, fun _ => rfl, trivial, trivial⟩) (by rw [names_add]; exact hn) ?_
          rw [unp_add, tks_one, if_neg (show ¬ (headF (tkX x)).k = 1 from b4), if_neg (by rw [hpt]; decide)]
          rw [show tagF (headF (tkX x)).k = x.nm from b1, show valT (headF (tkX x)).k (headF (tkX x)).t (headF (tkX x)).n = x.vl from b2]
          unfold tkX; rw [k4]
/- the list of nodes of lexemes that are nested -/
theorem tree_inv {L : List Lx} (h : nestX L = 0) : shapeF (treeT (L.map tkX)) ∧ tksF (treeT (L.map tkX)) = L.map tkX := by
  unfold nestX at h
  split at h
  · cases h
  rename_i hc
  obtain ⟨fr, h1, h2, h3⟩ := parse_inv L [⟨⟨0, [], 0⟩, .nil⟩] trivial (chkGo_tk (Classical.not_not.1 hc)) h
  unfold treeT
  rw [h1]
  exact ⟨h2, by rw [h3]; rfl⟩
end Go.Proofs
namespace Go.Proofs
open Go Go.Sh Go.RowKit

/- the lexemes of tokens that stand one after the other -/
def posL : List Tk → Nat → List Lx
  | [], _ => []
  | x :: r, at_ => ⟨x.k, x.nm, x.vl, at_⟩ :: posL r (at_ + (textT x).length)
theorem pos_tk : ∀ (l : List Tk) (at_ : Nat), (posL l at_).map tkX = l
  | [], _ => rfl
  | x :: r, at_ => by rw [posL, List.map_cons, pos_tk r]; rfl
/- a valid node and its tokens -/
theorem single_tok {k : Int} {t : List UInt8} {n : Int} {ps : Fo} {b w : Bool} (h : singleF k t n ps b w = 0) (hk : k ≠ 1) : knownB (tagF k) = true ∧ emptyB (tagF k) = !partsF k ∧ valB (tagF k) (valT k t n) = true ∧ fieldsOk k t n ∧ valF k t n = (if valT k t n ≠ [] then 32 :: valT k t n else []) := by
  unfold singleF at h
  split at h
  · cases h
  rename_i h1
  split at h
  · cases h
  rename_i h2
  have hk1 : 1 ≤ k := by omega
  have hk2 : k ≤ 11 := by omega
  have htx : textsF k = false → t = [] := fun hp => Classical.byContradiction fun hne => h1 (.inr (.inr (.inl ⟨hne, hp⟩)))
  have hnm : numsF k = false → n = 0 := fun hp => Classical.byContradiction fun hne => h1 (.inr (.inr (.inr (.inl ⟨hne, hp⟩))))
  have fo : (numsF k = true → 1 ≤ n ∧ n ≤ 64) → fieldsOk k t n := fun hh => .inr ⟨by omega, hk2, htx, hnm, hh⟩
  have nme : isNameF t = true → t ≠ [] := fun hh e => by rw [e] at hh; revert hh; decide +kernel
  have wme : isWordF t = true → t ≠ [] := fun hh e => by rw [e] at hh; revert hh; decide +kernel
  have dne : 1 ≤ n → n ≤ 64 → Lib.decDigits n.toNat ≠ [] := fun a b e => by
    have := (num_dec a b).symm
    rw [e] at this
    have h0 : numOf [] = 0 := by decide +kernel
    omega
  have nv : ∀ most : Nat, most ≤ 64 → 1 ≤ n → n ≤ most → numV most (Lib.decDigits n.toNat) = true := fun most hm a1 a2 => by
    refine (numV_iff hm _).2 ⟨n.toNat, ?_, by omega, by omega, rfl⟩
    have := atoi_dec (n.toNat - 1) (by omega)
    rwa [show n.toNat - 1 + 1 = n.toNat by omega] at this
  try rw [if_neg hk] at h
  rcases kind_cases hk1 hk2 with rfl | rfl | rfl | rfl | rfl | rfl | rfl | rfl | rfl | rfl | rfl
  · exact absurd rfl hk
  · exact ⟨by decide +kernel, by decide +kernel, rfl, fo (fun hh => (by cases hh)), rfl⟩
  · have hN : isNameF t = true := by cases hc : isNameF t with | true => rfl | false => rw [hc] at h; simp at h
    refine ⟨by decide +kernel, by decide +kernel, hN, fo (fun hh => (by cases hh)), ?_⟩
    show 32 :: t = if t ≠ [] then 32 :: t else []
    rw [if_pos (nme hN)]
  · have hN : isNameF t = true := by cases hc : isNameF t with | true => rfl | false => rw [hc] at h; simp at h
    refine ⟨by decide +kernel, by decide +kernel, hN, fo (fun hh => (by cases hh)), ?_⟩
    show 32 :: t = if t ≠ [] then 32 :: t else []
    rw [if_pos (nme hN)]
  · exact ⟨by decide +kernel, by decide +kernel, rfl, fo (fun hh => (by cases hh)), rfl⟩
  · have hn : 1 ≤ n ∧ n ≤ 64 := by simp at h; omega
    refine ⟨by decide +kernel, by decide +kernel, nv 64 (by omega) hn.1 hn.2, fo (fun _ => hn), ?_⟩
    show 32 :: Lib.decDigits n.toNat = if Lib.decDigits n.toNat ≠ [] then 32 :: Lib.decDigits n.toNat else []
    rw [if_pos (dne (by omega) (by omega))]
  · exact ⟨by decide +kernel, by decide +kernel, rfl, fo (fun hh => (by cases hh)), rfl⟩
  · have hn : 1 ≤ n ∧ n ≤ 8 := by simp at h; omega
    refine ⟨by decide +kernel, by decide +kernel, nv 8 (by omega) hn.1 hn.2, fo (fun _ => ⟨hn.1, by omega⟩), ?_⟩
    show 32 :: Lib.decDigits n.toNat = if Lib.decDigits n.toNat ≠ [] then 32 :: Lib.decDigits n.toNat else []
    rw [if_pos (dne (by omega) (by omega))]
  · have hn : 1 ≤ n ∧ n ≤ 8 := by simp at h; omega
    refine ⟨by decide +kernel, by decide +kernel, nv 8 (by omega) hn.1 hn.2, fo (fun _ => ⟨hn.1, by omega⟩), ?_⟩
    show 32 :: Lib.decDigits n.toNat = if Lib.decDigits n.toNat ≠ [] then 32 :: Lib.decDigits n.toNat else []
    rw [if_pos (dne (by omega) (by omega))]
  · have hW : isWordF t = true := by cases hc : isWordF t with | true => rfl | false => rw [hc] at h; simp at h
    refine ⟨by decide +kernel, by decide +kernel, hW, fo (fun hh => (by cases hh)), ?_⟩
    show 32 :: t = if t ≠ [] then 32 :: t else []
    rw [if_pos (wme hW)]
  · have hN : isNameF t = true := by cases hc : isNameF t with | true => rfl | false => rw [hc] at h; simp at h
    refine ⟨by decide +kernel, by decide +kernel, hN, fo (fun hh => (by cases hh)), ?_⟩
    show 32 :: t = if t ≠ [] then 32 :: t else []
    rw [if_pos (nme hN)]
theorem single_txt {t : List UInt8} {n : Int} {ps : Fo} {b w : Bool} (h : singleF 1 t n ps b w = 0) : t ≠ [] ∧ checkC t = 0 ∧ b = false ∧ n = 0 ∧ ps = .nil := by
  unfold singleF at h
  split at h
  · cases h
  rename_i h1
  split at h
  · cases h
  rename_i h2
  rw [if_pos rfl] at h
  split at h
  · cases h
  rename_i h3
  refine ⟨fun e => h2 (.inl ⟨rfl, e⟩), Classical.not_not.1 h3, ?_, ?_, ?_⟩
  · cases b with
    | false => rfl
    | true => cases h
  · exact Classical.byContradiction fun hne => h1 (.inr (.inr (.inr (.inl ⟨hne, rfl⟩))))
  · exact Fo.eq_nil_of_len (Classical.byContradiction fun hne => h1 (.inr (.inr (.inr (.inr ⟨by omega, rfl⟩)))))
theorem all_cons {k : Int} {t : List UInt8} {n : Int} {ps r : Fo} {b w : Bool} (h : allF (.cons k t n ps r) b w = 0) : singleF k t n ps b w = 0 ∧ allF ps false true = 0 ∧ allF r (decide (k = 1)) w = 0 := by
  rw [allF] at h
  split at h
  · rename_i h1; exact absurd h h1
  rename_i h1
  split at h
  · rename_i h2; exact absurd h h2
  rename_i h2
  exact ⟨Classical.not_not.1 h1, Classical.not_not.1 h2, h⟩
theorem partsOf_single {k : Int} {t : List UInt8} {n : Int} {ps : Fo} {b w : Bool} (h : singleF k t n ps b w = 0) : (partsF k = false → ps = .nil) ∧ (partsF k = true → 0 < ps.len) := by
  have := single_ok h
  exact ⟨fun hp => Fo.eq_nil_of_len (this.2.2.2.2.1 hp), this.2.2.2.2.2⟩
theorem valid_shape : ∀ {g : Fo} {b w : Bool}, allF g b w = 0 → shapeF g
  | .nil, _, _, _ => trivial
  | .cons k t n ps r, b, w, h => by
    obtain ⟨h1, h2, h3⟩ := all_cons h
    refine ⟨?_, (partsOf_single h1).1, valid_shape h2, valid_shape h3⟩
    by_cases hk : k = 1
    · subst hk; exact .inl ⟨rfl, (single_txt h1).2.2.2.1⟩
    · exact (single_tok h1 hk).2.2.2.1
theorem tks_print : ∀ {g : Fo} {b w : Bool}, allF g b w = 0 → (tksF g).flatMap textT = printF g
  | .nil, _, _, _ => rfl
  | .cons k t n ps r, b, w, h => by
    obtain ⟨h1, h2, h3⟩ := all_cons h
    rw [tksF, printF, List.flatMap_append, tks_print h3]
    congr 1
    unfold nodeF
    by_cases hk : k = 1
    · rw [if_pos hk, if_pos hk]
      simp [textT, textF]
    · rw [if_neg hk, if_neg hk]
      obtain ⟨_, _, _, _, hv⟩ := single_tok h1 hk
      have hi : innF (tagF k) (valT k t n) = tagF k ++ valF k t n := by
        unfold innF; rw [hv]; split <;> simp
      by_cases hp : partsF k = true
      · rw [if_pos hp, if_pos hp, List.flatMap_cons, List.flatMap_append, tks_print h2]
        simp only [List.flatMap_cons, List.flatMap_nil, textT, textF, hi]
        simp [innF]
      · rw [if_neg hp, if_neg hp]
        simp only [List.flatMap_cons, List.flatMap_nil, textT, textF, hi]
        simp
/- after a list: does characters stand last -/
def endB (g : Fo) (b : Bool) : Bool := match g with
  | .nil => b
  | .cons k _ _ _ r => endB r (decide (k = 1))
theorem go_pos {x : Tk} {l : List Tk} {pt : Bool} {at_ : Nat} (h1 : singleX ⟨x.k, x.nm, x.vl, at_⟩ = 0) (h2 : ¬ (x.k = 1 ∧ pt = true)) (h3 : x.k ≠ 1 → rightX ⟨x.k, x.nm, x.vl, at_⟩ = true) : chkGo (posL (x :: l) at_) pt at_ = chkGo (posL l (at_ + (textT x).length)) (decide (x.k = 1)) (at_ + (textT x).length) := by
  rw [posL, chkGo, chk_ok h1 h2 h3 rfl, if_neg (by simp)]
  rfl
theorem chk_tks : ∀ (g : Fo) (b w : Bool) (at_ : Nat) (ts : List Tk), allF g b w = 0 → chkGo (posL (tksF g ++ ts) at_) b at_ = chkGo (posL ts (at_ + ((tksF g).flatMap textT).length)) (endB g b) (at_ + ((tksF g).flatMap textT).length)
  | .nil, _, _, _, _, _ => rfl
  | .cons k t n ps r, b, w, at_, ts, h => by
    obtain ⟨h1, h2, h3⟩ := all_cons h
    rw [tksF, List.append_assoc, List.flatMap_append, List.length_append, ← Nat.add_assoc, endB]
    rw [← chk_tks r (decide (k = 1)) w _ ts h3]
    by_cases hk : k = 1
    · subst hk
      obtain ⟨a1, a2, a3, _, _⟩ := single_txt h1
      rw [if_pos rfl, List.cons_append, List.nil_append, go_pos (by unfold singleX; simp [a1, a2]) (by rw [a3]; simp) (fun hh => absurd rfl hh)]
      simp
    · rw [if_neg hk]
      obtain ⟨b1, b2, b3, _, _⟩ := single_tok h1 hk
      by_cases hp : partsF k = true
      · rw [if_pos hp]
        rw [hp] at b2
        have b2 : emptyB (tagF k) = false := b2
        have s2 : ∀ p : Int, singleX ⟨2, tagF k, valT k t n, p⟩ = 0 := fun p => by unfold singleX; simp [b1, b2]
        have s3 : ∀ p : Int, singleX ⟨3, tagF k, [], p⟩ = 0 := fun p => by unfold singleX; simp [b1, b2]
        rw [List.cons_append, go_pos (s2 _) (by simp) (fun _ => by unfold rightX; rw [if_neg (show ¬ (2 : Int) = 3 by decide)]; exact b3)]
        show chkGo (posL ((tksF ps ++ [⟨3, tagF k, []⟩]) ++ (tksF r ++ ts)) _) false _ = _
        rw [List.append_assoc, chk_tks ps false true _ _ h2, List.cons_append, List.nil_append]
        rw [go_pos (s3 _) (by simp) (fun _ => by unfold rightX; rw [if_pos rfl]; rfl)]
        rw [decide_eq_false hk, List.flatMap_cons, List.flatMap_append, List.length_append, List.length_append]
        simp only [List.flatMap_cons, List.flatMap_nil, List.append_nil, Nat.add_assoc]
        rfl
      · rw [if_neg hp]
        have hp : partsF k = false := by simpa using hp
        rw [hp] at b2
        have b2 : emptyB (tagF k) = true := b2
        rw [List.cons_append, List.nil_append, go_pos (by unfold singleX; simp [b1, b2]) (by simp) (fun _ => by unfold rightX; rw [if_neg (show ¬ (4 : Int) = 3 by decide)]; exact b3)]
        rw [decide_eq_false hk]
        simp
theorem nest_tks : ∀ (g : Fo) (b w : Bool) (at_ : Nat) (ts : List Tk) (st : List (List UInt8)), allF g b w = 0 → g.depth + st.length ≤ 16 → nestGo (posL (tksF g ++ ts) at_) st = nestGo (posL ts (at_ + ((tksF g).flatMap textT).length)) st
  | .nil, _, _, _, _, _, _, _ => rfl
  | .cons k t n ps r, b, w, at_, ts, st, h, hd => by
    obtain ⟨h1, h2, h3⟩ := all_cons h
    rw [Fo.depth_parts] at hd
    rw [tksF, List.append_assoc, List.flatMap_append, List.length_append, ← Nat.add_assoc]
    rw [← nest_tks r (decide (k = 1)) w _ ts st h3 (by omega)]
    by_cases hk : k = 1
    · rw [if_pos hk, List.cons_append, List.nil_append, posL, nestGo, if_neg (show ¬ (1 : Int) = 2 by decide), if_neg (show ¬ (1 : Int) = 3 by decide)]
      simp
    · rw [if_neg hk]
      by_cases hp : partsF k = true
      · have hpl := (partsOf_single h1).2 hp
        rw [if_neg (by omega)] at hd
        rw [if_pos hp, List.cons_append, posL, nestGo, if_pos rfl, if_neg (by omega)]
        rw [List.append_assoc, nest_tks ps false true _ _ _ h2 (by rw [List.length_cons]; omega), List.cons_append, List.nil_append, posL, nestGo, if_neg (show ¬ (3 : Int) = 2 by decide), if_pos rfl]
        have e : popS (tagF k) (tagF k :: st) = some st := by rw [popS, if_pos rfl]
        simp only [e]
        rw [List.flatMap_cons, List.flatMap_append, List.length_append, List.length_append]
        simp only [List.flatMap_cons, List.flatMap_nil, List.append_nil, Nat.add_assoc]
      · rw [if_neg hp, List.cons_append, List.nil_append, posL, nestGo, if_neg (show ¬ (4 : Int) = 2 by decide), if_neg (show ¬ (4 : Int) = 3 by decide)]
        simp
/- what is printed is read back -/
theorem back_print {g : Fo} (h : allF g false false = 0) (hd : g.depth ≤ 16) (hl : (printF g).length ≤ 65536) : chkX (posL (tksF g) 0) = 0 ∧ nestX (posL (tksF g) 0) = 0 ∧ scanF (printF g) = (posL (tksF g) 0, 0) := by
  have c : chkX (posL (tksF g) 0) = 0 := by
    unfold chkX
    have := chk_tks g false false 0 [] h
    rw [List.append_nil] at this
    rw [this, posL, chkGo, tks_print h, if_neg (by omega)]
  refine ⟨c, ?_, ?_⟩
  · unfold nestX
    rw [if_neg (by rw [c]; simp)]
    have := nest_tks g false false 0 [] [] h (by simpa using hd)
    rw [List.append_nil] at this
    rw [this, posL, nestGo, if_pos rfl]
  · have := print_scan c
    rwa [print_tk, pos_tk, tks_print h] at this
end Go.Proofs
namespace Go.Proofs
open Go Go.Sh Go.RowKit

variable {R : Ending → World → Prop} {w : World}
theorem setN {b i : Nat} {T : TypeId} {cs : List Value} {v : Value} {w : World} (hb : Blk w b cs T) (hi : i < cs.length) (hv : v.oneCell' = true) {K : World → Prop}
    (h : ∀ w', Blk w' b (cs.set i v) T → Chg (fun k => k = b) w w' → w'.heap.size = w.heap.size → K w') : stL w ((⟨b, 0, none⟩ : Addr).add i) 0 [v] K := by
  rw [add_none]
  refine stL_blk hb (by simp; omega) (by intro u hu; rw [List.mem_singleton.1 hu]; exact hv) fun w' b1 x2 x3 x4 x5 x6 => ?_
  have e : putAt cs (0 + i + 0) [v] = cs.set i v := by rw [Nat.zero_add, Nat.add_zero]; rfl
  rw [e] at b1
  exact h w' b1 ⟨x4, x5, x6, by omega, fun j _ hj => x2 j hj⟩ x3
/- the result of node: taken from one block, laid down in another, and taken up again -/
def lastN (R : Ending → World → Prop) (p7 : Addr) (w41 : World) : Prop :=
  ∃ (x42 : Int), World.cell? w41 (p7.add 0) = some (.int .i64 x42) ∧ (∃ (x43 : List UInt8), World.cell? w41 (p7.add 1) = some (.string ⟨⟨x43⟩⟩) ∧ (∃ (x44 : Int), World.cell? w41 (p7.add 2) = some (.int .i64 x44) ∧ (∃ (x45 : Option Addr) (x45n : Nat) (x45c : Nat), World.cell? w41 (p7.add 3) = some (.slice x45 x45n x45c) ∧ (R (.returned (.agg ⟨[.int .i64 x42, .string ⟨⟨x43⟩⟩, .int .i64 x44, .slice x45 x45n x45c]⟩)) w41))))
def outN (R : Ending → World → Prop) (p20 p7 : Addr) (w36 : World) : Prop :=
  ∃ (x37 : Int), World.cell? w36 (p20.add 0) = some (.int .i64 x37) ∧ (∃ (x38 : List UInt8), World.cell? w36 (p20.add 1) = some (.string ⟨⟨x38⟩⟩) ∧ (∃ (x39 : Int), World.cell? w36 (p20.add 2) = some (.int .i64 x39) ∧ (∃ (x40 : Option Addr) (x40n : Nat) (x40c : Nat), World.cell? w36 (p20.add 3) = some (.slice x40 x40n x40c) ∧ (stL w36 p7 0 [.int .i64 x37, .string ⟨⟨x38⟩⟩, .int .i64 x39, .slice x40 x40n x40c] fun w41 => lastN R p7 w41))))
theorem one4n {k n : Int} {t : List UInt8} {a : Option Addr} {l c : Nat} : ∀ u ∈ ([.int .i64 k, .string ⟨⟨t⟩⟩, .int .i64 n, .slice a l c] : List Value), u.oneCell' = true := by
  intro u hu; simp only [List.mem_cons, List.not_mem_nil, or_false] at hu; rcases hu with rfl | rfl | rfl | rfl <;> rfl
theorem st4n {b7 : Nat} {T' : TypeId} {cs : List Value} {w : World} {k n : Int} {t : List UInt8} (B7 : Blk w b7 cs T') (hl : cs.length = 4)
    (h : ∀ w', Chg (fun k => k = b7) w w' → R (.returned (.agg ⟨[.int .i64 k, .string ⟨⟨t⟩⟩, .int .i64 n, .slice none 0 0]⟩)) w') : stL w ⟨b7, 0, none⟩ 0 [.int .i64 k, .string ⟨⟨t⟩⟩, .int .i64 n, .slice none 0 0] fun w41 => lastN R ⟨b7, 0, none⟩ w41 := by
  refine stL_blk B7 (by simp [hl]) one4n fun w' b1 x2 x3 x4 x5 x6 => ?_
  rw [Nat.add_zero, putAt4 hl rfl] at b1
  obtain ⟨y0, y1, y2, y3⟩ := blk4 b1
  exact ⟨_, y0, _, y1, _, y2, _, _, _, y3, h w' ⟨x4, x5, x6, by omega, fun j _ hj => x2 j hj⟩⟩
theorem outN_ok {b20 b7 : Nat} {T T' : TypeId} {cs : List Value} {w : World} {k n : Int} {t : List UInt8} (B20 : Blk w b20 [.int .i64 k, .string ⟨⟨t⟩⟩, .int .i64 n, .slice none 0 0] T) (B7 : Blk w b7 cs T') (hl : cs.length = 4)
    (h : ∀ w', Chg (fun k => k = b7) w w' → R (.returned (.agg ⟨[.int .i64 k, .string ⟨⟨t⟩⟩, .int .i64 n, .slice none 0 0]⟩)) w') : outN R ⟨b20, 0, none⟩ ⟨b7, 0, none⟩ w := by
  obtain ⟨y0, y1, y2, y3⟩ := blk4 B20
  exact ⟨_, y0, _, y1, _, y2, _, _, _, y3, st4n B7 hl h⟩
/- the table -/
theorem forms_all : ∀ i : Nat, i < 12 → formsCells[i * 4]? = some (.string ⟨⟨tagF i⟩⟩) ∧ formsCells[i * 4 + 1]? = some (.bool (textsF i)) ∧ formsCells[i * 4 + 2]? = some (.bool (numsF i)) ∧ formsCells[i * 4 + 3]? = some (.bool (partsF i)) := by
  intro i hi
  match i, hi with
  | 0, _ => exact ⟨rfl, rfl, rfl, rfl⟩
  | 1, _ => exact ⟨rfl, rfl, rfl, rfl⟩
  | 2, _ => exact ⟨rfl, rfl, rfl, rfl⟩
  | 3, _ => exact ⟨rfl, rfl, rfl, rfl⟩
  | 4, _ => exact ⟨rfl, rfl, rfl, rfl⟩
  | 5, _ => exact ⟨rfl, rfl, rfl, rfl⟩
  | 6, _ => exact ⟨rfl, rfl, rfl, rfl⟩
  | 7, _ => exact ⟨rfl, rfl, rfl, rfl⟩
  | 8, _ => exact ⟨rfl, rfl, rfl, rfl⟩
  | 9, _ => exact ⟨rfl, rfl, rfl, rfl⟩
  | 10, _ => exact ⟨rfl, rfl, rfl, rfl⟩
  | 11, _ => exact ⟨rfl, rfl, rfl, rfl⟩
  | n + 12, h => omega
theorem Forms.at {w : World} (h : Forms w) {i : Nat} (hi : i < 12) :
    (∀ K : Addr → Prop, K ⟨0, i * 4, none⟩ → idx (some ⟨0, 0, none⟩) 12 (i : Int) 4 K) ∧ w.cell? ((⟨0, i * 4, none⟩ : Addr).add 0) = some (.string ⟨⟨tagF i⟩⟩) ∧ w.cell? ((⟨0, i * 4, none⟩ : Addr).add 1) = some (.bool (textsF i)) ∧ w.cell? ((⟨0, i * 4, none⟩ : Addr).add 2) = some (.bool (numsF i)) ∧ w.cell? ((⟨0, i * 4, none⟩ : Addr).add 3) = some (.bool (partsF i)) := by
  obtain ⟨f0, f1, f2, f3⟩ := forms_all i hi
  refine ⟨fun K hK => ⟨by omega, by omega, ?_⟩, ?_⟩
  · show K _
    rw [add_none, Int.toNat_natCast, Nat.zero_add]; exact hK
  · simp only [add_none]
    exact ⟨h.2 _ _ f0, h.2 _ _ f1, h.2 _ _ f2, h.2 _ _ f3⟩
theorem kindN_at {nm : List UInt8} (h : knownB nm = true) : 2 ≤ kindN nm ∧ kindN nm ≤ 11 ∧ ∀ i : Nat, i < 12 → i ≤ kindN nm → (decide (tagF i = nm ∧ tagF i ≠ []) = decide (i = kindN nm)) :=
  known_cases (C := fun nm => 2 ≤ kindN nm ∧ kindN nm ≤ 11 ∧ ∀ i : Nat, i < 12 → i ≤ kindN nm → (decide (tagF i = nm ∧ tagF i ≠ []) = decide (i = kindN nm))) h (by decide +kernel)
theorem node1_spec (tg nm : List UInt8) (b1 b2 b3 : Bool) (p : Addr) (hp : w.cell? (p.add 1) = some (.string ⟨⟨nm⟩⟩)) (h : ∀ w', Ext w w' → R (.returned (.bool (decide (tg = nm ∧ tg ≠ [])))) w') :
    Calls Tryz.prog F_transcript_node_1 ⟨[.agg ⟨[.string ⟨⟨tg⟩⟩, .bool b1, .bool b2, .bool b3]⟩, .pointer (some p)]⟩ w R := by
  apply c_transcript_node_1
  refine al_intro fun b6 w7 hb6 B6 e7 s7 => ?_
  have y0 : w7.cell? ((⟨b6, 0, none⟩ : Addr).add 0) = some (.string ⟨⟨tg⟩⟩) := by rw [add_none, B6.cell]; rfl
  refine ⟨_, y0, dr_ok ⟨_, cell_ext hp e7, br_split (fun g => ⟨_, y0, ?_⟩) (fun g => ?_)⟩⟩
  · have e : decide (tg = nm ∧ tg ≠ []) = decide (tg ≠ []) := decide_eq_decide.2 ⟨fun hh => hh.2, fun hh => ⟨g, hh⟩⟩
    rw [← e]; exact h w7 e7
  · have e : decide (tg = nm ∧ tg ≠ []) = false := decide_eq_false fun hh => g hh.1
    rw [← e]; exact h w7 e7
theorem IndexForm_spec (nm : List UInt8) (hk : knownB nm = true) (hF : Forms w) (p : Addr) (hp : w.cell? (p.add 1) = some (.string ⟨⟨nm⟩⟩)) (h : ∀ w', Ext w w' → R (.returned (.int .i64 (kindN nm : Int))) w') :
    Calls Tryz.prog F_slices_IndexFunc_of_transcript_form_transcript_form ⟨[.slice (some ⟨0, 0, none⟩) 12 12, .func (.func F_transcript_node_1) ⟨[]⟩ ⟨[.pointer (some p)]⟩]⟩ w R := by
  apply c_slices_IndexFunc_of_transcript_form_transcript_form
  obtain ⟨k1, k2, k3⟩ := kindN_at hk
  refine ⟨fun t W m => ∃ k : Nat, t = k ∧ k ≤ kindN nm ∧ m = 12 - k ∧ Ext w W, ⟨_, 0, rfl, by omega, rfl, Below.refl _ _⟩, ?_⟩
  rintro _ W m ⟨k, rfl, hkk, rfl, he⟩ _
  obtain ⟨hq, f0, f1, f2, f3⟩ := (hF.ext he).at (i := k) (by omega)
  refine br_split (fun hlt => hq _ ⟨_, f0, _, f1, _, f2, _, f3, ⟨by kernel_rfl, ?_⟩⟩) (fun hge => by omega)
  refine node1_spec (tagF k) nm _ _ _ p (cell_ext hp he) fun w14 e14 => ⟨_, rfl, ?_⟩
  rw [k3 k (by omega) hkk]
  refine br_split (fun g => ?_) (fun g => ?_)
  · rw [g]; exact h w14 (ext_trans he e14)
  · exact ⟨12 - (k + 1), by omega, k + 1, by rw [wrap_nat (by omega)], by omega, rfl, ext_trans he e14⟩
theorem num_ok {x : Tk} (h : tkOk x) (h1 : x.k ≠ 1) (h3 : x.k ≠ 3) (hn : numsF (kindN x.nm) = true) (ht : textsF (kindN x.nm) = false) : ∃ v : Int, Lib.atoiAll x.vl = .ok v ∧ numOf x.vl = v := by
  rcases h with h | ⟨_, hk, _, _, hv⟩
  · exact absurd h.1 h1
  have hb := head_back (c := x.k) h1 hk (hv h3)
  obtain ⟨b1, b2, b3, b4, b5⟩ := hb
  have e : headF ⟨x.k, x.nm, x.vl⟩ = ⟨kindN x.nm, [], numOf x.vl⟩ := by unfold headF; rw [if_neg h1]; simp only [ht, hn, Bool.false_eq_true, if_false, if_true]
  rw [e] at b3
  rcases b3 with b3 | ⟨_, _, _, _, b3⟩
  · rw [e] at b4; exact absurd b3.1 b4
  obtain ⟨c1, c2⟩ := b3 hn
  unfold numOf at c1 ⊢
  cases ha : Lib.atoiAll x.vl with
  | ok v => exact ⟨v, rfl, rfl⟩
  | _ => rw [ha] at c1; exact absurd (show (1 : Int) ≤ 0 from c1) (by omega)
set_option maxRecDepth 20000 in
theorem nodeT_spec (x : Lx) (hx : tkOk (tkX x)) (h3 : x.k ≠ 3) (hl : x.vl.length ≤ 1000000000) (hF : Forms w) (hM : Mk w)
    (h : ∀ w', Ext w w' → R (.returned (.agg ⟨cellsH (headF (tkX x)) none 0 0⟩)) w') : Calls Tryz.prog F_transcript_node ⟨[aggX x]⟩ w R := by
  apply c_transcript_node
  refine al_intro fun b5 w6 hb5 B5 e6 s6 => ?_
  refine al_intro fun b7 w8 hb7 B7 e8 s8 => ?_
  obtain ⟨c0, c1, c2, c3⟩ := blk4x (B5.ext e8)
  have E8 := ext_trans e6 e8
  have z6 := e6.size
  refine ⟨_, c0, br_split (fun g => ⟨_, c2, ?_⟩) (fun g => ?_)⟩
  · have e : headF (tkX x) = ⟨1, x.vl, 0⟩ := by unfold headF; rw [if_pos (show (tkX x).k = 1 from g)]; rfl
    rw [e] at h
    exact st4n B7 rfl fun w' hc => h w' (ext_two E8 hc (by omega))
  have hkn : knownB x.nm = true := by
    rcases hx with hx | hx
    · exact absurd hx.1 g
    · exact hx.2.1
  obtain ⟨k1, k2, _⟩ := kindN_at hkn
  have hsl : ∀ {K : Option Addr → Nat → Nat → Prop}, K (some ⟨0, 0, none⟩) 12 12 → sls (some (⟨0, 0, none⟩ : Addr)) 12 0 (12 : Nat) 4 K := fun {K} hK => sls_cut (m := 12) (by omega) (fun p hp => by rw [← Option.some.inj hp]; rfl) hK
  refine hsl ?_
  refine IndexForm_spec x.nm hkn (hF.ext E8) ⟨b5, 0, none⟩ c1 fun w18 e18 => ⟨_, rfl, ?_⟩
  refine al_stL rfl one4n fun b20 w22 hb20 B20 e22 s22 => ?_
  have E22 := ext_trans (ext_trans E8 e18) e22
  have B5a := ((B5.ext e8).ext e18).ext e22
  have B7a := (B7.ext e18).ext e22
  have z8 := e8.size
  have z18 := e18.size
  obtain ⟨_, _, d2, _⟩ := blk4x B5a
  obtain ⟨hq, f0, f1, f2, f3⟩ := (hF.ext E22).at (i := kindN x.nm) (by omega)
  have hh : headF (tkX x) = ⟨kindN x.nm, if textsF (kindN x.nm) then x.vl else [], if textsF (kindN x.nm) then 0 else if numsF (kindN x.nm) then numOf x.vl else 0⟩ := by unfold headF; rw [if_neg (show ¬ (tkX x).k = 1 from g)]; rfl
  rw [hh] at h
  refine br_split (fun gn => by omega) (fun _ => hq _ ⟨_, f1, br_cases (fun gt => ⟨_, d2, ?_⟩) (fun gt => hq _ ⟨_, f2, br_cases (fun gn => ⟨_, d2, ?_⟩) (fun gn => ?_)⟩)⟩)
  · simp only [gt, if_true] at h
    refine setN B20 (i := 1) (by simp) rfl fun w36 B36 c36 s36 => ?_
    exact outN_ok (t := x.vl) B36 (c36.blk B7a (by omega)) rfl fun w' hc => h w' (ext_two (ext_two E22 c36 (by omega)) hc (by omega))
  · simp only [gt, gn, Bool.false_eq_true, if_false, if_true] at h
    obtain ⟨v, hv, hnv⟩ := num_ok hx g h3 gn gt
    rw [show numOf x.vl = v from hnv] at h
    refine (Tryz.strconv_Atoi_ok ⟨⟨x.vl⟩⟩ (by show x.vl.length ≤ _; omega) v hv w22).mono ?_
    rintro e w50 ⟨rfl, hw⟩
    have he : Ext w22 w50 := by
      rcases hw with rfl | ⟨t, rfl⟩
      · exact Below.refl _ _
      · exact Joins.below_bytesWorld _ _ _ _ (Nat.le_refl _)
    have z50 := he.size
    refine ⟨v, .nilIface, rfl, ?_⟩
    refine setN (B20.ext he) (i := 2) (by simp) rfl fun w53 B53 c53 s53 => ?_
    exact outN_ok (n := v) B53 (c53.blk (B7a.ext he) (by omega)) rfl fun w' hc => h w' (ext_two (ext_two (ext_trans E22 he) c53 (by omega)) hc (by omega))
  · simp only [gt, gn, Bool.false_eq_true, if_false] at h
    exact outN_ok B20 B7a rfl fun w' hc => h w' (ext_two E22 hc (by omega))
end Go.Proofs
namespace Go.Proofs
open Go Go.Sh Go.RowKit

/- what remains without tags -/
def charT (g : Fo) : List UInt8 := match g with
  | .nil => []
  | .cons k t _ ps r => (if k = 1 then t else []) ++ charT ps ++ charT r
/- as many nodes as tags that open or are empty, and characters -/
def wantT (l : List Tk) : Nat := (l.filter fun x => decide (x.k ≠ 3)).length
theorem wantT_app (l m : List Tk) : wantT (l ++ m) = wantT l + wantT m := by unfold wantT; rw [List.filter_append, List.length_append]
theorem want_tks : ∀ {g : Fo}, shapeF g → wantT (tksF g) = g.size
  | .nil, _ => rfl
  | .cons k t n ps r, ⟨h1, h2, h3, h4⟩ => by
    rw [tksF, wantT_app, want_tks h4, Fo.size]
    have key : wantT (if k = 1 then [⟨1, [], t⟩] else if partsF k then ⟨2, tagF k, valT k t n⟩ :: (tksF ps ++ [⟨3, tagF k, []⟩]) else [⟨4, tagF k, valT k t n⟩]) = ps.size + 1 := by
      by_cases hk : k = 1
      · subst hk
        rw [if_pos rfl, h2 (by decide)]
        simp [wantT, Fo.size]
      · rw [if_neg hk]
        by_cases hp : partsF k = true
        · rw [if_pos hp]
          have e : (⟨2, tagF k, valT k t n⟩ :: (tksF ps ++ [⟨3, tagF k, []⟩]) : List Tk) = [⟨2, tagF k, valT k t n⟩] ++ (tksF ps ++ [⟨3, tagF k, []⟩]) := rfl
          rw [e, wantT_app, wantT_app, want_tks h3]
          simp [wantT]
          omega
        · have hp : partsF k = false := by simpa using hp
          rw [if_neg (by rw [hp]; decide), h2 hp]
          simp [wantT, Fo.size]
    rw [key]; omega
/- how many nodes have a kind -/
def cntK (k : Int) : Fo → Nat
  | .nil => 0
  | .cons k' _ _ ps r => (if k' = k then 1 else 0) + cntK k ps + cntK k r
theorem cnt_app (k : Int) (f g : Fo) : cntK k (f.app g) = cntK k f + cntK k g := by
  induction f with
  | nil => simp [cntK]
  | cons k' t n ps r _ ih => simp only [Fo.cons_app, cntK, ih]; omega
theorem char_app (f g : Fo) : charT (f.app g) = charT f ++ charT g := by
  induction f with
  | nil => rfl
  | cons k' t n ps r _ ih => simp only [Fo.cons_app, charT, ih, List.append_assoc]
theorem dep_app (f g : Fo) : (f.app g).depth = max f.depth g.depth := by
  induction f with
  | nil => simp [Fo.depth]
  | cons k t n ps r _ ih => rw [Fo.cons_app, Fo.depth_parts, Fo.depth_parts, ih]; omega
/- a list in a further node -/
def secF : Fo → Bool
  | .nil => false
  | .cons k _ _ _ r => decide (k = 4) || secF r
theorem single_with {k t n ps b} (h : singleF k t n ps b false = 0) : singleF k t n ps b true = if k = 4 then 12 else 0 := by
  unfold singleF at h ⊢
  split at h
  · cases h
  rename_i h1
  rw [if_neg h1]
  split at h
  · cases h
  rename_i h2
  rw [if_neg h2]
  by_cases hk : k = 1
  · subst hk
    rw [if_pos rfl] at h ⊢
    rw [h]; rfl
  · rw [if_neg hk] at h ⊢
    by_cases h3 : k = 3 ∨ k = 4 ∨ k = 11
    · rw [if_pos h3] at h ⊢
      split at h
      · cases h
      · rename_i hn
        rw [if_neg hn]
        by_cases h4 : k = 4
        · rw [if_pos ⟨rfl, h4⟩, if_pos h4]
        · rw [if_neg (fun hh => h4 hh.2), if_neg h4]
    · rw [if_neg h3] at h ⊢
      rw [h, if_neg (by omega)]
theorem all_with : ∀ {l : Fo} {b : Bool}, allF l b false = 0 → allF l b true = if secF l = true then 12 else 0
  | .nil, _, _ => rfl
  | .cons k t n ps r, b, h => by
    obtain ⟨h1, h2, h3⟩ := all_cons h
    rw [allF, single_with h1, h2, all_with h3, secF]
    by_cases hk : k = 4
    · simp [hk]
    · simp [hk]
end Go.Proofs
namespace Go.Proofs
open Go Go.Sh Go.RowKit

def brkF (k : Int) : Bool := decide (k = 2 ∨ k = 3 ∨ k = 4)
def breaksF : Fo → Fo
  | .nil => .nil
  | .cons k t n ps r => (if brkF k then .one k t n ps else breaksF ps).app (breaksF r)
def partF (k : Int) (t : List UInt8) (n : Int) (ps : Fo) : Fo := if ps.len = 0 then .nil else .one k t n ps
theorem breaksF_app (f g : Fo) : breaksF (f.app g) = (breaksF f).app (breaksF g) := by
  induction f with
  | nil => rfl
  | cons k t n ps r _ ih => simp only [Fo.cons_app, breaksF, ih, Fo.app_assoc]
def resolveF : Fo → Int → Bool → Fo
  | .nil, _, _ => .nil
  | .cons k t n ps r, hand, adv =>
    (if k = 9 ∧ n ≤ hand then breaksF ps else if k = 8 ∧ n ≤ hand then resolveF ps hand adv else if (k = 8 ∨ k = 9) ∧ adv = true then partF k t n (resolveF ps hand adv) else if k = 8 then breaksF ps
     else if k = 9 then resolveF ps hand adv else if k = 7 ∨ k = 10 ∨ k = 11 then partF k t n (resolveF ps hand adv) else .one k t n ps).app (resolveF r hand adv)
end Go.Proofs
namespace Go.Proofs
open Go Go.Sh Go.RowKit

end Go.Proofs
namespace Go.Proofs
open Go Go.Sh Go.RowKit

structure Nn where
  k : Int
  t : List UInt8
  n : Int
  ps : Fo
/- the breaks within a node, as the program gathers them -/
end Go.Proofs
namespace Go.Proofs
open Go Go.Sh Go.RowKit

end Go.Proofs
namespace Go.Proofs
open Go Go.Sh Go.RowKit

end Go.Proofs
namespace Go.Proofs
open Go Go.Sh Go.RowKit

/- what calling the function of the parts gives -/
end Go.Proofs
namespace Go.Proofs
open Go Go.Sh Go.RowKit

/- the program's and the reference's are one -/
end Go.Proofs
namespace Go.Proofs
open Go Go.Sh Go.RowKit

theorem tlen_good : ∀ f : Fo, good f → tlen f ≤ 65536 * f.size
  | .nil, _ => by simp [tlen]
  | .cons k t n ps r, h => by
    have h1 := tlen_good ps h.2.1
    have h2 := tlen_good r h.2.2
    have h3 := h.1.2.2.2.1
    simp only [tlen, Fo.size]; omega
theorem tlen_breaks : ∀ f : Fo, tlen (breaksF f) ≤ tlen f
  | .nil => Nat.le_refl _
  | .cons k t n ps r => by
    have h1 := tlen_breaks ps
    have h2 := tlen_breaks r
    simp only [breaksF, tlen_app, tlen]
    split
    · simp [Fo.one, tlen]; omega
    · omega
theorem tlen_part (k t n) (ps : Fo) : tlen (partF k t n ps) ≤ t.length + tlen ps := by
  unfold partF; split
  · simp [tlen]
  · simp [Fo.one, tlen]
theorem tlen_resolve : ∀ (f : Fo) (hand : Int) (adv : Bool), tlen (resolveF f hand adv) ≤ tlen f
  | .nil, _, _ => Nat.le_refl _
  | .cons k t n ps r, hand, adv => by
    have h1 := tlen_resolve ps hand adv
    have h2 := tlen_resolve r hand adv
    have h3 := tlen_breaks ps
    have h4 := tlen_part k t n (resolveF ps hand adv)
    simp only [resolveF, tlen_app, tlen]
    split
    · omega
    split
    · omega
    split
    · omega
    split
    · omega
    split
    · omega
    split
    · omega
    · simp [Fo.one, tlen]; omega
theorem check_zero {f : Fo} (h : checkT f = 0) : f.size ≤ 4096 ∧ good f ∧ tlen f ≤ 268435456 := by
  unfold checkT at h
  split at h
  · rename_i h1
    split at h
    · rename_i h2; exact absurd h h2
    · rename_i h2
      have hg := all_good f _ _ (Decidable.not_not.1 h2)
      have := tlen_good f hg
      exact ⟨h1.1, hg, by omega⟩
  · cases h
section
variable {R : Ending → World → Prop} {S : Nat → Prop} {w : World} {a : Option Addr} {n c : Nat}
end
end Go.Proofs
namespace Go.Proofs
open Go Go.Sh Go.RowKit

end Go.Proofs
namespace Go.Proofs
open Go Go.Sh

/- merging, from the right -/
def consM (k : Int) (t : List UInt8) (n : Int) (ps r : Fo) : Fo :=
  if k = 1 then (if t = [] then r else match r with
    | .nil => .cons k t n ps .nil
    | .cons k' t' n' ps' r' => if k' = 1 then .cons k (t ++ t') n ps r' else .cons k t n ps (.cons k' t' n' ps' r'))
  else .cons k t n ps r
def mergeR : Fo → Fo
  | .nil => .nil
  | .cons k t n ps r => consM k t n (mergeR ps) (mergeR r)
def glue (out : Fo) : Fo → Fo
  | .nil => out
  | .cons k t n ps r => if k = 1 ∧ lastT out = true then (addL out t).app r else out.app (.cons k t n ps r)

theorem addL_addL (f : Fo) (s t : List UInt8) : addL (addL f s) t = addL f (s ++ t) := by
  rcases Fo_view f with rfl | ⟨pre, k, u, n, ps, rfl⟩
  · rfl
  · rw [addL_snoc, addL_snoc, addL_snoc, List.append_assoc]
theorem lastT_addL (f : Fo) (s : List UInt8) : lastT (addL f s) = lastT f := by
  rcases Fo_view f with rfl | ⟨pre, k, u, n, ps, rfl⟩
  · rfl
  · rw [addL_snoc, lastT_snoc, lastT_snoc]
theorem glue_nil (g : Fo) : glue .nil g = g := by
  cases g <;> simp [glue, lastT]
theorem glue_snoc (out : Fo) (k : Int) (t : List UInt8) (n : Int) (p g : Fo) : glue (snocM out k t n p) g = glue out (consM k t n p g) := by
  unfold snocM consM
  by_cases hk : k = 1
  · subst hk
    by_cases ht : t = []
    · simp [ht]
    · simp only [ht, and_false, if_false, true_and, if_true]
      by_cases hl : lastT out = true
      · rw [if_pos hl]
        cases g with
        | nil => simp [glue, hl]
        | cons k' t' n' ps' r' =>
          by_cases hk' : k' = 1
          · simp [glue, hk', lastT_addL, hl, addL_addL]
          · simp [glue, hk', hl]
      · rw [if_neg hl]
        cases g with
        | nil => simp [glue, hl, Fo.one]
        | cons k' t' n' ps' r' =>
          by_cases hk' : k' = 1
          · simp [glue, hk', lastT_snoc, addL_snoc, hl, Fo.app_one_app]
          · simp [glue, hk', hl, Fo.app_one_app]
  · simp only [hk, false_and, if_false]
    cases g with
    | nil => simp [glue, hk, Fo.one]
    | cons k' t' n' ps' r' => simp [glue, hk, lastT_snoc, Fo.app_one_app]
theorem mgo_glue : ∀ (f out : Fo), mgo f out = glue out (mergeR f)
  | .nil, out => rfl
  | .cons k t n ps r, out => by
    rw [mgo, mgo_glue r, mgo_glue ps, glue_nil, glue_snoc]; rfl
theorem mergeF_eq (f : Fo) : mergeF f = mergeR f := by rw [mergeF, mgo_glue, glue_nil]
/- what is right in a list but for its neighbours; no two texts side by side -/
def okF (w : Bool) : Fo → Prop
  | .nil => True
  | .cons k t n ps r => singleF k t n ps false w = 0 ∧ okF true ps ∧ okF w r
def mgd (b : Bool) : Fo → Prop
  | .nil => True
  | .cons k _ _ ps r => ¬ (k = 1 ∧ b = true) ∧ mgd false ps ∧ mgd (decide (k = 1)) r
theorem okF_app {w : Bool} : ∀ {f g : Fo}, okF w (f.app g) ↔ okF w f ∧ okF w g
  | .nil, g => by simp [okF]
  | .cons k t n ps r, g => by simp only [Fo.cons_app, okF, okF_app (f := r), and_assoc]
theorem single_within {k t n ps w} (h : singleF k t n ps false w = 0) : singleF k t n ps false false = 0 := by
  cases w with
  | false => exact h
  | true =>
    unfold singleF at h ⊢
    split
    · rename_i g; rw [if_pos g] at h; exact h
    · rename_i g; rw [if_neg g] at h
      split
      · rename_i g2; rw [if_pos g2] at h; exact h
      · rename_i g2; rw [if_neg g2] at h
        split
        · rename_i g3; rw [if_pos g3] at h; exact h
        · rename_i g3; rw [if_neg g3] at h
          split
          · rename_i g4; rw [if_pos g4] at h
            split
            · rename_i g5; rw [if_pos g5] at h; exact h
            · simp
          · rename_i g4; rw [if_neg g4] at h; exact h
theorem okF_within {w : Bool} : ∀ {f : Fo}, okF true f → okF w f
  | .nil, _ => trivial
  | .cons k t n ps r, ⟨h1, h2, h3⟩ => by
    cases w with
    | true => exact ⟨h1, h2, h3⟩
    | false => exact ⟨single_within h1, h2, okF_within h3⟩
theorem okF_good {w : Bool} : ∀ {f : Fo}, okF w f → good f
  | .nil, _ => trivial
  | .cons k t n ps r, ⟨h1, h2, h3⟩ => ⟨single_ok h1, okF_good h2, okF_good h3⟩
/- texts stand alone -/
theorem single_text {t n ps b w} (h : singleF 1 t n ps b w = 0) : t ≠ [] ∧ n = 0 ∧ ps = .nil ∧ checkC t = 0 := by
  unfold singleF at h
  split at h
  · cases h
  rename_i g
  split at h
  · cases h
  rename_i g2
  rw [if_pos rfl] at h
  split at h
  · cases h
  rename_i g3
  have e1 : numsF 1 = false := by decide
  have e2 : partsF 1 = false := by decide
  refine ⟨fun e => g2 (.inl ⟨rfl, e⟩), ?_, Fo.eq_nil_of_len ?_, Decidable.not_not.1 g3⟩
  · apply Classical.byContradiction; intro hn; exact g (.inr (.inr (.inr (.inl ⟨hn, e1⟩))))
  · apply Classical.byContradiction; intro hn; exact g (.inr (.inr (.inr (.inr ⟨by omega, e2⟩))))
/- what a node's rightness asks of its parts: whether there are any -/
theorem single_parts {k t n ps ps' b w} (h : singleF k t n ps b w = 0) (hl : ps.len = 0 ↔ ps'.len = 0) : singleF k t n ps' b w = 0 := by
  have h2 : (0 < ps.len ↔ 0 < ps'.len) := by omega
  unfold singleF at h ⊢
  simp only [← h2, ← hl]; exact h
end Go.Proofs
namespace Go.Proofs
open Go Go.Sh

/- two accepted strings, one behind the other -/
theorem kA_left {s t : List UInt8} {i : Nat} (h : i < s.length) : kA (s ++ t) i = kA s i := by simp [kA, List.getD, List.getElem?_append_left h]
theorem kA_right (s t : List UInt8) (i : Nat) : kA (s ++ t) (s.length + i) = kA t i := by simp [kA, List.getD, List.getElem?_append_right]
theorem rtB_left {s t : List UInt8} : ∀ {i : Nat}, i < s.length → rtB (s ++ t) i = rtB s i
  | 0, _ => rfl
  | i + 1, h => by simp only [rtB, kA_left h, kA_left (show i < s.length by omega), rtB_left (show i < s.length by omega)]
theorem rtB_right (s t : List UInt8) : ∀ i : Nat, rtB t i = true → rtB (s ++ t) (s.length + i) = true
  | 0, h => by simp [rtB] at h
  | i + 1, h => by
    have e : s.length + (i + 1) = (s.length + i) + 1 := by omega
    rw [rtB] at h
    rw [e, rtB, ← e, kA_right, kA_right]
    simp only [Bool.and_eq_true, Bool.or_eq_true] at h ⊢
    exact ⟨h.1, h.2.imp id (rtB_right s t i)⟩
theorem okChars_app {s t : List UInt8} (hs : okChars s = true) (ht : okChars t = true) : okChars (s ++ t) = true := by
  simp only [okChars, List.all_eq_true, List.mem_range] at hs ht ⊢
  intro j hj
  by_cases h : j < s.length
  · have := hs j h
    unfold okAt at this ⊢
    rw [kA_left h, rtB_left h]; exact this
  · obtain ⟨i, rfl⟩ : ∃ i, j = s.length + i := ⟨j - s.length, by omega⟩
    have := ht i (by simp at hj; omega)
    unfold okAt at this ⊢
    rw [kA_right]
    simp only [Bool.and_eq_true, Bool.or_eq_true] at this ⊢
    exact ⟨this.1, this.2.imp id (rtB_right s t i)⟩
theorem checkC_app {s t : List UInt8} (hs : checkC s = 0) (ht : checkC t = 0) (hl : s.length + t.length ≤ 65536) : checkC (s ++ t) = 0 := by
  rw [checkC_eq, if_neg (by omega)] at hs ht
  rw [checkC_eq, if_neg (by simp; omega)]
  have h1 : okChars s = true := by cases h : okChars s <;> simp [h] at hs ⊢
  have h2 : okChars t = true := by cases h : okChars t <;> simp [h] at ht ⊢
  rw [if_pos (okChars_app h1 h2)]

theorem single_mk_text {t : List UInt8} {w : Bool} (h1 : t ≠ []) (h2 : checkC t = 0) : singleF 1 t 0 .nil false w = 0 := by
  unfold singleF
  have e1 : textsF 1 = true := by decide
  have e2 : partsF 1 = false := by decide
  rw [if_neg (by simp [e1]), if_neg (by simp [h1, e2]), if_pos rfl]
  simp [h2]

/- merging: what it does to a right list -/
theorem tlen_consM (k t n ps r) : tlen (consM k t n ps r) ≤ t.length + tlen ps + tlen r := by
  unfold consM
  split
  · split
    · omega
    · split
      · simp [tlen]
      · split
        · simp only [tlen, List.length_append]; omega
        · simp only [tlen]; omega
  · simp [tlen]
theorem tlen_merge : ∀ f : Fo, tlen (mergeR f) ≤ tlen f
  | .nil => Nat.le_refl _
  | .cons k t n ps r => by
    have h1 := tlen_merge ps
    have h2 := tlen_merge r
    have h3 := tlen_consM k t n (mergeR ps) (mergeR r)
    simp only [mergeR, tlen]; omega
theorem consM_nil {k t n ps r} : consM k t n ps r = .nil → k = 1 ∧ t = [] ∧ r = .nil := by
  unfold consM
  intro h
  split at h
  · split at h
    · exact ⟨by assumption, by assumption, h⟩
    · split at h
      · cases h
      · split at h <;> cases h
  · cases h
theorem merge_nil {w : Bool} : ∀ {f : Fo}, okF w f → (mergeR f = .nil ↔ f = .nil)
  | .nil, _ => by simp [mergeR]
  | .cons k t n ps r, ⟨h1, h2, h3⟩ => by
    constructor
    · intro h
      obtain ⟨rfl, rfl, _⟩ := consM_nil h
      exact absurd rfl (single_text h1).1
    · intro h; cases h
theorem len_zero {f : Fo} : f.len = 0 ↔ f = .nil := ⟨Fo.eq_nil_of_len, fun h => by subst h; rfl⟩
theorem merge_ok : ∀ {w : Bool} {f : Fo}, okF w f → tlen f ≤ 65536 → okF w (mergeR f)
  | _, .nil, _, _ => trivial
  | w, .cons k t n ps r, ⟨h1, h2, h3⟩, hl => by
    simp only [tlen] at hl
    have i2 := merge_ok h2 (by omega)
    have i3 := merge_ok h3 (by omega)
    have hlr := tlen_merge r
    have e1 : singleF k t n (mergeR ps) false w = 0 := single_parts h1 (by rw [len_zero, len_zero, merge_nil h2])
    simp only [mergeR]
    unfold consM
    split
    · rename_i hk
      subst hk
      split
      · exact i3
      · obtain ⟨ht, rfl, hps, hc⟩ := single_text e1
        cases hr : mergeR r with
        | nil => exact ⟨e1, i2, trivial⟩
        | cons k' t' n' ps' r' =>
          rw [hr] at i3 hlr
          simp only
          split
          · rename_i hk'
            subst hk'
            obtain ⟨x1, x2, x3⟩ := i3
            obtain ⟨ht', _, _, hc'⟩ := single_text x1
            simp only [tlen] at hlr
            rw [hps]
            refine ⟨single_mk_text (by simp [ht]) (checkC_app hc hc' (by omega)), trivial, x3⟩
          · exact ⟨e1, i2, i3⟩
    · exact ⟨e1, i2, i3⟩
theorem merge_same : ∀ {w b : Bool} {f : Fo}, okF w f → mgd b f → mergeR f = f
  | _, _, .nil, _, _ => rfl
  | w, b, .cons k t n ps r, ⟨h1, h2, h3⟩, ⟨m1, m2, m3⟩ => by
    simp only [mergeR, merge_same h2 m2, merge_same h3 m3]
    unfold consM
    split
    · rename_i hk
      subst hk
      rw [if_neg (single_text h1).1]
      cases r with
      | nil => rfl
      | cons k' t' n' ps' r' =>
        simp only
        rw [if_neg]
        intro e
        exact m3.1 ⟨e, by simp⟩
    · rfl
/- the breaks -/
theorem breaks_consM {k t n ps r} (h : k = 1 → ps = .nil) (hr : ∀ k' t' n' ps' r', r = .cons k' t' n' ps' r' → k' = 1 → ps' = .nil) : breaksF (consM k t n ps r) = (if brkF k then .one k t n ps else breaksF ps).app (breaksF r) := by
  unfold consM
  split
  · rename_i hk
    have hps := h hk
    subst hk hps
    have e : brkF 1 = false := by decide
    simp only [e, Bool.false_eq_true, if_false]
    split
    · rfl
    · cases r with
      | nil => rfl
      | cons k' t' n' ps' r' =>
        simp only
        split
        · rename_i hk'
          have := hr _ _ _ _ _ rfl hk'
          subst hk' this
          simp only [breaksF, e, Bool.false_eq_true, if_false, Fo.nil_app]
        · simp only [breaksF, e, Bool.false_eq_true, if_false, Fo.nil_app]
  · rfl
theorem textnil {w : Bool} {k t n ps r} (h : okF w (.cons k t n ps r)) (hk : k = 1) : ps = .nil := by subst hk; exact (single_text h.1).2.2.1
theorem breaks_merge : ∀ {w : Bool} {f : Fo}, okF w f → tlen f ≤ 65536 → breaksF (mergeR f) = breaksF f
  | _, .nil, _, _ => rfl
  | w, .cons k t n ps r, h, hl => by
    have hl' := hl
    simp only [tlen] at hl
    have m3 := merge_ok h.2.2 (by omega)
    simp only [mergeR]
    rw [breaks_consM, breaks_merge h.2.2 (by omega), breaks_merge h.2.1 (by omega), breaksF]
    · congr 1
      by_cases hb : brkF k = true
      · have hok := single_ok h.1
        have : partsF k = false := by simp only [brkF, decide_eq_true_eq] at hb; unfold partsF; simp; omega
        have e := Fo.eq_nil_of_len (hok.2.2.2.2.1 this)
        subst e; rfl
      · simp [hb]
    · intro hk; rw [textnil h hk]; rfl
    · intro k' t' n' ps' r' e hk'; rw [e] at m3; exact textnil m3 hk'
end Go.Proofs
namespace Go.Proofs
open Go Go.Sh

theorem breaks_ok : ∀ {w : Bool} {f : Fo}, okF w f → okF w (breaksF f)
  | _, .nil, _ => trivial
  | w, .cons k t n ps r, ⟨h1, h2, h3⟩ => by
    simp only [breaksF]
    rw [okF_app]
    refine ⟨?_, breaks_ok h3⟩
    split
    · exact ⟨h1, h2, trivial⟩
    · exact okF_within (breaks_ok h2)
theorem part_ok {w : Bool} {k t n ps ps'} (h : singleF k t n ps false w = 0) (h0 : ps.len ≠ 0) (h2 : okF true ps') : okF w (partF k t n ps') := by
  unfold partF
  split
  · trivial
  · exact ⟨single_parts h (by omega), h2, trivial⟩
theorem resolve_ok : ∀ {w : Bool} {f : Fo} (hand : Int) (adv : Bool), okF w f → okF w (resolveF f hand adv)
  | _, .nil, _, _, _ => trivial
  | w, .cons k t n ps r, hand, adv, ⟨h1, h2, h3⟩ => by
    have hp := (single_ok h1).2.2.2.2.2
    have pk : k = 7 ∨ k = 8 ∨ k = 9 ∨ k = 10 ∨ k = 11 → ps.len ≠ 0 := fun h => by have := hp (by unfold partsF; simp; omega); omega
    have i2 := resolve_ok hand adv h2
    simp only [resolveF]
    rw [okF_app]
    refine ⟨?_, resolve_ok hand adv h3⟩
    split
    · exact okF_within (breaks_ok h2)
    split
    · exact okF_within i2
    split
    · exact part_ok h1 (pk (by omega)) i2
    split
    · exact okF_within (breaks_ok h2)
    split
    · exact okF_within i2
    split
    · exact part_ok h1 (pk (by omega)) i2
    · exact ⟨h1, h2, trivial⟩

/- sizes: what is printed is hardly longer than the texts -/
theorem print_short : ∀ f : Fo, good f → (printF f).length ≤ 30 * f.size + tlen f
  | .nil, _ => by simp [printF]
  | .cons k t n ps r, ⟨h1, h2, h3⟩ => by
    have i2 := print_short ps h2
    have i3 := print_short r h3
    have ht := tagF_len h1.1 h1.2.1
    have hv : (valF k t n).length ≤ t.length + 3 := by
      unfold valF
      split
      · simp
      · split
        · rename_i hn
          have := decDigits_len n.toNat (by have := h1.2.2.1 hn; omega)
          simp only [List.length_cons]; omega
        · simp
    simp only [printF, List.length_append, Fo.size, tlen]
    unfold nodeF
    split
    · omega
    · split
      · simp only [List.length_append, List.length_cons, List.length_nil]; omega
      · simp only [List.length_append, List.length_cons, List.length_nil]; omega
/- the transcripts of the statements -/
structure FineF (f : Fo) : Prop where
  size : f.size ≤ 24
  tl : tlen f ≤ 192
  depth : f.depth ≤ 6
  ok : okF false f
  m : mgd false f
theorem FineF.small {f : Fo} (h : FineF f) : small f := by have := h.size; unfold Go.Proofs.small; omega
/- breaks of what is resolved -/
theorem breaks_breaks : ∀ f : Fo, breaksF (breaksF f) = breaksF f
  | .nil => rfl
  | .cons k t n ps r => by
    simp only [breaksF, breaksF_app, breaks_breaks r]
    congr 1
    split
    · rename_i h; simp [Fo.one, breaksF, h]
    · exact breaks_breaks ps
theorem breaks_part {k t n ps} (h : brkF k = false) : breaksF (partF k t n ps) = breaksF ps := by
  unfold partF
  split
  · rename_i h0; have e := Fo.eq_nil_of_len h0; subst e; rfl
  · simp [Fo.one, breaksF, h]
theorem breaks_resolve : ∀ (f : Fo) (hand : Int) (adv : Bool), breaksF (resolveF f hand adv) = breaksF f
  | .nil, _, _ => rfl
  | .cons k t n ps r, hand, adv => by
    have h1 := breaks_resolve ps hand adv
    have h2 := breaks_resolve r hand adv
    have nb : k = 7 ∨ k = 8 ∨ k = 9 ∨ k = 10 ∨ k = 11 → brkF k = false := fun h => by unfold brkF; simp; omega
    simp only [resolveF, breaksF_app, h2]
    rw [show breaksF (.cons k t n ps r) = (if brkF k then .one k t n ps else breaksF ps).app (breaksF r) from rfl]
    congr 1
    split
    · rename_i h; rw [nb (by omega), breaks_breaks]; rfl
    split
    · rename_i h; rw [nb (by omega), h1]; rfl
    split
    · rename_i h; rw [breaks_part (nb (by omega)), nb (by omega), h1]; rfl
    split
    · rename_i h; rw [nb (by omega), breaks_breaks]; rfl
    split
    · rename_i h; rw [nb (by omega), h1]; rfl
    split
    · rename_i h; rw [breaks_part (nb (by omega)), nb (by omega), h1]; rfl
    · simp [Fo.one, breaksF]

/- step by step is at once -/
/- resolving does not mind merging -/
/- HandsSteps, the plain law -/
end Go.Proofs
namespace Go.Proofs
open Go Go.Sh Go.RowKit

theorem FineF.breaks {f : Fo} (h : FineF f) (hand : Int) (adv : Bool) : breaksF (mergeF (resolveF f hand adv)) = breaksF f := by
  have := h.tl
  have h2 := tlen_resolve f hand adv
  rw [mergeF_eq, breaks_merge (resolve_ok hand adv h.ok) (by omega), breaks_resolve]
end Go.Proofs
namespace Go.Proofs
open Go Go.Sh Go.RowKit

theorem Ext.upd {w W1 W2 : World} {l : Nat} (h : Ext w W1) (hU : Upd l W1 W2) (hl : w.heap.size ≤ l) : Ext w W2 := ext_chg h (upd_chg hU hl) (Nat.le_refl _)

end Go.Proofs
namespace Go.Proofs
open Go Go.Sh Go.RowKit

def RowsN : List Nn → List Value → Prop
  | [], xs => xs = []
  | x :: l, xs => ∃ a m c xs', xs = .int .i64 x.k :: .string ⟨⟨x.t⟩⟩ :: .int .i64 x.n :: .slice a m c :: xs' ∧ RowsN l xs'
theorem RowsN.get {x : Nn} : ∀ {l : List Nn} {xs : List Value} {i : Nat}, RowsN l xs → l[i]? = some x →
    ∃ a m c, xs[4 * i]? = some (.int .i64 x.k) ∧ xs[4 * i + 1]? = some (.string ⟨⟨x.t⟩⟩) ∧ xs[4 * i + 2]? = some (.int .i64 x.n) ∧ xs[4 * i + 3]? = some (.slice a m c)
  | [], xs, i, _, hi => by simp at hi
  | y :: l, xs, 0, ⟨a, m, c, xs', e, h⟩, hi => by
    simp at hi; subst hi; subst e
    exact ⟨a, m, c, rfl, rfl, rfl, rfl⟩
  | y :: l, xs, i + 1, ⟨a, m, c, xs', e, h⟩, hi => by
    subst e
    simp at hi
    obtain ⟨a', m', c', h0, h1, h2, h3⟩ := RowsN.get h hi
    exact ⟨a', m', c', h0, h1, h2, h3⟩

end Go.Proofs
namespace Go.Proofs
open Go Go.Sh Go.RowKit

def clean : Fo → Prop
  | .nil => True
  | .cons k _ _ ps r => ¬ (k = 8 ∨ k = 9) ∧ clean ps ∧ clean r
theorem clean_app : ∀ {f g : Fo}, clean (f.app g) ↔ clean f ∧ clean g
  | .nil, g => by simp [clean]
  | .cons k t n ps r, g => by simp only [Fo.cons_app, clean, clean_app (f := r), and_assoc]
theorem clean_breaks : ∀ {f : Fo}, good f → clean (breaksF f)
  | .nil, _ => trivial
  | .cons k t n ps r, ⟨h1, h2, h3⟩ => by
    simp only [breaksF, clean_app]
    refine ⟨?_, clean_breaks h3⟩
    split
    · rename_i hb
      have hk : k = 2 ∨ k = 3 ∨ k = 4 := by simpa [brkF] using hb
      have := Fo.eq_nil_of_len (h1.2.2.2.2.1 (by unfold partsF; simp; omega))
      subst this
      exact ⟨by omega, trivial, trivial⟩
    · exact clean_breaks h2
theorem clean_part {k t n ps} (h : ¬ (k = 8 ∨ k = 9)) (hp : clean ps) : clean (partF k t n ps) := by
  unfold partF
  split
  · trivial
  · exact ⟨h, hp, trivial⟩
theorem clean_resolve (hand : Int) : ∀ {f : Fo}, good f → clean (resolveF f hand false)
  | .nil, _ => trivial
  | .cons k t n ps r, ⟨h1, h2, h3⟩ => by
    have i2 := clean_resolve hand h2
    have ib := clean_breaks h2
    simp only [resolveF, clean_app]
    refine ⟨?_, clean_resolve hand h3⟩
    split
    · exact ib
    split
    · exact i2
    split
    · rename_i h; simp at h
    split
    · exact ib
    split
    · exact i2
    split
    · exact clean_part (by omega) i2
    · have hp : partsF k = false := by have := h1.1; have := h1.2.1; unfold partsF; simp; omega
      have := Fo.eq_nil_of_len (h1.2.2.2.2.1 hp)
      subst this
      exact ⟨by omega, trivial, trivial⟩
theorem clean_consM {k t n ps r} (h : ¬ (k = 8 ∨ k = 9)) (hp : clean ps) (hr : clean r) : clean (consM k t n ps r) := by
  unfold consM
  split
  · split
    · exact hr
    · split
      · exact ⟨h, hp, trivial⟩
      · split
        · exact ⟨h, hp, hr.2.2⟩
        · exact ⟨h, hp, hr⟩
  · exact ⟨h, hp, hr⟩
theorem clean_merge : ∀ {f : Fo}, clean f → clean (mergeR f)
  | .nil, _ => trivial
  | .cons k t n ps r, ⟨h1, h2, h3⟩ => clean_consM h1 (clean_merge h2) (clean_merge h3)
theorem resolve_clean (hand : Int) (adv : Bool) : ∀ {f : Fo}, good f → clean f → resolveF f hand adv = f
  | .nil, _, _ => rfl
  | .cons k t n ps r, ⟨g1, g2, g3⟩, ⟨h1, h2, h3⟩ => by
    simp only [resolveF, resolve_clean hand adv g2 h2, resolve_clean hand adv g3 h3]
    rw [if_neg (by omega), if_neg (by omega), if_neg (by omega), if_neg (by omega), if_neg (by omega)]
    split
    · rename_i h
      have := g1.2.2.2.2.2 (by unfold partsF; simp; omega)
      unfold partF
      rw [if_neg (by omega)]; rfl
    · rfl
theorem FineF.clean {f : Fo} (h : FineF f) (hand : Int) : clean (mergeF (resolveF f hand false)) := by
  rw [mergeF_eq]; exact clean_merge (clean_resolve hand (okF_good h.ok))
theorem FineF.again {f : Fo} (h : FineF f) (hc : Proofs.clean f) (hand : Int) (adv : Bool) : mergeF (resolveF f hand adv) = f := by
  rw [resolve_clean hand adv (okF_good h.ok) hc, mergeF_eq]; exact merge_same h.ok h.m

end Go.Proofs
namespace Go.Proofs
open Go Go.Sh Go.RowKit

theorem places_walkO {yf : Fn} {ya yb : Array Value} {T : Nat → Prop} {J : List Pl → (Nat → Prop) → World → Prop} {Jx : (Nat → Prop) → World → Prop} {w0 : World} {xs : List Pl} {ty tw : Nat}
    (hTl : ∀ k, T k → k < w0.heap.size)
    (hJ : ∀ pre S W W', J pre S W → Chg (fun k => w0.heap.size ≤ k ∧ ¬ S k) W W' → J pre S W')
    (hbody : ∀ pre x vs S W, PlE T w0 x vs → pre ++ [x] <+: xs → w0.heap.size ≤ W.heap.size → (∀ k, S k → k < W.heap.size ∧ ¬ T k) → J pre S W → CallV Tryz.prog (.func yf ya yb) vs W fun e W' => Chg S W W' ∧
      ∃ S' : Nat → Prop, (∀ k, S' k → (S k ∨ W.heap.size ≤ k) ∧ k < W'.heap.size) ∧ ((e = .returned (.bool true) ∧ J (pre ++ [x]) S' W') ∨ (e = .returned (.bool false) ∧ Jx S' W'))) :
    ∀ (f : Fo) {R : Ending → World → Prop} {S : Nat → Prop} {w : World} {a : Option Addr} {n c : Nat} (d : Nat) (pre : List Pl), small f → d ≤ 17 → SlF T w0 a n f → w0.heap.size ≤ w.heap.size → (∀ k, T k → w.heap[k]? = w0.heap[k]?) → (∀ k, S k → k < w.heap.size ∧ ¬ T k) →
      Blk w ty [.func yf ya yb] 99 → Blk w tw [.func (.func 75) ⟨[]⟩ ⟨[.pointer (some ⟨ty, 0, none⟩), .pointer (some ⟨tw, 0, none⟩)]⟩] 79 → ¬ S ty → ¬ S tw →
      pre ++ placesF f d false <+: xs → J pre S w → (∀ S' W', Chg S w W' → (∀ k, S' k → (S k ∨ w.heap.size ≤ k) ∧ k < W'.heap.size) → J (pre ++ placesF f d false) S' W' → R (.returned (.bool true)) W') →
      (∀ S' W', Chg S w W' → (∀ k, S' k → (S k ∨ w.heap.size ≤ k) ∧ k < W'.heap.size) → Jx S' W' → R (.returned (.bool false)) W') →
      Calls Tryz.prog F_transcript_places_1_1 ⟨[.slice a n c, .int .i64 (d : Int), .pointer (some ⟨ty, 0, none⟩), .pointer (some ⟨tw, 0, none⟩)]⟩ w R := by
  intro f
  induction hz : f.size using Nat.strongRecOn generalizing f with
  | _ z ih =>
  intro R S w a n c d pre hs hd hf hw0 hT hS hBy hBw nSy nSw hpre hj hend hstop
  unfold small at hs
  apply c_transcript_places_1_1
  have hn := hf.1
  have hfl := f.len_le_size
  have lty := hBy.lt
  have ltw := hBw.lt
  refine ⟨fun tx i W m => ∃ (p r : Fo) (ps : List Pl) (S1 : Nat → Prop), f = p.app r ∧ i = p.len ∧ m = r.len ∧ Chg S w W ∧ (∀ k, S1 k → (S k ∨ w.heap.size ≤ k) ∧ k < W.heap.size) ∧ J ps S1 W ∧ pre ++ placesF f d false = ps ++ placesF r d tx,
    ⟨_, .nil, f, pre, S, rfl, rfl, rfl, Chg.refl _ _, fun k hk => ⟨.inl hk, (hS k hk).1⟩, hj, rfl⟩, ?_⟩
  rintro b _ W m ⟨p, r, xs', S1, hpr, rfl, rfl, hcW, hS1, hjW, heq⟩ _
  have hwW := hcW.size
  refine br_split (fun hlt => ?_) (fun hge => ?_)
  · obtain ⟨k, t, mm, ps, r, rfl⟩ := Fo.next hpr (by omega)
    have hsl := Fo.sub_len hpr
    have hsz := Fo.sub_size hpr
    have e1 : f = (p.app (.one k t mm ps)).app r := by rw [Fo.app_one_app]; exact hpr
    have i1 : IntKind.i64.wrap ((p.len : Int) + 1) = ((p.app (.one k t mm ps)).len : Int) := by rw [wrap_nat (by omega)]; simp [Fo.one]
    have hTW : ∀ k, T k → W.heap[k]? = w0.heap[k]? := fun k hk => (hcW.block k (by have := hTl k hk; omega) (fun h => (hS k h).2 hk)).trans (hT k hk)
    obtain ⟨q, a', c', hq, hTq, hql, hN⟩ := (hf.keep (S' := T) (w' := W) (fun k hk _ => ⟨hk, hTW k hk⟩) (by omega)).get hpr
    have hNT : SlF T w0 a' ps.len ps := hN.sl.keep' fun k hk _ => ⟨hk, hTl k hk, (hTW k hk).symm⟩
    refine hq _ ⟨k, hN.kind, t, hN.text, mm, hN.num, a', ps.len, c', hN.parts, ?_⟩
    refine al_stL (by simp) (by intro u hu; simp only [List.mem_cons, List.not_mem_nil, or_false] at hu; rcases hu with rfl | rfl | rfl | rfl <;> rfl) fun bx w1 hbx hBx e2 s2 => ?_
    have z2 := e2.size
    obtain ⟨x0, x1, x2, x3⟩ := blk4 hBx
    have hBy1 := (hcW.blk hBy nSy).ext e2
    have hBw1 := (hcW.blk hBw nSw).ext e2
    have n1y : ¬ S1 ty := fun h => (hS1 _ h).1.elim nSy (by omega)
    have n1w : ¬ S1 tw := fun h => (hS1 _ h).1.elim nSw (by omega)
    have n1x : ¬ S1 bx := fun h => by have := (hS1 _ h).2; omega
    refine dr_ok ⟨_, _, _, by rw [hBy1.cell]; rfl, k, x0, t, x1, mm, x2, a', ps.len, c', x3, ?_⟩
    have hj1 : J xs' S1 w1 := hJ _ _ _ _ hjW (Chg.of_ext e2)
    rw [placesF] at heq
    have hpx : xs' ++ [⟨k, t, mm, ps, d, b⟩] <+: xs := by
      refine List.IsPrefix.trans ?_ hpre
      rw [heq]
      exact ⟨_, by rw [List.append_assoc]; rfl⟩
    have hS1T : ∀ k, S1 k → k < w1.heap.size ∧ ¬ T k := fun j hj => ⟨by have := (hS1 j hj).2; omega, fun ht => (hS1 j hj).1.elim (fun h => (hS j h).2 ht) (fun h => by have := hTl j ht; omega)⟩
    refine CallV_mono (hbody xs' ⟨k, t, mm, ps, d, b⟩ _ S1 w1 ⟨a', c', rfl, hNT⟩ hpx (by omega) hS1T hj1) ?_
    rintro e w2 ⟨hc2, S2, hS2, hres⟩
    have z3 := hc2.size
    have hcw2 : Chg S w w2 := chg_then (hcW.trans (Chg.of_ext e2)) hc2 fun i hi hh => (hS1 i hh).1.elim id fun h => by omega
    have hS2w : ∀ k, S2 k → (S k ∨ w.heap.size ≤ k) ∧ k < w2.heap.size := fun j hj => ⟨(hS2 j hj).1.elim (fun h => (hS1 j h).1) (fun h => .inr (by omega)), (hS2 j hj).2⟩
    rcases hres with ⟨rfl, hj2⟩ | ⟨rfl, hjx⟩
    · refine ⟨true, rfl, ?_⟩
      have hBx2 := hc2.blk hBx n1x
      obtain ⟨y0, y1, y2, y3⟩ := blk4 hBx2
      have hBw2 := hc2.blk hBw1 n1w
      have hBy2 := hc2.blk hBy1 n1y
      have n2x : ¬ S2 bx := fun h => (hS2 _ h).1.elim n1x (by omega)
      refine br_split (fun hd16 => ?_) (fun hd16 => ?_)
      · have hd16' : d ≤ 16 := by omega
        rw [if_pos hd16'] at heq
        refine dr_ok ⟨.func 75, ⟨[]⟩, ⟨[.pointer (some ⟨ty, 0, none⟩), .pointer (some ⟨tw, 0, none⟩)]⟩, by rw [hBw2.cell]; rfl, a', ps.len, c', y3, by kernel_rfl, ?_⟩
        rw [wrap_nat (by omega)]
        refine ih _ (hz ▸ hsz) ps rfl (S := S2) (d + 1) (xs' ++ [⟨k, t, mm, ps, d, b⟩]) (by unfold small; omega) (by omega) hNT (by omega) (fun j hj => (hcw2.block j (by have := hTl j hj; omega) (fun h => (hS j h).2 hj)).trans (hT j hj))
          (fun j hj => ⟨(hS2 j hj).2, fun ht => (hS2 j hj).1.elim (fun h => (hS1T j h).2 ht) (fun h => by have := hTl j ht; omega)⟩) hBy2 hBw2 (fun h => (hS2 _ h).1.elim n1y (by omega)) (fun h => (hS2 _ h).1.elim n1w (by omega)) ?_ hj2 (fun S3 w3 hc3 hS3 hj3 => ?_) (fun S3 w3 hc3 hS3 hjx => ?_)
        · refine List.IsPrefix.trans ?_ hpre
          rw [heq]
          exact ⟨placesF r d (decide (k = 1)), by simp⟩
        · refine ⟨true, rfl, ?_⟩
          have hBx3 := hc3.blk hBx2 n2x
          refine ⟨k, (blk4 hBx3).1, r.len, by simp, _, r, _, S3, e1, i1, rfl, chg_then hcw2 hc3 fun i hi hh => (hS2w i hh).1.elim id fun h => by omega, fun j hj => ⟨(hS3 j hj).1.elim (fun h => (hS2w j h).1) (fun h => .inr (by omega)), (hS3 j hj).2⟩, hj3, ?_⟩
          rw [heq]; simp
        · exact ⟨false, rfl, hstop S3 _ (chg_then hcw2 hc3 fun i hi hh => (hS2w i hh).1.elim id fun h => by omega) (fun j hj => ⟨(hS3 j hj).1.elim (fun h => (hS2w j h).1) (fun h => .inr (by omega)), (hS3 j hj).2⟩) hjx⟩
      · rw [if_neg (by omega)] at heq
        refine ⟨k, y0, r.len, by simp, _, r, _, S2, e1, i1, rfl, hcw2, hS2w, hj2, ?_⟩
        rw [heq]; simp
    · exact ⟨false, rfl, hstop S2 _ hcw2 hS2w hjx⟩
  · obtain ⟨rfl, rfl⟩ := Fo.last hpr (by omega)
    have e : xs' = pre ++ placesF p d false := by rw [heq]; simp [placesF]
    rw [e] at hjW
    exact hend S1 _ hcW hS1 hjW

theorem places_iterO {T : Nat → Prop} (f : Fo) (hs : small f) {a : Option Addr} {n c : Nat} (b : Nat) (w : World) (hTl : ∀ k, T k → k < w.heap.size) (hb : Blk w b [.slice a n c] 24) (hf : SlF T w a n f) (hbT : T b) :
    IterO Tryz.prog F_transcript_places_1 [.pointer (some ⟨b, 0, none⟩)] (placesF f 0 false) (PlE T w) T w := by
  intro yf ya yb S0 J Jx R hS hJ hJx hbody h0 hend hstop
  apply c_transcript_places_1
  refine al_intro fun ty w1 hty hBy e1 s1 => ?_
  refine al_intro fun tw w1' htw hBw' e2' s2' => ?_
  refine stL_one hBw' rfl fun w2 hBw hcc hss => ?_
  have e2 : Ext w1 w2 := ext_chgS e2' hcc fun k hk => by omega
  have E := ext_trans e1 e2
  refine ⟨.func 75, ⟨[]⟩, ⟨[.pointer (some ⟨ty, 0, none⟩), .pointer (some ⟨tw, 0, none⟩)]⟩, by rw [hBw.cell]; rfl, dr_ok ⟨a, n, c, by rw [((hb.ext e1).ext e2).cell]; rfl, by kernel_rfl, ?_⟩⟩
  have hz := E.size
  have hz1 := e1.size
  refine places_walkO (w0 := w) (xs := placesF f 0 false) hTl hJ hbody f (S := S0) 0 [] hs (by omega) hf hz (fun k hk => E.block k (hTl k hk)) (fun k hk => ⟨by have := (hS k hk).1; omega, (hS k hk).2⟩) (hBy.ext e2) hBw (fun h => by have := (hS _ h).1; omega) (fun h => by have := (hS _ h).1; omega) (List.prefix_refl _)
    (hJ _ _ _ _ h0 (Chg.of_ext E)) (fun S' W' hc hS' hj => ?_) (fun S' W' hc hS' hjx => ?_)
  · exact ⟨_, rfl, hend S' _ (Nat.le_trans hz hc.size) hj⟩
  · exact ⟨_, rfl, hstop S' _ (Nat.le_trans hz hc.size) hjx⟩

/- the characters -/
def charsP (l : List Pl) : List UInt8 := l.flatMap fun x => if x.k = 1 then x.t else []
def charsF : Fo → List UInt8
  | .nil => []
  | .cons k t _ ps r => (if k = 1 then t else []) ++ charsF ps ++ charsF r
theorem charsF_tlen : ∀ f : Fo, (charsF f).length ≤ tlen f
  | .nil => Nat.le_refl _
  | .cons k t n ps r => by
    have h1 := charsF_tlen ps
    have h2 := charsF_tlen r
    simp only [charsF, List.length_append, tlen]
    split <;> simp <;> omega
theorem charsP_snoc (l : List Pl) (x : Pl) : charsP (l ++ [x]) = charsP l ++ if x.k = 1 then x.t else [] := by simp [charsP]
theorem chars_places : ∀ (f : Fo) (d : Nat) (b : Bool), f.depth + d ≤ 16 → charsP (placesF f d b) = charsF f
  | .nil, _, _, _ => rfl
  | .cons k t n ps r, d, b, h => by
    rw [Fo.depth_parts] at h
    have i2 := chars_places r d (decide (k = 1)) (by omega)
    simp only [placesF, charsF]
    rw [if_pos (by omega)]
    unfold charsP at i2 ⊢
    simp only [List.flatMap_cons, List.flatMap_append, i2, List.append_assoc]
    congr 2
    by_cases hp : ps.len = 0
    · have e' := Fo.eq_nil_of_len hp
      subst e'
      rfl
    · rw [if_neg hp] at h
      exact chars_places ps (d + 1) false (by omega)
theorem blk6 {w : World} {b : Nat} {v0 v1 v2 v3 v4 v5 : Value} {T : TypeId} (h : Blk w b [v0, v1, v2, v3, v4, v5] T) :
    w.cell? ((⟨b, 0, none⟩ : Addr).add 0 |>.add 0) = some v0 ∧ w.cell? ((⟨b, 0, none⟩ : Addr).add 0 |>.add 1) = some v1 := by
  simp only [add_none, h.cell]; exact ⟨rfl, rfl⟩
theorem charsP_prefix {pre : List Pl} {x : Pl} {l : List Pl} (h : pre ++ [x] <+: l) : (charsP pre).length + (if x.k = 1 then x.t else []).length ≤ (charsP l).length := by
  obtain ⟨t, rfl⟩ := h
  simp only [charsP, List.flatMap_append, List.length_append, List.flatMap_cons, List.flatMap_nil, List.append_nil]
  omega

theorem String_spec' {R : Ending → World → Prop} {w : World} {b : Nat} {a : Option Addr} {l : List UInt8} (h : BldAt w b a l) (hk : ∀ w', Below b w w' → Lib.OthersKept 5 (some b) w w' → R (.returned (.string ⟨⟨l⟩⟩)) w') : Calls Tryz.prog F_strings_Builder_String ⟨[.pointer (some ⟨b, 0, none⟩)]⟩ w R := by
  refine (Tryz.Builder_String_any_k b b l w (Lib.IsBuilderF.of h.isB) (by have := h.lt; omega)).mono ?_
  rintro e w' ⟨rfl, _, hb, ho⟩
  exact hk w' hb ho
set_option maxRecDepth 20000 in
theorem Characters_spec {R : Ending → World → Prop} {S : Nat → Prop} {w : World} {a : Option Addr} {n c : Nat} (f : Fo) (hs : small f) (hF : Forms w) (hf0 : SlF S w a n f)
    (h : ∀ w', Ext w w' → R (.returned (.tuple ⟨[.string ⟨⟨if checkT f ≠ 0 then [] else charsF f⟩⟩, .int .i64 (if checkT f ≠ 0 then 1 else 0)]⟩)) w') :
    Calls Tryz.prog F_transcript_Characters ⟨[.slice a n c]⟩ w R := by
  apply c_transcript_Characters
  refine Check22_spec f hs hf0 hF fun w1 e1 => ⟨_, rfl, br_split (fun g => ?_) (fun g => ?_)⟩
  · rw [if_pos g, if_pos g] at h; exact h _ e1
  rw [if_neg g, if_neg g] at h
  have hc0 : checkT f = 0 := Decidable.not_not.1 g
  obtain ⟨q1, q2, q3⟩ := check_zero hc0
  have hdep : f.depth ≤ 16 := by
    unfold checkT at hc0
    split at hc0
    · rename_i hh; exact hh.2
    · cases hc0
  have hch := chars_places f 0 false (by omega)
  have hcl := charsF_tlen f
  refine al_intro fun b5 w2 hb5 B5 e2 s2 => ?_
  have E2 := ext_trans e1 e2
  have z1 := e1.size
  refine places_spec fun bs w4 Bs e4 hbs => ⟨_, _, _, rfl, fun base => ?_⟩
  have E4 := ext_trans E2 e4
  have z4 := E4.size
  have z24 := e4.size
  have ls := Bs.lt
  have hf : SlF (fun k => S k ∧ k < w.heap.size) w a n f := hf0.imp fun k hk hl => ⟨hk, hl⟩
  have hbld : BldAt w4 b5 none [] := ⟨.pointer none, 0, B5.ext e4, .inl rfl, Owns.nil _ _ _ _⟩
  rw [cd_transcript_Characters_1]
  refine RFw_lawO anA_transcript_Characters_1 anB_transcript_Characters_1 (gf := F_transcript_places_1) rfl (by kernel_rfl) (xs := placesF f 0 false) (E := PlE (fun k => (S k ∧ k < w.heap.size) ∨ k = bs) w4) (Rd := fun k => (S k ∧ k < w.heap.size) ∨ k = bs)
    (fun v1 he => (places_iterO f hs bs v1 (fun k hk => by have := he.size; omega) (Bs.ext he) ((hf.ext (ext_trans E4 he)).imp fun k hk _ => .inl hk) (.inr rfl)).mono ?_) (fun y vs hE => by obtain ⟨a', c', rfl, _⟩ := hE; rfl) (by decide) (fun k hk => by omega) (fun k => k = b5) (fun k hk => by omega)
    (fun pre S1 W => ∃ bo : Option Addr, BldAt W b5 bo (charsP pre) ∧ (∀ k, S1 k ↔ k = b5 ∨ bk bo k) ∧ Ext w W ∧ (∀ k, bk bo k → w4.heap.size ≤ k)) (fun _ _ => False) (fun _ _ => False)
    ?_ (fun _ _ _ h => h.elim) (fun _ _ _ h => h.elim) ⟨none, hbld, fun k => by simp [bk], E4, fun k hk => by simp [bk] at hk⟩ ?_ ?_ (fun _ _ _ _ _ _ _ h => h.elim) (fun _ _ _ _ _ _ _ h => h.elim)
  · rintro x vs ⟨a', c', rfl, hsl⟩
    exact ⟨a', c', rfl, hsl.keep' fun k hk hl => ⟨hk, by omega, ((he.block k (by omega))).symm⟩⟩
  · rintro pre S1 W W' ⟨bo, g1, g2, g3, g4⟩ hc
    exact ⟨bo, g1.chg hc (fun hh => hh.2 ((g2 _).2 (.inl rfl))) (fun k hk hh => hh.2 ((g2 k).2 (.inr hk))), g2, ext_chgS g3 hc (fun k hk => by omega), g4⟩
  · rintro pre ⟨k1, t1, m1, ps1, d1, x1⟩ vs S1 W l ⟨a', c', rfl, hsl⟩ hpre hl1 hl2 hl3 hS1 ⟨bo, g1, g2, g3, g4⟩
    refine Eq.mpr (er_transcript_Characters_1 base _ _ _ _ _ _ _ _ _ _ _ _ _ _ _ _ _ _ _) ?_
    refine al_stL (by simp) (by intro u hu; simp only [List.mem_cons, List.not_mem_nil, or_false] at hu; rcases hu with rfl | rfl | rfl | rfl | rfl | rfl <;> rfl) fun bx W1 hbx hBx ex sx => ?_
    refine ⟨ex, fun W2 hU => ?_⟩
    have zx := ex.size
    have zU := hU.size
    have hX2 := upd_blk hU hBx (by omega)
    obtain ⟨x0, x1'⟩ := blk6 hX2
    have hUc : Chg (fun k => k = l) W1 W2 := ⟨hU.os, hU.tape, hU.output, by omega, fun k _ hk => hU.block k hk⟩
    have hWc : Chg (fun k => k = l) W W2 := (Chg.of_ext ex).trans hUc
    have nl : ∀ k, S1 k → k ≠ l := fun k hk he => hl3 (he ▸ hk)
    have h1 := g1.chg hWc (nl _ ((g2 _).2 (.inl rfl))) (fun k hk => nl _ ((g2 k).2 (.inr hk)))
    have E2' : Ext w W2 := ext_chgS g3 hWc fun k hk => by omega
    have hlen := charsP_prefix hpre
    rw [hch] at hlen
    refine ⟨k1, x0, br_split (fun q => ?_) (fun q => ?_)⟩
    · replace hlen : (charsP pre).length + t1.length ≤ (charsF f).length := by simpa [show k1 = 1 from q] using hlen
      refine ⟨t1, x1', WriteString_spec h1 (by omega) fun a'' w'' hb'' hk'' hc'' => ⟨_, _, rfl, ?_⟩⟩
      have z'' := hc''.size
      have hSS : ∀ k, (k = b5 ∨ bk a'' k) → (S1 k ∨ W.heap.size ≤ k) ∧ k < w''.heap.size := fun k hk => by
        rcases hk with rfl | hk
        · exact ⟨.inl ((g2 _).2 (.inl rfl)), hb''.lt⟩
        · exact ⟨(hk'' k hk).elim (fun h => .inl ((g2 k).2 (.inr h))) (fun h => .inr (by omega)), (hb''.bk hk).2⟩
      refine ⟨hc''.mono fun k _ hk => .inl ((g2 k).2 hk), fun k => k = b5 ∨ bk a'' k, hSS, a'', ?_, fun k => Iff.rfl, ext_chgS E2' hc'' fun k hk => hk.elim (fun h => by omega) (fun h => by have := g4 k h; omega), fun k hk => (hk'' k hk).elim (g4 k) (fun h => by omega)⟩
      rw [charsP_snoc, if_pos q]; exact hb''
    · refine ⟨Chg.refl _ _, S1, fun k hk => ⟨.inl hk, by have := (hS1 k hk).1; omega⟩, bo, ?_, g2, E2', g4⟩
      rw [charsP_snoc, if_neg q, List.append_nil]; exact h1
  · rintro D S1 W hD1 hD2 hD3 hD4 ⟨bo, g1, g2, g3, g4⟩
    rw [hch] at g1
    have hDb : some D ≠ some b5 := fun e => by have e' := Option.some.inj e; omega
    refine String_spec' g1 fun w5 hbel hok => ⟨_, rfl, retD_one (D := D) (hok D _ hD4 hDb (fun _ _ e => by cases e)) ?_⟩
    have Ew : Ext w w5 := g3.trans (hbel.mono (by omega))
    exact h _ (ext_put Ew (by omega) _)
end Go.Proofs
namespace Go.Proofs
open Go Go.Sh Go.RowKit

theorem char_chars : ∀ g : Fo, charT g = charsF g
  | .nil => rfl
  | .cons k t n ps r => by rw [charT, charsF, char_chars ps, char_chars r]
/- parsing -/
def parseF (s : List UInt8) : Fo × Int :=
  if (scanF s).2 ≠ 0 then (.nil, (scanF s).2)
  else if nestX (scanF s).1 ≠ 0 then (.nil, nestX (scanF s).1)
  else if checkT (treeT ((scanF s).1.map tkX)) ≠ 0 then (.nil, checkT (treeT ((scanF s).1.map tkX)))
  else (treeT ((scanF s).1.map tkX), 0)
theorem check_inv {g : Fo} (h : checkT g = 0) : g.size ≤ 4096 ∧ g.depth ≤ 16 ∧ allF g false false = 0 ∧ (printF g).length ≤ 65536 := by
  unfold checkT at h
  split at h
  · rename_i h1
    split at h
    · rename_i h2; exact absurd h h2
    rename_i h2
    split at h
    · cases h
    · rename_i h3
      exact ⟨h1.1, h1.2, Classical.not_not.1 h2, by omega⟩
  · cases h
theorem parse_back {g : Fo} (h : checkT g = 0) : parseF (printF g) = (g, 0) := by
  obtain ⟨_, h2, h3, h4⟩ := check_inv h
  obtain ⟨_, b2, b3⟩ := back_print h3 h2 h4
  have ht : treeT ((posL (tksF g) 0).map tkX) = g := by rw [pos_tk]; exact tree_tks (valid_shape h3)
  unfold parseF
  rw [b3]
  show (if (0 : Int) ≠ 0 then _ else if nestX (posL (tksF g) 0) ≠ 0 then _ else if checkT (treeT ((posL (tksF g) 0).map tkX)) ≠ 0 then _ else _) = _
  rw [if_neg (fun hh => hh rfl), if_neg (fun hh => hh b2), ht, if_neg (fun hh => hh h)]
end Go.Proofs
