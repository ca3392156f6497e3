/- The contracts of the functions that the law reaches, one after the other, and at the end the law's card. -/
import Derived.Test.YtibinhnakljpmaaDoorLawD
import Derived.Lib.AppendZerosOnto
namespace Go.Proofs
open Go Go.Sh Go.RowKit

def brkB (s : List UInt8) (i : Nat) : Bool := match s[i - 1]?, s[i]? with
  | some a, some b => decide (0 < i) && (innB a && innB b)
  | _, _ => false
def pickP (s : List UInt8) (l : List (Nat × Nat)) : List Int := ((l.map (·.1)).filter (brkB s)).map fun (i : Nat) => (i : Int)
def brkZ (L : List Ps) (s : List UInt8) : List Int := (((List.range L.length).filter (isStart L)).filter (brkB s)).map fun (i : Nat) => (i : Int)
theorem pickP_rows (L : List Ps) (s : List UInt8) : pickP s (rowsF L) = brkZ L s := by rw [pickP, rowsF_starts]; rfl
theorem pickP_snoc (s : List UInt8) (l : List (Nat × Nat)) (x : Nat × Nat) : pickP s (l ++ [x]) = pickP s l ++ if brkB s x.1 then [(x.1 : Int)] else [] := by
  simp only [pickP, List.map_append, List.filter_append, List.map_cons, List.map_nil, List.filter_cons, List.filter_nil]
  split <;> rfl
theorem pickP_len (s : List UInt8) (l : List (Nat × Nat)) : (pickP s l).length ≤ l.length := by
  unfold pickP
  rw [List.length_map]
  exact Nat.le_trans (List.length_filter_le _ _) (by simp)
theorem rowsGo_len (L : List Ps) : ∀ (m i : Nat), (rowsGo L m i).length ≤ m
  | 0, _ => Nat.le_refl _
  | m + 1, i => by
    rw [rowsGo]
    split
    · have := rowsGo_len L m (runE L i); simp only [List.length_cons]; omega
    · simp
theorem rows_lt (L : List Ps) {x : Nat × Nat} (h : x ∈ rowsF L) : x.1 < L.length := by
  have : x.1 ∈ (rowsF L).map (·.1) := List.mem_map.2 ⟨x, h, rfl⟩
  rw [rowsF_starts, List.mem_filter, List.mem_range] at this
  exact this.1

theorem posL_lit : encP.enc (([] : List UInt8), (0 : Int)) = [.string ⟨⟨[]⟩⟩, .int .i64 0] := rfl
def brkR (f : Fo) : List Int := if patE f ≠ 0 then [] else brkZ (posL ([], 0) (nodesF f)) (patF f)
theorem patE_zero {f : Fo} (h : patE f = 0) : checkT f = 0 ∧ cleanF f = true ∧ (patF f).length ≤ 65536 ∧ patS f = patF f := by
  have h' := h
  unfold patE at h
  split at h
  · rename_i hh; exact absurd h hh
  · rename_i hh
    obtain ⟨a, b⟩ := errU_zero (Decidable.not_not.1 hh)
    split at h
    · cases h
    · exact ⟨a, b, by omega, by unfold patS; rw [if_neg (by simp [h'])]⟩

set_option maxRecDepth 20000 in
theorem Broken_spec {R : Ending → World → Prop} {S : Nat → Prop} {w : World} {a : Option Addr} {n c : Nat} (f : Fo) (hs : small f) (hF : Forms w) (hf0 : SlF S w a n f)
    (h : ∀ a' c' w', RowAt encI (fun k => w.heap.size ≤ k) w' a' (brkR f).length (brkR f) → Ext w w' → R (.returned (.tuple ⟨[.slice a' (brkR f).length c', .int .i64 (patE f)]⟩)) w') :
    Calls Tryd.prog F_layout_Broken ⟨[.slice a n c]⟩ w R := by
  apply c_layout_Broken
  refine Pattern_spec f hs hF hf0 fun w3 e3 => ⟨_, _, rfl, ?_⟩
  refine al_stL (by simp) (by intro u hu; simp only [List.mem_cons, List.not_mem_nil, or_false] at hu; rcases hu with rfl; rfl) fun b6 w8 hb6 B6 e8 s8 => ?_
  have E8 := ext_trans e3 e8
  refine br_split (fun g => ?_) (fun g => ?_)
  · unfold brkR at h
    rw [if_pos g] at h
    exact h none 0 _ (RowAt.nil _) E8
  have hp0 : patE f = 0 := Decidable.not_not.1 g
  obtain ⟨hc0, _, hpl, hpS⟩ := patE_zero hp0
  obtain ⟨q1, q2, q3⟩ := check_zero hc0
  rw [hpS] at B6
  unfold brkR at h
  rw [if_neg g, hp0] at h
  refine al_intro fun b9 w11' hb9 B9' e11' s11' => ?_
  refine stL_one B9' rfl fun w11 B9 hc11 s11 => ?_
  have e11 : Ext w8 w11 := ext_chgS e11' hc11 fun k hk => by omega
  refine al_intro fun b12 w13 hb12 B12 e13 s13 => ?_
  have E13 := ext_trans (ext_trans E8 e11) e13
  refine positions_spec ([], 0) f (by omega) q2 (by omega) (Int.le_refl _) (by decide) (hf0.ext E13) fun aL cL w15 hL e15 => ⟨_, _, _, rfl, ?_⟩
  refine rows_spec fun bs w18 Bs e18 hbs => ⟨_, _, _, rfl, fun base => ?_⟩
  have z8 := e8.size
  have z11 := e11.size
  have z13 := e13.size
  have z15 := e15.size
  have z18 := e18.size
  have E15 := ext_trans E13 e15
  have E18 := ext_trans E15 e18
  have zE := E18.size
  have zw := E8.size
  have hLL := posL_pat ([], 0) f
  generalize hLdef : posL ([], 0) (nodesF f) = L at *
  generalize hsdef : patF f = s at *
  have B12' := (B12.ext e15).ext e18
  have B9'' := ((B9.ext e13).ext e15).ext e18
  have B6' := (((B6.ext e11).ext e13).ext e15).ext e18
  have ls := Bs.lt
  have l12 := B12.lt
  have hL1 : RowAt encP (fun k => w13.heap.size ≤ k ∧ k < w15.heap.size) w15 aL L.length L := hL.imp fun k hk hl => ⟨hk, hl⟩
  rw [cd_layout_Broken_1]
  refine RFw_lawO anA_layout_Broken_1 anB_layout_Broken_1 (gf := F_layout_rows_1) rfl (by kernel_rfl) (xs := rowsF L) (E := RwE) (Rd := fun k => (w13.heap.size ≤ k ∧ k < w15.heap.size) ∨ k = bs)
    (fun v1 he => rows_iterO L (by omega) bs v1 (fun k hk => by have := he.size; omega) (Bs.ext he) ((hL1.ext (ext_trans e18 he)).imp fun k hk _ => .inl hk) (.inr rfl)) (fun y vs hE => by rw [hE]; rfl) (by decide) (fun k hk => by omega) (fun k => k = b12) (fun k hk => by omega)
    (fun pre S1 W => ∃ (oa : Option Addr) (on oc : Nat), Blk W b12 [.slice oa on oc] 38 ∧ OwnL encI W w18.heap.size 3 oa on oc (pickP s pre) ∧ (∀ k, S1 k ↔ k = b12 ∨ bk oa k) ∧ Ext w W ∧ Blk W b9 [.func (.func 40) #[] #[]] 42 ∧ Blk W b6 [.string ⟨⟨s⟩⟩] 9) (fun _ _ => False) (fun _ _ => False)
    ?_ (fun _ _ _ h => h.elim) (fun _ _ _ h => h.elim) ⟨none, 0, 0, B12', Owns.nil _ _ _ _, fun k => by simp [bk], E18, B9'', B6'⟩ ?_ ?_ (fun _ _ _ _ _ _ _ h => h.elim) (fun _ _ _ _ _ _ _ h => h.elim)
  · rintro pre S1 W W' ⟨oa, on, oc, g1, g2, g3, g4, g5, g6⟩ hc
    exact ⟨oa, on, oc, hc.blk g1 (fun hh => hh.2 ((g3 _).2 (.inl rfl))), Owns.chg g2 hc (fun k hk hh => hh.2 ((g3 k).2 (.inr hk))), g3, ext_chgS g4 hc (fun k hk => by omega), hc.blk g5 (fun hh => by omega), hc.blk g6 (fun hh => by omega)⟩
  · rintro pre ⟨i, i2⟩ vs S1 W l rfl hpre hl1 hl2 hl3 hS1 ⟨oa, on, oc, g1, g2, g3, g4, g5, g6⟩
    refine Eq.mpr (er_layout_Broken_1 base _ _ _ _ _ _ _ _ _ _ _ _ _ _ _ _ _) ?_
    refine ⟨Below.refl _ _, fun W2 hU => ?_⟩
    have zU := hU.size
    have hWc : Chg (fun k => k = l) W W2 := ⟨hU.os, hU.tape, hU.output, by omega, fun k _ hk => hU.block k hk⟩
    have nl : ∀ k, S1 k → k ≠ l := fun k hk he => hl3 (he ▸ hk)
    have h1 := hWc.blk g1 (nl _ ((g3 _).2 (.inl rfl)))
    have h2 : OwnL encI W2 w18.heap.size 3 oa on oc (pickP s pre) := Owns.chg g2 hWc (fun k hk => nl _ ((g3 k).2 (.inr hk)))
    have h5 := hWc.blk g5 (by omega)
    have h6 := hWc.blk g6 (by omega)
    have E2' : Ext w W2 := ext_chgS g4 hWc fun k hk => by omega
    have hil := rows_lt L (mem_of_prefix hpre)
    have hpl' : pre.length + 1 ≤ L.length := by
      have := hpre.length_le
      have := rowsGo_len L L.length 0
      unfold rowsF at *
      simp only [List.length_append, List.length_singleton] at *
      omega
    have hon := h2.length
    have hpk := pickP_len s pre
    intro K37 hK37
    have k37 : ∀ (v : Bool) (W4 : World), v = brkB s i → Ext W2 W4 → K37 v W4 := by
      rintro _ W4 rfl e4
      have z4 := e4.size
      refine hK37 _ _ fun _ => br_cases (fun gb => ?_) (fun gb => ?_)
      · have h14 := h1.ext e4
        have h24 := Owns.ext h2 e4
        refine dr_ok ⟨oa, on, oc, by rw [h14.cell]; rfl, ?_⟩
        refine OwnL.push slT_int h24 (by omega) (i : Int) (by omega) (by omega) fun a'' c'' W5 ho hc hn => ?_
        have z5 := hc.size
        have l12' := h14.lt
        have n12 : ¬ bk oa b12 := fun hh => by have := (Owns.bk g2 hh).1; omega
        have n12' : ∀ j, bk a'' j → j ≠ b12 := fun j hj e => by subst e; exact (hn _ hj).elim n12 (by omega)
        refine dr_ok (stL_one (hc.blk h14 n12) rfl fun W6 q1 q2 q3 => ?_)
        refine ⟨(Chg.of_ext e4).trans ((hc.mono fun k _ hk => .inl ((g3 k).2 (.inr hk))).trans (q2.mono fun k _ hk => .inl ((g3 k).2 (.inl hk)))), fun k => k = b12 ∨ bk a'' k, fun k hk => ?_, a'', on + 1, c'', q1, ?_, fun k => Iff.rfl, ?_, ?_, ?_⟩
        · have ho' := Owns.chg ho q2 fun j hj e => n12' j hj e
          refine hk.elim (fun e => ⟨.inl ((g3 k).2 (.inl e)), e ▸ q1.lt⟩) (fun e => ⟨(hn k e).elim (fun hh => .inl ((g3 k).2 (.inr hh))) (fun hh => .inr (by omega)), (Owns.bk ho' e).2⟩)
        · rw [pickP_snoc, if_pos gb]
          exact Owns.chg ho q2 fun j hj e => n12' j hj e
        · exact ext_chgS (ext_chgS (ext_trans E2' e4) hc fun k hk => by have := (Owns.bk g2 hk).1; omega) q2 fun k hk => by omega
        · exact q2.blk (hc.blk (h5.ext e4) (fun hh => by have := (Owns.bk g2 hh).1; omega)) (by omega)
        · exact q2.blk (hc.blk (h6.ext e4) (fun hh => by have := (Owns.bk g2 hh).1; omega)) (by omega)
      · refine ⟨Chg.of_ext e4, S1, fun k hk => ⟨.inl hk, by have := (hS1 k hk).1; omega⟩, oa, on, oc, h1.ext e4, ?_, g3, ext_trans E2' e4, h5.ext e4, h6.ext e4⟩
        rw [pickP_snoc, gb, if_neg (by simp), List.append_nil]
        exact Owns.ext h2 e4
    unfold drw
    have ed := ext_drew W2
    have h5d := h5.ext ed
    have h6d := h6.ext ed
    have fl : brkB s i = false → K37 false W2.drew := fun e => k37 _ _ e.symm ed
    refine br_split (fun q => ?_) (fun q => ⟨⟨fl ?_, trivial⟩, trivial⟩)
    · refine dr_ok ⟨s, by rw [h6d.cell]; rfl, br_split (fun q' => ?_) (fun q' => ⟨⟨fl ?_, trivial⟩, trivial⟩)⟩
      · have hi0 : 0 < i := by omega
        have his : i < s.length := by omega
        have hs1 : s[i - 1]? = some s[i - 1] := by simp
        have hs2 : s[i]? = some s[i] := by simp [his]
        have hbr : brkB s i = (innB s[i - 1] && innB s[i]) := by unfold brkB; rw [hs1, hs2]; simp [hi0]
        refine dr_ok ⟨.func 40, #[], #[], by rw [h5d.cell]; rfl, dr_ok ⟨s, by rw [h6d.cell]; rfl, ?_⟩⟩
        rw [show IntKind.i64.wrap ((i : Int) - 1) = ((i - 1 : Nat) : Int) by rw [wrap_id (by omega)]; omega]
        refine sidx_nat (by omega) ⟨⟨by kernel_rfl, inner_spec _ ⟨_, rfl, ?_⟩⟩, trivial⟩
        refine br_cases (fun b1 => ?_) (fun b1 => ?_)
        · refine dr_ok ⟨.func 40, #[], #[], by rw [h5d.cell]; rfl, dr_ok ⟨s, by rw [h6d.cell]; rfl, sidx_nat his ?_⟩⟩
          rw [b1, Bool.true_and] at hbr
          exact ⟨⟨by kernel_rfl, inner_spec _ ⟨_, rfl, k37 _ _ hbr.symm ed⟩⟩, trivial⟩
        · exact ⟨fl (by rw [hbr, b1]; rfl), trivial⟩
      · unfold brkB; rw [List.getElem?_eq_none (show s.length ≤ i by omega)]; split
        · rename_i h1 h2; cases h2
        · rfl
    · have : i = 0 := by omega
      subst this
      unfold brkB; split <;> rfl
  · rintro D S1 W hD1 hD2 hD3 hD4 ⟨oa, on, oc, g1, g2, g3, g4, g5, g6⟩
    rw [pickP_rows] at g2
    have hon := g2.length
    subst hon
    refine ⟨oa, _, oc, by rw [g1.cell]; rfl, retD_one hD4 ?_⟩
    have hDb : ¬ bk oa D := fun hh => hD3 ((g3 D).2 (.inr hh))
    have ho := Owns.chg g2 (Chg.put (S := fun k => k = D) W D (.deferred none) rfl) (fun k hk hh => hDb (hh ▸ hk))
    exact h oa oc _ ((OwnL.out ho).imp fun k hk _ => by have := (Owns.bk ho hk).1; omega) (ext_put g4 (by omega) _)
end Go.Proofs
namespace Go.Proofs
open Go Go.Sh Go.RowKit

theorem equalP_sh {R : Ending → World → Prop} {S S' : Nat → Prop} {w : World} {a b : Option Addr} {n c n' c' : Nat} {L M : List Ps} (h1 : RowAt encP S w a n L) (h2 : RowAt encP S' w b n' M) (hs : n ≤ 4611686018427387904)
    (h : ∀ w', Ext w w' → R (.returned (.bool (decide (L = M)))) w') : sh_ref13_SamePositions a n c b n' c' R w := by
  have e1 := h1.1
  have e2 := h2.1
  refine br_split (fun g => ?_) (fun g => ?_)
  · rw [show decide (L = M) = false by rw [decide_eq_false_iff_not]; rintro rfl; omega] at h
    exact h _ (Below.refl _ _)
  refine ⟨fun i W m => ∃ k : Nat, i = k ∧ k ≤ n ∧ m = n - k ∧ L.take k = M.take k ∧ Ext w W, ⟨_, 0, rfl, by omega, rfl, rfl, Below.refl _ _⟩, ?_⟩
  rintro _ W m ⟨k, rfl, hk, rfl, ht, he⟩ _
  refine br_split (fun hlt => ?_) (fun hge => ?_)
  · unfold drw
    have hd := ext_trans he (ext_drew W)
    have hkL : k < L.length := by omega
    have hkM : k < M.length := by omega
    have hx : L[k]? = some L[k] := by simp [hkL]
    have hy : M[k]? = some M[k] := by simp [hkM]
    obtain ⟨bb, o, hq, _, _, hc⟩ := (h1.ext hd).get hx
    obtain ⟨bb', o', hq', _, _, hc'⟩ := (h2.ext hd).get hy
    refine hq _ ⟨L[k].1, by rw [add_none]; exact hc 0 _ rfl, L[k].2, by rw [add_none]; exact hc 1 _ rfl, hq' _ ⟨M[k].1, by rw [add_none]; exact hc' 0 _ rfl, M[k].2, by rw [add_none]; exact hc' 1 _ rfl, ?_⟩⟩
    have hdec : (decide (L[k].1 = M[k].1) && (decide (L[k].2 = M[k].2) && true)) = decide (L[k] = M[k]) := by
      rw [Bool.and_true, ← Bool.decide_and, decide_eq_decide, Prod.ext_iff]
    rw [hdec]
    by_cases he' : L[k] = M[k]
    · rw [decide_eq_true he']
      refine ⟨n - (k + 1), by omega, k + 1, by rw [wrap_nat (by omega)], by omega, rfl, ?_, hd⟩
      rw [List.take_add_one, List.take_add_one, ht, hx, hy, he']
    · rw [decide_eq_false he']
      rw [show decide (L = M) = false by rw [decide_eq_false_iff_not]; rintro rfl; exact he' rfl] at h
      exact h _ hd
  · have : k = n := by omega
    subst this
    rw [List.take_of_length_le (by omega), List.take_of_length_le (by omega)] at ht
    rw [decide_eq_true ht] at h
    exact h _ he
theorem SamePositions_spec {R : Ending → World → Prop} {S S' : Nat → Prop} {w : World} {a b : Option Addr} {n c n' c' : Nat} {L M : List Ps} (h1 : RowAt encP S w a n L) (h2 : RowAt encP S' w b n' M) (hs : n ≤ 4611686018427387904)
    (h : ∀ w', Ext w w' → R (.returned (.bool (decide (L = M)))) w') : Calls Tryd.prog F_ref13_SamePositions ⟨[.slice a n c, .slice b n' c']⟩ w R :=
  c_ref13_SamePositions (equalP_sh h1 h2 hs h)
theorem EqualP_spec {R : Ending → World → Prop} {S S' : Nat → Prop} {w : World} {a b : Option Addr} {n c n' c' : Nat} {L M : List Ps} (h1 : RowAt encP S w a n L) (h2 : RowAt encP S' w b n' M) (hs : n ≤ 4611686018427387904)
    (h : ∀ w', Ext w w' → R (.returned (.bool (decide (L = M)))) w') : Calls Tryd.prog F_slices_Equal_of_api_Position_api_Position ⟨[.slice a n c, .slice b n' c']⟩ w R :=
  c_slices_Equal_of_api_Position_api_Position (show sh_ref13_SamePositions a n c b n' c' R w from equalP_sh h1 h2 hs h)

theorem EqualR_spec {R : Ending → World → Prop} {S S' : Nat → Prop} {w : World} {a b : Option Addr} {n c n' c' : Nat} {L M : List Int} (h1 : RowAt encI S w a n L) (h2 : RowAt encI S' w b n' M) (hs : n ≤ 4611686018427387904)
    (h : ∀ w', Ext w w' → R (.returned (.bool (decide (L = M)))) w') : Calls Tryd.prog F_slices_Equal_of_int_int ⟨[.slice a n c, .slice b n' c']⟩ w R := by
  apply c_slices_Equal_of_int_int
  have e1 := h1.1
  have e2 := h2.1
  refine br_split (fun g => ?_) (fun g => ?_)
  · rw [show decide (L = M) = false by rw [decide_eq_false_iff_not]; rintro rfl; omega] at h
    exact h _ (Below.refl _ _)
  refine ⟨fun i W m => ∃ k : Nat, i = k ∧ k ≤ n ∧ m = n - k ∧ L.take k = M.take k ∧ Ext w W, ⟨_, 0, rfl, by omega, rfl, rfl, Below.refl _ _⟩, ?_⟩
  rintro _ W m ⟨k, rfl, hk, rfl, ht, he⟩ _
  refine br_split (fun hlt => ?_) (fun hge => ?_)
  · unfold drw
    have hd := ext_trans he (ext_drew W)
    have hkL : k < L.length := by omega
    have hkM : k < M.length := by omega
    have hx : L[k]? = some L[k] := by simp [hkL]
    have hy : M[k]? = some M[k] := by simp [hkM]
    obtain ⟨bb, o, hq, _, _, hc⟩ := (h1.ext hd).get hx
    obtain ⟨bb', o', hq', _, _, hc'⟩ := (h2.ext hd).get hy
    refine hq _ ⟨L[k], hc 0 _ rfl, hq' _ ⟨M[k], hc' 0 _ rfl, br_split (fun g1 => ?_) (fun g1 => ?_)⟩⟩
    · rw [show decide (L = M) = false by rw [decide_eq_false_iff_not]; rintro rfl; exact g1 rfl] at h
      exact h _ hd
    · refine ⟨n - (k + 1), by omega, k + 1, by rw [wrap_nat (by omega)], by omega, rfl, ?_, hd⟩
      rw [List.take_add_one, List.take_add_one, ht, hx, hy, Decidable.not_not.1 g1]
  · have : k = n := by omega
    subst this
    rw [List.take_of_length_le (by omega), List.take_of_length_le (by omega)] at ht
    rw [decide_eq_true ht] at h
    exact h _ he

/- Positions -/
def posE (p : Ps) (f : Fo) : Int := if patE f ≠ 0 then patE f else if p.1 ≠ [] ∧ isNameF p.1 = false then 14 else if p.2 < 0 ∨ 4096 < p.2 then 2 else 0
def posR (p : Ps) (f : Fo) : List Ps := if posE p f ≠ 0 then [] else posL p (nodesF f)
theorem posE_zero {p : Ps} {f : Fo} (h : posE p f = 0) : patE f = 0 ∧ (p.1 = [] ∨ isNameF p.1 = true) ∧ 0 ≤ p.2 ∧ p.2 ≤ 4096 := by
  unfold posE at h
  split at h
  · rename_i hh; exact absurd h hh
  · split at h
    · cases h
    · split at h
      · cases h
      · rename_i h1 h2 h3
        refine ⟨Decidable.not_not.1 h1, ?_, by omega, by omega⟩
        by_cases hp : p.1 = []
        · exact .inl hp
        · right
          cases hn : isNameF p.1 with
          | true => rfl
          | false => exact absurd ⟨hp, hn⟩ h2
set_option maxRecDepth 20000 in
theorem Positions_spec {R : Ending → World → Prop} {S : Nat → Prop} {w : World} {a : Option Addr} {n c : Nat} (p : Ps) (f : Fo) (hs : small f) (hF : Forms w) (hf0 : SlF S w a n f)
    (h : ∀ a' c' w', RowAt encP (fun k => w.heap.size ≤ k) w' a' (posR p f).length (posR p f) → Ext w w' → R (.returned (.tuple ⟨[.slice a' (posR p f).length c', .int .i64 (posE p f)]⟩)) w') :
    Calls Tryd.prog F_layout_Positions ⟨[.agg ⟨[.string ⟨⟨p.1⟩⟩, .int .i64 p.2]⟩, .slice a n c]⟩ w R := by
  apply c_layout_Positions
  refine al_intro fun b4 w5 hb4 B4 e5 s5 => ?_
  have er : ∀ e w', posE p f = e → e ≠ 0 → Ext w w' → R (.returned (.tuple ⟨[.slice none 0 0, .int .i64 e]⟩)) w' := by
    intro e w' he h0 hx
    have hr : posR p f = [] := by unfold posR; rw [if_pos (by rw [he]; exact h0)]
    rw [hr, he] at h
    exact h none 0 w' (RowAt.nil _) hx
  refine Pattern_spec f hs (hF.ext e5) (hf0.ext e5) fun w7 e7 => ⟨_, _, rfl, ?_⟩
  have E7 := ext_trans e5 e7
  refine br_split (fun g => er _ _ (by unfold posE; rw [if_pos g]) g E7) (fun g => ?_)
  have hp0 : patE f = 0 := Decidable.not_not.1 g
  obtain ⟨hc0, _, hpl, hpS⟩ := patE_zero hp0
  obtain ⟨q1, q2, q3⟩ := check_zero hc0
  intro K10 hK10
  have k10 : ∀ w11, Ext w7 w11 → ¬ (p.1 ≠ [] ∧ isNameF p.1 = false) → K10 w11 := by
    intro w11 e11 hno
    refine hK10 _ fun _ => ?_
    have E11 := ext_trans E7 e11
    obtain ⟨y0, y1⟩ := blk2 ((B4.ext e7).ext e11)
    intro K12 hK12
    have k12 : posE p f = 0 → K12 w11 := by
      intro hz
      obtain ⟨_, _, z1, z2⟩ := posE_zero hz
      have hr : posR p f = posL p (nodesF f) := by unfold posR; rw [if_neg (by simp [hz])]
      rw [hr, hz] at h
      refine hK12 _ fun _ => ⟨p.1, y0, p.2, y1, ?_⟩
      refine positions_spec p f (by omega) q2 (by omega) z1 (by omega) (hf0.ext E11) fun a' c' w' hrow e' => ⟨_, _, _, rfl, ?_⟩
      exact h a' c' w' (hrow.imp fun k hk _ => by have := E11.size; omega) (ext_trans E11 e')
    have pe : posE p f = if p.2 < 0 ∨ 4096 < p.2 then 2 else 0 := by unfold posE; rw [if_neg (by simp [hp0]), if_neg hno]
    refine ⟨p.2, y1, br_split (fun g1 => er _ _ (by rw [pe, if_pos (.inl g1)]) (by decide) E11) (fun g1 => ⟨p.2, y1, br_split (fun g2 => er _ _ (by rw [pe, if_pos (.inr g2)]) (by decide) E11) (fun g2 => k12 (by rw [pe, if_neg (by omega)]))⟩)⟩
  obtain ⟨y0, y1⟩ := blk2 (B4.ext e7)
  refine ⟨p.1, y0, br_split (fun g1 => ⟨p.1, y0, IsName_spec _ ⟨_, rfl, ?_⟩⟩) (fun g1 => k10 _ (Below.refl _ _) fun hh => g1 hh.1)⟩
  refine br_cases (fun g2 => ?_) (fun g2 => ?_)
  · have g2' : isNameF p.1 = false := by simpa using g2
    exact er _ _ (by unfold posE; rw [if_neg (by simp [hp0]), if_pos ⟨g1, g2'⟩]) (by decide) E7
  · have g2' : isNameF p.1 = true := by simpa using g2
    exact k10 _ (Below.refl _ _) fun hh => by rw [g2'] at hh; exact absurd hh.2 (by decide)

set_option maxRecDepth 20000 in
theorem Positions13_spec {R : Ending → World → Prop} {S : Nat → Prop} {w : World} {a : Option Addr} {n c : Nat} (p : Ps) (f : Fo) (hf0 : SlF S w a n f)
    (h : ∀ a' c' w', RowAt encP (fun k => w.heap.size ≤ k) w' a' (posR p f).length (posR p f) → Ext w w' → R (.returned (.tuple ⟨[.slice a' (posR p f).length c', .int .i64 (posE p f)]⟩)) w') :
    Calls Tryd.prog F_ref13_Positions ⟨[.agg ⟨[.string ⟨⟨p.1⟩⟩, .int .i64 p.2]⟩, .slice a n c]⟩ w R := by
  apply c_ref13_Positions
  refine al_intro fun b4 w5 hb4 B4 e5 s5 => ?_
  have er : ∀ e w', posE p f = e → e ≠ 0 → Ext w w' → al w' 23 [] fun pp w'' => R (.returned (.tuple ⟨[.slice (some pp) 0 0, .int .i64 e]⟩)) w'' := by
    intro e w' he h0 hx
    have hr : posR p f = [] := by unfold posR; rw [if_pos (by rw [he]; exact h0)]
    rw [hr, he] at h
    refine al_intro fun b w'' hb hB e2 s2 => ?_
    exact h _ 0 w'' (RowAt.nil _) (ext_trans hx e2)
  refine Pattern12_spec f (hf0.ext e5) fun w7 e7 => ⟨_, _, rfl, ?_⟩
  have E7 := ext_trans e5 e7
  refine br_split (fun g => er _ _ (by unfold posE; rw [if_pos g]) g E7) (fun g => ?_)
  have hp0 : patE f = 0 := Decidable.not_not.1 g
  obtain ⟨hc0, _, hpl, hpS⟩ := patE_zero hp0
  obtain ⟨q1, q2, q3⟩ := check_zero hc0
  intro K10 hK10
  have k10 : ∀ w11, Ext w7 w11 → ¬ (p.1 ≠ [] ∧ isNameF p.1 = false) → K10 w11 := by
    intro w11 e11 hno
    refine hK10 _ fun _ => ?_
    have E11 := ext_trans E7 e11
    obtain ⟨y0, y1⟩ := blk2 ((B4.ext e7).ext e11)
    intro K12 hK12
    have k12 : posE p f = 0 → K12 w11 := by
      intro hz
      obtain ⟨_, _, z1, z2⟩ := posE_zero hz
      have hr : posR p f = posL p (nodesF f) := by unfold posR; rw [if_neg (by simp [hz])]
      rw [hr, hz] at h
      refine hK12 _ fun _ => ⟨p.1, y0, p.2, y1, ?_⟩
      refine walk13_spec f p (by omega) q2 (by omega) z1 (by omega) (hf0.ext E11) fun a' c' w' hrow e' => ⟨_, _, _, _, _, rfl, ?_⟩
      refine al_stL (by simp) (by intro u hu; simp only [List.mem_cons, List.not_mem_nil, or_false] at hu; rcases hu with rfl | rfl <;> rfl) fun b23 w25 hb23 B23 e25 s25 => ?_
      exact h a' c' w25 ((hrow.ext e25).imp fun k hk _ => by have := E11.size; omega) (ext_trans (ext_trans E11 e') e25)
    have pe : posE p f = if p.2 < 0 ∨ 4096 < p.2 then 2 else 0 := by unfold posE; rw [if_neg (by simp [hp0]), if_neg hno]
    refine ⟨p.2, y1, br_split (fun g1 => er _ _ (by rw [pe, if_pos (.inl g1)]) (by decide) E11) (fun g1 => ⟨p.2, y1, br_split (fun g2 => er _ _ (by rw [pe, if_pos (.inr g2)]) (by decide) E11) (fun g2 => k12 (by rw [pe, if_neg (by omega)]))⟩)⟩
  obtain ⟨y0, y1⟩ := blk2 (B4.ext e7)
  refine ⟨p.1, y0, br_split (fun g1 => ⟨p.1, y0, IsName_spec' _ fun w35 e35 => ⟨_, rfl, ?_⟩⟩) (fun g1 => k10 _ (Below.refl _ _) fun hh => g1 hh.1)⟩
  refine br_cases (fun g2 => ?_) (fun g2 => ?_)
  · have g2' : isNameF p.1 = false := by simpa using g2
    exact er _ _ (by unfold posE; rw [if_neg (by simp [hp0]), if_pos ⟨g1, g2'⟩]) (by decide) (ext_trans E7 e35)
  · have g2' : isNameF p.1 = true := by simpa using g2
    exact k10 _ e35 fun hh => by rw [g2'] at hh; exact absurd hh.2 (by decide)

/- the example of the chapter -/
def fW : Fo := .cons 3 [49, 114] 0 .nil (.cons 2 [] 0 .nil (.cons 1 [100, 101] 0 .nil (.cons 2 [] 0 .nil (.one 1 [117, 115] 0 .nil))))
theorem awakeL1 : posE ([], 0) fW = 0 ∧ patE fW = 0 ∧ posR ([], 0) fW = [([49, 114], 1), ([49, 114], 1), ([49, 114], 2), ([49, 114], 2)] ∧ brkR fW = [2] := by decide +kernel
set_option maxRecDepth 20000 in
theorem awake13_spec {R : Ending → World → Prop} {w : World} (hF : Forms w) (h : ∀ w', Ext w w' → R (.returned (.bool true)) w') : Calls Tryd.prog F_law13_awake ⟨[]⟩ w R := by
  obtain ⟨q1, q2, q3, q4⟩ := awakeL1
  apply c_law13_awake
  refine al_intro fun b1 w2 hb1 B1 e2 s2 => ?_
  have f1 : SlF (fun _ => True) w2 (some ⟨b1, 0, none⟩) 5 fW :=
    ⟨rfl, _, at_blk B1, none, 0, [], _, rfl, .inl rfl, rfl, none, 0, [], _, rfl, .inl rfl, rfl, none, 0, [], _, rfl, .inl rfl, rfl, none, 0, [], _, rfl, .inl rfl, rfl, none, 0, [], [], rfl, .inl rfl, rfl, rfl⟩
  refine Positions_spec ([], 0) fW (by decide) (hF.ext e2) f1 fun a4 c4 w4 hr4 e4 => ⟨_, _, _, _, rfl, ?_⟩
  have E4 := ext_trans e2 e4
  refine Broken_spec fW (by decide) (hF.ext E4) (f1.ext e4) fun a8 c8 w8 hr8 e8 => ⟨_, _, _, _, rfl, ?_⟩
  have E8 := ext_trans E4 e8
  refine al_intro fun b11 w12 hb11 B11 e12 s12 => ?_
  refine al_intro fun b13 w14 hb13 B13 e14 s14 => ?_
  have z12 := e12.size
  refine stL_blk (B11.ext e14) (by simp) (by intro u hu; simp only [List.mem_cons, List.not_mem_nil, or_false] at hu; rcases hu with rfl | rfl <;> rfl) fun w15 r1 r2 r3 r4 r5 r6 => ?_
  have hc15 : Chg (fun k => k = b11) w14 w15 := ⟨r4, r5, r6, by omega, fun k _ hk => r2 k hk⟩
  refine stL_blk (hc15.blk B13 (by omega)) (by simp) (by intro u hu; simp only [List.mem_cons, List.not_mem_nil, or_false] at hu; rcases hu with rfl | rfl <;> rfl) fun w16 t1 t2 t3 t4 t5 t6 => ?_
  have hc16 : Chg (fun k => k = b13) w15 w16 := ⟨t4, t5, t6, by omega, fun k _ hk => t2 k hk⟩
  have e814 := ext_trans e12 e14
  have e816 : Ext w8 w16 := ext_chgS (ext_chgS e814 hc15 fun k hk => by omega) hc16 fun k hk => by omega
  have E16 := ext_trans E8 e816
  have r1' : Blk w16 b11 [.string ⟨⟨[49, 114]⟩⟩, .int .i64 1] 23 := hc16.blk (show Blk w15 b11 [.string ⟨⟨[49, 114]⟩⟩, .int .i64 1] 23 from r1) (by omega)
  have t1' : Blk w16 b13 [.string ⟨⟨[49, 114]⟩⟩, .int .i64 2] 23 := t1
  obtain ⟨u0, u1⟩ := blk2 r1'
  obtain ⟨v0, v1⟩ := blk2 t1'
  rw [q1, q2]
  simp only [ne_eq, decide_true, br_t]
  refine ⟨_, u0, _, u1, _, u0, _, u1, _, v0, _, v1, _, v0, _, v1, ?_⟩
  refine al_intro fun b25 w26 hb25 B25 e26 s26 => ?_
  have hM : RowAt encP (fun _ => True) w26 (some ⟨b25, 0, none⟩) 4 [([49, 114], 1), ([49, 114], 1), ([49, 114], 2), ([49, 114], 2)] := ⟨rfl, at_blk B25⟩
  rw [q3] at hr4
  refine EqualP_spec (((hr4.ext e8).ext e816).ext e26) hM (by decide) fun w28 e28 => ⟨_, rfl, ?_⟩
  rw [decide_eq_true rfl]
  simp only [br_t]
  refine al_intro fun b30 w31 hb30 B30 e31 s31 => ?_
  have hN : RowAt encI (fun _ => True) w31 (some ⟨b30, 0, none⟩) 1 [2] := ⟨rfl, at_blk B30⟩
  rw [q4] at hr8
  refine EqualR_spec ((((hr8.ext e816).ext e26).ext e28).ext e31) hN (by decide) fun w33 e33 => ⟨_, rfl, ?_⟩
  rw [decide_eq_true rfl]
  exact h _ (ext_trans (ext_trans (ext_trans (ext_trans E16 e26) e28) e31) e33)

/- LAW -/
set_option maxRecDepth 20000 in
theorem LayoutPositions_spec {R : Ending → World → Prop} {S : Nat → Prop} {w : World} {a : Option Addr} {n c : Nat} (p : Ps) (f : Fo) (hF : Forms w) (hf0 : SlF S w a n f)
    (h : ∀ w', Ext w w' → R (.returned (.bool true)) w') : Calls Tryd.prog F_law13_LayoutPositions ⟨[.agg ⟨[.string ⟨⟨p.1⟩⟩, .int .i64 p.2]⟩, .slice a n c]⟩ w R := by
  apply c_law13_LayoutPositions
  refine al_intro fun b4 w5 hb4 B4 e5 s5 => ?_
  refine Great_spec (hf0.ext e5) fun w7 e7 => ⟨_, rfl, ?_⟩
  have E7 := ext_trans e5 e7
  refine br_cases (fun _ => awake13_spec (hF.ext E7) fun w10 e10 => ⟨_, rfl, h _ (ext_trans E7 e10)⟩) (fun hgr => ?_)
  have hs := great10_small hgr
  obtain ⟨y0, y1⟩ := blk2 (B4.ext e7)
  refine ⟨p.1, y0, p.2, y1, ?_⟩
  refine Positions_spec p f hs (hF.ext E7) (hf0.ext E7) fun a1 c1 w15 hr1 e15 => ⟨_, _, _, _, rfl, ?_⟩
  obtain ⟨z0, z1⟩ := blk2 ((B4.ext e7).ext e15)
  have E15 := ext_trans E7 e15
  refine ⟨p.1, z0, p.2, z1, ?_⟩
  refine Positions13_spec p f (hf0.ext E15) fun a2 c2 w21 hr2 e21 => ⟨_, _, _, _, rfl, ?_⟩
  have E21 := ext_trans E15 e21
  have hlen : (posR p f).length ≤ 4611686018427387904 := by
    unfold posR
    split
    · simp
    · rename_i hh
      obtain ⟨hp, _⟩ := posE_zero (Decidable.not_not.1 hh)
      obtain ⟨_, _, hl, _⟩ := patE_zero hp
      rw [posL_pat]; omega
  refine SamePositions_spec (hr1.ext e21) hr2 hlen fun w25 e25 => ⟨_, rfl, ?_⟩
  rw [decide_eq_true rfl]
  simp only [br_t, decide_true]
  have E25 := ext_trans E21 e25
  exact awake13_spec (hF.ext E25) fun w28 e28 => ⟨_, rfl, h _ (ext_trans E25 e28)⟩
end Go.Proofs
namespace Go.Proofs
open Go Go.Sh Go.RowKit

def fin13 (f : Fo) : Bool := !great10 f && decide (patE f = 0)
theorem fin13_true {f : Fo} (h : fin13 f = true) : great10 f = false ∧ patE f = 0 := by
  unfold fin13 at h; simpa using h
theorem fine13_spec {R : Ending → World → Prop} {S : Nat → Prop} {w : World} {a : Option Addr} {n c : Nat} (f : Fo) (hF : Forms w) (hf0 : SlF S w a n f)
    (h : ∀ w', Ext w w' → R (.returned (.tuple ⟨[.string ⟨⟨if fin13 f then patF f else []⟩⟩, .bool (fin13 f)]⟩)) w') : Calls Tryd.prog F_law13_fine ⟨[.slice a n c]⟩ w R := by
  apply c_law13_fine
  refine Great_spec hf0 fun w3 e3 => ⟨_, rfl, br_cases (fun g => ?_) (fun g => ?_)⟩
  · rw [show fin13 f = false by unfold fin13; rw [g]; rfl] at h
    exact h _ e3
  have hs := great10_small g
  refine Pattern12_spec f (hf0.ext e3) fun w6 e6 => ⟨_, _, rfl, br_split (fun g1 => ?_) (fun g1 => ?_)⟩
  · rw [show fin13 f = false by unfold fin13; rw [g, decide_eq_false g1]; rfl] at h
    exact h _ (ext_trans e3 e6)
  have E := ext_trans e3 e6
  have g2 := Decidable.not_not.1 g1
  refine Pattern_spec f hs (hF.ext E) (hf0.ext E) fun w10 e10 => ⟨_, _, rfl, ?_⟩
  rw [show fin13 f = true by unfold fin13; rw [g, decide_eq_true g2]; rfl, if_pos rfl] at h
  rw [decide_eq_true g2, (patE_zero g2).2.2.2]
  exact h _ (ext_trans E e10)

/- whether a node of one of two kinds stands in a list -/
def hasN (a b : Int) (x : Nn) : Bool := decide (x.k = a) || decide (x.k = b)
def hasF (f : Fo) (a b : Int) : Bool := (nodesF f).any (hasN a b)
theorem hasF_cons (k t n) (ps r : Fo) (a b : Int) : hasF (.cons k t n ps r) a b = (hasN a b ⟨k, t, n, ps⟩ || (hasF ps a b || hasF r a b)) := by
  simp [hasF, nodesF, List.any_append]
theorem has_spec {S : Nat → Prop} (ka kb : Int) : ∀ (f : Fo) {R : Ending → World → Prop} {w : World} {a : Option Addr} {n c : Nat} (hs : small f) (hf : SlF S w a n f)
    (h : ∀ w', Ext w w' → R (.returned (.bool (hasF f ka kb))) w'), Calls Tryd.prog F_law13_has ⟨[.slice a n c, .int .i64 ka, .int .i64 kb]⟩ w R := by
  intro f
  induction hz : f.size using Nat.strongRecOn generalizing f with
  | _ z ih =>
  intro R w a n c hs hf h
  unfold small at hs
  apply c_law13_has
  refine al_intro fun b4 w5 hb4 B4 e5 s5 => ?_
  refine al_intro fun b6 w7 hb6 B6 e7 s7 => ?_
  have E7 := ext_trans e5 e7
  have hfl := f.len_le_size
  have hn := hf.1
  apply c_slices_ContainsFunc_of_api_Node_api_Node
  have key : ∀ {R' : Ending → World → Prop}, (∀ (i : Int) w', (0 ≤ i ↔ hasF f ka kb = true) → Ext w7 w' → R' (.returned (.int .i64 i)) w') →
      Calls Tryd.prog F_slices_IndexFunc_of_api_Node_api_Node ⟨[.slice a n c, .func (.func 39) ⟨[]⟩ ⟨[.pointer (some ⟨b4, 0, none⟩), .pointer (some ⟨b6, 0, none⟩)]⟩]⟩ w7 R' := by
    intro R' hR
    apply c_slices_IndexFunc_of_api_Node_api_Node
    refine ⟨fun i W m => ∃ (pre r : Fo), f = pre.app r ∧ i = pre.len ∧ m = r.len ∧ Ext w7 W ∧ hasF f ka kb = hasF r ka kb, ⟨_, .nil, f, rfl, rfl, rfl, Below.refl _ _, rfl⟩, ?_⟩
    rintro _ W m ⟨pre, r, hpr, rfl, rfl, he, heq⟩ _
    refine br_split (fun hlt => ?_) (fun hge => ?_)
    · obtain ⟨kd, t, mm, ps, r, rfl⟩ := Fo.next hpr (by omega)
      have hsl := Fo.sub_len hpr
      have hsz := Fo.sub_size hpr
      obtain ⟨q, a', c', hq, hSq, hql, hN⟩ := (hf.ext (ext_trans E7 he)).get hpr
      rw [hasF_cons] at heq
      refine hq _ ⟨kd, hN.kind, t, hN.text, mm, hN.num, a', ps.len, c', hN.parts, by kernel_rfl, ?_⟩
      apply c_law13_has_1
      refine al_intro fun b7 w8 hb7 B7 e8 s8 => ?_
      have E8 := ext_trans he e8
      have B4' := (B4.ext e7).ext E8
      have B6' := B6.ext E8
      obtain ⟨x0, x1, x2, x3⟩ := blk4 B7
      have tr : (kd = ka ∨ kd = kb) → ∃ x : Bool, (Ending.returned (.bool true) = .returned (.bool x)) ∧ br x (R' (.returned (.int .i64 (pre.len : Int))) w8) (∃ m' : Nat, m' < (Fo.cons kd t mm ps r).len ∧ ∃ (pr1 r1 : Fo), f = pr1.app r1 ∧ IntKind.i64.wrap ((pre.len : Int) + 1) = pr1.len ∧ m' = r1.len ∧ Ext w7 w8 ∧ hasF f ka kb = hasF r1 ka kb) := by
        intro hh
        refine ⟨true, rfl, ?_⟩
        refine hR _ _ ⟨fun _ => ?_, fun _ => by omega⟩ E8
        rw [heq]; unfold hasN; rcases hh with e | e <;> simp [e]
      refine ⟨kd, x0, dr_ok ⟨ka, by rw [B4'.cell]; rfl, br_split (fun g => tr (.inl g)) (fun g => ⟨kd, x0, dr_ok ⟨kb, by rw [B6'.cell]; rfl, br_split (fun g' => tr (.inr g')) (fun g' => ?_)⟩⟩)⟩⟩
      refine ⟨a', ps.len, c', x3, dr_ok ⟨ka, by rw [B4'.cell]; rfl, dr_ok ⟨kb, by rw [B6'.cell]; rfl, ?_⟩⟩⟩
      rw [show hasN ka kb ⟨kd, t, mm, ps⟩ = false by simp [hasN, g, g'], Bool.false_or] at heq
      refine ih _ (hz ▸ hsz) ps rfl (by unfold small; omega) (hN.sl.ext e8) fun w21 e21 => ⟨_, rfl, _, rfl, br_cases (fun g2 => ?_) (fun g2 => ?_)⟩
      · refine hR _ _ ⟨fun _ => by rw [heq, g2]; rfl, fun _ => by omega⟩ (ext_trans E8 e21)
      · exact ⟨r.len, by simp, pre.app (.one kd t mm ps), r, by rw [Fo.app_one_app]; exact hpr, by rw [wrap_nat (by omega)]; simp [Fo.one], rfl, ext_trans E8 e21, by rw [heq, g2]; rfl⟩
    · obtain ⟨rfl, rfl⟩ := Fo.last hpr (by omega)
      exact hR _ _ ⟨fun hh => by omega, fun hh => by rw [heq] at hh; simp [hasF, nodesF] at hh⟩ he
  refine key fun i w' hi he => ⟨_, rfl, _, rfl, ?_⟩
  have : decide ((0 : Int) ≤ i) = hasF f ka kb := by rw [Bool.eq_iff_iff]; simpa using hi
  rw [this]; exact h _ (ext_trans E7 he)

/- without pages and lines all stands at one place -/
theorem posL_plain : ∀ (l : List Nn) (p : Ps), l.any (hasN 3 2) = false → (∀ x ∈ posL p l, x = p)
  | [], p, _ => by simp [posL]
  | x :: l, p, h => by
    rw [List.any_cons, Bool.or_eq_false_iff] at h
    have hx : ¬ x.k = 3 ∧ ¬ x.k = 2 := by simpa [hasN] using h.1
    have hp : (posN p x).1 = p := by
      unfold posN
      split
      · rfl
      · split
        · rfl
        · rw [if_neg hx.1, if_neg hx.2]
    intro y hy
    rw [posL, hp, List.mem_append] at hy
    rcases hy with hy | hy
    · exact (List.mem_replicate.1 hy).2
    · exact posL_plain l p h.2 y hy
theorem brkZ_plain {L : List Ps} {p : Ps} {s : List UInt8} (h : ∀ x ∈ L, x = p) : brkZ L s = [] := by
  unfold brkZ
  rw [List.map_eq_nil_iff, List.filter_eq_nil_iff]
  intro i hi
  rw [List.mem_filter, List.mem_range] at hi
  obtain ⟨hi, hs⟩ := hi
  have : i = 0 := by
    apply Classical.byContradiction
    intro h0
    unfold isStart at hs
    rw [decide_eq_true_eq] at hs
    refine hs.elim h0 fun hh => hh ?_
    have e1 : L[i]? = some L[i] := by simp [hi]
    have e2 : L[i - 1]? = some L[i - 1] := by rw [List.getElem?_eq_getElem (by omega)]
    rw [e1, e2, h _ (List.getElem_mem hi), h _ (List.getElem_mem (by omega))]
  subst this
  unfold brkB; split <;> simp
def brkTo (L : List Ps) (s : List UInt8) (k : Nat) : List Int := (((List.range k).filter (isStart L)).filter (brkB s)).map fun (i : Nat) => (i : Int)
theorem brkTo_succ (L : List Ps) (s : List UInt8) (k : Nat) : brkTo L s (k + 1) = brkTo L s k ++ if isStart L k && brkB s k then [(k : Int)] else [] := by
  unfold brkTo
  rw [List.range_succ, List.filter_append, List.filter_append, List.map_append]
  congr 1
  simp only [List.filter_cons, List.filter_nil]
  cases isStart L k <;> cases h2 : brkB s k <;> simp [h2]
theorem brkTo_one (L : List Ps) (s : List UInt8) : brkTo L s 1 = [] := by
  rw [brkTo_succ]
  have : brkB s 0 = false := by unfold brkB; split <;> simp
  simp [brkTo, this]
theorem brkTo_len (L : List Ps) (s : List UInt8) (k : Nat) : (brkTo L s k).length ≤ k := by
  unfold brkTo
  rw [List.length_map]
  have h1 := List.length_filter_le (brkB s) ((List.range k).filter (isStart L))
  have h2 := List.length_filter_le (isStart L) (List.range k)
  rw [List.length_range] at h2
  omega

theorem innerL_spec {R : Ending → World → Prop} {w : World} (b : UInt8) (h : R (.returned (.bool (innB b))) w) : Calls Tryd.prog F_law13_LayoutBroken_1 ⟨[.int .u8 (b.toNat : Int)]⟩ w R := by
  apply c_law13_LayoutBroken_1
  have h95 : ((b.toNat : Int) = 95) ↔ b = 95 := by
    constructor
    · intro h; apply UInt8.toNat_inj.1; show b.toNat = 95; omega
    · rintro rfl; rfl
  have tr : (kd b = 1 ∨ kd b = 2 ∨ kd b = 3 ∨ kd b = 4 ∨ b = 95) → R (.returned (.bool true)) w := fun hh => by
    rw [show innB b = true by unfold innB; rw [decide_eq_true_eq]; exact hh] at h; exact h
  refine Kind_spec' b ⟨_, rfl, br_split (fun g => tr (.inr (.inr (.inr (.inr (h95.1 g)))))) (fun g0 => br_split (fun g => tr (.inl g)) (fun g1 => br_split (fun g => tr (.inr (.inl g))) (fun g2 => br_split (fun g => tr (.inr (.inr (.inl g)))) (fun g3 => ?_))))⟩
  have e : innB b = decide (kd b = 4) := by
    unfold innB
    rw [decide_eq_decide]
    refine ⟨fun hq => ?_, fun e => .inr (.inr (.inr (.inl e)))⟩
    rcases hq with e | e | e | e | e
    · exact absurd e g1
    · exact absurd e g2
    · exact absurd e g3
    · exact e
    · exact absurd (h95.2 e) g0
  rw [e] at h; exact h

set_option maxRecDepth 20000 in
theorem LayoutBroken_spec {R : Ending → World → Prop} {S : Nat → Prop} {w : World} {a : Option Addr} {n c : Nat} (f : Fo) (hF : Forms w) (hf0 : SlF S w a n f)
    (h : ∀ w', Ext w w' → R (.returned (.bool true)) w') : Calls Tryd.prog F_law13_LayoutBroken ⟨[.slice a n c]⟩ w R := by
  apply c_law13_LayoutBroken
  refine fine13_spec f hF hf0 fun w3 e3 => ⟨_, _, rfl, ?_⟩
  have aw : ∀ {K : Ending → World → Prop} W, Ext w W → (∀ w', Ext w w' → K (.returned (.bool true)) w') → Calls Tryd.prog F_law13_awake ⟨[]⟩ W fun e w' => ∃ x : Bool, e = .returned (.bool x) ∧ K (.returned (.bool x)) w' :=
    fun W hx hK => awake13_spec (hF.ext hx) fun w10 e10 => ⟨_, rfl, hK _ (ext_trans hx e10)⟩
  cases hfin : fin13 f with
  | false => exact aw _ e3 h
  | true =>
  obtain ⟨hgr, hpz⟩ := fin13_true hfin
  have hs := great10_small hgr
  obtain ⟨hc0, _, hpl, hpS⟩ := patE_zero hpz
  have hbr : brkR f = brkZ (posL ([], 0) (nodesF f)) (patF f) := by unfold brkR; rw [if_neg (by simp [hpz])]
  have hpe : posE ([], 0) f = 0 := by unfold posE; simp [hpz]
  have hpr : posR ([], 0) f = posL ([], 0) (nodesF f) := by unfold posR; rw [if_neg (by simp [hpe])]
  simp only [if_true, Bool.not_true, br_f]
  refine Broken_spec f hs (hF.ext e3) (hf0.ext e3) fun a1 c1 w10 hr1 e10 => ⟨_, _, _, _, rfl, ?_⟩
  have E10 := ext_trans e3 e10
  refine Positions_spec ([], 0) f hs (hF.ext E10) (hf0.ext E10) fun a2 c2 w14 hr2 e14 => ⟨_, _, _, _, rfl, ?_⟩
  have E14 := ext_trans E10 e14
  rw [hbr] at hr1
  rw [hpr] at hr2
  have hLL := posL_pat ([], 0) f
  have hplain : hasF f 3 2 = false → brkZ (posL ([], 0) (nodesF f)) (patF f) = [] := fun hh => brkZ_plain (posL_plain (nodesF f) ([], 0) hh)
  rw [hbr, hpr, hpz, hpe]
  generalize posL ([], 0) (nodesF f) = L at *
  generalize patF f = s at *
  intro K17 hK17
  have k17 : K17 w14 := by
    refine hK17 _ fun _ => ?_
    refine ⟨fun oa on oc i W m => ∃ k : Nat, i = k ∧ 1 ≤ k ∧ (k ≤ L.length ∨ k = 1) ∧ m = L.length + 1 - k ∧ OwnL encI W w14.heap.size 3 oa on oc (brkTo L s k) ∧ Ext w14 W, ⟨_, 1, rfl, by omega, .inr rfl, rfl, by rw [brkTo_one]; exact Owns.nil _ _ _ _, Below.refl _ _⟩, ?_⟩
    rintro oa on oc _ W m ⟨k, rfl, hk1, hk2, rfl, ho, he⟩ _
    have hon := ho.length
    have hkl := brkTo_len L s k
    refine br_split (fun hlt => ?_) (fun hge => ?_)
    · have hkL : k < L.length := by omega
      intro K25 hK25
      have k25 : ∀ v W2, v = (isStart L k && brkB s k) → Ext W W2 → K25 v W2 := by
        rintro _ W2 rfl e2
        have z2 := e2.size
        have zz := he.size
        refine hK25 _ _ fun _ => br_cases (fun gb => ?_) (fun gb => ?_)
        · refine OwnL.push slT_int (Owns.ext ho e2) (by omega) (k : Int) (by omega) (by omega) fun a'' c'' W5 ho5 hc hn => ?_
          refine ⟨L.length + 1 - (k + 1), by omega, k + 1, by rw [wrap_nat (by omega)], by omega, .inl (by omega), rfl, by rw [brkTo_succ, if_pos gb]; exact ho5, ext_chgS (ext_trans he e2) hc fun j hj => by have := (Owns.bk ho hj).1; omega⟩
        · exact ⟨L.length + 1 - (k + 1), by omega, k + 1, by rw [wrap_nat (by omega)], by omega, .inl (by omega), rfl, by rw [brkTo_succ, gb, if_neg (by simp), List.append_nil]; exact Owns.ext ho e2, ext_trans he e2⟩
      unfold drw
      have ed := ext_drew W
      have hx : L[k]? = some L[k] := by simp [hkL]
      have hy : L[k - 1]? = some L[k - 1] := by rw [List.getElem?_eq_getElem (by omega)]
      have hL3 := (hr2.ext he).ext ed
      obtain ⟨bb, o, hq, _, _, hc⟩ := hL3.get hx
      obtain ⟨bb', o', hq', _, _, hc'⟩ := hL3.get hy
      refine hq _ ⟨L[k].1, by rw [add_none]; exact hc 0 _ rfl, L[k].2, by rw [add_none]; exact hc 1 _ rfl, ?_⟩
      rw [show IntKind.i64.wrap ((k : Int) - 1) = ((k - 1 : Nat) : Int) by rw [wrap_id (by omega)]; omega]
      refine hq' _ ⟨L[k - 1].1, by rw [add_none]; exact hc' 0 _ rfl, L[k - 1].2, by rw [add_none]; exact hc' 1 _ rfl, ?_⟩
      have hst : (!(decide (L[k].1 = L[k - 1].1) && (decide (L[k].2 = L[k - 1].2) && true))) = isStart L k := by
        unfold isStart
        rw [hx, hy, Bool.and_true, ← Bool.decide_and, ← decide_not, decide_eq_decide, ne_eq, Option.some.injEq, Prod.ext_iff]
        constructor
        · exact .inr
        · rintro (e | e)
          · omega
          · exact e
      rw [hst]
      have hs1 : s[k - 1]? = some s[k - 1] := by rw [List.getElem?_eq_getElem (by omega)]
      have hs2 : s[k]? = some s[k] := by rw [List.getElem?_eq_getElem (by omega)]
      have hbrk : brkB s k = (innB s[k - 1] && innB s[k]) := by unfold brkB; rw [hs1, hs2]; simp; omega
      refine br_cases (fun g1 => ?_) (fun g1 => ?_)
      · rw [g1, Bool.true_and] at k25
        refine sidx_nat (by omega) ⟨⟨by kernel_rfl, innerL_spec _ ⟨_, rfl, br_cases (fun g2 => ?_) (fun g2 => ?_)⟩⟩, trivial⟩
        · refine sidx_nat (by omega) ⟨⟨by kernel_rfl, innerL_spec _ ⟨_, rfl, k25 _ _ ?_ ed⟩⟩, trivial⟩
          rw [hbrk, g2, Bool.and_true]
        · exact ⟨k25 _ _ (by rw [hbrk, g2, Bool.and_false]) ed, trivial⟩
      · exact ⟨⟨k25 _ _ (by rw [g1]; rfl) ed, trivial⟩, trivial⟩
    · have hto : brkTo L s k = brkZ L s := by
        by_cases h0 : L.length = 0
        · have : k = 1 := by omega
          subst this
          rw [brkTo_one]
          have hL0 := List.eq_nil_of_length_eq_zero h0
          subst hL0
          rfl
        · have : k = L.length := by omega
          subst this; rfl
      rw [hto] at ho
      have ez : brkTo L s L.length = brkZ L s := rfl
      have hzl := brkTo_len L s L.length
      rw [ez] at hzl
      have hLs : L.length ≤ 65536 := by omega
      refine EqualR_spec ((hr1.ext e14).ext he) ho.out (by omega) fun w50 e50 => ⟨_, rfl, ?_⟩
      rw [decide_eq_true rfl]
      simp only [br_t]
      have E50 := ext_trans (ext_trans E14 he) e50
      refine br_split (fun g => aw _ E50 h) (fun g => ?_)
      refine has_spec 3 2 f hs (hf0.ext E50) fun w56 e56 => ⟨_, rfl, ?_⟩
      have hhas : hasF f 3 2 = true := by
        cases hh : hasF f 3 2 with
        | true => rfl
        | false => exact absurd (by rw [hplain hh]; rfl) g
      rw [hhas]
      exact aw _ (ext_trans E50 e56) h
  refine br_split (fun g => absurd rfl g) (fun _ => br_split (fun g => absurd rfl g) (fun _ => br_split (fun g => ?_) (fun _ => k17)))
  exact absurd (by rw [hLL]) g
end Go.Proofs
namespace Go.Proofs
open Go Go.Sh Go.RowKit

theorem posL_mono : ∀ (l : List Nn) (p : Ps), l.any (hasN 3 3) = false → (∀ x ∈ posL p l, p.2 ≤ x.2) ∧ (posL p l).Pairwise (fun a b => a.2 ≤ b.2)
  | [], p, _ => by simp [posL]
  | x :: l, p, h => by
    rw [List.any_cons, Bool.or_eq_false_iff] at h
    have hx : ¬ x.k = 3 := by simpa [hasN] using h.1
    have hp : p.2 ≤ (posN p x).1.2 := by
      unfold posN
      split
      · exact Int.le_refl _
      · split
        · exact Int.le_refl _
        · try rw [if_neg hx]
          split
          · show p.2 ≤ p.2 + 1; omega
          · exact Int.le_refl _
    obtain ⟨i1, i2⟩ := posL_mono l (posN p x).1 h.2
    rw [posL]
    refine ⟨fun y hy => ?_, ?_⟩
    · rw [List.mem_append] at hy
      rcases hy with hy | hy
      · rw [(List.mem_replicate.1 hy).2]; exact hp
      · exact Int.le_trans hp (i1 y hy)
    · rw [List.pairwise_append]
      refine ⟨?_, i2, fun y hy z hz => ?_⟩
      · rw [List.pairwise_replicate]; exact .inr (Int.le_refl _)
      · rw [(List.mem_replicate.1 hy).2]; exact i1 z hz

def startP (page line : Int) : Ps := if Int.tmod page 4 = 0 then ([], line) else ([112] ++ (Utf8.encode (IntKind.i32.wrap (IntKind.u8.wrap (48 + (Int.tmod page 4))))).data.toList, line)
theorem start_name {page line : Int} (h0 : 0 ≤ page) (hl : 0 ≤ line ∧ line < 256) {f : Fo} (hf : patE f = 0) : posE (startP page line) f = 0 := by
  have ht : Int.tmod page 4 = 0 ∨ Int.tmod page 4 = 1 ∨ Int.tmod page 4 = 2 ∨ Int.tmod page 4 = 3 := by
    rw [Int.tmod_eq_emod_of_nonneg h0]; omega
  have hn : ¬ ((startP page line).1 ≠ [] ∧ isNameF (startP page line).1 = false) := by
    have key : ∀ k : Int, (k = 1 ∨ k = 2 ∨ k = 3) → isNameF ([112] ++ (Utf8.encode (IntKind.i32.wrap (IntKind.u8.wrap (48 + k)))).data.toList) = true := by
      rintro k (rfl | rfl | rfl) <;> decide +kernel
    unfold startP
    rcases ht with e | e | e | e <;> rw [e]
    · simp
    · rw [if_neg (by decide)]; exact fun hh => absurd (key 1 (by decide)) (by rw [hh.2]; decide)
    · rw [if_neg (by decide)]; exact fun hh => absurd (key 2 (by decide)) (by rw [hh.2]; decide)
    · rw [if_neg (by decide)]; exact fun hh => absurd (key 3 (by decide)) (by rw [hh.2]; decide)
  have hl' : (startP page line).2 = line := by unfold startP; split <;> rfl
  unfold posE
  rw [if_neg (by simp [hf]), if_neg hn, if_neg (by rw [hl']; omega)]
theorem start_spec {R : Ending → World → Prop} {w : World} (page line : Int) (h0 : 0 ≤ page) (hl : 0 ≤ line ∧ line < 256)
    (h : ∀ w', Ext w w' → R (.returned (.agg ⟨[.string ⟨⟨(startP page line).1⟩⟩, .int .i64 (startP page line).2]⟩)) w') : Calls Tryd.prog F_law13_start ⟨[.int .u8 page, .int .u8 line]⟩ w R := by
  apply c_law13_start
  refine al_intro fun b3 w4 hb3 B3 e4 s4 => ⟨by decide, ?_⟩
  rw [show IntKind.i64.wrap line = line from wrap_id (by omega)]
  refine br_split (fun g => ?_) (fun g => ⟨by decide, ?_⟩)
  · refine stL_blk B3 (by simp) (by intro u hu; simp only [List.mem_cons, List.not_mem_nil, or_false] at hu; rcases hu with rfl | rfl <;> rfl) fun w5 q1 q2 q3 q4 q5 q6 => ?_
    obtain ⟨x0, x1⟩ := blk2 (show Blk w5 b3 [.string ⟨⟨[]⟩⟩, .int .i64 line] 23 by simpa [putAt] using q1)
    unfold startP at h
    rw [if_pos g] at h
    exact ⟨_, x0, _, x1, h _ (ext_chgS e4 (S := fun k => k = b3) ⟨q4, q5, q6, by omega, fun k _ hk => q2 k hk⟩ fun k hk => by omega)⟩
  · have ht : Int.tmod page 4 = 1 ∨ Int.tmod page 4 = 2 ∨ Int.tmod page 4 = 3 := by
      rw [Int.tmod_eq_emod_of_nonneg h0] at g ⊢; omega
    unfold startP at h
    rw [if_neg g] at h
    refine ⟨?_, ?_⟩
    · rcases ht with e | e | e <;> rw [e] <;> decide +kernel
    · refine stL_blk B3 (by simp) (by intro u hu; simp only [List.mem_cons, List.not_mem_nil, or_false] at hu; rcases hu with rfl | rfl <;> rfl) fun w5 q1 q2 q3 q4 q5 q6 => ?_
      obtain ⟨x0, x1⟩ := blk2 (show Blk w5 b3 [.string ⟨⟨_⟩⟩, .int .i64 line] 23 by simpa [putAt] using q1)
      exact ⟨_, x0, _, x1, h _ (ext_chgS e4 (S := fun k => k = b3) ⟨q4, q5, q6, by omega, fun k _ hk => q2 k hk⟩ fun k hk => by omega)⟩

set_option maxRecDepth 20000 in
theorem LayoutCounts_spec {R : Ending → World → Prop} {S : Nat → Prop} {w : World} {a : Option Addr} {n c : Nat} (f : Fo) (page line : Int) (hp : 0 ≤ page ∧ page < 256) (hl : 0 ≤ line ∧ line < 256) (hF : Forms w) (hf0 : SlF S w a n f)
    (h : ∀ w', Ext w w' → R (.returned (.bool true)) w') : Calls Tryd.prog F_law13_LayoutCounts ⟨[.slice a n c, .int .u8 page, .int .u8 line]⟩ w R := by
  apply c_law13_LayoutCounts
  refine fine13_spec f hF hf0 fun w5 e5 => ⟨_, _, rfl, ?_⟩
  have aw : ∀ {K : Ending → World → Prop} W, Ext w W → (∀ w', Ext w w' → K (.returned (.bool true)) w') → Calls Tryd.prog F_law13_awake ⟨[]⟩ W fun e w' => ∃ x : Bool, e = .returned (.bool x) ∧ K (.returned (.bool x)) w' :=
    fun W hx hK => awake13_spec (hF.ext hx) fun w10 e10 => ⟨_, rfl, hK _ (ext_trans hx e10)⟩
  cases hfin : fin13 f with
  | false => exact aw _ e5 h
  | true =>
  obtain ⟨hgr, hpz⟩ := fin13_true hfin
  have hs := great10_small hgr
  obtain ⟨hc0, _, hpl, hpS⟩ := patE_zero hpz
  simp only [if_true, Bool.not_true, br_f]
  refine start_spec page line hp.1 hl fun w12 e12 => ⟨_, _, rfl, ?_⟩
  have hpe := start_name (page := page) hp.1 hl hpz
  have hpr : posR (startP page line) f = posL (startP page line) (nodesF f) := by unfold posR; rw [if_neg (by simp [hpe])]
  have hLL := posL_pat (startP page line) f
  have hplain : hasF f 3 2 = false → ∀ x ∈ posL (startP page line) (nodesF f), x = startP page line := posL_plain (nodesF f) (startP page line)
  have hmono : hasF f 3 3 = false → (posL (startP page line) (nodesF f)).Pairwise (fun a b => a.2 ≤ b.2) := fun hh => (posL_mono (nodesF f) (startP page line) hh).2
  have E12 := ext_trans e5 e12
  generalize startP page line = s at *
  refine al_stL (by simp) (by intro u hu; simp only [List.mem_cons, List.not_mem_nil, or_false] at hu; rcases hu with rfl | rfl <;> rfl) fun b15 w17 hb15 B15 e17 s17 => ?_
  have E17 := ext_trans E12 e17
  obtain ⟨x0, x1⟩ := blk2 B15
  refine ⟨s.1, x0, s.2, x1, ?_⟩
  refine Positions_spec s f hs (hF.ext E17) (hf0.ext E17) fun a2 c2 w21 hr2 e21 => ⟨_, _, _, _, rfl, ?_⟩
  have E21 := ext_trans E17 e21
  rw [hpr] at hr2
  rw [hpr, hpe]
  generalize posL s (nodesF f) = L at *
  intro K24 hK24
  have k24 : K24 w21 := by
    refine hK24 _ fun _ => ?_
    refine has_spec 3 2 f hs (hf0.ext E21) fun w27 e27 => ⟨_, rfl, ?_⟩
    have E27 := ext_trans E21 e27
    have B27 := (B15.ext e21).ext e27
    refine ⟨fun i W m => ∃ k : Nat, i = k ∧ k ≤ L.length ∧ m = L.length - k ∧ Ext w27 W, ⟨_, 0, rfl, by omega, rfl, Below.refl _ _⟩, ?_⟩
    rintro _ W m ⟨k, rfl, hk, rfl, he⟩ _
    refine br_split (fun hlt => ?_) (fun hge => aw _ (ext_trans E27 he) h)
    have hkL : k < L.length := by omega
    have hx : L[k]? = some L[k] := by simp [hkL]
    obtain ⟨bb, o, hq, _, _, hc⟩ := ((hr2.ext e27).ext he).get hx
    refine hq _ ⟨L[k].1, by rw [add_none]; exact hc 0 _ rfl, L[k].2, by rw [add_none]; exact hc 1 _ rfl, ?_⟩
    refine al_stL (by simp) (by intro u hu; simp only [List.mem_cons, List.not_mem_nil, or_false] at hu; rcases hu with rfl | rfl <;> rfl) fun b37 w39 hb37 B37 e39 s39 => ?_
    unfold drw
    have e40 := ext_trans (ext_trans he e39) (ext_drew w39)
    have E40 := ext_trans E27 e40
    have B40 := B27.ext e40
    have B37' := B37.ext (ext_drew w39)
    obtain ⟨u0, u1⟩ := blk2 B37'
    obtain ⟨v0, v1⟩ := blk2 B40
    have hr40 := (hr2.ext e27).ext e40
    refine br_cases (fun g => ⟨_, u0, _, u1, _, v0, _, v1, ?_⟩) (fun g => ?_)
    · have g' : hasF f 3 2 = false := by simpa using g
      have hxs : L[k] = s := hplain g' _ (List.getElem_mem hkL)
      rw [show (!(decide (L[k].1 = s.1) && (decide (L[k].2 = s.2) && true))) = false by rw [hxs]; simp]
      simp only [br_f]
      refine br_split (fun g0 => ?_) (fun g0 => ⟨⟨L.length - (k + 1), by omega, k + 1, by rw [wrap_nat (by omega)], by omega, rfl, e40⟩, trivial⟩)
      have hy : L[k - 1]? = some L[k - 1] := by rw [List.getElem?_eq_getElem (by omega)]
      obtain ⟨bb', o', hq', _, _, hc'⟩ := hr40.get hy
      rw [show IntKind.i64.wrap ((k : Int) - 1) = ((k - 1 : Nat) : Int) by rw [wrap_id (by omega)]; omega]
      refine ⟨_, u0, hq' _ ⟨L[k - 1].1, by rw [add_none]; exact hc' 0 _ rfl, br_split (fun g1 => ⟨_, u1, hq' _ ⟨L[k - 1].2, by rw [add_none]; exact hc' 1 _ rfl, br_split (fun g2 => ?_) (fun g2 => ⟨⟨L.length - (k + 1), by omega, k + 1, by rw [wrap_nat (by omega)], by omega, rfl, e40⟩, trivial⟩)⟩⟩)
        (fun g1 => ⟨⟨L.length - (k + 1), by omega, k + 1, by rw [wrap_nat (by omega)], by omega, rfl, e40⟩, trivial⟩)⟩⟩
      refine ⟨has_spec 3 3 f hs (hf0.ext E40) fun w52 e52 => ⟨_, rfl, br_cases (fun g3 => ?_) (fun g3 => ?_)⟩, trivial⟩
      · have := (List.pairwise_iff_getElem.1 (hmono (by simpa using g3))) (k - 1) k (by omega) hkL (by omega)
        omega
      · exact ⟨L.length - (k + 1), by omega, k + 1, by rw [wrap_nat (by omega)], by omega, rfl, ext_trans e40 e52⟩
    · refine br_split (fun g0 => ?_) (fun g0 => ⟨⟨L.length - (k + 1), by omega, k + 1, by rw [wrap_nat (by omega)], by omega, rfl, e40⟩, trivial⟩)
      have hy : L[k - 1]? = some L[k - 1] := by rw [List.getElem?_eq_getElem (by omega)]
      obtain ⟨bb', o', hq', _, _, hc'⟩ := hr40.get hy
      rw [show IntKind.i64.wrap ((k : Int) - 1) = ((k - 1 : Nat) : Int) by rw [wrap_id (by omega)]; omega]
      refine ⟨_, u0, hq' _ ⟨L[k - 1].1, by rw [add_none]; exact hc' 0 _ rfl, br_split (fun g1 => ⟨_, u1, hq' _ ⟨L[k - 1].2, by rw [add_none]; exact hc' 1 _ rfl, br_split (fun g2 => ?_) (fun g2 => ⟨⟨L.length - (k + 1), by omega, k + 1, by rw [wrap_nat (by omega)], by omega, rfl, e40⟩, trivial⟩)⟩⟩)
        (fun g1 => ⟨⟨L.length - (k + 1), by omega, k + 1, by rw [wrap_nat (by omega)], by omega, rfl, e40⟩, trivial⟩)⟩⟩
      refine ⟨has_spec 3 3 f hs (hf0.ext E40) fun w52 e52 => ⟨_, rfl, br_cases (fun g3 => ?_) (fun g3 => ?_)⟩, trivial⟩
      · have := (List.pairwise_iff_getElem.1 (hmono (by simpa using g3))) (k - 1) k (by omega) hkL (by omega)
        omega
      · exact ⟨L.length - (k + 1), by omega, k + 1, by rw [wrap_nat (by omega)], by omega, rfl, ext_trans e40 e52⟩
  exact br_split (fun g => absurd rfl g) (fun _ => br_split (fun g => absurd (by rw [hLL]) g) (fun _ => k24))
end Go.Proofs
namespace Go.Proofs
open Go Go.Sh Go.RowKit

/- where the characters of a position stand -/
def findF (L : List Ps) (p : Ps) : Option (Nat × Nat) := (rowsF L).find? fun x => decide (L[x.1]? = some p)
def findR (p : Ps) (f : Fo) : Option (Nat × Nat) := if patE f ≠ 0 then none else findF (posL ([], 0) (nodesF f)) p
def fr1 : Option (Nat × Nat) → Int | some x => x.1 | none => 0
def fr2 : Option (Nat × Nat) → Int | some x => x.2 | none => 0
def findE (p : Ps) (f : Fo) : Int := if patE f ≠ 0 then patE f else match findR p f with | some _ => 0 | none => 6
theorem find_at {α : Type} {q : α → Bool} {pre xs : List α} {x : α} (hp : pre ++ [x] <+: xs) (h : ∀ y ∈ pre, q y = false) (hx : q x = true) : xs.find? q = some x := by
  obtain ⟨s, rfl⟩ := hp
  rw [List.append_assoc, List.find?_append]
  have : pre.find? q = none := by rw [List.find?_eq_none]; intro y hy; rw [h y hy]; simp
  rw [this]
  simp [hx]

set_option maxRecDepth 20000 in
theorem Find_spec {R : Ending → World → Prop} {S : Nat → Prop} {w : World} {a : Option Addr} {n c : Nat} (p : Ps) (f : Fo) (hs : small f) (hF : Forms w) (hf0 : SlF S w a n f)
    (h : ∀ w', Ext w w' → R (.returned (.tuple ⟨[.int .i64 (fr1 (findR p f)), .int .i64 (fr2 (findR p f)), .int .i64 (findE p f)]⟩)) w') :
    Calls Tryd.prog F_layout_Find ⟨[.slice a n c, .agg ⟨[.string ⟨⟨p.1⟩⟩, .int .i64 p.2]⟩]⟩ w R := by
  apply c_layout_Find
  refine al_intro fun b4 w5 hb4 B4 e5 s5 => ?_
  refine al_intro fun b6 w7 hb6 B6 e7 s7 => ?_
  refine al_intro fun b8 w9 hb8 B8 e9 s9 => ?_
  refine al_intro fun b10 w11 hb10 B10 e11 s11 => ?_
  have E11 := ext_trans (ext_trans (ext_trans e5 e7) e9) e11
  refine Pattern_spec f hs (hF.ext E11) (hf0.ext E11) fun w13 e13 => ⟨_, _, rfl, ?_⟩
  have E13 := ext_trans E11 e13
  have z5 := e5.size
  have z7 := e7.size
  have z9 := e9.size
  have z11 := e11.size
  have z13 := e13.size
  have B4' := (((B4.ext e7).ext e9).ext e11).ext e13
  have B6' := ((B6.ext e9).ext e11).ext e13
  have B8' := (B8.ext e11).ext e13
  have B10' := B10.ext e13
  -- the three results are laid, and read
  have three : ∀ {W : World} {K : World → Prop} (u v x u' v' x' : Int), Blk W b6 [.int .i64 u] 3 → Blk W b8 [.int .i64 v] 3 → Blk W b10 [.int .i64 x] 28 →
      (∀ W', Blk W' b6 [.int .i64 u'] 3 → Blk W' b8 [.int .i64 v'] 3 → Blk W' b10 [.int .i64 x'] 28 → Chg (fun k => k = b6 ∨ k = b8 ∨ k = b10) W W' → K W') →
      stL W ⟨b6, 0, none⟩ 0 [.int .i64 u'] fun W1 => stL W1 ⟨b8, 0, none⟩ 0 [.int .i64 v'] fun W2 => stL W2 ⟨b10, 0, none⟩ 0 [.int .i64 x'] fun W3 => K W3 := by
    intro W K u v x u' v' x' h6 h8 h10 hK
    refine stL_one h6 rfl fun W1 q1 q2 q3 => stL_one (q2.blk h8 (by omega)) rfl fun W2 r1 r2 r3 => stL_one (r2.blk (q2.blk h10 (by omega)) (by omega)) rfl fun W3 t1 t2 t3 => ?_
    exact hK W3 (t2.blk (r2.blk q1 (by omega)) (by omega)) (t2.blk r1 (by omega)) t1 ((q2.mono fun k _ e => .inl e).trans ((r2.mono fun k _ e => .inr (.inl e)).trans (t2.mono fun k _ e => .inr (.inr e))))
  refine br_split (fun g => ?_) (fun g => ?_)
  · refine three _ _ _ _ _ _ B6' B8' B10' fun W3 t6 t8 t10 hc => ?_
    refine ⟨_, by rw [t6.cell]; rfl, _, by rw [t8.cell]; rfl, _, by rw [t10.cell]; rfl, ?_⟩
    unfold findE findR at h
    simp only [if_pos g] at h
    exact h _ (ext_chgS E13 hc fun k hk => by omega)
  have hp0 : patE f = 0 := Decidable.not_not.1 g
  obtain ⟨hc0, _, hpl, hpS⟩ := patE_zero hp0
  obtain ⟨q1, q2, q3⟩ := check_zero hc0
  unfold findE findR at h
  simp only [if_neg g] at h
  refine positions_spec ([], 0) f (by omega) q2 (by omega) (Int.le_refl _) (by decide) (hf0.ext E13) fun aL cL w23 hL e23 => ⟨_, _, _, rfl, ?_⟩
  have hLL := posL_pat ([], 0) f
  generalize posL ([], 0) (nodesF f) = L at *
  refine al_stL (by simp) (by intro u hu; simp only [List.mem_cons, List.not_mem_nil, or_false] at hu; rcases hu with rfl; rfl) fun b25 w27 hb25 B25 e27 s27 => ?_
  refine ⟨aL, _, cL, by rw [B25.cell]; rfl, ?_⟩
  refine rows_spec fun bs w30 Bs e30 hbs => ⟨_, _, _, rfl, fun base => ?_⟩
  have z23 := e23.size
  have z27 := e27.size
  have z30 := e30.size
  have E23 := ext_trans E13 e23
  have E30 := ext_trans (ext_trans E23 e27) e30
  have zE := E30.size
  have ls := Bs.lt
  have B4'' := ((B4'.ext e23).ext e27).ext e30
  have B6'' := ((B6'.ext e23).ext e27).ext e30
  have B8'' := ((B8'.ext e23).ext e27).ext e30
  have B10'' := ((B10'.ext e23).ext e27).ext e30
  have B25' := B25.ext e30
  have l25 := B25.lt
  have hL1 : RowAt encP (fun k => w13.heap.size ≤ k ∧ k < w23.heap.size) w30 aL L.length L := ((hL.imp fun k hk hl => ⟨hk, hl⟩).ext e27).ext e30
  rw [cd_layout_Find_1]
  refine RFw_lawO anA_layout_Find_1 anB_layout_Find_1 (gf := F_layout_rows_1) rfl (by kernel_rfl) (xs := rowsF L) (E := RwE) (Rd := fun k => (w13.heap.size ≤ k ∧ k < w23.heap.size) ∨ k = bs)
    (fun v1 he => rows_iterO L (by omega) bs v1 (fun k hk => by have := he.size; omega) (Bs.ext he) ((hL1.ext he).imp fun k hk _ => .inl hk) (.inr rfl)) (fun y vs hE => by rw [hE]; rfl) (by decide) (fun k hk => by omega) (fun k => k = b6 ∨ k = b8 ∨ k = b10) (fun k hk => by omega)
    (fun pre S1 W => (∀ y ∈ pre, decide (L[y.1]? = some p) = false) ∧ Blk W b6 [.int .i64 0] 3 ∧ Blk W b8 [.int .i64 0] 3 ∧ Blk W b10 [.int .i64 0] 28 ∧ (∀ k, S1 k ↔ k = b6 ∨ k = b8 ∨ k = b10) ∧ Ext w W ∧ Ext w30 W)
    (fun S1 W => ∃ x : Nat × Nat, findF L p = some x ∧ Blk W b6 [.int .i64 x.1] 3 ∧ Blk W b8 [.int .i64 x.2] 3 ∧ Blk W b10 [.int .i64 0] 28 ∧ (∀ k, S1 k ↔ k = b6 ∨ k = b8 ∨ k = b10) ∧ Ext w W) (fun _ _ => False)
    ?_ ?_ (fun _ _ _ h => h.elim) ⟨by simp, B6'', B8'', B10'', fun k => Iff.rfl, E30, Below.refl _ _⟩ ?_ ?_ ?_ (fun _ _ _ _ _ _ _ h => h.elim)
  · rintro pre S1 W W' ⟨g0, g1, g2, g3, g4, g5, g6⟩ hc
    exact ⟨g0, hc.blk g1 (fun hh => hh.2 ((g4 _).2 (.inl rfl))), hc.blk g2 (fun hh => hh.2 ((g4 _).2 (.inr (.inl rfl)))), hc.blk g3 (fun hh => hh.2 ((g4 _).2 (.inr (.inr rfl)))), g4, ext_chgS g5 hc (fun k hk => by omega), ext_chgS g6 hc (fun k hk => by omega)⟩
  · rintro S1 W W' ⟨x, g0, g1, g2, g3, g4, g5⟩ hc
    exact ⟨x, g0, hc.blk g1 (fun hh => hh.2 ((g4 _).2 (.inl rfl))), hc.blk g2 (fun hh => hh.2 ((g4 _).2 (.inr (.inl rfl)))), hc.blk g3 (fun hh => hh.2 ((g4 _).2 (.inr (.inr rfl)))), g4, ext_chgS g5 hc (fun k hk => by omega)⟩
  · rintro pre ⟨i, i2⟩ vs S1 W l rfl hpre hl1 hl2 hl3 hS1 ⟨g0, g1, g2, g3, g4, g5, g6⟩
    refine Eq.mpr (er_layout_Find_1 base _ _ _ _ _ _ _ _ _ _ _ _ _ _ _) ?_
    refine ⟨Below.refl _ _, fun W2 hU => ?_⟩
    have zU := hU.size
    have zg6 := g6.size
    have hWc : Chg (fun k => k = l) W W2 := ⟨hU.os, hU.tape, hU.output, by omega, fun k _ hk => hU.block k hk⟩
    have nl : ∀ k, S1 k → k ≠ l := fun k hk he => hl3 (he ▸ hk)
    have h1 := hWc.blk g1 (nl _ ((g4 _).2 (.inl rfl)))
    have h2 := hWc.blk g2 (nl _ ((g4 _).2 (.inr (.inl rfl))))
    have h3 := hWc.blk g3 (nl _ ((g4 _).2 (.inr (.inr rfl))))
    have E2' : Ext w W2 := ext_chgS g5 hWc fun k hk => by omega
    have E23' : Ext w30 W2 := ext_chgS g6 hWc fun k hk => by omega
    have hil := rows_lt L (mem_of_prefix hpre)
    unfold drw
    have ed := ext_drew W2
    have E23d := ext_trans E23' ed
    have zd : W2.drew.heap.size = W2.heap.size := rfl
    have h25 := B25'.ext E23d
    have h4 := B4''.ext E23d
    have hx : L[i]? = some L[i] := by simp [hil]
    obtain ⟨bb, o, hq, _, _, hc⟩ := (hL1.ext E23d).get hx
    obtain ⟨x0, x1⟩ := blk2 h4
    refine dr_ok ⟨aL, _, cL, by rw [h25.cell]; rfl, hq _ ⟨L[i].1, by rw [add_none]; exact hc 0 _ rfl, L[i].2, by rw [add_none]; exact hc 1 _ rfl, dr_ok ⟨p.1, x0, p.2, x1, ?_⟩⟩⟩
    have hdec : (decide (L[i].1 = p.1) && (decide (L[i].2 = p.2) && true)) = decide (L[i]? = some p) := by
      rw [hx, Bool.and_true, ← Bool.decide_and, decide_eq_decide, Option.some.injEq, Prod.ext_iff]
    rw [hdec]
    refine br_cases (fun gm => ?_) (fun gm => ?_)
    · refine dr_ok ?_
      have key := three (W := W2.drew) (K := fun W' => Chg (fun k => S1 k ∨ W.heap.size ≤ k) W2 W' ∧ ∃ S' : Nat → Prop, (∀ k, S' k → (S1 k ∨ W.heap.size ≤ k) ∧ k < W'.heap.size) ∧
        ∃ x : Nat × Nat, findF L p = some x ∧ Blk W' b6 [.int .i64 x.1] 3 ∧ Blk W' b8 [.int .i64 x.2] 3 ∧ Blk W' b10 [.int .i64 0] 28 ∧ (∀ k, S' k ↔ k = b6 ∨ k = b8 ∨ k = b10) ∧ Ext w W')
        0 0 0 (i : Int) (i2 : Int) 0 (h1.ext ed) (h2.ext ed) (h3.ext ed) fun W' t6 t8 t10 hc => by
          refine ⟨(Chg.of_ext ed).trans (hc.mono fun k _ hk => .inl ((g4 k).2 hk)), fun k => k = b6 ∨ k = b8 ∨ k = b10, fun k hk => ⟨.inl ((g4 k).2 hk), ?_⟩, (i, i2), find_at hpre g0 gm, t6, t8, t10, fun k => Iff.rfl, ext_chgS (ext_trans E2' ed) hc fun k hk => by omega⟩
          rcases hk with rfl | rfl | rfl
          · exact t6.lt
          · exact t8.lt
          · exact t10.lt
      exact key
    · refine ⟨Chg.of_ext ed, S1, fun k hk => ⟨.inl hk, by have := (hS1 k hk).1; omega⟩, fun y hy => ?_, h1.ext ed, h2.ext ed, h3.ext ed, g4, ext_trans E2' ed, E23d⟩
      rw [List.mem_append, List.mem_singleton] at hy
      rcases hy with hy | rfl
      · exact g0 y hy
      · exact gm
  · rintro D S1 W hD1 hD2 hD3 hD4 ⟨g0, g1, g2, g3, g4, g5, g6⟩
    have hnone : findF L p = none := by
      unfold findF; rw [List.find?_eq_none]; intro y hy; rw [g0 y hy]; simp
    rw [hnone] at h
    have nD : ∀ k, (k = b6 ∨ k = b8 ∨ k = b10) → k ≠ D := fun k hk e => hD3 (e ▸ (g4 k).2 hk)
    refine three _ _ _ _ _ _ g1 g2 g3 fun W3 t6 t8 t10 hc => ?_
    refine retD_one ((hc.block D hD2 (fun hh => nD _ hh rfl)).trans hD4) ?_
    refine ⟨_, by rw [(blk_put t6 (nD _ (.inl rfl)) _).cell]; rfl, _, by rw [(blk_put t8 (nD _ (.inr (.inl rfl))) _).cell]; rfl, _, by rw [(blk_put t10 (nD _ (.inr (.inr rfl))) _).cell]; rfl, ?_⟩
    exact h _ (ext_put (ext_chgS g5 hc fun k hk => by omega) (by omega) _)
  · rintro D S1 W hD1 hD2 hD3 hD4 ⟨x, g0, g1, g2, g3, g4, g5⟩
    rw [g0] at h
    have nD : ∀ k, (k = b6 ∨ k = b8 ∨ k = b10) → k ≠ D := fun k hk e => hD3 (e ▸ (g4 k).2 hk)
    refine retD_one hD4 ?_
    refine ⟨_, by rw [(blk_put g1 (nD _ (.inl rfl)) _).cell]; rfl, _, by rw [(blk_put g2 (nD _ (.inr (.inl rfl))) _).cell]; rfl, _, by rw [(blk_put g3 (nD _ (.inr (.inr rfl))) _).cell]; rfl, ?_⟩
    exact h _ (ext_put g5 (by omega) _)
end Go.Proofs
namespace Go.Proofs
open Go Go.Sh Go.RowKit

theorem rows_find (L : List Ps) (p : Ps) : ∀ (m i0 : Nat), L.length ≤ m + i0 →
    (∀ x, (rowsGo L m i0).find? (fun x => decide (L[x.1]? = some p)) = some x → i0 ≤ x.1 ∧ x.1 < L.length ∧ x.2 = runE L x.1 ∧ L[x.1]? = some p ∧ ∀ k, i0 ≤ k → k < x.1 → L[k]? ≠ some p) ∧
    ((rowsGo L m i0).find? (fun x => decide (L[x.1]? = some p)) = none → ∀ k, i0 ≤ k → L[k]? ≠ some p)
  | 0, i0, hm => by
    refine ⟨fun x h => by simp [rowsGo] at h, fun _ k hk h => ?_⟩
    have := (List.getElem?_eq_some_iff.1 h).1
    omega
  | m + 1, i0, hm => by
    rw [rowsGo]
    by_cases hi : i0 < L.length
    · rw [if_pos hi, List.find?_cons]
      obtain ⟨r1, r2, r3, r4⟩ := runE_spec hi
      by_cases hp : L[i0]? = some p
      · rw [decide_eq_true hp]
        refine ⟨fun x h => ?_, fun h => by cases h⟩
        obtain rfl := Option.some.inj h
        exact ⟨Nat.le_refl _, hi, rfl, hp, fun k h1 h2 => by omega⟩
      · rw [decide_eq_false hp]
        obtain ⟨a1, a2⟩ := rows_find L p m (runE L i0) (by omega)
        have skip : ∀ k, i0 ≤ k → k < runE L i0 → L[k]? ≠ some p := fun k h1 h2 => by rw [r3 k h1 h2]; exact hp
        refine ⟨fun x h => ?_, fun h k hk => ?_⟩
        · obtain ⟨b1, b2, b3, b4, b5⟩ := a1 x h
          refine ⟨by omega, b2, b3, b4, fun k h1 h2 => ?_⟩
          by_cases hk : k < runE L i0
          · exact skip k h1 hk
          · exact b5 k (by omega) h2
        · by_cases hk' : k < runE L i0
          · exact skip k hk hk'
          · exact a2 h k (by omega)
    · rw [if_neg hi]
      refine ⟨fun x h => by simp at h, fun _ k hk h => ?_⟩
      have := (List.getElem?_eq_some_iff.1 h).1
      omega
theorem findF_some {L : List Ps} {p : Ps} {x : Nat × Nat} (h : findF L p = some x) : x.1 < x.2 ∧ x.2 ≤ L.length ∧ (∀ k, x.1 ≤ k → k < x.2 → L[k]? = some p) ∧ (∀ k, k < x.1 → L[k]? ≠ some p) ∧ (x.2 < L.length → L[x.2]? ≠ some p) := by
  obtain ⟨b1, b2, b3, b4, b5⟩ := (rows_find L p L.length 0 (by omega)).1 x h
  obtain ⟨r1, r2, r3, r4⟩ := runE_spec b2
  rw [b3]
  refine ⟨r1, r2, fun k h1 h2 => (r3 k h1 h2).trans b4, fun k hk => b5 k (by omega) hk, fun hh => ?_⟩
  rw [b4] at r4
  exact r4 hh
theorem findF_none {L : List Ps} {p : Ps} (h : findF L p = none) : ∀ x ∈ L, x ≠ p := by
  intro x hx e
  obtain ⟨k, hk, rfl⟩ := List.mem_iff_getElem.1 hx
  exact (rows_find L p L.length 0 (by omega)).2 h k (by omega) (by simp [hk, e])

/- the characters of a position -/
def lineS (p : Ps) (f : Fo) : List UInt8 := match findR p f with | some x => ((patF f).take x.2).drop x.1 | none => []
theorem Line_spec {R : Ending → World → Prop} {S : Nat → Prop} {w : World} {a : Option Addr} {n c : Nat} (p : Ps) (f : Fo) (hs : small f) (hF : Forms w) (hf0 : SlF S w a n f)
    (h : ∀ w', Ext w w' → R (.returned (.tuple ⟨[.string ⟨⟨lineS p f⟩⟩, .int .i64 (findE p f)]⟩)) w') :
    Calls Tryd.prog F_layout_Line ⟨[.slice a n c, .agg ⟨[.string ⟨⟨p.1⟩⟩, .int .i64 p.2]⟩]⟩ w R := by
  apply c_layout_Line
  refine al_intro fun b4 w5 hb4 B4 e5 s5 => ?_
  refine Pattern_spec f hs (hF.ext e5) (hf0.ext e5) fun w7 e7 => ⟨_, _, rfl, ?_⟩
  have E7 := ext_trans e5 e7
  refine br_split (fun g => ?_) (fun g => ?_)
  · have e1 : lineS p f = [] := by unfold lineS findR; rw [if_pos g]
    have e2 : findE p f = patE f := by unfold findE; rw [if_pos g]
    rw [e1, e2] at h
    exact h _ E7
  have hp0 : patE f = 0 := Decidable.not_not.1 g
  obtain ⟨hc0, _, hpl, hpS⟩ := patE_zero hp0
  obtain ⟨x0, x1⟩ := blk2 (B4.ext e7)
  refine ⟨p.1, x0, p.2, x1, ?_⟩
  refine Find_spec p f hs (hF.ext E7) (hf0.ext E7) fun w13 e13 => ⟨_, _, _, rfl, ?_⟩
  have E13 := ext_trans E7 e13
  have hfe : findE p f = match findR p f with | some _ => 0 | none => 6 := by unfold findE; rw [if_neg g] <;> rfl
  have hfr : findR p f = findF (posL ([], 0) (nodesF f)) p := by unfold findR; rw [if_neg g]
  cases hq : findR p f with
  | none =>
    rw [hq] at hfe
    unfold lineS at h
    rw [hq, hfe] at h
    rw [hfe]
    refine br_split (fun _ => h _ E13) (fun hh => absurd (by decide) hh)
  | some x =>
    rw [hq] at hfe
    obtain ⟨f1, f2, _⟩ := findF_some (hfr ▸ hq)
    rw [posL_pat] at f2
    unfold lineS at h
    rw [hq, hfe] at h
    rw [hfe, hpS]
    refine br_split (fun hh => absurd rfl hh) (fun _ => ?_)
    exact ssl_nat (by omega) f2 (h _ E13)

theorem isNaN_spec {R : Ending → World → Prop} {w : World} (x : Int) (h : R (.returned (.bool false)) w) : Calls Tryd.prog F_cmp_isNaN_of_int ⟨[.int .i64 x]⟩ w R := by
  refine (Tryd.cmp_isNaN_int2 x w).mono ?_
  rintro e w' ⟨rfl, rfl⟩
  exact h
def cmpF (x y : Int) : Int := if x < y then -1 else if y < x then 1 else 0
theorem cmp_spec {R : Ending → World → Prop} {w : World} (x y : Int) (h : R (.returned (.int .i64 (cmpF x y))) w) : Calls Tryd.prog F_cmp_Compare_of_int ⟨[.int .i64 x, .int .i64 y]⟩ w R := by
  apply c_cmp_Compare_of_int
  refine isNaN_spec x ⟨_, rfl, isNaN_spec y ⟨_, rfl, ?_⟩⟩
  unfold cmpF at h
  refine br_split (fun g => ?_) (fun g => br_split (fun g' => ?_) (fun g' => ?_))
  · rw [if_pos g] at h; exact h
  · rw [if_neg g, if_pos g'] at h; exact h
  · rw [if_neg g, if_neg g'] at h; exact h
def cmpE (p q : Ps) (f : Fo) : Int := if findE p f ≠ 0 then findE p f else findE q f
def cmpR' (p q : Ps) (f : Fo) : Int := if cmpE p q f ≠ 0 then 0 else cmpF (fr1 (findR p f)) (fr1 (findR q f))
theorem Compare_spec {R : Ending → World → Prop} {S : Nat → Prop} {w : World} {a : Option Addr} {n c : Nat} (p q : Ps) (f : Fo) (hs : small f) (hF : Forms w) (hf0 : SlF S w a n f)
    (h : ∀ w', Ext w w' → R (.returned (.tuple ⟨[.int .i64 (cmpR' p q f), .int .i64 (cmpE p q f)]⟩)) w') :
    Calls Tryd.prog F_layout_Compare ⟨[.slice a n c, .agg ⟨[.string ⟨⟨p.1⟩⟩, .int .i64 p.2]⟩, .agg ⟨[.string ⟨⟨q.1⟩⟩, .int .i64 q.2]⟩]⟩ w R := by
  apply c_layout_Compare
  refine al_intro fun b6 w7 hb6 B6 e7 s7 => ?_
  refine al_intro fun b8 w9 hb8 B8 e9 s9 => ?_
  have E9 := ext_trans e7 e9
  obtain ⟨x0, x1⟩ := blk2 (B6.ext e9)
  refine ⟨p.1, x0, p.2, x1, ?_⟩
  refine Find_spec p f hs (hF.ext E9) (hf0.ext E9) fun w13 e13 => ⟨_, _, _, rfl, ?_⟩
  have E13 := ext_trans E9 e13
  unfold cmpR' cmpE at h
  refine br_split (fun g => ?_) (fun g => ?_)
  · simp only [if_pos g] at h; exact h _ E13
  simp only [if_neg g] at h
  obtain ⟨y0, y1⟩ := blk2 (B8.ext e13)
  refine ⟨q.1, y0, q.2, y1, ?_⟩
  refine Find_spec q f hs (hF.ext E13) (hf0.ext E13) fun w20 e20 => ⟨_, _, _, rfl, ?_⟩
  have E20 := ext_trans E13 e20
  refine br_split (fun g' => ?_) (fun g' => ?_)
  · simp only [if_pos g'] at h; exact h _ E20
  · simp only [if_neg g'] at h
    rw [Decidable.not_not.1 g'] at h
    exact cmp_spec _ _ ⟨_, rfl, h _ E20⟩

theorem Index_spec {R : Ending → World → Prop} {S : Nat → Prop} {w : World} {a : Option Addr} {n c : Nat} {L : List Ps} (p : Ps) (hL : RowAt encP S w a n L) (hs : n ≤ 4611686018427387904)
    (h : ∀ (i : Int) w', (0 ≤ i ↔ p ∈ L) → Ext w w' → R (.returned (.int .i64 i)) w') : Calls Tryd.prog F_slices_Index_of_api_Position_api_Position ⟨[.slice a n c, .agg ⟨[.string ⟨⟨p.1⟩⟩, .int .i64 p.2]⟩]⟩ w R := by
  apply c_slices_Index_of_api_Position_api_Position
  refine al_intro fun b4 w5 hb4 B4 e5 s5 => ?_
  have e1 := hL.1
  refine ⟨fun i W m => ∃ k : Nat, i = k ∧ k ≤ n ∧ m = n - k ∧ p ∉ L.take k ∧ Ext w5 W, ⟨_, 0, rfl, by omega, rfl, by simp, Below.refl _ _⟩, ?_⟩
  rintro _ W m ⟨k, rfl, hk, rfl, ht, he⟩ _
  refine br_split (fun hlt => ?_) (fun hge => ?_)
  · unfold drw
    have ed := ext_trans he (ext_drew W)
    have hkL : k < L.length := by omega
    have hx : L[k]? = some L[k] := by simp [hkL]
    obtain ⟨bb, o, hq, _, _, hc⟩ := ((hL.ext e5).ext ed).get hx
    obtain ⟨x0, x1⟩ := blk2 (B4.ext ed)
    refine ⟨p.1, x0, p.2, x1, hq _ ⟨L[k].1, by rw [add_none]; exact hc 0 _ rfl, L[k].2, by rw [add_none]; exact hc 1 _ rfl, ?_⟩⟩
    have hdec : (decide (p.1 = L[k].1) && (decide (p.2 = L[k].2) && true)) = decide (p = L[k]) := by
      rw [Bool.and_true, ← Bool.decide_and, decide_eq_decide, Prod.ext_iff]
    rw [hdec]
    refine br_split (fun g => ?_) (fun g => ?_)
    · exact h _ _ ⟨fun _ => by rw [g]; exact List.getElem_mem hkL, fun _ => by omega⟩ (ext_trans e5 ed)
    · refine ⟨n - (k + 1), by omega, k + 1, by rw [wrap_nat (by omega)], by omega, rfl, ?_, ed⟩
      rw [List.take_add_one, hx, List.mem_append]
      rintro (hh | hh)
      · exact ht hh
      · exact g (by simpa using hh)
  · have : k = n := by omega
    subst this
    rw [List.take_of_length_le (by omega)] at ht
    exact h _ _ ⟨fun hh => by omega, fun hh => absurd hh ht⟩ (ext_trans e5 he)
theorem Contains_spec {R : Ending → World → Prop} {S : Nat → Prop} {w : World} {a : Option Addr} {n c : Nat} {L : List Ps} (p : Ps) (hL : RowAt encP S w a n L) (hs : n ≤ 4611686018427387904)
    (h : ∀ w', Ext w w' → R (.returned (.bool (decide (p ∈ L)))) w') : Calls Tryd.prog F_slices_Contains_of_api_Position_api_Position ⟨[.slice a n c, .agg ⟨[.string ⟨⟨p.1⟩⟩, .int .i64 p.2]⟩]⟩ w R := by
  apply c_slices_Contains_of_api_Position_api_Position
  refine al_intro fun b4 w5 hb4 B4 e5 s5 => ?_
  obtain ⟨x0, x1⟩ := blk2 B4
  refine ⟨p.1, x0, p.2, x1, ?_⟩
  refine Index_spec p (hL.ext e5) hs fun i w' hi he => ⟨_, rfl, ?_⟩
  rw [show decide ((0 : Int) ≤ i) = decide (p ∈ L) by rw [decide_eq_decide]; exact hi]
  exact h _ (ext_trans e5 he)
end Go.Proofs
namespace Go.Proofs
open Go Go.Sh Go.RowKit

set_option maxRecDepth 20000 in
theorem LayoutFind_spec {R : Ending → World → Prop} {S : Nat → Prop} {w : World} {a : Option Addr} {n c : Nat} (f : Fo) (p : Ps) (hF : Forms w) (hf0 : SlF S w a n f)
    (h : ∀ w', Ext w w' → R (.returned (.bool true)) w') : Calls Tryd.prog F_law13_LayoutFind ⟨[.slice a n c, .agg ⟨[.string ⟨⟨p.1⟩⟩, .int .i64 p.2]⟩]⟩ w R := by
  apply c_law13_LayoutFind
  refine al_intro fun b4 w5 hb4 B4 e5 s5 => ?_
  refine fine13_spec f (hF.ext e5) (hf0.ext e5) fun w7 e7 => ⟨_, _, rfl, ?_⟩
  have E7 := ext_trans e5 e7
  have aw : ∀ {K : Ending → World → Prop} W, Ext w W → (∀ w', Ext w w' → K (.returned (.bool true)) w') → Calls Tryd.prog F_law13_awake ⟨[]⟩ W fun e w' => ∃ x : Bool, e = .returned (.bool x) ∧ K (.returned (.bool x)) w' :=
    fun W hx hK => awake13_spec (hF.ext hx) fun w10 e10 => ⟨_, rfl, hK _ (ext_trans hx e10)⟩
  cases hfin : fin13 f with
  | false => exact aw _ E7 h
  | true =>
  obtain ⟨hgr, hpz⟩ := fin13_true hfin
  have hs := great10_small hgr
  obtain ⟨hc0, _, hpl, hpS⟩ := patE_zero hpz
  have hpe : posE ([], 0) f = 0 := by unfold posE; simp [hpz]
  have hpr : posR ([], 0) f = posL ([], 0) (nodesF f) := by unfold posR; rw [if_neg (by simp [hpe])]
  have hfe : findE p f = match findR p f with | some _ => 0 | none => 6 := by unfold findE; rw [if_neg (by simp [hpz])] <;> rfl
  have hfr : findR p f = findF (posL ([], 0) (nodesF f)) p := by unfold findR; rw [if_neg (by simp [hpz])]
  simp only [if_true, Bool.not_true, br_f]
  refine Positions_spec ([], 0) f hs (hF.ext E7) (hf0.ext E7) fun a2 c2 w14 hr2 e14 => ⟨_, _, _, _, rfl, ?_⟩
  have E14 := ext_trans E7 e14
  obtain ⟨x0, x1⟩ := blk2 ((B4.ext e7).ext e14)
  refine ⟨p.1, x0, p.2, x1, ?_⟩
  refine Find_spec p f hs (hF.ext E14) (hf0.ext E14) fun w20 e20 => ⟨_, _, _, rfl, ?_⟩
  have E20 := ext_trans E14 e20
  obtain ⟨y0, y1⟩ := blk2 (((B4.ext e7).ext e14).ext e20)
  refine ⟨p.1, y0, p.2, y1, ?_⟩
  refine Line_spec p f hs (hF.ext E20) (hf0.ext E20) fun w27 e27 => ⟨_, _, rfl, ?_⟩
  have E27 := ext_trans E20 e27
  have B27 := (((B4.ext e7).ext e14).ext e20).ext e27
  rw [hpr] at hr2
  rw [hpr, hpe]
  have hr27 := (hr2.ext e20).ext e27
  have hLL := posL_pat ([], 0) f
  intro K30 hK30
  have k30 : K30 w27 := by
    refine hK30 _ fun _ => ?_
    cases hq : findR p f with
    | none =>
      rw [hq] at hfe
      have hno := findF_none (hfr ▸ hq)
      have hl : lineS p f = [] := by unfold lineS; rw [hq]
      rw [hfe, hl]
      refine br_split (fun _ => br_split (fun _ => br_split (fun _ => br_split (fun _ => br_split (fun _ => ?_) (fun hh => absurd rfl hh)) (fun hh => absurd rfl hh)) (fun hh => absurd rfl hh)) (fun hh => absurd rfl hh)) (fun hh => absurd (by decide) hh)
      obtain ⟨z0, z1⟩ := blk2 B27
      refine ⟨p.1, z0, p.2, z1, ?_⟩
      refine Contains_spec p hr27 (by rw [hLL]; omega) fun w35 e35 => ⟨_, rfl, ?_⟩
      rw [decide_eq_false (fun hm => hno p hm rfl)]
      exact aw _ (ext_trans E27 e35) h
    | some x =>
      rw [hq] at hfe
      obtain ⟨f1, f2, f3, f4, f5⟩ := findF_some (hfr ▸ hq)
      have hl : lineS p f = ((patF f).take x.2).drop x.1 := by unfold lineS; rw [hq]
      rw [hfe, hl]
      generalize posL ([], 0) (nodesF f) = L at *
      refine br_split (fun hh => absurd rfl hh) (fun _ => ?_)
      intro K40 hK40
      have k40 : K40 w27 := by
        refine hK40 _ fun _ => ?_
        refine ⟨fun i W m => ∃ k : Nat, i = k ∧ k ≤ x.2 ∧ m = x.2 - k ∧ Ext w27 W, ⟨_, 0, rfl, by omega, rfl, Below.refl _ _⟩, ?_⟩
        rintro _ W m ⟨k, rfl, hk, rfl, he⟩ _
        have ed := ext_trans he (ext_drew W)
        have E47 := ext_trans E27 ed
        obtain ⟨z0, z1⟩ := blk2 (B27.ext ed)
        have hr47 := hr27.ext ed
        refine br_split (fun g => ?_) (fun g => ?_)
        · unfold drw
          have hkx : k < x.2 := by have : (k : Int) < (x.2 : Int) := g; omega
          have hkL : k < L.length := by omega
          have hx : L[k]? = some L[k] := by simp [hkL]
          obtain ⟨bb, o, hq', _, _, hc⟩ := hr47.get hx
          refine hq' _ ⟨L[k].1, by rw [add_none]; exact hc 0 _ rfl, L[k].2, by rw [add_none]; exact hc 1 _ rfl, p.1, z0, p.2, z1, ?_⟩
          have hdec : (decide (L[k].1 = p.1) && (decide (L[k].2 = p.2) && true)) = decide (L[k]? = some p) := by
            rw [hx, Bool.and_true, ← Bool.decide_and, decide_eq_decide, Option.some.injEq, Prod.ext_iff]
          have hiff : decide (L[k]? = some p) = decide (fr1 (some x) ≤ (k : Int)) := by
            rw [decide_eq_decide]
            show _ ↔ (x.1 : Int) ≤ k
            constructor
            · intro hh; apply Classical.byContradiction; intro hc; exact f4 k (by omega) hh
            · intro hh; exact f3 k (by omega) hkx
          rw [hdec]
          refine br_split (fun hh => absurd hiff hh) (fun _ => ⟨x.2 - (k + 1), by omega, k + 1, by rw [wrap_nat (by omega)], by omega, rfl, ed⟩)
        · have hkx : k = x.2 := by have : ¬ (k : Int) < (x.2 : Int) := g; omega
          unfold drw
          refine br_split (fun g1 => ⟨aw _ E47 h, trivial⟩) (fun g1 => ?_)
          have hkL : x.2 < L.length := by have : ¬ (x.2 : Int) = (L.length : Int) := g1; omega
          have hx : L[x.2]? = some L[x.2] := by simp [hkL]
          obtain ⟨bb, o, hq', _, _, hc⟩ := hr47.get hx
          refine hq' _ ⟨L[x.2].1, by rw [add_none]; exact hc 0 _ rfl, L[x.2].2, by rw [add_none]; exact hc 1 _ rfl, p.1, z0, p.2, z1, ?_, trivial⟩
          have hdec : (decide (L[x.2].1 = p.1) && (decide (L[x.2].2 = p.2) && true)) = decide (L[x.2]? = some p) := by
            rw [hx, Bool.and_true, ← Bool.decide_and, decide_eq_decide, Option.some.injEq, Prod.ext_iff]
          rw [hdec, decide_eq_false (f5 hkL)]
          exact aw _ E47 h
      have e1 : fr1 (some x) = (x.1 : Int) := rfl
      have e2 : fr2 (some x) = (x.2 : Int) := rfl
      rw [e1, e2] at hK40 ⊢
      refine br_split (fun hh => absurd hh (by omega)) (fun _ => br_split (fun hh => absurd hh (by omega)) (fun _ => br_split (fun hh => absurd hh (by omega)) (fun _ => br_split (fun hh => absurd (by rw [hLL]) hh) (fun _ => ?_))))
      refine ssl_nat (by omega) (by rw [← hLL]; exact f2) ?_
      exact br_split (fun hh => absurd rfl hh) (fun _ => k40)
  exact br_split (fun hh => absurd rfl hh) (fun _ => br_split (fun hh => absurd rfl hh) (fun _ => k30))

set_option maxRecDepth 20000 in
theorem LayoutOrder_spec {R : Ending → World → Prop} {S : Nat → Prop} {w : World} {a : Option Addr} {n c : Nat} (f : Fo) (p q : Ps) (hF : Forms w) (hf0 : SlF S w a n f)
    (h : ∀ w', Ext w w' → R (.returned (.bool true)) w') : Calls Tryd.prog F_law13_LayoutOrder ⟨[.slice a n c, .agg ⟨[.string ⟨⟨p.1⟩⟩, .int .i64 p.2]⟩, .agg ⟨[.string ⟨⟨q.1⟩⟩, .int .i64 q.2]⟩]⟩ w R := by
  apply c_law13_LayoutOrder
  refine al_intro fun b6 w7 hb6 B6 e7 s7 => ?_
  refine al_intro fun b8 w9 hb8 B8 e9 s9 => ?_
  have E9 := ext_trans e7 e9
  refine fine13_spec f (hF.ext E9) (hf0.ext E9) fun w11 e11 => ⟨_, _, rfl, ?_⟩
  have E11 := ext_trans E9 e11
  have aw : ∀ {K : Ending → World → Prop} W, Ext w W → (∀ w', Ext w w' → K (.returned (.bool true)) w') → Calls Tryd.prog F_law13_awake ⟨[]⟩ W fun e w' => ∃ x : Bool, e = .returned (.bool x) ∧ K (.returned (.bool x)) w' :=
    fun W hx hK => awake13_spec (hF.ext hx) fun w10 e10 => ⟨_, rfl, hK _ (ext_trans hx e10)⟩
  cases hfin : fin13 f with
  | false => exact aw _ E11 h
  | true =>
  obtain ⟨hgr, hpz⟩ := fin13_true hfin
  have hs := great10_small hgr
  have hfe : ∀ p, findE p f = match findR p f with | some _ => 0 | none => 6 := fun p => by unfold findE; rw [if_neg (by simp [hpz])] <;> rfl
  have hfr : ∀ p, findR p f = findF (posL ([], 0) (nodesF f)) p := fun p => by unfold findR; rw [if_neg (by simp [hpz])]
  have B6' := (B6.ext e9).ext e11
  have B8' := B8.ext e11
  simp only [if_true, Bool.not_true, br_f]
  obtain ⟨x0, x1⟩ := blk2 B6'
  obtain ⟨y0, y1⟩ := blk2 B8'
  refine ⟨p.1, x0, p.2, x1, q.1, y0, q.2, y1, ?_⟩
  refine Compare_spec p q f hs (hF.ext E11) (hf0.ext E11) fun w22 e22 => ⟨_, _, rfl, ?_⟩
  have E22 := ext_trans E11 e22
  obtain ⟨x0, x1⟩ := blk2 (B6'.ext e22)
  obtain ⟨y0, y1⟩ := blk2 (B8'.ext e22)
  refine ⟨q.1, y0, q.2, y1, p.1, x0, p.2, x1, ?_⟩
  refine Compare_spec q p f hs (hF.ext E22) (hf0.ext E22) fun w30 e30 => ⟨_, _, rfl, ?_⟩
  have E30 := ext_trans E22 e30
  obtain ⟨x0, x1⟩ := blk2 ((B6'.ext e22).ext e30)
  refine ⟨p.1, x0, p.2, x1, ?_⟩
  refine Find_spec p f hs (hF.ext E30) (hf0.ext E30) fun w36 e36 => ⟨_, _, _, rfl, ?_⟩
  have E36 := ext_trans E30 e36
  obtain ⟨y0, y1⟩ := blk2 (((B8'.ext e22).ext e30).ext e36)
  refine ⟨q.1, y0, q.2, y1, ?_⟩
  refine Find_spec q f hs (hF.ext E36) (hf0.ext E36) fun w43 e43 => ⟨_, _, _, rfl, ?_⟩
  have E43 := ext_trans E36 e43
  have B643 := (((B6'.ext e22).ext e30).ext e36).ext e43
  have B843 := (((B8'.ext e22).ext e30).ext e36).ext e43
  intro K47 hK47
  have k47 : ∀ v, v = (decide (findE p f ≠ 0) || decide (findE q f ≠ 0)) → K47 v w43 := by
    rintro _ rfl
    refine hK47 _ _ fun _ => ?_
    have ep := hfe p
    have eq' := hfe q
    unfold cmpR' cmpE
    cases hp : findR p f with
    | none =>
      rw [hp] at ep
      simp only [ep]
      have e6 : (if findE q f ≠ 0 then findE q f else (6 : Int)) = 6 := by
        split
        · rw [eq']; cases hq : findR q f with
          | none => rfl
          | some y => rename_i hh; rw [eq', hq] at hh; exact absurd rfl hh
        · rfl
      rw [e6]
      refine br_cases (fun _ => ?_) (fun hh => absurd hh (by simp))
      refine br_split (fun _ => br_split (fun _ => br_split (fun _ => br_split (fun _ => aw _ E43 h) (fun hh => absurd rfl hh)) (fun hh => absurd rfl hh)) (fun hh => absurd rfl hh)) (fun hh => absurd rfl hh)
    | some x =>
      rw [hp] at ep
      cases hq : findR q f with
      | none =>
        rw [hq] at eq'
        simp only [ep, eq']
        refine br_cases (fun _ => ?_) (fun hh => absurd hh (by simp))
        refine br_split (fun _ => br_split (fun _ => br_split (fun _ => br_split (fun _ => aw _ E43 h) (fun hh => absurd rfl hh)) (fun hh => absurd rfl hh)) (fun hh => absurd rfl hh)) (fun hh => absurd rfl hh)
      | some y =>
        rw [hq] at eq'
        obtain ⟨f1, f2, f3, f4, f5⟩ := findF_some (hfr p ▸ hp)
        obtain ⟨g1, g2, g3, g4, g5⟩ := findF_some (hfr q ▸ hq)
        simp only [ep, eq']
        have hneg : cmpF (fr1 (some x)) (fr1 (some y)) = IntKind.i64.wrap (0 - cmpF (fr1 (some y)) (fr1 (some x))) := by
          unfold cmpF
          rcases Int.lt_trichotomy (fr1 (some x)) (fr1 (some y)) with hh | hh | hh
          · rw [if_pos hh, if_neg (by omega), if_pos hh]; decide
          · rw [if_neg (by omega), if_neg (by omega), if_neg (by omega), if_neg (by omega)]; decide
          · rw [if_neg (by omega), if_pos hh, if_pos hh]; decide
        have hlt : decide (cmpF (fr1 (some x)) (fr1 (some y)) < 0) = decide (fr1 (some x) < fr1 (some y)) := by
          rw [decide_eq_decide]; unfold cmpF; split
          · simp_all
          · split <;> simp_all
        have hpq : decide (cmpF (fr1 (some x)) (fr1 (some y)) = 0) = (decide (p.1 = q.1) && (decide (p.2 = q.2) && true)) := by
          rw [Bool.and_true, ← Bool.decide_and, decide_eq_decide, ← Prod.ext_iff]
          have hxy : cmpF (fr1 (some x)) (fr1 (some y)) = 0 ↔ x.1 = y.1 := by
            unfold cmpF
            show (if (x.1 : Int) < y.1 then (-1 : Int) else if (y.1 : Int) < x.1 then 1 else 0) = 0 ↔ x.1 = y.1
            split
            · constructor
              · intro hh; cases hh
              · intro hh; omega
            · split
              · constructor
                · intro hh; cases hh
                · intro hh; omega
              · constructor
                · intro _; omega
                · intro _; rfl
          rw [hxy]
          constructor
          · intro hh
            have a1 := f3 x.1 (Nat.le_refl _) f1
            have a2 := g3 y.1 (Nat.le_refl _) g1
            rw [hh, a2] at a1
            exact (Option.some.inj a1).symm
          · rintro rfl
            rw [hp] at hq
            rw [Option.some.inj hq]
        refine br_cases (fun hh => absurd hh (by simp)) (fun _ => ?_)
        refine br_split (fun _ => br_split (fun _ => ?_) (fun hh => absurd rfl hh)) (fun hh => absurd rfl hh)
        simp only [ne_eq, not_true_eq_false, if_false]
        refine br_split (fun _ => ?_) (fun hh => absurd hneg hh)
        refine br_split (fun _ => ?_) (fun hh => absurd hlt hh)
        obtain ⟨x0, x1⟩ := blk2 B643
        obtain ⟨y0, y1⟩ := blk2 B843
        refine ⟨p.1, x0, p.2, x1, q.1, y0, q.2, y1, ?_⟩
        exact br_split (fun _ => aw _ E43 h) (fun hh => absurd hpq hh)
  refine br_split (fun g => k47 _ ?_) (fun g => k47 _ ?_)
  · rw [decide_eq_true g]; rfl
  · rw [decide_eq_false g]; rfl
end Go.Proofs
namespace Go.Proofs
open Go Go.Sh Go.RowKit

/- growing the nil slice: room is made, nothing is held -/
theorem grow_nil {P : Program} {t tn ty e : TypeId} {size bytes : Nat} {z : Value} (hT : SlT P t e size bytes z) (htn : P.underlying tn = some (.int .i64)) {w : World} {B : Nat} (hB : B ≤ w.heap.size) (k : Nat) (h0 : 0 < k) (hb : k * bytes ≤ 140737488355328) (hk63 : k ≤ 4611686018427387904)
    {K : Option Addr → Nat → Nat → World → Prop} (hk : ∀ (c : Nat) w', Owns w' B e size (some ⟨w.heap.size, 0, none⟩) 0 c [] → Ext w w' → K (some ⟨w.heap.size, 0, none⟩) k c w') :
    app P [t, tn] ty (.slice none 0 0) (.int .i64 (k : Int)) w K := by
  obtain ⟨i, hi, hz, hs, hbb⟩ := hT.get
  have hpos := hT.pos
  have hr := Lib.run_append_grow_zeros (P := P) w t tn ty e i z .i64 .i64 hT.under htn hi hz none 0 0 [] (run_firstCells_none w.drew i.size 0 0 0) k h0 (by omega) (by omega) (by omega) (by rw [hbb]; omega) (by
    rw [hbb]; exact growslice_fits (by omega) (by rw [Nat.zero_add]; omega))
  rw [Nat.zero_add] at hr
  refine ⟨_, _, _, _, hr, hk _ _ ?_ (ext_trans (ext_drew w) ((Below.refl _ _).alloc (Nat.le_refl _) _))⟩
  refine ⟨by simp, .inr ⟨w.heap.size, _, #[] ++ Builtin.zeroCells z.cells k ++ Builtin.zeroCells z.cells (grownCap w k 0 e - k), rfl, hB, ?_, Nat.zero_le _, grownCap_le_maxLen w k 0 e (by simp only [maxLen]; omega), ?_, by simp⟩⟩
  · exact heap_alloc_new w.drew _
  · have hge := grownCap_ge w k 0 e
    have hzs : z.cells.size = i.size := by rw [hT.zs, hs]
    simp only [Builtin.zeroCells, Array.size_append, Array.size_map, Array.size_range, hzs, hs, List.size_toArray, List.length_nil, Nat.zero_add]
    rw [← Nat.add_mul]
    congr 1
    omega
end Go.Proofs
namespace Go.Proofs
open Go Go.Sh Go.RowKit

theorem slA_zero (b c s : Nat) : slA (some ⟨b, 0, none⟩) c 0 s = some ⟨b, 0, none⟩ := by
  unfold slA; split <;> simp [Addr.add]
theorem GrowN_spec {R : Ending → World → Prop} {w : World} {S : Nat → Prop} (k : Nat) (hk : k ≤ 1000000000000) (h : ∀ a c w', OwnF 45 S w.heap.size w' a 0 c .nil → Ext w w' → R (.returned (.slice a 0 c)) w') :
    Calls Tryd.prog F_slices_Grow_of_api_Node_api_Node ⟨[.slice none 0 0, .int .i64 (k : Int)]⟩ w R := by
  apply c_slices_Grow_of_api_Node_api_Node
  intro K3 hK3
  have k3 : K3 w := by
    refine hK3 _ fun _ => ?_
    have e0 : IntKind.i64.wrap ((k : Int) - IntKind.i64.wrap (((0 : Nat) : Int) - ((0 : Nat) : Int))) = (k : Int) := by
      rw [wrap_id (n := ((0 : Nat) : Int) - ((0 : Nat) : Int)) (by omega), wrap_id (by omega)]; omega
    rw [e0]
    refine br_split (fun g => ?_) (fun g => h none 0 w (OwnF.nil _) (Below.refl _ _))
    refine ⟨by simp, by simp, by simp, ?_⟩
    show app Tryd.prog [24, 3] 24 (.slice none 0 0) (.int .i64 (k : Int)) w _
    refine grow_nil slT_node (by kernel_rfl) (Nat.le_refl _) k (by omega) (by omega) (by omega) fun c w' ho he => ?_
    refine ⟨by simp, by simp, by simp, ?_⟩
    show R (.returned (.slice (slA (some ⟨w.heap.size, 0, none⟩) c 0 4) 0 c)) w'
    rw [slA_zero]
    exact h _ c w' ⟨rfl, [], ho, rfl⟩ he
  exact br_split (fun hh => absurd hh (by omega)) (fun _ => k3)

def encSl : Enc (Option Addr × Nat × Nat) := ⟨fun x => [.slice x.1 x.2.1 x.2.2], 1, fun _ => rfl, by decide, by intro x v hv; simp only [List.mem_singleton] at hv; subst hv; rfl⟩
def catF : List Fo → Fo
  | [] => .nil
  | g :: gs => g.app (catF gs)
theorem catF_snoc : ∀ (gs : List Fo) (g : Fo), catF (gs ++ [g]) = (catF gs).app g
  | [], g => by simp [catF]
  | x :: gs, g => by simp only [List.cons_append, catF, catF_snoc gs, Fo.app_assoc]
theorem catF_take {gs : List Fo} {k : Nat} {g : Fo} (h : gs[k]? = some g) : catF (gs.take (k + 1)) = (catF (gs.take k)).app g := by
  rw [List.take_add_one, h]; exact catF_snoc _ _
theorem catF_len : ∀ (gs : List Fo) (k : Nat), (catF (gs.take k)).len ≤ (catF gs).len
  | [], k => by simp [catF]
  | g :: gs, 0 => by simp [catF]
  | g :: gs, k + 1 => by
    have := catF_len gs k
    simp only [List.take_succ_cons, catF, Fo.len_app]; omega

set_option maxRecDepth 20000 in
theorem ConcatN_spec {R : Ending → World → Prop} {w : World} {S S' : Nat → Prop} {sa : Option Addr} {sn sc : Nat} (xs : List (Option Addr × Nat × Nat)) (gs : List Fo) (hx : RowAt encSl S' w sa sn xs) (hl : xs.length = gs.length) (hn : gs.length ≤ 1000)
    (hg : ∀ (i : Nat) (x : Option Addr × Nat × Nat) (g : Fo), xs[i]? = some x → gs[i]? = some g → SlF S w x.1 x.2.1 g) (hsum : (catF gs).len ≤ 1000000000000)
    (h : ∀ a n c w', OwnF 45 (fun k => S k ∧ k < w.heap.size) w.heap.size w' a n c (catF gs) → Ext w w' → R (.returned (.slice a n c)) w') :
    Calls Tryd.prog F_slices_Concat_of_api_Node_api_Node ⟨[.slice sa sn sc]⟩ w R := by
  apply c_slices_Concat_of_api_Node_api_Node
  have hn0 := hx.1
  refine ⟨fun sz i W m => ∃ k : Nat, i = k ∧ k ≤ sn ∧ m = sn - k ∧ sz = (catF (gs.take k)).len ∧ W = w, ⟨_, 0, rfl, by omega, rfl, rfl, rfl⟩, ?_⟩
  rintro _ _ W m ⟨k, rfl, hk, rfl, rfl, rfl⟩ _
  refine br_split (fun g => ?_) (fun g => ?_)
  · have hkx : k < xs.length := by omega
    have hxk : xs[k]? = some xs[k] := by simp [hkx]
    have hgk : gs[k]? = some (gs[k]'(by omega)) := by simp
    obtain ⟨b, o, hq, _, _, hc⟩ := hx.get hxk
    have hsl := (hg k _ _ hxk hgk).1
    have ht := catF_take hgk
    have hle := catF_len gs (k + 1)
    rw [ht, Fo.len_app] at hle
    refine hq _ ⟨_, _, _, hc 0 _ rfl, ?_⟩
    have e0 : IntKind.i64.wrap ((((catF (gs.take k)).len : Nat) : Int) + ((xs[k].2.1 : Nat) : Int)) = (((catF (gs.take (k + 1))).len : Nat) : Int) := by
      rw [ht, Fo.len_app, ← hsl, wrap_id (by omega)]; omega
    rw [e0]
    refine br_split (fun hh => absurd hh (by omega)) (fun _ => ⟨sn - (k + 1), by omega, k + 1, by rw [wrap_nat (by omega)], by omega, rfl, rfl, rfl⟩)
  · have : k = sn := by omega
    subst this
    rw [List.take_of_length_le (by omega)]
    refine GrowN_spec (S := fun k => S k ∧ k < W.heap.size) (catF gs).len hsum fun a c w12 ho e12 => ⟨_, _, _, rfl, ?_⟩
    have z12 := e12.size
    refine ⟨fun oa on oc i W2 m => ∃ k2 : Nat, i = k2 ∧ k2 ≤ k ∧ m = k - k2 ∧ OwnF 45 (fun k => S k ∧ k < W.heap.size) W.heap.size W2 oa on oc (catF (gs.take k2)) ∧ Ext W W2, ⟨_, 0, rfl, by omega, rfl, ho, e12⟩, ?_⟩
    rintro oa on oc _ W2 m ⟨k2, rfl, hk2, rfl, ho2, he2⟩ _
    refine br_split (fun g2 => ?_) (fun g2 => ?_)
    · have hkx : k2 < xs.length := by omega
      have hxk : xs[k2]? = some xs[k2] := by simp [hkx]
      have hgk : gs[k2]? = some (gs[k2]'(by omega)) := by simp
      obtain ⟨b, o, hq, _, _, hc⟩ := (hx.ext he2).get hxk
      have hsl := (hg k2 _ _ hxk hgk)
      have hsl1 := hsl.1
      have ht := catF_take hgk
      have hle := catF_len gs (k2 + 1)
      rw [ht, Fo.len_app] at hle
      have hol := ho2.len
      have z2 := he2.size
      refine hq _ ⟨_, _, _, hc 0 _ rfl, ?_⟩
      refine OwnF.pushAll slT_node ho2 z2 (g := gs[k2]) ((hsl.imp fun j hj hlj => ⟨hj, hlj⟩).keep (S := fun j => S j ∧ j < W.heap.size) (fun j hj _ => ⟨⟨.inl hj, fun hb => by have := (ho2.bk hb).1; omega⟩, he2.block j hj.2⟩) z2) (by omega) (by omega) fun a'' n'' c'' w' ho' hc' => ?_
      refine ⟨k - (k2 + 1), by omega, k2 + 1, by rw [wrap_nat (by omega)], by omega, rfl, by rw [ht]; exact ho', ext_chgS he2 hc' fun j hj => (ho2.bk hj).1⟩
    · have : k2 = k := by omega
      subst this
      rw [List.take_of_length_le (by omega)] at ho2
      exact h _ _ _ _ ho2 he2
end Go.Proofs
namespace Go.Proofs
open Go Go.Sh Go.RowKit

theorem GrowP_spec {R : Ending → World → Prop} {w : World} (k : Nat) (hk : k ≤ 1000000000000) (h : ∀ a c w', OwnL encP w' w.heap.size 23 a 0 c [] → Ext w w' → R (.returned (.slice a 0 c)) w') :
    Calls Tryd.prog F_slices_Grow_of_api_Position_api_Position ⟨[.slice none 0 0, .int .i64 (k : Int)]⟩ w R := by
  apply c_slices_Grow_of_api_Position_api_Position
  intro K3 hK3
  have k3 : K3 w := by
    refine hK3 _ fun _ => ?_
    have e0 : IntKind.i64.wrap ((k : Int) - IntKind.i64.wrap (((0 : Nat) : Int) - ((0 : Nat) : Int))) = (k : Int) := by
      rw [wrap_id (n := ((0 : Nat) : Int) - ((0 : Nat) : Int)) (by omega), wrap_id (by omega)]; omega
    rw [e0]
    refine br_split (fun g => ?_) (fun g => h none 0 w (Owns.nil _ _ _ _) (Below.refl _ _))
    refine ⟨by simp, by simp, by simp, ?_⟩
    show app Tryd.prog [27, 3] 27 (.slice none 0 0) (.int .i64 (k : Int)) w _
    refine grow_nil slT_pos (by kernel_rfl) (Nat.le_refl _) k (by omega) (by omega) (by omega) fun c w' ho he => ?_
    refine ⟨by simp, by simp, by simp, ?_⟩
    show R (.returned (.slice (slA (some ⟨w.heap.size, 0, none⟩) c 0 2) 0 c)) w'
    rw [slA_zero]
    exact h _ c w' ho he
  exact br_split (fun hh => absurd hh (by omega)) (fun _ => k3)

theorem flat_take {gs : List (List Ps)} {k : Nat} {g : List Ps} (h : gs[k]? = some g) : (gs.take (k + 1)).flatten = (gs.take k).flatten ++ g := by
  rw [List.take_add_one, h]; simp
theorem flat_len (gs : List (List Ps)) (k : Nat) : ((gs.take k).flatten).length ≤ gs.flatten.length := by
  have e : gs.flatten = (gs.take k).flatten ++ (gs.drop k).flatten := by rw [← List.flatten_append, List.take_append_drop]
  rw [e, List.length_append]; omega

set_option maxRecDepth 20000 in
theorem ConcatP_spec {R : Ending → World → Prop} {w : World} {S S' : Nat → Prop} {sa : Option Addr} {sn sc : Nat} (xs : List (Option Addr × Nat × Nat)) (gs : List (List Ps)) (hx : RowAt encSl S' w sa sn xs) (hl : xs.length = gs.length) (hn : gs.length ≤ 1000)
    (hg : ∀ (i : Nat) (x : Option Addr × Nat × Nat) (g : List Ps), xs[i]? = some x → gs[i]? = some g → RowAt encP S w x.1 x.2.1 g) (hsum : gs.flatten.length ≤ 1000000000000)
    (h : ∀ a n c w', OwnL encP w' w.heap.size 23 a n c gs.flatten → Ext w w' → R (.returned (.slice a n c)) w') :
    Calls Tryd.prog F_slices_Concat_of_api_Position_api_Position ⟨[.slice sa sn sc]⟩ w R := by
  apply c_slices_Concat_of_api_Position_api_Position
  have hn0 := hx.1
  refine ⟨fun sz i W m => ∃ k : Nat, i = k ∧ k ≤ sn ∧ m = sn - k ∧ sz = ((gs.take k).flatten).length ∧ W = w, ⟨_, 0, rfl, by omega, rfl, rfl, rfl⟩, ?_⟩
  rintro _ _ W m ⟨k, rfl, hk, rfl, rfl, rfl⟩ _
  refine br_split (fun g => ?_) (fun g => ?_)
  · have hkx : k < xs.length := by omega
    have hxk : xs[k]? = some xs[k] := by simp [hkx]
    have hgk : gs[k]? = some (gs[k]'(by omega)) := by simp
    obtain ⟨b, o, hq, _, _, hc⟩ := hx.get hxk
    have hsl := (hg k _ _ hxk hgk).1
    have ht := flat_take hgk
    have hle := flat_len gs (k + 1)
    rw [ht, List.length_append] at hle
    refine hq _ ⟨_, _, _, hc 0 _ rfl, ?_⟩
    have e0 : IntKind.i64.wrap ((((gs.take k).flatten.length : Nat) : Int) + ((xs[k].2.1 : Nat) : Int)) = (((gs.take (k + 1)).flatten.length : Nat) : Int) := by
      rw [ht, List.length_append, ← hsl, wrap_id (by omega)]; omega
    rw [e0]
    refine br_split (fun hh => absurd hh (by omega)) (fun _ => ⟨sn - (k + 1), by omega, k + 1, by rw [wrap_nat (by omega)], by omega, rfl, rfl, rfl⟩)
  · have : k = sn := by omega
    subst this
    rw [List.take_of_length_le (by omega)]
    refine GrowP_spec gs.flatten.length hsum fun a c w12 ho e12 => ⟨_, _, _, rfl, ?_⟩
    have z12 := e12.size
    refine ⟨fun oa on oc i W2 m => ∃ k2 : Nat, i = k2 ∧ k2 ≤ k ∧ m = k - k2 ∧ OwnL encP W2 W.heap.size 23 oa on oc (gs.take k2).flatten ∧ Ext W W2, ⟨_, 0, rfl, by omega, rfl, ho, e12⟩, ?_⟩
    rintro oa on oc _ W2 m ⟨k2, rfl, hk2, rfl, ho2, he2⟩ _
    refine br_split (fun g2 => ?_) (fun g2 => ?_)
    · have hkx : k2 < xs.length := by omega
      have hxk : xs[k2]? = some xs[k2] := by simp [hkx]
      have hgk : gs[k2]? = some (gs[k2]'(by omega)) := by simp
      obtain ⟨b, o, hq, _, _, hc⟩ := (hx.ext he2).get hxk
      have hsl := (hg k2 _ _ hxk hgk)
      have hsl1 := hsl.1
      have ht := flat_take hgk
      have hle := flat_len gs (k2 + 1)
      rw [ht, List.length_append] at hle
      have hol := ho2.length
      have z2 := he2.size
      refine hq _ ⟨_, _, _, hc 0 _ rfl, ?_⟩
      refine OwnL.pushAll slT_pos ho2 z2 (hsl.ext he2) (by omega) (by omega) fun a'' c'' w' ho' hc' _ => ?_
      refine ⟨k - (k2 + 1), by omega, k2 + 1, by rw [wrap_nat (by omega)], by omega, rfl, by rw [ht]; exact ho', ext_chgS he2 hc' fun j hj => (Owns.bk ho2 hj).1⟩
    · have : k2 = k := by omega
      subst this
      rw [List.take_of_length_le (by omega)] at ho2
      exact h _ _ _ _ ho2 he2
end Go.Proofs
namespace Go.Proofs
open Go Go.Sh Go.RowKit

theorem longF_texts : ∀ (f : Fo) (d : Nat), longF f d = false → ∀ x ∈ nodesF f, x.t.length ≤ 60 ∨ 65536 < x.t.length
  | .nil, _, _, x, hx => by simp [nodesF] at hx
  | .cons k t n ps r, d, h, x, hx => by
    rw [longF] at h
    simp only [Bool.or_eq_false_iff, decide_eq_false_iff_not] at h
    obtain ⟨h1, h2, h3, h4, h5⟩ := h
    simp only [nodesF, List.mem_cons, List.mem_append] at hx
    rcases hx with rfl | hx | hx
    · show t.length ≤ 60 ∨ 65536 < t.length; omega
    · exact longF_texts ps (d - 1) h4 x hx
    · exact longF_texts r d h5 x hx
theorem flat_bound {α : Type} (q : α → List UInt8) (B : Nat) : ∀ (l : List α), (∀ x ∈ l, (q x).length ≤ B) → (l.flatMap q).length ≤ B * l.length
  | [], _ => by simp
  | x :: l, h => by
    have h1 := h x (by simp)
    have h2 := flat_bound q B l fun y hy => h y (by simp [hy])
    simp only [List.flatMap_cons, List.length_append, List.length_cons, Nat.mul_add, Nat.mul_one]; omega
theorem fin_small {f : Fo} (hg : great10 f = false) (hc : checkT f = 0) : f.size ≤ 40 ∧ (patF f).length ≤ 4000 := by
  obtain ⟨q1, q2, q3⟩ := check_zero hc
  have hl := f.len_le_size
  unfold great10 at hg
  rw [if_pos (by omega), Bool.or_eq_false_iff] at hg
  obtain ⟨h1, h2⟩ := hg
  have h1 : f.size ≤ 40 := by simp at h1; exact h1.1
  have ht := longF_texts f 20 h2
  have hn := good_nodes f q2
  refine ⟨h1, ?_⟩
  have := flat_bound patN 100 (nodesF f) fun x hx => by
    have a1 := hn x hx
    have a2 := ht x hx
    have a3 := a1.2.2.2.1
    unfold patN
    split
    · omega
    · split
      · rename_i h6
        have := a1.2.2.1 (by simp only [numsF]; rw [h6]; rfl)
        simp; omega
      · simp
  rw [nodesF_len] at this
  unfold patF
  omega
/- names of pages -/
theorem okF_pages : ∀ (f : Fo) (w : Bool), okF w f → ∀ x ∈ nodesF f, x.k = 3 → isNameF x.t = true
  | .nil, _, _, x, hx, _ => by simp [nodesF] at hx
  | .cons k t n ps r, w, h, x, hx, hk => by
    simp only [nodesF, List.mem_cons, List.mem_append] at hx
    rcases hx with rfl | hx | hx
    · have h1 := h.1
      have hk : k = 3 := hk
      subst hk
      unfold singleF at h1
      split at h1
      · cases h1
      · split at h1
        · cases h1
        · simp at h1
          show isNameF t = true
          cases hn : isNameF t with
          | true => rfl
          | false => simp [hn] at h1
    · exact okF_pages ps true h.2.1 x hx hk
    · exact okF_pages r w h.2.2 x hx hk
theorem endL_name : ∀ (l : List Nn) (p : Ps), (∀ x ∈ l, x.k = 3 → isNameF x.t = true) → (p.1 = [] ∨ isNameF p.1 = true) → ((endL p l).1 = [] ∨ isNameF (endL p l).1 = true)
  | [], _, _, h => h
  | x :: l, p, hl, h => by
    rw [endL]
    refine endL_name l _ (fun y hy => hl y (by simp [hy])) ?_
    unfold posN
    split
    · exact h
    · split
      · exact h
      · split
        · rename_i h3; exact .inr (hl x (by simp) h3)
        · split
          · exact h
          · exact h
end Go.Proofs
namespace Go.Proofs
open Go Go.Sh Go.RowKit

/- two lists with a verse between them -/
def vF : Fo := .one 5 [] 0 .nil
def xF : Fo := .one 1 [120] 0 .nil
theorem cleanF_app (f g : Fo) : cleanF (f.app g) = (cleanF f && cleanF g) := by unfold cleanF; rw [nodesF_appU, List.all_append]
theorem pat3 {f g : Fo} (hf : cleanF f = true) (hg : cleanF g = true) (hl : (patF f).length + (patF g).length ≤ 60000) : patE (f.app (vF.app g)) = 1 ∨ patE (f.app (vF.app g)) = 0 := by
  have hc : cleanF (f.app (vF.app g)) = true := by rw [cleanF_app, cleanF_app, hf, hg]; rfl
  have hp : (patF (f.app (vF.app g))).length ≤ 60000 := by
    rw [patF_app, patF_app, List.length_append, List.length_append]
    have : patF vF = [] := rfl
    rw [this]; simp; omega
  unfold patE errU
  rw [hc]
  by_cases h : checkT (f.app (vF.app g)) = 0
  · right
    simp only [h, ne_eq, not_true_eq_false, if_false, if_true]
    rw [if_neg (by omega)]
  · left
    simp [h]
theorem pos3 (s : Ps) (f g : Fo) : posL s (nodesF (f.app (vF.app g))) = posL s (nodesF f) ++ posL (endL s (nodesF f)) (nodesF g) := by
  rw [nodesF_appU, nodesF_appU, posL_app, posL_app]
  rfl
theorem size3 (f g : Fo) : (f.app (vF.app g)).size = f.size + g.size + 1 := by
  rw [Fo.size_app, Fo.size_app]; show f.size + (1 + g.size) = _; omega
theorem clean_fin {f : Fo} (h : fin13 f = true) : cleanF f = true ∧ f.size ≤ 40 ∧ (patF f).length ≤ 4000 ∧ (∀ x ∈ nodesF f, x.k = 3 → isNameF x.t = true) := by
  obtain ⟨h1, h2⟩ := fin13_true h
  obtain ⟨c0, c1, _⟩ := patE_zero h2
  obtain ⟨a, b⟩ := fin_small h1 c0
  refine ⟨c1, a, b, ?_⟩
  have hok : okF false f := by
    have : allF f false false = 0 := by
      unfold checkT at c0
      split at c0
      · split at c0
        · rename_i hh; exact absurd c0 hh
        · rename_i hh; exact Decidable.not_not.1 hh
      · cases c0
    exact ((all_split f false false).1 this).1
  exact okF_pages f _ hok

set_option maxRecDepth 20000 in
theorem cat3 {W : World} {b bv : Nat} {a a3 : Option Addr} {n c n3 c3 : Nat} {f g : Fo} {T1 T2 : Nat → Prop} {R : Ending → World → Prop} (hb : Blk W b [.slice a n c, .slice (some ⟨bv, 0, none⟩) 1 1, .slice a3 n3 c3] 24)
    (hf : SlF T1 W a n f) (hv : Blk W bv [.int .i64 5, .string ⟨⟨[]⟩⟩, .int .i64 0, .slice none 0 0] 45) (hg : SlF T2 W a3 n3 g) (hs : f.size + g.size ≤ 1000000)
    (h : ∀ a' n' c' W', SlF (fun _ => True) W' a' n' (f.app (vF.app g)) → Ext W W' → R (.returned (.slice a' n' c')) W') : Calls Tryd.prog F_slices_Concat_of_api_Node_api_Node ⟨[.slice (some ⟨b, 0, none⟩) 3 3]⟩ W R := by
  have hvv : SlF (fun _ => True) W (some ⟨bv, 0, none⟩) 1 vF := ⟨rfl, _, at_blk hv, none, 0, [], [], rfl, .inl rfl, rfl, rfl⟩
  have h1 := hf.imp (S' := fun _ => True) fun _ _ _ => trivial
  have h3 := hg.imp (S' := fun _ => True) fun _ _ _ => trivial
  have e : catF [f, vF, g] = f.app (vF.app g) := by simp only [catF, Fo.app_nil]
  have hfl := f.len_le_size
  have hgl := g.len_le_size
  refine ConcatN_spec (S := fun _ => True) (S' := fun _ => True) [(a, n, c), (some ⟨bv, 0, none⟩, 1, 1), (a3, n3, c3)] [f, vF, g] ⟨rfl, at_blk hb⟩ rfl (by simp) (fun i x y hx hy => ?_) ?_ fun a' n' c' W' ho he => ?_
  · rcases i with _ | _ | _ | i
    · simp at hx hy; subst hx hy; exact h1
    · simp at hx hy; subst hx hy; exact hvv
    · simp at hx hy; subst hx hy; exact h3
    · simp at hx
  · rw [e, Fo.len_app, Fo.len_app]; show f.len + (1 + g.len) ≤ _; omega
  · rw [e] at ho
    exact h _ _ _ _ (ho.out.imp fun _ _ _ => trivial) he
end Go.Proofs
