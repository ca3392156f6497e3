/- The contracts of the functions that the law reaches, one after the other, and at the end the law's card. -/
import Derived.Test.YtibinhnakljpmaaDoorLawD
namespace Go.Proofs
open Go Go.Sh Go.RowKit

def brkB (s : List UInt8) (i : Nat) : Bool := match s[i - 1]?, s[i]? with
  | some a, some b => decide (0 < i) && (innB a && innB b)
  | _, _ => false
def pickP (s : List UInt8) (l : List (Nat × Nat)) : List Int := ((l.map (·.1)).filter (brkB s)).map fun (i : Nat) => (i : Int)
def brkZ (L : List Ps) (s : List UInt8) : List Int := (((List.range L.length).filter (isStart L)).filter (brkB s)).map fun (i : Nat) => (i : Int)
theorem pickP_rows (L : List Ps) (s : List UInt8) : pickP s (rowsF L) = brkZ L s := by rw [pickP, rowsF_starts]; rfl
theorem pickP_snoc (s : List UInt8) (l : List (Nat × Nat)) (x : Nat × Nat) : pickP s (l ++ [x]) = pickP s l ++ if brkB s x.1 then [(x.1 : Int)] else [] := by
  simp only [pickP, List.map_append, List.filter_append, List.map_cons, List.map_nil, List.filter_cons, List.filter_nil]
  split <;> rfl
theorem pickP_len (s : List UInt8) (l : List (Nat × Nat)) : (pickP s l).length ≤ l.length := by
  unfold pickP
  rw [List.length_map]
  exact Nat.le_trans (List.length_filter_le _ _) (by simp)
theorem rowsGo_len (L : List Ps) : ∀ (m i : Nat), (rowsGo L m i).length ≤ m
  | 0, _ => Nat.le_refl _
  | m + 1, i => by
    rw [rowsGo]
    split
    · have := rowsGo_len L m (runE L i); simp only [List.length_cons]; omega
    · simp
theorem rows_lt (L : List Ps) {x : Nat × Nat} (h : x ∈ rowsF L) : x.1 < L.length := by
  have : x.1 ∈ (rowsF L).map (·.1) := List.mem_map.2 ⟨x, h, rfl⟩
  rw [rowsF_starts, List.mem_filter, List.mem_range] at this
  exact this.1

theorem posL_lit : encP.enc (([] : List UInt8), (0 : Int)) = [.string ⟨⟨[]⟩⟩, .int .i64 0] := rfl
def brkR (f : Fo) : List Int := if patE f ≠ 0 then [] else brkZ (posL ([], 0) (nodesF f)) (patF f)
theorem patE_zero {f : Fo} (h : patE f = 0) : checkT f = 0 ∧ cleanF f = true ∧ (patF f).length ≤ 65536 ∧ patS f = patF f := by
  have h' := h
  unfold patE at h
  split at h
  · rename_i hh; exact absurd h hh
  · rename_i hh
    obtain ⟨a, b⟩ := errU_zero (Decidable.not_not.1 hh)
    split at h
    · cases h
    · exact ⟨a, b, by omega, by unfold patS; rw [if_neg (by simp [h'])]⟩

set_option maxRecDepth 20000 in
theorem Broken_spec {R : Ending → World → Prop} {S : Nat → Prop} {w : World} {a : Option Addr} {n c : Nat} (f : Fo) (hs : small f) (hF : Forms w) (hf0 : SlF S w a n f)
    (h : ∀ a' c' w', RowAt encI (fun k => w.heap.size ≤ k) w' a' (brkR f).length (brkR f) → Ext w w' → R (.returned (.tuple ⟨[.slice a' (brkR f).length c', .int .i64 (patE f)]⟩)) w') :
    Calls Tryd.prog F_layout_Broken ⟨[.slice a n c]⟩ w R := by
  apply c_layout_Broken
  refine Pattern_spec f hs hF hf0 fun w3 e3 => ⟨_, _, rfl, ?_⟩
  refine al_stL (by simp) (by intro u hu; simp only [List.mem_cons, List.not_mem_nil, or_false] at hu; rcases hu with rfl; rfl) fun b6 w8 hb6 B6 e8 s8 => ?_
  have E8 := ext_trans e3 e8
  refine br_split (fun g => ?_) (fun g => ?_)
  · unfold brkR at h
    rw [if_pos g] at h
    exact h none 0 _ (RowAt.nil _) E8
  have hp0 : patE f = 0 := Decidable.not_not.1 g
  obtain ⟨hc0, _, hpl, hpS⟩ := patE_zero hp0
  obtain ⟨q1, q2, q3⟩ := check_zero hc0
  rw [hpS] at B6
  unfold brkR at h
  rw [if_neg g, hp0] at h
  refine al_intro fun b9 w11' hb9 B9' e11' s11' => ?_
  refine stL_one B9' rfl fun w11 B9 hc11 s11 => ?_
  have e11 : Ext w8 w11 := ext_chgS e11' hc11 fun k hk => by omega
  refine al_intro fun b12 w13 hb12 B12 e13 s13 => ?_
  have E13 := ext_trans (ext_trans E8 e11) e13
  refine positions_spec ([], 0) f (by omega) q2 (by omega) (Int.le_refl _) (by decide) (hf0.ext E13) fun aL cL w15 hL e15 => ⟨_, _, _, rfl, ?_⟩
  refine rows_spec fun bs w18 Bs e18 hbs => ⟨_, _, _, rfl, fun base => ?_⟩
  have z8 := e8.size
  have z11 := e11.size
  have z13 := e13.size
  have z15 := e15.size
  have z18 := e18.size
  have E15 := ext_trans E13 e15
  have E18 := ext_trans E15 e18
  have zE := E18.size
  have zw := E8.size
  have hLL := posL_pat ([], 0) f
  generalize hLdef : posL ([], 0) (nodesF f) = L at *
  generalize hsdef : patF f = s at *
  have B12' := (B12.ext e15).ext e18
  have B9'' := ((B9.ext e13).ext e15).ext e18
  have B6' := (((B6.ext e11).ext e13).ext e15).ext e18
  have ls := Bs.lt
  have l12 := B12.lt
  have hL1 : RowAt encP (fun k => w13.heap.size ≤ k ∧ k < w15.heap.size) w15 aL L.length L := hL.imp fun k hk hl => ⟨hk, hl⟩
  rw [cd_layout_Broken_1]
  refine RFw_lawO anA_layout_Broken_1 anB_layout_Broken_1 (gf := F_layout_rows_1) rfl (by kernel_rfl) (xs := rowsF L) (E := RwE) (Rd := fun k => (w13.heap.size ≤ k ∧ k < w15.heap.size) ∨ k = bs)
    (fun v1 he => rows_iterO L (by omega) bs v1 (fun k hk => by have := he.size; omega) (Bs.ext he) ((hL1.ext (ext_trans e18 he)).imp fun k hk _ => .inl hk) (.inr rfl)) (fun y vs hE => by rw [hE]; rfl) (by decide) (fun k hk => by omega) (fun k => k = b12) (fun k hk => by omega)
    (fun pre S1 W => ∃ (oa : Option Addr) (on oc : Nat), Blk W b12 [.slice oa on oc] 38 ∧ OwnL encI W w18.heap.size 3 oa on oc (pickP s pre) ∧ (∀ k, S1 k ↔ k = b12 ∨ bk oa k) ∧ Ext w W ∧ Blk W b9 [.func (.func 40) #[] #[]] 42 ∧ Blk W b6 [.string ⟨⟨s⟩⟩] 9) (fun _ _ => False) (fun _ _ => False)
    ?_ (fun _ _ _ h => h.elim) (fun _ _ _ h => h.elim) ⟨none, 0, 0, B12', Owns.nil _ _ _ _, fun k => by simp [bk], E18, B9'', B6'⟩ ?_ ?_ (fun _ _ _ _ _ _ _ h => h.elim) (fun _ _ _ _ _ _ _ h => h.elim)
  · rintro pre S1 W W' ⟨oa, on, oc, g1, g2, g3, g4, g5, g6⟩ hc
    exact ⟨oa, on, oc, hc.blk g1 (fun hh => hh.2 ((g3 _).2 (.inl rfl))), Owns.chg g2 hc (fun k hk hh => hh.2 ((g3 k).2 (.inr hk))), g3, ext_chgS g4 hc (fun k hk => by omega), hc.blk g5 (fun hh => by omega), hc.blk g6 (fun hh => by omega)⟩
  · rintro pre ⟨i, i2⟩ vs S1 W l rfl hpre hl1 hl2 hl3 hS1 ⟨oa, on, oc, g1, g2, g3, g4, g5, g6⟩
    refine Eq.mpr (er_layout_Broken_1 base _ _ _ _ _ _ _ _ _ _ _ _ _ _ _ _ _) ?_
    refine ⟨Below.refl _ _, fun W2 hU => ?_⟩
    have zU := hU.size
    have hWc : Chg (fun k => k = l) W W2 := ⟨hU.os, hU.tape, hU.output, by omega, fun k _ hk => hU.block k hk⟩
    have nl : ∀ k, S1 k → k ≠ l := fun k hk he => hl3 (he ▸ hk)
    have h1 := hWc.blk g1 (nl _ ((g3 _).2 (.inl rfl)))
    have h2 : OwnL encI W2 w18.heap.size 3 oa on oc (pickP s pre) := Owns.chg g2 hWc (fun k hk => nl _ ((g3 k).2 (.inr hk)))
    have h5 := hWc.blk g5 (by omega)
    have h6 := hWc.blk g6 (by omega)
    have E2' : Ext w W2 := ext_chgS g4 hWc fun k hk => by omega
    have hil := rows_lt L (mem_of_prefix hpre)
    have hpl' : pre.length + 1 ≤ L.length := by
      have := hpre.length_le
      have := rowsGo_len L L.length 0
      unfold rowsF at *
      simp only [List.length_append, List.length_singleton] at *
      omega
    have hon := h2.length
    have hpk := pickP_len s pre
    intro K37 hK37
    have k37 : ∀ (v : Bool) (W4 : World), v = brkB s i → Ext W2 W4 → K37 v W4 := by
      rintro _ W4 rfl e4
      have z4 := e4.size
      refine hK37 _ _ fun _ => br_cases (fun gb => ?_) (fun gb => ?_)
      · have h14 := h1.ext e4
        have h24 := Owns.ext h2 e4
        refine dr_ok ⟨oa, on, oc, by rw [h14.cell]; rfl, ?_⟩
        refine OwnL.push slT_int h24 (by omega) (i : Int) (by omega) (by omega) fun a'' c'' W5 ho hc hn => ?_
        have z5 := hc.size
        have l12' := h14.lt
        have n12 : ¬ bk oa b12 := fun hh => by have := (Owns.bk g2 hh).1; omega
        have n12' : ∀ j, bk a'' j → j ≠ b12 := fun j hj e => by subst e; exact (hn _ hj).elim n12 (by omega)
        refine dr_ok (stL_one (hc.blk h14 n12) rfl fun W6 q1 q2 q3 => ?_)
        refine ⟨(Chg.of_ext e4).trans ((hc.mono fun k _ hk => .inl ((g3 k).2 (.inr hk))).trans (q2.mono fun k _ hk => .inl ((g3 k).2 (.inl hk)))), fun k => k = b12 ∨ bk a'' k, fun k hk => ?_, a'', on + 1, c'', q1, ?_, fun k => Iff.rfl, ?_, ?_, ?_⟩
        · have ho' := Owns.chg ho q2 fun j hj e => n12' j hj e
          refine hk.elim (fun e => ⟨.inl ((g3 k).2 (.inl e)), e ▸ q1.lt⟩) (fun e => ⟨(hn k e).elim (fun hh => .inl ((g3 k).2 (.inr hh))) (fun hh => .inr (by omega)), (Owns.bk ho' e).2⟩)
        · rw [pickP_snoc, if_pos gb]
          exact Owns.chg ho q2 fun j hj e => n12' j hj e
        · exact ext_chgS (ext_chgS (ext_trans E2' e4) hc fun k hk => by have := (Owns.bk g2 hk).1; omega) q2 fun k hk => by omega
        · exact q2.blk (hc.blk (h5.ext e4) (fun hh => by have := (Owns.bk g2 hh).1; omega)) (by omega)
        · exact q2.blk (hc.blk (h6.ext e4) (fun hh => by have := (Owns.bk g2 hh).1; omega)) (by omega)
      · refine ⟨Chg.of_ext e4, S1, fun k hk => ⟨.inl hk, by have := (hS1 k hk).1; omega⟩, oa, on, oc, h1.ext e4, ?_, g3, ext_trans E2' e4, h5.ext e4, h6.ext e4⟩
        rw [pickP_snoc, gb, if_neg (by simp), List.append_nil]
        exact Owns.ext h2 e4
    unfold drw
    have ed := ext_drew W2
    have h5d := h5.ext ed
    have h6d := h6.ext ed
    have fl : brkB s i = false → K37 false W2.drew := fun e => k37 _ _ e.symm ed
    refine br_split (fun q => ?_) (fun q => ⟨⟨fl ?_, trivial⟩, trivial⟩)
    · refine dr_ok ⟨s, by rw [h6d.cell]; rfl, br_split (fun q' => ?_) (fun q' => ⟨⟨fl ?_, trivial⟩, trivial⟩)⟩
      · have hi0 : 0 < i := by omega
        have his : i < s.length := by omega
        have hs1 : s[i - 1]? = some s[i - 1] := by simp
        have hs2 : s[i]? = some s[i] := by simp [his]
        have hbr : brkB s i = (innB s[i - 1] && innB s[i]) := by unfold brkB; rw [hs1, hs2]; simp [hi0]
        refine dr_ok ⟨.func 40, #[], #[], by rw [h5d.cell]; rfl, dr_ok ⟨s, by rw [h6d.cell]; rfl, ?_⟩⟩
        rw [show IntKind.i64.wrap ((i : Int) - 1) = ((i - 1 : Nat) : Int) by rw [wrap_id (by omega)]; omega]
        refine sidx_nat (by omega) ⟨⟨by kernel_rfl, inner_spec _ ⟨_, rfl, ?_⟩⟩, trivial⟩
        refine br_cases (fun b1 => ?_) (fun b1 => ?_)
        · refine dr_ok ⟨.func 40, #[], #[], by rw [h5d.cell]; rfl, dr_ok ⟨s, by rw [h6d.cell]; rfl, sidx_nat his ?_⟩⟩
          rw [b1, Bool.true_and] at hbr
          exact ⟨⟨by kernel_rfl, inner_spec _ ⟨_, rfl, k37 _ _ hbr.symm ed⟩⟩, trivial⟩
        · exact ⟨fl (by rw [hbr, b1]; rfl), trivial⟩
      · unfold brkB; rw [List.getElem?_eq_none (show s.length ≤ i by omega)]; split
        · rename_i h1 h2; cases h2
        · rfl
    · have : i = 0 := by omega
      subst this
      unfold brkB; split <;> rfl
  · rintro D S1 W hD1 hD2 hD3 hD4 ⟨oa, on, oc, g1, g2, g3, g4, g5, g6⟩
    rw [pickP_rows] at g2
    have hon := g2.length
    subst hon
    refine ⟨oa, _, oc, by rw [g1.cell]; rfl, retD_one hD4 ?_⟩
    have hDb : ¬ bk oa D := fun hh => hD3 ((g3 D).2 (.inr hh))
    have ho := Owns.chg g2 (Chg.put (S := fun k => k = D) W D (.deferred none) rfl) (fun k hk hh => hDb (hh ▸ hk))
    exact h oa oc _ ((OwnL.out ho).imp fun k hk _ => by have := (Owns.bk ho hk).1; omega) (ext_put g4 (by omega) _)
end Go.Proofs
namespace Go.Proofs
open Go Go.Sh Go.RowKit

theorem equalP_sh {R : Ending → World → Prop} {S S' : Nat → Prop} {w : World} {a b : Option Addr} {n c n' c' : Nat} {L M : List Ps} (h1 : RowAt encP S w a n L) (h2 : RowAt encP S' w b n' M) (hs : n ≤ 4611686018427387904)
    (h : ∀ w', Ext w w' → R (.returned (.bool (decide (L = M)))) w') : sh_ref13_SamePositions a n c b n' c' R w := by
  have e1 := h1.1
  have e2 := h2.1
  refine br_split (fun g => ?_) (fun g => ?_)
  · rw [show decide (L = M) = false by rw [decide_eq_false_iff_not]; rintro rfl; omega] at h
    exact h _ (Below.refl _ _)
  refine ⟨fun i W m => ∃ k : Nat, i = k ∧ k ≤ n ∧ m = n - k ∧ L.take k = M.take k ∧ Ext w W, ⟨_, 0, rfl, by omega, rfl, rfl, Below.refl _ _⟩, ?_⟩
  rintro _ W m ⟨k, rfl, hk, rfl, ht, he⟩ _
  refine br_split (fun hlt => ?_) (fun hge => ?_)
  · unfold drw
    have hd := ext_trans he (ext_drew W)
    have hkL : k < L.length := by omega
    have hkM : k < M.length := by omega
    have hx : L[k]? = some L[k] := by simp [hkL]
    have hy : M[k]? = some M[k] := by simp [hkM]
    obtain ⟨bb, o, hq, _, _, hc⟩ := (h1.ext hd).get hx
    obtain ⟨bb', o', hq', _, _, hc'⟩ := (h2.ext hd).get hy
    refine hq _ ⟨L[k].1, by rw [add_none]; exact hc 0 _ rfl, L[k].2, by rw [add_none]; exact hc 1 _ rfl, hq' _ ⟨M[k].1, by rw [add_none]; exact hc' 0 _ rfl, M[k].2, by rw [add_none]; exact hc' 1 _ rfl, ?_⟩⟩
    have hdec : (decide (L[k].1 = M[k].1) && (decide (L[k].2 = M[k].2) && true)) = decide (L[k] = M[k]) := by
      rw [Bool.and_true, ← Bool.decide_and, decide_eq_decide, Prod.ext_iff]
    rw [hdec]
    by_cases he' : L[k] = M[k]
    · rw [decide_eq_true he']
      refine ⟨n - (k + 1), by omega, k + 1, by rw [wrap_nat (by omega)], by omega, rfl, ?_, hd⟩
      rw [List.take_add_one, List.take_add_one, ht, hx, hy, he']
    · rw [decide_eq_false he']
      rw [show decide (L = M) = false by rw [decide_eq_false_iff_not]; rintro rfl; exact he' rfl] at h
      exact h _ hd
  · have : k = n := by omega
    subst this
    rw [List.take_of_length_le (by omega), List.take_of_length_le (by omega)] at ht
    rw [decide_eq_true ht] at h
    exact h _ he
theorem SamePositions_spec {R : Ending → World → Prop} {S S' : Nat → Prop} {w : World} {a b : Option Addr} {n c n' c' : Nat} {L M : List Ps} (h1 : RowAt encP S w a n L) (h2 : RowAt encP S' w b n' M) (hs : n ≤ 4611686018427387904)
    (h : ∀ w', Ext w w' → R (.returned (.bool (decide (L = M)))) w') : Calls Tryd.prog F_ref13_SamePositions ⟨[.slice a n c, .slice b n' c']⟩ w R :=
  c_ref13_SamePositions (equalP_sh h1 h2 hs h)
theorem EqualP_spec {R : Ending → World → Prop} {S S' : Nat → Prop} {w : World} {a b : Option Addr} {n c n' c' : Nat} {L M : List Ps} (h1 : RowAt encP S w a n L) (h2 : RowAt encP S' w b n' M) (hs : n ≤ 4611686018427387904)
    (h : ∀ w', Ext w w' → R (.returned (.bool (decide (L = M)))) w') : Calls Tryd.prog F_slices_Equal_of_api_Position_api_Position ⟨[.slice a n c, .slice b n' c']⟩ w R :=
  c_slices_Equal_of_api_Position_api_Position (show sh_ref13_SamePositions a n c b n' c' R w from equalP_sh h1 h2 hs h)

theorem EqualR_spec {R : Ending → World → Prop} {S S' : Nat → Prop} {w : World} {a b : Option Addr} {n c n' c' : Nat} {L M : List Int} (h1 : RowAt encI S w a n L) (h2 : RowAt encI S' w b n' M) (hs : n ≤ 4611686018427387904)
    (h : ∀ w', Ext w w' → R (.returned (.bool (decide (L = M)))) w') : Calls Tryd.prog F_slices_Equal_of_int_int ⟨[.slice a n c, .slice b n' c']⟩ w R := by
  apply c_slices_Equal_of_int_int
  have e1 := h1.1
  have e2 := h2.1
  refine br_split (fun g => ?_) (fun g => ?_)
  · rw [show decide (L = M) = false by rw [decide_eq_false_iff_not]; rintro rfl; omega] at h
    exact h _ (Below.refl _ _)
  refine ⟨fun i W m => ∃ k : Nat, i = k ∧ k ≤ n ∧ m = n - k ∧ L.take k = M.take k ∧ Ext w W, ⟨_, 0, rfl, by omega, rfl, rfl, Below.refl _ _⟩, ?_⟩
  rintro _ W m ⟨k, rfl, hk, rfl, ht, he⟩ _
  refine br_split (fun hlt => ?_) (fun hge => ?_)
  · unfold drw
    have hd := ext_trans he (ext_drew W)
    have hkL : k < L.length := by omega
    have hkM : k < M.length := by omega
    have hx : L[k]? = some L[k] := by simp [hkL]
    have hy : M[k]? = some M[k] := by simp [hkM]
    obtain ⟨bb, o, hq, _, _, hc⟩ := (h1.ext hd).get hx
    obtain ⟨bb', o', hq', _, _, hc'⟩ := (h2.ext hd).get hy
    refine hq _ ⟨L[k], hc 0 _ rfl, hq' _ ⟨M[k], hc' 0 _ rfl, br_split (fun g1 => ?_) (fun g1 => ?_)⟩⟩
    · rw [show decide (L = M) = false by rw [decide_eq_false_iff_not]; rintro rfl; exact g1 rfl] at h
      exact h _ hd
    · refine ⟨n - (k + 1), by omega, k + 1, by rw [wrap_nat (by omega)], by omega, rfl, ?_, hd⟩
      rw [List.take_add_one, List.take_add_one, ht, hx, hy, Decidable.not_not.1 g1]
  · have : k = n := by omega
    subst this
    rw [List.take_of_length_le (by omega), List.take_of_length_le (by omega)] at ht
    rw [decide_eq_true ht] at h
    exact h _ he

/- Positions -/
def posE (p : Ps) (f : Fo) : Int := if patE f ≠ 0 then patE f else if p.1 ≠ [] ∧ isNameF p.1 = false then 14 else if p.2 < 0 ∨ 4096 < p.2 then 2 else 0
def posR (p : Ps) (f : Fo) : List Ps := if posE p f ≠ 0 then [] else posL p (nodesF f)
theorem posE_zero {p : Ps} {f : Fo} (h : posE p f = 0) : patE f = 0 ∧ (p.1 = [] ∨ isNameF p.1 = true) ∧ 0 ≤ p.2 ∧ p.2 ≤ 4096 := by
  unfold posE at h
  split at h
  · rename_i hh; exact absurd h hh
  · split at h
    · cases h
    · split at h
      · cases h
      · rename_i h1 h2 h3
        refine ⟨Decidable.not_not.1 h1, ?_, by omega, by omega⟩
        by_cases hp : p.1 = []
        · exact .inl hp
        · right
          cases hn : isNameF p.1 with
          | true => rfl
          | false => exact absurd ⟨hp, hn⟩ h2
set_option maxRecDepth 20000 in
theorem Positions_spec {R : Ending → World → Prop} {S : Nat → Prop} {w : World} {a : Option Addr} {n c : Nat} (p : Ps) (f : Fo) (hs : small f) (hF : Forms w) (hf0 : SlF S w a n f)
    (h : ∀ a' c' w', RowAt encP (fun k => w.heap.size ≤ k) w' a' (posR p f).length (posR p f) → Ext w w' → R (.returned (.tuple ⟨[.slice a' (posR p f).length c', .int .i64 (posE p f)]⟩)) w') :
    Calls Tryd.prog F_layout_Positions ⟨[.agg ⟨[.string ⟨⟨p.1⟩⟩, .int .i64 p.2]⟩, .slice a n c]⟩ w R := by
  apply c_layout_Positions
  refine al_intro fun b4 w5 hb4 B4 e5 s5 => ?_
  have er : ∀ e w', posE p f = e → e ≠ 0 → Ext w w' → R (.returned (.tuple ⟨[.slice none 0 0, .int .i64 e]⟩)) w' := by
    intro e w' he h0 hx
    have hr : posR p f = [] := by unfold posR; rw [if_pos (by rw [he]; exact h0)]
    rw [hr, he] at h
    exact h none 0 w' (RowAt.nil _) hx
  refine Pattern_spec f hs (hF.ext e5) (hf0.ext e5) fun w7 e7 => ⟨_, _, rfl, ?_⟩
  have E7 := ext_trans e5 e7
  refine br_split (fun g => er _ _ (by unfold posE; rw [if_pos g]) g E7) (fun g => ?_)
  have hp0 : patE f = 0 := Decidable.not_not.1 g
  obtain ⟨hc0, _, hpl, hpS⟩ := patE_zero hp0
  obtain ⟨q1, q2, q3⟩ := check_zero hc0
  intro K10 hK10
  have k10 : ∀ w11, Ext w7 w11 → ¬ (p.1 ≠ [] ∧ isNameF p.1 = false) → K10 w11 := by
    intro w11 e11 hno
    refine hK10 _ fun _ => ?_
    have E11 := ext_trans E7 e11
    obtain ⟨y0, y1⟩ := blk2 ((B4.ext e7).ext e11)
    intro K12 hK12
    have k12 : posE p f = 0 → K12 w11 := by
      intro hz
      obtain ⟨_, _, z1, z2⟩ := posE_zero hz
      have hr : posR p f = posL p (nodesF f) := by unfold posR; rw [if_neg (by simp [hz])]
      rw [hr, hz] at h
      refine hK12 _ fun _ => ⟨p.1, y0, p.2, y1, ?_⟩
      refine positions_spec p f (by omega) q2 (by omega) z1 (by omega) (hf0.ext E11) fun a' c' w' hrow e' => ⟨_, _, _, rfl, ?_⟩
      exact h a' c' w' (hrow.imp fun k hk _ => by have := E11.size; omega) (ext_trans E11 e')
    have pe : posE p f = if p.2 < 0 ∨ 4096 < p.2 then 2 else 0 := by unfold posE; rw [if_neg (by simp [hp0]), if_neg hno]
    refine ⟨p.2, y1, br_split (fun g1 => er _ _ (by rw [pe, if_pos (.inl g1)]) (by decide) E11) (fun g1 => ⟨p.2, y1, br_split (fun g2 => er _ _ (by rw [pe, if_pos (.inr g2)]) (by decide) E11) (fun g2 => k12 (by rw [pe, if_neg (by omega)]))⟩)⟩
  obtain ⟨y0, y1⟩ := blk2 (B4.ext e7)
  refine ⟨p.1, y0, br_split (fun g1 => ⟨p.1, y0, IsName_spec _ ⟨_, rfl, ?_⟩⟩) (fun g1 => k10 _ (Below.refl _ _) fun hh => g1 hh.1)⟩
  refine br_cases (fun g2 => ?_) (fun g2 => ?_)
  · have g2' : isNameF p.1 = false := by simpa using g2
    exact er _ _ (by unfold posE; rw [if_neg (by simp [hp0]), if_pos ⟨g1, g2'⟩]) (by decide) E7
  · have g2' : isNameF p.1 = true := by simpa using g2
    exact k10 _ (Below.refl _ _) fun hh => by rw [g2'] at hh; exact absurd hh.2 (by decide)

set_option maxRecDepth 20000 in
theorem Positions13_spec {R : Ending → World → Prop} {S : Nat → Prop} {w : World} {a : Option Addr} {n c : Nat} (p : Ps) (f : Fo) (hf0 : SlF S w a n f)
    (h : ∀ a' c' w', RowAt encP (fun k => w.heap.size ≤ k) w' a' (posR p f).length (posR p f) → Ext w w' → R (.returned (.tuple ⟨[.slice a' (posR p f).length c', .int .i64 (posE p f)]⟩)) w') :
    Calls Tryd.prog F_ref13_Positions ⟨[.agg ⟨[.string ⟨⟨p.1⟩⟩, .int .i64 p.2]⟩, .slice a n c]⟩ w R := by
  apply c_ref13_Positions
  refine al_intro fun b4 w5 hb4 B4 e5 s5 => ?_
  have er : ∀ e w', posE p f = e → e ≠ 0 → Ext w w' → al w' 23 [] fun pp w'' => R (.returned (.tuple ⟨[.slice (some pp) 0 0, .int .i64 e]⟩)) w'' := by
    intro e w' he h0 hx
    have hr : posR p f = [] := by unfold posR; rw [if_pos (by rw [he]; exact h0)]
    rw [hr, he] at h
    refine al_intro fun b w'' hb hB e2 s2 => ?_
    exact h _ 0 w'' (RowAt.nil _) (ext_trans hx e2)
  refine Pattern12_spec f (hf0.ext e5) fun w7 e7 => ⟨_, _, rfl, ?_⟩
  have E7 := ext_trans e5 e7
  refine br_split (fun g => er _ _ (by unfold posE; rw [if_pos g]) g E7) (fun g => ?_)
  have hp0 : patE f = 0 := Decidable.not_not.1 g
  obtain ⟨hc0, _, hpl, hpS⟩ := patE_zero hp0
  obtain ⟨q1, q2, q3⟩ := check_zero hc0
  intro K10 hK10
  have k10 : ∀ w11, Ext w7 w11 → ¬ (p.1 ≠ [] ∧ isNameF p.1 = false) → K10 w11 := by
    intro w11 e11 hno
    refine hK10 _ fun _ => ?_
    have E11 := ext_trans E7 e11
    obtain ⟨y0, y1⟩ := blk2 ((B4.ext e7).ext e11)
    intro K12 hK12
    have k12 : posE p f = 0 → K12 w11 := by
      intro hz
      obtain ⟨_, _, z1, z2⟩ := posE_zero hz
      have hr : posR p f = posL p (nodesF f) := by unfold posR; rw [if_neg (by simp [hz])]
      rw [hr, hz] at h
      refine hK12 _ fun _ => ⟨p.1, y0, p.2, y1, ?_⟩
      refine walk13_spec f p (by omega) q2 (by omega) z1 (by omega) (hf0.ext E11) fun a' c' w' hrow e' => ⟨_, _, _, _, _, rfl, ?_⟩
      refine al_stL (by simp) (by intro u hu; simp only [List.mem_cons, List.not_mem_nil, or_false] at hu; rcases hu with rfl | rfl <;> rfl) fun b23 w25 hb23 B23 e25 s25 => ?_
      exact h a' c' w25 ((hrow.ext e25).imp fun k hk _ => by have := E11.size; omega) (ext_trans (ext_trans E11 e') e25)
    have pe : posE p f = if p.2 < 0 ∨ 4096 < p.2 then 2 else 0 := by unfold posE; rw [if_neg (by simp [hp0]), if_neg hno]
    refine ⟨p.2, y1, br_split (fun g1 => er _ _ (by rw [pe, if_pos (.inl g1)]) (by decide) E11) (fun g1 => ⟨p.2, y1, br_split (fun g2 => er _ _ (by rw [pe, if_pos (.inr g2)]) (by decide) E11) (fun g2 => k12 (by rw [pe, if_neg (by omega)]))⟩)⟩
  obtain ⟨y0, y1⟩ := blk2 (B4.ext e7)
  refine ⟨p.1, y0, br_split (fun g1 => ⟨p.1, y0, IsName_spec' _ fun w35 e35 => ⟨_, rfl, ?_⟩⟩) (fun g1 => k10 _ (Below.refl _ _) fun hh => g1 hh.1)⟩
  refine br_cases (fun g2 => ?_) (fun g2 => ?_)
  · have g2' : isNameF p.1 = false := by simpa using g2
    exact er _ _ (by unfold posE; rw [if_neg (by simp [hp0]), if_pos ⟨g1, g2'⟩]) (by decide) (ext_trans E7 e35)
  · have g2' : isNameF p.1 = true := by simpa using g2
    exact k10 _ e35 fun hh => by rw [g2'] at hh; exact absurd hh.2 (by decide)

/- the example of the chapter -/
def fW : Fo := .cons 3 [49, 114] 0 .nil (.cons 2 [] 0 .nil (.cons 1 [100, 101] 0 .nil (.cons 2 [] 0 .nil (.one 1 [117, 115] 0 .nil))))
theorem awakeL1 : posE ([], 0) fW = 0 ∧ patE fW = 0 ∧ posR ([], 0) fW = [([49, 114], 1), ([49, 114], 1), ([49, 114], 2), ([49, 114], 2)] ∧ brkR fW = [2] := by decide +kernel
set_option maxRecDepth 20000 in
theorem awake13_spec {R : Ending → World → Prop} {w : World} (hF : Forms w) (h : ∀ w', Ext w w' → R (.returned (.bool true)) w') : Calls Tryd.prog F_law13_awake ⟨[]⟩ w R := by
  obtain ⟨q1, q2, q3, q4⟩ := awakeL1
  apply c_law13_awake
  refine al_intro fun b1 w2 hb1 B1 e2 s2 => ?_
  have f1 : SlF (fun _ => True) w2 (some ⟨b1, 0, none⟩) 5 fW :=
    ⟨rfl, _, at_blk B1, none, 0, [], _, rfl, .inl rfl, rfl, none, 0, [], _, rfl, .inl rfl, rfl, none, 0, [], _, rfl, .inl rfl, rfl, none, 0, [], _, rfl, .inl rfl, rfl, none, 0, [], [], rfl, .inl rfl, rfl, rfl⟩
  refine Positions_spec ([], 0) fW (by decide) (hF.ext e2) f1 fun a4 c4 w4 hr4 e4 => ⟨_, _, _, _, rfl, ?_⟩
  have E4 := ext_trans e2 e4
  refine Broken_spec fW (by decide) (hF.ext E4) (f1.ext e4) fun a8 c8 w8 hr8 e8 => ⟨_, _, _, _, rfl, ?_⟩
  have E8 := ext_trans E4 e8
  refine al_intro fun b11 w12 hb11 B11 e12 s12 => ?_
  refine al_intro fun b13 w14 hb13 B13 e14 s14 => ?_
  have z12 := e12.size
  refine stL_blk (B11.ext e14) (by simp) (by intro u hu; simp only [List.mem_cons, List.not_mem_nil, or_false] at hu; rcases hu with rfl | rfl <;> rfl) fun w15 r1 r2 r3 r4 r5 r6 => ?_
  have hc15 : Chg (fun k => k = b11) w14 w15 := ⟨r4, r5, r6, by omega, fun k _ hk => r2 k hk⟩
  refine stL_blk (hc15.blk B13 (by omega)) (by simp) (by intro u hu; simp only [List.mem_cons, List.not_mem_nil, or_false] at hu; rcases hu with rfl | rfl <;> rfl) fun w16 t1 t2 t3 t4 t5 t6 => ?_
  have hc16 : Chg (fun k => k = b13) w15 w16 := ⟨t4, t5, t6, by omega, fun k _ hk => t2 k hk⟩
  have e814 := ext_trans e12 e14
  have e816 : Ext w8 w16 := ext_chgS (ext_chgS e814 hc15 fun k hk => by omega) hc16 fun k hk => by omega
  have E16 := ext_trans E8 e816
  have r1' : Blk w16 b11 [.string ⟨⟨[49, 114]⟩⟩, .int .i64 1] 23 := hc16.blk (show Blk w15 b11 [.string ⟨⟨[49, 114]⟩⟩, .int .i64 1] 23 from r1) (by omega)
  have t1' : Blk w16 b13 [.string ⟨⟨[49, 114]⟩⟩, .int .i64 2] 23 := t1
  obtain ⟨u0, u1⟩ := blk2 r1'
  obtain ⟨v0, v1⟩ := blk2 t1'
  rw [q1, q2]
  simp only [ne_eq, decide_true, br_t]
  refine ⟨_, u0, _, u1, _, u0, _, u1, _, v0, _, v1, _, v0, _, v1, ?_⟩
  refine al_intro fun b25 w26 hb25 B25 e26 s26 => ?_
  have hM : RowAt encP (fun _ => True) w26 (some ⟨b25, 0, none⟩) 4 [([49, 114], 1), ([49, 114], 1), ([49, 114], 2), ([49, 114], 2)] := ⟨rfl, at_blk B25⟩
  rw [q3] at hr4
  refine EqualP_spec (((hr4.ext e8).ext e816).ext e26) hM (by decide) fun w28 e28 => ⟨_, rfl, ?_⟩
  rw [decide_eq_true rfl]
  simp only [br_t]
  refine al_intro fun b30 w31 hb30 B30 e31 s31 => ?_
  have hN : RowAt encI (fun _ => True) w31 (some ⟨b30, 0, none⟩) 1 [2] := ⟨rfl, at_blk B30⟩
  rw [q4] at hr8
  refine EqualR_spec ((((hr8.ext e816).ext e26).ext e28).ext e31) hN (by decide) fun w33 e33 => ⟨_, rfl, ?_⟩
  rw [decide_eq_true rfl]
  exact h _ (ext_trans (ext_trans (ext_trans (ext_trans E16 e26) e28) e31) e33)

/- LAW -/
set_option maxRecDepth 20000 in
theorem LayoutPositions_spec {R : Ending → World → Prop} {S : Nat → Prop} {w : World} {a : Option Addr} {n c : Nat} (p : Ps) (f : Fo) (hF : Forms w) (hf0 : SlF S w a n f)
    (h : ∀ w', Ext w w' → R (.returned (.bool true)) w') : Calls Tryd.prog F_law13_LayoutPositions ⟨[.agg ⟨[.string ⟨⟨p.1⟩⟩, .int .i64 p.2]⟩, .slice a n c]⟩ w R := by
  apply c_law13_LayoutPositions
  refine al_intro fun b4 w5 hb4 B4 e5 s5 => ?_
  refine Great_spec (hf0.ext e5) fun w7 e7 => ⟨_, rfl, ?_⟩
  have E7 := ext_trans e5 e7
  refine br_cases (fun _ => awake13_spec (hF.ext E7) fun w10 e10 => ⟨_, rfl, h _ (ext_trans E7 e10)⟩) (fun hgr => ?_)
  have hs := great10_small hgr
  obtain ⟨y0, y1⟩ := blk2 (B4.ext e7)
  refine ⟨p.1, y0, p.2, y1, ?_⟩
  refine Positions_spec p f hs (hF.ext E7) (hf0.ext E7) fun a1 c1 w15 hr1 e15 => ⟨_, _, _, _, rfl, ?_⟩
  obtain ⟨z0, z1⟩ := blk2 ((B4.ext e7).ext e15)
  have E15 := ext_trans E7 e15
  refine ⟨p.1, z0, p.2, z1, ?_⟩
  refine Positions13_spec p f (hf0.ext E15) fun a2 c2 w21 hr2 e21 => ⟨_, _, _, _, rfl, ?_⟩
  have E21 := ext_trans E15 e21
  have hlen : (posR p f).length ≤ 4611686018427387904 := by
    unfold posR
    split
    · simp
    · rename_i hh
      obtain ⟨hp, _⟩ := posE_zero (Decidable.not_not.1 hh)
      obtain ⟨_, _, hl, _⟩ := patE_zero hp
      rw [posL_pat]; omega
  refine SamePositions_spec (hr1.ext e21) hr2 hlen fun w25 e25 => ⟨_, rfl, ?_⟩
  rw [decide_eq_true rfl]
  simp only [br_t, decide_true]
  have E25 := ext_trans E21 e25
  exact awake13_spec (hF.ext E25) fun w28 e28 => ⟨_, rfl, h _ (ext_trans E25 e28)⟩
end Go.Proofs
