/- The contracts of the functions that the law reaches, one after the other, and at the end the law's card. -/
import Derived.Test.YtibinhnakljpmaaGreatDoorLawD
import Derived.Lib.AppendZerosOnto
import Derived.Maps.Own
namespace Go.Proofs
open Go Go.Sh Go.RowKit

def brkB (s : List UInt8) (i : Nat) : Bool := match s[i - 1]?, s[i]? with
  | some a, some b => decide (0 < i) && (innB a && innB b)
  | _, _ => false
def pickP (s : List UInt8) (l : List (Nat × Nat)) : List Int := ((l.map (·.1)).filter (brkB s)).map fun (i : Nat) => (i : Int)
def brkZ (L : List Ps) (s : List UInt8) : List Int := (((List.range L.length).filter (isStart L)).filter (brkB s)).map fun (i : Nat) => (i : Int)
theorem pickP_rows (L : List Ps) (s : List UInt8) : pickP s (rowsF L) = brkZ L s := by rw [pickP, rowsF_starts]; rfl
theorem pickP_snoc (s : List UInt8) (l : List (Nat × Nat)) (x : Nat × Nat) : pickP s (l ++ [x]) = pickP s l ++ if brkB s x.1 then [(x.1 : Int)] else [] := by
  simp only [pickP, List.map_append, List.filter_append, List.map_cons, List.map_nil, List.filter_cons, List.filter_nil]
  split <;> rfl
theorem pickP_len (s : List UInt8) (l : List (Nat × Nat)) : (pickP s l).length ≤ l.length := by
  unfold pickP
  rw [List.length_map]
  exact Nat.le_trans (List.length_filter_le _ _) (by simp)
theorem rowsGo_len (L : List Ps) : ∀ (m i : Nat), (rowsGo L m i).length ≤ m
  | 0, _ => Nat.le_refl _
  | m + 1, i => by
    rw [rowsGo]
    split
    · have := rowsGo_len L m (runE L i); simp only [List.length_cons]; omega
    · simp
theorem rows_lt (L : List Ps) {x : Nat × Nat} (h : x ∈ rowsF L) : x.1 < L.length := by
  have : x.1 ∈ (rowsF L).map (·.1) := List.mem_map.2 ⟨x, h, rfl⟩
  rw [rowsF_starts, List.mem_filter, List.mem_range] at this
  exact this.1

theorem posL_lit : encP.enc (([] : List UInt8), (0 : Int)) = [.string ⟨⟨[]⟩⟩, .int .i64 0] := rfl
def brkR (f : Fo) : List Int := if patE f ≠ 0 then [] else brkZ (posL ([], 0) (nodesF f)) (patF f)
theorem patE_zero {f : Fo} (h : patE f = 0) : checkT f = 0 ∧ cleanF f = true ∧ (patF f).length ≤ 65536 ∧ patS f = patF f := by
  have h' := h
  unfold patE at h
  split at h
  · rename_i hh; exact absurd h hh
  · rename_i hh
    obtain ⟨a, b⟩ := errU_zero (Decidable.not_not.1 hh)
    split at h
    · cases h
    · exact ⟨a, b, by omega, by unfold patS; rw [if_neg (by simp [h'])]⟩

set_option maxRecDepth 20000 in
theorem Broken_spec {R : Ending → World → Prop} {S : Nat → Prop} {w : World} {a : Option Addr} {n c : Nat} (f : Fo) (hs : small f) (hF : Forms w) (hf0 : SlF S w a n f)
    (h : ∀ a' c' w', RowAt encI (fun k => w.heap.size ≤ k) w' a' (brkR f).length (brkR f) → Ext w w' → R (.returned (.tuple ⟨[.slice a' (brkR f).length c', .int .i64 (patE f)]⟩)) w') :
    Calls Tryz.prog F_layout_Broken ⟨[.slice a n c]⟩ w R := by
  apply c_layout_Broken
  refine Pattern_spec f hs hF hf0 fun w3 e3 => ⟨_, _, rfl, ?_⟩
  refine al_stL (by simp) (by intro u hu; simp only [List.mem_cons, List.not_mem_nil, or_false] at hu; rcases hu with rfl; rfl) fun b6 w8 hb6 B6 e8 s8 => ?_
  have E8 := ext_trans e3 e8
  refine br_split (fun g => ?_) (fun g => ?_)
  · unfold brkR at h
    rw [if_pos g] at h
    exact h none 0 _ (RowAt.nil _) E8
  have hp0 : patE f = 0 := Decidable.not_not.1 g
  obtain ⟨hc0, _, hpl, hpS⟩ := patE_zero hp0
  obtain ⟨q1, q2, q3⟩ := check_zero hc0
  rw [hpS] at B6
  unfold brkR at h
  rw [if_neg g, hp0] at h
  refine al_intro fun b9 w11' hb9 B9' e11' s11' => ?_
  refine stL_one B9' rfl fun w11 B9 hc11 s11 => ?_
  have e11 : Ext w8 w11 := ext_chgS e11' hc11 fun k hk => by omega
  refine al_intro fun b12 w13 hb12 B12 e13 s13 => ?_
  have E13 := ext_trans (ext_trans E8 e11) e13
  refine positions_spec ([], 0) f (by omega) q2 (by omega) (Int.le_refl _) (by decide) (hf0.ext E13) fun aL cL w15 hL e15 => ⟨_, _, _, rfl, ?_⟩
  refine rows_spec fun bs w18 Bs e18 hbs => ⟨_, _, _, rfl, fun base => ?_⟩
  have z8 := e8.size
  have z11 := e11.size
  have z13 := e13.size
  have z15 := e15.size
  have z18 := e18.size
  have E15 := ext_trans E13 e15
  have E18 := ext_trans E15 e18
  have zE := E18.size
  have zw := E8.size
  have hLL := posL_pat ([], 0) f
  generalize hLdef : posL ([], 0) (nodesF f) = L at *
  generalize hsdef : patF f = s at *
  have B12' := (B12.ext e15).ext e18
  have B9'' := ((B9.ext e13).ext e15).ext e18
  have B6' := (((B6.ext e11).ext e13).ext e15).ext e18
  have ls := Bs.lt
  have l12 := B12.lt
  have hL1 : RowAt encP (fun k => w13.heap.size ≤ k ∧ k < w15.heap.size) w15 aL L.length L := hL.imp fun k hk hl => ⟨hk, hl⟩
  rw [cd_layout_Broken_1]
  refine RFw_lawO anA_layout_Broken_1 anB_layout_Broken_1 (gf := F_layout_rows_1) rfl (by kernel_rfl) (xs := rowsF L) (E := RwE) (Rd := fun k => (w13.heap.size ≤ k ∧ k < w15.heap.size) ∨ k = bs)
    (fun v1 he => rows_iterO L (by omega) bs v1 (fun k hk => by have := he.size; omega) (Bs.ext he) ((hL1.ext (ext_trans e18 he)).imp fun k hk _ => .inl hk) (.inr rfl)) (fun y vs hE => by rw [hE]; rfl) (by decide) (fun k hk => by omega) (fun k => k = b12) (fun k hk => by omega)
    (fun pre S1 W => ∃ (oa : Option Addr) (on oc : Nat), Blk W b12 [.slice oa on oc] 38 ∧ OwnL encI W w18.heap.size 3 oa on oc (pickP s pre) ∧ (∀ k, S1 k ↔ k = b12 ∨ bk oa k) ∧ Ext w W ∧ Blk W b9 [.func (.func 34) #[] #[]] 67 ∧ Blk W b6 [.string ⟨⟨s⟩⟩] 9) (fun _ _ => False) (fun _ _ => False)
    ?_ (fun _ _ _ h => h.elim) (fun _ _ _ h => h.elim) ⟨none, 0, 0, B12', Owns.nil _ _ _ _, fun k => by simp [bk], E18, B9'', B6'⟩ ?_ ?_ (fun _ _ _ _ _ _ _ h => h.elim) (fun _ _ _ _ _ _ _ h => h.elim)
  · rintro pre S1 W W' ⟨oa, on, oc, g1, g2, g3, g4, g5, g6⟩ hc
    exact ⟨oa, on, oc, hc.blk g1 (fun hh => hh.2 ((g3 _).2 (.inl rfl))), Owns.chg g2 hc (fun k hk hh => hh.2 ((g3 k).2 (.inr hk))), g3, ext_chgS g4 hc (fun k hk => by omega), hc.blk g5 (fun hh => by omega), hc.blk g6 (fun hh => by omega)⟩
  · rintro pre ⟨i, i2⟩ vs S1 W l rfl hpre hl1 hl2 hl3 hS1 ⟨oa, on, oc, g1, g2, g3, g4, g5, g6⟩
    refine Eq.mpr (er_layout_Broken_1 base _ _ _ _ _ _ _ _ _ _ _ _ _ _ _ _ _) ?_
    refine ⟨Below.refl _ _, fun W2 hU => ?_⟩
    have zU := hU.size
    have hWc : Chg (fun k => k = l) W W2 := ⟨hU.os, hU.tape, hU.output, by omega, fun k _ hk => hU.block k hk⟩
    have nl : ∀ k, S1 k → k ≠ l := fun k hk he => hl3 (he ▸ hk)
    have h1 := hWc.blk g1 (nl _ ((g3 _).2 (.inl rfl)))
    have h2 : OwnL encI W2 w18.heap.size 3 oa on oc (pickP s pre) := Owns.chg g2 hWc (fun k hk => nl _ ((g3 k).2 (.inr hk)))
    have h5 := hWc.blk g5 (by omega)
    have h6 := hWc.blk g6 (by omega)
    have E2' : Ext w W2 := ext_chgS g4 hWc fun k hk => by omega
    have hil := rows_lt L (mem_of_prefix hpre)
    have hpl' : pre.length + 1 ≤ L.length := by
      have := hpre.length_le
      have := rowsGo_len L L.length 0
      unfold rowsF at *
      simp only [List.length_append, List.length_singleton] at *
      omega
    have hon := h2.length
    have hpk := pickP_len s pre
    intro K37 hK37
    have k37 : ∀ (v : Bool) (W4 : World), v = brkB s i → Ext W2 W4 → K37 v W4 := by
      rintro _ W4 rfl e4
      have z4 := e4.size
      refine hK37 _ _ fun _ => br_cases (fun gb => ?_) (fun gb => ?_)
      · have h14 := h1.ext e4
        have h24 := Owns.ext h2 e4
        refine dr_ok ⟨oa, on, oc, by rw [h14.cell]; rfl, ?_⟩
        refine OwnL.push slT_int h24 (by omega) (i : Int) (by omega) (by omega) fun a'' c'' W5 ho hc hn => ?_
        have z5 := hc.size
        have l12' := h14.lt
        have n12 : ¬ bk oa b12 := fun hh => by have := (Owns.bk g2 hh).1; omega
        have n12' : ∀ j, bk a'' j → j ≠ b12 := fun j hj e => by subst e; exact (hn _ hj).elim n12 (by omega)
        refine dr_ok (stL_one (hc.blk h14 n12) rfl fun W6 q1 q2 q3 => ?_)
        refine ⟨(Chg.of_ext e4).trans ((hc.mono fun k _ hk => .inl ((g3 k).2 (.inr hk))).trans (q2.mono fun k _ hk => .inl ((g3 k).2 (.inl hk)))), fun k => k = b12 ∨ bk a'' k, fun k hk => ?_, a'', on + 1, c'', q1, ?_, fun k => Iff.rfl, ?_, ?_, ?_⟩
        · have ho' := Owns.chg ho q2 fun j hj e => n12' j hj e
          refine hk.elim (fun e => ⟨.inl ((g3 k).2 (.inl e)), e ▸ q1.lt⟩) (fun e => ⟨(hn k e).elim (fun hh => .inl ((g3 k).2 (.inr hh))) (fun hh => .inr (by omega)), (Owns.bk ho' e).2⟩)
        · rw [pickP_snoc, if_pos gb]
          exact Owns.chg ho q2 fun j hj e => n12' j hj e
        · exact ext_chgS (ext_chgS (ext_trans E2' e4) hc fun k hk => by have := (Owns.bk g2 hk).1; omega) q2 fun k hk => by omega
        · exact q2.blk (hc.blk (h5.ext e4) (fun hh => by have := (Owns.bk g2 hh).1; omega)) (by omega)
        · exact q2.blk (hc.blk (h6.ext e4) (fun hh => by have := (Owns.bk g2 hh).1; omega)) (by omega)
      · refine ⟨Chg.of_ext e4, S1, fun k hk => ⟨.inl hk, by have := (hS1 k hk).1; omega⟩, oa, on, oc, h1.ext e4, ?_, g3, ext_trans E2' e4, h5.ext e4, h6.ext e4⟩
        rw [pickP_snoc, gb, if_neg (by simp), List.append_nil]
        exact Owns.ext h2 e4
    unfold drw
    have ed := ext_drew W2
    have h5d := h5.ext ed
    have h6d := h6.ext ed
    have fl : brkB s i = false → K37 false W2.drew := fun e => k37 _ _ e.symm ed
    refine br_split (fun q => ?_) (fun q => ⟨⟨fl ?_, trivial⟩, trivial⟩)
    · refine dr_ok ⟨s, by rw [h6d.cell]; rfl, br_split (fun q' => ?_) (fun q' => ⟨⟨fl ?_, trivial⟩, trivial⟩)⟩
      · have hi0 : 0 < i := by omega
        have his : i < s.length := by omega
        have hs1 : s[i - 1]? = some s[i - 1] := by simp
        have hs2 : s[i]? = some s[i] := by simp [his]
        have hbr : brkB s i = (innB s[i - 1] && innB s[i]) := by unfold brkB; rw [hs1, hs2]; simp [hi0]
        refine dr_ok ⟨.func 34, #[], #[], by rw [h5d.cell]; rfl, dr_ok ⟨s, by rw [h6d.cell]; rfl, ?_⟩⟩
        rw [show IntKind.i64.wrap ((i : Int) - 1) = ((i - 1 : Nat) : Int) by rw [wrap_id (by omega)]; omega]
        refine sidx_nat (by omega) ⟨⟨by kernel_rfl, inner_spec _ ⟨_, rfl, ?_⟩⟩, trivial⟩
        refine br_cases (fun b1 => ?_) (fun b1 => ?_)
        · refine dr_ok ⟨.func 34, #[], #[], by rw [h5d.cell]; rfl, dr_ok ⟨s, by rw [h6d.cell]; rfl, sidx_nat his ?_⟩⟩
          rw [b1, Bool.true_and] at hbr
          exact ⟨⟨by kernel_rfl, inner_spec _ ⟨_, rfl, k37 _ _ hbr.symm ed⟩⟩, trivial⟩
        · exact ⟨fl (by rw [hbr, b1]; rfl), trivial⟩
      · unfold brkB; rw [List.getElem?_eq_none (show s.length ≤ i by omega)]; split
        · rename_i h1 h2; cases h2
        · rfl
    · have : i = 0 := by omega
      subst this
      unfold brkB; split <;> rfl
  · rintro D S1 W hD1 hD2 hD3 hD4 ⟨oa, on, oc, g1, g2, g3, g4, g5, g6⟩
    rw [pickP_rows] at g2
    have hon := g2.length
    subst hon
    refine ⟨oa, _, oc, by rw [g1.cell]; rfl, retD_one hD4 ?_⟩
    have hDb : ¬ bk oa D := fun hh => hD3 ((g3 D).2 (.inr hh))
    have ho := Owns.chg g2 (Chg.put (S := fun k => k = D) W D (.deferred none) rfl) (fun k hk hh => hDb (hh ▸ hk))
    exact h oa oc _ ((OwnL.out ho).imp fun k hk _ => by have := (Owns.bk ho hk).1; omega) (ext_put g4 (by omega) _)
end Go.Proofs
namespace Go.Proofs
open Go Go.Sh Go.RowKit

theorem equalP_sh {R : Ending → World → Prop} {S S' : Nat → Prop} {w : World} {a b : Option Addr} {n c n' c' : Nat} {L M : List Ps} (h1 : RowAt encP S w a n L) (h2 : RowAt encP S' w b n' M) (hs : n ≤ 4611686018427387904)
    (h : ∀ w', Ext w w' → R (.returned (.bool (decide (L = M)))) w') : sh_slices_Equal_of_api_Position_api_Position a n c b n' c' R w := by
  have e1 := h1.1
  have e2 := h2.1
  refine br_split (fun g => ?_) (fun g => ?_)
  · rw [show decide (L = M) = false by rw [decide_eq_false_iff_not]; rintro rfl; omega] at h
    exact h _ (Below.refl _ _)
  refine ⟨fun i W m => ∃ k : Nat, i = k ∧ k ≤ n ∧ m = n - k ∧ L.take k = M.take k ∧ Ext w W, ⟨_, 0, rfl, by omega, rfl, rfl, Below.refl _ _⟩, ?_⟩
  rintro _ W m ⟨k, rfl, hk, rfl, ht, he⟩ _
  refine br_split (fun hlt => ?_) (fun hge => ?_)
  · unfold drw
    have hd := ext_trans he (ext_drew W)
    have hkL : k < L.length := by omega
    have hkM : k < M.length := by omega
    have hx : L[k]? = some L[k] := by simp [hkL]
    have hy : M[k]? = some M[k] := by simp [hkM]
    obtain ⟨bb, o, hq, _, _, hc⟩ := (h1.ext hd).get hx
    obtain ⟨bb', o', hq', _, _, hc'⟩ := (h2.ext hd).get hy
    refine hq _ ⟨L[k].1, by rw [add_none]; exact hc 0 _ rfl, L[k].2, by rw [add_none]; exact hc 1 _ rfl, hq' _ ⟨M[k].1, by rw [add_none]; exact hc' 0 _ rfl, M[k].2, by rw [add_none]; exact hc' 1 _ rfl, ?_⟩⟩
    have hdec : (decide (L[k].1 = M[k].1) && (decide (L[k].2 = M[k].2) && true)) = decide (L[k] = M[k]) := by
      rw [Bool.and_true, ← Bool.decide_and, decide_eq_decide, Prod.ext_iff]
    rw [hdec]
    by_cases he' : L[k] = M[k]
    · rw [decide_eq_true he']
      refine ⟨n - (k + 1), by omega, k + 1, by rw [wrap_nat (by omega)], by omega, rfl, ?_, hd⟩
      rw [List.take_add_one, List.take_add_one, ht, hx, hy, he']
    · rw [decide_eq_false he']
      rw [show decide (L = M) = false by rw [decide_eq_false_iff_not]; rintro rfl; exact he' rfl] at h
      exact h _ hd
  · have : k = n := by omega
    subst this
    rw [List.take_of_length_le (by omega), List.take_of_length_le (by omega)] at ht
    rw [decide_eq_true ht] at h
    exact h _ he
theorem EqualP_spec {R : Ending → World → Prop} {S S' : Nat → Prop} {w : World} {a b : Option Addr} {n c n' c' : Nat} {L M : List Ps} (h1 : RowAt encP S w a n L) (h2 : RowAt encP S' w b n' M) (hs : n ≤ 4611686018427387904)
    (h : ∀ w', Ext w w' → R (.returned (.bool (decide (L = M)))) w') : Calls Tryz.prog F_slices_Equal_of_api_Position_api_Position ⟨[.slice a n c, .slice b n' c']⟩ w R :=
  c_slices_Equal_of_api_Position_api_Position (equalP_sh h1 h2 hs h)

theorem EqualR_spec {R : Ending → World → Prop} {S S' : Nat → Prop} {w : World} {a b : Option Addr} {n c n' c' : Nat} {L M : List Int} (h1 : RowAt encI S w a n L) (h2 : RowAt encI S' w b n' M) (hs : n ≤ 4611686018427387904)
    (h : ∀ w', Ext w w' → R (.returned (.bool (decide (L = M)))) w') : Calls Tryz.prog F_slices_Equal_of_int_int ⟨[.slice a n c, .slice b n' c']⟩ w R := by
  apply c_slices_Equal_of_int_int
  have e1 := h1.1
  have e2 := h2.1
  refine br_split (fun g => ?_) (fun g => ?_)
  · rw [show decide (L = M) = false by rw [decide_eq_false_iff_not]; rintro rfl; omega] at h
    exact h _ (Below.refl _ _)
  refine ⟨fun i W m => ∃ k : Nat, i = k ∧ k ≤ n ∧ m = n - k ∧ L.take k = M.take k ∧ Ext w W, ⟨_, 0, rfl, by omega, rfl, rfl, Below.refl _ _⟩, ?_⟩
  rintro _ W m ⟨k, rfl, hk, rfl, ht, he⟩ _
  refine br_split (fun hlt => ?_) (fun hge => ?_)
  · unfold drw
    have hd := ext_trans he (ext_drew W)
    have hkL : k < L.length := by omega
    have hkM : k < M.length := by omega
    have hx : L[k]? = some L[k] := by simp [hkL]
    have hy : M[k]? = some M[k] := by simp [hkM]
    obtain ⟨bb, o, hq, _, _, hc⟩ := (h1.ext hd).get hx
    obtain ⟨bb', o', hq', _, _, hc'⟩ := (h2.ext hd).get hy
    refine hq _ ⟨L[k], hc 0 _ rfl, hq' _ ⟨M[k], hc' 0 _ rfl, br_split (fun g1 => ?_) (fun g1 => ?_)⟩⟩
    · rw [show decide (L = M) = false by rw [decide_eq_false_iff_not]; rintro rfl; exact g1 rfl] at h
      exact h _ hd
    · refine ⟨n - (k + 1), by omega, k + 1, by rw [wrap_nat (by omega)], by omega, rfl, ?_, hd⟩
      rw [List.take_add_one, List.take_add_one, ht, hx, hy, Decidable.not_not.1 g1]
  · have : k = n := by omega
    subst this
    rw [List.take_of_length_le (by omega), List.take_of_length_le (by omega)] at ht
    rw [decide_eq_true ht] at h
    exact h _ he

/- Positions -/
def posE (p : Ps) (f : Fo) : Int := if patE f ≠ 0 then patE f else if p.1 ≠ [] ∧ isNameF p.1 = false then 14 else if p.2 < 0 ∨ 4096 < p.2 then 2 else 0
def posR (p : Ps) (f : Fo) : List Ps := if posE p f ≠ 0 then [] else posL p (nodesF f)
theorem posE_zero {p : Ps} {f : Fo} (h : posE p f = 0) : patE f = 0 ∧ (p.1 = [] ∨ isNameF p.1 = true) ∧ 0 ≤ p.2 ∧ p.2 ≤ 4096 := by
  unfold posE at h
  split at h
  · rename_i hh; exact absurd h hh
  · split at h
    · cases h
    · split at h
      · cases h
      · rename_i h1 h2 h3
        refine ⟨Decidable.not_not.1 h1, ?_, by omega, by omega⟩
        by_cases hp : p.1 = []
        · exact .inl hp
        · right
          cases hn : isNameF p.1 with
          | true => rfl
          | false => exact absurd ⟨hp, hn⟩ h2
set_option maxRecDepth 20000 in
theorem Positions_spec {R : Ending → World → Prop} {S : Nat → Prop} {w : World} {a : Option Addr} {n c : Nat} (p : Ps) (f : Fo) (hs : small f) (hF : Forms w) (hf0 : SlF S w a n f)
    (h : ∀ a' c' w', RowAt encP (fun k => w.heap.size ≤ k) w' a' (posR p f).length (posR p f) → Ext w w' → R (.returned (.tuple ⟨[.slice a' (posR p f).length c', .int .i64 (posE p f)]⟩)) w') :
    Calls Tryz.prog F_layout_Positions ⟨[.agg ⟨[.string ⟨⟨p.1⟩⟩, .int .i64 p.2]⟩, .slice a n c]⟩ w R := by
  apply c_layout_Positions
  refine al_intro fun b4 w5 hb4 B4 e5 s5 => ?_
  have er : ∀ e w', posE p f = e → e ≠ 0 → Ext w w' → R (.returned (.tuple ⟨[.slice none 0 0, .int .i64 e]⟩)) w' := by
    intro e w' he h0 hx
    have hr : posR p f = [] := by unfold posR; rw [if_pos (by rw [he]; exact h0)]
    rw [hr, he] at h
    exact h none 0 w' (RowAt.nil _) hx
  refine Pattern_spec f hs (hF.ext e5) (hf0.ext e5) fun w7 e7 => ⟨_, _, rfl, ?_⟩
  have E7 := ext_trans e5 e7
  refine br_split (fun g => er _ _ (by unfold posE; rw [if_pos g]) g E7) (fun g => ?_)
  have hp0 : patE f = 0 := Decidable.not_not.1 g
  obtain ⟨hc0, _, hpl, hpS⟩ := patE_zero hp0
  obtain ⟨q1, q2, q3⟩ := check_zero hc0
  intro K10 hK10
  have k10 : ∀ w11, Ext w7 w11 → ¬ (p.1 ≠ [] ∧ isNameF p.1 = false) → K10 w11 := by
    intro w11 e11 hno
    refine hK10 _ fun _ => ?_
    have E11 := ext_trans E7 e11
    obtain ⟨y0, y1⟩ := blk2 ((B4.ext e7).ext e11)
    intro K12 hK12
    have k12 : posE p f = 0 → K12 w11 := by
      intro hz
      obtain ⟨_, _, z1, z2⟩ := posE_zero hz
      have hr : posR p f = posL p (nodesF f) := by unfold posR; rw [if_neg (by simp [hz])]
      rw [hr, hz] at h
      refine hK12 _ fun _ => ⟨p.1, y0, p.2, y1, ?_⟩
      refine positions_spec p f (by omega) q2 (by omega) z1 (by omega) (hf0.ext E11) fun a' c' w' hrow e' => ⟨_, _, _, rfl, ?_⟩
      exact h a' c' w' (hrow.imp fun k hk _ => by have := E11.size; omega) (ext_trans E11 e')
    have pe : posE p f = if p.2 < 0 ∨ 4096 < p.2 then 2 else 0 := by unfold posE; rw [if_neg (by simp [hp0]), if_neg hno]
    refine ⟨p.2, y1, br_split (fun g1 => er _ _ (by rw [pe, if_pos (.inl g1)]) (by decide) E11) (fun g1 => ⟨p.2, y1, br_split (fun g2 => er _ _ (by rw [pe, if_pos (.inr g2)]) (by decide) E11) (fun g2 => k12 (by rw [pe, if_neg (by omega)]))⟩)⟩
  obtain ⟨y0, y1⟩ := blk2 (B4.ext e7)
  refine ⟨p.1, y0, br_split (fun g1 => ⟨p.1, y0, IsName_spec _ ⟨_, rfl, ?_⟩⟩) (fun g1 => k10 _ (Below.refl _ _) fun hh => g1 hh.1)⟩
  refine br_cases (fun g2 => ?_) (fun g2 => ?_)
  · have g2' : isNameF p.1 = false := by simpa using g2
    exact er _ _ (by unfold posE; rw [if_neg (by simp [hp0]), if_pos ⟨g1, g2'⟩]) (by decide) E7
  · have g2' : isNameF p.1 = true := by simpa using g2
    exact k10 _ (Below.refl _ _) fun hh => by rw [g2'] at hh; exact absurd hh.2 (by decide)

/- the example of the chapter -/
def fW : Fo := .cons 3 [49, 114] 0 .nil (.cons 2 [] 0 .nil (.cons 1 [100, 101] 0 .nil (.cons 2 [] 0 .nil (.one 1 [117, 115] 0 .nil))))
theorem awakeL1 : posE ([], 0) fW = 0 ∧ patE fW = 0 ∧ posR ([], 0) fW = [([49, 114], 1), ([49, 114], 1), ([49, 114], 2), ([49, 114], 2)] ∧ brkR fW = [2] := by decide +kernel
set_option maxRecDepth 20000 in
theorem awake13_spec {R : Ending → World → Prop} {w : World} (hF : Forms w) (h : ∀ w', Ext w w' → R (.returned (.bool true)) w') : Calls Tryz.prog F_law13_awake ⟨[]⟩ w R := by
  obtain ⟨q1, q2, q3, q4⟩ := awakeL1
  apply c_law13_awake
  refine al_intro fun b1 w2 hb1 B1 e2 s2 => ?_
  have f1 : SlF (fun _ => True) w2 (some ⟨b1, 0, none⟩) 5 fW :=
    ⟨rfl, _, at_blk B1, none, 0, [], _, rfl, .inl rfl, rfl, none, 0, [], _, rfl, .inl rfl, rfl, none, 0, [], _, rfl, .inl rfl, rfl, none, 0, [], _, rfl, .inl rfl, rfl, none, 0, [], [], rfl, .inl rfl, rfl, rfl⟩
  refine Positions_spec ([], 0) fW (by decide) (hF.ext e2) f1 fun a4 c4 w4 hr4 e4 => ⟨_, _, _, _, rfl, ?_⟩
  have E4 := ext_trans e2 e4
  refine Broken_spec fW (by decide) (hF.ext E4) (f1.ext e4) fun a8 c8 w8 hr8 e8 => ⟨_, _, _, _, rfl, ?_⟩
  have E8 := ext_trans E4 e8
  refine al_intro fun b11 w12 hb11 B11 e12 s12 => ?_
  refine al_intro fun b13 w14 hb13 B13 e14 s14 => ?_
  have z12 := e12.size
  refine stL_blk (B11.ext e14) (by simp) (by intro u hu; simp only [List.mem_cons, List.not_mem_nil, or_false] at hu; rcases hu with rfl | rfl <;> rfl) fun w15 r1 r2 r3 r4 r5 r6 => ?_
  have hc15 : Chg (fun k => k = b11) w14 w15 := ⟨r4, r5, r6, by omega, fun k _ hk => r2 k hk⟩
  refine stL_blk (hc15.blk B13 (by omega)) (by simp) (by intro u hu; simp only [List.mem_cons, List.not_mem_nil, or_false] at hu; rcases hu with rfl | rfl <;> rfl) fun w16 t1 t2 t3 t4 t5 t6 => ?_
  have hc16 : Chg (fun k => k = b13) w15 w16 := ⟨t4, t5, t6, by omega, fun k _ hk => t2 k hk⟩
  have e814 := ext_trans e12 e14
  have e816 : Ext w8 w16 := ext_chgS (ext_chgS e814 hc15 fun k hk => by omega) hc16 fun k hk => by omega
  have E16 := ext_trans E8 e816
  have r1' : Blk w16 b11 [.string ⟨⟨[49, 114]⟩⟩, .int .i64 1] 24 := hc16.blk (show Blk w15 b11 [.string ⟨⟨[49, 114]⟩⟩, .int .i64 1] 24 from r1) (by omega)
  have t1' : Blk w16 b13 [.string ⟨⟨[49, 114]⟩⟩, .int .i64 2] 24 := t1
  obtain ⟨u0, u1⟩ := blk2 r1'
  obtain ⟨v0, v1⟩ := blk2 t1'
  rw [q1, q2]
  simp only [ne_eq, decide_true, br_t]
  refine ⟨_, u0, _, u1, _, u0, _, u1, _, v0, _, v1, _, v0, _, v1, ?_⟩
  refine al_intro fun b25 w26 hb25 B25 e26 s26 => ?_
  have hM : RowAt encP (fun _ => True) w26 (some ⟨b25, 0, none⟩) 4 [([49, 114], 1), ([49, 114], 1), ([49, 114], 2), ([49, 114], 2)] := ⟨rfl, at_blk B25⟩
  rw [q3] at hr4
  refine EqualP_spec (((hr4.ext e8).ext e816).ext e26) hM (by decide) fun w28 e28 => ⟨_, rfl, ?_⟩
  rw [decide_eq_true rfl]
  simp only [br_t]
  refine al_intro fun b30 w31 hb30 B30 e31 s31 => ?_
  have hN : RowAt encI (fun _ => True) w31 (some ⟨b30, 0, none⟩) 1 [2] := ⟨rfl, at_blk B30⟩
  rw [q4] at hr8
  refine EqualR_spec ((((hr8.ext e816).ext e26).ext e28).ext e31) hN (by decide) fun w33 e33 => ⟨_, rfl, ?_⟩
  rw [decide_eq_true rfl]
  exact h _ (ext_trans (ext_trans (ext_trans (ext_trans E16 e26) e28) e31) e33)

end Go.Proofs
namespace Go.Proofs
open Go Go.Sh Go.RowKit

def fin13 (f : Fo) : Bool := !great10 f && decide (patE f = 0)
theorem fin13_true {f : Fo} (h : fin13 f = true) : great10 f = false ∧ patE f = 0 := by
  unfold fin13 at h; simpa using h
/- whether a node of one of two kinds stands in a list -/
def hasN (a b : Int) (x : Nn) : Bool := decide (x.k = a) || decide (x.k = b)
def hasF (f : Fo) (a b : Int) : Bool := (nodesF f).any (hasN a b)
theorem hasF_cons (k t n) (ps r : Fo) (a b : Int) : hasF (.cons k t n ps r) a b = (hasN a b ⟨k, t, n, ps⟩ || (hasF ps a b || hasF r a b)) := by
  simp [hasF, nodesF, List.any_append]
/- without pages and lines all stands at one place -/
theorem posL_plain : ∀ (l : List Nn) (p : Ps), l.any (hasN 3 2) = false → (∀ x ∈ posL p l, x = p)
  | [], p, _ => by simp [posL]
  | x :: l, p, h => by
    rw [List.any_cons, Bool.or_eq_false_iff] at h
    have hx : ¬ x.k = 3 ∧ ¬ x.k = 2 := by simpa [hasN] using h.1
    have hp : (posN p x).1 = p := by
      unfold posN
      split
      · rfl
      · split
        · rfl
        · rw [if_neg hx.1, if_neg hx.2]
    intro y hy
    rw [posL, hp, List.mem_append] at hy
    rcases hy with hy | hy
    · exact (List.mem_replicate.1 hy).2
    · exact posL_plain l p h.2 y hy
theorem brkZ_plain {L : List Ps} {p : Ps} {s : List UInt8} (h : ∀ x ∈ L, x = p) : brkZ L s = [] := by
  unfold brkZ
  rw [List.map_eq_nil_iff, List.filter_eq_nil_iff]
  intro i hi
  rw [List.mem_filter, List.mem_range] at hi
  obtain ⟨hi, hs⟩ := hi
  have : i = 0 := by
    apply Classical.byContradiction
    intro h0
    unfold isStart at hs
    rw [decide_eq_true_eq] at hs
    refine hs.elim h0 fun hh => hh ?_
    have e1 : L[i]? = some L[i] := by simp [hi]
    have e2 : L[i - 1]? = some L[i - 1] := by rw [List.getElem?_eq_getElem (by omega)]
    rw [e1, e2, h _ (List.getElem_mem hi), h _ (List.getElem_mem (by omega))]
  subst this
  unfold brkB; split <;> simp
def brkTo (L : List Ps) (s : List UInt8) (k : Nat) : List Int := (((List.range k).filter (isStart L)).filter (brkB s)).map fun (i : Nat) => (i : Int)
theorem brkTo_succ (L : List Ps) (s : List UInt8) (k : Nat) : brkTo L s (k + 1) = brkTo L s k ++ if isStart L k && brkB s k then [(k : Int)] else [] := by
  unfold brkTo
  rw [List.range_succ, List.filter_append, List.filter_append, List.map_append]
  congr 1
  simp only [List.filter_cons, List.filter_nil]
  cases isStart L k <;> cases h2 : brkB s k <;> simp [h2]
theorem brkTo_one (L : List Ps) (s : List UInt8) : brkTo L s 1 = [] := by
  rw [brkTo_succ]
  have : brkB s 0 = false := by unfold brkB; split <;> simp
  simp [brkTo, this]
theorem brkTo_len (L : List Ps) (s : List UInt8) (k : Nat) : (brkTo L s k).length ≤ k := by
  unfold brkTo
  rw [List.length_map]
  have h1 := List.length_filter_le (brkB s) ((List.range k).filter (isStart L))
  have h2 := List.length_filter_le (isStart L) (List.range k)
  rw [List.length_range] at h2
  omega

end Go.Proofs
namespace Go.Proofs
open Go Go.Sh Go.RowKit

theorem posL_mono : ∀ (l : List Nn) (p : Ps), l.any (hasN 3 3) = false → (∀ x ∈ posL p l, p.2 ≤ x.2) ∧ (posL p l).Pairwise (fun a b => a.2 ≤ b.2)
  | [], p, _ => by simp [posL]
  | x :: l, p, h => by
    rw [List.any_cons, Bool.or_eq_false_iff] at h
    have hx : ¬ x.k = 3 := by simpa [hasN] using h.1
    have hp : p.2 ≤ (posN p x).1.2 := by
      unfold posN
      split
      · exact Int.le_refl _
      · split
        · exact Int.le_refl _
        · try rw [if_neg hx]
          split
          · show p.2 ≤ p.2 + 1; omega
          · exact Int.le_refl _
    obtain ⟨i1, i2⟩ := posL_mono l (posN p x).1 h.2
    rw [posL]
    refine ⟨fun y hy => ?_, ?_⟩
    · rw [List.mem_append] at hy
      rcases hy with hy | hy
      · rw [(List.mem_replicate.1 hy).2]; exact hp
      · exact Int.le_trans hp (i1 y hy)
    · rw [List.pairwise_append]
      refine ⟨?_, i2, fun y hy z hz => ?_⟩
      · rw [List.pairwise_replicate]; exact .inr (Int.le_refl _)
      · rw [(List.mem_replicate.1 hy).2]; exact i1 z hz

def startP (page line : Int) : Ps := if Int.tmod page 4 = 0 then ([], line) else ([112] ++ (Utf8.encode (IntKind.i32.wrap (IntKind.u8.wrap (48 + (Int.tmod page 4))))).data.toList, line)
theorem start_name {page line : Int} (h0 : 0 ≤ page) (hl : 0 ≤ line ∧ line < 256) {f : Fo} (hf : patE f = 0) : posE (startP page line) f = 0 := by
  have ht : Int.tmod page 4 = 0 ∨ Int.tmod page 4 = 1 ∨ Int.tmod page 4 = 2 ∨ Int.tmod page 4 = 3 := by
    rw [Int.tmod_eq_emod_of_nonneg h0]; omega
  have hn : ¬ ((startP page line).1 ≠ [] ∧ isNameF (startP page line).1 = false) := by
    have key : ∀ k : Int, (k = 1 ∨ k = 2 ∨ k = 3) → isNameF ([112] ++ (Utf8.encode (IntKind.i32.wrap (IntKind.u8.wrap (48 + k)))).data.toList) = true := by
      rintro k (rfl | rfl | rfl) <;> decide +kernel
    unfold startP
    rcases ht with e | e | e | e <;> rw [e]
    · simp
    · rw [if_neg (by decide)]; exact fun hh => absurd (key 1 (by decide)) (by rw [hh.2]; decide)
    · rw [if_neg (by decide)]; exact fun hh => absurd (key 2 (by decide)) (by rw [hh.2]; decide)
    · rw [if_neg (by decide)]; exact fun hh => absurd (key 3 (by decide)) (by rw [hh.2]; decide)
  have hl' : (startP page line).2 = line := by unfold startP; split <;> rfl
  unfold posE
  rw [if_neg (by simp [hf]), if_neg hn, if_neg (by rw [hl']; omega)]
end Go.Proofs
namespace Go.Proofs
open Go Go.Sh Go.RowKit

/- where the characters of a position stand -/
def findF (L : List Ps) (p : Ps) : Option (Nat × Nat) := (rowsF L).find? fun x => decide (L[x.1]? = some p)
def findR (p : Ps) (f : Fo) : Option (Nat × Nat) := if patE f ≠ 0 then none else findF (posL ([], 0) (nodesF f)) p
def fr1 : Option (Nat × Nat) → Int | some x => x.1 | none => 0
def fr2 : Option (Nat × Nat) → Int | some x => x.2 | none => 0
def findE (p : Ps) (f : Fo) : Int := if patE f ≠ 0 then patE f else match findR p f with | some _ => 0 | none => 6
theorem find_at {α : Type} {q : α → Bool} {pre xs : List α} {x : α} (hp : pre ++ [x] <+: xs) (h : ∀ y ∈ pre, q y = false) (hx : q x = true) : xs.find? q = some x := by
  obtain ⟨s, rfl⟩ := hp
  rw [List.append_assoc, List.find?_append]
  have : pre.find? q = none := by rw [List.find?_eq_none]; intro y hy; rw [h y hy]; simp
  rw [this]
  simp [hx]

set_option maxRecDepth 20000 in
theorem Find_spec {R : Ending → World → Prop} {S : Nat → Prop} {w : World} {a : Option Addr} {n c : Nat} (p : Ps) (f : Fo) (hs : small f) (hF : Forms w) (hf0 : SlF S w a n f)
    (h : ∀ w', Ext w w' → R (.returned (.tuple ⟨[.int .i64 (fr1 (findR p f)), .int .i64 (fr2 (findR p f)), .int .i64 (findE p f)]⟩)) w') :
    Calls Tryz.prog F_layout_Find ⟨[.slice a n c, .agg ⟨[.string ⟨⟨p.1⟩⟩, .int .i64 p.2]⟩]⟩ w R := by
  apply c_layout_Find
  refine al_intro fun b4 w5 hb4 B4 e5 s5 => ?_
  refine al_intro fun b6 w7 hb6 B6 e7 s7 => ?_
  refine al_intro fun b8 w9 hb8 B8 e9 s9 => ?_
  refine al_intro fun b10 w11 hb10 B10 e11 s11 => ?_
  have E11 := ext_trans (ext_trans (ext_trans e5 e7) e9) e11
  refine Pattern_spec f hs (hF.ext E11) (hf0.ext E11) fun w13 e13 => ⟨_, _, rfl, ?_⟩
  have E13 := ext_trans E11 e13
  have z5 := e5.size
  have z7 := e7.size
  have z9 := e9.size
  have z11 := e11.size
  have z13 := e13.size
  have B4' := (((B4.ext e7).ext e9).ext e11).ext e13
  have B6' := ((B6.ext e9).ext e11).ext e13
  have B8' := (B8.ext e11).ext e13
  have B10' := B10.ext e13
  -- the three results are laid, and read
  have three : ∀ {W : World} {K : World → Prop} (u v x u' v' x' : Int), Blk W b6 [.int .i64 u] 3 → Blk W b8 [.int .i64 v] 3 → Blk W b10 [.int .i64 x] 28 →
      (∀ W', Blk W' b6 [.int .i64 u'] 3 → Blk W' b8 [.int .i64 v'] 3 → Blk W' b10 [.int .i64 x'] 28 → Chg (fun k => k = b6 ∨ k = b8 ∨ k = b10) W W' → K W') →
      stL W ⟨b6, 0, none⟩ 0 [.int .i64 u'] fun W1 => stL W1 ⟨b8, 0, none⟩ 0 [.int .i64 v'] fun W2 => stL W2 ⟨b10, 0, none⟩ 0 [.int .i64 x'] fun W3 => K W3 := by
    intro W K u v x u' v' x' h6 h8 h10 hK
    refine stL_one h6 rfl fun W1 q1 q2 q3 => stL_one (q2.blk h8 (by omega)) rfl fun W2 r1 r2 r3 => stL_one (r2.blk (q2.blk h10 (by omega)) (by omega)) rfl fun W3 t1 t2 t3 => ?_
    exact hK W3 (t2.blk (r2.blk q1 (by omega)) (by omega)) (t2.blk r1 (by omega)) t1 ((q2.mono fun k _ e => .inl e).trans ((r2.mono fun k _ e => .inr (.inl e)).trans (t2.mono fun k _ e => .inr (.inr e))))
  refine br_split (fun g => ?_) (fun g => ?_)
  · refine three _ _ _ _ _ _ B6' B8' B10' fun W3 t6 t8 t10 hc => ?_
    refine ⟨_, by rw [t6.cell]; rfl, _, by rw [t8.cell]; rfl, _, by rw [t10.cell]; rfl, ?_⟩
    unfold findE findR at h
    simp only [if_pos g] at h
    exact h _ (ext_chgS E13 hc fun k hk => by omega)
  have hp0 : patE f = 0 := Decidable.not_not.1 g
  obtain ⟨hc0, _, hpl, hpS⟩ := patE_zero hp0
  obtain ⟨q1, q2, q3⟩ := check_zero hc0
  unfold findE findR at h
  simp only [if_neg g] at h
  refine positions_spec ([], 0) f (by omega) q2 (by omega) (Int.le_refl _) (by decide) (hf0.ext E13) fun aL cL w23 hL e23 => ⟨_, _, _, rfl, ?_⟩
  have hLL := posL_pat ([], 0) f
  generalize posL ([], 0) (nodesF f) = L at *
  refine al_stL (by simp) (by intro u hu; simp only [List.mem_cons, List.not_mem_nil, or_false] at hu; rcases hu with rfl; rfl) fun b25 w27 hb25 B25 e27 s27 => ?_
  refine ⟨aL, _, cL, by rw [B25.cell]; rfl, ?_⟩
  refine rows_spec fun bs w30 Bs e30 hbs => ⟨_, _, _, rfl, fun base => ?_⟩
  have z23 := e23.size
  have z27 := e27.size
  have z30 := e30.size
  have E23 := ext_trans E13 e23
  have E30 := ext_trans (ext_trans E23 e27) e30
  have zE := E30.size
  have ls := Bs.lt
  have B4'' := ((B4'.ext e23).ext e27).ext e30
  have B6'' := ((B6'.ext e23).ext e27).ext e30
  have B8'' := ((B8'.ext e23).ext e27).ext e30
  have B10'' := ((B10'.ext e23).ext e27).ext e30
  have B25' := B25.ext e30
  have l25 := B25.lt
  have hL1 : RowAt encP (fun k => w13.heap.size ≤ k ∧ k < w23.heap.size) w30 aL L.length L := ((hL.imp fun k hk hl => ⟨hk, hl⟩).ext e27).ext e30
  rw [cd_layout_Find_1]
  refine RFw_lawO anA_layout_Find_1 anB_layout_Find_1 (gf := F_layout_rows_1) rfl (by kernel_rfl) (xs := rowsF L) (E := RwE) (Rd := fun k => (w13.heap.size ≤ k ∧ k < w23.heap.size) ∨ k = bs)
    (fun v1 he => rows_iterO L (by omega) bs v1 (fun k hk => by have := he.size; omega) (Bs.ext he) ((hL1.ext he).imp fun k hk _ => .inl hk) (.inr rfl)) (fun y vs hE => by rw [hE]; rfl) (by decide) (fun k hk => by omega) (fun k => k = b6 ∨ k = b8 ∨ k = b10) (fun k hk => by omega)
    (fun pre S1 W => (∀ y ∈ pre, decide (L[y.1]? = some p) = false) ∧ Blk W b6 [.int .i64 0] 3 ∧ Blk W b8 [.int .i64 0] 3 ∧ Blk W b10 [.int .i64 0] 28 ∧ (∀ k, S1 k ↔ k = b6 ∨ k = b8 ∨ k = b10) ∧ Ext w W ∧ Ext w30 W)
    (fun S1 W => ∃ x : Nat × Nat, findF L p = some x ∧ Blk W b6 [.int .i64 x.1] 3 ∧ Blk W b8 [.int .i64 x.2] 3 ∧ Blk W b10 [.int .i64 0] 28 ∧ (∀ k, S1 k ↔ k = b6 ∨ k = b8 ∨ k = b10) ∧ Ext w W) (fun _ _ => False)
    ?_ ?_ (fun _ _ _ h => h.elim) ⟨by simp, B6'', B8'', B10'', fun k => Iff.rfl, E30, Below.refl _ _⟩ ?_ ?_ ?_ (fun _ _ _ _ _ _ _ h => h.elim)
  · rintro pre S1 W W' ⟨g0, g1, g2, g3, g4, g5, g6⟩ hc
    exact ⟨g0, hc.blk g1 (fun hh => hh.2 ((g4 _).2 (.inl rfl))), hc.blk g2 (fun hh => hh.2 ((g4 _).2 (.inr (.inl rfl)))), hc.blk g3 (fun hh => hh.2 ((g4 _).2 (.inr (.inr rfl)))), g4, ext_chgS g5 hc (fun k hk => by omega), ext_chgS g6 hc (fun k hk => by omega)⟩
  · rintro S1 W W' ⟨x, g0, g1, g2, g3, g4, g5⟩ hc
    exact ⟨x, g0, hc.blk g1 (fun hh => hh.2 ((g4 _).2 (.inl rfl))), hc.blk g2 (fun hh => hh.2 ((g4 _).2 (.inr (.inl rfl)))), hc.blk g3 (fun hh => hh.2 ((g4 _).2 (.inr (.inr rfl)))), g4, ext_chgS g5 hc (fun k hk => by omega)⟩
  · rintro pre ⟨i, i2⟩ vs S1 W l rfl hpre hl1 hl2 hl3 hS1 ⟨g0, g1, g2, g3, g4, g5, g6⟩
    refine Eq.mpr (er_layout_Find_1 base _ _ _ _ _ _ _ _ _ _ _ _ _ _ _) ?_
    refine ⟨Below.refl _ _, fun W2 hU => ?_⟩
    have zU := hU.size
    have zg6 := g6.size
    have hWc : Chg (fun k => k = l) W W2 := ⟨hU.os, hU.tape, hU.output, by omega, fun k _ hk => hU.block k hk⟩
    have nl : ∀ k, S1 k → k ≠ l := fun k hk he => hl3 (he ▸ hk)
    have h1 := hWc.blk g1 (nl _ ((g4 _).2 (.inl rfl)))
    have h2 := hWc.blk g2 (nl _ ((g4 _).2 (.inr (.inl rfl))))
    have h3 := hWc.blk g3 (nl _ ((g4 _).2 (.inr (.inr rfl))))
    have E2' : Ext w W2 := ext_chgS g5 hWc fun k hk => by omega
    have E23' : Ext w30 W2 := ext_chgS g6 hWc fun k hk => by omega
    have hil := rows_lt L (mem_of_prefix hpre)
    unfold drw
    have ed := ext_drew W2
    have E23d := ext_trans E23' ed
    have zd : W2.drew.heap.size = W2.heap.size := rfl
    have h25 := B25'.ext E23d
    have h4 := B4''.ext E23d
    have hx : L[i]? = some L[i] := by simp [hil]
    obtain ⟨bb, o, hq, _, _, hc⟩ := (hL1.ext E23d).get hx
    obtain ⟨x0, x1⟩ := blk2 h4
    refine dr_ok ⟨aL, _, cL, by rw [h25.cell]; rfl, hq _ ⟨L[i].1, by rw [add_none]; exact hc 0 _ rfl, L[i].2, by rw [add_none]; exact hc 1 _ rfl, dr_ok ⟨p.1, x0, p.2, x1, ?_⟩⟩⟩
    have hdec : (decide (L[i].1 = p.1) && (decide (L[i].2 = p.2) && true)) = decide (L[i]? = some p) := by
      rw [hx, Bool.and_true, ← Bool.decide_and, decide_eq_decide, Option.some.injEq, Prod.ext_iff]
    rw [hdec]
    refine br_cases (fun gm => ?_) (fun gm => ?_)
    · refine dr_ok ?_
      have key := three (W := W2.drew) (K := fun W' => Chg (fun k => S1 k ∨ W.heap.size ≤ k) W2 W' ∧ ∃ S' : Nat → Prop, (∀ k, S' k → (S1 k ∨ W.heap.size ≤ k) ∧ k < W'.heap.size) ∧
        ∃ x : Nat × Nat, findF L p = some x ∧ Blk W' b6 [.int .i64 x.1] 3 ∧ Blk W' b8 [.int .i64 x.2] 3 ∧ Blk W' b10 [.int .i64 0] 28 ∧ (∀ k, S' k ↔ k = b6 ∨ k = b8 ∨ k = b10) ∧ Ext w W')
        0 0 0 (i : Int) (i2 : Int) 0 (h1.ext ed) (h2.ext ed) (h3.ext ed) fun W' t6 t8 t10 hc => by
          refine ⟨(Chg.of_ext ed).trans (hc.mono fun k _ hk => .inl ((g4 k).2 hk)), fun k => k = b6 ∨ k = b8 ∨ k = b10, fun k hk => ⟨.inl ((g4 k).2 hk), ?_⟩, (i, i2), find_at hpre g0 gm, t6, t8, t10, fun k => Iff.rfl, ext_chgS (ext_trans E2' ed) hc fun k hk => by omega⟩
          rcases hk with rfl | rfl | rfl
          · exact t6.lt
          · exact t8.lt
          · exact t10.lt
      exact key
    · refine ⟨Chg.of_ext ed, S1, fun k hk => ⟨.inl hk, by have := (hS1 k hk).1; omega⟩, fun y hy => ?_, h1.ext ed, h2.ext ed, h3.ext ed, g4, ext_trans E2' ed, E23d⟩
      rw [List.mem_append, List.mem_singleton] at hy
      rcases hy with hy | rfl
      · exact g0 y hy
      · exact gm
  · rintro D S1 W hD1 hD2 hD3 hD4 ⟨g0, g1, g2, g3, g4, g5, g6⟩
    have hnone : findF L p = none := by
      unfold findF; rw [List.find?_eq_none]; intro y hy; rw [g0 y hy]; simp
    rw [hnone] at h
    have nD : ∀ k, (k = b6 ∨ k = b8 ∨ k = b10) → k ≠ D := fun k hk e => hD3 (e ▸ (g4 k).2 hk)
    refine three _ _ _ _ _ _ g1 g2 g3 fun W3 t6 t8 t10 hc => ?_
    refine retD_one ((hc.block D hD2 (fun hh => nD _ hh rfl)).trans hD4) ?_
    refine ⟨_, by rw [(blk_put t6 (nD _ (.inl rfl)) _).cell]; rfl, _, by rw [(blk_put t8 (nD _ (.inr (.inl rfl))) _).cell]; rfl, _, by rw [(blk_put t10 (nD _ (.inr (.inr rfl))) _).cell]; rfl, ?_⟩
    exact h _ (ext_put (ext_chgS g5 hc fun k hk => by omega) (by omega) _)
  · rintro D S1 W hD1 hD2 hD3 hD4 ⟨x, g0, g1, g2, g3, g4, g5⟩
    rw [g0] at h
    have nD : ∀ k, (k = b6 ∨ k = b8 ∨ k = b10) → k ≠ D := fun k hk e => hD3 (e ▸ (g4 k).2 hk)
    refine retD_one hD4 ?_
    refine ⟨_, by rw [(blk_put g1 (nD _ (.inl rfl)) _).cell]; rfl, _, by rw [(blk_put g2 (nD _ (.inr (.inl rfl))) _).cell]; rfl, _, by rw [(blk_put g3 (nD _ (.inr (.inr rfl))) _).cell]; rfl, ?_⟩
    exact h _ (ext_put g5 (by omega) _)
end Go.Proofs
namespace Go.Proofs
open Go Go.Sh Go.RowKit

theorem rows_find (L : List Ps) (p : Ps) : ∀ (m i0 : Nat), L.length ≤ m + i0 →
    (∀ x, (rowsGo L m i0).find? (fun x => decide (L[x.1]? = some p)) = some x → i0 ≤ x.1 ∧ x.1 < L.length ∧ x.2 = runE L x.1 ∧ L[x.1]? = some p ∧ ∀ k, i0 ≤ k → k < x.1 → L[k]? ≠ some p) ∧
    ((rowsGo L m i0).find? (fun x => decide (L[x.1]? = some p)) = none → ∀ k, i0 ≤ k → L[k]? ≠ some p)
  | 0, i0, hm => by
    refine ⟨fun x h => by simp [rowsGo] at h, fun _ k hk h => ?_⟩
    have := (List.getElem?_eq_some_iff.1 h).1
    omega
  | m + 1, i0, hm => by
    rw [rowsGo]
    by_cases hi : i0 < L.length
    · rw [if_pos hi, List.find?_cons]
      obtain ⟨r1, r2, r3, r4⟩ := runE_spec hi
      by_cases hp : L[i0]? = some p
      · rw [decide_eq_true hp]
        refine ⟨fun x h => ?_, fun h => by cases h⟩
        obtain rfl := Option.some.inj h
        exact ⟨Nat.le_refl _, hi, rfl, hp, fun k h1 h2 => by omega⟩
      · rw [decide_eq_false hp]
        obtain ⟨a1, a2⟩ := rows_find L p m (runE L i0) (by omega)
        have skip : ∀ k, i0 ≤ k → k < runE L i0 → L[k]? ≠ some p := fun k h1 h2 => by rw [r3 k h1 h2]; exact hp
        refine ⟨fun x h => ?_, fun h k hk => ?_⟩
        · obtain ⟨b1, b2, b3, b4, b5⟩ := a1 x h
          refine ⟨by omega, b2, b3, b4, fun k h1 h2 => ?_⟩
          by_cases hk : k < runE L i0
          · exact skip k h1 hk
          · exact b5 k (by omega) h2
        · by_cases hk' : k < runE L i0
          · exact skip k hk hk'
          · exact a2 h k (by omega)
    · rw [if_neg hi]
      refine ⟨fun x h => by simp at h, fun _ k hk h => ?_⟩
      have := (List.getElem?_eq_some_iff.1 h).1
      omega
theorem findF_some {L : List Ps} {p : Ps} {x : Nat × Nat} (h : findF L p = some x) : x.1 < x.2 ∧ x.2 ≤ L.length ∧ (∀ k, x.1 ≤ k → k < x.2 → L[k]? = some p) ∧ (∀ k, k < x.1 → L[k]? ≠ some p) ∧ (x.2 < L.length → L[x.2]? ≠ some p) := by
  obtain ⟨b1, b2, b3, b4, b5⟩ := (rows_find L p L.length 0 (by omega)).1 x h
  obtain ⟨r1, r2, r3, r4⟩ := runE_spec b2
  rw [b3]
  refine ⟨r1, r2, fun k h1 h2 => (r3 k h1 h2).trans b4, fun k hk => b5 k (by omega) hk, fun hh => ?_⟩
  rw [b4] at r4
  exact r4 hh
theorem findF_none {L : List Ps} {p : Ps} (h : findF L p = none) : ∀ x ∈ L, x ≠ p := by
  intro x hx e
  obtain ⟨k, hk, rfl⟩ := List.mem_iff_getElem.1 hx
  exact (rows_find L p L.length 0 (by omega)).2 h k (by omega) (by simp [hk, e])

/- the characters of a position -/
def lineS (p : Ps) (f : Fo) : List UInt8 := match findR p f with | some x => ((patF f).take x.2).drop x.1 | none => []
theorem Line_spec {R : Ending → World → Prop} {S : Nat → Prop} {w : World} {a : Option Addr} {n c : Nat} (p : Ps) (f : Fo) (hs : small f) (hF : Forms w) (hf0 : SlF S w a n f)
    (h : ∀ w', Ext w w' → R (.returned (.tuple ⟨[.string ⟨⟨lineS p f⟩⟩, .int .i64 (findE p f)]⟩)) w') :
    Calls Tryz.prog F_layout_Line ⟨[.slice a n c, .agg ⟨[.string ⟨⟨p.1⟩⟩, .int .i64 p.2]⟩]⟩ w R := by
  apply c_layout_Line
  refine al_intro fun b4 w5 hb4 B4 e5 s5 => ?_
  refine Pattern_spec f hs (hF.ext e5) (hf0.ext e5) fun w7 e7 => ⟨_, _, rfl, ?_⟩
  have E7 := ext_trans e5 e7
  refine br_split (fun g => ?_) (fun g => ?_)
  · have e1 : lineS p f = [] := by unfold lineS findR; rw [if_pos g]
    have e2 : findE p f = patE f := by unfold findE; rw [if_pos g]
    rw [e1, e2] at h
    exact h _ E7
  have hp0 : patE f = 0 := Decidable.not_not.1 g
  obtain ⟨hc0, _, hpl, hpS⟩ := patE_zero hp0
  obtain ⟨x0, x1⟩ := blk2 (B4.ext e7)
  refine ⟨p.1, x0, p.2, x1, ?_⟩
  refine Find_spec p f hs (hF.ext E7) (hf0.ext E7) fun w13 e13 => ⟨_, _, _, rfl, ?_⟩
  have E13 := ext_trans E7 e13
  have hfe : findE p f = match findR p f with | some _ => 0 | none => 6 := by unfold findE; rw [if_neg g] <;> rfl
  have hfr : findR p f = findF (posL ([], 0) (nodesF f)) p := by unfold findR; rw [if_neg g]
  cases hq : findR p f with
  | none =>
    rw [hq] at hfe
    unfold lineS at h
    rw [hq, hfe] at h
    rw [hfe]
    refine br_split (fun _ => h _ E13) (fun hh => absurd (by decide) hh)
  | some x =>
    rw [hq] at hfe
    obtain ⟨f1, f2, _⟩ := findF_some (hfr ▸ hq)
    rw [posL_pat] at f2
    unfold lineS at h
    rw [hq, hfe] at h
    rw [hfe, hpS]
    refine br_split (fun hh => absurd rfl hh) (fun _ => ?_)
    exact ssl_nat (by omega) f2 (h _ E13)

theorem isNaN_spec {R : Ending → World → Prop} {w : World} (x : Int) (h : R (.returned (.bool false)) w) : Calls Tryz.prog F_cmp_isNaN_of_int ⟨[.int .i64 x]⟩ w R := by
  refine (Tryz.cmp_isNaN_int2 x w).mono ?_
  rintro e w' ⟨rfl, rfl⟩
  exact h
def cmpF (x y : Int) : Int := if x < y then -1 else if y < x then 1 else 0
theorem cmp_spec {R : Ending → World → Prop} {w : World} (x y : Int) (h : R (.returned (.int .i64 (cmpF x y))) w) : Calls Tryz.prog F_cmp_Compare_of_int ⟨[.int .i64 x, .int .i64 y]⟩ w R := by
  apply c_cmp_Compare_of_int
  refine isNaN_spec x ⟨_, rfl, isNaN_spec y ⟨_, rfl, ?_⟩⟩
  unfold cmpF at h
  refine br_split (fun g => ?_) (fun g => br_split (fun g' => ?_) (fun g' => ?_))
  · rw [if_pos g] at h; exact h
  · rw [if_neg g, if_pos g'] at h; exact h
  · rw [if_neg g, if_neg g'] at h; exact h
def cmpE (p q : Ps) (f : Fo) : Int := if findE p f ≠ 0 then findE p f else findE q f
def cmpR' (p q : Ps) (f : Fo) : Int := if cmpE p q f ≠ 0 then 0 else cmpF (fr1 (findR p f)) (fr1 (findR q f))
theorem Compare_spec {R : Ending → World → Prop} {S : Nat → Prop} {w : World} {a : Option Addr} {n c : Nat} (p q : Ps) (f : Fo) (hs : small f) (hF : Forms w) (hf0 : SlF S w a n f)
    (h : ∀ w', Ext w w' → R (.returned (.tuple ⟨[.int .i64 (cmpR' p q f), .int .i64 (cmpE p q f)]⟩)) w') :
    Calls Tryz.prog F_layout_Compare ⟨[.slice a n c, .agg ⟨[.string ⟨⟨p.1⟩⟩, .int .i64 p.2]⟩, .agg ⟨[.string ⟨⟨q.1⟩⟩, .int .i64 q.2]⟩]⟩ w R := by
  apply c_layout_Compare
  refine al_intro fun b6 w7 hb6 B6 e7 s7 => ?_
  refine al_intro fun b8 w9 hb8 B8 e9 s9 => ?_
  have E9 := ext_trans e7 e9
  obtain ⟨x0, x1⟩ := blk2 (B6.ext e9)
  refine ⟨p.1, x0, p.2, x1, ?_⟩
  refine Find_spec p f hs (hF.ext E9) (hf0.ext E9) fun w13 e13 => ⟨_, _, _, rfl, ?_⟩
  have E13 := ext_trans E9 e13
  unfold cmpR' cmpE at h
  refine br_split (fun g => ?_) (fun g => ?_)
  · simp only [if_pos g] at h; exact h _ E13
  simp only [if_neg g] at h
  obtain ⟨y0, y1⟩ := blk2 (B8.ext e13)
  refine ⟨q.1, y0, q.2, y1, ?_⟩
  refine Find_spec q f hs (hF.ext E13) (hf0.ext E13) fun w20 e20 => ⟨_, _, _, rfl, ?_⟩
  have E20 := ext_trans E13 e20
  refine br_split (fun g' => ?_) (fun g' => ?_)
  · simp only [if_pos g'] at h; exact h _ E20
  · simp only [if_neg g'] at h
    rw [Decidable.not_not.1 g'] at h
    exact cmp_spec _ _ ⟨_, rfl, h _ E20⟩

end Go.Proofs
namespace Go.Proofs
open Go Go.Sh Go.RowKit

end Go.Proofs
namespace Go.Proofs
open Go Go.Sh Go.RowKit

/- growing the nil slice: room is made, nothing is held -/
theorem grow_nil {P : Program} {t tn ty e : TypeId} {size bytes : Nat} {z : Value} (hT : SlT P t e size bytes z) (htn : P.underlying tn = some (.int .i64)) {w : World} {B : Nat} (hB : B ≤ w.heap.size) (k : Nat) (h0 : 0 < k) (hb : k * bytes ≤ 140737488355328) (hk63 : k ≤ 4611686018427387904)
    {K : Option Addr → Nat → Nat → World → Prop} (hk : ∀ (c : Nat) w', Owns w' B e size (some ⟨w.heap.size, 0, none⟩) 0 c [] → Ext w w' → K (some ⟨w.heap.size, 0, none⟩) k c w') :
    app P [t, tn] ty (.slice none 0 0) (.int .i64 (k : Int)) w K := by
  obtain ⟨i, hi, hz, hs, hbb⟩ := hT.get
  have hpos := hT.pos
  have hr := Lib.run_append_grow_zeros (P := P) w t tn ty e i z .i64 .i64 hT.under htn hi hz none 0 0 [] (run_firstCells_none w.drew i.size 0 0 0) k h0 (by omega) (by omega) (by omega) (by rw [hbb]; omega) (by
    rw [hbb]; exact growslice_fits (by omega) (by rw [Nat.zero_add]; omega))
  rw [Nat.zero_add] at hr
  refine ⟨_, _, _, _, hr, hk _ _ ?_ (ext_trans (ext_drew w) ((Below.refl _ _).alloc (Nat.le_refl _) _))⟩
  refine ⟨by simp, .inr ⟨w.heap.size, _, #[] ++ Builtin.zeroCells z.cells k ++ Builtin.zeroCells z.cells (grownCap w k 0 e - k), rfl, hB, ?_, Nat.zero_le _, grownCap_le_maxLen w k 0 e (by simp only [maxLen]; omega), ?_, by simp⟩⟩
  · exact heap_alloc_new w.drew _
  · have hge := grownCap_ge w k 0 e
    have hzs : z.cells.size = i.size := by rw [hT.zs, hs]
    simp only [Builtin.zeroCells, Array.size_append, Array.size_map, Array.size_range, hzs, hs, List.size_toArray, List.length_nil, Nat.zero_add]
    rw [← Nat.add_mul]
    congr 1
    omega
end Go.Proofs
namespace Go.Proofs
open Go Go.Sh Go.RowKit

theorem slA_zero (b c s : Nat) : slA (some ⟨b, 0, none⟩) c 0 s = some ⟨b, 0, none⟩ := by
  unfold slA; split <;> simp [Addr.add]
def encSl : Enc (Option Addr × Nat × Nat) := ⟨fun x => [.slice x.1 x.2.1 x.2.2], 1, fun _ => rfl, by decide, by intro x v hv; simp only [List.mem_singleton] at hv; subst hv; rfl⟩
def catF : List Fo → Fo
  | [] => .nil
  | g :: gs => g.app (catF gs)
theorem catF_snoc : ∀ (gs : List Fo) (g : Fo), catF (gs ++ [g]) = (catF gs).app g
  | [], g => by simp [catF]
  | x :: gs, g => by simp only [List.cons_append, catF, catF_snoc gs, Fo.app_assoc]
theorem catF_take {gs : List Fo} {k : Nat} {g : Fo} (h : gs[k]? = some g) : catF (gs.take (k + 1)) = (catF (gs.take k)).app g := by
  rw [List.take_add_one, h]; exact catF_snoc _ _
theorem catF_len : ∀ (gs : List Fo) (k : Nat), (catF (gs.take k)).len ≤ (catF gs).len
  | [], k => by simp [catF]
  | g :: gs, 0 => by simp [catF]
  | g :: gs, k + 1 => by
    have := catF_len gs k
    simp only [List.take_succ_cons, catF, Fo.len_app]; omega

end Go.Proofs
namespace Go.Proofs
open Go Go.Sh Go.RowKit

theorem flat_take {gs : List (List Ps)} {k : Nat} {g : List Ps} (h : gs[k]? = some g) : (gs.take (k + 1)).flatten = (gs.take k).flatten ++ g := by
  rw [List.take_add_one, h]; simp
theorem flat_len (gs : List (List Ps)) (k : Nat) : ((gs.take k).flatten).length ≤ gs.flatten.length := by
  have e : gs.flatten = (gs.take k).flatten ++ (gs.drop k).flatten := by rw [← List.flatten_append, List.take_append_drop]
  rw [e, List.length_append]; omega

end Go.Proofs
namespace Go.Proofs
open Go Go.Sh Go.RowKit

theorem longF_texts : ∀ (f : Fo) (d : Nat), longF f d = false → ∀ x ∈ nodesF f, x.t.length ≤ 60 ∨ 65536 < x.t.length
  | .nil, _, _, x, hx => by simp [nodesF] at hx
  | .cons k t n ps r, d, h, x, hx => by
    rw [longF] at h
    simp only [Bool.or_eq_false_iff, decide_eq_false_iff_not] at h
    obtain ⟨h1, h2, h3, h4, h5⟩ := h
    simp only [nodesF, List.mem_cons, List.mem_append] at hx
    rcases hx with rfl | hx | hx
    · show t.length ≤ 60 ∨ 65536 < t.length; omega
    · exact longF_texts ps (d - 1) h4 x hx
    · exact longF_texts r d h5 x hx
theorem flat_bound {α : Type} (q : α → List UInt8) (B : Nat) : ∀ (l : List α), (∀ x ∈ l, (q x).length ≤ B) → (l.flatMap q).length ≤ B * l.length
  | [], _ => by simp
  | x :: l, h => by
    have h1 := h x (by simp)
    have h2 := flat_bound q B l fun y hy => h y (by simp [hy])
    simp only [List.flatMap_cons, List.length_append, List.length_cons, Nat.mul_add, Nat.mul_one]; omega
theorem fin_small {f : Fo} (hg : great10 f = false) (hc : checkT f = 0) : f.size ≤ 40 ∧ (patF f).length ≤ 4000 := by
  obtain ⟨q1, q2, q3⟩ := check_zero hc
  have hl := f.len_le_size
  unfold great10 at hg
  rw [if_pos (by omega), Bool.or_eq_false_iff] at hg
  obtain ⟨h1, h2⟩ := hg
  have h1 : f.size ≤ 40 := by simp at h1; exact h1.1
  have ht := longF_texts f 20 h2
  have hn := good_nodes f q2
  refine ⟨h1, ?_⟩
  have := flat_bound patN 100 (nodesF f) fun x hx => by
    have a1 := hn x hx
    have a2 := ht x hx
    have a3 := a1.2.2.2.1
    unfold patN
    split
    · omega
    · split
      · rename_i h6
        have := a1.2.2.1 (by simp only [numsF]; rw [h6]; rfl)
        simp; omega
      · simp
  rw [nodesF_len] at this
  unfold patF
  omega
/- names of pages -/
theorem okF_pages : ∀ (f : Fo) (w : Bool), okF w f → ∀ x ∈ nodesF f, x.k = 3 → isNameF x.t = true
  | .nil, _, _, x, hx, _ => by simp [nodesF] at hx
  | .cons k t n ps r, w, h, x, hx, hk => by
    simp only [nodesF, List.mem_cons, List.mem_append] at hx
    rcases hx with rfl | hx | hx
    · have h1 := h.1
      have hk : k = 3 := hk
      subst hk
      unfold singleF at h1
      split at h1
      · cases h1
      · split at h1
        · cases h1
        · simp at h1
          show isNameF t = true
          cases hn : isNameF t with
          | true => rfl
          | false => simp [hn] at h1
    · exact okF_pages ps true h.2.1 x hx hk
    · exact okF_pages r w h.2.2 x hx hk
theorem endL_name : ∀ (l : List Nn) (p : Ps), (∀ x ∈ l, x.k = 3 → isNameF x.t = true) → (p.1 = [] ∨ isNameF p.1 = true) → ((endL p l).1 = [] ∨ isNameF (endL p l).1 = true)
  | [], _, _, h => h
  | x :: l, p, hl, h => by
    rw [endL]
    refine endL_name l _ (fun y hy => hl y (by simp [hy])) ?_
    unfold posN
    split
    · exact h
    · split
      · exact h
      · split
        · rename_i h3; exact .inr (hl x (by simp) h3)
        · split
          · exact h
          · exact h
end Go.Proofs
namespace Go.Proofs
open Go Go.Sh Go.RowKit

/- two lists with a verse between them -/
def vF : Fo := .one 5 [] 0 .nil
def xF : Fo := .one 1 [120] 0 .nil
theorem cleanF_app (f g : Fo) : cleanF (f.app g) = (cleanF f && cleanF g) := by unfold cleanF; rw [nodesF_appU, List.all_append]
theorem pat3 {f g : Fo} (hf : cleanF f = true) (hg : cleanF g = true) (hl : (patF f).length + (patF g).length ≤ 60000) : patE (f.app (vF.app g)) = 1 ∨ patE (f.app (vF.app g)) = 0 := by
  have hc : cleanF (f.app (vF.app g)) = true := by rw [cleanF_app, cleanF_app, hf, hg]; rfl
  have hp : (patF (f.app (vF.app g))).length ≤ 60000 := by
    rw [patF_app, patF_app, List.length_append, List.length_append]
    have : patF vF = [] := rfl
    rw [this]; simp; omega
  unfold patE errU
  rw [hc]
  by_cases h : checkT (f.app (vF.app g)) = 0
  · right
    simp only [h, ne_eq, not_true_eq_false, if_false, if_true]
    rw [if_neg (by omega)]
  · left
    simp [h]
theorem pos3 (s : Ps) (f g : Fo) : posL s (nodesF (f.app (vF.app g))) = posL s (nodesF f) ++ posL (endL s (nodesF f)) (nodesF g) := by
  rw [nodesF_appU, nodesF_appU, posL_app, posL_app]
  rfl
theorem size3 (f g : Fo) : (f.app (vF.app g)).size = f.size + g.size + 1 := by
  rw [Fo.size_app, Fo.size_app]; show f.size + (1 + g.size) = _; omega
theorem clean_fin {f : Fo} (h : fin13 f = true) : cleanF f = true ∧ f.size ≤ 40 ∧ (patF f).length ≤ 4000 ∧ (∀ x ∈ nodesF f, x.k = 3 → isNameF x.t = true) := by
  obtain ⟨h1, h2⟩ := fin13_true h
  obtain ⟨c0, c1, _⟩ := patE_zero h2
  obtain ⟨a, b⟩ := fin_small h1 c0
  refine ⟨c1, a, b, ?_⟩
  have hok : okF false f := by
    have : allF f false false = 0 := by
      unfold checkT at c0
      split at c0
      · split at c0
        · rename_i hh; exact absurd c0 hh
        · rename_i hh; exact Decidable.not_not.1 hh
      · cases c0
    exact ((all_split f false false).1 this).1
  exact okF_pages f _ hok

end Go.Proofs
namespace Go.Proofs
open Go Go.Sh Go.RowKit

end Go.Proofs
namespace Go.Sh
open Go Go.RowKit
open Go.WideElems (Fit)
open Go.Maps (Keyed)

/- a map that stands in a block, as a partial function of keys -/
def anyV : Value → Option (DataW Unit × List MemPlace) := fun _ => some (.nil, [])
def MapT {K V : Type} (P : Program) (k : TypeId) (eK : K → Value) (eV : V → Value) (w : World) (b n : Nat) (f : K → Option V) : Prop :=
  ∃ es clock, w.heap[b]? = some (.map es clock) ∧ Fit P k anyV es clock ∧ es.size ≤ n ∧
    ∀ x, (f x = none ∧ ∀ e ∈ es.toList, e.key ≠ eK x) ∨ ∃ v, f x = some v ∧ ∃ e ∈ es.toList, e.key = eK x ∧ e.val = eV v

section
variable {K V : Type} {P : Program} {k t e : TypeId} {eK : K → Value} {eV : V → Value} {w w' : World} {b n : Nat} {f : K → Option V}
theorem MapT.made (w : World) : MapT P k eK eV (w.alloc (.map #[] 0)) w.heap.size 0 (fun _ => none) :=
  ⟨#[], 0, (MapKept.heap_alloc w _).1, ⟨by simp, MapKept.stamped_empty 0, by simp⟩, Nat.le_refl _, fun x => .inl ⟨rfl, by simp⟩⟩
theorem MapT.lt (h : MapT P k eK eV w b n f) : b < w.heap.size := by
  obtain ⟨es, clock, hb, _⟩ := h
  exact (Array.getElem?_eq_some_iff.1 hb).1
theorem MapT.keep (h : MapT P k eK eV w b n f) (hw : w'.heap[b]? = w.heap[b]?) : MapT P k eK eV w' b n f := by
  obtain ⟨es, clock, hb, h⟩ := h
  exact ⟨es, clock, hw.trans hb, h⟩
theorem MapT.ext (h : MapT P k eK eV w b n f) (hw : Ext w w') : MapT P k eK eV w' b n f := h.keep (hw.block b h.lt)
theorem MapT.chg {S : Nat → Prop} (h : MapT P k eK eV w b n f) (hw : Chg S w w') (hs : ¬ S b) : MapT P k eK eV w' b n f := h.keep (hw.block b h.lt hs)
theorem MapT.mono (h : MapT P k eK eV w b n f) {m : Nat} (hm : n ≤ m) : MapT P k eK eV w b m f := by
  obtain ⟨es, clock, hb, F, hs, h⟩ := h
  exact ⟨es, clock, hb, F, Nat.le_trans hs hm, h⟩
theorem MapT.congr {g : K → Option V} (h : MapT P k eK eV w b n f) (hg : ∀ x, f x = g x) : MapT P k eK eV w b n g := by
  rw [← (funext hg : f = g)]; exact h

theorem MapT.look (h : MapT P k eK eV w b n f) (Kd : Keyed P k) (ht : P.underlying t = some (.map k e)) {z : Value} (hz : (zeroValue e).run P w = .ok z w) {x : K} {kl : Lit} (hkey : keyOf P k (eK x) = some kl) :
    lkAt P t (.map (some b)) (eK x) w (((f x).map eV).getD z) := by
  obtain ⟨es, clock, hb, F, _, hf⟩ := h
  unfold lkAt
  rcases Maps.fit_look false Kd ht hz hb F hkey with ⟨hrun, hno, _⟩ | ⟨e0, y, h1, h2, hrun, _⟩
  · rcases hf x with ⟨h0, _⟩ | ⟨v, _, e1, he1, hk1, _⟩
    · rw [h0]; exact hrun
    · exact absurd hk1 (hno e1 he1)
  · rcases hf x with ⟨_, h0⟩ | ⟨v, hv, e1, he1, hk1, hv1⟩
    · exact absurd h2 (h0 e0 h1)
    · rw [hv]
      have : e0 = e1 := by
        have hn : es.toList.Pairwise (fun x y => x.key ≠ y.key) := ((MapKept.stamped_iff es clock).1 F.stamped).2.2
        obtain ⟨i, hi, rfl⟩ := List.getElem_of_mem h1
        obtain ⟨j, hj, rfl⟩ := List.getElem_of_mem he1
        have : i = j := by
          apply Classical.byContradiction
          intro hne
          rcases Nat.lt_or_gt_of_ne hne with hl | hl
          · exact List.pairwise_iff_getElem.1 hn i j hi hj hl (h2.trans hk1.symm)
          · exact List.pairwise_iff_getElem.1 hn j i hj hi hl (hk1.trans h2.symm)
        subst this; rfl
      subst this
      rw [hv1] at hrun
      simpa using hrun
theorem MapT.look2 (h : MapT P k eK eV w b n f) (Kd : Keyed P k) (ht : P.underlying t = some (.map k e)) {z : Value} (hz : (zeroValue e).run P w = .ok z w) {x : K} {kl : Lit} (hkey : keyOf P k (eK x) = some kl) :
    lkAt2 P t (.map (some b)) (eK x) w (((f x).map eV).getD z) (f x).isSome := by
  obtain ⟨es, clock, hb, F, _, hf⟩ := h
  unfold lkAt2
  rcases Maps.fit_look true Kd ht hz hb F hkey with ⟨hrun, hno, _⟩ | ⟨e0, y, h1, h2, hrun, _⟩
  · rcases hf x with ⟨h0, _⟩ | ⟨v, _, e1, he1, hk1, _⟩
    · rw [h0]; exact hrun
    · exact absurd hk1 (hno e1 he1)
  · rcases hf x with ⟨_, h0⟩ | ⟨v, hv, e1, he1, hk1, hv1⟩
    · exact absurd h2 (h0 e0 h1)
    · rw [hv]
      have : e0 = e1 := by
        have hn : es.toList.Pairwise (fun x y => x.key ≠ y.key) := ((MapKept.stamped_iff es clock).1 F.stamped).2.2
        obtain ⟨i, hi, rfl⟩ := List.getElem_of_mem h1
        obtain ⟨j, hj, rfl⟩ := List.getElem_of_mem he1
        have : i = j := by
          apply Classical.byContradiction
          intro hne
          rcases Nat.lt_or_gt_of_ne hne with hl | hl
          · exact List.pairwise_iff_getElem.1 hn i j hi hj hl (h2.trans hk1.symm)
          · exact List.pairwise_iff_getElem.1 hn j i hj hi hl (hk1.trans h2.symm)
        subst this; rfl
      subst this
      rw [hv1] at hrun
      simpa using hrun
theorem MapT.update (h : MapT P k eK eV w b n f) (Kd : Keyed P k) (ht : P.underlying t = some (.map k e)) (hn : n < maxLen) {x : K} {v : V} {kl : Lit} (hkey : keyOf P k (eK x) = some kl) (hinj : ∀ y, eK y = eK x → y = x) {Q : World → Prop}
    (hq : ∀ (w' : World) (g : K → Option V), MapT P k eK eV w' b (n + 1) g → Chg (fun j => j = b) w w' → g x = some v → (∀ y, y ≠ x → g y = f y) → Q w') : mupd P t (.map (some b)) (eK x) (eV v) w Q := by
  have hlt := h.lt
  obtain ⟨es, clock, hb, F, hs, hf⟩ := h
  have hsz : es.size < maxLen := Nat.lt_of_le_of_lt hs hn
  have chg : ∀ o, Chg (fun j => j = b) w (ChangeMaps.setBlock w b o) := fun o => ⟨rfl, rfl, rfl, by simp [ChangeMaps.setBlock], fun i _ hi => ChangeMaps.heap_setBlock_other hb _ hi⟩
  have fin : ∀ es' clock', (Instr.mapUpdate t (.map (some b)) (eK x) (eV v)).run P w = .ok () (ChangeMaps.setBlock w b (.map es' clock')) → Fit P k anyV es' clock' → es'.size ≤ n + 1 →
      (∃ e1 ∈ es'.toList, e1.key = eK x ∧ e1.val = eV v) → (∀ e0 ∈ es.toList, e0.key ≠ eK x → e0 ∈ es'.toList) → (∀ e1 ∈ es'.toList, e1.key ≠ eK x → e1 ∈ es.toList) →
      mupd P t (.map (some b)) (eK x) (eV v) w Q := by
    intro es' clock' hrun F' hs' hnew hold hback
    classical
    refine ⟨_, hrun, hq _ (fun y => if y = x then some v else f y) ⟨es', clock', ChangeMaps.heap_setBlock_same hb _, F', hs', fun y => ?_⟩ (chg _) (by simp) (fun y hy => by simp [hy])⟩
    by_cases hy : y = x
    · subst hy
      obtain ⟨e1, h1, h2, h3⟩ := hnew
      exact .inr ⟨v, by simp, e1, h1, h2, h3⟩
    · have hne : eK y ≠ eK x := fun e => hy (hinj y e)
      rcases hf y with ⟨h0, h1⟩ | ⟨u, hu, e1, h1, h2, h3⟩
      · refine .inl ⟨by simp [hy, h0], fun e1 he1 hk => ?_⟩
        exact h1 e1 (hback e1 he1 (by rw [hk]; exact hne)) hk
      · exact .inr ⟨u, by simp [hy, hu], e1, hold e1 h1 (by rw [h2]; exact hne), h2, h3⟩
  rcases Kd.find w hkey es.toList F.keys with ⟨h1, h2⟩ | ⟨j, e0, h1, h2, h3⟩
  · refine fin (es.push ⟨eK x, eV v, clock⟩) (clock + 1) ?_ ⟨by simp; omega, MapKept.stamped_push F.stamped h2, ?_⟩ (by simp; omega) ⟨⟨eK x, eV v, clock⟩, by simp, rfl, rfl⟩ (fun e0 h0 _ => by simp at h0 ⊢; exact .inl h0) (fun e1 h1 hne => ?_)
    · simp [Instr.mapUpdate, run_underlying ht, MapKept.run_getObj_map hb, Kd.check w false hkey, h1, MapKept.run_setObj_map _ hb, Result.andThen, ChangeMaps.setBlock]
    · intro y hy
      simp only [Array.toList_push, List.mem_append, List.mem_singleton] at hy
      rcases hy with hy | rfl
      · exact F.reads y hy
      · exact ⟨_, WideElems.rd_mk hkey rfl⟩
    · simp only [Array.toList_push, List.mem_append, List.mem_singleton] at h1
      rcases h1 with h1 | rfl
      · exact h1
      · exact absurd rfl hne
  · have hj : es[j]? = some e0 := by simpa using h2
    have hjl : j < es.toList.length := (List.getElem?_eq_some_iff.1 h2).1
    have hkeyf : ∀ e', es[j]? = some e' → ({ e' with key := eK x, val := eV v } : MapEntry).key = e'.key := fun e' he' => by rw [hj] at he'; cases he'; exact h3.symm
    have hlist : (es.modify j (fun e' => { e' with key := eK x, val := eV v })).toList = es.toList.set j { e0 with key := eK x, val := eV v } := by
      apply List.ext_getElem?
      intro i
      simp only [Array.getElem?_toList, Array.getElem?_modify, List.getElem?_set]
      by_cases hi : j = i
      · subst hi; simp [hj]; exact (Array.getElem?_eq_some_iff.1 hj).1
      · simp [hi]
    refine fin (es.modify j (fun e' => { e' with key := eK x, val := eV v })) clock ?_ ⟨by simpa using F.size, MapKept.stamped_modify F.stamped _ _ (fun _ _ => rfl) (fun e' _ he' => hkeyf e' he'), ?_⟩ (by simp; omega) ?_ ?_ ?_
    · simp [Instr.mapUpdate, run_underlying ht, MapKept.run_getObj_map hb, Kd.check w false hkey, h1, hj, h3, Kd.stays w hkey, MapKept.run_setObj_map _ hb, Result.andThen, ChangeMaps.setBlock]
    · intro y hy
      rw [hlist] at hy
      rcases List.mem_or_eq_of_mem_set hy with hy | rfl
      · exact F.reads y hy
      · exact ⟨_, WideElems.rd_mk hkey rfl⟩
    · exact ⟨{ e0 with key := eK x, val := eV v }, by rw [hlist]; exact List.mem_iff_getElem.2 ⟨j, by simpa using hjl, by simp⟩, rfl, rfl⟩
    · intro y hy hne
      rw [hlist]
      obtain ⟨i, hi, rfl⟩ := List.getElem_of_mem hy
      have hij : j ≠ i := fun e => by
        subst e
        have : es.toList[j] = e0 := by rw [List.getElem?_eq_getElem hjl] at h2; exact Option.some.inj h2
        rw [this] at hne; exact hne h3
      exact List.mem_iff_getElem.2 ⟨i, by simpa using hi, by rw [List.getElem_set_ne hij]⟩
    · intro y hy hne
      rw [hlist] at hy
      rcases List.mem_or_eq_of_mem_set hy with hy | rfl
      · exact hy
      · exact absurd rfl hne
end
theorem mkm_intro {w : World} {K : Nat → World → Prop}
    (h : ∀ b w', b = w.heap.size → (∀ {A V : Type} (P : Program) (k : TypeId) (eK : A → Value) (eV : V → Value), MapT P k eK eV w' b 0 (fun _ => none)) → Ext w w' → w'.heap.size = b + 1 → K b w') : mkm w K :=
  h _ _ rfl (fun P k eK eV => MapT.made w) ((Below.refl _ w).alloc (Nat.le_refl _) _) (by simp)
end Go.Sh
namespace Go.Proofs
open Go Go.Sh Go.RowKit

/- collect: calling a function with each node of a kind -/
def ofK (kind : Int) (f : Fo) : List Nn := (nodesF f).filter fun x => decide (x.k = kind)
theorem ofK_cons (kind : Int) (k t n) (ps r : Fo) : ofK kind (.cons k t n ps r) = (if k = kind then [⟨k, t, n, ps⟩] else []) ++ (ofK kind ps ++ ofK kind r) := by
  unfold ofK
  rw [nodesF, List.filter_cons, List.filter_append]
  by_cases h : k = kind
  · simp [h]
  · simp [h]
theorem ofK_len (kind : Int) (f : Fo) : (ofK kind f).length ≤ f.size := by
  unfold ofK; rw [← nodesF_len]; exact List.length_filter_le _ _

set_option maxRecDepth 20000 in
theorem collect_spec {yf : Fn} {ya yb : Array Value} {T : Nat → Prop} {J : List Nn → (Nat → Prop) → World → Prop} {w0 : World} {kind : Int} {xs : List Nn}
    (hTl : ∀ k, T k → k < w0.heap.size)
    (hJ : ∀ pre S W W', J pre S W → Chg (fun k => w0.heap.size ≤ k ∧ ¬ S k) W W' → J pre S W')
    (hbody : ∀ pre x vs S W, NnE T w0 x vs → pre ++ [x] <+: xs → w0.heap.size ≤ W.heap.size → (∀ k, S k → k < W.heap.size ∧ ¬ T k) → J pre S W → CallV Tryz.prog (.func yf ya yb) vs W fun e W' => e = .returned (.tuple ⟨[]⟩) ∧ Chg S W W' ∧
      ∃ S' : Nat → Prop, (∀ k, S' k → (S k ∨ W.heap.size ≤ k) ∧ k < W'.heap.size) ∧ J (pre ++ [x]) S' W') :
    ∀ (f : Fo) {R : Ending → World → Prop} {S : Nat → Prop} {w : World} {a : Option Addr} {n c : Nat} (pre : List Nn), small f → pre ++ ofK kind f <+: xs → SlF T w0 a n f → w0.heap.size ≤ w.heap.size → (∀ k, T k → w.heap[k]? = w0.heap[k]?) → (∀ k, S k → k < w.heap.size ∧ ¬ T k) →
      J pre S w → (∀ S' W', Chg S w W' → (∀ k, S' k → (S k ∨ w.heap.size ≤ k) ∧ k < W'.heap.size) → J (pre ++ ofK kind f) S' W' → R (.returned (.tuple ⟨[]⟩)) W') →
      Calls Tryz.prog F_layout_collect ⟨[.slice a n c, .int .i64 kind, .func yf ya yb]⟩ w R := by
  intro f
  induction hz : f.size using Nat.strongRecOn generalizing f with
  | _ z ih =>
  intro R S w a n c pre hs hpre hf hw0 hT hS hj hend
  unfold small at hs
  apply c_layout_collect
  have hn := hf.1
  have hfl := f.len_le_size
  refine ⟨fun i W m => ∃ (p r : Fo) (ps : List Nn) (S1 : Nat → Prop), f = p.app r ∧ i = p.len ∧ m = r.len ∧ Chg S w W ∧ (∀ k, S1 k → (S k ∨ w.heap.size ≤ k) ∧ k < W.heap.size) ∧ J ps S1 W ∧ pre ++ ofK kind f = ps ++ ofK kind r,
    ⟨_, .nil, f, pre, S, rfl, rfl, rfl, Chg.refl _ _, fun k hk => ⟨.inl hk, (hS k hk).1⟩, hj, rfl⟩, ?_⟩
  rintro _ W m ⟨p, r, xs', S1, hpr, rfl, rfl, hcW, hS1, hjW, heq⟩ _
  have hwW := hcW.size
  refine br_split (fun hlt => ?_) (fun hge => ?_)
  · obtain ⟨k, t, mm, ps, r, rfl⟩ := Fo.next hpr (by omega)
    have hsl := Fo.sub_len hpr
    have hsz := Fo.sub_size hpr
    have e1 : f = (p.app (.one k t mm ps)).app r := by rw [Fo.app_one_app]; exact hpr
    have i1 : IntKind.i64.wrap ((p.len : Int) + 1) = ((p.app (.one k t mm ps)).len : Int) := by rw [wrap_nat (by omega)]; simp [Fo.one]
    have hTW : ∀ k, T k → W.heap[k]? = w0.heap[k]? := fun k hk => (hcW.block k (by have := hTl k hk; omega) (fun h => (hS k h).2 hk)).trans (hT k hk)
    obtain ⟨q, a', c', hq, hTq, hql, hN⟩ := (hf.keep (S' := T) (w' := W) (fun k hk _ => ⟨hk, hTW k hk⟩) (by omega)).get hpr
    have hNT : SlF T w0 a' ps.len ps := hN.sl.keep' fun k hk _ => ⟨hk, hTl k hk, (hTW k hk).symm⟩
    refine hq _ ⟨k, hN.kind, t, hN.text, mm, hN.num, a', ps.len, c', hN.parts, ?_⟩
    refine al_stL (by simp) (by intro u hu; simp only [List.mem_cons, List.not_mem_nil, or_false] at hu; rcases hu with rfl | rfl | rfl | rfl <;> rfl) fun bx w1 hbx hBx e2 s2 => ?_
    have z2 := e2.size
    obtain ⟨x0, x1, x2, x3⟩ := blk4 hBx
    have n1x : ¬ S1 bx := fun h => by have := (hS1 _ h).2; omega
    have hj1 : J xs' S1 w1 := hJ _ _ _ _ hjW (Chg.of_ext e2)
    rw [ofK_cons] at heq
    have hS1T : ∀ k, S1 k → k < w1.heap.size ∧ ¬ T k := fun j hj => ⟨by have := (hS1 j hj).2; omega, fun ht => (hS1 j hj).1.elim (fun h => (hS j h).2 ht) (fun h => by have := hTl j ht; omega)⟩
    intro K17 hK17
    -- the parts, and on
    have rest : ∀ (w2 : World) (S2 : Nat → Prop) (l : List Nn), Chg S1 w1 w2 → (∀ k, S2 k → (S1 k ∨ w1.heap.size ≤ k) ∧ k < w2.heap.size) → J l S2 w2 → pre ++ ofK kind f = l ++ (ofK kind ps ++ ofK kind r) → K17 w2 := by
      intro w2 S2 l hc2 hS2 hj2 heq2
      refine hK17 _ fun _ => ?_
      have z3 := hc2.size
      have hcw2 : Chg S w w2 := chg_then (hcW.trans (Chg.of_ext e2)) hc2 fun i hi hh => (hS1 i hh).1.elim id fun h => by omega
      have hS2w : ∀ k, S2 k → (S k ∨ w.heap.size ≤ k) ∧ k < w2.heap.size := fun j hj => ⟨(hS2 j hj).1.elim (fun h => (hS1 j h).1) (fun h => .inr (by omega)), (hS2 j hj).2⟩
      obtain ⟨y0, y1, y2, y3⟩ := blk4 (hc2.blk hBx n1x)
      refine ⟨a', ps.len, c', y3, ?_⟩
      refine ih _ (hz ▸ hsz) ps rfl (S := S2) l (by unfold small; omega) (List.IsPrefix.trans ⟨ofK kind r, by rw [heq2]; simp⟩ hpre) hNT (by omega) (fun j hj => (hcw2.block j (by have := hTl j hj; omega) (fun h => (hS j h).2 hj)).trans (hT j hj))
        (fun j hj => ⟨(hS2 j hj).2, fun ht => (hS2 j hj).1.elim (fun h => (hS1T j h).2 ht) (fun h => by have := hTl j ht; omega)⟩) hj2 (fun S3 w3 hc3 hS3 hj3 => ⟨rfl, ?_⟩)
      refine ⟨r.len, by simp, _, r, _, S3, e1, i1, rfl, chg_then hcw2 hc3 fun i hi hh => (hS2w i hh).1.elim id fun h => by omega, fun j hj => ⟨(hS3 j hj).1.elim (fun h => (hS2w j h).1) (fun h => .inr (by omega)), (hS3 j hj).2⟩, hj3, ?_⟩
      rw [heq2]; simp
    refine ⟨k, x0, br_split (fun g => ?_) (fun g => ?_)⟩
    · refine ⟨k, x0, t, x1, mm, x2, a', ps.len, c', x3, ?_⟩
      rw [if_pos g] at heq
      refine CallV_mono (hbody xs' ⟨k, t, mm, ps⟩ _ S1 w1 ⟨a', c', rfl, hNT⟩ (List.IsPrefix.trans ⟨ofK kind ps ++ ofK kind r, by rw [heq]; simp⟩ hpre) (by omega) hS1T hj1) ?_
      rintro e w2 ⟨rfl, hc2, S2, hS2, hj2⟩
      exact ⟨rfl, rest w2 S2 _ hc2 hS2 hj2 (by rw [heq]; simp)⟩
    · rw [if_neg g, List.nil_append] at heq
      exact rest w1 S1 _ (Chg.refl _ _) (fun k hk => ⟨.inl hk, (hS1T k hk).1⟩) hj1 heq
  · obtain ⟨rfl, rfl⟩ := Fo.last hpr (by omega)
    have e : xs' = pre ++ ofK kind p := by rw [heq]; simp [ofK, nodesF]
    rw [e] at hjW
    exact hend S1 _ hcW hS1 hjW

/- Pages -/
def pgF (f : Fo) : List (List UInt8) := (ofK 3 f).map (·.t)
def pgE (f : Fo) : Int := if patE f ≠ 0 then patE f else if (pgF f).Nodup then 0 else 7
def pgR (f : Fo) : List (List UInt8) := if pgE f ≠ 0 then [] else pgF f
theorem slT_str : SlT Tryz.prog 27 9 1 16 (.string ⟨⟨[]⟩⟩) := ⟨by kernel_rfl, by kernel_rfl, rfl, by decide⟩
theorem kd9 : Maps.Keyed Tryz.prog 9 := Maps.string_keyed (by kernel_rfl)
abbrev eS (s : List UInt8) : Value := .string ⟨⟨s⟩⟩
abbrev eB (b : Bool) : Value := .bool b
theorem keyS {s : List UInt8} (h : s.length ≤ 4611686018427387904) : keyOf Tryz.prog 9 (eS s) = some (.string s) :=
  WideMaps.keyOf_string_mk (P := Tryz.prog) (by kernel_rfl) (show (⟨⟨s⟩⟩ : ByteArray).size ≤ maxLen by simp only [maxLen]; show s.length ≤ _; omega)
theorem zero_run {P : Program} {T : TypeId} {v : Value} (h : (P.info? T).bind (·.zero) = some v) (w : World) : (zeroValue T).run P w = .ok v w := by
  cases hi : P.info? T with
  | none => rw [hi] at h; cases h
  | some i =>
    rw [hi] at h
    have hz : i.zero = some v := h
    simp [zeroValue, typeInfo, hi, hz]

/- the state of the walk over the pages -/
def PgS (b6 b8 b10 b13 B : Nat) (W : World) (oa : Option Addr) (l : List (List UInt8)) : Prop :=
  ∃ oc fm, Blk W b13 [.bool (!decide l.Nodup)] 4 ∧ Blk W b10 [.map (some b8)] 54 ∧ MapT Tryz.prog 9 eS eB W b8 l.length fm ∧ (∀ t, fm t = if t ∈ l then some true else none) ∧
    Blk W b6 [.slice oa l.length oc] 27 ∧ OwnL encStr W B 9 oa l.length oc l
set_option maxRecDepth 20000 in
theorem pages1_spec {b6 b8 b10 b13 B : Nat} (hb : b6 < b8 ∧ b8 < b10 ∧ b10 < b13 ∧ b13 < B) {W : World} {oa : Option Addr} {l : List (List UInt8)} (hst : PgS b6 b8 b10 b13 B W oa l) (hBW : B ≤ W.heap.size) (k n : Int) (t : List UInt8) (v : Value) (ht : t.length ≤ 4611686018427387904) (hl : l.length ≤ 1000000)
    {a : Option Addr} {m c : Nat} {R : Ending → World → Prop}
    (h : ∀ oa' W', PgS b6 b8 b10 b13 B W' oa' (l ++ [t]) → Chg (fun k => k = b6 ∨ k = b8 ∨ k = b10 ∨ k = b13 ∨ bk oa k) W W' → (∀ k, bk oa' k → bk oa k ∨ W.heap.size ≤ k) → R (.returned (.tuple ⟨[]⟩)) W') :
    Calls Tryz.prog F_layout_Pages_1 ⟨[.agg ⟨[.int .i64 k, .string ⟨⟨t⟩⟩, .int .i64 n, .slice a m c]⟩, .pointer (some ⟨b13, 0, none⟩), .pointer (some ⟨b10, 0, none⟩), .pointer (some ⟨b6, 0, none⟩)]⟩ W R := by
  apply c_layout_Pages_1
  obtain ⟨oc, fm, h13, h10, h8, hfm, h6, hL⟩ := hst
  refine al_intro fun bx w9 hbx Bx e9 s9 => ?_
  obtain ⟨x0, x1, x2, x3⟩ := blk4 Bx
  have nb : ∀ {j}, bk oa j → b13 < j := fun hj => by have := (Owns.bk hL hj).1; omega
  intro K10 hK10
  have k10 : ∀ w11, Blk w11 b13 [.bool (!decide (l ++ [t]).Nodup)] 4 → Chg (fun k => k = b13) w9 w11 → K10 w11 := by
    intro w11 g13 hc11
    refine hK10 _ fun _ => ?_
    have g10 := hc11.blk (h10.ext e9) (by omega)
    have g8 := (h8.ext e9).chg hc11 (by omega)
    have g6 := hc11.blk (h6.ext e9) (by omega)
    have gL := Owns.chg (Owns.ext hL e9) hc11 (fun k hk e => by have := nb hk; omega)
    have gx := hc11.blk Bx (by omega)
    have z11 := hc11.size
    refine dr_ok ⟨_, by rw [g10.cell]; rfl, t, (blk4 gx).2.1, ?_⟩
    refine MapT.update (eV := eB) g8 kd9 (t := 54) (e := 4) (by kernel_rfl) (by simp only [maxLen]; omega) (keyS ht) (fun y hy => by simpa [eS] using hy) fun w15 fm' m8 hc15 hm1 hm2 => ?_
    have z15 := hc15.size
    have q13 := hc15.blk g13 (by omega)
    have q10 := hc15.blk g10 (by omega)
    have q6 := hc15.blk g6 (by omega)
    have qL := Owns.chg gL hc15 (fun k hk e => by have := nb hk; omega)
    have qx := hc15.blk gx (by omega)
    refine dr_ok ⟨_, _, _, by rw [q6.cell]; rfl, t, (blk4 qx).2.1, ?_⟩
    refine OwnL.push (E := encStr) slT_str qL (by omega) t (by omega) (by omega) fun a' c'' w22 ho hc22 hn22 => ?_
    have z22 := hc22.size
    have n6 : ¬ bk oa b6 := fun hh => by have := nb hh; omega
    refine dr_ok (stL_one (hc22.blk q6 n6) rfl fun w23 r6 hc23 s23 => ?_)
    have no : ∀ {j}, j ≤ b13 → ¬ bk oa j := fun hj hh => by have := nb hh; omega
    have n6' : ∀ k, bk a' k → ¬ k = b6 := fun k hk he => by have := (Owns.bk ho hk).1; omega
    have hl1 : (l ++ [t]).length = l.length + 1 := by simp
    refine h a' w23 ⟨c'', fm', hc23.blk (hc22.blk q13 (no (by omega))) (by omega), hc23.blk (hc22.blk q10 (no (by omega))) (by omega), by rw [hl1]; exact (m8.chg hc22 (no (by omega))).chg hc23 (by omega), fun s => ?_, by rw [hl1]; exact r6, by rw [hl1]; exact Owns.chg ho hc23 n6'⟩ ?_ (fun k hk => (hn22 k hk).imp id fun hh => by omega)
    · by_cases hs : s = t
      · subst hs; rw [hm1]; simp
      · rw [hm2 s hs, hfm]; simp [hs]
    · have c1 : Chg (fun k => k = b6 ∨ k = b8 ∨ k = b10 ∨ k = b13 ∨ bk oa k) W w11 := (Chg.of_ext e9).trans (hc11.mono fun k _ hk => by simp [hk])
      have c2 := c1.trans (hc15.mono fun k _ hk => by simp [hk])
      have c3 := c2.trans (hc22.mono fun k _ hk => by simp [hk])
      exact c3.trans (hc23.mono fun k _ hk => by simp [hk])
  have hnd : (l ++ [t]).Nodup ↔ l.Nodup ∧ t ∉ l := by
    rw [List.nodup_append]
    constructor
    · rintro ⟨a, _, b⟩; exact ⟨a, fun hm => b t hm t (by simp) rfl⟩
    · rintro ⟨a, b⟩
      refine ⟨a, by simp, fun x hx y hy he => ?_⟩
      simp only [List.mem_singleton] at hy
      subst hy he; exact b hx
  refine dr_ok ⟨_, by rw [(h13.ext e9).cell]; rfl, br_cases (fun g => ?_) (fun g => ?_)⟩
  · refine dr_ok (stL_one (h13.ext e9) rfl fun w11 g13 hc11 _ => k10 w11 ?_ hc11)
    have : ¬ l.Nodup := by simpa using g
    rw [show (!decide (l ++ [t]).Nodup) = true by simp [hnd, this]]; exact g13
  · have hln : l.Nodup := by simpa using g
    refine dr_ok ⟨_, by rw [(h10.ext e9).cell]; rfl, t, x1, decide (t ∈ l), ?_, ?_⟩
    · have hk := MapT.look (eV := eB) (h8.ext e9) kd9 (t := 54) (e := 4) (by kernel_rfl) (zero_run (v := .bool false) (by kernel_rfl) _) (keyS ht)
      rw [hfm] at hk
      by_cases hm : t ∈ l
      · rw [if_pos hm] at hk; rw [decide_eq_true hm]; exact hk
      · rw [if_neg hm] at hk; rw [decide_eq_false hm]; exact hk
    · refine dr_ok (stL_one (h13.ext e9) rfl fun w11 g13 hc11 _ => k10 w11 ?_ hc11)
      rw [show (!decide (l ++ [t]).Nodup) = decide (t ∈ l) by by_cases hm : t ∈ l <;> simp [hnd, hln, hm]]; exact g13
end Go.Proofs
namespace Go.Proofs
open Go Go.Sh Go.RowKit

theorem ofK_mem {kind : Int} {f : Fo} {x : Nn} (h : x ∈ ofK kind f) : x ∈ nodesF f ∧ x.k = kind := by
  unfold ofK at h; simpa using List.mem_filter.1 h
theorem tlen_node : ∀ (f : Fo) (x : Nn), x ∈ nodesF f → x.t.length ≤ tlen f
  | .nil, x, h => by simp [nodesF] at h
  | .cons k t n ps r, x, h => by
    simp only [nodesF, List.mem_cons, List.mem_append] at h
    simp only [tlen]
    rcases h with rfl | h | h
    · show t.length ≤ _; omega
    · have := tlen_node ps x h; omega
    · have := tlen_node r x h; omega

set_option maxRecDepth 20000 in
theorem Pages_spec {R : Ending → World → Prop} {S : Nat → Prop} {w : World} {a : Option Addr} {n c : Nat} (f : Fo) (hs : small f) (hF : Forms w) (hf0 : SlF S w a n f)
    (h : ∀ a' c' w', RowAt encStr (fun k => w.heap.size ≤ k) w' a' (pgR f).length (pgR f) → Ext w w' → R (.returned (.tuple ⟨[.slice a' (pgR f).length c', .int .i64 (pgE f)]⟩)) w') :
    Calls Tryz.prog F_layout_Pages ⟨[.slice a n c]⟩ w R := by
  apply c_layout_Pages
  have er : ∀ e w', pgE f = e → e ≠ 0 → Ext w w' → R (.returned (.tuple ⟨[.slice none 0 0, .int .i64 e]⟩)) w' := by
    intro e w' he h0 hx
    have hr : pgR f = [] := by unfold pgR; rw [if_pos (by rw [he]; exact h0)]
    rw [hr, he] at h
    exact h none 0 w' (RowAt.nil _) hx
  refine Pattern_spec f hs hF hf0 fun w3 e3 => ⟨_, _, rfl, ?_⟩
  refine br_split (fun g => er _ _ (by unfold pgE; rw [if_pos g]) g e3) (fun g => ?_)
  have hp0 : patE f = 0 := Decidable.not_not.1 g
  obtain ⟨hc0, _, hpl, hpS⟩ := patE_zero hp0
  obtain ⟨q1, q2, q3⟩ := check_zero hc0
  refine al_intro fun b6 w7 hb6 B6 e7 s7 => ?_
  refine mkm_intro fun b8 w8 hb8 M8 e8 s8 => ?_
  refine al_intro fun b10 w11 hb10 B10' e11 s11 => ?_
  refine stL_one B10' rfl fun w12 B10 hc12 s12 => ?_
  have e12 : Ext w8 w12 := ext_chgS e11 hc12 fun k hk => by omega
  refine al_intro fun b13 w14 hb13 B13' e14 s14 => ?_
  refine stL_one B13' rfl fun w15 B13 hc15 s15 => ?_
  have e15 : Ext w12 w15 := ext_chgS e14 hc15 fun k hk => by omega
  have E7 := ext_trans e3 e7
  have E8 := ext_trans E7 e8
  have E15 := ext_trans (ext_trans E8 e12) e15
  have z3 := e3.size
  have E715 := ext_trans (ext_trans e8 e12) e15
  have hst : PgS b6 b8 b10 b13 (b13 + 1) w15 none [] := by
    refine ⟨0, fun _ => none, B13, ?_, ?_, fun t => by simp, B6.ext E715, Owns.nil _ _ _ _⟩
    · exact B10.ext e15
    · exact ((M8 _ _ _ _).ext e12).ext e15
  have hT := hf0.imp (S' := fun k => S k ∧ k < w.heap.size) fun k hk hl => ⟨hk, hl⟩
  have hT15 := hT.ext E15
  refine collect_spec (w0 := w15) (T := fun k => S k ∧ k < w.heap.size) (kind := 3) (xs := ofK 3 f) (yf := .func 26) (ya := ⟨[]⟩) (yb := ⟨[.pointer (some ⟨b13, 0, none⟩), .pointer (some ⟨b10, 0, none⟩), .pointer (some ⟨b6, 0, none⟩)]⟩)
    (J := fun pre S1 W => ∃ oa, PgS b6 b8 b10 b13 (b13 + 1) W oa (pre.map (·.t)) ∧ (∀ k, S1 k ↔ k = b6 ∨ k = b8 ∨ k = b10 ∨ k = b13 ∨ bk oa k) ∧ Ext w W)
    (fun k hk => by have := E15.size; omega) ?_ ?_ f (S := fun k => k = b6 ∨ k = b8 ∨ k = b10 ∨ k = b13) [] hs (List.prefix_refl _) hT15 (Nat.le_refl _) (fun _ _ => rfl) (fun k hk => ⟨by omega, fun hh => by omega⟩)
    ⟨none, hst, fun k => by simp [bk], E15⟩ ?_
  · rintro pre S1 W W' ⟨oa, ⟨oc, fm, p1, p2, p3, p4, p5, p6⟩, g2, g4⟩ hc
    have ns : ∀ j, S1 j → ¬ (w15.heap.size ≤ j ∧ ¬ S1 j) := fun j hj hh => hh.2 hj
    have z15 := E15.size
    exact ⟨oa, ⟨oc, fm, hc.blk p1 (ns _ ((g2 _).2 (by simp))), hc.blk p2 (ns _ ((g2 _).2 (by simp))), p3.chg hc (ns _ ((g2 _).2 (by simp))), p4, hc.blk p5 (ns _ ((g2 _).2 (by simp))), Owns.chg p6 hc (fun k hk => ns _ ((g2 _).2 (by simp [hk])))⟩, g2, ext_chgS g4 hc fun k hk => by omega⟩
  · rintro pre ⟨k1, t1, m1, ps1⟩ vs S1 W ⟨a', c', rfl, hsl⟩ hpx hw15 hS1 ⟨oa, hst1, g2, g4⟩
    have hx : (⟨k1, t1, m1, ps1⟩ : Nn) ∈ nodesF f := (ofK_mem (kind := 3) (hpx.subset (by simp))).1
    have ht := tlen_node f _ hx
    have hpl := hpx.length_le
    have hol := ofK_len 3 f
    simp only [List.length_append, List.length_singleton] at hpl
    refine ⟨by kernel_rfl, pages1_spec (by omega) hst1 (by omega) k1 m1 t1 .nilFunc (by have : t1.length ≤ tlen f := ht; omega) (by simp; omega) fun oa' W' hst' hc' hn' => ⟨rfl, ?_, ?_⟩⟩
    · exact hc'.mono fun k _ hk => (g2 k).2 hk
    · have zc := hc'.size
      have hz15 := E15.size
      obtain ⟨oc', fm', p1, p2, p3, p4, p5, p6⟩ := hst'
      refine ⟨fun k => k = b6 ∨ k = b8 ∨ k = b10 ∨ k = b13 ∨ bk oa' k, fun k hk => ?_, oa', ⟨oc', fm', ?_⟩, fun k => Iff.rfl, ?_⟩
      · rcases hk with rfl | rfl | rfl | rfl | hk
        · exact ⟨.inl ((g2 _).2 (by simp)), p5.lt⟩
        · exact ⟨.inl ((g2 _).2 (by simp)), p3.lt⟩
        · exact ⟨.inl ((g2 _).2 (by simp)), p2.lt⟩
        · exact ⟨.inl ((g2 _).2 (by simp)), p1.lt⟩
        · exact ⟨(hn' k hk).imp (fun h => (g2 k).2 (by simp [h])) id, (Owns.bk p6 hk).2⟩
      · rw [List.map_append]; exact ⟨p1, p2, p3, p4, p5, p6⟩
      · obtain ⟨oc0, fm0, _, _, _, _, _, q6⟩ := hst1
        exact ext_chgS g4 hc' fun k hk => by
          rcases hk with rfl | rfl | rfl | rfl | hk
          · omega
          · omega
          · omega
          · omega
          · have := (Owns.bk q6 hk).1; omega
  · rintro S' W' hc hS' ⟨oa, ⟨oc, fm, p1, p2, p3, p4, p5, p6⟩, g2, g4⟩
    refine ⟨rfl, _, by rw [p1.cell]; rfl, br_cases (fun gd => ?_) (fun gd => ?_)⟩
    · have : ¬ (pgF f).Nodup := by unfold pgF; simpa using gd
      exact er 7 _ (by unfold pgE; rw [if_neg (by simp [hp0]), if_neg this]) (by decide) g4
    · have hnd : (pgF f).Nodup := by unfold pgF; simpa using gd
      have he : pgE f = 0 := by unfold pgE; rw [if_neg (by simp [hp0]), if_pos hnd]
      have hr : pgR f = pgF f := by unfold pgR; rw [if_neg (by simp [he])]
      rw [hr, he] at h
      refine ⟨oa, _, oc, by rw [p5.cell]; rfl, ?_⟩
      have hz := E15.size
      exact h _ _ _ (p6.out.imp fun k hk _ => by have := (Owns.bk p6 hk).1; omega) g4
end Go.Proofs
namespace Go.Proofs
open Go Go.Sh Go.RowKit

/- positions stand together, if no page begins twice -/
def pgN (l : List Nn) : List (List UInt8) := (l.filter fun x => decide (x.k = 3)).map (·.t)
theorem pgF_eq (f : Fo) : pgF f = pgN (nodesF f) := rfl
theorem pgN_cons (x : Nn) (l : List Nn) : pgN (x :: l) = (if x.k = 3 then [x.t] else []) ++ pgN l := by
  unfold pgN
  rw [List.filter_cons]
  by_cases h : x.k = 3 <;> simp [h]
theorem posN_eq (p : Ps) (x : Nn) : (x.k = 3 ∧ posN p x = ((x.t, 0), 0)) ∨ (x.k ≠ 3 ∧ x.k = 2 ∧ posN p x = ((p.1, p.2 + 1), 0)) ∨ (x.k ≠ 3 ∧ (posN p x).1 = p) := by
  unfold posN
  by_cases h3 : x.k = 3
  · left; refine ⟨h3, ?_⟩; rw [if_neg (by omega), if_neg (by omega), if_pos h3]
  · right
    split
    · exact .inr ⟨h3, rfl⟩
    · split
      · exact .inr ⟨h3, rfl⟩
      · try rw [if_neg h3]
        split
        · rename_i h2; exact .inl ⟨h3, h2, rfl⟩
        · exact .inr ⟨h3, rfl⟩
theorem pos_mem : ∀ (l : List Nn) (p q : Ps), q ∈ posL p l → (q.1 = p.1 ∧ p.2 ≤ q.2) ∨ q.1 ∈ pgN l
  | [], p, q, h => by simp [posL] at h
  | x :: l, p, q, h => by
    rw [posL, List.mem_append] at h
    rw [pgN_cons]
    have ih := pos_mem l (posN p x).1 q
    rcases posN_eq p x with ⟨h3, e⟩ | ⟨h3, h2, e⟩ | ⟨h3, e⟩
    · rw [e] at h ih
      simp only [List.replicate_zero, List.not_mem_nil, false_or] at h
      rw [if_pos h3]
      right
      rcases ih h with h1 | h1
      · rw [h1.1]; simp
      · simp [h1]
    · rw [e] at h ih
      simp only [List.replicate_zero, List.not_mem_nil, false_or] at h
      rw [if_neg h3]
      rcases ih h with h1 | h1
      · left; exact ⟨h1.1, by have := h1.2; simp only at this; omega⟩
      · right; simpa using h1
    · rw [e] at h ih
      rw [if_neg h3]
      rcases h with h | h
      · rw [(List.mem_replicate.1 h).2]; exact .inl ⟨rfl, Int.le_refl _⟩
      · rcases ih h with h1 | h1
        · exact .inl h1
        · right; simpa using h1
theorem get_rep {α : Type} {n : Nat} {p : α} {L : List α} {k : Nat} : (List.replicate n p ++ L)[k]? = if k < n then some p else L[k - n]? := by
  rw [List.getElem?_append]
  simp only [List.length_replicate]
  split
  · rename_i h; simp [h]
  · rfl
theorem pos_pre : ∀ (l : List Nn) (p : Ps), (p.1 :: pgN l).Nodup → ∀ k : Nat, (posL p l)[k]? = some p → ∀ j : Nat, j ≤ k → (posL p l)[j]? = some p
  | [], p, _, k, h, _, _ => by simp [posL] at h
  | x :: l, p, hn, k, h, j, hj => by
    rw [posL] at h ⊢
    rw [pgN_cons] at hn
    rcases posN_eq p x with ⟨h3, e⟩ | ⟨h3, h2, e⟩ | ⟨h3, e⟩
    · rw [e] at h
      rw [if_pos h3] at hn
      simp only [List.replicate_zero, List.nil_append] at h
      have hm := pos_mem l (x.t, 0) p (List.mem_of_getElem? h)
      rw [List.nodup_cons] at hn
      exfalso
      apply hn.1
      rcases hm with hm | hm
      · rw [hm.1]; simp
      · simp [hm]
    · rw [e] at h
      rw [if_neg h3, List.nil_append] at hn
      simp only [List.replicate_zero, List.nil_append] at h
      have hm := pos_mem l (p.1, p.2 + 1) p (List.mem_of_getElem? h)
      exfalso
      rcases hm with hm | hm
      · have := hm.2; simp only at this; omega
      · exact (List.nodup_cons.1 hn).1 hm
    · rw [e] at h ⊢
      rw [if_neg h3, List.nil_append] at hn
      rw [get_rep] at h ⊢
      by_cases hjn : j < (posN p x).2
      · rw [if_pos hjn]
      · rw [if_neg hjn]
        rw [if_neg (by omega)] at h
        exact pos_pre l p hn _ h _ (by omega)
theorem pos_convex : ∀ (l : List Nn) (p : Ps), (p.1 :: pgN l).Nodup → ∀ (i j k : Nat) (q : Ps), i ≤ j → j ≤ k → (posL p l)[i]? = some q → (posL p l)[k]? = some q → (posL p l)[j]? = some q
  | [], p, _, i, j, k, q, _, _, h, _ => by simp [posL] at h
  | x :: l, p, hn, i, j, k, q, hij, hjk, hi, hk => by
    rw [posL] at hi hk ⊢
    rw [pgN_cons] at hn
    have key : ∀ (p' : Ps) (n : Nat), (p'.1 :: pgN l).Nodup → (List.replicate n p' ++ posL p' l)[i]? = some q → (List.replicate n p' ++ posL p' l)[k]? = some q → (List.replicate n p' ++ posL p' l)[j]? = some q := by
      intro p' n hn hi hk
      rw [get_rep] at hi hk ⊢
      by_cases h1 : i < n
      · rw [if_pos h1] at hi
        obtain rfl := Option.some.inj hi
        by_cases h2 : j < n
        · rw [if_pos h2]
        · rw [if_neg h2]
          rw [if_neg (by omega)] at hk
          exact pos_pre l _ hn _ hk _ (by omega)
      · rw [if_neg h1] at hi
        rw [if_neg (by omega)] at hk ⊢
        exact pos_convex l p' hn _ _ _ q (by omega) (by omega) hi hk
    refine key _ _ ?_ hi hk
    rcases posN_eq p x with ⟨h3, e⟩ | ⟨h3, h2, e⟩ | ⟨h3, e⟩
    · rw [e]; rw [if_pos h3] at hn
      exact (List.nodup_cons.1 hn).2
    · rw [e]; rw [if_neg h3] at hn; exact hn
    · rw [e]; rw [if_neg h3] at hn; exact hn
theorem pos_together {f : Fo} (hf : fin13 f = true) (hp : (pgF f).Nodup) {i j k : Nat} {q : Ps} (hij : i ≤ j) (hjk : j ≤ k) (hi : (posL ([], 0) (nodesF f))[i]? = some q) (hk : (posL ([], 0) (nodesF f))[k]? = some q) : (posL ([], 0) (nodesF f))[j]? = some q := by
  refine pos_convex (nodesF f) ([], 0) ?_ i j k q hij hjk hi hk
  rw [List.nodup_cons]
  refine ⟨fun hm => ?_, hp⟩
  obtain ⟨_, _, _, hn⟩ := clean_fin hf
  obtain ⟨x, hx, he⟩ := List.mem_map.1 hm
  obtain ⟨h1, h2⟩ := List.mem_filter.1 hx
  have := hn x h1 (by simpa using h2)
  rw [he] at this
  exact absurd this (by decide)

end Go.Proofs
namespace Go.Proofs
open Go Go.Sh Go.RowKit

/- the reference's pages and lines -/
theorem inW13_spec {R : Ending → World → Prop} {w : World} (b : UInt8) (h : R (.returned (.bool (innB b))) w) : Calls Tryz.prog F_ref13_inWord ⟨[.int .u8 (b.toNat : Int)]⟩ w R := by
  apply c_ref13_inWord
  have h95 : ((b.toNat : Int) = 95) ↔ b = 95 := by
    constructor
    · intro h; apply UInt8.toNat_inj.1; show b.toNat = 95; omega
    · rintro rfl; rfl
  refine Kind_spec' b ⟨_, rfl, br_split (fun g => ?_) (fun g0 => br_split (fun g => ?_) (fun g => ?_))⟩
  · rw [show innB b = true by unfold innB; rw [decide_eq_true_eq]; exact .inr (.inr (.inr (.inr (h95.1 g))))] at h; exact h
  · rw [show innB b = decide (kd b ≤ 4) by
      unfold innB; rw [decide_eq_decide]
      constructor
      · rintro (e | e | e | e | e)
        · omega
        · omega
        · omega
        · omega
        · exact absurd (h95.2 e) g0
      · intro e
        rcases (by omega : kd b = 1 ∨ kd b = 2 ∨ kd b = 3 ∨ kd b = 4) with e | e | e | e
        · exact .inl e
        · exact .inr (.inl e)
        · exact .inr (.inr (.inl e))
        · exact .inr (.inr (.inr (.inl e)))] at h
    exact h
  · rw [show innB b = false by
      unfold innB; rw [decide_eq_false_iff_not]
      rintro (e | e | e | e | e)
      · omega
      · omega
      · omega
      · omega
      · exact g0 (h95.2 e)] at h
    exact h

def lnF (f : Fo) : Nat := (ofK 2 f).length
theorem ofK_app (kind : Int) (f g : Fo) : ofK kind (f.app g) = ofK kind f ++ ofK kind g := by unfold ofK; rw [nodesF_appU, List.filter_append]
theorem pgF_app (f g : Fo) : pgF (f.app g) = pgF f ++ pgF g := by unfold pgF; rw [ofK_app, List.map_append]
theorem pgF_len (f : Fo) : (pgF f).length ≤ f.size := by unfold pgF; rw [List.length_map]; exact ofK_len 3 f
theorem lnF_app (f g : Fo) : lnF (f.app g) = lnF f + lnF g := by unfold lnF; rw [ofK_app, List.length_append]
theorem lnF_le (f : Fo) : lnF f ≤ f.size := ofK_len 2 f
theorem pg_one (k t n ps) : pgF (.one k t n ps) = (if k = 3 then [t] else []) ++ pgF ps ∧ lnF (.one k t n ps) = (if k = 2 then 1 else 0) + lnF ps := by
  unfold pgF lnF Fo.one
  rw [ofK_cons, ofK_cons]
  constructor
  · split <;> simp [ofK, nodesF]
  · split <;> simp [ofK, nodesF]; omega

set_option maxRecDepth 20000 in
theorem pages13_spec {S : Nat → Prop} : ∀ (f : Fo) {R : Ending → World → Prop} {w : World} {a : Option Addr} {n c : Nat} (hs : f.size ≤ 1000000) (hf : SlF S w a n f)
    (h : ∀ a' c' w', RowAt encStr (fun k => w.heap.size ≤ k) w' a' (pgF f).length (pgF f) → Ext w w' → R (.returned (.tuple ⟨[.slice a' (pgF f).length c', .int .i64 (lnF f : Int)]⟩)) w'),
    Calls Tryz.prog F_ref13_pages ⟨[.slice a n c]⟩ w R := by
  intro f
  induction hz : f.size using Nat.strongRecOn generalizing f with
  | _ z ih =>
  intro R w a n c hs hf h
  apply c_ref13_pages
  have hn := hf.1
  have hfl := f.len_le_size
  refine al_intro fun b2 w3 hb2 B2 e3 s3 => ?_
  refine ⟨fun oa on oc cnt i W m => ∃ (pr r : Fo), f = pr.app r ∧ i = pr.len ∧ m = r.len ∧ cnt = (lnF pr : Int) ∧ OwnL encStr W w.heap.size 9 oa on oc (pgF pr) ∧ Ext w W,
    ⟨_, .nil, f, rfl, rfl, rfl, rfl, Owns.made (B2) (by omega), e3⟩, ?_⟩
  rintro oa on oc _ _ W m ⟨pr, r, hpr, rfl, rfl, rfl, hL, he⟩ _
  refine br_split (fun hlt => ?_) (fun hge => ?_)
  · obtain ⟨k, t, mm, ps, r, rfl⟩ := Fo.next hpr (by omega)
    have hsl := Fo.sub_len hpr
    have hsz := Fo.sub_size hpr
    have e1 : f = (pr.app (.one k t mm ps)).app r := by rw [Fo.app_one_app]; exact hpr
    have hsz2 : (pr.app (.one k t mm ps)).size ≤ f.size := by have hh := Fo.size_app (pr.app (.one k t mm ps)) r; rw [← e1] at hh; omega
    have p1 := pgF_len (pr.app (.one k t mm ps))
    have l1 := lnF_le (pr.app (.one k t mm ps))
    obtain ⟨o1, o2⟩ := pg_one k t mm ps
    rw [pgF_app, List.length_append, o1, List.length_append] at p1
    rw [lnF_app, o2] at l1
    obtain ⟨q, a', c', hq, hSq, hql, hN⟩ := (hf.ext he).get hpr
    intro K11 hK11
    have k11 : ∀ oa2 on2 oc2 (cn : Int) W2, cn = ((lnF pr + (if k = 2 then 1 else 0) : Nat) : Int) → OwnL encStr W2 w.heap.size 9 oa2 on2 oc2 (pgF pr ++ (if k = 3 then [t] else [])) → Ext w W2 → K11 oa2 on2 oc2 cn W2 := by
      rintro oa2 on2 oc2 _ W2 rfl hL2 he'
      refine hK11 _ _ _ _ _ fun _ => ?_
      obtain ⟨q', a'', c'', hq', hSq', hql', hN'⟩ := (hf.ext he').get hpr
      refine hq' _ ⟨a'', ps.len, c'', hN'.parts, ?_⟩
      refine ih _ (hz ▸ hsz) ps rfl (by omega) hN'.sl fun a3 c3 w18 hr3 e18 => ⟨_, _, _, _, rfl, ?_⟩
      have hl2 := OwnL.length hL2
      rw [List.length_append] at hl2
      refine OwnL.pushAll (E := encStr) slT_str (Owns.ext hL2 e18) (by have := he'.size; have := e18.size; omega) hr3 (by omega) (by omega) fun a4 c4 w22 ho hc22 hn22 => ?_
      refine ⟨r.len, by simp, pr.app (.one k t mm ps), r, e1, by rw [wrap_nat (by omega)]; simp [Fo.one], rfl, ?_, ?_, ?_⟩
      · rw [lnF_app, o2, wrap_id (by omega)]; omega
      · rw [pgF_app, o1, ← List.append_assoc]; exact ho
      · exact ext_chgS (ext_trans he' e18) hc22 fun k hk => (Owns.bk hL2 hk).1
    refine hq _ ⟨k, hN.kind, br_split (fun g => ?_) (fun g => br_split (fun g' => ?_) (fun g' => ?_))⟩
    · refine hq _ ⟨t, hN.text, ?_⟩
      have hl1 := OwnL.length hL
      refine OwnL.push (E := encStr) slT_str hL (by have := he.size; omega) t (by omega) (by omega) fun a4 c4 w31 ho hc31 hn31 => ?_
      refine k11 _ _ _ _ _ (by rw [if_neg (by omega)]; simp) (by rw [if_pos g]; exact ho) ?_
      exact ext_chgS he hc31 fun j hj => (Owns.bk hL hj).1
    · exact k11 _ _ _ _ _ (by rw [if_pos g', wrap_id (by omega)]; omega) (by rw [if_neg g, List.append_nil]; exact hL) he
    · exact k11 _ _ _ _ _ (by rw [if_neg g']; simp) (by rw [if_neg g, List.append_nil]; exact hL) he
  · obtain ⟨rfl, rfl⟩ := Fo.last hpr (by omega)
    have hl := OwnL.length hL
    have ho := hL.out.imp (S' := fun k => w.heap.size ≤ k) fun k hk _ => (Owns.bk hL hk).1
    rw [← hl] at ho ⊢
    exact h oa oc W ho he
end Go.Proofs
namespace Go.Proofs
open Go Go.Sh Go.RowKit

theorem nodup_take {α : Type} {L : List α} {k : Nat} {x : α} (h : L[k]? = some x) : (L.take (k + 1)).Nodup ↔ (L.take k).Nodup ∧ ∀ j, j < k → L[j]? ≠ some x := by
  rw [List.take_add_one, h]
  simp only [Option.toList]
  rw [List.nodup_append]
  constructor
  · rintro ⟨a, _, b⟩
    refine ⟨a, fun j hj he => ?_⟩
    refine b x ?_ x (by simp) rfl
    exact List.mem_of_getElem? (i := j) (by rw [List.getElem?_take, if_pos hj]; exact he)
  · rintro ⟨a, b⟩
    refine ⟨a, by simp, fun y hy z hz he => ?_⟩
    simp only [List.mem_singleton] at hz
    subst hz he
    obtain ⟨j, hj, e⟩ := List.mem_iff_getElem.1 hy
    have hj' : j < k := by simp at hj; omega
    refine b j hj' ?_
    rw [← e]; simp at hj ⊢
theorem nodup_le {α : Type} {L : List α} {k : Nat} (h : L.Nodup) : (L.take k).Nodup := h.sublist (List.take_sublist k L)

set_option maxRecDepth 20000 in
theorem Pages13_spec {R : Ending → World → Prop} {S : Nat → Prop} {w : World} {a : Option Addr} {n c : Nat} (f : Fo) (hf0 : SlF S w a n f)
    (h : ∀ a' c' w', RowAt encStr (fun k => w.heap.size ≤ k) w' a' (pgR f).length (pgR f) → Ext w w' → R (.returned (.tuple ⟨[.slice a' (pgR f).length c', .int .i64 (pgE f)]⟩)) w') :
    Calls Tryz.prog F_ref13_Pages ⟨[.slice a n c]⟩ w R := by
  apply c_ref13_Pages
  have er : ∀ e w', pgE f = e → e ≠ 0 → Ext w w' → al w' 9 [] fun p6 w7 => R (.returned (.tuple ⟨[.slice (some p6) 0 0, .int .i64 e]⟩)) w7 := by
    intro e w' he h0 hx
    refine al_intro fun b w'' hb hB e2 s2 => ?_
    have hr : pgR f = [] := by unfold pgR; rw [if_pos (by rw [he]; exact h0)]
    rw [hr, he] at h
    exact h _ 0 w'' (RowAt.nil _) (ext_trans hx e2)
  refine Pattern12_spec f hf0 fun w3 e3 => ⟨_, _, rfl, ?_⟩
  refine br_split (fun g => er _ _ (by unfold pgE; rw [if_pos g]) g e3) (fun g => ?_)
  have hp0 : patE f = 0 := Decidable.not_not.1 g
  obtain ⟨hc0, _, hpl, hpS⟩ := patE_zero hp0
  obtain ⟨q1, q2, q3⟩ := check_zero hc0
  refine pages13_spec f (by omega) (hf0.ext e3) fun a9 c9 w9 hr9 e9 => ⟨_, _, _, _, rfl, ?_⟩
  have E9 := ext_trans e3 e9
  have hpl := pgF_len f
  have pe : pgE f = if (pgF f).Nodup then 0 else 7 := by unfold pgE; rw [if_neg (by simp [hp0])]
  refine ⟨fun i W m => ∃ k : Nat, i = k ∧ k ≤ (pgF f).length ∧ m = (pgF f).length - k ∧ ((pgF f).take k).Nodup ∧ Ext w9 W, ⟨_, 0, rfl, by omega, rfl, by simp, Below.refl _ _⟩, ?_⟩
  rintro _ W m ⟨k, rfl, hk, rfl, hnd, he⟩ _
  refine br_split (fun hlt => ?_) (fun hge => ?_)
  · have hkL : k < (pgF f).length := by omega
    have hx : (pgF f)[k]? = some (pgF f)[k] := by simp [hkL]
    refine ⟨fun j W2 m2 => ∃ l : Nat, j = l ∧ l ≤ k ∧ m2 = k - l ∧ (∀ i, i < l → (pgF f)[i]? ≠ some (pgF f)[k]) ∧ Ext w9 W2, ⟨_, 0, rfl, by omega, rfl, fun i hi => by omega, he⟩, ?_⟩
    rintro _ W2 m2 ⟨l, rfl, hl, rfl, hno, he2⟩ _
    refine br_split (fun hlt2 => ?_) (fun hge2 => ?_)
    · unfold drw
      have ed := ext_trans he2 (ext_drew W2)
      have hy : (pgF f)[l]? = some (pgF f)[l] := by simp
      obtain ⟨bb, o, hq, _, _, hc⟩ := (hr9.ext ed).get hx
      obtain ⟨bb', o', hq', _, _, hc'⟩ := (hr9.ext ed).get hy
      refine hq _ ⟨_, hc 0 _ rfl, hq' _ ⟨_, hc' 0 _ rfl, br_split (fun g1 => ?_) (fun g1 => ?_)⟩⟩
      · refine er 7 _ ?_ (by decide) (ext_trans E9 ed)
        rw [pe, if_neg (fun hh => ?_)]
        have := (nodup_take hx).1 (nodup_le hh)
        exact this.2 l (by omega) (by rw [hy, g1])
      · refine ⟨k - (l + 1), by omega, l + 1, by rw [wrap_nat (by omega)], by omega, rfl, fun i hi => ?_, ed⟩
        rcases Nat.lt_or_ge i l with hh | hh
        · exact hno i hh
        · have : i = l := by omega
          subst this
          rw [hy]; exact fun he => g1 (Option.some.inj he).symm
    · have : l = k := by omega
      subst this
      exact ⟨(pgF f).length - (l + 1), by omega, l + 1, by rw [wrap_nat (by omega)], by omega, rfl, (nodup_take hx).2 ⟨hnd, hno⟩, he2⟩
  · have : k = (pgF f).length := by omega
    subst this
    rw [List.take_length] at hnd
    rw [if_pos hnd] at pe
    have hr : pgR f = pgF f := by unfold pgR; rw [if_neg (by simp [pe])]
    rw [hr, pe] at h
    exact h _ _ _ ((hr9.ext he).imp fun k hk _ => by have := e3.size; omega) (ext_trans E9 he)

/- Lines -/
def lnR (f : Fo) : Int := if patE f ≠ 0 then 0 else (lnF f : Int)
theorem Lines13_spec {R : Ending → World → Prop} {S : Nat → Prop} {w : World} {a : Option Addr} {n c : Nat} (f : Fo) (hf0 : SlF S w a n f)
    (h : ∀ w', Ext w w' → R (.returned (.tuple ⟨[.int .i64 (lnR f), .int .i64 (patE f)]⟩)) w') : Calls Tryz.prog F_ref13_Lines ⟨[.slice a n c]⟩ w R := by
  apply c_ref13_Lines
  refine Pattern12_spec f hf0 fun w3 e3 => ⟨_, _, rfl, ?_⟩
  unfold lnR at h
  refine br_split (fun g => ?_) (fun g => ?_)
  · rw [if_pos g] at h; exact h _ e3
  have hp0 : patE f = 0 := Decidable.not_not.1 g
  obtain ⟨hc0, _, hpl, hpS⟩ := patE_zero hp0
  obtain ⟨q1, q2, q3⟩ := check_zero hc0
  rw [if_neg g, hp0] at h
  exact pages13_spec f (by omega) (hf0.ext e3) fun a9 c9 w9 hr9 e9 => ⟨_, _, _, _, rfl, h _ (ext_trans e3 e9)⟩
set_option maxRecDepth 20000 in
theorem Lines_spec {R : Ending → World → Prop} {S : Nat → Prop} {w : World} {a : Option Addr} {n c : Nat} (f : Fo) (hs : small f) (hF : Forms w) (hf0 : SlF S w a n f)
    (h : ∀ w', Ext w w' → R (.returned (.tuple ⟨[.int .i64 (lnR f), .int .i64 (patE f)]⟩)) w') : Calls Tryz.prog F_layout_Lines ⟨[.slice a n c]⟩ w R := by
  apply c_layout_Lines
  refine Pattern_spec f hs hF hf0 fun w3 e3 => ⟨_, _, rfl, ?_⟩
  unfold lnR at h
  refine br_split (fun g => ?_) (fun g => ?_)
  · rw [if_pos g] at h; exact h _ e3
  have hp0 : patE f = 0 := Decidable.not_not.1 g
  obtain ⟨hc0, _, hpl, hpS⟩ := patE_zero hp0
  obtain ⟨q1, q2, q3⟩ := check_zero hc0
  rw [if_neg g, hp0] at h
  refine al_intro fun b6 w7 hb6 B6 e7 s7 => ?_
  refine stL_one B6 rfl fun w8 B8 hc8 s8 => ?_
  have e8 : Ext w3 w8 := ext_chgS e7 hc8 fun k hk => by omega
  have E8 := ext_trans e3 e8
  have hT := hf0.imp (S' := fun k => S k ∧ k < w.heap.size) fun k hk hl => ⟨hk, hl⟩
  have z3 := e3.size
  refine collect_spec (w0 := w8) (T := fun k => S k ∧ k < w.heap.size) (kind := 2) (xs := ofK 2 f) (yf := .func 29) (ya := ⟨[]⟩) (yb := ⟨[.pointer (some ⟨b6, 0, none⟩)]⟩)
    (J := fun pre S1 W => Blk W b6 [.int .i64 (pre.length : Int)] 3 ∧ (∀ k, S1 k ↔ k = b6) ∧ Ext w W)
    (fun k hk => by have := E8.size; omega) ?_ ?_ f (S := fun k => k = b6) [] hs (List.prefix_refl _) (hT.ext E8) (Nat.le_refl _) (fun _ _ => rfl) (fun k hk => ⟨by omega, fun hh => by omega⟩)
    ⟨B8, fun k => Iff.rfl, E8⟩ ?_
  · rintro pre S1 W W' ⟨p1, g2, g4⟩ hc
    have z8 := E8.size
    exact ⟨hc.blk p1 (fun hh => hh.2 ((g2 _).2 rfl)), g2, ext_chgS g4 hc fun k hk => by omega⟩
  · rintro pre ⟨k1, t1, m1, ps1⟩ vs S1 W ⟨a', c', rfl, hsl⟩ hpx hw8 hS1 ⟨p1, g2, g4⟩
    have hpl := hpx.length_le
    have hol := ofK_len 2 f
    simp only [List.length_append, List.length_singleton] at hpl
    refine ⟨by kernel_rfl, ?_⟩
    apply c_layout_Lines_1
    refine al_intro fun bx w9 hbx Bx e9 s9 => ?_
    refine dr_ok ⟨_, by rw [(p1.ext e9).cell]; rfl, dr_ok (stL_one (p1.ext e9) rfl fun w10 r1 hc10 s10 => ⟨rfl, ?_, fun k => k = b6, fun k hk => ⟨.inl ((g2 k).2 hk), hk ▸ r1.lt⟩, ?_, fun k => Iff.rfl, ?_⟩)⟩
    · exact (Chg.of_ext e9).trans (hc10.mono fun k _ hk => (g2 k).2 hk)
    · rw [wrap_nat (by omega)] at r1; rw [List.length_append]; exact r1
    · exact ext_chgS (ext_trans g4 e9) hc10 fun k hk => by omega
  · rintro S' W' hc hS' ⟨p1, g2, g4⟩
    exact ⟨rfl, _, by rw [p1.cell]; rfl, h _ g4⟩

theorem EqualS_spec {R : Ending → World → Prop} {S S' : Nat → Prop} {w : World} {a b : Option Addr} {n c n' c' : Nat} {L M : List (List UInt8)} (h1 : RowAt encStr S w a n L) (h2 : RowAt encStr S' w b n' M) (hs : n ≤ 4611686018427387904)
    (h : ∀ w', Ext w w' → R (.returned (.bool (decide (L = M)))) w') : Calls Tryz.prog F_slices_Equal_of_string_string ⟨[.slice a n c, .slice b n' c']⟩ w R := by
  apply c_slices_Equal_of_string_string
  have e1 := h1.1
  have e2 := h2.1
  refine br_split (fun g => ?_) (fun g => ?_)
  · rw [show decide (L = M) = false by rw [decide_eq_false_iff_not]; rintro rfl; omega] at h
    exact h _ (Below.refl _ _)
  refine ⟨fun i W m => ∃ k : Nat, i = k ∧ k ≤ n ∧ m = n - k ∧ L.take k = M.take k ∧ Ext w W, ⟨_, 0, rfl, by omega, rfl, rfl, Below.refl _ _⟩, ?_⟩
  rintro _ W m ⟨k, rfl, hk, rfl, ht, he⟩ _
  refine br_split (fun hlt => ?_) (fun hge => ?_)
  · unfold drw
    have hd := ext_trans he (ext_drew W)
    have hkL : k < L.length := by omega
    have hkM : k < M.length := by omega
    have hx : L[k]? = some L[k] := by simp [hkL]
    have hy : M[k]? = some M[k] := by simp [hkM]
    obtain ⟨bb, o, hq, _, _, hc⟩ := (h1.ext hd).get hx
    obtain ⟨bb', o', hq', _, _, hc'⟩ := (h2.ext hd).get hy
    refine hq _ ⟨L[k], hc 0 _ rfl, hq' _ ⟨M[k], hc' 0 _ rfl, br_split (fun g1 => ?_) (fun g1 => ?_)⟩⟩
    · rw [show decide (L = M) = false by rw [decide_eq_false_iff_not]; rintro rfl; exact g1 rfl] at h
      exact h _ hd
    · refine ⟨n - (k + 1), by omega, k + 1, by rw [wrap_nat (by omega)], by omega, rfl, ?_, hd⟩
      rw [List.take_add_one, List.take_add_one, ht, hx, hy, Decidable.not_not.1 g1]
  · have : k = n := by omega
    subst this
    rw [List.take_of_length_le (by omega), List.take_of_length_le (by omega)] at ht
    rw [decide_eq_true ht] at h
    exact h _ he
end Go.Proofs
