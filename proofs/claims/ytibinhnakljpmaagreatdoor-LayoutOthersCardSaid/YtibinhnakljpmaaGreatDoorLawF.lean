/- The contracts of the functions that the law reaches, one after the other, and at the end the law's card. -/
import Derived.Test.YtibinhnakljpmaaGreatDoorLawE
namespace Go.Proofs
open Go Go.Sh Go.RowKit

def allR (f : Fo) : List Ps := if patE f ≠ 0 then [] else posL ([], 0) (nodesF f)
def allS (f : Fo) : List UInt8 := if patE f ≠ 0 then [] else patF f
set_option maxRecDepth 20000 in
theorem all13_spec {R : Ending → World → Prop} {S : Nat → Prop} {w : World} {a : Option Addr} {n c : Nat} (f : Fo) (hf0 : SlF S w a n f)
    (h : ∀ a' c' w', RowAt encP (fun k => w.heap.size ≤ k) w' a' (allR f).length (allR f) → Ext w w' → R (.returned (.tuple ⟨[.slice a' (allR f).length c', .string ⟨⟨allS f⟩⟩, .int .i64 (patE f)]⟩)) w') :
    Calls Tryz.prog F_ref13_all ⟨[.slice a n c]⟩ w R := by
  apply c_ref13_all
  refine Pattern12_spec f hf0 fun w3 e3 => ⟨_, _, rfl, ?_⟩
  unfold allR allS at h
  refine br_split (fun g => ?_) (fun g => ?_)
  · rw [if_pos g, if_pos g] at h
    refine al_intro fun b w'' hb hB e2 s2 => ?_
    exact h _ 0 w'' (RowAt.nil _) (ext_trans e3 e2)
  have hp0 : patE f = 0 := Decidable.not_not.1 g
  obtain ⟨hc0, _, hpl, hpS⟩ := patE_zero hp0
  obtain ⟨q1, q2, q3⟩ := check_zero hc0
  rw [if_neg g, if_neg g, hp0] at h
  refine walk13_spec f ([], 0) (by omega) q2 (by omega) (by decide) (by show (0 : Int) + f.size ≤ _; omega) (hf0.ext e3) fun a' c' w9 hrow e9 => ⟨_, _, _, _, _, rfl, ?_⟩
  refine al_stL (by simp) (by intro u hu; simp only [List.mem_cons, List.not_mem_nil, or_false] at hu; rcases hu with rfl | rfl <;> rfl) fun b13 w15 hb13 B13 e15 s15 => ?_
  rw [hpS]
  exact h a' c' w15 ((hrow.ext e15).imp fun k hk _ => by have := e3.size; omega) (ext_trans (ext_trans e3 e9) e15)

theorem decPs (x y : Ps) : (decide (x.1 = y.1) && (decide (x.2 = y.2) && true)) = decide (x = y) := by
  rw [Bool.and_true, ← Bool.decide_and, decide_eq_decide, Prod.ext_iff]
set_option maxRecDepth 20000 in
theorem Find13_spec {R : Ending → World → Prop} {S : Nat → Prop} {w : World} {a : Option Addr} {n c : Nat} (p : Ps) (f : Fo) (hf0 : SlF S w a n f)
    (h : ∀ w', Ext w w' → R (.returned (.tuple ⟨[.int .i64 (fr1 (findR p f)), .int .i64 (fr2 (findR p f)), .int .i64 (findE p f)]⟩)) w') :
    Calls Tryz.prog F_ref13_Find ⟨[.slice a n c, .agg ⟨[.string ⟨⟨p.1⟩⟩, .int .i64 p.2]⟩]⟩ w R := by
  apply c_ref13_Find
  refine al_intro fun b4 w5 hb4 B4 e5 s5 => ?_
  refine all13_spec f (hf0.ext e5) fun a1 c1 w7 hr1 e7 => ⟨_, _, _, _, _, rfl, ?_⟩
  have E7 := ext_trans e5 e7
  refine br_split (fun g => ?_) (fun g => ?_)
  · have e1 : findR p f = none := by unfold findR; rw [if_pos g]
    have e2 : findE p f = patE f := by unfold findE; rw [if_pos g]
    rw [e1, e2] at h
    exact h _ E7
  have hfe : findE p f = match findR p f with | some _ => 0 | none => 6 := by unfold findE; rw [if_neg g] <;> rfl
  have hfr : findR p f = findF (posL ([], 0) (nodesF f)) p := by unfold findR; rw [if_neg g]
  have har : allR f = posL ([], 0) (nodesF f) := by unfold allR; rw [if_neg g]
  have hp0 : patE f = 0 := Decidable.not_not.1 g
  obtain ⟨_, _, hpl, _⟩ := patE_zero hp0
  have hLL := posL_pat ([], 0) f
  rw [har] at hr1
  rw [har]
  generalize posL ([], 0) (nodesF f) = L at *
  refine ⟨fun i W m => ∃ k : Nat, i = k ∧ k ≤ L.length ∧ m = L.length - k ∧ (∀ j, j < k → L[j]? ≠ some p) ∧ Ext w7 W, ⟨_, 0, rfl, by omega, rfl, fun j hj => by omega, Below.refl _ _⟩, ?_⟩
  rintro _ W m ⟨k, rfl, hk, rfl, hno, he⟩ _
  refine br_split (fun hlt => ?_) (fun hge => ?_)
  · unfold drw
    have ed := ext_trans he (ext_drew W)
    have hkL : k < L.length := by omega
    have hx : L[k]? = some L[k] := by simp [hkL]
    obtain ⟨bb, o, hq, _, _, hc⟩ := (hr1.ext ed).get hx
    obtain ⟨y0, y1⟩ := blk2 ((B4.ext e7).ext ed)
    refine hq _ ⟨_, by rw [add_none]; exact hc 0 _ rfl, _, by rw [add_none]; exact hc 1 _ rfl, _, y0, _, y1, ?_⟩
    rw [decPs L[k] p]
    by_cases hkp : L[k] = p
    · rw [decide_eq_true hkp]
      intro K23 hK23
      -- where the row ends
      have hsome : ∃ x, findF L p = some x ∧ x.1 = k := by
        cases hq : findF L p with
        | none => exact absurd hkp (findF_none hq _ (List.getElem_mem hkL))
        | some x =>
          obtain ⟨f1, f2, f3, f4, f5⟩ := findF_some hq
          refine ⟨x, rfl, ?_⟩
          rcases Nat.lt_trichotomy x.1 k with hl | hl | hl
          · exact absurd (f3 x.1 (Nat.le_refl _) f1) (hno _ hl)
          · exact hl
          · exact absurd (by rw [hx, hkp]) (f4 k hl)
      obtain ⟨x, hfx, hx1⟩ := hsome
      obtain ⟨f1, f2, f3, f4, f5⟩ := findF_some hfx
      rw [hfr, hfx] at h hfe
      rw [hfe] at h
      have k23 : ∀ W3, Ext w7 W3 → K23 (x.2 : Int) W3 := by
        intro W3 he3
        refine hK23 _ _ fun _ => ?_
        have := h W3 (ext_trans E7 he3)
        simp only [fr1, fr2, hx1] at this
        exact this
      refine ⟨fun j W2 m2 => ∃ l : Nat, j = l ∧ k ≤ l ∧ l ≤ x.2 ∧ m2 = x.2 - l ∧ Ext w7 W2, ⟨_, k, rfl, by omega, by omega, rfl, ed⟩, ?_⟩
      rintro _ W2 m2 ⟨l, rfl, hkl, hlx, rfl, he2⟩ _
      have ed2 := ext_trans he2 (ext_drew W2)
      refine br_split (fun hlt2 => ?_) (fun hge2 => ?_)
      · have hlL : l < L.length := by omega
        have hy : L[l]? = some L[l] := by simp [hlL]
        obtain ⟨bb', o', hq', _, _, hc'⟩ := (hr1.ext ed2).get hy
        obtain ⟨z0, z1⟩ := blk2 ((B4.ext e7).ext ed2)
        refine hq' _ ⟨_, by rw [add_none]; exact hc' 0 _ rfl, _, by rw [add_none]; exact hc' 1 _ rfl, _, z0, _, z1, ?_⟩
        rw [decPs L[l] p]
        refine br_split (fun g1 => ?_) (fun g1 => ?_)
        · have : l < x.2 := by
            rcases Nat.lt_or_ge l x.2 with hh | hh
            · exact hh
            · have : l = x.2 := by omega
              subst this
              exact absurd (by rw [hy, g1]) (f5 hlL)
          exact ⟨x.2 - (l + 1), by omega, l + 1, by rw [wrap_nat (by omega)], by omega, by omega, rfl, ed2⟩
        · have : l = x.2 := by
            rcases Nat.lt_or_ge l x.2 with hh | hh
            · have := f3 l (by omega) hh
              rw [hy] at this
              exact absurd (Option.some.inj this) g1
            · omega
          subst this
          exact k23 _ ed2
      · have : l = x.2 := by omega
        subst this
        exact k23 _ ed2
    · rw [decide_eq_false hkp]
      refine ⟨L.length - (k + 1), by omega, k + 1, by rw [wrap_nat (by omega)], by omega, rfl, fun j hj => ?_, ed⟩
      rcases Nat.lt_or_ge j k with hh | hh
      · exact hno j hh
      · have : j = k := by omega
        subst this
        rw [hx]; exact fun he => hkp (Option.some.inj he)
  · have : k = L.length := by omega
    subst this
    have hnone : findF L p = none := by
      cases hq : findF L p with
      | none => rfl
      | some x =>
        obtain ⟨f1, f2, f3, f4, f5⟩ := findF_some hq
        exact absurd (f3 x.1 (Nat.le_refl _) f1) (hno _ (by omega))
    rw [hfr, hnone] at h hfe
    rw [hfe] at h
    exact h _ (ext_trans E7 he)

theorem Line13_spec {R : Ending → World → Prop} {S : Nat → Prop} {w : World} {a : Option Addr} {n c : Nat} (p : Ps) (f : Fo) (hf0 : SlF S w a n f)
    (h : ∀ w', Ext w w' → R (.returned (.tuple ⟨[.string ⟨⟨lineS p f⟩⟩, .int .i64 (findE p f)]⟩)) w') :
    Calls Tryz.prog F_ref13_Line ⟨[.slice a n c, .agg ⟨[.string ⟨⟨p.1⟩⟩, .int .i64 p.2]⟩]⟩ w R := by
  apply c_ref13_Line
  refine al_intro fun b4 w5 hb4 B4 e5 s5 => ?_
  obtain ⟨x0, x1⟩ := blk2 B4
  refine ⟨p.1, x0, p.2, x1, ?_⟩
  refine Find13_spec p f (hf0.ext e5) fun w9 e9 => ⟨_, _, _, rfl, ?_⟩
  have E9 := ext_trans e5 e9
  by_cases g : patE f ≠ 0
  · have e1 : lineS p f = [] := by unfold lineS findR; rw [if_pos g]
    have e2 : findE p f = patE f := by unfold findE; rw [if_pos g]
    rw [e1, e2] at h
    rw [e2]
    exact br_split (fun _ => h _ E9) (fun hh => absurd g hh)
  have hp0 : patE f = 0 := Decidable.not_not.1 g
  obtain ⟨hc0, _, hpl, hpS⟩ := patE_zero hp0
  have hfe : findE p f = match findR p f with | some _ => 0 | none => 6 := by unfold findE; rw [if_neg g] <;> rfl
  have hfr : findR p f = findF (posL ([], 0) (nodesF f)) p := by unfold findR; rw [if_neg g]
  cases hq : findR p f with
  | none =>
    rw [hq] at hfe
    unfold lineS at h
    rw [hq, hfe] at h
    rw [hfe]
    refine br_split (fun _ => h _ E9) (fun hh => absurd (by decide) hh)
  | some x =>
    rw [hq] at hfe
    obtain ⟨f1, f2, _⟩ := findF_some (hfr ▸ hq)
    rw [posL_pat] at f2
    unfold lineS at h
    rw [hq, hfe] at h
    rw [hfe]
    refine br_split (fun hh => absurd rfl hh) (fun _ => ?_)
    refine Pattern12_spec f (hf0.ext E9) fun w14 e14 => ⟨_, _, rfl, ?_⟩
    rw [hpS]
    exact ssl_nat (by omega) f2 (h _ (ext_trans E9 e14))

theorem Compare13_spec {R : Ending → World → Prop} {S : Nat → Prop} {w : World} {a : Option Addr} {n c : Nat} (p q : Ps) (f : Fo) (hf0 : SlF S w a n f)
    (h : ∀ w', Ext w w' → R (.returned (.tuple ⟨[.int .i64 (cmpR' p q f), .int .i64 (cmpE p q f)]⟩)) w') :
    Calls Tryz.prog F_ref13_Compare ⟨[.slice a n c, .agg ⟨[.string ⟨⟨p.1⟩⟩, .int .i64 p.2]⟩, .agg ⟨[.string ⟨⟨q.1⟩⟩, .int .i64 q.2]⟩]⟩ w R := by
  apply c_ref13_Compare
  refine al_intro fun b6 w7 hb6 B6 e7 s7 => ?_
  refine al_intro fun b8 w9 hb8 B8 e9 s9 => ?_
  have E9 := ext_trans e7 e9
  obtain ⟨x0, x1⟩ := blk2 (B6.ext e9)
  refine ⟨p.1, x0, p.2, x1, ?_⟩
  refine Find13_spec p f (hf0.ext E9) fun w13 e13 => ⟨_, _, _, rfl, ?_⟩
  have E13 := ext_trans E9 e13
  unfold cmpR' cmpE at h
  refine br_split (fun g => ?_) (fun g => ?_)
  · simp only [if_pos g] at h; exact h _ E13
  simp only [if_neg g] at h
  obtain ⟨y0, y1⟩ := blk2 (B8.ext e13)
  refine ⟨q.1, y0, q.2, y1, ?_⟩
  refine Find13_spec q f (hf0.ext E13) fun w20 e20 => ⟨_, _, _, rfl, ?_⟩
  have E20 := ext_trans E13 e20
  refine br_split (fun g1 => ?_) (fun g1 => ?_)
  · simp only [if_pos g1] at h; exact h _ E20
  simp only [if_neg g1] at h
  rw [Decidable.not_not.1 g1] at h
  unfold cmpF at h
  refine br_split (fun g2 => ?_) (fun g2 => br_split (fun g3 => ?_) (fun g3 => ?_))
  · rw [if_pos g2] at h; exact h _ E20
  · rw [if_neg g2, if_pos g3] at h; exact h _ E20
  · rw [if_neg g2, if_neg g3] at h; exact h _ E20
end Go.Proofs
namespace Go.Proofs
open Go Go.Sh Go.RowKit

theorem brkTo_end {L : List Ps} {s : List UInt8} {k : Nat} (h1 : 1 ≤ k) (h2 : L.length ≤ k) (h3 : k = 1 ∨ k ≤ L.length) : brkTo L s k = brkZ L s := by
  by_cases h0 : L.length = 0
  · have : k = 1 := by omega
    subst this
    rw [brkTo_one]
    have hL0 := List.eq_nil_of_length_eq_zero h0
    subst hL0
    rfl
  · have : k = L.length := by omega
    subst this; rfl
theorem brk_at {L : List Ps} {s : List UInt8} {k : Nat} (hs : L.length = s.length) (hk : 1 ≤ k) (hkL : k < L.length) : (isStart L k && brkB s k) = ((!decide (L[k] = L[k - 1])) && (innB s[k] && innB s[k - 1])) := by
  have hx : L[k]? = some L[k] := by simp [hkL]
  have hy : L[k - 1]? = some L[k - 1] := by rw [List.getElem?_eq_getElem (by omega)]
  have hs1 : s[k - 1]? = some s[k - 1] := by rw [List.getElem?_eq_getElem (by omega)]
  have hs2 : s[k]? = some s[k] := by rw [List.getElem?_eq_getElem (by omega)]
  have e1 : isStart L k = !decide (L[k] = L[k - 1]) := by
    unfold isStart
    rw [hx, hy, ← decide_not, decide_eq_decide, ne_eq, Option.some.injEq]
    constructor
    · rintro (e | e)
      · omega
      · exact e
    · exact .inr
  have e2 : brkB s k = (innB s[k - 1] && innB s[k]) := by unfold brkB; rw [hs1, hs2]; simp; omega
  rw [e1, e2, Bool.and_comm (innB s[k - 1])]
set_option maxRecDepth 20000 in
theorem Broken13_spec {R : Ending → World → Prop} {S : Nat → Prop} {w : World} {a : Option Addr} {n c : Nat} (f : Fo) (hf0 : SlF S w a n f)
    (h : ∀ a' c' w', RowAt encI (fun k => w.heap.size ≤ k) w' a' (brkR f).length (brkR f) → Ext w w' → R (.returned (.tuple ⟨[.slice a' (brkR f).length c', .int .i64 (patE f)]⟩)) w') :
    Calls Tryz.prog F_ref13_Broken ⟨[.slice a n c]⟩ w R := by
  apply c_ref13_Broken
  refine all13_spec f hf0 fun a1 c1 w3 hr1 e3 => ⟨_, _, _, _, _, rfl, ?_⟩
  refine al_intro fun b7 w8 hb7 B7 e8 s8 => ?_
  have E8 := ext_trans e3 e8
  have hrow := hr1.ext e8
  have hlen : (allR f).length = (allS f).length := by
    unfold allR allS; split
    · rfl
    · exact posL_pat _ _
  have hbr : brkR f = brkZ (allR f) (allS f) := by
    unfold brkR allR allS
    split
    · rfl
    · rfl
  have hsm : (allS f).length ≤ 65536 := by
    unfold allS; split
    · simp
    · rename_i hh; exact (patE_zero (Decidable.not_not.1 hh)).2.2.1
  rw [hbr] at h
  generalize allR f = L at *
  generalize allS f = s at *
  have z3 := e3.size
  refine ⟨fun oa on oc i W m => ∃ k : Nat, i = k ∧ 1 ≤ k ∧ (k = 1 ∨ k ≤ L.length) ∧ m = L.length + 1 - k ∧ OwnL encI W w3.heap.size 3 oa on oc (brkTo L s k) ∧ Ext w3 W,
    ⟨_, 1, rfl, by omega, .inl rfl, rfl, by rw [brkTo_one]; exact Owns.made B7 (by omega), e8⟩, ?_⟩
  rintro oa on oc _ W m ⟨k, rfl, hk1, hk2, rfl, ho, he⟩ _
  have hon := ho.length
  have hkl := brkTo_len L s k
  refine br_split (fun hlt => ?_) (fun hge => ?_)
  · have hkL : k < L.length := by omega
    intro K15 hK15
    have k15 : ∀ v W2, v = (isStart L k && brkB s k) → Ext W W2 → K15 v W2 := by
      rintro _ W2 rfl e2
      have z2 := e2.size
      have zz := he.size
      refine hK15 _ _ fun _ => br_cases (fun gb => ?_) (fun gb => ?_)
      · refine OwnL.push slT_int (Owns.ext ho e2) (by omega) (k : Int) (by omega) (by omega) fun a'' c'' W5 ho5 hc hn => ?_
        exact ⟨L.length + 1 - (k + 1), by omega, k + 1, by rw [wrap_nat (by omega)], by omega, .inr (by omega), rfl, by rw [brkTo_succ, if_pos gb]; exact ho5, ext_chgS (ext_trans he e2) hc fun j hj => (Owns.bk ho hj).1⟩
      · exact ⟨L.length + 1 - (k + 1), by omega, k + 1, by rw [wrap_nat (by omega)], by omega, .inr (by omega), rfl, by rw [brkTo_succ, gb, if_neg (by simp), List.append_nil]; exact Owns.ext ho e2, ext_trans he e2⟩
    unfold drw
    have ed := ext_drew W
    have hx : L[k]? = some L[k] := by simp [hkL]
    have hy : L[k - 1]? = some L[k - 1] := by rw [List.getElem?_eq_getElem (by omega)]
    have hL3 := (hr1.ext he).ext ed
    obtain ⟨bb, o, hq, _, _, hc⟩ := hL3.get hx
    obtain ⟨bb', o', hq', _, _, hc'⟩ := hL3.get hy
    refine hq _ ⟨L[k].1, by rw [add_none]; exact hc 0 _ rfl, L[k].2, by rw [add_none]; exact hc 1 _ rfl, ?_⟩
    rw [show IntKind.i64.wrap ((k : Int) - 1) = ((k - 1 : Nat) : Int) by rw [wrap_id (by omega)]; omega]
    refine hq' _ ⟨L[k - 1].1, by rw [add_none]; exact hc' 0 _ rfl, L[k - 1].2, by rw [add_none]; exact hc' 1 _ rfl, ?_⟩
    rw [decPs L[k] L[k - 1]]
    have hv := brk_at hlen hk1 hkL
    rw [hv] at k15
    refine br_cases (fun g1 => ?_) (fun g1 => ?_)
    · rw [g1, Bool.true_and] at k15
      refine sidx_nat (by omega) ⟨inW13_spec _ ⟨_, rfl, br_cases (fun g2 => ?_) (fun g2 => ?_)⟩, trivial⟩
      · rw [g2, Bool.true_and] at k15
        exact sidx_nat (by omega) ⟨inW13_spec _ ⟨_, rfl, k15 _ _ rfl ed⟩, trivial⟩
      · exact ⟨k15 _ _ (by rw [g2]; rfl) ed, trivial⟩
    · exact ⟨⟨k15 _ _ (by rw [g1]; rfl) ed, trivial⟩, trivial⟩
  · rw [brkTo_end hk1 (by omega) hk2] at ho
    have hl := OwnL.length ho
    have ho' := ho.out.imp (S' := fun k => w.heap.size ≤ k) fun k hk _ => by have := (Owns.bk ho hk).1; omega
    rw [← hl] at ho' ⊢
    exact h oa oc W ho' (ext_trans e3 he)

set_option maxRecDepth 20000 in
theorem LayoutOthers_spec {R : Ending → World → Prop} {S : Nat → Prop} {w : World} {a : Option Addr} {n c : Nat} (f : Fo) (p q : Ps) (hF : Forms w) (hf0 : SlF S w a n f)
    (h : ∀ w', Ext w w' → R (.returned (.bool true)) w') : Calls Tryz.prog F_law13_LayoutOthers ⟨[.slice a n c, .agg ⟨[.string ⟨⟨p.1⟩⟩, .int .i64 p.2]⟩, .agg ⟨[.string ⟨⟨q.1⟩⟩, .int .i64 q.2]⟩]⟩ w R := by
  apply c_law13_LayoutOthers
  refine al_intro fun b6 w7 hb6 B6 e7 s7 => ?_
  refine al_intro fun b8 w9 hb8 B8 e9 s9 => ?_
  have E9 := ext_trans e7 e9
  have B6' := B6.ext e9
  refine Great_spec (hf0.ext E9) fun w11 e11 => ⟨_, rfl, ?_⟩
  have E11 := ext_trans E9 e11
  refine br_cases (fun _ => awake13_spec (hF.ext E11) fun w10 e10 => ⟨_, rfl, h _ (ext_trans E11 e10)⟩) (fun hgr => ?_)
  have hs := great10_small hgr
  refine Pages_spec f hs (hF.ext E11) (hf0.ext E11) fun a1 c1 w17 hr1 e17 => ⟨_, _, _, _, rfl, ?_⟩
  have E17 := ext_trans E11 e17
  refine Pages13_spec f (hf0.ext E17) fun a2 c2 w21 hr2 e21 => ⟨_, _, _, _, rfl, ?_⟩
  have E21 := ext_trans E17 e21
  refine Lines_spec f hs (hF.ext E21) (hf0.ext E21) fun w25 e25 => ⟨_, _, rfl, ?_⟩
  have E25 := ext_trans E21 e25
  refine Lines13_spec f (hf0.ext E25) fun w29 e29 => ⟨_, _, rfl, ?_⟩
  have E29 := ext_trans E25 e29
  have e929 := ext_trans (ext_trans (ext_trans (ext_trans e11 e17) e21) e25) e29
  obtain ⟨x0, x1⟩ := blk2 (B6'.ext e929)
  refine ⟨p.1, x0, p.2, x1, ?_⟩
  refine Find_spec p f hs (hF.ext E29) (hf0.ext E29) fun w35 e35 => ⟨_, _, _, rfl, ?_⟩
  have E35 := ext_trans E29 e35
  have e935 := ext_trans e929 e35
  obtain ⟨x0, x1⟩ := blk2 (B6'.ext e935)
  refine ⟨p.1, x0, p.2, x1, ?_⟩
  refine Find13_spec p f (hf0.ext E35) fun w42 e42 => ⟨_, _, _, rfl, ?_⟩
  have E42 := ext_trans E35 e42
  have e942 := ext_trans e935 e42
  obtain ⟨x0, x1⟩ := blk2 (B6'.ext e942)
  refine ⟨p.1, x0, p.2, x1, ?_⟩
  refine Line_spec p f hs (hF.ext E42) (hf0.ext E42) fun w49 e49 => ⟨_, _, rfl, ?_⟩
  have E49 := ext_trans E42 e49
  have e949 := ext_trans e942 e49
  obtain ⟨x0, x1⟩ := blk2 (B6'.ext e949)
  refine ⟨p.1, x0, p.2, x1, ?_⟩
  refine Line13_spec p f (hf0.ext E49) fun w55 e55 => ⟨_, _, rfl, ?_⟩
  have E55 := ext_trans E49 e55
  have e955 := ext_trans e949 e55
  obtain ⟨x0, x1⟩ := blk2 (B6'.ext e955)
  obtain ⟨y0, y1⟩ := blk2 (B8.ext e955)
  refine ⟨p.1, x0, p.2, x1, q.1, y0, q.2, y1, ?_⟩
  refine Compare_spec p q f hs (hF.ext E55) (hf0.ext E55) fun w63 e63 => ⟨_, _, rfl, ?_⟩
  have E63 := ext_trans E55 e63
  have e963 := ext_trans e955 e63
  obtain ⟨x0, x1⟩ := blk2 (B6'.ext e963)
  obtain ⟨y0, y1⟩ := blk2 (B8.ext e963)
  refine ⟨p.1, x0, p.2, x1, q.1, y0, q.2, y1, ?_⟩
  refine Compare13_spec p q f (hf0.ext E63) fun w71 e71 => ⟨_, _, rfl, ?_⟩
  have E71 := ext_trans E63 e71
  refine Broken_spec f hs (hF.ext E71) (hf0.ext E71) fun a3 c3 w75 hr3 e75 => ⟨_, _, _, _, rfl, ?_⟩
  have E75 := ext_trans E71 e75
  refine Broken13_spec f (hf0.ext E75) fun a4 c4 w79 hr4 e79 => ⟨_, _, _, _, rfl, ?_⟩
  have E79 := ext_trans E75 e79
  have e1779 := ext_trans (ext_trans (ext_trans (ext_trans (ext_trans (ext_trans (ext_trans (ext_trans (ext_trans (ext_trans e21 e25) e29) e35) e42) e49) e55) e63) e71) e75) e79
  have e2179 := ext_trans (ext_trans (ext_trans (ext_trans (ext_trans (ext_trans (ext_trans (ext_trans (ext_trans e25 e29) e35) e42) e49) e55) e63) e71) e75) e79
  have hp4 : (pgR f).length ≤ 4611686018427387904 := by
    have := pgF_len f
    unfold small at hs
    unfold pgR; split
    · simp
    · omega
  have hp5 : (brkR f).length ≤ 4611686018427387904 := by
    unfold brkR; split
    · simp
    · rename_i hh
      have h1 := (patE_zero (Decidable.not_not.1 hh)).2.2.1
      have h2 := posL_pat ([], 0) f
      have h3 := brkTo_len (posL ([], 0) (nodesF f)) (patF f) (posL ([], 0) (nodesF f)).length
      have : brkTo (posL ([], 0) (nodesF f)) (patF f) (posL ([], 0) (nodesF f)).length = brkZ (posL ([], 0) (nodesF f)) (patF f) := rfl
      rw [this] at h3
      omega
  refine EqualS_spec (hr1.ext e1779) (hr2.ext e2179) hp4 fun w83 e83 => ⟨_, rfl, ?_⟩
  simp only [decide_true, br_t]
  refine EqualR_spec ((hr3.ext e79).ext e83) (hr4.ext e83) hp5 fun w86 e86 => ⟨_, rfl, ?_⟩
  simp only [decide_true, br_t]
  have E86 := ext_trans (ext_trans E79 e83) e86
  exact awake13_spec (hF.ext E86) fun w89 e89 => ⟨_, rfl, h _ (ext_trans E86 e89)⟩
end Go.Proofs
