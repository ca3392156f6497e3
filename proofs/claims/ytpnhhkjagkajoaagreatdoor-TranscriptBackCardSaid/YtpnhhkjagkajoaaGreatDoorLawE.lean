/- The contracts of the functions that the law reaches, one after the other, and at the end the law's card. -/
import Derived.Test.YtpnhhkjagkajoaaGreatDoorLawD
namespace Go.Proofs
open Go Go.Sh Go.RowKit

variable {R : Ending → World → Prop} {w : World}
theorem kb {K : Bool → World → Prop} {w : World} {b : Bool} {p : Prop} [Decidable p] (h : b = true ↔ p) (hk : K (decide p) w) : K b w := by
  have : b = decide p := by rw [Bool.eq_iff_iff, decide_eq_true_eq]; exact h
  rw [this]; exact hk
theorem kf {K : Bool → World → Prop} {w : World} {p : Prop} [Decidable p] (hk : K (decide p) w) (h : ¬ p) : K false w := by rw [decide_eq_false h] at hk; exact hk
/- the same reasons, in the order of the reference -/
theorem chkOne_ref (x : Lx) (pt : Bool) (at_ : Int) : chkOne x pt at_ = if x.k < 1 ∨ 4 < x.k then 8 else if x.k = 1 ∧ x.nm ≠ [] then 12 else if x.k ≠ 1 ∧ ¬ (knownB x.nm = true ∧ emptyB x.nm = decide (x.k = 4)) then 12
    else if x.k = 1 ∧ x.vl = [] then 5 else if x.k = 1 ∧ checkC x.vl ≠ 0 then 11 else if x.k = 1 ∧ pt = true then 10 else if x.k = 3 ∧ x.vl ≠ [] then 3 else if x.k ≠ 1 ∧ x.k ≠ 3 ∧ valB x.nm x.vl = false then 3 else if x.pos ≠ at_ then 9 else 0 := by
  unfold chkOne singleX rightX
  by_cases h1 : x.k = 1
  · have a1 : ¬ (x.k < 1 ∨ 4 < x.k) := by omega
    have a2 : ¬ x.k = 3 := by omega
    simp only [h1, a1, if_true, if_false, true_and, ne_eq, not_true, false_and]
    rw [if_neg (by omega : ¬ ((1 : Int) < 1 ∨ (4 : Int) < 1))]
    by_cases h2 : x.nm = []
    · by_cases h3 : x.vl = []
      · simp [h2, h3]
      · by_cases h4 : checkC x.vl = 0
        · simp [h2, h3, h4]
        · simp [h2, h3, h4]
    · simp [h2]
  · simp only [h1, false_and, if_false, ne_eq, not_false_eq_true, true_and]
    by_cases h5 : x.k = 2 ∨ x.k = 3 ∨ x.k = 4
    · rw [if_pos h5, if_neg (by omega : ¬ (x.k < 1 ∨ 4 < x.k))]
      by_cases h6 : knownB x.nm = true ∧ emptyB x.nm = decide (x.k = 4)
      · rw [if_pos h6, if_neg (fun hh => hh rfl : ¬ ¬ (0 : Int) = 0), if_neg (fun hh => hh h6 : ¬ ¬ (knownB x.nm = true ∧ emptyB x.nm = decide (x.k = 4)))]
        by_cases h7 : x.k = 3
        · by_cases h8 : x.vl = []
          · simp [h7, h8]
          · simp [h7, h8]
        · cases h8 : valB x.nm x.vl
          · simp [h7]
          · simp [h7]
      · rw [if_neg h6, if_pos (by decide : ¬ (12 : Int) = 0), if_pos h6]
    · rw [if_neg h5, if_pos (by decide : ¬ (8 : Int) = 0), if_pos (by omega : x.k < 1 ∨ 4 < x.k)]
set_option maxRecDepth 20000 in
theorem CheckR_spec {S : Nat → Prop} {a : Option Addr} {n c : Nat} (L : List Lx) (hL : RowAt encX S w a n L) (hT : totX L ≤ 1000000000) (h : ∀ w', Ext w w' → R (.returned (.int .i64 (chkX L))) w') :
    Calls Tryz.prog F_ref09_Check ⟨[.slice a n c]⟩ w R := by
  apply c_ref09_Check
  have hn : n = L.length := hL.1
  have hln := totX_len L
  refine ⟨fun at_ t W m => ∃ k : Nat, t = k ∧ k ≤ n ∧ m = n - k ∧ at_ = ((printX (L.take k)).length : Int) ∧ chkX L = chkGo (L.drop k) (lastK false (L.take k)) (printX (L.take k)).length ∧ Ext w W, ⟨_, 0, rfl, by omega, rfl, rfl, rfl, Below.refl _ _⟩, ?_⟩
  rintro _ _ W m ⟨k, rfl, hk, rfl, rfl, heq, he⟩ _
  have hpk := print_take L k
  refine br_split (fun hlt => ?_) (fun hge => ?_)
  · have hkL : k < L.length := by omega
    obtain ⟨q, hq, c0, c1, c2, c3⟩ := get_lx (hL.ext he) hkL
    have hx := totX_get hkL
    refine hq _ ⟨_, c0, _, c1, _, c2, _, c3, ?_⟩
    refine al_stL rfl one4 fun bx w15 hbx Bx e15 s15 => ?_
    have E15 := ext_trans he e15
    rw [List.drop_eq_getElem_cons hkL, chkGo, chkOne_ref] at heq
    have hgk : L[k]? = some L[k] := List.getElem?_eq_getElem hkL
    generalize hxk : L[k] = x at *
    obtain ⟨d0, d1, d2, d3⟩ := blk4x (x := x) Bx
    have out : ∀ (e : Int) (v : World), chkX L = e → Ext w15 v → R (.returned (.int .i64 e)) v := fun e v hh ev => by rw [← hh]; exact h v (ext_trans E15 ev)
    intro K16 hK16
    have k16 : ∀ v, Ext w15 v → K16 (decide (x.k < 1 ∨ 4 < x.k)) v := by
      intro v ev
      refine hK16 _ _ fun _ => br_split (fun g1 => out 8 v (by rw [if_pos g1] at heq; rw [heq]; rfl) ev) (fun g1 => ?_)
      rw [if_neg g1] at heq
      intro K19 hK19
      have k19 : K19 (decide (x.k = 1 ∧ x.nm ≠ [])) v := by
        refine hK19 _ _ fun _ => br_split (fun g2 => out 12 v (by rw [if_pos g2] at heq; rw [heq]; rfl) ev) (fun g2 => ?_)
        rw [if_neg g2] at heq
        intro K22 hK22
        have k22 : ∀ v2, Ext w15 v2 → K22 (decide (x.k ≠ 1 ∧ ¬ (knownB x.nm = true ∧ emptyB x.nm = decide (x.k = 4)))) v2 := by
          intro v2 ev2
          refine hK22 _ _ fun _ => br_split (fun g3 => out 12 v2 (by rw [if_pos g3] at heq; rw [heq]; rfl) ev2) (fun g3 => ?_)
          rw [if_neg g3] at heq
          intro K25 hK25
          have k25 : K25 (decide (x.k = 1 ∧ x.vl = [])) v2 := by
            refine hK25 _ _ fun _ => br_split (fun g4 => out 5 v2 (by rw [if_pos g4] at heq; rw [heq]; rfl) ev2) (fun g4 => ?_)
            rw [if_neg g4] at heq
            intro K28 hK28
            have k28 : ∀ v3, Ext w15 v3 → K28 (decide (x.k = 1 ∧ checkC x.vl ≠ 0)) v3 := by
              intro v3 ev3
              refine hK28 _ _ fun _ => br_split (fun g5 => out 11 v3 (by rw [if_pos g5] at heq; rw [heq]; rfl) ev3) (fun g5 => ?_)
              rw [if_neg g5] at heq
              intro K31 hK31
              have k31 : K31 (decide (x.k = 1 ∧ lastK false (L.take k) = true)) v3 := by
                refine hK31 _ _ fun _ => br_split (fun g6 => out 10 v3 (by rw [if_pos g6] at heq; rw [heq]; rfl) ev3) (fun g6 => ?_)
                rw [if_neg g6] at heq
                intro K34 hK34
                have k34 : K34 (decide (x.k = 3 ∧ x.vl ≠ [])) v3 := by
                  refine hK34 _ _ fun _ => br_split (fun g7 => out 3 v3 (by rw [if_pos g7] at heq; rw [heq]; rfl) ev3) (fun g7 => ?_)
                  rw [if_neg g7] at heq
                  intro K37 hK37
                  have k37 : ∀ v4, Ext w15 v4 → K37 (decide (x.k ≠ 1 ∧ x.k ≠ 3 ∧ valB x.nm x.vl = false)) v4 := by
                    intro v4 ev4
                    refine hK37 _ _ fun _ => br_split (fun g8 => out 3 v4 (by rw [if_pos g8] at heq; rw [heq]; rfl) ev4) (fun g8 => ?_)
                    rw [if_neg g8] at heq
                    refine ⟨_, cell_ext d3 ev4, br_split (fun g9 => out 9 v4 (by rw [if_pos g9] at heq; rw [heq]; rfl) ev4) (fun g9 => ?_)⟩
                    rw [if_neg g9, if_neg (by simp)] at heq
                    have hf : formF x = textF x := form_text fun h3 => Classical.byContradiction fun hv => g7 ⟨h3, hv⟩
                    refine ⟨_, cell_ext d0 ev4, _, cell_ext d1 ev4, _, cell_ext d2 ev4, _, cell_ext d3 ev4, ?_⟩
                    refine form_spec x (by omega) (by omega) fun w46 e46 => ⟨_, rfl, ?_⟩
                    have htl := text_le x
                    rw [hf]
                    refine ⟨n - (k + 1), by omega, k + 1, by rw [wrap_nat (by omega)], by omega, rfl, ?_, ?_, ext_trans E15 (ext_trans ev4 e46)⟩
                    · rw [print_succ hkL, hxk, List.length_append, wrap_id (by omega)]; omega
                    · rw [heq, print_succ hkL, lastK_succ hkL, hxk, List.length_append]
                  refine ⟨_, cell_ext d0 ev3, br_split (fun g8 => ⟨_, cell_ext d0 ev3, br_split (fun g9 => ?_) (fun g9 => ?_)⟩) (fun g8 => ?_)⟩
                  · refine ⟨_, cell_ext d1 ev3, _, cell_ext d2 ev3, rightR_spec x.nm x.vl (by omega) fun v4 ev4 => ⟨_, rfl, kb ?_ (k37 v4 (ext_trans ev3 ev4))⟩⟩
                    rw [Bool.not_eq_true']
                    exact ⟨fun hh => ⟨g8, g9, hh⟩, fun hh => hh.2.2⟩
                  · exact kf (k37 v3 ev3) (fun hh => absurd hh.2.1 g9)
                  · exact kf (k37 v3 ev3) (fun hh => absurd hh.1 g8)
                refine ⟨_, cell_ext d0 ev3, br_split (fun g7 => ⟨_, cell_ext d2 ev3, kb ?_ k34⟩) (fun g7 => kf k34 (fun hh => absurd hh.1 g7))⟩
                rw [decide_eq_true_eq]
                exact ⟨fun hh => ⟨g7, hh⟩, fun hh => hh.2⟩
              refine ⟨_, cell_ext d0 ev3, br_split (fun g6 => br_split (fun gt => ?_) (fun gt => ?_)) (fun g6 => kf k31 (fun hh => absurd hh.1 g6))⟩
              · obtain ⟨j, rfl⟩ : ∃ j, k = j + 1 := ⟨k - 1, by omega⟩
                have hj : j < L.length := by omega
                obtain ⟨q', hq', c0', _⟩ := get_lx (hL.ext (ext_trans E15 ev3)) hj
                rw [show ((j + 1 : Nat) : Int) - 1 = (j : Int) by omega, wrap_id (by omega)]
                refine hq' _ ⟨_, c0', kb ?_ k31⟩
                rw [decide_eq_true_eq, lastK_succ hj, decide_eq_true_eq]
                exact ⟨fun hh => ⟨g6, hh⟩, fun hh => hh.2⟩
              · have : k = 0 := by omega
                subst this
                exact kf k31 (fun hh => by rw [List.take_zero] at hh; cases hh.2)
            refine ⟨_, cell_ext d0 ev2, br_split (fun g5 => ⟨_, cell_ext d2 ev2, Check_spec' x.vl fun v3 ev3 => ⟨_, rfl, kb ?_ (k28 v3 (ext_trans ev2 ev3))⟩⟩) (fun g5 => kf (k28 v2 ev2) (fun hh => absurd hh.1 g5))⟩
            rw [decide_eq_true_eq]
            exact ⟨fun hh => ⟨g5, hh⟩, fun hh => hh.2⟩
          refine ⟨_, cell_ext d0 ev2, br_split (fun g4 => ⟨_, cell_ext d2 ev2, kb ?_ k25⟩) (fun g4 => kf k25 (fun hh => absurd hh.1 g4))⟩
          rw [decide_eq_true_eq]
          exact ⟨fun hh => ⟨g4, hh⟩, fun hh => hh.2⟩
        unfold drw
        have evd := ext_trans ev (ext_drew v)
        refine ⟨_, cell_ext d0 evd, br_split (fun g3 => ⟨_, cell_ext d1 evd, ⟨knownR_spec x.nm fun v2 ev2 => ⟨_, rfl, br_cases (fun gn => ?_) (fun gn => ?_)⟩, trivial⟩⟩) (fun g3 => ?_)⟩
        · have hk : K22 true v2 := kb ⟨fun _ => ⟨g3, fun hh => by rw [hh.1] at gn; cases gn⟩, fun _ => rfl⟩ (k22 v2 (ext_trans evd ev2))
          repeat' (first | exact hk | exact trivial | apply And.intro)
        · have gn : knownB x.nm = true := by simpa using gn
          have E2 := ext_trans evd ev2
          have hv : K22 (decide (decide (x.k = 4) ≠ emptyB x.nm)) v2 := by
            refine kb ?_ (k22 v2 E2)
            rw [decide_eq_true_eq]
            exact ⟨fun hh => ⟨g3, fun h2 => hh h2.2.symm⟩, fun hh h2 => hh.2 ⟨gn, h2.symm⟩⟩
          have f0 := cell_ext d0 E2
          have f1 := cell_ext d1 E2
          exact ⟨⟨_, f0, _, f1, emptyR_spec x.nm ⟨_, rfl, hv⟩, trivial⟩, ⟨⟨_, f0, _, f1, emptyR_spec x.nm ⟨_, rfl, hv⟩, trivial⟩, ⟨_, f1, ⟨_, f0, emptyR_spec x.nm ⟨_, rfl, hv⟩, trivial⟩, emptyR_spec x.nm ⟨_, rfl, _, f0, hv⟩, trivial⟩, trivial⟩, trivial⟩
        · have hk : K22 false v.drew := kf (k22 v.drew evd) (fun hh => absurd hh.1 g3)
          repeat' (first | exact hk | exact trivial | apply And.intro)
      refine ⟨_, cell_ext d0 ev, br_split (fun g2 => ⟨_, cell_ext d1 ev, kb ?_ k19⟩) (fun g2 => kf k19 (fun hh => absurd hh.1 g2))⟩
      rw [decide_eq_true_eq]
      exact ⟨fun hh => ⟨g2, hh⟩, fun hh => hh.2⟩
    refine ⟨_, d0, br_split (fun g1 => kb ⟨fun _ => .inl g1, fun _ => rfl⟩ (k16 w15 (Below.refl _ _))) (fun g1 => ⟨_, d0, kb ?_ (k16 w15 (Below.refl _ _))⟩)⟩
    rw [decide_eq_true_eq]
    exact ⟨.inr, fun hh => hh.resolve_left g1⟩
  · have hkn : k = L.length := by omega
    subst hkn
    rw [List.drop_length, List.take_length, chkGo] at heq
    rw [List.take_length]
    refine br_split (fun g => ?_) (fun g => ?_)
    · rw [if_pos (by omega)] at heq; rw [← heq]; exact h W he
    · rw [if_neg (by omega)] at heq; rw [← heq]; exact h W he
end Go.Proofs
namespace Go.Proofs
open Go Go.Sh Go.RowKit

variable {R : Ending → World → Prop} {w : World}
/- lexemes that are checked have the form of their text -/
theorem chk_form {L : List Lx} : ∀ {pt : Bool} {at_ : Nat}, chkGo L pt at_ = 0 → ∀ x ∈ L, formF x = textF x := by
  induction L with
  | nil => intro _ _ _ x hx; cases hx
  | cons y r ih =>
    intro pt at_ h x hx
    obtain ⟨h1, h2⟩ := chkGo_cons.1 h
    rcases List.mem_cons.1 hx with rfl | hx
    · refine form_text fun h3 => ?_
      have := (chk_inv h1).2.2.1 (by omega)
      unfold rightX at this
      rw [if_pos h3] at this
      exact of_decide_eq_true this
    · exact ih h2 x hx
set_option maxRecDepth 20000 in
theorem NestedR_spec {S : Nat → Prop} {a : Option Addr} {n c : Nat} (L : List Lx) (hL : RowAt encX S w a n L) (hT : totX L ≤ 1000000000) (h : ∀ w', Ext w w' → R (.returned (.int .i64 (nestX L))) w') :
    Calls Tryz.prog F_ref09_Nested ⟨[.slice a n c]⟩ w R := by
  apply c_ref09_Nested
  have hn : n = L.length := hL.1
  have hln := totX_len L
  refine CheckR_spec L hL hT fun w3 e3 => ⟨_, rfl, br_split (fun g => ?_) (fun g => ?_)⟩
  · have := h w3 e3; unfold nestX at this; rwa [if_pos g] at this
  unfold nestX at h
  rw [if_neg g] at h
  refine al_intro fun b5 w6 hb5 B5 e6 s6 => ?_
  have z6 := e6.size
  refine ⟨fun oa on oc t W m => ∃ (k : Nat) (st : List (List UInt8)), t = k ∧ k ≤ n ∧ m = n - k ∧ st.length ≤ 16 ∧ on = st.length ∧ OwnL Sh.encStr W w3.heap.size 9 oa on oc st.reverse ∧ nestGo L [] = nestGo (L.drop k) st ∧ Ext w3 W, ⟨_, 0, [], rfl, by omega, rfl, by simp, rfl, Owns.made B5 (by omega), rfl, e6⟩, ?_⟩
  rintro oa on oc _ W m ⟨k, st, rfl, hk, rfl, hst, rfl, hO, heq, he⟩ _
  have z := he.size
  refine br_split (fun hlt => ?_) (fun hge => ?_)
  · have hkL : k < L.length := by omega
    obtain ⟨q, hq, c0, c1, c2, c3⟩ := get_lx (hL.ext (ext_trans e3 he)) hkL
    rw [List.drop_eq_getElem_cons hkL, nestGo] at heq
    refine hq _ ⟨_, c0, ?_⟩
    generalize hxk : L[k] = x at *
    refine br_split (fun g2 => hq _ ⟨_, c1, ?_⟩) (fun g2 => br_split (fun g3 => ?_) (fun g3 => ?_))
    · rw [if_pos g2] at heq
      refine OwnL.push slT_strM hO (by omega) x.nm (by omega) (by omega) fun a' c' w24 o1 o2 o3 => ?_
      have E24 : Ext w3 w24 := ext_chgS he o2 fun j hj => (hO.bk hj).1
      refine br_split (fun g16 => ?_) (fun g16 => ?_)
      · rw [if_pos (by omega)] at heq
        rw [← heq]; exact h w24 (ext_trans e3 E24)
      · rw [if_neg (by omega)] at heq
        refine ⟨n - (k + 1), by omega, k + 1, x.nm :: st, by rw [wrap_nat (by omega)], by omega, rfl, by rw [List.length_cons]; omega, by rw [List.length_cons], ?_, heq, E24⟩
        rw [List.reverse_cons]; exact o1
    · rw [if_neg g2, if_pos g3] at heq
      intro K26 hK26
      have hOd := hO.ext (ext_drew W)
      have Ed := ext_trans he (ext_drew W)
      unfold drw
      refine br_split (fun g4 => ?_) (fun g4 => ?_)
      · have hs0 : st = [] := List.length_eq_zero_iff.1 (by omega)
        subst hs0
        have hp : popS x.nm [] = none := rfl
        rw [hp] at heq
        have := h _ (ext_trans e3 Ed)
        rwa [heq] at this
      · obtain ⟨t, st', rfl⟩ : ∃ t st', st = t :: st' := by
          cases st with
          | nil => exact absurd rfl g4
          | cons t st' => exact ⟨t, st', rfl⟩
        have hlr : (t :: st').reverse.length = st'.length + 1 := by simp
        rw [List.length_cons] at *
        rw [show ((st'.length + 1 : Nat) : Int) - 1 = (st'.length : Int) by omega, wrap_id (by omega)]
        obtain ⟨q', hq', cq⟩ := get_str (OwnL.out hOd) (k := st'.length) (by rw [hlr]; omega)
        have hlast : (t :: st').reverse[st'.length]'(by rw [hlr]; omega) = t := by simp
        rw [hlast] at cq
        refine hq' _ ⟨_, cq, hq _ ⟨_, cell_ext c1 (ext_drew W), br_split (fun g5 => ?_) (fun g5 => ?_)⟩⟩
        · have hp : popS x.nm (t :: st') = none := if_neg g5
          rw [hp] at heq
          have := h _ (ext_trans e3 Ed)
          rwa [heq] at this
        · have hp : popS x.nm (t :: st') = some st' := if_pos (Classical.not_not.1 g5)
          rw [hp] at heq
          refine hK26 _ fun _ => ?_
          rw [show ((st'.length + 1 : Nat) : Int) - 1 = (st'.length : Int) by omega, wrap_id (by omega)]
          have hcut := ownL_cut hOd (m := st'.length) (by omega)
          rw [List.reverse_cons, List.take_left' (by simp)] at hcut
          have hle := owns_le hOd
          refine sls_cut (by omega) ?_ ?_
          · intro p hp
            rcases hOd.2 with ⟨_, e2⟩ | ⟨gg, cap, cur, e1, _⟩
            · exact absurd e2 (by omega)
            · have e1 := (Value.slice.inj e1).1
              rw [e1] at hp; rw [← Option.some.inj hp]; rfl
          · exact ⟨n - (k + 1), by omega, k + 1, st', by rw [wrap_nat (by omega)], by omega, rfl, by omega, rfl, hcut, heq, Ed⟩
    · rw [if_neg g2, if_neg g3] at heq
      exact ⟨n - (k + 1), by omega, k + 1, st, by rw [wrap_nat (by omega)], by omega, rfl, hst, rfl, hO, heq, he⟩
  · have hkn : k = L.length := by omega
    subst hkn
    rw [List.drop_length, nestGo] at heq
    refine br_split (fun g5 => ?_) (fun g5 => ?_)
    · rw [if_neg (fun hh => by rw [hh] at g5; simp at g5)] at heq
      rw [← heq]; exact h W (ext_trans e3 he)
    · have hs0 : st = [] := List.length_eq_zero_iff.1 (by omega)
      rw [if_pos hs0] at heq
      rw [← heq]; exact h W (ext_trans e3 he)

theorem idx_none {p : Lx → Bool} {L : List Lx} (h : ∀ x ∈ L, p x = false) : L.findIdx? p = none := List.findIdx?_eq_none_iff.2 h
end Go.Proofs
namespace Go.Proofs
open Go Go.Sh Go.RowKit

theorem depth_app (f g : Fo) : (f.app g).depth = max f.depth g.depth := by
  induction f with
  | nil => simp [Fo.depth]
  | cons k t n ps r _ ih => simp only [Fo.cons_app, Fo.depth_parts, ih]; omega
def szF (f : Fo) (depth most : Nat) : List Value := if f.size ≤ most ∧ f.depth ≤ depth then [.int .i64 f.size, .int .i64 f.depth, .bool true] else [.int .i64 0, .int .i64 0, .bool false]

theorem size10_spec {S : Nat → Prop} : ∀ (f : Fo) {R : Ending → World → Prop} {w : World} {a : Option Addr} {n c : Nat} (d most : Nat) (hd : d ≤ 4611686018427387904) (hm : most ≤ 4611686018427387904) (hf : SlF S w a n f)
    (h : ∀ w', Ext w w' → R (.returned (.tuple ⟨szF f d most⟩)) w'), Calls Tryz.prog F_ref10_size ⟨[.slice a n c, .int .i64 (d : Int), .int .i64 (most : Int)]⟩ w R := by
  intro f
  induction hz : f.size using Nat.strongRecOn generalizing f with
  | _ z ih =>
  intro R w a n c d most hd hm hf h
  apply c_ref10_size
  have hn := hf.1
  refine ⟨fun k deep i W m => ∃ (pre r : Fo), f = pre.app r ∧ i = pre.len ∧ k = pre.size ∧ deep = pre.depth ∧ m = r.len ∧ Ext w W ∧ pre.size ≤ most ∧ pre.depth ≤ d, ⟨_, .nil, f, rfl, rfl, rfl, rfl, rfl, Below.refl _ _, by simp [Fo.size], by simp [Fo.depth]⟩, ?_⟩
  rintro _ _ _ W m ⟨pre, r, hpr, rfl, rfl, rfl, rfl, he, hs1, hs2⟩ _
  have hpl := pre.len_le_size
  refine br_split (fun hlt => ?_) (fun hge => ?_)
  · obtain ⟨kd, t, mm, ps, r, rfl⟩ := Fo.next hpr (by omega)
    have hsl := Fo.sub_len hpr
    have hsz : f.size = pre.size + (ps.size + r.size + 1) := by rw [hpr, Fo.size_app]; rfl
    have hdp : f.depth = max pre.depth (max (if ps.len = 0 then 0 else ps.depth + 1) r.depth) := by rw [hpr, depth_app, Fo.depth_parts]
    obtain ⟨q, a', c', hq, hSq, hql, hN⟩ := (hf.ext he).get hpr
    have fail : ¬ (f.size ≤ most ∧ f.depth ≤ d) → ∀ w', Ext w w' → R (.returned (.tuple ⟨[.int .i64 0, .int .i64 0, .bool false]⟩)) w' := fun hno w' he' => by
      have := h w' he'
      rw [szF, if_neg hno] at this; exact this
    rw [wrap_nat (by omega)]
    have i1 : IntKind.i64.wrap ((pre.len : Int) + 1) = ((pre.app (.one kd t mm ps)).len : Int) := by rw [wrap_nat (by omega)]; simp [Fo.one]
    have e1 : f = (pre.app (.one kd t mm ps)).app r := by rw [Fo.app_one_app]; exact hpr
    have z1 : (pre.app (.one kd t mm ps)).size = pre.size + (ps.size + 1) := by rw [Fo.size_app]; simp [Fo.one, Fo.size]
    have d1 : (pre.app (.one kd t mm ps)).depth = max pre.depth (if ps.len = 0 then 0 else ps.depth + 1) := by rw [depth_app, Fo.one, Fo.depth_parts]; simp [Fo.depth]
    refine br_split (fun h1 => ?_) (fun h1 => hq _ ⟨a', ps.len, c', hN.parts, ?_⟩)
    · exact fail (by omega) _ he
    refine br_split (fun h2 => ?_) (fun h2 => br_split (fun h3 => ?_) (fun h3 => hq _ ⟨a', ps.len, c', hN.parts, ?_⟩))
    · have hp0 : ps = .nil := Fo.eq_nil_of_len (by omega)
      subst hp0
      refine ⟨r.len, by simp, _, r, e1, i1, ?_, ?_, rfl, he, ?_, ?_⟩
      · rw [z1]; simp [Fo.size]
      · rw [d1]; simp
      · rw [z1]; simp [Fo.size]; omega
      · rw [d1]; simp; omega
    · refine fail ?_ _ he
      rw [hdp, if_neg (by omega)]; omega
    · rw [show IntKind.i64.wrap ((d : Int) - 1) = ((d - 1 : Nat) : Int) by rw [wrap_id (by omega)]; omega,
        show IntKind.i64.wrap ((most : Int) - ((pre.size + 1 : Nat) : Int)) = ((most - (pre.size + 1) : Nat) : Int) by rw [wrap_id (by omega)]; omega]
      have hne : ps.len ≠ 0 := by omega
      rw [if_neg hne] at hdp d1
      refine ih _ (hz ▸ Fo.sub_size hpr) ps rfl (d - 1) _ (by omega) (by omega) hN.sl fun w' he' => ?_
      by_cases hok : ps.size ≤ most - (pre.size + 1) ∧ ps.depth ≤ d - 1
      · rw [szF, if_pos hok]
        refine ⟨_, _, _, rfl, ?_⟩
        refine ⟨r.len, by simp, _, r, e1, i1, ?_, ?_, rfl, ext_trans he he', ?_, ?_⟩
        · rw [z1, wrap_id (by omega)]; omega
        · rw [d1, wrap_nat (by omega)]; omega
        · rw [z1]; omega
        · rw [d1]; omega
      · rw [szF, if_neg hok]
        refine ⟨_, _, _, rfl, ?_⟩
        exact fail (by omega) _ (ext_trans he he')
  · obtain ⟨rfl, rfl⟩ := Fo.last hpr (by omega)
    have := h _ he
    rw [szF, if_pos ⟨hs1, hs2⟩] at this
    exact this

theorem name_spec {R : Ending → World → Prop} {w : World} (k : Int) (h1 : 1 ≤ k) (h2 : k ≤ 11) (h : ∀ w', Ext w w' → R (.returned (.string ⟨⟨tagF k⟩⟩)) w') : Calls Tryz.prog F_ref10_name ⟨[.int .i64 k]⟩ w R := by
  apply c_ref10_name
  refine al_intro fun b w' hb g1 g2 g3 => ⟨by omega, by omega, dr_ok ⟨tagF k, ?_, h _ g2⟩⟩
  rw [add_none, g1.cell]
  rcases kind_cases h1 h2 with rfl | rfl | rfl | rfl | rfl | rfl | rfl | rfl | rfl | rfl | rfl <;> rfl

theorem all_spec {S : Nat → Prop} : ∀ (f : Fo) {R : Ending → World → Prop} {w : World} {a : Option Addr} {n c : Nat} (within : Bool) (hs : small f) (hf : SlF S w a n f)
    (h : ∀ w', Ext w w' → R (.returned (.int .i64 (allF f false within))) w'), Calls Tryz.prog F_ref10_all ⟨[.slice a n c, .bool within]⟩ w R := by
  intro f
  induction hz : f.size using Nat.strongRecOn generalizing f with
  | _ z ih =>
  intro R w a n c within hs hf h
  unfold small at hs
  apply c_ref10_all
  have hn := hf.1
  have hfl := f.len_le_size
  refine ⟨fun i W m => ∃ (pre r : Fo) (bf : Bool), f = pre.app r ∧ i = pre.len ∧ m = r.len ∧ Ext w W ∧ allF f false within = allF r bf within ∧ ((pre = .nil ∧ bf = false) ∨ ∃ (p1 : Fo) (k : Int) (t : List UInt8) (m : Int) (ps : Fo), pre = p1.app (.one k t m ps) ∧ bf = decide (k = 1)), ⟨_, .nil, f, false, rfl, rfl, rfl, Below.refl _ _, rfl, .inl ⟨rfl, rfl⟩⟩, ?_⟩
  rintro _ W m ⟨pre, r, bf, hpr, rfl, rfl, he, heq, hbf⟩ _
  rw [heq] at h
  refine br_split (fun hlt => ?_) (fun hge => ?_)
  · obtain ⟨kd, t, mm, ps, r, rfl⟩ := Fo.next hpr (by omega)
    have hsl := Fo.sub_len hpr
    have hsz := Fo.sub_size hpr
    intro K hK
    have hd := ext_trans he (ext_drew W)
    obtain ⟨q, a', c', hq, hSq, hql, hN⟩ := (hf.ext hd).get hpr
    have cont : ∀ w2, Ext W.drew w2 → K (singleF kd t mm ps bf within) w2 := fun w2 he2 => by
      refine hK _ _ fun _ => ?_
      rw [allF] at h heq
      have he3 := ext_trans hd he2
      refine br_split (fun g1 => ?_) (fun g1 => ?_)
      · rw [if_pos g1] at h; exact h _ he3
      · rw [if_neg g1] at h heq
        have hN2 := hN.ext hql he2
        refine hq _ ⟨a', ps.len, c', hN2.parts, ?_⟩
        refine ih _ (hz ▸ hsz) ps rfl true (by unfold small; omega) hN2.sl fun w3 he4 => ⟨_, rfl, ?_⟩
        refine br_split (fun g2 => ?_) (fun g2 => ?_)
        · rw [if_pos g2] at h; exact h _ (ext_trans he3 he4)
        · rw [if_neg g2] at h heq
          refine ⟨r.len, by simp, pre.app (.one kd t mm ps), r, decide (kd = 1), by rw [Fo.app_one_app]; exact hpr, ?_, rfl, ext_trans he3 he4, heq, .inr ⟨pre, kd, t, mm, ps, rfl, rfl⟩⟩
          rw [wrap_nat (by omega)]; simp [Fo.one]
    unfold drw
    refine hq _ ⟨kd, hN.kind, t, hN.text, mm, hN.num, a', ps.len, c', hN.parts, br_split (fun g1 => ?_) (fun g1 => ?_)⟩
    · rcases hbf with ⟨rfl, _⟩ | ⟨p1, k1, t1, m1, ps1, rfl, rfl⟩
      · simp at g1
      rw [Fo.app_one_app] at hpr
      obtain ⟨q1, a1, c1, hq1, _, _, hN1⟩ := (hf.ext hd).get hpr
      have e : IntKind.i64.wrap (((p1.app (.one k1 t1 m1 ps1)).len : Int) - 1) = (p1.len : Int) := by rw [wrap_id (by omega)]; simp [Fo.one]
      rw [e]
      refine hq1 _ ⟨k1, hN1.kind, ?_, trivial⟩
      exact single_spec kd t mm a' c' ps _ within fun w2 he2 => ⟨_, rfl, cont _ he2⟩
    · rcases hbf with ⟨rfl, rfl⟩ | ⟨p1, k1, t1, m1, ps1, rfl, rfl⟩
      · refine ⟨single_spec kd t mm a' c' ps _ within fun w2 he2 => ⟨_, rfl, cont _ he2⟩, trivial⟩
      · simp [Fo.one] at g1
  · obtain ⟨rfl, rfl⟩ := Fo.last hpr (by omega)
    exact h _ he
end Go.Proofs
namespace Go.Proofs
open Go Go.Sh Go.RowKit

theorem nums_texts {k : Int} (h : textsF k = true) : numsF k = false := by
  have h' : k = 1 ∨ k = 3 ∨ k = 4 ∨ k = 10 ∨ k = 11 := by simpa [textsF] using h
  rcases h' with rfl | rfl | rfl | rfl | rfl <;> decide
theorem print_spec {S : Nat → Prop} : ∀ (f : Fo) {R : Ending → World → Prop} {w : World} {a : Option Addr} {n c : Nat} (hs : f.size ≤ 1000000000) (hg : good f) (hf : SlF S w a n f)
    (h : ∀ w', Ext w w' → R (.returned (.string ⟨⟨printF f⟩⟩)) w'), Calls Tryz.prog F_ref10_print ⟨[.slice a n c]⟩ w R := by
  intro f
  induction hz : f.size using Nat.strongRecOn generalizing f with
  | _ z ih =>
  intro R w a n c hs hg hf h
  apply c_ref10_print
  have hn := hf.1
  have hfl := f.len_le_size
  refine ⟨fun out i W m => ∃ (pre r : Fo), f = pre.app r ∧ i = pre.len ∧ m = r.len ∧ Ext w W ∧ out = printF pre, ⟨_, .nil, f, rfl, rfl, rfl, Below.refl _ _, rfl⟩, ?_⟩
  rintro _ _ W m ⟨pre, r, hpr, rfl, rfl, he, rfl⟩ _
  refine br_split (fun hlt => ?_) (fun hge => ?_)
  · obtain ⟨k, t, mm, ps, r, rfl⟩ := Fo.next hpr (by omega)
    have hsl := Fo.sub_len hpr
    have hsz : f.size = pre.size + (ps.size + r.size + 1) := by rw [hpr, Fo.size_app]; rfl
    have hgg := hg
    rw [hpr, good_app] at hgg
    obtain ⟨hgp, hok, hgs, hgr⟩ := hgg
    have l1 := printF_len pre hgp
    have l2 := printF_len ps hgs
    have l3 := tagF_len hok.1 hok.2.1
    have l4 := valF_len hok
    have l5 := hok.2.2.2.1
    have e1 : f = (pre.app (.one k t mm ps)).app r := by rw [Fo.app_one_app]; exact hpr
    have i1 : IntKind.i64.wrap ((pre.len : Int) + 1) = ((pre.app (.one k t mm ps)).len : Int) := by rw [wrap_nat (by omega)]; simp [Fo.one]
    have p1 : printF (pre.app (.one k t mm ps)) = printF pre ++ nodeF k t mm (printF ps) := by rw [printF_app]; simp [Fo.one, printF]
    obtain ⟨q, a', c', hq, hSq, hql, hN⟩ := (hf.ext he).get hpr
    refine hq _ ⟨k, hN.kind, t, hN.text, mm, hN.num, a', ps.len, c', hN.parts, ?_⟩
    refine al_stL (by simp) (by intro u hu; simp only [List.mem_cons, List.not_mem_nil, or_false] at hu; rcases hu with rfl | rfl | rfl | rfl <;> rfl) fun b w1 hb hB g2 g3 => ?_
    obtain ⟨c0, c1, c2, c3⟩ := blk4 hB
    have he1 := ext_trans he g2
    refine ⟨k, c0, br_split (fun hk1 => ?_) (fun hk1 => ?_)⟩
    · refine ⟨t, c1, by omega, r.len, by simp, _, r, e1, i1, rfl, he1, ?_⟩
      rw [p1, nodeF, if_pos hk1]
    refine ⟨k, c0, name_spec k hok.1 hok.2.1 fun w2 he2 => ⟨_, rfl, by simp; omega, ?_⟩⟩
    have hB2 := hB.ext he2
    obtain ⟨c0', c1', c2', c3'⟩ := blk4 hB2
    have hE2 := ext_trans he1 he2
    intro K25 hK25
    have k25 : K25 ([60] ++ tagF k ++ (if textsF k then 32 :: t else [])) w2 := by
      refine hK25 _ _ fun _ => ?_
      intro K28 hK28
      have lt : (if textsF k then 32 :: t else ([] : List UInt8)).length ≤ 65537 := by split <;> simp; omega
      have k28 : K28 ([60] ++ tagF k ++ valF k t mm) w2 := by
        refine hK28 _ _ fun _ => ⟨k, c0', parts_spec k ⟨_, rfl, ?_⟩⟩
        refine br_cases (fun hp => ?_) (fun hp => ?_)
        · refine ⟨by simp only [List.length_append, List.length_cons, List.length_nil]; omega, by simp only [List.length_append, List.length_cons, List.length_nil]; omega, r.len, by simp, _, r, e1, i1, rfl, hE2, ?_⟩
          rw [p1, nodeF, if_neg hk1, if_neg (by simpa using hp)]
          simp
        · have hdr := ext_drew w2
          have hB3 := hB2.ext hdr
          obtain ⟨d0, d1, d2, d3⟩ := blk4 hB3
          have hE3 := ext_trans hE2 hdr
          have hsl3 := hN.sl.ext (ext_trans g2 (ext_trans he2 hdr))
          have sub : ∀ {R' : Ending → World → Prop}, (∀ w', Ext w2.drew w' → R' (.returned (.string ⟨⟨printF ps⟩⟩)) w') → Calls Tryz.prog F_ref10_print ⟨[.slice a' ps.len c']⟩ w2.drew R' := fun h' =>
            ih _ (hz ▸ Fo.sub_size hpr) ps rfl (by omega) hgs hsl3 h'
          have fin : ∀ w3, Ext w2.drew w3 → ∃ m53, m53 < (Fo.cons k t mm ps r).len ∧ ∃ (pre' r' : Fo), f = pre'.app r' ∧ IntKind.i64.wrap ((pre.len : Int) + 1) = pre'.len ∧ m53 = r'.len ∧ Ext w w3 ∧ printF pre ++ ([60] ++ tagF k ++ valF k t mm) ++ [62] ++ printF ps ++ [60, 47] ++ tagF k ++ [62] = printF pre' := fun w3 he3 =>
            ⟨r.len, by simp, _, r, e1, i1, rfl, ext_trans hE3 he3, by rw [p1, nodeF, if_neg hk1, if_pos (by simpa using hp)]; simp⟩
          unfold drw
          refine ⟨by simp only [List.length_append, List.length_cons, List.length_nil]; omega, by simp only [List.length_append, List.length_cons, List.length_nil]; omega, a', ps.len, c', d3, ?_⟩
          refine ⟨?_, ⟨?_, ⟨k, d0, ?_, trivial⟩, trivial⟩, trivial⟩
          · exact sub fun w3 he3 => ⟨_, rfl, by simp only [List.length_append, List.length_cons, List.length_nil]; omega, by simp only [List.length_append, List.length_cons, List.length_nil]; omega, k, (blk4 (hB3.ext he3)).1, name_spec k hok.1 hok.2.1 fun w4 he4 => ⟨_, rfl, by simp only [List.length_append, List.length_cons, List.length_nil]; omega, by simp only [List.length_append, List.length_cons, List.length_nil]; omega, fin _ (ext_trans he3 he4)⟩, trivial⟩
          · exact sub fun w3 he3 => ⟨_, rfl, by simp only [List.length_append, List.length_cons, List.length_nil]; omega, by simp only [List.length_append, List.length_cons, List.length_nil]; omega, k, (blk4 (hB3.ext he3)).1, name_spec k hok.1 hok.2.1 fun w4 he4 => ⟨_, rfl, by simp only [List.length_append, List.length_cons, List.length_nil]; omega, by simp only [List.length_append, List.length_cons, List.length_nil]; omega, fin _ (ext_trans he3 he4)⟩, trivial⟩
          · exact sub fun w3 he3 => ⟨_, rfl, by simp only [List.length_append, List.length_cons, List.length_nil]; omega, by simp only [List.length_append, List.length_cons, List.length_nil]; omega, name_spec k hok.1 hok.2.1 fun w4 he4 => ⟨_, rfl, by simp only [List.length_append, List.length_cons, List.length_nil]; omega, by simp only [List.length_append, List.length_cons, List.length_nil]; omega, fin _ (ext_trans he3 he4)⟩, trivial⟩
      refine ⟨k, c0', numbers_spec k ⟨_, rfl, br_cases (fun hnu => ?_) (fun hnu => ?_)⟩⟩
      · have htx : textsF k = false := by
          cases htx : textsF k with
          | false => rfl
          | true => rw [nums_texts htx] at hnu; cases hnu
        have hr := hok.2.2.1 hnu
        have e : valF k t mm = 32 :: Lib.decDigits mm.toNat := by unfold valF; rw [htx, hnu]; rfl
        rw [htx]
        rw [e] at k28
        have hdl := decDigits_len mm.toNat (by omega)
        refine ⟨by simp; omega, mm, c2', ?_⟩
        have hmm : mm = ((mm.toNat : Nat) : Int) := by omega
        rw [hmm]
        refine (Tryz.strconv_Itoa_small mm.toNat (by omega) _).mono ?_
        rintro _ _ ⟨rfl, rfl⟩
        refine ⟨_, rfl, by simp; omega, ?_⟩
        simpa using k28
      · have e : valF k t mm = if textsF k then 32 :: t else [] := by unfold valF; rw [hnu]; simp
        rw [e] at k28; exact k28
    refine ⟨k, c0', texts_spec k ⟨_, rfl, br_cases (fun htx => ?_) (fun htx => ?_)⟩⟩
    · rw [htx] at k25
      refine ⟨by simp; omega, t, c1', by simp; omega, ?_⟩
      simpa using k25
    · rw [htx] at k25
      simpa using k25
  · obtain ⟨rfl, rfl⟩ := Fo.last hpr (by omega)
    exact h _ he
end Go.Proofs
namespace Go.Proofs
open Go Go.Sh Go.RowKit

def checkT (f : Fo) : Int := if f.size ≤ 4096 ∧ f.depth ≤ 16 then (if allF f false false ≠ 0 then allF f false false else if 65536 < (printF f).length then 4 else 0) else 4
theorem Check10_spec {S : Nat → Prop} (f : Fo) {R : Ending → World → Prop} {w : World} {a : Option Addr} {n c : Nat} (hf : SlF S w a n f)
    (h : ∀ w', Ext w w' → R (.returned (.int .i64 (checkT f))) w') : Calls Tryz.prog F_ref10_Check ⟨[.slice a n c]⟩ w R := by
  apply c_ref10_Check
  unfold checkT at h
  refine size10_spec f 16 4096 (by omega) (by omega) hf fun w1 he1 => ?_
  by_cases h1 : f.size ≤ 4096 ∧ f.depth ≤ 16
  · rw [if_pos h1] at h
    rw [szF, if_pos h1]
    refine ⟨_, _, _, rfl, all_spec f false (by unfold small; omega) (hf.ext he1) fun w2 he2 => ⟨_, rfl, ?_⟩⟩
    have hE := ext_trans he1 he2
    refine br_split (fun h2 => ?_) (fun h2 => ?_)
    · rw [if_pos h2] at h; exact h _ hE
    · rw [if_neg h2] at h
      have hg := all_good f _ _ (Decidable.not_not.1 h2)
      refine print_spec f (by omega) hg (hf.ext hE) fun w3 he3 => ⟨_, rfl, ?_⟩
      have hE3 := ext_trans hE he3
      refine br_split (fun h3 => ?_) (fun h3 => ?_)
      · rw [if_pos (by omega)] at h; exact h _ hE3
      · rw [if_neg (by omega)] at h; exact h _ hE3
  · rw [if_neg h1] at h
    rw [szF, if_neg h1]
    exact ⟨_, _, _, rfl, h _ he1⟩

/- the table of the forms -/
def formsCells : List Value := [.string ⟨⟨[]⟩⟩, .bool false, .bool false, .bool false, .string ⟨⟨[]⟩⟩, .bool true, .bool false, .bool false, .string ⟨⟨[108, 98]⟩⟩, .bool false, .bool false, .bool false,
  .string ⟨⟨[112, 98]⟩⟩, .bool true, .bool false, .bool false, .string ⟨⟨[115, 101, 99]⟩⟩, .bool true, .bool false, .bool false, .string ⟨⟨[118]⟩⟩, .bool false, .bool false, .bool false,
  .string ⟨⟨[103, 97, 112]⟩⟩, .bool false, .bool true, .bool false, .string ⟨⟨[117, 110, 99, 108, 101, 97, 114]⟩⟩, .bool false, .bool false, .bool true, .string ⟨⟨[97, 100, 100]⟩⟩, .bool false, .bool true, .bool true,
  .string ⟨⟨[100, 101, 108]⟩⟩, .bool false, .bool true, .bool true, .string ⟨⟨[97, 98]⟩⟩, .bool true, .bool false, .bool true, .string ⟨⟨[110, 97, 109, 101]⟩⟩, .bool true, .bool false, .bool true]
def Forms (w : World) : Prop := 0 < w.heap.size ∧ ∀ j v, formsCells[j]? = some v → w.cell? ⟨0, j, none⟩ = some v
theorem Forms.keep {w w' : World} (h : Forms w) (he : w'.heap[0]? = w.heap[0]?) (hz : w.heap.size ≤ w'.heap.size) : Forms w' := by
  refine ⟨Nat.lt_of_lt_of_le h.1 hz, fun j v hj => ?_⟩
  have := h.2 j v hj
  unfold World.cell? at this ⊢
  rw [he]; exact this
theorem Forms.ext {w w' : World} (h : Forms w) (he : Ext w w') : Forms w' := h.keep (he.block 0 h.1) he.size
theorem Forms.chg {S : Nat → Prop} {w w' : World} (h : Forms w) (he : Chg S w w') (hS : ¬ S 0) : Forms w' := h.keep (he.block 0 h.1 hS) he.size
theorem Forms.get {w : World} (h : Forms w) {k : Int} (h1 : 1 ≤ k) (h2 : k ≤ 11) :
    ∃ q, (∀ K : Addr → Prop, K q → idx (some ⟨0, 0, none⟩) 12 k 4 K) ∧ w.cell? (q.add 0) = some (.string ⟨⟨tagF k⟩⟩) ∧ w.cell? (q.add 1) = some (.bool (textsF k)) ∧ w.cell? (q.add 2) = some (.bool (numsF k)) ∧ w.cell? (q.add 3) = some (.bool (partsF k)) := by
  refine ⟨⟨0, k.toNat * 4, none⟩, fun K hK => ⟨by omega, by omega, ?_⟩, ?_⟩
  · show K _
    rw [add_none, Nat.zero_add]; exact hK
  · simp only [add_none]
    rcases kind_cases h1 h2 with rfl | rfl | rfl | rfl | rfl | rfl | rfl | rfl | rfl | rfl | rfl <;>
      exact ⟨h.2 _ _ rfl, h.2 _ _ rfl, h.2 _ _ rfl, h.2 _ _ rfl⟩
end Go.Proofs
namespace Go.Proofs
open Go Go.Sh Go.RowKit

def c8 (k : Int) (t : List UInt8) (n : Int) (ps : Fo) : Bool := decide ((textsF k = false ∧ t ≠ []) ∨ (numsF k = false ∧ n ≠ 0) ∨ (partsF k = false ∧ 0 < ps.len))
def c5 (k : Int) (t : List UInt8) (ps : Fo) : Bool := decide ((k = 1 ∧ t = []) ∨ (partsF k = true ∧ ps.len = 0))
def c11 (k : Int) (t : List UInt8) : Bool := decide (k = 1 ∧ checkC t ≠ 0)
def c14 (k : Int) (t : List UInt8) : Bool := decide ((k = 10 ∧ isWordF t = false) ∨ (textsF k = true ∧ k ≠ 1 ∧ k ≠ 10 ∧ isNameF t = false))
def c2 (k n : Int) : Bool := decide ((numsF k = true ∧ n < 1) ∨ (k = 6 ∧ 64 < n) ∨ (numsF k = true ∧ k ≠ 6 ∧ 8 < n))
def rightF (k : Int) (t : List UInt8) (n : Int) (ps : Fo) (before within : Bool) : Int :=
  if k < 1 ∨ 11 < k then 8 else if c8 k t n ps = true then 8 else if c5 k t ps = true then 5 else if c11 k t = true then 11 else if c14 k t = true then 14 else if c2 k n = true then 2
  else if k = 1 ∧ before = true then 10 else if k = 4 ∧ within = true then 12 else 0
theorem single_right (k : Int) (t : List UInt8) (n : Int) (ps : Fo) (before within : Bool) : singleF k t n ps before within = rightF k t n ps before within := by
  unfold rightF
  by_cases h1 : k < 1 ∨ 11 < k
  · rw [if_pos h1]; unfold singleF; rw [if_pos (by omega)]
  rw [if_neg h1]
  by_cases h3 : c8 k t n ps = true
  · rw [if_pos h3]
    unfold singleF
    rw [if_pos]
    rcases of_decide_eq_true h3 with ⟨a, b⟩ | ⟨a, b⟩ | ⟨a, b⟩
    · exact .inr (.inr (.inl ⟨b, a⟩))
    · exact .inr (.inr (.inr (.inl ⟨b, a⟩)))
    · exact .inr (.inr (.inr (.inr ⟨b, a⟩)))
  rw [if_neg h3]
  unfold singleF
  rw [if_neg]
  rotate_left
  · rintro (a | a | ⟨a, b⟩ | ⟨a, b⟩ | ⟨a, b⟩)
    · omega
    · omega
    · exact h3 (decide_eq_true (.inl ⟨b, a⟩))
    · exact h3 (decide_eq_true (.inr (.inl ⟨b, a⟩)))
    · exact h3 (decide_eq_true (.inr (.inr ⟨b, a⟩)))
  by_cases h4 : c5 k t ps = true
  · rw [if_pos h4, if_pos (of_decide_eq_true h4)]
  rw [if_neg h4, if_neg (fun hh => h4 (decide_eq_true hh))]
  unfold c11 c14 c2
  rcases kind_cases (k := k) (by omega) (by omega) with rfl | rfl | rfl | rfl | rfl | rfl | rfl | rfl | rfl | rfl | rfl <;> simp [textsF, numsF]

theorem right_tr_spec {R : Ending → World → Prop} {w : World} (hF : Forms w) (k : Int) (t : List UInt8) (n : Int) (a : Option Addr) (c : Nat) (ps : Fo) (d : Nat) (before : Bool)
    (h : ∀ w', Ext w w' → R (.returned (.int .i64 (singleF k t n ps before (decide (0 < d))))) w') :
    Calls Tryz.prog F_transcript_right ⟨[.agg ⟨[.int .i64 k, .string ⟨⟨t⟩⟩, .int .i64 n, .slice a ps.len c, .int .i64 (d : Int), .bool before]⟩]⟩ w R := by
  apply c_transcript_right
  rw [single_right] at h
  unfold rightF at h
  refine al_intro fun b0 w1 hb0 hB0 e1 _ => ?_
  have p0 : ∀ {v : World}, Blk v b0 [.int .i64 k, .string ⟨⟨t⟩⟩, .int .i64 n, .slice a ps.len c, .int .i64 (d : Int), .bool before] 65 → ∀ j, v.cell? (((⟨b0, 0, none⟩ : Addr).add 0).add j) = [Value.int .i64 k, .string ⟨⟨t⟩⟩, .int .i64 n, .slice a ps.len c, .int .i64 (d : Int), .bool before][j]? :=
    fun hB j => by rw [add_none, add_none, hB.cell]; simp
  refine ⟨k, p0 hB0 0, t, p0 hB0 1, n, p0 hB0 2, a, ps.len, c, p0 hB0 3, ?_⟩
  refine al_stL (by simp) (by intro u hu; simp only [List.mem_cons, List.not_mem_nil, or_false] at hu; rcases hu with rfl | rfl | rfl | rfl <;> rfl) fun b1 w2 hb1 hB1 e2 _ => ?_
  have E2 := ext_trans e1 e2
  obtain ⟨x0, x1, x2, x3⟩ := blk4 hB1
  intro K16 hK16
  have k16 : 1 ≤ k → k ≤ 11 → K16 w2 := by
    intro hk1 hk2
    rw [if_neg (by omega)] at h
    refine hK16 _ fun _ => ⟨k, x0, ?_⟩
    obtain ⟨q, hq, f0, f1, f2, f3⟩ := (hF.ext E2).get hk1 hk2
    refine hq _ ⟨_, f0, _, f1, _, f2, _, f3, ?_⟩
    refine al_stL (by simp) (by intro u hu; simp only [List.mem_cons, List.not_mem_nil, or_false] at hu; rcases hu with rfl | rfl | rfl | rfl <;> rfl) fun b2 v hb2 hB2 e3 _ => ?_
    have E3 := ext_trans E2 e3
    have hX := hB1.ext e3
    have hP := (hB0.ext e2).ext e3
    have X : ∀ {v' : World}, Ext v v' → ∀ j, v'.cell? ((⟨b1, 0, none⟩ : Addr).add j) = [Value.int .i64 k, .string ⟨⟨t⟩⟩, .int .i64 n, .slice a ps.len c][j]? := fun he j => by rw [add_none, (hX.ext he).cell]; simp
    have F : ∀ {v' : World}, Ext v v' → ∀ j, v'.cell? ((⟨b2, 0, none⟩ : Addr).add j) = [Value.string ⟨⟨tagF k⟩⟩, .bool (textsF k), .bool (numsF k), .bool (partsF k)][j]? := fun he j => by rw [add_none, (hB2.ext he).cell]; simp
    have Pl : ∀ {v' : World}, Ext v v' → ∀ j, v'.cell? ((⟨b0, 0, none⟩ : Addr).add j) = [Value.int .i64 k, .string ⟨⟨t⟩⟩, .int .i64 n, .slice a ps.len c, .int .i64 (d : Int), .bool before][j]? := fun he j => by rw [add_none, (hP.ext he).cell]; simp
    have r0 := Below.refl v.heap.size v
    refine ⟨k, X r0 0, ?_⟩
    intro K28 hK28
    have k28 : ∀ g, g = c8 k t n ps → K28 g v := by
      rintro _ rfl
      refine hK28 _ _ fun _ => br_cases (fun g8 => by rw [if_pos g8] at h; exact h _ E3) (fun g8 => ?_)
      rw [if_neg (by simp [g8])] at h
      intro K31 hK31
      have k31 : ∀ g, g = c5 k t ps → K31 g v := by
        rintro _ rfl
        refine hK31 _ _ fun _ => br_cases (fun g5 => by rw [if_pos g5] at h; exact h _ E3) (fun g5 => ?_)
        rw [if_neg (by simp [g5])] at h
        intro K34 hK34
        have k34 : ∀ v1, Ext v v1 → ∀ g, g = c11 k t → K34 g v1 := by
          rintro v1 E4 _ rfl
          refine hK34 _ _ fun _ => br_cases (fun g11 => by rw [if_pos g11] at h; exact h _ (ext_trans E3 E4)) (fun g11 => ?_)
          rw [if_neg (by simp [g11])] at h
          intro K37 hK37
          have k37 : ∀ v2, Ext v v2 → ∀ g, g = c14 k t → K37 g v2 := by
            rintro v2 E5 _ rfl
            refine hK37 _ _ fun _ => br_cases (fun g14 => by rw [if_pos g14] at h; exact h _ (ext_trans E3 E5)) (fun g14 => ?_)
            rw [if_neg (by simp [g14])] at h
            intro K40 hK40
            have k40 : ∀ g, g = c2 k n → K40 g v2 := by
              rintro _ rfl
              refine hK40 _ _ fun _ => br_cases (fun g2 => by rw [if_pos g2] at h; exact h _ (ext_trans E3 E5)) (fun g2 => ?_)
              rw [if_neg (by simp [g2])] at h
              intro K43 hK43
              have k43 : ∀ g, g = decide (k = 1 ∧ before = true) → K43 g v2 := by
                rintro _ rfl
                refine hK43 _ _ fun _ => br_split (fun g10 => by rw [if_pos g10] at h; exact h _ (ext_trans E3 E5)) (fun g10 => ?_)
                rw [if_neg g10] at h
                refine ⟨k, X E5 0, br_split (fun g4 => ⟨(d : Int), Pl E5 4, br_split (fun g5 => ?_) (fun g5 => ?_)⟩) (fun g4 => ?_)⟩
                · rw [if_pos ⟨g4, decide_eq_true (by omega)⟩] at h; exact h _ (ext_trans E3 E5)
                · rw [if_neg (by simp; omega)] at h; exact h _ (ext_trans E3 E5)
                · rw [if_neg (by simp [g4])] at h; exact h _ (ext_trans E3 E5)
              refine ⟨k, X E5 0, br_split (fun g1 => ⟨before, Pl E5 5, k43 _ (by simp [g1])⟩) (fun g1 => k43 _ (by simp [g1]))⟩
            intro K50 hK50
            have k50 : ∀ g, g = decide (numsF k = true ∧ n < 1) → K50 g v2 := by
              rintro _ rfl
              refine hK50 _ _ fun _ => br_split (fun gg => by rw [decide_eq_true gg]; exact k40 _ (by unfold c2; rw [decide_eq_true (.inl gg)])) (fun gg => ?_)
              intro K53 hK53
              have k53 : ∀ g, g = decide (k = 6 ∧ 64 < n) → K53 g v2 := by
                rintro _ rfl
                refine hK53 _ _ fun _ => br_split (fun gg2 => by rw [decide_eq_true gg2]; exact k40 _ (by unfold c2; rw [decide_eq_true (.inr (.inl gg2))])) (fun gg2 => ?_)
                have ec : c2 k n = decide (numsF k = true ∧ k ≠ 6 ∧ 8 < n) := by
                  unfold c2; rw [decide_eq_decide]
                  exact ⟨fun hh => hh.elim (fun h => absurd h gg) (fun h => h.elim (fun h => absurd h gg2) id), fun hh => .inr (.inr hh)⟩
                rw [ec] at k40
                refine ⟨numsF k, F E5 2, br_cases (fun q1 => br_cases (fun q2 => ⟨n, X E5 2, k40 _ ?_⟩) (fun q2 => k40 _ ?_)) (fun q1 => k40 _ ?_)⟩
                · have : k ≠ 6 := by simpa using q2
                  simp [q1, this]
                · have : k = 6 := by simpa using q2
                  simp [this]
                · simp [q1]
              refine br_split (fun q1 => ⟨n, X E5 2, k53 _ (by simp [q1])⟩) (fun q1 => k53 _ (by simp [q1]))
            refine ⟨numsF k, F E5 2, br_cases (fun q1 => ⟨n, X E5 2, k50 _ (by simp [q1])⟩) (fun q1 => k50 _ (by simp [q1]))⟩
          intro K61 hK61
          have k61 : ∀ v2, Ext v v2 → ∀ g, g = decide (k = 10 ∧ isWordF t = false) → K61 g v2 := by
            rintro v2 E5 _ rfl
            refine hK61 _ _ fun _ => br_split (fun gg => by rw [decide_eq_true gg]; exact k37 _ E5 _ (by unfold c14; rw [decide_eq_true (.inl gg)])) (fun gg => ?_)
            have ec : c14 k t = decide (textsF k = true ∧ k ≠ 1 ∧ k ≠ 10 ∧ isNameF t = false) := by
              unfold c14; rw [decide_eq_decide]
              exact ⟨fun hh => hh.elim (fun h => absurd h gg) id, fun hh => .inr hh⟩
            rw [ec] at k37
            refine ⟨textsF k, F E5 1, br_cases (fun q1 => ⟨k, X E5 0, br_split (fun q2 => ⟨k, X E5 0, br_split (fun q3 => ⟨t, X E5 1, IsName_spec t ⟨_, rfl, k37 _ E5 _ ?_⟩⟩) (fun q3 => k37 _ E5 _ ?_)⟩) (fun q2 => k37 _ E5 _ ?_)⟩) (fun q1 => k37 _ E5 _ ?_)⟩
            · simp [q1, q2, q3]
            · simp [Decidable.not_not.1 q3]
            · simp [Decidable.not_not.1 q2]
            · simp [q1]
          refine ⟨k, X E4 0, br_split (fun q1 => ⟨t, X E4 1, IsWord_spec t fun v2 E5 => ⟨_, rfl, k61 _ (ext_trans E4 E5) _ (by simp [q1])⟩⟩) (fun q1 => k61 _ E4 _ (by simp [q1]))⟩
        refine ⟨k, X r0 0, br_split (fun q1 => ⟨t, X r0 1, Check_spec t fun v2 E5 => ⟨_, rfl, k34 _ E5 _ (by unfold c11; simp [q1])⟩⟩) (fun q1 => k34 _ r0 _ (by unfold c11; simp [q1]))⟩
      have tail : ¬ (k = 1 ∧ t = []) → (∃ (x85 : Bool), World.cell? v ((⟨b2, 0, none⟩ : Addr).add 3) = some (.bool x85) ∧ (br x85 (∃ (x86 : Option Addr) (x86n : Nat) (x86c : Nat), World.cell? v ((⟨b1, 0, none⟩ : Addr).add 3) = some (.slice x86 x86n x86c) ∧ (K31 (decide ((((x86n : Int)) : Int) = 0)) v)) (K31 false v))) := by
        intro hno
        have ec : c5 k t ps = decide (partsF k = true ∧ ps.len = 0) := by
          unfold c5; rw [decide_eq_decide]
          exact ⟨fun hh => hh.elim (fun h => absurd h hno) id, fun hh => .inr hh⟩
        rw [ec] at k31
        exact ⟨partsF k, F r0 3, br_cases (fun q1 => ⟨a, ps.len, c, X r0 3, k31 _ (by simp [q1])⟩) (fun q1 => k31 _ (by simp [q1]))⟩
      refine ⟨k, X r0 0, br_split (fun q1 => ⟨t, X r0 1, br_split (fun q2 => k31 _ (by unfold c5; rw [decide_eq_true (.inl ⟨q1, q2⟩)])) (fun q2 => tail fun hh => q2 hh.2)⟩) (fun q1 => tail fun hh => q1 hh.1)⟩
    have t3 : ¬ (textsF k = false ∧ t ≠ []) → ¬ (numsF k = false ∧ n ≠ 0) → (∃ (x91 : Bool), World.cell? v ((⟨b2, 0, none⟩ : Addr).add 3) = some (.bool x91) ∧ (br (!x91) (∃ (x92 : Option Addr) (x92n : Nat) (x92c : Nat), World.cell? v ((⟨b1, 0, none⟩ : Addr).add 3) = some (.slice x92 x92n x92c) ∧ (K28 (decide ((0 : Int) < ((x92n : Int)))) v)) (K28 false v))) := by
      intro n1 n2
      have ec : c8 k t n ps = decide (partsF k = false ∧ 0 < ps.len) := by
        unfold c8; rw [decide_eq_decide]
        exact ⟨fun hh => hh.elim (fun h => absurd h n1) (fun h => h.elim (fun h => absurd h n2) id), fun hh => .inr (.inr hh)⟩
      rw [ec] at k28
      refine ⟨partsF k, F r0 3, br_cases (fun q1 => ⟨a, ps.len, c, X r0 3, k28 _ ?_⟩) (fun q1 => k28 _ ?_)⟩
      · have : partsF k = false := by simpa using q1
        simp [this]
      · have : partsF k = true := by simpa using q1
        simp [this]
    have t2 : ¬ (textsF k = false ∧ t ≠ []) → (∃ (x89 : Bool), World.cell? v ((⟨b2, 0, none⟩ : Addr).add 2) = some (.bool x89) ∧ (br (!x89) (∃ (x90 : Int), World.cell? v ((⟨b1, 0, none⟩ : Addr).add 2) = some (.int .i64 x90) ∧ (br (decide ((x90 : Int) ≠ 0)) (K28 true v) (∃ (x91 : Bool), World.cell? v ((⟨b2, 0, none⟩ : Addr).add 3) = some (.bool x91) ∧ (br (!x91) (∃ (x92 : Option Addr) (x92n : Nat) (x92c : Nat), World.cell? v ((⟨b1, 0, none⟩ : Addr).add 3) = some (.slice x92 x92n x92c) ∧ (K28 (decide ((0 : Int) < ((x92n : Int)))) v)) (K28 false v))))) (∃ (x93 : Bool), World.cell? v ((⟨b2, 0, none⟩ : Addr).add 3) = some (.bool x93) ∧ (br (!x93) (∃ (x94 : Option Addr) (x94n : Nat) (x94c : Nat), World.cell? v ((⟨b1, 0, none⟩ : Addr).add 3) = some (.slice x94 x94n x94c) ∧ (K28 (decide ((0 : Int) < ((x94n : Int)))) v)) (K28 false v))))) := by
      intro n1
      refine ⟨numsF k, F r0 2, br_cases (fun q1 => ⟨n, X r0 2, br_split (fun q2 => k28 _ ?_) (fun q2 => t3 n1 fun hh => q2 hh.2)⟩) (fun q1 => t3 n1 fun hh => ?_)⟩
      · unfold c8; rw [decide_eq_true (.inr (.inl ⟨by simpa using q1, q2⟩))]
      · rw [hh.1] at q1; cases q1
    refine ⟨textsF k, F r0 1, br_cases (fun q1 => ⟨t, X r0 1, br_split (fun q2 => k28 _ ?_) (fun q2 => t2 fun hh => q2 hh.2)⟩) (fun q1 => t2 fun hh => ?_)⟩
    · unfold c8; rw [decide_eq_true (.inl ⟨by simpa using q1, q2⟩)]
    · rw [hh.1] at q1; cases q1
  refine ⟨k, x0, br_split (fun q1 => ?_) (fun q1 => ⟨k, x0, br_split (fun q2 => ?_) (fun q2 => k16 (by omega) (by omega))⟩)⟩
  · rw [if_pos (.inl q1)] at h; exact h _ E2
  · rw [if_pos (.inr q2)] at h; exact h _ E2
end Go.Proofs
namespace Go.Proofs
open Go Go.Sh Go.RowKit

structure Pl where
  k : Int
  t : List UInt8
  n : Int
  ps : Fo
  d : Nat
  b : Bool
def placesF : Fo → Nat → Bool → List Pl
  | .nil, _, _ => []
  | .cons k t n ps r, d, b => ⟨k, t, n, ps, d, b⟩ :: ((if d ≤ 16 then placesF ps (d + 1) false else []) ++ placesF r d (decide (k = 1)))
def PlE (T : Nat → Prop) (w0 : World) (x : Pl) (vs : List Value) : Prop :=
  ∃ a c, vs = [.agg ⟨[.int .i64 x.k, .string ⟨⟨x.t⟩⟩, .int .i64 x.n, .slice a x.ps.len c, .int .i64 (x.d : Int), .bool x.b]⟩] ∧ SlF T w0 a x.ps.len x.ps

theorem chg_of_upd {S : Nat → Prop} {A B : World} (h : Chg S A B) {b : Nat} {cs : List Value} {T : TypeId} (hb : Blk A b cs T) (hs : ¬ S b) : Blk B b cs T := h.blk hb hs

theorem places_walk {yf : Fn} {ya yb : Array Value} {S T : Nat → Prop} {J : List Pl → World → Prop} {Jx : World → Prop} {w0 : World} {xs : List Pl} {ty tw : Nat}
    (hS : ∀ k, S k → k < w0.heap.size ∧ ¬ T k)
    (hJ : ∀ pre W W', J pre W → Chg (fun k => w0.heap.size ≤ k) W W' → J pre W')
    (hbody : ∀ pre x vs W, PlE T w0 x vs → pre ++ [x] <+: xs → w0.heap.size ≤ W.heap.size → J pre W → CallV Tryz.prog (.func yf ya yb) vs W fun e W' => Chg S W W' ∧ ((e = .returned (.bool true) ∧ J (pre ++ [x]) W') ∨ (e = .returned (.bool false) ∧ Jx W')))
    (hty : w0.heap.size ≤ ty) (htw : w0.heap.size ≤ tw) :
    ∀ (f : Fo) {R : Ending → World → Prop} {w : World} {a : Option Addr} {n c : Nat} (d : Nat) (pre : List Pl), small f → d ≤ 17 → SlF T w0 a n f → Chg (fun k => S k ∨ w0.heap.size ≤ k) w0 w → Blk w ty [.func yf ya yb] 99 → Blk w tw [.func (.func 75) ⟨[]⟩ ⟨[.pointer (some ⟨ty, 0, none⟩), .pointer (some ⟨tw, 0, none⟩)]⟩] 79 →
      pre ++ placesF f d false <+: xs → J pre w → (∀ W', Chg S w W' → J (pre ++ placesF f d false) W' → R (.returned (.bool true)) W') → (∀ W', Chg S w W' → Jx W' → R (.returned (.bool false)) W') →
      Calls Tryz.prog F_transcript_places_1_1 ⟨[.slice a n c, .int .i64 (d : Int), .pointer (some ⟨ty, 0, none⟩), .pointer (some ⟨tw, 0, none⟩)]⟩ w R := by
  intro f
  induction hz : f.size using Nat.strongRecOn generalizing f with
  | _ z ih =>
  intro R w a n c d pre hs hd hf hc0 hBy hBw hpre hj hend hstop
  unfold small at hs
  apply c_transcript_places_1_1
  have hn := hf.1
  have hfl := f.len_le_size
  have nS : ∀ k, w0.heap.size ≤ k → ¬ S k := fun k hk h => by have := (hS k h).1; omega
  refine ⟨fun tx i W m => ∃ (p r : Fo) (ps : List Pl), f = p.app r ∧ i = p.len ∧ m = r.len ∧ Chg S w W ∧ J ps W ∧ pre ++ placesF f d false = ps ++ placesF r d tx, ⟨_, .nil, f, pre, rfl, rfl, rfl, Chg.refl _ _, hj, rfl⟩, ?_⟩
  rintro b _ W m ⟨p, r, xs', hpr, rfl, rfl, hcW, hjW, heq⟩ _
  refine br_split (fun hlt => ?_) (fun hge => ?_)
  · obtain ⟨k, t, mm, ps, r, rfl⟩ := Fo.next hpr (by omega)
    have hsl := Fo.sub_len hpr
    have hsz := Fo.sub_size hpr
    have e1 : f = (p.app (.one k t mm ps)).app r := by rw [Fo.app_one_app]; exact hpr
    have i1 : IntKind.i64.wrap ((p.len : Int) + 1) = ((p.app (.one k t mm ps)).len : Int) := by rw [wrap_nat (by omega)]; simp [Fo.one]
    have hc0W : Chg (fun k => S k ∨ w0.heap.size ≤ k) w0 W := hc0.trans (hcW.mono fun k _ h => .inl h)
    obtain ⟨q, a', c', hq, hTq, hql, hN0⟩ := hf.get hpr
    have hN : NodeIs T W q k t mm a' c' ps := by
      have key : ∀ j, W.cell? (q.add j) = w0.cell? (q.add j) := fun j => by
        unfold World.cell?
        have : (q.add j).block = q.block := by unfold Addr.add; split <;> rfl
        rw [this, hc0W.block _ hql (fun h => h.elim (fun h => (hS _ h).2 hTq) (fun h => by omega))]
      exact ⟨(key 0).trans hN0.kind, (key 1).trans hN0.text, (key 2).trans hN0.num, (key 3).trans hN0.parts, hN0.sl.keep (fun k hk hl => ⟨hk, hc0W.block k hl fun h => h.elim (fun h => (hS _ h).2 hk) (fun h => by omega)⟩) hc0W.size⟩
    refine hq _ ⟨k, hN.kind, t, hN.text, mm, hN.num, a', ps.len, c', hN.parts, ?_⟩
    refine al_stL (by simp) (by intro u hu; simp only [List.mem_cons, List.not_mem_nil, or_false] at hu; rcases hu with rfl | rfl | rfl | rfl <;> rfl) fun bx w1 hbx hBx e2 _ => ?_
    have hszW := hc0W.size
    have hc1 : Chg S W w1 := Chg.of_ext e2
    have hcw1 := hcW.trans hc1
    obtain ⟨x0, x1, x2, x3⟩ := blk4 hBx
    have hBy1 := hcw1.blk hBy (nS _ hty)
    have hBw1 := hcw1.blk hBw (nS _ htw)
    refine dr_ok ⟨_, _, _, by rw [hBy1.cell]; rfl, k, x0, t, x1, mm, x2, a', ps.len, c', x3, ?_⟩
    have hj1 : J xs' w1 := hJ _ _ _ hjW (Chg.of_ext e2)
    rw [placesF] at heq
    have hpx : xs' ++ [⟨k, t, mm, ps, d, b⟩] <+: xs := by
      refine List.IsPrefix.trans ?_ hpre
      rw [heq]
      exact ⟨_, by rw [List.append_assoc]; rfl⟩
    refine CallV_mono (hbody xs' ⟨k, t, mm, ps, d, b⟩ _ w1 ⟨a', c', rfl, hN0.sl⟩ hpx (by have := hc1.size; omega) hj1) ?_
    rintro e w2 ⟨hc2, ⟨rfl, hj2⟩ | ⟨rfl, hjx⟩⟩
    · refine ⟨true, rfl, ?_⟩
      have hcw2 := hcw1.trans hc2
      have hBx2 := hc2.blk hBx (nS _ (by omega))
      obtain ⟨y0, y1, y2, y3⟩ := blk4 hBx2
      refine br_split (fun hd16 => ?_) (fun hd16 => ?_)
      · have hd16' : d ≤ 16 := by omega
        rw [if_pos hd16'] at heq
        have hBw2 := hcw2.blk hBw (nS _ htw)
        have hBy2 := hcw2.blk hBy (nS _ hty)
        refine dr_ok ⟨.func 75, ⟨[]⟩, ⟨[.pointer (some ⟨ty, 0, none⟩), .pointer (some ⟨tw, 0, none⟩)]⟩, by rw [hBw2.cell]; rfl, a', ps.len, c', y3, by kernel_rfl, ?_⟩
        rw [wrap_nat (by omega)]
        refine ih _ (hz ▸ hsz) ps rfl (d + 1) (xs' ++ [⟨k, t, mm, ps, d, b⟩]) (by unfold small; omega) (by omega) hN0.sl (hc0.trans (hcw2.mono fun k _ h => .inl h)) hBy2 hBw2 ?_ hj2 (fun w3 hc3 hj3 => ?_) (fun w3 hc3 hjx => ?_)
        · refine List.IsPrefix.trans ?_ hpre
          rw [heq]
          exact ⟨placesF r d (decide (k = 1)), by simp⟩
        · refine ⟨true, rfl, ?_⟩
          have hBx3 := hc3.blk hBx2 (nS _ (by omega))
          refine ⟨k, (blk4 hBx3).1, r.len, by simp, _, r, _, e1, i1, rfl, hcw2.trans hc3, hj3, ?_⟩
          rw [heq]; simp
        · exact ⟨false, rfl, hstop _ (hcw2.trans hc3) hjx⟩
      · rw [if_neg (by omega)] at heq
        refine ⟨k, y0, r.len, by simp, _, r, _, e1, i1, rfl, hcw2, hj2, ?_⟩
        rw [heq]; simp
    · exact ⟨false, rfl, hstop _ (hcw1.trans hc2) hjx⟩
  · obtain ⟨rfl, rfl⟩ := Fo.last hpr (by omega)
    have e : xs' = pre ++ placesF p d false := by rw [heq]; simp [placesF]
    rw [e] at hjW
    exact hend _ hcW hjW

theorem places_iter {T : Nat → Prop} (f : Fo) (hs : small f) {a : Option Addr} {n c : Nat} (b : Nat) (w : World) (hb : Blk w b [.slice a n c] 24) (hf : SlF T w a n f) (hbT : T b) :
    IterR Tryz.prog F_transcript_places_1 [.pointer (some ⟨b, 0, none⟩)] (placesF f 0 false) (PlE T w) T w := by
  intro yf ya yb S J Jx R hS hJ hJx hbody h0 hend hstop
  apply c_transcript_places_1
  refine al_intro fun ty w1 hty hBy e1 s1 => ?_
  refine al_intro fun tw w1' htw hBw' e2' s2' => ?_
  refine stL_one hBw' rfl fun w2 hBw hcc hss => ?_
  have e2 : Ext w1 w2 := ext_chgS e2' hcc fun k hk => by omega
  have E := ext_trans e1 e2
  refine ⟨.func 75, ⟨[]⟩, ⟨[.pointer (some ⟨ty, 0, none⟩), .pointer (some ⟨tw, 0, none⟩)]⟩, by rw [hBw.cell]; rfl, dr_ok ⟨a, n, c, by rw [((hb.ext e1).ext e2).cell]; rfl, by kernel_rfl, ?_⟩⟩
  have hz := E.size
  have hz1 := e1.size
  have hch : Chg (fun k => w.heap.size ≤ k) w w2 := Chg.of_ext E
  refine places_walk (w0 := w) (xs := placesF f 0 false) hS hJ hbody (by omega) (by omega) f 0 [] hs (by omega) hf (Chg.of_ext E) (hBy.ext e2) hBw (List.prefix_refl _) (hJ _ _ _ h0 hch) (fun W' hc hj => ?_) (fun W' hc hjx => ?_)
  · exact ⟨_, rfl, hend _ (Nat.le_trans hz hc.size) hj⟩
  · exact ⟨_, rfl, hstop _ (Nat.le_trans hz hc.size) hjx⟩

theorem places_spec {R : Ending → World → Prop} {w : World} {a : Option Addr} {n c : Nat}
    (h : ∀ b w', Blk w' b [.slice a n c] 24 → Ext w w' → b = w.heap.size → R (.returned (.func (.func F_transcript_places_1) ⟨[]⟩ ⟨[.pointer (some ⟨b, 0, none⟩)]⟩)) w') :
    Calls Tryz.prog F_transcript_places ⟨[.slice a n c]⟩ w R := by
  apply c_transcript_places
  refine al_intro fun b w' hb h1 h2 h3 => ?_
  exact h b w' h1 h2 hb
end Go.Proofs
namespace Go.Proofs
open Go Go.Sh Go.RowKit

theorem value_spec {R : Ending → World → Prop} {w : World} (hF : Forms w) (k : Int) (t : List UInt8) (n : Int) (a : Option Addr) (c : Nat) (ps : Fo) (hok : nodeOk k t n ps)
    (h : ∀ w', Ext w w' → R (.returned (.string ⟨⟨valF k t n⟩⟩)) w') : Calls Tryz.prog F_transcript_value ⟨[.agg ⟨[.int .i64 k, .string ⟨⟨t⟩⟩, .int .i64 n, .slice a ps.len c]⟩]⟩ w R := by
  apply c_transcript_value
  refine al_intro fun b w1 hb hB e1 s1 => ?_
  obtain ⟨x0, x1, x2, x3⟩ := blk4 hB
  obtain ⟨q, hq, f0, f1, f2, f3⟩ := (hF.ext e1).get hok.1 hok.2.1
  refine ⟨k, x0, hq _ ⟨_, f0, _, f1, _, f2, _, f3, ?_⟩⟩
  refine al_stL (by simp) (by intro u hu; simp only [List.mem_cons, List.not_mem_nil, or_false] at hu; rcases hu with rfl | rfl | rfl | rfl <;> rfl) fun b2 v hb2 hB2 e2 s2 => ?_
  have E := ext_trans e1 e2
  have F : ∀ j, v.cell? ((⟨b2, 0, none⟩ : Addr).add j) = [Value.string ⟨⟨tagF k⟩⟩, .bool (textsF k), .bool (numsF k), .bool (partsF k)][j]? := fun j => by rw [add_none, hB2.cell]; simp
  obtain ⟨y0, y1, y2, y3⟩ := blk4 (hB.ext e2)
  have hl := hok.2.2.2.1
  refine ⟨_, F 1, br_cases (fun g => ⟨t, y1, by simp; omega, ?_⟩) (fun g => ⟨_, F 2, br_cases (fun g2 => ⟨n, y2, ?_⟩) (fun g2 => ?_)⟩)⟩
  · have e : valF k t n = [32] ++ t := by unfold valF; rw [g]; rfl
    rw [e] at h; exact h _ E
  · have hr := hok.2.2.1 g2
    have e : valF k t n = [32] ++ Lib.decDigits n.toNat := by unfold valF; rw [g, g2]; rfl
    rw [e] at h
    have hdl := decDigits_len n.toNat (by omega)
    have hmm : n = ((n.toNat : Nat) : Int) := by omega
    rw [hmm]
    refine (Tryz.strconv_Itoa_small n.toNat (by omega) _).mono ?_
    rintro _ _ ⟨rfl, rfl⟩
    exact ⟨_, rfl, by simp; omega, h _ E⟩
  · have e : valF k t n = [] := by unfold valF; rw [g, g2]; rfl
    rw [e] at h; exact h _ E

theorem chg_then {S S' : Nat → Prop} {A B C : World} (h : Chg S A B) (k : Chg S' B C) (hs : ∀ i, i < A.heap.size → S' i → S i) : Chg S A C :=
  ⟨k.os.trans h.os, k.tape.trans h.tape, k.output.trans h.output, Nat.le_trans h.size k.size, fun i hi hn => (k.block i (Nat.lt_of_lt_of_le hi h.size) (fun hh => hn (hs i hi hh))).trans (h.block i hi hn)⟩
theorem NodeIs.chg {S T : Nat → Prop} {w w' : World} {q : Addr} {k : Int} {t : List UInt8} {n : Int} {a : Option Addr} {c : Nat} {ps : Fo} (h : NodeIs S w q k t n a c ps) (hl : q.block < w.heap.size) (hq : S q.block) (he : Chg T w w') (hd : ∀ k, S k → ¬ T k) : NodeIs S w' q k t n a c ps := by
  have key : ∀ j, w'.cell? (q.add j) = w.cell? (q.add j) := fun j => by
    unfold World.cell?
    have : (q.add j).block = q.block := by unfold Addr.add; split <;> rfl
    rw [this, he.block _ hl (hd _ hq)]
  exact ⟨(key 0).trans h.kind, (key 1).trans h.text, (key 2).trans h.num, (key 3).trans h.parts, h.sl.chg he hd⟩

theorem write_walk {b tw : Nat} : ∀ (f : Fo) {R : Ending → World → Prop} {S : Nat → Prop} {w : World} {a : Option Addr} {n c : Nat} {bo : Option Addr} {acc : List UInt8}, f.size ≤ 1000000 → good f → SlF S w a n f → Forms w → 0 < b → BldAt w b bo acc →
    (∀ k, S k → k ≠ b ∧ ¬ bk bo k) → Blk w tw [.func (.func 72) ⟨[]⟩ ⟨[.pointer (some ⟨b, 0, none⟩), .pointer (some ⟨tw, 0, none⟩)]⟩] 97 → tw ≠ b → ¬ bk bo tw → acc.length + 65600 * f.size ≤ 100000000000 →
    (∀ bo' w', BldAt w' b bo' (acc ++ printF f) → (∀ k, bk bo' k → bk bo k ∨ w.heap.size ≤ k) → Chg (fun k => k = b ∨ bk bo k) w w' → R (.returned (.tuple ⟨[]⟩)) w') →
    Calls Tryz.prog F_transcript_marked_1 ⟨[.slice a n c, .pointer (some ⟨b, 0, none⟩), .pointer (some ⟨tw, 0, none⟩)]⟩ w R := by
  intro f
  induction hz : f.size using Nat.strongRecOn generalizing f with
  | _ z ih =>
  intro R S w a n c bo acc hs hg hf0 hF hb0 hbld hSd0 hBw htwb htwo hacc h
  apply c_transcript_marked_1
  have hn := hf0.1
  have hfl := f.len_le_size
  have hf : SlF (fun k => S k ∧ k < w.heap.size) w a n f := hf0.imp fun k hk hl => ⟨hk, hl⟩
  have hblt := hbld.lt
  have htlt := hBw.lt
  refine ⟨fun i W m => ∃ (p r : Fo) (bo1 : Option Addr), f = p.app r ∧ i = p.len ∧ m = r.len ∧ BldAt W b bo1 (acc ++ printF p) ∧ (∀ k, bk bo1 k → bk bo k ∨ w.heap.size ≤ k) ∧ Chg (fun k => k = b ∨ bk bo k) w W,
    ⟨_, .nil, f, bo, rfl, rfl, rfl, by simpa [printF] using hbld, fun k hk => .inl hk, Chg.refl _ _⟩, ?_⟩
  rintro _ W m ⟨p, r, bo1, hpr, rfl, rfl, hbW, hbk1, hcW⟩ _
  refine br_split (fun hlt => ?_) (fun hge => ?_)
  · obtain ⟨k, t, mm, ps, r, rfl⟩ := Fo.next hpr (by omega)
    have hsl := Fo.sub_len hpr
    have hsz : f.size = p.size + (ps.size + r.size + 1) := by rw [hpr, Fo.size_app]; rfl
    have hgg := hg
    rw [hpr, good_app] at hgg
    obtain ⟨hgp, hok, hgs, hgr⟩ := hgg
    have l1 := printF_len p hgp
    have l2 := printF_len ps hgs
    have l3 := tagF_len hok.1 hok.2.1
    have l4 := valF_len hok
    have l5 := hok.2.2.2.1
    have e1 : f = (p.app (.one k t mm ps)).app r := by rw [Fo.app_one_app]; exact hpr
    have i1 : IntKind.i64.wrap ((p.len : Int) + 1) = ((p.app (.one k t mm ps)).len : Int) := by rw [wrap_nat (by omega)]; simp [Fo.one]
    have p1 : printF (p.app (.one k t mm ps)) = printF p ++ nodeF k t mm (printF ps) := by rw [printF_app]; simp [Fo.one, printF]
    have hSd : ∀ k, (S k ∧ k < w.heap.size) → ¬ (k = b ∨ bk bo k) := fun k hk hh => hh.elim (hSd0 k hk.1).1 (hSd0 k hk.1).2
    obtain ⟨q, a', c', hq, hSq, hql, hN⟩ := (hf.chg hcW hSd).get hpr
    refine hq _ ⟨k, hN.kind, t, hN.text, mm, hN.num, a', ps.len, c', hN.parts, ?_⟩
    refine al_stL (by simp) (by intro u hu; simp only [List.mem_cons, List.not_mem_nil, or_false] at hu; rcases hu with rfl | rfl | rfl | rfl <;> rfl) fun bx w1 hbx hBx e2 s2 => ?_
    obtain ⟨x0, x1, x2, x3⟩ := blk4 hBx
    have hbS : ∀ k, bk bo k → b < k ∧ k < w.heap.size := fun k hk => hbld.bk hk
    have n0 : ¬ (0 = b ∨ bk bo 0) := fun hh => hh.elim (fun h => by omega) (fun h => by have := (hbS _ h).1; omega)
    have hFW := hF.chg hcW n0
    obtain ⟨qf, hqf, f0, f1, f2, f3⟩ := (hFW.ext e2).get hok.1 hok.2.1
    refine ⟨k, x0, hqf _ ⟨_, f0, _, f1, _, f2, _, f3, ?_⟩⟩
    refine al_stL (by simp) (by intro u hu; simp only [List.mem_cons, List.not_mem_nil, or_false] at hu; rcases hu with rfl | rfl | rfl | rfl <;> rfl) fun bf w2 hbf hBf e3 s3 => ?_
    have E := ext_trans e2 e3
    have hwW := hcW.size
    have hEz := E.size
    have FF : ∀ {v : World}, Blk v bf [Value.string ⟨⟨tagF k⟩⟩, .bool (textsF k), .bool (numsF k), .bool (partsF k)] 94 → ∀ j, v.cell? ((⟨bf, 0, none⟩ : Addr).add j) = [Value.string ⟨⟨tagF k⟩⟩, .bool (textsF k), .bool (numsF k), .bool (partsF k)][j]? := fun hB j => by rw [add_none, hB.cell]; simp
    have hX2 := hBx.ext e3
    obtain ⟨y0, y1, y2, y3⟩ := blk4 hX2
    have hF2 := hFW.ext E
    have hb2 := hbW.ext E
    have hc2 : Chg (fun k => k = b ∨ bk bo k) w w2 := hcW.trans (Chg.of_ext E)
    have hbW1 : ∀ k, bk bo1 k → k < W.heap.size := fun k hk => (hbW.bk hk).2
    refine ⟨k, y0, br_split (fun hk1 => ?_) (fun hk1 => ?_)⟩
    · refine ⟨t, y1, WriteString_spec hb2 (by simp; omega) fun bo3 w3 hb3 hk3 hc3 => ⟨_, _, rfl, r.len, by simp, _, r, bo3, e1, i1, rfl, ?_, ?_, ?_⟩⟩
      · rw [p1, nodeF, if_pos hk1, ← List.append_assoc]; exact hb3
      · exact fun j hj => (hk3 j hj).elim (fun h => hbk1 j h) (fun h => .inr (by omega))
      · exact chg_then hc2 hc3 fun j hj hh => hh.imp id fun h => (hbk1 j h).elim id fun h => by omega
    -- the writing of the tag
    have tagW : ∀ {R' : Ending → World → Prop} {v : World} (s : List UInt8), Ext w2 v → s.length ≤ 65600 →
        (∀ bo3 w3, BldAt w3 b bo3 (acc ++ printF p ++ s) → (∀ j, bk bo3 j → bk bo1 j ∨ w2.heap.size ≤ j) → Chg (fun j => j = b ∨ bk bo1 j) w2 w3 → R' (.returned (.tuple ⟨[.int .i64 s.length, .nilIface]⟩)) w3) →
        Calls Tryz.prog 48 ⟨[.pointer (some ⟨b, 0, none⟩), .string ⟨⟨s⟩⟩]⟩ v R' := by
      intro R' v s he hl hh
      refine WriteString_spec (hb2.ext he) (by simp; omega) fun bo3 w3 hb3 hk3 hc3 => hh bo3 w3 hb3 (fun j hj => (hk3 j hj).imp id fun h => by have := he.size; omega) ?_
      exact (Chg.of_ext he).trans hc3
    refine ⟨partsF k, FF hBf 3, br_cases (fun hp => ?_) (fun hp => ?_)⟩
    · intro K34 hK34
      have k34 : ∀ bo3 w3, BldAt w3 b bo3 (acc ++ printF p ++ ([60] ++ tagF k ++ valF k t mm ++ [62])) → (∀ j, bk bo3 j → bk bo1 j ∨ w2.heap.size ≤ j) → Chg (fun j => j = b ∨ bk bo1 j) w2 w3 → K34 w3 := by
        intro bo3 w3 hb3 hk3 hc3
        have nb : ∀ {j : Nat}, b < j → W.heap.size ≤ j → ¬ (j = b ∨ bk bo1 j) := fun hj1 hj2 hh => hh.elim (fun h => by omega) (fun h => by have := hbW1 _ h; omega)
        have hX3 := hc3.blk hX2 (nb (by omega) (by omega))
        have hBf3 := hc3.blk hBf (nb (by omega) (by omega))
        have hc03 : Chg (fun k => k = b ∨ bk bo k) w w3 := chg_then hc2 hc3 fun j hj hh => hh.imp id fun h => (hbk1 j h).elim id fun h => by omega
        have hBw3 := hc03.blk hBw (fun hh => hh.elim htwb htwo)
        have bo3bo : ∀ j, bk bo3 j → bk bo j ∨ w.heap.size ≤ j := fun j hj => (hk3 j hj).elim (fun h => hbk1 j h) (fun h => .inr (by omega))
        have hz3 := hc3.size
        refine hK34 _ fun _ => dr_ok ⟨.func 72, ⟨[]⟩, ⟨[.pointer (some ⟨b, 0, none⟩), .pointer (some ⟨tw, 0, none⟩)]⟩, by rw [hBw3.cell]; rfl, a', ps.len, c', (blk4 hX3).2.2.2, by kernel_rfl, ?_⟩
        have lens : ((acc ++ printF p ++ ([60] ++ tagF k ++ valF k t mm ++ [62])).length) ≤ acc.length + 65600 * p.size + 65600 := by
          simp only [List.length_append, List.length_cons, List.length_nil]; omega
        refine ih _ (hz ▸ Fo.sub_size hpr) ps rfl (S := fun k => S k ∧ k < w.heap.size) (by omega) hgs ((hN.sl.ext E).chg hc3 fun j hj hh => hh.elim (hSd0 j hj.1).1 fun h => (hbk1 j h).elim (hSd0 j hj.1).2 fun h => by have := hj.2; omega) (hF.chg hc03 n0) hb0 hb3 ?_ hBw3 htwb ?_ (by omega) fun bo4 w4 hb4 hk4 hc4 => ⟨rfl, ?_⟩
        · exact fun j hj => ⟨(hSd0 j hj.1).1, fun hh => (bo3bo j hh).elim (hSd0 j hj.1).2 fun h => by have := hj.2; omega⟩
        · exact fun hh => (bo3bo _ hh).elim htwo fun h => by omega
        have nb3 : ¬ (bf = b ∨ bk bo3 bf) := fun hh => hh.elim (fun h => by omega) (fun h => (hk3 _ h).elim (fun h => by have := hbW1 _ h; omega) (fun h => by omega))
        have hBf4 := hc4.blk hBf3 nb3
        have hc04 : Chg (fun k => k = b ∨ bk bo k) w w4 := chg_then hc03 hc4 fun j hj hh => hh.imp id fun h => (bo3bo j h).elim id fun h => by omega
        refine ⟨tagF k, FF hBf4 0, by simp; omega, by simp; omega, ?_⟩
        refine WriteString_spec hb4 (by simp only [List.length_append, List.length_cons, List.length_nil] at lens ⊢; omega) fun bo5 w5 hb5 hk5 hc5 => ⟨_, _, rfl, r.len, by simp, _, r, bo5, e1, i1, rfl, ?_, ?_, ?_⟩
        · rw [p1, nodeF, if_neg hk1, if_pos hp]
          simpa using hb5
        · exact fun j hj => (hk5 j hj).elim (fun h => (hk4 j h).elim (fun h => bo3bo j h) fun h => .inr (by omega)) (fun h => .inr (by have := hc4.size; omega))
        · exact chg_then hc04 hc5 fun j hj hh => hh.imp id fun h => (hk4 j h).elim (fun h => (bo3bo j h).elim id fun h => by omega) fun h => by omega
      have hdr := ext_drew w2
      obtain ⟨d0, d1, d2, d3⟩ := blk4 (hX2.ext hdr)
      have Fd := FF (hBf.ext hdr)
      unfold drw
      have L : ([60] ++ tagF k ++ valF k t mm ++ [62]).length ≤ 65600 := by simp; omega
      refine ⟨⟨tagF k, Fd 0, by simp; omega, k, d0, t, d1, mm, d2, a', ps.len, c', d3, ?_, trivial⟩, ⟨k, d0, t, d1, mm, d2, a', ps.len, c', d3, ⟨tagF k, Fd 0, by simp; omega, ?_, trivial⟩, ?_, trivial⟩, trivial⟩
      · exact value_spec (hF2.ext hdr) k t mm a' c' ps hok fun v he => ⟨_, rfl, by simp; omega, by simp; omega, tagW _ (ext_trans hdr he) L fun bo3 w3 h1 h2 h3 => ⟨_, _, rfl, k34 bo3 w3 h1 h2 h3⟩, trivial⟩
      · exact value_spec (hF2.ext hdr) k t mm a' c' ps hok fun v he => ⟨_, rfl, by simp; omega, by simp; omega, tagW _ (ext_trans hdr he) L fun bo3 w3 h1 h2 h3 => ⟨_, _, rfl, k34 bo3 w3 h1 h2 h3⟩, trivial⟩
      · exact value_spec (hF2.ext hdr) k t mm a' c' ps hok fun v he => ⟨_, rfl, tagF k, FF (hBf.ext (ext_trans hdr he)) 0, by simp; omega, by simp; omega, by simp; omega, tagW _ (ext_trans hdr he) L fun bo3 w3 h1 h2 h3 => ⟨_, _, rfl, k34 bo3 w3 h1 h2 h3⟩, trivial⟩
    · have fin : ∀ bo3 w3, BldAt w3 b bo3 (acc ++ printF p ++ ([60] ++ tagF k ++ valF k t mm ++ [47, 62])) → (∀ j, bk bo3 j → bk bo1 j ∨ w2.heap.size ≤ j) → Chg (fun j => j = b ∨ bk bo1 j) w2 w3 →
          ∃ m107, m107 < (Fo.cons k t mm ps r).len ∧ ∃ (p' r' : Fo) (bo1' : Option Addr), f = p'.app r' ∧ IntKind.i64.wrap ((p.len : Int) + 1) = p'.len ∧ m107 = r'.len ∧ BldAt w3 b bo1' (acc ++ printF p') ∧ (∀ k, bk bo1' k → bk bo k ∨ w.heap.size ≤ k) ∧ Chg (fun k => k = b ∨ bk bo k) w w3 := by
        intro bo3 w3 hb3 hk3 hc3
        refine ⟨r.len, by simp, _, r, bo3, e1, i1, rfl, ?_, ?_, ?_⟩
        · rw [p1, nodeF, if_neg hk1, if_neg (by simp [hp]), ← List.append_assoc]; exact hb3
        · exact fun j hj => (hk3 j hj).elim (fun h => hbk1 j h) (fun h => .inr (by omega))
        · exact chg_then hc2 hc3 fun j hj hh => hh.imp id fun h => (hbk1 j h).elim id fun h => by omega
      have hdr := ext_drew w2
      obtain ⟨d0, d1, d2, d3⟩ := blk4 (hX2.ext hdr)
      have Fd := FF (hBf.ext hdr)
      unfold drw
      have L : ([60] ++ tagF k ++ valF k t mm ++ [47, 62]).length ≤ 65600 := by simp; omega
      refine ⟨⟨tagF k, Fd 0, by simp; omega, k, d0, t, d1, mm, d2, a', ps.len, c', d3, ?_, trivial⟩, ⟨k, d0, t, d1, mm, d2, a', ps.len, c', d3, ⟨tagF k, Fd 0, by simp; omega, ?_, trivial⟩, ?_, trivial⟩, trivial⟩
      · exact value_spec (hF2.ext hdr) k t mm a' c' ps hok fun v he => ⟨_, rfl, by simp; omega, by simp; omega, tagW _ (ext_trans hdr he) L fun bo3 w3 h1 h2 h3 => ⟨_, _, rfl, fin bo3 w3 h1 h2 h3⟩, trivial⟩
      · exact value_spec (hF2.ext hdr) k t mm a' c' ps hok fun v he => ⟨_, rfl, by simp; omega, by simp; omega, tagW _ (ext_trans hdr he) L fun bo3 w3 h1 h2 h3 => ⟨_, _, rfl, fin bo3 w3 h1 h2 h3⟩, trivial⟩
      · exact value_spec (hF2.ext hdr) k t mm a' c' ps hok fun v he => ⟨_, rfl, tagF k, FF (hBf.ext (ext_trans hdr he)) 0, by simp; omega, by simp; omega, by simp; omega, tagW _ (ext_trans hdr he) L fun bo3 w3 h1 h2 h3 => ⟨_, _, rfl, fin bo3 w3 h1 h2 h3⟩, trivial⟩
  · obtain ⟨rfl, rfl⟩ := Fo.last hpr (by omega)
    exact h bo1 W hbW hbk1 hcW
end Go.Proofs
namespace Go.Proofs
open Go Go.Sh Go.RowKit

theorem marked_spec {R : Ending → World → Prop} {S : Nat → Prop} {w : World} {a : Option Addr} {n c : Nat} (f : Fo) (hs : f.size ≤ 1000000) (hg : good f) (hf : SlF S w a n f) (hF : Forms w)
    (h : ∀ w', Ext w w' → R (.returned (.string ⟨⟨printF f⟩⟩)) w') : Calls Tryz.prog F_transcript_marked ⟨[.slice a n c]⟩ w R := by
  apply c_transcript_marked
  refine al_intro fun b w1 hb hB e1 s1 => ?_
  refine al_intro fun tw w2 htw hBw e2 s2 => ?_
  refine stL_one hBw rfl fun w3 hBw3 hc3 hs3 => ?_
  have E2 := ext_trans e1 e2
  have E3 : Ext w w3 := ext_chgS E2 hc3 fun k hk => by omega
  refine ⟨.func 72, ⟨[]⟩, ⟨[.pointer (some ⟨b, 0, none⟩), .pointer (some ⟨tw, 0, none⟩)]⟩, by rw [hBw3.cell]; rfl, by kernel_rfl, ?_⟩
  have hbld : BldAt w3 b none [] := ⟨.pointer none, 0, hc3.blk (hB.ext e2) (by omega), .inl rfl, Owns.nil _ _ _ _⟩
  have hw := hF.1
  refine write_walk f (S := fun k => S k ∧ k < w.heap.size) (acc := []) hs hg ((hf.imp fun k hk hl => ⟨hk, hl⟩).ext E3) (hF.ext E3) (by omega) hbld (fun k hk => ⟨by omega, by simp [bk]⟩) hBw3 (by omega) (by simp [bk]) (by simp; omega) fun bo w4 hb4 hk4 hc4 => ⟨rfl, ?_⟩
  refine String_spec hb4 fun w5 hbel => ⟨_, rfl, ?_⟩
  have E4 : Ext w w4 := ext_chgS E3 hc4 fun k hk => hk.elim (fun h => by omega) (fun h => by simp [bk] at h)
  exact h w5 (E4.trans (hbel.mono (by omega)))

/- the two ranges over the places -/
theorem placesF_len : ∀ (f : Fo) (d : Nat) (b : Bool), (placesF f d b).length ≤ f.size
  | .nil, _, _ => by simp [placesF, Fo.size]
  | .cons k t n ps r, d, b => by
    have h1 := placesF_len ps (d + 1) false
    have h2 := placesF_len r d (decide (k = 1))
    simp only [placesF, Fo.size, List.length_cons, List.length_append]
    split
    · omega
    · simp; omega
theorem placesF_deep : ∀ (f : Fo) (d : Nat) (b : Bool), ∀ x ∈ placesF f d b, 0 < x.ps.len → x.d + 1 ≤ d + f.depth
  | .nil, _, _, x, hx, _ => by simp [placesF] at hx
  | .cons k t n ps r, d, b, x, hx, hp => by
    rw [Fo.depth_parts]
    simp only [placesF, List.mem_cons, List.mem_append] at hx
    rcases hx with rfl | hx | hx
    · simp only at hp ⊢
      rw [if_neg (by omega)]; omega
    · split at hx
      · have := placesF_deep ps (d + 1) false x hx hp
        have : ps.len ≠ 0 := fun e => by
          have e' := Fo.eq_nil_of_len e
          subst e'
          simp [placesF] at hx
        rw [if_neg this]; omega
      · simp at hx
    · have := placesF_deep r d _ x hx hp
      omega
theorem placesF_all : ∀ (f : Fo) (d : Nat) (b : Bool), d ≤ 16 → (∀ x ∈ placesF f d b, ¬ (16 ≤ x.d ∧ 0 < x.ps.len)) → (placesF f d b).length = f.size ∧ f.depth + d ≤ 16
  | .nil, _, _, hd, _ => ⟨rfl, by simp [Fo.depth]; omega⟩
  | .cons k t n ps r, d, b, hd, h => by
    rw [Fo.depth_parts]
    simp only [placesF, if_pos hd] at h ⊢
    have h1 : ¬ (16 ≤ d ∧ 0 < ps.len) := h ⟨k, t, n, ps, d, b⟩ (by simp)
    have i2 := placesF_all r d (decide (k = 1)) hd fun x hx => h x (by simp [hx])
    by_cases hp : ps.len = 0
    · have e' := Fo.eq_nil_of_len hp
      subst e'
      simp only [placesF, List.nil_append, List.length_cons, Fo.size, Fo.len_nil, if_true]
      omega
    · have i1 := placesF_all ps (d + 1) false (by omega) fun x hx => h x (by simp [hx])
      rw [if_neg hp]
      simp only [List.length_cons, List.length_append, Fo.size]
      omega
def errP (x : Pl) : Int := singleF x.k x.t x.n x.ps x.b (decide (0 < x.d))
def errs : List Pl → Int
  | [] => 0
  | x :: l => if errP x ≠ 0 then errP x else errs l
theorem errs_app (l m : List Pl) : errs (l ++ m) = if errs l ≠ 0 then errs l else errs m := by
  induction l with
  | nil => simp [errs]
  | cons x l ih =>
    simp only [List.cons_append, errs, ih]
    by_cases h : errP x ≠ 0
    · simp [h]
    · simp [h]
theorem errs_places : ∀ (f : Fo) (d : Nat) (b : Bool), f.depth + d ≤ 16 → errs (placesF f d b) = allF f b (decide (0 < d))
  | .nil, _, _, _ => rfl
  | .cons k t n ps r, d, b, h => by
    rw [Fo.depth_parts] at h
    have i2 := errs_places r d (decide (k = 1)) (by omega)
    simp only [placesF, allF]
    rw [if_pos (by omega)]
    simp only [errs, errs_app, i2]
    by_cases hp : ps.len = 0
    · have e' := Fo.eq_nil_of_len hp
      subst e'
      simp only [placesF, errs, allF]; rfl
    · rw [if_neg hp] at h
      rw [errs_places ps (d + 1) false (by omega)]
      simp only [Nat.zero_lt_succ, decide_true]
      rfl
theorem errs_stop {pre l : List Pl} {x : Pl} (h : pre ++ [x] <+: l) (hp : errs pre = 0) (hx : errP x ≠ 0) : errs l = errP x := by
  obtain ⟨t, rfl⟩ := h
  rw [errs_app, errs_app, hp]
  simp [errs, hx]
end Go.Proofs
namespace Go.Proofs
open Go Go.Sh Go.RowKit

theorem spend_spec {R : Ending → World → Prop} {W : World} {b4 : Nat} {x : Int} (hb : Blk W b4 [.int .i64 x] 3) (hx : -9223372036854775807 ≤ x ∧ x ≤ 9223372036854775807)
    (h : ∀ W', Blk W' b4 [.int .i64 (x - 1)] 3 → Chg (· = b4) W W' → R (.returned (.bool (decide (0 ≤ x - 1)))) W') : Calls Tryz.prog F_transcript_Check_1 ⟨[.pointer (some ⟨b4, 0, none⟩)]⟩ W R := by
  apply c_transcript_Check_1
  refine dr_ok ⟨x, hb.cell 0, dr_ok ?_⟩
  rw [wrap_id (by omega)]
  exact stL_one hb rfl fun W' h1 h2 h3 => dr_ok ⟨x - 1, h1.cell 0, h W' h1 h2⟩

def thirdQ (a : Option Addr) (n c b2 : Nat) (R : Ending → World → Prop) (ds : List Deferred) (W' : World) : Prop :=
  Calls Tryz.prog 44 ⟨[.slice a n c]⟩ W' fun (e39 : Ending) (w40 : World) =>
  ∃ (x41 : List UInt8), e39 = .returned (.string ⟨⟨x41⟩⟩) ∧ (br (decide ((65536 : Int) < ((List.length x41 : Int)))) (stL w40 (⟨b2, 0, none⟩ : Addr) 0 [.int .i64 4] fun w42 =>
  retD ds w42 fun w43 =>
  ∃ (x44 : Int), World.cell? w43 (⟨b2, 0, none⟩ : Addr) = some (.int .i64 x44) ∧ (R (.returned (.int .i64 x44)) w43)) (stL w40 (⟨b2, 0, none⟩ : Addr) 0 [.int .i64 0] fun w45 =>
  retD ds w45 fun w46 =>
  ∃ (x47 : Int), World.cell? w46 (⟨b2, 0, none⟩ : Addr) = some (.int .i64 x47) ∧ (R (.returned (.int .i64 x47)) w46)))
def secondQ (a : Option Addr) (n c b2 : Nat) (R : Ending → World → Prop) (ds : List Deferred) (W : World) : Prop :=
  Calls Tryz.prog 46 ⟨[.slice a n c]⟩ W fun (e33 : Ending) (w34 : World) =>
  ∃ (x35 : Fn) (x35a : Array Value) (x35b : Array Value), e33 = .returned (.func x35 x35a x35b) ∧ (∀ base36 : Env, RFw Tryz.prog none 39 (cdAt Tryz.f17 [1, 1, 1, 1, 0, 1, 2]) (upd (upd (upd base36 28 (.func x35 x35a x35b)) 2 (.pointer (some ⟨b2, 0, none⟩))) 0 (.slice a n c)) ds w34 0
    (fun ds37 w38 => thirdQ a n c b2 R ds37 w38) (fun ds37 w38 =>
  retD ds37 w38 fun w48 =>
  ∃ (x49 : Int), World.cell? w48 (⟨b2, 0, none⟩ : Addr) = some (.int .i64 x49) ∧ (R (.returned (.int .i64 x49)) w48)) (fun _ _ => False))

set_option maxRecDepth 20000 in
theorem Check22_spec {R : Ending → World → Prop} {S : Nat → Prop} {w : World} {a : Option Addr} {n c : Nat} (f : Fo) (hs : small f) (hf0 : SlF S w a n f) (hF : Forms w)
    (h : ∀ w', Ext w w' → R (.returned (.int .i64 (checkT f))) w') : Calls Tryz.prog F_transcript_Check ⟨[.slice a n c]⟩ w R := by
  apply c_transcript_Check
  refine al_intro fun b2 w1 hb2 B2 e1 s1 => ?_
  refine al_intro fun b4 w3 hb4 B4 e3 s3 => ?_
  refine stL_one B4 rfl fun w4 B4 hc4 s4 => ?_
  refine al_intro fun b7 w5 hb7 B7 e5 s5 => ?_
  refine stL_one B7 rfl fun w6 B7 hc6 s6 => ?_
  have z1 := e1.size
  have E3 := ext_trans e1 e3
  have E4 : Ext w w4 := ext_chgS E3 hc4 fun k hk => by omega
  have E6 : Ext w w6 := ext_chgS (ext_trans E4 e5) hc6 fun k hk => by omega
  have B2 := hc6.blk ((hc4.blk (B2.ext e3) (by omega)).ext e5) (by omega)
  have B4 := hc6.blk (B4.ext e5) (by omega)
  refine places_spec fun bs w7 Bs e7 hbs => ⟨_, _, _, rfl, fun base => ?_⟩
  have E7 := ext_trans E6 e7
  have B2 := B2.ext e7
  have B4 := B4.ext e7
  have B7 := B7.ext e7
  have l2 := B2.lt
  have l4 := B4.lt
  have l7 := B7.lt
  have ls := Bs.lt
  have hf : SlF (fun k => k < w.heap.size) w a n f := hf0.imp fun k _ hl => hl
  have z6 := E6.size
  have z7 := E7.size
  have hfw7 : SlF (fun k => k < w.heap.size ∨ k = bs) w7 a n f := (hf.ext E7).imp fun k hk _ => .inl hk
  -- the second range, once the first has ended
  have second : ∀ (D : Nat) (W : World), w7.heap.size ≤ D → D < W.heap.size → W.heap[D]? = some (.deferred (some [])) → Blk W b2 [.int .i64 0] 25 → Ext w W → (f.size ≤ 4096 ∧ f.depth ≤ 16) → secondQ a n c b2 R [{ target := .collected D, args := #[] }] W := by
    intro D W hD1 hD2 hD3 B2 EW hok
    have hfW := hf.ext EW
    have hck : checkT f = if allF f false false ≠ 0 then allF f false false else if 65536 < (printF f).length then 4 else 0 := by unfold checkT; rw [if_pos hok]
    have her := errs_places f 0 false (by omega)
    simp only [Nat.lt_irrefl, decide_false] at her
    rw [hck, ← her] at h
    refine places_spec fun bt v Bt ev hbt => ⟨_, _, _, rfl, fun base => ?_⟩
    have EV := ext_trans EW ev
    have zv := ev.size
    have zW := EW.size
    have l2 := B2.lt
    have hwz := E7.size
    rw [cd_transcript_Check_2]
    have lt := Bt.lt
    have hD4 : v.heap[D]? = some (.deferred (some [])) := (ev.block D hD2).trans hD3
    refine RFw_lawR anA_transcript_Check_2 anB_transcript_Check_2 (gf := F_transcript_places_1) rfl (by kernel_rfl) (xs := placesF f 0 false) (E := PlE (fun k => k < w.heap.size ∨ k = bt) v) (Rd := fun k => k < w.heap.size ∨ k = bt)
      (fun v1 he => (places_iter f hs bt v1 (Bt.ext he) ((hf.ext (ext_trans EV he)).imp fun k hk _ => .inl hk) (.inr rfl)).mono ?_) (fun y vs hE => by obtain ⟨a', c', rfl, _⟩ := hE; rfl) (by decide) (fun k hk => by omega) (· = b2) (fun k hk => by omega)
      (fun pre W' => Blk W' b2 [.int .i64 0] 25 ∧ errs pre = 0 ∧ Ext w W' ∧ W'.heap[D]? = some (.deferred (some []))) (fun W' => Blk W' b2 [.int .i64 (errs (placesF f 0 false))] 25 ∧ errs (placesF f 0 false) ≠ 0 ∧ Ext w W' ∧ W'.heap[D]? = some (.deferred (some []))) (fun _ => False)
      ?_ ?_ (fun _ _ h => h.elim) ⟨B2.ext ev, rfl, EV, hD4⟩ ?_ ?_ ?_ (fun _ _ _ _ _ h => h.elim)
    · rintro x vs ⟨a', c', rfl, hsl⟩
      exact ⟨a', c', rfl, hsl.keep' fun k hk hl => ⟨hk, by omega, ((he.block k (by omega))).symm⟩⟩
    · rintro pre W1 W2 ⟨g1, g2, g3, g4⟩ hc
      exact ⟨hc.blk g1 (by omega), g2, ext_chg g3 hc (by omega), (hc.block D (Array.getElem?_eq_some_iff.1 g4).1 (by omega)).trans g4⟩
    · rintro W1 W2 ⟨g1, g2, g3, g4⟩ hc
      exact ⟨hc.blk g1 (by omega), g2, ext_chg g3 hc (by omega), (hc.block D (Array.getElem?_eq_some_iff.1 g4).1 (by omega)).trans g4⟩
    · rintro pre ⟨k, t, m, ps, d, b⟩ vs W1 l ⟨a', c', rfl, hsl⟩ hpre hl1 hl2 ⟨g1, g2, g3, g4⟩
      refine Eq.mpr (er_transcript_Check_2 base _ _ _ _ _ _ _ _ _ _ _ _ _ _ _ _ _ _ _ _) ?_
      refine al_stL (by simp) (by intro u hu; simp only [List.mem_cons, List.not_mem_nil, or_false] at hu; rcases hu with rfl | rfl | rfl | rfl | rfl | rfl <;> rfl) fun bp W2 hbp Bp ep sp => ?_
      refine ⟨ep, fun W3 hU => ?_⟩
      have Bp3 := upd_blk hU Bp (by omega)
      have P3 : ∀ j, W3.cell? ((⟨bp, 0, none⟩ : Addr).add j) = [Value.int .i64 k, .string ⟨⟨t⟩⟩, .int .i64 m, .slice a' ps.len c', .int .i64 (d : Int), .bool b][j]? := fun j => by rw [add_none, Bp3.cell]; simp
      have E3 : Ext w W3 := ext_chg (ext_trans g3 ep) (upd_chg hU (Nat.le_refl l)) (by omega)
      have zz := ep.size
      have hD5 : W3.heap[D]? = some (.deferred (some [])) := by
        rw [hU.block D (by omega), ep.block D (Array.getElem?_eq_some_iff.1 g4).1]; exact g4
      have g1' := upd_blk hU (g1.ext ep) (by omega)
      refine ⟨k, P3 0, t, P3 1, m, P3 2, a', ps.len, c', P3 3, d, P3 4, b, P3 5, right_tr_spec (hF.ext E3) k t m a' c' ps d b fun W4 e4 => ⟨_, rfl, br_split (fun q => ?_) (fun q => ?_)⟩⟩
      · have hes := errs_stop hpre g2 (x := ⟨k, t, m, ps, d, b⟩) q
        refine dr_ok (stL_one (g1'.ext e4) rfl fun W5 q1 q2 q3 => ?_)
        have l2' := (g1'.ext e4).lt
        refine ⟨(Chg.of_ext e4).trans q2, ?_, ?_, ext_chgS (ext_trans E3 e4) q2 fun k hk => by omega, ?_⟩
        · rw [hes]; exact q1
        · rw [hes]; exact q
        · exact (q2.block D (Nat.lt_of_lt_of_le (Array.getElem?_eq_some_iff.1 hD5).1 e4.size) (by omega)).trans ((e4.block D (Array.getElem?_eq_some_iff.1 hD5).1).trans hD5)
      · refine ⟨Chg.of_ext e4, g1'.ext e4, ?_, ext_trans E3 e4, (e4.block D (Array.getElem?_eq_some_iff.1 hD5).1).trans hD5⟩
        rw [errs_app, g2]
        simp only [errs, ne_eq, not_true, if_false]
        exact if_neg (fun hh => q hh)
    · rintro D' W1 hD1' hD2' hD3' ⟨g1, g2, g3, g4⟩
      rw [g2] at h
      simp only [ne_eq, not_true, if_false] at h
      have hgood : good f := all_good f _ _ (by rw [← her]; exact g2)
      refine marked_spec f (by omega) hgood (hf.ext g3) (hF.ext g3) fun W2 e2 => ⟨_, rfl, ?_⟩
      have hne : D ≠ D' := by omega
      have tl : ∀ x : Int, checkT f = x → (stL W2 (⟨b2, 0, none⟩ : Addr) 0 [.int .i64 x] fun w42 =>
          retD [{ target := .collected D', args := #[] }, { target := .collected D, args := #[] }] w42 fun w43 => ∃ (x44 : Int), World.cell? w43 (⟨b2, 0, none⟩ : Addr) = some (.int .i64 x44) ∧ (R (.returned (.int .i64 x44)) w43)) := by
        intro x hx
        refine stL_one (g1.ext e2) rfl fun W3 q1 q2 q3 => ?_
        have l2' := (g1.ext e2).lt
        have dl := (Array.getElem?_eq_some_iff.1 g4).1
        have dl' := (Array.getElem?_eq_some_iff.1 hD3').1
        have z2 := e2.size
        have d1 : W3.heap[D']? = some (.deferred (some [])) := (q2.block D' (by omega) (by omega)).trans ((e2.block D' dl').trans hD3')
        have d2 : W3.heap[D]? = some (.deferred (some [])) := (q2.block D (by omega) (by omega)).trans ((e2.block D dl).trans g4)
        refine ⟨D', rfl, d1, ?_⟩
        refine retD_one ((World.putObj_heap_other hne).trans d2) ⟨x, (blk_put (blk_put q1 (by omega) _) (by omega) _).cell 0, ?_⟩
        have := h _ (ext_put (ext_put (ext_chgS (ext_trans g3 e2) q2 fun k hk => by omega) (D := D') (by omega) (.deferred none)) (D := D) (by omega) (.deferred none))
        rw [hck, if_neg (by rw [← her, g2]; simp)] at hx
        rw [hx] at this
        exact this
      refine br_split (fun q => tl 4 ?_) (fun q => tl 0 ?_)
      · rw [hck, ← her, g2]; simp only [ne_eq, not_true, if_false]; rw [if_pos (by omega)]
      · rw [hck, ← her, g2]; simp only [ne_eq, not_true, if_false]; rw [if_neg (by omega)]
    · rintro D' W1 hD1' hD2' hD3' ⟨g1, g2, g3, g4⟩
      rw [if_pos g2] at h
      have hne : D ≠ D' := by omega
      refine ⟨D', rfl, hD3', ?_⟩
      refine retD_one ((World.putObj_heap_other hne).trans g4) ⟨_, (blk_put (blk_put g1 (by omega) _) (by omega) _).cell 0, ?_⟩
      exact h _ (ext_put (ext_put g3 (D := D') (by omega) (.deferred none)) (D := D) (by omega) (.deferred none))
  rw [cd_transcript_Check_1]
  refine RFw_lawR anA_transcript_Check_1 anB_transcript_Check_1 (gf := F_transcript_places_1) rfl (by kernel_rfl) (xs := placesF f 0 false) (E := PlE (fun k => k < w.heap.size ∨ k = bs) w7) (Rd := fun k => k < w.heap.size ∨ k = bs)
    (fun v1 he => (places_iter f hs bs v1 (Bs.ext he) ((hf.ext (ext_trans E7 he)).imp fun k hk _ => .inl hk) (.inr rfl)).mono ?_) (fun y vs hE => by obtain ⟨a', c', rfl, _⟩ := hE; rfl) (by decide) (fun k hk => by omega) (fun k => k = b2 ∨ k = b4) (fun k hk => by omega)
    (fun pre W' => Blk W' b2 [.int .i64 0] 25 ∧ Blk W' b4 [.int .i64 (4096 - (pre.length : Int))] 3 ∧ Blk W' b7 [.func (.func 45) ⟨[]⟩ ⟨[.pointer (some ⟨b4, 0, none⟩)]⟩] 23 ∧ pre.length ≤ 4096 ∧ (∀ x ∈ pre, ¬ (16 ≤ x.d ∧ 0 < x.ps.len)) ∧ Ext w W')
    (fun W' => Blk W' b2 [.int .i64 4] 25 ∧ ¬ (f.size ≤ 4096 ∧ f.depth ≤ 16) ∧ Ext w W') (fun _ => False)
    ?_ ?_ (fun _ _ h => h.elim) ⟨B2, (by simpa using B4), B7, by simp, by simp, E7⟩ ?_ ?_ ?_ (fun _ _ _ _ _ h => h.elim)
  · rintro x vs ⟨a', c', rfl, hsl⟩
    exact ⟨a', c', rfl, hsl.keep' fun k hk hl => ⟨hk, by omega, ((he.block k (by omega))).symm⟩⟩
  · rintro pre W1 W2 ⟨g1, g2, g3, g4, g5, g6⟩ hc
    exact ⟨hc.blk g1 (by omega), hc.blk g2 (by omega), hc.blk g3 (by omega), g4, g5, ext_chg g6 hc (by omega)⟩
  · rintro W1 W2 ⟨g1, g2, g3⟩ hc
    exact ⟨hc.blk g1 (by omega), g2, ext_chg g3 hc (by omega)⟩
  · rintro pre ⟨k, t, m, ps, d, b⟩ vs W1 l ⟨a', c', rfl, hsl⟩ hpre hl1 hl2 ⟨g1, g2, g3, g4, g5, g6⟩
    refine Eq.mpr (er_transcript_Check_1 base _ _ _ _ _ _ _ _ _ _ _ _ _ _ _ _ _ _ _ _ _) ?_
    refine al_stL (by simp) (by intro u hu; simp only [List.mem_cons, List.not_mem_nil, or_false] at hu; rcases hu with rfl | rfl | rfl | rfl | rfl | rfl <;> rfl) fun bp W2 hbp Bp ep sp => ?_
    refine ⟨ep, fun W3 hU => ?_⟩
    have Bp3 := upd_blk hU Bp (by omega)
    have E3 : Ext w W3 := ext_chg (ext_trans g6 ep) (upd_chg hU (Nat.le_refl l)) (by omega)
    have zz := ep.size
    have h1 := upd_blk hU (g1.ext ep) (by omega)
    have h2 := upd_blk hU (g2.ext ep) (by omega)
    have h3 := upd_blk hU (g3.ext ep) (by omega)
    have lb4 := h2.lt
    refine dr_ok ⟨.func 45, ⟨[]⟩, ⟨[.pointer (some ⟨b4, 0, none⟩)]⟩, by rw [h3.cell]; rfl, by kernel_rfl, spend_spec h2 (by omega) fun W4 k4 kc => ⟨_, rfl, ?_⟩⟩
    have k1 := kc.blk h1 (by omega)
    have k3 := kc.blk h3 (by omega)
    have kp := kc.blk Bp3 (by omega)
    have E4 : Ext w W4 := ext_chgS E3 kc fun k hk => by omega
    have l2' := k1.lt
    have kc' : Chg (fun k => k = b2 ∨ k = b4) W3 W4 := kc.mono fun k _ h => .inr h
    have stop : ¬ (f.size ≤ 4096 ∧ f.depth ≤ 16) → dr (some ⟨b2, 0, none⟩) fun p72 => stL W4 p72 0 [.int .i64 4] fun w71 => Chg (fun k => k = b2 ∨ k = b4) W3 w71 ∧ Blk w71 b2 [.int .i64 4] 25 ∧ ¬ (f.size ≤ 4096 ∧ f.depth ≤ 16) ∧ Ext w w71 := by
      intro hno
      refine dr_ok (stL_one k1 rfl fun W5 q1 q2 q3 => ?_)
      exact ⟨kc'.trans (q2.mono fun k _ h => .inl h), q1, hno, ext_chgS E4 q2 fun k hk => by omega⟩
    have hplen : pre.length + 1 ≤ (placesF f 0 false).length := by
      have := hpre.length_le; simpa using this
    have hpl := placesF_len f 0 false
    have go : ¬ (16 ≤ d ∧ 0 < ps.len) → pre.length + 1 ≤ 4096 → Chg (fun k => k = b2 ∨ k = b4) W3 W4 ∧ Blk W4 b2 [.int .i64 0] 25 ∧ Blk W4 b4 [.int .i64 (4096 - ((pre ++ [(⟨k, t, m, ps, d, b⟩ : Pl)]).length : Int))] 3 ∧ Blk W4 b7 [.func (.func 45) ⟨[]⟩ ⟨[.pointer (some ⟨b4, 0, none⟩)]⟩] 23 ∧ (pre ++ [(⟨k, t, m, ps, d, b⟩ : Pl)]).length ≤ 4096 ∧ (∀ x ∈ (pre ++ [(⟨k, t, m, ps, d, b⟩ : Pl)]), ¬ (16 ≤ x.d ∧ 0 < x.ps.len)) ∧ Ext w W4 := by
      intro hn1 hn2
      refine ⟨kc', k1, ?_, k3, by simpa using hn2, ?_, E4⟩
      · have e : (4096 - ((pre ++ [(⟨k, t, m, ps, d, b⟩ : Pl)]).length : Int)) = 4096 - (pre.length : Int) - 1 := by simp; omega
        rw [e]; exact k4
      · intro x hx
        rw [List.mem_append, List.mem_singleton] at hx
        rcases hx with hx | rfl
        · exact g5 x hx
        · exact hn1
    refine br_cases (fun q => stop ?_) (fun q => ?_)
    · simp only [Bool.not_eq_true', decide_eq_false_iff_not] at q
      omega
    · simp only [Bool.not_eq_false', decide_eq_true_eq] at q
      refine ⟨d, by rw [add_none, kp.cell]; rfl, br_split (fun q2 => ⟨a', ps.len, c', by rw [add_none, add_none, kp.cell]; rfl, br_split (fun q3 => stop ?_) (fun q3 => go (by omega) (by omega))⟩) (fun q2 => go (by omega) (by omega))⟩
      have := placesF_deep f 0 false ⟨k, t, m, ps, d, b⟩ (mem_of_prefix hpre) (by simp only; omega)
      simp only at this
      omega
  · rintro D W hD1 hD2 hD3 ⟨g1, g2, g3, g4, g5, g6⟩
    have hall := placesF_all f 0 false (by omega) g5
    exact second D W (by omega) hD2 hD3 g1 g6 ⟨by omega, by omega⟩
  · rintro D W hD1 hD2 hD3 ⟨g1, g2, g3⟩
    refine retD_one hD3 ⟨4, (blk_put g1 (by omega) _).cell 0, ?_⟩
    have e : checkT f = 4 := by unfold checkT; rw [if_neg g2]
    rw [← e]
    exact h _ (ext_put g3 (by omega) _)
end Go.Proofs
namespace Go.Proofs
open Go Go.Sh Go.RowKit

def addL : Fo → List UInt8 → Fo
  | .nil, _ => .nil
  | .cons k t n ps r, s => match r with
    | .nil => .cons k (t ++ s) n ps .nil
    | .cons k' t' n' ps' r' => .cons k t n ps (addL (.cons k' t' n' ps' r') s)
def lastT : Fo → Bool
  | .nil => false
  | .cons k _ _ _ r => match r with
    | .nil => decide (k = 1)
    | .cons k' t' n' ps' r' => lastT (.cons k' t' n' ps' r')
theorem addL_snoc (pre : Fo) (k t n ps s) : addL (pre.app (.one k t n ps)) s = pre.app (.one k (t ++ s) n ps) := by
  induction pre with
  | nil => rfl
  | cons k1 t1 n1 ps1 r _ ih =>
    cases r with
    | nil => rfl
    | cons k2 t2 n2 ps2 r2 => simp only [Fo.cons_app, addL] at ih ⊢; rw [ih]
theorem lastT_snoc (pre : Fo) (k t n ps) : lastT (pre.app (.one k t n ps)) = decide (k = 1) := by
  induction pre with
  | nil => rfl
  | cons k1 t1 n1 ps1 r _ ih =>
    cases r with
    | nil => rfl
    | cons k2 t2 n2 ps2 r2 => simp only [Fo.cons_app, lastT] at ih ⊢; rw [ih]
theorem Fo_view : ∀ (f : Fo), f = .nil ∨ ∃ (pre : Fo) (k : Int) (t : List UInt8) (n : Int) (ps : Fo), f = pre.app (.one k t n ps)
  | .nil => .inl rfl
  | .cons k t n ps r => .inr (by
    rcases Fo_view r with rfl | ⟨pre, k1, t1, n1, ps1, rfl⟩
    · exact ⟨.nil, k, t, n, ps, rfl⟩
    · exact ⟨.cons k t n ps pre, k1, t1, n1, ps1, rfl⟩)
def tlen : Fo → Nat
  | .nil => 0
  | .cons _ t _ ps r => t.length + tlen ps + tlen r
theorem tlen_app (f g : Fo) : tlen (f.app g) = tlen f + tlen g := by
  induction f with
  | nil => simp [tlen]
  | cons k t n ps r _ ih => simp only [Fo.cons_app, tlen, ih]; omega
def snocM (out : Fo) (k : Int) (t : List UInt8) (n : Int) (ps : Fo) : Fo :=
  if k = 1 ∧ t = [] then out else if k = 1 ∧ lastT out = true then addL out t else out.app (.one k t n ps)
def mgo : Fo → Fo → Fo
  | .nil, out => out
  | .cons k t n ps r, out => mgo r (snocM out k t n (mgo ps .nil))
def mergeF (f : Fo) : Fo := mgo f .nil

theorem slT_node : SlT Tryz.prog 24 35 4 56 (.agg #[.int .i64 0, .string ⟨⟨[]⟩⟩, .int .i64 0, .slice none 0 0]) := ⟨by kernel_rfl, by kernel_rfl, rfl, by decide⟩
theorem own_parts {S : Nat → Prop} {e : TypeId} {B Z : Nat} {W W0 : World} {a a' : Option Addr} {n c m : Nat} {f ps : Fo} (h : SlF (fun k => S k ∨ Z ≤ k) W a' m ps) (hS : ∀ k, S k → k < B) (ho : OwnF e S B W0 a n c f) (hZ : W0.heap.size ≤ Z) (hB : B ≤ W0.heap.size) :
    SlF (fun k => (S k ∨ B ≤ k) ∧ ¬ bk a k) W a' m ps :=
  h.imp fun k hk _ => hk.elim (fun h => ⟨.inl h, fun hb => by have := (ho.bk hb).1; have := hS k h; omega⟩) (fun h => ⟨.inr (by omega), fun hb => by have := (ho.bk hb).2; omega⟩)
theorem snoc_len (out : Fo) (k t n ps) : (snocM out k t n ps).len ≤ out.len + 1 := by
  unfold snocM
  split
  · omega
  · split
    · rcases Fo_view out with rfl | ⟨pre, k1, t1, n1, ps1, rfl⟩
      · simp [addL]
      · rw [addL_snoc]; simp [Fo.one]
    · simp [Fo.one]
theorem snoc_last {out : Fo} {k t n ps} {L : Nat} (h : ∀ pre k t m ps, out = Fo.app pre (.one k t m ps) → t.length ≤ L) : ∀ (pre : Fo) (k1 : Int) (t1 : List UInt8) (m1 : Int) (ps1 : Fo), snocM out k t n ps = pre.app (.one k1 t1 m1 ps1) → t1.length ≤ L + t.length := by
  intro pre k1 t1 m1 ps1 he
  have inj : ∀ {p q : Fo} {k k' t t' n n' ps ps'}, p.app (.one k t n ps) = q.app (.one k' t' n' ps') → t = t' := by
    intro p
    induction p with
    | nil =>
      intro q k k' t t' n n' ps ps' h
      cases q with
      | nil => simp [Fo.one] at h; exact h.2.1
      | cons a b c d e => simp only [Fo.nil_app, Fo.one, Fo.cons_app, Fo.cons.injEq] at h; have := congrArg Fo.len h.2.2.2.2; simp [Fo.one] at this
    | cons a b c d e _ ih =>
      intro q k k' t t' n n' ps ps' h
      cases q with
      | nil => simp only [Fo.nil_app, Fo.one, Fo.cons_app, Fo.cons.injEq] at h; have := congrArg Fo.len h.2.2.2.2; simp [Fo.one] at this
      | cons a' b' c' d' e' => simp only [Fo.cons_app, Fo.cons.injEq] at h; exact ih h.2.2.2.2
  unfold snocM at he
  split at he
  · have := h _ _ _ _ _ he; omega
  · split at he
    · rcases Fo_view out with rfl | ⟨p2, k2, t2, n2, ps2, rfl⟩
      · simp [addL] at he
        have := congrArg Fo.len he; simp [Fo.one] at this
      · rw [addL_snoc] at he
        have e := inj he
        have := h p2 k2 t2 n2 ps2 rfl
        rw [← e]; simp; omega
    · have e := inj he
      rw [← e]; omega
theorem wrap_pred {n : Nat} (h : 0 < n) (h2 : n ≤ 4611686018427387904) : IntKind.i64.wrap ((n : Int) - 1) = ((n - 1 : Nat) : Int) := by rw [wrap_id (by omega)]; omega

theorem Merge_spec : ∀ (f : Fo) {R : Ending → World → Prop} {S : Nat → Prop} {w : World} {a : Option Addr} {n c : Nat}, f.size ≤ 1000000000 → tlen f ≤ 4611686018427387904 → SlF S w a n f →
    (∀ a' n' c' w', SlF (fun k => S k ∨ w.heap.size ≤ k) w' a' n' (mergeF f) → Ext w w' → R (.returned (.slice a' n' c')) w') → Calls Tryz.prog F_transcript_Merge ⟨[.slice a n c]⟩ w R := by
  intro f
  induction hz : f.size using Nat.strongRecOn generalizing f with
  | _ z ih =>
  intro R S w a n c hs ht hf0 h
  apply c_transcript_Merge
  have hn := hf0.1
  have hfl := f.len_le_size
  have hf : SlF (fun k => S k ∧ k < w.heap.size) w a n f := hf0.imp fun k hk hl => ⟨hk, hl⟩
  refine ⟨fun oa on oc i W m => ∃ (p r out : Fo), f = p.app r ∧ i = p.len ∧ m = r.len ∧ OwnF 35 (fun k => S k ∧ k < w.heap.size) w.heap.size W oa on oc out ∧ out.len ≤ p.len ∧ (∀ pre k t m ps, out = Fo.app pre (.one k t m ps) → t.length ≤ tlen p) ∧ Ext w W ∧ mergeF f = mgo r out,
    ⟨_, .nil, f, .nil, rfl, rfl, rfl, OwnF.nil w, by simp, ?_, Below.refl _ _, rfl⟩, ?_⟩
  · intro pre k t m ps he
    have := congrArg Fo.len he; simp [Fo.one] at this
  rintro oa on oc _ W m ⟨p, r, out, hpr, rfl, rfl, hout, holen, hlast, he, heq⟩ _
  have hon := hout.len
  have hwW := he.size
  refine br_split (fun hlt => ?_) (fun hge => ?_)
  · obtain ⟨k, t, mm, ps, r, rfl⟩ := Fo.next hpr (by omega)
    have hsl := Fo.sub_len hpr
    have hsz := Fo.sub_size hpr
    have htl : tlen f = tlen p + (t.length + tlen ps + tlen r) := by rw [hpr, tlen_app]; rfl
    have e1 : f = (p.app (.one k t mm ps)).app r := by rw [Fo.app_one_app]; exact hpr
    have i1 : IntKind.i64.wrap ((p.len : Int) + 1) = ((p.app (.one k t mm ps)).len : Int) := by rw [wrap_nat (by omega)]; simp [Fo.one]
    have t1 : tlen (p.app (.one k t mm ps)) = tlen p + (t.length + tlen ps) := by rw [tlen_app]; simp [Fo.one, tlen]
    rw [mgo] at heq
    -- what every way ends in
    have done : ∀ (oa' : Option Addr) (on' oc' : Nat) (W' : World), OwnF 35 (fun k => S k ∧ k < w.heap.size) w.heap.size W' oa' on' oc' (snocM out k t mm (mgo ps .nil)) → Ext w W' →
        ∃ m42, m42 < (Fo.cons k t mm ps r).len ∧ ∃ (p' r' out' : Fo), f = p'.app r' ∧ IntKind.i64.wrap ((p.len : Int) + 1) = p'.len ∧ m42 = r'.len ∧ OwnF 35 (fun k => S k ∧ k < w.heap.size) w.heap.size W' oa' on' oc' out' ∧ out'.len ≤ p'.len ∧ (∀ pre k t m ps, out' = Fo.app pre (.one k t m ps) → t.length ≤ tlen p') ∧ Ext w W' ∧ mergeF f = mgo r' out' := by
      intro oa' on' oc' W' ho' he'
      refine ⟨r.len, by simp, _, r, _, e1, i1, rfl, ho', ?_, ?_, he', heq⟩
      · have := snoc_len out k t mm (mgo ps .nil)
        simp [Fo.one]; omega
      · intro pre k1 t1' m1 ps1 hsn
        have := snoc_last hlast pre k1 t1' m1 ps1 hsn
        omega
    obtain ⟨q, a', c', hq, hSq, hql, hN⟩ := (hf.ext he).get hpr
    refine hq _ ⟨k, hN.kind, t, hN.text, mm, hN.num, a', ps.len, c', hN.parts, ?_⟩
    refine al_stL (by simp) (by intro u hu; simp only [List.mem_cons, List.not_mem_nil, or_false] at hu; rcases hu with rfl | rfl | rfl | rfl <;> rfl) fun bx w1 hbx hBx e2 s2 => ?_
    obtain ⟨x0, x1, x2, x3⟩ := blk4 hBx
    have E1 := ext_trans he e2
    have ho1 := hout.ext e2
    have hzz := e2.size
    intro K16 hK16
    have k16 : ¬ (k = 1 ∧ t = []) → K16 w1 := by
      intro hne
      refine hK16 _ fun _ => ?_
      intro K18 hK18
      have k18 : ∀ g, g = decide (k = 1 ∧ lastT out = true) → K18 g w1 := by
        rintro _ rfl
        refine hK18 _ _ fun _ => br_split (fun g => ?_) (fun g => ?_)
        · have hsn : snocM out k t mm (mgo ps .nil) = addL out t := by unfold snocM; rw [if_neg hne, if_pos g]
          rcases Fo_view out with rfl | ⟨pre, k2, t2, n2, ps2, rfl⟩
          · simp [lastT] at g
          rw [addL_snoc] at hsn
          have hdr := ext_drew w1
          obtain ⟨q2, hq2, l0, l1, lst⟩ := (ho1.ext hdr).last
          have onl : on = pre.len + 1 := by rw [hon]; simp [Fo.one]
          have e : IntKind.i64.wrap ((on : Int) - 1) = (pre.len : Int) := by rw [wrap_pred (by omega) (by omega), onl]; simp
          have hl2 := hlast pre k2 t2 n2 ps2 rfl
          unfold drw
          rw [e]
          refine hq2 _ ⟨t2, l1, t, (blk4 (hBx.ext hdr)).2.1, by omega, hq2 _ ⟨lst _ _ fun w3 ho3 hc3 => ?_, trivial⟩⟩
          refine done _ _ _ w3 (by rw [hsn]; exact ho3) ?_
          exact ext_chgS (ext_trans E1 hdr) hc3 fun j hj => ((ho1.ext hdr).bk hj).1
        · have hsn : snocM out k t mm (mgo ps .nil) = out.app (.one k t mm (mergeF ps)) := by unfold snocM; rw [if_neg hne, if_neg g]; rfl
          refine ⟨a', ps.len, c', x3, ?_⟩
          refine ih _ (hz ▸ hsz) ps rfl (S := fun k => S k ∧ k < w.heap.size) (by omega) (by omega) (hN.sl.ext e2) fun a3 n3 c3 w3 hsl3 e3 => ⟨_, _, _, rfl, ?_⟩
          have hBx3 := hBx.ext e3
          have hn3 := hsl3.1
          rw [add_none]
          refine stL_blk hBx3 (by simp) (by intro u hu; simp only [List.mem_singleton] at hu; subst hu; rfl) fun w4 b1 b2 b3 b4 b5 b6 => ?_
          simp only [putAt, List.set] at b1
          have hc4 : Chg (· = bx) w3 w4 := ⟨b4, b5, b6, by omega, fun k _ hk => b2 k hk⟩
          have E4 : Ext w w4 := ext_chgS (ext_trans E1 e3) hc4 fun j hj => by omega
          have z3 := e3.size
          have EW4 : Ext W w4 := ext_chgS (ext_trans e2 e3) hc4 fun j hj => by omega
          have ho4 := hout.ext EW4
          have z4 := EW4.size
          have hp4 : SlF (fun j => (S j ∧ j < w.heap.size) ∨ w1.heap.size ≤ j) w4 a3 n3 (mergeF ps) := hsl3.chg hc4 fun j hj he => by
            subst he; rcases hj with hj | hj <;> omega
          subst hn3
          obtain ⟨y0, y1, y2, y3⟩ := blk4 b1
          refine ⟨k, y0, t, y1, mm, y2, a3, _, c3, y3, ?_⟩
          refine OwnF.push slT_node ho4 (by omega) (own_parts hp4 (fun j hj => hj.2) hout (by omega) (by omega)) (by omega) (by omega) fun a5 n5 c5 w5 ho5 hc5 => ?_
          refine done a5 n5 c5 w5 (by rw [hsn]; exact ho5) ?_
          exact ext_chgS E4 hc5 fun j hj => (hout.bk hj).1
      have lt : ∀ (pre : Fo) (k2 : Int) (t2 : List UInt8) (m2 : Int) (ps2 : Fo), out = pre.app (.one k2 t2 m2 ps2) → lastT out = decide (k2 = 1) ∧ on = pre.len + 1 := fun pre k2 t2 m2 ps2 hv => by
        subst hv; exact ⟨lastT_snoc .., by rw [hon]; simp [Fo.one]⟩
      rcases Fo_view out with hv | ⟨pre, k2, t2, m2, ps2, hv⟩
      · subst hv
        have : on = 0 := hon
        subst this
        refine br_split (fun g => ?_) (fun g => k18 _ (by simp [lastT]))
        rw [wrap_id (by omega)] at g; simp at g
      · obtain ⟨hl1, hl2⟩ := lt _ _ _ _ _ hv
        have e : IntKind.i64.wrap ((on : Int) - 1) = (pre.len : Int) := by rw [wrap_pred (by omega) (by omega), hl2]; simp
        rw [e]
        refine br_split (fun g => ⟨k, x0, br_split (fun g2 => ?_) (fun g2 => k18 _ (by simp [g2]))⟩) (fun g => absurd (by omega) g)
        subst hv
        obtain ⟨q2, hq2, l0, l1, lst⟩ := ho1.last
        exact hq2 _ ⟨k2, l0, k18 _ (by rw [hl1]; simp [g2])⟩
    refine ⟨k, x0, br_split (fun g => ⟨t, x1, br_split (fun g2 => ?_) (fun g2 => k16 fun hh => g2 hh.2)⟩) (fun g => k16 fun hh => g hh.1)⟩
    exact done oa on oc w1 (by unfold snocM; rw [if_pos ⟨g, g2⟩]; exact ho1) E1
  · obtain ⟨rfl, rfl⟩ := Fo.last hpr (by omega)
    rw [heq] at h
    refine h oa on oc W (hout.out.imp fun k hk _ => hk.imp (fun h => h.1) id) he
end Go.Proofs
