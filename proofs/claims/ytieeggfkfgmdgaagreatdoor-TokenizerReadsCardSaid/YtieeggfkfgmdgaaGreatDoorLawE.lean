/- The contracts of the functions that the law reaches, one after the other, and at the end the law's card. -/
import Derived.Test.YtieeggfkfgmdgaaGreatDoorLawD
import Derived.Lib.Replace
namespace Go.Proofs
open Go Go.Sh Go.RowKit

/- rewriting, as the program does it -/
section
variable {R : Ending → World → Prop} {w : World}
theorem wordly_at (s : List UInt8) (k : Nat) (h : k < s.length) : wordlyF (s.take (k + 1)) = (wordlyF (s.take k) && innC s[k]) := by
  unfold wordlyF
  rw [List.take_succ_eq_append_getElem h, List.all_append]; simp
theorem inn_of {c : UInt8} : innC c = decide (kd c = 1 ∨ kd c = 2 ∨ kd c = 3 ∨ kd c = 4) := by
  unfold innC letB
  rw [Bool.eq_iff_iff]
  simp only [Bool.or_eq_true, beq_iff_eq, decide_eq_true_eq]
  omega
theorem wordly_no (s : List UInt8) (k : Nat) (h : k < s.length) (hn : innC s[k] = false) : wordlyF s = false := by
  unfold wordlyF
  rw [List.all_eq_false]
  exact ⟨s[k], List.getElem_mem h, by rw [hn]; decide⟩
set_option maxRecDepth 20000 in
theorem wordly_spec (s : List UInt8) (hs : s.length ≤ 4611686018427387904) (h : R (.returned (.bool (wordlyF s))) w) : Calls Tryz.prog F_rewriting_wordly ⟨[.string ⟨⟨s⟩⟩]⟩ w R := by
  apply c_rewriting_wordly
  refine ⟨fun i W m => ∃ k : Nat, i = k ∧ k ≤ s.length ∧ m = s.length - k ∧ wordlyF (s.take k) = true ∧ W = w, ⟨_, 0, rfl, by omega, rfl, by rw [List.take_zero]; rfl, rfl⟩, ?_⟩
  rintro _ W m ⟨k, rfl, hk, rfl, hw, rfl⟩ _
  refine br_split (fun hlt => ?_) (fun hge => ?_)
  · have hkl : k < s.length := by omega
    refine sidx_nat hkl ?_
    refine Kind_spec _ ⟨_, rfl, ?_⟩
    have yes : (kd s[k] = 1 ∨ kd s[k] = 2 ∨ kd s[k] = 3 ∨ kd s[k] = 4) → ∃ m', m' < s.length - k ∧ ∃ k' : Nat, IntKind.i64.wrap ((k : Int) + 1) = k' ∧ k' ≤ s.length ∧ m' = s.length - k' ∧ wordlyF (s.take k') = true ∧ W = W := fun hh =>
      ⟨s.length - (k + 1), by omega, k + 1, by rw [wrap_nat (by omega)], by omega, rfl, by rw [wordly_at s k hkl, hw, inn_of, decide_eq_true hh]; rfl, rfl⟩
    refine br_split (fun g1 => ?_) (fun g1 => br_split (fun g2 => ?_) (fun g2 => br_split (fun g3 => ?_) (fun g3 => br_split (fun g4 => ?_) (fun g4 => ?_))))
    · rw [decide_eq_true g1]; exact yes (.inl g1)
    · rw [decide_eq_true g2]; exact yes (.inr (.inl g2))
    · rw [decide_eq_true g3]; exact yes (.inr (.inr (.inl g3)))
    · exact yes (.inr (.inr (.inr g4)))
    · rw [wordly_no s k hkl (by rw [inn_of]; exact decide_eq_false (by omega))] at h; exact h
  · rw [List.take_of_length_le (by omega)] at hw
    rw [hw] at h; exact h
set_option maxRecDepth 20000 in
theorem rwRight_spec (x : Rw) (h1 : x.1.length ≤ 4611686018427387904) (h2 : x.2.length ≤ 4611686018427387904) (h : ∀ w', Ext w w' → R (.returned (.int .i64 (rule1E x))) w') : Calls Tryz.prog F_rewriting_right ⟨[.agg ⟨[.string ⟨⟨x.1⟩⟩, .string ⟨⟨x.2⟩⟩]⟩]⟩ w R := by
  apply c_rewriting_right
  refine al_intro fun b3 w4 hb3 B3 e4 s4 => ?_
  obtain ⟨c0, c1⟩ := blk2' B3
  have H : ∀ e : Int, rule1E x = e → R (.returned (.int .i64 e)) w4 := fun e he => by rw [← he]; exact h w4 e4
  intro K5 hK5
  have k5 : ∀ t : Bool, (t = true ↔ x.1 = [] ∨ x.2 = []) → K5 t w4 := by
    intro t ht
    refine hK5 _ _ fun _ => br_cases (fun g => H 5 (by unfold rule1E; rw [if_pos (ht.1 g)])) (fun g => ?_)
    have n1 : ¬ (x.1 = [] ∨ x.2 = []) := fun hh => by rw [ht.2 hh] at g; cases g
    intro K8 hK8
    have k8 : ∀ t : Bool, (t = true ↔ 64 < x.1.length ∨ 64 < x.2.length) → K8 t w4 := by
      intro t ht
      refine hK8 _ _ fun _ => br_cases (fun g => H 4 (by unfold rule1E; rw [if_neg n1, if_pos (ht.1 g)])) (fun g => ?_)
      have n2 : ¬ (64 < x.1.length ∨ 64 < x.2.length) := fun hh => by rw [ht.2 hh] at g; cases g
      intro K11 hK11
      have k11 : ∀ t : Bool, (t = true ↔ wordlyF x.1 = false ∨ wordlyF x.2 = false) → K11 t w4 := by
        intro t ht
        refine hK11 _ _ fun _ => br_cases (fun g => H 11 (by unfold rule1E; rw [if_neg n1, if_neg n2, if_pos (ht.1 g)])) (fun g => ?_)
        have n3 : ¬ (wordlyF x.1 = false ∨ wordlyF x.2 = false) := fun hh => by rw [ht.2 hh] at g; cases g
        have fin : ∀ e, (if x.1.length < x.2.length ∨ (x.2.length = x.1.length ∧ Op.bytesLess x.2 x.1 = false) then (24 : Int) else 0) = e → R (.returned (.int .i64 e)) w4 := fun e he => H e (by unfold rule1E; rw [if_neg n1, if_neg n2, if_neg n3]; exact he)
        refine ⟨_, c1, _, c0, br_split (fun q => fin 24 (if_pos (.inl (by omega)))) (fun q => ⟨_, c1, _, c0, br_split (fun q2 => ⟨_, c1, _, c0, br_cases (fun q3 => fin 24 (if_pos (.inr ⟨by omega, by simpa using q3⟩))) (fun q3 => fin 0 (if_neg ?_))⟩) (fun q2 => fin 0 (if_neg ?_))⟩)⟩
        · rintro (hh | ⟨_, hh⟩)
          · omega
          · rw [hh] at q3; cases q3
        · rintro (hh | ⟨hh, _⟩)
          · omega
          · exact q2 (by omega)
      refine ⟨_, c0, wordly_spec _ h1 ⟨_, rfl, br_cases (fun g => k11 true ?_) (fun g => ⟨_, c1, wordly_spec _ h2 ⟨_, rfl, k11 _ ?_⟩⟩)⟩⟩
      · have : wordlyF x.1 = false := by simpa using g
        simp [this]
      · have : wordlyF x.1 = true := by simpa using g
        simp [this]
    refine ⟨_, c0, br_split (fun g => k8 true ?_) (fun g => ⟨_, c1, k8 _ ?_⟩)⟩
    · simp; omega
    · simp; omega
  refine ⟨_, c0, br_split (fun g => k5 true ?_) (fun g => ⟨_, c1, k5 _ ?_⟩)⟩
  · simp [g]
  · simp [g]
theorem rulesE_at : ∀ {l : List Rw} {k : Nat} (h : k < l.length), rulesE (l.take k) = 0 → rule1E l[k] ≠ 0 → rulesE l = rule1E l[k]
  | [], _, h, _, _ => absurd h (by simp)
  | x :: l, 0, h, _, h2 => by
    have h2' : rule1E x ≠ 0 := h2
    rw [rulesE, if_pos h2']; rfl
  | x :: l, k + 1, h, h1, h2 => by
    rw [List.take_succ_cons, rulesE] at h1
    have hx : ¬ rule1E x ≠ 0 := by
      intro hh
      rw [if_pos hh] at h1
      exact hh h1
    rw [if_neg hx] at h1
    rw [rulesE, if_neg hx]
    exact rulesE_at (l := l) (k := k) (by simpa using h) h1 h2
theorem rulesE_take : ∀ {l : List Rw} {k : Nat} (h : k < l.length), rulesE (l.take k) = 0 → rule1E l[k] = 0 → rulesE (l.take (k + 1)) = 0
  | [], _, h, _, _ => absurd h (by simp)
  | x :: l, 0, h, _, h2 => by
    have h2' : rule1E x = 0 := h2
    rw [List.take_succ_cons, rulesE, if_neg (by rw [h2']; simp), List.take_zero]; rfl
  | x :: l, k + 1, h, h1, h2 => by
    rw [List.take_succ_cons, rulesE] at h1
    have hx : ¬ rule1E x ≠ 0 := by
      intro hh
      rw [if_pos hh] at h1
      exact hh h1
    rw [if_neg hx] at h1
    rw [List.take_succ_cons, rulesE, if_neg hx]
    exact rulesE_take (l := l) (k := k) (by simpa using h) h1 h2
def smallR (rs : List Rw) : Prop := ∀ x ∈ rs, x.1.length ≤ 4611686018427387904 ∧ x.2.length ≤ 4611686018427387904
set_option maxRecDepth 20000 in
theorem rwCheck_spec {S : Nat → Prop} {a : Option Addr} {n c : Nat} (rs : List Rw) (hsm : smallR rs) (hR : RowAt encRw S w a n rs) (h : ∀ w', Ext w w' → R (.returned (.int .i64 (ruleE rs))) w') : Calls Tryz.prog F_rewriting_Check ⟨[.slice a n c]⟩ w R := by
  apply c_rewriting_Check
  have hn := hR.1
  refine br_split (fun g => ?_) (fun g => ?_)
  · have : ruleE rs = 4 := by unfold ruleE; rw [if_pos (by omega)]
    rw [← this]; exact h w (Below.refl _ _)
  have hE : ruleE rs = rulesE rs := by unfold ruleE; rw [if_neg (by omega)]
  rw [hE] at h
  refine ⟨fun i W m => ∃ k : Nat, i = k ∧ k ≤ n ∧ m = n - k ∧ rulesE (rs.take k) = 0 ∧ Ext w W, ⟨_, 0, rfl, by omega, rfl, rfl, Below.refl _ _⟩, ?_⟩
  rintro _ W m ⟨k, rfl, hk, rfl, hz, he⟩ _
  refine br_split (fun hlt => ?_) (fun hge => ?_)
  · have hkl : k < rs.length := by omega
    have hx : rs[k]? = some rs[k] := by simp [hkl]
    obtain ⟨bb, o, hq, _, _, hc⟩ := (hR.ext he).get hx
    refine hq _ ⟨_, by rw [add_none]; exact hc 0 _ rfl, _, by rw [add_none]; exact hc 1 _ rfl, ?_⟩
    refine al_stL rfl (by intro u hu; simp only [List.mem_cons, List.not_mem_nil, or_false] at hu; rcases hu with rfl | rfl <;> rfl) fun b10 w12 hb10 B10 e12 s12 => ?_
    obtain ⟨c0, c1⟩ := blk2' B10
    obtain ⟨q1, q2⟩ := hsm rs[k] (List.getElem_mem hkl)
    refine ⟨_, c0, _, c1, rwRight_spec rs[k] q1 q2 fun w16 e16 => ⟨_, rfl, br_split (fun g1 => ?_) (fun g1 => ?_)⟩⟩
    · rw [← rulesE_at hkl hz g1]
      exact h w16 (ext_trans (ext_trans he e12) e16)
    · exact ⟨n - (k + 1), by omega, k + 1, by rw [wrap_nat (by omega)], by omega, rfl, rulesE_take hkl hz (Decidable.not_not.1 g1), ext_trans (ext_trans he e12) e16⟩
  · rw [List.take_of_length_le (by omega)] at hz
    rw [hz] at h
    exact h W he
def chkE (rs : List Rw) (s : List UInt8) : Int := if ruleE rs ≠ 0 then 1 else if 64 < s.length then 4 else if wordlyF s = false then 11 else 0
theorem rwcheck_spec {S : Nat → Prop} {a : Option Addr} {n c : Nat} (rs : List Rw) (s : List UInt8) (hsm : smallR rs) (hR : RowAt encRw S w a n rs) (h : ∀ w', Ext w w' → R (.returned (.int .i64 (chkE rs s))) w') : Calls Tryz.prog F_rewriting_check ⟨[.slice a n c, .string ⟨⟨s⟩⟩]⟩ w R := by
  apply c_rewriting_check
  refine rwCheck_spec rs hsm hR fun w4 e4 => ⟨_, rfl, ?_⟩
  have H : ∀ e : Int, chkE rs s = e → R (.returned (.int .i64 e)) w4 := fun e he => by rw [← he]; exact h w4 e4
  refine br_split (fun g => H 1 (by unfold chkE; rw [if_pos g])) (fun g => br_split (fun g2 => H 4 (by unfold chkE; rw [if_neg g, if_pos (by omega)])) (fun g2 => ?_))
  refine wordly_spec s (by omega) ⟨_, rfl, br_cases (fun g3 => H 11 ?_) (fun g3 => H 0 ?_)⟩
  · unfold chkE; rw [if_neg g, if_neg (by omega), if_pos (by simpa using g3)]
  · unfold chkE; rw [if_neg g, if_neg (by omega), if_neg (by simpa using g3)]
/- what rules make of a string -/
theorem CutPrefix_spec (s u : List UInt8) (h : R (.returned (.tuple ⟨[.string ⟨⟨if decide (u.length ≤ s.length) && decide (s.take u.length = u) then s.drop u.length else s⟩⟩, .bool (decide (u.length ≤ s.length) && decide (s.take u.length = u))]⟩)) w) :
    Calls Tryz.prog F_strings_CutPrefix ⟨[.string ⟨⟨s⟩⟩, .string ⟨⟨u⟩⟩]⟩ w R := by
  apply c_strings_CutPrefix
  apply c_internal_stringslite_CutPrefix
  have hp : ∀ R' : Ending → World → Prop, R' (.returned (.bool (decide (u.length ≤ s.length) && decide (s.take u.length = u)))) w → Calls Tryz.prog F_internal_stringslite_HasPrefix ⟨[.string ⟨⟨s⟩⟩, .string ⟨⟨u⟩⟩]⟩ w R' := by
    intro R' hR
    apply c_internal_stringslite_HasPrefix
    refine br_split (fun g => ?_) (fun g => ?_)
    · have hz : ((0 : Nat) : Int) = 0 := rfl
      rw [← hz]
      refine ssl_nat (by omega) (by omega) ?_
      rw [List.drop_zero]
      rw [decide_eq_true (show u.length ≤ s.length by omega), Bool.true_and] at hR
      exact hR
    · rw [decide_eq_false (show ¬ u.length ≤ s.length by omega), Bool.false_and] at hR
      exact hR
  refine hp _ ⟨_, rfl, br_cases (fun g => ?_) (fun g => ?_)⟩
  · have g' : (decide (u.length ≤ s.length) && decide (s.take u.length = u)) = false := by
      rw [Bool.not_eq_true'] at g; exact g
    rw [g'] at h
    exact ⟨_, _, rfl, h⟩
  · have g' : (decide (u.length ≤ s.length) && decide (s.take u.length = u)) = true := by
      rw [Bool.not_eq_false'] at g; exact g
    have hl : u.length ≤ s.length := by rw [Bool.and_eq_true, decide_eq_true_eq] at g'; exact g'.1
    rw [g'] at h
    refine ssl_nat hl (Nat.le_refl _) ?_
    rw [List.take_length]
    exact ⟨_, _, rfl, h⟩
theorem hit_eq (s u : List UInt8) (k : Nat) (hk : k ≤ s.length) : (decide (u.length ≤ (s.drop k).length) && decide ((s.drop k).take u.length = u)) = hitB s u k := by
  unfold hitB
  rw [List.length_drop, decide_eq_decide.2 (show u.length ≤ s.length - k ↔ k + u.length ≤ s.length by omega)]
theorem stepAt_snoc (l : List Rw) (x : Rw) (s : List UInt8) (k : Nat) : stepAt (l ++ [x]) s k = stepAt l s k ++ if hitB s x.1 k = true then [putW s x k] else [] := by
  unfold stepAt
  rw [List.filter_append, List.map_append]
  congr 1
  by_cases h : hitB s x.1 k = true
  · simp [h]
  · simp [h]
theorem stepAt_pre (l m : List Rw) (s : List UInt8) (k : Nat) : stepAt l s k <+: stepAt (l ++ m) s k := by
  unfold stepAt
  rw [List.filter_append, List.map_append]
  exact List.prefix_append _ _
theorem resW_pre (rs : List Rw) (s : List UInt8) (k : Nat) (h : k < s.length) : (List.range k).flatMap (stepAt rs s) ++ stepAt rs s k <+: resW rs s := by
  have e : (List.range k).flatMap (stepAt rs s) ++ stepAt rs s k = (List.range (k + 1)).flatMap (stepAt rs s) := by rw [List.range_succ, List.flatMap_append]; simp
  rw [e]
  unfold resW
  obtain ⟨d, hd⟩ : ∃ d, s.length = (k + 1) + d := ⟨s.length - (k + 1), by omega⟩
  rw [hd, List.range_add (n := k + 1), List.flatMap_append]
  exact List.prefix_append _ _
set_option maxRecDepth 20000 in
theorem results_iterO {T : Nat → Prop} (rs : List Rw) (s : List UInt8) (hln : rs.length ≤ 64) (hr : ∀ x ∈ rs, x.1.length ≤ 64 ∧ x.2.length ≤ 64) (hs : s.length ≤ 64) {a : Option Addr} {n c : Nat} (b5 b3 : Nat) (w : World) (hTl : ∀ k, T k → k < w.heap.size) (B5 : Blk w b5 [.string ⟨⟨s⟩⟩] 9) (B3 : Blk w b3 [.slice a n c] 23) (hR : RowAt encRw T w a n rs) (h5 : T b5) (h3 : T b3) :
    IterO Tryz.prog F_rewriting_results_1 [.pointer (some ⟨b5, 0, none⟩), .pointer (some ⟨b3, 0, none⟩)] (resW rs s) (fun x vs => vs = [.string ⟨⟨x⟩⟩]) T w := by
  intro yf ya yb S0 J Jx R hS hJ hJx hbody h0 hend hstop
  apply c_rewriting_results_1
  have hn := hR.1
  refine dr_ok ⟨s, by rw [B5.cell]; rfl, ?_⟩
  refine ⟨fun i W m => ∃ (k : Nat) (S : Nat → Prop), i = k ∧ k ≤ s.length ∧ m = s.length - k ∧ J ((List.range k).flatMap (stepAt rs s)) S W ∧ w.heap.size ≤ W.heap.size ∧ (∀ k, T k → W.heap[k]? = w.heap[k]?) ∧ (∀ k, S k → k < W.heap.size ∧ ¬ T k),
    ⟨_, 0, S0, rfl, by omega, rfl, h0, Nat.le_refl _, fun _ _ => rfl, hS⟩, ?_⟩
  rintro _ W m ⟨k, S, rfl, hk, rfl, hj, hW, hT, hSW⟩ _
  refine br_split (fun hlt => ?_) (fun hge => ?_)
  · have hkl : k < s.length := by omega
    refine dr_ok ⟨a, n, c, by rw [(B3.keep (hT b3 h3)).cell]; rfl, ?_⟩
    refine ⟨fun i2 W2 m2 => ∃ (j : Nat) (S2 : Nat → Prop), i2 = j ∧ j ≤ n ∧ m2 = n - j ∧ J ((List.range k).flatMap (stepAt rs s) ++ stepAt (rs.take j) s k) S2 W2 ∧ w.heap.size ≤ W2.heap.size ∧ (∀ k, T k → W2.heap[k]? = w.heap[k]?) ∧ (∀ k, S2 k → k < W2.heap.size ∧ ¬ T k),
      ⟨_, 0, S, rfl, by omega, rfl, by rw [List.take_zero]; simpa [stepAt] using hj, hW, hT, hSW⟩, ?_⟩
    rintro _ W2 m2 ⟨j, S2, rfl, hjn, rfl, hj2, hW2, hT2, hS2⟩ _
    refine br_split (fun hl2 => ?_) (fun hg2 => ?_)
    · have hjl : j < rs.length := by omega
      have hx : rs[j]? = some rs[j] := by simp [hjl]
      obtain ⟨r1, r2⟩ := hr rs[j] (List.getElem_mem hjl)
      obtain ⟨bb, o, hq, _, _, hc⟩ := (hR.keep (S' := T) (w' := W2) (fun k hk _ => ⟨hk, hT2 k hk⟩) hW2).get hx
      refine hq _ ⟨_, by rw [add_none]; exact hc 0 _ rfl, _, by rw [add_none]; exact hc 1 _ rfl, ?_⟩
      refine al_stL rfl (by intro u hu; simp only [List.mem_cons, List.not_mem_nil, or_false] at hu; rcases hu with rfl | rfl <;> rfl) fun b21 w23 hb21 B21 e23 s23 => ?_
      have z23 := e23.size
      unfold drw
      have ed := ext_drew w23
      have zd : w23.drew.heap.size = w23.heap.size := rfl
      have B21 := B21.ext ed
      have E24 := ext_trans e23 ed
      generalize w23.drew = w24 at *
      have z24 := E24.size
      have lT : ∀ k, T k → k < W2.heap.size := fun k hk => by have := hTl k hk; omega
      have hT24 : ∀ k, T k → w24.heap[k]? = w.heap[k]? := fun k hk => (E24.block k (lT k hk)).trans (hT2 k hk)
      obtain ⟨c0, c1⟩ := blk2' B21
      refine dr_ok ⟨s, by rw [(B5.keep (hT24 b5 h5)).cell]; rfl, ?_⟩
      refine ssl_nat (by omega) (Nat.le_refl _) ⟨_, c0, ?_, trivial⟩
      rw [List.take_length]
      refine CutPrefix_spec (s.drop k) rs[j].1 ⟨_, _, rfl, ?_⟩
      rw [hit_eq s _ k hk]
      have ed2 := ext_drew w24
      have B21' := B21.ext ed2
      have E33 := ext_trans E24 ed2
      generalize w24.drew = w33 at *
      show br (hitB s rs[j].1 k) _ _
      have z33 := E33.size
      have hT33 : ∀ k, T k → w33.heap[k]? = w.heap[k]? := fun k hk => (E33.block k (lT k hk)).trans (hT2 k hk)
      have hj33 := hJ _ _ _ _ hj2 (Chg.of_ext E33 (S := fun k => w.heap.size ≤ k ∧ ¬ S2 k))
      have hS33 : ∀ k, S2 k → k < w33.heap.size ∧ ¬ T k := fun k hk => ⟨by have := (hS2 k hk).1; omega, (hS2 k hk).2⟩
      have htk : stepAt (rs.take (j + 1)) s k = stepAt (rs.take j) s k ++ if hitB s rs[j].1 k = true then [putW s rs[j] k] else [] := by
        rw [List.take_succ_eq_append_getElem hjl, stepAt_snoc]
      cases hh : hitB s rs[j].1 k with
      | true =>
        simp only [br_t]
        refine dr_ok ⟨s, by rw [(B5.keep (hT33 b5 h5)).cell]; rfl, ?_⟩
        have hz0 : ((0 : Nat) : Int) = 0 := rfl
        rw [← hz0]
        refine ssl_nat (by omega) (by omega) ⟨_, (blk2' B21').2, ?_⟩
        rw [List.drop_zero]
        simp only [if_true]
        refine ⟨by simp; omega, by simp; omega, ?_, trivial⟩
        have hput : s.take k ++ rs[j].2 ++ (s.drop k).drop rs[j].1.length = putW s rs[j] k := by unfold putW; rw [List.drop_drop, List.append_assoc]
        rw [hput]
        rw [hh, if_pos rfl] at htk
        have hpx : ((List.range k).flatMap (stepAt rs s) ++ stepAt (rs.take j) s k) ++ [putW s rs[j] k] <+: resW rs s := by
          refine List.IsPrefix.trans ?_ (resW_pre rs s k hkl)
          rw [List.append_assoc, ← htk]
          refine (List.prefix_append_right_inj _).2 ?_
          have := stepAt_pre (rs.take (j + 1)) (rs.drop (j + 1)) s k
          rwa [List.take_append_drop] at this
        refine CallV_mono (hbody _ (putW s rs[j] k) _ S2 w33 rfl hpx (by omega) hS33 hj33) ?_
        rintro e w41 ⟨hc2, S3, hS3, hres⟩
        have z41 := hc2.size
        have hT41 : ∀ k, T k → w41.heap[k]? = w.heap[k]? := fun k hk => (hc2.block k (by have := lT k hk; omega) fun hh => (hS2 k hh).2 hk).trans (hT33 k hk)
        have hS3' : ∀ k, S3 k → k < w41.heap.size ∧ ¬ T k := fun k hk => ⟨(hS3 k hk).2, fun ht => (hS3 k hk).1.elim (fun hh => (hS2 k hh).2 ht) fun hh => by have := lT k ht; omega⟩
        rcases hres with ⟨rfl, hj3⟩ | ⟨rfl, hjx⟩
        · refine ⟨true, rfl, ?_⟩
          simp only [Bool.not_true, br_f]
          refine ⟨n - (j + 1), by omega, j + 1, S3, by rw [wrap_nat (by omega)], by omega, rfl, ?_, by omega, hT41, hS3'⟩
          rw [htk, ← List.append_assoc]; exact hj3
        · refine ⟨false, rfl, ?_⟩
          simp only [Bool.not_false, br_t]
          exact hstop S3 _ (by omega) hjx
      | false =>
        simp only [br_f]
        rw [hh, if_neg (by decide), List.append_nil] at htk
        exact ⟨⟨n - (j + 1), by omega, j + 1, S2, by rw [wrap_nat (by omega)], by omega, rfl, by rw [htk]; exact hj33, by omega, hT33, hS33⟩, trivial⟩
    · rw [List.take_of_length_le (by omega)] at hj2
      refine ⟨s.length - (k + 1), by omega, k + 1, S2, by rw [wrap_nat (by omega)], by omega, rfl, ?_, hW2, hT2, hS2⟩
      have e : (List.range (k + 1)).flatMap (stepAt rs s) = (List.range k).flatMap (stepAt rs s) ++ stepAt rs s k := by rw [List.range_succ, List.flatMap_append]; simp
      rw [e]; exact hj2
  · have : k = s.length := by omega
    subst this
    exact hend S W hW hj
end
end Go.Proofs
namespace Go.Proofs
open Go Go.Sh Go.RowKit

section
variable {R : Ending → World → Prop} {w : World}
theorem ext_tw {w w1 w2 : World} {b : Nat} (h : Ext w w1) (hc : Chg (fun k => k = b) w1 w2) (hb : w.heap.size ≤ b) : Ext w w2 := ext_chgS h hc fun k hk => by rw [hk]; exact hb
theorem rules_small {rs : List Rw} (h : rulesE rs = 0) : ∀ x ∈ rs, x.1.length ≤ 64 ∧ x.2.length ≤ 64 := fun x hx => by
  obtain ⟨_, _, _, h4, h5⟩ := rule_facts (rules_mem h x hx)
  omega
theorem results_spec {S : Nat → Prop} {a : Option Addr} {n c : Nat} (s : List UInt8)
    (h : ∀ b5 b3 w', b3 = w.heap.size → b5 = b3 + 1 → w'.heap.size = b5 + 1 → Blk w' b5 [.string ⟨⟨s⟩⟩] 9 → Blk w' b3 [.slice a n c] 23 → Ext w w' → R (.returned (.func (.func F_rewriting_results_1) ⟨[]⟩ ⟨[.pointer (some ⟨b5, 0, none⟩), .pointer (some ⟨b3, 0, none⟩)]⟩)) w') :
    Calls Tryz.prog F_rewriting_results ⟨[.slice a n c, .string ⟨⟨s⟩⟩]⟩ w R := by
  apply c_rewriting_results
  refine al_intro fun b3 w4 hb3 B3 e4 s4 => ?_
  refine al_intro fun b5 w6 hb5 B5 e6 s6 => ?_
  exact h b5 b3 w6 hb3 (by omega) s6 B5 (B3.ext e6) (ext_trans e4 e6)
set_option maxRecDepth 20000 in
theorem rwstep_spec {S : Nat → Prop} {a : Option Addr} {n c : Nat} (rs : List Rw) (s : List UInt8) (hln : rs.length ≤ 64) (hr : rulesE rs = 0) (hs : s.length ≤ 64) (hR : RowAt encRw S w a n rs)
    (h : ∀ w', Ext w w' → R (.returned (.tuple ⟨[.string ⟨⟨(stepW rs s).getD s⟩⟩, .bool (stepW rs s).isSome]⟩)) w') : Calls Tryz.prog F_rewriting_step ⟨[.slice a n c, .string ⟨⟨s⟩⟩]⟩ w R := by
  apply c_rewriting_step
  refine al_intro fun b3 w4 hb3 B3 e4 s4 => ?_
  refine al_intro fun b5 w6 hb5 B5 e6 s6 => ?_
  have E6 := ext_trans e4 e6
  have B3' := B3.ext e6
  refine results_spec (S := S) s fun c5 c3 w8 hc3 hc5 hz8 C5 C3 e8 => ⟨_, _, _, rfl, fun base => ?_⟩
  have E8 := ext_trans E6 e8
  have z8 := E8.size
  have z6 := E6.size
  have D3 := B3'.ext e8
  have D5 := B5.ext e8
  have hR0 := hR.imp (S' := fun k => S k ∧ k < w.heap.size) fun k hk hl => ⟨hk, hl⟩
  have hR8 := (hR0.ext E8).imp (S' := fun k => (S k ∧ k < w.heap.size) ∨ k = c5 ∨ k = c3) fun k hk _ => .inl hk
  rw [cd_rewriting_step_1]
  refine RFw_lawO anA_rewriting_step_1 anB_rewriting_step_1 (gf := F_rewriting_results_1) rfl (by kernel_rfl) (xs := resW rs s) (E := fun x vs => vs = [.string ⟨⟨x⟩⟩]) (Rd := fun k => (S k ∧ k < w.heap.size) ∨ k = c5 ∨ k = c3)
    (fun v1 he => results_iterO rs s hln (rules_small hr) hs c5 c3 v1 (fun k hk => by have := he.size; rcases hk with hk | hk | hk <;> omega) (C5.ext he) (C3.ext he) (hR8.ext he) (.inr (.inl rfl)) (.inr (.inr rfl))) (fun y vs hE => by rw [hE]; rfl) (by decide) (fun k hk => by rcases hk with hk | hk | hk <;> omega) (fun k => k = b3 ∨ k = b5) (fun k hk => ⟨by omega, fun hh => by rcases hh with hh | hh | hh <;> omega⟩)
    (fun pre S1 W => pre = [] ∧ Blk W b3 [.string ⟨⟨[]⟩⟩] 9 ∧ Blk W b5 [.bool false] 4 ∧ (∀ k, S1 k ↔ k = b3 ∨ k = b5) ∧ Ext w W)
    (fun S1 W => ∃ x, stepW rs s = some x ∧ Blk W b3 [.string ⟨⟨x⟩⟩] 9 ∧ Blk W b5 [.bool true] 4 ∧ (∀ k, S1 k ↔ k = b3 ∨ k = b5) ∧ Ext w W) (fun _ _ => False)
    ?_ ?_ (fun _ _ _ h => h.elim) ⟨rfl, D3, D5, fun k => Iff.rfl, E8⟩ ?_ ?_ ?_ (fun _ _ _ _ _ _ _ h => h.elim)
  · rintro pre S1 W W' ⟨g0, g1, g2, g3, g4⟩ hc
    exact ⟨g0, hc.blk g1 (fun hh => hh.2 ((g3 _).2 (.inl rfl))), hc.blk g2 (fun hh => hh.2 ((g3 _).2 (.inr rfl))), g3, ext_chgS g4 hc fun k hk => by omega⟩
  · rintro S1 W W' ⟨x, g0, g1, g2, g3, g4⟩ hc
    exact ⟨x, g0, hc.blk g1 (fun hh => hh.2 ((g3 _).2 (.inl rfl))), hc.blk g2 (fun hh => hh.2 ((g3 _).2 (.inr rfl))), g3, ext_chgS g4 hc fun k hk => by omega⟩
  · rintro pre x vs S1 W l rfl hpre hl1 hl2 hl3 hS1 ⟨g0, g1, g2, g3, g4⟩
    subst g0
    refine Eq.mpr (er_rewriting_step_1 base _ _ _ _ _ _ _ _ _ _ _ _) ?_
    refine ⟨Below.refl _ _, fun W2 hU => dr_ok ?_⟩
    have nl3 : b3 ≠ l := fun he => hl3 ((g3 l).2 (.inl he.symm))
    have nl5 : b5 ≠ l := fun he => hl3 ((g3 l).2 (.inr he.symm))
    have zU := hU.size
    have hUc : Chg (fun k => k = l) W W2 := ⟨hU.os, hU.tape, hU.output, by omega, fun k _ hk => hU.block k hk⟩
    have hx : stepW rs s = some x := by
      unfold stepW
      obtain ⟨t, ht⟩ := hpre
      rw [← ht]; rfl
    refine stL_one (hUc.blk g1 nl3) rfl fun W3 q1 c3' s3 => dr_ok ?_
    refine stL_one (c3'.blk (hUc.blk g2 nl5) (by omega)) rfl fun W4 q2 c4' s4' => ?_
    have E2 : Ext w W2 := ext_chgS g4 hUc fun k hk => by omega
    refine ⟨?_, fun k => k = b3 ∨ k = b5, fun k hk => ⟨.inl ((g3 k).2 hk), ?_⟩, x, hx, c4'.blk q1 (by omega), q2, fun k => Iff.rfl, ext_tw (ext_tw E2 c3' (by omega)) c4' (by omega)⟩
    · exact (c3'.mono fun k _ hk => .inl ((g3 k).2 (.inl hk))).trans (c4'.mono fun k _ hk => .inl ((g3 k).2 (.inr hk)))
    · have := hS1 k ((g3 k).2 hk); omega
  · rintro D S1 W hD1 hD2 hD3 hD4 ⟨g0, g1, g2, g3, g4⟩
    have hnone : stepW rs s = none := by unfold stepW; rw [g0]; rfl
    rw [hnone] at h
    have nl3 : b3 ≠ D := fun he => hD3 ((g3 D).2 (.inl he.symm))
    have nl5 : b5 ≠ D := fun he => hD3 ((g3 D).2 (.inr he.symm))
    refine stL_one g1 rfl fun W3 q1 c3' s3 => ?_
    refine stL_one (c3'.blk g2 (by omega)) rfl fun W4 q2 c4' s4' => ?_
    have hD : W4.heap[D]? = some (.deferred (some [])) := by rw [c4'.block D (by omega) (by omega), c3'.block D hD2 (by omega)]; exact hD4
    refine ⟨D, rfl, hD, ?_⟩
    have cD : Chg (fun k => k = D) W4 (W4.putObj D (.deferred none)) := Chg.put _ _ _ rfl
    have q1' := cD.blk (c4'.blk q1 (by omega)) (by omega)
    have q2' := cD.blk q2 (by omega)
    refine ⟨_, by rw [q1'.cell]; rfl, _, by rw [q2'.cell]; rfl, ?_⟩
    exact h _ (ext_chgS (ext_tw (ext_tw g4 c3' (by omega)) c4' (by omega)) cD fun k hk => by omega)
  · rintro D S1 W hD1 hD2 hD3 hD4 ⟨x, g0, g1, g2, g3, g4⟩
    rw [g0] at h
    have nl3 : b3 ≠ D := fun he => hD3 ((g3 D).2 (.inl he.symm))
    have nl5 : b5 ≠ D := fun he => hD3 ((g3 D).2 (.inr he.symm))
    refine ⟨D, rfl, hD4, ?_⟩
    have cD : Chg (fun k => k = D) W (W.putObj D (.deferred none)) := Chg.put _ _ _ rfl
    refine ⟨_, by rw [(cD.blk g1 nl3).cell]; rfl, _, by rw [(cD.blk g2 nl5).cell]; rfl, ?_⟩
    exact h _ (ext_chgS g4 cD fun k hk => by omega)
theorem slT_strT : SlT Tryz.prog 48 9 1 16 (.string ⟨⟨[]⟩⟩) := ⟨by kernel_rfl, by kernel_rfl, rfl, by decide⟩
theorem trace_step {rs : List Rw} {n : Nat} {s x : List UInt8} (h : stepW rs s = some x) : traceG rs (n + 1) s = traceG rs n x := by
  conv => lhs; unfold traceG
  rw [h]
theorem trace_stop {rs : List Rw} {n : Nat} {s : List UInt8} (h : stepW rs s = none) : traceG rs n s = some s := by
  cases n <;> unfold traceG <;> rw [h]
theorem trace_full {rs : List Rw} {s x : List UInt8} (h : stepW rs s = some x) : traceG rs 0 s = none := by
  unfold traceG; rw [h]
/- the list under way: its last string, and what the steps lead to -/
set_option maxRecDepth 20000 in
theorem rwtrace_spec {S : Nat → Prop} {a : Option Addr} {n c : Nat} (rs : List Rw) (s : List UInt8) (hln : rs.length ≤ 64) (hr : rulesE rs = 0) (hs : s.length ≤ 64) (hw : wordlyF s = true) (hR : RowAt encRw S w a n rs)
    (h : ∀ a' n' c' w' (L : List (List UInt8)), (∀ r, traceG rs 4095 s = some r → RowAt Sh.encStr (fun k => w.heap.size ≤ k) w' a' n' (L ++ [r]) ∧ L.length ≤ 4095) → Ext w w' → R (.returned (.tuple ⟨[.slice a' n' c', .int .i64 (if (traceG rs 4095 s).isNone = true then 4 else 0)]⟩)) w') :
    Calls Tryz.prog F_rewriting_trace ⟨[.slice a n c, .string ⟨⟨s⟩⟩]⟩ w R := by
  apply c_rewriting_trace
  refine al_intro fun b3 w4 hb3 B3 e4 s4 => ?_
  refine ⟨fun oa on oc W m => ∃ (L : List (List UInt8)) (x : List UInt8), on = L.length + 1 ∧ m = 4095 - L.length ∧ L.length ≤ 4095 ∧ OwnL Sh.encStr W w.heap.size 9 oa on oc (L ++ [x]) ∧ traceG rs m x = traceG rs 4095 s ∧ x.length ≤ 64 ∧ wordlyF x = true ∧ Ext w W,
    ⟨_, [], s, rfl, rfl, by simp, ?_, rfl, hs, hw, e4⟩, ?_⟩
  · have hb : Blk w4 b3 ((List.replicate 1 (Sh.encStr.enc s)).flatten) 9 := B3
    have := OwnL.made (E := Sh.encStr) (x := s) (n := 1) (B := w.heap.size) hb (by omega) (by decide)
    exact this
  rintro oa on oc W k ⟨L, x, rfl, hk, hL, hO, htr, hx, hwx, he⟩ _
  have zW := he.size
  have hg : (L ++ [x])[L.length]? = some x := by simp
  obtain ⟨bb, o, hq, _, _, hc⟩ := hO.out.get hg
  have ei : IntKind.i64.wrap (((L.length + 1 : Nat) : Int) - 1) = (L.length : Int) := by rw [wrap_id (by omega)]; omega
  rw [ei]
  refine hq _ ⟨x, hc 0 _ rfl, ?_⟩
  refine rwstep_spec rs x hln hr hx (hR.ext he) fun w13 e13 => ⟨_, _, rfl, ?_⟩
  have E13 := ext_trans he e13
  have hO13 := hO.ext e13
  cases hst : stepW rs x with
  | none =>
    simp only [Option.isSome_none, Bool.not_false, br_t]
    have ht := trace_stop (n := k) hst
    rw [htr] at ht
    rw [ht] at h
    refine h oa _ oc w13 L (fun r hr' => ?_) E13
    rw [← Option.some.inj hr']
    exact ⟨(OwnL.out hO13).imp fun k hk _ => (Owns.bk hO13 hk).1, hL⟩
  | some y =>
    simp only [Option.isSome_some, Bool.not_true, br_f, Option.getD_some]
    refine br_split (fun g => ?_) (fun g => ?_)
    · have hk0 : k = 0 := by omega
      subst hk0
      rw [trace_full hst] at htr
      rw [← htr] at h
      exact h none 0 0 w13 [] (fun r hr' => by cases hr') E13
    · obtain ⟨q1, q2, q3⟩ := step_word hr hwx (List.mem_of_head? (show (resW rs x).head? = some y from hst))
      refine al_intro fun b16 w17 hb16 B16 e17 s17 => ?_
      have z13 := E13.size
      have B16' : Blk w17 b16 (Sh.encStr.enc y) 9 := B16
      refine OwnL.app1 (P := Tryz.prog) slT_strT (hO13.ext e17) (by omega) B16' (by omega) (by omega) fun a' c'' w19 ho hcg hn => ?_
      have z17 := e17.size
      refine ⟨k - 1, by omega, L ++ [x], y, by simp, by simp; omega, by simp; omega, ?_, ?_, by omega, q1, ?_⟩
      · exact ho
      · rw [← htr, show k = (k - 1) + 1 by omega, trace_step hst, Nat.add_sub_cancel]
      · exact ext_chgS (ext_trans E13 e17) hcg fun k hk => (hO13.bk hk).1
theorem rwE_eq (rs : List Rw) (s : List UInt8) : rwE rs s = if chkE rs s ≠ 0 then chkE rs s else if (traceG rs 4095 s).isNone = true then 4 else 0 := by
  unfold rwE chkE
  by_cases h1 : ruleE rs ≠ 0
  · rw [if_pos h1, if_pos h1]; rfl
  · rw [if_neg h1, if_neg h1]
    by_cases h2 : 64 < s.length
    · rw [if_pos h2, if_pos h2]; rfl
    · rw [if_neg h2, if_neg h2]
      by_cases h3 : wordlyF s = false
      · rw [if_pos h3, if_pos h3]; rfl
      · rw [if_neg h3, if_neg h3]; rfl
theorem chk_zero {rs : List Rw} {s : List UInt8} (h : chkE rs s = 0) : rs.length ≤ 64 ∧ rulesE rs = 0 ∧ s.length ≤ 64 ∧ wordlyF s = true := by
  unfold chkE at h
  split at h
  · cases h
  split at h
  · cases h
  split at h
  · cases h
  rename_i h1 h2 h3
  have h1 : ruleE rs = 0 := Decidable.not_not.1 h1
  unfold ruleE at h1
  split at h1
  · cases h1
  · exact ⟨by omega, h1, by omega, by simpa using h3⟩
theorem rwNorm_spec {S : Nat → Prop} {a : Option Addr} {n c : Nat} (rs : List Rw) (s : List UInt8) (hsm : smallR rs) (hR : RowAt encRw S w a n rs)
    (h : ∀ w', Ext w w' → R (.returned (.tuple ⟨[.string ⟨⟨rwR rs s⟩⟩, .int .i64 (rwE rs s)]⟩)) w') : Calls Tryz.prog F_rewriting_Normalize ⟨[.slice a n c, .string ⟨⟨s⟩⟩]⟩ w R := by
  apply c_rewriting_Normalize
  apply c_rewriting_Trace
  refine rwcheck_spec rs s hsm hR fun w4 e4 => ⟨_, rfl, ?_⟩
  have hE := rwE_eq rs s
  refine br_split (fun g => ⟨_, _, _, _, rfl, br_split (fun _ => ?_) (fun hh => absurd g hh)⟩) (fun g => ?_)
  · rw [if_pos g] at hE
    have hr : rwR rs s = [] := by unfold rwR; rw [hE, if_pos g]
    rw [hr, hE] at h
    exact h w4 e4
  · have g0 : chkE rs s = 0 := Decidable.not_not.1 g
    rw [if_neg g] at hE
    obtain ⟨q1, q2, q3, q4⟩ := chk_zero g0
    refine rwtrace_spec rs s q1 q2 q3 q4 (hR.ext e4) fun a' n' c' w' L hL e' => ⟨_, _, _, _, rfl, _, _, _, _, rfl, ?_⟩
    rw [← hE]
    cases ht : traceG rs 4095 s with
    | none =>
      rw [ht] at hE
      have hE : rwE rs s = 4 := hE
      have hr : rwR rs s = [] := by unfold rwR; rw [hE]; rfl
      rw [hr, hE] at h
      rw [hE]
      exact br_split (fun _ => h w' (ext_trans e4 e')) (fun hh => absurd (by decide) hh)
    | some r =>
      rw [ht] at hE
      have hE : rwE rs s = 0 := hE
      have hr : rwR rs s = r := by unfold rwR; rw [hE, ht]; rfl
      rw [hr, hE] at h
      rw [hE]
      refine br_split (fun hh => absurd rfl hh) (fun _ => ?_)
      obtain ⟨hrow, hL5⟩ := hL r ht
      have hg : (L ++ [r])[L.length]? = some r := by simp
      obtain ⟨bb, o, hq, _, _, hc⟩ := hrow.get hg
      have hn := hrow.1
      have hsz : n' = L.length + 1 := by rw [hn]; simp
      subst hsz
      have ei : IntKind.i64.wrap (((L.length + 1 : Nat) : Int) - 1) = (L.length : Int) := by rw [wrap_id (by omega)]; omega
      rw [ei]
      exact hq _ ⟨r, hc 0 _ rfl, h w' (ext_trans e4 e')⟩
end
end Go.Proofs
namespace Go.Proofs
open Go Go.Sh Go.RowKit

/- bits of flags -/
theorem bitA_facts {g : Int} (h0 : 0 ≤ g) (h1 : g ≤ 31) : decide (bitA .i64 g 10 = 0) = wordG g ∧ decide (bitA .i64 g 2 ≠ 0) = hasG g 2 ∧ decide (bitA .i64 g 8 ≠ 0) = hasG g 8 ∧ decide (bitA .i64 g 16 = 0) = !hasG g 16 := by
  have key : ∀ n : Fin 32, decide (bitA .i64 (n.val : Int) 10 = 0) = wordG (n.val : Int) ∧ decide (bitA .i64 (n.val : Int) 2 ≠ 0) = hasG (n.val : Int) 2 ∧ decide (bitA .i64 (n.val : Int) 8 ≠ 0) = hasG (n.val : Int) 8 ∧ decide (bitA .i64 (n.val : Int) 16 = 0) = !hasG (n.val : Int) 16 := by decide +kernel
  have := key ⟨g.toNat, by omega⟩
  have e : ((g.toNat : Nat) : Int) = g := by omega
  simp only [e] at this
  exact this
theorem blk6' {w : World} {b : Nat} {v0 v1 v2 v3 v4 v5 : Value} {T : TypeId} (h : Blk w b [v0, v1, v2, v3, v4, v5] T) :
    w.cell? ((⟨b, 0, none⟩ : Addr).add 0) = some v0 ∧ w.cell? ((⟨b, 0, none⟩ : Addr).add 1) = some v1 ∧ w.cell? ((⟨b, 0, none⟩ : Addr).add 2) = some v2 ∧ w.cell? ((⟨b, 0, none⟩ : Addr).add 3) = some v3 ∧ w.cell? ((⟨b, 0, none⟩ : Addr).add 4) = some v4 ∧ w.cell? ((⟨b, 0, none⟩ : Addr).add 5) = some v5 := by
  simp only [add_none, h.cell]; exact ⟨rfl, rfl, rfl, rfl, rfl, rfl⟩
abbrev aggT (x : Tok) : Value := .agg ⟨[.string ⟨⟨x.t⟩⟩, .string ⟨⟨x.m⟩⟩, .string ⟨⟨x.p.1⟩⟩, .int .i64 x.p.2, .int .i64 x.g, .string ⟨⟨x.a⟩⟩]⟩
section
variable {R : Ending → World → Prop} {w : World}
theorem isWordT_spec (x : Tok) (h0 : 0 ≤ x.g) (h1 : x.g ≤ 31) (h : ∀ w', Ext w w' → R (.returned (.bool (wordG x.g))) w') : Calls Tryz.prog F_tokenizer_isWord ⟨[aggT x]⟩ w R := by
  apply c_tokenizer_isWord
  refine al_intro fun b w8 hb B8 e8 s8 => ⟨_, (blk6' B8).2.2.2.2.1, ?_⟩
  rw [(bitA_facts h0 h1).1]
  exact h w8 e8
theorem named_spec (s : List UInt8) (h : R (.returned (.bool (namedB s))) w) : Calls Tryz.prog F_tokenizer_named ⟨[.string ⟨⟨s⟩⟩]⟩ w R := by
  apply c_tokenizer_named
  unfold namedB at h
  refine br_split (fun g => ?_) (fun g => IsName_spec s ⟨_, rfl, ?_⟩)
  · rw [decide_eq_true g] at h; exact h
  · rw [decide_eq_false g] at h; exact h
theorem nrmE_snoc (rs : List Rw) : ∀ (l : List Tok) (x : Tok), nrmE rs l = 0 → nrmE rs (l ++ [x]) = if wordG x.g = true ∧ rwE rs x.t ≠ 0 then rwE rs x.t else 0
  | [], x, _ => by simp only [List.nil_append, nrmE]
  | y :: l, x, h => by
    rw [nrmE] at h
    split at h
    · rename_i hh; exact absurd h hh.2
    · rename_i hh
      rw [List.cons_append, nrmE, if_neg hh, nrmE_snoc rs l x h]
theorem nrmE_app (rs : List Rw) : ∀ (l m : List Tok), nrmE rs l ≠ 0 → nrmE rs (l ++ m) = nrmE rs l
  | [], m, h => absurd rfl h
  | y :: l, m, h => by
    rw [nrmE] at h
    rw [List.cons_append, nrmE, nrmE]
    split
    · rfl
    · rename_i hh
      rw [if_neg hh] at h
      exact nrmE_app rs l m h
set_option maxRecDepth 20000 in
theorem normalized_spec {S : Nat → Prop} {B : Nat} {a0 : Option Addr} {n0 c0 : Nat} {a : Option Addr} {n c : Nat} (rs : List Rw) (l : List Tok) (hsm : smallR rs) (hR : RowAt encRw S w a0 n0 rs) (hO : OwnL encTk w B 31 a n c l) (hd : ∀ k, S k → ¬ bk a k) (hg : ∀ x ∈ l, 0 ≤ x.g ∧ x.g ≤ 31) (hn : n ≤ 1000000000)
    (h : ∀ w', Chg (bk a) w w' → (nrmE rs l = 0 → OwnL encTk w' B 31 a n c (l.map (nrmT rs))) → R (.returned (.tuple ⟨[if nrmE rs l = 0 then .slice a n c else .slice none 0 0, .int .i64 (nrmE rs l)]⟩)) w') :
    Calls Tryz.prog F_tokenizer_normalized ⟨[.slice a0 n0 c0, .slice a n c]⟩ w R := by
  apply c_tokenizer_normalized
  have hln := OwnL.length hO
  refine ⟨fun i W m => ∃ k : Nat, i = k ∧ k ≤ n ∧ m = n - k ∧ Chg (bk a) w W ∧ OwnL encTk W B 31 a n c ((l.take k).map (nrmT rs) ++ l.drop k) ∧ nrmE rs (l.take k) = 0, ⟨_, 0, rfl, by omega, rfl, Chg.refl _ _, by simpa using hO, rfl⟩, ?_⟩
  rintro _ W m ⟨k, rfl, hk, rfl, hcW, hOW, hz⟩ _
  refine br_split (fun hlt => ?_) (fun hge => ?_)
  · have hkl : k < l.length := by omega
    have hget : ∀ y : Tok, ((l.take k).map (nrmT rs) ++ y :: l.drop (k + 1))[k]? = some y := fun y => by
      rw [List.getElem?_append_right (by simp; omega)]; simp [Nat.min_eq_left (by omega : k ≤ l.length)]
    have hset : ∀ y z : Tok, ((l.take k).map (nrmT rs) ++ y :: l.drop (k + 1)).set k z = (l.take k).map (nrmT rs) ++ z :: l.drop (k + 1) := fun y z => by
      rw [List.set_append_right _ _ (by simp; omega)]; simp [Nat.min_eq_left (by omega : k ≤ l.length)]
    have hdr : l.drop k = l[k] :: l.drop (k + 1) := List.drop_eq_getElem_cons hkl
    rw [hdr] at hOW
    have htk : l.take (k + 1) = l.take k ++ [l[k]] := List.take_succ_eq_append_getElem hkl
    obtain ⟨hg0, hg1⟩ := hg l[k] (List.getElem_mem hkl)
    generalize hx : l[k] = x at *
    obtain ⟨g, ha, hq, hc, hst⟩ := OwnL.storeCell hOW (hget x)
    refine hq _ ⟨x.t, by rw [add_none]; exact hc 0 _ rfl, hq _ ?_⟩
    rw [add_none]
    refine hst 1 _ (setM x x.t) _ (by decide) rfl rfl fun w11 ho11 c11 s11 => ?_
    rw [hset] at ho11
    obtain ⟨g', ha', hq', hc', hst'⟩ := OwnL.storeCell ho11 (hget (setM x x.t))
    have hgg : g' = g := by rw [ha] at ha'; simpa using ha'.symm
    subst hgg
    have hcw11 := hcW.trans c11
    refine hq' _ ⟨_, by rw [add_none]; exact hc' 0 _ rfl, _, by rw [add_none]; exact hc' 1 _ rfl, _, by rw [add_none]; exact hc' 2 _ rfl, _, by rw [add_none]; exact hc' 3 _ rfl, _, by rw [add_none]; exact hc' 4 _ rfl, _, by rw [add_none]; exact hc' 5 _ rfl, ?_⟩
    refine isWordT_spec (setM x x.t) hg0 hg1 fun w20 e20 => ⟨_, rfl, ?_⟩
    have ho20 := Owns.ext ho11 e20
    have hcw20 := hcw11.trans (.of_ext e20)
    have hw : (setM x x.t).g = x.g := rfl
    rw [hw]
    cases hwg : wordG x.g with
    | false =>
      simp only [Bool.not_false, br_t]
      have hnx : nrmT rs x = setM x x.t := by unfold nrmT; rw [hwg]; rfl
      refine ⟨n - (k + 1), by omega, k + 1, by rw [wrap_nat (by omega)], by omega, rfl, hcw20, ?_, ?_⟩
      · rw [htk, List.map_append, List.map_singleton, hnx, List.append_assoc]; exact ho20
      · rw [htk, nrmE_snoc rs _ _ hz, if_neg (fun hh => by rw [hwg] at hh; cases hh.1)]
    | true =>
      simp only [Bool.not_true, br_f]
      obtain ⟨g2, ha2, hq2, hc2, hst2⟩ := OwnL.storeCell ho20 (hget (setM x x.t))
      have hgg : g2 = g' := by rw [ha'] at ha2; simpa using ha2.symm
      subst hgg
      refine hq2 _ ⟨_, by rw [add_none]; exact hc2 0 _ rfl, ?_⟩
      have hR20 : RowAt encRw S w20 a0 n0 rs := hR.chg hcw20 hd
      refine rwNorm_spec rs x.t hsm hR20 fun w26 e26 => ⟨_, _, rfl, ?_⟩
      have hcw26 := hcw20.trans (.of_ext e26)
      have ho26 := Owns.ext ho20 e26
      refine br_split (fun g3 => ?_) (fun g3 => ?_)
      · have he : nrmE rs l = rwE rs x.t := by
          have h1 : nrmE rs (l.take (k + 1)) = rwE rs x.t := by rw [htk, nrmE_snoc rs _ _ hz, if_pos ⟨hwg, g3⟩]
          have h2 := nrmE_app rs (l.take (k + 1)) (l.drop (k + 1)) (by rw [h1]; exact g3)
          rw [List.take_append_drop] at h2
          rw [h2, h1]
        rw [he] at h
        have := h w26 hcw26 (fun hh => absurd hh g3)
        rw [if_neg g3] at this
        exact this
      · obtain ⟨g4, ha4, hq4, hc4, hst4⟩ := OwnL.storeCell ho26 (hget (setM x x.t))
        have hgg : g4 = g2 := by rw [ha2] at ha4; simpa using ha4.symm
        subst hgg
        refine hq4 _ ?_
        rw [add_none]
        refine hst4 1 _ (setM x (rwR rs x.t)) _ (by decide) rfl rfl fun w30 ho30 c30 s30 => ?_
        rw [hset] at ho30
        have hnx : nrmT rs x = setM x (rwR rs x.t) := by unfold nrmT; rw [hwg]; rfl
        refine ⟨n - (k + 1), by omega, k + 1, by rw [wrap_nat (by omega)], by omega, rfl, hcw26.trans c30, ?_, ?_⟩
        · rw [htk, List.map_append, List.map_singleton, hnx, List.append_assoc]; exact ho30
        · rw [htk, nrmE_snoc rs _ _ hz, if_neg (fun hh => hh.2 (Decidable.not_not.1 g3))]
  · have hkn : k = n := by omega
    subst hkn
    rw [List.take_of_length_le (by omega)] at hz hOW
    rw [List.drop_eq_nil_of_le (by omega), List.append_nil] at hOW
    rw [hz] at h
    exact h W hcW fun _ => hOW
/- whether some token has a property -/
theorem ContainsT_spec {S : Nat → Prop} {a : Option Addr} {n c : Nat} (l : List Tok) (q : Tok → Bool) (fn : FuncId) (hok : okFn Tryz.prog fn = true) (hp : ∀ {R : Ending → World → Prop} {v : World} (x : Tok), x ∈ l → (∀ v', Ext v v' → R (.returned (.bool (q x))) v') → Calls Tryz.prog fn ⟨[aggT x]⟩ v R)
    (hR : RowAt encTk S w a n l) (hn : n ≤ 4611686018427387904) (h : ∀ w', Ext w w' → R (.returned (.bool (l.any q))) w') : Calls Tryz.prog F_slices_ContainsFunc_of_api_Token_api_Token ⟨[.slice a n c, .func (.func fn) #[] #[]]⟩ w R := by
  apply c_slices_ContainsFunc_of_api_Token_api_Token
  apply c_slices_IndexFunc_of_api_Token_api_Token
  have hln := hR.1
  refine ⟨fun i W m => ∃ k : Nat, i = k ∧ k ≤ n ∧ m = n - k ∧ Ext w W ∧ (l.take k).any q = false, ⟨_, 0, rfl, by omega, rfl, Below.refl _ _, rfl⟩, ?_⟩
  rintro _ W m ⟨k, rfl, hk, rfl, he, hz⟩ _
  refine br_split (fun hlt => ?_) (fun hge => ?_)
  · have hkl : k < l.length := by omega
    obtain ⟨bb, o, hq, _, _, hc⟩ := (hR.ext he).get (show l[k]? = some l[k] by simp [hkl])
    refine hq _ ⟨_, by rw [add_none]; exact hc 0 _ rfl, _, by rw [add_none]; exact hc 1 _ rfl, _, by rw [add_none]; exact hc 2 _ rfl, _, by rw [add_none]; exact hc 3 _ rfl, _, by rw [add_none]; exact hc 4 _ rfl, _, by rw [add_none]; exact hc 5 _ rfl, hok, ?_⟩
    refine hp l[k] (List.getElem_mem hkl) fun w16 e16 => ⟨_, rfl, br_cases (fun g => ?_) (fun g => ?_)⟩
    · refine ⟨_, rfl, ?_⟩
      have : l.any q = true := List.any_eq_true.2 ⟨l[k], List.getElem_mem hkl, g⟩
      rw [decide_eq_true (show (0 : Int) ≤ (k : Int) by omega), ← this]
      exact h w16 (ext_trans he e16)
    · refine ⟨n - (k + 1), by omega, k + 1, by rw [wrap_nat (by omega)], by omega, rfl, ext_trans he e16, ?_⟩
      rw [List.take_succ_eq_append_getElem hkl, List.any_append, hz]; simp [g]
  · rw [List.take_of_length_le (by omega)] at hz
    rw [hz] at h
    exact ⟨_, rfl, h W he⟩
end
end Go.Proofs
namespace Go.Proofs
open Go Go.Sh Go.RowKit

theorem Owns.weak {w : World} {B B' : Nat} {e : TypeId} {size : Nat} {a : Option Addr} {n c : Nat} {xs : List Value} (h : Owns w B e size a n c xs) (hB : B' ≤ B) : Owns w B' e size a n c xs := by
  refine ⟨h.1, ?_⟩
  rcases h.2 with h | ⟨g, cap, cur, e1, e2, e3⟩
  · exact .inl h
  · exact .inr ⟨g, cap, cur, e1, Nat.le_trans hB e2, e3⟩
theorem amN_len (p : Ps) (k t n ps) (u : Bool) (nm : List UInt8) : (amN p ⟨⟨k, t, n, ps⟩, u, nm⟩).length ≤ t.length + 1 := by
  unfold amN
  split
  · unfold amT; rw [List.length_map]; exact Nat.le_succ _
  · split
    · simp
    · split <;> simp
theorem ams_len : ∀ (f : Fo) (p : Ps) (u : Bool) (nm : List UInt8), (amsF p f u nm).length ≤ tlen f + f.size
  | .nil, _, _, _ => Nat.zero_le _
  | .cons k t n ps r, p, u, nm => by
    have h1 := amN_len p k t n ps u nm
    have h2 := ams_len ps (posN p ⟨k, t, n, ps⟩).1 (u || decide (k = 7)) (if k = 11 then t else nm)
    have h3 := ams_len r (endL (posN p ⟨k, t, n, ps⟩).1 (nodesF ps)) u nm
    rw [amsF_cons, List.length_append, List.length_append]
    simp only [tlen, Fo.size]
    omega
theorem addB_len (st : Bs) (x : Am) : (lstB (addB st x)).length ≤ (lstB st).length + 1 ∧ (wrdB (addB st x)).length ≤ (wrdB st).length + 1 := by
  have hsh := shut_len st
  cases x with
  | ch c p u nm =>
    obtain ⟨out, cur, j, v⟩ := st
    have key : ∀ st' : Bs, (st' = (if letB c = true then ⟨shut ⟨out, cur, j, v⟩, some (⟨[], [], p, flI u j v 0, nm⟩, [c]), true, false⟩ else if kd c = 6 then ⟨shut ⟨out, cur, j, v⟩, none, false, v⟩ else ⟨shut ⟨out, cur, j, v⟩ ++ [⟨[c], [], p, flI u j v 8, nm⟩], none, true, false⟩ : Bs)) →
        (lstB st').length ≤ (lstB ⟨out, cur, j, v⟩).length + 1 ∧ (wrdB st').length ≤ (wrdB ⟨out, cur, j, v⟩).length + 1 := by
      intro st' he
      subst he
      split
      · simp [lstB, wrdB]; simp [lstB] at hsh; omega
      · split
        · simp [lstB, wrdB]; simp [lstB] at hsh; omega
        · simp [lstB, wrdB]; simp [lstB] at hsh; omega
    cases cur with
    | none => exact key _ rfl
    | some ts =>
      cases hi : innC c with
      | true => simp [addB, hi, lstB, wrdB]
      | false => exact key _ (by simp only [addB, hi])
  | gap n p u nm =>
    simp only [addB, lstB, wrdB, List.length_append, List.length_singleton, List.length_nil]
    rw [hsh]
    exact ⟨Nat.le_refl _, Nat.zero_le _⟩
  | brk x =>
    simp only [addB, lstB, wrdB, List.length_nil]
    rw [hsh]
    exact ⟨Nat.le_succ _, Nat.zero_le _⟩
theorem fold_len : ∀ (l : List Am) (st : Bs), (lstB (l.foldl addB st)).length ≤ (lstB st).length + l.length ∧ (wrdB (l.foldl addB st)).length ≤ (wrdB st).length + l.length
  | [], st => ⟨Nat.le_refl _, Nat.le_refl _⟩
  | x :: l, st => by
    have h1 := addB_len st x
    have h2 := fold_len l (addB st x)
    rw [List.foldl_cons, List.length_cons]
    omega
theorem fl_bd (u j v : Bool) (base : Int) (hb : base = 0 ∨ base = 2 ∨ base = 8) : 0 ≤ flI u j v base ∧ flI u j v base ≤ 31 := by
  obtain ⟨h1, h2, _⟩ := flI_has u j v base hb
  exact ⟨h1, h2⟩
theorem StOk.add {st : Bs} (h : StOk st) (x : Am) : StOk (addB st x) := by
  cases x with
  | ch c p u nm =>
    obtain ⟨out, cur, j, v⟩ := st
    have key : ∀ st' : Bs, (st' = (if letB c = true then ⟨shut ⟨out, cur, j, v⟩, some (⟨[], [], p, flI u j v 0, nm⟩, [c]), true, false⟩ else if kd c = 6 then ⟨shut ⟨out, cur, j, v⟩, none, false, v⟩ else ⟨shut ⟨out, cur, j, v⟩ ++ [⟨[c], [], p, flI u j v 8, nm⟩], none, true, false⟩ : Bs)) → StOk st' := by
      intro st' he
      subst he
      split
      · refine ⟨fun t s hh => ?_, fun _ => by simp [lstB]⟩
        obtain ⟨rfl, rfl⟩ := Prod.mk.inj (Option.some.inj hh)
        have := fl_bd u j v 0 (by simp)
        exact ⟨by simp, rfl, this.1, this.2⟩
      · split
        · exact ⟨fun t s hh => (by cases hh), fun hh => (by cases hh)⟩
        · exact ⟨fun t s hh => (by cases hh), fun _ => by simp [lstB]⟩
    cases cur with
    | none => exact key _ rfl
    | some ts =>
      obtain ⟨t, s⟩ := ts
      cases hi : innC c with
      | true =>
        obtain ⟨h1, h2, h3, h4⟩ := h.cur t s rfl
        have e : addB ⟨out, some (t, s), j, v⟩ (.ch c p u nm) = ⟨out, some ({ t with g := orU t.g u }, s ++ [c]), j, v⟩ := by simp only [addB, hi]
        rw [e]
        refine ⟨fun t' s' hh => ?_, fun _ => by simp [lstB]⟩
        obtain ⟨rfl, rfl⟩ := Prod.mk.inj (Option.some.inj hh)
        refine ⟨by simp, h2, ?_, ?_⟩
        · show 0 ≤ orU t.g u
          unfold orU; split <;> omega
        · show orU t.g u ≤ 31
          unfold orU; split <;> omega
      | false => exact key _ (by simp only [addB, hi])
  | gap n p u nm => exact ⟨fun t s hh => (by cases hh), fun _ => by simp [addB, lstB]⟩
  | brk x => exact ⟨fun t s hh => (by cases hh), fun hh => (by cases hh)⟩
theorem StOk.fold : ∀ (l : List Am) {st : Bs}, StOk st → StOk (l.foldl addB st)
  | [], _, h => h
  | x :: l, _, h => StOk.fold l (h.add x)
theorem ok0 : StOk bs0 := ⟨fun t s hh => (by cases hh), fun hh => (by cases hh)⟩
theorem okA_gap : ∀ {l : List Am} {b : Bool}, okA b l → ∀ n p u nm, .gap n p u nm ∈ l → 1 ≤ n ∧ n ≤ 64
  | [], _, _, _, _, _, _, h => by cases h
  | .ch c p _ nm :: r, b, ⟨_, _, _, _, h5⟩, n, q, u, m, h => by
    rcases List.mem_cons.1 h with hh | hh
    · cases hh
    · exact okA_gap h5 n q u m hh
  | .gap k p _ nm :: r, _, ⟨h1, _, _, h4⟩, n, q, u, m, h => by
    rcases List.mem_cons.1 h with hh | hh
    · cases hh; exact h1
    · exact okA_gap h4 n q u m hh
  | .brk _ :: r, _, h1, n, q, u, m, h => by
    rcases List.mem_cons.1 h with hh | hh
    · cases hh
    · exact okA_gap (l := r) h1 n q u m hh
theorem cnt_size (k : Int) (f : Fo) : cntF k f ≤ f.size := by
  unfold cntF ofK
  have := List.length_filter_le (fun x : Nn => decide (x.k = k)) (nodesF f)
  rw [nodesF_len] at this
  exact this
section
variable {R : Ending → World → Prop} {w : World}
theorem Tokens1_spec (x : Tok) (h : ∀ w', Ext w w' → R (.returned (.bool (decide (64 < x.t.length)))) w') : Calls Tryz.prog F_tokenizer_Tokens_1 ⟨[aggT x]⟩ w R := by
  apply c_tokenizer_Tokens_1
  refine al_intro fun b w8 hb B8 e8 s8 => ⟨_, (blk6' B8).1, ?_⟩
  have : decide ((64 : Int) < (x.t.length : Int)) = decide (64 < x.t.length) := decide_eq_decide.2 (by omega)
  rw [this]
  exact h w8 e8
theorem builder_new {b : Nat} (hb : Blk w b (bsCells none 0 0 (.pointer none) none 0 0 false false false) 113) : BsSt w b bs0 (fun k => k = b) :=
  ⟨none, none, .pointer none, 0, 0, ⟨hb, .inl rfl, Owns.nil _ _ _ _, Owns.nil _ _ _ _⟩, fun k => by simp [bk]⟩
set_option maxRecDepth 40000 in
theorem Tokens_spec {S S2 : Nat → Prop} {a a2 : Option Addr} {n c n2 c2 : Nat} (p : Ps) (f : Fo) (rs : List Rw) (hs : small f) (hF : Forms w) (hf : SlF S w a n f) (hsm : smallR rs) (hR : RowAt encRw S2 w a2 n2 rs)
    (h : ∀ a' n' c' w', n' = (tksR p f rs).length → OwnL encTk w' w.heap.size 31 a' n' c' (tksR p f rs) → Ext w w' → R (.returned (.tuple ⟨[.slice a' n' c', .int .i64 (tksE p f rs)]⟩)) w') :
    Calls Tryz.prog F_tokenizer_Tokens ⟨[.agg ⟨[.string ⟨⟨p.1⟩⟩, .int .i64 p.2]⟩, .slice a n c, .slice a2 n2 c2]⟩ w R := by
  apply c_tokenizer_Tokens
  refine al_intro fun b5 w6 hb5 B5 e6 s6 => ?_
  have bad : ∀ (e : Int) (v : World), e ≠ 0 → tksE p f rs = e → Ext w v → R (.returned (.tuple ⟨[.slice none 0 0, .int .i64 e]⟩)) v := by
    intro e v he h0 hv
    have hr : tksR p f rs = [] := by unfold tksR; rw [h0, if_pos he]
    rw [hr, h0] at h
    exact h none 0 0 v rfl (Owns.nil _ _ _ _) hv
  intro K7 hK7
  have k7 : ∀ w10, checkT f = 0 → ruleE rs = 0 → Ext w6 w10 → K7 none 0 0 0 w10 := by
    intro w10 hck hru e10
    refine hK7 _ _ _ _ _ fun _ => ?_
    obtain ⟨q1, q2, q3⟩ := check_zero hck
    have hok : okF false f := by
      unfold checkT at hck
      split at hck
      · split at hck
        · rename_i hh; exact absurd hck hh
        · rename_i hh; exact ((all_split f false false).1 (Decidable.not_not.1 hh)).1
      · cases hck
    have E10 := ext_trans e6 e10
    have n1 : ¬ (checkT f ≠ 0 ∨ ruleE rs ≠ 0) := by rw [hck, hru]; simp
    intro K11 hK11
    have k11 : ¬ (p.2 < 0 ∨ 4096 < p.2) → K11 none 0 0 0 w10 := by
      intro n2'
      refine hK11 _ _ _ _ _ fun _ => ?_
      obtain ⟨d0, d1⟩ := blk2' (B5.ext e10)
      refine ⟨_, d0, named_spec _ ⟨_, rfl, br_cases (fun g => ?_) (fun g => ?_)⟩⟩
      · refine bad 14 w10 (by decide) ?_ E10
        unfold tksE; rw [if_neg n1, if_neg n2', if_pos (by simpa using g)]
      have n3 : ¬ namedB p.1 = false := by simpa using g
      have hc8 := cnt_size 8 f
      have hc9 := cnt_size 9 f
      have co : ∀ k : Int, 1 ≤ k → k ≤ 11 → couE k f = 0 ∧ couR k f = cntF k f := fun k h1 h2 => by
        have he : couE k f = 0 := by unfold couE; rw [if_neg (by rw [hck]; simp), if_neg (by omega)]
        exact ⟨he, by unfold couR; rw [he]; rfl⟩
      refine CountT_spec 8 f hs (hF.ext E10) (hf.ext E10) fun w20 e20 => ⟨_, _, rfl, ?_⟩
      have E20 := ext_trans E10 e20
      refine CountT_spec 9 f hs (hF.ext E20) (hf.ext E20) fun w24 e24 => ⟨_, _, rfl, ?_⟩
      have E24 := ext_trans E20 e24
      rw [(co 8 (by decide) (by decide)).2, (co 9 (by decide) (by decide)).2, wrap_id (by omega)]
      refine br_split (fun g4 => ?_) (fun g4 => ?_)
      · refine bad 13 w24 (by decide) ?_ E24
        unfold tksE; rw [if_neg n1, if_neg n2', if_neg n3, if_pos (by omega)]
      have n4 : ¬ cntF 8 f + cntF 9 f ≠ 0 := by omega
      have hE : tksE p f rs = if longT (cutT p f) = true then 4 else nrmE rs (cutT p f) := by unfold tksE; rw [if_neg n1, if_neg n2', if_neg n3, if_neg n4]
      refine al_intro fun b27 w28 hb27 B27 e28 s28 => ?_
      have E28 := ext_trans E24 e28
      obtain ⟨f0, f1⟩ := blk2' (((B5.ext e10).ext (ext_trans e20 e24)).ext e28)
      refine ⟨_, f0, _, f1, ?_⟩
      refine atoms_spec p fun b1 b2 w32 hb1 hb2 hz32 C1 C2 e32 => ⟨_, _, _, rfl, fun base => ?_⟩
      have E32 := ext_trans E28 e32
      have z28 := E28.size
      have z24 := E24.size
      have z32 := E32.size
      have hlenA := ams_len f p false []
      have hlA : (amsF p f false []).length ≤ 268439552 := by omega
      have hplo : plOk p := ⟨by omega, by
        have : namedB p.1 = true := by simpa using n3
        unfold namedB at this
        rw [Bool.or_eq_true, decide_eq_true_eq] at this
        exact this⟩
      have hgapA := okA_gap (okA_ams (u := false) (nm := []) hok hplo (.inl rfl))
      rw [cd_tokenizer_Tokens_1]
      have hf32 : SlF (fun k => (S k ∧ k < w.heap.size) ∨ k = b1 ∨ k = b2) w32 a n f := (((hf.imp (S' := fun k => S k ∧ k < w.heap.size) fun k hk hl => ⟨hk, hl⟩).ext E32).imp fun k hk _ => .inl hk)
      refine RFw_lawO anA_tokenizer_Tokens_1 anB_tokenizer_Tokens_1 (gf := F_tokenizer_atoms_1) rfl (by kernel_rfl) (xs := amsF p f false []) (E := AmV) (Rd := fun k => (S k ∧ k < w.heap.size) ∨ k = b1 ∨ k = b2)
        (fun v1 he => atoms_iterO f p (by omega) hok (by omega) (by omega) b1 b2 v1 (fun k hk => by have := he.size; rcases hk with hk | hk | hk <;> omega) (C1.ext he) (C2.ext he) (hf32.ext he)) (fun y vs hE => by obtain ⟨cs, rfl, _⟩ := hE; rfl) (by decide) (fun k hk => by rcases hk with hk | hk | hk <;> omega)
        (fun k => k = b27) (fun k hk => ⟨by omega, fun hh => by rcases hh with hh | hh | hh <;> omega⟩)
        (fun pre S1 W => BsSt W b27 (pre.foldl addB bs0) S1 ∧ Ext w W) (fun _ _ => False) (fun _ _ => False)
        ?_ (fun _ _ _ h => h.elim) (fun _ _ _ h => h.elim) ⟨(builder_new B27).ext e32, E32⟩ ?_ ?_ (fun _ _ _ _ _ _ _ h => h.elim) (fun _ _ _ _ _ _ _ h => h.elim)
      · rintro pre S1 W W' ⟨g1, g2⟩ hc
        exact ⟨g1.chg hc fun k hk hh => hh.2 hk, ext_chgS g2 hc fun k hk => by omega⟩
      · rintro pre x vs S1 W l ⟨cs, rfl, hA⟩ hpre hl1 hl2 hl3 hS1 ⟨g1, g2⟩
        obtain ⟨k1, c1, m1, p1, l1, u1, nm1, rfl⟩ : ∃ (k1 c1 m1 : Int) (p1 : List UInt8) (l1 : Int) (u1 : Bool) (nm1 : List UInt8), cs = [.int .i64 k1, .int .u8 c1, .int .i64 m1, .string ⟨⟨p1⟩⟩, .int .i64 l1, .bool u1, .string ⟨⟨nm1⟩⟩] := by
          cases x with
          | ch c q u m => obtain ⟨z, rfl⟩ := hA; exact ⟨_, _, _, _, _, _, _, rfl⟩
          | gap z q u m => obtain ⟨c, rfl⟩ := hA; exact ⟨_, _, _, _, _, _, _, rfl⟩
          | brk v => obtain ⟨c, z, q, u, m, rfl⟩ := hA; exact ⟨_, _, _, _, _, _, _, rfl⟩
        refine Eq.mpr (er_tokenizer_Tokens_1 base _ _ _ _ _ _ _ _ _ _ _ _ _ _ _ _ _ _ _ _ _ _ _) ?_
        refine al_stL (by simp) (by intro u hu; simp only [List.mem_cons, List.not_mem_nil, or_false] at hu; rcases hu with rfl | rfl | rfl | rfl | rfl | rfl | rfl <;> rfl) fun bp W1 hbp Bp ep sp => ⟨ep, fun W2 hU => ?_⟩
        have zU := hU.size
        have zp := ep.size
        have hUc : Chg (fun k => k = l) W1 W2 := ⟨hU.os, hU.tape, hU.output, by omega, fun k _ hk => hU.block k hk⟩
        obtain ⟨y0, y1, y2, y3, y4, y5, y6⟩ := blk7 (hUc.blk Bp (by omega))
        refine ⟨_, y0, _, y1, _, y2, _, y3, _, y4, _, y5, _, y6, ?_⟩
        have g1' := (g1.ext ep).chg hUc fun k hk hh => hl3 (hh ▸ hk)
        have g2' : Ext w W2 := ext_chgS (ext_trans g2 ep) hUc fun k hk => by omega
        have hfl := fold_len pre bs0
        have hpl : pre.length + 1 ≤ (amsF p f false []).length := by have := hpre.length_le; simpa using this
        have hb0 : (lstB bs0).length = 0 := rfl
        have hb1 : (wrdB bs0).length = 0 := rfl
        refine tkadd_spec x hA g1' (StOk.fold pre ok0) (by omega) (by omega) (fun m q u nm hx => hgapA m q u nm (hpre.subset (by rw [hx]; simp))) fun w' O' q4 q5 q6 => ⟨rfl, ?_⟩
        refine ⟨q5.mono fun k _ hk => .inl hk, O', fun k hk => ⟨(q6 k hk).imp id (fun hh => by omega), (q4.own hk).2⟩, ?_, ext_chgS g2' q5 fun k hk => by have := (g1.own hk).1; omega⟩
        rw [List.foldl_append]; exact q4
      · rintro D S1 W hD1 hD2 hD3 hD4 ⟨g1, g2⟩
        have hfl := fold_len (amsF p f false []) bs0
        have hb0 : (lstB bs0).length = 0 := rfl
        refine end_st g1 (StOk.fold _ ok0) (by omega) fun oa oc w55 h55 hO c55 => ⟨rfl, ?_⟩
        have hcut : shut ((amsF p f false []).foldl addB bs0) = cutT p f := fold_tok _
        rw [hcut] at h55
        have hclen : (cutT p f).length ≤ 268439552 := by rw [← hcut, shut_len]; omega
        have E55 : Ext w w55 := ext_chgS g2 c55 fun k hk => by have := (g1.own hk).1; omega
        have hD55 : w55.heap[D]? = some (.deferred (some [])) := (c55.block D hD2 hD3).trans hD4
        have lD := (Array.getElem?_eq_some_iff.1 hD55).1
        have fin : ∀ (v : World) (K : World → Prop), v.heap[D]? = some (.deferred (some [])) → Ext w v → (∀ v', Chg (fun k => k = D) v v' → Ext w v' → K v') → retD [{ target := .collected D, args := #[] }] v K := by
          intro v K hv he hK
          have cD : Chg (fun k => k = D) v (v.putObj D (.deferred none)) := Chg.put _ _ _ rfl
          exact ⟨D, rfl, hv, hK _ cD (ext_chgS he cD fun k hk => by omega)⟩
        have c0 := h55.cells.1
        intro K56 hK56
        have k56 : ∀ w57, Ext w55 w57 → longT (cutT p f) = false → K56 w57 := by
          intro w57 e57 hlg
          refine hK56 _ fun _ => ?_
          have h57 := h55.ext e57
          refine ⟨_, _, _, h57.cells.1, ?_⟩
          rw [if_neg (by rw [hlg]; decide)] at hE
          have E57 := ext_trans E55 e57
          have hraw := div_raw _ _ false false (Nat.le_refl _) (okA_ams (u := false) (nm := []) hok hplo (.inl rfl))
          have hR57 := ((hR.imp (S' := fun k => S2 k ∧ k < w.heap.size) fun k hk hl => ⟨hk, hl⟩).ext E57)
          refine normalized_spec rs (cutT p f) hsm hR57 h57.out (fun k hk hh => by have := h57.bkO hh; omega) (fun x hx => ⟨(hraw x hx).g0, (hraw x hx).g1⟩) (by omega) fun w60 c60 ho => ?_
          have hD60 : w60.heap[D]? = some (.deferred (some [])) := by
            rw [c60.block D (by have := e57.size; omega) (fun hh => hD3 (hO D (.inr hh))), e57.block D lD]; exact hD55
          have E60 : Ext w w60 := ext_chgS E57 c60 fun k hk => by have := h57.bkO hk; omega
          by_cases hnz : nrmE rs (cutT p f) = 0
          · rw [if_pos hnz]
            refine ⟨_, _, _, _, rfl, fin w60 _ hD60 E60 fun v' cv ev => ?_⟩
            have hres : tksR p f rs = (cutT p f).map (nrmT rs) := by unfold tksR; rw [hE, if_neg (fun hh => hh hnz)]
            have ho' := ho hnz
            have hlen : (cutT p f).length = (tksR p f rs).length := by rw [hres, List.length_map]
            rw [← hE]
            rw [hres] at h
            rw [← hres, hlen] at ho'
            rw [hlen]
            rw [← hres] at h
            exact h _ _ _ v' rfl (Owns.weak (ho'.chg cv fun k hk hh => hD3 (hh ▸ hO k (.inr hk))) (by omega)) ev
          · rw [if_neg hnz]
            refine ⟨_, _, _, _, rfl, fin w60 _ hD60 E60 fun v' cv ev => bad _ v' hnz hE ev⟩
        refine ⟨_, _, _, c0, br_split (fun g5 => ?_) (fun g5 => ⟨_, _, _, c0, ?_⟩)⟩
        · refine fin w55 _ hD55 E55 fun v' cv ev => bad 4 v' (by decide) ?_ ev
          rw [hE, if_pos]
          unfold longT; rw [decide_eq_true (show 1024 < (cutT p f).length by omega)]; rfl
        · refine ContainsT_spec (cutT p f) (fun x => decide (64 < x.t.length)) F_tokenizer_Tokens_1 (by kernel_rfl) (fun x _ hx => Tokens1_spec x hx) (OwnL.out h55.out) (by omega) fun w68 e68 => ⟨_, rfl, br_cases (fun g6 => ?_) (fun g6 => ?_)⟩
          · refine fin w68 _ ((e68.block D lD).trans hD55) (ext_trans E55 e68) fun v' cv ev => bad 4 v' (by decide) ?_ ev
            rw [hE, if_pos]
            unfold longT; rw [g6, Bool.or_true]
          · refine k56 w68 e68 ?_
            unfold longT; rw [g6, decide_eq_false (by omega)]; rfl
    obtain ⟨d0, d1⟩ := blk2' (B5.ext e10)
    refine ⟨_, d1, br_split (fun g => ?_) (fun g => ⟨_, d1, br_split (fun g2 => ?_) (fun g2 => k11 (by omega))⟩)⟩
    · refine bad 2 w10 (by decide) ?_ E10
      unfold tksE; rw [if_neg n1, if_pos (.inl g)]
    · refine bad 2 w10 (by decide) ?_ E10
      unfold tksE; rw [if_neg n1, if_pos (.inr g2)]
  refine Check22_spec f hs (hf.ext e6) (hF.ext e6) fun w75 e75 => ⟨_, rfl, br_split (fun g => ?_) (fun g => ?_)⟩
  · refine bad 1 w75 (by decide) ?_ (ext_trans e6 e75)
    unfold tksE; rw [if_pos (.inl g)]
  · refine rwCheck_spec rs hsm ((hR.ext e6).ext e75) fun w78 e78 => ⟨_, rfl, br_split (fun g2 => ?_) (fun g2 => ?_)⟩
    · refine bad 1 w78 (by decide) ?_ (ext_trans (ext_trans e6 e75) e78)
      unfold tksE; rw [if_pos (.inr g2)]
    · exact k7 w78 (Decidable.not_not.1 g) (Decidable.not_not.1 g2) (ext_trans e75 e78)
end
end Go.Proofs
namespace Go.Proofs
open Go Go.Sh Go.RowKit

section
variable {R : Ending → World → Prop} {w : World}
theorem tok_get {S : Nat → Prop} {a : Option Addr} {n i : Nat} {l : List Tok} {x : Tok} (hR : RowAt encTk S w a n l) (hi : l[i]? = some x) :
    ∃ q : Addr, (∀ K : Addr → Prop, K q → idx a n (i : Int) 6 K) ∧ w.cell? (q.add 0) = some (.string ⟨⟨x.t⟩⟩) ∧ w.cell? (q.add 1) = some (.string ⟨⟨x.m⟩⟩) ∧ w.cell? (q.add 2) = some (.string ⟨⟨x.p.1⟩⟩) ∧ w.cell? (q.add 3) = some (.int .i64 x.p.2) ∧ w.cell? (q.add 4) = some (.int .i64 x.g) ∧ w.cell? (q.add 5) = some (.string ⟨⟨x.a⟩⟩) := by
  obtain ⟨b, o, hq, _, _, hc⟩ := hR.get hi
  refine ⟨⟨b, o, none⟩, hq, ?_⟩
  simp only [add_none]
  exact ⟨hc 0 _ rfl, hc 1 _ rfl, hc 2 _ rfl, hc 3 _ rfl, hc 4 _ rfl, hc 5 _ rfl⟩
theorem one6t (x : Tok) : ∀ u ∈ ([.string ⟨⟨x.t⟩⟩, .string ⟨⟨x.m⟩⟩, .string ⟨⟨x.p.1⟩⟩, .int .i64 x.p.2, .int .i64 x.g, .string ⟨⟨x.a⟩⟩] : List Value), u.oneCell' = true := by
  intro u hu; simp only [List.mem_cons, List.not_mem_nil, or_false] at hu; rcases hu with rfl | rfl | rfl | rfl | rfl | rfl <;> rfl
set_option maxRecDepth 20000 in
theorem Words_spec {S : Nat → Prop} {a : Option Addr} {n c : Nat} (l : List Tok) (hR : RowAt encTk S w a n l) (hn : n ≤ 1000000000) (h : ∀ a' c' w', OwnL Sh.encStr w' w.heap.size 9 a' n c' (txs l) → Ext w w' → R (.returned (.slice a' n c')) w') :
    Calls Tryz.prog F_tokenizer_Words ⟨[.slice a n c]⟩ w R := by
  apply c_tokenizer_Words
  have hln := hR.1
  refine ⟨fun oa on oc i W m => ∃ k : Nat, i = k ∧ k ≤ n ∧ m = n - k ∧ on = k ∧ Ext w W ∧ OwnL Sh.encStr W w.heap.size 9 oa on oc (txs (l.take k)), ⟨_, 0, rfl, by omega, rfl, rfl, Below.refl _ _, Owns.nil _ _ _ _⟩, ?_⟩
  rintro oa on oc _ W m ⟨k, rfl, hk, rfl, rfl, he, hO⟩ _
  refine br_split (fun hlt => ?_) (fun hge => ?_)
  · have hkl : on < l.length := by omega
    obtain ⟨q, hq, c0, c1, c2, c3, c4, c5⟩ := tok_get (hR.ext he) (show l[on]? = some l[on] by simp [hkl])
    refine hq _ ⟨_, c0, _, c1, _, c2, _, c3, _, c4, _, c5, ?_⟩
    refine al_stL rfl (one6t _) fun b15 w17 hb15 B15 e17 s17 => ⟨_, (blk6' B15).1, ?_⟩
    refine al_intro fun b19 w20 hb19 B19 e20 s20 => ?_
    have E20 := ext_trans e17 e20
    have B19' : Blk w20 b19 (Sh.encStr.enc l[on].t) 9 := B19
    have z20 := (ext_trans he E20).size
    refine OwnL.app1 (P := Tryz.prog) slT_strT (Owns.ext hO E20) (by omega) B19' (by omega) (by omega) fun a' c'' w22 ho hcg hn2 => ?_
    refine ⟨n - (on + 1), by omega, on + 1, by rw [wrap_nat (by omega)], by omega, rfl, rfl, ext_chgS (ext_trans he E20) hcg fun k hk => ?_, ?_⟩
    · exact ((Owns.ext hO E20).bk hk).1
    · have e : txs (l.take (on + 1)) = txs (l.take on) ++ [l[on].t] := by unfold txs; rw [List.take_succ_eq_append_getElem hkl, List.map_append]; rfl
      rw [e]; exact ho
  · have hkn : on = n := by omega
    subst hkn
    rw [List.take_of_length_le (by omega)] at hO
    exact h oa oc W hO he
theorem text15_spec (s : List UInt8) (h : ∀ w', Ext w w' → R (.returned (.agg ⟨[.int .i64 1, .string ⟨⟨s⟩⟩, .int .i64 0, .slice none 0 0]⟩)) w') : Calls Tryz.prog F_law15_text ⟨[.string ⟨⟨s⟩⟩]⟩ w R := by
  apply c_law15_text
  refine al_stL rfl (by intro u hu; simp only [List.mem_cons, List.not_mem_nil, or_false] at hu; rcases hu with rfl | rfl | rfl | rfl <;> rfl) fun b w' hb B e s => ?_
  obtain ⟨y0, y1, y2, y3⟩ := blk4 B
  exact ⟨_, y0, _, y1, _, y2, _, _, _, y3, h w' e⟩
theorem tkget_str {S : Nat → Prop} {w : World} {a : Option Addr} {n : Nat} {L : List (List UInt8)} (h : RowAt Sh.encStr S w a n L) {k : Nat} (hk : k < L.length) :
    ∃ q : Addr, (∀ K : Addr → Prop, K q → idx a n (k : Int) 1 K) ∧ w.cell? q = some (.string ⟨⟨L[k]⟩⟩) := by
  obtain ⟨bb, o, hq, _, _, hc⟩ := h.get (i := k) (x := L[k]) (List.getElem?_eq_getElem hk)
  exact ⟨⟨bb, o, none⟩, hq, hc 0 _ rfl⟩
set_option maxRecDepth 20000 in
theorem EqStr_spec {S S' : Nat → Prop} {a a' : Option Addr} {n n' c c' : Nat} (L M : List (List UInt8)) (hL : RowAt Sh.encStr S w a n L) (hM : RowAt Sh.encStr S' w a' n' M) (hb : L.length ≤ 1000000000) (h : ∀ w', Ext w w' → R (.returned (.bool (decide (L = M)))) w') :
    Calls Tryz.prog F_slices_Equal_of_string_string ⟨[.slice a n c, .slice a' n' c']⟩ w R := by
  apply c_slices_Equal_of_string_string
  have hn : n = L.length := hL.1
  have hn' : n' = M.length := hM.1
  refine br_split (fun g => ?_) (fun g => ?_)
  · have : decide (L = M) = false := decide_eq_false (fun e => g (by rw [hn, hn', e]))
    rw [← this]; exact h w (Below.refl _ _)
  refine ⟨fun t W m => ∃ k : Nat, t = k ∧ k ≤ n ∧ m = n - k ∧ L.take k = M.take k ∧ Ext w W, ⟨_, 0, rfl, by omega, rfl, rfl, Below.refl _ _⟩, ?_⟩
  rintro _ W m ⟨k, rfl, hk, rfl, heq, he⟩ _
  have hnn : L.length = M.length := by omega
  refine br_split (fun hlt => ?_) (fun hge => ?_)
  · have hkL : k < L.length := by omega
    have hkM : k < M.length := by omega
    unfold drw
    have Ed := ext_trans he (ext_drew W)
    obtain ⟨q, hq, c0⟩ := tkget_str (hL.ext Ed) hkL
    obtain ⟨q', hq', d0⟩ := tkget_str (hM.ext Ed) hkM
    refine hq _ ⟨_, c0, hq' _ ⟨_, d0, br_split (fun g2 => ?_) (fun g2 => ?_)⟩⟩
    · have : decide (L = M) = false := decide_eq_false (fun e => g2 (by subst e; rfl))
      rw [← this]; exact h _ Ed
    · refine ⟨n - (k + 1), by omega, k + 1, by rw [wrap_nat (by omega)], by omega, rfl, ?_, Ed⟩
      rw [List.take_succ_eq_append_getElem hkL, List.take_succ_eq_append_getElem hkM, heq, Classical.not_not.1 g2]
  · have hkn : k = L.length := by omega
    have : decide (L = M) = true := decide_eq_true (by
      rw [List.take_of_length_le (by omega), List.take_of_length_le (by omega)] at heq; exact heq)
    rw [← this]; exact h W he
/- equal lists of tokens -/
def eqTk (x y : Tok) : Bool := decide (x.t = y.t) && (decide (x.m = y.m) && ((decide (x.p.1 = y.p.1) && (decide (x.p.2 = y.p.2) && true)) && (decide (x.g = y.g) && (decide (x.a = y.a) && true))))
theorem eqTk_iff (x y : Tok) : eqTk x y = true ↔ x = y := by
  obtain ⟨t, m, ⟨p, q⟩, g, a⟩ := x
  obtain ⟨t', m', ⟨p', q'⟩, g', a'⟩ := y
  simp [eqTk, and_assoc]
instance (x y : Tok) : Decidable (x = y) := decidable_of_iff _ (eqTk_iff x y)
set_option maxRecDepth 20000 in
theorem EqualTk_spec {S S' : Nat → Prop} {a a' : Option Addr} {n n' c c' : Nat} (L M : List Tok) (hL : RowAt encTk S w a n L) (hM : RowAt encTk S' w a' n' M) (hb : n ≤ 1000000000) (h : ∀ w', Ext w w' → R (.returned (.bool (decide (L = M)))) w') :
    Calls Tryz.prog F_slices_Equal_of_api_Token_api_Token ⟨[.slice a n c, .slice a' n' c']⟩ w R := by
  apply c_slices_Equal_of_api_Token_api_Token
  have h1 := hL.1
  have h2 := hM.1
  refine br_split (fun g => ?_) (fun g => ?_)
  · rw [decide_eq_false (fun hh => g (by rw [h1, h2, hh]))] at h
    exact h w (Below.refl _ _)
  refine ⟨fun i W m => ∃ k : Nat, i = k ∧ k ≤ n ∧ m = n - k ∧ L.take k = M.take k ∧ Ext w W, ⟨_, 0, rfl, by omega, rfl, rfl, Below.refl _ _⟩, ?_⟩
  rintro _ W m ⟨k, rfl, hk, rfl, ht, he⟩ _
  refine br_split (fun hlt => ?_) (fun hge => ?_)
  · have hkL : k < L.length := by omega
    have hkM : k < M.length := by omega
    unfold drw
    have ed := ext_drew W
    have hd := ext_trans he ed
    generalize W.drew = Wd at *
    obtain ⟨q, hq, c0, c1, c2, c3, c4, c5⟩ := tok_get (hL.ext hd) (show L[k]? = some L[k] by simp [hkL])
    obtain ⟨q', hq', d0, d1, d2, d3, d4, d5⟩ := tok_get (hM.ext hd) (show M[k]? = some M[k] by simp [hkM])
    refine hq _ ⟨_, c0, _, c1, _, c2, _, c3, _, c4, _, c5, hq' _ ⟨_, d0, _, d1, _, d2, _, d3, _, d4, _, d5, ?_⟩⟩
    show br (!eqTk L[k] M[k]) _ _
    refine br_cases (fun g1 => ?_) (fun g1 => ?_)
    · have hne : L[k] ≠ M[k] := fun hh => by rw [(eqTk_iff _ _).2 hh] at g1; cases g1
      rw [decide_eq_false (fun hh => hne (by subst hh; rfl))] at h
      exact h _ hd
    · have heq : L[k] = M[k] := (eqTk_iff _ _).1 (by rw [Bool.not_eq_false'] at g1; exact g1)
      refine ⟨n - (k + 1), by omega, k + 1, by rw [wrap_nat (by omega)], by omega, rfl, ?_, hd⟩
      rw [List.take_succ_eq_append_getElem hkL, List.take_succ_eq_append_getElem hkM, ht, heq]
  · rw [List.take_of_length_le (by omega), List.take_of_length_le (by omega)] at ht
    rw [decide_eq_true ht] at h
    exact h _ he
/- a plain string's tokens -/
def txF (s : List UInt8) : Fo := .one 1 s 0 .nil
def splE (s : List UInt8) : Int := if checkC s ≠ 0 then checkC s else if s = [] then 0 else tksE ([], 0) (.one 1 s 0 .nil) []
def splR (s : List UInt8) : List (List UInt8) := if checkC s ≠ 0 then [] else if s = [] then [] else txs (tksR ([], 0) (.one 1 s 0 .nil) [])
theorem tks_len (p : Ps) (f : Fo) (rs : List Rw) : (tksR p f rs).length ≤ 1024 := by
  by_cases h : tksE p f rs = 0
  · obtain ⟨h1, h2⟩ := tks_ok h
    have := h1.lg
    unfold longT at this
    rw [Bool.or_eq_false_iff, decide_eq_false_iff_not] at this
    rw [h2, List.length_map]; omega
  · unfold tksR; rw [if_pos h]; exact Nat.zero_le _
theorem one_slf {b : Nat} {s : List UInt8} {T : TypeId} (hb : Blk w b [.int .i64 1, .string ⟨⟨s⟩⟩, .int .i64 0, .slice none 0 0] T) : SlF (fun _ => True) w (some ⟨b, 0, none⟩) 1 (.one 1 s 0 .nil) :=
  ⟨rfl, _, .inr ⟨b, 0, rfl, trivial, hb.lt, fun j v hj => by rw [Nat.zero_add, hb.cell]; exact hj⟩, none, 0, [], [], rfl, .inl rfl, rfl, rfl⟩
theorem one_small (k : Int) (s : List UInt8) (n : Int) : small (.one k s n .nil) := by unfold small Fo.one; simp [Fo.size]
theorem rules_none (S : Nat → Prop) (v : World) : RowAt encRw S v none 0 [] := RowAt.nil none
theorem smallR_nil : smallR [] := fun x hx => by cases hx
set_option maxRecDepth 20000 in
theorem Split_spec (s : List UInt8) (hs : s.length ≤ 4611686018427387904) (hF : Forms w) (h : ∀ a' n' c' w', n' = (splR s).length → OwnL Sh.encStr w' w.heap.size 9 a' n' c' (splR s) → Ext w w' → R (.returned (.tuple ⟨[.slice a' n' c', .int .i64 (splE s)]⟩)) w') :
    Calls Tryz.prog F_tokenizer_Split ⟨[.string ⟨⟨s⟩⟩]⟩ w R := by
  apply c_tokenizer_Split
  refine Check_spec s fun w3 e3 => ⟨_, rfl, br_split (fun g => ?_) (fun g => br_split (fun g2 => ?_) (fun g2 => ?_))⟩
  · have hE : splE s = checkC s := by unfold splE; rw [if_pos g]
    have hR : splR s = [] := by unfold splR; rw [if_pos g]
    rw [hE, hR] at h
    exact h none 0 0 w3 rfl (Owns.nil _ _ _ _) e3
  · have hE : splE s = 0 := by unfold splE; rw [if_neg g, if_pos g2]
    have hR : splR s = [] := by unfold splR; rw [if_neg g, if_pos g2]
    rw [hE, hR] at h
    exact h none 0 0 w3 rfl (Owns.nil _ _ _ _) e3
  · have hE : splE s = tksE ([], 0) (.one 1 s 0 .nil) [] := by unfold splE; rw [if_neg g, if_neg g2]
    have hR : splR s = txs (tksR ([], 0) (.one 1 s 0 .nil) []) := by unfold splR; rw [if_neg g, if_neg g2]
    refine al_intro fun b5 w6 hb5 B5 e6 s6 => ?_
    have E6 := ext_trans e3 e6
    refine Tokens_spec (S := fun _ => True) (S2 := fun _ => True) ([], 0) (.one 1 s 0 .nil) [] (one_small _ _ _) (hF.ext E6) (one_slf B5) smallR_nil (rules_none _ _) fun a' n' c' w8 hn ho e8 => ⟨_, _, _, _, rfl, ?_⟩
    have hl := tks_len ([], 0) (.one 1 s 0 .nil) []
    have E8 := ext_trans E6 e8
    refine Words_spec (tksR ([], 0) (.one 1 s 0 .nil) []) (OwnL.out ho) (by omega) fun a2 c2 w12 ho2 e12 => ⟨_, _, _, rfl, ?_⟩
    rw [← hE]
    have hz := E8.size
    refine h a2 n' c2 w12 ?_ ?_ (ext_trans E8 e12)
    · rw [hR, hn]; unfold txs; rw [List.length_map]
    · rw [hR]; exact Owns.weak ho2 hz
end
end Go.Proofs
namespace Go.Proofs
open Go Go.Sh Go.RowKit

/- the examples -/
def cutC (p : Ps) (f : Fo) : List Tok := shut ((amsF p f false []).foldl addB bs0)
theorem cutT_eq (p : Ps) (f : Fo) : cutT p f = cutC p f := (fold_tok _).symm
theorem tks_val {p : Ps} {f : Fo} {rs : List Rw} {L : List Tok} (h1 : checkT f = 0) (h2 : ruleE rs = 0) (h3 : 0 ≤ p.2 ∧ p.2 ≤ 4096) (h4 : namedB p.1 = true) (h5 : cntF 8 f + cntF 9 f = 0) (h6 : cutC p f = L) (h7 : longT L = false) (h8 : nrmE rs L = 0) :
    tksE p f rs = 0 ∧ tksR p f rs = L.map (nrmT rs) := by
  have he : tksE p f rs = 0 := by
    unfold tksE
    rw [cutT_eq, h6, if_neg (by rw [h1, h2]; simp), if_neg (by omega), if_neg (by rw [h4]; simp), if_neg (by omega), if_neg (by rw [h7]; simp), h8]
  refine ⟨he, ?_⟩
  rw [(tks_ok he).2, cutT_eq, h6]
def aw1 : Fo := .cons 1 [68, 101] 0 .nil (.cons 2 [] 0 .nil (.one 1 [117, 115, 32, 101, 115, 116, 44] 0 .nil))
def aw2 : Fo := .cons 1 [109, 97] 0 .nil (.cons 6 [] 2 .nil (.one 1 [117, 115] 0 .nil))
def aw3 : List UInt8 := [97, 98, 39, 99, 32, 39, 100]
def awL : List Tok := [⟨[68, 101, 117, 115], [68, 101, 117, 115], ([], 0), 0, []⟩, ⟨[101, 115, 116], [101, 115, 116], ([], 1), 0, []⟩, ⟨[44], [44], ([], 1), 24, []⟩]
theorem aw1_val : tksE ([], 0) aw1 [] = 0 ∧ tksR ([], 0) aw1 [] = awL := by
  have h := tks_val (p := ([], 0)) (f := aw1) (rs := []) (L := [⟨[68, 101, 117, 115], [], ([], 0), 0, []⟩, ⟨[101, 115, 116], [], ([], 1), 0, []⟩, ⟨[44], [], ([], 1), 24, []⟩])
    (by decide +kernel) (by decide +kernel) (by decide) (by decide +kernel) (by decide +kernel) (by decide +kernel) (by decide +kernel) (by decide +kernel)
  refine ⟨h.1, h.2.trans ?_⟩
  decide +kernel
theorem aw2_val : tksE ([], 0) aw2 [] = 0 ∧ ∃ x y z : Tok, tksR ([], 0) aw2 [] = [x, y, z] ∧ y.t = [91, 50, 93] ∧ z.g = 16 := by
  have h := tks_val (p := ([], 0)) (f := aw2) (rs := []) (L := [⟨[109, 97], [], ([], 0), 0, []⟩, ⟨[91, 50, 93], [], ([], 0), 18, []⟩, ⟨[117, 115], [], ([], 0), 16, []⟩])
    (by decide +kernel) (by decide +kernel) (by decide) (by decide +kernel) (by decide +kernel) (by decide +kernel) (by decide +kernel) (by decide +kernel)
  exact ⟨h.1, _, _, _, h.2, rfl, rfl⟩
theorem aw3_val : splE aw3 = 0 ∧ splR aw3 = [[97, 98, 39, 99], [39], [100]] := by
  have h := tks_val (p := ([], 0)) (f := .one 1 aw3 0 .nil) (rs := []) (L := [⟨[97, 98, 39, 99], [], ([], 0), 0, []⟩, ⟨[39], [], ([], 0), 8, []⟩, ⟨[100], [], ([], 0), 16, []⟩])
    (by decide +kernel) (by decide +kernel) (by decide) (by decide +kernel) (by decide +kernel) (by decide +kernel) (by decide +kernel) (by decide +kernel)
  have hc : checkC aw3 = 0 := by decide +kernel
  refine ⟨?_, ?_⟩
  · unfold splE; rw [if_neg (by rw [hc]; simp), if_neg (by decide)]; exact h.1
  · unfold splR; rw [if_neg (by rw [hc]; simp), if_neg (by decide), h.2]; rfl
section
variable {R : Ending → World → Prop} {w : World}
theorem foC3 {S : Nat → Prop} {k1 k2 k3 n1 n2 n3 : Int} {t1 t2 t3 : List UInt8} {b : Nat} {T : TypeId} (hb : Blk w b [.int .i64 k1, .string ⟨⟨t1⟩⟩, .int .i64 n1, .slice none 0 0, .int .i64 k2, .string ⟨⟨t2⟩⟩, .int .i64 n2, .slice none 0 0, .int .i64 k3, .string ⟨⟨t3⟩⟩, .int .i64 n3, .slice none 0 0] T) :
    SlF (fun _ => True) w (some ⟨b, 0, none⟩) 3 (.cons k1 t1 n1 .nil (.cons k2 t2 n2 .nil (.one k3 t3 n3 .nil))) :=
  ⟨rfl, _, .inr ⟨b, 0, rfl, trivial, hb.lt, fun j v hj => by rw [Nat.zero_add, hb.cell]; exact hj⟩, none, 0, [], _, rfl, .inl rfl, rfl, none, 0, [], _, rfl, .inl rfl, rfl, none, 0, [], [], rfl, .inl rfl, rfl, rfl⟩
theorem small_aw (k1 k2 k3 n1 n2 n3 : Int) (t1 t2 t3 : List UInt8) : small (.cons k1 t1 n1 .nil (.cons k2 t2 n2 .nil (.one k3 t3 n3 .nil))) := by unfold small Fo.one; simp [Fo.size]
set_option maxRecDepth 20000 in
theorem awake15_spec (hF : Forms w) (h : ∀ w', Ext w w' → R (.returned (.bool true)) w') : Calls Tryz.prog F_law15_awake ⟨[]⟩ w R := by
  apply c_law15_awake
  refine text15_spec _ fun w2 e2 => ⟨_, _, _, _, _, _, rfl, ?_⟩
  refine text15_spec _ fun w8 e8 => ⟨_, _, _, _, _, _, rfl, ?_⟩
  refine al_intro fun b13 w14 hb13 B13 e14 s14 => ?_
  have E14 := ext_trans (ext_trans e2 e8) e14
  obtain ⟨v1, v2⟩ := aw1_val
  obtain ⟨u1, x, y, z, u2, u3, u4⟩ := aw2_val
  obtain ⟨t1, t2⟩ := aw3_val
  have B13' : Blk w14 b13 [.int .i64 1, .string ⟨⟨[68, 101]⟩⟩, .int .i64 0, .slice none 0 0, .int .i64 2, .string ⟨⟨[]⟩⟩, .int .i64 0, .slice none 0 0, .int .i64 1, .string ⟨⟨[117, 115, 32, 101, 115, 116, 44]⟩⟩, .int .i64 0, .slice none 0 0] 64 := B13
  refine Tokens_spec (S := fun _ => True) (S2 := fun _ => True) ([], 0) aw1 [] (small_aw _ _ _ _ _ _ _ _ _) (hF.ext E14) (foC3 (S := fun _ => True) B13') smallR_nil (rules_none _ _) fun a1 n1 c1 w16 hn1 ho1 e16 => ⟨_, _, _, _, rfl, ?_⟩
  have E16 := ext_trans E14 e16
  refine Split_spec aw3 (by decide) (hF.ext E16) fun a2 n2 c2 w20 hn2 ho2 e20 => ⟨_, _, _, _, rfl, ?_⟩
  have E20 := ext_trans E16 e20
  refine text15_spec _ fun w24 e24 => ⟨_, _, _, _, _, _, rfl, ?_⟩
  refine text15_spec _ fun w30 e30 => ⟨_, _, _, _, _, _, rfl, ?_⟩
  refine al_intro fun b35 w36 hb35 B35 e36 s36 => ?_
  have F36 := ext_trans (ext_trans e24 e30) e36
  have E36 := ext_trans E20 F36
  have B35' : Blk w36 b35 [.int .i64 1, .string ⟨⟨[109, 97]⟩⟩, .int .i64 0, .slice none 0 0, .int .i64 6, .string ⟨⟨[]⟩⟩, .int .i64 2, .slice none 0 0, .int .i64 1, .string ⟨⟨[117, 115]⟩⟩, .int .i64 0, .slice none 0 0] 64 := B35
  refine Tokens_spec (S := fun _ => True) (S2 := fun _ => True) ([], 0) aw2 [] (small_aw _ _ _ _ _ _ _ _ _) (hF.ext E36) (foC3 (S := fun _ => True) B35') smallR_nil (rules_none _ _) fun a3 n3 c3 w38 hn3 ho3 e38 => ⟨_, _, _, _, rfl, ?_⟩
  have E38 := ext_trans E36 e38
  rw [v1, t1, u1]
  rw [v2] at ho1 hn1
  rw [t2] at ho2 hn2
  rw [u2] at ho3 hn3
  have hr1 := (((OwnL.out ho1).ext e20).ext F36).ext e38
  have hr2 := ((OwnL.out ho2).ext F36).ext e38
  have hr3 := OwnL.out ho3
  intro K41 hK41
  have k41 : ∀ w42, Ext w38 w42 → K41 w42 := by
    intro w42 e42
    refine hK41 _ fun _ => ?_
    refine al_stL rfl (by intro u hu; simp only [List.mem_cons, List.not_mem_nil, or_false] at hu; rcases hu with rfl | rfl <;> rfl) fun b43 w45 hb43 B43 e45 s45 => ?_
    obtain ⟨p0, p1⟩ := blk2' B43
    refine ⟨_, p0, _, p1, _, p0, _, p1, ?_⟩
    refine al_intro fun b50 w51 hb50 B50 e51 s51 => ?_
    have F51 := ext_trans (ext_trans e42 e45) e51
    have hrow : RowAt encTk (fun _ => True) w51 (some ⟨b50, 0, none⟩) 3 awL := ⟨rfl, .inr ⟨b50, 0, rfl, trivial, B50.lt, fun j v hj => by rw [Nat.zero_add, B50.cell]; exact hj⟩⟩
    refine EqualTk_spec awL awL (hr1.ext F51) hrow (by rw [hn1]; decide) fun w53 e53 => ⟨_, rfl, ?_⟩
    rw [decide_eq_true rfl]
    exact h w53 (ext_trans (ext_trans E38 F51) e53)
  refine br_split (fun hh => absurd (by decide) hh) (fun _ => ?_)
  refine al_intro fun b55 w56 hb55 B55 e56 s56 => ?_
  have hrow : RowAt Sh.encStr (fun _ => True) w56 (some ⟨b55, 0, none⟩) 3 [[97, 98, 39, 99], [39], [100]] := ⟨rfl, .inr ⟨b55, 0, rfl, trivial, B55.lt, fun j v hj => by rw [Nat.zero_add, B55.cell]; exact hj⟩⟩
  refine EqStr_spec [[97, 98, 39, 99], [39], [100]] [[97, 98, 39, 99], [39], [100]] (hr2.ext e56) hrow (by decide) fun w58 e58 => ⟨_, rfl, ?_⟩
  rw [decide_eq_true rfl]
  simp only [Bool.not_true, br_f]
  refine br_split (fun hh => absurd (by rw [hn3]; rfl) hh) (fun _ => ?_)
  have hr3' := (hr3.ext e56).ext e58
  obtain ⟨q, hq, d0, d1, d2, d3, d4, d5⟩ := tok_get hr3' (show [x, y, z][1]? = some y from rfl)
  refine hq _ ⟨_, d0, br_split (fun hh => absurd u3 hh) (fun _ => ?_)⟩
  obtain ⟨q', hq', f0, f1, f2, f3, f4, f5⟩ := tok_get hr3' (show [x, y, z][2]? = some z from rfl)
  exact hq' _ ⟨_, f4, br_split (fun hh => absurd u4 hh) (fun _ => k41 w58 (ext_trans e56 e58))⟩
/- sizes -/
def gr1 (x : Rw) : Bool := (decide (8 < x.1.length) && decide (x.1.length ≤ 64)) || ((decide (8 < x.2.length) && decide (x.2.length ≤ 64)) || (decide (66 < x.1.length) || decide (66 < x.2.length)))
def greatRu (l : List Rw) : Bool := ((decide (5 < l.length) && decide (l.length ≤ 64)) || decide (66 < l.length)) || l.any gr1
set_option maxRecDepth 20000 in
theorem GreatRules_spec {S : Nat → Prop} {a : Option Addr} {n c : Nat} (rs : List Rw) (hR : RowAt encRw S w a n rs) (h : R (.returned (.bool (greatRu rs))) w) : Calls Tryz.prog F_ref15_GreatRules ⟨[.slice a n c]⟩ w R := by
  apply c_ref15_GreatRules
  have hn := hR.1
  intro K2 hK2
  have k2 : ((decide (5 < rs.length) && decide (rs.length ≤ 64)) || decide (66 < rs.length)) = false → K2 w := by
    intro hno
    have h66 : rs.length ≤ 66 := by simp at hno; omega
    have hE : greatRu rs = rs.any gr1 := by unfold greatRu; rw [hno, Bool.false_or]
    rw [hE] at h
    refine hK2 _ fun _ => ?_
    refine ⟨fun i W m => ∃ k : Nat, i = k ∧ k ≤ n ∧ m = n - k ∧ (rs.take k).any gr1 = false ∧ W = w, ⟨_, 0, rfl, by omega, rfl, rfl, rfl⟩, ?_⟩
    rintro _ W m ⟨k, rfl, hk, rfl, hz, rfl⟩ _
    refine br_split (fun hlt => ?_) (fun hge => ?_)
    · have hkl : k < rs.length := by omega
      obtain ⟨b, o, hq, _, _, hc⟩ := hR.get (show rs[k]? = some rs[k] by simp [hkl])
      have c0 : W.cell? ((⟨b, o, none⟩ : Addr).add 0) = some (.string ⟨⟨rs[k].1⟩⟩) := by rw [add_none]; exact hc 0 _ rfl
      have c1 : W.cell? ((⟨b, o, none⟩ : Addr).add 1) = some (.string ⟨⟨rs[k].2⟩⟩) := by rw [add_none]; exact hc 1 _ rfl
      have yes : gr1 rs[k] = true → R (.returned (.bool true)) W := fun hg => by
        have : rs.any gr1 = true := List.any_eq_true.2 ⟨_, List.getElem_mem hkl, hg⟩
        rw [this] at h; exact h
      have no : gr1 rs[k] = false → ∃ m', m' < n - k ∧ ∃ k' : Nat, IntKind.i64.wrap ((k : Int) + 1) = k' ∧ k' ≤ n ∧ m' = n - k' ∧ (rs.take k').any gr1 = false ∧ W = W := fun hg =>
        ⟨n - (k + 1), by omega, k + 1, by rw [wrap_nat (by omega)], by omega, rfl, by rw [List.take_succ_eq_append_getElem hkl, List.any_append, hz]; simp [hg], rfl⟩
      generalize rs[k] = x at *
      refine hq _ ⟨_, c0, br_split (fun g1 => hq _ ⟨_, c0, br_split (fun g2 => yes (by unfold gr1; simp; omega)) (fun g2 => hq _ ⟨_, c1, br_split (fun g3 => hq _ ⟨_, c1, br_split (fun g4 => yes (by unfold gr1; simp; omega)) (fun g4 => hq _ ⟨_, c0, br_split (fun g5 => yes (by unfold gr1; simp; omega)) (fun g5 => hq _ ⟨_, c1, br_split (fun g6 => yes (by unfold gr1; simp; omega)) (fun g6 => no (by unfold gr1; simp; omega))⟩)⟩)⟩)
        (fun g3 => hq _ ⟨_, c0, br_split (fun g5 => yes (by unfold gr1; simp; omega)) (fun g5 => hq _ ⟨_, c1, br_split (fun g6 => yes (by unfold gr1; simp; omega)) (fun g6 => no (by unfold gr1; simp; omega))⟩)⟩)⟩)⟩) (fun g1 => hq _ ⟨_, c1, br_split (fun g3 => hq _ ⟨_, c1, br_split (fun g4 => yes (by unfold gr1; simp; omega)) (fun g4 => hq _ ⟨_, c0, br_split (fun g5 => yes (by unfold gr1; simp; omega)) (fun g5 => hq _ ⟨_, c1, br_split (fun g6 => yes (by unfold gr1; simp; omega)) (fun g6 => no (by unfold gr1; simp; omega))⟩)⟩)⟩)
        (fun g3 => hq _ ⟨_, c0, br_split (fun g5 => yes (by unfold gr1; simp; omega)) (fun g5 => hq _ ⟨_, c1, br_split (fun g6 => yes (by unfold gr1; simp; omega)) (fun g6 => no (by unfold gr1; simp; omega))⟩)⟩)⟩)⟩
    · rw [List.take_of_length_le (by omega)] at hz
      rw [hz] at h
      exact h
  have tr : ((decide (5 < rs.length) && decide (rs.length ≤ 64)) || decide (66 < rs.length)) = true → R (.returned (.bool true)) w := fun hh => by
    have : greatRu rs = true := by unfold greatRu; rw [hh, Bool.true_or]
    rw [this] at h; exact h
  refine br_split (fun g1 => br_split (fun g2 => tr (by simp; omega)) (fun g2 => br_split (fun g3 => tr (by simp; omega)) (fun g3 => k2 (by simp; omega)))) (fun g1 => br_split (fun g3 => tr (by simp; omega)) (fun g3 => k2 (by simp; omega)))
/- the tokens of a state -/
theorem smallR_of {rs : List Rw} (h : greatRu rs = false) : smallR rs := by
  unfold greatRu at h
  rw [Bool.or_eq_false_iff] at h
  intro x hx
  have := List.any_eq_false.1 h.2 x hx
  unfold gr1 at this
  simp at this
  omega
end
end Go.Proofs
namespace Go.Proofs
open Go Go.Sh Go.RowKit

/- whether a token is right -/
theorem gapT_len (n : Int) (h : n ≤ 64) (h0 : 0 ≤ n) : (gapT n).length ≤ 4 := by
  have := decDigits_len n.toNat (by omega)
  unfold gapT; simp; omega
theorem gapB_iff (s : List UInt8) : gapB s = true ↔ ∃ n : Int, 1 ≤ n ∧ n ≤ 64 ∧ gapT n = s := by
  unfold gapB
  rw [List.any_eq_true]
  constructor
  · rintro ⟨i, hi, h⟩
    rw [List.mem_range] at hi
    exact ⟨(i : Int) + 1, by omega, by omega, by simpa using h⟩
  · rintro ⟨n, h1, h2, h3⟩
    refine ⟨(n - 1).toNat, by rw [List.mem_range]; omega, ?_⟩
    rw [show (((n - 1).toNat : Nat) : Int) + 1 = n by omega, h3]; simp
theorem dec_pos : ∀ n : Nat, n < 100 → 1 ≤ (Lib.decDigits n).length := by decide +kernel
section
variable {R : Ending → World → Prop} {w : World}
theorem gap_inner (n : Int) : ((gapT n).take ((gapT n).length - 1)).drop 1 = Lib.decDigits n.toNat := by
  unfold gapT
  simp
set_option maxRecDepth 20000 in
theorem gap_spec (s : List UInt8) (hs : s.length ≤ 1000000000000) (hM : Mk w) (h : ∀ w', Ext w w' → R (.returned (.bool (gapB s))) w') : Calls Tryz.prog F_tokenizer_gap ⟨[.string ⟨⟨s⟩⟩]⟩ w R := by
  apply c_tokenizer_gap
  have bad : ∀ w', Ext w w' → (∀ n : Int, 1 ≤ n → n ≤ 64 → gapT n ≠ s) → R (.returned (.bool false)) w' := by
    intro w' he hn
    have : gapB s = false := by
      rw [Bool.eq_false_iff]
      intro hh
      obtain ⟨n, h1, h2, h3⟩ := (gapB_iff s).1 hh
      exact hn n h1 h2 h3
    rw [← this]; exact h w' he
  intro K2 hK2
  have k2 : 3 ≤ s.length → K2 w := by
    intro h3
    refine hK2 _ fun _ => ?_
    rw [wrap_id (by omega), show ((s.length : Nat) : Int) - 1 = ((s.length - 1 : Nat) : Int) by omega]
    have h1 : ((1 : Nat) : Int) = 1 := rfl
    rw [← h1]
    refine ssl_nat (by omega) (by omega) ?_
    generalize hin : (s.take (s.length - 1)).drop 1 = u
    have hul : u.length ≤ s.length := by rw [← hin]; simp; omega
    have hz : (⟨⟨u⟩⟩ : ByteArray).size = u.length := rfl
    obtain ⟨_, ⟨t, p, h2⟩, ⟨t', p', h3'⟩⟩ := hM
    have nodec : (∀ v, Lib.atoiAll u ≠ .ok v) → ∀ n : Int, 1 ≤ n → n ≤ 64 → gapT n ≠ s := by
      intro hv n n1 n2 hh
      have := gap_inner n
      rw [hh, hin] at this
      have ha := atoi_dec (n.toNat - 1) (by omega)
      rw [show n.toNat - 1 + 1 = n.toNat by omega, ← this] at ha
      exact hv _ ha
    cases ha : Lib.atoiAll u
    · rename_i v
      refine (Tryz.strconv_Atoi_ok ⟨⟨u⟩⟩ (by rw [hz]; omega) v ha w).mono ?_
      rintro e w4 ⟨rfl, hw⟩
      have he : Ext w w4 := by
        rcases hw with rfl | ⟨t, rfl⟩
        · exact Below.refl _ _
        · exact Joins.below_bytesWorld _ _ _ _ (Nat.le_refl _)
      refine ⟨v, .nilIface, rfl, ?_⟩
      refine ifc_nil ?_
      simp only [br_t]
      have key : ∀ n : Int, 1 ≤ n → n ≤ 64 → gapT n = s → n = v := by
        intro n n1 n2 hh
        have h5 := gap_inner n
        rw [hh, hin] at h5
        have ha' := atoi_dec (n.toNat - 1) (by omega)
        rw [show n.toNat - 1 + 1 = n.toNat by omega, ← h5, ha] at ha'
        injection ha' with ha'
        omega
      refine br_split (fun g => br_split (fun g2 => ?_) (fun g2 => bad w4 he fun n n1 n2 hh => by have := key n n1 n2 hh; omega)) (fun g => bad w4 he fun n n1 n2 hh => by have := key n n1 n2 hh; omega)
      have hmm : v = ((v.toNat : Nat) : Int) := by omega
      have hI := Tryz.strconv_Itoa_small v.toNat (by omega) w4
      rw [← hmm] at hI
      refine hI.mono ?_
      rintro _ w5 ⟨rfl, hw5⟩
      subst hw5
      have hdl := decDigits_len v.toNat (by omega)
      refine ⟨_, rfl, ?_⟩
      refine ⟨by simp; omega, by simp; omega, ?_⟩
      have e : decide (s = [91] ++ Lib.decDigits v.toNat ++ [93]) = gapB s := by
        rw [Bool.eq_iff_iff, decide_eq_true_eq, gapB_iff]
        constructor
        · intro hh; exact ⟨v, g, g2, by rw [hh]; simp [gapT]⟩
        · rintro ⟨n, n1, n2, n3⟩
          have := key n n1 n2 n3
          subst this
          rw [← n3]; simp [gapT]
      show R (.returned (.bool (decide (s = [91] ++ Lib.decDigits v.toNat ++ [93])))) w5
      rw [e]; exact h w5 he
    · refine (Tryz.strconv_Atoi_syntax ⟨⟨u⟩⟩ (by rw [hz]; omega) ha _ w h2 (.inr ⟨_, _, rfl⟩)).mono ?_
      rintro e w4 ⟨N, rfl, _, _, he⟩
      refine ⟨_, _, rfl, ?_⟩
      refine ifc_some ?_
      simp only [br_f]
      exact bad w4 he (nodec fun v hv => by rw [ha] at hv; cases hv)
    · refine (Tryz.strconv_Atoi_range ⟨⟨u⟩⟩ (by rw [hz]; omega) ha _ w h3' (.inr ⟨_, _, rfl⟩)).mono ?_
      rintro e w4 ⟨N, rfl, _, _, he⟩
      refine ⟨_, _, rfl, ?_⟩
      refine ifc_some ?_
      simp only [br_f]
      exact bad w4 he (nodec fun v hv => by rw [ha] at hv; cases hv)
  refine br_split (fun g => bad w (Below.refl _ _) fun n n1 n2 hh => ?_) (fun g => ?_)
  · have := dec_pos n.toNat (by omega)
    have h5 : (gapT n).length = (Lib.decDigits n.toNat).length + 2 := by unfold gapT; simp
    rw [hh] at h5; omega
  have h00 : ((0 : Nat) : Int) = 0 := rfl
  rw [← h00]
  refine sidx_nat (by omega) (br_split (fun g1 => bad w (Below.refl _ _) fun n n1 n2 hh => ?_) (fun g1 => ?_))
  · subst hh; exact g1 (by simp [gapT])
  rw [wrap_id (by omega), show ((s.length : Nat) : Int) - 1 = ((s.length - 1 : Nat) : Int) by omega]
  refine sidx_nat (by omega) (br_split (fun g2 => bad w (Below.refl _ _) fun n n1 n2 hh => ?_) (fun g2 => k2 (by omega)))
  subst hh
  exact g2 (by simp [gapT])
theorem mark_spec (s : List UInt8) (h : R (.returned (.bool (markB s))) w) : Calls Tryz.prog F_tokenizer_mark ⟨[.string ⟨⟨s⟩⟩]⟩ w R := by
  apply c_tokenizer_mark
  refine br_split (fun g => ?_) (fun g => ?_)
  · have : markB s = false := by
      unfold markB
      split
      · simp at g
      · rfl
    rw [this] at h; exact h
  · obtain ⟨c, rfl⟩ : ∃ c, s = [c] := by
      have hl : s.length = 1 := by omega
      exact List.length_eq_one_iff.1 hl
    have h00 : ((0 : Nat) : Int) = 0 := rfl
    rw [← h00]
    refine sidx_nat (by simp) (Kind_spec _ ⟨_, rfl, ?_⟩)
    have hb : markB [c] = (decide (kd c = 5) || decide (kd c = 4)) := rfl
    rw [hb] at h
    refine br_split (fun g5 => ?_) (fun g5 => ?_)
    · have g5 : kd c = 5 := g5
      rw [decide_eq_true g5, Bool.true_or] at h; exact h
    · have g5' : ¬ kd c = 5 := g5
      rw [decide_eq_false g5', Bool.false_or] at h; exact h
set_option maxRecDepth 20000 in
theorem norm15_spec (s : List UInt8) (hs : s.length ≤ 4611686018427387904) (h : R (.returned (.bool (normB s))) w) : Calls Tryz.prog F_tokenizer_norm ⟨[.string ⟨⟨s⟩⟩]⟩ w R := by
  apply c_tokenizer_norm
  refine ⟨fun i W m => ∃ k : Nat, i = k ∧ k ≤ s.length ∧ m = s.length - k ∧ wordlyF (s.take k) = true ∧ W = w, ⟨_, 0, rfl, by omega, rfl, by rw [List.take_zero]; rfl, rfl⟩, ?_⟩
  rintro _ W m ⟨k, rfl, hk, rfl, hw, rfl⟩ _
  refine br_split (fun hlt => ?_) (fun hge => ?_)
  · have hkl : k < s.length := by omega
    refine sidx_nat hkl (tkinner_spec _ ⟨_, rfl, br_cases (fun g => ?_) (fun g => ?_)⟩)
    · have : normB s = false := by
        unfold normB
        have h1 := wordly_no s k hkl (by rw [Bool.not_eq_true'] at g; exact g)
        unfold wordlyF at h1
        rw [h1, Bool.and_false]
      rw [this] at h; exact h
    · exact ⟨s.length - (k + 1), by omega, k + 1, by rw [wrap_nat (by omega)], by omega, rfl, by rw [wordly_at s k hkl, hw]; rw [Bool.not_eq_false'] at g; rw [g]; rfl, rfl⟩
  · rw [List.take_of_length_le (by omega)] at hw
    unfold wordlyF at hw
    unfold normB at h
    rw [hw, Bool.and_true] at h
    refine br_split (fun g => ?_) (fun g => ?_)
    · rw [decide_eq_true g, Bool.true_and, decide_eq_decide.2 (show s.length ≤ 64 ↔ ((s.length : Nat) : Int) ≤ 64 by omega)] at h
      exact h
    · rw [decide_eq_false g, Bool.false_and] at h; exact h
set_option maxRecDepth 40000 in
theorem TokCheck_spec (x : Tok) (ht : x.t.length ≤ 1000000000000) (hm : x.m.length ≤ 4611686018427387904) (hM : Mk w) (h : ∀ w', Ext w w' → R (.returned (.int .i64 (tokE x))) w') : Calls Tryz.prog F_tokenizer_Check ⟨[aggT x]⟩ w R := by
  apply c_tokenizer_Check
  refine al_intro fun b7 w8 hb7 B7 e8 s8 => ?_
  intro K9 hK9
  have k9 : ¬ (x.g < 0 ∨ 31 < x.g) → K9 w8 := by
    intro hg
    obtain ⟨f10, f2, f8, f16⟩ := bitA_facts (g := x.g) (by omega) (by omega)
    refine hK9 _ fun _ => ?_
    unfold drw
    have ed := ext_drew w8
    have B11 := B7.ext ed
    have E11 := ext_trans e8 ed
    generalize w8.drew = w11 at *
    obtain ⟨c0, c1, c2, c3, c4, c5⟩ := blk6' B11
    have H : ∀ (e : Int) (v : World), tokE x = e → Ext w v → R (.returned (.int .i64 e)) v := fun e v he hv => by rw [← he]; exact h v hv
    refine ⟨_, c4, _, c4, ?_⟩
    intro K14 hK14
    rw [f2, f8]
    have k14 : ¬ (hasG x.g 2 = true ∧ hasG x.g 8 = true) → K14 w11 := by
      intro hno
      refine hK14 _ fun _ => ?_
      have hT : tokE x = if textB x = false then 11 else if x.p.2 < 0 then 2 else if namedB x.p.1 = false ∨ namedB x.a = false then 14 else 0 := by unfold tokE; rw [if_neg hg, if_neg hno]
      intro K16 hK16
      have k16 : ∀ (f1 : FuncId), (f1 = if hasG x.g 2 = true then 50 else 15) → K16 (.func f1) #[] #[] w11 := by
        intro f1 hf1
        refine hK16 _ _ _ _ fun _ => ?_
        intro K19 hK19
        have k19 : ∀ (f2 : FuncId), (f2 = if hasG x.g 8 = true then 51 else f1) → K19 (.func f2) #[] #[] w11 := by
          intro fn hfn
          refine hK19 _ _ _ _ fun _ => ?_
          intro K22 hK22
          have k22 : ∀ (t : Bool) (v : World), Ext w11 v → t = !textB x → K22 t v := by
            intro t v hv htb
            refine hK22 _ _ fun _ => ?_
            have Bv := B11.ext hv
            have Ev := ext_trans E11 hv
            obtain ⟨d0, d1, d2, d3, d4, d5⟩ := blk6' Bv
            subst htb
            have e21 : ((⟨b7, 0, none⟩ : Addr).add 2).add 1 = (⟨b7, 0, none⟩ : Addr).add 3 := by simp only [add_none]
            have e20 : ((⟨b7, 0, none⟩ : Addr).add 2).add 0 = (⟨b7, 0, none⟩ : Addr).add 2 := by simp only [add_none]
            cases htx : textB x with
            | false =>
              simp only [Bool.not_false, br_t]
              exact H 11 v (by rw [hT, if_pos htx]) Ev
            | true =>
              simp only [Bool.not_true, br_f]
              rw [if_neg (by rw [htx]; decide)] at hT
              refine ⟨_, by rw [e21]; exact d3, br_split (fun q => H 2 v (by rw [hT, if_pos q]) Ev) (fun q => ⟨_, by rw [e20]; exact d2, ?_⟩)⟩
              rw [if_neg q] at hT
              refine named_spec _ ⟨_, rfl, br_cases (fun q1 => H 14 v (by rw [hT, if_pos (.inl (by simpa using q1))]) Ev) (fun q1 => ⟨_, d5, ?_⟩)⟩
              refine named_spec _ ⟨_, rfl, br_cases (fun q2 => H 14 v (by rw [hT, if_pos (.inr (by simpa using q2))]) Ev) (fun q2 => H 0 v ?_ Ev)⟩
              rw [hT, if_neg]
              rintro (hh | hh)
              · rw [hh] at q1; cases q1
              · rw [hh] at q2; cases q2
          -- the form
          have hform : ∀ R' : Ending → World → Prop, (∀ v', Ext w11 v' → R' (.returned (.bool (if hasG x.g 2 = true then gapB x.t else if hasG x.g 8 = true then markB x.t else isWordF x.t))) v') → CallV Tryz.prog (.func (.func fn) #[] #[]) [.string ⟨⟨x.t⟩⟩] w11 R' := by
            intro R' hR'
            cases h2 : hasG x.g 2 with
            | true =>
              have h8 : hasG x.g 8 = false := by
                cases h8 : hasG x.g 8 with
                | false => rfl
                | true => exact absurd ⟨h2, h8⟩ hno
              have : fn = 50 := by rw [hfn, h8, if_neg (by decide), hf1, h2]; rfl
              subst this
              rw [h2, if_pos rfl] at hR'
              exact ⟨by kernel_rfl, gap_spec x.t ht (hM.ext E11) hR'⟩
            | false =>
              rw [h2, if_neg (by decide)] at hR'
              cases h8 : hasG x.g 8 with
              | true =>
                have : fn = 51 := by rw [hfn, h8]; rfl
                subst this
                rw [h8, if_pos rfl] at hR'
                exact ⟨by kernel_rfl, mark_spec x.t (hR' w11 (Below.refl _ _))⟩
              | false =>
                have : fn = 15 := by rw [hfn, h8, if_neg (by decide), hf1, h2]; rfl
                subst this
                rw [h8, if_neg (by decide)] at hR'
                exact ⟨by kernel_rfl, IsWord_spec x.t hR'⟩
          have hTx : textB x = ((if hasG x.g 2 = true then gapB x.t else if hasG x.g 8 = true then markB x.t else isWordF x.t) && (if wordG x.g = true then normB x.m else decide (x.m = x.t))) := by
            unfold textB wordG
            cases hasG x.g 2 <;> cases hasG x.g 8 <;> rfl
          refine ⟨_, c0, hform _ fun w36 e36 => ⟨_, rfl, ?_⟩⟩
          generalize hfm : (if hasG x.g 2 = true then gapB x.t else if hasG x.g 8 = true then markB x.t else isWordF x.t) = fm at *
          have B36 := B11.ext e36
          cases fm with
          | false =>
            simp only [Bool.not_false, br_t]
            exact k22 true w36 e36 (by rw [hTx]; rfl)
          | true =>
            simp only [Bool.not_true, br_f]
            rw [Bool.true_and] at hTx
            intro K38 hK38
            have k38 : ∀ (t : Bool) (v : World), Ext w11 v → t = (wordG x.g && !normB x.m) → K38 t v := by
              intro t v hv ht'
              refine hK38 _ _ fun _ => ?_
              cases t with
              | true =>
                simp only [br_t]
                refine k22 true v hv ?_
                rw [hTx]
                cases hw : wordG x.g with
                | true => rw [hw] at ht'; simp at ht' ⊢; exact ht'.symm ▸ rfl
                | false => rw [hw] at ht'; cases ht'
              | false =>
                simp only [br_f]
                obtain ⟨d0, d1, d2, d3, d4, d5⟩ := blk6' (B11.ext hv)
                refine ⟨_, d0, _, d1, _, d2, _, d3, _, d4, _, d5, ?_⟩
                refine isWordT_spec x (by omega) (by omega) fun w48 e48 => ⟨_, rfl, ?_⟩
                have F48 := ext_trans hv e48
                cases hw : wordG x.g with
                | true =>
                  simp only [Bool.not_true, br_f]
                  refine k22 false w48 F48 ?_
                  rw [hTx, hw, if_pos rfl]
                  rw [hw] at ht'
                  simp at ht' ⊢
                  exact ht'
                | false =>
                  simp only [Bool.not_false, br_t]
                  obtain ⟨f0, f1, _⟩ := blk6' (B11.ext F48)
                  refine ⟨_, f1, _, f0, k22 _ w48 F48 ?_⟩
                  rw [hTx, hw, if_neg (by decide)]
                  by_cases hmt : x.m = x.t <;> simp [hmt]
            obtain ⟨d0, d1, d2, d3, d4, d5⟩ := blk6' B36
            refine ⟨_, d0, _, d1, _, d2, _, d3, _, d4, _, d5, ?_⟩
            refine isWordT_spec x (by omega) (by omega) fun w59 e59 => ⟨_, rfl, ?_⟩
            have F59 := ext_trans e36 e59
            cases hw : wordG x.g with
            | true =>
              simp only [br_t]
              refine ⟨_, (blk6' (B11.ext F59)).2.1, norm15_spec x.m hm ⟨_, rfl, k38 _ w59 F59 ?_⟩⟩
              rw [hw, Bool.true_and]
            | false =>
              simp only [br_f]
              exact k38 false w59 F59 (by rw [hw]; rfl)
        refine br_cases (fun q => k19 51 (by rw [← f8, q]; rfl)) (fun q => k19 f1 (by rw [← f8, q]; rfl))
      refine br_cases (fun q => k16 50 (by first | (rw [← f2, q]; rfl) | (rw [q]; rfl))) (fun q => k16 15 (by first | (rw [← f2, q]; rfl) | (rw [q]; rfl)))
    refine br_cases (fun q => br_cases (fun q2 => H 8 w11 (by unfold tokE; rw [if_neg hg, if_pos ⟨q, q2⟩]) E11) (fun q2 => k14 (fun hh => by rw [hh.2] at q2; cases q2))) (fun q => k14 (fun hh => by rw [hh.1] at q; cases q))
  obtain ⟨c0, c1, c2, c3, c4, c5⟩ := blk6' B7
  refine ⟨_, c4, br_split (fun q => ?_) (fun q => ⟨_, c4, br_split (fun q2 => ?_) (fun q2 => k9 (by omega))⟩)⟩
  · have : tokE x = 2 := by unfold tokE; rw [if_pos (.inl q)]
    rw [← this]; exact h w8 e8
  · have : tokE x = 2 := by unfold tokE; rw [if_pos (.inr q2)]
    rw [← this]; exact h w8 e8
end
end Go.Proofs
namespace Go.Proofs
open Go Go.Sh Go.RowKit

/- the law Valid -/
section
variable {R : Ending → World → Prop} {w : World}
end
end Go.Proofs
namespace Go.Proofs
open Go Go.Sh Go.RowKit

/- a piece of a list of nodes -/
theorem SlF.one {S : Nat → Prop} {w : World} {a : Option Addr} {n : Nat} {f pre r : Fo} {k t m ps} (h : SlF S w a n f) (hf : f = pre.app (.cons k t m ps r)) {c : Nat} (hc : n ≤ c) {K : Option Addr → Nat → Nat → Prop}
    (hk : ∀ a' c', SlF S w a' 1 (.one k t m ps) → K a' 1 c') : sls a c (pre.len : Int) ((pre.len + 1 : Nat) : Int) 4 K := by
  have hn := h.1
  have hl := Fo.sub_len hf
  refine ⟨by omega, by omega, by omega, ?_⟩
  rw [Int.toNat_natCast, Int.toNat_natCast, show pre.len + 1 - pre.len = 1 by omega]
  refine hk _ _ ?_
  obtain ⟨_, us, h2, h3⟩ := h
  rw [hf] at h3
  obtain ⟨xs, ys, rfl, g1, a', c', zs, vs', rfl, g2, g3, g4⟩ := h3.split
  have hxl := g1.len
  rcases h2 with h2 | ⟨b, o, rfl, hb, hbl, hcell⟩
  · simp at h2
  refine ⟨rfl, [.int .i64 k, .string ⟨⟨t⟩⟩, .int .i64 m, .slice a' ps.len c'], ?_, a', c', zs, [], rfl, g2, g3, rfl⟩
  have hsl : slA (some ⟨b, o, none⟩) c pre.len 4 = some ⟨b, o + pre.len * 4, none⟩ := by
    unfold slA
    rw [if_neg (by omega)]
    simp only [Option.map_some, add_none]
  rw [hsl]
  refine .inr ⟨b, o + pre.len * 4, rfl, hb, hbl, fun j v hj => ?_⟩
  have hj4 : j < 4 := by have := (List.getElem?_eq_some_iff.1 hj).1; simpa using this
  rw [Nat.add_assoc]
  refine hcell _ _ ?_
  rw [List.getElem?_append_right (by omega), show pre.len * 4 + j - xs.length = j by omega]
  rcases (by omega : j = 0 ∨ j = 1 ∨ j = 2 ∨ j = 3) with rfl | rfl | rfl | rfl <;> simpa using hj

/- a piece of a right list is right -/
end Go.Proofs
namespace Go.Proofs
open Go Go.Sh Go.RowKit

/- the marks of loss in the pattern -/
/- replacing one byte by nothing -/
end Go.Proofs
namespace Go.Proofs
open Go Go.Sh Go.RowKit

/- the law Characters -/
section
variable {R : Ending → World → Prop} {w : World}
end
end Go.Proofs
