/- The contracts of the functions that the law reaches, one after the other, and at the end the law's card. -/
import Derived.Test.YtieeggfkfgmdgaaGreatDoorLawF
namespace Go.Proofs
open Go Go.Sh Go.RowKit

/- the reference's tokens: what is small -/
section
variable {R : Ending → World → Prop} {w : World}
theorem has_eq {g : Int} (h0 : 0 ≤ g) (h1 : g ≤ 31) : (decide (Int.tmod (IntKind.i64.wrap (Int.tdiv g 2)) 2 = 1) = hasG g 2) ∧ (decide (Int.tmod (IntKind.i64.wrap (Int.tdiv g 8)) 2 = 1) = hasG g 8) ∧ (decide (Int.tmod (IntKind.i64.wrap (Int.tdiv g 16)) 2 = 1) = hasG g 16) := by
  have key : ∀ n : Fin 32, (decide (Int.tmod (IntKind.i64.wrap (Int.tdiv (n.val : Int) 2)) 2 = 1) = hasG (n.val : Int) 2) ∧ (decide (Int.tmod (IntKind.i64.wrap (Int.tdiv (n.val : Int) 8)) 2 = 1) = hasG (n.val : Int) 8) ∧ (decide (Int.tmod (IntKind.i64.wrap (Int.tdiv (n.val : Int) 16)) 2 = 1) = hasG (n.val : Int) 16) := by decide +kernel
  have := key ⟨g.toNat, by omega⟩
  have e : ((g.toNat : Nat) : Int) = g := by omega
  simp only [e] at this
  exact this
theorem has15_spec (x : Tok) (m : Int) (hm : m = 2 ∨ m = 8 ∨ m = 16) (h0 : 0 ≤ x.g) (h1 : x.g ≤ 31) (h : ∀ w', Ext w w' → R (.returned (.bool (hasG x.g m))) w') : Calls Tryz.prog F_ref15_has ⟨[aggT x, .int .i64 m]⟩ w R := by
  apply c_ref15_has
  refine al_intro fun b w9 hb B9 e9 s9 => ⟨_, (blk6' B9).2.2.2.2.1, by rcases hm with rfl | rfl | rfl <;> decide, by decide, ?_⟩
  obtain ⟨q2, q8, q16⟩ := has_eq h0 h1
  have hh := h w9 e9
  rcases hm with rfl | rfl | rfl
  · rw [q2]; exact hh
  · rw [q8]; exact hh
  · rw [q16]; exact hh
theorem word15_spec (x : Tok) (h0 : 0 ≤ x.g) (h1 : x.g ≤ 31) (h : ∀ w', Ext w w' → R (.returned (.bool (wordG x.g))) w') : Calls Tryz.prog F_ref15_word ⟨[aggT x]⟩ w R := by
  apply c_ref15_word
  refine al_intro fun b w8 hb B8 e8 s8 => ?_
  obtain ⟨c0, c1, c2, c3, c4, c5⟩ := blk6' B8
  refine ⟨_, c0, _, c1, _, c2, _, c3, _, c4, _, c5, has15_spec x 2 (.inl rfl) h0 h1 fun w16 e16 => ⟨_, rfl, ?_⟩⟩
  have E16 := ext_trans e8 e16
  unfold wordG at h
  cases h2 : hasG x.g 2 with
  | true =>
    simp only [Bool.not_true, br_f]
    rw [h2] at h
    exact h w16 E16
  | false =>
    simp only [Bool.not_false, br_t]
    obtain ⟨d0, d1, d2, d3, d4, d5⟩ := blk6' (B8.ext e16)
    refine ⟨_, d0, _, d1, _, d2, _, d3, _, d4, _, d5, has15_spec x 8 (.inr (.inl rfl)) h0 h1 fun w25 e25 => ⟨_, rfl, ?_⟩⟩
    rw [h2] at h
    exact h w25 (ext_trans E16 e25)
theorem wordly15_spec (c : UInt8) (h : R (.returned (.bool (innC c))) w) : Calls Tryz.prog F_ref15_wordly ⟨[.int .u8 (c.toNat : Int)]⟩ w R := by
  apply c_ref15_wordly
  refine Kind_spec' c ⟨_, rfl, ?_⟩
  rw [inn_of] at h
  refine br_split (fun g => ?_) (fun g => br_split (fun g2 => ?_) (fun g2 => br_split (fun g3 => ?_) (fun g3 => ?_)))
  · rw [decide_eq_true (.inl g)] at h; exact h
  · rw [decide_eq_true (.inr (.inl g2))] at h; exact h
  · rw [decide_eq_true (.inr (.inr (.inl g3)))] at h; exact h
  · rw [decide_eq_decide.2 (show (kd c = 1 ∨ kd c = 2 ∨ kd c = 3 ∨ kd c = 4) ↔ kd c = 4 by omega)] at h; exact h
theorem begins15_spec (c : UInt8) (h : R (.returned (.bool (letB c))) w) : Calls Tryz.prog F_ref15_begins ⟨[.int .u8 (c.toNat : Int)]⟩ w R := by
  apply c_ref15_begins
  refine Kind_spec' c ⟨_, rfl, br_split (fun g => ?_) (fun g => ?_)⟩
  · have : letB c = true := (letB_iff c).2 (.inl g)
    rw [this] at h; exact h
  · have : letB c = decide (kd c = 3) := by
      rw [Bool.eq_iff_iff, letB_iff, decide_eq_true_eq]; omega
    rw [this] at h; exact h
theorem named15_spec (s : List UInt8) (h : ∀ w', Ext w w' → R (.returned (.bool (namedB s))) w') : Calls Tryz.prog F_ref15_named ⟨[.string ⟨⟨s⟩⟩]⟩ w R := by
  apply c_ref15_named
  unfold namedB at h
  refine br_split (fun g => ?_) (fun g => IsName_spec' s fun w3 e3 => ⟨_, rfl, ?_⟩)
  · rw [decide_eq_true g] at h; exact h w (Below.refl _ _)
  · rw [decide_eq_false g] at h; exact h w3 e3
theorem limits15_spec {S : Nat → Prop} {a : Option Addr} {n c : Nat} (l : List Tok) (hR : RowAt encTk S w a n l) (h : R (.returned (.int .i64 (if longT l = true then 4 else 0))) w) : Calls Tryz.prog F_ref15_limits ⟨[.slice a n c]⟩ w R := by
  apply c_ref15_limits
  have hn := hR.1
  refine br_split (fun g => ?_) (fun g => ?_)
  · have : longT l = true := by unfold longT; rw [decide_eq_true (by omega), Bool.true_or]
    rw [this] at h; exact h
  have hl : longT l = l.any fun x => decide (64 < x.t.length) := by unfold longT; rw [decide_eq_false (by omega), Bool.false_or]
  rw [hl] at h
  refine ⟨fun i W m => ∃ k : Nat, i = k ∧ k ≤ n ∧ m = n - k ∧ ((l.take k).any fun x => decide (64 < x.t.length)) = false ∧ W = w, ⟨_, 0, rfl, by omega, rfl, rfl, rfl⟩, ?_⟩
  rintro _ W m ⟨k, rfl, hk, rfl, hz, rfl⟩ _
  refine br_split (fun hlt => ?_) (fun hge => ?_)
  · have hkl : k < l.length := by omega
    obtain ⟨q, hq, c0, _⟩ := tok_get hR (show l[k]? = some l[k] by simp [hkl])
    refine hq _ ⟨_, c0, br_split (fun g2 => ?_) (fun g2 => ?_)⟩
    · have : (l.any fun x => decide (64 < x.t.length)) = true := List.any_eq_true.2 ⟨l[k], List.getElem_mem hkl, by simpa using (show 64 < l[k].t.length by omega)⟩
      rw [this] at h; exact h
    · refine ⟨n - (k + 1), by omega, k + 1, by rw [wrap_nat (by omega)], by omega, rfl, ?_, rfl⟩
      rw [List.take_succ_eq_append_getElem hkl, List.any_append, hz]
      simp; omega
  · rw [List.take_of_length_le (by omega)] at hz
    rw [hz] at h; exact h
theorem nrm_word {rs : List Rw} {x : Tok} (h : wordG x.g = true) : nrmT rs x = setM x (rwR rs x.t) := by unfold nrmT; rw [h]; rfl
theorem nrm_other {rs : List Rw} {x : Tok} (h : wordG x.g = false) (hm : x.m = x.t) : nrmT rs x = x := by unfold nrmT setM; rw [h]; cases x; simp_all
set_option maxRecDepth 20000 in
theorem normalize15_spec {S S2 : Nat → Prop} {a0 : Option Addr} {n0 c0 : Nat} {a : Option Addr} {n c : Nat} (rs : List Rw) (l : List Tok) (hsm : smallR rs) (hR : RowAt encRw S w a0 n0 rs) (hO : RowAt encTk S2 w a n l) (hg : ∀ x ∈ l, 0 ≤ x.g ∧ x.g ≤ 31) (hm : ∀ x ∈ l, wordG x.g = false → x.m = x.t) (hn : n ≤ 1000000)
    (h : ∀ a' n' c' w', Ext w w' → OwnL encTk w' w.heap.size 31 a' n' c' (if nrmE rs l = 0 then l.map (nrmT rs) else []) → R (.returned (.tuple ⟨[.slice a' n' c', .int .i64 (nrmE rs l)]⟩)) w') :
    Calls Tryz.prog F_ref15_normalize ⟨[.slice a0 n0 c0, .slice a n c]⟩ w R := by
  apply c_ref15_normalize
  have hln := hO.1
  refine ⟨fun oa on oc i W m => ∃ k : Nat, i = k ∧ k ≤ n ∧ m = n - k ∧ on = k ∧ Ext w W ∧ OwnL encTk W w.heap.size 31 oa on oc ((l.take k).map (nrmT rs)) ∧ nrmE rs (l.take k) = 0, ⟨_, 0, rfl, by omega, rfl, rfl, Below.refl _ _, Owns.nil _ _ _ _, rfl⟩, ?_⟩
  rintro oa on oc _ W m ⟨k, rfl, hk, rfl, rfl, he, hOW, hz⟩ _
  refine br_split (fun hlt => ?_) (fun hge => ?_)
  · have hkl : on < l.length := by omega
    have htk : l.take (on + 1) = l.take on ++ [l[on]] := List.take_succ_eq_append_getElem hkl
    obtain ⟨hg0, hg1⟩ := hg l[on] (List.getElem_mem hkl)
    have hmx := hm l[on] (List.getElem_mem hkl)
    obtain ⟨q, hq, c0, c1, c2, c3, c4, c5⟩ := tok_get (hO.ext he) (show l[on]? = some l[on] by simp [hkl])
    generalize hx : l[on] = x at *
    refine hq _ ⟨_, c0, _, c1, _, c2, _, c3, _, c4, _, c5, ?_⟩
    refine al_stL rfl (one6t _) fun b w18 hb B18 e18 s18 => ?_
    have zW := he.size
    have E18 := ext_trans he e18
    intro K19 hK19
    have k19 : ∀ (y : Tok) (v : World), Blk v b (encTk.enc y) 31 → Ext w v → W.heap.size ≤ v.heap.size → OwnL encTk v w.heap.size 31 oa on oc ((l.take on).map (nrmT rs)) → nrmT rs x = y → nrmE rs (l.take (on + 1)) = 0 → K19 v := by
      intro y v Bv Ev zv Ov hy hz2
      refine hK19 _ fun _ => ?_
      have Bv' : Blk v b [.string ⟨⟨y.t⟩⟩, .string ⟨⟨y.m⟩⟩, .string ⟨⟨y.p.1⟩⟩, .int .i64 y.p.2, .int .i64 y.g, .string ⟨⟨y.a⟩⟩] 31 := Bv
      obtain ⟨d0, d1, d2, d3, d4, d5⟩ := blk6' Bv'
      refine ⟨_, d0, _, d1, _, d2, _, d3, _, d4, _, d5, ?_⟩
      refine al_intro fun b27 w28 hb27 B28 e28 s28 => ?_
      have z28 := (ext_trans Ev e28).size
      have B28' : Blk w28 b27 (encTk.enc y) 31 := B28
      refine OwnL.app1 (P := Tryz.prog) slT_tok (Owns.ext Ov e28) (by omega) B28' (by omega) (by omega) fun a' c'' w30 ho hcg hn2 => ?_
      refine ⟨n - (on + 1), by omega, on + 1, by rw [wrap_nat (by omega)], by omega, rfl, rfl, ext_chgS (ext_trans Ev e28) hcg fun k hk => ((Owns.ext Ov e28).bk hk).1, ?_, hz2⟩
      rw [htk, List.map_append, List.map_singleton, hy]; exact ho
    obtain ⟨d0, d1, d2, d3, d4, d5⟩ := blk6' B18
    refine ⟨_, d0, _, d1, _, d2, _, d3, _, d4, _, d5, word15_spec x hg0 hg1 fun w39 e39 => ⟨_, rfl, ?_⟩⟩
    have E39 := ext_trans E18 e39
    have B39 := B18.ext e39
    have O39 := (Owns.ext (Owns.ext hOW e18) e39)
    have z39 := (ext_trans e18 e39).size
    cases hwg : wordG x.g with
    | false =>
      simp only [br_f]
      refine k19 x w39 B39 E39 z39 O39 (nrm_other hwg (hmx hwg)) ?_
      rw [htk, nrmE_snoc rs _ _ hz, if_neg (fun hh => by rw [hwg] at hh; cases hh.1)]
    | true =>
      simp only [br_t]
      refine ⟨_, (blk6' B39).1, ?_⟩
      refine Norm14_spec rs x.t hsm (hR.ext E39) fun w43 e43 => ⟨_, _, rfl, ?_⟩
      have E43 := ext_trans E39 e43
      refine br_split (fun g3 => ?_) (fun g3 => ?_)
      · have he3 : nrmE rs l = rwE rs x.t := by
          have h1 : nrmE rs (l.take (on + 1)) = rwE rs x.t := by rw [htk, nrmE_snoc rs _ _ hz, if_pos ⟨hwg, g3⟩]
          have h2 := nrmE_app rs (l.take (on + 1)) (l.drop (on + 1)) (by rw [h1]; exact g3)
          rw [List.take_append_drop] at h2
          rw [h2, h1]
        rw [he3, if_neg g3] at h
        exact h none 0 0 w43 E43 (Owns.nil _ _ _ _)
      · have B43 := B39.ext e43
        refine blk_set B43 (i := 1) (by simp) rfl fun w46 B46 c46 s46 => ?_
        have hbl : w.heap.size ≤ b := by omega
        have hnb : ∀ k, bk oa k → ¬ k = b := fun k hk he => by have := (hOW.bk hk).2; omega
        refine k19 (setM x (rwR rs x.t)) w46 B46 (ext_chgS E43 c46 fun k hk => by omega) (by have := e43.size; omega) ((Owns.ext O39 e43).chg c46 hnb) (nrm_word hwg) ?_
        rw [htk, nrmE_snoc rs _ _ hz, if_neg (fun hh => hh.2 (Decidable.not_not.1 g3))]
  · have hkn : on = n := by omega
    subst hkn
    rw [List.take_of_length_le (by omega)] at hz hOW
    rw [hz, if_pos rfl] at h
    exact h oa on oc W he hOW
theorem gapped15_spec (s : List UInt8) (h : R (.returned (.bool (gapB s))) w) : Calls Tryz.prog F_ref15_gapped ⟨[.string ⟨⟨s⟩⟩]⟩ w R := by
  apply c_ref15_gapped
  refine ⟨fun i W m => ∃ k : Nat, i = (k : Int) + 1 ∧ k ≤ 64 ∧ m = 64 - k ∧ (∀ j : Nat, j < k → gapT ((j : Int) + 1) ≠ s) ∧ W = w, ⟨_, 0, rfl, by omega, rfl, fun j hj => by omega, rfl⟩, ?_⟩
  rintro _ W m ⟨k, rfl, hk, rfl, hz, rfl⟩ _
  refine br_split (fun hlt => ?_) (fun hge => ?_)
  · have hI := Tryz.strconv_Itoa_small (k + 1) (by omega) W
    rw [show ((k + 1 : Nat) : Int) = (k : Int) + 1 by omega] at hI
    refine hI.mono ?_
    rintro _ w5 ⟨rfl, hw5⟩
    subst hw5
    have hdl := decDigits_len (k + 1) (by omega)
    have eg : gapT ((k : Int) + 1) = [91] ++ Lib.decDigits (k + 1) ++ [93] := by
      unfold gapT
      rw [show ((k : Int) + 1).toNat = k + 1 by omega]; simp
    refine ⟨_, rfl, by simp; omega, by simp; omega, ?_⟩
    refine br_split (fun g => ?_) (fun g => ?_)
    · have : gapB s = true := (gapB_iff s).2 ⟨(k : Int) + 1, by omega, by omega, by rw [eg]; exact g.symm⟩
      rw [this] at h; exact h
    · refine ⟨64 - (k + 1), by omega, k + 1, by rw [wrap_id (by omega)]; omega, by omega, rfl, fun j hj => ?_, rfl⟩
      by_cases e : j = k
      · subst e; rw [eg]; exact fun hh => g hh.symm
      · exact hz j (by omega)
  · have : gapB s = false := by
      rw [Bool.eq_false_iff]
      intro hh
      obtain ⟨n, n1, n2, n3⟩ := (gapB_iff s).1 hh
      exact hz (n - 1).toNat (by omega) (by rw [show (((n - 1).toNat : Nat) : Int) + 1 = n by omega]; exact n3)
    rw [this] at h; exact h
set_option maxRecDepth 40000 in
theorem Check15r_spec (x : Tok) (hm : x.m.length ≤ 4611686018427387904) (h : ∀ w', Ext w w' → R (.returned (.int .i64 (tokE x))) w') : Calls Tryz.prog F_ref15_Check ⟨[aggT x]⟩ w R := by
  apply c_ref15_Check
  refine al_intro fun b w8 hb B8 e8 s8 => ?_
  have H : ∀ (e : Int) (v : World), tokE x = e → Ext w v → R (.returned (.int .i64 e)) v := fun e v he hv => by rw [← he]; exact h v hv
  intro K9 hK9
  have k9 : ¬ (x.g < 0 ∨ 31 < x.g) → K9 w8 := by
    intro hg
    refine hK9 _ fun _ => ?_
    intro K11 hK11
    have k11 : ∀ v, Ext w8 v → K11 (hasG x.g 2) (hasG x.g 8) v := by
      intro v ev
      refine hK11 _ _ _ fun _ => ?_
      have Ev := ext_trans e8 ev
      have Bv := B8.ext ev
      intro K15 hK15
      have k15 : ¬ (hasG x.g 2 = true ∧ hasG x.g 8 = true) → K15 v := by
        intro hno
        refine hK15 _ fun _ => ?_
        have hT : tokE x = if textB x = false then 11 else if x.p.2 < 0 then 2 else if namedB x.p.1 = false ∨ namedB x.a = false then 14 else 0 := by unfold tokE; rw [if_neg hg, if_neg hno]
        have bad : ∀ v', Ext v v' → textB x = false → R (.returned (.int .i64 11)) v' := fun v' hv' hh => H 11 v' (by rw [hT, if_pos hh]) (ext_trans Ev hv')
        intro K17 hK17
        have k17 : ∀ v2, Ext v v2 → textB x = true → K17 v2 := by
          intro v2 ev2 htx
          refine hK17 _ fun _ => ?_
          have Ev2 := ext_trans Ev ev2
          have B2 := Bv.ext ev2
          obtain ⟨d0, d1, d2, d3, d4, d5⟩ := blk6' B2
          have e21 : ((⟨b, 0, none⟩ : Addr).add 2).add 1 = (⟨b, 0, none⟩ : Addr).add 3 := by simp only [add_none]
          have e20 : ((⟨b, 0, none⟩ : Addr).add 2).add 0 = (⟨b, 0, none⟩ : Addr).add 2 := by simp only [add_none]
          rw [if_neg (by rw [htx]; decide)] at hT
          refine ⟨_, by rw [e21]; exact d3, br_split (fun q => H 2 v2 (by rw [hT, if_pos q]) Ev2) (fun q => ⟨_, by rw [e20]; exact d2, ?_⟩)⟩
          rw [if_neg q] at hT
          refine named15_spec _ fun w22 e22 => ⟨_, rfl, br_cases (fun q1 => H 14 w22 (by rw [hT, if_pos (.inl (by simpa using q1))]) (ext_trans Ev2 e22)) (fun q1 => ⟨_, (blk6' (B2.ext e22)).2.2.2.2.2, ?_⟩)⟩
          refine named15_spec _ fun w26 e26 => ⟨_, rfl, br_cases (fun q2 => H 14 w26 (by rw [hT, if_pos (.inr (by simpa using q2))]) (ext_trans (ext_trans Ev2 e22) e26)) (fun q2 => H 0 w26 ?_ (ext_trans (ext_trans Ev2 e22) e26))⟩
          rw [hT, if_neg]
          rintro (hh | hh)
          · rw [hh] at q1; cases q1
          · rw [hh] at q2; cases q2
        obtain ⟨c0, c1, c2, c3, c4, c5⟩ := blk6' Bv
        -- the norm is the text
        have same : ∀ (v' : World) (f : Bool), Ext v v' → textB x = (f && decide (x.m = x.t)) → f = true → br (decide (x.m ≠ x.t)) (R (.returned (.int .i64 11)) v') (K17 v') := by
          intro v' f hv' hf ht
          subst ht
          rw [Bool.true_and] at hf
          exact br_split (fun g => bad v' hv' (by rw [hf]; exact decide_eq_false g)) (fun g => k17 v' hv' (by rw [hf]; exact decide_eq_true (Decidable.not_not.1 g)))
        refine br_cases (fun g2 => ?_) (fun g2 => br_cases (fun g8 => ?_) (fun g8 => ?_))
        · have htx : textB x = (gapB x.t && decide (x.m = x.t)) := by unfold textB; rw [if_pos g2]
          refine ⟨_, c0, gapped15_spec x.t ⟨_, rfl, br_cases (fun q => bad v (Below.refl _ _) (by rw [htx]; rw [Bool.not_eq_true'] at q; rw [q]; rfl)) (fun q => ⟨_, c1, _, c0, same v _ (Below.refl _ _) htx (by rw [Bool.not_eq_false'] at q; exact q)⟩)⟩⟩
        · have htx : textB x = (markB x.t && decide (x.m = x.t)) := by unfold textB; rw [if_neg (by rw [g2]; decide), if_pos g8]
          refine ⟨_, c0, br_split (fun q => bad v (Below.refl _ _) ?_) (fun q => ⟨_, c0, ?_⟩)⟩
          · have : markB x.t = false := by
              unfold markB
              split
              · rename_i heq; rw [heq] at q; exact absurd rfl q
              · rfl
            rw [htx, this]; rfl
          · obtain ⟨ch, hch⟩ : ∃ ch, x.t = [ch] := List.length_eq_one_iff.1 (by omega)
            have hmk : markB x.t = (decide (kd ch = 5) || decide (kd ch = 4)) := by rw [hch]; rfl
            rw [hmk] at htx
            have h00 : ((0 : Nat) : Int) = 0 := rfl
            rw [← h00]
            refine sidx_nat (by rw [hch]; simp) ?_
            have hg0 : ∀ hh : 0 < x.t.length, x.t[0] = ch := fun hh => by simp [hch]
            rw [hg0]
            refine Kind_spec' _ ⟨_, rfl, br_split (fun q5 => ⟨_, c0, ?_⟩) (fun q5 => ⟨_, c1, _, c0, same v _ (Below.refl _ _) htx (by rw [decide_eq_true (Decidable.not_not.1 q5)]; rfl)⟩)⟩
            refine sidx_nat (by rw [hch]; simp) ?_
            rw [hg0]
            refine Kind_spec' _ ⟨_, rfl, br_split (fun q4 => bad v (Below.refl _ _) ?_) (fun q4 => ⟨_, c1, _, c0, same v _ (Below.refl _ _) htx (by rw [decide_eq_true (Decidable.not_not.1 q4)]; simp)⟩)⟩
            rw [htx, decide_eq_false q5, decide_eq_false q4]; rfl
        · have htx : textB x = (isWordF x.t && normB x.m) := by unfold textB; rw [if_neg (by rw [g2]; decide), if_neg (by rw [g8]; decide)]
          intro K49 hK49
          have k49 : ∀ v2, Ext v v2 → isWordF x.t = true → x.m ≠ [] → x.m.length ≤ 64 → K49 v2 := by
            intro v2 ev2 hw hne hle
            refine hK49 _ fun _ => ?_
            have hnb : normB x.m = wordlyF x.m := by unfold normB wordlyF; rw [decide_eq_true hne, decide_eq_true hle]; rfl
            rw [hw, hnb, Bool.true_and] at htx
            have B2 := Bv.ext ev2
            obtain ⟨d0, d1, _⟩ := blk6' B2
            refine ⟨fun i W m => ∃ k : Nat, i = k ∧ k ≤ x.m.length ∧ m = x.m.length - k ∧ wordlyF (x.m.take k) = true ∧ W = v2, ⟨_, 0, rfl, by omega, rfl, by rw [List.take_zero]; rfl, rfl⟩, ?_⟩
            rintro _ W m ⟨k, rfl, hk, rfl, hwk, rfl⟩ _
            refine ⟨_, d1, br_split (fun hlt => ⟨_, d1, ?_⟩) (fun hge => ?_)⟩
            · have hkl : k < x.m.length := by omega
              refine sidx_nat hkl (wordly15_spec _ ⟨_, rfl, br_cases (fun q => bad W ev2 ?_) (fun q => ?_)⟩)
              · rw [htx]; exact wordly_no x.m k hkl (by rw [Bool.not_eq_true'] at q; exact q)
              · exact ⟨x.m.length - (k + 1), by omega, k + 1, by rw [wrap_nat (by omega)], by omega, rfl, by rw [wordly_at x.m k hkl, hwk]; rw [Bool.not_eq_false'] at q; rw [q]; rfl, rfl⟩
            · rw [List.take_of_length_le (by omega)] at hwk
              exact k17 W ev2 (by rw [htx]; exact hwk)
          refine ⟨_, c0, IsWord_spec' x.t fun w65 e65 => ⟨_, rfl, br_cases (fun q => bad w65 e65 (by rw [htx]; rw [Bool.not_eq_true'] at q; rw [q]; rfl)) (fun q => ?_)⟩⟩
          obtain ⟨d0, d1, _⟩ := blk6' (Bv.ext e65)
          rw [Bool.not_eq_false'] at q
          refine ⟨_, d1, br_split (fun q2 => bad w65 e65 ?_) (fun q2 => ⟨_, d1, br_split (fun q3 => bad w65 e65 ?_) (fun q3 => k49 w65 e65 q q2 (by omega))⟩)⟩
          · rw [htx]; unfold normB; rw [decide_eq_false (not_not_intro q2)]; simp
          · rw [htx]; unfold normB; rw [decide_eq_false (show ¬ x.m.length ≤ 64 by omega)]; simp
      refine br_cases (fun g2 => br_cases (fun g8 => H 8 v ?_ Ev) (fun g8 => k15 (fun hh => by rw [hh.2] at g8; cases g8))) (fun g2 => k15 (fun hh => by rw [hh.1] at g2; cases g2))
      unfold tokE; rw [if_neg hg, if_pos ⟨g2, g8⟩]
    unfold drw
    have ed := ext_drew w8
    have Bd := B8.ext ed
    generalize w8.drew = wd at *
    obtain ⟨c0, c1, c2, c3, c4, c5⟩ := blk6' Bd
    refine ⟨_, c0, _, c1, _, c2, _, c3, _, c4, _, c5, ?_, ?_, trivial⟩
    · refine has15_spec x 2 (.inl rfl) (by omega) (by omega) fun w77 e77 => ⟨_, rfl, ?_⟩
      obtain ⟨d0, d1, d2, d3, d4, d5⟩ := blk6' (Bd.ext e77)
      refine ⟨_, d0, _, d1, _, d2, _, d3, _, d4, _, d5, ?_, trivial⟩
      exact has15_spec x 8 (.inr (.inl rfl)) (by omega) (by omega) fun w86 e86 => ⟨_, rfl, k11 w86 (ext_trans (ext_trans ed e77) e86)⟩
    · refine ⟨_, c0, _, c1, _, c2, _, c3, _, c4, _, c5, ?_, trivial⟩
      refine has15_spec x 2 (.inl rfl) (by omega) (by omega) fun w95 e95 => ⟨_, rfl, ?_, trivial⟩
      exact has15_spec x 8 (.inr (.inl rfl)) (by omega) (by omega) fun w98 e98 => ⟨_, rfl, k11 w98 (ext_trans (ext_trans ed e95) e98)⟩
  obtain ⟨c0, c1, c2, c3, c4, c5⟩ := blk6' B8
  refine ⟨_, c4, br_split (fun g => H 2 w8 ?_ e8) (fun g => ⟨_, c4, br_split (fun g2 => H 2 w8 ?_ e8) (fun g2 => k9 (by omega))⟩)⟩
  · unfold tokE; rw [if_pos (.inl g)]
  · unfold tokE; rw [if_pos (.inr g2)]
def chkAll (l : List Tok) : Int := if 1024 < l.length then 4 else if (l.any fun x => decide (tokE x ≠ 0)) = true then 1 else 0
theorem checkAll15_spec {S : Nat → Prop} {a : Option Addr} {n c : Nat} (l : List Tok) (hm : ∀ x ∈ l, x.m.length ≤ 4611686018427387904) (hR : RowAt encTk S w a n l) (h : ∀ w', Ext w w' → R (.returned (.int .i64 (chkAll l))) w') : Calls Tryz.prog F_ref15_checkAll ⟨[.slice a n c]⟩ w R := by
  apply c_ref15_checkAll
  have hn := hR.1
  refine br_split (fun g => ?_) (fun g => ?_)
  · have : chkAll l = 4 := by unfold chkAll; rw [if_pos (by omega)]
    rw [this] at h; exact h w (Below.refl _ _)
  have hl : chkAll l = if (l.any fun x => decide (tokE x ≠ 0)) = true then 1 else 0 := by unfold chkAll; rw [if_neg (by omega)]
  rw [hl] at h
  refine ⟨fun i W m => ∃ k : Nat, i = k ∧ k ≤ n ∧ m = n - k ∧ ((l.take k).any fun x => decide (tokE x ≠ 0)) = false ∧ Ext w W, ⟨_, 0, rfl, by omega, rfl, rfl, Below.refl _ _⟩, ?_⟩
  rintro _ W m ⟨k, rfl, hk, rfl, hz, he⟩ _
  refine br_split (fun hlt => ?_) (fun hge => ?_)
  · have hkl : k < l.length := by omega
    obtain ⟨q, hq, c0, c1, c2, c3, c4, c5⟩ := tok_get (hR.ext he) (show l[k]? = some l[k] by simp [hkl])
    refine hq _ ⟨_, c0, _, c1, _, c2, _, c3, _, c4, _, c5, ?_⟩
    refine Check15r_spec l[k] (hm _ (List.getElem_mem hkl)) fun w15 e15 => ⟨_, rfl, br_split (fun g2 => ?_) (fun g2 => ?_)⟩
    · have : (l.any fun x => decide (tokE x ≠ 0)) = true := List.any_eq_true.2 ⟨l[k], List.getElem_mem hkl, by simpa using g2⟩
      rw [this] at h; exact h w15 (ext_trans he e15)
    · refine ⟨n - (k + 1), by omega, k + 1, by rw [wrap_nat (by omega)], by omega, rfl, ?_, ext_trans he e15⟩
      rw [List.take_succ_eq_append_getElem hkl, List.any_append, hz]
      simpa using g2
  · rw [List.take_of_length_le (by omega)] at hz
    rw [hz] at h; exact h W he
end
end Go.Proofs
namespace Go.Proofs
open Go Go.Sh Go.RowKit

/- the signs of the reference: atoms as structs -/
def cellsSg : Am → List Value
  | .ch c p u nm => [.int .u8 (c.toNat : Int), .int .i64 0, .bool false, .bool u, .string ⟨⟨nm⟩⟩, .string ⟨⟨p.1⟩⟩, .int .i64 p.2]
  | .gap n p u nm => [.int .u8 0, .int .i64 n, .bool false, .bool u, .string ⟨⟨nm⟩⟩, .string ⟨⟨p.1⟩⟩, .int .i64 p.2]
  | .brk v => [.int .u8 0, .int .i64 0, .bool v, .bool false, .string ⟨⟨[]⟩⟩, .string ⟨⟨[]⟩⟩, .int .i64 0]
def encSg : Enc Am := ⟨cellsSg, 7, fun x => by cases x <;> rfl, by decide, by
  intro x v hv
  cases x <;> simp only [cellsSg, List.mem_cons, List.not_mem_nil, or_false] at hv <;> rcases hv with rfl | rfl | rfl | rfl | rfl | rfl | rfl <;> rfl⟩
theorem slT_sg : SlT Tryz.prog 105 143 7 64 (.agg #[.int .u8 0, .int .i64 0, .bool false, .bool false, .string ⟨⟨[]⟩⟩, .string ⟨⟨[]⟩⟩, .int .i64 0]) := ⟨by kernel_rfl, by kernel_rfl, rfl, by decide⟩
theorem nodesX_app : ∀ (f g : Fo) (u : Bool) (nm : List UInt8), nodesX (f.app g) u nm = nodesX f u nm ++ nodesX g u nm
  | .nil, g, u, nm => rfl
  | .cons k t n ps r, g, u, nm => by simp only [Fo.cons_app, nodesX, nodesX_app r g u nm, List.cons_append, List.append_assoc]
theorem amsF_app (p : Ps) (f g : Fo) (u : Bool) (nm : List UInt8) : amsF p (f.app g) u nm = amsF p f u nm ++ amsF (endL p (nodesF f)) g u nm := by
  unfold amsF
  rw [nodesX_app, amsL_app, nodesX_map]
theorem amsF_nil (p : Ps) (u : Bool) (nm : List UInt8) : amsF p .nil u nm = [] := rfl
def hdF : Fo → Bool
  | .nil => false
  | .cons k _ _ ps r => (decide (k = 8) || decide (k = 9)) || (hdF ps || hdF r)
theorem hdF_app : ∀ f g : Fo, hdF (f.app g) = (hdF f || hdF g)
  | .nil, g => by simp [hdF]
  | .cons k t n ps r, g => by rw [Fo.cons_app, hdF, hdF, hdF_app r g]; simp only [Bool.or_assoc]
/- nodes without parts where there are none -/
def nkF : Fo → Prop
  | .nil => True
  | .cons k _ _ ps r => (k < 7 → ps = .nil) ∧ nkF ps ∧ nkF r
theorem nkF_app : ∀ {f g : Fo}, nkF (f.app g) ↔ nkF f ∧ nkF g
  | .nil, g => by simp [nkF]
  | .cons k t n ps r, g => by
    simp only [Fo.cons_app, nkF, nkF_app (f := r) (g := g), and_assoc]
section
theorem blk2x {w : World} {b : Nat} {v0 v1 : Value} {T : TypeId} (h : Blk w b [v0, v1] T) : w.cell? ((⟨b, 0, none⟩ : Addr).add 0) = some v0 ∧ w.cell? ((⟨b, 0, none⟩ : Addr).add 1) = some v1 := by
  simp only [add_none, h.cell]; exact ⟨rfl, rfl⟩
set_option maxRecDepth 40000 in
theorem signs_spec : ∀ (f : Fo) {R : Ending → World → Prop} {S : Nat → Prop} {w : World} {a : Option Addr} {n c : Nat} (p0 : Ps) (u : Bool) (nm : List UInt8), nkF f → f.size ≤ 1000000 → tlen f ≤ 1000000000 → 0 ≤ p0.2 → p0.2 + f.size ≤ 1000000000 → SlF S w a n f →
    (∀ a' n' c' w', OwnL encSg w' w.heap.size 143 a' n' c' (amsF p0 f u nm) → Ext w w' → R (.returned (.tuple ⟨[.slice a' n' c', .agg ⟨[.string ⟨⟨(endL p0 (nodesF f)).1⟩⟩, .int .i64 (endL p0 (nodesF f)).2]⟩, .bool (hdF f)]⟩)) w') →
    Calls Tryz.prog F_ref15_signs ⟨[.agg ⟨[.string ⟨⟨p0.1⟩⟩, .int .i64 p0.2]⟩, .slice a n c, .bool u, .string ⟨⟨nm⟩⟩]⟩ w R := by
  intro f
  induction hz : f.size using Nat.strongRecOn generalizing f with
  | _ z ih =>
  intro R S w a n c p0 u nm hok hs htl hp0 hpb hf0 h
  apply c_ref15_signs
  have hn := hf0.1
  have hf : SlF (fun k => S k ∧ k < w.heap.size) w a n f := hf0.imp fun k hk hl => ⟨hk, hl⟩
  refine al_intro fun b6 w7 hb6 B6 e7 s7 => ?_
  refine al_intro fun b8 w9 hb8 B8 e9 s9 => ?_
  have E9 := ext_trans e7 e9
  have z9 := E9.size
  refine ⟨fun oa on oc hd i W m => ∃ (p r : Fo), f = p.app r ∧ i = p.len ∧ m = r.len ∧ hd = hdF p ∧ Blk W b6 [.string ⟨⟨(endL p0 (nodesF p)).1⟩⟩, .int .i64 (endL p0 (nodesF p)).2] 29 ∧ Blk W b8 [.string ⟨⟨[]⟩⟩, .int .i64 0] 29 ∧ OwnL encSg W (w.heap.size + 2) 143 oa on oc (amsF p0 p u nm) ∧ Ext w W,
    ⟨_, .nil, f, rfl, rfl, rfl, rfl, B6.ext e9, B8, Owns.nil _ _ _ _, E9⟩, ?_⟩
  rintro oa on oc _ _ W m ⟨p, r, hpr, rfl, rfl, rfl, C6, C8, hO, he⟩ _
  have hwW := he.size
  have hbO : ∀ k, bk oa k → b8 < k ∧ k < W.heap.size := fun k hk => by have := hO.bk hk; omega
  have c6l := C6.lt
  have c8l := C8.lt
  refine br_split (fun hlt => ?_) (fun hge => ?_)
  · obtain ⟨k, t, mm, ps, r, rfl⟩ := Fo.next hpr (by omega)
    have hsl := Fo.sub_len hpr
    have hsz := Fo.sub_size hpr
    have hss : f.size = p.size + (ps.size + r.size + 1) := by rw [hpr, Fo.size_app]; rfl
    have hst : tlen f = tlen p + (t.length + tlen ps + tlen r) := by rw [hpr, tlen_app]; rfl
    have hokp := nkF_app.1 (hpr ▸ hok)
    obtain ⟨hokP, hnil, hokps, hokr⟩ := hokp
    obtain ⟨po1, po0, _⟩ := endL_line p p0 hp0
    have hcp := cnt_size 2 p
    have hal := ams_len p p0 u nm
    have hon := OwnL.length hO
    have e1 : f = (p.app (.one k t mm ps)).app r := by rw [Fo.app_one_app]; exact hpr
    have i1 : IntKind.i64.wrap ((p.len : Int) + 1) = ((p.app (.one k t mm ps)).len : Int) := by
      have := Fo.len_le_size f
      rw [wrap_nat (by omega)]; simp [Fo.one]
    have hx : hdF (p.app (.one k t mm ps)) = (hdF p || ((decide (k = 8) || decide (k = 9)) || hdF ps)) := by rw [hdF_app]; unfold Fo.one; rw [hdF, hdF.eq_1, Bool.or_false]
    have nx : endL p0 (nodesF (p.app (.one k t mm ps))) = endL (posN (endL p0 (nodesF p)) ⟨k, t, mm, ps⟩).1 (nodesF ps) := by
      rw [nodesF_app, endL_app]; unfold Fo.one; rw [nodesF, nodesF.eq_1, List.append_nil, endL]
    have ax : amsF p0 (p.app (.one k t mm ps)) u nm = amsF p0 p u nm ++ (amN (endL p0 (nodesF p)) ⟨⟨k, t, mm, ps⟩, u, nm⟩ ++ amsF (posN (endL p0 (nodesF p)) ⟨k, t, mm, ps⟩).1 ps (u || decide (k = 7)) (if k = 11 then t else nm)) := by
      rw [amsF_app]; unfold Fo.one; rw [amsF_cons, amsF_nil, List.append_nil]
    generalize hpo : endL p0 (nodesF p) = po at *
    obtain ⟨q, a', c', hq, hSq, hql, hN⟩ := (hf.ext he).get hpr
    refine hq _ ⟨k, hN.kind, t, hN.text, mm, hN.num, a', ps.len, c', hN.parts, ?_⟩
    refine al_stL rfl (by intro u hu; simp only [List.mem_cons, List.not_mem_nil, or_false] at hu; rcases hu with rfl | rfl | rfl | rfl <;> rfl) fun bx w24 hbx Bx e24 s24 => ?_
    obtain ⟨x0, x1, x2, x3⟩ := blk4 Bx
    have E24 := ext_trans he e24
    have z24 := e24.size
    have O24 := Owns.ext hO e24
    have D6 := C6.ext e24
    have D8 := C8.ext e24
    obtain ⟨y0, y1⟩ := blk2x D6
    have next : ∀ (v : World) (oa' : Option Addr) (on' oc' : Nat) (hd' : Bool) (pe : Ps) (am : List Am), pe = endL (posN po ⟨k, t, mm, ps⟩).1 (nodesF ps) → am = amN po ⟨⟨k, t, mm, ps⟩, u, nm⟩ ++ amsF (posN po ⟨k, t, mm, ps⟩).1 ps (u || decide (k = 7)) (if k = 11 then t else nm) → Blk v b6 [.string ⟨⟨pe.1⟩⟩, .int .i64 pe.2] 29 → Blk v b8 [.string ⟨⟨[]⟩⟩, .int .i64 0] 29 → OwnL encSg v (w.heap.size + 2) 143 oa' on' oc' (amsF p0 p u nm ++ am) → hd' = (hdF p || ((decide (k = 8) || decide (k = 9)) || hdF ps)) → Ext w v →
        ∃ m', m' < (Fo.cons k t mm ps r).len ∧ ∃ (p' r' : Fo), f = p'.app r' ∧ IntKind.i64.wrap ((p.len : Int) + 1) = p'.len ∧ m' = r'.len ∧ hd' = hdF p' ∧ Blk v b6 [.string ⟨⟨(endL p0 (nodesF p')).1⟩⟩, .int .i64 (endL p0 (nodesF p')).2] 29 ∧ Blk v b8 [.string ⟨⟨[]⟩⟩, .int .i64 0] 29 ∧ OwnL encSg v (w.heap.size + 2) 143 oa' on' oc' (amsF p0 p' u nm) ∧ Ext w v := by
      rintro v oa' on' oc' hd' pe am rfl rfl q6 q8 qO qh qe
      exact ⟨r.len, by simp, p.app (.one k t mm ps), r, e1, i1, rfl, by rw [qh, hx], by rw [nx]; exact q6, q8, by rw [ax]; exact qO, qe⟩
    have psn : k < 7 → ps = .nil := hnil
    have am0 : ps = .nil → amsF (posN po ⟨k, t, mm, ps⟩).1 ps (u || decide (k = 7)) (if k = 11 then t else nm) = [] := fun hh => by rw [hh]; rfl
    have en0 : ps = .nil → endL (posN po ⟨k, t, mm, ps⟩).1 (nodesF ps) = (posN po ⟨k, t, mm, ps⟩).1 := fun hh => by rw [hh]; rfl
    have hd0 : k < 7 → hdF p = (hdF p || ((decide (k = 8) || decide (k = 9)) || hdF ps)) := fun hh => by
      rw [psn hh, decide_eq_false (show ¬ k = 8 by omega), decide_eq_false (show ¬ k = 9 by omega), hdF.eq_1]; simp
    have hnb : ∀ j, bk oa j → ¬ j = b6 := fun j hj => by have := hbO j hj; omega
    refine ⟨_, x0, br_split (fun g1 => ?_) (fun g1 => br_split (fun g6 => ?_) (fun g6 => br_split (fun g2 => ?_) (fun g2 => br_split (fun g3 => ?_) (fun g3 => ?_))))⟩
    · -- text
      have hps := psn (by omega)
      have hamn : amN po ⟨⟨k, t, mm, ps⟩, u, nm⟩ = amT t po u nm := by unfold amN; rw [if_pos g1]
      have hpos : (posN po ⟨k, t, mm, ps⟩).1 = po := by unfold posN; rw [if_pos g1]
      refine ⟨fun oa2 on2 oc2 i2 W2 m2 => ∃ j : Nat, i2 = j ∧ j ≤ t.length ∧ m2 = t.length - j ∧ OwnL encSg W2 (w.heap.size + 2) 143 oa2 on2 oc2 (amsF p0 p u nm ++ amT (t.take j) po u nm) ∧ Blk W2 b6 [.string ⟨⟨po.1⟩⟩, .int .i64 po.2] 29 ∧ Blk W2 b8 [.string ⟨⟨[]⟩⟩, .int .i64 0] 29 ∧ Blk W2 bx [.int .i64 k, .string ⟨⟨t⟩⟩, .int .i64 mm, .slice a' ps.len c'] 64 ∧ (∀ j, bk oa2 j → j ≠ bx) ∧ Ext w W2,
        ⟨_, 0, rfl, by omega, rfl, by simpa [amT] using O24, D6, D8, Bx, fun j hj => by have := hbO j hj; omega, E24⟩, ?_⟩
      rintro oa2 on2 oc2 _ W2 m2 ⟨j, rfl, hj, rfl, hO2, F6, F8, Fx, hnx, he2⟩ _
      have hon2 := OwnL.length hO2
      rw [List.length_append] at hon2
      have hal2 : (amT (t.take j) po u nm).length ≤ t.length := by unfold amT; simp; omega
      refine ⟨_, (blk4 Fx).2.1, br_split (fun hl2 => ?_) (fun hg2 => ?_)⟩
      · have hjl : j < t.length := by omega
        unfold drw
        have ed := ext_drew W2
        have Ed := ext_trans he2 ed
        have G6 := F6.ext ed
        have G8 := F8.ext ed
        have Gx := Fx.ext ed
        have GO := Owns.ext hO2 ed
        generalize W2.drew = wd at *
        refine ⟨_, (blk4 Gx).2.1, sidx_nat hjl ⟨_, (blk2x G6).1, _, (blk2x G6).2, ⟨?_, trivial⟩⟩⟩
        refine al_intro fun b38 w39 hb38 B38 e39 s39 => ⟨?_, trivial⟩
        have B38' : Blk w39 b38 (encSg.enc (.ch t[j] po u nm)) 143 := B38
        have z39 := (ext_trans Ed e39).size
        have bx6 := G6.lt
        have bx8 := G8.lt
        have bxx := Gx.lt
        refine OwnL.app1 (P := Tryz.prog) slT_sg (Owns.ext GO e39) (by omega) B38' (by omega) (by omega) fun a5 c5 w41 ho5 hc5 hn5 => ?_
        have hb5 : ∀ i, bk oa2 i → w.heap.size + 2 ≤ i := fun i hi => (hO2.bk hi).1
        refine ⟨t.length - (j + 1), by omega, j + 1, by rw [wrap_nat (by omega)], by omega, rfl, ?_, hc5.blk (G6.ext e39) (fun hh => by have := hb5 _ hh; omega), hc5.blk (G8.ext e39) (fun hh => by have := hb5 _ hh; omega), hc5.blk (Gx.ext e39) (fun hh => hnx _ hh rfl), fun i hi => ?_, ext_chgS (ext_trans Ed e39) hc5 fun i hi => by have := hb5 i hi; omega⟩
        · rw [List.take_succ_eq_append_getElem hjl]
          unfold amT
          rw [List.map_append, ← List.append_assoc]; exact ho5
        · rcases hn5 i hi with hh | hh
          · exact hnx i hh
          · omega
      · rw [List.take_of_length_le (by omega)] at hO2
        exact next W2 oa2 on2 oc2 (hdF p) po _ (by rw [en0 hps, hpos]) (by rw [am0 hps, hamn, List.append_nil]) F6 F8 hO2 (hd0 (by omega)) he2
    · -- gap
      have hps := psn (by omega)
      have hamn : amN po ⟨⟨k, t, mm, ps⟩, u, nm⟩ = [.gap mm po u nm] := by unfold amN; rw [if_neg g1, if_pos g6]
      have hpos : (posN po ⟨k, t, mm, ps⟩).1 = po := by unfold posN; rw [if_neg g1, if_pos g6]
      refine ⟨_, x2, _, y0, _, y1, ?_⟩
      refine al_intro fun b47 w48 hb47 B47 e48 s48 => ?_
      have B47' : Blk w48 b47 (encSg.enc (.gap mm po u nm)) 143 := B47
      have z48 := (ext_trans E24 e48).size
      refine OwnL.app1 (P := Tryz.prog) slT_sg (Owns.ext O24 e48) (by omega) B47' (by omega) (by omega) fun a5 c5 w41 ho5 hc5 hn5 => ?_
      exact next w41 a5 _ c5 (hdF p) po _ (by rw [en0 hps, hpos]) (by rw [am0 hps, hamn, List.append_nil]) (hc5.blk (D6.ext e48) (fun hh => hnb _ hh rfl)) (hc5.blk (D8.ext e48) (fun hh => by have := hbO _ hh; omega)) ho5 (hd0 (by omega)) (ext_chgS (ext_trans E24 e48) hc5 fun i hi => by have := hbO i hi; omega)
    · -- line
      have hps := psn (by omega)
      have hamn : amN po ⟨⟨k, t, mm, ps⟩, u, nm⟩ = [] := by unfold amN; rw [if_neg g1, if_neg g6, if_neg (show ¬ (k = 4 ∨ k = 5) by omega)]
      have hpos : (posN po ⟨k, t, mm, ps⟩).1 = (po.1, po.2 + 1) := by unfold posN; rw [if_neg g1, if_neg g6, if_neg (show ¬ k = 3 by omega), if_pos g2]
      refine ⟨_, y1, ?_⟩
      rw [wrap_id (by omega)]
      refine blk_set D6 (i := 1) (by simp) rfl fun w53 B53 c53 s53 => ?_
      exact next w53 oa on oc (hdF p) (po.1, po.2 + 1) [] (by rw [en0 hps, hpos]) (by rw [am0 hps, hamn]; rfl) B53 (c53.blk D8 (by omega)) (by rw [List.append_nil]; exact O24.chg c53 hnb) (hd0 (by omega)) (ext_chgS E24 c53 fun i hi => by omega)
    · -- page
      have hps := psn (by omega)
      have hamn : amN po ⟨⟨k, t, mm, ps⟩, u, nm⟩ = [] := by unfold amN; rw [if_neg g1, if_neg g6, if_neg (show ¬ (k = 4 ∨ k = 5) by omega)]
      have hpos : (posN po ⟨k, t, mm, ps⟩).1 = (t, 0) := by unfold posN; rw [if_neg g1, if_neg g6, if_pos g3]
      refine ⟨_, x1, ?_⟩
      refine stL_blk D6 (by simp) (by intro v hv; simp only [List.mem_cons, List.not_mem_nil, or_false] at hv; rcases hv with rfl | rfl <;> rfl) fun w56 r1 r2 r3 r4 r5 r6 => ?_
      have c56 : Chg (· = b6) w24 w56 := ⟨r4, r5, r6, by omega, fun k _ hk => r2 k hk⟩
      exact next w56 oa on oc (hdF p) (t, 0) [] (by rw [en0 hps, hpos]) (by rw [am0 hps, hamn]; rfl) r1 (c56.blk D8 (by omega)) (by rw [List.append_nil]; exact O24.chg c56 hnb) (hd0 (by omega)) (ext_chgS E24 c56 fun i hi => by omega)
    · -- what ends words, and nodes with parts
      have hpos : (posN po ⟨k, t, mm, ps⟩).1 = po := by unfold posN; rw [if_neg g1, if_neg g6, if_neg g3, if_neg g2]
      intro K58 hK58
      have k58 : K58 (decide (k = 4 ∨ k = 5)) w24 := by
        refine hK58 _ _ fun _ => br_split (fun g45 => ?_) (fun g45 => ?_)
        · have hps := psn (by omega)
          have hamn : amN po ⟨⟨k, t, mm, ps⟩, u, nm⟩ = [.brk (decide (k = 5))] := by unfold amN; rw [if_neg g1, if_neg g6, if_pos g45]
          refine ⟨_, x0, ?_⟩
          refine al_intro fun b47 w48 hb47 B47 e48 s48 => ?_
          have B47' : Blk w48 b47 (encSg.enc (.brk (decide (k = 5)))) 143 := B47
          have z48 := (ext_trans E24 e48).size
          refine OwnL.app1 (P := Tryz.prog) slT_sg (Owns.ext O24 e48) (by omega) B47' (by omega) (by omega) fun a5 c5 w41 ho5 hc5 hn5 => ?_
          exact next w41 a5 _ c5 (hdF p) po _ (by rw [en0 hps, hpos]) (by rw [am0 hps, hamn, List.append_nil]) (hc5.blk (D6.ext e48) (fun hh => hnb _ hh rfl)) (hc5.blk (D8.ext e48) (fun hh => by have := hbO _ hh; omega)) ho5 (hd0 (by omega)) (ext_chgS (ext_trans E24 e48) hc5 fun i hi => by have := hbO i hi; omega)
        · have hamn : amN po ⟨⟨k, t, mm, ps⟩, u, nm⟩ = [] := by unfold amN; rw [if_neg g1, if_neg g6, if_neg (show ¬ (k = 4 ∨ k = 5) by omega)]
          intro K67 hK67
          have k67 : K67 (if k = 11 then t else nm) w24 := by
            refine hK67 _ _ fun _ => ?_
            intro K70 hK70
            have k70 : ∀ (a5 : Option Addr) (n5 c5 : Nat) (bt : Nat) (w74 : World), OwnL encSg w74 w24.heap.size 143 a5 n5 c5 (amsF po ps (u || decide (k = 7)) (if k = 11 then t else nm)) → Blk w74 bt [.string ⟨⟨(endL po (nodesF ps)).1⟩⟩, .int .i64 (endL po (nodesF ps)).2] 29 → w24.heap.size ≤ bt → (∀ j, bk a5 j → j ≠ bt) → Ext w24 w74 → K70 a5 n5 c5 (some ⟨bt, 0, none⟩) (hdF ps) w74 := by
              intro a5 n5 c5 bt w74 hO5 Bt hbt hnt e74
              refine hK70 _ _ _ _ _ _ fun _ => ?_
              intro K75 hK75
              have k75 : ∀ (oa' : Option Addr) (on' oc' : Nat) (v : World), Blk v b6 [.string ⟨⟨(endL po (nodesF ps)).1⟩⟩, .int .i64 (endL po (nodesF ps)).2] 29 → Blk v b8 [.string ⟨⟨[]⟩⟩, .int .i64 0] 29 → Blk v bx [.int .i64 k, .string ⟨⟨t⟩⟩, .int .i64 mm, .slice a' ps.len c'] 64 → OwnL encSg v (w.heap.size + 2) 143 oa' on' oc' (amsF p0 p u nm ++ amsF po ps (u || decide (k = 7)) (if k = 11 then t else nm)) → Ext w v → K75 oa' on' oc' v := by
                intro oa' on' oc' v q6 q8 qx qO qe
                have nn : ∀ hd', hd' = (hdF p || ((decide (k = 8) || decide (k = 9)) || hdF ps)) → _ := fun hd' hh => next v oa' on' oc' hd' (endL po (nodesF ps)) (amsF po ps (u || decide (k = 7)) (if k = 11 then t else nm)) (by rw [hpos]) (by rw [hamn, hpos]; rfl) q6 q8 qO hh qe
                refine hK75 _ _ _ _ fun _ => br_cases (fun h1 => nn true (by rw [h1]; rfl)) (fun h1 => br_cases (fun h2 => nn true (by rw [h2]; simp)) (fun h2 => ⟨_, (blk4 qx).1, br_split (fun h3 => nn true (by rw [decide_eq_true h3]; simp)) (fun h3 => ⟨_, (blk4 qx).1, nn _ (by rw [h1, h2, decide_eq_false h3]; simp)⟩)⟩))
              unfold drw
              have ed := ext_drew w74
              have Ed := ext_trans (ext_trans E24 e74) ed
              have hOd := Owns.ext (Owns.ext O24 e74) ed
              have hO5d := Owns.ext hO5 ed
              have Btd := Bt.ext ed
              have D6d := (D6.ext e74).ext ed
              have D8d := (D8.ext e74).ext ed
              have Dxd := (Bx.ext e74).ext ed
              have zd := (ext_trans e74 ed).size
              generalize w74.drew = wd at *
              have hal5 := ams_len ps po (u || decide (k = 7)) (if k = 11 then t else nm)
              have hon5 := OwnL.length hO5d
              have x5 : ∀ j, bk a5 j → w24.heap.size ≤ j := fun j hj => (hO5d.bk hj).1
              have fin : ∀ (a6 : Option Addr) (c6 : Nat) (v : World), OwnL encSg v (w.heap.size + 2) 143 a6 (on + n5) c6 (amsF p0 p u nm ++ amsF po ps (u || decide (k = 7)) (if k = 11 then t else nm)) → Chg (bk oa) wd v → (∀ k, bk a6 k → bk oa k ∨ wd.heap.size ≤ k) →
                  stL v ⟨b6, 0, none⟩ 0 [.string ⟨⟨(endL po (nodesF ps)).1⟩⟩, .int .i64 (endL po (nodesF ps)).2] fun v' => K75 a6 (on + n5) c6 v' := by
                intro a6 c6 v hO6 hc6 hn6
                have q6 := hc6.blk D6d (fun hh => hnb _ hh rfl)
                refine stL_blk q6 (by simp) (by intro v hv; simp only [List.mem_cons, List.not_mem_nil, or_false] at hv; rcases hv with rfl | rfl <;> rfl) fun v' r1 r2 r3 r4 r5 r6 => ?_
                have cv : Chg (· = b6) v v' := ⟨r4, r5, r6, by omega, fun k _ hk => r2 k hk⟩
                refine k75 _ _ _ v' r1 (cv.blk (hc6.blk D8d (fun hh => by have := hbO _ hh; omega)) (by omega)) (cv.blk (hc6.blk Dxd (fun hh => by have := hbO _ hh; omega)) (by omega)) (hO6.chg cv fun j hj hh => ?_) (ext_chgS (ext_chgS Ed hc6 fun i hi => by have := hbO i hi; omega) cv fun i hi => by omega)
                rcases hn6 j hj with h1 | h1
                · exact hnb j h1 hh
                · omega
              have zwd : w.heap.size + 2 ≤ wd.heap.size := by have := Ed.size; omega
              constructor
              · refine OwnL.pushAll (P := Tryz.prog) slT_sg hOd zwd (OwnL.out hO5d) (by omega) (by omega) fun a6 c6 v hO6 hc6 hn6 => dr_ok ?_
                obtain ⟨t0, t1⟩ := blk2x (hc6.blk Btd (fun hh => by have := hbO _ hh; omega))
                exact ⟨_, t0, _, t1, fin a6 c6 v hO6 hc6 hn6, trivial⟩
              · refine ⟨dr_ok ?_, trivial⟩
                obtain ⟨t0, t1⟩ := blk2x Btd
                refine ⟨_, t0, _, t1, ?_, trivial⟩
                exact OwnL.pushAll (P := Tryz.prog) slT_sg hOd zwd (OwnL.out hO5d) (by omega) (by omega) fun a6 c6 v hO6 hc6 hn6 => ⟨fin a6 c6 v hO6 hc6 hn6, trivial⟩
            have recur : ∀ {R' : Ending → World → Prop} (u' : Bool), u' = (u || decide (k = 7)) → (∀ a5 n5 c5 w', OwnL encSg w' w24.heap.size 143 a5 n5 c5 (amsF po ps (u || decide (k = 7)) (if k = 11 then t else nm)) → Ext w24 w' → R' (.returned (.tuple ⟨[.slice a5 n5 c5, .agg ⟨[.string ⟨⟨(endL po (nodesF ps)).1⟩⟩, .int .i64 (endL po (nodesF ps)).2]⟩, .bool (hdF ps)]⟩)) w') →
                Calls Tryz.prog 83 ⟨[.agg ⟨[.string ⟨⟨po.1⟩⟩, .int .i64 po.2]⟩, .slice a' ps.len c', .bool u', .string ⟨⟨if k = 11 then t else nm⟩⟩]⟩ w24 R' := by
              rintro R' u' rfl hR
              exact ih _ (hz ▸ hsz) ps rfl (S := fun j => S j ∧ j < w.heap.size) po _ _ hokps (by omega) (by omega) po0 (by omega) (hN.sl.ext e24) hR
            have after : ∀ (a5 : Option Addr) (n5 c5 : Nat) (v : World), OwnL encSg v w24.heap.size 143 a5 n5 c5 (amsF po ps (u || decide (k = 7)) (if k = 11 then t else nm)) → Ext w24 v → al v 29 [.string ⟨⟨[]⟩⟩, .int .i64 0] fun p106 w107 => stL w107 p106 0 [.string ⟨⟨(endL po (nodesF ps)).1⟩⟩, .int .i64 (endL po (nodesF ps)).2] fun w108 => K70 a5 n5 c5 (some p106) (hdF ps) w108 := by
              intro a5 n5 c5 v hv ev
              refine al_stL rfl (by intro v hv; simp only [List.mem_cons, List.not_mem_nil, or_false] at hv; rcases hv with rfl | rfl <;> rfl) fun b106 w108 hb B106 e108 s108 => ?_
              have := ev.size
              exact k70 a5 n5 c5 b106 w108 (Owns.ext hv e108) B106 (by omega) (fun j hj => by have := (hv.bk hj).2; omega) (ext_trans ev e108)
            refine ⟨_, y0, _, y1, _, _, _, x3, br_cases (fun hu => ?_) (fun hu => ⟨_, x0, ?_⟩)⟩
            · exact recur true (by rw [hu]; rfl) fun a5 n5 c5 v hv ev => ⟨_, _, _, _, _, _, rfl, after a5 n5 c5 v hv ev⟩
            · exact recur _ (by rw [hu]; rfl) fun a5 n5 c5 v hv ev => ⟨_, _, _, _, _, _, rfl, after a5 n5 c5 v hv ev⟩
          refine ⟨_, x0, br_split (fun g11 => ⟨_, x1, by rw [if_pos g11] at k67; exact k67⟩) (fun g11 => by rw [if_neg g11] at k67; exact k67)⟩
      refine br_split (fun g5 => ?_) (fun g5 => ?_)
      · rw [decide_eq_true g5]; rw [decide_eq_true (show k = 4 ∨ k = 5 from .inr g5)] at k58; exact k58
      · rw [decide_eq_decide.2 (show (k = 4 ∨ k = 5) ↔ k = 4 by omega)] at k58; exact k58
  · obtain ⟨rfl, rfl⟩ := Fo.last hpr (by omega)
    unfold drw
    have ed := ext_drew W
    have Ed := ext_trans he ed
    have D6 := C6.ext ed
    have D8 := C8.ext ed
    have DO := Owns.ext hO ed
    generalize W.drew = wd at *
    obtain ⟨y0, y1⟩ := blk2x D6
    refine ⟨_, y0, _, y1, ?_, trivial⟩
    refine stL_blk D8 (by simp) (by intro v hv; simp only [List.mem_cons, List.not_mem_nil, or_false] at hv; rcases hv with rfl | rfl <;> rfl) fun v r1 r2 r3 r4 r5 r6 => ?_
    have cv : Chg (· = b8) wd v := ⟨r4, r5, r6, by omega, fun k _ hk => r2 k hk⟩
    have r1' : Blk v b8 [.string ⟨⟨(endL p0 (nodesF p)).1⟩⟩, .int .i64 (endL p0 (nodesF p)).2] 29 := r1
    obtain ⟨t0, t1⟩ := blk2x r1'
    refine ⟨_, t0, _, t1, ?_⟩
    exact h oa on oc v (Owns.weak (DO.chg cv fun j hj => by have := hbO j hj; omega) (by omega)) (ext_chgS Ed cv fun i hi => by omega)
end
end Go.Proofs
namespace Go.Proofs
open Go Go.Sh Go.RowKit

/- the reference's division of signs into tokens -/
def okG : Am → Prop
  | .ch c _ _ _ => kd c ≠ 0
  | .gap n _ _ _ => 1 ≤ n ∧ n ≤ 64
  | .brk _ => True
theorem okA_okG : ∀ {l : List Am} {b : Bool}, okA b l → ∀ x ∈ l, okG x
  | [], _, _, x, hx => by cases hx
  | .ch c p u nm :: r, b, h, x, hx => by
    rcases List.mem_cons.1 hx with rfl | hx
    · exact h.1
    · exact okA_okG h.2.2.2.2 x hx
  | .gap n p u nm :: r, b, h, x, hx => by
    rcases List.mem_cons.1 hx with rfl | hx
    · exact h.1
    · exact okA_okG h.2.2.2 x hx
  | .brk v :: r, b, h, x, hx => by
    rcases List.mem_cons.1 hx with rfl | hx
    · trivial
    · exact okA_okG (show okA false r from h) x hx
theorem ch_pos {c : UInt8} (h : kd c ≠ 0) : (c.toNat : Int) ≠ 0 := by
  intro h0
  apply h
  unfold kd
  rw [h0]; rfl
def nnT (x : Tok) : Tok := setM x x.t
theorem take_stop : ∀ {r : List Am} {s : Nat}, (∀ y ∈ r.take s, inA y = true) → (s = r.length ∨ ∃ y, r[s]? = some y ∧ inA y = false) → r.takeWhile inA = r.take s ∧ r.dropWhile inA = r.drop s
  | [], s, _, _ => by simp
  | y :: r, 0, _, h2 => by
    rcases h2 with h2 | ⟨z, hz, hi⟩
    · cases h2
    · simp only [List.getElem?_cons_zero, Option.some.injEq] at hz
      subst hz
      simp [hi]
  | y :: r, s + 1, h1, h2 => by
    have hy : inA y = true := h1 y (by simp)
    have ih := take_stop (r := r) (s := s) (fun z hz => h1 z (by simp [hz])) (by
      rcases h2 with h2 | ⟨z, hz, hi⟩
      · left; simpa using h2
      · right; exact ⟨z, by simpa using hz, hi⟩)
    simp [hy, ih.1, ih.2]
section
variable {R : Ending → World → Prop} {w : World}
theorem one7 {c0 n0 ln0 : Int} {v0 u0 : Bool} {nm0 pg0 : List UInt8} : ∀ u ∈ ([.int .u8 c0, .int .i64 n0, .bool v0, .bool u0, .string ⟨⟨nm0⟩⟩, .string ⟨⟨pg0⟩⟩, .int .i64 ln0] : List Value), u.oneCell' = true := by
  intro u hu; simp only [List.mem_cons, List.not_mem_nil, or_false] at hu; rcases hu with rfl | rfl | rfl | rfl | rfl | rfl | rfl <;> rfl
set_option maxRecDepth 40000 in
theorem divide_spec {S : Nat → Prop} {a : Option Addr} {n c : Nat} (l : List Am) (hok : ∀ x ∈ l, okG x) (hl : l.length ≤ 1000000) (hR : RowAt encSg S w a n l)
    (h : ∀ a' n' c' w', OwnL encTk w' w.heap.size 31 a' n' c' ((divF false false l).map nnT) → Ext w w' → R (.returned (.slice a' n' c')) w') :
    Calls Tryz.prog F_ref15_divide ⟨[.slice a n c]⟩ w R := by
  apply c_ref15_divide
  have hn := hR.1
  refine ⟨fun oa on oc j v i W m => ∃ (k : Nat) (d : List Tok), i = k ∧ k ≤ n ∧ m = n - k ∧ OwnL encTk W w.heap.size 31 oa on oc (d.map nnT) ∧ divF false false l = d ++ divF j v (l.drop k) ∧ (j = true → d ≠ []) ∧ d.length ≤ k ∧ Ext w W,
    ⟨_, 0, [], rfl, by omega, rfl, Owns.nil _ _ _ _, by simp, by simp, by simp, Below.refl _ _⟩, ?_⟩
  rintro oa on oc j v _ W m ⟨k, d, rfl, hk, rfl, hO, hdv, hj, hdl, he⟩ _
  have hon := OwnL.length hO
  rw [List.length_map] at hon
  have zW := he.size
  refine br_split (fun hlt => ?_) (fun hge => ?_)
  · have hkl : k < l.length := by omega
    have hdr : l.drop k = l[k] :: l.drop (k + 1) := List.drop_eq_getElem_cons hkl
    have hox := hok l[k] (List.getElem_mem hkl)
    obtain ⟨bb, o, hq, _, _, hc⟩ := (hR.ext he).get (show l[k]? = some l[k] by simp [hkl])
    rw [hdr] at hdv
    generalize hx : l[k] = x at *
    obtain ⟨x0, x1, x2, x3, x4, x5, x6, hx7, hA⟩ : ∃ (c0 n0 : Int) (v0 u0 : Bool) (nm0 pg0 : List UInt8) (ln0 : Int), cellsSg x = [.int .u8 c0, .int .i64 n0, .bool v0, .bool u0, .string ⟨⟨nm0⟩⟩, .string ⟨⟨pg0⟩⟩, .int .i64 ln0] ∧
        ((x = .brk v0 ∧ c0 = 0 ∧ n0 = 0) ∨ (x = .gap n0 (pg0, ln0) u0 nm0 ∧ c0 = 0 ∧ 1 ≤ n0 ∧ n0 ≤ 64) ∨ ∃ ch : UInt8, x = .ch ch (pg0, ln0) u0 nm0 ∧ c0 = ch.toNat ∧ n0 = 0 ∧ kd ch ≠ 0) := by
      cases x with
      | ch ch p u nm => exact ⟨_, _, _, _, _, _, _, rfl, .inr (.inr ⟨ch, rfl, rfl, rfl, hox⟩)⟩
      | gap n p u nm => exact ⟨_, _, _, _, _, _, _, rfl, .inr (.inl ⟨rfl, rfl, hox⟩)⟩
      | brk v => exact ⟨_, _, _, _, _, _, _, rfl, .inl ⟨rfl, rfl, rfl⟩⟩
    have cx : ∀ i v, (cellsSg x)[i]? = some v → W.cell? ((⟨bb, o, none⟩ : Addr).add i) = some v := fun i v hv => by rw [add_none]; exact hc i v hv
    rw [hx7] at cx
    refine hq _ ⟨_, cx 0 _ rfl, _, cx 1 _ rfl, _, cx 2 _ rfl, _, cx 3 _ rfl, _, cx 4 _ rfl, _, cx 5 _ rfl, _, cx 6 _ rfl, ?_⟩
    refine al_stL rfl one7 fun b18 w20 hb18 B18 e20 s20 => ?_
    have E20 := ext_trans he e20
    have z20 := e20.size
    have X : ∀ v, Ext w20 v → ∀ i, v.cell? ((⟨b18, 0, none⟩ : Addr).add i) = ([.int .u8 x0, .int .i64 x1, .bool x2, .bool x3, .string ⟨⟨x4⟩⟩, .string ⟨⟨x5⟩⟩, .int .i64 x6] : List Value)[i]? := fun v ev i => by rw [add_none, (B18.ext ev).cell]; simp
    have r0 := Below.refl w20.heap.size w20
    have step : ∀ (j' v' : Bool) (V : World), Ext w20 V → divF j v (x :: l.drop (k + 1)) = divF j' v' (l.drop (k + 1)) → j' = false → ∃ m', m' < n - k ∧ ∃ (k' : Nat) (d' : List Tok), IntKind.i64.wrap ((k : Int) + 1) = k' ∧ k' ≤ n ∧ m' = n - k' ∧ OwnL encTk V w.heap.size 31 oa on oc (d'.map nnT) ∧ divF false false l = d' ++ divF j' v' (l.drop k') ∧ (j' = true → d' ≠ []) ∧ d'.length ≤ k' ∧ Ext w V := by
      intro j' v' V eV hd hj'
      exact ⟨n - (k + 1), by omega, k + 1, d, by rw [wrap_nat (by omega)], by omega, rfl, Owns.ext (Owns.ext hO e20) eV, by rw [hdv, hd], fun hh => (by rw [hj'] at hh; cases hh), by omega, ext_trans E20 eV⟩
    intro K21 hK21
    have k21t : x = .brk x2 → K21 true w20 := by
      intro hxb
      refine hK21 _ _ fun _ => ?_
      simp only [br_t]
      unfold drw
      have ed := ext_drew w20
      refine br_cases (fun hv => ?_) (fun hv => ⟨_, X _ ed 2, ?_⟩)
      · exact step false true _ ed (by rw [hxb, divF, hv]; rfl) rfl
      · exact step false x2 _ ed (by rw [hxb, divF, hv, Bool.false_or]) rfl
    have k21f : (∀ b, x ≠ .brk b) → K21 false w20 := by
      intro hnb
      refine hK21 _ _ fun _ => ?_
      simp only [br_f]
      intro K28 hK28
      have k28t : ∀ ch, x = .ch ch (x5, x6) x3 x4 → kd ch = 6 → ∀ V, Ext w20 V → K28 true V := by
        intro ch hxc h6 V eV
        refine hK28 _ _ fun _ => ?_
        simp only [br_t]
        exact step false v V eV (by rw [hxc, divF, if_pos h6]) rfl
      have k28f : (∀ ch p u nm, x = .ch ch p u nm → kd ch ≠ 6) → ∀ V, Ext w20 V → K28 false V := by
        intro hns V eV
        refine hK28 _ _ fun _ => ?_
        simp only [br_f]
        have a50 : ((⟨b18, 0, none⟩ : Addr).add 5).add 0 = (⟨b18, 0, none⟩ : Addr).add 5 := by simp only [add_none]
        have a51 : ((⟨b18, 0, none⟩ : Addr).add 5).add 1 = (⟨b18, 0, none⟩ : Addr).add 6 := by simp only [add_none]
        refine ⟨_, by rw [a50]; exact X V eV 5, _, by rw [a51]; exact X V eV 6, _, X V eV 4, ?_⟩
        refine al_stL rfl (by intro u hu; simp only [List.mem_cons, List.not_mem_nil, or_false] at hu; rcases hu with rfl | rfl | rfl | rfl | rfl | rfl <;> rfl) fun b35 w37 hb35 B35 e37 s37 => ?_
        have F37 := ext_trans eV e37
        have E37 := ext_trans E20 F37
        have zV := (ext_trans E20 eV).size
        have O37 : OwnL encTk w37 w.heap.size 31 oa on oc (d.map nnT) := Owns.ext (Owns.ext hO e20) F37
        have hob : ∀ i, bk oa i → ¬ i = b35 := fun i hi hh => by
          have := (hO.bk hi).2
          have := eV.size
          omega
        have hwb : w.heap.size ≤ b35 := by omega
        refine ⟨_, X _ F37 3, ?_⟩
        intro K39 hK39
        have k39 : ∀ (un : Bool) (q : Nat) (tx : List UInt8) (base : Int) (V : World), 1 ≤ q → k + q ≤ n → (base = 0 ∨ base = 2 ∨ base = 8) → divF j v (x :: l.drop (k + 1)) = ⟨tx, [], (x5, x6), flI un j v base, x4⟩ :: divF true false (l.drop (k + q)) →
            Blk V b35 [.string ⟨⟨tx⟩⟩, .string ⟨⟨[]⟩⟩, .string ⟨⟨x5⟩⟩, .int .i64 x6, .int .i64 base, .string ⟨⟨x4⟩⟩] 31 → OwnL encTk V w.heap.size 31 oa on oc (d.map nnT) → Ext w V → K39 un (q : Int) V := by
          intro un q tx base V hq1 hqn hbase hdq BV OV EV
          refine hK39 _ _ _ fun _ => ?_
          intro K43 hK43
          have k43 : ∀ (g : Int) (V : World), g = base + (if un = true then 1 else 0) → Blk V b35 [.string ⟨⟨tx⟩⟩, .string ⟨⟨[]⟩⟩, .string ⟨⟨x5⟩⟩, .int .i64 x6, .int .i64 g, .string ⟨⟨x4⟩⟩] 31 → OwnL encTk V w.heap.size 31 oa on oc (d.map nnT) → Ext w V → K43 V := by
            intro g V hg BV OV EV
            refine hK43 _ fun _ => ?_
            intro K45 hK45
            have k45 : ∀ (g : Int) (V : World), g = base + (if un = true then 1 else 0) + (if v = true then 4 else 0) → Blk V b35 [.string ⟨⟨tx⟩⟩, .string ⟨⟨[]⟩⟩, .string ⟨⟨x5⟩⟩, .int .i64 x6, .int .i64 g, .string ⟨⟨x4⟩⟩] 31 → OwnL encTk V w.heap.size 31 oa on oc (d.map nnT) → Ext w V → K45 V := by
              intro g V hg BV OV EV
              refine hK45 _ fun _ => ?_
              intro K47 hK47
              have k47 : ∀ (g : Int) (V : World), g = flI un j v base → Blk V b35 [.string ⟨⟨tx⟩⟩, .string ⟨⟨[]⟩⟩, .string ⟨⟨x5⟩⟩, .int .i64 x6, .int .i64 g, .string ⟨⟨x4⟩⟩] 31 → OwnL encTk V w.heap.size 31 oa on oc (d.map nnT) → Ext w V → K47 V := by
                intro g V hg BV OV EV
                refine hK47 _ fun _ => ⟨_, (blk6' BV).1, ?_⟩
                refine blk_set BV (i := 1) (by simp) rfl fun w50 B50 c50 s50 => ?_
                have B50' : Blk w50 b35 [.string ⟨⟨tx⟩⟩, .string ⟨⟨tx⟩⟩, .string ⟨⟨x5⟩⟩, .int .i64 x6, .int .i64 g, .string ⟨⟨x4⟩⟩] 31 := B50
                obtain ⟨y0, y1, y2, y3, y4, y5⟩ := blk6' B50'
                refine ⟨_, y0, _, y1, _, y2, _, y3, _, y4, _, y5, ?_⟩
                refine al_intro fun b57 w58 hb57 B57 e58 s58 => ?_
                have E50 := ext_chgS EV c50 fun i hi => by omega
                have z58 := (ext_trans E50 e58).size
                have B57' : Blk w58 b57 (encTk.enc (nnT ⟨tx, [], (x5, x6), g, x4⟩)) 31 := B57
                have O58 := Owns.ext (OV.chg c50 hob) e58
                refine OwnL.app1 (P := Tryz.prog) slT_tok O58 (by omega) B57' (by omega) (by omega) fun a' c'' w60 ho hcg hn2 => ?_
                refine ⟨n - (k + q), by omega, k + q, d ++ [⟨tx, [], (x5, x6), flI un j v base, x4⟩], by rw [wrap_id (by omega)]; omega, by omega, rfl, ?_, ?_, fun _ => by simp, by simp; omega, ext_chgS (ext_trans E50 e58) hcg fun i hi => (O58.bk hi).1⟩
                · rw [List.map_append, List.map_singleton, ← hg]; exact ho
                · rw [hdv, hdq]; simp
              intro K62 hK62
              have k62 : K62 j V := by
                refine hK62 _ _ fun _ => br_cases (fun hj1 => ?_) (fun hj1 => k47 g V (by rw [hg, hj1]; unfold flI; simp) BV OV EV)
                refine ⟨_, (blk6' BV).2.2.2.2.1, ?_⟩
                refine blk_set BV (i := 4) (by simp) rfl fun w66 B66 c66 s66 => ?_
                refine k47 _ w66 ?_ B66 (OV.chg c66 hob) (ext_chgS EV c66 fun i hi => by omega)
                have : 0 ≤ g ∧ g ≤ 31 := by rw [hg]; rcases hbase with rfl | rfl | rfl <;> cases un <;> cases v <;> decide
                rw [wrap_id (by omega), hg, hj1]; unfold flI; simp
              refine br_cases (fun hj1 => ?_) (fun hj1 => by rw [hj1] at k62; exact k62)
              have hne := hj hj1
              have h0 : 0 < d.length := by cases d with | nil => exact absurd rfl hne | cons _ _ => simp
              rw [decide_eq_true (by omega)]
              rw [hj1] at k62; exact k62
            refine br_cases (fun hv1 => ⟨_, (blk6' BV).2.2.2.2.1, ?_⟩) (fun hv1 => k45 g V (by rw [hg, hv1]; simp) BV OV EV)
            refine blk_set BV (i := 4) (by simp) rfl fun w68 B68 c68 s68 => ?_
            refine k45 _ w68 ?_ B68 (OV.chg c68 hob) (ext_chgS EV c68 fun i hi => by omega)
            have : 0 ≤ g ∧ g ≤ 31 := by rw [hg]; rcases hbase with rfl | rfl | rfl <;> cases un <;> decide
            rw [wrap_id (by omega), hg, hv1]; simp
          refine br_cases (fun hu1 => ⟨_, (blk6' BV).2.2.2.2.1, ?_⟩) (fun hu1 => k43 base V (by rw [hu1]; simp) BV OV EV)
          refine blk_set BV (i := 4) (by simp) rfl fun w70 B70 c70 s70 => ?_
          refine k43 _ w70 ?_ B70 (OV.chg c70 hob) (ext_chgS EV c70 fun i hi => by omega)
          rw [wrap_id (by omega), hu1]; simp
        refine ⟨_, X _ F37 1, br_split (fun gpos => ⟨_, X _ F37 1, ?_⟩) (fun gpos => ?_)⟩
        · -- a gap
          obtain ⟨hxg, _, g1, g64⟩ : x = .gap x1 (x5, x6) x3 x4 ∧ x0 = 0 ∧ 1 ≤ x1 ∧ x1 ≤ 64 := by
            rcases hA with ⟨_, _, hh⟩ | hh | ⟨_, _, _, hh, _⟩
            · omega
            · exact hh
            · omega
          have hI := Tryz.strconv_Itoa_small x1.toNat (by omega) w37
          rw [show ((x1.toNat : Nat) : Int) = x1 by omega] at hI
          refine hI.mono ?_
          rintro _ w74 ⟨rfl, hw74⟩
          subst hw74
          have hdl := decDigits_len x1.toNat (by omega)
          refine ⟨_, rfl, by simp; omega, by simp; omega, ?_⟩
          refine blk_set B35 (i := 0) (by simp) rfl fun w78 B78 c78 s78 => ?_
          refine blk_set B78 (i := 4) (by simp) rfl fun w79 B79 c79 s79 => ?_
          have egt : gapT x1 = [91] ++ Lib.decDigits x1.toNat ++ [93] := by unfold gapT; simp
          have B79' : Blk w79 b35 [.string ⟨⟨gapT x1⟩⟩, .string ⟨⟨[]⟩⟩, .string ⟨⟨x5⟩⟩, .int .i64 x6, .int .i64 2, .string ⟨⟨x4⟩⟩] 31 := by rw [egt]; exact B79
          exact k39 x3 1 (gapT x1) 2 w79 (by omega) (by omega) (.inr (.inl rfl)) (by rw [hxg, divF]) B79' ((O37.chg c78 hob).chg c79 hob) (ext_chgS (ext_chgS E37 c78 fun i hi => by omega) c79 fun i hi => by omega)
        · -- a character
          obtain ⟨ch, hxc, hx0, hx1, hkd⟩ : ∃ ch : UInt8, x = .ch ch (x5, x6) x3 x4 ∧ x0 = ch.toNat ∧ x1 = 0 ∧ kd ch ≠ 0 := by
            rcases hA with ⟨hh, _⟩ | ⟨_, _, hh, _⟩ | hh
            · exact absurd hh (hnb _)
            · omega
            · exact hh
          have h6 := hns ch _ _ _ hxc
          subst hx0
          refine ⟨_, X _ F37 0, begins15_spec ch ⟨_, rfl, br_cases (fun hlet => ⟨_, X _ F37 0, ?_⟩) (fun hlet => ⟨_, X _ F37 0, ?_⟩)⟩⟩
          · refine al_intro fun b85 w86 hb85 B85 e86 s86 => ?_
            refine b2s_intro (byte_own B85) ?_
            refine blk_set (B35.ext e86) (i := 0) (by simp) rfl fun w88 B88 c88 s88 => ?_
            have O88 := (Owns.ext O37 e86).chg c88 hob
            have E88 := ext_chgS (ext_trans E37 e86) c88 fun i hi => by omega
            have hrl : (l.drop (k + 1)).length = n - (k + 1) := by rw [List.length_drop]; omega
            have hrg : ∀ s, (l.drop (k + 1))[s]? = l[k + 1 + s]? := fun s => by rw [List.getElem?_drop]
            have hrd : ∀ s, (l.drop (k + 1)).drop s = l.drop (k + 1 + s) := fun s => by rw [List.drop_drop]
            have hdc : divF j v (x :: l.drop (k + 1)) = ⟨ch :: ((l.drop (k + 1)).takeWhile inA).flatMap chA, [], (x5, x6), flI (x3 || ((l.drop (k + 1)).takeWhile inA).any unA) j v 0, x4⟩ :: divF true false ((l.drop (k + 1)).dropWhile inA) := by
              rw [hxc, divF, if_neg h6, if_pos hlet]
            generalize hr : l.drop (k + 1) = r at *
            refine ⟨fun un q W2 m2 => ∃ s : Nat, q = ((s + 1 : Nat) : Int) ∧ k + 1 + s ≤ n ∧ m2 = n - (k + 1 + s) ∧ un = (x3 || (r.take s).any unA) ∧ (∀ y ∈ r.take s, inA y = true) ∧ Blk W2 b35 [.string ⟨⟨ch :: (r.take s).flatMap chA⟩⟩, .string ⟨⟨[]⟩⟩, .string ⟨⟨x5⟩⟩, .int .i64 x6, .int .i64 0, .string ⟨⟨x4⟩⟩] 31 ∧ OwnL encTk W2 w.heap.size 31 oa on oc (d.map nnT) ∧ Ext w W2,
              ⟨_, 0, rfl, by omega, rfl, by simp, by simp, B88, O88, E88⟩, ?_⟩
            rintro un _ W2 m2 ⟨s, rfl, hs, rfl, rfl, hall, BW, OW, EW⟩ _
            have ei : IntKind.i64.wrap ((k : Int) + ((s + 1 : Nat) : Int)) = ((k + 1 + s : Nat) : Int) := by rw [wrap_id (by omega)]; omega
            have stop : (s = r.length ∨ ∃ y, r[s]? = some y ∧ inA y = false) → K39 (x3 || (r.take s).any unA) ((s + 1 : Nat) : Int) W2 := by
              intro hst
              obtain ⟨t1, t2⟩ := take_stop hall hst
              refine k39 _ (s + 1) (ch :: (r.take s).flatMap chA) 0 W2 (by omega) (by omega) (.inl rfl) ?_ BW OW EW
              rw [hdc, t1, t2, hrd, show k + (s + 1) = k + 1 + s by omega]
            have hfl : ∀ t : List Am, (t.flatMap chA).length ≤ t.length := by
              intro t
              induction t with
              | nil => simp
              | cons y t ih =>
                rw [List.flatMap_cons, List.length_append, List.length_cons]
                have : (chA y).length ≤ 1 := by cases y <;> simp [chA]
                omega
            have hfs := hfl (r.take s)
            have hts : (r.take s).length ≤ s := by rw [List.length_take]; omega
            intro K95 hK95
            have k95 : ∀ (c2 : UInt8) (p2 : Ps) (u2 : Bool) (nm2 : List UInt8), l[k + 1 + s]? = some (.ch c2 p2 u2 nm2) → innC c2 = true → k + 1 + s < n → K95 W2 := by
              intro c2 p2 u2 nm2 hy hin hlt2
              refine hK95 _ fun _ => ?_
              intro K97 hK97
              have hrt : r.take (s + 1) = r.take s ++ [.ch c2 p2 u2 nm2] := by
                have : r[s]? = some (.ch c2 p2 u2 nm2) := by rw [hrg]; exact hy
                rw [List.take_add_one, this]; rfl
              have k97 : ∀ V : World, Blk V b35 [.string ⟨⟨ch :: (r.take (s + 1)).flatMap chA⟩⟩, .string ⟨⟨[]⟩⟩, .string ⟨⟨x5⟩⟩, .int .i64 x6, .int .i64 0, .string ⟨⟨x4⟩⟩] 31 → OwnL encTk V w.heap.size 31 oa on oc (d.map nnT) → Ext w V → K97 V := by
                intro V q1 q2 q3
                refine hK97 _ fun _ => ?_
                have fin : ∀ un', un' = (x3 || (r.take (s + 1)).any unA) → ∃ m', m' < n - (k + 1 + s) ∧ ∃ s' : Nat, IntKind.i64.wrap (((s + 1 : Nat) : Int) + 1) = ((s' + 1 : Nat) : Int) ∧ k + 1 + s' ≤ n ∧ m' = n - (k + 1 + s') ∧ un' = (x3 || (r.take s').any unA) ∧ (∀ y ∈ r.take s', inA y = true) ∧ Blk V b35 [.string ⟨⟨ch :: (r.take s').flatMap chA⟩⟩, .string ⟨⟨[]⟩⟩, .string ⟨⟨x5⟩⟩, .int .i64 x6, .int .i64 0, .string ⟨⟨x4⟩⟩] 31 ∧ OwnL encTk V w.heap.size 31 oa on oc (d.map nnT) ∧ Ext w V := by
                  intro un' hun
                  refine ⟨n - (k + 1 + (s + 1)), by omega, s + 1, by rw [wrap_nat (by omega)], by omega, rfl, hun, fun y hy2 => ?_, q1, q2, q3⟩
                  rw [hrt] at hy2
                  rcases List.mem_append.1 hy2 with h1 | h1
                  · exact hall y h1
                  · rw [List.mem_singleton.1 h1]; exact hin
                refine br_cases (fun hun => fin true ?_) (fun hun => ?_)
                · rw [hrt, List.any_append, ← Bool.or_assoc, hun]; rfl
                · rw [ei]
                  obtain ⟨bb2, o2, hq2, _, _, hc2⟩ := (hR.ext q3).get hy
                  refine hq2 _ ⟨u2, by rw [add_none]; exact hc2 3 _ rfl, fin u2 ?_⟩
                  rw [hrt, List.any_append, ← Bool.or_assoc, hun]
                  simp [unA]
              unfold drw
              have ed := ext_drew W2
              have Bd := BW.ext ed
              have Od := Owns.ext OW ed
              have Ed := ext_trans EW ed
              generalize W2.drew = Wd at *
              rw [ei]
              obtain ⟨bb2, o2, hq2, _, _, hc2⟩ := (hR.ext Ed).get hy
              refine hq2 _ ⟨(c2.toNat : Int), by rw [add_none]; exact hc2 0 _ rfl, ?_⟩
              have etx : ch :: (r.take s).flatMap chA ++ [c2] = ch :: (r.take (s + 1)).flatMap chA := by rw [hrt, List.flatMap_append]; simp [chA]
              have fin2 : ∀ V, Ext Wd V → stL V ((⟨b35, 0, none⟩ : Addr).add 0) 0 [.string ⟨⟨ch :: (r.take s).flatMap chA ++ [c2]⟩⟩] fun w111 => K97 w111 := by
                intro V eV2
                refine blk_set (Bd.ext eV2) (i := 0) (by simp) rfl fun w88 B88 c88 s88 => ?_
                rw [etx] at B88
                exact k97 w88 B88 ((Owns.ext Od eV2).chg c88 hob) (ext_chgS (ext_trans Ed eV2) c88 fun i hi => by omega)
              constructor
              · refine ⟨_, (blk6' Bd).1, ⟨?_, trivial⟩⟩
                refine al_intro fun b107 w108 hb107 B107 e108 s108 => ⟨?_, trivial⟩
                refine b2s_intro (byte_own B107) ⟨by simp only [List.length_cons, List.length_nil]; omega, ?_⟩
                exact ⟨fin2 w108 e108, trivial⟩
              · refine ⟨?_, trivial⟩
                refine al_intro fun b107 w108 hb107 B107 e108 s108 => ⟨?_, trivial⟩
                refine b2s_intro (byte_own B107) ⟨_, (blk6' (Bd.ext e108)).1, ⟨by simp only [List.length_cons, List.length_nil]; omega, ?_⟩⟩
                exact ⟨fin2 w108 e108, trivial⟩
            rw [ei]
            refine br_split (fun hlt2 => ?_) (fun hge2 => stop (.inl (by rw [hrl]; omega)))
            have hk2 : k + 1 + s < l.length := by omega
            have hy : l[k + 1 + s]? = some l[k + 1 + s] := by simp [hk2]
            have hoy := hok l[k + 1 + s] (List.getElem_mem hk2)
            generalize hyy : l[k + 1 + s] = y at *
            obtain ⟨bb2, o2, hq2, _, _, hc2⟩ := (hR.ext EW).get hy
            have hry : r[s]? = some y := by rw [hrg]; exact hy
            cases y with
            | ch c2 p2 u2 nm2 =>
              refine hq2 _ ⟨(c2.toNat : Int), by rw [add_none]; exact hc2 0 _ rfl, br_split (fun _ => ?_) (fun hh => absurd (ch_pos hoy) hh)⟩
              refine hq2 _ ⟨(c2.toNat : Int), by rw [add_none]; exact hc2 0 _ rfl, ?_⟩
              refine wordly15_spec c2 ⟨_, rfl, br_cases (fun hin => k95 c2 p2 u2 nm2 hy hin (by omega)) (fun hin => stop (.inr ⟨_, hry, hin⟩))⟩
            | gap n2 p2 u2 nm2 =>
              refine hq2 _ ⟨0, by rw [add_none]; exact hc2 0 _ rfl, br_split (fun hh => absurd rfl hh) (fun _ => stop (.inr ⟨_, hry, rfl⟩))⟩
            | brk v2 =>
              refine hq2 _ ⟨0, by rw [add_none]; exact hc2 0 _ rfl, br_split (fun hh => absurd rfl hh) (fun _ => stop (.inr ⟨_, hry, rfl⟩))⟩
          · refine al_intro fun b126 w127 hb126 B126 e127 s127 => ?_
            refine b2s_intro (byte_own B126) ?_
            refine blk_set (B35.ext e127) (i := 0) (by simp) rfl fun w129 B129 c129 s129 => ?_
            refine blk_set B129 (i := 4) (by simp) rfl fun w130 B130 c130 s130 => ?_
            have B130' : Blk w130 b35 [.string ⟨⟨[ch]⟩⟩, .string ⟨⟨[]⟩⟩, .string ⟨⟨x5⟩⟩, .int .i64 x6, .int .i64 8, .string ⟨⟨x4⟩⟩] 31 := B130
            exact k39 x3 1 [ch] 8 w130 (by omega) (by omega) (.inr (.inr rfl)) (by rw [hxc, divF, if_neg h6, if_neg (by rw [hlet]; decide)]) B130' (((Owns.ext O37 e127).chg c129 hob).chg c130 hob) (ext_chgS (ext_chgS (ext_trans E37 e127) c129 fun i hi => by omega) c130 fun i hi => by omega)
      refine ⟨_, X _ r0 0, br_split (fun hne => ⟨_, X _ r0 0, ?_⟩) (fun heq => k28f (fun ch p u nm hxc => ?_) w20 r0)⟩
      · obtain ⟨ch, hxc, hx0, hx1, hkd⟩ : ∃ ch : UInt8, x = .ch ch (x5, x6) x3 x4 ∧ x0 = ch.toNat ∧ x1 = 0 ∧ kd ch ≠ 0 := by
          rcases hA with ⟨hh, _⟩ | ⟨_, hh, _⟩ | hh
          · exact absurd hh (hnb _)
          · exact absurd hh hne
          · exact hh
        subst hx0
        refine Kind_spec' ch ⟨_, rfl, ?_⟩
        by_cases h6 : kd ch = 6
        · rw [decide_eq_true h6]; exact k28t ch hxc h6 w20 r0
        · rw [decide_eq_false h6]
          refine k28f (fun ch' p u nm hxc' => ?_) w20 r0
          rw [hxc] at hxc'
          injection hxc' with h1
          rw [← h1]; exact h6
      · have heq := Decidable.not_not.1 heq
        rcases hA with ⟨hh, _⟩ | ⟨hh, _⟩ | ⟨ch', hh, h2, _, h4⟩
        · exact absurd hh (hnb _)
        · rw [hh] at hxc; cases hxc
        · exact absurd (by rw [← h2]; exact heq) (ch_pos h4)
    refine ⟨_, X _ r0 0, br_split (fun h0 => ⟨_, X _ r0 1, ?_⟩) (fun h0 => k21f (fun b hxb => ?_))⟩
    · by_cases h1 : x1 = 0
      · rw [decide_eq_true h1]
        refine k21t ?_
        rcases hA with ⟨hh, _⟩ | ⟨_, _, hh, _⟩ | ⟨ch', _, h2, _, h4⟩
        · exact hh
        · omega
        · exact absurd (by rw [← h2]; exact h0) (ch_pos h4)
      · rw [decide_eq_false h1]
        refine k21f fun b hxb => ?_
        rcases hA with ⟨_, _, hh⟩ | ⟨hh, _⟩ | ⟨ch', hh, _⟩
        · exact h1 hh
        · rw [hh] at hxb; cases hxb
        · rw [hh] at hxb; cases hxb
    · rcases hA with ⟨_, hh, _⟩ | ⟨hh, _⟩ | ⟨ch', hh, _⟩
      · exact h0 hh
      · rw [hh] at hxb; cases hxb
      · rw [hh] at hxb; cases hxb
  · have hkn : k = l.length := by omega
    subst hkn
    rw [List.drop_length, divF, List.append_nil] at hdv
    rw [hdv] at h
    exact h oa on oc W hO he
end
end Go.Proofs
namespace Go.Proofs
open Go Go.Sh Go.RowKit

/- the law Norms -/
theorem nrmE_none {rs : List Rw} : ∀ {l : List Tok}, (∀ x ∈ l, wordG x.g = true → rwE rs x.t = 0) → nrmE rs l = 0
  | [], _ => rfl
  | x :: l, h => by
    unfold nrmE
    rw [if_neg (fun hh => hh.2 (h x (List.mem_cons_self ..) hh.1))]
    exact nrmE_none fun y hy => h y (List.mem_cons_of_mem _ hy)
theorem raw_word {x : Tok} (h : Raw x) (hw : wordG x.g = true) : wordlyF x.t = true := by
  unfold wordG at hw
  rcases h.k with ⟨e, _⟩ | ⟨_, e, _⟩ | ⟨_, _, c, s, e, h1, h2, h3⟩
  · rw [e] at hw; cases hw
  · rw [e] at hw; simp at hw
  · rw [e]
    unfold wordlyF
    rw [List.all_cons, let_inn h1, Bool.true_and, List.all_eq_true]
    exact h3
section
variable {R : Ending → World → Prop} {w : World}
end
end Go.Proofs
namespace Go.Proofs
open Go Go.Sh Go.RowKit

/- a string of the alphabet as a transcript, and its tokens -/
theorem txF_cut (s : List UInt8) : cutT ([], 0) (txF s) = strD false false s := by
  have : amsF ([], 0) (txF s) false [] = txT s := by
    show amT s ([], 0) false [] ++ [] = txT s
    rw [List.append_nil]; rfl
  unfold cutT strD
  rw [this]
theorem strD_raw {s : List UInt8} (h : checkC s = 0) {x : Tok} (hx : x ∈ strD false false s) : Raw x := by
  have hm := (checkC_mk.1 h).2
  have ho : okA false (txT s) := okA_text (p := ([], 0)) (u := false) (nm := []) ⟨by decide, .inl rfl⟩ (.inl rfl) hm
  exact div_raw _ _ false false (Nat.le_refl _) ho x hx
theorem txs_nrm (rs : List Rw) (l : List Tok) : txs (l.map (nrmT rs)) = txs l := by unfold txs; rw [List.map_map]; rfl
end Go.Proofs
namespace Go.Proofs
open Go Go.Sh Go.RowKit

/- the reference's Text, Words, Split, Normalize -/
theorem txF_fine70 {s : List UInt8} (h : checkC s = 0) (hn : s ≠ []) (hl : s.length ≤ 100) : FineF (txF s) := by
  have hs : singleF 1 s 0 .nil false false = 0 := single_mk_text hn h
  refine ⟨?_, ?_, ?_, ⟨hs, trivial, trivial⟩, ⟨by simp, trivial, trivial⟩⟩
  · unfold txF Fo.one; simp [Fo.size]
  · unfold txF Fo.one; simp [tlen]; omega
  · unfold txF Fo.one; simp [Fo.depth]
theorem spl_long {s : List UInt8} (h : checkC s = 0) (hn : s ≠ []) (hl : s.length ≤ 100) : tksE ([], 0) (txF s) [] = (if longT (strD false false s) = true then 4 else 0) ∧ tksR ([], 0) (txF s) [] = if longT (strD false false s) = true then [] else (strD false false s).map (nrmT []) := by
  have hf := txF_fine70 h hn hl
  have he : tksE ([], 0) (txF s) [] = (if longT (strD false false s) = true then 4 else 0) := by
    unfold tksE
    rw [hf.check, txF_cut, if_neg, if_neg (by simp), if_neg (by decide), if_neg]
    · by_cases hg : longT (strD false false s) = true
      · rw [if_pos hg, if_pos hg]
      · rw [if_neg hg, if_neg hg]
        refine nrmE_none fun x hx hw => ?_
        have h64 : x.t.length ≤ 64 := by
          unfold longT at hg
          rw [Bool.or_eq_true, not_or, List.any_eq_true] at hg
          exact Nat.le_of_not_lt fun hh => hg.2 ⟨x, hx, decide_eq_true hh⟩
        exact (rw_nil h64 (raw_word (strD_raw h hx) hw)).1
    · have : ∀ k : Int, k = 8 ∨ k = 9 → cntF k (txF s) = 0 := by
        intro k hk
        unfold txF Fo.one
        rw [cntF_cons, if_neg (by omega)]
        rfl
      rw [this 8 (.inl rfl), this 9 (.inr rfl)]; simp
    · rintro (hh | hh)
      · exact hh rfl
      · revert hh; decide
  refine ⟨he, ?_⟩
  by_cases hg : longT (strD false false s) = true
  · rw [if_pos hg] at he ⊢
    unfold tksR; rw [if_pos (by rw [he]; decide)]
  · rw [if_neg hg] at he ⊢
    rw [(tks_ok he).2, txF_cut]
theorem spl_any {s : List UInt8} (h : checkC s = 0) (hl : s.length ≤ 100) : splE s = (if longT (strD false false s) = true then 4 else 0) ∧ splR s = if longT (strD false false s) = true then [] else txs (strD false false s) := by
  have h0 : ¬ checkC s ≠ 0 := by rw [h]; simp
  unfold splE splR
  rw [if_neg h0, if_neg h0]
  by_cases hn : s = []
  · subst hn
    rw [if_pos rfl, if_pos rfl, strD_nil]; exact ⟨rfl, rfl⟩
  · obtain ⟨h1, h2⟩ := spl_long h hn hl
    rw [if_neg hn, if_neg hn]
    refine ⟨h1, ?_⟩
    rw [show (Fo.one 1 s 0 .nil) = txF s from rfl, h2]
    by_cases hg : longT (strD false false s) = true
    · rw [if_pos hg, if_pos hg]; rfl
    · rw [if_neg hg, if_neg hg, txs_nrm]
theorem long_nn (l : List Tok) : longT (l.map nnT) = longT l := by
  unfold longT
  rw [List.length_map, List.any_map]; rfl
theorem txs_nn (l : List Tok) : txs (l.map nnT) = txs l := by unfold txs; rw [List.map_map]; rfl
theorem txT_okG {s : List UInt8} (h : checkC s = 0) : ∀ x ∈ txT s, okG x := by
  have hm := (checkC_mk.1 h).2
  have ho : okA false (txT s) := okA_text (p := ([], 0)) (u := false) (nm := []) ⟨by decide, .inl rfl⟩ (.inl rfl) hm
  exact okA_okG ho
section
variable {R : Ending → World → Prop} {w : World}
set_option maxRecDepth 20000 in
theorem Words15_spec {S : Nat → Prop} {a : Option Addr} {n c : Nat} (l : List Tok) (hR : RowAt encTk S w a n l) (hn : n ≤ 1000000000) (h : ∀ a' c' w', OwnL Sh.encStr w' w.heap.size 9 a' n c' (txs l) → Ext w w' → R (.returned (.slice a' n c')) w') :
    Calls Tryz.prog F_ref15_Words ⟨[.slice a n c]⟩ w R := by
  apply c_ref15_Words
  have hln := hR.1
  refine ⟨fun oa on oc i W m => ∃ k : Nat, i = k ∧ k ≤ n ∧ m = n - k ∧ on = k ∧ Ext w W ∧ OwnL Sh.encStr W w.heap.size 9 oa on oc (txs (l.take k)), ⟨_, 0, rfl, by omega, rfl, rfl, Below.refl _ _, Owns.nil _ _ _ _⟩, ?_⟩
  rintro oa on oc _ W m ⟨k, rfl, hk, rfl, rfl, he, hO⟩ _
  refine br_split (fun hlt => ?_) (fun hge => ?_)
  · have hkl : on < l.length := by omega
    obtain ⟨q, hq, c0, c1, c2, c3, c4, c5⟩ := tok_get (hR.ext he) (show l[on]? = some l[on] by simp [hkl])
    refine hq _ ⟨_, c0, ?_⟩
    refine al_intro fun b19 w20 hb19 B19 e20 s20 => ?_
    have B19' : Blk w20 b19 (Sh.encStr.enc l[on].t) 9 := B19
    have z20 := (ext_trans he e20).size
    refine OwnL.app1 (P := Tryz.prog) slT_strT (Owns.ext hO e20) (by omega) B19' (by omega) (by omega) fun a' c'' w22 ho hcg hn2 => ?_
    refine ⟨n - (on + 1), by omega, on + 1, by rw [wrap_nat (by omega)], by omega, rfl, rfl, ext_chgS (ext_trans he e20) hcg fun k hk => ?_, ?_⟩
    · exact ((Owns.ext hO e20).bk hk).1
    · have e : txs (l.take (on + 1)) = txs (l.take on) ++ [l[on].t] := by unfold txs; rw [List.take_succ_eq_append_getElem hkl, List.map_append]; rfl
      rw [e]; exact ho
  · have hkn : on = n := by omega
    subst hkn
    rw [List.take_of_length_le (by omega)] at hO
    exact h oa oc W hO he
set_option maxRecDepth 20000 in
theorem Text15r_spec {S : Nat → Prop} {a : Option Addr} {n c : Nat} (l : List Tok) (hm : ∀ x ∈ l, x.m.length ≤ 4611686018427387904) (ht : ∀ x ∈ l, x.t.length ≤ 1000) (hR : RowAt encTk S w a n l) (h : ∀ w', Ext w w' → R (.returned (.tuple ⟨[.string ⟨⟨txR l⟩⟩, .int .i64 (txE l)]⟩)) w') : Calls Tryz.prog F_ref15_Text ⟨[.slice a n c]⟩ w R := by
  apply c_ref15_Text
  have hn := hR.1
  refine checkAll15_spec l hm hR fun w3 e3 => ⟨_, rfl, br_split (fun g => ?_) (fun g => ?_)⟩
  · have h1 : txE l = chkAll l := by
      unfold chkAll at g
      unfold txE chkAll
      by_cases g1 : 1024 < l.length
      · rw [if_pos g1, if_pos g1]
      · rw [if_neg g1] at g
        by_cases g2 : (l.any fun x => decide (tokE x ≠ 0)) = true
        · rw [if_neg g1, if_pos g2, if_neg g1, if_pos g2]
        · rw [if_neg g2] at g; exact absurd rfl g
    have h2 : txR l = [] := by unfold txR; rw [if_neg (by rw [h1]; exact g)]
    rw [h1, h2] at h
    exact h w3 e3
  have g1 : ¬ 1024 < l.length := fun hh => g (by unfold chkAll; rw [if_pos hh]; decide)
  have g2 : ¬ (l.any fun x => decide (tokE x ≠ 0)) = true := fun hh => g (by unfold chkAll; rw [if_neg g1, if_pos hh]; decide)
  have hE : txE l = if 65536 < (textJ true l).length then 4 else 0 := by unfold txE; rw [if_neg g1, if_neg g2]
  have hg : ∀ x ∈ l, 0 ≤ x.g ∧ x.g ≤ 31 := by
    intro x hx
    have : tokE x = 0 := by
      by_cases hh : tokE x = 0
      · exact hh
      · exact absurd (List.any_eq_true.2 ⟨x, hx, by simpa using hh⟩) g2
    unfold tokE at this
    split at this
    · cases this
    · omega
  refine ⟨fun s i W m => ∃ k : Nat, i = k ∧ k ≤ n ∧ m = n - k ∧ s = textJ true (l.take k) ∧ Ext w W, ⟨_, 0, rfl, by omega, rfl, rfl, e3⟩, ?_⟩
  rintro _ _ W m ⟨k, rfl, hk, rfl, rfl, he⟩ _
  have hjl := textJ_len (l.take k) true 1000 fun x hx => ht x (List.mem_of_mem_take hx)
  have htl : (l.take k).length ≤ 1024 := by rw [List.length_take]; omega
  have hjb : (textJ true (l.take k)).length ≤ 1025024 := Nat.le_trans hjl (by omega)
  refine br_split (fun hlt => ?_) (fun hge => ?_)
  · have hkl : k < l.length := by omega
    have htk : l.take (k + 1) = l.take k ++ [l[k]] := List.take_succ_eq_append_getElem hkl
    have hx : l[k]? = some l[k] := by simp [hkl]
    obtain ⟨hg0, hg1⟩ := hg l[k] (List.getElem_mem hkl)
    have ht1 := ht l[k] (List.getElem_mem hkl)
    generalize hxx : l[k] = x at *
    have hsn := textJ_snoc (l.take k) true x
    rw [← htk] at hsn
    have hnil : l.take k = [] ↔ k = 0 := by
      rw [← List.length_eq_zero_iff, List.length_take]; omega
    intro K11 hK11
    have k11 : ∀ (s : List UInt8) (v : World), s ++ x.t = textJ true (l.take (k + 1)) → s.length ≤ 1025100 → Ext w v → K11 s v := by
      intro s v hs hsl hv
      refine hK11 _ _ fun _ => ?_
      obtain ⟨q, hq, c0, _⟩ := tok_get (hR.ext hv) hx
      refine hq _ ⟨_, c0, by omega, ?_⟩
      exact ⟨n - (k + 1), by omega, k + 1, by rw [wrap_nat (by omega)], by omega, rfl, hs, hv⟩
    refine br_split (fun hk0 => ?_) (fun hk0 => ?_)
    · obtain ⟨q, hq, c0, c1, c2, c3, c4, c5⟩ := tok_get (hR.ext he) hx
      refine hq _ ⟨_, c0, _, c1, _, c2, _, c3, _, c4, _, c5, ?_⟩
      refine has15_spec x 16 (.inr (.inr rfl)) hg0 hg1 fun w26 e26 => ⟨_, rfl, ?_⟩
      have hne : ¬ (l.take k = []) := fun hh => by rw [hnil] at hh; omega
      cases h16 : hasG x.g 16 with
      | true =>
        simp only [Bool.not_true, br_f]
        refine k11 _ w26 ?_ (by omega) (ext_trans he e26)
        rw [hsn, if_pos (.inr h16), List.nil_append]
      | false =>
        simp only [Bool.not_false, br_t]
        refine ⟨by simp only [List.length_cons, List.length_nil]; omega, k11 _ w26 ?_ (by simp; omega) (ext_trans he e26)⟩
        rw [hsn, if_neg (fun hh => hh.elim (fun h1 => hne h1.2) (fun h1 => by rw [h16] at h1; cases h1)), List.append_assoc]
    · have hk00 : k = 0 := by omega
      refine k11 _ W ?_ (by omega) he
      rw [hsn, if_pos (.inl ⟨rfl, hnil.2 hk00⟩), List.nil_append]
  · rw [List.take_of_length_le (by omega)] at *
    refine br_split (fun g3 => ?_) (fun g3 => ?_)
    · have h1 : txE l = 4 := by rw [hE, if_pos (by omega)]
      have h2 : txR l = [] := by unfold txR; rw [if_neg (by rw [h1]; decide)]
      rw [h1, h2] at h
      exact h W he
    · have h1 : txE l = 0 := by rw [hE, if_neg (by omega)]
      have h2 : txR l = textJ true l := by unfold txR; rw [if_pos h1]
      rw [h1, h2] at h
      exact h W he
set_option maxRecDepth 20000 in
theorem Split15_spec (s : List UInt8) (hs : s.length ≤ 100) (h : ∀ a' n' c' w', n' = (splR s).length → OwnL Sh.encStr w' w.heap.size 9 a' n' c' (splR s) → Ext w w' → R (.returned (.tuple ⟨[.slice a' n' c', .int .i64 (splE s)]⟩)) w') :
    Calls Tryz.prog F_ref15_Split ⟨[.string ⟨⟨s⟩⟩]⟩ w R := by
  apply c_ref15_Split
  refine Check_spec' s fun w3 e3 => ⟨_, rfl, br_split (fun g => ?_) (fun g => ?_)⟩
  · have hE : splE s = checkC s := by unfold splE; rw [if_pos g]
    have hR : splR s = [] := by unfold splR; rw [if_pos g]
    rw [hE, hR] at h
    exact h none 0 0 w3 rfl (Owns.nil _ _ _ _) e3
  have g0 : checkC s = 0 := Decidable.not_not.1 g
  obtain ⟨hE, hRr⟩ := spl_any g0 hs
  refine al_intro fun b5 w6 hb5 B5 e6 s6 => ?_
  have E6 := ext_trans e3 e6
  have hnk : nkF (.one 1 s 0 .nil) := ⟨fun _ => rfl, trivial, trivial⟩
  refine signs_spec (.one 1 s 0 .nil) (S := fun _ => True) ([], 0) false [] hnk (by unfold Fo.one; simp [Fo.size]) (by unfold Fo.one; simp [tlen]; omega) (by decide) (by unfold Fo.one; simp [Fo.size]) (one_slf B5) fun a8 n8 c8 w8 hO8 e8 => ⟨_, _, _, _, _, _, rfl, ?_⟩
  have ham : amsF ([], 0) (.one 1 s 0 .nil) false [] = txT s := by
    show amT s ([], 0) false [] ++ [] = txT s
    rw [List.append_nil]; rfl
  rw [ham] at hO8
  have E8 := ext_trans E6 e8
  refine al_stL rfl (by intro v hv; simp only [List.mem_cons, List.not_mem_nil, or_false] at hv; rcases hv with rfl | rfl <;> rfl) fun b13 w15 hb B13 e15 s15 => ?_
  have E15 := ext_trans E8 e15
  have htl : (txT s).length = s.length := by unfold txT amT; simp
  refine divide_spec (txT s) (txT_okG g0) (by omega) (OwnL.out (Owns.ext hO8 e15)) fun a17 n17 c17 w17 hO17 e17 => ⟨_, _, _, rfl, ?_⟩
  have E17 := ext_trans E15 e17
  have hsd : divF false false (txT s) = strD false false s := rfl
  rw [hsd] at hO17
  refine limits15_spec _ (OwnL.out hO17) ⟨_, rfl, ?_⟩
  rw [long_nn]
  by_cases hg : longT (strD false false s) = true
  · rw [if_pos hg] at hE hRr ⊢
    rw [hE, hRr] at h
    rw [decide_eq_true (show (4 : Int) ≠ 0 by decide)]
    exact h none 0 0 w17 rfl (Owns.nil _ _ _ _) E17
  · rw [if_neg hg] at hE hRr ⊢
    rw [hE, hRr] at h
    rw [decide_eq_false (show ¬ (0 : Int) ≠ 0 by decide)]
    have hln := OwnL.length hO17
    have hlb : n17 ≤ 1024 := by
      rw [← hln, List.length_map]
      unfold longT at hg
      rw [Bool.or_eq_true, not_or, decide_eq_true_eq] at hg
      omega
    refine Words15_spec _ (OwnL.out hO17) (by omega) fun a22 c22 w23 hO23 e23 => ⟨_, _, _, rfl, ?_⟩
    rw [txs_nn] at hO23
    refine h a22 n17 c22 w23 ?_ (Owns.weak hO23 E17.size) (ext_trans E17 e23)
    rw [← hln]; unfold txs; simp
def nrzE (rs : List Rw) (l : List Tok) : Int := if ruleE rs ≠ 0 then 1 else if chkAll l ≠ 0 then chkAll l else nrmE rs l
def nrzR (rs : List Rw) (l : List Tok) : List Tok := if nrzE rs l = 0 then l.map (nrmT rs) else []
theorem tok_other {x : Tok} (h : tokE x = 0) (hw : wordG x.g = false) : x.m = x.t := by
  unfold tokE at h
  split at h
  · cases h
  split at h
  · cases h
  split at h
  · cases h
  rename_i h3
  have h3 : textB x = true := by simpa using h3
  unfold textB at h3
  unfold wordG at hw
  split at h3
  · rw [Bool.and_eq_true, decide_eq_true_eq] at h3; exact h3.2
  split at h3
  · rw [Bool.and_eq_true, decide_eq_true_eq] at h3; exact h3.2
  · rename_i a1 a2
    simp [a1, a2] at hw
theorem chkAll_ok {l : List Tok} (h : chkAll l = 0) : l.length ≤ 1024 ∧ ∀ x ∈ l, tokE x = 0 := by
  unfold chkAll at h
  split at h
  · cases h
  split at h
  · cases h
  rename_i h1 h2
  refine ⟨by omega, fun x hx => ?_⟩
  by_cases hh : tokE x = 0
  · exact hh
  · exact absurd (List.any_eq_true.2 ⟨x, hx, by simpa using hh⟩) h2
theorem tok_flags {x : Tok} (h : tokE x = 0) : 0 ≤ x.g ∧ x.g ≤ 31 := by
  unfold tokE at h
  split at h
  · cases h
  · omega
theorem Normalize15r_spec {S S2 : Nat → Prop} {a0 : Option Addr} {n0 c0 : Nat} {a : Option Addr} {n c : Nat} (rs : List Rw) (l : List Tok) (hsm : smallR rs) (hm : ∀ x ∈ l, x.m.length ≤ 4611686018427387904) (hR : RowAt encRw S w a0 n0 rs) (hO : RowAt encTk S2 w a n l)
    (h : ∀ a' n' c' w', Ext w w' → OwnL encTk w' w.heap.size 31 a' n' c' (nrzR rs l) → R (.returned (.tuple ⟨[.slice a' n' c', .int .i64 (nrzE rs l)]⟩)) w') :
    Calls Tryz.prog F_ref15_Normalize ⟨[.slice a0 n0 c0, .slice a n c]⟩ w R := by
  apply c_ref15_Normalize
  have hn := hO.1
  have nope : ∀ e v, nrzE rs l = e → e ≠ 0 → Ext w v → R (.returned (.tuple ⟨[.slice none 0 0, .int .i64 e]⟩)) v := by
    intro e v he h0 hv
    have h1 : nrzR rs l = [] := by unfold nrzR; rw [if_neg (by rw [he]; exact h0)]
    rw [h1, he] at h
    exact h none 0 0 v hv (Owns.nil _ _ _ _)
  refine Check14_spec rs hsm hR fun w4 e4 => ⟨_, rfl, br_split (fun g => nope 1 w4 (by unfold nrzE; rw [if_pos g]) (by decide) e4) (fun g => ?_)⟩
  refine checkAll15_spec l hm (hO.ext e4) fun w7 e7 => ⟨_, rfl, br_split (fun g2 => nope _ w7 (by unfold nrzE; rw [if_neg g, if_pos g2]) g2 (ext_trans e4 e7)) (fun g2 => ?_)⟩
  have E7 := ext_trans e4 e7
  obtain ⟨q1, q2⟩ := chkAll_ok (Decidable.not_not.1 g2)
  have hz : nrzE rs l = nrmE rs l := by unfold nrzE; rw [if_neg g, if_neg g2]
  have hzr : nrzR rs l = if nrmE rs l = 0 then l.map (nrmT rs) else [] := by unfold nrzR; rw [hz]
  rw [hz, hzr] at h
  refine normalize15_spec rs l hsm (hR.ext E7) (hO.ext E7) (fun x hx => tok_flags (q2 x hx)) (fun x hx hw => tok_other (q2 x hx) hw) (by omega) fun a' n' c' w' ew ho => ⟨_, _, _, _, rfl, ?_⟩
  exact h a' n' c' w' (ext_trans E7 ew) (Owns.weak ho E7.size)
end
end Go.Proofs
