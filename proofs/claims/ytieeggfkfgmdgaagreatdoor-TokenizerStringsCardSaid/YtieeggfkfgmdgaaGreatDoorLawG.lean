/- The contracts of the functions that the law reaches, one after the other, and at the end the law's card. -/
import Derived.Test.YtieeggfkfgmdgaaGreatDoorLawF
namespace Go.Proofs
open Go Go.Sh Go.RowKit

/- a string of the alphabet as a transcript, and its tokens -/
theorem txF_fine {s : List UInt8} (h : checkC s = 0) (hn : s ≠ []) (hl : s.length ≤ 40) : FineF (txF s) := by
  have hs : singleF 1 s 0 .nil false false = 0 := by
    unfold singleF
    rw [if_neg, if_neg, if_pos rfl, if_neg (by rw [h]; simp), if_neg (by decide)]
    · rintro (⟨_, hh⟩ | ⟨_, hh⟩)
      · exact hn hh
      · simp [partsF] at *
    · rintro (hh | hh | ⟨_, hh⟩ | ⟨hh, _⟩ | ⟨hh, _⟩)
      · omega
      · omega
      · revert hh; decide
      · exact hh rfl
      · simp [Fo.len] at hh
  refine ⟨?_, ?_, ?_, ⟨hs, trivial, trivial⟩, ⟨by simp, trivial, trivial⟩⟩
  · unfold txF Fo.one; simp [Fo.size]
  · unfold txF Fo.one; simp [tlen]; omega
  · unfold txF Fo.one; simp [Fo.depth]
theorem txF_cut (s : List UInt8) : cutT ([], 0) (txF s) = strD false false s := by
  have : amsF ([], 0) (txF s) false [] = txT s := by
    show amT s ([], 0) false [] ++ [] = txT s
    rw [List.append_nil]; rfl
  unfold cutT strD
  rw [this]
theorem tx_gaps (s : List UInt8) : (txT s).filter gapA = [] := gaps_amT _ _ _ _
theorem strD_nogap {s : List UInt8} {x : Tok} (hx : x ∈ strD false false s) : hasG x.g 2 = false := by
  have h2 := (div_chars _ (txT s) false false (Nat.le_refl _)).2
  rw [tx_gaps, List.length_nil, List.length_eq_zero_iff] at h2
  cases hg : hasG x.g 2 with
  | false => rfl
  | true =>
    have : x ∈ (divF false false (txT s)).filter fun x => hasG x.g 2 := List.mem_filter.2 ⟨hx, hg⟩
    rw [h2] at this; cases this
theorem flat_words : ∀ (l : List Tok), (∀ x ∈ l, hasG x.g 2 = false) → wordsT l = (txs l).flatten
  | [], _ => rfl
  | x :: l, h => by
    have h1 := flat_words l fun y hy => h y (List.mem_cons_of_mem _ hy)
    have h2 := h x (List.mem_cons_self ..)
    unfold wordsT txs at h1 ⊢
    rw [List.flatMap_cons, List.map_cons, List.flatten_cons, h1, h2]
    rfl
theorem strD_flat (s : List UInt8) : (txs (strD false false s)).flatten = s.filter noSp := by
  rw [← flat_words _ fun x hx => strD_nogap hx]
  have h1 := (div_chars _ (txT s) false false (Nat.le_refl _)).1
  rw [tx_ch] at h1
  exact h1
theorem flatT_len : ∀ (l : List Tok), (∀ x ∈ l, x.t ≠ []) → l.length ≤ (txs l).flatten.length ∧ ∀ x ∈ l, x.t.length ≤ (txs l).flatten.length
  | [], _ => ⟨Nat.zero_le _, fun x hx => by cases hx⟩
  | y :: l, h => by
    obtain ⟨h1, h2⟩ := flatT_len l fun z hz => h z (List.mem_cons_of_mem _ hz)
    have h3 : y.t.length ≠ 0 := fun hh => h y (List.mem_cons_self ..) (List.length_eq_zero_iff.1 hh)
    unfold txs at h1 h2 ⊢
    rw [List.map_cons, List.flatten_cons, List.length_append, List.length_cons]
    refine ⟨by omega, fun x hx => ?_⟩
    rcases List.mem_cons.1 hx with rfl | hx
    · omega
    · have := h2 x hx; omega
theorem strD_raw {s : List UInt8} (h : checkC s = 0) {x : Tok} (hx : x ∈ strD false false s) : Raw x := by
  have hm := (checkC_mk.1 h).2
  have ho : okA false (txT s) := okA_text (p := ([], 0)) (u := false) (nm := []) ⟨by decide, .inl rfl⟩ (.inl rfl) hm
  exact div_raw _ _ false false (Nat.le_refl _) ho x hx
theorem strD_short {s : List UInt8} (h : checkC s = 0) (hl : s.length ≤ 40) : (strD false false s).length ≤ 40 ∧ ∀ x ∈ strD false false s, x.t.length ≤ 40 := by
  obtain ⟨h1, h2⟩ := flatT_len (strD false false s) fun x hx => raw_ne (strD_raw h hx)
  rw [strD_flat] at h1 h2
  have := List.length_filter_le noSp s
  exact ⟨by omega, fun x hx => by have := h2 x hx; omega⟩
theorem strs_ok {s : List UInt8} (h : checkC s = 0) (hn : s ≠ []) (hl : s.length ≤ 40) : tksE ([], 0) (txF s) [] = 0 ∧ tksR ([], 0) (txF s) [] = (strD false false s).map (nrmT []) := by
  have hf := txF_fine h hn hl
  obtain ⟨q1, q2⟩ := strD_short h hl
  have he : tksE ([], 0) (txF s) [] = 0 := by
    unfold tksE
    rw [hf.check, txF_cut, if_neg, if_neg (by simp), if_neg (by decide), if_neg, if_neg]
    · refine nrmE_none fun x hx hw => ?_
      exact (rw_nil (by have := q2 x hx; omega) (raw_word (strD_raw h hx) hw)).1
    · unfold longT
      rw [Bool.or_eq_true, not_or, decide_eq_true_eq, List.any_eq_true]
      refine ⟨by omega, ?_⟩
      rintro ⟨x, hx, hh⟩
      have := q2 x hx
      simp at hh; omega
    · have : ∀ k : Int, k = 8 ∨ k = 9 → cntF k (txF s) = 0 := by
        intro k hk
        unfold txF Fo.one
        rw [cntF_cons, if_neg (by omega)]
        rfl
      rw [this 8 (.inl rfl), this 9 (.inr rfl)]; simp
    · rintro (hh | hh)
      · exact hh rfl
      · revert hh; decide
  exact ⟨he, by rw [(tks_ok he).2, txF_cut]⟩
theorem txs_nrm (rs : List Rw) (l : List Tok) : txs (l.map (nrmT rs)) = txs l := by unfold txs; rw [List.map_map]; rfl
theorem textJ_nrm (rs : List Rw) : ∀ (l : List Tok) (b : Bool), textJ b (l.map (nrmT rs)) = textJ b l
  | [], _ => rfl
  | x :: l, b => by rw [List.map_cons, textJ, textJ, textJ_nrm rs l false]; rfl
theorem split_ok {s : List UInt8} (h : checkC s = 0) (hl : s.length ≤ 40) : splE s = 0 ∧ splR s = txs (strD false false s) := by
  have h0 : ¬ checkC s ≠ 0 := by rw [h]; simp
  unfold splE splR
  rw [if_neg h0, if_neg h0]
  by_cases hn : s = []
  · subst hn
    rw [if_pos rfl, if_pos rfl, strD_nil]; exact ⟨rfl, rfl⟩
  · obtain ⟨h1, h2⟩ := strs_ok h hn hl
    rw [if_neg hn, if_neg hn]
    exact ⟨h1, by rw [show (Fo.one 1 s 0 .nil) = txF s from rfl, h2, txs_nrm]⟩
theorem sq0_ok {s : List UInt8} (h : checkC s = 0) : checkC (sq0 s) = 0 := by
  obtain ⟨h1, h2⟩ := checkC_mk.1 h
  exact checkC_mk.2 ⟨Nat.le_trans (sq0_len s) h1, sq0_mk s h2⟩
theorem mk_kd : ∀ {s : List UInt8} {b : Bool}, mkS b s = true → ∀ c ∈ s, kd c ≠ 0
  | [], _, _, c, hc => by cases hc
  | d :: r, b, h, c, hc => by
    rw [mkS, Bool.and_eq_true] at h
    rcases List.mem_cons.1 hc with rfl | hc
    · simpa using h.1
    · have h2 := h.2
      split at h2
      · rw [Bool.and_eq_true] at h2; exact mk_kd h2.2 c hc
      · exact mk_kd h2 c hc
theorem kd_ascii {c : UInt8} (h : kd c ≠ 0) : c.toNat < 128 := by
  have : ∀ n : Fin 256, kd (UInt8.ofNat n.val) ≠ 0 → n.val < 128 := by decide +kernel
  have h2 := this ⟨c.toNat, c.toNat_lt⟩
  simp only [UInt8.ofNat_toNat] at h2
  exact h2 h
theorem join_flat : ∀ l : List (List UInt8), Lib.join l [] = l.flatten := by
  intro l
  unfold Lib.join List.intercalate
  induction l with
  | nil => rfl
  | cons x l ih =>
    cases l with
    | nil => rfl
    | cons y l =>
      rw [show List.intersperse ([] : List UInt8) (x :: y :: l) = x :: [] :: List.intersperse [] (y :: l) from rfl, List.flatten_cons, List.flatten_cons, ih]
      rfl
theorem text_ok {s : List UInt8} (h : checkC s = 0) (hl : s.length ≤ 40) : (∀ x ∈ (strD false false s).map (nrmT []), tokE x = 0 ∧ bigT x ∧ x.t.length ≤ 64) ∧ txE ((strD false false s).map (nrmT [])) = 0 ∧ txR ((strD false false s).map (nrmT [])) = sq0 s := by
  obtain ⟨q1, q2⟩ := strD_short h hl
  have h1 : ∀ x ∈ (strD false false s).map (nrmT []), tokE x = 0 ∧ bigT x ∧ x.t.length ≤ 64 := by
    intro y hy
    obtain ⟨x, hx, rfl⟩ := List.mem_map.1 hy
    have hr := strD_raw h hx
    have hxl := q2 x hx
    have hm : if wordG x.g = true then normB (if wordG x.g = true then rwR [] x.t else x.t) = true else (if wordG x.g = true then rwR [] x.t else x.t) = x.t := by
      by_cases hw : wordG x.g = true
      · rw [if_pos hw, if_pos hw]
        exact rw_norm (rw_nil (by omega) (raw_word hr hw)).1 (raw_ne hr)
      · rw [if_neg hw, if_neg hw]
    refine ⟨(hr.ok (by omega) hm).1, ⟨by rw [nrm_t]; omega, ?_⟩, by rw [nrm_t]; omega⟩
    show (if wordG x.g = true then rwR [] x.t else x.t).length ≤ _
    by_cases hw : wordG x.g = true
    · rw [if_pos hw, (rw_nil (by omega) (raw_word hr hw)).2]; omega
    · rw [if_neg hw]; omega
  have ht : textJ true ((strD false false s).map (nrmT [])) = sq0 s := by rw [textJ_nrm, text_sq0]
  have he : txE ((strD false false s).map (nrmT [])) = 0 := by
    unfold txE
    have := sq0_len s
    rw [ht, if_neg (by rw [List.length_map]; omega), if_neg, if_neg (by omega)]
    intro hh
    obtain ⟨x, hx, hb⟩ := List.any_eq_true.1 hh
    rw [decide_eq_true_eq] at hb
    exact hb (h1 x hx).1
  exact ⟨h1, he, by unfold txR; rw [if_pos he, ht]⟩
end Go.Proofs
namespace Go.Proofs
open Go Go.Sh Go.RowKit

/- the law Strings -/
theorem ownsT_le {w : World} {B : Nat} {e : TypeId} {size : Nat} {a : Option Addr} {n c : Nat} {xs : List Value} (h : Owns w B e size a n c xs) : n ≤ c := by
  rcases h.2 with ⟨e1, e2⟩ | ⟨g, cap, cur, e1, _, _, e4, _⟩
  · obtain ⟨_, h, h'⟩ : a = none ∧ n = 0 ∧ c = 0 := by simpa using e1
    omega
  · obtain ⟨_, h⟩ : a = some ⟨g, 0, none⟩ ∧ c = cap := by simpa using e1
    omega
theorem cntF_le : ∀ (l : List UInt8) (b : Bool), Lib.cntF b l ≤ l.length
  | [], _ => by simp [Lib.cntF]
  | x :: l, b => by
    have := cntF_le l
    unfold Lib.cntF
    rw [List.length_cons]
    have h2 := this (Lib.isSp x)
    split <;> omega
section
variable {R : Ending → World → Prop} {w : World}
theorem JoinS_spec {S : Nat → Prop} {a : Option Addr} {n c : Nat} {L : List (List UInt8)} (sep : List UInt8) (h1 : RowAt Sh.encStr S w a n L) (hc : n ≤ c) (hn : n ≤ 1000000000) (hl : (Lib.join L sep).length ≤ 140737488355328)
    (h : ∀ w', Ext w w' → R (.returned (.string ⟨⟨Lib.join L sep⟩⟩)) w') : Calls Tryz.prog F_strings_Join ⟨[.slice a n c, .string ⟨⟨sep⟩⟩]⟩ w R := by
  have hn1 := h1.1
  by_cases h0 : L = []
  · subst h0
    have : n = 0 := hn1
    subst this
    refine (Tryz.strings_Join_none a c ⟨⟨sep⟩⟩ w).mono ?_
    rintro e w' ⟨rfl, rfl⟩
    exact h _ (Below.refl _ _)
  · rcases h1.2 with h2 | ⟨b, o, rfl, hb, hbl, hcl⟩
    · have := congrArg List.length h2
      rw [row_len] at this
      simp [Sh.encStr] at this
      exact absurd this h0
    have hmap : ((L.map (fun s => (⟨⟨s⟩⟩ : ByteArray))).map (·.data.toList)) = L := by rw [List.map_map]; exact List.map_id' L
    have key := Tryz.strings_Join b o c (L.map fun s => (⟨⟨s⟩⟩ : ByteArray)) ⟨⟨sep⟩⟩ w (fun j x hx => by
      rw [List.getElem?_map, Option.map_eq_some_iff] at hx
      obtain ⟨s, hs, rfl⟩ := hx
      refine hcl j _ ?_
      have := row_get (E := Sh.encStr) (l := L) (i := j) (j := 0) (x := s) hs (by decide)
      rw [show j * Sh.encStr.size + 0 = j by simp [Sh.encStr]] at this
      rw [this]; rfl) hbl (by rw [List.length_map]; omega) (by rw [List.length_map]; omega) (by rw [hmap]; exact hl)
    rw [hmap, List.length_map, ← hn1] at key
    refine key.mono ?_
    rintro e w' ⟨rfl, hbe⟩
    exact h w' hbe
theorem tab_ext {w w' : World} {P : Program} {n : String} {k : IntKind} {zs : List Int} (h : Lib.TabIs P w n k zs) (he : Ext w w') : Lib.TabIs P w' n k zs := by
  unfold Lib.TabIs World.var? at h ⊢
  cases hg : P.globalNamed n with
  | none => rw [hg] at h; cases h
  | some g =>
    rw [hg] at h
    simp only [Option.bind_some] at h ⊢
    have hl : g < w.heap.size := by
      by_cases q : g < w.heap.size
      · exact q
      · rw [Array.getElem?_eq_none (by omega)] at h; cases h
    rw [he.block g hl]; exact h
set_option maxRecDepth 20000 in
theorem TokenizerStrings_spec (s : List UInt8) (hF : Forms w) (hM : Mk w) (hT : Lib.TabIs Tryz.prog w "strings.asciiSpace" .u8 Lib.asciiSpaceTab)
    (h : ∀ w', Ext w w' → R (.returned (.bool true)) w') : Calls Tryz.prog F_law15_TokenizerStrings ⟨[.string ⟨⟨s⟩⟩]⟩ w R := by
  apply c_law15_TokenizerStrings
  have aw : ∀ v, Ext w v → Calls Tryz.prog F_law15_awake ⟨[]⟩ v (fun e w' => ∃ x : Bool, e = .returned (.bool x) ∧ R (.returned (.bool x)) w') := fun v ev => awake15_spec (hF.ext ev) fun v' e' => ⟨_, rfl, h v' (ext_trans ev e')⟩
  intro K2 hK2
  have k2 : s.length ≤ 40 → s ≠ [] → checkC s = 0 → ∀ v, Ext w v → K2 v := by
    intro hl hn hc w3 E3
    refine hK2 _ fun _ => ?_
    obtain ⟨sp1, sp2⟩ := split_ok hc hl
    obtain ⟨st1, st2⟩ := strs_ok hc hn hl
    obtain ⟨tx1, tx2, tx3⟩ := text_ok hc hl
    obtain ⟨sh1, sh2⟩ := strD_short hc hl
    have hfl := strD_flat s
    have hfil := List.length_filter_le noSp s
    refine Split_spec s (by omega) (hF.ext E3) fun a6 n6 c6 w5 hn6 ho6 e5 => ⟨_, _, _, _, rfl, ?_⟩
    rw [sp1]
    rw [sp2] at hn6 ho6
    have hn6' : n6 ≤ 40 := by rw [hn6]; unfold txs; rw [List.length_map]; omega
    have E5 := ext_trans E3 e5
    refine text15_spec _ fun w9 e9 => ⟨_, _, _, _, _, _, rfl, ?_⟩
    refine al_intro fun b14 w15 hb14 B14 e15 s15 => ?_
    have E15 := ext_trans E5 (ext_trans e9 e15)
    refine Tokens_spec (S := fun _ => True) (S2 := fun _ => True) ([], 0) (txF s) [] (one_small _ _ _) (hF.ext E15) (one_slf B14) smallR_nil (rules_none _ _) fun a18 n18 c18 w17 hn18 ho18 e17 => ⟨_, _, _, _, rfl, ?_⟩
    rw [st1]
    rw [st2] at hn18 ho18
    rw [List.length_map] at hn18
    have E17 := ext_trans E15 e17
    have hR18 := OwnL.out ho18
    have F17 := ext_trans (ext_trans e9 e15) e17
    have hR6 := (OwnL.out ho6).ext F17
    intro K20 hK20
    have k20 : ∀ v, Ext w17 v → K20 v := by
      intro w21 e21
      refine hK20 _ fun _ => ?_
      have E21 := ext_trans E17 e21
      refine Text15_spec _ (hM.ext E21) (fun x hx => (tx1 x hx).2.1) (by omega) (hR18.ext e21) (fun x hx _ => (tx1 x hx).2.2) fun w23 e23 => ⟨_, _, rfl, ?_⟩
      rw [tx2, tx3]
      have E23 := ext_trans E21 e23
      have hq := sq0_len s
      obtain ⟨u1, u2⟩ := split_ok (sq0_ok hc) (by omega : (sq0 s).length ≤ 40)
      refine Split_spec (sq0 s) (by omega) (hF.ext E23) fun a28 n28 c28 w27 hn28 ho28 e27 => ⟨_, _, _, _, rfl, ?_⟩
      rw [u1]
      rw [u2, txs_sq0 s false false false false] at ho28
      have E27 := ext_trans E23 e27
      have F27 := ext_trans e21 (ext_trans e23 e27)
      simp only [decide_true, br_t]
      refine EqStr_spec _ _ (OwnL.out ho28) (hR6.ext F27) (by unfold txs; rw [List.length_map]; omega) fun w31 e31 => ⟨_, rfl, ?_⟩
      rw [decide_eq_true rfl]
      simp only [br_t]
      have E31 := ext_trans E27 e31
      have hkd := mk_kd (checkC_mk.1 hc).2
      refine (Tryz.strings_Fields_laid ⟨⟨s⟩⟩ w31 (by show s.length < _; omega) (fun j b hb => kd_ascii (hkd b (List.mem_of_getElem? hb))) (tab_ext hT E31)).mono ?_
      rintro e w34 ⟨rfl, rfl⟩
      have hfd : Lib.join (Lib.fields s) [32] = sq0 s := (fields_sq s hkd).2.2
      refine ⟨_, _, _, rfl, ?_⟩
      have hfn : (Lib.fields s).length ≤ 1000000000 := by
        rw [Lib.fields_length]
        have := cntF_le s true
        omega
      have hB := Blk.new w31 ((Lib.fields s).map fun l => Value.string ⟨l.toArray⟩) 9
      have hrow : RowAt Sh.encStr (fun _ => True) (w31.alloc (.cells ((Lib.fields s).map fun l => Value.string ⟨l.toArray⟩).toArray 9)) (some ⟨w31.heap.size, 0, none⟩) (Lib.fields s).length (Lib.fields s) := by
        refine ⟨rfl, .inr ⟨w31.heap.size, 0, rfl, trivial, hB.lt, fun j v hj => ?_⟩⟩
        rw [Nat.zero_add]
        have hr : Sh.encStr.row (Lib.fields s) = (Lib.fields s).map fun l => Value.string ⟨l.toArray⟩ := by
          induction Lib.fields s with
          | nil => rfl
          | cons x r ih => rw [row_cons, ih]; rfl
        rw [hr] at hj
        rw [hB.cell]; exact hj
      have e34 : Ext w31 (w31.alloc (.cells ((Lib.fields s).map fun l => Value.string ⟨l.toArray⟩).toArray 9)) := (Below.refl _ w31).alloc (Nat.le_refl _) _
      refine JoinS_spec [32] hrow (Nat.le_refl _) hfn (by rw [hfd]; omega) fun w37 e37 => ⟨_, rfl, ?_⟩
      rw [hfd]
      simp only [decide_true, br_t]
      exact aw w37 (ext_trans E31 (ext_trans e34 e37))
    refine br_split (fun hh => absurd rfl hh) (fun _ => br_split (fun hh => absurd rfl hh) (fun _ => ?_))
    refine Words_spec _ hR18 (by omega) fun a44 c44 w43 ho44 e43 => ⟨_, _, _, rfl, ?_⟩
    rw [txs_nrm] at ho44
    refine EqStr_spec _ _ (OwnL.out ho44) (hR6.ext e43) (by unfold txs; rw [List.length_map]; omega) fun w46 e46 => ⟨_, rfl, ?_⟩
    rw [decide_eq_true rfl]
    simp only [Bool.not_true, br_f]
    have F46 := ext_trans e43 e46
    refine JoinS_spec [] (hR6.ext F46) (ownsT_le ho6) (by omega) (by rw [join_flat, hfl]; omega) fun w49 e49 => ⟨_, rfl, ?_⟩
    rw [join_flat, hfl]
    have F49 := ext_trans F46 e49
    have E49 := ext_trans E17 F49
    obtain ⟨⟨mx, hmx⟩, _, _⟩ := hM.ext E49
    refine (Tryz.strings_ReplaceAll ⟨⟨s⟩⟩ ⟨⟨[32]⟩⟩ ⟨⟨[]⟩⟩ mx w49 (by show s.length < _; omega) hmx (by show 1 ≤ 1; omega) (by show s.length + _ * 0 ≤ _; omega)).mono ?_
    rintro e w52 ⟨rfl, hbl⟩
    refine ⟨_, rfl, ?_⟩
    have hrr : (Lib.replaceAll s [32] []) = s.filter noSp := by rw [replaceAll_one, sp32]
    simp only [List.toList_toArray] at hrr ⊢
    rw [hrr]
    exact br_split (fun hh => absurd rfl hh) (fun _ => k20 w52 (ext_trans F49 hbl))
  refine br_split (fun _ => aw w (Below.refl _ _)) (fun g1 => br_split (fun _ => aw w (Below.refl _ _)) (fun g2 => ?_))
  refine Check_spec s fun w61 e61 => ⟨_, rfl, br_split (fun _ => aw w61 e61) (fun g3 => k2 (by omega) g2 (Decidable.not_not.1 g3) w61 e61)⟩
end
end Go.Proofs
