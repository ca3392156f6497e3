/- The contracts of the functions that the law reaches, one after the other, and at the end the law's card. -/
import Derived.Test.YtncjonkmhfdabaaGreatDoorLawD
import Derived.Deep.Slices
import Derived.Deep.DeepHandedRow
import Derived.Lib.SmallJoins
import Derived.SizedLaws
namespace Go.Proofs
open Go Go.Sh Go.RowKit
/- ReplaceAll of one byte by nothing -/
theorem index_one (c : UInt8) : ∀ s : List UInt8, Lib.index s [c] = Lib.indexByte s c
  | [] => rfl
  | b :: s => by
    rw [Lib.index, Lib.indexByte, index_one c s]
    have : [c].isPrefixOf (b :: s) = (b == c) := by
      rw [List.isPrefixOf]
      have hs : (c == b) = (b == c) := by
        rw [Bool.eq_iff_iff, beq_iff_eq, beq_iff_eq]
        exact eq_comm
      cases s <;> simp [List.isPrefixOf, hs]
    rw [this]
theorem index_cut (c : UInt8) : ∀ s : List UInt8, (Lib.indexByte s c = -1 ∧ c ∉ s) ∨ ∃ u v : List UInt8, Lib.indexByte s c = (u.length : Int) ∧ s = u ++ c :: v ∧ c ∉ u
  | [] => .inl ⟨rfl, by simp⟩
  | b :: s => by
    rw [Lib.indexByte]
    by_cases hb : b = c
    · subst hb
      exact .inr ⟨[], s, by simp, rfl, by simp⟩
    · rw [if_neg (by simpa using hb)]
      rcases index_cut c s with ⟨h1, h2⟩ | ⟨u, v, h1, h2, h3⟩
      · exact .inl ⟨by rw [h1]; rfl, by simp [h2, Ne.symm hb]⟩
      · refine .inr ⟨b :: u, v, ?_, by rw [h2]; rfl, by simp [h3, Ne.symm hb]⟩
        rw [h1, if_neg (by simp), List.length_cons]; omega
theorem noSp_none {s : List UInt8} (h : (32 : UInt8) ∉ s) : noSp s = s := List.filter_eq_self.2 fun c hc => by
  have : c ≠ 32 := fun e => h (e ▸ hc)
  simpa using this
theorem cnt_none {s : List UInt8} (h : (32 : UInt8) ∉ s) : cnt32 s = 0 := by
  unfold cnt32
  rw [List.filter_eq_nil_iff.2 fun c hc => by
    have : c ≠ 32 := fun e => h (e ▸ hc)
    simpa using this]; rfl
theorem noSp_cut {u v : List UInt8} (h : (32 : UInt8) ∉ u) : noSp (u ++ 32 :: v) = u ++ noSp v := by
  rw [noSp_app, noSp_none h]
  congr 1
theorem cnt_cut {u v : List UInt8} (h : (32 : UInt8) ∉ u) : cnt32 (u ++ 32 :: v) = 1 + cnt32 v := by
  rw [cnt_app, cnt_none h, Nat.zero_add]
  unfold cnt32
  rw [List.filter_cons, if_pos (by decide), List.length_cons]; omega
theorem replaceK_sp : ∀ (k : Nat) (s : List UInt8), cnt32 s ≤ k → Lib.replaceK [32] [] k s = noSp s
  | 0, s, h => by
    rw [Lib.replaceK]
    rcases index_cut 32 s with ⟨_, h2⟩ | ⟨u, v, _, h2, h3⟩
    · exact (noSp_none h2).symm
    · rw [h2, cnt_cut h3] at h; omega
  | k + 1, s, h => by
    rw [Lib.replaceK, index_one]
    rcases index_cut 32 s with ⟨h1, h2⟩ | ⟨u, v, h1, h2, h3⟩
    · rw [h1, if_pos (by decide)]
      exact (noSp_none h2).symm
    · rw [h1, if_neg (by simp), Int.toNat_natCast]
      have hd : s.drop (u.length + [(32 : UInt8)].length) = v := by
        rw [h2]
        show (u ++ 32 :: v).drop (u.length + 1) = v
        rw [List.drop_append]; simp
      have ht : s.take u.length = u := by rw [h2]; simp
      rw [hd, ht, List.append_nil, replaceK_sp k v (by rw [h2, cnt_cut h3] at h; omega), h2, noSp_cut h3]
theorem countFrom_sp : ∀ (f : Nat) (s : List UInt8), s.length < f → Lib.countFrom [32] f s = cnt32 s
  | 0, s, h => by omega
  | f + 1, s, h => by
    rw [Lib.countFrom, index_one]
    rcases index_cut 32 s with ⟨h1, h2⟩ | ⟨u, v, h1, h2, h3⟩
    · rw [h1, if_pos (by decide), cnt_none h2]
    · rw [h1, if_neg (by simp), Int.toNat_natCast]
      have hd : s.drop (u.length + [(32 : UInt8)].length) = v := by
        rw [h2]
        show (u ++ 32 :: v).drop (u.length + 1) = v
        rw [List.drop_append]; simp
      have hl : s.length = u.length + (v.length + 1) := by rw [h2]; simp
      rw [hd, countFrom_sp f v (by omega), h2, cnt_cut h3]
theorem count_sp (s : List UInt8) : Lib.count s [32] = cnt32 s := by
  unfold Lib.count
  exact countFrom_sp _ _ (by omega)
theorem replace_eq (s : List UInt8) : Lib.replaceAll s [32] [] = noSp s := by
  unfold Lib.replaceAll Lib.replace Lib.replaceNum
  rw [if_neg (by decide), if_pos (.inl (by decide)), count_sp]
  exact replaceK_sp _ s (Nat.le_refl _)
end Go.Proofs
namespace Go.Proofs
open Go Go.Sh Go.RowKit
/- words without spaces and = ; the shelf's functions of one byte, as the law calls them -/
section
variable {R : Ending → World → Prop} {w : World}
theorem Contains1_spec (s : List UInt8) (c : UInt8) (h : R (.returned (.bool (decide (c ∈ s)))) w) : Calls Tryz.prog F_strings_Contains ⟨[.string ⟨⟨s⟩⟩, .string ⟨⟨[c]⟩⟩]⟩ w R := by
  refine (Tryz.strings_Contains_one ⟨⟨s⟩⟩ c w).mono ?_
  rintro e w' ⟨rfl, rfl⟩
  rw [show decide (0 ≤ Lib.indexByte s c) = decide (c ∈ s) from contains_eq s c]
  exact h
theorem Count1_spec (s : List UInt8) (h : R (.returned (.int .i64 (cnt32 s))) w) : Calls Tryz.prog F_strings_Count ⟨[.string ⟨⟨s⟩⟩, .string ⟨⟨[32]⟩⟩]⟩ w R := by
  refine (Tryz.strings_Count_one ⟨⟨s⟩⟩ 32 w).mono ?_
  rintro e w' ⟨rfl, rfl⟩
  rw [show Lib.countByte s 32 = cnt32 s from count_eq s]
  exact h
theorem ReplaceAll_spec (s : List UInt8) (m : Int) (hm : w.cell? ⟨0, 0, none⟩ = some (.int .i64 m)) (hs : s.length ≤ 1000000) (h : ∀ w', Ext w w' → R (.returned (.string ⟨⟨noSp s⟩⟩)) w') : Calls Tryz.prog F_strings_ReplaceAll ⟨[.string ⟨⟨s⟩⟩, .string ⟨⟨[32]⟩⟩, .string ⟨⟨[]⟩⟩]⟩ w R := by
  refine (Tryz.strings_ReplaceAll ⟨⟨s⟩⟩ ⟨⟨[32]⟩⟩ ⟨⟨[]⟩⟩ m w (by show s.length < _; omega) hm (by decide) (by show s.length + _ * 0 ≤ _; omega)).mono ?_
  rintro e w' ⟨rfl, hb⟩
  rw [show Lib.replaceAll s [32] [] = noSp s from replace_eq s]
  exact h w' hb
def badC (x : Wd) : Bool := decide (32 ∈ x.t) || decide (61 ∈ x.t)
theorem badC_call {x : Wd} {V : World} {K : Ending → World → Prop} (h : ∀ V', Ext V V' → K (.returned (.bool (badC x))) V') : CallV Tryz.prog (.func (.func 7) #[] #[]) [.agg ⟨x.cs⟩] V K := by
  refine ⟨by kernel_rfl, ?_⟩
  apply c_apographtop_TopParagraphLeast_1
  refine al_intro fun b8 w9 hb8 B8 e8 s8 => ?_
  have := h w9 e8
  unfold badC at this
  refine ⟨_, bat B8 rfl, Contains1_spec _ _ ⟨_, rfl, br_cases (fun g => ?_) (fun g => ⟨_, bat B8 rfl, Contains1_spec _ _ ⟨_, rfl, ?_⟩⟩)⟩⟩
  · rw [g, Bool.true_or] at this; exact this
  · rw [g, Bool.false_or] at this; exact this
theorem badC_words {W0 : List Wd} (h : W0.any badC = false) : ∀ x ∈ W0, ∀ c ∈ x.t, c ≠ 32 ∧ c ≠ 61 := by
  intro x hx c hc
  have := List.any_eq_false.1 h x hx
  unfold badC at this
  simp only [Bool.or_eq_true, decide_eq_true_eq, not_or] at this
  exact ⟨fun e => this.1 (e ▸ hc), fun e => this.2 (e ▸ hc)⟩
end
end Go.Proofs
namespace Go.Proofs
open Go Go.Sh Go.RowKit
/- the items of words that are not divided; the example's -/
def awW : Wd := ⟨[97, 98, 99], 0, 0, 0, false, false, []⟩
def awSt : Sty := ⟨0, 0, 0, 0, 0, 10, 5, 3, 10, 0, 0, (none, 0, 0), (none, 0, 0)⟩
theorem aw_items : itemsF awSt true [awW, awW, awW] = [⟨1, 30, 0, 0, 0, [97, 98, 99]⟩, ⟨2, 10, 5, 3, 0, []⟩, ⟨1, 30, 0, 0, 0, [97, 98, 99]⟩, ⟨2, 10, 5, 3, 0, []⟩, ⟨1, 30, 0, 0, 0, [97, 98, 99]⟩] := by
  have h : clN [97, 98, 99] = 3 := by decide +kernel
  simp [itemsF, wdF, sepF, awW, awSt, h]
def awI : List It := [⟨1, 30, 0, 0, 0, [97, 98, 99]⟩, ⟨2, 10, 5, 3, 0, []⟩, ⟨1, 30, 0, 0, 0, [97, 98, 99]⟩, ⟨2, 10, 5, 3, 0, []⟩, ⟨1, 30, 0, 0, 0, [97, 98, 99]⟩]
theorem aw48_pot : potL awI 72 0 = 6 := by decide +kernel
theorem aw48_best : bestL awI 72 = [3, 5] := by decide +kernel
theorem aw48_its : Its awI := ⟨by decide, by unfold awI; decide +kernel, by decide +kernel⟩
end Go.Proofs
namespace Go.Proofs
open Go Go.Sh Go.RowKit
/- the example of the law -/
section
variable {R : Ending → World → Prop} {w : World}
theorem aw_zi : ZI awSt [] [awW, awW, awW] := ⟨rfl, by decide, by decide, by decide, by decide, by decide, by decide, by decide, by rw [aw_items]; exact aw48_its⟩
set_option maxRecDepth 20000 in
theorem top48Awake_spec (h : ∀ w', Ext w w' → R (.returned (.bool true)) w') : Calls Tryz.prog F_apographtop_top48Awake ⟨[]⟩ w R := by
  apply c_apographtop_top48Awake
  refine al_stL rfl (one_wd awW) fun b1 w2 hb1 B1 e1 s1 => ?_
  have B1 : Blk w2 b1 awW.cs 36 := B1
  refine ⟨_, bat B1 rfl, _, bat B1 rfl, _, bat B1 rfl, _, bat B1 rfl, _, bat B1 rfl, _, bat B1 rfl, _, bat B1 rfl, _, bat B1 rfl, _, bat B1 rfl, _, bat B1 rfl, _, bat B1 rfl, _, bat B1 rfl, _, bat B1 rfl, _, bat B1 rfl, _, bat B1 rfl, _, bat B1 rfl, _, bat B1 rfl, _, bat B1 rfl, _, bat B1 rfl, _, bat B1 rfl, _, bat B1 rfl, ?_⟩
  refine al_intro fun b25 w26 hb25 B25 e25 s25 => ?_
  have B25 : Blk w26 b25 (encWd.row [awW, awW, awW]) 36 := B25
  have hW : RowV vWd (fun k => k = b25) w26 (some ⟨b25, 0, none⟩) 3 [awW, awW, awW] := rowV_enc.2 (rowAt_b (E := encWd) B25)
  have hP : RowV (View.pair vS (View.sl vI)) (fun _ => False) w26 none 0 [] := RowV.nil none
  refine Items_spec (s := awSt) hP hW (by decide) fun e oa on oc l w28 e28 he hz => ⟨_, _, _, _, rfl, ?_⟩
  obtain ⟨he0, hl⟩ := hz aw_zi
  subst he0
  obtain ⟨_, _, _, _, hI, _, _, hrow⟩ := he rfl
  rw [aw_items] at hl
  have hl : l = awI := hl
  subst hl
  have hon := hrow.1
  have hon : on = 5 := hon
  refine pBreak_spec (width := 72) hrow ⟨aw48_its, by decide⟩ fun e2 v oa2 on2 oc2 w32 e32 _ hb => ⟨_, _, _, _, _, rfl, ?_⟩
  obtain ⟨he2, hv, hrow2⟩ := hb (by rw [aw48_pot]; decide)
  subst he2 hv
  rw [aw48_best] at hrow2
  refine br_pos (by decide) (br_pos (by decide) (br_pos (by omega) ?_))
  refine al_intro fun b36 w37 hb36 B36 e36 s36 => ?_
  have hq : RowV vI (fun _ => True) w37 (some ⟨b36, 0, none⟩) 2 [3, 5] := rowI_b (l := [3, 5]) B36 rfl
  have hon2 := hrow2.1
  refine EqualI_spec (hrow2.ext e36) hq (by rw [hon2]; decide) fun w39 e39 => ⟨_, rfl, ?_⟩
  rw [decide_eq_true (p := ofN [3, 5] = [3, 5]) (by decide), aw48_pot]
  exact h _ (ext_trans e1 (ext_trans e25 (ext_trans e28 (ext_trans e32 (ext_trans e36 e39)))))
end
end Go.Proofs
namespace Go.Proofs
open Go Go.Sh Go.RowKit
/- the lines of breaks: their texts, their least widths -/
def textLn : List Ln → List UInt8
  | [] => []
  | [x] => noSp x.tx
  | x :: y :: r => noSp (trimE x.tx) ++ textLn (y :: r)
theorem textLn_B (l : List It) (width : Int) : ∀ (b : List Nat) (f : Nat), textLn (lnsB l width f b) = textB l f b
  | [], _ => rfl
  | [k], f => rfl
  | k :: k2 :: r, f => by
    have := textLn_B l width (k2 :: r) (k + 1)
    show noSp (trimE (lineT l f k)) ++ textLn (lnsB l width (k + 1) (k2 :: r)) = _
    rw [this]; rfl
theorem lnsB_fit {l : List It} {width : Int} : ∀ {b : List Nat} {f : Nat} {x : Ln}, x ∈ lnsB l width f b → fitsB l width f b = true → ∃ f' k', x.tx = lineT l f' k' ∧ fitL l width f' k' = true
  | [], _, _, h, _ => by cases h
  | k :: r, f, x, h, hf => by
    rw [fitsB, Bool.and_eq_true] at hf
    rcases List.mem_cons.1 h with rfl | h
    · exact ⟨f, k, rfl, hf.1⟩
    · exact lnsB_fit h hf.2
theorem textLn_cons {x : Ln} {r : List Ln} : textLn (x :: r) = noSp (if r = [] then x.tx else trimE x.tx) ++ textLn r := by
  cases r with
  | nil => show noSp x.tx = noSp (if _ then _ else _) ++ []; rw [if_pos rfl, List.append_nil]
  | cons y r => show _ = noSp (if _ then _ else _) ++ _; rw [if_neg (by simp)]; rfl
theorem noSp_le (s : List UInt8) : (noSp s).length ≤ s.length := List.length_filter_le ..
theorem cnt_le (s : List UInt8) : cnt32 s ≤ s.length := List.length_filter_le ..
theorem lineT_len {l : List It} (hT : txB l) (hl : l.length ≤ 14) (f k : Nat) : (lineT l f k).length ≤ 100000 := by
  unfold lineT
  have h1 : txB (cutI l f k) := fun x hx => hT x (cut_mem x hx)
  have h2 := itT_len h1
  have h3 : (cutI l f k).length ≤ 14 := by
    unfold cutI
    rw [List.length_take, List.length_drop]; omega
  rw [List.length_append]
  have h4 : (if k < l.length ∧ (gIt l k).k = 3 then (gIt l k).tx else []).length ≤ 1000 := by
    split
    · rename_i h
      rw [gIt_at h.1]
      exact hT _ (List.getElem_mem h.1)
    · exact Nat.zero_le _
  omega
theorem textW_len {s : Sty} {W0 : List Wd} {l : List It} (h : SetOk s W0 l) : (textW W0).length ≤ 1000 := by
  rw [← h.itm.text]
  have : ∀ m : List It, (∀ x ∈ m, x.tx.length ≤ 20) → (m.flatMap boxT).length ≤ 20 * m.length := by
    intro m
    induction m with
    | nil => intro _; exact Nat.zero_le _
    | cons x r ih =>
      intro hx
      rw [List.flatMap_cons, List.length_append, List.length_cons]
      have := ih fun y hy => hx y (List.mem_cons_of_mem _ hy)
      have h1 : (boxT x).length ≤ 20 := by
        unfold boxT
        split
        · exact hx x List.mem_cons_self
        · exact Nat.zero_le _
      omega
  have := this l h.tx
  have := h.len
  omega
/- the width of a line with all the glue shrunk, as the law computes it -/
theorem least_num {s : Sty} {W0 : List Wd} {l : List It} (h : SetOk s W0 l) (hm : ∀ x ∈ l, MadeI clN s.le s.sp s.sh x) {width : Int} {tx : List UInt8} (ht : ∃ f' k', tx = lineT l f' k' ∧ fitL l width f' k' = true) (hle : s.sh ≤ s.sp) :
    IntKind.i64.wrap (IntKind.i64.wrap (s.le * (clN (noSp tx) : Int)) + IntKind.i64.wrap ((cnt32 tx : Int) * max 0 (IntKind.i64.wrap (s.sp - s.sh)))) ≤ width := by
  obtain ⟨f', k', rfl, hf⟩ := ht
  have h1 := line_least clN_app clN_nil clN_eq61 h.le.1 h.sh.1 hm hf
  have hT : txB l := fun x hx => Nat.le_trans (h.tx x hx) (by decide)
  have hlen := lineT_len hT h.len f' k'
  have a1 := clN_le (noSp (lineT l f' k'))
  have a2 := noSp_le (lineT l f' k')
  have a3 := cnt_le (lineT l f' k')
  have o1 := h.le; have o2 := h.sp; have o3 := h.sh
  have hb : 0 ≤ s.le * (clN (noSp (lineT l f' k')) : Int) ∧ s.le * (clN (noSp (lineT l f' k')) : Int) ≤ 1073741824 * 100000 := ⟨Int.mul_nonneg o1.1 (by omega), Int.mul_le_mul o1.2 (by omega) (by omega) (by omega)⟩
  have hc : 0 ≤ (cnt32 (lineT l f' k') : Int) * (s.sp - s.sh) ∧ (cnt32 (lineT l f' k') : Int) * (s.sp - s.sh) ≤ 100000 * 1073741824 := ⟨Int.mul_nonneg (by omega) (by omega), Int.mul_le_mul (by omega) (by omega) (by omega) (by omega)⟩
  rw [wrap_id (n := s.sp - s.sh) (by omega), show max 0 (s.sp - s.sh) = s.sp - s.sh by omega, wrap_id (n := s.le * (clN (noSp (lineT l f' k')) : Int)) (by omega), wrap_id (n := (cnt32 (lineT l f' k') : Int) * (s.sp - s.sh)) (by omega), wrap_id (by omega)]
  exact h1
end Go.Proofs
namespace Go.Proofs
open Go Go.Sh Go.RowKit
/- no other feasible breaks cost less than the best ones; the lines of the best ones -/
abbrev MaxC (w : World) : Prop := ∃ m, w.cell? ⟨0, 0, none⟩ = some (.int .i64 m)
theorem maxC_ext {w w' : World} (h : MaxC w) (he : Ext w w') : MaxC w' := by
  obtain ⟨m, h⟩ := h
  exact ⟨m, by rw [he.cell (World.block_lt_of_cell? w _ h)]; exact h⟩
section
variable {R : Ending → World → Prop} {S S2 : Nat → Prop} {w w0 V : World} {W0 : List Wd} {P : List (List UInt8 × List Int)}
theorem st_rd {b : Nat} {cs : List Value} {T : TypeId} {i j : Nat} {v : Int} (B : Blk w0 b cs T) (e : Ext w0 V) (hv : cs[i + j]? = some (.int .i64 v)) {K : Int → Prop} (h : K v) : ∃ x, V.cell? (((⟨b, 0, none⟩ : Addr).add i).add j) = some (.int .i64 x) ∧ K x :=
  ⟨_, bat2 (B.ext e) hv, h⟩
theorem st_rs {b : Nat} {cs : List Value} {T : TypeId} {i : Nat} {v : List UInt8} (B : Blk w0 b cs T) (e : Ext w0 V) (hv : cs[i]? = some (.string ⟨⟨v⟩⟩)) {K : List UInt8 → Prop} (h : K v) : ∃ x, V.cell? ((⟨b, 0, none⟩ : Addr).add i) = some (.string ⟨⟨x⟩⟩) ∧ K x :=
  ⟨_, bat (B.ext e) hv, h⟩
theorem st_rep {t : List UInt8} (hM : MaxC w0) (e : Ext w0 V) (ht : t.length ≤ 1000000) {K : List UInt8 → World → Prop} (h : ∀ V', Ext w0 V' → K (noSp t) V') : Calls Tryz.prog F_strings_ReplaceAll ⟨[.string ⟨⟨t⟩⟩, .string ⟨⟨[32]⟩⟩, .string ⟨⟨[]⟩⟩]⟩ V fun e1 V' => ∃ x, e1 = .returned (.string ⟨⟨x⟩⟩) ∧ K x V' := by
  obtain ⟨m, hm⟩ := maxC_ext hM e
  exact ReplaceAll_spec t m hm ht fun V' e' => ⟨_, rfl, h V' (ext_trans e e')⟩
theorem st_clu {t : List UInt8} (e : Ext w0 V) (ht : t.length ≤ 1000000) {K : Option Addr → Nat → Nat → World → Prop} (h : ∀ oa oc V', Ext w0 V' → K oa (clN t) oc V') : Calls Tryz.prog F_charset_Clusters ⟨[.string ⟨⟨t⟩⟩]⟩ V fun e1 V' => ∃ oa on oc, e1 = .returned (.slice oa on oc) ∧ K oa on oc V' := by
  refine Clusters_spec t ht fun oa on oc V' e' _ hr => ⟨_, _, _, rfl, ?_⟩
  have hn : on = clN t := hr.1
  subst hn
  exact h oa oc V' (ext_trans e e')
theorem st_cnt {t : List UInt8} (e : Ext w0 V) {K : Int → World → Prop} (h : ∀ V', Ext w0 V' → K (cnt32 t) V') : Calls Tryz.prog F_strings_Count ⟨[.string ⟨⟨t⟩⟩, .string ⟨⟨[32]⟩⟩]⟩ V fun e1 V' => ∃ x, e1 = .returned (.int .i64 x) ∧ K x V' :=
  Count1_spec t ⟨_, rfl, h V e⟩
set_option maxHeartbeats 4000000 in
set_option maxRecDepth 20000 in
theorem TopParagraphLeast_spec {s : Sty} {p q : Slv} {width bits : Int} (hP : RowV (View.pair vS (View.sl vI)) S w p.1 p.2.1 P) (hW : RowV vWd S2 w q.1 q.2.1 W0) (hs1 : p.2.1 ≤ 4611686018427387904) (hs2 : q.2.1 ≤ 4611686018427387904) (hM : MaxC w)
    (h : ∀ w', Ext w w' → R (.returned (.bool true)) w') : Calls Tryz.prog F_apographtop_TopParagraphLeast ⟨[.agg ⟨setC s p q⟩, .int .i64 width, .int .u16 bits]⟩ w R := by
  apply c_apographtop_TopParagraphLeast
  refine al_intro fun b18 w19 hb18 B18 e19 s19 => ?_
  have B18 : Blk w19 b18 (setC s p q) 29 := B18
  have aw : ∀ V, Ext w V → Calls Tryz.prog 9 ⟨[]⟩ V fun (e : Ending) (w' : World) => ∃ (x : Bool), e = .returned (.bool x) ∧ (R (.returned (.bool x)) w') := fun V eV => top48Awake_spec fun w' e' => ⟨_, rfl, h w' (ext_trans eV e')⟩
  refine ⟨_, bat B18 rfl, _, bat B18 rfl, _, bat B18 rfl, _, bat B18 rfl, _, bat B18 rfl, _, bat B18 rfl, _, bat B18 rfl, _, bat B18 rfl, _, bat B18 rfl, _, bat B18 rfl, _, bat B18 rfl, _, _, _, bat B18 rfl, _, _, _, bat B18 rfl, _, _, _, bat B18 rfl, _, _, _, bat B18 rfl, ?_⟩
  refine top48Items_spec (s := s) (p := p) (q := q) (hP.ext e19) (hW.ext e19) hs1 hs2 fun ok oa on oc l w36 e36 hok => ⟨_, _, _, _, rfl, ?_⟩
  have e036 := ext_trans e19 e36
  have B36 := B18.ext e36
  intro K39 hK39
  have k39 : ok = true → okN width → W0.any badC = false → ∀ V, Ext w36 V → K39 V := by
    intro hokt hwd hbc V eV
    obtain ⟨hS, hcap, hrow⟩ := hok hokt
    have hon := hrow.1
    have hI := hS.its
    have hlen := hS.len
    have hT : txB l := fun x hx => Nat.le_trans (hS.tx x hx) (by decide)
    have hcW : chkW l width := ⟨hI, hwd⟩
    have hmade := made_of hS.itm (badC_words hbc)
    have hrow := hrow.ext eV
    have e0V := ext_trans e036 eV
    have BV := B36.ext eV
    refine hK39 V fun _ => ?_
    refine ⟨fun oa2 on2 oc2 i W m => ∃ (k : Nat) (O : List Int), i = k ∧ k ≤ on ∧ m = on - k ∧ on2 ≤ k ∧ OwnL Sh.encI W V.heap.size 3 oa2 on2 oc2 O ∧ Ext V W, ⟨_, 0, [], rfl, Nat.zero_le _, rfl, Nat.le_refl _, Owns.nil V V.heap.size 3 1, Below.refl _ _⟩, ?_⟩
    rintro oa2 on2 oc2 _ W m ⟨k, O, rfl, hk, rfl, hon2, hO, eW⟩ _
    have zW := eW.size
    refine br_split (fun hlt => ⟨by omega, br_cases (fun _ => ?_) (fun _ => ⟨on - (k + 1), by omega, k + 1, O, by rw [wrap_nat (by omega)], by omega, rfl, by omega, hO, eW⟩)⟩) (fun hge => ?_)
    · refine OwnL.push (E := Sh.encI) slT_i hO zW (k : Int) (by omega) (by omega) fun a' c' w' ho hc hn => ?_
      exact ⟨on - (k + 1), by omega, k + 1, _, by rw [wrap_nat (by omega)], by omega, rfl, by omega, ho, ext_own eW hc fun j hj => (Owns.bk hO hj).1⟩
    refine OwnL.push (E := Sh.encI) slT_i hO zW (on : Int) (by omega) (by omega) fun a' c' w56 ho hc hn => ?_
    have eV56 : Ext V w56 := ext_own eW hc fun j hj => (Owns.bk hO hj).1
    have hrowB : RowV vI (fun k => bk a' k) w56 a' (on2 + 1) (O ++ [(on : Int)]) := rowV_enc.2 (OwnL.out ho)
    refine Cost_spec (hrow.ext eV56) hcap hT hrowB (by omega) fun ce cv w58 e58 hce hcv => ⟨_, _, rfl, ?_⟩
    have eV58 := ext_trans eV56 e58
    refine pBreak_spec (hrow.ext eV58) hcW fun be bv boa bon boc w62 e62 hbad hgood => ⟨_, _, _, _, _, rfl, ?_⟩
    have eV62 := ext_trans eV58 e62
    have e062 := ext_trans e0V eV62
    have hcost : ce = 0 → 0 ≤ potL l width 0 ∧ potL l width 0 ≤ cv := fun hc0 => by
      obtain ⟨_, b, hB, hg⟩ := hce.1 hc0
      rw [hcv b hc0 hB]
      exact least_of (its_pen hI) hg.brok hg.fits
    refine br_split (fun hbe => ?_) (fun hbe => ?_)
    · refine br_pos (fun hc0 => hbe (hgood (hcost hc0).1).1) (aw _ e062)
    have hp : 0 ≤ potL l width 0 := Decidable.not_not.1 fun g => hbe (Decidable.not_not.1 fun _ => hbad (by omega) (Decidable.not_not.1 hbe))
    obtain ⟨_, hbv, hrowb⟩ := hgood hp
    obtain ⟨hgd, _, hbrk⟩ := bestL_good hI hp
    have hbn := hrowb.1
    have hbl : (bestL l width).length ≤ l.length + 1 := by
      rcases upB_len hgd.brok.up with g | g
      · omega
      · rw [g]; exact Nat.zero_le _
    rw [ofN_len] at hbn
    refine Lines_spec (hrow.ext eV62) hcap hT hrowb (by omega) fun le la ln lc w70 e70 hle hlr => ⟨_, _, _, _, rfl, ?_⟩
    have hle0 : le = 0 := hle.2 ⟨hcW, _, rfl, hgd⟩
    subst hle0
    have hrl := hlr _ rfl rfl
    have eV70 := ext_trans eV62 e70
    refine Potentials_spec (hrow.ext eV70) hcW fun bo w74 e74 _ Bo => ⟨_, _, _, _, rfl, ?_⟩
    have eV74 := ext_trans eV70 e74
    have e074 := ext_trans e0V eV74
    intro K77 hK77
    have k77 : ∀ U, Ext w74 U → K77 U := by
      intro U eU
      have e0U := ext_trans e074 eU
      have BU := BV.ext (ext_trans eV74 eU)
      have hrl := hrl.ext (ext_trans e74 eU)
      have hln := hrl.1
      rw [lnsB_len] at hln
      have htot : textLn (lnsB l width 0 (bestL l width)) = textW W0 := by
        rw [textLn_B, text_all hmade hgd.brok.ne hbrk, List.drop_zero, hS.itm.text]
      have htl := textW_len hS
      have hMU := maxC_ext hM e0U
      refine hK77 U fun _ => ?_
      refine ⟨fun text i W m => ∃ k : Nat, i = k ∧ k ≤ ln ∧ m = ln - k ∧ text ++ textLn ((lnsB l width 0 (bestL l width)).drop k) = textW W0 ∧ Ext U W, ⟨_, 0, rfl, Nat.zero_le _, rfl, htot, Below.refl _ _⟩, ?_⟩
      rintro text _ W2 m ⟨k, rfl, hk, rfl, htx, eW2⟩ _
      refine br_split (fun hlt => ?_) (fun hge => ?_)
      · have hkl : k < (lnsB l width 0 (bestL l width)).length := by rw [lnsB_len]; omega
        obtain ⟨b', o', us, hpp, _, _, hus, hd⟩ := (hrl.ext eW2).get (List.getElem?_eq_getElem hkl)
        have hus : us = ((lnsB l width 0 (bestL l width))[k]).cs := hus
        have hfit := lnsB_fit (List.getElem_mem hkl) hgd.fits
        have hlast : (lnsB l width 0 (bestL l width)).drop (k + 1) = [] ↔ ¬ k + 1 < ln := by
          rw [List.drop_eq_nil_iff, lnsB_len]; omega
        rw [List.drop_eq_getElem_cons hkl, textLn_cons] at htx
        generalize (lnsB l width 0 (bestL l width))[k] = x at *
        generalize hrest : (lnsB l width 0 (bestL l width)).drop (k + 1) = rest at *
        subst hus
        have hxl : x.tx.length ≤ 100000 := by
          obtain ⟨f', k', e, _⟩ := hfit
          rw [e]; exact lineT_len hT hlen f' k'
        have hnl : (noSp x.tx).length ≤ 1000000 := by have := noSp_le x.tx; omega
        refine hpp _ ⟨_, by rw [add_none]; exact hd 0 _ rfl, _, by rw [add_none]; exact hd 1 _ rfl, _, by rw [add_none]; exact hd 2 _ rfl, _, by rw [add_none]; exact hd 3 _ rfl, _, by rw [add_none]; exact hd 4 _ rfl, ?_⟩
        refine al_stL rfl (one_ln x) fun b91 w93 hb91 B91 e93 s93 => ?_
        have B91 : Blk w93 b91 x.cs 53 := B91
        have eU93 := ext_trans eW2 e93
        intro K94 hK94
        have k94 : ∀ V', Ext w93 V' → K94 (IntKind.i64.wrap (IntKind.i64.wrap (s.le * (clN (noSp x.tx) : Int)) + IntKind.i64.wrap ((cnt32 x.tx : Int) * max 0 (IntKind.i64.wrap (s.sp - s.sh))))) V' := by
          intro V' eV'
          have eU' := ext_trans eU93 eV'
          refine hK94 _ _ fun _ => ?_
          intro K97 hK97
          have k97 : K97 V' := by
            refine hK97 V' fun _ => ⟨_, bat (B91.ext eV') rfl, ?_⟩
            intro K100 hK100
            have k100 : ∀ t : List UInt8, t = (if rest = [] then x.tx else trimE x.tx) → t.length ≤ 1000000 → K100 t V' := by
              rintro t rfl htl1
              obtain ⟨mm, hmm⟩ := maxC_ext hMU eU'
              refine hK100 _ V' fun _ => ReplaceAll_spec _ mm hmm htl1 fun w104 e104 => ⟨_, rfl, ?_⟩
              have h1 := congrArg List.length htx
              rw [List.length_append, List.length_append] at h1
              refine ⟨by omega, ln - (k + 1), by omega, k + 1, by rw [wrap_nat (by omega)], by omega, rfl, ?_, ext_trans eU' e104⟩
              rw [List.append_assoc, hrest]
              exact htx
            rw [wrap_id (by omega)]
            refine br_split (fun g => ?_) (fun g => k100 _ (by rw [if_pos (hlast.2 (by omega))]) (by omega))
            refine TrimSuffix_spec _ _ (by omega) ⟨_, rfl, ?_⟩
            rw [trim_eq]
            refine k100 _ (by rw [if_neg fun e => by have := hlast.1 e; omega]) ?_
            have : (trimE x.tx).length ≤ x.tx.length := by
              unfold trimE
              split
              · rw [List.length_dropLast]; omega
              · exact Nat.le_refl _
            omega
          refine br_split (fun gl => ⟨_, bat2 (BU.ext eU') rfl, _, bat2 (BU.ext eU') rfl, br_split (fun gle => ?_) (fun _ => k97)⟩) (fun _ => k97)
          have := least_num hS hmade hfit gle
          omega
        clear hK94
        unfold drw
        have ed := ext_drew w93
        have BS := BU.ext (ext_trans eU93 ed)
        have BT := B91.ext ed
        have hM1 := maxC_ext hMU (ext_trans eU93 ed)
        have k94' : ∀ V', Ext w93.drew V' → K94 (IntKind.i64.wrap (IntKind.i64.wrap (s.le * (clN (noSp x.tx) : Int)) + IntKind.i64.wrap ((cnt32 x.tx : Int) * max 0 (IntKind.i64.wrap (s.sp - s.sh))))) V' := fun V' e' => k94 V' (ext_trans ed e')
        clear k94
        have e00 : Ext w93.drew w93.drew := Below.refl _ _
        generalize w93.drew = w113 at *
        have hx1 : x.tx.length ≤ 1000000 := by omega
        clear hd hpp htx hlast hfit hkl ed hrest
        repeat' first
          | exact trivial
          | with_reducible exact k94' _ (by assumption)
          | with_reducible refine And.intro ?_ ?_
          | with_reducible refine st_rs BT (by assumption) rfl ?_
          | with_reducible refine st_rd BS (by assumption) rfl ?_
          | with_reducible refine st_rep hM1 (by assumption) hx1 fun V' eV' => ?_
          | with_reducible refine st_clu (by assumption) hnl fun oa oc V' eV' => ?_
          | with_reducible refine st_cnt (by assumption) fun V' eV' => ?_
      · rw [List.drop_of_length_le (by rw [lnsB_len]; omega)] at htx
        have htx : text = textW W0 := by
          rw [← htx]; show text = text ++ []; rw [List.append_nil]
        have eUW := eW2
        refine ⟨_, _, _, bat (BU.ext eW2) rfl, ?_⟩
        have hW2 := hW.ext (ext_trans e0U eW2)
        have hqn := hW2.1
        refine ⟨fun want i W m => ∃ k : Nat, i = k ∧ k ≤ q.2.1 ∧ m = q.2.1 - k ∧ want = textW (W0.take k) ∧ Ext W2 W, ⟨_, 0, rfl, Nat.zero_le _, rfl, rfl, Below.refl _ _⟩, ?_⟩
        rintro want _ W3 m ⟨k, rfl, hk, rfl, rfl, eW3⟩ _
        refine br_split (fun hlt => ?_) (fun hge => ?_)
        · have hkW : k < W0.length := by omega
          obtain ⟨p', hp', hd⟩ := rowV_wd (hW2.ext eW3) hkW
          have hsp : textW W0 = textW (W0.take k) ++ (W0[k].t ++ textW (W0.drop (k + 1))) := by
            conv => lhs; rw [← List.take_append_drop k W0]
            rw [List.drop_eq_getElem_cons hkW]
            unfold textW
            rw [List.map_append, List.flatten_append, List.map_cons, List.flatten_cons]
          have hl := congrArg List.length hsp
          rw [List.length_append, List.length_append] at hl
          refine hp' _ ⟨_, hd 0 _ rfl, _, hd 1 _ rfl, _, hd 2 _ rfl, _, hd 3 _ rfl, _, hd 4 _ rfl, _, hd 5 _ rfl, _, hd 6 _ rfl, ?_⟩
          refine al_stL rfl (one_wd W0[k]) fun b1 w1 hb1 B1 e1 s1 => ?_
          have B1 : Blk w1 b1 W0[k].cs 36 := B1
          refine ⟨_, bat B1 rfl, by omega, q.2.1 - (k + 1), by omega, k + 1, by rw [wrap_nat (by omega)], by omega, rfl, ?_, ext_trans eW3 e1⟩
          rw [List.take_succ_eq_append_getElem hkW]
          unfold textW
          rw [List.map_append, List.flatten_append]; simp
        · rw [List.take_of_length_le (by omega)]
          exact br_pos htx (aw _ (ext_trans e0U (ext_trans eW2 eW3)))
    have ver : Calls Tryz.prog 14 ⟨[.slice oa on oc, .int .i64 width, .slice boa bon boc, .slice (some ⟨bo, 0, none⟩) (l.length + 1) (l.length + 1)]⟩ w74 fun (e1368 : Ending) (w1369 : World) => ∃ (x1370 : Int), e1368 = .returned (.int .i64 x1370) ∧ (br (decide ((x1370 : Int) ≠ 0)) (R (.returned (.bool false)) w1369) (K77 w1369)) :=
      Verify_spec (hrow.ext eV74) hcap hT hcW hp (hrowb.ext (ext_trans e70 e74)) (by omega) Bo fun w' e' => ⟨_, rfl, br_neg (by decide) (k77 w' e')⟩
    exact br_split (fun hc0 => br_neg (by have := (hcost hc0).2; omega) (br_neg (by decide) (br_neg (by decide) ver))) (fun _ => br_neg (by decide) (br_neg (by decide) ver))
  refine br_cases (fun _ => aw _ e036) (fun g => ?_)
  have hokt : ok = true := by
    cases ok with
    | true => rfl
    | false => cases g
  refine br_split (fun _ => aw _ e036) (fun g1 => br_split (fun _ => aw _ e036) (fun g2 => ?_))
  refine ⟨_, _, _, bat B36 rfl, ?_⟩
  exact ContainsW_spec (q := badC) (hW.ext e036) hs2 (fun x _ V K hK => badC_call hK) fun w4 e4 => ⟨_, rfl, br_cases (fun _ => aw _ (ext_trans e036 e4)) (fun g3 => k39 hokt ⟨by omega, by omega⟩ g3 _ e4)⟩
end
end Go.Proofs
namespace Go.Sh
open Go Go.RowKit Go.ChangeShapes
/- slices as arguments, of whatever elements: what a row says of them, as a view; with the bound on their lengths -/
section
variable {H : Type} {enc : TypeId × Value → H} {P : Program} {w : World} {base : Nat} {sp : Nat → Bool} {hd : Bool} {α : Type}
theorem weightsAll_memG {e : TypeId} : ∀ {ds : List (DataW H)} {d : DataW H} {m : Nat}, d ∈ ds → m ∈ d.weights P e → m ∈ DataW.weightsAll P e ds
  | d0 :: ds, d, m, hd, hm => by
    rw [DataW.weightsAll, List.mem_append]
    rcases List.mem_cons.1 hd with rfl | hd
    · exact .inl hm
    · exact .inr (weightsAll_memG hd hm)
theorem rowV_build {V : View α} {Q : α → Prop} {a : Addr} {len : Nat} (hel : ∀ i, i < len → ∃ (x : α) (us : List Value), Q x ∧ V.C (fun _ => True) w x us ∧ ∀ j v, us[j]? = some v → w.cell? ((a.add (i * V.size)).add j) = some v) :
    ∃ L : List α, RowV V (fun _ => True) w (some a) len L ∧ ∀ x ∈ L, Q x := by
  by_cases hl0 : len = 0
  · subst hl0; exact ⟨[], RowV.nil _, fun x hx => by cases hx⟩
  obtain ⟨b, o, rfl⟩ : ∃ b o, a = ⟨b, o, none⟩ := by
    obtain ⟨x, us, _, hC, hx⟩ := hel 0 (by omega)
    have hp := V.pos
    have hl := V.len hC
    have h0 := hx 0 _ (List.getElem?_eq_getElem (by omega))
    obtain ⟨b, o, spot⟩ := a
    have hspot : spot = none := by simpa [Addr.add] using World.cell?_spot h0
    subst hspot
    exact ⟨b, o, rfl⟩
  have build : ∀ k, k ≤ len → ∃ (L : List α) (us : List Value), L.length = k ∧ us.length = k * V.size ∧ AllV V (fun _ => True) w L us ∧ (∀ x ∈ L, Q x) ∧ ∀ j v, us[j]? = some v → w.cell? ((⟨b, o, none⟩ : Addr).add j) = some v := by
    intro k
    induction k with
    | zero => exact fun _ => ⟨[], [], rfl, by simp, rfl, fun x hx => (by cases hx), fun j v hj => (by simp at hj)⟩
    | succ k ihk =>
      intro hk
      obtain ⟨L, us, hL, hul, hC, hQ, hus⟩ := ihk (by omega)
      obtain ⟨x, vs, hq, hV, hx⟩ := hel k (by omega)
      refine ⟨L ++ [x], us ++ vs, by simp [hL], by rw [List.length_append, hul, V.len hV, Nat.succ_mul], hC.app (AllV.single hV), fun y hy => ?_, fun j v hj => ?_⟩
      · rw [List.mem_append, List.mem_singleton] at hy
        rcases hy with hy | rfl
        · exact hQ y hy
        · exact hq
      · by_cases hlt : j < us.length
        · rw [List.getElem?_append_left hlt] at hj; exact hus j v hj
        · rw [List.getElem?_append_right (by omega)] at hj
          have := hx _ _ hj
          rw [add_none, add_none] at this
          rw [add_none, ← this]
          congr 2; omega
  obtain ⟨L, us, hL, hul, hC, hQ, hus⟩ := build len (Nat.le_refl _)
  have hlt : b < w.heap.size := by
    obtain ⟨x, vs, _, hV, hx⟩ := hel 0 (by omega)
    have hp := V.pos
    have hl := V.len hV
    have h0 := hx 0 _ (List.getElem?_eq_getElem (by omega))
    have := World.block_lt_of_cell? w _ h0
    simpa [Addr.add] using this
  exact ⟨L, ⟨hL.symm, us, .inr ⟨b, o, rfl, trivial, hlt, fun j v hj => by have := hus j v hj; rwa [add_none] at this⟩, hC⟩, hQ⟩
theorem open_slV {V : View α} {Q : α → Prop} {t e : TypeId} (ht : P.underlying t = some (.slice e)) (hc : P.cellsOf e = V.size) (hb : 0 < P.bytesOf e)
    (hel : ∀ n cs y, (∀ m ∈ y.1.weights P e, m ≤ reachBytes) → cs.length = P.cellsOf e → DataW.trod enc P w base sp hd n e cs = some y → ∃ x, Q x ∧ V.C (fun _ => True) w x cs)
    (fuel : Nat) (cs : List Value) (x : DataW H × List MemPlace) (hz : ∀ m ∈ x.1.weights P t, m ≤ reachBytes) (h : DataW.trod enc P w base sp hd fuel t cs = some x) :
    ∃ (a : Option Addr) (n c : Nat) (L : List α), cs = [.slice a n c] ∧ n ≤ c ∧ RowV V (fun _ => True) w a n L ∧ L.length ≤ 140737488355328 ∧ ∀ x ∈ L, Q x := by
  rcases DataW.trod_slice ht h with ⟨rfl, _⟩ | ⟨a, len, cap, elems, rest, n, rfl, rfl, hx, hb', hl, hm, hel', hall, _⟩
  · exact ⟨none, 0, 0, [], rfl, Nat.le_refl _, RowV.nil _, by simp, fun x hx => by cases hx⟩
  have hr : reachBytes = 140737488351232 := rfl
  have hw : x.1.weights P t = (elems.length + rest.length) * P.bytesOf e :: (DataW.weightsAll P e (elems.map (·.1)) ++ DataW.weightsAll P e (rest.map (·.1))) := by
    rw [hx]
    simp only [DataW.weights, ht, List.length_map]
  rw [hw] at hz
  have hlen : len ≤ 140737488355328 := by
    have h1 := hz _ List.mem_cons_self
    have h2 : (elems.length + rest.length) * 1 ≤ (elems.length + rest.length) * P.bytesOf e := Nat.mul_le_mul (Nat.le_refl _) hb
    omega
  obtain ⟨L, hL, hq⟩ := rowV_build (V := V) (Q := Q) (w := w) (a := a) (len := len) fun i hi => by
    have hh := hall i hi
    have hei : elems[i]? = some (elems[i]'(by omega)) := List.getElem?_eq_getElem (by omega)
    rw [hei] at hh
    obtain ⟨cs', hc1, hc2⟩ := Option.bind_eq_some_iff.1 hh
    obtain ⟨_, hlen', hcell⟩ := World.cells?_some hc1
    have hwe : ∀ q ∈ (elems[i]'(by omega)).1.weights P e, q ≤ reachBytes := fun q hq => hz q (List.mem_cons_of_mem _ (List.mem_append_left _ (weightsAll_memG (List.mem_map_of_mem (List.getElem_mem (by omega))) hq)))
    obtain ⟨y, hy1, hy2⟩ := hel n cs' _ hwe hlen' hc2
    refine ⟨y, cs', hy1, hy2, fun j v hj => ?_⟩
    have hjl : j < cs'.length := (List.getElem?_eq_some_iff.1 hj).1
    rw [← hc, hcell j (by omega)]; exact hj
  exact ⟨some a, len, cap, L, rfl, hl, hL, by have := hL.1; omega, hq⟩
/- elements -/
theorem el_int {e : TypeId} (he : P.underlying e = some (.int .i64)) : ∀ (n : Nat) (cs : List Value) (y : DataW H × List MemPlace), (∀ m ∈ y.1.weights P e, m ≤ reachBytes) → cs.length = P.cellsOf e → DataW.trod enc P w base sp hd n e cs = some y → ∃ x : Int, (-9223372036854775808 ≤ x ∧ x ≤ 9223372036854775807) ∧ vI.C (fun _ => True) w x cs := by
  intro n cs y _ _ h
  obtain ⟨k, e0, _, wf⟩ := DataW.trod_int he h
  refine ⟨k, ?_, e0⟩
  simp [Lit.wf, IntKind.min, IntKind.max, IntKind.signed, IntKind.bits] at wf
  omega
theorem el_sl {V : View α} {Q : α → Prop} {t e : TypeId} (ht : P.underlying t = some (.slice e)) (hc : P.cellsOf e = V.size) (hb : 0 < P.bytesOf e)
    (hel : ∀ n cs y, (∀ m ∈ y.1.weights P e, m ≤ reachBytes) → cs.length = P.cellsOf e → DataW.trod enc P w base sp hd n e cs = some y → ∃ x, Q x ∧ V.C (fun _ => True) w x cs) :
    ∀ (n : Nat) (cs : List Value) (y : DataW H × List MemPlace), (∀ m ∈ y.1.weights P t, m ≤ reachBytes) → cs.length = P.cellsOf t → DataW.trod enc P w base sp hd n t cs = some y → ∃ x : List α, (x.length ≤ 140737488355328 ∧ ∀ z ∈ x, Q z) ∧ (View.sl V).C (fun _ => True) w x cs := by
  intro n cs y hz _ h
  obtain ⟨a, m, c, L, e0, hmc, hL, hl, hq⟩ := open_slV ht hc hb hel n cs y hz h
  obtain rfl : m = L.length := hL.1
  exact ⟨L, ⟨hl, hq⟩, a, c, e0, hmc, hL⟩
end
end Go.Sh
