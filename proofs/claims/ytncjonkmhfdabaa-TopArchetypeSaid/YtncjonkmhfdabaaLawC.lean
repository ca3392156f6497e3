/- The contracts of the functions that the law reaches, one after the other, and at the end the law's card. -/
import Derived.Test.YtncjonkmhfdabaaLawB
import Derived.Carry
import Derived.ChangeSame
import Derived.RowKit
import Derived.OpenShut
import Derived.Deep.Slices
import Derived.Deep.DeepHandedRow
import Derived.Lib.SmallJoins
import Derived.SizedLaws
import Derived.Test.YtncjonkmhfdabaaRows
import Derived.Lib.LaidTab
import Derived.WalkKit
import Derived.ProofKit
import Derived.ChangeMaps5
namespace Go.Proofs
open Go Go.Sh Go.RowKit
/- the assignments as archetype goes through them: the unknown states are written over and over -/
def chL (vals : List Int) : List Int → List Nat → List (List Int)
  | all, [] => [all]
  | all, i :: us => vals.flatMap fun x => chL vals (all.set i x) us
theorem gI_out {M : List Int} {i : Nat} (h : M.length ≤ i) : gI M i = 0 := by
  unfold gI; rw [List.getD_eq_getElem?_getD, List.getElem?_eq_none h]; rfl
theorem gI_ext {a b : List Int} (hl : a.length = b.length) (h : ∀ j, gI a j = gI b j) : a = b := by
  refine List.ext_getElem hl fun j h1 h2 => ?_
  have := h j
  rwa [gI_at h1, gI_at h2] at this
theorem chL_congr {vals : List Int} : ∀ {us : List Nat} {a b : List Int}, a.length = b.length → (∀ i ∈ us, i < a.length) → (∀ j, j ∉ us → gI a j = gI b j) → chL vals a us = chL vals b us
  | [], a, b, hl, _, h => by
    rw [chL, chL, gI_ext hl fun j => h j (by simp)]
  | i :: us, a, b, hl, hb, h => by
    rw [chL, chL]
    congr 1
    funext x
    have hi := hb i (List.mem_cons_self ..)
    refine chL_congr (by simpa using hl) (fun j hj => by simpa using hb j (List.mem_cons_of_mem _ hj)) fun j hj => ?_
    rw [gI_set hi, gI_set (hl ▸ hi)]
    by_cases e : j = i
    · rw [if_pos e, if_pos e]
    · rw [if_neg e, if_neg e]
      exact h j (by rw [List.mem_cons]; rintro (h1 | h1); exact e h1; exact hj h1)
theorem mem_chL {vals : List Int} : ∀ {us : List Nat} {all l : List Int}, (∀ i ∈ us, i < all.length) → (l ∈ chL vals all us ↔ l.length = all.length ∧ (∀ j, j ∉ us → gI l j = gI all j) ∧ ∀ j ∈ us, gI l j ∈ vals)
  | [], all, l, _ => by
    rw [chL, List.mem_singleton]
    constructor
    · rintro rfl; exact ⟨rfl, fun _ _ => rfl, fun j hj => by cases hj⟩
    · rintro ⟨h1, h2, _⟩; exact gI_ext h1 fun j => h2 j (by simp)
  | i :: us, all, l, hb => by
    rw [chL, List.mem_flatMap]
    have hi := hb i (List.mem_cons_self ..)
    have hb' : ∀ x : Int, ∀ j ∈ us, j < (all.set i x).length := fun x j hj => by simpa using hb j (List.mem_cons_of_mem _ hj)
    constructor
    · rintro ⟨x, hx, hl⟩
      obtain ⟨h1, h2, h3⟩ := (mem_chL (hb' x)).1 hl
      refine ⟨by simpa using h1, fun j hj => ?_, fun j hj => ?_⟩
      · rw [List.mem_cons, not_or] at hj
        rw [h2 j hj.2, gI_set hi, if_neg hj.1]
      · by_cases hju : j ∈ us
        · exact h3 j hju
        · have : j = i := (List.mem_cons.1 hj).resolve_right hju
          rw [h2 j hju, gI_set hi, if_pos this]; exact hx
    · rintro ⟨h1, h2, h3⟩
      refine ⟨gI l i, h3 i (List.mem_cons_self ..), (mem_chL (hb' _)).2 ⟨by simpa using h1, fun j hj => ?_, fun j hj => h3 j (List.mem_cons_of_mem _ hj)⟩⟩
      rw [gI_set hi]
      by_cases e : j = i
      · rw [if_pos e, e]
      · rw [if_neg e]
        exact h2 j (by rw [List.mem_cons]; rintro (h1 | h1); exact e h1; exact hj h1)
theorem isA_iff {vals : List Int} : ∀ {st l : List Int}, isA vals st l ↔ l.length = st.length ∧ ∀ j, j < st.length → okA1 vals (gI st j) (gI l j)
  | [], [] => by simp [isA]
  | [], _ :: _ => by simp [isA]
  | _ :: _, [] => by simp [isA]
  | s :: r, x :: l => by
    rw [isA, isA_iff]
    constructor
    · rintro ⟨h1, h2, h3⟩
      refine ⟨by simp [h2], fun j hj => ?_⟩
      cases j with
      | zero => exact h1
      | succ j => exact h3 j (by simpa using hj)
    · rintro ⟨h1, h2⟩
      refine ⟨h2 0 (by simp), by simpa using h1, fun j hj => h2 (j + 1) (by simpa using hj)⟩
def unkF (st : List Int) (k : Nat) : List Nat := (List.range k).filter fun i => decide (gI st i < 0)
theorem mem_unk {st : List Int} {k i : Nat} : i ∈ unkF st k ↔ i < k ∧ gI st i < 0 := by
  unfold unkF
  rw [List.mem_filter, List.mem_range, decide_eq_true_iff]
theorem chL_isA {vals st l : List Int} : l ∈ chL vals st (unkF st st.length) ↔ isA vals st l := by
  rw [mem_chL (fun i hi => (mem_unk.1 hi).1), isA_iff]
  refine ⟨fun ⟨h1, h2, h3⟩ => ⟨h1, fun j hj => ?_⟩, fun ⟨h1, h2⟩ => ⟨h1, fun j hj => ?_, fun j hj => ?_⟩⟩
  · unfold okA1
    by_cases hs : 0 ≤ gI st j
    · rw [if_pos hs]; exact h2 j fun hh => by have := (mem_unk.1 hh).2; omega
    · rw [if_neg hs]; exact h3 j (mem_unk.2 ⟨hj, by omega⟩)
  · by_cases hjl : j < st.length
    · have := h2 j hjl
      unfold okA1 at this
      rw [if_pos (Int.not_lt.1 fun hh => hj (mem_unk.2 ⟨hjl, hh⟩))] at this; exact this
    · rw [gI_out (by omega), gI_out (by omega)]
  · obtain ⟨hj1, hj2⟩ := mem_unk.1 hj
    have := h2 j hj1
    unfold okA1 at this
    rw [if_neg (by omega)] at this; exact this
/- what is seen after some assignments -/
def seeL (P : List (List Int)) (least : Int) (n : Nat) (f : Nat → Bool) (L : List (List Int)) : Nat → Bool := fun j => f j || L.any fun a => decide ((cntC P a : Int) = least) && (decide (j / 16 < n) && decide (gI a (j / 16) = ((j % 16 : Nat) : Int)))
theorem seeL_nil (P : List (List Int)) (least : Int) (n : Nat) (f : Nat → Bool) : seeL P least n f [] = f := by
  funext j; unfold seeL; simp
theorem seeL_one (P : List (List Int)) (least : Int) (n : Nat) (f : Nat → Bool) (a : List Int) : seeL P least n f [a] = seeF P least f a n := by
  funext j; unfold seeL seeF; simp
theorem seeL_app (P : List (List Int)) (least : Int) (n : Nat) (f : Nat → Bool) (L M : List (List Int)) : seeL P least n (seeL P least n f L) M = seeL P least n f (L ++ M) := by
  funext j; unfold seeL; rw [List.any_append, Bool.or_assoc]
theorem chg_oneT {T : Nat → Prop} {b : Nat} {w w' : World} (h : Chg (fun k => k = b) w w') (hb : T b) : Chg T w w' := h.mono fun k _ hk => hk ▸ hb
set_option maxRecDepth 20000 in
theorem choose_walk {w0 : World} {P : List (List Int)} {vals : List Int} {us0 : List Nat} {S Su So : Nat → Prop} {q5 q14 q19 bS nn nc en ec pn pc n b7 b3 b40 b5 b43 un uc on oc ac Ba : Nat} {na ea pa ua oa aa : Option Addr} {least : Int}
    (hu : RowV vI Su w0 ua un (us0.map fun i : Nat => (i : Int))) (ho : RowV vI So w0 oa on vals) (hS : SeeAt w0 q5 q14 q19 bS na nn nc ea en ec pa pn pc n least) (hP : RowV vIs S w0 pa pn P)
    (B7 : Blk w0 b7 [.slice ua un uc] 27) (B3 : Blk w0 b3 [.func (.func 28) ⟨[]⟩ ⟨[.pointer (some ⟨q5, 0, none⟩), .pointer (some ⟨q14, 0, none⟩), .pointer (some ⟨q19, 0, none⟩)]⟩] 71) (B40 : Blk w0 b40 [.slice aa n ac] 27) (B5 : Blk w0 b5 [.slice oa on oc] 27)
    (B43 : Blk w0 b43 [.func (.func 52) ⟨[]⟩ ⟨[.pointer (some ⟨b7, 0, none⟩), .pointer (some ⟨b3, 0, none⟩), .pointer (some ⟨b40, 0, none⟩), .pointer (some ⟨b5, 0, none⟩), .pointer (some ⟨b43, 0, none⟩)]⟩] 103)
    (hT : ∀ k, (bk aa k ∨ k = bS) → k ≠ b7 ∧ k ≠ b3 ∧ k ≠ b40 ∧ k ≠ b5 ∧ k ≠ b43 ∧ k ≠ q5 ∧ k ≠ q14 ∧ k ≠ q19 ∧ ¬ (k < w0.heap.size ∧ (S k ∨ Su k ∨ So k))) (haS : ¬ bk aa bS)
    (hn : n = pn) (hk : ParOk P) (hpn : pn ≤ 1000000) (hon : on ≤ 1000000) (hPl : ∀ l ∈ P, l.length ≤ 4611686018427387904) (hvals : ∀ x ∈ vals, 0 ≤ x ∧ x < 16) (hus : ∀ i ∈ us0, i < n) (hun : un ≤ 1000000) (hbS : bS < w0.heap.size) :
    ∀ (us : List Nat) (k : Nat) (all : List Int) (f : Nat → Bool) (W : World) (R : Ending → World → Prop), us0.drop k = us → k ≤ us0.length → Chg (fun k => bk aa k ∨ k = bS) w0 W → OwnL Sh.encI W Ba 3 aa n ac all →
      (∀ i, i < n → i ∉ us → 0 ≤ gI all i ∧ gI all i < 16) → Blk W bS (seenC (n * 16) f) 70 →
      (∀ W' all', Chg (fun k => bk aa k ∨ k = bS) w0 W' → OwnL Sh.encI W' Ba 3 aa n ac all' → (∀ i, i ∉ us → gI all' i = gI all i) → Blk W' bS (seenC (n * 16) (seeL P least n f (chL vals all us))) 70 → R (.returned (.tuple ⟨[]⟩)) W') →
      Calls Try.prog F_archetype_assignments_1 ⟨[.int .i64 k, .pointer (some ⟨b7, 0, none⟩), .pointer (some ⟨b3, 0, none⟩), .pointer (some ⟨b40, 0, none⟩), .pointer (some ⟨b5, 0, none⟩), .pointer (some ⟨b43, 0, none⟩)]⟩ W R := by
  have hul := hu.1
  rw [List.length_map] at hul
  have hol := ho.1
  have cell : ∀ {W : World} {b : Nat} {cs : List Value} {T : TypeId}, Chg (fun k => bk aa k ∨ k = bS) w0 W → Blk w0 b cs T → (∀ k, (bk aa k ∨ k = bS) → k ≠ b) → Blk W b cs T := fun hc hb hne => hc.blk hb fun hh => hne _ hh rfl
  intro us
  induction us with
  | nil =>
    intro k all f W R hus1 hkl hc hO hr BS h
    have hku : k = un := by
      have := congrArg List.length hus1
      simp at this; omega
    apply c_archetype_assignments_1
    have C7 := cell hc B7 fun k hk => (hT k hk).1
    have C3 := cell hc B3 fun k hk => (hT k hk).2.1
    have C40 := cell hc B40 fun k hk => (hT k hk).2.2.1
    refine dr_ok ⟨_, _, _, C7.cell 0, br_split (fun _ => ?_) (fun g => absurd (by omega) g)⟩
    refine dr_ok ⟨_, _, _, C3.cell 0, dr_ok ⟨_, _, _, C40.cell 0, ⟨by kernel_rfl, ?_⟩⟩⟩
    have hPW : RowV vIs (fun k => (S k ∧ k < w0.heap.size) ∨ bk aa k) W pa pn P := ((hP.imp (S' := fun k => S k ∧ k < w0.heap.size) fun k hk hl => ⟨hk, hl⟩).chg hc fun k hk hl hh => (hT k hh).2.2.2.2.2.2.2.2 ⟨hl, .inl hk.1⟩).imp fun k hk _ => .inl hk
    have hAW : RowV vI (fun k => (S k ∧ k < w0.heap.size) ∨ bk aa k) W aa n all := rowV_enc.2 ((OwnL.out hO).imp fun k hk _ => .inr hk)
    have SW := hS.keep hc ⟨fun hh => (hT _ hh).2.2.2.2.2.1 rfl, fun hh => (hT _ hh).2.2.2.2.2.2.1 rfl, fun hh => (hT _ hh).2.2.2.2.2.2.2.1 rfl⟩
    have hTS := hT bS (.inr rfl)
    refine Possible1_spec SW hPW hAW hn hk hpn hPl (fun i hi => hr i hi (by simp)) BS (fun hh => hh.elim (fun q => hTS.2.2.2.2.2.2.2.2 ⟨hbS, .inl q.1⟩) haS) ⟨fun hh => hTS.2.2.2.2.2.1 hh.symm, fun hh => hTS.2.2.2.2.2.2.1 hh.symm, fun hh => hTS.2.2.2.2.2.2.2.1 hh.symm⟩ fun w' hc' B' => ⟨rfl, ?_⟩
    refine h w' all (hc.trans (chg_oneT hc' (.inr rfl))) (Owns.chg hO hc' fun k hk e => haS (e ▸ hk)) (fun _ _ => rfl) ?_
    rw [chL, seeL_one]; exact B'
  | cons i us ih =>
    intro k all f W R hus1 hkl hc hO hr BS h
    have hku : k < us0.length := by
      refine Nat.lt_of_not_le fun hh => ?_
      rw [List.drop_eq_nil_of_le hh] at hus1; cases hus1
    have hd := List.drop_eq_getElem_cons hku
    rw [hus1] at hd
    obtain ⟨e1, e2⟩ := List.cons.inj hd
    have hin : i < n := hus i (e1 ▸ List.getElem_mem hku)
    have hub : ∀ j ∈ i :: us, j < n := fun j hj => hus j (List.mem_of_mem_drop (hus1 ▸ hj))
    have hal := OwnL.length hO
    apply c_archetype_assignments_1
    have C7 := cell hc B7 fun k hk => (hT k hk).1
    have C5 := cell hc B5 fun k hk => (hT k hk).2.2.2.1
    refine dr_ok ⟨_, _, _, C7.cell 0, br_split (fun g => by omega) (fun g => ?_)⟩
    refine dr_ok ⟨_, _, _, C5.cell 0, ?_⟩
    refine ⟨fun t V m => ∃ (j : Nat) (all' : List Int), t = j ∧ j ≤ on ∧ m = on - j ∧ Chg (fun k => bk aa k ∨ k = bS) w0 V ∧ OwnL Sh.encI V Ba 3 aa n ac all' ∧ (∀ q, q ∉ i :: us → gI all' q = gI all q) ∧ Blk V bS (seenC (n * 16) (seeL P least n f ((vals.take j).flatMap fun x => chL vals (all.set i x) us))) 70,
      ⟨_, 0, all, rfl, by omega, rfl, hc, hO, fun _ _ => rfl, ?_⟩, ?_⟩
    · rw [List.take_zero, List.flatMap_nil, seeL_nil]; exact BS
    rintro _ V m ⟨j, all', rfl, hj, rfl, hcV, hOV, hag, BV⟩ _
    refine br_split (fun hlt => ?_) (fun hge => ?_)
    · have hjl : j < vals.length := by omega
      have hoV : RowV vI So V oa on vals := ((ho.imp (S' := fun k => So k ∧ k < w0.heap.size) fun k hk hl => ⟨hk, hl⟩).chg hcV fun k hk hl hh => (hT k hh).2.2.2.2.2.2.2.2 ⟨hl, .inr (.inr hk.1)⟩).imp fun k hk _ => hk.1
      obtain ⟨p, hp, d⟩ := hoV.int hjl
      refine hp _ ⟨_, d, ?_⟩
      unfold drw
      have ed := ext_drew V
      have hcD : Chg (fun k => bk aa k ∨ k = bS) w0 V.drew := hcV.trans (.of_ext ed)
      have hOD := Owns.ext hOV ed
      have BD := BV.ext ed
      generalize V.drew = V24 at *
      have D7 := cell hcD B7 fun k hk => (hT k hk).1
      have D40 := cell hcD B40 fun k hk => (hT k hk).2.2.1
      have D43 := cell hcD B43 fun k hk => (hT k hk).2.2.2.2.1
      have huD : RowV vI Su V24 ua un (us0.map fun i : Nat => (i : Int)) := ((hu.imp (S' := fun k => Su k ∧ k < w0.heap.size) fun k hk hl => ⟨hk, hl⟩).chg hcD fun k hk hl hh => (hT k hh).2.2.2.2.2.2.2.2 ⟨hl, .inr (.inl hk.1)⟩).imp fun k hk _ => hk.1
      obtain ⟨p2, hp2, d2⟩ := huD.int (k := k) (by rw [List.length_map]; exact hku)
      rw [List.getElem_map, ← e1] at d2
      refine dr_ok ⟨_, _, _, D40.cell 0, dr_ok ⟨_, _, _, D7.cell 0, hp2 _ ⟨_, d2, ?_⟩⟩⟩
      have hal' := OwnL.length hOV
      obtain ⟨gg, hgg, hi1, hst1⟩ := OwnL.store hOD (i := i) hin vals[j]
      refine hi1 _ ⟨hst1 _ fun w32 h32 c32 s32 => dr_ok ?_, trivial⟩
      have hc32 : Chg (fun k => bk aa k ∨ k = bS) w0 w32 := hcD.trans (c32.mono fun k _ hk => .inl hk)
      have E43 := cell hc32 B43 fun k hk => (hT k hk).2.2.2.2.1
      refine ⟨_, _, _, E43.cell 0, ⟨by kernel_rfl, ?_⟩⟩
      rw [wrap_nat (by omega)]
      have B32 : Blk w32 bS (seenC (n * 16) (seeL P least n f ((vals.take j).flatMap fun x => chL vals (all.set i x) us))) 70 := c32.blk BD haS
      have ecg : chL vals (all'.set i vals[j]) us = chL vals (all.set i vals[j]) us := by
        refine chL_congr (by simp; omega) (fun q hq => by have := hub q (List.mem_cons_of_mem _ hq); simp; omega) fun q hq => ?_
        rw [gI_set (by omega), gI_set (by omega)]
        by_cases e : q = i
        · rw [if_pos e, if_pos e]
        · rw [if_neg e, if_neg e]
          exact hag q (by rw [List.mem_cons]; rintro (h1 | h1); exact e h1; exact hq h1)
      refine ih (k + 1) (all'.set i vals[j]) _ w32 _ e2.symm (by omega) hc32 h32 (fun q hq1 hq2 => ?_) B32 fun W' all2 g1 g2 g3 g4 => ⟨rfl, ?_⟩
      · rw [gI_set (by omega)]
        by_cases e : q = i
        · rw [if_pos e]; exact hvals _ (List.getElem_mem hjl)
        · have hqn : q ∉ i :: us := by rw [List.mem_cons]; rintro (h1 | h1); exact e h1; exact hq2 h1
          rw [if_neg e, hag q hqn]; exact hr q hq1 hqn
      · refine ⟨on - (j + 1), by omega, j + 1, all2, by rw [wrap_nat (by omega)], by omega, rfl, g1, g2, fun q hq => ?_, ?_⟩
        · rw [List.mem_cons, not_or] at hq
          rw [g3 q hq.2, gI_set (by omega), if_neg hq.1, hag q (by rw [List.mem_cons, not_or]; exact hq)]
        · rw [take_s hjl, List.flatMap_append, ← seeL_app]
          rw [ecg] at g4
          simpa using g4
    · rw [List.take_of_length_le (by omega)] at BV
      refine h V all' hcV hOV hag ?_
      rw [chL]; exact BV
end Go.Proofs
namespace Go.Proofs
open Go Go.Sh Go.RowKit
/- archetype.assignments, Possible, Certain; contamination.Choices -/
theorem occF_snoc : ∀ (l acc : List Int) (s : Int), occF acc (l ++ [s]) = if 0 ≤ s ∧ s ∉ occF acc l then occF acc l ++ [s] else occF acc l
  | [], acc, s => by rw [List.nil_append, occF, occF, occF]
  | x :: l, acc, s => by rw [List.cons_append, occF, occF_snoc l _ s, occF]
theorem unk_snoc (st : List Int) (k : Nat) : unkF st (k + 1) = unkF st k ++ if gI st k < 0 then [k] else [] := by
  unfold unkF
  rw [List.range_succ, List.filter_append]
  by_cases h : gI st k < 0 <;> simp [h]
section
variable {R : Ending → World → Prop} {w : World} {S S2 : Nat → Prop}
set_option maxRecDepth 20000 in
theorem archAsg_spec {P : List (List Int)} {st : List Int} {q5 q14 q19 bS nn nc en ec pn pc n c : Nat} {na ea pa a : Option Addr} {least : Int} {f : Nat → Bool}
    (hst : RowV vI S2 w a n st) (hS : SeeAt w q5 q14 q19 bS na nn nc ea en ec pa pn pc n least) (hP : RowV vIs S w pa pn P)
    (hn : n = pn) (hk : ParOk P) (hpn : pn ≤ 1000000) (hPl : ∀ l ∈ P, l.length ≤ 4611686018427387904) (h16 : ∀ x ∈ st, x < 16) (BS : Blk w bS (seenC (n * 16) f) 70) (hSb : ¬ S bS) (hq : q5 ≠ bS ∧ q14 ≠ bS ∧ q19 ≠ bS)
    (h : ∀ w' L, Chg (fun k => k = bS) w w' → (∀ l, l ∈ L ↔ isA (occ0 st) st l) → Blk w' bS (seenC (n * 16) (seeL P least n f L)) 70 → R (.returned (.tuple ⟨[]⟩)) w') :
    Calls Try.prog F_archetype_assignments ⟨[.slice a n c, .func (.func 28) ⟨[]⟩ ⟨[.pointer (some ⟨q5, 0, none⟩), .pointer (some ⟨q14, 0, none⟩), .pointer (some ⟨q19, 0, none⟩)]⟩]⟩ w R := by
  apply c_archetype_assignments
  have hsl := hst.1
  refine al_intro fun b3 w4 hb3 B3 e4 s4 => al_intro fun b5 w6 hb5 B5 e6 s6 => al_intro fun b7 w8 hb7 B7 e8 s8 => ?_
  have e08 := ext_trans e4 (ext_trans e6 e8)
  have z4 := e4.size
  have z6 := e6.size
  have z8 := e8.size
  refine ⟨fun i W m => ∃ (k : Nat) (ua : Option Addr) (un uc : Nat) (oa : Option Addr) (on oc : Nat), i = k ∧ k ≤ n ∧ m = n - k ∧ un ≤ k ∧ on ≤ k ∧ Blk W b3 [.func (.func 28) ⟨[]⟩ ⟨[.pointer (some ⟨q5, 0, none⟩), .pointer (some ⟨q14, 0, none⟩), .pointer (some ⟨q19, 0, none⟩)]⟩] 71 ∧ Blk W b5 [.slice oa on oc] 27 ∧ Blk W b7 [.slice ua un uc] 27 ∧
      OwnV vI (fun _ => False) 3 (b7 + 1) W ua un uc ((unkF st k).map fun i : Nat => (i : Int)) ∧ OwnV vI (fun _ => False) 3 (b7 + 1) W oa on oc (occF [] (st.take k)) ∧ (∀ j, bk ua j → ¬ bk oa j) ∧ Ext w W,
    ⟨_, 0, none, 0, 0, none, 0, 0, rfl, by omega, rfl, by omega, by omega, (B3.ext e6).ext e8, B5.ext e8, B7, OwnV.nil _, OwnV.nil _, fun j hj => by simp [bk] at hj, e08⟩, ?_⟩
  rintro _ W m ⟨k, ua, un, uc, oa, on, oc, rfl, hk1, rfl, hun, hon, C3, C5, C7, hU, hO, hdj, eW⟩ _
  have zW := C7.lt
  have nU : ∀ {j}, bk ua j → j ≠ b3 ∧ j ≠ b5 ∧ j ≠ b7 ∧ w.heap.size ≤ j := fun hj => by have := (hU.bk hj).1; omega
  have nO : ∀ {j}, bk oa j → j ≠ b3 ∧ j ≠ b5 ∧ j ≠ b7 ∧ w.heap.size ≤ j := fun hj => by have := (hO.bk hj).1; omega
  refine br_split (fun hlt => ?_) (fun hge => ?_)
  · have hkl : k < st.length := by omega
    obtain ⟨q, hq1, d⟩ := (hst.ext eW).int hkl
    have gk : gI st k = st[k] := gI_at hkl
    refine hq1 _ ⟨_, d, br_split (fun g => ?_) (fun g => ?_)⟩
    · refine ⟨_, _, _, C7.cell 0, ?_⟩
      refine hU.push slT_int (by omega) (x := (k : Int)) (show vI.C _ _ (k : Int) [.int .i64 k] from rfl) (by omega) (by omega) fun a' c' w20 ho hc20 hn' => ?_
      have n7 : ¬ bk ua b7 := fun hh => (nU hh).2.2.1 rfl
      refine stL_one (hc20.blk C7 n7) rfl fun w21 D7 hc21 s21 => ?_
      have hcc : Chg (fun j => j = b7 ∨ bk ua j) W w21 := (hc20.mono fun j _ hj => .inr hj).trans (hc21.mono fun j _ hj => .inl hj)
      refine ⟨n - (k + 1), by omega, k + 1, a', un + 1, c', oa, on, oc, by rw [wrap_nat (by omega)], by omega, rfl, by omega, by omega, hcc.blk C3 (fun hh => hh.elim (fun q => by omega) fun q => (nU q).1 rfl), hcc.blk C5 (fun hh => hh.elim (fun q => by omega) fun q => (nU q).2.1 rfl), D7, ?_, ?_, ?_, ?_⟩
      · rw [unk_snoc, gk, if_pos g, List.map_append]
        exact ho.chg hc21 fun j hj _ => ⟨id, fun hh => by
          rw [hj] at hh
          rcases hn' _ hh with h1 | h1
          · exact n7 h1
          · omega⟩
      · rw [take_s hkl, occF_snoc, if_neg (fun hh => by omega)]
        exact hO.chg hcc fun j hj _ => ⟨id, fun hh => hj.elim (fun q => (nO hh).2.2.1 q) fun q => hdj _ q hh⟩
      · intro j hj hj2
        rcases hn' _ hj with h1 | h1
        · exact hdj _ h1 hj2
        · have := (hO.bk hj2).2; omega
      · exact ext_chgS eW hcc fun j hj => by rcases hj with rfl | hj; omega; exact (nU hj).2.2.2
    · refine ⟨_, _, _, C5.cell 0, ?_⟩
      refine ContainsI_spec st[k] hO.out (by omega) ⟨_, rfl, ?_⟩
      have hmem : st[k] ∈ st := List.getElem_mem hkl
      refine br_cases (fun g2 => ?_) (fun g2 => ?_)
      · have g2' : st[k] ∉ occF [] (st.take k) := by simpa using g2
        refine ⟨_, _, _, C5.cell 0, ?_⟩
        refine hO.push slT_int (by omega) (x := st[k]) (show vI.C _ _ st[k] [.int .i64 st[k]] from rfl) (by omega) (by omega) fun a' c' w31 ho hc31 hn' => ?_
        have n5 : ¬ bk oa b5 := fun hh => (nO hh).2.1 rfl
        refine stL_one (hc31.blk C5 n5) rfl fun w32 D5 hc32 s32 => ?_
        have hcc : Chg (fun j => j = b5 ∨ bk oa j) W w32 := (hc31.mono fun j _ hj => .inr hj).trans (hc32.mono fun j _ hj => .inl hj)
        refine ⟨n - (k + 1), by omega, k + 1, ua, un, uc, a', on + 1, c', by rw [wrap_nat (by omega)], by omega, rfl, by omega, by omega, hcc.blk C3 (fun hh => hh.elim (fun q => by omega) fun q => (nO q).1 rfl), D5, hcc.blk C7 (fun hh => hh.elim (fun q => by omega) fun q => (nO q).2.2.1 rfl), ?_, ?_, ?_, ?_⟩
        · rw [unk_snoc, gk, if_neg g, List.append_nil]
          exact hU.chg hcc fun j hj _ => ⟨id, fun hh => hj.elim (fun q => (nU hh).2.1 q) fun q => hdj _ hh q⟩
        · rw [take_s hkl, occF_snoc, if_pos ⟨by omega, g2'⟩]
          exact ho.chg hc32 fun j hj _ => ⟨id, fun hh => by
            rw [hj] at hh
            rcases hn' _ hh with h1 | h1
            · exact n5 h1
            · omega⟩
        · intro j hj hj2
          rcases hn' _ hj2 with h1 | h1
          · exact hdj _ hj h1
          · have := (hU.bk hj).2; omega
        · exact ext_chgS eW hcc fun j hj => by rcases hj with rfl | hj; omega; exact (nO hj).2.2.2
      · have g2' : st[k] ∈ occF [] (st.take k) := by simpa using g2
        refine ⟨n - (k + 1), by omega, k + 1, ua, un, uc, oa, on, oc, by rw [wrap_nat (by omega)], by omega, rfl, by omega, by omega, C3, C5, C7, ?_, ?_, hdj, eW⟩
        · rw [unk_snoc, gk, if_neg g, List.append_nil]; exact hU
        · rw [take_s hkl, occF_snoc, if_neg (fun hh => hh.2 g2')]; exact hO
  · obtain rfl : k = n := by omega
    rw [List.take_of_length_le (by omega)] at hO
    have hol := hO.len
    have hul := hU.len
    rw [List.length_map] at hul
    intro K35 hK35
    have k35 : ∀ (V : World) (ob : Option Addr) (om oe : Nat), Blk V b3 [.func (.func 28) ⟨[]⟩ ⟨[.pointer (some ⟨q5, 0, none⟩), .pointer (some ⟨q14, 0, none⟩), .pointer (some ⟨q19, 0, none⟩)]⟩] 71 → Blk V b5 [.slice ob om oe] 27 → Blk V b7 [.slice ua un uc] 27 → RowV vI (fun j => b7 < j) V ua un ((unkF st k).map fun i : Nat => (i : Int)) → RowV vI (fun j => b7 < j) V ob om (occ0 st) → om ≤ 1000000 → Ext w V → K35 V := by
      intro V ob om oe D3 D5 D7 hUV hOV hom eV
      refine hK35 _ fun _ => ?_
      have zV := eV.size
      have lV := D7.lt
      refine CloneI_spec (hst.ext eV) (by omega) fun aa ac w38 hA e38 => ⟨_, _, _, rfl, ?_⟩
      have z38 := e38.size
      refine al_stL rfl (by intro v hv; simp only [List.mem_singleton] at hv; subst hv; rfl) fun b40 w42 hb40 B40 e42 s42 => ?_
      refine al_intro fun b43 w44 hb43 B430 e44 s44 => ?_
      refine stL_one B430 rfl fun w45 B43 c45 s45 => ?_
      have e45 : Ext w42 w45 := ext_chgS e44 c45 fun k hk => by omega
      have e3845 := ext_trans e42 e45
      have eV45 := ext_trans e38 e3845
      have e045 := ext_trans eV eV45
      have z42 := e42.size
      have z45 := e45.size
      have hA45 : OwnL Sh.encI w45 V.heap.size 3 aa k ac st := ownV_enc.1 (hA.ext e3845)
      have lS := BS.lt
      refine ⟨_, _, _, B43.cell 0, ⟨by kernel_rfl, ?_⟩⟩
      have haa : ∀ j, bk aa j → V.heap.size ≤ j ∧ j < w38.heap.size := fun j hj => hA.bk hj
      have l5 := hS.st.lt
      have l14 := hS.le.lt
      have l19 := hS.se.lt
      have l3 := D3.lt
      have hmo : ∀ x ∈ occ0 st, 0 ≤ x ∧ x < 16 := by
        intro x hx
        have hv := (mem_occ0 (st := st) (v := occF [] st) (fun x => by rw [mem_occF]; simp) x).1 hx
        split at hv
        · simp at hv; omega
        · rw [mem_occF] at hv
          rcases hv with hv | hv
          · cases hv
          · exact ⟨hv.1, h16 _ hv.2⟩
      refine choose_walk (w0 := w45) (P := P) (vals := occ0 st) (us0 := unkF st k) (S := fun j => S j ∧ j < w.heap.size) (Su := fun j => b7 < j ∧ j < V.heap.size) (So := fun j => b7 < j ∧ j < V.heap.size) (q5 := q5) (q14 := q14) (q19 := q19) (bS := bS) (n := k) (Ba := V.heap.size) (least := least)
        ((hUV.imp fun j hj hl => ⟨hj, hl⟩).ext eV45) ((hOV.imp fun j hj hl => ⟨hj, hl⟩).ext eV45) (hS.keep (T := fun _ => False) (Chg.of_ext e045) ⟨id, id, id⟩) ((hP.imp fun j hj hl => ⟨hj, hl⟩).ext e045)
        (D7.ext eV45) (D3.ext eV45) (B40.ext e45) (D5.ext eV45) B43 (fun j hj => ?_) (fun hh => by have := haa _ hh; omega) hn hk hpn hom hPl hmo (fun i hi => (mem_unk.1 hi).1) (by omega) (by omega)
        (unkF st k) 0 st f w45 _ rfl (by omega) (Chg.refl _ _) hA45 (fun i hi hiu => ?_) (BS.ext e045) (fun W' all' g1 g2 g3 g4 => ⟨rfl, ?_⟩)
      · rcases hj with hj | rfl
        · have := haa _ hj
          refine ⟨by omega, by omega, by omega, by omega, by omega, by omega, by omega, by omega, fun hh => ?_⟩
          rcases hh.2 with hh | hh | hh <;> omega
        · refine ⟨by omega, by omega, by omega, by omega, by omega, fun hh => hq.1 hh.symm, fun hh => hq.2.1 hh.symm, fun hh => hq.2.2 hh.symm, fun hh => ?_⟩
          rcases hh.2 with hh | hh | hh
          · exact hSb hh.1
          · omega
          · omega
      · have hil : i < st.length := by omega
        refine ⟨Int.not_lt.1 fun hh => hiu (mem_unk.2 ⟨hi, hh⟩), ?_⟩
        rw [gI_at hil]; exact h16 _ (List.getElem_mem hil)
      · refine h W' (chL (occ0 st) st (unkF st k)) ?_ (fun l => ?_) g4
        · refine ((Chg.of_ext (S := fun j => bk aa j ∨ j = bS) e045).trans g1).mono fun j hj hh => ?_
          rcases hh with hh | hh
          · have := haa _ hh; omega
          · exact hh
        · rw [hsl]; exact chL_isA
    refine ⟨_, _, _, C5.cell 0, br_split (fun g => ?_) (fun g => ?_)⟩
    · have h0 : occF [] st = [] := List.eq_nil_of_length_eq_zero (by omega)
      have ho0 : occ0 st = [0] := by unfold occ0; rw [if_pos h0]
      refine al_intro fun b50 w51 hb50 B50 e51 s51 => ?_
      refine stL_one (C5.ext e51) rfl fun w52 D5 hc52 s52 => ?_
      have hcc : Chg (fun j => j = b5) W w52 := (Chg.of_ext e51).trans hc52
      refine k35 w52 (some ⟨b50, 0, none⟩) 1 1 (hcc.blk C3 (by omega)) D5 (hcc.blk C7 (by omega)) (((hU.chg hcc fun j hj _ => ⟨id, fun hh => (nU hh).2.1 hj⟩).out).imp fun j hj _ => ?_) ?_ (by omega) (ext_chgS eW hcc fun j hj => by omega)
      · rcases hj with hj | hj
        · exact hj.elim
        · have := (hU.bk hj).1; omega
      · rw [ho0]
        have B50' := hc52.blk B50 (by omega)
        refine (rowV_enc.2 (OwnL.out (OwnL.made (E := Sh.encI) (x := 0) (n := 1) (B := b50) B50' (Nat.le_refl _) (by decide)))).imp fun j hj _ => ?_
        have : b50 = j := by simpa [bk] using hj
        omega
    · have hne : occF [] st ≠ [] := fun hh => by rw [hh] at hol; simp at hol; omega
      have ho0 : occ0 st = occF [] st := by unfold occ0; rw [if_neg hne]
      refine k35 W oa on oc C3 C5 C7 (hU.out.imp fun j hj _ => ?_) ?_ (by omega) eW
      · rcases hj with hj | hj
        · exact hj.elim
        · have := (hU.bk hj).1; omega
      · rw [ho0]
        refine hO.out.imp fun j hj _ => ?_
        rcases hj with hj | hj
        · exact hj.elim
        · have := (hO.bk hj).1; omega
end
end Go.Proofs
namespace Go.Proofs
open Go Go.Sh Go.RowKit
/- archetype.Possible and Certain -/
theorem slT_ints : SlT Try.prog 24 27 1 24 (.slice none 0 0) := ⟨by kernel_rfl, by kernel_rfl, rfl, by decide⟩
theorem seenC_zero (n : Nat) : (List.replicate n [Value.bool false, .bool false, .bool false, .bool false, .bool false, .bool false, .bool false, .bool false, .bool false, .bool false, .bool false, .bool false, .bool false, .bool false, .bool false, .bool false]).flatten = seenC (n * 16) (fun _ => false) := by
  have e : [Value.bool false, .bool false, .bool false, .bool false, .bool false, .bool false, .bool false, .bool false, .bool false, .bool false, .bool false, .bool false, .bool false, .bool false, .bool false, .bool false] = List.replicate 16 (Value.bool false) := rfl
  rw [e, List.flatten_replicate_replicate]
  unfold seenC
  rw [List.map_const', List.length_range]
def possF (f : Nat → Bool) (i x : Nat) : List Int := ((List.range x).map fun k : Nat => (k : Int)).filter fun v => f (i * 16 + v.toNat)
theorem possF_s (f : Nat → Bool) (i x : Nat) : possF f i (x + 1) = possF f i x ++ if f (i * 16 + x) then [(x : Int)] else [] := by
  unfold possF
  rw [List.range_succ, List.map_append, List.filter_append]
  by_cases h : f (i * 16 + x) <;> simp [h]
theorem possF_eq {P : List (List Int)} {st : List Int} {L : List (List Int)} {vals : List Int} {least n i : Nat} (hL : ∀ l, l ∈ L ↔ isA vals st l) (hi : i < n) : possF (seeL P least n (fun _ => false) L) i 16 = possA P vals st least i := by
  unfold possF possA
  refine List.filter_congr fun v hv => ?_
  obtain ⟨k, hk, rfl⟩ := List.mem_map.1 hv
  have hk := List.mem_range.1 hk
  unfold seeL seenA
  rw [Bool.false_or, Int.toNat_natCast, show (i * 16 + k) / 16 = i by omega, show (i * 16 + k) % 16 = k by omega, decide_eq_true hi]
  rw [Bool.eq_iff_iff, List.any_eq_true, List.any_eq_true]
  constructor
  · rintro ⟨l, hl, h⟩
    refine ⟨l, (mem_asgL vals).2 ((hL l).1 hl), ?_⟩
    rw [Bool.true_and, Bool.and_eq_true, decide_eq_true_iff, decide_eq_true_iff] at h
    rw [Bool.and_eq_true, decide_eq_true_iff, decide_eq_true_iff]
    exact ⟨by omega, h.2⟩
  · rintro ⟨l, hl, h⟩
    refine ⟨l, (hL l).2 ((mem_asgL vals).1 hl), ?_⟩
    rw [Bool.and_eq_true, decide_eq_true_iff, decide_eq_true_iff] at h
    rw [Bool.true_and, Bool.and_eq_true, decide_eq_true_iff, decide_eq_true_iff]
    exact ⟨by omega, h.2⟩
section
variable {R : Ending → World → Prop} {w : World} {S S2 : Nat → Prop}
set_option maxRecDepth 20000 in
theorem Possible_spec {na ea pa : Option Addr} {nn nc en ec pn pc : Nat} {N : List Nm} {P : List (List Int)} {st : List Int} {a : Option Addr} {n c : Nat} (hN : RowV vS S w na nn N) (hcN : nn ≤ nc) (hP : RowV vIs S w pa pn P) (hb : ∀ s ∈ N, s.length ≤ 4611686018427387904) (hPl : ∀ l ∈ P, l.length ≤ 4611686018427387904)
    (hR : RowV vI S2 w a n st) (hs : n ≤ 4611686018427387904) (hg : conOk N en P st = true → n ≤ 6)
    (h : ∀ (e : Int) (oa : Option Addr) (on oc : Nat) w', Ext w w' → decide (e = 0) = conOk N en P st → (e = 0 → ∃ L, RowV vIs (fun k => w.heap.size ≤ k) w' oa on L ∧ L.length = st.length ∧ ∀ i, i < st.length → L.getD i [] = possA P (occ0 st) st (scoreA P (occ0 st) st) i) → R (.returned (.tuple ⟨[.slice oa on oc, .int .i64 e]⟩)) w') :
    Calls Try.prog F_archetype_Possible ⟨[.agg ⟨[.slice na nn nc, .slice ea en ec, .slice pa pn pc]⟩, .slice a n c]⟩ w R := by
  apply c_archetype_Possible
  refine al_intro fun b5 w6 hb5 B5 e6 s6 => ?_
  obtain ⟨x0, x1, x2⟩ := bl3 B5
  refine ⟨_, _, _, x0, _, _, _, x1, _, _, _, x2, ?_⟩
  refine Score_spec (hN.ext e6) hcN (hP.ext e6) hb hPl (hR.ext e6) hs hg fun e v w11 e11 he hv => ⟨_, _, rfl, ?_⟩
  have e011 := ext_trans e6 e11
  refine al_stL rfl (by intro v hv; simp only [List.mem_singleton] at hv; subst hv; rfl) fun b14 w16 hb14 B14 e16 s16 => ?_
  have e016 := ext_trans e011 e16
  refine br_split (fun g => h _ _ _ _ _ e016 he (fun hh => absurd hh g)) (fun g => ?_)
  have g : e = 0 := Decidable.not_not.1 g
  subst g
  have hv := hv rfl
  subst hv
  have he' := he
  rw [decide_eq_true rfl] at he'
  have hn6 := hg he'.symm
  have hco : stemOk N en P = true ∧ st.length = P.length ∧ st.any stBad = false := by
    have := he'
    unfold conOk at this
    have := this.symm
    rw [Bool.and_eq_true, Bool.and_eq_true, decide_eq_true_iff] at this
    exact ⟨this.1, this.2.1, by simpa using this.2.2⟩
  have h16 : ∀ x ∈ st, x < 16 := fun x hx => by
    have := List.any_eq_false.1 hco.2.2 x hx
    unfold stBad at this
    rw [Bool.or_eq_true, decide_eq_true_iff, decide_eq_true_iff, not_or] at this
    omega
  obtain ⟨hpar, hN0, hN64, hPN⟩ := stem_par hco.1
  have hrl := hR.1
  have hpl := hP.1
  have hnl := hN.1
  refine mks_intro (l := n) (c := n) (Nat.le_refl _) (by omega) fun bS w18 hbS BS e18 s18 => ?_
  rw [seenC_zero] at BS
  rw [Int.toNat_natCast]
  refine al_stL rfl (by intro v hv; simp only [List.mem_singleton] at hv; subst hv; rfl) fun b19 w21 hb19 B19 e21 s21 => ?_
  have e1621 := ext_trans e18 e21
  have e021 := ext_trans e016 e1621
  have z16 := e016.size
  have z18 := e18.size
  have z21 := e21.size
  have z11 := e011.size
  have zz16 := e16.size
  have l14 := B14.lt
  have l5 := B5.lt
  have z1 := e11.size
  refine archAsg_spec (S := fun k => S k ∧ k < w.heap.size) (S2 := S2) (P := P) (f := fun _ => false) (hR.ext e021) ⟨B5.ext (ext_trans (ext_trans e11 e16) e1621), B14.ext e1621, B19⟩ ((hP.imp fun k hk hl => ⟨hk, hl⟩).ext e021) (by omega) hpar (by omega) hPl h16 (BS.ext e21) (fun hh => by omega) ⟨by omega, by omega, by omega⟩
    fun w23 L c23 hL B23 => ⟨rfl, ?_⟩
  have B19' := c23.blk B19 (by omega)
  refine ⟨_, _, _, B19'.cell 0, ?_⟩
  have e023 : Ext w w23 := ext_chgS e021 c23 fun k hk => by omega
  have z23 := e023.size
  have z2123 := c23.size
  refine ⟨fun oa on oc i W m => ∃ k : Nat, i = k ∧ k ≤ n ∧ m = n - k ∧ on ≤ k ∧ OwnV vIs (fun j => w.heap.size ≤ j) 27 w23.heap.size W oa on oc ((List.range k).map fun i => possF (seeL P (scoreA P (occ0 st) st) n (fun _ => false) L) i 16) ∧ Ext w23 W,
    ⟨_, 0, rfl, by omega, rfl, by omega, OwnV.nil _, Below.refl _ _⟩, ?_⟩
  rintro oa on oc _ W m ⟨k, rfl, hk1, rfl, hon, hO, eW⟩ _
  have zW := eW.size
  refine br_split (fun hlt => ?_) (fun hge => ?_)
  · have BW := B23.ext eW
    refine ⟨_, _, _, (B19'.ext eW).cell 0, ?_⟩
    refine ⟨by omega, by omega, dr_ok ?_⟩
    rw [Int.toNat_natCast]
    have cl : ∀ j, j < 16 → World.cell? W (((⟨bS, 0, none⟩ : Addr).add (k * 16)).add j) = some (.bool (seeL P (scoreA P (occ0 st) st) n (fun _ => false) L (k * 16 + j))) := fun j hj => by
      rw [add_none, add_none, Nat.zero_add, BW.cell, seenC_get (by omega)]
    refine ⟨_, cl 0 (by decide), _, cl 1 (by decide), _, cl 2 (by decide), _, cl 3 (by decide), _, cl 4 (by decide), _, cl 5 (by decide), _, cl 6 (by decide), _, cl 7 (by decide), _, cl 8 (by decide), _, cl 9 (by decide), _, cl 10 (by decide), _, cl 11 (by decide), _, cl 12 (by decide), _, cl 13 (by decide), _, cl 14 (by decide), _, cl 15 (by decide), ?_⟩
    generalize seeL P (scoreA P (occ0 st) st) n (fun _ => false) L = F at *
    refine ⟨fun la ln lc t V m' => ∃ x : Nat, t = x ∧ x ≤ 16 ∧ m' = 16 - x ∧ ln ≤ x ∧ OwnV vI (fun _ => False) 3 W.heap.size V la ln lc (possF F k x) ∧ Ext W V,
      ⟨_, 0, rfl, by omega, rfl, by omega, OwnV.nil _, Below.refl _ _⟩, ?_⟩
    rintro la ln lc _ V m' ⟨x, rfl, hx1, rfl, hln, hl, eV⟩ _
    have zV := eV.size
    refine br_split (fun hlt2 => ?_) (fun hge2 => ?_)
    · have hx : x < 16 := by omega
      refine ⟨by omega, by omega, F (k * 16 + x), ?_, ?_⟩
      · rw [Int.toNat_natCast]
        obtain rfl | rfl | rfl | rfl | rfl | rfl | rfl | rfl | rfl | rfl | rfl | rfl | rfl | rfl | rfl | rfl : x = 0 ∨ x = 1 ∨ x = 2 ∨ x = 3 ∨ x = 4 ∨ x = 5 ∨ x = 6 ∨ x = 7 ∨ x = 8 ∨ x = 9 ∨ x = 10 ∨ x = 11 ∨ x = 12 ∨ x = 13 ∨ x = 14 ∨ x = 15 := by omega
        all_goals rfl
      refine br_cases (fun gb => ?_) (fun gb => ?_)
      · refine hl.push slT_int (by omega) (x := (x : Int)) (show vI.C _ _ (x : Int) [.int .i64 x] from rfl) (by omega) (by omega) fun a' c' w' ho hc hn' => ?_
        refine ⟨16 - (x + 1), by omega, x + 1, by rw [wrap_nat (by omega)], by omega, rfl, by omega, ?_, ext_own eV hc fun j hj => (hl.bk hj).1⟩
        rw [possF_s, gb, if_pos rfl]; exact ho
      · refine ⟨16 - (x + 1), by omega, x + 1, by rw [wrap_nat (by omega)], by omega, rfl, by omega, ?_, eV⟩
        rw [possF_s, gb, if_neg (by simp), List.append_nil]; exact hl
    · obtain rfl : x = 16 := by omega
      have hlen := hl.len
      have hcap := hl.cap
      have hO' := hO.ext eV
      refine hO'.push slT_ints (by omega) (x := possF F k 16) (us := [.slice la ln lc]) ⟨la, lc, by rw [hlen], by omega, ?_⟩ (by omega) (by omega) fun a' c' w' ho hc hn' => ?_
      · rw [← hlen]
        refine hl.out.imp fun j hj _ => ?_
        have hj := hj.elim False.elim id
        have := (hl.bk hj).1
        exact ⟨by omega, fun hh => by have := (hO.bk hh).2; omega⟩
      · refine ⟨n - (k + 1), by omega, k + 1, by rw [wrap_nat (by omega)], by omega, rfl, by omega, ?_, ext_own (ext_trans eW eV) hc fun j hj => (hO.bk hj).1⟩
        rw [List.range_succ, List.map_append]; exact ho
  · obtain rfl : k = n := by omega
    refine h 0 oa on oc W (ext_trans e023 eW) he fun _ => ⟨_, hO.out.imp fun j hj _ => ?_, by simp; omega, fun i hi => ?_⟩
    · rcases hj with hj | hj
      · exact hj
      · have := (hO.bk hj).1; omega
    · rw [getD_at (by simp; omega), List.getElem_map, List.getElem_range]
      exact possF_eq hL (by omega)
set_option maxRecDepth 20000 in
theorem Certain_spec {na ea pa : Option Addr} {nn nc en ec pn pc : Nat} {N : List Nm} {P : List (List Int)} {st : List Int} {a : Option Addr} {n c : Nat} (hN : RowV vS S w na nn N) (hcN : nn ≤ nc) (hP : RowV vIs S w pa pn P) (hb : ∀ s ∈ N, s.length ≤ 4611686018427387904) (hPl : ∀ l ∈ P, l.length ≤ 4611686018427387904)
    (hR : RowV vI S2 w a n st) (hs : n ≤ 4611686018427387904) (hg : conOk N en P st = true → n ≤ 6)
    (h : ∀ (e : Int) (oa : Option Addr) (on oc : Nat) w', Ext w w' → decide (e = 0) = conOk N en P st → (e = 0 → ∃ L, RowV vI (fun k => w.heap.size ≤ k) w' oa on L ∧ L.length = st.length ∧ ∀ i, i < st.length → gI L i = certA P (occ0 st) st (scoreA P (occ0 st) st) i) → R (.returned (.tuple ⟨[.slice oa on oc, .int .i64 e]⟩)) w') :
    Calls Try.prog F_archetype_Certain ⟨[.agg ⟨[.slice na nn nc, .slice ea en ec, .slice pa pn pc]⟩, .slice a n c]⟩ w R := by
  apply c_archetype_Certain
  refine al_intro fun b5 w6 hb5 B5 e6 s6 => ?_
  obtain ⟨x0, x1, x2⟩ := bl3 B5
  refine ⟨_, _, _, x0, _, _, _, x1, _, _, _, x2, ?_⟩
  refine Possible_spec (hN.ext e6) hcN (hP.ext e6) hb hPl (hR.ext e6) hs hg fun e la ln lc w11 e11 he hL => ⟨_, _, _, _, rfl, ?_⟩
  have e011 := ext_trans e6 e11
  refine br_split (fun g => h _ _ _ _ _ e011 he (fun hh => absurd hh g)) (fun g => ?_)
  have g : e = 0 := Decidable.not_not.1 g
  subst g
  obtain ⟨L, hLr, hLl, hLv⟩ := hL rfl
  have he' := he
  rw [decide_eq_true rfl] at he'
  have hn6 := hg he'.symm
  have hrl := hR.1
  have hll := hLr.1
  have z6 := e6.size
  have z11 := e11.size
  refine ⟨fun oa on oc i W m => ∃ (k : Nat) (M : List Int), i = k ∧ k ≤ ln ∧ m = ln - k ∧ on = k ∧ OwnV vI (fun _ => False) 3 w11.heap.size W oa on oc M ∧ (∀ i, i < k → gI M i = certA P (occ0 st) st (scoreA P (occ0 st) st) i) ∧ Ext w11 W,
    ⟨_, 0, [], rfl, by omega, rfl, rfl, OwnV.nil _, fun i hi => by omega, Below.refl _ _⟩, ?_⟩
  rintro oa on oc _ W m ⟨k, M, rfl, hk1, rfl, hon, hO, hM, eW⟩ _
  subst on
  have zW := eW.size
  have hml := hO.len
  refine br_split (fun hlt => ?_) (fun hge => ?_)
  · have hkL : k < L.length := by omega
    obtain ⟨b14, o14, a15, c15, hq, _, _, hc, _, hrow⟩ := (hLr.ext eW).getS (List.getElem?_eq_getElem hkL)
    have hLk : L[k] = possA P (occ0 st) st (scoreA P (occ0 st) st) k := by rw [← hLv k (by omega), getD_at hkL]
    refine hq _ ⟨_, _, _, hc, ?_⟩
    have push : ∀ v : Int, v = certA P (occ0 st) st (scoreA P (occ0 st) st) k → al W 3 [.int .i64 v] fun p24 w25 => app Try.prog [27, 27] 27 (.slice oa k oc) (.slice (some p24) 1 1) w25 fun a26 a26n a26c w27 =>
        ∃ m28 : Nat, m28 < ln - k ∧ ∃ (k' : Nat) (M : List Int), IntKind.i64.wrap ((k : Int) + 1) = k' ∧ k' ≤ ln ∧ m28 = ln - k' ∧ a26n = k' ∧ OwnV vI (fun _ => False) 3 w11.heap.size w27 a26 a26n a26c M ∧ (∀ i, i < k' → gI M i = certA P (occ0 st) st (scoreA P (occ0 st) st) i) ∧ Ext w11 w27 := by
      intro v hv
      refine hO.push slT_int (by omega) (x := v) (show vI.C _ _ v [.int .i64 v] from rfl) (by omega) (by omega) fun a' c' w' ho hc hn' => ?_
      refine ⟨ln - (k + 1), by omega, k + 1, M ++ [v], by rw [wrap_nat (by omega)], by omega, rfl, rfl, ho, fun i hi => ?_, ext_own eW hc fun j hj => (hO.bk hj).1⟩
      by_cases e : i < k
      · rw [← hM i e]
        unfold gI
        rw [List.getD_eq_getElem?_getD, List.getD_eq_getElem?_getD, List.getElem?_append_left (by omega)]
      · obtain rfl : i = k := by omega
        rw [gI_at (by simp; omega), List.getElem_append_right (by omega)]
        simpa using hv
    refine br_split (fun g => ?_) (fun g => ?_)
    · obtain ⟨y, hy⟩ : ∃ y, L[k] = [y] := by
        match hl : L[k], g with
        | [y], _ => exact ⟨y, rfl⟩
        | [], g => simp at g
        | _ :: _ :: _, g => simp at g; omega
      obtain ⟨q2, hq2, d2⟩ := hrow.int (k := 0) (by omega)
      refine hq2 _ ⟨_, d2, push _ ?_⟩
      unfold certA
      rw [← hLk]
      simp only [hy, List.getElem_cons_zero]
    · refine push _ ?_
      unfold certA
      rw [← hLk]
      match hl : L[k], g with
      | [y], g => exact absurd rfl g
      | [], g => rfl
      | _ :: _ :: _, g => rfl
  · obtain rfl : k = ln := by omega
    refine h 0 oa k oc W (ext_trans e011 eW) he fun _ => ⟨M, hO.out.imp fun j hj _ => ?_, by omega, fun i hi => hM i (by omega)⟩
    rcases hj with hj | hj
    · exact hj.elim
    · have := (hO.bk hj).1; omega
end
end Go.Proofs
namespace Go.Proofs
open Go Go.Sh Go.RowKit
/- contamination.Choices; slices.Equal of numbers; the sizes that are looked at -/
def encCh : Enc (Int × Int) := ⟨fun x => [.int .i64 x.1, .int .i64 x.2], 2, fun _ => rfl, by decide, by intro x v hv; simp only [List.mem_cons, List.not_mem_nil, or_false] at hv; rcases hv with rfl | rfl <;> rfl⟩
theorem slT_ch : SlT Try.prog 36 44 2 16 (.agg ⟨[.int .i64 0, .int .i64 0]⟩) := ⟨by kernel_rfl, by kernel_rfl, rfl, by decide⟩
def negF (L : List (Int × Int)) : List (Int × Int) := L.filter fun x => decide (x.2 < 0)
section
variable {R : Ending → World → Prop} {w : World} {S S2 : Nat → Prop}
theorem EqualI_spec {a b : Option Addr} {n c m d : Nat} {L M : List Int} (h1 : RowV vI S w a n L) (h2 : RowV vI S2 w b m M) (hs : n ≤ 4611686018427387904) (h : ∀ w', Ext w w' → R (.returned (.bool (decide (L = M)))) w') :
    Calls Try.prog F_slices_Equal_of_int_int ⟨[.slice a n c, .slice b m d]⟩ w R := by
  apply c_slices_Equal_of_int_int
  have hn := h1.1
  have hm := h2.1
  refine br_split (fun g => ?_) (fun g => ?_)
  · have := h w (Below.refl _ _)
    rw [decide_eq_false (fun hh => g (by rw [hh] at hn; omega))] at this; exact this
  refine ⟨fun i W m' => ∃ k : Nat, i = k ∧ k ≤ n ∧ m' = n - k ∧ L.take k = M.take k ∧ Ext w W, ⟨_, 0, rfl, by omega, rfl, rfl, Below.refl _ _⟩, ?_⟩
  rintro _ W m' ⟨k, rfl, hk, rfl, he, eW⟩ _
  refine br_split (fun hlt => ?_) (fun hge => ?_)
  · have hkL : k < L.length := by omega
    have hkM : k < M.length := by omega
    unfold drw
    have ed := ext_trans eW (ext_drew W)
    generalize W.drew = V at *
    obtain ⟨p, hp, d1⟩ := (h1.ext ed).int hkL
    obtain ⟨q, hq, d2⟩ := (h2.ext ed).int hkM
    refine hp _ ⟨_, d1, hq _ ⟨_, d2, br_split (fun g2 => ?_) (fun g2 => ?_)⟩⟩
    · have := h V ed
      rw [decide_eq_false (fun hh => g2 (by subst hh; rfl))] at this; exact this
    · refine ⟨n - (k + 1), by omega, k + 1, by rw [wrap_nat (by omega)], by omega, rfl, ?_, ed⟩
      rw [take_s hkL, take_s hkM, he, Decidable.not_not.1 g2]
  · rw [List.take_of_length_le (by omega), List.take_of_length_le (by omega)] at he
    have := h W eW
    rw [decide_eq_true he] at this; exact this
set_option maxRecDepth 20000 in
theorem Choices_spec {na ea pa : Option Addr} {nn nc en ec pn pc : Nat} {N : List Nm} {P : List (List Int)} {all : List Int} {a : Option Addr} {n c : Nat} (hN : RowV vS S w na nn N) (hcN : nn ≤ nc) (hP : RowV vIs S w pa pn P) (hb : ∀ s ∈ N, s.length ≤ 4611686018427387904) (hPl : ∀ l ∈ P, l.length ≤ 4611686018427387904)
    (hR : RowV vI S2 w a n all) (hs : n ≤ 4611686018427387904)
    (h : ∀ (e : Int) (oa : Option Addr) (on oc : Nat) w', Ext w w' → decide (e = 0) = (conOk N en P all && !decide ((-1 : Int) ∈ all)) → (e = 0 → ∃ L, RowAt encCh (fun k => w.heap.size ≤ k) w' oa on L ∧ on ≤ 64 ∧ (negF L).length = cntC P all) → R (.returned (.tuple ⟨[.slice oa on oc, .int .i64 e]⟩)) w') :
    Calls Try.prog F_contamination_Choices ⟨[.agg ⟨[.slice na nn nc, .slice ea en ec, .slice pa pn pc]⟩, .slice a n c]⟩ w R := by
  apply c_contamination_Choices
  refine al_intro fun b5 w6 hb5 B5 e6 s6 => ?_
  obtain ⟨x0, x1, x2⟩ := bl3 B5
  refine ⟨_, _, _, x0, _, _, _, x1, _, _, _, x2, ?_⟩
  refine conCheck_spec (S := fun k => S k ∨ S2 k) ((hN.ext e6).imp fun k hk _ => .inl hk) hcN ((hP.ext e6).imp fun k hk _ => .inl hk) hb hPl ((hR.ext e6).imp fun k hk _ => .inr hk) hs fun e w11 e11 he => ⟨_, rfl, ?_⟩
  have e06 := ext_trans e6 e11
  refine br_split (fun g => h _ _ _ _ _ e06 (by rw [← he, decide_eq_false g, Bool.false_and]) (fun hh => absurd hh g)) (fun g => ?_)
  have g : e = 0 := Decidable.not_not.1 g
  subst g
  rw [decide_eq_true rfl] at he
  have hco : stemOk N en P = true ∧ all.length = P.length := by
    have := he
    unfold conOk at this
    have := this.symm
    rw [Bool.and_eq_true, Bool.and_eq_true, decide_eq_true_iff] at this
    exact ⟨this.1, this.2.1⟩
  obtain ⟨hpar, hN0, hN64, hPN⟩ := stem_par hco.1
  have hrl := hR.1
  have hpl := hP.1
  refine ContainsI_spec (-1) (hR.ext e06) hs ⟨_, rfl, br_split (fun g => ?_) (fun g => ?_)⟩
  · exact h 2 _ _ _ _ e06 (by rw [← he, decide_eq_true g]; rfl) (fun hh => absurd hh (by decide))
  obtain ⟨y0, y1, y2⟩ := bl3 (B5.ext e11)
  refine ⟨_, _, _, y2, ?_⟩
  have z6 := e6.size
  have z11 := e11.size
  refine ⟨fun oa on oc i W m => ∃ (k : Nat) (L : List (Int × Int)), i = k ∧ k ≤ pn ∧ m = pn - k ∧ on ≤ k ∧ OwnL encCh W w11.heap.size 44 oa on oc L ∧ (negF L).length = ((List.range k).filter fun i => chg1 all i (P.getD i [])).length ∧ Ext w11 W,
    ⟨_, 0, [], rfl, by omega, rfl, by omega, Owns.nil _ _ _ _, rfl, Below.refl _ _⟩, ?_⟩
  rintro oa on oc _ W m ⟨k, L, rfl, hk1, rfl, hon, hO, hL, eW⟩ _
  have zW := eW.size
  refine br_split (fun hlt => ?_) (fun hge => ?_)
  · have hkP : k < P.length := by omega
    have e0W := ext_trans e06 eW
    obtain ⟨b14, o14, a15, c15, hq, _, _, hc, _, hrow⟩ := (hP.ext e0W).getS (List.getElem?_eq_getElem hkP)
    have gP : P.getD k [] = P[k] := getD_at hkP _
    refine hq _ ⟨_, _, _, hc, br_split (fun g2 => ?_) (fun g2 => ?_)⟩
    · obtain ⟨y0, y1, y2⟩ := bl3 ((B5.ext e11).ext eW)
      refine ⟨_, _, _, y0, _, _, _, y1, _, _, _, y2, ?_⟩
      have hne : P[k] ≠ [] := fun hh => by rw [hh] at g2; simp at g2
      refine choice_spec (S := fun k => S k ∨ S2 k) ((hP.ext e0W).imp fun k hk _ => .inl hk) ((hR.ext e0W).imp fun k hk _ => .inr hk) (by omega) hpar hPl (by omega) fun v w29 e29 hv => ⟨_, rfl, ?_⟩
      refine OwnL.push (E := encCh) slT_ch (Owns.ext hO e29) (by have := e29.size; omega) ((k : Int), v) (by omega) (by omega) fun a' c' w' ho hcc hn' => ?_
      refine ⟨pn - (k + 1), by omega, k + 1, L ++ [((k : Int), v)], by rw [wrap_nat (by omega)], by omega, rfl, by omega, ho, ?_, ext_chgS (ext_trans eW e29) hcc fun j hj => (Owns.bk hO hj).1⟩
      unfold negF at hL ⊢
      rw [List.filter_append, List.length_append, hL, range_filter_s, List.length_append, List.filter_cons, gP]
      have hcg : chg1 all k P[k] = decide (v < 0) := by
        rw [hv, gP]
        unfold chg1
        rw [decide_eq_true hne, Bool.true_and]; rfl
      rw [hcg]
      show _ + (if decide (v < 0) = true then [((k : Int), v)] else []).length = _
      by_cases hv0 : v < 0
      · simp [hv0]
      · simp [hv0]
    · have hne : P[k] = [] := List.eq_nil_of_length_eq_zero (by omega)
      refine ⟨pn - (k + 1), by omega, k + 1, L, by rw [wrap_nat (by omega)], by omega, rfl, by omega, hO, ?_, eW⟩
      rw [hL, range_filter_s, gP, hne]
      show _ = (_ ++ (if chg1 all k [] = true then [k] else [])).length
      rw [show chg1 all k [] = false from rfl]; simp
  · have hkn : k = P.length := by omega
    subst hkn
    refine h 0 oa on oc W (ext_trans e06 eW) (by rw [← he, decide_eq_false g]; rfl) fun _ => ⟨L, (OwnL.out hO).imp fun j hj _ => ?_, by omega, hL⟩
    have := (Owns.bk hO hj).1; omega
set_option maxRecDepth 20000 in
theorem Great36_spec {na ea pa : Option Addr} {nn nc en ec pn pc : Nat} {N : List Nm} {P : List (List Int)} (hN : RowV vS S w na nn N) (hP : RowV vIs S w pa pn P) (hn1 : nn ≤ 4611686018427387904) (hn2 : pn ≤ 4611686018427387904)
    (h : ∀ b w', Ext w w' → (b = false → (∀ s ∈ N, s.length ≤ 20) ∧ (∀ l ∈ P, l.length ≤ 8) ∧ (nn ≤ 6 ∨ 64 < nn)) → R (.returned (.bool b)) w') :
    Calls Try.prog F_ref36_Great ⟨[.agg ⟨[.slice na nn nc, .slice ea en ec, .slice pa pn pc]⟩, .int .i64 6]⟩ w R := by
  apply c_ref36_Great
  have hnl := hN.1
  have hpl := hP.1
  refine al_intro fun b5 w6 hb5 B5 e6 s6 => ?_
  obtain ⟨x0, x1, x2⟩ := bl3 B5
  have tt : ∀ w', Ext w w' → R (.returned (.bool true)) w' := fun w' e' => h true w' e' (fun hh => by cases hh)
  refine ⟨fun i W m => ∃ k : Nat, i = k ∧ k ≤ nn ∧ m = nn - k ∧ (∀ s ∈ N.take k, s.length ≤ 20) ∧ W = w6, ⟨_, 0, rfl, by omega, rfl, fun s hs => by simp at hs, rfl⟩, ?_⟩
  rintro _ W m ⟨k, rfl, hk1, rfl, hsm, rfl⟩ _
  refine ⟨_, _, _, x0, br_split (fun hlt => ?_) (fun hge => ?_)⟩
  · have hkN : k < N.length := by omega
    obtain ⟨q, hq, d⟩ := (hN.ext e6).str hkN
    refine ⟨_, _, _, x0, hq _ ⟨_, d, br_split (fun _ => tt _ e6) (fun g => ?_)⟩⟩
    refine ⟨nn - (k + 1), by omega, k + 1, by rw [wrap_nat (by omega)], by omega, rfl, fun s hs => ?_, rfl⟩
    rw [take_s hkN, List.mem_append, List.mem_singleton] at hs
    rcases hs with hs | rfl
    · exact hsm s hs
    · omega
  · rw [List.take_of_length_le (by omega)] at hsm
    refine ⟨fun i V m => ∃ k : Nat, i = k ∧ k ≤ pn ∧ m = pn - k ∧ (∀ s ∈ P.take k, s.length ≤ 8) ∧ V = W, ⟨_, 0, rfl, by omega, rfl, fun s hs => by simp at hs, rfl⟩, ?_⟩
    rintro _ V m ⟨j, rfl, hj1, rfl, hsp, rfl⟩ _
    refine ⟨_, _, _, x2, br_split (fun hlt => ?_) (fun hge2 => ?_)⟩
    · have hjP : j < P.length := by omega
      obtain ⟨b14, o14, a15, c15, hq, _, _, hc, _, hrow⟩ := (hP.ext e6).getS (List.getElem?_eq_getElem hjP)
      refine ⟨_, _, _, x2, hq _ ⟨_, _, _, hc, br_split (fun _ => tt _ e6) (fun g => ?_)⟩⟩
      refine ⟨pn - (j + 1), by omega, j + 1, by rw [wrap_nat (by omega)], by omega, rfl, fun s hs => ?_, rfl⟩
      rw [take_s hjP, List.mem_append, List.mem_singleton] at hs
      rcases hs with hs | rfl
      · exact hsp s hs
      · omega
    · rw [List.take_of_length_le (by omega)] at hsp
      refine ⟨_, _, _, x0, br_split (fun g1 => ?_) (fun g1 => ?_)⟩
      · refine ⟨_, _, _, x0, br_split (fun _ => tt _ e6) (fun g2 => ?_)⟩
        refine ⟨_, _, _, x0, br_split (fun _ => tt _ e6) (fun g3 => ?_)⟩
        refine ⟨_, _, _, x1, _, _, _, x0, br_split (fun _ => tt _ e6) (fun g4 => ?_)⟩
        exact ⟨_, _, _, x2, _, _, _, x0, h _ _ e6 fun _ => ⟨hsm, hsp, by omega⟩⟩
      · refine ⟨_, _, _, x0, br_split (fun _ => tt _ e6) (fun g3 => ?_)⟩
        refine ⟨_, _, _, x1, _, _, _, x0, br_split (fun _ => tt _ e6) (fun g4 => ?_)⟩
        exact ⟨_, _, _, x2, _, _, _, x0, h _ _ e6 fun _ => ⟨hsm, hsp, by omega⟩⟩
set_option maxRecDepth 20000 in
theorem Great38_spec {na ea pa a : Option Addr} {nn nc en ec pn pc n c : Nat} {N : List Nm} {P : List (List Int)} {st : List Int} (hN : RowV vS S w na nn N) (hP : RowV vIs S w pa pn P) (hR : RowV vI S2 w a n st) (hn1 : nn ≤ 4611686018427387904) (hn2 : pn ≤ 4611686018427387904) (hn3 : n ≤ 4611686018427387904)
    (h : ∀ b w', Ext w w' → (b = false → (∀ s ∈ N, s.length ≤ 20) ∧ (∀ l ∈ P, l.length ≤ 8) ∧ (nn ≤ 6 ∨ 64 < nn)) → R (.returned (.bool b)) w') :
    Calls Try.prog F_ref38_Great ⟨[.agg ⟨[.slice na nn nc, .slice ea en ec, .slice pa pn pc]⟩, .slice a n c]⟩ w R := by
  apply c_ref38_Great
  have hrl := hR.1
  refine al_intro fun b5 w6 hb5 B5 e6 s6 => ?_
  obtain ⟨x0, x1, x2⟩ := bl3 B5
  have tt : ∀ w', Ext w w' → R (.returned (.bool true)) w' := fun w' e' => h true w' e' (fun hh => by cases hh)
  refine ⟨fun kinds x W m => ∃ j q : Nat, x = j ∧ kinds = q ∧ q ≤ j ∧ j ≤ 16 ∧ m = 16 - j ∧ W = w6, ⟨_, 0, 0, rfl, rfl, by omega, by omega, rfl, rfl⟩, ?_⟩
  rintro _ _ W m ⟨j, q, rfl, rfl, hqj, hj, rfl, rfl⟩ _
  refine br_split (fun hlt => ?_) (fun hge => ?_)
  · refine ⟨fun kinds i V m' => ∃ k : Nat, i = k ∧ kinds = q ∧ k ≤ n ∧ m' = n - k ∧ V = W, ⟨_, 0, rfl, rfl, by omega, rfl, rfl⟩, ?_⟩
    rintro _ _ V m' ⟨k, rfl, rfl, hk, rfl, rfl⟩ _
    refine br_split (fun hlt2 => ?_) (fun _ => ?_)
    · obtain ⟨p, hp, d⟩ := (hR.ext e6).int (k := k) (by omega)
      refine hp _ ⟨_, d, br_split (fun _ => ?_) (fun _ => ?_)⟩
      · exact ⟨16 - (j + 1), by omega, j + 1, q + 1, by rw [wrap_nat (by omega)], by rw [wrap_nat (by omega)], by omega, by omega, rfl, rfl⟩
      · exact ⟨n - (k + 1), by omega, k + 1, by rw [wrap_nat (by omega)], rfl, by omega, rfl, rfl⟩
    · exact ⟨16 - (j + 1), by omega, j + 1, q, by rw [wrap_nat (by omega)], rfl, by omega, by omega, rfl, rfl⟩
  · refine ⟨fun u i V m' => ∃ k q : Nat, i = k ∧ u = q ∧ q ≤ k ∧ k ≤ n ∧ m' = n - k ∧ V = W, ⟨_, 0, 0, rfl, rfl, by omega, by omega, rfl, rfl⟩, ?_⟩
    rintro _ _ V m' ⟨k, u, rfl, rfl, hu, hk, rfl, rfl⟩ _
    refine br_split (fun hlt2 => ?_) (fun _ => ?_)
    · obtain ⟨p, hp, d⟩ := (hR.ext e6).int (k := k) (by omega)
      refine hp _ ⟨_, d, br_split (fun _ => ?_) (fun _ => ?_)⟩
      · exact ⟨n - (k + 1), by omega, k + 1, u + 1, by rw [wrap_nat (by omega)], by rw [wrap_nat (by omega)], by omega, by omega, rfl, rfl⟩
      · exact ⟨n - (k + 1), by omega, k + 1, u, by rw [wrap_nat (by omega)], rfl, by omega, by omega, rfl, rfl⟩
    · refine ⟨_, _, _, x0, _, _, _, x1, _, _, _, x2, ?_⟩
      refine Great36_spec (hN.ext e6) (hP.ext e6) hn1 hn2 fun b w38 e38 hb => ⟨_, rfl, ?_⟩
      have e038 := ext_trans e6 e38
      refine br_cases (fun gb => tt _ e038) (fun gb => ?_)
      have hf := hb gb
      obtain ⟨y0, y1, y2⟩ := bl3 (B5.ext e38)
      refine br_split (fun _ => tt _ e038) (fun _ => ⟨_, _, _, y0, ?_⟩)
      have last : br (decide ((3 : Int) < (q : Int))) (br (decide ((3 : Int) < (u : Int))) (R (.returned (.bool (decide ((u : Int) < 17)))) w38) (R (.returned (.bool false)) w38)) (R (.returned (.bool false)) w38) :=
        br_split (fun _ => br_split (fun _ => h _ _ e038 fun _ => hf) (fun _ => h _ _ e038 fun _ => hf)) (fun _ => h _ _ e038 fun _ => hf)
      exact br_split (fun _ => br_split (fun _ => tt _ e038) (fun _ => last)) (fun _ => last)
end
end Go.Proofs
namespace Go.Proofs
open Go Go.Sh Go.RowKit
/- the example; the law TopArchetype -/
theorem rowAt_blk {α : Type} {E : Enc α} {w : World} {b : Nat} {l : List α} {T : TypeId} (h : Blk w b (E.row l) T) : RowAt E (fun k => k = b) w (some ⟨b, 0, none⟩) l.length l :=
  ⟨rfl, .inr ⟨b, 0, rfl, rfl, h.lt, fun j v hj => by rw [Nat.zero_add, h.cell]; exact hj⟩⟩
def exN : List Nm := [[120], [65], [66], [67]]
def exP : List (List Int) := [[], [0], [0], [0]]
def exS : List Int := [-1, 1, 1, 0]
theorem ex_ok : conOk exN 4 exP exS = true := by decide +kernel
theorem ex_score : scoreA exP (occ0 exS) exS = 1 := by decide +kernel
theorem ex_cert : (List.range 4).map (certA exP (occ0 exS) exS 1) = [1, 1, 1, 0] := by decide +kernel
def encU8 : Enc UInt8 := ⟨fun b => [.int .u8 b.toNat], 1, fun _ => rfl, by decide, by intro x v hv; simp only [List.mem_singleton] at hv; subst hv; rfl⟩
theorem tmodN (a b : Nat) : Int.tmod (a : Int) (b : Int) = ((a % b : Nat) : Int) := rfl
theorem negF_len_take {L : List (Int × Int)} {k : Nat} (hk : k < L.length) : (negF (L.take (k + 1))).length = (negF (L.take k)).length + if L[k].2 < 0 then 1 else 0 := by
  unfold negF
  rw [take_s hk, List.filter_append, List.length_append, List.filter_cons]
  by_cases h : L[k].2 < 0 <;> simp [h]
theorem occ0_range {st : List Int} (h16 : ∀ x ∈ st, x < 16) : ∀ x ∈ occ0 st, 0 ≤ x ∧ x < 16 := by
  intro x hx
  have hv := (mem_occ0 (st := st) (v := occF [] st) (fun x => by rw [mem_occF]; simp) x).1 hx
  split at hv
  · rw [List.mem_singleton] at hv; omega
  · rw [mem_occF] at hv
    rcases hv with hv | hv
    · cases hv
    · exact ⟨hv.1, h16 _ hv.2⟩
section
variable {R : Ending → World → Prop} {w : World}
set_option maxRecDepth 20000 in
theorem awake39_spec (h : ∀ w', Ext w w' → R (.returned (.bool true)) w') : Calls Try.prog F_apographtop_top39Awake ⟨[]⟩ w R := by
  apply c_apographtop_top39Awake
  refine al_intro fun b1 w2 hb1 B1 e2 s2 => al_intro fun b3 w4 hb3 B3 e4 s4 => al_intro fun b5 w6 hb5 B5 e6 s6 => al_intro fun b7 w8 hb7 B7 e8 s8 => al_intro fun b9 w10 hb9 B9 e10 s10 => al_intro fun b11 w12 hb11 B11 e12 s12 => ?_
  refine al_intro fun b13 w14 hb13 B13 e14 s14 => ?_
  refine stL_blk B13 (by simp) (by intro v hv; simp only [List.mem_cons, List.not_mem_nil, or_false] at hv; rcases hv with rfl | rfl | rfl <;> rfl) fun w15 C13 hx1 hx2 hx3 hx4 hx5 => ?_
  have hc15 : Chg (fun k => k = b13) w14 w15 := ⟨hx3, hx4, hx5, by omega, fun j _ hj => hx1 j hj⟩
  have e15 : Ext w12 w15 := ext_chgS e14 hc15 fun k hk => by omega
  have C13' : Blk w15 b13 [.slice (some ⟨b1, 0, none⟩) 4 4, .slice (some ⟨b3, 0, none⟩) 4 4, .slice (some ⟨b11, 0, none⟩) 4 4] 26 := C13
  have e215 := ext_trans e4 (ext_trans e6 (ext_trans e8 (ext_trans e10 (ext_trans e12 e15))))
  have e015 := ext_trans e2 e215
  have hN : RowV vS (fun _ => True) w15 (some ⟨b1, 0, none⟩) 4 exN := rowV_enc.2 ((rowAt_blk (E := Sh.encStr) (l := exN) (B1.ext e215)).imp fun _ _ _ => trivial)
  have one : ∀ {b : Nat}, Blk w15 b [.int .i64 0] 3 → RowV vI (fun _ => True) w15 (some ⟨b, 0, none⟩) 1 [(0 : Int)] := fun hb => rowV_enc.2 ((rowAt_blk (E := Sh.encI) (l := [(0 : Int)]) hb).imp fun _ _ _ => trivial)
  have h5 := one (B5.ext (ext_trans e8 (ext_trans e10 (ext_trans e12 e15))))
  have h7 := one (B7.ext (ext_trans e10 (ext_trans e12 e15)))
  have h9 := one (B9.ext (ext_trans e12 e15))
  have hP : RowV vIs (fun _ => True) w15 (some ⟨b11, 0, none⟩) 4 exP := by
    have D11 := B11.ext e15
    refine ⟨rfl, [.slice none 0 0, .slice (some ⟨b5, 0, none⟩) 1 1, .slice (some ⟨b7, 0, none⟩) 1 1, .slice (some ⟨b9, 0, none⟩) 1 1], .inr ⟨b11, 0, rfl, trivial, D11.lt, fun j v hj => by rw [Nat.zero_add, D11.cell]; exact hj⟩, ?_⟩
    refine ⟨[.slice none 0 0], _, rfl, ⟨none, 0, rfl, Nat.le_refl _, RowV.nil _⟩, [.slice (some ⟨b5, 0, none⟩) 1 1], _, rfl, ⟨_, 1, rfl, Nat.le_refl _, h5⟩, [.slice (some ⟨b7, 0, none⟩) 1 1], _, rfl, ⟨_, 1, rfl, Nat.le_refl _, h7⟩, [.slice (some ⟨b9, 0, none⟩) 1 1], [], rfl, ⟨_, 1, rfl, Nat.le_refl _, h9⟩, rfl⟩
  have hb : ∀ s ∈ exN, s.length ≤ 4611686018427387904 := by decide
  have hPl : ∀ l ∈ exP, l.length ≤ 4611686018427387904 := by decide
  obtain ⟨x0, x1, x2⟩ := bl3 C13'
  refine ⟨_, _, _, x0, _, _, _, x1, _, _, _, x2, ?_⟩
  refine al_intro fun b19 w20 hb19 B19 e20 s20 => ?_
  have hS : RowV vI (fun _ => True) w20 (some ⟨b19, 0, none⟩) 4 exS := rowV_enc.2 ((rowAt_blk (E := Sh.encI) (l := exS) B19).imp fun _ _ _ => trivial)
  refine Certain_spec (hN.ext e20) (by decide) (hP.ext e20) hb hPl hS (by decide) (fun _ => by decide) fun e la ln lc w22 e22 he hL => ⟨_, _, _, _, rfl, ?_⟩
  rw [ex_ok, decide_eq_true_iff] at he
  obtain ⟨L, hL1, hL2, hL3⟩ := hL he
  have hLe : L = [1, 1, 1, 0] := by
    have hm := ex_cert
    rw [ex_score] at hL3
    rw [← hm]
    refine List.ext_getElem (by rw [hL2]; simp [exS]) fun j h1 h2 => ?_
    rw [List.getElem_map, List.getElem_range, ← hL3 j (by rw [← hL2]; exact h1), gI_at h1]
  have e1522 := ext_trans e20 e22
  obtain ⟨y0, y1, y2⟩ := bl3 (C13'.ext e1522)
  refine ⟨_, _, _, y0, _, _, _, y1, _, _, _, y2, ?_⟩
  refine al_intro fun b28 w29 hb28 B28 e29 s29 => ?_
  have hS2 : RowV vI (fun _ => True) w29 (some ⟨b28, 0, none⟩) 4 exS := rowV_enc.2 ((rowAt_blk (E := Sh.encI) (l := exS) B28).imp fun _ _ _ => trivial)
  have e1529 := ext_trans e1522 e29
  refine Score_spec (hN.ext e1529) (by decide) (hP.ext e1529) hb hPl hS2 (by decide) (fun _ => by decide) fun e' v w31 e31 he' hv => ⟨_, _, rfl, ?_⟩
  rw [ex_ok, decide_eq_true_iff] at he'
  have hv := hv he'
  rw [ex_score] at hv
  obtain rfl : v = 1 := hv
  subst he he'
  refine br_pos rfl (br_pos rfl (br_pos rfl ?_))
  refine al_intro fun b34 w35 hb34 B34 e35 s35 => ?_
  have hS3 : RowV vI (fun _ => True) w35 (some ⟨b34, 0, none⟩) 4 [1, 1, 1, 0] := rowV_enc.2 ((rowAt_blk (E := Sh.encI) (l := [1, 1, 1, 0]) B34).imp fun _ _ _ => trivial)
  refine EqualI_spec (hL1.ext (ext_trans e29 (ext_trans e31 e35))) hS3 (by have := hL1.1; rw [hLe] at this; simp at this; omega) fun w37 e37 => ⟨_, rfl, ?_⟩
  rw [decide_eq_true hLe]
  exact h w37 (ext_trans e015 (ext_trans e1529 (ext_trans e31 (ext_trans e35 e37))))
set_option maxRecDepth 20000 in
theorem TopArchetype_spec {na ea pa a ka : Option Addr} {nn nc en ec pn pc n c kn kc : Nat} (N : List Nm) (P : List (List Int)) (st : List Int) (K : List UInt8) (hNl : N.length ≤ 140737488355328) (hPn : P.length ≤ 140737488355328) (hSl : st.length ≤ 140737488355328) (hcN : nn ≤ nc)
    (hN : RowAt Sh.encStr (fun _ => True) w na nn N) (hP : RowV vIs (fun _ => True) w pa pn P) (hR : RowAt Sh.encI (fun _ => True) w a n st) (hK : RowAt encU8 (fun _ => True) w ka kn K)
    (h : ∀ w', Ext w w' → R (.returned (.bool true)) w') :
    Calls Try.prog F_apographtop_TopArchetype ⟨[.agg ⟨[.slice na nn nc, .slice ea en ec, .slice pa pn pc]⟩, .slice a n c, .slice ka kn kc]⟩ w R := by
  apply c_apographtop_TopArchetype
  have hN : RowV vS (fun _ => True) w na nn N := rowV_enc.2 hN
  have hR : RowV vI (fun _ => True) w a n st := rowV_enc.2 hR
  have hnl := hN.1
  have hpl := hP.1
  have hrl := hR.1
  refine al_intro fun b6 w7 hb6 B6 e7 s7 => ?_
  obtain ⟨x0, x1, x2⟩ := bl3 B6
  have aw : ∀ V, Ext w V → Calls Try.prog 6 ⟨[]⟩ V fun (e17 : Ending) (w18 : World) => ∃ (x19 : Bool), e17 = .returned (.bool x19) ∧ (R (.returned (.bool x19)) w18) := fun V eV =>
    awake39_spec fun w' e' => ⟨_, rfl, h w' (ext_trans eV e')⟩
  intro K8 hK8
  have k8 : ∀ V, Ext w7 V → (∀ s ∈ N, s.length ≤ 20) → (∀ l ∈ P, l.length ≤ 8) → (nn ≤ 6 ∨ 64 < nn) → K8 V := by
    intro V eV h20 h8 h6
    refine hK8 V fun _ => ?_
    have hb : ∀ s ∈ N, s.length ≤ 4611686018427387904 := fun s hs => by have := h20 s hs; omega
    have hPl : ∀ l ∈ P, l.length ≤ 4611686018427387904 := fun s hs => by have := h8 s hs; omega
    have hg : conOk N en P st = true → n ≤ 6 := by
      intro hc
      unfold conOk at hc
      rw [Bool.and_eq_true, Bool.and_eq_true, decide_eq_true_iff] at hc
      obtain ⟨_, h1, h2, h3⟩ := stem_par hc.1
      omega
    have e0V := ext_trans e7 eV
    obtain ⟨y0, y1, y2⟩ := bl3 (B6.ext eV)
    refine ⟨_, _, _, y0, _, _, _, y1, _, _, _, y2, ?_⟩
    refine Score_spec (hN.ext e0V) hcN (hP.ext e0V) hb hPl (hR.ext e0V) (by omega) hg fun e v w14 e14 he hv => ⟨_, _, rfl, ?_⟩
    have e014 := ext_trans e0V e14
    refine br_split (fun _ => aw _ e014) (fun g => ?_)
    have g : e = 0 := Decidable.not_not.1 g
    subst g
    have hv := hv rfl
    subst hv
    rw [decide_eq_true rfl] at he
    have hcon := he.symm
    have hn6 := hg hcon
    have hco : stemOk N en P = true ∧ st.length = P.length ∧ st.any stBad = false := by
      have := hcon
      unfold conOk at this
      rw [Bool.and_eq_true, Bool.and_eq_true, decide_eq_true_iff] at this
      exact ⟨this.1, this.2.1, by simpa using this.2.2⟩
    have h16 : ∀ x ∈ st, x < 16 := fun x hx => by
      have := List.any_eq_false.1 hco.2.2 x hx
      unfold stBad at this
      rw [Bool.or_eq_true, decide_eq_true_iff, decide_eq_true_iff, not_or] at this
      omega
    have hocc := occ0_range h16
    have z14 := e014.size
    refine ⟨fun oa on oc i W m => ∃ k : Nat, i = k ∧ k ≤ n ∧ m = n - k ∧ on ≤ k ∧ OwnV vI (fun _ => False) 3 w14.heap.size W oa on oc (occF [] (st.take k)) ∧ Ext w14 W, ⟨_, 0, rfl, by omega, rfl, by omega, OwnV.nil _, Below.refl _ _⟩, ?_⟩
    rintro oa on oc _ W m ⟨k, rfl, hk1, rfl, hon, hO, eW⟩ _
    have zW := eW.size
    refine br_split (fun hlt => ?_) (fun hge => ?_)
    · have hkl : k < st.length := by omega
      obtain ⟨q, hq1, d⟩ := (hR.ext (ext_trans e014 eW)).int hkl
      refine hq1 _ ⟨_, d, ?_⟩
      intro K28 hK28
      have k28 : ∀ b : Bool, b = decide (0 ≤ st[k] ∧ st[k] ∉ occF [] (st.take k)) → K28 b W := by
        intro b hb
        refine hK28 _ _ fun _ => br_cases (fun gb => ?_) (fun gb => ?_)
        · rw [gb] at hb
          refine hO.push slT_int (by omega) (x := st[k]) (show vI.C _ _ st[k] [.int .i64 st[k]] from rfl) (by omega) (by omega) fun a' c' w' ho hc hn' => ?_
          refine ⟨n - (k + 1), by omega, k + 1, by rw [wrap_nat (by omega)], by omega, rfl, by omega, ?_, ext_own eW hc fun j hj => (hO.bk hj).1⟩
          rw [take_s hkl, occF_snoc, if_pos (of_decide_eq_true hb.symm)]; exact ho
        · rw [gb] at hb
          refine ⟨n - (k + 1), by omega, k + 1, by rw [wrap_nat (by omega)], by omega, rfl, by omega, ?_, eW⟩
          rw [take_s hkl, occF_snoc, if_neg (of_decide_eq_false hb.symm)]; exact hO
      refine br_split (fun g => ?_) (fun g => ?_)
      · refine ContainsI_spec st[k] hO.out (by omega) ⟨_, rfl, k28 _ ?_⟩
        by_cases hm : st[k] ∈ occF [] (st.take k) <;> simp [hm, g]
      · refine k28 _ ?_
        simp [g]
    · obtain rfl : k = n := by omega
      rw [List.take_of_length_le (by omega)] at hO
      have hol := hO.len
      intro K40 hK40
      have k40 : ∀ (V : World) (ob : Option Addr) (om oe : Nat), RowV vI (fun j => j < V.heap.size) V ob om (occ0 st) → Ext w14 V → om ≤ 1000000 → K40 ob om oe V := by
        intro V ob om oe hOV eV2 hom
        refine hK40 _ _ _ _ fun _ => ?_
        have hol2 := hOV.1
        have hop : 0 < (occ0 st).length := List.length_pos_iff.2 (occ0_ne st)
        have e0V2 := ext_trans e014 eV2
        refine CloneI_spec (hR.ext e0V2) (by omega) fun aa ac w44 hA e44 => ⟨_, _, _, rfl, ?_⟩
        have z44 := e44.size
        have hA44 : OwnL Sh.encI w44 V.heap.size 3 aa k ac st := ownV_enc.1 hA
        have haa : ∀ j, bk aa j → V.heap.size ≤ j := fun j hj => (hA.bk hj).1
        refine ⟨fun i W m => ∃ (j : Nat) (M : List Int), i = j ∧ j ≤ k ∧ m = k - j ∧ OwnL Sh.encI W V.heap.size 3 aa k ac M ∧ (∀ q, q < j → okA1 (occ0 st) (gI st q) (gI M q)) ∧ (∀ q, j ≤ q → gI M q = gI st q) ∧ Ext V W, ⟨_, 0, st, rfl, by omega, rfl, hA44, fun q hq => by omega, fun _ _ => rfl, e44⟩, ?_⟩
        rintro _ W2 m ⟨j, M, rfl, hj1, rfl, hM, hM1, hM2, eW2⟩ _
        have hml := OwnL.length hM
        have hlM := OwnL.length hM
        refine br_split (fun hlt2 => ?_) (fun hge2 => ?_)
        · have hjM : j < M.length := by omega
          obtain ⟨q, hq, d⟩ := getI (OwnL.out hM) hjM
          have hMj : M[j] = gI st j := by rw [← hM2 j (Nat.le_refl _), gI_at hjM]
          refine hq _ ⟨_, d, br_split (fun g => ?_) (fun g => ?_)⟩
          · obtain ⟨q0, hq0, d0⟩ := (hOV.ext eW2).int (k := 0) hop
            refine hq0 _ ⟨_, d0, ?_⟩
            obtain ⟨gg, hgg, hi1, hst1⟩ := OwnL.store hM (i := j) (by omega) (occ0 st)[0]
            refine hi1 _ (hst1 _ fun w56 h56 c56 s56 => ?_)
            have e56 : Ext V w56 := ext_chgS eW2 c56 haa
            have okn : ∀ (N' : List Int) (v : Int), N' = M.set j v → v ∈ occ0 st → (∀ q, q < j + 1 → okA1 (occ0 st) (gI st q) (gI N' q)) ∧ ∀ q, j + 1 ≤ q → gI N' q = gI st q := by
              rintro _ v rfl hv
              refine ⟨fun q hq => ?_, fun q hq => ?_⟩
              · rw [gI_set hjM]
                by_cases e : q = j
                · rw [if_pos e, e]
                  unfold okA1
                  rw [if_neg (by rw [← hMj]; omega)]; exact hv
                · rw [if_neg e]; exact hM1 q (by omega)
              · rw [gI_set hjM, if_neg (by omega)]; exact hM2 q (by omega)
            refine br_split (fun g2 => ?_) (fun g2 => ?_)
            · have hKl := hK.1
              have hjK : j < K.length := by omega
              obtain ⟨bq, oq, hq3, _, _, d3⟩ := (rowV_enc.2 (hK.ext (ext_trans e0V2 e56)) : RowV (View.enc encU8) _ w56 ka kn K).get1 (List.getElem?_eq_getElem hjK) (v := .int .u8 (K[j].toNat : Int)) rfl
              refine hq3 _ ⟨_, d3, ⟨by omega, ?_⟩⟩
              have h256 := K[j].toNat_lt
              rw [wrap_id (by omega), tmodN]
              have hmod : K[j].toNat % om < (occ0 st).length := by rw [← hol2]; exact Nat.mod_lt _ (by omega)
              obtain ⟨q4, hq4, d4⟩ := (hOV.ext e56).int hmod
              refine hq4 _ ⟨_, d4, ?_⟩
              obtain ⟨gg2, hgg2, hi2, hst2⟩ := OwnL.store h56 (i := j) (by omega) (occ0 st)[K[j].toNat % om]
              refine hi2 _ (hst2 _ fun w62 h62 c62 s62 => ?_)
              rw [List.set_set] at h62
              obtain ⟨o1, o2⟩ := okn _ _ rfl (List.getElem_mem hmod)
              exact ⟨k - (j + 1), by omega, j + 1, _, by rw [wrap_nat (by omega)], by omega, rfl, h62, o1, o2, ext_chgS e56 c62 haa⟩
            · obtain ⟨o1, o2⟩ := okn _ _ rfl (List.getElem_mem hop)
              exact ⟨k - (j + 1), by omega, j + 1, _, by rw [wrap_nat (by omega)], by omega, rfl, h56, o1, o2, e56⟩
          · refine ⟨k - (j + 1), by omega, j + 1, M, by rw [wrap_nat (by omega)], by omega, rfl, hM, fun q hq => ?_, fun q hq => hM2 q (by omega), eW2⟩
            by_cases e : q = j
            · rw [e, hM2 j (Nat.le_refl _)]
              unfold okA1
              rw [if_pos (by rw [← hMj]; omega)]
            · exact hM1 q (by omega)
        · obtain rfl : j = k := by omega
          have hisA : isA (occ0 st) st M := isA_iff.2 ⟨by omega, fun q hq => hM1 q (by omega)⟩
          have hMr : ∀ x ∈ M, 0 ≤ x ∧ x < 16 := by
            intro x hx
            obtain ⟨q, hq, rfl⟩ := gI_mem.1 hx
            have h1 := hM1 q (by omega)
            unfold okA1 at h1
            by_cases hs : 0 ≤ gI st q
            · rw [if_pos hs] at h1
              rw [h1]
              exact ⟨hs, by rw [gI_at (show q < st.length by omega)]; exact h16 _ (List.getElem_mem _)⟩
            · rw [if_neg hs] at h1; exact hocc _ h1
          have hconM : (conOk N en P M && !decide ((-1 : Int) ∈ M)) = true := by
            unfold conOk
            rw [hco.1, decide_eq_true (show M.length = P.length by omega), decide_eq_false (fun hh => by have := hMr _ hh; omega)]
            have : M.any stBad = false := by
              rw [List.any_eq_false]
              intro x hx
              have := hMr x hx
              unfold stBad
              rw [decide_eq_false (by omega), decide_eq_false (by omega)]; simp
            rw [this]; rfl
          have e0W2 := ext_trans e0V2 eW2
          have e7W2 := ext_trans (ext_trans (ext_trans eV e14) eV2) eW2
          have hMr2 : RowV vI (bk aa) W2 aa j M := rowV_enc.2 (OwnL.out hM)
          obtain ⟨y0, y1, y2⟩ := bl3 (B6.ext e7W2)
          refine ⟨_, _, _, y0, _, _, _, y1, _, _, _, y2, ?_⟩
          refine Choices_spec (hN.ext e0W2) hcN (hP.ext e0W2) hb hPl hMr2 (by omega) fun e1 ca cn cc w70 e70 he1 hL1 => ⟨_, _, _, _, rfl, ?_⟩
          rw [hconM, decide_eq_true_iff] at he1
          subst he1
          obtain ⟨L1, hL1a, hL1n, hL1b⟩ := hL1 rfl
          have e070 := ext_trans e0W2 e70
          obtain ⟨y0, y1, y2⟩ := bl3 (B6.ext (ext_trans e7W2 e70))
          refine ⟨_, _, _, y0, _, _, _, y1, _, _, _, y2, ?_⟩
          refine Possible_spec (hN.ext e070) hcN (hP.ext e070) hb hPl (hR.ext e070) (by omega) hg fun e2 da dn dc w77 e77 he2 hL2 => ⟨_, _, _, _, rfl, ?_⟩
          rw [hcon, decide_eq_true_iff] at he2
          subst he2
          obtain ⟨L2, hL2a, hL2n, hL2b⟩ := hL2 rfl
          have e077 := ext_trans e070 e77
          obtain ⟨y0, y1, y2⟩ := bl3 (B6.ext (ext_trans (ext_trans e7W2 e70) e77))
          refine ⟨_, _, _, y0, _, _, _, y1, _, _, _, y2, ?_⟩
          refine Certain_spec (hN.ext e077) hcN (hP.ext e077) hb hPl (hR.ext e077) (by omega) hg fun e3 ga gn gc w84 e84 he3 hL3 => ⟨_, _, _, _, rfl, ?_⟩
          rw [hcon, decide_eq_true_iff] at he3
          subst he3
          obtain ⟨L3, hL3a, hL3n, hL3b⟩ := hL3 rfl
          have e084 := ext_trans e077 e84
          have hl1 := hL1a.1
          have hl2 := hL2a.1
          have hl3 := hL3a.1
          intro K87 hK87
          have k87 : K87 w84 := by
            refine hK87 _ fun _ => ?_
            refine ⟨fun ch i V m => ∃ q : Nat, i = q ∧ ch = ((negF (L1.take q)).length : Int) ∧ q ≤ cn ∧ m = cn - q ∧ Ext w84 V, ⟨_, 0, rfl, rfl, by omega, rfl, Below.refl _ _⟩, ?_⟩
            rintro _ _ V3 m ⟨q, rfl, rfl, hq, rfl, eV3⟩ _
            have hneg : (negF (L1.take q)).length ≤ q := by
              unfold negF
              refine Nat.le_trans (List.length_filter_le _ _) ?_
              rw [List.length_take]; omega
            refine br_split (fun hlt3 => ?_) (fun hge3 => ?_)
            · have hqL : q < L1.length := by omega
              obtain ⟨bq, oq, hq1, _, _, hd⟩ := (hL1a.ext (ext_trans (ext_trans e77 e84) eV3)).get (List.getElem?_eq_getElem hqL)
              have d0 := hd 0 _ rfl
              have d1 := hd 1 _ rfl
              refine hq1 _ ⟨_, d0, _, d1, ?_⟩
              refine al_stL (by simp) (by intro v hv; simp only [List.mem_cons, List.not_mem_nil, or_false] at hv; rcases hv with rfl | rfl <;> rfl) fun b98 w100 hb98 B98 e100 s100 => ?_
              refine ⟨_, by rw [add_none]; exact B98.cell 1, br_split (fun g => ?_) (fun g => ?_)⟩
              · refine ⟨cn - (q + 1), by omega, q + 1, by rw [wrap_nat (by omega)], ?_, by omega, rfl, ext_trans eV3 e100⟩
                rw [negF_len_take hqL, if_pos g, wrap_nat (by omega)]
              · refine ⟨cn - (q + 1), by omega, q + 1, by rw [wrap_nat (by omega)], ?_, by omega, rfl, ext_trans eV3 e100⟩
                rw [negF_len_take hqL, if_neg g, Nat.add_zero]
            · have hqe : L1.take q = L1 := List.take_of_length_le (by omega)
              rw [hqe, hL1b]
              have hsc := score_le (P := P) (occ0_ne st) hisA
              refine br_split (fun g => by omega) (fun g => ?_)
              refine ⟨fun i V m => ∃ q : Nat, i = q ∧ q ≤ j ∧ m = j - q ∧ Ext V3 V, ⟨_, 0, rfl, by omega, rfl, Below.refl _ _⟩, ?_⟩
              rintro _ V4 m ⟨q2, rfl, hq2, rfl, eV4⟩ _
              have e84V4 := ext_trans eV3 eV4
              refine br_split (fun hlt4 => ?_) (fun _ => aw _ (ext_trans e084 e84V4))
              have hqM : q2 < M.length := by omega
              obtain ⟨p5, hp5, d5⟩ := (hMr2.ext (ext_trans (ext_trans (ext_trans e70 e77) e84) e84V4)).int hqM
              refine hp5 _ ⟨_, d5, br_split (fun geq => ?_) (fun _ => ⟨j - (q2 + 1), by omega, q2 + 1, by rw [wrap_nat (by omega)], by omega, rfl, eV4⟩)⟩
              have hqL2 : q2 < L2.length := by omega
              obtain ⟨b14, o14, a15, c15, hq6, _, _, hc6, _, hrow6⟩ := (hL2a.ext (ext_trans e84 e84V4)).getS (List.getElem?_eq_getElem hqL2)
              have hL2k : L2[q2] = possA P (occ0 st) st (scoreA P (occ0 st) st) q2 := by rw [← hL2b q2 (by omega), getD_at hqL2]
              have hMq : M.getD q2 0 = M[q2] := getD_at hqM 0
              have hpos := hMr _ (List.getElem_mem hqM)
              have hmem : M[q2] ∈ possA P (occ0 st) st (scoreA P (occ0 st) st) q2 := by
                have := poss_mem (i := q2) hisA (show cntC P M = scoreA P (occ0 st) st by omega) (by rw [hMq]; exact hpos.1) (by rw [hMq]; exact hpos.2)
                rw [hMq] at this; exact this
              have hl64 : L2[q2].length ≤ 16 := by
                rw [hL2k]
                unfold possA
                refine Nat.le_trans (List.length_filter_le _ _) ?_
                simp
              refine hq6 _ ⟨_, _, _, hc6, ?_⟩
              refine ContainsI_spec M[q2] hrow6 (by omega) ⟨_, rfl, ?_⟩
              rw [decide_eq_true (show M[q2] ∈ L2[q2] by rw [hL2k]; exact hmem)]
              refine br_cases (fun hh => by cases hh) (fun _ => ?_)
              have hqL3 : q2 < L3.length := by omega
              obtain ⟨p7, hp7, d7⟩ := (hL3a.ext e84V4).int hqL3
              have hL3k : L3[q2] = certA P (occ0 st) st (scoreA P (occ0 st) st) q2 := by rw [← hL3b q2 (by omega), gI_at hqL3]
              refine hp7 _ ⟨_, d7, br_split (fun g8 => ?_) (fun _ => ⟨j - (q2 + 1), by omega, q2 + 1, by rw [wrap_nat (by omega)], by omega, rfl, eV4⟩)⟩
              refine hp7 _ ⟨_, d7, br_split (fun g9 => absurd ?_ g9) (fun _ => ⟨j - (q2 + 1), by omega, q2 + 1, by rw [wrap_nat (by omega)], by omega, rfl, eV4⟩)⟩
              rw [hL3k] at g8 ⊢
              exact cert_eq hmem g8
          refine br_split (fun g => absurd rfl g) (fun _ => ?_)
          refine br_split (fun g => absurd (by omega) g) (fun _ => ?_)
          exact br_split (fun g => absurd (by omega) g) (fun _ => k87)
      refine br_split (fun g => ?_) (fun g => ?_)
      · have h0 : occF [] st = [] := List.eq_nil_of_length_eq_zero (by omega)
        have ho0 : occ0 st = [0] := by unfold occ0; rw [if_pos h0]
        refine al_intro fun b126 w127 hb126 B126 e127 s127 => k40 w127 _ _ _ ?_ (ext_trans eW e127) (by omega)
        rw [ho0]
        exact rowV_enc.2 ((rowAt_blk (E := Sh.encI) (l := [(0 : Int)]) B126).imp fun j hj hl => hl)
      · have hne : occF [] st ≠ [] := fun hh => by rw [hh] at hol; simp at hol; omega
        have ho0 : occ0 st = occF [] st := by unfold occ0; rw [if_neg hne]
        refine k40 W _ _ _ ?_ eW (by omega)
        rw [ho0]
        exact hO.out.imp fun j hj hl => hl
  refine ⟨_, _, _, x0, _, _, _, x1, _, _, _, x2, ?_⟩
  refine Great38_spec (hN.ext e7) (hP.ext e7) (hR.ext e7) (by omega) (by omega) (by omega) fun b w132 e132 hb => ⟨_, rfl, ?_⟩
  have e0132 := ext_trans e7 e132
  refine br_cases (fun _ => aw _ e0132) (fun gb => ?_)
  obtain ⟨h20, h8, h6⟩ := hb gb
  exact br_split (fun _ => aw _ e0132) (fun _ => k8 _ e132 h20 h8 h6)
end
end Go.Proofs
namespace Go.Sh
open Go Go.RowKit Go.ChangeShapes
section
variable {H : Type} {enc : TypeId × Value → H} {P : Program} {W W' : World}
theorem trodAll_carry {sp : Nat → Bool} : ∀ {ts : List TypeId} {vs : List Value} {ds : List (DataW H)} {ps : List MemPlace}, DataW.TrodAll enc P W 0 sp true ts vs ds ps → (∀ p ∈ ps, W.sameAt W' p) → DataW.TrodAll enc P W' 0 sp true ts vs ds ps
  | [], [], [], _, h, _ => h
  | _ :: _, _ :: _, _ :: _, _, ⟨p, q, ⟨n, hn⟩, h2, e⟩, hs =>
    ⟨p, q, ⟨n, DataW.trod_carry n _ _ _ hn fun x hx => hs x (by rw [e]; exact List.mem_append_left _ hx)⟩, trodAll_carry h2 (fun x hx => hs x (by rw [e]; exact List.mem_append_right _ hx)), e⟩
  | [], [], _ :: _, _, h, _ => h.elim
  | [], _ :: _, _, _, h, _ => h.elim
  | _ :: _, [], _, _, h, _ => h.elim
  | _ :: _, _ :: _, [], _, h, _ => h.elim
theorem trodAll_below (hl : laidOutB P = true) : ∀ {ts : List TypeId} {vs : List Value} {ds : List (DataW H)} {ps : List MemPlace}, (∀ t ∈ ts, P.readableRec t = true ∧ t < P.types.size) → DataW.TrodAll enc P W 0 (fun _ => true) true ts vs ds ps → Below W.heap.size W W' → (∀ x ∈ ps, x.block < W.heap.size) →
    DataW.TrodAll enc P W' 0 (fun b => decide (b < W.heap.size)) true ts vs ds ps
  | [], [], [], _, _, h, _, _ => h
  | _ :: _, _ :: _, _ :: _, _, ht, ⟨p, q, h1, h2, e⟩, hb, hlt =>
    ⟨p, q, Below.trod hl (ht _ (by simp)).1 (ht _ (by simp)).2 h1 hb (fun x hx => hlt x (by rw [e]; exact List.mem_append_left _ hx)),
      trodAll_below hl (fun t h => ht t (List.mem_cons_of_mem _ h)) h2 hb (fun x hx => hlt x (by rw [e]; exact List.mem_append_right _ hx)), e⟩
  | [], [], _ :: _, _, _, h, _, _ => h.elim
  | [], _ :: _, _, _, _, h, _, _ => h.elim
  | _ :: _, [], _, _, _, h, _, _ => h.elim
  | _ :: _, _ :: _, [], _, _, h, _, _ => h.elim

/- a law's 'post' where it answers true and what was there stands -/
theorem post_ext {f : Func} {s : ChangeSpec} {apart fresh handsOn again : Bool} {args : Array Value} {ds gs : List (DataW H)} {before : List MemPlace} {tb : TypeId} (hl : laidOutB P = true) (hts : ∀ t ∈ f.params.toList, P.readableRec t = true ∧ t < P.types.size) (hres : f.resultTypes = #[tb]) (htb : P.underlying tb = some .bool) (hvars : s.vars = [])
    (hW : DataW.Whole enc P f.params.toList s.vars apart W args.toList ds gs before) (hfn : s.fn H (ds ++ gs) = { results := [.lit (.bool true)], args := ds }) (he : Ext W W') :
    s.post enc P f apart fresh handsOn again W args (.bool true) W' := by
  have hlt := hW.lt
  have hW0 := hW
  obtain ⟨p, q, h1, h2, hpq, hz, hn⟩ := hW0
  rw [hvars] at h2
  obtain ⟨hg, hq⟩ := trodVars_none h2
  subst hg hq
  simp only [List.append_nil] at hpq
  subst hpq
  have hbool : ∀ (b : Nat) (sp : Nat → Bool) (hd : Bool), DataW.TrodAll enc P W' b sp hd f.resultTypes.toList ((Value.bool true).resultList f.resultTypes.size) [.lit (.bool true)] [] := by
    intro b sp hd
    rw [hres]
    exact trodAll_mk1 (shut_bool htb true)
  refine ⟨ds, [], before, [], before, [], hW, ?_, ?_, ?_, he.frame _, fun _ => ⟨ok_one hres rfl (okWide_bool_mk htb true), [.lit (.bool true)] ++ ds, [], [] ++ before, ⟨[] ++ before, [], ?_, ?_, by simp, ?_, ?_⟩, ?_⟩⟩
  · rw [hfn]; exact hbool _ _ _
  · rw [hfn]; exact trodAll_below hl hts h1 he hlt
  · rw [hfn, hvars]; rfl
  · exact trodAll_append (trodAll_carry h1 fun x hx => he.same (hlt x hx)) (hbool _ _ _)
  · rw [hvars]; rfl
  · intro b off hp
    simp only [List.nil_append] at hp
    rw [he.frozen (hlt _ hp)]
    exact hz b off hp
  · intro ha; simpa using hn ha
  · intro x hx _; simpa using hx
end
end Go.Sh
namespace Go.Sh
open Go Go.RowKit Go.ChangeShapes
/- slices as arguments, of whatever elements: what a row says of them, as a view; with the bound on their lengths -/
section
variable {H : Type} {enc : TypeId × Value → H} {P : Program} {w : World} {base : Nat} {sp : Nat → Bool} {hd : Bool} {α : Type}
theorem weightsAll_memG {e : TypeId} : ∀ {ds : List (DataW H)} {d : DataW H} {m : Nat}, d ∈ ds → m ∈ d.weights P e → m ∈ DataW.weightsAll P e ds
  | d0 :: ds, d, m, hd, hm => by
    rw [DataW.weightsAll, List.mem_append]
    rcases List.mem_cons.1 hd with rfl | hd
    · exact .inl hm
    · exact .inr (weightsAll_memG hd hm)
theorem rowV_build {V : View α} {Q : α → Prop} {a : Addr} {len : Nat} (hel : ∀ i, i < len → ∃ (x : α) (us : List Value), Q x ∧ V.C (fun _ => True) w x us ∧ ∀ j v, us[j]? = some v → w.cell? ((a.add (i * V.size)).add j) = some v) :
    ∃ L : List α, RowV V (fun _ => True) w (some a) len L ∧ ∀ x ∈ L, Q x := by
  by_cases hl0 : len = 0
  · subst hl0; exact ⟨[], RowV.nil _, fun x hx => by cases hx⟩
  obtain ⟨b, o, rfl⟩ : ∃ b o, a = ⟨b, o, none⟩ := by
    obtain ⟨x, us, _, hC, hx⟩ := hel 0 (by omega)
    have hp := V.pos
    have hl := V.len hC
    have h0 := hx 0 _ (List.getElem?_eq_getElem (by omega))
    obtain ⟨b, o, spot⟩ := a
    have hspot : spot = none := by simpa [Addr.add] using World.cell?_spot h0
    subst hspot
    exact ⟨b, o, rfl⟩
  have build : ∀ k, k ≤ len → ∃ (L : List α) (us : List Value), L.length = k ∧ us.length = k * V.size ∧ AllV V (fun _ => True) w L us ∧ (∀ x ∈ L, Q x) ∧ ∀ j v, us[j]? = some v → w.cell? ((⟨b, o, none⟩ : Addr).add j) = some v := by
    intro k
    induction k with
    | zero => exact fun _ => ⟨[], [], rfl, by simp, rfl, fun x hx => (by cases hx), fun j v hj => (by simp at hj)⟩
    | succ k ihk =>
      intro hk
      obtain ⟨L, us, hL, hul, hC, hQ, hus⟩ := ihk (by omega)
      obtain ⟨x, vs, hq, hV, hx⟩ := hel k (by omega)
      refine ⟨L ++ [x], us ++ vs, by simp [hL], by rw [List.length_append, hul, V.len hV, Nat.succ_mul], hC.app (AllV.single hV), fun y hy => ?_, fun j v hj => ?_⟩
      · rw [List.mem_append, List.mem_singleton] at hy
        rcases hy with hy | rfl
        · exact hQ y hy
        · exact hq
      · by_cases hlt : j < us.length
        · rw [List.getElem?_append_left hlt] at hj; exact hus j v hj
        · rw [List.getElem?_append_right (by omega)] at hj
          have := hx _ _ hj
          rw [add_none, add_none] at this
          rw [add_none, ← this]
          congr 2; omega
  obtain ⟨L, us, hL, hul, hC, hQ, hus⟩ := build len (Nat.le_refl _)
  have hlt : b < w.heap.size := by
    obtain ⟨x, vs, _, hV, hx⟩ := hel 0 (by omega)
    have hp := V.pos
    have hl := V.len hV
    have h0 := hx 0 _ (List.getElem?_eq_getElem (by omega))
    have := World.block_lt_of_cell? w _ h0
    simpa [Addr.add] using this
  exact ⟨L, ⟨hL.symm, us, .inr ⟨b, o, rfl, trivial, hlt, fun j v hj => by have := hus j v hj; rwa [add_none] at this⟩, hC⟩, hQ⟩
theorem open_slV {V : View α} {Q : α → Prop} {t e : TypeId} (ht : P.underlying t = some (.slice e)) (hc : P.cellsOf e = V.size) (hb : 0 < P.bytesOf e)
    (hel : ∀ n cs y, (∀ m ∈ y.1.weights P e, m ≤ reachBytes) → cs.length = P.cellsOf e → DataW.trod enc P w base sp hd n e cs = some y → ∃ x, Q x ∧ V.C (fun _ => True) w x cs)
    (fuel : Nat) (cs : List Value) (x : DataW H × List MemPlace) (hz : ∀ m ∈ x.1.weights P t, m ≤ reachBytes) (h : DataW.trod enc P w base sp hd fuel t cs = some x) :
    ∃ (a : Option Addr) (n c : Nat) (L : List α), cs = [.slice a n c] ∧ n ≤ c ∧ RowV V (fun _ => True) w a n L ∧ L.length ≤ 140737488355328 ∧ ∀ x ∈ L, Q x := by
  rcases DataW.trod_slice ht h with ⟨rfl, _⟩ | ⟨a, len, cap, elems, rest, n, rfl, rfl, hx, hb', hl, hm, hel', hall, _⟩
  · exact ⟨none, 0, 0, [], rfl, Nat.le_refl _, RowV.nil _, by simp, fun x hx => by cases hx⟩
  have hr : reachBytes = 140737488351232 := rfl
  have hw : x.1.weights P t = (elems.length + rest.length) * P.bytesOf e :: (DataW.weightsAll P e (elems.map (·.1)) ++ DataW.weightsAll P e (rest.map (·.1))) := by
    rw [hx]
    simp only [DataW.weights, ht, List.length_map]
  rw [hw] at hz
  have hlen : len ≤ 140737488355328 := by
    have h1 := hz _ List.mem_cons_self
    have h2 : (elems.length + rest.length) * 1 ≤ (elems.length + rest.length) * P.bytesOf e := Nat.mul_le_mul (Nat.le_refl _) hb
    omega
  obtain ⟨L, hL, hq⟩ := rowV_build (V := V) (Q := Q) (w := w) (a := a) (len := len) fun i hi => by
    have hh := hall i hi
    have hei : elems[i]? = some (elems[i]'(by omega)) := List.getElem?_eq_getElem (by omega)
    rw [hei] at hh
    obtain ⟨cs', hc1, hc2⟩ := Option.bind_eq_some_iff.1 hh
    obtain ⟨_, hlen', hcell⟩ := World.cells?_some hc1
    have hwe : ∀ q ∈ (elems[i]'(by omega)).1.weights P e, q ≤ reachBytes := fun q hq => hz q (List.mem_cons_of_mem _ (List.mem_append_left _ (weightsAll_memG (List.mem_map_of_mem (List.getElem_mem (by omega))) hq)))
    obtain ⟨y, hy1, hy2⟩ := hel n cs' _ hwe hlen' hc2
    refine ⟨y, cs', hy1, hy2, fun j v hj => ?_⟩
    have hjl : j < cs'.length := (List.getElem?_eq_some_iff.1 hj).1
    rw [← hc, hcell j (by omega)]; exact hj
  exact ⟨some a, len, cap, L, rfl, hl, hL, by have := hL.1; omega, hq⟩
/- elements -/
theorem el_int {e : TypeId} (he : P.underlying e = some (.int .i64)) : ∀ (n : Nat) (cs : List Value) (y : DataW H × List MemPlace), (∀ m ∈ y.1.weights P e, m ≤ reachBytes) → cs.length = P.cellsOf e → DataW.trod enc P w base sp hd n e cs = some y → ∃ x : Int, (-9223372036854775808 ≤ x ∧ x ≤ 9223372036854775807) ∧ vI.C (fun _ => True) w x cs := by
  intro n cs y _ _ h
  obtain ⟨k, e0, _, wf⟩ := DataW.trod_int he h
  refine ⟨k, ?_, e0⟩
  simp [Lit.wf, IntKind.min, IntKind.max, IntKind.signed, IntKind.bits] at wf
  omega
theorem el_str {e : TypeId} (he : P.underlying e = some .string) : ∀ (n : Nat) (cs : List Value) (y : DataW H × List MemPlace), (∀ m ∈ y.1.weights P e, m ≤ reachBytes) → cs.length = P.cellsOf e → DataW.trod enc P w base sp hd n e cs = some y → ∃ x : List UInt8, x.length ≤ 140737488355328 ∧ vS.C (fun _ => True) w x cs := by
  intro n cs y hz _ h
  obtain ⟨t, e0, z0, _⟩ := DataW.trod_string he h
  have hr : reachBytes = 140737488351232 := rfl
  refine ⟨t.data.toList, ?_, e0⟩
  have := hz t.data.toList.length (by rw [z0]; simp [DataW.weights])
  omega
theorem el_sl {V : View α} {Q : α → Prop} {t e : TypeId} (ht : P.underlying t = some (.slice e)) (hc : P.cellsOf e = V.size) (hb : 0 < P.bytesOf e)
    (hel : ∀ n cs y, (∀ m ∈ y.1.weights P e, m ≤ reachBytes) → cs.length = P.cellsOf e → DataW.trod enc P w base sp hd n e cs = some y → ∃ x, Q x ∧ V.C (fun _ => True) w x cs) :
    ∀ (n : Nat) (cs : List Value) (y : DataW H × List MemPlace), (∀ m ∈ y.1.weights P t, m ≤ reachBytes) → cs.length = P.cellsOf t → DataW.trod enc P w base sp hd n t cs = some y → ∃ x : List α, (x.length ≤ 140737488355328 ∧ ∀ z ∈ x, Q z) ∧ (View.sl V).C (fun _ => True) w x cs := by
  intro n cs y hz _ h
  obtain ⟨a, m, c, L, e0, hmc, hL, hl, hq⟩ := open_slV ht hc hb hel n cs y hz h
  obtain rfl : m = L.length := hL.1
  exact ⟨L, ⟨hl, hq⟩, a, c, e0, hmc, hL⟩
end
end Go.Sh
namespace Go.Proofs.Ytncjonkmhfdabaa
open Go Go.Sh Go.RowKit Go.ChangeShapes Go.WideShapes Go.ChangeAt
/- what the rows of this seat share -/
theorem own : ownKnob Try.prog.godebug = none := by kernel_rfl
theorem laidOut : laidOutB Try.prog = true := by kernel_rfl
noncomputable def plainWorld (os : Os) : World := World.holding Try.prog os ⟨#[], #[], []⟩
theorem el_u8 {H : Type} {enc : TypeId × Value → H} {P : Program} {w : World} {base : Nat} {sp : Nat → Bool} {hd : Bool} {e : TypeId} (he : P.underlying e = some (.int .u8)) : ∀ (n : Nat) (cs : List Value) (y : DataW H × List MemPlace), (∀ m ∈ y.1.weights P e, m ≤ reachBytes) → cs.length = P.cellsOf e → DataW.trod enc P w base sp hd n e cs = some y → ∃ x : UInt8, True ∧ (View.enc encU8).C (fun _ => True) w x cs := by
  intro n cs y _ _ h
  obtain ⟨k, e0, _, wf⟩ := DataW.trod_int he h
  simp [Lit.wf, IntKind.min, IntKind.max, IntKind.signed, IntKind.bits] at wf
  refine ⟨UInt8.ofNat k.toNat, trivial, ?_⟩
  show cs = [_]
  rw [e0]
  congr 2
  rw [UInt8.toNat_ofNat_of_lt' (by show k.toNat < 256; omega)]
  omega
end Go.Proofs.Ytncjonkmhfdabaa
