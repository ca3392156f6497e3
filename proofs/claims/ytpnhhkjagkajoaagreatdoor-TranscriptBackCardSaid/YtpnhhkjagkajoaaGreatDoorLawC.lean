/- The contracts of the functions that the law reaches, one after the other, and at the end the law's card. -/
import Derived.Test.YtpnhhkjagkajoaaGreatDoorLawB
import Derived.Laws.Runes
import Derived.Laws.RangeString
import Derived.Laws.Strings3
import Derived.Scope
import Derived.WalkMore
import Derived.LoopN
import Derived.WalkSmall
import Derived.Deep.QuietTactic
import Derived.BigQuiet
import Derived.Lib.IndexAny
import Derived.Lib.IndexBytes
import Derived.Deep.LoopGhost
import Derived.Lib.OthersKept
import Derived.Laws.RangeAny
import Derived.Lib.SmallJoins
namespace Go.Proofs
open Go Go.Sh Go.RowKit

/- what is read is what stands there -/
theorem read_ok {part : List UInt8} {x : Lx} (h : readF part = (x, 0)) : textF x = part ∧ x.pos = 0 ∧ x.k ≠ 1 ∧ singleX x = 0 ∧ rightX x = true := by
  unfold readF at h
  split at h
  · split at h
    · exact absurd (Prod.mk.inj h).2 (by decide)
    · rename_i hk
      split at h
      · rename_i hh
        obtain rfl := (Prod.mk.inj h).1
        have hk : knownB (nameF (List.drop 1 (innerF part))) = true := by simpa using hk
        refine ⟨?_, rfl, by show (3 : Int) ≠ 1; decide, ?_, ?_⟩
        · exact Eq.trans rfl hh.2
        · unfold singleX
          rw [if_neg (by simp), if_pos (.inr (.inl rfl)), if_pos ⟨hk, by rw [hh.1]; rfl⟩]
        · rfl
      · exact absurd (Prod.mk.inj h).2 (by decide)
  · split at h
    · exact absurd (Prod.mk.inj h).2 (by decide)
    · rename_i hk
      have hk : knownB (nameF (innerF part)) = true := by simpa using hk
      unfold accX at h
      split at h
      · rename_i hh
        obtain rfl := (Prod.mk.inj h).1
        refine ⟨hh.2, rfl, ?_, ?_, ?_⟩
        · unfold tagX; split <;> simp
        · unfold singleX tagX
          by_cases he : emptyB (nameF (innerF part)) = true
          · rw [if_pos he, if_neg (by simp), if_pos (.inr (.inr rfl)), if_pos ⟨hk, by rw [he]; rfl⟩]
          · rw [if_neg he, if_neg (by simp), if_pos (.inl rfl), if_pos ⟨hk, by simpa using he⟩]
        · unfold rightX
          rw [if_neg (by unfold tagX; split <;> simp)]
          exact hh.1
      · exact absurd (Prod.mk.inj h).2 (by decide)
theorem lex_ok {at_ : Nat} {part : List UInt8} {x : Lx} (hne : part ≠ []) (hl : part.length ≤ 65536) (h : lexP at_ part = (x, 0)) :
    textF x = part ∧ x.pos = at_ ∧ (x.k = 1 ↔ part.head? ≠ some 60) ∧ singleX x = 0 ∧ (x.k ≠ 1 → rightX x = true) := by
  unfold lexP at h
  split at h
  · rename_i hp
    split at h
    · rename_i hc
      obtain rfl := (Prod.mk.inj h).1
      refine ⟨rfl, rfl, iff_of_true rfl hp, ?_, fun h => absurd rfl h⟩
      unfold singleX
      rw [if_pos rfl, if_neg (by simp), if_neg hne, if_neg (by simpa using hc)]
    · exact absurd (Prod.mk.inj h).2 (by decide)
  · rename_i hp
    split at h
    · exact absurd (Prod.mk.inj h).2 (by decide)
    · split at h
      · rename_i h0
        obtain rfl := (Prod.mk.inj h).1
        obtain ⟨r1, r2, r3, r4, r5⟩ := read_ok (part := part) (x := (readF part).1) (by rw [← h0])
        exact ⟨r1, rfl, iff_of_false r3 (by simpa using hp), r4, fun _ => r5⟩
      · rename_i h0
        exact absurd (Prod.mk.inj h).2 h0
theorem cut_next {c : UInt8} {r : List UInt8} (hc : c ≠ 60) : ((c :: r).drop (cutX (c :: r))).head? = some 60 ∨ (c :: r).drop (cutX (c :: r)) = [] := by
  unfold cutX
  rw [if_neg (by simpa using hc)]
  split
  · rename_i h
    obtain ⟨h1, _⟩ := Lib.indexByte_some (l := c :: r) (c := 60) (o := (Lib.indexByte (c :: r) 60).toNat) (by omega)
    left
    rw [List.head?_drop, h1]
  · right; simp
theorem take_cut_head {c : UInt8} {r : List UInt8} : ((c :: r).take (cutX (c :: r))).head? = some c := by
  obtain ⟨h1, _⟩ := cutX_bd (c := c) (r := r)
  obtain ⟨m, hm⟩ : ∃ m, cutX (c :: r) = m + 1 := ⟨cutX (c :: r) - 1, by omega⟩
  rw [hm]; rfl
theorem scanL_cons {p : Nat × List UInt8} {r : List (Nat × List UInt8)} {l : List Lx} (h : scanL (p :: r) = (l, 0)) : ∃ x l', l = x :: l' ∧ lexP p.1 p.2 = (x, 0) ∧ scanL r = (l', 0) := by
  rw [scanL] at h
  split at h
  · rename_i h1
    split at h
    · rename_i h2
      exact ⟨_, _, (Prod.mk.inj h).1.symm, by rw [← h1], by rw [← h2]⟩
    · rename_i h2; exact absurd (Prod.mk.inj h).2 h2
  · rename_i h1; exact absurd (Prod.mk.inj h).2 h1
theorem chk_ok {x : Lx} {pt : Bool} {at_ : Nat} (h1 : singleX x = 0) (h2 : ¬ (x.k = 1 ∧ pt = true)) (h3 : x.k ≠ 1 → rightX x = true) (h4 : x.pos = at_) : chkOne x pt at_ = 0 := by
  unfold chkOne
  rw [if_neg (by simpa using h1), if_neg h2, if_neg, if_neg (by simpa using h4)]
  rintro ⟨a, b⟩
  rw [h3 a] at b; cases b
theorem chk_inv {x : Lx} {pt : Bool} {at_ : Int} (h : chkOne x pt at_ = 0) : singleX x = 0 ∧ ¬ (x.k = 1 ∧ pt = true) ∧ (x.k ≠ 1 → rightX x = true) ∧ x.pos = at_ := by
  unfold chkOne at h
  split at h
  · rename_i h1; exact absurd h h1
  · rename_i h1
    split at h
    · cases h
    · rename_i h2
      split at h
      · cases h
      · rename_i h3
        split at h
        · cases h
        · rename_i h4
          refine ⟨by simpa using h1, h2, fun hk => ?_, by simpa using h4⟩
          cases hr : rightX x with
          | true => rfl
          | false => exact absurd ⟨hk, hr⟩ h3
theorem chkGo_cons {x : Lx} {r : List Lx} {pt : Bool} {at_ : Nat} : chkGo (x :: r) pt at_ = 0 ↔ chkOne x pt at_ = 0 ∧ chkGo r (decide (x.k = 1)) (at_ + (textF x).length) = 0 := by
  rw [chkGo]
  by_cases h : chkOne x pt at_ = 0
  · rw [if_neg (by simpa using h)]; simp [h]
  · rw [if_pos h]; simp [h]
theorem scan_chk : ∀ (n : Nat) (t : List UInt8) (at_ : Nat) (pt : Bool) (l : List Lx), t.length ≤ n → scanL (partsM t at_) = (l, 0) → (pt = true → t.head? = some 60 ∨ t = []) → at_ + t.length ≤ 65536 → chkGo l pt at_ = 0 ∧ printX l = t
  | n, [], at_, pt, l, _, h, _, hb => by
    rw [partsM] at h
    obtain rfl := (Prod.mk.inj h).1.symm
    refine ⟨?_, rfl⟩
    rw [chkGo, if_neg (by simp at hb; omega)]
  | 0, c :: r, _, _, _, hn, _, _, _ => absurd hn (by simp)
  | n + 1, c :: r, at_, pt, l, hn, h, hpt, hb => by
    rw [partsM] at h
    obtain ⟨x, l', rfl, hx, hl⟩ := scanL_cons h
    obtain ⟨b1, b2⟩ := cutX_bd (c := c) (r := r)
    have hpl : ((c :: r).take (cutX (c :: r))).length = cutX (c :: r) := by rw [List.length_take]; omega
    obtain ⟨x1, x2, x3, x4, x5⟩ := lex_ok (fun e => by rw [show (c :: r).take (cutX (c :: r)) = [] from e] at hpl; simp at hpl; omega) (show ((c :: r).take (cutX (c :: r))).length ≤ 65536 by rw [hpl]; omega) hx
    rw [take_cut_head] at x3
    have hdl : ((c :: r).drop (cutX (c :: r))).length = (c :: r).length - cutX (c :: r) := List.length_drop
    obtain ⟨y1, y2⟩ := scan_chk n _ _ (decide (x.k = 1)) l' (by omega) hl (fun hk => by
      have hk : x.k = 1 := of_decide_eq_true hk
      have hc : c ≠ 60 := by have := x3.1 hk; simpa using this
      exact cut_next hc) (by omega)
    refine ⟨chkGo_cons.2 ⟨chk_ok x4 ?_ x5 x2, ?_⟩, ?_⟩
    · rintro ⟨a, b⟩
      have h1 := x3.1 a
      rcases hpt b with h2 | h2
      · exact h1 (by simpa using h2)
      · cases h2
    · rw [x1, show ((at_, (c :: r).take (cutX (c :: r))).2).length = _ from hpl]; exact y1
    · rw [printX, List.flatMap_cons, x1, ← printX, y2, List.take_append_drop]
theorem scan_print {s : List UInt8} {l : List Lx} (h : scanF s = (l, 0)) : chkX l = 0 ∧ printX l = s := by
  unfold scanF at h
  split at h
  · exact absurd (Prod.mk.inj h).2 (by decide)
  · rename_i hs
    exact scan_chk s.length s 0 false l (Nat.le_refl _) h (fun h => by cases h) (by omega)

/- the parts of what lexemes are printed as -/
theorem check_kd {v : List UInt8} (h : checkC v = 0) : ∀ c ∈ v, kd c ≠ 0 := by
  rw [checkC_eq] at h
  split at h
  · cases h
  · by_cases ho : okChars v = true
    · intro c hc
      obtain ⟨j, hj, rfl⟩ := List.mem_iff_getElem.1 hc
      have := List.all_eq_true.1 ho j (List.mem_range.2 hj)
      unfold okAt at this
      have hk := kA_eq hj
      intro h0
      rw [← hk, h0] at this
      simp at this
    · rw [if_neg ho] at h; cases h
theorem indexB_none : ∀ {l : List UInt8} {c : UInt8}, c ∉ l → Lib.indexByte l c = -1
  | [], _, _ => rfl
  | b :: l, c, h => by
    rw [Lib.indexByte, indexB_none (fun hh => h (List.mem_cons_of_mem _ hh))]
    have : ¬ b = c := fun e => h (by rw [e]; exact List.mem_cons_self)
    simp [this]
theorem indexB_at : ∀ {l r : List UInt8} {c : UInt8}, c ∉ l → Lib.indexByte (l ++ c :: r) c = (l.length : Int)
  | [], r, c, _ => by rw [List.nil_append, Lib.indexByte]; simp
  | b :: l, r, c, h => by
    rw [List.cons_append, Lib.indexByte, indexB_at (fun hh => h (List.mem_cons_of_mem _ hh))]
    have : ¬ b = c := fun e => h (by rw [e]; exact List.mem_cons_self)
    have h2 : ¬ ((l.length : Int) = -1) := by omega
    simp [this, h2]
theorem cut_text {v t : List UInt8} (hne : v ≠ []) (hv : ∀ c ∈ v, c ≠ 60) (ht : t = [] ∨ t.head? = some 60) : cutX (v ++ t) = v.length := by
  unfold cutX
  have h0 : ¬ (v ++ t).head? = some 60 := by
    cases v with
    | nil => exact absurd rfl hne
    | cons a v => simpa using hv a List.mem_cons_self
  have hn : (60 : UInt8) ∉ v := fun h => hv 60 h rfl
  rw [if_neg h0]
  rcases ht with rfl | ht
  · rw [List.append_nil, indexB_none hn, if_neg (by decide)]
  · cases t with
    | nil => cases ht
    | cons a t =>
      obtain rfl : a = 60 := by simpa using ht
      rw [indexB_at hn, if_pos (by omega), Int.toNat_natCast]
theorem cut_tag {m t : List UInt8} (hm : ∀ c ∈ m, c ≠ 62) : cutX ((60 :: (m ++ [62])) ++ t) = (60 :: (m ++ [62]) : List UInt8).length := by
  have hn : (62 : UInt8) ∉ (60 :: m : List UInt8) := by
    intro h
    rcases List.mem_cons.1 h with h | h
    · exact absurd h (by decide)
    · exact hm 62 h rfl
  have e : (60 :: (m ++ [62])) ++ t = (60 :: m) ++ 62 :: t := by simp
  unfold cutX
  rw [e, indexB_at hn, if_pos (show (60 :: m ++ 62 :: t).head? = some 60 by rfl), if_pos (by omega), Int.toNat_natCast]
  simp
theorem takeW_all {p : UInt8 → Bool} {l : List UInt8} (h : ∀ c ∈ l, p c = true) : l.takeWhile p = l := by
  have := List.takeWhile_append_of_pos (l₂ := []) h
  rwa [List.append_nil, List.takeWhile_nil, List.append_nil] at this
theorem name_self {nm : List UInt8} (hc : ∀ c ∈ nm, c ≠ 32 ∧ c ≠ 47 ∧ c ≠ 60 ∧ c ≠ 62) : nameF nm = nm := takeW_all fun c h => by
  have := hc c h
  simp [this.1, this.2.1]
/- tags -/
theorem tag_form {x : Lx} (h1 : singleX x = 0) (hk : x.k ≠ 1) (h3 : rightX x = true) : ∃ m, textF x = 60 :: (m ++ [62]) ∧ (∀ c ∈ m, c ≠ 62) ∧ readF (textF x) = ({ x with pos := 0 }, 0) := by
  unfold singleX at h1
  rw [if_neg hk] at h1
  split at h1
  · rename_i hk3
    split at h1
    · rename_i hkn
      obtain ⟨hkn, hem⟩ := hkn
      obtain ⟨nn, _, hc⟩ := nm_bad hkn
      by_cases k3 : x.k = 3
      · have hv : x.vl = [] := by unfold rightX at h3; rw [if_pos k3] at h3; exact of_decide_eq_true h3
        have e : textF x = 60 :: ((47 :: x.nm) ++ [62]) := by
          unfold textF innF
          rw [if_neg (by omega), if_pos k3, hv, if_neg (by simp)]; rfl
        refine ⟨47 :: x.nm, e, ?_, ?_⟩
        · intro c hcm
          rcases List.mem_cons.1 hcm with rfl | h
          · decide
          · exact (hc c h).2.2.2
        · unfold readF
          rw [e, inner_two, if_pos (show (47 :: x.nm : List UInt8).head? = some 47 by rfl)]
          have en : nameF (List.drop 1 (47 :: x.nm)) = x.nm := by
            exact name_self hc
          rw [en, if_neg (by rw [hkn]; decide), if_pos ⟨by rw [hem]; exact decide_eq_false (by omega), by simp⟩, ← k3, ← hv]
      · have hval : valB x.nm x.vl = true := by unfold rightX at h3; rw [if_neg k3] at h3; exact h3
        have hvc : ∀ c ∈ x.vl, c ≠ 32 ∧ c ≠ 47 ∧ c ≠ 60 ∧ c ≠ 62 := fun c h => kd_bad (val_kd hval c h)
        have hin := inn_chars hc hvc
        have et : tagX x.nm x.vl = { x with pos := 0 } := by
          unfold tagX
          by_cases k4 : x.k = 4
          · rw [if_pos (by rw [hem]; exact decide_eq_true k4), ← k4]
          · have k2 : x.k = 2 := by omega
            rw [if_neg (by rw [hem]; simpa using k4), ← k2]
        have etx : textF (tagX x.nm x.vl) = textF x := by rw [et]; rfl
        have kk : ∀ m, innerF (textF x) = m → (∃ t, m = innF x.nm x.vl ++ t ∧ (t = [] ∨ t = [47])) → readF (textF x) = ({ x with pos := 0 }, 0) := by
          rintro m hm ⟨t, rfl, ht⟩
          have en : nameF (innF x.nm x.vl ++ t) = x.nm := by
            unfold nameF innF
            have hh : ∀ c ∈ x.nm, (!(c == 32 || c == 47)) = true := fun c h => by
              have := hc c h
              simp [this.1, this.2.1]
            split
            · rw [List.append_assoc, List.takeWhile_append_of_pos hh]
              show x.nm ++ List.takeWhile _ (32 :: _) = x.nm
              rw [List.takeWhile_cons]; simp
            · rw [List.takeWhile_append_of_pos hh]
              rcases ht with rfl | rfl
              · simp
              · simp
          have hhd : ¬ (innF x.nm x.vl ++ t).head? = some 47 := by
            unfold innF
            cases hnm : x.nm with
            | nil => exact absurd hnm nn
            | cons a r =>
              have := (hc a (by rw [hnm]; exact List.mem_cons_self)).2.1
              split <;> simpa using this
          unfold readF
          rw [hm, if_neg hhd, en, if_neg (by rw [hkn]; decide)]
          have hv := (val_key hkn hval etx).2
          rw [hm] at hv
          rw [hv]
          unfold accX
          rw [if_pos ⟨hval, etx⟩, et]
        by_cases k4 : x.k = 4
        · have e : textF x = 60 :: ((innF x.nm x.vl ++ [47]) ++ [62]) := by
            unfold textF
            rw [if_neg (by omega), if_neg k3, if_pos k4]; simp
          refine ⟨_, e, ?_, kk _ (by rw [e, inner_two]) ⟨[47], rfl, .inr rfl⟩⟩
          intro c hcm
          rcases List.mem_append.1 hcm with h | h
          · exact (hin c h).2.2
          · rw [List.mem_singleton.1 h]; decide
        · have k2 : x.k = 2 := by omega
          have e : textF x = 60 :: (innF x.nm x.vl ++ [62]) := by
            unfold textF
            rw [if_pos k2]; simp
          exact ⟨_, e, fun c h => (hin c h).2.2, kk _ (by rw [e, inner_two]) ⟨[], by simp, .inl rfl⟩⟩
    · cases h1
  · cases h1
theorem text_form {x : Lx} (h1 : singleX x = 0) (hk : x.k = 1) : x.nm = [] ∧ x.vl ≠ [] ∧ checkC x.vl = 0 ∧ textF x = x.vl := by
  unfold singleX at h1
  rw [if_pos hk] at h1
  split at h1
  · cases h1
  · rename_i a
    split at h1
    · cases h1
    · rename_i b
      split at h1
      · cases h1
      · rename_i c
        refine ⟨by simpa using a, b, by simpa using c, ?_⟩
        unfold textF
        rw [if_neg (by omega), if_neg (by omega), if_neg (by omega)]
theorem text_pos {x : Lx} (h1 : singleX x = 0) (h3 : x.k ≠ 1 → rightX x = true) : textF x ≠ [] := by
  by_cases hk : x.k = 1
  · obtain ⟨_, b, _, d⟩ := text_form h1 hk; rw [d]; exact b
  · obtain ⟨m, e, _⟩ := tag_form h1 hk (h3 hk); rw [e]; simp
theorem print_head {r : List Lx} {at_ : Nat} (h : chkGo r true at_ = 0) : printX r = [] ∨ (printX r).head? = some 60 := by
  cases r with
  | nil => exact .inl rfl
  | cons y r =>
    obtain ⟨h1, _⟩ := chkGo_cons.1 h
    obtain ⟨a, b, c, _⟩ := chk_inv h1
    have hk : y.k ≠ 1 := fun e => b ⟨e, rfl⟩
    obtain ⟨m, e, _⟩ := tag_form a hk (c hk)
    right
    rw [printX, List.flatMap_cons, e]; rfl
theorem chk_parts : ∀ (l : List Lx) (pt : Bool) (at_ : Nat), chkGo l pt at_ = 0 → partsM (printX l) at_ = l.map (fun x => (x.pos.toNat, textF x)) ∧ scanL (l.map fun x => (x.pos.toNat, textF x)) = (l, 0)
  | [], _, _, _ => ⟨by show partsM [] _ = []; rw [partsM], rfl⟩
  | x :: r, pt, at_, h => by
    obtain ⟨h1, h2⟩ := chkGo_cons.1 h
    obtain ⟨a, b, c, d⟩ := chk_inv h1
    obtain ⟨i1, i2⟩ := chk_parts r _ _ h2
    have hd : x.pos.toNat = at_ := by omega
    have hcut : cutX (textF x ++ printX r) = (textF x).length := by
      by_cases hk : x.k = 1
      · obtain ⟨_, b', c', d'⟩ := text_form a hk
        rw [d']
        rw [decide_eq_true hk] at h2
        exact cut_text b' (fun c hc => (kd_ok (check_kd c' c hc)).2.1) (print_head h2)
      · obtain ⟨m, e, hm, _⟩ := tag_form a hk (c hk)
        rw [e]; exact cut_tag hm
    have hne := text_pos a c
    have hlex : lexP x.pos.toNat (textF x) = (x, 0) := by
      have hx : ({ x with pos := ((x.pos.toNat : Nat) : Int) } : Lx) = x := by
        have : ((x.pos.toNat : Nat) : Int) = x.pos := by omega
        rw [this]
      unfold lexP
      by_cases hk : x.k = 1
      · obtain ⟨a', b', c', d'⟩ := text_form a hk
        rw [d', if_pos, if_pos c']
        · have : (⟨1, [], x.vl, ((x.pos.toNat : Nat) : Int)⟩ : Lx) = { x with pos := ((x.pos.toNat : Nat) : Int) } := by rw [← hk, ← a']
          rw [this, hx]
        · intro hh
          cases hv : x.vl with
          | nil => exact b' hv
          | cons q v =>
            rw [hv] at hh c'
            exact (kd_ok (check_kd c' q List.mem_cons_self)).2.1 (by simpa using hh)
      · obtain ⟨m, e, hm, hr⟩ := tag_form a hk (c hk)
        rw [if_neg (by rw [e]; simp), if_neg (by rw [e, ← List.cons_append, List.getLast?_concat]; simp), hr, if_pos rfl]
        exact congrArg (·, 0) hx
    refine ⟨?_, ?_⟩
    · rw [printX, List.flatMap_cons, ← printX, List.map_cons, hd]
      cases ht : textF x with
      | nil => exact absurd ht hne
      | cons q t =>
        rw [ht] at hcut
        rw [List.cons_append, partsM]
        rw [List.cons_append] at hcut
        rw [hcut, ← List.cons_append, List.take_left, List.drop_left]
        rw [ht] at i1
        rw [i1]
    · rw [List.map_cons, scanL, hlex, if_pos rfl, i2, if_pos rfl]
theorem chk_len : ∀ (l : List Lx) (pt : Bool) (at_ : Nat), chkGo l pt at_ = 0 → at_ + (printX l).length ≤ 65536
  | [], _, at_, h => by
    rw [chkGo] at h
    split at h
    · cases h
    · show at_ + 0 ≤ 65536; omega
  | x :: r, _, at_, h => by
    have := chk_len r _ _ (chkGo_cons.1 h).2
    rw [printX, List.flatMap_cons, List.length_append, ← printX]; omega
theorem print_scan {l : List Lx} (h : chkX l = 0) : scanF (printX l) = (l, 0) := by
  have hl := chk_len l _ _ h
  obtain ⟨h1, h2⟩ := chk_parts l _ _ h
  unfold scanF
  rw [if_neg (by omega), h1, h2]
end Go.Proofs
namespace Go.Proofs
open Go Go.Sh Go.RowKit

/- lexemes and offsets -/
theorem print_cons (x : Lx) (r : List Lx) : printX (x :: r) = textF x ++ printX r := by unfold printX; rw [List.flatMap_cons]
theorem chk_head {x : Lx} {r : List Lx} {pt : Bool} {at_ : Nat} (h : chkGo (x :: r) pt at_ = 0) : x.pos = at_ := (chk_inv (chkGo_cons.1 h).1).2.2.2
theorem chk_after : ∀ (l : List Lx) (pt : Bool) (at_ : Nat), chkGo l pt at_ = 0 → ∀ (k : Nat) (x : Lx), l[k]? = some x → (at_ : Int) ≤ x.pos ∧ x.pos + (textF x).length ≤ at_ + (printX l).length
  | [], _, _, _, k, x, hx => by simp at hx
  | y :: r, pt, at_, h, k, x, hx => by
    have hp := chk_head h
    have hl : (printX (y :: r)).length = (textF y).length + (printX r).length := by rw [printX, List.flatMap_cons, List.length_append]; rfl
    cases k with
    | zero =>
      obtain rfl : y = x := by simpa using hx
      omega
    | succ k =>
      have := chk_after r _ _ (chkGo_cons.1 h).2 k x (by simpa using hx)
      omega
theorem chk_mono : ∀ (l : List Lx) (pt : Bool) (at_ : Nat), chkGo l pt at_ = 0 → ∀ (j k : Nat) (x y : Lx), j < k → l[j]? = some x → l[k]? = some y → x.pos + (textF x).length ≤ y.pos
  | [], _, _, _, j, k, x, y, _, hx, _ => by simp at hx
  | z :: r, pt, at_, h, j, k, x, y, hjk, hx, hy => by
    cases k with
    | zero => omega
    | succ k =>
      cases j with
      | zero =>
        obtain rfl : z = x := by simpa using hx
        have hp := chk_head h
        have := chk_after r _ _ (chkGo_cons.1 h).2 k y (by simpa using hy)
        omega
      | succ j => exact chk_mono r _ _ (chkGo_cons.1 h).2 j k x y (by omega) (by simpa using hx) (by simpa using hy)
theorem hit_iff {off : Int} {x : Lx} : hitX off x = true ↔ x.pos ≤ off ∧ off < x.pos + (textF x).length := by simp [hitX]
/- the last lexeme that begins at the offset or before it decides -/
theorem find_at {l : List Lx} {pt : Bool} {at_ : Nat} (h : chkGo l pt at_ = 0) {off : Int} {k : Nat} {x : Lx} (hx : l[k]? = some x) (h1 : x.pos ≤ off) (h2 : off < x.pos + (textF x).length) : l.findIdx? (hitX off) = some k := by
  obtain ⟨hk, rfl⟩ := List.getElem?_eq_some_iff.1 hx
  rw [List.findIdx?_eq_some_iff_getElem]
  refine ⟨hk, hit_iff.2 ⟨h1, h2⟩, fun j hj => ?_⟩
  have := chk_mono l pt at_ h j k _ _ hj (List.getElem?_eq_getElem (by omega)) hx
  rw [Bool.not_eq_true, Bool.eq_false_iff]
  intro hh
  have := (hit_iff.1 hh).2
  omega
theorem find_no {l : List Lx} {pt : Bool} {at_ : Nat} (h : chkGo l pt at_ = 0) {off : Int} {k : Nat} {x : Lx} (hx : l[k]? = some x) (h2 : x.pos + (textF x).length ≤ off) (h3 : ∀ j y, k < j → l[j]? = some y → off < y.pos) : l.findIdx? (hitX off) = none := by
  rw [List.findIdx?_eq_none_iff]
  intro y hy
  obtain ⟨j, hj, rfl⟩ := List.mem_iff_getElem.1 hy
  rw [Bool.eq_false_iff]
  intro hh
  obtain ⟨g1, g2⟩ := hit_iff.1 hh
  by_cases hjk : j < k
  · have := chk_mono l pt at_ h j k _ _ hjk (List.getElem?_eq_getElem hj) hx
    omega
  · by_cases e : j = k
    · subst e
      rw [List.getElem?_eq_getElem hj] at hx
      obtain rfl := Option.some.inj hx
      omega
    · have := h3 j _ (by omega) (List.getElem?_eq_getElem hj)
      omega
theorem find_in : ∀ (l : List Lx) (pt : Bool) (at_ : Nat), chkGo l pt at_ = 0 → ∀ off : Int, (at_ : Int) ≤ off → off < at_ + (printX l).length → ∃ (k : Nat) (x : Lx), l[k]? = some x ∧ x.pos ≤ off ∧ off < x.pos + (textF x).length
  | [], _, at_, _, off, h1, h2 => by
    have : (printX []).length = 0 := rfl
    omega
  | y :: r, pt, at_, h, off, h1, h2 => by
    have hp := chk_head h
    have hl : (printX (y :: r)).length = (textF y).length + (printX r).length := by rw [printX, List.flatMap_cons, List.length_append]; rfl
    by_cases hy : off < at_ + (textF y).length
    · exact ⟨0, y, rfl, by omega, by omega⟩
    · obtain ⟨k, x, a, b⟩ := find_in r _ _ (chkGo_cons.1 h).2 off (by omega) (by omega)
      exact ⟨k + 1, x, by simpa using a, b⟩
theorem find_hit {l : List Lx} (h : chkX l = 0) {i : Nat} (hi : i < (printX l).length) :
    ∃ (k : Nat) (x : Lx), findX l (i : Int) = ((k : Int), 0) ∧ l[k]? = some x ∧ x.pos ≤ i ∧ ∀ y, l[k + 1]? = some y → (i : Int) < y.pos := by
  obtain ⟨k, x, a, b, c⟩ := find_in l false 0 h i (by omega) (by omega)
  refine ⟨k, x, ?_, a, b, fun y hy => ?_⟩
  · unfold findX
    rw [if_neg (by simpa using h), find_at h a b c]
  · have := chk_mono l false 0 h k (k + 1) x y (by omega) a hy
    omega
theorem find_out {l : List Lx} (h : chkX l = 0) {off : Int} (ho : off < 0 ∨ (printX l).length ≤ off) : findX l off = (0, 2) := by
  unfold findX
  rw [if_neg (by simpa using h)]
  have : l.findIdx? (hitX off) = none := by
    rw [List.findIdx?_eq_none_iff]
    intro y hy
    obtain ⟨j, hj, rfl⟩ := List.mem_iff_getElem.1 hy
    have := chk_after l false 0 h j _ (List.getElem?_eq_getElem hj)
    rw [Bool.eq_false_iff]
    intro hh
    obtain ⟨g1, g2⟩ := hit_iff.1 hh
    omega
  rw [this]

/- two strings, one after the other -/
def shiftX (d : Int) (x : Lx) : Lx := { x with pos := x.pos + d }
def lastK (pt : Bool) (l : List Lx) : Bool := match l.getLast? with
  | some x => decide (x.k = 1)
  | none => pt
theorem lastK_cons (x : Lx) (r : List Lx) (pt : Bool) : lastK (decide (x.k = 1)) r = lastK pt (x :: r) := by
  unfold lastK
  rw [List.getLast?_cons]
  cases r.getLast? <;> rfl
theorem chkGo_app : ∀ (l m : List Lx) (pt : Bool) (at_ : Nat), chkGo l pt at_ = 0 → chkGo (l ++ m) pt at_ = chkGo m (lastK pt l) (at_ + (printX l).length)
  | [], m, pt, at_, _ => rfl
  | x :: r, m, pt, at_, h => by
    obtain ⟨h1, h2⟩ := chkGo_cons.1 h
    rw [List.cons_append, chkGo, if_neg (by simpa using h1), chkGo_app r m _ _ h2, lastK_cons x r pt, print_cons, List.length_append, Nat.add_assoc]
theorem chkGo_shift : ∀ (l : List Lx) (pt pt' : Bool) (at_ d : Nat), chkGo l pt at_ = 0 → at_ + d + (printX l).length ≤ 65536 → (pt' = true → ∀ x, l.head? = some x → x.k ≠ 1) → chkGo (l.map (shiftX d)) pt' (at_ + d) = 0
  | [], _, _, _, _, _, hb, _ => by
    have : (printX []).length = 0 := rfl
    rw [List.map_nil, chkGo, if_neg (by omega)]
  | x :: r, pt, pt', at_, d, h, hb, hp => by
    obtain ⟨h1, h2⟩ := chkGo_cons.1 h
    obtain ⟨a, b, c, e⟩ := chk_inv h1
    have hl : (printX (x :: r)).length = (textF x).length + (printX r).length := by rw [printX, List.flatMap_cons, List.length_append]; rfl
    rw [List.map_cons]
    refine chkGo_cons.2 ⟨chk_ok a ?_ c ?_, ?_⟩
    · rintro ⟨k1, k2⟩
      exact hp k2 x rfl k1
    · show x.pos + d = ((at_ + d : Nat) : Int)
      omega
    · have ih := chkGo_shift r (decide (x.k = 1)) (decide (x.k = 1)) (at_ + (textF x).length) d h2 (by omega) (by
        intro hk y hy
        cases r with
        | nil => cases hy
        | cons z r =>
          obtain rfl : z = y := by simpa using hy
          intro hz
          exact (chk_inv (chkGo_cons.1 h2).1).2.1 ⟨hz, hk⟩)
      show chkGo (r.map (shiftX d)) (decide (x.k = 1)) (at_ + d + (textF x).length) = 0
      rw [Nat.add_right_comm]; exact ih
theorem print_shift (l : List Lx) (d : Int) : printX (l.map (shiftX d)) = printX l := by
  unfold printX
  rw [List.flatMap_map]
  rfl
theorem print_app (l m : List Lx) : printX (l ++ m) = printX l ++ printX m := by unfold printX; rw [List.flatMap_append]
theorem strip_app (l m : List Lx) : stripX (l ++ m) = stripX l ++ stripX m := by unfold stripX; rw [List.flatMap_append]
theorem strip_shift (l : List Lx) (d : Int) : stripX (l.map (shiftX d)) = stripX l := by
  unfold stripX
  rw [List.flatMap_map]
  rfl
theorem join_one {s t : List UInt8} {a b : List Lx} (ha : scanF s = (a, 0)) (hb : scanF t = (b, 0)) (hl : s.length + t.length ≤ 65536)
    (hn : ∀ x y, a.getLast? = some x → b.head? = some y → ¬ (x.k = 1 ∧ y.k = 1)) : scanF (s ++ t) = (a ++ b.map (shiftX s.length), 0) := by
  obtain ⟨a1, a2⟩ := scan_print ha
  obtain ⟨b1, b2⟩ := scan_print hb
  have key : chkX (a ++ b.map (shiftX s.length)) = 0 := by
    unfold chkX
    rw [chkGo_app _ _ _ _ a1, a2, Nat.zero_add]
    have := chkGo_shift b false (lastK false a) 0 s.length b1 (by rw [b2]; omega) (by
      intro hk y hy hy1
      unfold lastK at hk
      cases hx : a.getLast? with
      | none => rw [hx] at hk; cases hk
      | some x => rw [hx] at hk; exact hn x y hx hy ⟨of_decide_eq_true hk, hy1⟩)
    rwa [Nat.zero_add] at this
  have := print_scan key
  rwa [print_app, print_shift, a2, b2] at this
/- characters of two strings -/
theorem rt_left {p q : List UInt8} : ∀ j, j < p.length → rtB (p ++ q) j = rtB p j
  | 0, _ => rfl
  | j + 1, h => by
    have k1 : ∀ i, i < p.length → kA (p ++ q) i = kA p i := fun i hi => by
      unfold kA
      rw [List.getD_eq_getElem?_getD, List.getD_eq_getElem?_getD, List.getElem?_append_left hi]
    rw [rtB, rtB, rt_left j (by omega), k1 _ h, k1 j (by omega)]
theorem rt_right {p q : List UInt8} : ∀ i, rtB q i = true → rtB (p ++ q) (p.length + i) = true
  | 0, h => by rw [rtB] at h; cases h
  | i + 1, h => by
    have k1 : ∀ i, kA (p ++ q) (p.length + i) = kA q i := fun i => by
      unfold kA
      rw [List.getD_eq_getElem?_getD, List.getD_eq_getElem?_getD, List.getElem?_append_right (by omega), Nat.add_sub_cancel_left]
    rw [rtB] at h
    show ((kA (p ++ q) (p.length + (i + 1)) == 2) && (kA (p ++ q) (p.length + i) == 1 || rtB (p ++ q) (p.length + i))) = true
    rw [k1, k1]
    simp only [Bool.and_eq_true, Bool.or_eq_true] at h ⊢
    exact ⟨h.1, h.2.imp id (rt_right i)⟩
theorem ok_app {p q : List UInt8} (hp : okChars p = true) (hq : okChars q = true) : okChars (p ++ q) = true := by
  unfold okChars at *
  rw [List.all_eq_true] at *
  intro j hj
  have hj := List.mem_range.1 hj
  rw [List.length_append] at hj
  by_cases h : j < p.length
  · have := hp j (List.mem_range.2 h)
    unfold okAt at this ⊢
    have k1 : kA (p ++ q) j = kA p j := by
      unfold kA
      rw [List.getD_eq_getElem?_getD, List.getD_eq_getElem?_getD, List.getElem?_append_left h]
    rw [rt_left j h, k1]; exact this
  · have := hq (j - p.length) (List.mem_range.2 (by omega))
    unfold okAt at this ⊢
    have k1 : kA (p ++ q) j = kA q (j - p.length) := by
      unfold kA
      rw [List.getD_eq_getElem?_getD, List.getD_eq_getElem?_getD, List.getElem?_append_right (by omega)]
    rw [k1]
    simp only [Bool.and_eq_true, Bool.or_eq_true] at this ⊢
    refine ⟨this.1, this.2.imp id fun hr => ?_⟩
    have := rt_right (p := p) _ hr
    rwa [show p.length + (j - p.length) = j by omega] at this
theorem check_app {p q : List UInt8} (hp : checkC p = 0) (hq : checkC q = 0) (hl : p.length + q.length ≤ 65536) : checkC (p ++ q) = 0 := by
  rw [checkC_eq] at *
  rw [if_neg (by rw [List.length_append]; omega)]
  rw [if_neg (by omega)] at hp hq
  have h1 : okChars p = true := by
    cases h : okChars p with
    | true => rfl
    | false => rw [h] at hp; cases hp
  have h2 : okChars q = true := by
    cases h : okChars q with
    | true => rfl
    | false => rw [h] at hq; cases hq
  rw [ok_app h1 h2]; rfl
theorem join_text {s t : List UInt8} {a b : List Lx} {x y : Lx} (ha : scanF s = (a ++ [x], 0)) (hb : scanF t = (y :: b, 0)) (hl : s.length + t.length ≤ 65536) (hx : x.k = 1) (hy : y.k = 1) :
    scanF (s ++ t) = (a ++ ⟨1, [], x.vl ++ y.vl, x.pos⟩ :: b.map (shiftX s.length), 0) := by
  obtain ⟨a1, a2⟩ := scan_print ha
  obtain ⟨b1, b2⟩ := scan_print hb
  have q : ∀ (l m : List Lx) (pt : Bool) (at_ : Nat), chkGo (l ++ m) pt at_ = 0 → at_ + (printX l).length ≤ 65536 → chkGo l pt at_ = 0 := by
    intro l m
    induction l with
    | nil => intro pt at_ _ h; have : (printX []).length = 0 := rfl; rw [chkGo, if_neg (by omega)]
    | cons z l ih =>
      intro pt at_ h hh
      obtain ⟨h1, h2⟩ := chkGo_cons.1 h
      have hlz : (printX (z :: l)).length = (textF z).length + (printX l).length := by rw [printX, List.flatMap_cons, List.length_append]; rfl
      exact chkGo_cons.2 ⟨h1, ih _ _ h2 (by omega)⟩
  have hsl : s.length = (printX a).length + (textF x).length := by
    rw [← a2, print_app, List.length_append]; congr 1
    show (List.flatMap textF [x]).length = _
    simp
  have a0 : chkGo a false 0 = 0 := q a [x] false 0 a1 (by omega)
  have ax : chkGo [x] (lastK false a) (0 + (printX a).length) = 0 := by rw [← chkGo_app _ _ _ _ a0]; exact a1
  obtain ⟨c1, c2, _, c4⟩ := chk_inv (chkGo_cons.1 ax).1
  obtain ⟨d1, d2, d3, d4⟩ := text_form c1 hx
  obtain ⟨y1, y2⟩ := chkGo_cons.1 b1
  obtain ⟨e1, e2, _, e4⟩ := chk_inv y1
  obtain ⟨f1, f2, f3, f4⟩ := text_form e1 hy
  have htl : t.length = y.vl.length + (printX b).length := by rw [← b2, printX, List.flatMap_cons, List.length_append, f4]; rfl
  rw [d4] at hsl
  have hz : checkC (x.vl ++ y.vl) = 0 := check_app d3 f3 (by omega)
  have htz : textF ⟨1, [], x.vl ++ y.vl, x.pos⟩ = x.vl ++ y.vl := rfl
  have key : chkX (a ++ ⟨1, [], x.vl ++ y.vl, x.pos⟩ :: b.map (shiftX s.length)) = 0 := by
    unfold chkX
    rw [chkGo_app _ _ _ _ a0]
    refine chkGo_cons.2 ⟨chk_ok ?_ ?_ (fun h => absurd rfl h) c4, ?_⟩
    · unfold singleX
      rw [if_pos rfl, if_neg (by simp), if_neg (by simp [d2]), if_neg (by simpa using hz)]
    · rintro ⟨_, k⟩; exact c2 ⟨hx, k⟩
    · rw [htz]
      have hk : decide (y.k = 1) = true := decide_eq_true hy
      rw [hk] at y2
      have := chkGo_shift b true true _ s.length y2 (by rw [f4]; omega) (by
        intro _ z hz
        cases b with
        | nil => cases hz
        | cons w b =>
          obtain rfl : w = z := by simpa using hz
          intro hw
          exact (chk_inv (chkGo_cons.1 y2).1).2.1 ⟨hw, rfl⟩)
      rw [f4] at this
      rw [List.length_append, show 0 + (printX a).length + (x.vl.length + y.vl.length) = 0 + y.vl.length + s.length by omega]
      exact this
  have := print_scan key
  rw [print_app, print_cons, print_shift, htz] at this
  have e : printX a ++ (x.vl ++ y.vl ++ printX b) = s ++ t := by
    rw [← a2, ← b2, print_app]
    show _ = (printX a ++ List.flatMap textF [x]) ++ (List.flatMap textF (y :: b))
    rw [List.flatMap_cons, List.flatMap_cons, List.flatMap_nil, d4, f4]
    simp [printX]
  rwa [e] at this

/- stripped strings -/
theorem scan_plain {s : List UInt8} (h : checkC s = 0) : scanF s = (if s = [] then [] else [⟨1, [], s, 0⟩], 0) := by
  by_cases hs : s = []
  · subst hs; rw [if_pos rfl]; unfold scanF; rw [if_neg (by decide), partsM]; rfl
  · rw [if_neg hs]
    have hl : s.length ≤ 65536 := by
      rw [checkC_eq] at h
      split at h
      · cases h
      · omega
    have : chkX [⟨1, [], s, 0⟩] = 0 := by
      refine chkGo_cons.2 ⟨chk_ok ?_ (fun h => by cases h.2) (fun h => absurd rfl h) rfl, ?_⟩
      · unfold singleX
        rw [if_pos rfl, if_neg (by simp), if_neg hs, if_neg (by simpa using h)]
      · have : (textF ⟨1, [], s, 0⟩).length = s.length := rfl
        rw [chkGo, if_neg (by omega)]
    have := print_scan this
    have e : printX [⟨1, [], s, 0⟩] = s := by show s ++ [] = s; simp
    rwa [e] at this
theorem strip_kd : ∀ (l : List Lx) (pt : Bool) (at_ : Nat), chkGo l pt at_ = 0 → ∀ c ∈ stripX l, kd c ≠ 0
  | [], _, _, _, c, hc => by cases hc
  | x :: r, pt, at_, h, c, hc => by
    obtain ⟨h1, h2⟩ := chkGo_cons.1 h
    obtain ⟨a, b, c', d⟩ := chk_inv h1
    unfold stripX at hc
    rw [List.flatMap_cons, List.mem_append] at hc
    rcases hc with hc | hc
    · split at hc
      · rename_i hk
        exact check_kd (text_form a hk).2.2.1 c hc
      · cases hc
    · exact strip_kd r _ _ h2 c hc
theorem strip_len : ∀ l : List Lx, (stripX l).length ≤ (printX l).length
  | [] => Nat.le_refl _
  | x :: r => by
    have ih := strip_len r
    unfold stripX printX at *
    rw [List.flatMap_cons, List.flatMap_cons, List.length_append, List.length_append]
    have : (if x.k = 1 then x.vl else []).length ≤ (textF x).length := by
      split
      · rename_i hk; unfold textF; rw [if_neg (by omega), if_neg (by omega), if_neg (by omega)]; exact Nat.le_refl _
      · exact Nat.zero_le _
    omega
end Go.Proofs
namespace Go.Proofs
open Go Go.Sh Go.RowKit

/- lexemes with their right offsets -/
def atLen (x : Lx) : Nat := x.nm.length + x.vl.length + if x.k ≠ 1 then 2 + (if x.vl ≠ [] then 1 else 0) + (if x.k ≠ 2 then 1 else 0) else 0
def atGo : Nat → List Lx → List Lx
  | _, [] => []
  | n, x :: r => { x with pos := n } :: atGo (n + atLen x) r
def okL : List Lx → Bool → Prop
  | [], _ => True
  | x :: r, pt => singleX x = 0 ∧ ¬ (x.k = 1 ∧ pt = true) ∧ (x.k ≠ 1 → rightX x = true) ∧ okL r (decide (x.k = 1))
theorem atLen_ok {x : Lx} (h : singleX x = 0) : atLen x = (textF x).length := by
  unfold atLen
  by_cases hk : x.k = 1
  · obtain ⟨a, b, _, d⟩ := text_form h hk
    rw [a, d, if_neg (by simpa using hk)]; simp
  · unfold singleX at h
    rw [if_neg hk] at h
    split at h
    · rename_i h3
      rw [if_pos hk]
      unfold textF innF
      rcases h3 with h3 | h3 | h3 <;> simp only [h3] <;> by_cases hv : x.vl = [] <;> simp [hv] <;> omega
    · cases h
theorem chk_okL : ∀ {l : List Lx} {pt : Bool} {at_ : Nat}, chkGo l pt at_ = 0 → okL l pt
  | [], _, _, _ => trivial
  | x :: r, pt, at_, h => by
    obtain ⟨h1, h2⟩ := chkGo_cons.1 h
    obtain ⟨a, b, c, _⟩ := chk_inv h1
    exact ⟨a, b, c, chk_okL h2⟩
theorem okL_at : ∀ {l : List Lx} {pt : Bool} {n : Nat}, okL l pt → n + (printX l).length ≤ 65536 → chkGo (atGo n l) pt n = 0
  | [], _, n, _, h => by
    have : (printX []).length = 0 := rfl
    rw [atGo, chkGo, if_neg (by omega)]
  | x :: r, pt, n, ⟨a, b, c, d⟩, h => by
    have hl : (printX (x :: r)).length = (textF x).length + (printX r).length := by rw [printX, List.flatMap_cons, List.length_append]; rfl
    rw [atGo]
    refine chkGo_cons.2 ⟨chk_ok a b c rfl, ?_⟩
    rw [atLen_ok a]
    exact okL_at d (by omega)
theorem atGo_print : ∀ (l : List Lx) (n : Nat), printX (atGo n l) = printX l
  | [], _ => rfl
  | x :: r, n => by
    rw [atGo, print_cons, atGo_print r, print_cons]; rfl
theorem atGo_len : ∀ (l : List Lx) (n : Nat), (atGo n l).length = l.length
  | [], _ => rfl
  | x :: r, n => by rw [atGo, List.length_cons, atGo_len r, List.length_cons]
/- nesting asks for kinds and names alone -/
theorem nest_at : ∀ (l : List Lx) (n : Nat) (st : List (List UInt8)), nestGo (atGo n l) st = nestGo l st
  | [], _, _ => rfl
  | x :: r, n, st => by
    rw [atGo, nestGo, nestGo]
    simp only [nest_at r]
def opens (l : List Lx) : Nat := (l.filter fun x => decide (x.k = 2)).length
def closes (l : List Lx) : Nat := (l.filter fun x => decide (x.k = 3)).length
theorem opens_cons (x : Lx) (r : List Lx) : opens (x :: r) = (if x.k = 2 then 1 else 0) + opens r := by
  unfold opens
  by_cases h : x.k = 2
  · rw [List.filter_cons_of_pos (by simpa using h), if_pos h, List.length_cons]; omega
  · rw [List.filter_cons_of_neg (by simpa using h), if_neg h]; omega
theorem closes_cons (x : Lx) (r : List Lx) : closes (x :: r) = (if x.k = 3 then 1 else 0) + closes r := by
  unfold closes
  by_cases h : x.k = 3
  · rw [List.filter_cons_of_pos (by simpa using h), if_pos h, List.length_cons]; omega
  · rw [List.filter_cons_of_neg (by simpa using h), if_neg h]; omega
theorem opens_closes_len : ∀ l : List Lx, opens l + closes l ≤ l.length
  | [] => Nat.le_refl _
  | x :: r => by
    have ih := opens_closes_len r
    rw [opens_cons, closes_cons, List.length_cons]
    split <;> split <;> omega
theorem nest_zero : ∀ {l : List Lx} {st : List (List UInt8)}, nestGo l st = 0 → st.length + opens l = closes l
  | [], st, h => by
    rw [nestGo] at h
    split at h
    · rename_i h1; rw [h1]; rfl
    · cases h
  | x :: r, st, h => by
    rw [nestGo] at h
    rw [opens_cons, closes_cons]
    split at h
    · rename_i h2
      split at h
      · cases h
      · have := nest_zero h
        rw [List.length_cons] at this
        rw [if_pos h2, if_neg (by omega)]; omega
    · rename_i h2
      split at h
      · rename_i h3
        cases hp : popS x.nm st with
        | none => rw [hp] at h; cases h
        | some st' =>
          rw [hp] at h
          have := nest_zero (l := r) (st := st') h
          rw [popS_some hp, if_neg h2, if_pos h3, List.length_cons]; omega
      · rename_i h3
        have := nest_zero h
        rw [if_neg h2, if_neg h3]; omega
theorem nest_vals : ∀ {l : List Lx} {st : List (List UInt8)}, st.length + opens l ≤ 16 → nestGo l st = 0 ∨ nestGo l st = 12
  | [], st, _ => by
    rw [nestGo]; split
    · exact .inl rfl
    · exact .inr rfl
  | x :: r, st, h => by
    rw [opens_cons] at h
    rw [nestGo]
    split
    · rename_i h2
      rw [if_pos h2] at h
      rw [if_neg (by omega)]
      exact nest_vals (by rw [List.length_cons]; omega)
    · split
      · cases hp : popS x.nm st with
        | none => exact .inr rfl
        | some st' =>
          have hl := congrArg List.length (popS_some hp)
          rw [List.length_cons] at hl
          exact nest_vals (l := r) (st := st') (by omega)
      · exact nest_vals (by omega)
theorem nest_base : ∀ {l : List Lx} {st : List (List UInt8)}, nestGo l st = 0 → ∀ (m : List Lx) (base : List (List UInt8)), (st ++ base).length + opens l ≤ 16 → nestGo (l ++ m) (st ++ base) = nestGo m base
  | [], st, h, m, base, _ => by
    rw [nestGo] at h
    split at h
    · rename_i h1; rw [h1]; rfl
    · cases h
  | x :: r, st, h, m, base, hb => by
    rw [nestGo] at h
    rw [opens_cons] at hb
    rw [List.cons_append, nestGo]
    split at h
    · rename_i h2
      split at h
      · cases h
      · rw [if_pos h2] at hb ⊢
        rw [if_neg (by omega)]
        have := nest_base h m base (by rw [List.cons_append, List.length_cons]; omega)
        rwa [List.cons_append] at this
    · rename_i h2
      rw [if_neg h2]
      split at h
      · rename_i h3
        rw [if_pos h3]
        cases hp : popS x.nm st with
        | none => rw [hp] at h; cases h
        | some st' =>
          rw [hp] at h
          have hst := popS_some hp
          rw [hst] at hb ⊢
          have hp2 : popS x.nm (x.nm :: st' ++ base) = some (st' ++ base) := by rw [List.cons_append]; exact if_pos rfl
          rw [hp2]
          exact nest_base (l := r) (st := st') h m base (by rw [List.cons_append, List.length_cons] at hb; omega)
      · rename_i h3
        rw [if_neg h3]
        exact nest_base h m base (by omega)
/- an empty tag in place of a tag -/
def lbX : Lx := ⟨4, [108, 98], [], 0⟩
def unX (k : Int) : Lx := ⟨k, [117, 110, 99, 108, 101, 97, 114], [], 0⟩
theorem lb_ok : singleX lbX = 0 ∧ rightX lbX = true := by constructor <;> decide
theorem un_ok2 : singleX (unX 2) = 0 ∧ rightX (unX 2) = true := by constructor <;> decide
theorem un_ok3 : singleX (unX 3) = 0 ∧ rightX (unX 3) = true := by constructor <;> decide
theorem short_names {nm : List UInt8} (h : knownB nm = true) (he : emptyB nm = false) : 2 ≤ nm.length ∧ (nm.length = 2 → nm = [97, 98]) := by
  have key : ∀ nm ∈ tagNames, emptyB nm = false → 2 ≤ nm.length ∧ (nm.length = 2 → nm = [97, 98]) := by decide
  exact key nm (of_decide_eq_true h) he
theorem tag_len5 {x : Lx} (h : singleX x = 0) (hr : rightX x = true) (hk : x.k = 2 ∨ x.k = 3) : 5 ≤ (textF x).length := by
  unfold singleX at h
  rw [if_neg (by omega), if_pos (by omega)] at h
  split at h
  · rename_i hh
    obtain ⟨h1, h2⟩ := hh
    have he : emptyB x.nm = false := by rw [h2]; exact decide_eq_false (by omega)
    obtain ⟨a, b⟩ := short_names h1 he
    rcases hk with hk | hk
    · unfold textF innF
      rw [if_pos hk]
      split
      · rename_i hv
        have : 0 < x.vl.length := List.length_pos_iff.2 hv
        simp; omega
      · rename_i hv
        have hv : x.vl = [] := by simpa using hv
        have : x.nm.length ≠ 2 := by
          intro h2
          unfold rightX at hr
          rw [if_neg (by omega), b h2, hv] at hr
          exact absurd hr (by decide)
        simp; omega
    · unfold textF innF
      rw [if_neg (by omega), if_pos hk]
      split
      · simp; omega
      · simp; omega
  · cases h
theorem set_ok : ∀ {l : List Lx} {pt : Bool} {k : Nat} {x : Lx}, okL l pt → l[k]? = some x → (x.k = 2 ∨ x.k = 3) → okL (l.set k lbX) pt ∧ (printX (l.set k lbX)).length ≤ (printX l).length
  | [], _, k, x, _, h, _ => by simp at h
  | y :: r, pt, 0, x, ⟨a, b, c, d⟩, h, hk => by
    obtain rfl : y = x := by simpa using h
    have hk1 : y.k ≠ 1 := by omega
    have := tag_len5 a (c hk1) hk
    have h5 : (textF lbX).length = 5 := rfl
    rw [List.set_cons_zero]
    refine ⟨⟨lb_ok.1, fun hh => absurd hh.1 (by decide), fun _ => lb_ok.2, ?_⟩, ?_⟩
    · have e1 : decide (lbX.k = 1) = false := rfl
      rw [decide_eq_false hk1] at d
      rw [e1]; exact d
    · rw [printX, printX, List.flatMap_cons, List.flatMap_cons, List.length_append, List.length_append]; omega
  | y :: r, pt, k + 1, x, ⟨a, b, c, d⟩, h, hk => by
    obtain ⟨i1, i2⟩ := set_ok d (by simpa using h) hk
    rw [List.set_cons_succ]
    refine ⟨⟨a, b, c, i1⟩, ?_⟩
    rw [printX, printX, List.flatMap_cons, List.flatMap_cons, List.length_append, List.length_append]
    unfold printX at i2; omega
theorem set_count : ∀ {l : List Lx} {k : Nat} {x : Lx}, l[k]? = some x → opens (l.set k lbX) + (if x.k = 2 then 1 else 0) = opens l ∧ closes (l.set k lbX) + (if x.k = 3 then 1 else 0) = closes l
  | [], k, x, h => by simp at h
  | y :: r, 0, x, h => by
    obtain rfl : y = x := by simpa using h
    rw [List.set_cons_zero, opens_cons, closes_cons, opens_cons, closes_cons, if_neg (show ¬ lbX.k = 2 by decide), if_neg (show ¬ lbX.k = 3 by decide)]
    omega
  | y :: r, k + 1, x, h => by
    obtain ⟨i1, i2⟩ := set_count (l := r) (k := k) (x := x) (by simpa using h)
    rw [List.set_cons_succ, opens_cons, closes_cons, opens_cons, closes_cons]
    omega
theorem nestX_zero {l : List Lx} (h : nestX l = 0) : chkX l = 0 ∧ nestGo l [] = 0 := by
  unfold nestX at h
  split at h
  · cases h
  · rename_i h1; exact ⟨by simpa using h1, h⟩
theorem nest_less {l : List Lx} {k : Nat} {x : Lx} (h : nestX l = 0) (hl : l.length ≤ 24) (hx : l[k]? = some x) (hk : x.k = 2 ∨ x.k = 3) : nestX (atGo 0 (l.set k lbX)) = 12 := by
  obtain ⟨h1, h2⟩ := nestX_zero h
  obtain ⟨a, b⟩ := set_ok (chk_okL h1) hx hk
  have hlen := chk_len l _ _ h1
  have hc : chkX (atGo 0 (l.set k lbX)) = 0 := okL_at a (by omega)
  have z := nest_zero h2
  have oc := opens_closes_len l
  obtain ⟨c1, c2⟩ := set_count hx
  simp only [List.length_nil] at z
  unfold nestX
  rw [if_neg (by simpa using hc), nest_at]
  rcases nest_vals (l := l.set k lbX) (st := []) (by simp only [List.length_nil]; split at c1 <;> omega) with h | h
  · have := nest_zero h
    simp only [List.length_nil] at this
    exfalso
    rcases hk with hk | hk
    · rw [if_pos hk] at c1; rw [if_neg (by omega)] at c2; omega
    · rw [if_neg (by omega)] at c1; rw [if_pos hk] at c2; omega
  · exact h
theorem nest_opens {l : List Lx} (h : nestX l = 0) (hl : l.length ≤ 24) : opens l ≤ 12 := by
  have z := nest_zero (nestX_zero h).2
  have oc := opens_closes_len l
  simp only [List.length_nil] at z
  omega
theorem nest_both {l m : List Lx} (h : nestX l = 0) (hl : l.length ≤ 24) (hm : nestX m = 0) : nestGo (atGo 0 (l ++ ([lbX] ++ m))) [] = 0 := by
  have := nest_opens h hl
  rw [nest_at]
  have hb := nest_base (nestX_zero h).2 ([lbX] ++ m) [] (by simp; omega)
  rw [List.append_nil] at hb
  rw [hb, List.cons_append, nestGo, if_neg (by decide), if_neg (by decide)]
  exact (nestX_zero hm).2
theorem nest_in {l : List Lx} (h : nestX l = 0) (hl : l.length ≤ 24) : nestGo (atGo 0 ([unX 2] ++ (l ++ [unX 3]))) [] = 0 := by
  have := nest_opens h hl
  rw [nest_at, List.cons_append, nestGo, if_pos (show (unX 2).k = 2 by rfl), if_neg (by decide), List.nil_append]
  have hb := nest_base (nestX_zero h).2 [unX 3] [(unX 2).nm] (by simp; omega)
  rw [List.nil_append] at hb
  rw [hb, nestGo, if_neg (by decide), if_pos (show (unX 3).k = 3 by rfl)]
  decide

/- one tag alone -/
theorem scan_tag {m : List UInt8} (hm : ∀ c ∈ m, c ≠ 62) (hl : m.length ≤ 60000) : (scanF (60 :: (m ++ [62]))).2 = (readF (60 :: (m ++ [62]))).2 := by
  unfold scanF
  rw [if_neg (by simp; omega)]
  have hc := cut_tag (t := []) hm
  rw [List.append_nil] at hc
  have hp : partsM (60 :: (m ++ [62])) 0 = [(0, 60 :: (m ++ [62]))] := by
    rw [partsM, hc, List.take_length, List.drop_length, partsM]
  rw [hp, scanL]
  have e : (lexP 0 (60 :: (m ++ [62]))).2 = (readF (60 :: (m ++ [62]))).2 := by
    unfold lexP
    rw [if_neg (by simp), if_neg (by rw [← List.cons_append, List.getLast?_concat]; simp)]
    split
    · rename_i h; exact h.symm
    · rfl
  by_cases h : (lexP 0 (60 :: (m ++ [62]))).2 = 0
  · rw [if_pos h, ← e, h]; rfl
  · rw [if_neg h]; exact e
theorem name_inn {nm v t : List UInt8} (hc : ∀ c ∈ nm, c ≠ 32 ∧ c ≠ 47 ∧ c ≠ 60 ∧ c ≠ 62) (ht : t = [] ∨ t = [47]) : nameF (innF nm v ++ t) = nm := by
  unfold nameF innF
  have hh : ∀ c ∈ nm, (!(c == 32 || c == 47)) = true := fun c h => by
    have := hc c h
    simp [this.1, this.2.1]
  split
  · rw [List.append_assoc, List.takeWhile_append_of_pos hh]
    show nm ++ List.takeWhile _ (32 :: _) = nm
    rw [List.takeWhile_cons]; simp
  · rw [List.takeWhile_append_of_pos hh]
    rcases ht with rfl | rfl
    · simp
    · simp
theorem inn_head {nm v t : List UInt8} (hn : nm ≠ []) (hc : ∀ c ∈ nm, c ≠ 32 ∧ c ≠ 47 ∧ c ≠ 60 ∧ c ≠ 62) : ¬ (innF nm v ++ t).head? = some 47 := by
  unfold innF
  cases hnm : nm with
  | nil => exact absurd hnm hn
  | cons a r =>
    have := (hc a (by rw [hnm]; exact List.mem_cons_self)).2.1
    split <;> simpa using this
theorem inn_47 {nm v : List UInt8} (h : (47 : UInt8) ∈ innF nm v) : (47 : UInt8) ∈ nm ∨ (47 : UInt8) ∈ v := by
  unfold innF at h
  split at h
  · simp only [List.mem_append, List.mem_cons, List.not_mem_nil, or_false] at h
    rcases h with h | h | h
    · exact .inl h
    · exact absurd h (by decide)
    · exact .inr h
  · exact .inl h
theorem open_tag {nm v : List UInt8} (hk : knownB nm = true) (hv : ∀ c ∈ v, c ≠ 32 ∧ c ≠ 47 ∧ c ≠ 60 ∧ c ≠ 62) (h : (readF (60 :: (innF nm v ++ [62]))).2 = 0) : emptyB nm = false := by
  obtain ⟨nn, _, hc⟩ := nm_bad hk
  have e1 := name_inn (v := v) (t := []) hc (.inl rfl)
  have e2 := inn_head (v := v) (t := []) nn hc
  rw [List.append_nil] at e1 e2
  unfold readF at h
  rw [inner_two, if_neg e2, e1, if_neg (by rw [hk]; decide)] at h
  unfold accX at h
  split at h
  · rename_i hh
    cases he : emptyB nm with
    | false => rfl
    | true =>
      exfalso
      obtain ⟨h1, h2⟩ := hh
      unfold tagX textF at h2
      rw [if_pos he] at h2
      replace h2 : [60] ++ innF nm (valueF (innF nm v) nm) ++ [47, 62] = 60 :: (innF nm v ++ [62]) := h2
      have h3 : innF nm (valueF (innF nm v) nm) ++ [47] = innF nm v := by
        have : (60 :: (innF nm (valueF (innF nm v) nm) ++ [47])) ++ [62] = (60 :: innF nm v) ++ [62] := by simpa using h2
        exact (List.cons.inj (List.append_cancel_right this)).2
      have : (47 : UInt8) ∈ innF nm v := by rw [← h3]; simp
      rcases inn_47 this with h | h
      · exact (hc 47 h).2.1 rfl
      · exact (hv 47 h).2.1 rfl
  · cases h
theorem empty_tag {nm v : List UInt8} (hk : knownB nm = true) (h : (readF (60 :: ((innF nm v ++ [47]) ++ [62]))).2 = 0) : emptyB nm = true := by
  obtain ⟨nn, _, hc⟩ := nm_bad hk
  have e1 := name_inn (v := v) (t := [47]) hc (.inr rfl)
  have e2 := inn_head (v := v) (t := [47]) nn hc
  unfold readF at h
  rw [inner_two, if_neg e2, e1, if_neg (by rw [hk]; decide)] at h
  unfold accX at h
  split at h
  · rename_i hh
    cases he : emptyB nm with
    | true => rfl
    | false =>
      exfalso
      obtain ⟨h1, h2⟩ := hh
      unfold tagX textF at h2
      rw [if_neg (show ¬ emptyB nm = true by rw [he]; decide)] at h2
      replace h2 : [60] ++ innF nm (valueF (innF nm v ++ [47]) nm) ++ [62] = 60 :: ((innF nm v ++ [47]) ++ [62]) := h2
      have h3 : innF nm (valueF (innF nm v ++ [47]) nm) = innF nm v ++ [47] := by
        have : (60 :: innF nm (valueF (innF nm v ++ [47]) nm)) ++ [62] = (60 :: (innF nm v ++ [47])) ++ [62] := by simpa using h2
        exact (List.cons.inj (List.append_cancel_right this)).2
      have hm : (47 : UInt8) ∈ innF nm (valueF (innF nm v ++ [47]) nm) := by rw [h3]; simp
      rcases inn_47 hm with h | h
      · exact (hc 47 h).2.1 rfl
      · exact (kd_bad (val_kd h1 47 h)).2.1 rfl
  · cases h
theorem close_tag {nm : List UInt8} (hk : knownB nm = true) : (readF (60 :: ((47 :: nm) ++ [62]))).2 = if emptyB nm = true then 3 else 0 := by
  obtain ⟨nn, _, hc⟩ := nm_bad hk
  have en : nameF (List.drop 1 (47 :: nm)) = nm := by
    exact name_self hc
  unfold readF
  rw [inner_two, if_pos (show (47 :: nm : List UInt8).head? = some 47 by rfl), en, if_neg (by rw [hk]; decide)]
  cases he : emptyB nm with
  | true => rw [if_neg (by simp)]; rfl
  | false => rw [if_pos ⟨rfl, by simp⟩]; rfl
end Go.Proofs
namespace Go.Proofs
open Go Go.Sh Go.RowKit Go.Lib

set_option maxHeartbeats 4000000 in
set_option maxRecDepth 1000000 in
theorem IndexRune_bad (s : ByteArray) (r : Int) (w : World) (h1 : 128 ≤ r) (h2 : r ≠ 65533) (hv : Go.validRune r = false) :
    Calls Tryz.prog 117 #[.string s, .int .i32 r] w fun e w' => e = .returned (.int .i64 (-1)) ∧ w' = w := by
  have hv' : Lib.validRune r = false := hv
  go_enter Tryz.func117, Tryz.ntmps117
  go_wp2_with (go_at_call 136; refine (Tryz.utf8_ValidRune _ _).mono ?_; rintro e w' ⟨rfl, hw⟩; rw [hw, hv'])
  go_ret
  exact ⟨rfl, rfl⟩
theorem encode_forms (r : Int) (h1 : 128 ≤ r) (hv : Go.validRune r = true) : (∃ x y : UInt8, 128 ≤ y.toNat ∧ Utf8.encode r = ⟨#[x, y]⟩) ∨ (∃ x y z : UInt8, Utf8.encode r = ⟨#[x, y, z]⟩) ∨ (∃ x y z u : UInt8, Utf8.encode r = ⟨#[x, y, z, u]⟩) := by
  have hv : Utf8.valid r = true := by rw [validRune_eq]; exact hv
  have hc : ¬ r.toNat < 128 := by omega
  unfold Utf8.encode
  simp only [hv, if_true, hc, if_false]
  split
  · exact .inl ⟨_, _, by simp; omega, rfl⟩
  · split
    · exact .inr (.inl ⟨_, _, _, rfl⟩)
    · exact .inr (.inr ⟨_, _, _, _, rfl⟩)
section
variable (r : Int) (w : World) (h1 : 128 ≤ r) (h2 : r ≠ 65533) (hv' : Lib.validRune r = true)
set_option maxHeartbeats 4000000 in
set_option maxRecDepth 1000000 in
include h1 h2 hv' in
theorem IndexRune_two (x y : UInt8) (hy : 128 ≤ y.toNat) (he : Utf8.encode r = ⟨#[x, y]⟩) :
    Calls Tryz.prog 117 #[.string ⟨#[32, 47]⟩, .int .i32 r] w fun e w' => e = .returned (.int .i64 (-1)) ∧ ∃ n, w' = w.drewN n := by
  have hcv : ∀ w, (convert 21 9 (.int .i32 r)).run Tryz.prog w = .ok (.string ⟨#[x, y]⟩) w := fun w => by rw [← he]; exact run_convert_int_string w 21 9 .i32 r (by rw [Tryz.underlying21]; rfl) Tryz.underlying9
  have hne : ¬ ((47 : Int) = (y.toNat : Int)) := by omega
  have hwr : IntKind.i64.wrap 2 = 2 := rfl
  have hsz : (⟨#[32, 47]⟩ : ByteArray).size = 2 := rfl
  have hib : Lib.indexByte (ByteArray.extract ⟨#[32, 47]⟩ 2 2).data.toList ((y.toNat : Int)).toNat.toUInt8 = -1 := rfl
  go_enter Tryz.func117, Tryz.ntmps117
  go_wp2_with (go_at_call 136; refine (Tryz.utf8_ValidRune _ _).mono ?_; rintro e w' ⟨rfl, hw⟩; rw [hw, hv'])
  subst hw
  go_step3
  go_wp2
  refine wp_loop_rounds 1 ?_
  rw [rounds_succ]
  go_wp2
  go_step3
  go_wp2_with fail
  go_quiet (fail)
  go_wp2_with fail
  go_quiet (first | (go_at_call 86; refine (Tryz.strings_IndexByte _ _ _).mono ?_; rintro e w'' ⟨rfl, rfl⟩; exact ⟨rfl, _, rfl⟩))
  go_wp2
  · simp only [Exit.noGoto, Exit.inBlock, Exit.then]
    go_ret
    exact ⟨rfl, _, rfl⟩
  · exfalso
    have hh : ((47 : Int) != (y.toNat : Int)) = false := by assumption
    simp at hh
    omega
set_option maxHeartbeats 4000000 in
set_option maxRecDepth 1000000 in
include h1 h2 hv' in
theorem IndexRune_three (x y z : UInt8) (he : Utf8.encode r = ⟨#[x, y, z]⟩) :
    Calls Tryz.prog 117 #[.string ⟨#[32, 47]⟩, .int .i32 r] w fun e w' => e = .returned (.int .i64 (-1)) ∧ w' = w := by
  have hcv : ∀ w, (convert 21 9 (.int .i32 r)).run Tryz.prog w = .ok (.string ⟨#[x, y, z]⟩) w := fun w => by rw [← he]; exact run_convert_int_string w 21 9 .i32 r (by rw [Tryz.underlying21]; rfl) Tryz.underlying9
  go_enter Tryz.func117, Tryz.ntmps117
  go_wp2_with (go_at_call 136; refine (Tryz.utf8_ValidRune _ _).mono ?_; rintro e w' ⟨rfl, hw⟩; rw [hw, hv'])
  subst hw
  go_step3
  go_wp2
  refine wp_loop_rounds 1 ?_
  rw [rounds_succ]
  go_wp2
  simp only [Exit.noGoto, Exit.inBlock]
  go_ret
  exact ⟨rfl, rfl⟩
set_option maxHeartbeats 4000000 in
set_option maxRecDepth 1000000 in
include h1 h2 hv' in
theorem IndexRune_four (x y z u : UInt8) (he : Utf8.encode r = ⟨#[x, y, z, u]⟩) :
    Calls Tryz.prog 117 #[.string ⟨#[32, 47]⟩, .int .i32 r] w fun e w' => e = .returned (.int .i64 (-1)) ∧ w' = w := by
  have hcv : ∀ w, (convert 21 9 (.int .i32 r)).run Tryz.prog w = .ok (.string ⟨#[x, y, z, u]⟩) w := fun w => by rw [← he]; exact run_convert_int_string w 21 9 .i32 r (by rw [Tryz.underlying21]; rfl) Tryz.underlying9
  go_enter Tryz.func117, Tryz.ntmps117
  go_wp2_with (go_at_call 136; refine (Tryz.utf8_ValidRune _ _).mono ?_; rintro e w' ⟨rfl, hw⟩; rw [hw, hv'])
  subst hw
  go_step3
  go_wp2
  refine wp_loop_rounds 1 ?_
  rw [rounds_succ]
  go_wp2
  simp only [Exit.noGoto, Exit.inBlock]
  go_ret
  exact ⟨rfl, rfl⟩
end
set_option maxHeartbeats 4000000 in
set_option maxRecDepth 1000000 in
theorem IndexRune_err (w : World) : Calls Tryz.prog 117 #[.string ⟨#[32, 47]⟩, .int .i32 65533] w fun e w' => e = .returned (.int .i64 (-1)) ∧ ∃ pos, w' = w.iter ⟨#[32, 47]⟩ pos := by
  go_enter Tryz.func117, Tryz.ntmps117
  have k0 := fun ty => run_next_ascii (P := Tryz.prog) w ⟨#[32, 47]⟩ 0 ty (by decide) (by decide)
  have k1 := fun ty => run_next_ascii (P := Tryz.prog) w ⟨#[32, 47]⟩ 1 ty (by decide) (by decide)
  have k2 := run_next_end (P := Tryz.prog) w ⟨#[32, 47]⟩ 2
  have e0 : ((⟨#[32, 47]⟩ : ByteArray)[0]'(by decide)).toNat = 32 := rfl
  have e1 : ((⟨#[32, 47]⟩ : ByteArray)[1]'(by decide)).toNat = 47 := rfl
  rw [e0] at k0
  rw [e1] at k1
  go_wp2
  refine wp_loop_rounds 3 ?_
  rw [rounds_succ]
  go_wp2
  rw [rounds_succ]
  go_wp2
  rw [rounds_succ]
  go_wp2
  go_ret
  exact ⟨rfl, _, rfl⟩
theorem IndexRune_any (r : Int) (w : World) (h1 : 128 ≤ r) (h3 : r ≤ 2147483647) : Calls Tryz.prog 117 #[.string ⟨#[32, 47]⟩, .int .i32 r] w fun e w' => e = .returned (.int .i64 (-1)) ∧ Below w.heap.size w w' := by
  by_cases h2 : r = 65533
  · subst h2
    refine (IndexRune_err w).mono ?_
    rintro e w' ⟨he, pos, rfl⟩
    exact ⟨he, (Below.refl _ _).alloc (Nat.le_refl _) _⟩
  · cases hv : Go.validRune r with
    | false =>
      refine (IndexRune_bad ⟨#[32, 47]⟩ r w h1 h2 hv).mono ?_
      rintro e w' ⟨he, rfl⟩
      exact ⟨he, Below.refl _ _⟩
    | true =>
      rcases encode_forms r h1 hv with ⟨x, y, hy, he⟩ | ⟨x, y, z, he⟩ | ⟨x, y, z, u, he⟩
      · refine (IndexRune_two r w h1 h2 hv x y hy he).mono ?_
        rintro e w' ⟨he, n, rfl⟩
        exact ⟨he, below_drewN (Below.refl _ _) n⟩
      · refine (IndexRune_three r w h1 h2 hv x y z he).mono ?_
        rintro e w' ⟨he, rfl⟩
        exact ⟨he, Below.refl _ _⟩
      · refine (IndexRune_four r w h1 h2 hv x y z u he).mono ?_
        rintro e w' ⟨he, rfl⟩
        exact ⟨he, Below.refl _ _⟩
/- what a decoded rune takes up -/
theorem decode_span (s : ByteArray) (pos : Nat) (h : pos < s.size) (ha : 128 ≤ (s[pos]'h).toNat) : ∃ n, (Utf8.decode s pos).2 = n ∧ 1 ≤ n ∧ pos + n ≤ s.size ∧ ∀ k, k < n → 128 ≤ (s.get! (pos + k)).toNat := by
  have hg := get_at s pos h
  have hn : ¬ (s[pos]'h).toNat < 128 := by omega
  have one : ∃ n, (1 : Nat) = n ∧ 1 ≤ n ∧ pos + n ≤ s.size ∧ ∀ k, k < n → 128 ≤ (s.get! (pos + k)).toNat :=
    ⟨1, rfl, Nat.le_refl _, by omega, by
      intro k hk
      have hk0 : k = 0 := by omega
      subst hk0
      rw [hg]; exact ha⟩
  simp only [Utf8.decode, hg, hn, if_false]
  split
  · rename_i h1
    simp only [Bool.and_eq_true, decide_eq_true_eq, beq_iff_eq] at h1
    split
    · refine ⟨2, rfl, by omega, by omega, fun k hk => ?_⟩
      rcases (by omega : k = 0 ∨ k = 1) with rfl | rfl
      · rw [hg]; exact ha
      · omega
    · exact one
  · split
    · rename_i h1
      simp only [Bool.and_eq_true, decide_eq_true_eq, beq_iff_eq] at h1
      split
      · refine ⟨3, rfl, by omega, by omega, fun k hk => ?_⟩
        rcases (by omega : k = 0 ∨ k = 1 ∨ k = 2) with rfl | rfl | rfl
        · rw [hg]; exact ha
        · omega
        · omega
      · exact one
    · split
      · rename_i h1
        simp only [Bool.and_eq_true, decide_eq_true_eq, beq_iff_eq] at h1
        split
        · refine ⟨4, rfl, by omega, by omega, fun k hk => ?_⟩
          rcases (by omega : k = 0 ∨ k = 1 ∨ k = 2 ∨ k = 3) with rfl | rfl | rfl | rfl
          · rw [hg]; exact ha
          · omega
          · omega
          · omega
        · exact one
      · exact one
end Go.Proofs
namespace Go.Proofs
open Go Go.Sh Go.RowKit Go.Lib

theorem noany_span {s : ByteArray} {i n : Nat} (h : Lib.NoAny s.data.toList [32, 47] i) (hn : i + n ≤ s.size) (hs : ∀ k, k < n → 128 ≤ (s.get! (i + k)).toNat) : Lib.NoAny s.data.toList [32, 47] (i + n) := by
  intro j b hj hb
  by_cases hji : j < i
  · exact h j b hji hb
  · have hk := hs (j - i) (by omega)
    have hjs : j < s.size := by omega
    have e : s.get! (i + (j - i)) = b := by
      rw [show i + (j - i) = j by omega]
      have h1 := Lib.data_getElem? s j hjs
      rw [h1] at hb
      rw [← Option.some.inj hb]
      have := get_at s j hjs
      rwa [Nat.add_zero] at this
    rw [e] at hk
    have h1 : b ≠ 32 := by rintro rfl; exact absurd hk (by decide)
    have h2 : b ≠ 47 := by rintro rfl; exact absurd hk (by decide)
    simp [h1, h2]
set_option maxHeartbeats 8000000 in
set_option maxRecDepth 1000000 in
theorem IndexAny_short (s : ByteArray) (w : World) (h8 : s.size ≤ 8) :
    Calls Tryz.prog 90 #[.string s, .string ⟨#[32, 47]⟩] w fun e w' => e = .returned (.int .i64 (Lib.indexAny s.data.toList [32, 47])) ∧ Below w.heap.size w w' := by
  have h8z : decide ((8 : Int) < (s.size : Int)) = false := decide_eq_false (by omega)
  go_enter Tryz.func90, Tryz.ntmps90
  go_wp2_with (go_at_call 118; refine (Tryz.strings_shouldUseASCIISet _ _).mono ?_; rintro e w' ⟨rfl, hw⟩; rw [hw, h8z])
  subst hw
  go_loopg [9, 10] s.size (fun gf _ _ wx => ∃ pos : Nat, wx.heap[w'.heap.size]? = some (.stringIter s pos) ∧ Below w'.heap.size w' wx ∧ Aside (Lib.NoAny s.data.toList [32, 47] pos ∧ pos ≤ s.size) ∧ s.size ≤ pos + gf)
  case atStart => exact ⟨0, World.iter_heap w' s 0, (Below.refl _ w').alloc (Nat.le_refl _) _, ⟨Lib.NoAny.zero _ _, Nat.zero_le _⟩, by omega⟩
  case round =>
    obtain ⟨pos, hit, hbw, HN, hfu⟩ := hrel
    by_cases hps : pos < s.size
    · obtain ⟨g', rfl⟩ : ∃ g', gk = g' + 1 := ⟨gk - 1, by omega⟩
      have hnx : ∀ ty, (Instr.next (.pointer (some ⟨w'.heap.size, 0, none⟩)) true ty).run Tryz.prog wr = _ := fun ty => Lib.run_next_any_at wr w'.heap.size s pos ty hit hps
      have hle := decode_le s pos
      have HA : Aside ((s[pos]'hps).toNat < 128 → Utf8.decode s pos = ((s[pos]'hps).toNat, 1)) := decode_ascii s pos hps
      have HB : Aside (128 ≤ (s[pos]'hps).toNat → 128 ≤ (Utf8.decode s pos).1 ∧ ∃ n, (Utf8.decode s pos).2 = n ∧ 1 ≤ n ∧ pos + n ≤ s.size ∧ ∀ k, k < n → 128 ≤ (s.get! (pos + k)).toNat) := fun ha => ⟨(decode_high s pos hps ha).1, decode_span s pos hps ha⟩
      obtain ⟨R, hR⟩ : ∃ R, (Utf8.decode s pos).1 = R := ⟨_, rfl⟩
      obtain ⟨K, hK⟩ : ∃ K, (Utf8.decode s pos).2 = K := ⟨_, rfl⟩
      rw [hR, hK] at hnx
      rw [hR] at hle
      have hit2 := Lib.iterAt_heap wr w'.heap.size s pos (pos + K) hit
      have hbw2 := Lib.below_iterAt hbw (k := w'.heap.size) (Nat.le_refl _) s (pos + K)
      obtain ⟨W, hWd⟩ : ∃ W, wr.iterAt w'.heap.size s (pos + K) = W := ⟨_, rfl⟩
      rw [hWd] at hnx hit2 hbw2
      have hltW : w'.heap.size < W.heap.size := (Array.getElem?_eq_some_iff.1 hit2).1
      obtain ⟨x, hx⟩ : ∃ x : UInt8, s[pos]'hps = x := ⟨_, rfl⟩
      have Hx : Aside (s.data.toList[pos]? = some x) := by rw [← hx]; exact Lib.data_getElem? s pos hps
      by_cases hx128 : x.toNat < 128
      · have hd := HA.out (by rw [hx]; exact hx128)
        rw [hx] at hd
        obtain rfl : x.toNat = R := by rw [← hR, hd]
        obtain rfl : 1 = K := by rw [← hK, hd]
        clear HA HB hR hK hx hWd
        have hcon := Lib.contains_iff_indexByte [32, 47] x
        have hback : ((x.toNat : Int)).toNat.toUInt8 = x := by simp
        have c0 : Calls Tryz.prog 117 #[.string ⟨#[32, 47]⟩, .int .i32 (x.toNat : Int)] W fun e w' => e = .returned (.int .i64 (Lib.indexByte [32, 47] x)) ∧ w' = W := by
          refine (Tryz.strings_IndexRune_ascii ⟨#[32, 47]⟩ _ W (by omega) (by omega)).mono ?_
          rintro e w' ⟨rfl, hw⟩
          rw [hback]; exact ⟨rfl, hw⟩
        cases hin : ([32, 47] : List UInt8).contains x
        · rw [hin] at hcon
          have hlt : ¬ ((0 : Int) ≤ Lib.indexByte [32, 47] x) := of_decide_eq_false hcon.symm
          have HS : Aside (Lib.NoAny s.data.toList [32, 47] (pos + 1)) := HN.out.1.succ Hx.out hin
          clear hcon hin
          generalize Lib.indexByte [32, 47] x = q at c0 hlt
          go_wp2_with (go_at_call 117; refine c0.mono ?_; rintro e W' ⟨rfl, hbc⟩; rw [hbc])
          go_roundg g'
          case measure => omega
          case rel => exact ⟨pos + 1, hit2, hbw2, ⟨HS.out, by omega⟩, by omega⟩
        · rw [hin] at hcon
          have hge : (0 : Int) ≤ Lib.indexByte [32, 47] x := of_decide_eq_true hcon.symm
          have HS : Aside (Lib.indexAny s.data.toList [32, 47] = pos) := Lib.indexAny_hit HN.out.1 Hx.out hin
          clear hcon hin
          generalize Lib.indexByte [32, 47] x = q at c0 hge
          go_wp2_with (go_at_call 117; refine c0.mono ?_; rintro e W' ⟨rfl, hbc⟩; rw [hbc])
          go_ret
          exact ⟨by rw [HS.out]; rfl, hbw2⟩
      · obtain ⟨h128, n, hn, hn1, hn2, hn3⟩ := HB.out (by rw [hx]; omega)
        rw [hR] at h128
        rw [hK] at hn
        subst hn
        have HS : Aside (Lib.NoAny s.data.toList [32, 47] (pos + K)) := noany_span HN.out.1 hn2 hn3
        clear HA HB hR hK hx hWd hn3
        have c0 := IndexRune_any (R : Int) W (by omega) (by omega)
        go_wp2_with (go_at_call 117; refine c0.mono ?_; rintro e W' ⟨rfl, hbc⟩)
        go_roundg g'
        case measure => omega
        case rel => exact ⟨pos + K, (hbc.block _ hltW).trans hit2, hbw2.trans (hbc.mono hbw2.size), ⟨HS.out, hn2⟩, by omega⟩
    · have hnx : ∀ ty, (Instr.next (.pointer (some ⟨w'.heap.size, 0, none⟩)) true ty).run Tryz.prog wr = _ := fun ty => Lib.run_next_end_at wr w'.heap.size s pos ty hit hps
      go_wp2
      go_ret
      refine ⟨?_, hbw⟩
      obtain ⟨h1, h2⟩ := HN.out
      have hp : pos = s.data.toList.length := by rw [← Lib.size_eq]; omega
      rw [hp] at h1
      rw [Lib.indexAny_none h1]; rfl
theorem IndexAny_spec {R : Ending → World → Prop} {w : World} (s : List UInt8) (hs : s.length ≤ 4000000000) (h : ∀ w', Ext w w' → R (.returned (.int .i64 (Lib.indexAny s [32, 47]))) w') :
    Calls Tryz.prog F_strings_IndexAny ⟨[.string ⟨⟨s⟩⟩, .string ⟨⟨[32, 47]⟩⟩]⟩ w R := by
  have hz : (⟨⟨s⟩⟩ : ByteArray).size = s.length := rfl
  by_cases h8 : s.length ≤ 8
  · refine (IndexAny_short ⟨⟨s⟩⟩ w (by rw [hz]; exact h8)).mono ?_
    rintro e w' ⟨rfl, hb⟩
    exact h w' hb
  · refine (Tryz.strings_IndexAny_long (fun w => (Tryz.zeroValue130 w).trans (by rw [show Tryz.zeroCells130 = Array.replicate 256 (.bool false) by kernel_rfl])) ⟨⟨s⟩⟩ ⟨⟨[32, 47]⟩⟩ w (by decide) (by rw [hz]; omega) (by rw [hz]; omega) (by decide) ?_).mono ?_
    · intro j b hb
      have : b ∈ ([32, 47] : List UInt8) := List.mem_of_getElem? hb
      simp only [List.mem_cons, List.not_mem_nil, or_false] at this
      rcases this with rfl | rfl <;> decide
    · rintro e w' ⟨rfl, rfl⟩
      exact h _ (((Below.refl _ _).alloc (Nat.le_refl _) _).alloc (((Below.refl w.heap.size w).alloc (Nat.le_refl _) _).size) _)
end Go.Proofs
namespace Go.Proofs
open Go Go.Sh Go.RowKit

def tagsL : List (List UInt8) := [[], [], [108, 98], [112, 98], [115, 101, 99], [118], [103, 97, 112], [117, 110, 99, 108, 101, 97, 114], [97, 100, 100], [100, 101, 108], [97, 98], [110, 97, 109, 101]]
def tagF (k : Int) : List UInt8 := tagsL.getD k.toNat []
theorem kind_cases {k : Int} (h1 : 1 ≤ k) (h2 : k ≤ 11) : k = 1 ∨ k = 2 ∨ k = 3 ∨ k = 4 ∨ k = 5 ∨ k = 6 ∨ k = 7 ∨ k = 8 ∨ k = 9 ∨ k = 10 ∨ k = 11 := by omega
theorem tagF_len {k : Int} (h1 : 1 ≤ k) (h2 : k ≤ 11) : (tagF k).length ≤ 7 := by
  rcases kind_cases h1 h2 with rfl | rfl | rfl | rfl | rfl | rfl | rfl | rfl | rfl | rfl | rfl <;> decide
def valF (k : Int) (t : List UInt8) (n : Int) : List UInt8 := if textsF k then 32 :: t else if numsF k then 32 :: Lib.decDigits n.toNat else []
def nodeF (k : Int) (t : List UInt8) (n : Int) (inner : List UInt8) : List UInt8 :=
  if k = 1 then t else if partsF k then [60] ++ tagF k ++ valF k t n ++ [62] ++ inner ++ [60, 47] ++ tagF k ++ [62] else [60] ++ tagF k ++ valF k t n ++ [47, 62]
def printF : Fo → List UInt8
  | .nil => []
  | .cons k t n ps r => nodeF k t n (printF ps) ++ printF r
theorem printF_app (f g : Fo) : printF (f.app g) = printF f ++ printF g := by
  induction f with
  | nil => rfl
  | cons k t n ps r _ ih => simp only [Fo.cons_app, printF, ih, List.append_assoc]

/- nodes whose fields stand right -/
def nodeOk (k : Int) (t : List UInt8) (n : Int) (ps : Fo) : Prop := 1 ≤ k ∧ k ≤ 11 ∧ (numsF k = true → 0 ≤ n ∧ n < 100) ∧ t.length ≤ 65536 ∧ (partsF k = false → ps.len = 0) ∧ (partsF k = true → 0 < ps.len)
def good : Fo → Prop
  | .nil => True
  | .cons k t n ps r => nodeOk k t n ps ∧ good ps ∧ good r
theorem good_app {f g : Fo} : good (f.app g) ↔ good f ∧ good g := by
  induction f with
  | nil => simp [good]
  | cons k t n ps r _ ih => simp only [Fo.cons_app, good, ih, and_assoc]
theorem decDigits_len : ∀ n : Nat, n < 100 → (Lib.decDigits n).length ≤ 2 := by decide +kernel
theorem valF_len {k : Int} {t : List UInt8} {n : Int} {ps : Fo} (h : nodeOk k t n ps) : (valF k t n).length ≤ 65537 := by
  unfold valF
  split
  · have := h.2.2.2.1; simp; omega
  · split
    · rename_i h1 h2
      have := h.2.2.1 h2
      have := decDigits_len n.toNat (by omega)
      simp; omega
    · simp
theorem printF_len : ∀ (f : Fo), good f → (printF f).length ≤ 65600 * f.size
  | .nil, _ => by simp [printF, Fo.size]
  | .cons k t n ps r, h => by
    have h1 := printF_len ps h.2.1
    have h2 := printF_len r h.2.2
    have h3 := tagF_len h.1.1 h.1.2.1
    have h4 := valF_len h.1
    have h5 := h.1.2.2.2.1
    simp only [printF, Fo.size, List.length_append, nodeF]
    split
    · omega
    · split <;> simp only [List.length_append, List.length_cons, List.length_nil] <;> omega

def allF : Fo → Bool → Bool → Int
  | .nil, _, _ => 0
  | .cons k t n ps r, before, within => if singleF k t n ps before within ≠ 0 then singleF k t n ps before within else if allF ps false true ≠ 0 then allF ps false true else allF r (decide (k = 1)) within
theorem single_ok {k : Int} {t : List UInt8} {n : Int} {ps : Fo} {before within : Bool} (h : singleF k t n ps before within = 0) : nodeOk k t n ps := by
  unfold singleF at h
  split at h
  · cases h
  rename_i h1
  split at h
  · cases h
  rename_i h2
  have hk1 : 1 ≤ k := by omega
  have hk2 : k ≤ 11 := by omega
  have hp : partsF k = false → ps.len = 0 := fun hp => by
    apply Classical.byContradiction; intro hne
    exact h1 (.inr (.inr (.inr (.inr ⟨by omega, hp⟩))))
  have hp2 : partsF k = true → 0 < ps.len := fun hp => by
    apply Classical.byContradiction; intro hne
    exact h2 (.inr ⟨hp, by omega⟩)
  have htx : textsF k = false → t = [] := fun hp => by
    apply Classical.byContradiction; intro hne
    exact h1 (.inr (.inr (.inl ⟨hne, hp⟩)))
  have ht : t.length ≤ 65536 := by
    by_cases hb : textsF k = true
    · have hb' : k = 1 ∨ k = 3 ∨ k = 4 ∨ k = 10 ∨ k = 11 := by simpa [textsF] using hb
      have nm : isNameF t = true → t.length ≤ 65536 := fun h => by unfold isNameF at h; simp at h; omega
      rcases hb' with rfl | rfl | rfl | rfl | rfl
      · simp only [if_true] at h
        split at h
        · cases h
        · rename_i hc
          apply Classical.byContradiction; intro hne
          exact hc (by unfold checkC; rw [if_pos (by omega)]; decide)
      · simp at h; exact nm h
      · simp at h; exact nm (by cases hc : isNameF t with | true => rfl | false => rw [hc] at h; simp at h)
      · simp at h; unfold isWordF at h; simp at h; omega
      · simp at h; exact nm h
    · rw [htx (by simpa using hb)]; simp
  refine ⟨hk1, hk2, fun hn => ?_, ht, hp, hp2⟩
  have hn' : k = 6 ∨ k = 8 ∨ k = 9 := by simpa [numsF] using hn
  rcases hn' with rfl | rfl | rfl
  · simp at h; omega
  · simp at h; omega
  · simp at h; omega
theorem all_good : ∀ (f : Fo) (before within : Bool), allF f before within = 0 → good f
  | .nil, _, _, _ => trivial
  | .cons k t n ps r, before, within, h => by
    rw [allF] at h
    split at h
    · rename_i h1; exact absurd h h1
    rename_i h1
    split at h
    · rename_i h2; exact absurd h h2
    rename_i h2
    exact ⟨single_ok (Decidable.not_not.1 h1), all_good ps _ _ (Decidable.not_not.1 h2), all_good r _ _ h⟩
end Go.Proofs
namespace Go.Proofs
open Go Go.Sh Go.RowKit

/- what the library reads of the world: the variables of strings.Cut and strconv.Atoi -/
def Mk (w : World) : Prop := (∃ m, w.cell? ⟨G_internal_bytealg_MaxLen, 0, none⟩ = some (.int .i64 m)) ∧ (∃ t p, w.cell? ⟨G_strconv_ErrSyntax, 0, none⟩ = some (.iface t p)) ∧ (∃ t p, w.cell? ⟨G_strconv_ErrRange, 0, none⟩ = some (.iface t p))
theorem cell_ext {w w' : World} {a : Addr} {v : Value} (h : w.cell? a = some v) (he : Ext w w') : w'.cell? a = some v := by
  rw [he.cell (World.block_lt_of_cell? w _ h)]; exact h
theorem Mk.ext {w w' : World} (h : Mk w) (he : Ext w w') : Mk w' := by
  obtain ⟨⟨m, h1⟩, ⟨t, p, h2⟩, ⟨t', p', h3⟩⟩ := h
  exact ⟨⟨m, cell_ext h1 he⟩, ⟨t, p, cell_ext h2 he⟩, ⟨t', p', cell_ext h3 he⟩⟩

theorem ifc_nil {K : Bool → Prop} (h : K true) : ifc .nilIface K := h
theorem ifc_some {K : Bool → Prop} {t : TypeId} {v : Value} (h : K false) : ifc (.iface t v) K := h
variable {R : Ending → World → Prop} {w : World}
theorem number1_spec (s : List UInt8) (hs : s.length ≤ 1000000000000) (b most : Nat) (hm : most ≤ 64) (hb : w.cell? ⟨b, 0, none⟩ = some (.int .i64 most)) (hM : Mk w)
    (h : ∀ w', Ext w w' → R (.returned (.bool (numV most s))) w') : Calls Tryz.prog F_markup_number_1 ⟨[.string ⟨⟨s⟩⟩, .pointer (some ⟨b, 0, none⟩)]⟩ w R := by
  apply c_markup_number_1
  have hz : (⟨⟨s⟩⟩ : ByteArray).size = s.length := rfl
  obtain ⟨_, ⟨t, p, h2⟩, ⟨t', p', h3⟩⟩ := hM
  have bad : (∀ v, Lib.atoiAll s ≠ .ok v) → ∀ w', Ext w w' → R (.returned (.bool false)) w' := by
    intro hv w' he
    have : numV most s = false := by
      rw [Bool.eq_false_iff]
      intro hn
      obtain ⟨n, ha, _⟩ := (numV_iff hm s).1 hn
      exact hv _ ha
    rw [← this]; exact h w' he
  cases ha : Lib.atoiAll s
  · rename_i v
    refine (Tryz.strconv_Atoi_ok ⟨⟨s⟩⟩ (by rw [hz]; omega) v ha w).mono ?_
    rintro e w4 ⟨rfl, hw⟩
    have he : Ext w w4 := by
      rcases hw with rfl | ⟨t, rfl⟩
      · exact Below.refl _ _
      · exact Joins.below_bytesWorld _ _ _ _ (Nat.le_refl _)
    refine ⟨v, .nilIface, rfl, ?_⟩
    have no : (∀ n : Nat, v = n → 1 ≤ n → n ≤ most → Lib.decDigits n ≠ s) → R (.returned (.bool false)) w4 := by
      intro hn
      have : numV most s = false := by
        rw [Bool.eq_false_iff]
        intro hh
        obtain ⟨n, ha', h1, h2, h3⟩ := (numV_iff hm s).1 hh
        rw [ha] at ha'
        injection ha' with ha'
        exact hn n ha' h1 h2 h3
      rw [← this]; exact h w4 he
    refine ifc_nil ?_
    simp only [br_t]
    refine br_split (fun g => dr_ok ⟨_, cell_ext hb he, br_split (fun g2 => ?_) (fun g2 => ?_)⟩) (fun g => ?_)
    · obtain ⟨n, rfl⟩ : ∃ n : Nat, v = n := ⟨v.toNat, by omega⟩
      refine (Tryz.strconv_Itoa_small n (by omega) w4).mono ?_
      rintro _ _ ⟨rfl, rfl⟩
      refine ⟨_, rfl, ?_⟩
      have e : decide (Lib.decDigits n = s) = numV most s := by
        rw [Bool.eq_iff_iff, numV_iff hm, decide_eq_true_eq]
        constructor
        · intro hd; exact ⟨n, ha, by omega, by omega, hd⟩
        · rintro ⟨k, ha', _, _, hd⟩
          rw [ha] at ha'
          injection ha' with ha'
          have : n = k := by omega
          rw [this]; exact hd
      show R (.returned (.bool (decide (Lib.decDigits n = s)))) _
      rw [e]; exact h _ he
    · exact no fun n hn _ h2 => by omega
    · exact no fun n hn h1 _ => by omega
  · refine (Tryz.strconv_Atoi_syntax ⟨⟨s⟩⟩ (by rw [hz]; omega) ha _ w h2 (.inr ⟨_, _, rfl⟩)).mono ?_
    rintro e w4 ⟨N, rfl, _, _, he⟩
    refine ⟨_, _, rfl, ?_⟩
    refine ifc_some ?_
    simp only [br_f]
    exact bad (fun v hv => by rw [ha] at hv; cases hv) w4 he
  · refine (Tryz.strconv_Atoi_range ⟨⟨s⟩⟩ (by rw [hz]; omega) ha _ w h3 (.inr ⟨_, _, rfl⟩)).mono ?_
    rintro e w4 ⟨N, rfl, _, _, he⟩
    refine ⟨_, _, rfl, ?_⟩
    refine ifc_some ?_
    simp only [br_f]
    exact bad (fun v hv => by rw [ha] at hv; cases hv) w4 he

/- a tag's function of its value -/
theorem val_call {nm : List UInt8} {x : TagV} {b8 b64 : Nat} (ht : tagAt b8 b64 nm = some x) (B8 : Blk w b8 [.int .i64 8] 3) (B64 : Blk w b64 [.int .i64 64] 3) (hM : Mk w) (v : List UInt8) (hv : v.length ≤ 1000000000)
    (h : ∀ w', Ext w w' → R (.returned (.bool (valB nm v))) w') : CallV Tryz.prog (.func x.f x.fa x.fb) [.string ⟨⟨v⟩⟩] w R := by
  have hm := List.mem_of_find?_eq_some ht
  have hn : x.nm = nm := by simpa using List.find?_some ht
  have c8 : w.cell? ⟨b8, 0, none⟩ = some (.int .i64 ((8 : Nat) : Int)) := by rw [B8.cell]; rfl
  have c64 : w.cell? ⟨b64, 0, none⟩ = some (.int .i64 ((64 : Nat) : Int)) := by rw [B64.cell]; rfl
  simp only [tagsV, List.mem_cons, List.not_mem_nil, or_false] at hm
  rcases hm with rfl | rfl | rfl | rfl | rfl | rfl | rfl | rfl | rfl | rfl <;> subst hn
  · exact ⟨by kernel_rfl, IsWord_spec v fun w' he => h w' he⟩
  · exact ⟨by kernel_rfl, number1_spec v (by omega) b8 8 (by omega) c8 hM fun w' he => h w' he⟩
  · exact ⟨by kernel_rfl, number1_spec v (by omega) b8 8 (by omega) c8 hM fun w' he => h w' he⟩
  · exact ⟨by kernel_rfl, number1_spec v (by omega) b64 64 (by omega) c64 hM fun w' he => h w' he⟩
  · exact ⟨by kernel_rfl, none_spec v (h w (Below.refl _ _))⟩
  · exact ⟨by kernel_rfl, IsName_spec v (h w (Below.refl _ _))⟩
  · exact ⟨by kernel_rfl, IsName_spec v (h w (Below.refl _ _))⟩
  · exact ⟨by kernel_rfl, IsName_spec v (h w (Below.refl _ _))⟩
  · exact ⟨by kernel_rfl, none_spec v (h w (Below.refl _ _))⟩
  · exact ⟨by kernel_rfl, none_spec v (h w (Below.refl _ _))⟩
theorem tag_some {b8 b64 : Nat} {nm : List UInt8} {x : TagV} (h : tagAt b8 b64 nm = some x) : knownB nm = true ∧ x.em = emptyB nm := by
  have hm := List.mem_of_find?_eq_some h
  have hn : x.nm = nm := by simpa using List.find?_some h
  simp only [tagsV, List.mem_cons, List.not_mem_nil, or_false] at hm
  rcases hm with rfl | rfl | rfl | rfl | rfl | rfl | rfl | rfl | rfl | rfl <;> subst hn <;> exact ⟨by kernel_rfl, by kernel_rfl⟩
theorem tag_none {nm : List UInt8} (h : ∀ b8 b64, tagAt b8 b64 nm = none) : knownB nm = false := by
  have h0 := h 0 0
  unfold tagAt at h0
  rw [List.find?_eq_none] at h0
  unfold knownB
  rw [decide_eq_false_iff_not]
  intro hm
  have : nm ∈ (tagsV 0 0).map (·.nm) := hm
  obtain ⟨x, hx, hxn⟩ := List.mem_map.1 this
  exact h0 x hx (decide_eq_true hxn)

/- is the value of a tag right -/
theorem right_spec9 (x : Lx) (hk : x.k = 3 ∨ knownB x.nm = true) (hv : x.vl.length ≤ 1000000000) (hM : Mk w) (h : ∀ w', Ext w w' → R (.returned (.bool (rightX x))) w') : Calls Tryz.prog F_markup_right ⟨[aggX x]⟩ w R := by
  apply c_markup_right
  refine al_intro fun b5 w6 hb5 B5 e6 s6 => ?_
  obtain ⟨c0, c1, c2, c3⟩ := blk4x B5
  refine ⟨_, c0, br_split (fun g => ⟨_, c2, ?_⟩) (fun g => ⟨_, c1, ?_⟩)⟩
  · have e : rightX x = decide (x.vl = []) := by unfold rightX; rw [if_pos g]
    rw [← e]; exact h w6 e6
  · refine find_spec x.nm (fun b8 b64 w11 t hb8 hb64 B8 B64 ht e11 => ⟨_, _, _, _, rfl, ?_⟩) (fun w11 hn e11 => ?_)
    · refine al_stL (by simp) (by intro u hu; simp only [List.mem_cons, List.not_mem_nil, or_false] at hu; rcases hu with rfl | rfl | rfl <;> rfl) fun b16 w18 hb16 B16 e18 s18 => ?_
      obtain ⟨y0, y1, y2⟩ := blk3 B16
      refine ⟨_, _, _, y2, _, cell_ext (cell_ext c2 e11) e18, ?_⟩
      have E18 := ext_trans (ext_trans e6 e11) e18
      refine val_call ht (B8.ext e18) (B64.ext e18) (hM.ext E18) x.vl hv fun w22 e22 => ⟨_, rfl, ?_⟩
      have e : rightX x = valB x.nm x.vl := by unfold rightX; rw [if_neg g]
      rw [← e]; exact h w22 (ext_trans E18 e22)
    · exfalso
      rcases hk with hk | hk
      · exact g hk
      · rw [tag_none hn] at hk; cases hk

/- is a lexeme right but for its value -/
theorem single_spec9 (x : Lx) (h : ∀ w', Ext w w' → R (.returned (.int .i64 (singleX x))) w') : Calls Tryz.prog F_markup_single ⟨[aggX x]⟩ w R := by
  apply c_markup_single
  refine al_intro fun b5 w6 hb5 B5 e6 s6 => ?_
  obtain ⟨c0, c1, c2, c3⟩ := blk4x B5
  unfold singleX at h
  refine ⟨_, c0, br_split (fun g => ⟨_, c1, br_split (fun g1 => ?_) (fun g1 => ⟨_, c2, br_split (fun g2 => ?_) (fun g2 => ⟨_, c2, ?_⟩)⟩)⟩) (fun g => ?_)⟩
  · have := h w6 e6; rwa [if_pos g, if_pos g1] at this
  · have := h w6 e6; rwa [if_pos g, if_neg g1, if_pos g2] at this
  · refine Check_spec x.vl fun w12 e12 => ⟨_, rfl, br_split (fun g3 => ?_) (fun g3 => ?_)⟩
    · have := h w12 (ext_trans e6 e12); rwa [if_pos g, if_neg g1, if_neg g2, if_pos g3] at this
    · have := h w12 (ext_trans e6 e12); rwa [if_pos g, if_neg g1, if_neg g2, if_neg g3] at this
  · intro K hK
    have kT : (x.k = 2 ∨ x.k = 3 ∨ x.k = 4) → K true w6 := by
      intro hk
      refine hK _ _ fun _ => ?_
      show br true _ _
      rw [br_t]
      refine ⟨_, c1, find_spec x.nm (fun b8 b64 w19 t hb8 hb64 B8 B64 ht e19 => ⟨_, _, _, _, rfl, ?_⟩) (fun w19 hn e19 => ⟨_, _, _, _, rfl, ?_⟩)⟩
      · refine al_stL (by simp) (by intro u hu; simp only [List.mem_cons, List.not_mem_nil, or_false] at hu; rcases hu with rfl | rfl | rfl <;> rfl) fun b24 w26 hb24 B24 e26 s26 => ?_
        obtain ⟨y0, y1, y2⟩ := blk3 B24
        obtain ⟨t1, t2⟩ := tag_some ht
        have E := ext_trans (ext_trans e6 e19) e26
        have hr := h w26 E
        rw [if_neg g, if_pos hk] at hr
        simp only [Bool.not_true, br_f]
        refine ⟨_, y1, _, cell_ext (cell_ext c0 e19) e26, br_split (fun g3 => ?_) (fun g3 => ?_)⟩
        · rw [if_neg (fun hh => g3 (by rw [t2]; exact hh.2))] at hr; exact hr
        · rw [if_pos ⟨t1, by rw [← t2]; exact Classical.not_not.1 g3⟩] at hr; exact hr
      · refine al_stL (by simp) (by intro u hu; simp only [List.mem_cons, List.not_mem_nil, or_false] at hu; rcases hu with rfl | rfl | rfl <;> rfl) fun b24 w26 hb24 B24 e26 s26 => ?_
        simp only [Bool.not_false, br_t]
        have hr := h w26 (ext_trans (ext_trans e6 e19) e26)
        rw [if_neg g, if_pos hk, if_neg (fun hh => by rw [tag_none hn] at hh; cases hh.1)] at hr
        exact hr
    refine br_split (fun g2 => ?_) (fun g2 => br_split (fun g3 => ?_) (fun g3 => ?_))
    · rw [decide_eq_true g2]; exact kT (.inl g2)
    · rw [decide_eq_true g3]; exact kT (.inr (.inl g3))
    · by_cases g4 : x.k = 4
      · rw [decide_eq_true g4]; exact kT (.inr (.inr g4))
      · rw [decide_eq_false g4]
        refine hK _ _ fun _ => ?_
        show br false _ _
        rw [br_f]
        have hr := h w6 e6
        rw [if_neg g, if_neg (by omega)] at hr
        exact hr
end Go.Proofs
namespace Go.Proofs
open Go Go.Sh Go.RowKit

/- a lexeme laid down and taken up again -/
def putX (R : Ending → World → Prop) (p : Addr) (a : Int) (b c : List UInt8) (d e : Int) (w : World) : Prop :=
  stL w p 0 [.int .i64 a, .string ⟨⟨b⟩⟩, .string ⟨⟨c⟩⟩, .int .i64 d] fun w20 =>
  ∃ (x21 : Int), World.cell? w20 (p.add 0) = some (.int .i64 x21) ∧ (∃ (x22 : List UInt8), World.cell? w20 (p.add 1) = some (.string ⟨⟨x22⟩⟩) ∧ (∃ (x23 : List UInt8), World.cell? w20 (p.add 2) = some (.string ⟨⟨x23⟩⟩) ∧ (∃ (x24 : Int), World.cell? w20 (p.add 3) = some (.int .i64 x24) ∧ (R (.returned (.tuple ⟨[.agg ⟨[.int .i64 x21, .string ⟨⟨x22⟩⟩, .string ⟨⟨x23⟩⟩, .int .i64 x24]⟩, .int .i64 e]⟩)) w20))))
theorem one4 {a d : Int} {b c : List UInt8} : ∀ v ∈ ([.int .i64 a, .string ⟨⟨b⟩⟩, .string ⟨⟨c⟩⟩, .int .i64 d] : List Value), v.oneCell' = true := by
  intro v hv; simp only [List.mem_cons, List.not_mem_nil, or_false] at hv; rcases hv with rfl | rfl | rfl | rfl <;> rfl
theorem putAt4 {cs vs : List Value} (hc : cs.length = 4) (hv : vs.length = 4) : putAt cs 0 vs = vs := by
  obtain ⟨a, b, c, d, rfl⟩ : ∃ a b c d, cs = [a, b, c, d] := by
    match cs, hc with
    | [a, b, c, d], _ => exact ⟨a, b, c, d, rfl⟩
  obtain ⟨a, b, c, d, rfl⟩ : ∃ a b c d, vs = [a, b, c, d] := by
    match vs, hv with
    | [a, b, c, d], _ => exact ⟨a, b, c, d, rfl⟩
  rfl
theorem stX {b : Nat} {T : TypeId} {cs : List Value} {w : World} {a d : Int} {n v : List UInt8} (hb : Blk w b cs T) (hl : cs.length = 4) {K : World → Prop}
    (h : ∀ w', Blk w' b [.int .i64 a, .string ⟨⟨n⟩⟩, .string ⟨⟨v⟩⟩, .int .i64 d] T → Chg (fun k => k = b) w w' → w'.heap.size = w.heap.size → K w') : stL w ⟨b, 0, none⟩ 0 [.int .i64 a, .string ⟨⟨n⟩⟩, .string ⟨⟨v⟩⟩, .int .i64 d] K := by
  refine stL_blk hb (by simp [hl]) one4 fun w' b1 x2 x3 x4 x5 x6 => ?_
  rw [Nat.add_zero, putAt4 hl rfl] at b1
  exact h w' b1 ⟨x4, x5, x6, by omega, fun j _ hj => x2 j hj⟩ x3
theorem putX_ok {R : Ending → World → Prop} {b : Nat} {T : TypeId} {cs : List Value} {w : World} (hb : Blk w b cs T) (hl : cs.length = 4) (y : Lx) (e : Int)
    (h : ∀ w', Chg (fun k => k = b) w w' → R (.returned (.tuple ⟨[aggX y, .int .i64 e]⟩)) w') : putX R ⟨b, 0, none⟩ y.k y.nm y.vl y.pos e w := by
  refine stX hb hl fun w' b1 hc _ => ?_
  obtain ⟨c0, c1, c2, c3⟩ := blk4x (x := y) b1
  exact ⟨_, c0, _, c1, _, c2, _, c3, h w' hc⟩
/- one field -/
theorem setX0 {b : Nat} {T : TypeId} {w : World} {a a' d : Int} {n v : List UInt8} (hb : Blk w b [.int .i64 a, .string ⟨⟨n⟩⟩, .string ⟨⟨v⟩⟩, .int .i64 d] T) {K : World → Prop}
    (h : ∀ w', Blk w' b [.int .i64 a', .string ⟨⟨n⟩⟩, .string ⟨⟨v⟩⟩, .int .i64 d] T → Chg (fun k => k = b) w w' → w'.heap.size = w.heap.size → K w') : stL w ((⟨b, 0, none⟩ : Addr).add 0) 0 [.int .i64 a'] K := by
  rw [add_none]
  refine stL_blk hb (by simp) (by intro u hu; rw [List.mem_singleton.1 hu]; rfl) fun w' b1 x2 x3 x4 x5 x6 => ?_
  exact h w' b1 ⟨x4, x5, x6, by omega, fun j _ hj => x2 j hj⟩ x3
theorem setX2 {b : Nat} {T : TypeId} {w : World} {a d : Int} {n v v' : List UInt8} (hb : Blk w b [.int .i64 a, .string ⟨⟨n⟩⟩, .string ⟨⟨v⟩⟩, .int .i64 d] T) {K : World → Prop}
    (h : ∀ w', Blk w' b [.int .i64 a, .string ⟨⟨n⟩⟩, .string ⟨⟨v'⟩⟩, .int .i64 d] T → Chg (fun k => k = b) w w' → w'.heap.size = w.heap.size → K w') : stL w ((⟨b, 0, none⟩ : Addr).add 2) 0 [.string ⟨⟨v'⟩⟩] K := by
  rw [add_none]
  refine stL_blk hb (by simp) (by intro u hu; rw [List.mem_singleton.1 hu]; rfl) fun w' b1 x2 x3 x4 x5 x6 => ?_
  exact h w' b1 ⟨x4, x5, x6, by omega, fun j _ hj => x2 j hj⟩ x3
theorem setX3 {b : Nat} {T : TypeId} {w : World} {a d d' : Int} {n v : List UInt8} (hb : Blk w b [.int .i64 a, .string ⟨⟨n⟩⟩, .string ⟨⟨v⟩⟩, .int .i64 d] T) {K : World → Prop}
    (h : ∀ w', Blk w' b [.int .i64 a, .string ⟨⟨n⟩⟩, .string ⟨⟨v⟩⟩, .int .i64 d'] T → Chg (fun k => k = b) w w' → w'.heap.size = w.heap.size → K w') : stL w ((⟨b, 0, none⟩ : Addr).add 3) 0 [.int .i64 d'] K := by
  rw [add_none]
  refine stL_blk hb (by simp) (by intro u hu; rw [List.mem_singleton.1 hu]; rfl) fun w' b1 x2 x3 x4 x5 x6 => ?_
  exact h w' b1 ⟨x4, x5, x6, by omega, fun j _ hj => x2 j hj⟩ x3

/- the end of read: is the value right, and is the text the part -/
def readTail (R : Ending → World → Prop) (part : List UInt8) (b2 b26 : Nat) (w32 : World) : Prop :=
  ∃ (x40 : Int), World.cell? w32 ((⟨b26, 0, none⟩ : Addr).add 0) = some (.int .i64 x40) ∧ (∃ (x41 : List UInt8), World.cell? w32 ((⟨b26, 0, none⟩ : Addr).add 1) = some (.string ⟨⟨x41⟩⟩) ∧ (∃ (x42 : List UInt8), World.cell? w32 ((⟨b26, 0, none⟩ : Addr).add 2) = some (.string ⟨⟨x42⟩⟩) ∧ (∃ (x43 : Int), World.cell? w32 ((⟨b26, 0, none⟩ : Addr).add 3) = some (.int .i64 x43) ∧ (Calls Tryz.prog F_markup_right ⟨[.agg ⟨[.int .i64 x40, .string ⟨⟨x41⟩⟩, .string ⟨⟨x42⟩⟩, .int .i64 x43]⟩]⟩ w32 fun (e44 : Ending) (w45 : World) =>
  ∃ (x46 : Bool), e44 = .returned (.bool x46) ∧ (br (!x46) (putX R ⟨b2, 0, none⟩ 0 [] [] 0 3 w45) (∃ (x52 : Int), World.cell? w45 ((⟨b26, 0, none⟩ : Addr).add 0) = some (.int .i64 x52) ∧ (∃ (x53 : List UInt8), World.cell? w45 ((⟨b26, 0, none⟩ : Addr).add 1) = some (.string ⟨⟨x53⟩⟩) ∧ (∃ (x54 : List UInt8), World.cell? w45 ((⟨b26, 0, none⟩ : Addr).add 2) = some (.string ⟨⟨x54⟩⟩) ∧ (∃ (x55 : Int), World.cell? w45 ((⟨b26, 0, none⟩ : Addr).add 3) = some (.int .i64 x55) ∧ (Calls Tryz.prog F_markup_text ⟨[.agg ⟨[.int .i64 x52, .string ⟨⟨x53⟩⟩, .string ⟨⟨x54⟩⟩, .int .i64 x55]⟩]⟩ w45 fun (e56 : Ending) (w57 : World) =>
  ∃ (x58 : List UInt8), e56 = .returned (.string ⟨⟨x58⟩⟩) ∧ (br (decide ((x58 : List UInt8) ≠ part)) (putX R ⟨b2, 0, none⟩ 0 [] [] 0 3 w57) (∃ (x64 : Int), World.cell? w57 ((⟨b26, 0, none⟩ : Addr).add 0) = some (.int .i64 x64) ∧ (∃ (x65 : List UInt8), World.cell? w57 ((⟨b26, 0, none⟩ : Addr).add 1) = some (.string ⟨⟨x65⟩⟩) ∧ (∃ (x66 : List UInt8), World.cell? w57 ((⟨b26, 0, none⟩ : Addr).add 2) = some (.string ⟨⟨x66⟩⟩) ∧ (∃ (x67 : Int), World.cell? w57 ((⟨b26, 0, none⟩ : Addr).add 3) = some (.int .i64 x67) ∧ (putX R ⟨b2, 0, none⟩ x64 x65 x66 x67 0 w57))))))))))))))))
abbrev cellsX (x : Lx) : List Value := [.int .i64 x.k, .string ⟨⟨x.nm⟩⟩, .string ⟨⟨x.vl⟩⟩, .int .i64 x.pos]
theorem readTail_ok {R : Ending → World → Prop} {part : List UInt8} {b2 b26 : Nat} {w : World} (x : Lx) (B2 : Blk w b2 (cellsX zeroX) 48) (B26 : Blk w b26 (cellsX x) 48) (hk : x.k = 3 ∨ knownB x.nm = true) (hn : x.nm.length ≤ 1000000000) (hv : x.vl.length ≤ 1000000000) (hM : Mk w)
    (h : ∀ w1 w', Ext w w1 → Chg (fun k => k = b2) w1 w' → R (.returned (.tuple ⟨[aggX (if rightX x = true ∧ textF x = part then (x, 0) else (zeroX, 3) : Lx × Int).1, .int .i64 (if rightX x = true ∧ textF x = part then (x, 0) else (zeroX, 3) : Lx × Int).2]⟩)) w') :
    readTail R part b2 b26 w := by
  obtain ⟨c0, c1, c2, c3⟩ := blk4x B26
  refine ⟨_, c0, _, c1, _, c2, _, c3, right_spec9 x hk hv hM fun w45 e45 => ⟨_, rfl, ?_⟩⟩
  refine br_cases (fun g => ?_) (fun g => ?_)
  · have g : rightX x = false := by simpa using g
    have hi : (if rightX x = true ∧ textF x = part then (x, 0) else (zeroX, 3) : Lx × Int) = (zeroX, 3) := if_neg (fun hh => by rw [g] at hh; cases hh.1)
    rw [hi] at h
    exact putX_ok (B2.ext e45) rfl zeroX 3 fun w' hc => h w45 w' e45 hc
  · have g : rightX x = true := by simpa using g
    refine ⟨_, cell_ext c0 e45, _, cell_ext c1 e45, _, cell_ext c2 e45, _, cell_ext c3 e45, text_spec x hn hv fun w57 e57 => ⟨_, rfl, br_split (fun g2 => ?_) (fun g2 => ?_)⟩⟩
    · have hi : (if rightX x = true ∧ textF x = part then (x, 0) else (zeroX, 3) : Lx × Int) = (zeroX, 3) := if_neg (fun hh => g2 hh.2)
      rw [hi] at h
      exact putX_ok ((B2.ext e45).ext e57) rfl zeroX 3 fun w' hc => h w57 w' (ext_trans e45 e57) hc
    · have hi : (if rightX x = true ∧ textF x = part then (x, 0) else (zeroX, 3) : Lx × Int) = (x, 0) := if_pos ⟨g, Classical.not_not.1 g2⟩
      rw [hi] at h
      exact ⟨_, cell_ext (cell_ext c0 e45) e57, _, cell_ext (cell_ext c1 e45) e57, _, cell_ext (cell_ext c2 e45) e57, _, cell_ext (cell_ext c3 e45) e57, putX_ok ((B2.ext e45).ext e57) rfl x 0 fun w' hc => h w57 w' (ext_trans e45 e57) hc⟩
theorem trim_head (m : List UInt8) : Lib.trimPrefix m [47] = if m.head? = some 47 then m.drop 1 else m := by
  unfold Lib.trimPrefix Lib.hasPrefix
  cases m with
  | nil => rfl
  | cons a r =>
    by_cases h : a = 47
    · subst h; rfl
    · have h' : ¬ 47 = a := fun e => h e.symm
      simp [h, h']
theorem has_head (m : List UInt8) : Lib.hasPrefix m [47] = decide (m.head? = some 47) := by
  unfold Lib.hasPrefix
  cases m with
  | nil => rfl
  | cons a r =>
    by_cases h : a = 47
    · subst h; rfl
    · have h' : ¬ 47 = a := fun e => h e.symm
      rw [List.head?_cons, decide_eq_false (by simpa using h)]
      simp [List.isPrefixOf, h']
theorem index_any_le : ∀ b : List UInt8, Lib.indexAny b [32, 47] ≤ (b.length : Int)
  | [] => by simp [Lib.indexAny]
  | c :: l => by
    have ih := index_any_le l
    rw [Lib.indexAny, List.length_cons]
    split
    · omega
    · split
      · omega
      · omega
theorem ext_two {w w1 w2 : World} {b : Nat} (h : Ext w w1) (hc : Chg (fun k => k = b) w1 w2) (hb : w.heap.size ≤ b) : Ext w w2 := ext_chgS h hc fun k hk => by rw [hk]; exact hb
set_option maxRecDepth 20000 in
theorem read_spec {R : Ending → World → Prop} {w : World} (m : List UInt8) (hl : m.length ≤ 100000000) (hM : Mk w)
    (h : ∀ w', Ext w w' → R (.returned (.tuple ⟨[aggX (readF (60 :: (m ++ [62]))).1, .int .i64 (readF (60 :: (m ++ [62]))).2]⟩)) w') : Calls Tryz.prog F_markup_read ⟨[.string ⟨⟨60 :: (m ++ [62])⟩⟩]⟩ w R := by
  apply c_markup_read
  refine al_intro fun b2 w3 hb2 B2 e3 s3 => ?_
  have hlen : (60 :: (m ++ [62]) : List UInt8).length = m.length + 2 := by simp
  rw [hlen, show ((m.length + 2 : Nat) : Int) - 1 = ((m.length + 1 : Nat) : Int) by omega, wrap_id (by omega)]
  refine ssl_nat (i := 1) (by omega) (by rw [hlen]; omega) ?_
  have hin : ((60 :: (m ++ [62]) : List UInt8).take (m.length + 1)).drop 1 = m := by
    have := inner_two m
    unfold innerF at this
    rw [hlen] at this
    exact this
  rw [hin]
  have hz : (⟨⟨m⟩⟩ : ByteArray).size = m.length := rfl
  refine (Tryz.strings_TrimPrefix ⟨⟨m⟩⟩ ⟨⟨[47]⟩⟩ w3).mono ?_
  rintro _ w6 ⟨rfl, hw6⟩
  rw [hw6]
  refine ⟨Lib.trimPrefix m [47], rfl, ?_⟩
  intro K8 hK8
  have hb0 : (Lib.trimPrefix m [47]).length ≤ m.length := by
    rw [trim_head]; split
    · rw [List.length_drop]; omega
    · exact Nat.le_refl _
  have hn0 := name_le (Lib.trimPrefix m [47])
  have k8 : ∀ w10, Ext w3 w10 → K8 (nameF (Lib.trimPrefix m [47])) w10 := by
    intro w10 e10
    refine hK8 _ _ fun _ => ?_
    have hrd : readF (60 :: (m ++ [62])) = if knownB (nameF (Lib.trimPrefix m [47])) = false then (zeroX, 12) else if m.head? = some 47 then (if emptyB (nameF (Lib.trimPrefix m [47])) = false ∧ [60, 47] ++ nameF (Lib.trimPrefix m [47]) ++ [62] = 60 :: (m ++ [62]) then (⟨3, nameF (Lib.trimPrefix m [47]), [], 0⟩, 0) else (zeroX, 3))
        else accX (60 :: (m ++ [62])) (nameF (Lib.trimPrefix m [47])) (valueP m) := by
      unfold readF
      rw [inner_two, trim_head]
      by_cases hc : m.head? = some 47
      · simp only [hc, if_true]
      · simp only [hc, if_false]
        by_cases hk : knownB (nameF m) = false
        · rw [if_pos hk, if_pos hk]
        · rw [if_neg hk, if_neg hk]
          have := acc_PF (part := 60 :: (m ++ [62])) (nm := nameF m) (by simpa using hk)
          rw [inner_two] at this
          exact this.symm
    generalize hnm : nameF (Lib.trimPrefix m [47]) = nm at hrd hn0
    refine find_spec nm (fun b8 b64 w12 t hb8 hb64 B8 B64 ht e12 => ⟨_, _, _, _, rfl, ?_⟩) (fun w12 hno e12 => ⟨_, _, _, _, rfl, ?_⟩)
    · refine al_stL (by simp) (by intro u hu; simp only [List.mem_cons, List.not_mem_nil, or_false] at hu; rcases hu with rfl | rfl | rfl <;> rfl) fun b17 w19 hb17 B17 e19 s19 => ?_
      obtain ⟨t1, t2⟩ := tag_some ht
      obtain ⟨y0, y1, y2⟩ := blk3 B17
      have E19 := ext_trans (ext_trans e10 e12) e19
      have z19 := E19.size
      have B2' := B2.ext E19
      rw [if_neg (by rw [t1]; decide)] at hrd
      simp only [Bool.not_true, br_f]
      refine ⟨_, y0, ?_⟩
      refine al_stL rfl one4 fun b26 w28 hb26 B26 e28 s28 => ?_
      have z28 := e28.size
      intro K29 hK29
      have k29 : ∀ w30 (k : Int), k = (if emptyB nm = true then 4 else 2) → Ext w19 w30 → Blk w30 b26 [.int .i64 k, .string ⟨⟨nm⟩⟩, .string ⟨⟨[]⟩⟩, .int .i64 0] 48 → K29 w30 := by
        intro w30 k hk e30 B30
        refine hK29 _ fun _ => ?_
        intro K31 hK31
        have E30 := ext_trans (ext_trans e3 E19) e30
        have B2a := B2'.ext e30
        have z30 := e30.size
        have B17a := B17.ext e30
        have k3 : k ≠ 3 := by rw [hk]; split <;> decide
        refine (Tryz.strings_HasPrefix ⟨⟨m⟩⟩ ⟨⟨[47]⟩⟩ w30).mono ?_
        rintro _ w107 ⟨rfl, hw⟩
        rw [hw]
        refine ⟨_, rfl, ?_⟩
        show br (Lib.hasPrefix m [47]) _ _
        rw [has_head]
        refine br_split (fun hc => ?_) (fun hc => ?_)
        · rw [if_pos hc] at hrd
          refine setX0 B30 fun w32 B32 c32 s32 => hK31 _ fun _ => ?_
          obtain ⟨d0, d1, d2, d3⟩ := blk4x (x := ⟨3, nm, [], 0⟩) B32
          have B17b := c32.blk B17a (by omega)
          have B2b := c32.blk B2a (by omega)
          have E32 := ext_two E30 c32 (by omega)
          obtain ⟨_, y1', _⟩ := blk3 B17b
          refine ⟨_, d0, ?_⟩
          rw [decide_eq_true rfl, br_t]
          refine ⟨_, y1', ?_⟩
          rw [t2]
          refine br_cases (fun he => ?_) (fun he => ?_)
          · rw [if_neg (fun hh => by rw [he] at hh; cases hh.1)] at hrd
            refine putX_ok B2b rfl zeroX 3 fun w' hc' => ?_
            have := h w' (ext_two E32 hc' (by omega))
            rwa [hrd] at this
          · refine readTail_ok ⟨3, nm, [], 0⟩ B2b B32 (.inl rfl) (show nm.length ≤ _ by omega) (by simp) (hM.ext E32) fun w1 w' e1 c1 => ?_
            have := h w' (ext_two (ext_trans E32 e1) c1 (by omega))
            rw [hrd] at this
            have e1 : rightX ⟨3, nm, [], 0⟩ = true := rfl
            have e2 : textF ⟨3, nm, [], 0⟩ = [60, 47] ++ nm ++ [62] := rfl
            rw [e1, e2]
            by_cases hp : [60, 47] ++ nm ++ [62] = 60 :: (m ++ [62])
            · rw [if_pos ⟨he, hp⟩] at this; rw [if_pos ⟨rfl, hp⟩]; exact this
            · rw [if_neg (fun hh => hp hh.2)] at this; rw [if_neg (fun hh => hp hh.2)]; exact this
        · rw [if_neg hc] at hrd
          have k31 : ∀ w32, Ext w32 w32 → Ext w19 w32 → Blk w32 b26 [.int .i64 k, .string ⟨⟨nm⟩⟩, .string ⟨⟨valueP m⟩⟩, .int .i64 0] 48 → K31 w32 := by
            intro w32 _ e32 B32
            refine hK31 _ fun _ => ?_
            have E32 := ext_trans (ext_trans e3 E19) e32
            have B2b := B2'.ext e32
            have z32 := e32.size
            have hx : tagX nm (valueP m) = ⟨k, nm, valueP m, 0⟩ := by unfold tagX; rw [hk]
            obtain ⟨d0, d1, d2, d3⟩ := blk4x (x := ⟨k, nm, valueP m, 0⟩) B32
            refine ⟨_, d0, ?_⟩
            rw [decide_eq_false k3, br_f]
            have hvl : (valueP m).length ≤ 1000000000 := by
              unfold valueP Lib.cut Lib.trimSuffix
              split <;> split <;> simp <;> omega
            refine readTail_ok ⟨k, nm, valueP m, 0⟩ B2b B32 (.inr t1) (show nm.length ≤ _ by omega) hvl (hM.ext E32) fun w1 w' e1 c1 => ?_
            have := h w' (ext_two (ext_trans E32 e1) c1 (by omega))
            rw [hrd] at this
            unfold accX at this
            rw [hx] at this
            have er : rightX ⟨k, nm, valueP m, 0⟩ = valB nm (valueP m) := by unfold rightX; rw [if_neg k3]
            rw [er]; exact this
          refine (Tryz.strings_TrimSuffix ⟨⟨m⟩⟩ ⟨⟨[47]⟩⟩ w30 (by rw [hz]; omega)).mono ?_
          rintro _ w111 ⟨rfl, hw1⟩
          rw [hw1]
          refine ⟨Lib.trimSuffix m [47], rfl, ?_⟩
          obtain ⟨mm, hmm⟩ := (hM.ext E30).1
          have hts : (Lib.trimSuffix m [47]).length ≤ m.length := by
            unfold Lib.trimSuffix; split
            · rw [List.length_take]; omega
            · exact Nat.le_refl _
          have hzs : (⟨⟨Lib.trimSuffix m [47]⟩⟩ : ByteArray).size = (Lib.trimSuffix m [47]).length := rfl
          refine (Tryz.strings_Cut ⟨⟨Lib.trimSuffix m [47]⟩⟩ ⟨⟨[32]⟩⟩ mm w30 (by rw [hzs]; omega) hmm).mono ?_
          rintro _ w114 ⟨rfl, n, rfl⟩
          have ed : Ext w30 (w30.drewN n) := below_drewN (Below.refl _ _) n
          refine ⟨_, _, _, rfl, ?_⟩
          show br (Lib.cut (Lib.trimSuffix m [47]) [32]).2.2 _ _
          refine br_cases (fun hf => ?_) (fun hf => ?_)
          · refine setX2 (B30.ext ed) fun w32 B32 c32 s32 => k31 w32 (Below.refl _ _) (ext_two (ext_trans e30 ed) c32 (by omega)) B32
          · have hv : valueP m = [] := by
              unfold valueP
              unfold Lib.cut at hf ⊢
              split at hf
              · cases hf
              · rename_i hi; rw [if_neg hi]
            refine k31 _ (Below.refl _ _) (ext_trans e30 ed) ?_
            rw [hv]; exact B30.ext ed
      obtain ⟨v0, v1, v2⟩ := blk3 (B17.ext e28)
      refine ⟨_, v1, ?_⟩
      rw [t2]
      refine br_cases (fun he => ?_) (fun he => ?_)
      · refine setX0 B26 fun w120 B120 c120 s120 => k29 w120 4 (by rw [if_pos he]) (ext_two e28 c120 (by omega)) B120
      · exact k29 w28 2 (by rw [if_neg (by rw [he]; decide)]) e28 B26
    · refine al_stL (by simp) (by intro u hu; simp only [List.mem_cons, List.not_mem_nil, or_false] at hu; rcases hu with rfl | rfl | rfl <;> rfl) fun b17 w19 hb17 B17 e19 s19 => ?_
      simp only [Bool.not_false, br_t]
      have E19 := ext_trans (ext_trans e10 e12) e19
      rw [if_pos (tag_none hno)] at hrd
      refine putX_ok (B2.ext E19) rfl zeroX 12 fun w' hc' => ?_
      have := h w' (ext_two (ext_trans e3 E19) hc' (by omega))
      rwa [hrd] at this
  refine IndexAny_spec _ (by omega) fun w122 e122 => ⟨_, rfl, ?_⟩
  have ha := any_name (Lib.trimPrefix m [47])
  refine br_split (fun g => ?_) (fun g => ?_)
  · rw [if_pos g] at ha
    obtain ⟨i, hi⟩ : ∃ i : Nat, Lib.indexAny (Lib.trimPrefix m [47]) [32, 47] = i := ⟨(Lib.indexAny (Lib.trimPrefix m [47]) [32, 47]).toNat, by omega⟩
    rw [hi] at ha ⊢
    rw [Int.toNat_natCast] at ha
    have hil : i ≤ (Lib.trimPrefix m [47]).length := by
      apply Classical.byContradiction
      intro hh
      have := index_any_le (Lib.trimPrefix m [47])
      omega
    refine ssl_nat (i := 0) (by omega) hil ?_
    rw [List.drop_zero, ← ha]
    exact k8 w122 e122
  · rw [if_neg g] at ha
    have := k8 w122 e122
    rwa [ha] at this
end Go.Proofs
namespace Go.Sh
open Go Go.RowKit

/- entering a round: the loop's variable is laid, the record turns -/
theorem round_in {W : World} {T : TypeId} {zs vs : List Value} {l : Nat} {B : Addr → World → World → Prop} (hl : l < W.heap.size) (hlen : vs.length = zs.length) (ho : ∀ v ∈ vs, v.oneCell' = true)
    (h : ∀ bx W1 W2, bx = W.heap.size → Ext W W1 → Blk W2 bx vs T → Chg (fun k => k = l) W W2 → W2.heap.size = bx + 1 → B ⟨bx, 0, none⟩ W1 W2) :
    al W T zs fun p w1 => stL w1 p 0 vs fun w2 => Ext W w2 ∧ ∀ W2 : World, Upd l w2 W2 → B p w2 W2 := by
  refine al_stL hlen ho fun bx w1 hbx hBx e2 s2 => ⟨e2, fun W2 hU => ?_⟩
  have zU := hU.size
  have hUc : Chg (fun k => k = l) w1 W2 := ⟨hU.os, hU.tape, hU.output, by omega, fun k _ hk => hU.block k hk⟩
  exact h bx w1 W2 hbx e2 (hBx.keep (hU.block bx (by omega))) ((Chg.of_ext e2).trans hUc) (by omega)

/- a loop over an iterator that counts in one cell -/
theorem RFw_count {α : Type} {P : Program} {N : Nat} {g : Operand} {ps : Array Tmp} {assign body : Code} {env : Env} {ds : List Deferred} {w : World} {x : Nat} {Qn Qr Qx : List Deferred → World → Prop}
    (xA xB : Ann) {gf : FuncId} {cap : List Value} (hg : ev env g = .func (.func gf) ⟨[]⟩ ⟨cap⟩) (hok : okFn P gf = true)
    {xs : List α} {E : α → List Value → Prop} {Rd : Nat → Prop} (hit : ∀ w1, Ext w w1 → IterO P gf cap xs E Rd w1)
    (hps : ∀ y vs, E y vs → vs.length = ps.size) (hpN : ∀ p ∈ ps.toList, p < N)
    (hRd : ∀ k, Rd k → k < w.heap.size) {w0 : World} (hw0 : Ext w0 w) {b5 : Nat} {T5 : TypeId} (h0 : w0.heap.size ≤ b5) (hn5 : ¬ Rd b5) (val : List α → Int) (B5 : Blk w b5 [.int .i64 (val [])] T5)
    (hround : ∀ pre y vs W l, E y vs → pre ++ [y] <+: xs → w.heap.size ≤ l → l < W.heap.size → b5 ≠ l → Blk W b5 [.int .i64 (val pre)] T5 → Ext w0 W →
      ∀ Kn Kr Kx : World → World → Prop, (∀ W2 W', Ext w0 W2 → Chg (fun k => k = b5) W2 W' → Blk W' b5 [.int .i64 (val (pre ++ [y]))] T5 → Kn W2 W') → fragV P N xA xB assign body l x Kn Kr Kx (updPs ps.toList vs env) W)
    (hn : ∀ D W, w.heap.size ≤ D → D < W.heap.size → b5 ≠ D → W.heap[D]? = some (.deferred (some [])) → Blk W b5 [.int .i64 (val xs)] T5 → Ext w0 W → Qn ({ target := .collected D, args := #[] } :: ds) W) :
    RFw P none N (.rangeFunc g ps assign body) env ds w x Qn Qr Qx := by
  have l5 := B5.lt
  refine RFw_lawO xA xB hg hok (xs := xs) (E := E) (Rd := Rd) hit hps hpN hRd (fun k => k = b5) (fun k hk => ⟨hk ▸ l5, hk ▸ hn5⟩)
    (fun pre S1 W => Blk W b5 [.int .i64 (val pre)] T5 ∧ (∀ k, S1 k ↔ k = b5) ∧ Ext w0 W) (fun _ _ => False) (fun _ _ => False)
    ?_ (fun _ _ _ h => h.elim) (fun _ _ _ h => h.elim) ⟨B5, fun k => Iff.rfl, hw0⟩ ?_ ?_ (fun _ _ _ _ _ _ _ h => h.elim) (fun _ _ _ _ _ _ _ h => h.elim)
  · rintro pre S1 W W' ⟨g1, g2, g3⟩ hc
    have z := hw0.size
    refine ⟨hc.blk g1 (fun hh => hh.2 ((g2 _).2 rfl)), g2, ?_⟩
    exact g3.trans ⟨hc.os, hc.tape, hc.output, hc.size, fun k hk => hc.block k (Nat.lt_of_lt_of_le hk g3.size) (fun hh => by have := hh.1; omega)⟩
  · rintro pre y vs S1 W l hE hpre hl1 hl2 hl3 hS1 ⟨g1, g2, g3⟩
    have nl : b5 ≠ l := fun he => hl3 ((g2 l).2 he.symm)
    refine hround pre y vs W l hE hpre hl1 hl2 nl g1 g3 _ _ _ fun W2 W' he hc hb => ⟨hc.mono fun k _ hk => .inl ((g2 k).2 hk), fun k => k = b5, fun k hk => ⟨.inl ((g2 k).2 hk), hk ▸ hb.lt⟩, hb, fun k => Iff.rfl, ?_⟩
    exact he.trans ⟨hc.os, hc.tape, hc.output, hc.size, fun k hk => hc.block k (Nat.lt_of_lt_of_le hk he.size) (fun hh => by omega)⟩
  · rintro D S1 W hD1 hD2 hD3 hD4 ⟨g1, g2, g3⟩
    exact hn D W hD1 hD2 (fun he => hD3 ((g2 D).2 he.symm)) hD4 g1 g3
end Go.Sh
