/- The contracts of the functions that the law reaches, one after the other, and at the end the law's card. -/
import Derived.Test.YtpnhhkjagkajoaaGreatDoorLawF
namespace Go.Proofs
open Go Go.Sh

/- merging, from the right -/
def consM (k : Int) (t : List UInt8) (n : Int) (ps r : Fo) : Fo :=
  if k = 1 then (if t = [] then r else match r with
    | .nil => .cons k t n ps .nil
    | .cons k' t' n' ps' r' => if k' = 1 then .cons k (t ++ t') n ps r' else .cons k t n ps (.cons k' t' n' ps' r'))
  else .cons k t n ps r
def mergeR : Fo → Fo
  | .nil => .nil
  | .cons k t n ps r => consM k t n (mergeR ps) (mergeR r)
def glue (out : Fo) : Fo → Fo
  | .nil => out
  | .cons k t n ps r => if k = 1 ∧ lastT out = true then (addL out t).app r else out.app (.cons k t n ps r)

theorem addL_addL (f : Fo) (s t : List UInt8) : addL (addL f s) t = addL f (s ++ t) := by
  rcases Fo_view f with rfl | ⟨pre, k, u, n, ps, rfl⟩
  · rfl
  · rw [addL_snoc, addL_snoc, addL_snoc, List.append_assoc]
theorem lastT_addL (f : Fo) (s : List UInt8) : lastT (addL f s) = lastT f := by
  rcases Fo_view f with rfl | ⟨pre, k, u, n, ps, rfl⟩
  · rfl
  · rw [addL_snoc, lastT_snoc, lastT_snoc]
theorem glue_nil (g : Fo) : glue .nil g = g := by
  cases g <;> simp [glue, lastT]
theorem glue_snoc (out : Fo) (k : Int) (t : List UInt8) (n : Int) (p g : Fo) : glue (snocM out k t n p) g = glue out (consM k t n p g) := by
  unfold snocM consM
  by_cases hk : k = 1
  · subst hk
    by_cases ht : t = []
    · simp [ht]
    · simp only [ht, and_false, if_false, true_and, if_true]
      by_cases hl : lastT out = true
      · rw [if_pos hl]
        cases g with
        | nil => simp [glue, hl]
        | cons k' t' n' ps' r' =>
          by_cases hk' : k' = 1
          · simp [glue, hk', lastT_addL, hl, addL_addL]
          · simp [glue, hk', hl]
      · rw [if_neg hl]
        cases g with
        | nil => simp [glue, hl, Fo.one]
        | cons k' t' n' ps' r' =>
          by_cases hk' : k' = 1
          · simp [glue, hk', lastT_snoc, addL_snoc, hl, Fo.app_one_app]
          · simp [glue, hk', hl, Fo.app_one_app]
  · simp only [hk, false_and, if_false]
    cases g with
    | nil => simp [glue, hk, Fo.one]
    | cons k' t' n' ps' r' => simp [glue, hk, lastT_snoc, Fo.app_one_app]
theorem mgo_glue : ∀ (f out : Fo), mgo f out = glue out (mergeR f)
  | .nil, out => rfl
  | .cons k t n ps r, out => by
    rw [mgo, mgo_glue r, mgo_glue ps, glue_nil, glue_snoc]; rfl
theorem mergeF_eq (f : Fo) : mergeF f = mergeR f := by rw [mergeF, mgo_glue, glue_nil]
theorem mgo_app : ∀ (f g out : Fo), mgo (f.app g) out = mgo g (mgo f out)
  | .nil, _, _ => rfl
  | .cons k t n ps r, g, out => by simp only [Fo.cons_app, mgo, mgo_app r]
theorem mergeR_app (f g : Fo) : mergeR (f.app g) = glue (mergeR f) (mergeR g) := by
  rw [← mergeF_eq, mergeF, mgo_app, mgo_glue, ← mergeF, mergeF_eq]

/- what is right in a list but for its neighbours; no two texts side by side -/
def okF (w : Bool) : Fo → Prop
  | .nil => True
  | .cons k t n ps r => singleF k t n ps false w = 0 ∧ okF true ps ∧ okF w r
def mgd (b : Bool) : Fo → Prop
  | .nil => True
  | .cons k _ _ ps r => ¬ (k = 1 ∧ b = true) ∧ mgd false ps ∧ mgd (decide (k = 1)) r
theorem single_split (k t n ps b w) : singleF k t n ps b w = 0 ↔ singleF k t n ps false w = 0 ∧ ¬ (k = 1 ∧ b = true) := by
  unfold singleF
  split
  · simp
  split
  · simp
  split
  · rename_i hk
    split
    · simp
    · simp [hk]
  · rename_i h; simp [h]
theorem all_split : ∀ (f : Fo) (b w : Bool), allF f b w = 0 ↔ okF w f ∧ mgd b f
  | .nil, _, _ => by simp [allF, okF, mgd]
  | .cons k t n ps r, b, w => by
    have h1 := all_split ps false true
    have h2 := all_split r (decide (k = 1)) w
    have h3 := single_split k t n ps b w
    simp only [allF, okF, mgd]
    constructor
    · intro h
      split at h
      · rename_i g; exact absurd h g
      · rename_i g
        split at h
        · rename_i g2; exact absurd h g2
        · rename_i g2
          have a1 := h3.1 (Decidable.not_not.1 g)
          have a2 := h1.1 (Decidable.not_not.1 g2)
          have a3 := h2.1 h
          exact ⟨⟨a1.1, a2.1, a3.1⟩, a1.2, a2.2, a3.2⟩
    · rintro ⟨⟨x1, x2, x3⟩, y1, y2, y3⟩
      rw [if_neg (by simpa using h3.2 ⟨x1, y1⟩), if_neg (by simpa using h1.2 ⟨x2, y2⟩)]
      exact h2.2 ⟨x3, y3⟩
theorem okF_app {w : Bool} : ∀ {f g : Fo}, okF w (f.app g) ↔ okF w f ∧ okF w g
  | .nil, g => by simp [okF]
  | .cons k t n ps r, g => by simp only [Fo.cons_app, okF, okF_app (f := r), and_assoc]
theorem single_within {k t n ps w} (h : singleF k t n ps false w = 0) : singleF k t n ps false false = 0 := by
  cases w with
  | false => exact h
  | true =>
    unfold singleF at h ⊢
    split
    · rename_i g; rw [if_pos g] at h; exact h
    · rename_i g; rw [if_neg g] at h
      split
      · rename_i g2; rw [if_pos g2] at h; exact h
      · rename_i g2; rw [if_neg g2] at h
        split
        · rename_i g3; rw [if_pos g3] at h; exact h
        · rename_i g3; rw [if_neg g3] at h
          split
          · rename_i g4; rw [if_pos g4] at h
            split
            · rename_i g5; rw [if_pos g5] at h; exact h
            · simp
          · rename_i g4; rw [if_neg g4] at h; exact h
theorem okF_within {w : Bool} : ∀ {f : Fo}, okF true f → okF w f
  | .nil, _ => trivial
  | .cons k t n ps r, ⟨h1, h2, h3⟩ => by
    cases w with
    | true => exact ⟨h1, h2, h3⟩
    | false => exact ⟨single_within h1, h2, okF_within h3⟩
theorem okF_good {w : Bool} : ∀ {f : Fo}, okF w f → good f
  | .nil, _ => trivial
  | .cons k t n ps r, ⟨h1, h2, h3⟩ => ⟨single_ok h1, okF_good h2, okF_good h3⟩
/- texts stand alone -/
theorem single_text {t n ps b w} (h : singleF 1 t n ps b w = 0) : t ≠ [] ∧ n = 0 ∧ ps = .nil ∧ checkC t = 0 := by
  unfold singleF at h
  split at h
  · cases h
  rename_i g
  split at h
  · cases h
  rename_i g2
  rw [if_pos rfl] at h
  split at h
  · cases h
  rename_i g3
  have e1 : numsF 1 = false := by decide
  have e2 : partsF 1 = false := by decide
  refine ⟨fun e => g2 (.inl ⟨rfl, e⟩), ?_, Fo.eq_nil_of_len ?_, Decidable.not_not.1 g3⟩
  · apply Classical.byContradiction; intro hn; exact g (.inr (.inr (.inr (.inl ⟨hn, e1⟩))))
  · apply Classical.byContradiction; intro hn; exact g (.inr (.inr (.inr (.inr ⟨by omega, e2⟩))))
/- what a node's rightness asks of its parts: whether there are any -/
theorem single_parts {k t n ps ps' b w} (h : singleF k t n ps b w = 0) (hl : ps.len = 0 ↔ ps'.len = 0) : singleF k t n ps' b w = 0 := by
  have h2 : (0 < ps.len ↔ 0 < ps'.len) := by omega
  unfold singleF at h ⊢
  simp only [← h2, ← hl]; exact h
end Go.Proofs
namespace Go.Proofs
open Go Go.Sh

/- two accepted strings, one behind the other -/
theorem kA_left {s t : List UInt8} {i : Nat} (h : i < s.length) : kA (s ++ t) i = kA s i := by simp [kA, List.getD, List.getElem?_append_left h]
theorem kA_right (s t : List UInt8) (i : Nat) : kA (s ++ t) (s.length + i) = kA t i := by simp [kA, List.getD, List.getElem?_append_right]
theorem rtB_left {s t : List UInt8} : ∀ {i : Nat}, i < s.length → rtB (s ++ t) i = rtB s i
  | 0, _ => rfl
  | i + 1, h => by simp only [rtB, kA_left h, kA_left (show i < s.length by omega), rtB_left (show i < s.length by omega)]
theorem rtB_right (s t : List UInt8) : ∀ i : Nat, rtB t i = true → rtB (s ++ t) (s.length + i) = true
  | 0, h => by simp [rtB] at h
  | i + 1, h => by
    have e : s.length + (i + 1) = (s.length + i) + 1 := by omega
    rw [rtB] at h
    rw [e, rtB, ← e, kA_right, kA_right]
    simp only [Bool.and_eq_true, Bool.or_eq_true] at h ⊢
    exact ⟨h.1, h.2.imp id (rtB_right s t i)⟩
theorem okChars_app {s t : List UInt8} (hs : okChars s = true) (ht : okChars t = true) : okChars (s ++ t) = true := by
  simp only [okChars, List.all_eq_true, List.mem_range] at hs ht ⊢
  intro j hj
  by_cases h : j < s.length
  · have := hs j h
    unfold okAt at this ⊢
    rw [kA_left h, rtB_left h]; exact this
  · obtain ⟨i, rfl⟩ : ∃ i, j = s.length + i := ⟨j - s.length, by omega⟩
    have := ht i (by simp at hj; omega)
    unfold okAt at this ⊢
    rw [kA_right]
    simp only [Bool.and_eq_true, Bool.or_eq_true] at this ⊢
    exact ⟨this.1, this.2.imp id (rtB_right s t i)⟩
theorem checkC_app {s t : List UInt8} (hs : checkC s = 0) (ht : checkC t = 0) (hl : s.length + t.length ≤ 65536) : checkC (s ++ t) = 0 := by
  rw [checkC_eq, if_neg (by omega)] at hs ht
  rw [checkC_eq, if_neg (by simp; omega)]
  have h1 : okChars s = true := by cases h : okChars s <;> simp [h] at hs ⊢
  have h2 : okChars t = true := by cases h : okChars t <;> simp [h] at ht ⊢
  rw [if_pos (okChars_app h1 h2)]

theorem single_mk_text {t : List UInt8} {w : Bool} (h1 : t ≠ []) (h2 : checkC t = 0) : singleF 1 t 0 .nil false w = 0 := by
  unfold singleF
  have e1 : textsF 1 = true := by decide
  have e2 : partsF 1 = false := by decide
  rw [if_neg (by simp [e1]), if_neg (by simp [h1, e2]), if_pos rfl]
  simp [h2]

/- merging: what it does to a right list -/
theorem consM_ne {k t n ps r} (h : k ≠ 1) : consM k t n ps r = .cons k t n ps r := by unfold consM; rw [if_neg h]
theorem tlen_consM (k t n ps r) : tlen (consM k t n ps r) ≤ t.length + tlen ps + tlen r := by
  unfold consM
  split
  · split
    · omega
    · split
      · simp [tlen]
      · split
        · simp only [tlen, List.length_append]; omega
        · simp only [tlen]; omega
  · simp [tlen]
theorem tlen_merge : ∀ f : Fo, tlen (mergeR f) ≤ tlen f
  | .nil => Nat.le_refl _
  | .cons k t n ps r => by
    have h1 := tlen_merge ps
    have h2 := tlen_merge r
    have h3 := tlen_consM k t n (mergeR ps) (mergeR r)
    simp only [mergeR, tlen]; omega
theorem consM_mgd {k t n ps r} (hp : mgd false ps) (hr : mgd false r) : mgd false (consM k t n ps r) := by
  have weak : ∀ {b} {r : Fo}, mgd false r → (∀ k' t' n' ps' r', r = .cons k' t' n' ps' r' → ¬ (k' = 1 ∧ b = true)) → mgd b r := by
    intro b r h hh
    cases r with
    | nil => trivial
    | cons k' t' n' ps' r' => exact ⟨hh _ _ _ _ _ rfl, h.2.1, h.2.2⟩
  unfold consM
  split
  · rename_i hk
    split
    · exact hr
    · cases r with
      | nil => exact ⟨by simp, hp, trivial⟩
      | cons k' t' n' ps' r' =>
        simp only
        split
        · rename_i hk'
          refine ⟨by simp, hp, ?_⟩
          have := hr.2.2
          rw [hk] at *; rw [hk'] at this; exact this
        · rename_i hk'
          exact ⟨by simp, hp, weak hr fun _ _ _ _ _ e => by cases e; simp [hk']⟩
  · rename_i hk
    exact ⟨by simp, hp, weak hr fun _ _ _ _ _ e => by cases e; simp [hk]⟩
theorem merge_mgd : ∀ f : Fo, mgd false (mergeR f)
  | .nil => trivial
  | .cons k t n ps r => consM_mgd (merge_mgd ps) (merge_mgd r)
theorem consM_nil {k t n ps r} : consM k t n ps r = .nil → k = 1 ∧ t = [] ∧ r = .nil := by
  unfold consM
  intro h
  split at h
  · split at h
    · exact ⟨by assumption, by assumption, h⟩
    · split at h
      · cases h
      · split at h <;> cases h
  · cases h
theorem merge_nil {w : Bool} : ∀ {f : Fo}, okF w f → (mergeR f = .nil ↔ f = .nil)
  | .nil, _ => by simp [mergeR]
  | .cons k t n ps r, ⟨h1, h2, h3⟩ => by
    constructor
    · intro h
      obtain ⟨rfl, rfl, _⟩ := consM_nil h
      exact absurd rfl (single_text h1).1
    · intro h; cases h
theorem len_zero {f : Fo} : f.len = 0 ↔ f = .nil := ⟨Fo.eq_nil_of_len, fun h => by subst h; rfl⟩
theorem merge_ok : ∀ {w : Bool} {f : Fo}, okF w f → tlen f ≤ 65536 → okF w (mergeR f)
  | _, .nil, _, _ => trivial
  | w, .cons k t n ps r, ⟨h1, h2, h3⟩, hl => by
    simp only [tlen] at hl
    have i2 := merge_ok h2 (by omega)
    have i3 := merge_ok h3 (by omega)
    have hlr := tlen_merge r
    have e1 : singleF k t n (mergeR ps) false w = 0 := single_parts h1 (by rw [len_zero, len_zero, merge_nil h2])
    simp only [mergeR]
    unfold consM
    split
    · rename_i hk
      subst hk
      split
      · exact i3
      · obtain ⟨ht, rfl, hps, hc⟩ := single_text e1
        cases hr : mergeR r with
        | nil => exact ⟨e1, i2, trivial⟩
        | cons k' t' n' ps' r' =>
          rw [hr] at i3 hlr
          simp only
          split
          · rename_i hk'
            subst hk'
            obtain ⟨x1, x2, x3⟩ := i3
            obtain ⟨ht', _, _, hc'⟩ := single_text x1
            simp only [tlen] at hlr
            rw [hps]
            refine ⟨single_mk_text (by simp [ht]) (checkC_app hc hc' (by omega)), trivial, x3⟩
          · exact ⟨e1, i2, i3⟩
    · exact ⟨e1, i2, i3⟩
theorem merge_same : ∀ {w b : Bool} {f : Fo}, okF w f → mgd b f → mergeR f = f
  | _, _, .nil, _, _ => rfl
  | w, b, .cons k t n ps r, ⟨h1, h2, h3⟩, ⟨m1, m2, m3⟩ => by
    simp only [mergeR, merge_same h2 m2, merge_same h3 m3]
    unfold consM
    split
    · rename_i hk
      subst hk
      rw [if_neg (single_text h1).1]
      cases r with
      | nil => rfl
      | cons k' t' n' ps' r' =>
        simp only
        rw [if_neg]
        intro e
        exact m3.1 ⟨e, by simp⟩
    · rfl
theorem depth_consM (k t n ps r) : (consM k t n ps r).depth ≤ max (if ps.len = 0 then 0 else ps.depth + 1) r.depth := by
  unfold consM
  split
  · split
    · omega
    · split
      · rw [Fo.depth_parts]; exact Nat.le_refl _
      · split
        · simp only [Fo.depth_parts]; omega
        · simp only [Fo.depth_parts]; omega
  · rw [Fo.depth_parts]; exact Nat.le_refl _
theorem depth_merge : ∀ f : Fo, (mergeR f).depth ≤ f.depth
  | .nil => Nat.le_refl _
  | .cons k t n ps r => by
    have h1 := depth_merge ps
    have h2 := depth_merge r
    have h3 := depth_consM k t n (mergeR ps) (mergeR r)
    rw [Fo.depth_parts]
    simp only [mergeR]
    by_cases hp : ps.len = 0
    · have e := Fo.eq_nil_of_len hp
      subst e
      simp only [mergeR, Fo.len_nil, if_true] at h3 ⊢
      omega
    · rw [if_neg hp]
      split at h3 <;> omega

/- the breaks -/
theorem breaks_consM {k t n ps r} (h : k = 1 → ps = .nil) (hr : ∀ k' t' n' ps' r', r = .cons k' t' n' ps' r' → k' = 1 → ps' = .nil) : breaksF (consM k t n ps r) = (if brkF k then .one k t n ps else breaksF ps).app (breaksF r) := by
  unfold consM
  split
  · rename_i hk
    have hps := h hk
    subst hk hps
    have e : brkF 1 = false := by decide
    simp only [e, Bool.false_eq_true, if_false]
    split
    · rfl
    · cases r with
      | nil => rfl
      | cons k' t' n' ps' r' =>
        simp only
        split
        · rename_i hk'
          have := hr _ _ _ _ _ rfl hk'
          subst hk' this
          simp only [breaksF, e, Bool.false_eq_true, if_false, Fo.nil_app]
        · simp only [breaksF, e, Bool.false_eq_true, if_false, Fo.nil_app]
  · rfl
theorem textnil {w : Bool} {k t n ps r} (h : okF w (.cons k t n ps r)) (hk : k = 1) : ps = .nil := by subst hk; exact (single_text h.1).2.2.1
theorem breaks_merge : ∀ {w : Bool} {f : Fo}, okF w f → tlen f ≤ 65536 → breaksF (mergeR f) = breaksF f
  | _, .nil, _, _ => rfl
  | w, .cons k t n ps r, h, hl => by
    have hl' := hl
    simp only [tlen] at hl
    have m3 := merge_ok h.2.2 (by omega)
    simp only [mergeR]
    rw [breaks_consM, breaks_merge h.2.2 (by omega), breaks_merge h.2.1 (by omega), breaksF]
    · congr 1
      by_cases hb : brkF k = true
      · have hok := single_ok h.1
        have : partsF k = false := by simp only [brkF, decide_eq_true_eq] at hb; unfold partsF; simp; omega
        have e := Fo.eq_nil_of_len (hok.2.2.2.2.1 this)
        subst e; rfl
      · simp [hb]
    · intro hk; rw [textnil h hk]; rfl
    · intro k' t' n' ps' r' e hk'; rw [e] at m3; exact textnil m3 hk'
end Go.Proofs
namespace Go.Proofs
open Go Go.Sh

theorem breaks_ok : ∀ {w : Bool} {f : Fo}, okF w f → okF w (breaksF f)
  | _, .nil, _ => trivial
  | w, .cons k t n ps r, ⟨h1, h2, h3⟩ => by
    simp only [breaksF]
    rw [okF_app]
    refine ⟨?_, breaks_ok h3⟩
    split
    · exact ⟨h1, h2, trivial⟩
    · exact okF_within (breaks_ok h2)
theorem part_ok {w : Bool} {k t n ps ps'} (h : singleF k t n ps false w = 0) (h0 : ps.len ≠ 0) (h2 : okF true ps') : okF w (partF k t n ps') := by
  unfold partF
  split
  · trivial
  · exact ⟨single_parts h (by omega), h2, trivial⟩
theorem resolve_ok : ∀ {w : Bool} {f : Fo} (hand : Int) (adv : Bool), okF w f → okF w (resolveF f hand adv)
  | _, .nil, _, _, _ => trivial
  | w, .cons k t n ps r, hand, adv, ⟨h1, h2, h3⟩ => by
    have hp := (single_ok h1).2.2.2.2.2
    have pk : k = 7 ∨ k = 8 ∨ k = 9 ∨ k = 10 ∨ k = 11 → ps.len ≠ 0 := fun h => by have := hp (by unfold partsF; simp; omega); omega
    have i2 := resolve_ok hand adv h2
    simp only [resolveF]
    rw [okF_app]
    refine ⟨?_, resolve_ok hand adv h3⟩
    split
    · exact okF_within (breaks_ok h2)
    split
    · exact okF_within i2
    split
    · exact part_ok h1 (pk (by omega)) i2
    split
    · exact okF_within (breaks_ok h2)
    split
    · exact okF_within i2
    split
    · exact part_ok h1 (pk (by omega)) i2
    · exact ⟨h1, h2, trivial⟩

theorem depth_breaks : ∀ f : Fo, (breaksF f).depth ≤ f.depth
  | .nil => Nat.le_refl _
  | .cons k t n ps r => by
    have h1 := depth_breaks ps
    have h2 := depth_breaks r
    rw [Fo.depth_parts]
    simp only [breaksF, depth_app]
    split
    · rw [Fo.one, Fo.depth_parts]; simp only [Fo.depth]; omega
    · by_cases hp : ps.len = 0
      · have e := Fo.eq_nil_of_len hp
        subst e
        simp only [breaksF, Fo.depth]; omega
      · rw [if_neg hp]; omega
theorem depth_part (k t n) (ps : Fo) : (partF k t n ps).depth ≤ if ps.len = 0 then 0 else ps.depth + 1 := by
  unfold partF
  split
  · exact Nat.le_refl _
  · rename_i h; rw [Fo.one, Fo.depth_parts, if_neg h]; simp [Fo.depth]
theorem depth_resolve : ∀ (f : Fo) (hand : Int) (adv : Bool), (resolveF f hand adv).depth ≤ f.depth
  | .nil, _, _ => Nat.le_refl _
  | .cons k t n ps r, hand, adv => by
    have h1 := depth_resolve ps hand adv
    have h2 := depth_resolve r hand adv
    have h3 := depth_breaks ps
    have h4 := depth_part k t n (resolveF ps hand adv)
    rw [Fo.depth_parts]
    by_cases hp : ps.len = 0
    · have e := Fo.eq_nil_of_len hp
      subst e
      simp only [resolveF, breaksF, partF, Fo.len_nil, if_true, depth_app]
      have h0 : (Fo.one k t n .nil).depth = 0 := rfl
      have hn : Fo.nil.depth = 0 := rfl
      repeat' split
      all_goals omega
    · rw [if_neg hp]
      have h5 : (partF k t n (resolveF ps hand adv)).depth ≤ ps.depth + 1 := by split at h4 <;> omega
      have h6 : (Fo.one k t n ps).depth = ps.depth + 1 := by rw [Fo.one, Fo.depth_parts, if_neg hp]; simp [Fo.depth]
      simp only [resolveF, depth_app]
      repeat' split
      all_goals omega

/- sizes: what is printed is hardly longer than the texts -/
theorem print_short : ∀ f : Fo, good f → (printF f).length ≤ 30 * f.size + tlen f
  | .nil, _ => by simp [printF]
  | .cons k t n ps r, ⟨h1, h2, h3⟩ => by
    have i2 := print_short ps h2
    have i3 := print_short r h3
    have ht := tagF_len h1.1 h1.2.1
    have hv : (valF k t n).length ≤ t.length + 3 := by
      unfold valF
      split
      · simp
      · split
        · rename_i hn
          have := decDigits_len n.toNat (by have := h1.2.2.1 hn; omega)
          simp only [List.length_cons]; omega
        · simp
    simp only [printF, List.length_append, Fo.size, tlen]
    unfold nodeF
    split
    · omega
    · split
      · simp only [List.length_append, List.length_cons, List.length_nil]; omega
      · simp only [List.length_append, List.length_cons, List.length_nil]; omega
theorem tlen_texts : ∀ {f : Fo} {b : Nat}, f.texts b → tlen f ≤ b * f.size
  | .nil, _, _ => by simp [tlen]
  | .cons k t n ps r, b, ⟨h1, h2, h3⟩ => by
    have i2 := tlen_texts h2
    have i3 := tlen_texts h3
    simp only [tlen, Fo.size, Nat.mul_add, Nat.mul_one]; omega

/- the transcripts of the statements -/
structure FineF (f : Fo) : Prop where
  size : f.size ≤ 24
  tl : tlen f ≤ 192
  depth : f.depth ≤ 6
  ok : okF false f
  m : mgd false f
theorem FineF.check {f : Fo} (h : FineF f) : checkT f = 0 := by
  unfold checkT
  have h1 := h.size
  have h2 := h.tl
  have h3 := h.depth
  have ha : allF f false false = 0 := (all_split f false false).2 ⟨h.ok, h.m⟩
  have hp := print_short f (okF_good h.ok)
  rw [if_pos (by omega), ha]
  simp; omega
theorem FineF.small {f : Fo} (h : FineF f) : small f := by have := h.size; unfold Go.Proofs.small; omega
theorem fine_of {f : Fo} (hg : greatF f = false) (hc : checkT f = 0) : FineF f := by
  obtain ⟨h1, h2, h3⟩ := great_small hg
  have h4 := tlen_texts h2
  unfold checkT at hc
  rw [if_pos (by omega)] at hc
  have ha : allF f false false = 0 := by
    split at hc
    · rename_i h; exact absurd hc h
    · rename_i h; exact Decidable.not_not.1 h
  have := (all_split f false false).1 ha
  exact ⟨h1, by omega, h3, this.1, this.2⟩
theorem FineF.res {f : Fo} (h : FineF f) (hand : Int) (adv : Bool) : FineF (mergeF (resolveF f hand adv)) := by
  have h1 := h.size
  have h2 := h.tl
  have h3 := h.depth
  have a1 := mergeF_size (resolveF f hand adv)
  have a2 := resolveF_size f hand adv
  have b1 := tlen_merge (resolveF f hand adv)
  have b2 := tlen_resolve f hand adv
  have c1 := depth_merge (resolveF f hand adv)
  have c2 := depth_resolve f hand adv
  have hok := resolve_ok hand adv h.ok
  rw [mergeF_eq] at a1 ⊢
  exact ⟨by omega, by omega, by omega, merge_ok hok (by omega), merge_mgd _⟩
theorem FineF.err {f : Fo} (h : FineF f) {hand : Int} (h0 : 0 ≤ hand) (h8 : hand ≤ 8) : errS f hand = 0 := by
  unfold errS; rw [if_neg (by rw [h.check]; simp), if_neg (by omega)]
theorem FineF.resS {f : Fo} (h : FineF f) {hand : Int} (adv : Bool) (h0 : 0 ≤ hand) (h8 : hand ≤ 8) : resS f hand adv = mergeF (resolveF f hand adv) := by
  unfold Go.Proofs.resS; rw [if_pos (h.err h0 h8)]

/- breaks of what is resolved -/
theorem breaks_breaks : ∀ f : Fo, breaksF (breaksF f) = breaksF f
  | .nil => rfl
  | .cons k t n ps r => by
    simp only [breaksF, breaksF_app, breaks_breaks r]
    congr 1
    split
    · rename_i h; simp [Fo.one, breaksF, h]
    · exact breaks_breaks ps
theorem breaks_part {k t n ps} (h : brkF k = false) : breaksF (partF k t n ps) = breaksF ps := by
  unfold partF
  split
  · rename_i h0; have e := Fo.eq_nil_of_len h0; subst e; rfl
  · simp [Fo.one, breaksF, h]
theorem breaks_resolve : ∀ (f : Fo) (hand : Int) (adv : Bool), breaksF (resolveF f hand adv) = breaksF f
  | .nil, _, _ => rfl
  | .cons k t n ps r, hand, adv => by
    have h1 := breaks_resolve ps hand adv
    have h2 := breaks_resolve r hand adv
    have nb : k = 7 ∨ k = 8 ∨ k = 9 ∨ k = 10 ∨ k = 11 → brkF k = false := fun h => by unfold brkF; simp; omega
    simp only [resolveF, breaksF_app, h2]
    rw [show breaksF (.cons k t n ps r) = (if brkF k then .one k t n ps else breaksF ps).app (breaksF r) from rfl]
    congr 1
    split
    · rename_i h; rw [nb (by omega), breaks_breaks]; rfl
    split
    · rename_i h; rw [nb (by omega), h1]; rfl
    split
    · rename_i h; rw [breaks_part (nb (by omega)), nb (by omega), h1]; rfl
    split
    · rename_i h; rw [nb (by omega), breaks_breaks]; rfl
    split
    · rename_i h; rw [nb (by omega), h1]; rfl
    split
    · rename_i h; rw [breaks_part (nb (by omega)), nb (by omega), h1]; rfl
    · simp [Fo.one, breaksF]

/- step by step is at once -/
theorem resolve_breaks : ∀ (f : Fo) (hand : Int) (adv : Bool), resolveF (breaksF f) hand adv = breaksF f
  | .nil, _, _ => rfl
  | .cons k t n ps r, hand, adv => by
    simp only [breaksF, resolveF_app, resolve_breaks r]
    congr 1
    split
    · rename_i h
      have : k = 2 ∨ k = 3 ∨ k = 4 := by unfold brkF at h; simpa using h
      simp only [Fo.one, resolveF]
      rw [if_neg (by omega), if_neg (by omega), if_neg (by omega), if_neg (by omega), if_neg (by omega), if_neg (by omega)]; rfl
    · exact resolve_breaks ps hand adv
theorem resolve_resolve (a b : Int) (hab : a ≤ b) (adv : Bool) : ∀ f : Fo, resolveF (resolveF f a true) b adv = resolveF f b adv
  | .nil => rfl
  | .cons k t n ps r => by
    have h1 := resolve_resolve a b hab adv ps
    have h2 := resolve_resolve a b hab adv r
    have e0 := breaks_resolve ps a true
    rw [show resolveF (.cons k t n ps r) a true = (if k = 9 ∧ n ≤ a then breaksF ps else if k = 8 ∧ n ≤ a then resolveF ps a true else if (k = 8 ∨ k = 9) ∧ true = true then partF k t n (resolveF ps a true) else if k = 8 then breaksF ps
     else if k = 9 then resolveF ps a true else if k = 7 ∨ k = 10 ∨ k = 11 then partF k t n (resolveF ps a true) else .one k t n ps).app (resolveF r a true) from rfl]
    rw [resolveF_app, h2]
    rw [show resolveF (.cons k t n ps r) b adv = (if k = 9 ∧ n ≤ b then breaksF ps else if k = 8 ∧ n ≤ b then resolveF ps b adv else if (k = 8 ∨ k = 9) ∧ adv = true then partF k t n (resolveF ps b adv) else if k = 8 then breaksF ps
     else if k = 9 then resolveF ps b adv else if k = 7 ∨ k = 10 ∨ k = 11 then partF k t n (resolveF ps b adv) else .one k t n ps).app (resolveF r b adv) from rfl]
    congr 1
    -- a node whose parts have been resolved
    have key : ∀ X : Fo, X = resolveF ps a true → (¬ (k = 8 ∨ k = 9) → k = 7 ∨ k = 10 ∨ k = 11) → resolveF (partF k t n X) b adv = (if k = 9 ∧ n ≤ b then breaksF ps else if k = 8 ∧ n ≤ b then resolveF ps b adv else if (k = 8 ∨ k = 9) ∧ adv = true then partF k t n (resolveF ps b adv) else if k = 8 then breaksF ps
     else if k = 9 then resolveF ps b adv else if k = 7 ∨ k = 10 ∨ k = 11 then partF k t n (resolveF ps b adv) else .one k t n ps) := by
      intro X hX hk
      subst hX
      by_cases hl : (resolveF ps a true).len = 0
      · have e := Fo.eq_nil_of_len hl
        have e1 : resolveF ps b adv = .nil := by rw [← h1, e]; rfl
        have e2 : breaksF ps = .nil := by rw [← e0, e]; rfl
        rw [e, e1, e2]
        have e3 : partF k t n .nil = .nil := rfl
        have e4 : resolveF .nil b adv = .nil := rfl
        rw [e3, e4]
        repeat' split
        all_goals first | rfl | omega
      · have e : partF k t n (resolveF ps a true) = .one k t n (resolveF ps a true) := by unfold partF; rw [if_neg hl]
        rw [e, Fo.one]
        simp only [resolveF, Fo.app_nil, h1, e0]
        repeat' split
        all_goals first | rfl | omega
    by_cases c1 : k = 9 ∧ n ≤ a
    · rw [if_pos c1, if_pos ⟨c1.1, by omega⟩, resolve_breaks]
    rw [if_neg c1]
    by_cases c2 : k = 8 ∧ n ≤ a
    · rw [if_pos c2, if_neg (by omega), if_pos ⟨c2.1, by omega⟩, h1]
    rw [if_neg c2]
    by_cases c3 : (k = 8 ∨ k = 9)
    · rw [if_pos ⟨c3, rfl⟩]
      exact key _ rfl (fun h => absurd c3 h)
    rw [if_neg (fun h => c3 h.1), if_neg (by omega), if_neg (by omega)]
    by_cases c4 : k = 7 ∨ k = 10 ∨ k = 11
    · rw [if_pos c4]
      exact key _ rfl (fun _ => c4)
    · rw [if_neg c4]
      simp only [Fo.one, resolveF, Fo.app_nil]
      repeat' split
      all_goals first | rfl | omega

/- resolving does not mind merging -/
theorem consM_glue {k t n ps r} : consM k t n ps r = glue (consM k t n ps .nil) r := by
  have := glue_snoc .nil k t n ps r
  rw [glue_nil] at this
  rw [← this]
  have h2 := glue_snoc .nil k t n ps .nil
  rw [glue_nil] at h2
  rw [← h2]; rfl
theorem merge_part {k t n X Y} (h : mergeR X = mergeR Y) (h0 : X = .nil ↔ Y = .nil) : mergeR (partF k t n X) = mergeR (partF k t n Y) := by
  unfold partF
  simp only [len_zero]
  by_cases hx : X = .nil
  · rw [if_pos hx, if_pos (h0.1 hx)]
  · rw [if_neg hx, if_neg (fun hy => hx (h0.2 hy))]
    simp only [Fo.one, mergeR, h]
theorem resolve_merge (hand : Int) (adv : Bool) : ∀ {w : Bool} {f : Fo}, okF w f → tlen f ≤ 65536 → mergeR (resolveF (mergeR f) hand adv) = mergeR (resolveF f hand adv)
  | _, .nil, _, _ => rfl
  | w, .cons k t n ps r, h, hl => by
    have hl' := hl
    simp only [tlen] at hl
    have i2 := resolve_merge hand adv h.2.1 (by omega)
    have i3 := resolve_merge hand adv h.2.2 (by omega)
    have m3 := merge_ok h.2.2 (by omega)
    have eb := breaks_merge h.2.1 (by omega)
    have o1 := resolve_ok hand adv (merge_ok h.2.1 (by omega))
    have o2 := resolve_ok hand adv h.2.1
    have hnil : resolveF (mergeR ps) hand adv = .nil ↔ resolveF ps hand adv = .nil := by rw [← merge_nil o1, ← merge_nil o2, i2]
    by_cases hk : k = 1
    · subst hk
      obtain ⟨ht, rfl, hps, _⟩ := single_text h.1
      subst hps
      have e1 : ∀ (t : List UInt8) (n : Int) (q r : Fo), resolveF (.cons 1 t n q r) hand adv = .cons 1 t n q (resolveF r hand adv) := fun t n q r => by simp [resolveF, Fo.one]
      rw [e1]
      simp only [mergeR]
      rw [← i3]
      generalize mergeR r = g at m3
      unfold consM
      rw [if_pos rfl, if_neg ht, if_pos rfl, if_neg ht]
      cases g with
      | nil => simp [e1, mergeR, resolveF, consM, ht, Fo.one]
      | cons k' t' n' ps' r' =>
        simp only
        by_cases hk' : k' = 1
        · subst hk'
          obtain ⟨ht', rfl, hps', _⟩ := single_text m3.1
          subst hps'
          simp only [if_true, e1, mergeR]
          unfold consM
          simp only [if_true, ht', if_false, List.append_eq_nil_iff, ht, false_and]
          cases mergeR (resolveF r' hand adv) with
          | nil => simp
          | cons k2 t2 n2 ps2 r2 =>
            simp only
            by_cases hk2 : k2 = 1
            · simp [hk2]
            · simp [hk2]
        · rw [if_neg hk', e1]
          simp [mergeR, consM, ht]
    · have e : mergeR (.cons k t n ps r) = .cons k t n (mergeR ps) (mergeR r) := by simp only [mergeR]; exact consM_ne hk
      rw [e]
      simp only [resolveF]
      rw [mergeR_app, mergeR_app, i3]
      congr 1
      rw [eb]
      by_cases c1 : k = 9 ∧ n ≤ hand
      · rw [if_pos c1, if_pos c1]
      rw [if_neg c1, if_neg c1]
      by_cases c2 : k = 8 ∧ n ≤ hand
      · rw [if_pos c2, if_pos c2, i2]
      rw [if_neg c2, if_neg c2]
      by_cases c3 : (k = 8 ∨ k = 9) ∧ adv = true
      · rw [if_pos c3, if_pos c3]; exact merge_part i2 hnil
      rw [if_neg c3, if_neg c3]
      by_cases c4 : k = 8
      · rw [if_pos c4, if_pos c4]
      rw [if_neg c4, if_neg c4]
      by_cases c5 : k = 9
      · rw [if_pos c5, if_pos c5, i2]
      rw [if_neg c5, if_neg c5]
      by_cases c6 : k = 7 ∨ k = 10 ∨ k = 11
      · rw [if_pos c6, if_pos c6]; exact merge_part i2 hnil
      rw [if_neg c6, if_neg c6]
      have hok := single_ok h.1
      have hp : partsF k = false := by have := hok.1; have := hok.2.1; unfold partsF; simp; omega
      have e' := Fo.eq_nil_of_len (hok.2.2.2.2.1 hp)
      subst e'; rfl
/- HandsSteps, the plain law -/
theorem steps_law {f : Fo} (h : FineF f) (a b : Int) (hab : a ≤ b) (adv : Bool) : mergeF (resolveF (mergeF (resolveF f a true)) b adv) = mergeF (resolveF f b adv) := by
  have := h.tl
  have h2 := tlen_resolve f a true
  rw [mergeF_eq, mergeF_eq, mergeF_eq, resolve_merge b adv (resolve_ok a true h.ok) (by omega), resolve_resolve a b hab]
end Go.Proofs
namespace Go.Proofs
open Go Go.Sh Go.RowKit

theorem mod9 {x : Int} (h0 : 0 ≤ x) (h1 : x < 256) : IntKind.i64.wrap x = x ∧ 0 ≤ x.tmod 9 ∧ x.tmod 9 ≤ 8 := by
  refine ⟨wrap_id (by omega), ?_, ?_⟩
  · exact Int.tmod_nonneg _ h0
  · have := Int.tmod_lt_of_pos x (show (0:Int) < 9 by decide); omega

theorem breaks_small {f : Fo} (h : f.size ≤ 24) : small (breaksF f) := by have := breaksF_size f; unfold small; omega
theorem FineF.breaks {f : Fo} (h : FineF f) (hand : Int) (adv : Bool) : breaksF (mergeF (resolveF f hand adv)) = breaksF f := by
  have := h.tl
  have h2 := tlen_resolve f hand adv
  rw [mergeF_eq, breaks_merge (resolve_ok hand adv h.ok) (by omega), breaks_resolve]
end Go.Proofs
namespace Go.Proofs
open Go Go.Sh Go.RowKit

def corrN (x : Nn) : Bool := decide (x.k = 8 ∨ x.k = 9)
def mostN (l : List Nn) : Int := l.foldl (fun m x => if x.k = 8 ∨ x.k = 9 then max m x.n else m) 0
theorem mostN_snoc (l : List Nn) (x : Nn) : mostN (l ++ [x]) = if x.k = 8 ∨ x.k = 9 then max (mostN l) x.n else mostN l := by simp [mostN]
theorem Ext.upd {w W1 W2 : World} {l : Nat} (h : Ext w W1) (hU : Upd l W1 W2) (hl : w.heap.size ≤ l) : Ext w W2 := ext_chg h (upd_chg hU hl) (Nat.le_refl _)

end Go.Proofs
namespace Go.Proofs
open Go Go.Sh Go.RowKit

def RowsN : List Nn → List Value → Prop
  | [], xs => xs = []
  | x :: l, xs => ∃ a m c xs', xs = .int .i64 x.k :: .string ⟨⟨x.t⟩⟩ :: .int .i64 x.n :: .slice a m c :: xs' ∧ RowsN l xs'
theorem RowsN.snoc {x : Nn} {a : Option Addr} {m c : Nat} : ∀ {l : List Nn} {xs : List Value}, RowsN l xs → RowsN (l ++ [x]) (xs ++ [.int .i64 x.k, .string ⟨⟨x.t⟩⟩, .int .i64 x.n, .slice a m c])
  | [], xs, h => by cases h; exact ⟨a, m, c, [], rfl, rfl⟩
  | y :: l, xs, ⟨a', m', c', xs', e, h⟩ => by subst e; exact ⟨a', m', c', _, rfl, RowsN.snoc h⟩
theorem RowsN.get {x : Nn} : ∀ {l : List Nn} {xs : List Value} {i : Nat}, RowsN l xs → l[i]? = some x →
    ∃ a m c, xs[4 * i]? = some (.int .i64 x.k) ∧ xs[4 * i + 1]? = some (.string ⟨⟨x.t⟩⟩) ∧ xs[4 * i + 2]? = some (.int .i64 x.n) ∧ xs[4 * i + 3]? = some (.slice a m c)
  | [], xs, i, _, hi => by simp at hi
  | y :: l, xs, 0, ⟨a, m, c, xs', e, h⟩, hi => by
    simp at hi; subst hi; subst e
    exact ⟨a, m, c, rfl, rfl, rfl, rfl⟩
  | y :: l, xs, i + 1, ⟨a, m, c, xs', e, h⟩, hi => by
    subst e
    simp at hi
    obtain ⟨a', m', c', h0, h1, h2, h3⟩ := RowsN.get h hi
    exact ⟨a', m', c', h0, h1, h2, h3⟩

end Go.Proofs
namespace Go.Proofs
open Go Go.Sh Go.RowKit

def clean : Fo → Prop
  | .nil => True
  | .cons k _ _ ps r => ¬ (k = 8 ∨ k = 9) ∧ clean ps ∧ clean r
theorem nodesF_app : ∀ f g : Fo, nodesF (f.app g) = nodesF f ++ nodesF g
  | .nil, g => rfl
  | .cons k t n ps r, g => by simp [nodesF, nodesF_app r]
theorem clean_app : ∀ {f g : Fo}, clean (f.app g) ↔ clean f ∧ clean g
  | .nil, g => by simp [clean]
  | .cons k t n ps r, g => by simp only [Fo.cons_app, clean, clean_app (f := r), and_assoc]
theorem clean_any : ∀ f : Fo, clean f ↔ (nodesF f).any corrN = false
  | .nil => by simp [clean, nodesF]
  | .cons k t n ps r => by
    simp only [clean, nodesF, List.any_cons, List.any_append, Bool.or_eq_false_iff, clean_any ps, clean_any r]
    rw [show corrN ⟨k, t, n, ps⟩ = false ↔ ¬ (k = 8 ∨ k = 9) by simp [corrN]]
theorem clean_breaks : ∀ {f : Fo}, good f → clean (breaksF f)
  | .nil, _ => trivial
  | .cons k t n ps r, ⟨h1, h2, h3⟩ => by
    simp only [breaksF, clean_app]
    refine ⟨?_, clean_breaks h3⟩
    split
    · rename_i hb
      have hk : k = 2 ∨ k = 3 ∨ k = 4 := by simpa [brkF] using hb
      have := Fo.eq_nil_of_len (h1.2.2.2.2.1 (by unfold partsF; simp; omega))
      subst this
      exact ⟨by omega, trivial, trivial⟩
    · exact clean_breaks h2
theorem clean_part {k t n ps} (h : ¬ (k = 8 ∨ k = 9)) (hp : clean ps) : clean (partF k t n ps) := by
  unfold partF
  split
  · trivial
  · exact ⟨h, hp, trivial⟩
theorem clean_resolve (hand : Int) : ∀ {f : Fo}, good f → clean (resolveF f hand false)
  | .nil, _ => trivial
  | .cons k t n ps r, ⟨h1, h2, h3⟩ => by
    have i2 := clean_resolve hand h2
    have ib := clean_breaks h2
    simp only [resolveF, clean_app]
    refine ⟨?_, clean_resolve hand h3⟩
    split
    · exact ib
    split
    · exact i2
    split
    · rename_i h; simp at h
    split
    · exact ib
    split
    · exact i2
    split
    · exact clean_part (by omega) i2
    · have hp : partsF k = false := by have := h1.1; have := h1.2.1; unfold partsF; simp; omega
      have := Fo.eq_nil_of_len (h1.2.2.2.2.1 hp)
      subst this
      exact ⟨by omega, trivial, trivial⟩
theorem clean_consM {k t n ps r} (h : ¬ (k = 8 ∨ k = 9)) (hp : clean ps) (hr : clean r) : clean (consM k t n ps r) := by
  unfold consM
  split
  · split
    · exact hr
    · split
      · exact ⟨h, hp, trivial⟩
      · split
        · exact ⟨h, hp, hr.2.2⟩
        · exact ⟨h, hp, hr⟩
  · exact ⟨h, hp, hr⟩
theorem clean_merge : ∀ {f : Fo}, clean f → clean (mergeR f)
  | .nil, _ => trivial
  | .cons k t n ps r, ⟨h1, h2, h3⟩ => clean_consM h1 (clean_merge h2) (clean_merge h3)
theorem resolve_clean (hand : Int) (adv : Bool) : ∀ {f : Fo}, good f → clean f → resolveF f hand adv = f
  | .nil, _, _ => rfl
  | .cons k t n ps r, ⟨g1, g2, g3⟩, ⟨h1, h2, h3⟩ => by
    simp only [resolveF, resolve_clean hand adv g2 h2, resolve_clean hand adv g3 h3]
    rw [if_neg (by omega), if_neg (by omega), if_neg (by omega), if_neg (by omega), if_neg (by omega)]
    split
    · rename_i h
      have := g1.2.2.2.2.2 (by unfold partsF; simp; omega)
      unfold partF
      rw [if_neg (by omega)]; rfl
    · rfl
theorem most_clean {f : Fo} (h : clean f) : mostN (nodesF f) = 0 := by
  have ha := (clean_any f).1 h
  generalize nodesF f = l at ha
  suffices ∀ m, l.foldl (fun m (x : Nn) => if x.k = 8 ∨ x.k = 9 then max m x.n else m) m = m from this 0
  induction l with
  | nil => exact fun m => rfl
  | cons x l ih =>
    intro m
    simp only [List.any_cons, Bool.or_eq_false_iff] at ha
    have : ¬ (x.k = 8 ∨ x.k = 9) := by simpa [corrN] using ha.1
    simp only [List.foldl_cons, if_neg this]
    exact ih ha.2 m
theorem FineF.clean {f : Fo} (h : FineF f) (hand : Int) : clean (mergeF (resolveF f hand false)) := by
  rw [mergeF_eq]; exact clean_merge (clean_resolve hand (okF_good h.ok))
theorem FineF.again {f : Fo} (h : FineF f) (hc : Proofs.clean f) (hand : Int) (adv : Bool) : mergeF (resolveF f hand adv) = f := by
  rw [resolve_clean hand adv (okF_good h.ok) hc, mergeF_eq]; exact merge_same h.ok h.m

end Go.Proofs
namespace Go.Proofs
open Go Go.Sh Go.RowKit

theorem places_walkO {yf : Fn} {ya yb : Array Value} {T : Nat → Prop} {J : List Pl → (Nat → Prop) → World → Prop} {Jx : (Nat → Prop) → World → Prop} {w0 : World} {xs : List Pl} {ty tw : Nat}
    (hTl : ∀ k, T k → k < w0.heap.size)
    (hJ : ∀ pre S W W', J pre S W → Chg (fun k => w0.heap.size ≤ k ∧ ¬ S k) W W' → J pre S W')
    (hbody : ∀ pre x vs S W, PlE T w0 x vs → pre ++ [x] <+: xs → w0.heap.size ≤ W.heap.size → (∀ k, S k → k < W.heap.size ∧ ¬ T k) → J pre S W → CallV Tryz.prog (.func yf ya yb) vs W fun e W' => Chg S W W' ∧
      ∃ S' : Nat → Prop, (∀ k, S' k → (S k ∨ W.heap.size ≤ k) ∧ k < W'.heap.size) ∧ ((e = .returned (.bool true) ∧ J (pre ++ [x]) S' W') ∨ (e = .returned (.bool false) ∧ Jx S' W'))) :
    ∀ (f : Fo) {R : Ending → World → Prop} {S : Nat → Prop} {w : World} {a : Option Addr} {n c : Nat} (d : Nat) (pre : List Pl), small f → d ≤ 17 → SlF T w0 a n f → w0.heap.size ≤ w.heap.size → (∀ k, T k → w.heap[k]? = w0.heap[k]?) → (∀ k, S k → k < w.heap.size ∧ ¬ T k) →
      Blk w ty [.func yf ya yb] 99 → Blk w tw [.func (.func 75) ⟨[]⟩ ⟨[.pointer (some ⟨ty, 0, none⟩), .pointer (some ⟨tw, 0, none⟩)]⟩] 79 → ¬ S ty → ¬ S tw →
      pre ++ placesF f d false <+: xs → J pre S w → (∀ S' W', Chg S w W' → (∀ k, S' k → (S k ∨ w.heap.size ≤ k) ∧ k < W'.heap.size) → J (pre ++ placesF f d false) S' W' → R (.returned (.bool true)) W') →
      (∀ S' W', Chg S w W' → (∀ k, S' k → (S k ∨ w.heap.size ≤ k) ∧ k < W'.heap.size) → Jx S' W' → R (.returned (.bool false)) W') →
      Calls Tryz.prog F_transcript_places_1_1 ⟨[.slice a n c, .int .i64 (d : Int), .pointer (some ⟨ty, 0, none⟩), .pointer (some ⟨tw, 0, none⟩)]⟩ w R := by
  intro f
  induction hz : f.size using Nat.strongRecOn generalizing f with
  | _ z ih =>
  intro R S w a n c d pre hs hd hf hw0 hT hS hBy hBw nSy nSw hpre hj hend hstop
  unfold small at hs
  apply c_transcript_places_1_1
  have hn := hf.1
  have hfl := f.len_le_size
  have lty := hBy.lt
  have ltw := hBw.lt
  refine ⟨fun tx i W m => ∃ (p r : Fo) (ps : List Pl) (S1 : Nat → Prop), f = p.app r ∧ i = p.len ∧ m = r.len ∧ Chg S w W ∧ (∀ k, S1 k → (S k ∨ w.heap.size ≤ k) ∧ k < W.heap.size) ∧ J ps S1 W ∧ pre ++ placesF f d false = ps ++ placesF r d tx,
    ⟨_, .nil, f, pre, S, rfl, rfl, rfl, Chg.refl _ _, fun k hk => ⟨.inl hk, (hS k hk).1⟩, hj, rfl⟩, ?_⟩
  rintro b _ W m ⟨p, r, xs', S1, hpr, rfl, rfl, hcW, hS1, hjW, heq⟩ _
  have hwW := hcW.size
  refine br_split (fun hlt => ?_) (fun hge => ?_)
  · obtain ⟨k, t, mm, ps, r, rfl⟩ := Fo.next hpr (by omega)
    have hsl := Fo.sub_len hpr
    have hsz := Fo.sub_size hpr
    have e1 : f = (p.app (.one k t mm ps)).app r := by rw [Fo.app_one_app]; exact hpr
    have i1 : IntKind.i64.wrap ((p.len : Int) + 1) = ((p.app (.one k t mm ps)).len : Int) := by rw [wrap_nat (by omega)]; simp [Fo.one]
    have hTW : ∀ k, T k → W.heap[k]? = w0.heap[k]? := fun k hk => (hcW.block k (by have := hTl k hk; omega) (fun h => (hS k h).2 hk)).trans (hT k hk)
    obtain ⟨q, a', c', hq, hTq, hql, hN⟩ := (hf.keep (S' := T) (w' := W) (fun k hk _ => ⟨hk, hTW k hk⟩) (by omega)).get hpr
    have hNT : SlF T w0 a' ps.len ps := hN.sl.keep' fun k hk _ => ⟨hk, hTl k hk, (hTW k hk).symm⟩
    refine hq _ ⟨k, hN.kind, t, hN.text, mm, hN.num, a', ps.len, c', hN.parts, ?_⟩
    refine al_stL (by simp) (by intro u hu; simp only [List.mem_cons, List.not_mem_nil, or_false] at hu; rcases hu with rfl | rfl | rfl | rfl <;> rfl) fun bx w1 hbx hBx e2 s2 => ?_
    have z2 := e2.size
    obtain ⟨x0, x1, x2, x3⟩ := blk4 hBx
    have hBy1 := (hcW.blk hBy nSy).ext e2
    have hBw1 := (hcW.blk hBw nSw).ext e2
    have n1y : ¬ S1 ty := fun h => (hS1 _ h).1.elim nSy (by omega)
    have n1w : ¬ S1 tw := fun h => (hS1 _ h).1.elim nSw (by omega)
    have n1x : ¬ S1 bx := fun h => by have := (hS1 _ h).2; omega
    refine dr_ok ⟨_, _, _, by rw [hBy1.cell]; rfl, k, x0, t, x1, mm, x2, a', ps.len, c', x3, ?_⟩
    have hj1 : J xs' S1 w1 := hJ _ _ _ _ hjW (Chg.of_ext e2)
    rw [placesF] at heq
    have hpx : xs' ++ [⟨k, t, mm, ps, d, b⟩] <+: xs := by
      refine List.IsPrefix.trans ?_ hpre
      rw [heq]
      exact ⟨_, by rw [List.append_assoc]; rfl⟩
    have hS1T : ∀ k, S1 k → k < w1.heap.size ∧ ¬ T k := fun j hj => ⟨by have := (hS1 j hj).2; omega, fun ht => (hS1 j hj).1.elim (fun h => (hS j h).2 ht) (fun h => by have := hTl j ht; omega)⟩
    refine CallV_mono (hbody xs' ⟨k, t, mm, ps, d, b⟩ _ S1 w1 ⟨a', c', rfl, hNT⟩ hpx (by omega) hS1T hj1) ?_
    rintro e w2 ⟨hc2, S2, hS2, hres⟩
    have z3 := hc2.size
    have hcw2 : Chg S w w2 := chg_then (hcW.trans (Chg.of_ext e2)) hc2 fun i hi hh => (hS1 i hh).1.elim id fun h => by omega
    have hS2w : ∀ k, S2 k → (S k ∨ w.heap.size ≤ k) ∧ k < w2.heap.size := fun j hj => ⟨(hS2 j hj).1.elim (fun h => (hS1 j h).1) (fun h => .inr (by omega)), (hS2 j hj).2⟩
    rcases hres with ⟨rfl, hj2⟩ | ⟨rfl, hjx⟩
    · refine ⟨true, rfl, ?_⟩
      have hBx2 := hc2.blk hBx n1x
      obtain ⟨y0, y1, y2, y3⟩ := blk4 hBx2
      have hBw2 := hc2.blk hBw1 n1w
      have hBy2 := hc2.blk hBy1 n1y
      have n2x : ¬ S2 bx := fun h => (hS2 _ h).1.elim n1x (by omega)
      refine br_split (fun hd16 => ?_) (fun hd16 => ?_)
      · have hd16' : d ≤ 16 := by omega
        rw [if_pos hd16'] at heq
        refine dr_ok ⟨.func 75, ⟨[]⟩, ⟨[.pointer (some ⟨ty, 0, none⟩), .pointer (some ⟨tw, 0, none⟩)]⟩, by rw [hBw2.cell]; rfl, a', ps.len, c', y3, by kernel_rfl, ?_⟩
        rw [wrap_nat (by omega)]
        refine ih _ (hz ▸ hsz) ps rfl (S := S2) (d + 1) (xs' ++ [⟨k, t, mm, ps, d, b⟩]) (by unfold small; omega) (by omega) hNT (by omega) (fun j hj => (hcw2.block j (by have := hTl j hj; omega) (fun h => (hS j h).2 hj)).trans (hT j hj))
          (fun j hj => ⟨(hS2 j hj).2, fun ht => (hS2 j hj).1.elim (fun h => (hS1T j h).2 ht) (fun h => by have := hTl j ht; omega)⟩) hBy2 hBw2 (fun h => (hS2 _ h).1.elim n1y (by omega)) (fun h => (hS2 _ h).1.elim n1w (by omega)) ?_ hj2 (fun S3 w3 hc3 hS3 hj3 => ?_) (fun S3 w3 hc3 hS3 hjx => ?_)
        · refine List.IsPrefix.trans ?_ hpre
          rw [heq]
          exact ⟨placesF r d (decide (k = 1)), by simp⟩
        · refine ⟨true, rfl, ?_⟩
          have hBx3 := hc3.blk hBx2 n2x
          refine ⟨k, (blk4 hBx3).1, r.len, by simp, _, r, _, S3, e1, i1, rfl, chg_then hcw2 hc3 fun i hi hh => (hS2w i hh).1.elim id fun h => by omega, fun j hj => ⟨(hS3 j hj).1.elim (fun h => (hS2w j h).1) (fun h => .inr (by omega)), (hS3 j hj).2⟩, hj3, ?_⟩
          rw [heq]; simp
        · exact ⟨false, rfl, hstop S3 _ (chg_then hcw2 hc3 fun i hi hh => (hS2w i hh).1.elim id fun h => by omega) (fun j hj => ⟨(hS3 j hj).1.elim (fun h => (hS2w j h).1) (fun h => .inr (by omega)), (hS3 j hj).2⟩) hjx⟩
      · rw [if_neg (by omega)] at heq
        refine ⟨k, y0, r.len, by simp, _, r, _, S2, e1, i1, rfl, hcw2, hS2w, hj2, ?_⟩
        rw [heq]; simp
    · exact ⟨false, rfl, hstop S2 _ hcw2 hS2w hjx⟩
  · obtain ⟨rfl, rfl⟩ := Fo.last hpr (by omega)
    have e : xs' = pre ++ placesF p d false := by rw [heq]; simp [placesF]
    rw [e] at hjW
    exact hend S1 _ hcW hS1 hjW

theorem places_iterO {T : Nat → Prop} (f : Fo) (hs : small f) {a : Option Addr} {n c : Nat} (b : Nat) (w : World) (hTl : ∀ k, T k → k < w.heap.size) (hb : Blk w b [.slice a n c] 24) (hf : SlF T w a n f) (hbT : T b) :
    IterO Tryz.prog F_transcript_places_1 [.pointer (some ⟨b, 0, none⟩)] (placesF f 0 false) (PlE T w) T w := by
  intro yf ya yb S0 J Jx R hS hJ hJx hbody h0 hend hstop
  apply c_transcript_places_1
  refine al_intro fun ty w1 hty hBy e1 s1 => ?_
  refine al_intro fun tw w1' htw hBw' e2' s2' => ?_
  refine stL_one hBw' rfl fun w2 hBw hcc hss => ?_
  have e2 : Ext w1 w2 := ext_chgS e2' hcc fun k hk => by omega
  have E := ext_trans e1 e2
  refine ⟨.func 75, ⟨[]⟩, ⟨[.pointer (some ⟨ty, 0, none⟩), .pointer (some ⟨tw, 0, none⟩)]⟩, by rw [hBw.cell]; rfl, dr_ok ⟨a, n, c, by rw [((hb.ext e1).ext e2).cell]; rfl, by kernel_rfl, ?_⟩⟩
  have hz := E.size
  have hz1 := e1.size
  refine places_walkO (w0 := w) (xs := placesF f 0 false) hTl hJ hbody f (S := S0) 0 [] hs (by omega) hf hz (fun k hk => E.block k (hTl k hk)) (fun k hk => ⟨by have := (hS k hk).1; omega, (hS k hk).2⟩) (hBy.ext e2) hBw (fun h => by have := (hS _ h).1; omega) (fun h => by have := (hS _ h).1; omega) (List.prefix_refl _)
    (hJ _ _ _ _ h0 (Chg.of_ext E)) (fun S' W' hc hS' hj => ?_) (fun S' W' hc hS' hjx => ?_)
  · exact ⟨_, rfl, hend S' _ (Nat.le_trans hz hc.size) hj⟩
  · exact ⟨_, rfl, hstop S' _ (Nat.le_trans hz hc.size) hjx⟩

/- the characters -/
def charsP (l : List Pl) : List UInt8 := l.flatMap fun x => if x.k = 1 then x.t else []
def charsF : Fo → List UInt8
  | .nil => []
  | .cons k t _ ps r => (if k = 1 then t else []) ++ charsF ps ++ charsF r
theorem charsF_tlen : ∀ f : Fo, (charsF f).length ≤ tlen f
  | .nil => Nat.le_refl _
  | .cons k t n ps r => by
    have h1 := charsF_tlen ps
    have h2 := charsF_tlen r
    simp only [charsF, List.length_append, tlen]
    split <;> simp <;> omega
theorem charsP_snoc (l : List Pl) (x : Pl) : charsP (l ++ [x]) = charsP l ++ if x.k = 1 then x.t else [] := by simp [charsP]
theorem chars_places : ∀ (f : Fo) (d : Nat) (b : Bool), f.depth + d ≤ 16 → charsP (placesF f d b) = charsF f
  | .nil, _, _, _ => rfl
  | .cons k t n ps r, d, b, h => by
    rw [Fo.depth_parts] at h
    have i2 := chars_places r d (decide (k = 1)) (by omega)
    simp only [placesF, charsF]
    rw [if_pos (by omega)]
    unfold charsP at i2 ⊢
    simp only [List.flatMap_cons, List.flatMap_append, i2, List.append_assoc]
    congr 2
    by_cases hp : ps.len = 0
    · have e' := Fo.eq_nil_of_len hp
      subst e'
      rfl
    · rw [if_neg hp] at h
      exact chars_places ps (d + 1) false (by omega)
theorem blk6 {w : World} {b : Nat} {v0 v1 v2 v3 v4 v5 : Value} {T : TypeId} (h : Blk w b [v0, v1, v2, v3, v4, v5] T) :
    w.cell? ((⟨b, 0, none⟩ : Addr).add 0 |>.add 0) = some v0 ∧ w.cell? ((⟨b, 0, none⟩ : Addr).add 0 |>.add 1) = some v1 := by
  simp only [add_none, h.cell]; exact ⟨rfl, rfl⟩
theorem charsP_prefix {pre : List Pl} {x : Pl} {l : List Pl} (h : pre ++ [x] <+: l) : (charsP pre).length + (if x.k = 1 then x.t else []).length ≤ (charsP l).length := by
  obtain ⟨t, rfl⟩ := h
  simp only [charsP, List.flatMap_append, List.length_append, List.flatMap_cons, List.flatMap_nil, List.append_nil]
  omega

theorem String_spec' {R : Ending → World → Prop} {w : World} {b : Nat} {a : Option Addr} {l : List UInt8} (h : BldAt w b a l) (hk : ∀ w', Below b w w' → Lib.OthersKept 5 (some b) w w' → R (.returned (.string ⟨⟨l⟩⟩)) w') : Calls Tryz.prog F_strings_Builder_String ⟨[.pointer (some ⟨b, 0, none⟩)]⟩ w R := by
  refine (Tryz.Builder_String_any_k b b l w (Lib.IsBuilderF.of h.isB) (by have := h.lt; omega)).mono ?_
  rintro e w' ⟨rfl, _, hb, ho⟩
  exact hk w' hb ho
set_option maxRecDepth 20000 in
theorem Characters_spec {R : Ending → World → Prop} {S : Nat → Prop} {w : World} {a : Option Addr} {n c : Nat} (f : Fo) (hs : small f) (hF : Forms w) (hf0 : SlF S w a n f)
    (h : ∀ w', Ext w w' → R (.returned (.tuple ⟨[.string ⟨⟨if checkT f ≠ 0 then [] else charsF f⟩⟩, .int .i64 (if checkT f ≠ 0 then 1 else 0)]⟩)) w') :
    Calls Tryz.prog F_transcript_Characters ⟨[.slice a n c]⟩ w R := by
  apply c_transcript_Characters
  refine Check22_spec f hs hf0 hF fun w1 e1 => ⟨_, rfl, br_split (fun g => ?_) (fun g => ?_)⟩
  · rw [if_pos g, if_pos g] at h; exact h _ e1
  rw [if_neg g, if_neg g] at h
  have hc0 : checkT f = 0 := Decidable.not_not.1 g
  obtain ⟨q1, q2, q3⟩ := check_zero hc0
  have hdep : f.depth ≤ 16 := by
    unfold checkT at hc0
    split at hc0
    · rename_i hh; exact hh.2
    · cases hc0
  have hch := chars_places f 0 false (by omega)
  have hcl := charsF_tlen f
  refine al_intro fun b5 w2 hb5 B5 e2 s2 => ?_
  have E2 := ext_trans e1 e2
  have z1 := e1.size
  refine places_spec fun bs w4 Bs e4 hbs => ⟨_, _, _, rfl, fun base => ?_⟩
  have E4 := ext_trans E2 e4
  have z4 := E4.size
  have z24 := e4.size
  have ls := Bs.lt
  have hf : SlF (fun k => S k ∧ k < w.heap.size) w a n f := hf0.imp fun k hk hl => ⟨hk, hl⟩
  have hbld : BldAt w4 b5 none [] := ⟨.pointer none, 0, B5.ext e4, .inl rfl, Owns.nil _ _ _ _⟩
  rw [cd_transcript_Characters_1]
  refine RFw_lawO anA_transcript_Characters_1 anB_transcript_Characters_1 (gf := F_transcript_places_1) rfl (by kernel_rfl) (xs := placesF f 0 false) (E := PlE (fun k => (S k ∧ k < w.heap.size) ∨ k = bs) w4) (Rd := fun k => (S k ∧ k < w.heap.size) ∨ k = bs)
    (fun v1 he => (places_iterO f hs bs v1 (fun k hk => by have := he.size; omega) (Bs.ext he) ((hf.ext (ext_trans E4 he)).imp fun k hk _ => .inl hk) (.inr rfl)).mono ?_) (fun y vs hE => by obtain ⟨a', c', rfl, _⟩ := hE; rfl) (by decide) (fun k hk => by omega) (fun k => k = b5) (fun k hk => by omega)
    (fun pre S1 W => ∃ bo : Option Addr, BldAt W b5 bo (charsP pre) ∧ (∀ k, S1 k ↔ k = b5 ∨ bk bo k) ∧ Ext w W ∧ (∀ k, bk bo k → w4.heap.size ≤ k)) (fun _ _ => False) (fun _ _ => False)
    ?_ (fun _ _ _ h => h.elim) (fun _ _ _ h => h.elim) ⟨none, hbld, fun k => by simp [bk], E4, fun k hk => by simp [bk] at hk⟩ ?_ ?_ (fun _ _ _ _ _ _ _ h => h.elim) (fun _ _ _ _ _ _ _ h => h.elim)
  · rintro x vs ⟨a', c', rfl, hsl⟩
    exact ⟨a', c', rfl, hsl.keep' fun k hk hl => ⟨hk, by omega, ((he.block k (by omega))).symm⟩⟩
  · rintro pre S1 W W' ⟨bo, g1, g2, g3, g4⟩ hc
    exact ⟨bo, g1.chg hc (fun hh => hh.2 ((g2 _).2 (.inl rfl))) (fun k hk hh => hh.2 ((g2 k).2 (.inr hk))), g2, ext_chgS g3 hc (fun k hk => by omega), g4⟩
  · rintro pre ⟨k1, t1, m1, ps1, d1, x1⟩ vs S1 W l ⟨a', c', rfl, hsl⟩ hpre hl1 hl2 hl3 hS1 ⟨bo, g1, g2, g3, g4⟩
    refine Eq.mpr (er_transcript_Characters_1 base _ _ _ _ _ _ _ _ _ _ _ _ _ _ _ _ _ _ _) ?_
    refine al_stL (by simp) (by intro u hu; simp only [List.mem_cons, List.not_mem_nil, or_false] at hu; rcases hu with rfl | rfl | rfl | rfl | rfl | rfl <;> rfl) fun bx W1 hbx hBx ex sx => ?_
    refine ⟨ex, fun W2 hU => ?_⟩
    have zx := ex.size
    have zU := hU.size
    have hX2 := upd_blk hU hBx (by omega)
    obtain ⟨x0, x1'⟩ := blk6 hX2
    have hUc : Chg (fun k => k = l) W1 W2 := ⟨hU.os, hU.tape, hU.output, by omega, fun k _ hk => hU.block k hk⟩
    have hWc : Chg (fun k => k = l) W W2 := (Chg.of_ext ex).trans hUc
    have nl : ∀ k, S1 k → k ≠ l := fun k hk he => hl3 (he ▸ hk)
    have h1 := g1.chg hWc (nl _ ((g2 _).2 (.inl rfl))) (fun k hk => nl _ ((g2 k).2 (.inr hk)))
    have E2' : Ext w W2 := ext_chgS g3 hWc fun k hk => by omega
    have hlen := charsP_prefix hpre
    rw [hch] at hlen
    refine ⟨k1, x0, br_split (fun q => ?_) (fun q => ?_)⟩
    · replace hlen : (charsP pre).length + t1.length ≤ (charsF f).length := by simpa [show k1 = 1 from q] using hlen
      refine ⟨t1, x1', WriteString_spec h1 (by omega) fun a'' w'' hb'' hk'' hc'' => ⟨_, _, rfl, ?_⟩⟩
      have z'' := hc''.size
      have hSS : ∀ k, (k = b5 ∨ bk a'' k) → (S1 k ∨ W.heap.size ≤ k) ∧ k < w''.heap.size := fun k hk => by
        rcases hk with rfl | hk
        · exact ⟨.inl ((g2 _).2 (.inl rfl)), hb''.lt⟩
        · exact ⟨(hk'' k hk).elim (fun h => .inl ((g2 k).2 (.inr h))) (fun h => .inr (by omega)), (hb''.bk hk).2⟩
      refine ⟨hc''.mono fun k _ hk => .inl ((g2 k).2 hk), fun k => k = b5 ∨ bk a'' k, hSS, a'', ?_, fun k => Iff.rfl, ext_chgS E2' hc'' fun k hk => hk.elim (fun h => by omega) (fun h => by have := g4 k h; omega), fun k hk => (hk'' k hk).elim (g4 k) (fun h => by omega)⟩
      rw [charsP_snoc, if_pos q]; exact hb''
    · refine ⟨Chg.refl _ _, S1, fun k hk => ⟨.inl hk, by have := (hS1 k hk).1; omega⟩, bo, ?_, g2, E2', g4⟩
      rw [charsP_snoc, if_neg q, List.append_nil]; exact h1
  · rintro D S1 W hD1 hD2 hD3 hD4 ⟨bo, g1, g2, g3, g4⟩
    rw [hch] at g1
    have hDb : some D ≠ some b5 := fun e => by have e' := Option.some.inj e; omega
    refine String_spec' g1 fun w5 hbel hok => ⟨_, rfl, retD_one (D := D) (hok D _ hD4 hDb (fun _ _ e => by cases e)) ?_⟩
    have Ew : Ext w w5 := g3.trans (hbel.mono (by omega))
    exact h _ (ext_put Ew (by omega) _)
end Go.Proofs
namespace Go.Proofs
open Go Go.Sh Go.RowKit

theorem char_chars : ∀ g : Fo, charT g = charsF g
  | .nil => rfl
  | .cons k t n ps r => by rw [charT, charsF, char_chars ps, char_chars r]
/- parsing -/
def parseF (s : List UInt8) : Fo × Int :=
  if (scanF s).2 ≠ 0 then (.nil, (scanF s).2)
  else if nestX (scanF s).1 ≠ 0 then (.nil, nestX (scanF s).1)
  else if checkT (treeT ((scanF s).1.map tkX)) ≠ 0 then (.nil, checkT (treeT ((scanF s).1.map tkX)))
  else (treeT ((scanF s).1.map tkX), 0)
theorem check_inv {g : Fo} (h : checkT g = 0) : g.size ≤ 4096 ∧ g.depth ≤ 16 ∧ allF g false false = 0 ∧ (printF g).length ≤ 65536 := by
  unfold checkT at h
  split at h
  · rename_i h1
    split at h
    · rename_i h2; exact absurd h h2
    rename_i h2
    split at h
    · cases h
    · rename_i h3
      exact ⟨h1.1, h1.2, Classical.not_not.1 h2, by omega⟩
  · cases h
theorem check_mk {g : Fo} (h1 : g.size ≤ 4096) (h2 : g.depth ≤ 16) (h3 : allF g false false = 0) (h4 : (printF g).length ≤ 65536) : checkT g = 0 := by
  unfold checkT
  rw [if_pos ⟨h1, h2⟩, if_neg (fun hh => hh h3), if_neg (by omega)]
theorem parse_back {g : Fo} (h : checkT g = 0) : parseF (printF g) = (g, 0) := by
  obtain ⟨_, h2, h3, h4⟩ := check_inv h
  obtain ⟨_, b2, b3⟩ := back_print h3 h2 h4
  have ht : treeT ((posL (tksF g) 0).map tkX) = g := by rw [pos_tk]; exact tree_tks (valid_shape h3)
  unfold parseF
  rw [b3]
  show (if (0 : Int) ≠ 0 then _ else if nestX (posL (tksF g) 0) ≠ 0 then _ else if checkT (treeT ((posL (tksF g) 0).map tkX)) ≠ 0 then _ else _) = _
  rw [if_neg (fun hh => hh rfl), if_neg (fun hh => hh b2), ht, if_neg (fun hh => hh h)]
theorem parse_inv2 {s : List UInt8} {g : Fo} (h : parseF s = (g, 0)) : (scanF s).2 = 0 ∧ nestX (scanF s).1 = 0 ∧ checkT g = 0 ∧ treeT ((scanF s).1.map tkX) = g := by
  unfold parseF at h
  split at h
  · rename_i h1; exact absurd (Prod.mk.inj h).2 h1
  rename_i h1
  split at h
  · rename_i h2; exact absurd (Prod.mk.inj h).2 h2
  rename_i h2
  split at h
  · rename_i h3; exact absurd (Prod.mk.inj h).2 h3
  rename_i h3
  have e := (Prod.mk.inj h).1
  exact ⟨Classical.not_not.1 h1, Classical.not_not.1 h2, by rw [← e]; exact Classical.not_not.1 h3, e⟩
theorem parse_err {s : List UInt8} (h : (parseF s).2 ≠ 0) : (parseF s).1 = .nil := by
  unfold parseF at h ⊢
  split
  · rfl
  · split
    · rfl
    · split
      · rfl
      · rename_i h1 h2 h3
        rw [if_neg h1, if_neg h2, if_neg h3] at h
        exact absurd rfl h
theorem print_parse {s : List UInt8} {g : Fo} (h : parseF s = (g, 0)) : printF g = s := by
  obtain ⟨h1, h2, h3, h4⟩ := parse_inv2 h
  obtain ⟨t1, t2⟩ := tree_inv h2
  rw [h4] at t1 t2
  have hsc : scanF s = ((scanF s).1, 0) := by rw [← h1]
  obtain ⟨_, hp⟩ := scan_print hsc
  rw [← tks_print (check_inv h3).2.2.1, t2, ← print_tk, hp]
theorem parse_lex {s : List UInt8} {g : Fo} (h : parseF s = (g, 0)) : stripX (scanF s).1 = charT g ∧ wantT ((scanF s).1.map tkX) = g.size := by
  obtain ⟨h1, h2, h3, h4⟩ := parse_inv2 h
  obtain ⟨t1, t2⟩ := tree_inv h2
  rw [h4] at t1 t2
  rw [strip_tk, ← t2]
  exact ⟨strip_tks t1, want_tks t1⟩
end Go.Proofs
namespace Go.Proofs
open Go Go.Sh Go.RowKit

variable {R : Ending → World → Prop} {w : World}
theorem idx_at {a : Option Addr} {g n i : Nat} (ha : a = some ⟨g, 0, none⟩) (hi : i < n) {K : Addr → Prop} (hK : K ⟨g, i * 4, none⟩) : idx a n (i : Int) 4 K := by
  subst ha
  refine ⟨by omega, by omega, ?_⟩
  show K _
  rw [add_none, Int.toNat_natCast, Nat.zero_add]; exact hK
/- the open nodes while parsing -/
abbrev init0 : List Fr := [⟨⟨0, [], 0⟩, .nil⟩]
theorem step_ne {st : List Fr} (h : st ≠ []) (x : Tk) : stepP st x ≠ [] := by
  cases st with
  | nil => exact absurd rfl h
  | cons f r =>
    unfold stepP
    split
    · simp
    · split
      · cases r with
        | nil => simp
        | cons f1 r => simp
      · simp
theorem step_len {st : List Fr} {x : Tk} {k : Nat} (h1 : st.length ≤ k) (h2 : ∀ f ∈ st, f.f.len ≤ k) : (stepP st x).length ≤ k + 1 ∧ ∀ f ∈ stepP st x, f.f.len ≤ k + 1 := by
  have hw : ∀ f ∈ st, f.f.len ≤ k + 1 := fun f hf => by have := h2 f hf; omega
  have hadd : ∀ (f : Fr) (h : Hd) (ps : Fo), f.f.len ≤ k → (f.add h ps).f.len ≤ k + 1 := fun f h ps hf => by unfold Fr.add; simp [Fo.one]; omega
  unfold stepP
  split
  · refine ⟨by rw [List.length_cons]; omega, fun f hf => ?_⟩
    rcases List.mem_cons.1 hf with rfl | hf
    · simp
    · exact hw f hf
  · split
    · cases st with
      | nil => exact ⟨by simp, fun f hf => by cases hf⟩
      | cons f2 st =>
        cases st with
        | nil => exact ⟨(show [f2].length ≤ k + 1 by omega), hw⟩
        | cons f1 r =>
          simp only [List.length_cons] at h1
          refine ⟨by rw [List.length_cons]; omega, fun f hf => ?_⟩
          rcases List.mem_cons.1 hf with rfl | hf
          · exact hadd _ _ _ (h2 f1 (by simp))
          · exact hw f (by simp [hf])
    · cases st with
      | nil => exact ⟨by simp, fun f hf => by cases hf⟩
      | cons f1 r =>
        simp only [List.length_cons] at h1
        refine ⟨by rw [List.length_cons]; omega, fun f hf => ?_⟩
        rcases List.mem_cons.1 hf with rfl | hf
        · exact hadd _ _ _ (h2 f1 (by simp))
        · exact hw f (by simp [hf])
theorem st_init {B b : Nat} (hb : Blk w b (cellsH ⟨0, [], 0⟩ none 0 0) 35) (hB : B ≤ b) : StAt 35 B w (some ⟨b, 0, none⟩) 1 1 init0 (fun _ => False) := by
  refine ⟨rfl, _, ⟨rfl, .inr ⟨b, 1, ⟨cellsH ⟨0, [], 0⟩ none 0 0⟩, rfl, hB, hb, Nat.le_refl _, by simp [maxLen], rfl, rfl⟩⟩, ⟨none, 0, fun _ => False, fun _ => False, [], rfl, OwnG.nil w, ⟨rfl, fun _ h => h⟩, fun k => by simp, fun k h => h.elim⟩, fun k h => h.elim⟩
theorem st_cap {e : TypeId} {B : Nat} {a : Option Addr} {n c : Nat} {st : List Fr} {O : Nat → Prop} (h : StAt e B w a n c st O) : n ≤ c := by
  obtain ⟨_, xs, h1, _⟩ := h
  exact owns_le h1
/- the default of parsing: one more node in the innermost list -/
theorem app_def {B : Nat} {oa : Option Addr} {on oc : Nat} {f : Fr} {r : List Fr} {O : Nat → Prop} {W : World} (hS : StAt 35 B W oa on oc (f :: r) O) (hB : B ≤ W.heap.size) {g : Nat} (hg : oa = some ⟨g, 0, none⟩) {pa : Option Addr} {pc : Nat} (hc : W.cell? ⟨g, r.length * 4 + 3, none⟩ = some (.slice pa f.f.len pc))
    {bz : Nat} (hz : Blk W bz (cellsH ⟨0, [], 0⟩ none 0 0) 35) (hd : Hd) (hl : f.f.len ≤ 1000000) {Fin : World → Prop}
    (hF : ∀ w' O', StAt 35 B w' oa on oc (f.add hd .nil :: r) O' → Chg (fun k => Sh.bk oa k ∨ O k) W w' → Fin w') {i : Int} (hi : i = (r.length : Int)) :
    app Tryz.prog [24, 24] 24 (.slice pa f.f.len pc) (.slice (some ⟨bz, 0, none⟩) 1 1) W fun a1 n1 c1 w2 => idx a1 n1 (f.f.len : Int) 4 fun p5 => idx oa on i 4 fun p6 =>
      (stL w2 p5 0 (cellsH hd none 0 0) fun w7 => (stL w7 (p6.add 3) 0 [.slice a1 n1 c1] Fin) ∧ True) ∧
      (stL w2 (p6.add 3) 0 [.slice a1 n1 c1] fun w7 => (stL w7 p5 0 (cellsH hd none 0 0) Fin) ∧ True) ∧ True := by
  subst hi
  have hn : on = r.length + 1 := hS.1
  refine StAt.grow slT_node hS hB hz rfl one4n (hd := hd) (ps := .nil) (a' := none) (c' := 0) (O2 := fun _ => False) (SlF.nil none) (fun k h => h.elim) (by omega) (by omega) hg hc fun a1 c1 w2 q hq ord => hq _ (idx_at hg (by omega) ?_)
  obtain ⟨o1, o2, _⟩ := ord Fin fun w' O' s1 s2 s3 => hF w' O' s1 s2
  rw [add_none]
  exact ⟨o1, o2, trivial⟩
set_option maxRecDepth 40000 in
theorem Parse_spec (s : List UInt8) (hF : Forms w) (hM : Mk w)
    (h : ∀ a n c w', n = (parseF s).1.len → SlF (fun _ => True) w' a n (parseF s).1 → Ext w w' → R (.returned (.tuple ⟨[.slice a n c, .int .i64 (parseF s).2]⟩)) w') : Calls Tryz.prog F_transcript_Parse ⟨[.string ⟨⟨s⟩⟩]⟩ w R := by
  apply c_transcript_Parse
  obtain ⟨hT, hll⟩ := scan_small s
  refine Scan_spec s hM fun a n c w3 hn hO e3 => ⟨_, _, _, _, rfl, ?_⟩
  have hL := OwnL.out hO
  refine br_split (fun g => ?_) (fun g => ?_)
  · have hp : parseF s = (.nil, (scanF s).2) := by unfold parseF; rw [if_pos g]
    rw [hp] at h
    exact h none 0 0 w3 rfl (SlF.nil _) e3
  refine Nested_spec (scanF s).1 hL hT (hM.ext e3) fun w7 e7 => ⟨_, rfl, ?_⟩
  have E7 := ext_trans e3 e7
  have hL7 := hL.ext e7
  refine br_split (fun g1 => ?_) (fun g1 => ?_)
  · have hp : parseF s = (.nil, nestX (scanF s).1) := by unfold parseF; rw [if_neg g, if_pos g1]
    rw [hp] at h
    exact h none 0 0 w7 rfl (SlF.nil _) E7
  have hne : nestX (scanF s).1 = 0 := Classical.not_not.1 g1
  have hp : parseF s = if checkT (treeT ((scanF s).1.map tkX)) ≠ 0 then (.nil, checkT (treeT ((scanF s).1.map tkX))) else (treeT ((scanF s).1.map tkX), 0) := by unfold parseF; rw [if_neg g, if_neg g1]
  have hck : chkX (scanF s).1 = 0 := by
    unfold nestX at hne
    split at hne
    · cases hne
    · rename_i hc; exact Classical.not_not.1 hc
  have htk := chkGo_tk hck
  obtain ⟨t1, t2⟩ := tree_inv hne
  obtain ⟨fr, u1, u2, u3⟩ := parse_inv (scanF s).1 init0 trivial htk (by
    unfold nestX at hne
    rw [if_neg (by rw [hck]; simp)] at hne
    exact hne)
  have htree : treeT ((scanF s).1.map tkX) = fr.f := by unfold treeT; rw [u1]
  have hsz : fr.f.size ≤ 65536 := by
    rw [htree] at t1 t2
    rw [← want_tks t1, t2]
    have : wantT ((scanF s).1.map tkX) ≤ ((scanF s).1.map tkX).length := List.length_filter_le _ _
    rw [List.length_map] at this; omega
  rw [hp, htree] at h
  generalize hLL : (scanF s).1 = L at *
  refine al_intro fun b9 w10 hb9 B9 e10 s10 => ?_
  have z10 := e10.size
  refine ⟨fun oa on oc t W m => ∃ (k : Nat) (st : List Fr) (O : Nat → Prop), t = k ∧ k ≤ n ∧ m = n - k ∧ st = ((L.map tkX).take k).foldl stepP init0 ∧ st ≠ [] ∧ st.length ≤ k + 1 ∧ (∀ f ∈ st, f.f.len ≤ k + 1) ∧ StAt 35 w7.heap.size W oa on oc st O ∧ Ext w7 W, ⟨_, 0, init0, _, rfl, by omega, rfl, rfl, by simp, by simp, fun f hf => by rw [List.mem_singleton.1 hf]; simp, st_init B9 (by omega), e10⟩, ?_⟩
  rintro oa on oc _ W m ⟨k, st, O, rfl, hk, rfl, hst, hne0, hsl, hfl, hS, he⟩ _
  have zW := he.size
  refine br_split (fun hlt => ?_) (fun hge => ?_)
  · have hkL : k < L.length := by omega
    obtain ⟨q, hq, c0, c1, c2, c3⟩ := get_lx (hL7.ext he) hkL
    have hx := totX_get hkL
    have htx := htk L[k] (List.getElem_mem hkL)
    have hstep : ((L.map tkX).take (k + 1)).foldl stepP init0 = stepP st (tkX L[k]) := by
      rw [List.take_succ_eq_append_getElem (by rw [List.length_map]; exact hkL), List.foldl_append, ← hst]
      simp
    have hls := step_len (x := tkX L[k]) hsl hfl
    have hne' := step_ne hne0 (tkX L[k])
    have next : ∀ oa' on' oc' O' v, StAt 35 w7.heap.size v oa' on' oc' (stepP st (tkX L[k])) O' → Ext w7 v → ∃ m40 : Nat, m40 < n - k ∧ ∃ (k' : Nat) (st : List Fr) (O : Nat → Prop), IntKind.i64.wrap ((k : Int) + 1) = k' ∧ k' ≤ n ∧ m40 = n - k' ∧ st = ((L.map tkX).take k').foldl stepP init0 ∧ st ≠ [] ∧ st.length ≤ k' + 1 ∧ (∀ f ∈ st, f.f.len ≤ k' + 1) ∧ StAt 35 w7.heap.size v oa' on' oc' st O ∧ Ext w7 v := by
      intro oa' on' oc' O' v h1 h2
      exact ⟨n - (k + 1), by omega, k + 1, _, O', by rw [wrap_nat (by omega)], by omega, rfl, hstep.symm, hne', hls.1, hls.2, h1, h2⟩
    refine hq _ ⟨_, c0, _, c1, _, c2, _, c3, ?_⟩
    refine al_stL rfl one4 fun b22 w24 hb22 B22 e24 s24 => ?_
    obtain ⟨d0, d1, d2, d3⟩ := blk4x (x := L[k]) B22
    have E24 := ext_trans he e24
    have S24 := hS.ext e24
    have EW : ∀ v, Ext w24 v → Ext w v := fun v ev => ext_trans E7 (ext_trans E24 ev)
    have FW : ∀ v, Ext w24 v → Forms v := fun v ev => hF.ext (EW v ev)
    have MW : ∀ v, Ext w24 v → Mk v := fun v ev => hM.ext (EW v ev)
    have z24 := e24.size
    generalize hxk : L[k] = x at *
    refine ⟨_, d0, br_split (fun g2 => ?_) (fun g2 => br_split (fun g3 => ?_) (fun g3 => ?_))⟩
    · -- an opening tag
      have hs2 : stepP st (tkX x) = ⟨headF (tkX x), .nil⟩ :: st := by unfold stepP; rw [if_pos (show (tkX x).k = 2 from g2)]
      rw [hs2] at next
      refine ⟨_, d0, _, d1, _, d2, _, d3, ?_⟩
      refine nodeT_spec x htx (by omega) (by omega) (FW _ (Below.refl _ _)) (MW _ (Below.refl _ _)) fun w31 e31 => ⟨_, _, _, _, _, _, rfl, ?_⟩
      have z31 := e31.size
      have hon : on = st.length := hS.1
      refine StAt.push slT_node (S24.ext e31) (by omega) (headF (tkX x)) (by omega) (by omega) fun a' c' w' o1 o2 => ?_
      exact next _ _ _ _ _ o1 (ext_chgS (ext_trans E24 e31) o2 fun j hj => (hS.bk hj).1)
    · -- a closing tag
      cases st with
      | nil => exact absurd rfl hne0
      | cons f2 st' =>
        cases st' with
        | nil =>
          have hon : on = 1 := hS.1
          have hs2 : stepP [f2] (tkX x) = [f2] := by unfold stepP; rw [if_neg (show ¬ (tkX x).k = 2 from g2), if_pos (show (tkX x).k = 3 from g3)]
          rw [hs2] at next
          rw [hon, show ((1 : Nat) : Int) - 1 = ((0 : Nat) : Int) by omega, wrap_id (by omega)]
          refine br_split (fun hh => absurd hh (by omega)) (fun _ => ?_)
          exact next oa 1 oc O w24 (hon ▸ S24) E24
        | cons f1 r =>
          have hon : on = r.length + 2 := hS.1
          have hs2 : stepP (f2 :: f1 :: r) (tkX x) = f1.add f2.h f2.f :: r := by unfold stepP; rw [if_neg (show ¬ (tkX x).k = 2 from g2), if_pos (show (tkX x).k = 3 from g3)]
          rw [hs2] at next
          have hfl1 := hfl f1 (by simp)
          have hfl2 := hfl f2 (by simp)
          simp only [List.length_cons] at hsl
          have i1 : IntKind.i64.wrap ((on : Int) - 1) = ((r.length + 1 : Nat) : Int) := by rw [wrap_id (by omega)]; omega
          have i2 : IntKind.i64.wrap (((r.length + 1 : Nat) : Int) - 1) = (r.length : Int) := by rw [wrap_id (by omega)]; omega
          rw [i1, i2]
          refine br_split (fun _ => ?_) (fun hh => absurd (by omega) hh)
          intro K41 hK41
          have k41 : ∀ (b : Bool) (v : World), Ext w24 v → K41 b v := by
            intro b v ev
            refine hK41 _ _ fun _ => ?_
            have Sd := (S24.ext ev).ext (ext_drew v)
            have Ed := ext_trans (ext_trans E24 ev) (ext_drew v)
            have zd := Ed.size
            have hcap := st_cap Sd
            obtain ⟨p2, q2, O1, O', S1, hsl2, hd1, hs1, hs1', g, hg, x0, x1, x2, x3⟩ := Sd.pop
            obtain ⟨g', pa, pc, _, hg', _, _, _, _, y3, _, _⟩ := S1.top
            obtain rfl : g' = g := by rw [hg] at hg'; simpa using hg'.symm
            simp only [List.length_cons] at x0 x1 x2 x3
            have fin : ∀ w' O'', StAt 35 w7.heap.size w' oa (f1 :: r).length oc (f1.add f2.h f2.f :: r) O'' → Ext w7 w' → sls oa oc 0 ((r.length + 1 : Nat) : Int) 4 fun a60 a60n a60c => ∃ m40 : Nat, m40 < n - k ∧ ∃ (k' : Nat) (st : List Fr) (O : Nat → Prop), IntKind.i64.wrap ((k : Int) + 1) = k' ∧ k' ≤ n ∧ m40 = n - k' ∧ st = ((L.map tkX).take k').foldl stepP init0 ∧ st ≠ [] ∧ st.length ≤ k' + 1 ∧ (∀ f ∈ st, f.f.len ≤ k' + 1) ∧ StAt 35 w7.heap.size w' a60 a60n a60c st O ∧ Ext w7 w' := by
              intro w' O'' h1 h2
              refine sls_cut (by omega) (fun p hp => by rw [hg] at hp; rw [← Option.some.inj hp]; rfl) ?_
              exact next oa (r.length + 1) oc O'' w' h1 h2
            have ex : ∀ {W' w' : World}, Ext w7 W' → Chg (fun k => Sh.bk oa k ∨ O' k) W' w' → Ext w7 w' := fun {W' w'} h1 h2 => ext_chgS h1 h2 fun j hj => hj.elim (fun hb => (Sd.bk hb).1) (fun ho => (S1.own ho).1)
            unfold drw
            cases b with
            | true =>
              rw [br_t]
              refine idx_at hg (by omega) ⟨_, _, _, by rw [add_none]; exact y3, idx_at hg (i := r.length + 1) (by omega) ⟨_, by rw [add_none, Nat.add_zero]; exact x0, _, by rw [add_none]; exact x1, _, by rw [add_none]; exact x2, _, _, _, by rw [add_none]; exact x3, ⟨?_, trivial⟩⟩⟩
              refine al_intro fun bz W' hbz Bz ez sz => ⟨?_, trivial⟩
              refine StAt.grow slT_node (S1.ext ez) (by omega) Bz rfl one4n (hd := f2.h) (ps := f2.f) (a' := p2) (c' := q2) (O2 := O1) (hsl2.ext ez) (fun j hj => ⟨⟨(hd1 j hj).1.1, by have := (hd1 j hj).1.2; omega⟩, (hd1 j hj).2⟩) (by omega) (by omega) hg (by rw [← y3]; exact cell_ext y3 ez ▸ y3.symm ▸ rfl) fun a1 c1 w2 qq hqq ord => ?_
              refine idx_at hg (by omega) ⟨?_, trivial⟩
              rw [add_none]
              exact (ord _ fun w' O'' s1 s2 s3 => fin w' O'' s1 (ex (ext_trans Ed ez) s2)).2.2.1
            | false =>
              rw [br_f]
              refine idx_at hg (by omega) ⟨_, _, _, by rw [add_none]; exact y3, idx_at hg (i := r.length + 1) (by omega) ⟨_, by rw [add_none, Nat.add_zero]; exact x0, _, by rw [add_none]; exact x1, _, by rw [add_none]; exact x2, _, _, _, by rw [add_none]; exact x3, ⟨?_, trivial⟩⟩⟩
              refine al_intro fun bz W' hbz Bz ez sz => ⟨?_, trivial⟩
              refine StAt.grow slT_node (S1.ext ez) (by omega) Bz rfl one4n (hd := f2.h) (ps := f2.f) (a' := p2) (c' := q2) (O2 := O1) (hsl2.ext ez) (fun j hj => ⟨⟨(hd1 j hj).1.1, by have := (hd1 j hj).1.2; omega⟩, (hd1 j hj).2⟩) (by omega) (by omega) hg (cell_ext y3 ez) fun a1 c1 w2 qq hqq ord => ?_
              refine idx_at hg (by omega) ⟨?_, trivial⟩
              rw [add_none]
              exact (ord _ fun w' O'' s1 s2 s3 => fin w' O'' s1 (ex (ext_trans Ed ez) s2)).2.2.2 rfl
          unfold drw
          have ed := ext_drew w24
          refine ⟨al_intro fun b79 w80 hb79 B79 e80 s80 => ⟨?_, ?_, trivial⟩, trivial⟩
          · refine stL_one B79 rfl fun w81 B81 c81 s81 => ⟨stL_one B81 rfl fun w82 B82 c82 s82 => ⟨_, by rw [B82.cell]; rfl, ?_⟩, trivial⟩
            exact k41 _ _ (ext_two (ext_two (ext_trans ed e80) c81 (by have := ed.size; omega)) c82 (by have := ed.size; omega))
          · refine stL_one B79 rfl fun w81 B81 c81 s81 => ⟨stL_one B81 rfl fun w82 B82 c82 s82 => ⟨_, by rw [B82.cell]; rfl, ?_⟩, trivial⟩
            exact k41 _ _ (ext_two (ext_two (ext_trans ed e80) c81 (by have := ed.size; omega)) c82 (by have := ed.size; omega))
    · -- characters, or an empty tag
      cases st with
      | nil => exact absurd rfl hne0
      | cons f r =>
        have hon : on = r.length + 1 := hS.1
        have hs2 : stepP (f :: r) (tkX x) = f.add (headF (tkX x)) .nil :: r := by unfold stepP; rw [if_neg (show ¬ (tkX x).k = 2 from g2), if_neg (show ¬ (tkX x).k = 3 from g3)]
        rw [hs2] at next
        have hfl1 := hfl f (by simp)
        simp only [List.length_cons] at hsl
        have i1 : IntKind.i64.wrap ((on : Int) - 1) = (r.length : Int) := by rw [wrap_id (by omega)]; omega
        rw [i1]
        unfold drw
        have ed := ext_drew w24
        have Sd := S24.ext ed
        have Ed := ext_trans E24 ed
        have zd := Ed.size
        obtain ⟨g, pa, pc, _, hg, _, _, _, _, y3, _, _⟩ := Sd.top
        have y3' : w24.drew.cell? ((⟨g, r.length * 4, none⟩ : Addr).add 3) = some (.slice pa f.f.len pc) := by rw [add_none]; exact y3
        have ap : ∀ (W' : World) (bz : Nat), Ext w24.drew W' → Blk W' bz (cellsH ⟨0, [], 0⟩ none 0 0) 35 → app Tryz.prog [24, 24] 24 (.slice pa f.f.len pc) (.slice (some ⟨bz, 0, none⟩) 1 1) W' fun a1 n1 c1 w2 => idx a1 n1 (f.f.len : Int) 4 fun p5 => idx oa on (r.length : Int) 4 fun p6 =>
            (stL w2 p5 0 (cellsH (headF (tkX x)) none 0 0) fun w7' => (stL w7' (p6.add 3) 0 [.slice a1 n1 c1] fun v => ∃ m40 : Nat, m40 < n - k ∧ ∃ (k' : Nat) (st : List Fr) (O : Nat → Prop), IntKind.i64.wrap ((k : Int) + 1) = k' ∧ k' ≤ n ∧ m40 = n - k' ∧ st = ((L.map tkX).take k').foldl stepP init0 ∧ st ≠ [] ∧ st.length ≤ k' + 1 ∧ (∀ f ∈ st, f.f.len ≤ k' + 1) ∧ StAt 35 w7.heap.size v oa on oc st O ∧ Ext w7 v) ∧ True) ∧
            (stL w2 (p6.add 3) 0 [.slice a1 n1 c1] fun w7' => (stL w7' p5 0 (cellsH (headF (tkX x)) none 0 0) fun v => ∃ m40 : Nat, m40 < n - k ∧ ∃ (k' : Nat) (st : List Fr) (O : Nat → Prop), IntKind.i64.wrap ((k : Int) + 1) = k' ∧ k' ≤ n ∧ m40 = n - k' ∧ st = ((L.map tkX).take k').foldl stepP init0 ∧ st ≠ [] ∧ st.length ≤ k' + 1 ∧ (∀ f ∈ st, f.f.len ≤ k' + 1) ∧ StAt 35 w7.heap.size v oa on oc st O ∧ Ext w7 v) ∧ True) ∧ True := by
          intro W' bz eW hz
          have zz := eW.size
          refine app_def (Sd.ext eW) (by omega) hg (cell_ext y3 eW) hz (headF (tkX x)) (by omega) (fun w' O' s1 s2 => ?_) rfl
          exact next oa on oc O' w' s1 (ext_chgS (ext_trans Ed eW) s2 fun j hj => hj.elim (fun hb => (Sd.bk hb).1) (fun ho => (Sd.own ho).1))
        have nd : ∀ (W' : World), Ext w24.drew W' → ∀ {K : Ending → World → Prop}, (∀ v, Ext W' v → K (.returned (.agg ⟨cellsH (headF (tkX x)) none 0 0⟩)) v) → Calls Tryz.prog F_transcript_node ⟨[aggX x]⟩ W' K := fun W' eW {K} hK =>
          nodeT_spec x htx g3 (by omega) (FW _ (ext_trans ed eW)) (MW _ (ext_trans ed eW)) hK
        have rr : Ext w24.drew w24.drew := Below.refl _ _
        refine idx_at hg (by omega) ⟨_, cell_ext d0 ed, _, cell_ext d1 ed, _, cell_ext d2 ed, _, cell_ext d3 ed, ?_⟩
        refine ⟨⟨_, _, _, y3', ?_, ?_, trivial⟩, ?_, ?_, trivial⟩
        · exact nd _ rr fun v ev => ⟨_, _, _, _, _, _, rfl, al_intro fun bz W' hbz Bz ez sz => ⟨ap W' bz (ext_trans ev ez) Bz, trivial⟩, trivial⟩
        · exact al_intro fun bz W' hbz Bz ez sz => ⟨nd _ ez fun v ev => ⟨_, _, _, _, _, _, rfl, ap v bz (ext_trans ez ev) (Bz.ext ev), trivial⟩, trivial⟩
        · exact nd _ rr fun v ev => ⟨_, _, _, _, _, _, rfl, _, _, _, cell_ext y3' ev, al_intro fun bz W' hbz Bz ez sz => ⟨ap W' bz (ext_trans ev ez) Bz, trivial⟩, trivial⟩
        · exact al_intro fun bz W' hbz Bz ez sz => ⟨nd _ ez fun v ev => ⟨_, _, _, _, _, _, rfl, _, _, _, cell_ext y3' (ext_trans ez ev), ap v bz (ext_trans ez ev) (Bz.ext ev), trivial⟩, trivial⟩
  · have hkn : k = L.length := by omega
    have hst' : st = [fr] := by rw [hst, hkn, List.take_of_length_le (by rw [List.length_map]; exact Nat.le_refl _), u1]
    subst hst'
    have hon : on = 1 := hS.1
    obtain ⟨g, pa, pc, O1, hg, _, _, _, _, y3, hG, _⟩ := hS.top
    have hi : idx oa on 0 4 = idx oa on ((0 : Nat) : Int) 4 := rfl
    rw [hi]
    refine idx_at hg (i := 0) (by omega) ⟨_, _, _, by rw [add_none]; exact y3, ?_⟩
    have hsl := hG.out
    refine Check22_spec fr.f (by unfold small; omega) hsl (hF.ext (ext_trans E7 he)) fun w172 e172 => ⟨_, rfl, br_split (fun gc => ?_) (fun gc => ?_)⟩
    · rw [if_pos gc] at h
      exact h none 0 0 w172 rfl (SlF.nil _) (ext_trans (ext_trans E7 he) e172)
    · rw [if_neg gc] at h
      exact h _ _ _ w172 rfl ((hsl.ext e172).imp fun _ _ _ => trivial) (ext_trans (ext_trans E7 he) e172)
end Go.Proofs
namespace Go.Proofs
open Go Go.Sh Go.RowKit

theorem PrintT_spec {R : Ending → World → Prop} {S : Nat → Prop} {w : World} {a : Option Addr} {n c : Nat} (f : Fo) (hs : small f) (hF : Forms w) (hf : SlF S w a n f)
    (h : ∀ w', Ext w w' → R (.returned (.tuple ⟨[.string ⟨⟨if checkT f ≠ 0 then [] else printF f⟩⟩, .int .i64 (if checkT f ≠ 0 then 1 else 0)]⟩)) w') : Calls Tryz.prog F_transcript_Print ⟨[.slice a n c]⟩ w R := by
  apply c_transcript_Print
  refine Check22_spec f hs hf hF fun w1 e1 => ⟨_, rfl, br_split (fun g => ?_) (fun g => ?_)⟩
  · rw [if_pos g, if_pos g] at h; exact h _ e1
  rw [if_neg g, if_neg g] at h
  obtain ⟨q1, q2, q3, q4⟩ := check_inv (Classical.not_not.1 g)
  refine marked_spec f (by omega) (all_good f _ _ q3) (hf.ext e1) (hF.ext e1) fun w2 e2 => ⟨_, rfl, h _ (ext_trans e1 e2)⟩
/- the depth over the places -/
def dstep (n : Nat) (x : Pl) : Nat := if 0 < x.ps.len then max n (x.d + 1) else n
def dmax (l : List Pl) : Nat := l.foldl dstep 0
theorem dmax_snoc (l : List Pl) (x : Pl) : dmax (l ++ [x]) = dstep (dmax l) x := by unfold dmax; rw [List.foldl_append]; rfl
theorem dmax_places : ∀ (f : Fo) (d n : Nat) (b : Bool), f.depth + d ≤ 16 → (placesF f d b).foldl dstep n = max n (if f.depth = 0 then 0 else d + f.depth)
  | .nil, d, n, b, _ => by simp [placesF, Fo.depth]
  | .cons k t m ps r, d, n, b, h => by
    rw [Fo.depth_parts] at h ⊢
    simp only [placesF]
    rw [if_pos (by omega), List.foldl_cons, List.foldl_append, dmax_places r d _ (decide (k = 1)) (by omega)]
    by_cases hp : ps.len = 0
    · have e' := Fo.eq_nil_of_len hp
      subst e'
      rw [if_pos hp]
      simp [placesF, dstep]
    · rw [if_neg hp] at h ⊢
      have hds : dstep n ⟨k, t, m, ps, d, b⟩ = max n (d + 1) := if_pos (show 0 < ps.len by omega)
      rw [dmax_places ps (d + 1) _ false (by omega), hds]
      split <;> split <;> split <;> omega
theorem dmax_eq {f : Fo} (h : f.depth ≤ 16) : dmax (placesF f 0 false) = f.depth := by
  unfold dmax
  rw [dmax_places f 0 0 false (by omega)]
  split <;> omega
theorem dmax_le : ∀ (l : List Pl), (∀ x ∈ l, x.d ≤ 17) → dmax l ≤ 18 := by
  have key : ∀ (l : List Pl) (n : Nat), n ≤ 18 → (∀ x ∈ l, x.d ≤ 17) → l.foldl dstep n ≤ 18 := by
    intro l
    induction l with
    | nil => intro n h _; exact h
    | cons x l ih =>
      intro n h hx
      rw [List.foldl_cons]
      refine ih _ ?_ fun y hy => hx y (List.mem_cons_of_mem _ hy)
      have := hx x List.mem_cons_self
      unfold dstep; split <;> omega
  exact fun l h => key l 0 (by omega) h
theorem places_d : ∀ (f : Fo) (d : Nat) (b : Bool), d ≤ 17 → ∀ x ∈ placesF f d b, x.d ≤ 17
  | .nil, d, b, _, x, hx => by simp [placesF] at hx
  | .cons k t m ps r, d, b, h, x, hx => by
    simp only [placesF, List.mem_cons, List.mem_append] at hx
    rcases hx with rfl | hx | hx
    · exact h
    · split at hx
      · exact places_d ps (d + 1) false (by omega) x hx
      · cases hx
    · exact places_d r d _ h x hx
theorem blk6b {w : World} {b : Nat} {v0 v1 v2 v3 v4 v5 : Value} {T : TypeId} (h : Blk w b [v0, v1, v2, v3, v4, v5] T) :
    w.cell? (((⟨b, 0, none⟩ : Addr).add 0).add 3) = some v3 ∧ w.cell? ((⟨b, 0, none⟩ : Addr).add 4) = some v4 ∧ w.cell? (((⟨b, 0, none⟩ : Addr).add 0).add 0) = some v0 := by
  simp only [add_none, h.cell]; exact ⟨rfl, rfl, rfl⟩
set_option maxRecDepth 20000 in
theorem Depth_spec {R : Ending → World → Prop} {S : Nat → Prop} {w : World} {a : Option Addr} {n c : Nat} (f : Fo) (hs : small f) (hF : Forms w) (hf0 : SlF S w a n f)
    (h : ∀ w', Ext w w' → R (.returned (.tuple ⟨[.int .i64 (if checkT f ≠ 0 then 0 else (f.depth : Int)), .int .i64 (if checkT f ≠ 0 then 1 else 0)]⟩)) w') :
    Calls Tryz.prog F_transcript_Depth ⟨[.slice a n c]⟩ w R := by
  apply c_transcript_Depth
  refine Check22_spec f hs hf0 hF fun w1 e1 => ⟨_, rfl, br_split (fun g => ?_) (fun g => ?_)⟩
  · rw [if_pos g, if_pos g] at h; exact h _ e1
  rw [if_neg g, if_neg g] at h
  obtain ⟨_, hdep, _, _⟩ := check_inv (Classical.not_not.1 g)
  have hdm := dmax_eq hdep
  refine al_intro fun b5 w2 hb5 B5 e2 s2 => ?_
  refine stL_one B5 rfl fun w3 B5b c3 s3 => ?_
  have z1 := e1.size
  have E3 : Ext w w3 := ext_two (ext_trans e1 e2) c3 (by omega)
  refine places_spec fun bs w4 Bs e4 hbs => ⟨_, _, _, rfl, fun base => ?_⟩
  have E4 := ext_trans E3 e4
  have z4 := E4.size
  have z34 := e4.size
  have ls := Bs.lt
  have hf : SlF (fun k => S k ∧ k < w.heap.size) w a n f := hf0.imp fun k hk hl => ⟨hk, hl⟩
  rw [cd_transcript_Depth_1]
  refine RFw_lawO anA_transcript_Depth_1 anB_transcript_Depth_1 (gf := F_transcript_places_1) rfl (by kernel_rfl) (xs := placesF f 0 false) (E := PlE (fun k => (S k ∧ k < w.heap.size) ∨ k = bs) w4) (Rd := fun k => (S k ∧ k < w.heap.size) ∨ k = bs)
    (fun v1 he => (places_iterO f hs bs v1 (fun k hk => by have := he.size; omega) (Bs.ext he) ((hf.ext (ext_trans E4 he)).imp fun k hk _ => .inl hk) (.inr rfl)).mono ?_) (fun y vs hE => by obtain ⟨a', c', rfl, _⟩ := hE; rfl) (by decide) (fun k hk => by omega) (fun k => k = b5) (fun k hk => by omega)
    (fun pre S1 W => Blk W b5 [.int .i64 (dmax pre : Int)] 3 ∧ (∀ k, S1 k ↔ k = b5) ∧ Ext w W) (fun _ _ => False) (fun _ _ => False)
    ?_ (fun _ _ _ h => h.elim) (fun _ _ _ h => h.elim) ⟨B5b.ext e4, fun k => Iff.rfl, E4⟩ ?_ ?_ (fun _ _ _ _ _ _ _ h => h.elim) (fun _ _ _ _ _ _ _ h => h.elim)
  · rintro x vs ⟨a', c', rfl, hsl⟩
    exact ⟨a', c', rfl, hsl.keep' fun k hk hl => ⟨hk, by omega, ((he.block k (by omega))).symm⟩⟩
  · rintro pre S1 W W' ⟨g1, g2, g3⟩ hc
    exact ⟨hc.blk g1 (fun hh => hh.2 ((g2 _).2 rfl)), g2, ext_chgS g3 hc (fun k hk => by omega)⟩
  · rintro pre ⟨k1, t1, m1, ps1, d1, x1⟩ vs S1 W l ⟨a', c', rfl, hsl⟩ hpre hl1 hl2 hl3 hS1 ⟨g1, g2, g3⟩
    refine Eq.mpr (er_transcript_Depth_1 base _ _ _ _ _ _ _ _ _ _ _ _ _ _ _ _ _ _ _) ?_
    refine al_stL (by simp) (by intro u hu; simp only [List.mem_cons, List.not_mem_nil, or_false] at hu; rcases hu with rfl | rfl | rfl | rfl | rfl | rfl <;> rfl) fun bx W1 hbx hBx ex sx => ?_
    refine ⟨ex, fun W2 hU => ?_⟩
    have zx := ex.size
    have zU := hU.size
    have hX2 := upd_blk hU hBx (by omega)
    obtain ⟨x3, x4, _⟩ := blk6b hX2
    have hUc : Chg (fun k => k = l) W1 W2 := ⟨hU.os, hU.tape, hU.output, by omega, fun k _ hk => hU.block k hk⟩
    have hWc : Chg (fun k => k = l) W W2 := (Chg.of_ext ex).trans hUc
    have nl : b5 ≠ l := fun he => hl3 (he ▸ (g2 b5).2 rfl)
    have h1 := hWc.blk g1 nl
    have E2' : Ext w W2 := ext_chgS g3 hWc fun k hk => by omega
    obtain ⟨rest, hrest⟩ := hpre
    have hd1 : d1 ≤ 17 := places_d f 0 false (by omega) ⟨k1, t1, m1, ps1, d1, x1⟩ (by rw [← hrest]; simp)
    have hdp : dmax pre ≤ 18 := dmax_le pre fun x hx => places_d f 0 false (by omega) x (by rw [← hrest]; simp [hx])
    refine ⟨_, _, _, x3, br_split (fun q => ?_) (fun q => ?_)⟩
    · refine dr_ok ⟨_, by rw [h1.cell]; rfl, _, x4, dr_ok ?_⟩
      refine stL_one h1 rfl fun w5 B5c c5 s5 => ?_
      refine ⟨c5.mono fun k _ hk => .inl ((g2 k).2 hk), fun k => k = b5, fun k hk => ⟨.inl ((g2 k).2 hk), by rw [hk]; exact B5c.lt⟩, ?_, fun k => Iff.rfl, ext_two E2' c5 (by omega)⟩
      have e : max (dmax pre : Int) (IntKind.i64.wrap ((d1 : Int) + 1)) = ((dmax (pre ++ [⟨k1, t1, m1, ps1, d1, x1⟩]) : Nat) : Int) := by
        rw [wrap_id (by omega), dmax_snoc]
        have hds : dstep (dmax pre) ⟨k1, t1, m1, ps1, d1, x1⟩ = max (dmax pre) (d1 + 1) := if_pos (by have q' : (0 : Int) < ((ps1.len : Nat) : Int) := q; show 0 < ps1.len; omega)
        rw [hds]
        omega
      rw [← e]; exact B5c
    · refine ⟨Chg.refl _ _, S1, fun k hk => ⟨.inl hk, by have := (hS1 k hk).1; omega⟩, ?_, g2, E2'⟩
      have e : dmax (pre ++ [⟨k1, t1, m1, ps1, d1, x1⟩]) = dmax pre := by
        rw [dmax_snoc]; exact if_neg (by have q' : ¬ (0 : Int) < ((ps1.len : Nat) : Int) := q; show ¬ 0 < ps1.len; omega)
      rw [e]; exact h1
  · rintro D S1 W hD1 hD2 hD3 hD4 ⟨g1, g2, g3⟩
    rw [hdm] at g1
    refine ⟨_, by rw [g1.cell]; rfl, retD_one (D := D) hD4 ?_⟩
    exact h _ (ext_put g3 (by omega) _)
/- how many of a kind, over the places -/
def cstep (k : Int) (l : List Pl) : Nat := (l.filter fun x => decide (x.k = k)).length
theorem cstep_snoc (k : Int) (l : List Pl) (x : Pl) : cstep k (l ++ [x]) = cstep k l + if x.k = k then 1 else 0 := by
  unfold cstep
  rw [List.filter_append, List.length_append]
  congr 1
  by_cases hk : x.k = k
  · simp [hk]
  · simp [hk]
theorem cstep_places (k : Int) : ∀ (f : Fo) (d : Nat) (b : Bool), f.depth + d ≤ 16 → cstep k (placesF f d b) = cntK k f
  | .nil, _, _, _ => rfl
  | .cons k' t n ps r, d, b, h => by
    rw [Fo.depth_parts] at h
    have i2 := cstep_places k r d (decide (k' = 1)) (by omega)
    simp only [placesF, cntK]
    rw [if_pos (by omega)]
    have e : cstep k (⟨k', t, n, ps, d, b⟩ :: (placesF ps (d + 1) false ++ placesF r d (decide (k' = 1)))) = (if k' = k then 1 else 0) + (cstep k (placesF ps (d + 1) false) + cstep k (placesF r d (decide (k' = 1)))) := by
      unfold cstep
      rw [List.filter_cons, List.filter_append]
      by_cases hk : k' = k
      · simp [hk]; omega
      · simp [hk]
    rw [e, i2]
    by_cases hp : ps.len = 0
    · have e' := Fo.eq_nil_of_len hp
      subst e'
      simp [placesF, cstep, cntK]
    · rw [if_neg hp] at h
      rw [cstep_places k ps (d + 1) false (by omega)]; omega
theorem cstep_le (k : Int) (l : List Pl) : cstep k l ≤ l.length := List.length_filter_le _ _
def cntR (f : Fo) (k : Int) : Int × Int := if checkT f ≠ 0 then (0, 1) else if k < 1 ∨ 11 < k then (0, 8) else (cntK k f, 0)
set_option maxRecDepth 20000 in
theorem Count_spec {R : Ending → World → Prop} {S : Nat → Prop} {w : World} {a : Option Addr} {n c : Nat} (f : Fo) (hs : small f) (hF : Forms w) (hf0 : SlF S w a n f) (kd : Int)
    (h : ∀ w', Ext w w' → R (.returned (.tuple ⟨[.int .i64 (cntR f kd).1, .int .i64 (cntR f kd).2]⟩)) w') :
    Calls Tryz.prog F_transcript_Count ⟨[.slice a n c, .int .i64 kd]⟩ w R := by
  apply c_transcript_Count
  refine al_intro fun b3 w0 hb3 B3 e0 s0 => ?_
  refine Check22_spec f hs (hf0.ext e0) (hF.ext e0) fun w1 e1 => ⟨_, rfl, br_split (fun g => ?_) (fun g => ?_)⟩
  · unfold cntR at h; rw [if_pos g] at h; exact h _ (ext_trans e0 e1)
  have E1 := ext_trans e0 e1
  have z1 := E1.size
  unfold cntR at h
  rw [if_neg g] at h
  obtain ⟨hsz, hdep, _, _⟩ := check_inv (Classical.not_not.1 g)
  have B3a := B3.ext e1
  have z01 := e1.size
  intro K8 hK8
  refine ⟨_, by rw [B3a.cell]; rfl, br_split (fun q1 => ?_) (fun q1 => ⟨_, by rw [B3a.cell]; rfl, br_split (fun q2 => ?_) (fun q2 => ?_)⟩)⟩
  · rw [if_pos (.inl q1)] at h; exact h _ E1
  · rw [if_pos (.inr q2)] at h; exact h _ E1
  rw [if_neg (by omega)] at h
  refine hK8 _ _ _ fun _ => ?_
  refine al_intro fun b5 w2 hb5 B5 e2 s2 => ?_
  refine stL_one B5 rfl fun w3 B5b c3 s3 => ?_
  have E3 : Ext w w3 := ext_two (ext_trans E1 e2) c3 (by omega)
  have B3b := c3.blk (B3a.ext e2) (by omega)
  refine places_spec fun bs w4 Bs e4 hbs => ⟨_, _, _, rfl, fun base => ?_⟩
  have E4 := ext_trans E3 e4
  have z4 := E4.size
  have z34 := e4.size
  have ls := Bs.lt
  have hf : SlF (fun k => S k ∧ k < w.heap.size) w a n f := hf0.imp fun k hk hl => ⟨hk, hl⟩
  have hpl := placesF_len f 0 false
  rw [cd_transcript_Count_1]
  refine RFw_lawO anA_transcript_Count_1 anB_transcript_Count_1 (gf := F_transcript_places_1) rfl (by kernel_rfl) (xs := placesF f 0 false) (E := PlE (fun k => (S k ∧ k < w.heap.size) ∨ k = bs) w4) (Rd := fun k => (S k ∧ k < w.heap.size) ∨ k = bs)
    (fun v1 he => (places_iterO f hs bs v1 (fun k hk => by have := he.size; omega) (Bs.ext he) ((hf.ext (ext_trans E4 he)).imp fun k hk _ => .inl hk) (.inr rfl)).mono ?_) (fun y vs hE => by obtain ⟨a', c', rfl, _⟩ := hE; rfl) (by decide) (fun k hk => by omega) (fun k => k = b5 ∨ k = b3) (fun k hk => by omega)
    (fun pre S1 W => Blk W b5 [.int .i64 (cstep kd pre : Int)] 3 ∧ Blk W b3 [.int .i64 kd] 3 ∧ (∀ k, S1 k ↔ k = b5 ∨ k = b3) ∧ Ext w W) (fun _ _ => False) (fun _ _ => False)
    ?_ (fun _ _ _ h => h.elim) (fun _ _ _ h => h.elim) ⟨B5b.ext e4, B3b.ext e4, fun k => Iff.rfl, E4⟩ ?_ ?_ (fun _ _ _ _ _ _ _ h => h.elim) (fun _ _ _ _ _ _ _ h => h.elim)
  · rintro x vs ⟨a', c', rfl, hsl⟩
    exact ⟨a', c', rfl, hsl.keep' fun k hk hl => ⟨hk, by omega, ((he.block k (by omega))).symm⟩⟩
  · rintro pre S1 W W' ⟨g1, g1', g2, g3⟩ hc
    exact ⟨hc.blk g1 (fun hh => hh.2 ((g2 _).2 (.inl rfl))), hc.blk g1' (fun hh => hh.2 ((g2 _).2 (.inr rfl))), g2, ext_chgS g3 hc (fun k hk => by omega)⟩
  · rintro pre ⟨k1, t1, m1, ps1, d1, x1⟩ vs S1 W l ⟨a', c', rfl, hsl⟩ hpre hl1 hl2 hl3 hS1 ⟨g1, g1', g2, g3⟩
    refine Eq.mpr (er_transcript_Count_1 base _ _ _ _ _ _ _ _ _ _ _ _ _ _ _ _ _ _ _ _) ?_
    refine al_stL (by simp) (by intro u hu; simp only [List.mem_cons, List.not_mem_nil, or_false] at hu; rcases hu with rfl | rfl | rfl | rfl | rfl | rfl <;> rfl) fun bx W1 hbx hBx ex sx => ?_
    refine ⟨ex, fun W2 hU => ?_⟩
    have zx := ex.size
    have zU := hU.size
    have hX2 := upd_blk hU hBx (by omega)
    obtain ⟨_, _, x0⟩ := blk6b hX2
    have hUc : Chg (fun k => k = l) W1 W2 := ⟨hU.os, hU.tape, hU.output, by omega, fun k _ hk => hU.block k hk⟩
    have hWc : Chg (fun k => k = l) W W2 := (Chg.of_ext ex).trans hUc
    have nl : ∀ k, S1 k → k ≠ l := fun k hk he => hl3 (he ▸ hk)
    have h1 := hWc.blk g1 (nl _ ((g2 b5).2 (.inl rfl)))
    have h1' := hWc.blk g1' (nl _ ((g2 b3).2 (.inr rfl)))
    have E2' : Ext w W2 := ext_chgS g3 hWc fun k hk => by omega
    have hpp : pre.length ≤ 4096 := by
      have := hpre.length_le
      rw [List.length_append] at this
      omega
    have hcp := cstep_le kd pre
    refine ⟨_, x0, dr_ok ⟨_, by rw [h1'.cell]; rfl, br_split (fun q => ?_) (fun q => ?_)⟩⟩
    · refine dr_ok ⟨_, by rw [h1.cell]; rfl, dr_ok ?_⟩
      refine stL_one h1 rfl fun w5 B5c c5 s5 => ?_
      refine ⟨c5.mono fun k _ hk => .inl ((g2 k).2 (.inl hk)), S1, fun k hk => ⟨.inl hk, by have := (hS1 k hk).1; omega⟩, ?_, c5.blk h1' (by omega), g2, ext_two E2' c5 (by omega)⟩
      rw [cstep_snoc, if_pos q]
      have e : IntKind.i64.wrap ((cstep kd pre : Int) + 1) = ((cstep kd pre + 1 : Nat) : Int) := by rw [wrap_id (by omega)]; omega
      rw [e] at B5c; exact B5c
    · refine ⟨Chg.refl _ _, S1, fun k hk => ⟨.inl hk, by have := (hS1 k hk).1; omega⟩, ?_, h1', g2, E2'⟩
      rw [cstep_snoc, if_neg q]; exact h1
  · rintro D S1 W hD1 hD2 hD3 hD4 ⟨g1, g1', g2, g3⟩
    rw [cstep_places kd f 0 false (by omega)] at g1
    refine ⟨_, by rw [g1.cell]; rfl, retD_one (D := D) hD4 ?_⟩
    exact h _ (ext_put g3 (by omega) _)
end Go.Proofs
namespace Go.Proofs
open Go Go.Sh Go.RowKit

set_option maxRecDepth 20000 in
theorem SameT_spec {S S' : Nat → Prop} : ∀ (f : Fo) {R : Ending → World → Prop} {w : World} {a b : Option Addr} {n c n' c' : Nat} {g : Fo} (hf : SlF S w a n f) (hg : SlF S' w b n' g) (hs : small f)
    (h : ∀ w', Ext w w' → R (.returned (.bool (decide (f = g)))) w'), Calls Tryz.prog F_transcript_Same ⟨[.slice a n c, .slice b n' c']⟩ w R := by
  intro f
  induction hz : f.size using Nat.strongRecOn generalizing f with
  | _ z ih =>
  intro R w a b n c n' c' g hf hg hs h
  apply c_transcript_Same
  have hr : ∀ v, Ext w v → ∀ x, x = decide (f = g) → ∃ x5 : Bool, Ending.returned (.bool x) = .returned (.bool x5) ∧ R (.returned (.bool x5)) v := fun v ev x hx => ⟨_, rfl, by rw [hx]; exact h v ev⟩
  apply c_slices_EqualFunc_of_api_Node_api_Node_api_Node_api_Node
  have hn := hf.1
  have hn' := hg.1
  refine br_split (fun h1 => ?_) (fun h1 => ?_)
  · exact hr w (Below.refl _ _) false (by rw [eq_comm, decide_eq_false_iff_not]; rintro rfl; omega)
  refine ⟨fun i W m => ∃ (p1 r1 p2 r2 : Fo), f = p1.app r1 ∧ g = p2.app r2 ∧ p1.len = p2.len ∧ i = p1.len ∧ m = r1.len ∧ Ext w W ∧ (f = g ↔ r1 = r2), ⟨_, .nil, f, .nil, g, rfl, rfl, rfl, rfl, rfl, Below.refl _ _, Iff.rfl⟩, ?_⟩
  rintro _ W m ⟨p1, r1, p2, r2, e1, e2, e3, rfl, rfl, he, hiff⟩ _
  refine br_split (fun hlt => ?_) (fun hge => ?_)
  · obtain ⟨k1, t1, m1, s1, r1, rfl⟩ := Fo.next e1 (by omega)
    obtain ⟨k2, t2, m2, s2, r2, rfl⟩ := Fo.next e2 (by omega)
    obtain ⟨q1, a1, c1, i1, _, l1, n1⟩ := (hf.ext he).get e1
    have hsub := Fo.sub_size e1
    have hsl := Fo.sub_len e1
    have hle := f.len_le_size
    simp only [Fo.cons.injEq] at hiff
    refine i1 _ ⟨_, n1.kind, _, n1.text, _, n1.num, _, _, _, n1.parts, ?_⟩
    refine al_stL rfl one4n fun b14 w16 hb14 B14 e16 s16 => ?_
    have E16 := ext_trans he e16
    obtain ⟨q2, a2, c2, i2, _, l2, n2⟩ := (hg.ext E16).get e2
    rw [← e3] at i2
    refine i2 _ ⟨_, n2.kind, _, n2.text, _, n2.num, _, _, _, n2.parts, ?_⟩
    refine al_stL rfl one4n fun b22 w24 hb22 B22 e24 s24 => ?_
    have E24 := ext_trans E16 e24
    obtain ⟨x0, x1, x2, x3⟩ := blk4 (B14.ext e24)
    obtain ⟨y0, y1, y2, y3⟩ := blk4 B22
    refine ⟨_, x0, _, x1, _, x2, _, _, _, x3, _, y0, _, y1, _, y2, _, _, _, y3, ⟨by kernel_rfl, ?_⟩⟩
    apply c_transcript_Same_1
    refine al_intro fun b9 w10 hb9 B9 e10 s10 => ?_
    refine al_intro fun b11 w12 hb11 B11 e12 s12 => ?_
    obtain ⟨u0, u1, u2, u3⟩ := blk4 (B9.ext e12)
    obtain ⟨v0, v1, v2, v3⟩ := blk4 B11
    have ec := ext_trans e10 e12
    have E12 := ext_trans E24 ec
    have no : f ≠ g → ∀ v, Ext w v → ∃ x35 : Bool, Ending.returned (.bool false) = .returned (.bool x35) ∧ br (!x35) (∃ x5 : Bool, Ending.returned (.bool false) = .returned (.bool x5) ∧ R (.returned (.bool x5)) v) (∃ m36 : Nat, m36 < (Fo.cons k1 t1 m1 s1 r1).len ∧ ∃ (p1' r1' p2' r2' : Fo), f = p1'.app r1' ∧ g = p2'.app r2' ∧ p1'.len = p2'.len ∧ IntKind.i64.wrap ((p1.len : Int) + 1) = p1'.len ∧ m36 = r1'.len ∧ Ext w v ∧ (f = g ↔ r1' = r2')) := fun hne v ev => by
      refine ⟨_, rfl, ?_⟩
      rw [Bool.not_false, br_t]
      exact hr v ev false (by rw [eq_comm, decide_eq_false_iff_not]; exact hne)
    refine ⟨_, u0, _, v0, br_split (fun d1 => ⟨_, u1, _, v1, br_split (fun d2 => ⟨_, u2, _, v2, br_split (fun d3 => ⟨_, _, _, u3, _, _, _, v3, ?_⟩) (fun d3 => ?_)⟩) (fun d2 => ?_)⟩) (fun d1 => ?_)⟩
    · refine ih _ (hz ▸ hsub) s1 rfl ((n1.sl.ext e16).ext (ext_trans e24 ec)) (n2.sl.ext (ext_trans e24 ec)) (by unfold small at hs ⊢; omega) fun w' he' => ⟨_, rfl, ?_⟩
      refine ⟨_, rfl, ?_⟩
      have hdd := ext_trans E12 he'
      refine br_cases (fun d4 => ?_) (fun d4 => ?_)
      · have d4 : s1 ≠ s2 := by simpa using d4
        exact hr w' hdd false (by rw [eq_comm, decide_eq_false_iff_not]; intro hh; exact d4 (hiff.1 hh).2.2.2.1)
      · have d5 : s1 = s2 := by simpa using d4
        refine ⟨r1.len, by simp, p1.app (.one k1 t1 m1 s1), r1, p2.app (.one k2 t2 m2 s2), r2, by rw [Fo.app_one_app]; exact e1, by rw [Fo.app_one_app]; exact e2, by simp [Fo.one]; exact e3, ?_, rfl, hdd, ?_⟩
        · rw [wrap_nat (by unfold small at hs; omega)]; simp [Fo.one]
        · rw [hiff]; simp [d1, d2, d3, d5]
    · exact no (fun hh => d3 (hiff.1 hh).2.2.1) _ E12
    · exact no (fun hh => d2 (hiff.1 hh).2.1) _ E12
    · exact no (fun hh => d1 (hiff.1 hh).1) _ E12
  · obtain ⟨rfl, rfl⟩ := Fo.last e1 (by omega)
    have := Fo.last e2 (by omega)
    exact hr W he true (by rw [eq_comm, decide_eq_true_iff]; exact hiff.2 this.1.symm)
/- the example of the chapter -/
def sampF : Fo := .cons 1 [100, 101] 0 .nil (.cons 8 [] 1 (.one 1 [117, 115] 0 .nil) (.one 2 [] 0 .nil))
def sampS : List UInt8 := [100, 101, 60, 97, 100, 100, 32, 49, 62, 117, 115, 60, 47, 97, 100, 100, 62, 60, 108, 98, 47, 62]
theorem samp_print : printF sampF = sampS := by decide +kernel
theorem samp_check : checkT sampF = 0 := by decide +kernel
theorem samp_parse : parseF sampS = (sampF, 0) := by rw [← samp_print]; exact parse_back samp_check
variable {R : Ending → World → Prop} {w : World}
theorem sample_spec (h : ∀ a c w', SlF (fun _ => True) w' a 3 sampF → Ext w w' → R (.returned (.slice a 3 c)) w') : Calls Tryz.prog F_law10_sample ⟨[]⟩ w R := by
  apply c_law10_sample
  refine al_intro fun b1 w2 hb1 B1 e2 s2 => ?_
  refine al_intro fun b3 w4 hb3 B3 e4 s4 => ?_
  refine h _ _ w4 ⟨rfl, _, .inr ⟨b3, 0, rfl, trivial, B3.lt, fun j v hj => by rw [Nat.zero_add, B3.cell]; exact hj⟩, ?_⟩ (ext_trans e2 e4)
  have at1 : At (fun _ => True) w4 (some ⟨b1, 0, none⟩) [.int .i64 1, .string ⟨⟨[117, 115]⟩⟩, .int .i64 0, .slice none 0 0] := .inr ⟨b1, 0, rfl, trivial, (B1.ext e4).lt, fun j v hj => by rw [Nat.zero_add, (B1.ext e4).cell]; exact hj⟩
  exact ⟨none, 0, [], _, rfl, .inl rfl, rfl, some ⟨b1, 0, none⟩, 1, _, _, rfl, at1, ⟨none, 0, [], [], rfl, .inl rfl, rfl, rfl⟩, none, 0, [], [], rfl, .inl rfl, rfl, rfl⟩
theorem zero_check : checkT (.one 0 [] 0 .nil) = 8 := by decide +kernel
set_option maxRecDepth 20000 in
theorem awakeT_spec (hF : Forms w) (hM : Mk w) (h : ∀ w', Ext w w' → R (.returned (.bool true)) w') : Calls Tryz.prog F_law10_awake ⟨[]⟩ w R := by
  apply c_law10_awake
  have hsm : small sampF := by unfold small; decide
  refine Parse_spec sampS hF hM fun a n c w2 hn hL e2 => ⟨_, _, _, _, rfl, ?_⟩
  rw [samp_parse] at hn hL ⊢
  refine sample_spec fun a1 c1 w6 h1 e6 => ⟨_, _, _, rfl, ?_⟩
  have E6 := ext_trans e2 e6
  refine PrintT_spec sampF hsm (hF.ext E6) h1 fun w9 e9 => ⟨_, _, rfl, ?_⟩
  rw [if_neg (fun hh => hh samp_check), if_neg (fun hh => hh samp_check), samp_print]
  have E9 := ext_trans E6 e9
  refine sample_spec fun a2 c2 w13 h2 e13 => ⟨_, _, _, rfl, ?_⟩
  have E13 := ext_trans E9 e13
  refine Characters_spec sampF hsm (hF.ext E13) h2 fun w16 e16 => ⟨_, _, rfl, ?_⟩
  rw [if_neg (fun hh => hh samp_check), if_neg (fun hh => hh samp_check)]
  have E16 := ext_trans E13 e16
  refine sample_spec fun a3 c3 w20 h3 e20 => ⟨_, _, _, rfl, ?_⟩
  have E20 := ext_trans E16 e20
  refine Depth_spec sampF hsm (hF.ext E20) h3 fun w23 e23 => ⟨_, _, rfl, ?_⟩
  rw [if_neg (fun hh => hh samp_check), if_neg (fun hh => hh samp_check)]
  have E23 := ext_trans E20 e23
  have hmax : max (max (max (0 : Int) 0) 0) 0 = 0 := by decide
  refine br_split (fun _ => ?_) (fun hh => absurd hmax hh)
  refine sample_spec fun a4 c4 w27 h4 e27 => ⟨_, _, _, rfl, ?_⟩
  have E27 := ext_trans E23 e27
  have hLx : ∀ v, Ext w2 v → SlF (fun _ => True) v a n sampF := fun v ev => hL.ext ev
  have E227 : Ext w2 w27 := ext_trans (ext_trans (ext_trans (ext_trans (ext_trans (ext_trans e6 e9) e13) e16) e20) e23) e27
  refine Same_spec sampF (hLx _ E227) h4 hsm fun w30 e30 => ⟨_, rfl, ?_⟩
  have E30 := ext_trans E27 e30
  rw [decide_eq_true rfl, br_t]
  refine br_split (fun _ => ?_) (fun hh => absurd rfl hh)
  refine br_split (fun _ => ?_) (fun hh => absurd (by decide +kernel) hh)
  refine br_split (fun _ => ?_) (fun hh => absurd (by decide +kernel) hh)
  refine sample_spec fun a5 c5 w33 h5 e33 => ⟨_, _, _, rfl, ?_⟩
  have E33 := ext_trans E30 e33
  refine SameT_spec sampF (hLx _ (ext_trans E227 (ext_trans e30 e33))) h5 hsm fun w36 e36 => ⟨_, rfl, ?_⟩
  have E36 := ext_trans E33 e36
  rw [decide_eq_true rfl, br_t]
  refine al_intro fun b38 w39 hb38 B38 e39 s39 => ?_
  have E39 := ext_trans E36 e39
  have hz : SlF (fun _ => True) w39 (some ⟨b38, 0, none⟩) 1 (.one 0 [] 0 .nil) := ⟨rfl, _, .inr ⟨b38, 0, rfl, trivial, B38.lt, fun j v hj => by rw [Nat.zero_add, B38.cell]; exact hj⟩, none, 0, [], [], rfl, .inl rfl, rfl, rfl⟩
  refine Check22_spec (.one 0 [] 0 .nil) (by unfold small; decide) hz (hF.ext E39) fun w41 e41 => ⟨_, rfl, ?_⟩
  rw [zero_check, decide_eq_true rfl]
  exact h w41 (ext_trans E39 e41)
end Go.Proofs
namespace Go.Proofs
open Go Go.Sh Go.RowKit

/- the five nodes of the law on wrapping -/
def wrapK : Nat → Hd
  | 0 => ⟨7, [], 0⟩
  | 1 => ⟨8, [], 8⟩
  | 2 => ⟨9, [], 1⟩
  | 3 => ⟨10, [113], 0⟩
  | _ => ⟨11, [82, 111, 109, 97], 0⟩
def wrapF (i : Nat) (l : Fo) : Fo := .one (wrapK i).k (wrapK i).t (wrapK i).n l
theorem wrap_cases {C : Hd → Prop} (i : Nat) (h : C ⟨7, [], 0⟩ ∧ C ⟨8, [], 8⟩ ∧ C ⟨9, [], 1⟩ ∧ C ⟨10, [113], 0⟩ ∧ C ⟨11, [82, 111, 109, 97], 0⟩) : C (wrapK i) := by
  obtain ⟨a, b, c, d, e⟩ := h
  match i with
  | 0 => exact a
  | 1 => exact b
  | 2 => exact c
  | 3 => exact d
  | _ + 4 => exact e
theorem wrap_single (i : Nat) {l : Fo} (h : 0 < l.len) : singleF (wrapK i).k (wrapK i).t (wrapK i).n l false false = 0 := by
  have hw : isWordF [113] = true := by decide +kernel
  have hn : isNameF [82, 111, 109, 97] = true := by decide +kernel
  have hl : ¬ l.len = 0 := by omega
  refine wrap_cases (C := fun h => singleF h.k h.t h.n l false false = 0) i ⟨?_, ?_, ?_, ?_, ?_⟩ <;> simp [singleF, textsF, numsF, partsF, hw, hn, hl]
theorem wrap_print (i : Nat) (l : Fo) : (printF (wrapF i l)).length ≤ (printF l).length + 40 := by
  have d8 : Lib.decDigits 8 = [56] := by decide +kernel
  have d1 : Lib.decDigits 1 = [49] := by decide +kernel
  refine wrap_cases (C := fun h => (printF (.one h.k h.t h.n l)).length ≤ (printF l).length + 40) i ⟨?_, ?_, ?_, ?_, ?_⟩ <;> simp [Fo.one, printF, nodeF, partsF, tagF, tagsL, valF, textsF, numsF, d8, d1] <;> omega
theorem wrap_ne (i : Nat) : (wrapK i).k ≠ 1 := wrap_cases (C := fun h => h.k ≠ 1) i ⟨by decide, by decide, by decide, by decide, by decide⟩
theorem wrap_check (i : Nat) {l : Fo} (hc : checkT l = 0) (hs : l.size ≤ 4000) (hp : (printF l).length ≤ 65000) : checkT (wrapF i l) = if l.len = 0 then 5 else if l.depth = 16 then 4 else if secF l = true then 12 else 0 := by
  obtain ⟨h1, h2, h3, h4⟩ := check_inv hc
  have hsz : (wrapF i l).size = l.size + 1 := by unfold wrapF Fo.one; simp [Fo.size]
  have hd : (wrapF i l).depth = if l.len = 0 then 0 else l.depth + 1 := by
    unfold wrapF Fo.one; rw [Fo.depth_parts]
    show max _ 0 = _
    omega
  by_cases h0 : l.len = 0
  · have := Fo.eq_nil_of_len h0
    subst this
    rw [if_pos (show Fo.nil.len = 0 from rfl)]
    refine wrap_cases (C := fun h => checkT (.one h.k h.t h.n .nil) = 5) i ⟨?_, ?_, ?_, ?_, ?_⟩ <;> decide +kernel
  · rw [if_neg h0] at hd ⊢
    by_cases h16 : l.depth = 16
    · rw [if_pos h16]
      unfold checkT
      rw [if_neg (by omega)]
    · rw [if_neg h16]
      have ha : allF (wrapF i l) false false = if secF l = true then 12 else 0 := by
        unfold wrapF Fo.one
        rw [allF, wrap_single i (by omega), all_with h3]
        cases hsec : secF l <;> simp [allF]
      have hl := wrap_print i l
      unfold checkT
      rw [if_pos (by omega), ha]
      by_cases hsec : secF l = true
      · rw [if_pos hsec, if_pos (by decide)]
      · rw [if_neg hsec, if_neg (by simp), if_neg (by omega)]
theorem wrap_char (i : Nat) (l : Fo) : charT (wrapF i l) = charT l := by
  unfold wrapF Fo.one
  rw [charT, if_neg (wrap_ne i), charT, List.nil_append, List.append_nil]
end Go.Proofs
