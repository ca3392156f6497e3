/- The contracts of the functions that the law reaches, one after the other, and at the end the law's card. -/
import Derived.Test.YtncjonkmhfdabaaGreatLawA
import Derived.Lib.AppendZerosOnto
namespace Go.Proofs
open Go Go.Sh Go.RowKit
/- slices of whole numbers and of strings: reading, Index, Contains, IndexFunc, ContainsFunc, Clone -/
def ixF {α : Type} (q : α → Bool) (l : List α) : Int := if l.any q then (l.findIdx q : Int) else -1
theorem ixF_ge {α : Type} (q : α → Bool) (l : List α) : decide ((0 : Int) ≤ ixF q l) = l.any q := by
  unfold ixF
  cases l.any q <;> simp
theorem ixF_at {α : Type} {q : α → Bool} {l : List α} {k : Nat} (hk : k < l.length) (hq : q l[k] = true) (hno : ∀ x ∈ l.take k, q x = false) : ixF q l = k := by
  unfold ixF
  rw [if_pos (List.any_eq_true.2 ⟨_, List.getElem_mem hk, hq⟩), List.findIdx_eq hk |>.2 ⟨hq, fun j hj => ?_⟩]
  have hjl : j < l.length := by omega
  have := hno l[j] (by rw [List.mem_take_iff_getElem]; exact ⟨j, by omega, rfl⟩)
  simp [this]
theorem ixF_no {α : Type} {q : α → Bool} {l : List α} (hno : ∀ x ∈ l, q x = false) : ixF q l = -1 := by
  unfold ixF
  rw [if_neg]
  rw [Bool.not_eq_true, List.any_eq_false]
  intro x hx; rw [hno x hx]; simp
theorem take_s {α : Type} {l : List α} {k : Nat} (h : k < l.length) : l.take (k + 1) = l.take k ++ [l[k]] := by rw [List.take_add_one, List.getElem?_eq_getElem h]; rfl
theorem no_take {α : Type} {q : α → Bool} {l : List α} {k : Nat} (h : k < l.length) (hq : q l[k] = false) (hno : ∀ x ∈ l.take k, q x = false) : ∀ x ∈ l.take (k + 1), q x = false := by
  intro x hx
  rw [take_s h, List.mem_append, List.mem_singleton] at hx
  rcases hx with hx | rfl
  · exact hno x hx
  · exact hq
section
variable {R : Ending → World → Prop} {S : Nat → Prop} {w : World} {a : Option Addr} {n c : Nat}
theorem IndexI_spec {L : List Int} (v : Int) (h1 : RowV vI S w a n L) (hs : n ≤ 4611686018427387904) (h : R (.returned (.int .i64 (ixF (fun x => decide (v = x)) L))) w) :
    Calls Tryz.prog F_slices_Index_of_int_int ⟨[.slice a n c, .int .i64 v]⟩ w R := by
  apply c_slices_Index_of_int_int
  have hn := h1.1
  refine ⟨fun i W m => ∃ k : Nat, i = k ∧ k ≤ n ∧ m = n - k ∧ (∀ x ∈ L.take k, decide (v = x) = false) ∧ W = w, ⟨_, 0, rfl, by omega, rfl, by simp, rfl⟩, ?_⟩
  rintro _ W m ⟨k, rfl, hk, rfl, hno, rfl⟩ _
  refine br_split (fun hlt => ?_) (fun hge => ?_)
  · have hkL : k < L.length := by omega
    obtain ⟨p, hp1, hc⟩ := h1.int hkL
    refine hp1 _ ⟨_, hc, br_split (fun g => ?_) (fun g => ?_)⟩
    · rw [ixF_at hkL (decide_eq_true g) hno] at h; exact h
    · exact ⟨n - (k + 1), by omega, k + 1, by rw [wrap_nat (by omega)], by omega, rfl, no_take hkL (decide_eq_false g) hno, rfl⟩
  · rw [List.take_of_length_le (by omega)] at hno
    rw [ixF_no hno] at h; exact h
theorem ContainsI_spec {L : List Int} (v : Int) (h1 : RowV vI S w a n L) (hs : n ≤ 4611686018427387904) (h : R (.returned (.bool (decide (v ∈ L)))) w) :
    Calls Tryz.prog F_slices_Contains_of_int_int ⟨[.slice a n c, .int .i64 v]⟩ w R := by
  apply c_slices_Contains_of_int_int
  refine IndexI_spec v h1 hs ⟨_, rfl, ?_⟩
  have e : L.any (fun x => decide (v = x)) = decide (v ∈ L) := by
    rw [Bool.eq_iff_iff, List.any_eq_true, decide_eq_true_iff]
    constructor
    · rintro ⟨x, hx, e⟩; have := of_decide_eq_true e; subst this; exact hx
    · intro hv; exact ⟨v, hv, by simp⟩
  rw [ixF_ge, e]; exact h
theorem ContainsS_spec {L : List (List UInt8)} (v : List UInt8) (h1 : RowV vS S w a n L) (hs : n ≤ 4611686018427387904) (h : R (.returned (.bool (decide (v ∈ L)))) w) :
    Calls Tryz.prog F_slices_Contains_of_string_string ⟨[.slice a n c, .string ⟨⟨v⟩⟩]⟩ w R := by
  apply c_slices_Contains_of_string_string
  have hn := h1.1
  apply c_slices_Index_of_string_string
  refine ⟨fun i W m => ∃ k : Nat, i = k ∧ k ≤ n ∧ m = n - k ∧ v ∉ L.take k ∧ W = w, ⟨_, 0, rfl, by omega, rfl, by simp, rfl⟩, ?_⟩
  rintro _ W m ⟨k, rfl, hk, rfl, hno, rfl⟩ _
  refine br_split (fun hlt => ?_) (fun hge => ?_)
  · have hkL : k < L.length := by omega
    obtain ⟨p, hp1, hc⟩ := h1.str hkL
    refine hp1 _ ⟨_, hc, br_split (fun g => ?_) (fun g => ?_)⟩
    · refine ⟨_, rfl, ?_⟩
      rw [decide_eq_true (show (0 : Int) ≤ (k : Int) by omega)]
      rw [decide_eq_true (show v ∈ L by rw [g]; exact List.getElem_mem hkL)] at h
      exact h
    · refine ⟨n - (k + 1), by omega, k + 1, by rw [wrap_nat (by omega)], by omega, rfl, ?_, rfl⟩
      rw [take_s hkL, List.mem_append]
      rintro (hh | hh)
      · exact hno hh
      · simp at hh; exact g hh
  · refine ⟨_, rfl, ?_⟩
    rw [List.take_of_length_le (by omega)] at hno
    rw [decide_eq_false hno] at h
    exact h
/- a predicate on numbers -/
def PredI (f : Fn) (fa fb : Array Value) (q : Int → Bool) (l : List Int) (J : World → Prop) : Prop :=
  ∀ s ∈ l, ∀ (W : World) (K : Ending → World → Prop), J W → (∀ W', Ext W W' → K (.returned (.bool (q s))) W') → CallV Tryz.prog (.func f fa fb) [.int .i64 s] W K
theorem IndexFuncI_spec {f : Fn} {fa fb : Array Value} {q : Int → Bool} {L : List Int} {J : World → Prop} (h1 : RowV vI S w a n L)
    (hs : n ≤ 4611686018427387904) (hp : PredI f fa fb q L J) (hJ0 : J w) (hJe : ∀ W W', J W → Ext W W' → J W')
    (h : ∀ w', Ext w w' → R (.returned (.int .i64 (ixF q L))) w') : Calls Tryz.prog F_slices_IndexFunc_of_int_int ⟨[.slice a n c, .func f fa fb]⟩ w R := by
  apply c_slices_IndexFunc_of_int_int
  have hn := h1.1
  refine ⟨fun i W m => ∃ k : Nat, i = k ∧ k ≤ n ∧ m = n - k ∧ (∀ x ∈ L.take k, q x = false) ∧ Ext w W, ⟨_, 0, rfl, by omega, rfl, by simp, Below.refl _ _⟩, ?_⟩
  rintro _ W m ⟨k, rfl, hk, rfl, hno, he⟩ _
  refine br_split (fun hlt => ?_) (fun hge => ?_)
  · have hkL : k < L.length := by omega
    obtain ⟨p, hp1, hc⟩ := (h1.ext he).int hkL
    refine hp1 _ ⟨_, hc, hp _ (List.getElem_mem hkL) W _ (hJe _ _ hJ0 he) fun W' e' => ⟨_, rfl, br_cases (fun g => ?_) (fun g => ?_)⟩⟩
    · have := h W' (ext_trans he e')
      rw [ixF_at hkL g hno] at this; exact this
    · exact ⟨n - (k + 1), by omega, k + 1, by rw [wrap_nat (by omega)], by omega, rfl, no_take hkL g hno, ext_trans he e'⟩
  · rw [List.take_of_length_le (by omega)] at hno
    have := h W he
    rw [ixF_no hno] at this; exact this
theorem ContainsFuncI_spec {f : Fn} {fa fb : Array Value} {q : Int → Bool} {L : List Int} {J : World → Prop} (h1 : RowV vI S w a n L)
    (hs : n ≤ 4611686018427387904) (hp : PredI f fa fb q L J) (hJ0 : J w) (hJe : ∀ W W', J W → Ext W W' → J W')
    (h : ∀ w', Ext w w' → R (.returned (.bool (L.any q))) w') : Calls Tryz.prog F_slices_ContainsFunc_of_int_int ⟨[.slice a n c, .func f fa fb]⟩ w R := by
  apply c_slices_ContainsFunc_of_int_int
  refine IndexFuncI_spec h1 hs hp hJ0 hJe fun w' e' => ⟨_, rfl, ?_⟩
  rw [ixF_ge]; exact h w' e'
theorem slT_int : SlT Tryz.prog 30 3 1 8 (.int .i64 0) := ⟨by kernel_rfl, by kernel_rfl, rfl, by decide⟩
end
end Go.Proofs
namespace Go.Proofs
open Go Go.Sh Go.RowKit
/- small facts -/
theorem getD_at {α : Type} {l : List α} {i : Nat} (h : i < l.length) (d : α) : l.getD i d = l[i] := by rw [List.getD_eq_getElem?_getD, List.getElem?_eq_getElem h]; rfl
/- stemma.Check -/
abbrev Nm := List UInt8
def leafB (s : Nm) : Bool := if s[s.length - 1]? = some 42 then decide (s.length ≤ 16) && isNameF (s.take (s.length - 1)) else isNameF s
section
variable {R : Ending → World → Prop} {w : World}
end
end Go.Proofs
namespace Go.Proofs
open Go Go.Sh Go.RowKit
/- cells by a function; slices that grow, several of them in one block -/
theorem bat {w : World} {b : Nat} {cs : List Value} {T : TypeId} (h : Blk w b cs T) {i : Nat} {v : Value} (hv : cs[i]? = some v) : w.cell? ((⟨b, 0, none⟩ : Addr).add i) = some v := by
  rw [add_none, Nat.zero_add, h.cell, hv]
def fC (m : Nat) (f : Nat → Value) : List Value := (List.range m).map f
theorem fC_len (m : Nat) (f : Nat → Value) : (fC m f).length = m := by simp [fC]
theorem fC_get {m : Nat} {f : Nat → Value} {j : Nat} (h : j < m) : (fC m f)[j]? = some (f j) := by
  unfold fC
  rw [List.getElem?_map, List.getElem?_range h]; rfl
theorem fC_set {m : Nat} {f : Nat → Value} {j : Nat} {v : Value} : (fC m f).set j v = fC m (fun i => if i = j then v else f i) := by
  refine List.ext_getElem? fun i => ?_
  rw [List.getElem?_set, fC_len]
  by_cases hi : i < m
  · rw [fC_get hi, fC_get hi]
    by_cases e : j = i
    · subst e; simp [hi]
    · rw [if_neg e, if_neg (fun q => e q.symm)]
  · rw [List.getElem?_eq_none (by rw [fC_len]; omega), List.getElem?_eq_none (by rw [fC_len]; omega)]
    by_cases e : j = i
    · rw [if_pos e, if_neg (by omega)]
    · rw [if_neg e]
theorem fC_congr {m : Nat} {f g : Nat → Value} (h : ∀ j, j < m → f j = g j) : fC m f = fC m g := by
  unfold fC
  exact List.map_congr_left fun j hj => h j (List.mem_range.1 hj)
theorem fC_rep (n : Nat) (v : Value) : (List.replicate n [v]).flatten = fC n (fun _ => v) := by
  unfold fC
  rw [List.map_const', List.length_range]
  induction n with
  | zero => rfl
  | succ n ih => rw [List.replicate_succ, List.replicate_succ, List.flatten_cons, ih]; rfl
/- storing one cell of such a block -/
theorem stL_fC {w : World} {b m : Nat} {f : Nat → Value} {T : TypeId} {j : Nat} {v : Value} {K : World → Prop} (h : Blk w b (fC m f) T) (hj : j < m) (hv : v.oneCell' = true)
    (hk : ∀ w', Blk w' b (fC m fun i => if i = j then v else f i) T → Chg (fun k => k = b) w w' → w'.heap.size = w.heap.size → K w') : stL w ⟨b, j, none⟩ 0 [v] K := by
  refine stL_blk h (by rw [fC_len]; simp; omega) (by simpa using hv) fun w' h1 h2 h3 h4 h5 h6 => hk w' ?_ ⟨h4, h5, h6, by omega, fun k _ hk => h2 k hk⟩ h3
  rw [← fC_set]; exact h1
abbrev Slv := Option Addr × Nat × Nat
def slC (s : Slv) : Value := .slice s.1 s.2.1 s.2.2
structure RowsG {α : Type} (E : Enc α) (e : TypeId) (B : Nat) (w : World) (m : Nat) (r : Nat → Slv) (F : Nat → List α) : Prop where
  own : ∀ j, j < m → OwnL E w B e (r j).1 (r j).2.1 (r j).2.2 (F j)
  dj : ∀ i j, i < m → j < m → i ≠ j → ∀ k, bk (r i).1 k → ¬ bk (r j).1 k
section
variable {α : Type} {E : Enc α} {e : TypeId} {B : Nat} {w w' : World} {m : Nat} {r : Nat → Slv} {F : Nat → List α}
theorem RowsG.chg {T : Nat → Prop} (h : RowsG E e B w m r F) (hc : Chg T w w') (hT : ∀ j, j < m → ∀ k, bk (r j).1 k → ¬ T k) : RowsG E e B w' m r F :=
  ⟨fun j hj => Owns.chg (h.own j hj) hc (hT j hj), h.dj⟩
theorem RowsG.ext (h : RowsG E e B w m r F) (hc : Ext w w') : RowsG E e B w' m r F := ⟨fun j hj => Owns.ext (h.own j hj) hc, h.dj⟩
theorem RowsG.bk (h : RowsG E e B w m r F) {j k : Nat} (hj : j < m) (hk : Sh.bk (r j).1 k) : B ≤ k ∧ k < w.heap.size := Owns.bk (h.own j hj) hk
theorem RowsG.nil (w : World) (m : Nat) : RowsG E e B w m (fun _ => (none, 0, 0)) (fun _ => []) := ⟨fun j _ => Owns.nil _ _ _ _, fun i j _ _ _ k hk => by simp [Sh.bk] at hk⟩
theorem RowsG.row (h : RowsG E e B w m r F) {j : Nat} (hj : j < m) : RowAt E (Sh.bk (r j).1) w (r j).1 (r j).2.1 (F j) := OwnL.out (h.own j hj)
theorem RowsG.len (h : RowsG E e B w m r F) {j : Nat} (hj : j < m) : (F j).length = (r j).2.1 := OwnL.length (h.own j hj)
theorem RowsG.cap (h : RowsG E e B w m r F) {j : Nat} (hj : j < m) : (r j).2.1 ≤ (r j).2.2 := ((ownV_enc (S := fun _ => True)).2 (h.own j hj)).cap
/- one row is another one now -/
theorem RowsG.put {j : Nat} {a : Option Addr} {n c : Nat} {l : List α} (h : RowsG E e B w m r F) (hj : j < m) (hO : OwnL E w' B e a n c l) (hc : Chg (Sh.bk (r j).1) w w') (ha : ∀ k, Sh.bk a k → Sh.bk (r j).1 k ∨ w.heap.size ≤ k) :
    RowsG E e B w' m (fun i => if i = j then (a, n, c) else r i) (fun i => if i = j then l else F i) := by
  refine ⟨fun i hi => ?_, fun i i' hi hi' hne k hk => ?_⟩
  · by_cases e : i = j
    · simp only [if_pos e]; exact hO
    · simp only [if_neg e]
      exact Owns.chg (h.own i hi) hc fun k hk => h.dj i j hi hj e k hk
  · by_cases e : i = j
    · by_cases e' : i' = j
      · exact absurd (e.trans e'.symm) hne
      · simp only [if_pos e] at hk
        simp only [if_neg e']
        intro hk'
        rcases ha k hk with h1 | h1
        · exact h.dj i' j hi' hj e' k hk' h1
        · have := (h.bk hi' hk').2; omega
    · simp only [if_neg e] at hk
      by_cases e' : i' = j
      · simp only [if_pos e']
        intro hk'
        rcases ha k hk' with h1 | h1
        · exact h.dj i j hi hj e k hk h1
        · have := (h.bk hi hk).2; omega
      · simp only [if_neg e']
        exact h.dj i i' hi hi' hne k hk
theorem RowsG.congr {F' : Nat → List α} (h : RowsG E e B w m r F) (hF : ∀ j, j < m → F j = F' j) : RowsG E e B w m r F' := ⟨fun j hj => by rw [← hF j hj]; exact h.own j hj, h.dj⟩
/- as a slice of slices, to be read -/
theorem RowsG.out {b : Nat} {T : TypeId} {S : Nat → Prop} (h : RowsG E e B w m r F) (hb : Blk w b (fC m fun j => slC (r j)) T) (hS : ∀ k, (k = b ∨ B ≤ k) → k < w.heap.size → S k) :
    RowV (View.sl (View.enc E)) S w (some ⟨b, 0, none⟩) m ((List.range m).map F) := by
  have hA : ∀ k, k ≤ m → AllV (View.sl (View.enc E)) S w ((List.range k).map F) (fC k fun j => slC (r j)) := by
    intro k
    induction k with
    | zero => exact fun _ => rfl
    | succ k ih =>
      intro hk
      have hkm : k < m := by omega
      unfold fC
      rw [List.range_succ, List.map_append, List.map_append]
      refine (ih (by omega)).app (AllV.single ⟨(r k).1, (r k).2.2, ?_, ?_, ?_⟩)
      · show [slC (r k)] = _
        rw [h.len hkm]; rfl
      · rw [h.len hkm]; exact h.cap hkm
      · rw [h.len hkm]
        exact rowV_enc.2 ((h.row hkm).imp fun q hq hl => hS q (.inr (h.bk hkm hq).1) hl)
  exact ⟨by simp, _, .inr ⟨b, 0, rfl, hS b (.inl rfl) hb.lt, hb.lt, fun j v hj => by rw [Nat.zero_add, hb.cell]; exact hj⟩, hA m (Nat.le_refl _)⟩
end
end Go.Proofs
namespace Go.Proofs
open Go Go.Sh Go.RowKit
/- contamination.Choices; slices.Equal of numbers; the sizes that are looked at -/
theorem RowV.uniq {α : Type} {E : Enc α} {S S' : Nat → Prop} {w : World} {a : Option Addr} {n : Nat} {l : List α} (h : RowV (View.enc E) S w a n l) : n = l.length := h.1
section
variable {R : Ending → World → Prop} {w : World} {S S2 : Nat → Prop}
theorem EqualI_spec {a b : Option Addr} {n c m d : Nat} {L M : List Int} (h1 : RowV vI S w a n L) (h2 : RowV vI S2 w b m M) (hs : n ≤ 4611686018427387904) (h : ∀ w', Ext w w' → R (.returned (.bool (decide (L = M)))) w') :
    Calls Tryz.prog F_slices_Equal_of_int_int ⟨[.slice a n c, .slice b m d]⟩ w R := by
  apply c_slices_Equal_of_int_int
  have hn := h1.1
  have hm := h2.1
  refine br_split (fun g => ?_) (fun g => ?_)
  · have := h w (Below.refl _ _)
    rw [decide_eq_false (fun hh => g (by rw [hh] at hn; omega))] at this; exact this
  refine ⟨fun i W m' => ∃ k : Nat, i = k ∧ k ≤ n ∧ m' = n - k ∧ L.take k = M.take k ∧ Ext w W, ⟨_, 0, rfl, by omega, rfl, rfl, Below.refl _ _⟩, ?_⟩
  rintro _ W m' ⟨k, rfl, hk, rfl, he, eW⟩ _
  refine br_split (fun hlt => ?_) (fun hge => ?_)
  · have hkL : k < L.length := by omega
    have hkM : k < M.length := by omega
    unfold drw
    have ed := ext_trans eW (ext_drew W)
    generalize W.drew = V at *
    obtain ⟨p, hp, d1⟩ := (h1.ext ed).int hkL
    obtain ⟨q, hq, d2⟩ := (h2.ext ed).int hkM
    refine hp _ ⟨_, d1, hq _ ⟨_, d2, br_split (fun g2 => ?_) (fun g2 => ?_)⟩⟩
    · have := h V ed
      rw [decide_eq_false (fun hh => g2 (by subst hh; rfl))] at this; exact this
    · refine ⟨n - (k + 1), by omega, k + 1, by rw [wrap_nat (by omega)], by omega, rfl, ?_, ed⟩
      rw [take_s hkL, take_s hkM, he, Decidable.not_not.1 g2]
  · rw [List.take_of_length_le (by omega), List.take_of_length_le (by omega)] at he
    have := h W eW
    rw [decide_eq_true he] at this; exact this
end
end Go.Proofs
namespace Go.Proofs
open Go Go.Sh Go.RowKit
/- cells and rows of blocks, indices, steps of regions, slices that grow at once -/
theorem idx_b {b n j sz : Nat} {K : Addr → Prop} (h : j < n) (hK : K ⟨b, j * sz, none⟩) : idx (some ⟨b, 0, none⟩) n (j : Int) sz K :=
  ⟨by omega, by omega, by show K _; rw [add_none, Int.toNat_natCast, Nat.zero_add]; exact hK⟩
theorem idx_b1 {b n j : Nat} {K : Addr → Prop} (h : j < n) (hK : K ⟨b, j, none⟩) : idx (some ⟨b, 0, none⟩) n (j : Int) 1 K := idx_b h (by rw [Nat.mul_one]; exact hK)
theorem rowAt_b {α : Type} {E : Enc α} {w : World} {b : Nat} {l : List α} {T : TypeId} (h : Blk w b (E.row l) T) : RowAt E (fun k => k = b) w (some ⟨b, 0, none⟩) l.length l :=
  ⟨rfl, .inr ⟨b, 0, rfl, rfl, h.lt, fun j v hj => by rw [Nat.zero_add, h.cell]; exact hj⟩⟩
theorem b0_cell {w : World} {b : Nat} {v : Value} {vs : List Value} {T : TypeId} (h : Blk w b (v :: vs) T) : w.cell? ⟨b, 0, none⟩ = some v := by rw [h.cell]; rfl
section
variable {w : World}
end
end Go.Proofs
namespace Go.Proofs
/- pairs of numbers of lines; pages from a pair on, with their costs -/
abbrev Spot := Nat × Nat
/- the least of n + p over those with p not negative; -1 if there is none -/
def leastP : List (Int × Int) → Int → Int
  | [], m => m
  | x :: r, m => leastP r (if 0 ≤ x.2 ∧ (m < 0 ∨ x.1 + x.2 < m) then x.1 + x.2 else m)
theorem leastP_le : ∀ {l : List (Int × Int)} {m : Int}, (∀ x ∈ l, 0 ≤ x.1) → (0 ≤ m → 0 ≤ leastP l m ∧ leastP l m ≤ m) ∧ ∀ x ∈ l, 0 ≤ x.2 → 0 ≤ leastP l m ∧ leastP l m ≤ x.1 + x.2
  | [], m, _ => ⟨fun h => ⟨h, Int.le_refl _⟩, fun x hx => by cases hx⟩
  | x :: l, m, hl => by
    rw [leastP]
    have h1 := hl x (List.mem_cons_self ..)
    obtain ⟨h2, h3⟩ := leastP_le (l := l) (m := if 0 ≤ x.2 ∧ (m < 0 ∨ x.1 + x.2 < m) then x.1 + x.2 else m) fun y hy => hl y (List.mem_cons_of_mem _ hy)
    refine ⟨fun hm => ?_, fun y hy h0 => ?_⟩
    · have := h2 (by split <;> omega)
      refine ⟨this.1, Int.le_trans this.2 ?_⟩
      split <;> omega
    · rcases List.mem_cons.1 hy with rfl | hy
      · have := h2 (by split <;> omega)
        refine ⟨this.1, Int.le_trans this.2 ?_⟩
        split <;> omega
      · exact h3 y hy h0
theorem leastP_at : ∀ {l : List (Int × Int)} {m : Int}, 0 ≤ leastP l m → leastP l m = m ∨ ∃ x ∈ l, 0 ≤ x.2 ∧ leastP l m = x.1 + x.2
  | [], m, _ => .inl rfl
  | x :: l, m, h => by
    rw [leastP] at h ⊢
    rcases leastP_at h with h1 | ⟨y, hy, h2⟩
    · by_cases hc : 0 ≤ x.2 ∧ (m < 0 ∨ x.1 + x.2 < m)
      · rw [if_pos hc] at h1 ⊢
        exact .inr ⟨x, List.mem_cons_self .., hc.1, h1⟩
      · rw [if_neg hc] at h1 ⊢
        exact .inl h1
    · exact .inr ⟨y, List.mem_cons_of_mem _ hy, h2⟩
/- potentials: by the distance to the last spot -/
section
variable (last : Spot) (pages : Spot → List (Spot × Int)) (ok : Spot → Spot → Bool)
def dis (s : Spot) : Nat := (last.1 - s.1) + (last.2 - s.2)
/- pages lead forward, cost nothing negative, and stay within -/
structure Fwd : Prop where
  cost : ∀ s x, x ∈ pages s → 0 ≤ x.2
  less : ∀ s x, x ∈ pages s → x.1 ≠ s ∧ s.1 ≤ x.1.1 ∧ s.2 ≤ x.1.2 ∧ x.1.1 ≤ last.1 ∧ x.1.2 ≤ last.2
/- a way from a spot to the last one -/
def way : Spot → List (Spot × Int) → Prop
  | s, [] => s = last
  | s, x :: l => s ≠ last ∧ x ∈ pages s ∧ way x.1 l
end
variable {last : Spot} {pages : Spot → List (Spot × Int)} {ok ok' : Spot → Spot → Bool}
theorem Fwd.dis (h : Fwd last pages) {s : Spot} {x : Spot × Int} (hx : x ∈ pages s) : dis last x.1 < dis last s := by
  obtain ⟨h1, h2, h3, h4, h5⟩ := h.less s x hx
  unfold Go.Proofs.dis
  have : ¬ (x.1.1 = s.1 ∧ x.1.2 = s.2) := fun hh => h1 (Prod.ext hh.1 hh.2)
  omega
theorem Fwd.pairs (h : Fwd last pages) (f : Spot → Int) (s : Spot) : ∀ y ∈ ((pages s).filter fun x => ok s x.1).map fun x => (x.2, f x.1), 0 ≤ y.1 := by
  intro y hy
  obtain ⟨x, hx, rfl⟩ := List.mem_map.1 hy
  exact h.cost s x (List.mem_filter.1 hx).1
/- no way costs less than the potential -/
/- the fuel does not matter -/
end Go.Proofs
namespace Go.Proofs
/- trees as arrays of parents: the fewest changes, by a table -/
def sumR (g : Nat → Int) : Nat → Int
  | 0 => 0
  | n + 1 => sumR g n + g n
theorem sumR_congr {g h : Nat → Int} : ∀ {n : Nat}, (∀ i, i < n → g i = h i) → sumR g n = sumR h n
  | 0, _ => rfl
  | n + 1, e => by
    show sumR g n + g n = sumR h n + h n
    rw [sumR_congr fun i hi => e i (by omega), e n (by omega)]
theorem sumR_add (g h : Nat → Int) : ∀ n : Nat, sumR (fun i => g i + h i) n = sumR g n + sumR h n
  | 0 => rfl
  | n + 1 => by
    show sumR (fun i => g i + h i) n + (g n + h n) = (sumR g n + g n) + (sumR h n + h n)
    rw [sumR_add g h n]; omega
theorem sumR_zero : ∀ n : Nat, sumR (fun _ => 0) n = 0
  | 0 => rfl
  | n + 1 => by show sumR (fun _ => 0) n + 0 = 0; rw [sumR_zero n]; rfl
theorem sumR_le {g h : Nat → Int} : ∀ {n : Nat}, (∀ i, i < n → g i ≤ h i) → sumR g n ≤ sumR h n
  | 0, _ => Int.le_refl _
  | n + 1, e => by
    show sumR g n + g n ≤ sumR h n + h n
    have := sumR_le (n := n) fun i hi => e i (by omega)
    have := e n (by omega)
    omega
theorem sumR_nn {g : Nat → Int} {n : Nat} (h : ∀ i, i < n → 0 ≤ g i) : 0 ≤ sumR g n := by
  have := sumR_le (g := fun _ => 0) h
  rwa [sumR_zero] at this
theorem sumR_ind (x : Int) (j : Nat) : ∀ n : Nat, sumR (fun i => if i = j then x else 0) n = if j < n then x else 0
  | 0 => rfl
  | n + 1 => by
    show sumR (fun i => if i = j then x else 0) n + (if n = j then x else 0) = _
    rw [sumR_ind x j n]
    by_cases h : n = j
    · subst h; rw [if_neg (Nat.lt_irrefl _), if_pos rfl, if_pos (by omega)]; omega
    · rw [if_neg h]
      by_cases h2 : j < n
      · rw [if_pos h2, if_pos (by omega)]; omega
      · rw [if_neg h2, if_neg (by omega)]; omega
theorem sumR_mem {g : Nat → Int} {n : Nat} (h : ∀ i, i < n → 0 ≤ g i) {j : Nat} (hj : j < n) : g j ≤ sumR g n := by
  have h1 := sumR_le (g := fun i => if i = j then g j else 0) (h := g) (n := n) fun i hi => by
    by_cases e : i = j
    · subst e; rw [if_pos rfl]; exact Int.le_refl _
    · rw [if_neg e]; exact h i hi
  rw [sumR_ind, if_pos hj] at h1
  exact h1
/- the sum over parents of the sums over children -/
theorem sumR_kids {P : Nat → Nat} {n : Nat} (g : Nat → Int) : ∀ {N : Nat}, (∀ c, 0 < c → c < N → P c < c ∧ P c < n) →
    sumR (fun i => sumR (fun c => if i < c ∧ P c = i then g c else 0) N) n = sumR (fun c => if 0 < c then g c else 0) N
  | 0, _ => sumR_zero n
  | N + 1, h => by
    have e : (fun i => sumR (fun c => if i < c ∧ P c = i then g c else 0) (N + 1)) = fun i => sumR (fun c => if i < c ∧ P c = i then g c else 0) N + (if i < N ∧ P N = i then g N else 0) := rfl
    rw [e, sumR_add, sumR_kids g fun c h0 hc => h c h0 (by omega)]
    show _ = sumR (fun c => if 0 < c then g c else 0) N + (if 0 < N then g N else 0)
    congr 1
    by_cases hN : 0 < N
    · obtain ⟨h1, h2⟩ := h N hN (by omega)
      rw [if_pos hN, ← sumR_congr (g := fun i => if i = P N then g N else 0), sumR_ind, if_pos h2]
      intro i _
      by_cases e : i = P N
      · rw [if_pos e, if_pos ⟨by omega, e.symm⟩]
      · rw [if_neg e, if_neg fun q => e q.2.symm]
    · rw [if_neg hN, ← sumR_congr (g := fun _ => 0), sumR_zero]
      intro i _
      rw [if_neg fun q => by omega]
def uC (s t : Nat) : Int := if s = t then 0 else 1
theorem uC_nn (s t : Nat) : 0 ≤ uC s t ∧ uC s t ≤ 1 := by unfold uC; split <;> omega
/- changes of an assignment of states -/
def chgA (n : Nat) (P : Nat → Nat) (a : Nat → Nat) : Int := sumR (fun c => if 0 < c then uC (a (P c)) (a c) else 0) n
def misS (st : Nat → Option Nat) (i s : Nat) : Bool := match st i with
  | none => false
  | some x => x != s
def bstF (m : Nat) (F : Nat → Nat → Int) (c s : Nat) : Int := leastP ((List.range m).map fun t => (uC s t, F c t)) (-1)
/- the table of a tree with n nodes and states under m -/
structure Tab (n m : Nat) (P : Nat → Nat) (st : Nat → Option Nat) (F : Nat → Nat → Int) : Prop where
  n0 : 0 < n
  m0 : 0 < m
  par : ∀ c, 0 < c → c < n → P c < c
  leaf : ∀ i x, i < n → st i = some x → x < m ∧ ∀ c, i < c → c < n → P c ≠ i
  row : ∀ i s, i < n → s < m → F i s = (if misS st i s = true then -1 else 0) + sumR (fun c => if i < c ∧ P c = i then bstF m F c s else 0) n
def okA' (n m : Nat) (st : Nat → Option Nat) (a : Nat → Nat) : Prop := ∀ i, i < n → a i < m ∧ ∀ x, st i = some x → a i = x
section
variable {n m : Nat} {P : Nat → Nat} {st : Nat → Option Nat} {F : Nat → Nat → Int}
theorem bst_pairs (m : Nat) (F : Nat → Nat → Int) (c s : Nat) : ∀ x ∈ (List.range m).map fun t => (uC s t, F c t), 0 ≤ x.1 := by
  intro x hx
  obtain ⟨t, _, rfl⟩ := List.mem_map.1 hx
  exact (uC_nn s t).1
theorem bst_le {c s t : Nat} (ht : t < m) (h : 0 ≤ F c t) : 0 ≤ bstF m F c s ∧ bstF m F c s ≤ uC s t + F c t :=
  (leastP_le (m := -1) (bst_pairs m F c s)).2 (uC s t, F c t) (List.mem_map.2 ⟨t, List.mem_range.2 ht, rfl⟩) h
theorem bst_at {c s : Nat} (h : 0 ≤ bstF m F c s) : ∃ t, t < m ∧ 0 ≤ F c t ∧ bstF m F c s = uC s t + F c t := by
  rcases leastP_at h with h1 | ⟨x, hx, h2, h3⟩
  · have : bstF m F c s = -1 := h1
    omega
  · obtain ⟨t, ht, rfl⟩ := List.mem_map.1 hx
    exact ⟨t, List.mem_range.1 ht, h2, h3⟩
/- each node has a state without a lack -/
theorem Tab.nn (h : Tab n m P st F) : ∀ (k i : Nat), i < n → n ≤ i + k → (∀ s, s < m → misS st i s = false → 0 ≤ F i s) ∧ ∃ s, s < m ∧ misS st i s = false
  | 0, i, h1, h2 => by omega
  | k + 1, i, h1, h2 => by
    have hb : ∀ s, 0 ≤ sumR (fun c => if i < c ∧ P c = i then bstF m F c s else 0) n := fun s => sumR_nn fun c hc => by
      split
      · rename_i hh
        obtain ⟨g1, t, g2, g3⟩ := h.nn k c hc (by omega)
        exact (bst_le g2 (g1 t g2 g3)).1
      · exact Int.le_refl _
    refine ⟨fun s hs hm => ?_, ?_⟩
    · rw [h.row i s h1 hs, if_neg (by rw [hm]; decide)]
      have := hb s; omega
    · cases hs : st i with
      | none => exact ⟨0, h.m0, by unfold misS; rw [hs]⟩
      | some x => exact ⟨x, (h.leaf i x h1 hs).1, by unfold misS; rw [hs]; simp⟩
theorem Tab.bst_nn (h : Tab n m P st F) {c : Nat} (hc : c < n) (s : Nat) : 0 ≤ bstF m F c s := by
  obtain ⟨g1, t, g2, g3⟩ := h.nn n c hc (by omega)
  exact (bst_le g2 (g1 t g2 g3)).1
theorem mis_ok {a : Nat → Nat} (ha : okA' n m st a) {i : Nat} (hi : i < n) : misS st i (a i) = false := by
  unfold misS
  cases hs : st i with
  | none => rfl
  | some x => rw [(ha i hi).2 x hs]; simp
/- what a mismatch costs -/
theorem Tab.mis (h : Tab n m P st F) {i s : Nat} (hi : i < n) (hs : s < m) (hm : misS st i s = true) : F i s = -1 := by
  rw [h.row i s hi hs, if_pos hm]
  have : sumR (fun c => if i < c ∧ P c = i then bstF m F c s else 0) n = 0 := by
    refine Eq.trans (b := sumR (fun _ => 0) n) ?_ (sumR_zero n)
    refine sumR_congr fun c hc => ?_
    unfold misS at hm
    cases hx : st i with
    | none => rw [hx] at hm; cases hm
    | some x => exact if_neg fun hh => (h.leaf i x hi hx).2 c hh.1 hc hh.2
  omega
theorem Tab.lo (h : Tab n m P st F) {a : Nat → Nat} (ha : okA' n m st a) : 0 ≤ F 0 (a 0) ∧ F 0 (a 0) ≤ chgA n P a := by
  refine ⟨(h.nn n 0 h.n0 (by omega)).1 _ (ha 0 h.n0).1 (mis_ok ha h.n0), ?_⟩
  have h1 : sumR (fun i => F i (a i)) n ≤ sumR (fun i => sumR (fun c => if i < c ∧ P c = i then uC (a (P c)) (a c) + F c (a c) else 0) n) n := by
    refine sumR_le fun i hi => ?_
    rw [h.row i _ hi (ha i hi).1, if_neg (by rw [mis_ok ha hi]; decide)]
    refine Int.le_trans (by omega) (sumR_le (g := fun c => if i < c ∧ P c = i then bstF m F c (a i) else 0) fun c hc => ?_)
    split
    · rename_i hh
      rw [hh.2]
      exact (bst_le (ha c hc).1 ((h.nn n c hc (by omega)).1 _ (ha c hc).1 (mis_ok ha hc))).2
    · exact Int.le_refl _
  rw [sumR_kids _ fun c h0 hc => ⟨h.par c h0 hc, by have := h.par c h0 hc; omega⟩] at h1
  have h2 : sumR (fun c => if 0 < c then uC (a (P c)) (a c) + F c (a c) else 0) n = chgA n P a + (sumR (fun i => F i (a i)) n - F 0 (a 0)) := by
    unfold chgA
    have e : sumR (fun i => F i (a i)) n = sumR (fun c => if 0 < c then F c (a c) else 0) n + sumR (fun c => if c = 0 then F 0 (a 0) else 0) n := by
      rw [← sumR_add]
      refine sumR_congr fun i _ => ?_
      by_cases hi : 0 < i
      · rw [if_pos hi, if_neg (by omega)]; omega
      · obtain rfl : i = 0 := by omega
        rw [if_neg hi, if_pos rfl]; omega
    rw [sumR_ind, if_pos h.n0] at e
    rw [e, Int.add_sub_cancel, ← sumR_add]
    refine sumR_congr fun i _ => ?_
    by_cases hi : 0 < i
    · rw [if_pos hi, if_pos hi, if_pos hi]
    · rw [if_neg hi, if_neg hi, if_neg hi]; rfl
  omega
/- a best assignment, downwards -/
noncomputable def argB (m : Nat) (F : Nat → Nat → Int) (c s : Nat) : Nat := Classical.epsilon fun t => t < m ∧ 0 ≤ F c t ∧ bstF m F c s = uC s t + F c t
noncomputable def asgB (m : Nat) (P : Nat → Nat) (F : Nat → Nat → Int) (s0 : Nat) : Nat → Nat → Nat
  | 0, _ => s0
  | f + 1, c => if c = 0 then s0 else argB m F c (asgB m P F s0 f (P c))
theorem asgB_fuel (s0 : Nat) (hp : ∀ c, 0 < c → c < n → P c < c) : ∀ (f g c : Nat), c < n → c ≤ f → c ≤ g → asgB m P F s0 f c = asgB m P F s0 g c
  | 0, g, c, _, h1, _ => by
    obtain rfl : c = 0 := by omega
    cases g with
    | zero => rfl
    | succ g => show s0 = if 0 = 0 then s0 else _; rw [if_pos rfl]
  | f + 1, 0, c, _, _, h2 => by
    obtain rfl : c = 0 := by omega
    show (if 0 = 0 then s0 else _) = s0; rw [if_pos rfl]
  | f + 1, g + 1, c, hn, h1, h2 => by
    rw [asgB, asgB]
    by_cases h0 : c = 0
    · rw [if_pos h0, if_pos h0]
    · rw [if_neg h0, if_neg h0]
      have := hp c (by omega) hn
      rw [asgB_fuel s0 hp f g (P c) (by omega) (by omega) (by omega)]
theorem Tab.hi (h : Tab n m P st F) {s0 : Nat} (hs : s0 < m) (h0 : 0 ≤ F 0 s0) : ∃ a, okA' n m st a ∧ a 0 = s0 ∧ chgA n P a = F 0 s0 := by
  let a : Nat → Nat := asgB m P F s0 n
  have a0 : a 0 = s0 := by
    show asgB m P F s0 n 0 = s0
    cases n with
    | zero => rfl
    | succ k => show (if 0 = 0 then s0 else _) = s0; rw [if_pos rfl]
  have ac : ∀ c, 0 < c → c < n → a c < m ∧ 0 ≤ F c (a c) ∧ bstF m F c (a (P c)) = uC (a (P c)) (a c) + F c (a c) := by
    intro c hc hn
    have hp := h.par c hc hn
    have e : a c = argB m F c (a (P c)) := by
      show asgB m P F s0 n c = argB m F c (asgB m P F s0 n (P c))
      obtain ⟨k, rfl⟩ : ∃ k, n = k + 1 := ⟨n - 1, by omega⟩
      rw [asgB_fuel (n := k + 1) s0 h.par (k + 1) k (P c) (by omega) (by omega) (by omega), asgB, if_neg (by omega)]
    rw [e]
    exact Classical.epsilon_spec (bst_at (h.bst_nn hn (a (P c))))
  have ai : ∀ i, i < n → a i < m ∧ 0 ≤ F i (a i) := fun i hi => by
    by_cases e : i = 0
    · subst e; rw [a0]; exact ⟨hs, h0⟩
    · exact ⟨(ac i (by omega) hi).1, (ac i (by omega) hi).2.1⟩
  have ok : okA' n m st a := fun i hi => ⟨(ai i hi).1, fun x hx => by
    apply Classical.byContradiction
    intro hne
    have hm : misS st i (a i) = true := by unfold misS; rw [hx]; simpa using fun q => hne q.symm
    have := h.mis hi (ai i hi).1 hm
    have := (ai i hi).2
    omega⟩
  refine ⟨a, ok, a0, ?_⟩
  have h1 : sumR (fun i => F i (a i)) n = sumR (fun i => sumR (fun c => if i < c ∧ P c = i then uC (a (P c)) (a c) + F c (a c) else 0) n) n := by
    refine sumR_congr fun i hi => ?_
    rw [h.row i _ hi (ai i hi).1, if_neg (by rw [mis_ok ok hi]; decide), Int.zero_add]
    refine sumR_congr fun c hc => ?_
    by_cases hh : i < c ∧ P c = i
    · rw [if_pos hh, if_pos hh, ← (ac c (by omega) hc).2.2, hh.2]
    · rw [if_neg hh, if_neg hh]
  rw [sumR_kids _ fun c h0 hc => ⟨h.par c h0 hc, by have := h.par c h0 hc; omega⟩] at h1
  have h2 : sumR (fun c => if 0 < c then uC (a (P c)) (a c) + F c (a c) else 0) n = chgA n P a + (sumR (fun i => F i (a i)) n - F 0 (a 0)) := by
    unfold chgA
    have e : sumR (fun i => F i (a i)) n = sumR (fun c => if 0 < c then F c (a c) else 0) n + sumR (fun c => if c = 0 then F 0 (a 0) else 0) n := by
      rw [← sumR_add]
      refine sumR_congr fun i _ => ?_
      by_cases hi : 0 < i
      · rw [if_pos hi, if_neg (by omega)]; omega
      · obtain rfl : i = 0 := by omega
        rw [if_neg hi, if_pos rfl]; omega
    rw [sumR_ind, if_pos h.n0] at e
    rw [e, Int.add_sub_cancel, ← sumR_add]
    refine sumR_congr fun i _ => ?_
    by_cases hi : 0 < i
    · rw [if_pos hi, if_pos hi, if_pos hi]
    · rw [if_neg hi, if_neg hi, if_neg hi]; rfl
  rw [a0] at h2
  omega
def rootV (m : Nat) (F : Nat → Nat → Int) : Int := leastP ((List.range m).map fun s => (0, F 0 s)) (-1)
/- the least of the root's row is the least number of changes -/
structure LeastC (n m : Nat) (P : Nat → Nat) (st : Nat → Option Nat) (v : Int) : Prop where
  at_ : ∃ a, okA' n m st a ∧ chgA n P a = v
  le : ∀ a, okA' n m st a → v ≤ chgA n P a
theorem Tab.least (h : Tab n m P st F) : LeastC n m P st (rootV m F) := by
  have hp : ∀ x ∈ (List.range m).map fun s => ((0 : Int), F 0 s), 0 ≤ x.1 := fun x hx => by
    obtain ⟨t, _, rfl⟩ := List.mem_map.1 hx
    exact Int.le_refl _
  have hle : ∀ s, s < m → 0 ≤ F 0 s → 0 ≤ rootV m F ∧ rootV m F ≤ F 0 s := fun s hs h0 => by
    have := (leastP_le (m := -1) hp).2 (0, F 0 s) (List.mem_map.2 ⟨s, List.mem_range.2 hs, rfl⟩) h0
    have e : (leastP ((List.range m).map fun s => ((0 : Int), F 0 s)) (-1)) = rootV m F := rfl
    rw [e] at this
    dsimp only at this
    omega
  obtain ⟨g1, s, g2, g3⟩ := h.nn n 0 h.n0 (by omega)
  refine ⟨?_, fun a ha => ?_⟩
  · have h0 := (hle s g2 (g1 s g2 g3)).1
    rcases leastP_at (show 0 ≤ leastP ((List.range m).map fun s => ((0 : Int), F 0 s)) (-1) from h0) with h1 | ⟨x, hx, h2, h3⟩
    · have : rootV m F = -1 := h1
      omega
    · obtain ⟨t, ht, rfl⟩ := List.mem_map.1 hx
      obtain ⟨a, q1, _, q3⟩ := h.hi (List.mem_range.1 ht) h2
      exact ⟨a, q1, by rw [q3]; exact (h3.trans (Int.zero_add _)).symm⟩
  · obtain ⟨l1, l2⟩ := h.lo ha
    have := (hle (a 0) (ha 0 h.n0).1 l1).2
    omega
theorem LeastC.uniq {v v' : Int} (h : LeastC n m P st v) (h' : LeastC n m P st v') : v = v' := by
  obtain ⟨a, h1, h2⟩ := h.at_
  obtain ⟨b, h3, h4⟩ := h'.at_
  have := h.le b h3
  have := h'.le a h1
  omega
end
end Go.Proofs
namespace Go.Proofs
/- the tree of splits that are compatible: where its nodes hang, and that a row of states changes once on it -/
theorem pigeon {α : Type} [DecidableEq α] : ∀ {l1 l2 : List α}, l1.Nodup → (∀ x ∈ l1, x ∈ l2) → l2.length ≤ l1.length → ∀ x ∈ l2, x ∈ l1
  | [], l2, _, _, h, x, hx => by
    have : l2 = [] := List.eq_nil_of_length_eq_zero (by simpa using h)
    subst this; cases hx
  | y :: t, l2, hn, hs, h, x, hx => by
    rw [List.nodup_cons] at hn
    have hy := hs y List.mem_cons_self
    by_cases e : x = y
    · subst e; exact List.mem_cons_self
    · refine List.mem_cons_of_mem _ (pigeon (l2 := l2.erase y) hn.2 (fun z hz => ?_) ?_ x ((List.mem_erase_of_ne e).2 hx))
      · have hzy : z ≠ y := fun q => hn.1 (q ▸ hz)
        exact (List.mem_erase_of_ne hzy).2 (hs z (List.mem_cons_of_mem _ hz))
      · rw [List.length_erase_of_mem hy]
        rw [List.length_cons] at h; omega
def bothF (a b : List Nat) : List Nat := a.filter fun x => decide (x ∈ b)
def compF (a b : List Nat) : Bool := decide ((bothF a b).length = 0) || (decide ((bothF a b).length = a.length) || decide ((bothF a b).length = b.length))
/- of two compatible splits with a common leaf the one that is not greater lies in the other -/
theorem comp_sub {a b : List Nat} (ha : a.Nodup) (hc : compF a b = true) {x : Nat} (hx : x ∈ a) (hx2 : x ∈ b) : (b.length ≤ a.length → ∀ y ∈ b, y ∈ a) ∧ (a.length ≤ b.length → ∀ y ∈ a, y ∈ b) := by
  unfold compF at hc
  simp only [Bool.or_eq_true, decide_eq_true_eq] at hc
  have hm : x ∈ bothF a b := List.mem_filter.2 ⟨hx, by simpa using hx2⟩
  have hbn : (bothF a b).Nodup := ha.sublist List.filter_sublist
  have hle : (bothF a b).length ≤ a.length := List.length_filter_le ..
  have e1 : (bothF a b).length = a.length → ∀ y ∈ a, y ∈ b := fun q y hy => by
    have := (List.filter_sublist (p := fun x => decide (x ∈ b)) (l := a)).eq_of_length q
    rw [← this] at hy
    simpa using (List.mem_filter.1 hy).2
  have e2 : (bothF a b).length = b.length → ∀ y ∈ b, y ∈ a := fun q y hy =>
    (List.mem_filter.1 (pigeon hbn (fun z hz => by simpa using (List.mem_filter.1 hz).2) (by omega) y hy)).1
  rcases hc with hc | hc | hc
  · have := List.length_pos_of_mem hm; omega
  · refine ⟨fun q => ?_, fun _ => e1 hc⟩
    have h3 := e1 hc
    exact pigeon ha h3 (by omega)
  · refine ⟨fun _ => e2 hc, fun q => ?_⟩
    exact e1 (by omega)
def gS (own : List (List Nat)) (k : Nat) : List Nat := own.getD k []
/- the last split before one with a leaf -/
def lastS' (own : List (List Nat)) (leaf : Nat) : Nat → Option Nat
  | 0 => none
  | k + 1 => if leaf ∈ gS own k then some k else lastS' own leaf k
theorem last_some {own : List (List Nat)} {leaf : Nat} : ∀ {k j : Nat}, lastS' own leaf k = some j → j < k ∧ leaf ∈ gS own j ∧ ∀ i, j < i → i < k → leaf ∉ gS own i
  | 0, _, h => by cases h
  | k + 1, j, h => by
    rw [lastS'] at h
    split at h
    · rename_i hm
      cases h
      exact ⟨by omega, hm, fun i h1 h2 => by omega⟩
    · rename_i hm
      obtain ⟨h1, h2, h3⟩ := last_some h
      refine ⟨by omega, h2, fun i q1 q2 => ?_⟩
      by_cases e : i = k
      · subst e; exact hm
      · exact h3 i q1 (by omega)
theorem last_none {own : List (List Nat)} {leaf : Nat} : ∀ {k : Nat}, lastS' own leaf k = none → ∀ i, i < k → leaf ∉ gS own i
  | 0, _, i, hi => by omega
  | k + 1, h, i, hi => by
    rw [lastS'] at h
    split at h
    · cases h
    · rename_i hm
      by_cases e : i = k
      · subst e; exact hm
      · exact last_none h i (by omega)
def upS (own : List (List Nat)) (leaf k : Nat) : Nat := match lastS' own leaf k with
  | some j => 3 + j
  | none => 2
/- the leaf that stands for a node, and before which split it hangs -/
def repS (own : List (List Nat)) (c : Nat) : Nat := if c < 3 + own.length then (gS own (c - 3)).headD 0 else c - 3 - own.length + 1
def ixS (own : List (List Nat)) (c : Nat) : Nat := if c < 3 + own.length then c - 3 else own.length
def parS (own : List (List Nat)) (c : Nat) : Nat := if c < 3 then 0 else upS own (repS own c) (ixS own c)
theorem upS_lt (own : List (List Nat)) (leaf k : Nat) : upS own leaf k < 3 + k := by
  unfold upS
  split
  · rename_i j h
    have := (last_some h).1; omega
  · omega
theorem parS_lt (own : List (List Nat)) {c : Nat} (h : 0 < c) : parS own c < c := by
  unfold parS
  split
  · exact h
  · rename_i hc
    have := upS_lt own (repS own c) (ixS own c)
    have : 3 + ixS own c ≤ c := by unfold ixS; split <;> omega
    omega
structure SplL (n : Nat) (own : List (List Nat)) : Prop where
  ne : ∀ s ∈ own, s ≠ []
  rng : ∀ s ∈ own, ∀ x ∈ s, 1 ≤ x ∧ x < n
  nd : ∀ s ∈ own, s.Nodup
  comp : ∀ i j, i < own.length → j < own.length → ∀ x, x ∈ gS own i → x ∈ gS own j → (gS own j).length ≤ (gS own i).length → ∀ y ∈ gS own j, y ∈ gS own i
  ord : ∀ i j, i ≤ j → j < own.length → (gS own j).length ≤ (gS own i).length
theorem gS_mem {own : List (List Nat)} {k : Nat} (h : k < own.length) : gS own k ∈ own := by
  unfold gS
  rw [List.getD_eq_getElem?_getD, List.getElem?_eq_getElem h]
  exact List.getElem_mem h
theorem SplL.sub {n : Nat} {own : List (List Nat)} (h : SplL n own) {k j : Nat} (hkj : k ≤ j) (hj : j < own.length) {x : Nat} (h1 : x ∈ gS own k) (h2 : x ∈ gS own j) : ∀ y ∈ gS own j, y ∈ gS own k :=
  h.comp k j (by omega) hj x h1 h2 (h.ord k j hkj hj)
theorem SplL.head {n : Nat} {own : List (List Nat)} (h : SplL n own) {k : Nat} (hk : k < own.length) : (gS own k).headD 0 ∈ gS own k := by
  have := h.ne _ (gS_mem hk)
  cases hg : gS own k with
  | nil => exact absurd hg this
  | cons a r => exact List.mem_cons_self
/- states of nodes: the leaves' own -/
def stS (own : List (List Nat)) (s : Nat → Nat) (c : Nat) : Option Nat := if c = 1 then some (s 0) else if 3 + own.length ≤ c then some (s (c - 3 - own.length + 1)) else none
theorem chg_one {N : Nat} {P a : Nat → Nat} {v : Nat} (hv : 0 < v) (hvn : v < N) (h1 : a (P v) ≠ a v) (h : ∀ c, 0 < c → c < N → c ≠ v → a (P c) = a c) : chgA N P a = 1 := by
  unfold chgA
  rw [sumR_congr (h := fun c => if c = v then 1 else 0), sumR_ind, if_pos hvn]
  intro c hc
  by_cases e : c = v
  · subst e; rw [if_pos rfl, if_pos hv]; unfold uC; rw [if_neg h1]
  · rw [if_neg e]
    by_cases h0 : 0 < c
    · rw [if_pos h0]; unfold uC; rw [if_pos (h c h0 hc e)]
    · rw [if_neg h0]
theorem chg_none {N : Nat} {P a : Nat → Nat} (h : ∀ c, 0 < c → c < N → a (P c) = a c) : chgA N P a = 0 := by
  unfold chgA
  rw [sumR_congr (h := fun _ => 0), sumR_zero]
  intro c hc
  by_cases h0 : 0 < c
  · rw [if_pos h0]; unfold uC; rw [if_pos (h c h0 hc)]
  · rw [if_neg h0]
theorem chg_zero {N : Nat} {P a : Nat → Nat} (hp : ∀ c, 0 < c → c < N → P c < c) (h : chgA N P a ≤ 0) : ∀ c, c < N → a c = a 0 := by
  have h1 : ∀ c, 0 < c → c < N → a (P c) = a c := by
    intro c h0 hc
    have := sumR_mem (g := fun c => if 0 < c then uC (a (P c)) (a c) else 0) (n := N) (fun i _ => by
      by_cases hi : 0 < i
      · rw [if_pos hi]; exact (uC_nn _ _).1
      · rw [if_neg hi]; exact Int.le_refl _) hc
    rw [if_pos h0] at this
    apply Classical.byContradiction
    intro hne
    have e : uC (a (P c)) (a c) = 1 := if_neg hne
    have e2 : chgA N P a = sumR (fun c => if 0 < c then uC (a (P c)) (a c) else 0) N := rfl
    omega
  intro c
  induction c using Nat.strongRecOn with
  | ind c ih =>
    intro hc
    by_cases h0 : 0 < c
    · rw [← h1 c h0 hc, ih (P c) (hp c h0 hc) (by have := hp c h0 hc; omega)]
    · obtain rfl : c = 0 := by omega
      rfl
theorem chg_nn {N : Nat} {P a : Nat → Nat} : 0 ≤ chgA N P a := sumR_nn fun c _ => by
  by_cases h0 : 0 < c
  · rw [if_pos h0]; exact (uC_nn _ _).1
  · rw [if_neg h0]; exact Int.le_refl _
/- a row of two states: the leaves with another state than the first one -/
structure Row2 (n : Nat) (s : Nat → Nat) (m : Nat) : Prop where
  lt : ∀ l, l < n → s l < m
  two : ∀ l k, l < n → k < n → s l ≠ s 0 → s k ≠ s 0 → s l = s k
section
variable {n m : Nat} {own : List (List Nat)} {s : Nat → Nat}
theorem one_split (h : SplL n own) (hn : 3 ≤ n) (hr : Row2 n s m) {k : Nat} (hk : k < own.length) (hA : ∀ l, l < n → (l ∈ gS own k ↔ s l ≠ s 0)) :
    ∃ a, okA' (3 + own.length + (n - 1)) m (stS own s) a ∧ chgA (3 + own.length + (n - 1)) (parS own) a = 1 := by
  have hx := h.head hk
  have hxr := h.rng _ (gS_mem hk) _ hx
  have hxs : s ((gS own k).headD 0) ≠ s 0 := (hA _ (by omega)).1 hx
  let y := s ((gS own k).headD 0)
  have hy : y < m := hr.lt _ (by omega)
  have h0m : s 0 < m := hr.lt 0 (by omega)
  let q : Nat → Prop := fun c => 3 ≤ c ∧ k ≤ ixS own c ∧ repS own c ∈ gS own k
  have hq : ∀ c, Decidable (q c) := fun c => inferInstanceAs (Decidable (_ ∧ _ ∧ _))
  let a : Nat → Nat := fun c => if q c then y else s 0
  have apos : ∀ c, q c → a c = y := fun c hc => if_pos hc
  have aneg : ∀ c, ¬ q c → a c = s 0 := fun c hc => if_neg hc
  have qk : q (3 + k) := by
    refine ⟨by omega, ?_, ?_⟩
    · unfold ixS; rw [if_pos (by omega)]; omega
    · unfold repS; rw [if_pos (by omega)]
      rw [show 3 + k - 3 = k by omega]; exact hx
  have qs : ∀ j, j < own.length → (q (3 + j) ↔ k ≤ j ∧ (gS own j).headD 0 ∈ gS own k) := fun j hj => by
    show (3 ≤ 3 + j ∧ k ≤ ixS own (3 + j) ∧ repS own (3 + j) ∈ gS own k) ↔ _
    unfold ixS repS
    rw [if_pos (by omega), if_pos (by omega), show 3 + j - 3 = j by omega]
    exact ⟨fun t => t.2, fun t => ⟨by omega, t⟩⟩
  refine ⟨a, fun c hc => ⟨?_, fun x hxx => ?_⟩, chg_one (v := 3 + k) (by omega) (by omega) ?_ fun c h0 hc hne => ?_⟩
  · by_cases g : q c
    · rw [apos c g]; exact hy
    · rw [aneg c g]; exact h0m
  · unfold stS at hxx
    by_cases e1 : c = 1
    · rw [if_pos e1] at hxx
      cases hxx
      exact aneg c fun g => by have := g.1; omega
    · rw [if_neg e1] at hxx
      by_cases e2 : 3 + own.length ≤ c
      · rw [if_pos e2] at hxx
        cases hxx
        have hl : c - 3 - own.length + 1 < n := by omega
        have er : repS own c = c - 3 - own.length + 1 := if_neg (by omega)
        have ei : ixS own c = own.length := if_neg (by omega)
        by_cases g : c - 3 - own.length + 1 ∈ gS own k
        · rw [apos c ⟨by omega, by omega, by rw [er]; exact g⟩]
          exact hr.two _ _ (by omega) hl hxs ((hA _ hl).1 g)
        · rw [aneg c fun t => g (by rw [← er]; exact t.2.2)]
          exact (Decidable.not_not.1 fun t => g ((hA _ hl).2 t)).symm
      · rw [if_neg e2] at hxx; cases hxx
  · rw [apos _ qk, aneg]
    · exact fun t => hxs t.symm
    · have e : parS own (3 + k) = upS own ((gS own k).headD 0) k := by
        unfold parS repS ixS
        rw [if_neg (by omega), if_pos (by omega), if_pos (by omega), show 3 + k - 3 = k by omega]
      rw [e]
      unfold upS
      split
      · rename_i j hj
        have := (last_some hj).1
        intro g
        have := ((qs j (by omega)).1 g).1
        omega
      · intro g; have := g.1; omega
  · by_cases hc3 : c < 3
    · have e : parS own c = 0 := if_pos hc3
      rw [e, aneg 0 fun g => by have := g.1; omega, aneg c fun g => by have := g.1; omega]
    · have e : parS own c = upS own (repS own c) (ixS own c) := if_neg hc3
      rw [e]
      have hi : ixS own c ≤ own.length := by unfold ixS; split <;> omega
      by_cases hki : k < ixS own c
      · -- behind the split
        unfold upS
        split
        · rename_i j hj
          obtain ⟨j1, j2, j3⟩ := last_some hj
          have hjl : j < own.length := by omega
          by_cases g : repS own c ∈ gS own k
          · have hkj : k ≤ j := by
              apply Classical.byContradiction
              intro hlt
              exact j3 k (by omega) hki g
            rw [apos c ⟨by omega, by omega, g⟩, apos _ ((qs j hjl).2 ⟨hkj, h.sub hkj hjl g j2 _ (h.head hjl)⟩)]
          · rw [aneg c fun t => g t.2.2, aneg _ fun t => ?_]
            obtain ⟨t1, t2⟩ := (qs j hjl).1 t
            exact g (h.sub t1 hjl t2 (h.head hjl) _ j2)
        · rename_i hj
          have := last_none hj k hki
          rw [aneg c fun t => this t.2.2, aneg 2 fun t => by have := t.1; omega]
      · by_cases hke : ixS own c = k
        · exfalso
          have : c < 3 + own.length := by
            apply Classical.byContradiction
            intro hge
            have : ixS own c = own.length := if_neg hge
            omega
          have : ixS own c = c - 3 := if_pos this
          omega
        · rw [aneg c fun t => by have := t.2.1; omega, aneg]
          unfold upS
          split
          · rename_i j hj
            have := (last_some hj).1
            intro g
            have := ((qs j (by omega)).1 g).1
            omega
          · intro g; have := g.1; omega
theorem one_leaf (hr : Row2 n s m) (hn : 3 ≤ n) {l : Nat} (hl : l < n) (hl0 : s l ≠ s 0) (h : ∀ k, k < n → s k ≠ s 0 → k = l) :
    ∃ a, okA' (3 + own.length + (n - 1)) m (stS own s) a ∧ chgA (3 + own.length + (n - 1)) (parS own) a = 1 := by
  have hlp : 0 < l := by
    apply Classical.byContradiction
    intro q
    exact hl0 (by rw [show l = 0 by omega])
  refine ⟨fun c => if c = 3 + own.length + (l - 1) then s l else s 0, fun c hc => ⟨?_, fun x hx => ?_⟩, chg_one (v := 3 + own.length + (l - 1)) (by omega) (by omega) ?_ fun c h0 hc hne => ?_⟩
  · show (if _ then _ else _) < m
    split
    · exact hr.lt l hl
    · exact hr.lt 0 (by omega)
  · show (if _ then _ else _) = x
    unfold stS at hx
    by_cases e1 : c = 1
    · rw [if_pos e1] at hx
      cases hx
      rw [if_neg (by omega)]
    · rw [if_neg e1] at hx
      by_cases e2 : 3 + own.length ≤ c
      · rw [if_pos e2] at hx
        cases hx
        by_cases e3 : c = 3 + own.length + (l - 1)
        · rw [if_pos e3]; congr 1; omega
        · rw [if_neg e3]
          apply Classical.byContradiction
          intro hne
          have := h _ (by omega) fun q => hne q.symm
          omega
      · rw [if_neg e2] at hx; cases hx
  · show (if _ then _ else _) ≠ (if _ then _ else _)
    have hp : parS own (3 + own.length + (l - 1)) < 3 + own.length := by
      unfold parS
      rw [if_neg (by omega)]
      have := upS_lt own (repS own (3 + own.length + (l - 1))) (ixS own (3 + own.length + (l - 1)))
      have e : ixS own (3 + own.length + (l - 1)) = own.length := if_neg (by omega)
      omega
    rw [if_neg (by omega), if_pos rfl]
    exact fun q => hl0 q.symm
  · show (if _ then _ else _) = (if _ then _ else _)
    rw [if_neg hne]
    split
    · rename_i hp
      exfalso
      have : parS own c < 3 + own.length := by
        unfold parS
        split
        · omega
        · have := upS_lt own (repS own c) (ixS own c)
          have : ixS own c ≤ own.length := by unfold ixS; split <;> omega
          omega
      omega
    · rfl
theorem one_rest (hr : Row2 n s m) (hn : 3 ≤ n) (h : ∀ l, 0 < l → l < n → s l ≠ s 0) :
    ∃ a, okA' (3 + own.length + (n - 1)) m (stS own s) a ∧ chgA (3 + own.length + (n - 1)) (parS own) a = 1 := by
  refine ⟨fun c => if c < 2 then s 0 else s 1, fun c hc => ⟨?_, fun x hx => ?_⟩, chg_one (v := 2) (by omega) (by omega) ?_ fun c h0 hc hne => ?_⟩
  · show (if _ then _ else _) < m
    split
    · exact hr.lt 0 (by omega)
    · exact hr.lt 1 (by omega)
  · show (if _ then _ else _) = x
    unfold stS at hx
    by_cases e1 : c = 1
    · rw [if_pos e1] at hx
      cases hx
      rw [if_pos (by omega)]
    · rw [if_neg e1] at hx
      by_cases e2 : 3 + own.length ≤ c
      · rw [if_pos e2] at hx
        cases hx
        rw [if_neg (by omega)]
        exact hr.two _ _ (by omega) (by omega) (h 1 (by omega) (by omega)) (h _ (by omega) (by omega))
      · rw [if_neg e2] at hx; cases hx
  · show (if _ then _ else _) ≠ (if _ then _ else _)
    have : parS own 2 = 0 := if_pos (by omega)
    rw [this, if_pos (by omega), if_neg (by omega)]
    exact fun q => h 1 (by omega) (by omega) q.symm
  · show (if _ then _ else _) = (if _ then _ else _)
    by_cases hc3 : c < 3
    · have : parS own c = 0 := if_pos hc3
      rw [this, if_pos (by omega), if_pos (by omega)]
    · have h2 : 2 ≤ parS own c := by
        unfold parS
        rw [if_neg hc3]
        unfold upS
        split <;> omega
      rw [if_neg (by omega), if_neg (by omega)]
theorem least_splits (h : SplL n own) (hn : 3 ≤ n) (hr : Row2 n s m) (hall : ∀ A : List Nat, (∀ l, l ∈ A ↔ l < n ∧ s l ≠ s 0) → A.Nodup → 2 ≤ A.length → A.length + 2 ≤ n → ∃ k, k < own.length ∧ ∀ l, l < n → (l ∈ gS own k ↔ s l ≠ s 0)) :
    LeastC (3 + own.length + (n - 1)) m (parS own) (stS own s) (if (∃ l, l < n ∧ s l ≠ s 0) then 1 else 0) := by
  by_cases hex : ∃ l, l < n ∧ s l ≠ s 0
  · rw [if_pos hex]
    refine ⟨?_, fun a ha => ?_⟩
    · let A := (List.range n).filter fun l => decide (s l ≠ s 0)
      have hA : ∀ l, l ∈ A ↔ l < n ∧ s l ≠ s 0 := fun l => by
        show l ∈ (List.range n).filter _ ↔ _
        rw [List.mem_filter, List.mem_range, decide_eq_true_iff]
      have hnd : A.Nodup := List.nodup_range.sublist List.filter_sublist
      by_cases h2 : 2 ≤ A.length
      · by_cases h3 : A.length + 2 ≤ n
        · obtain ⟨k, hk, hkA⟩ := hall A hA hnd h2 h3
          exact one_split h hn hr hk hkA
        · refine one_rest hr hn fun l hl hln => ?_
          have hB : ∀ x ∈ A, x ∈ (List.range (n - 1)).map (· + 1) := fun x hx => by
            obtain ⟨q1, q2⟩ := (hA x).1 hx
            have : x ≠ 0 := fun q => q2 (by rw [q])
            exact List.mem_map.2 ⟨x - 1, List.mem_range.2 (by omega), by omega⟩
          have := pigeon hnd hB (by rw [List.length_map, List.length_range]; omega) l (List.mem_map.2 ⟨l - 1, List.mem_range.2 (by omega), by omega⟩)
          exact ((hA l).1 this).2
      · obtain ⟨l, hl, hl0⟩ := hex
        refine one_leaf hr hn hl hl0 fun k hk hk0 => ?_
        apply Classical.byContradiction
        intro hne
        have hnd2 : [k, l].Nodup := by simp [hne]
        have hlen : A.length ≤ [k, l].length := by show A.length ≤ 2; omega
        have hsub : ∀ x ∈ [k, l], x ∈ A := fun x hx => by
          rcases List.mem_cons.1 hx with rfl | hx
          · exact (hA _).2 ⟨hk, hk0⟩
          · rw [List.mem_singleton] at hx
            subst hx; exact (hA _).2 ⟨hl, hl0⟩
        have h1 : ∀ x ∈ A, x ∈ [k, l] := pigeon hnd2 hsub hlen
        have hA1 : A.length = 1 ∨ A.length = 0 := by omega
        have hmk := hsub k List.mem_cons_self
        have hml := hsub l (List.mem_cons_of_mem _ List.mem_cons_self)
        rcases hA1 with hA1 | hA1
        · obtain ⟨z, hz⟩ := List.length_eq_one_iff.1 hA1
          rw [hz, List.mem_singleton] at hmk hml
          exact hne (hmk.trans hml.symm)
        · rw [List.eq_nil_of_length_eq_zero hA1] at hmk; cases hmk
    · obtain ⟨l, hl, hl0⟩ := hex
      apply Classical.byContradiction
      intro hlt
      have hz := chg_zero (N := 3 + own.length + (n - 1)) (P := parS own) (a := a) (fun c h0 _ => parS_lt own h0) (by omega)
      have hlp : 0 < l := by
        apply Classical.byContradiction
        intro q
        exact hl0 (by rw [show l = 0 by omega])
      have h1 := (ha 1 (by omega)).2 (s 0) (by unfold stS; rw [if_pos rfl])
      have h2 := (ha (3 + own.length + (l - 1)) (by omega)).2 (s l) (by unfold stS; rw [if_neg (by omega), if_pos (by omega)]; congr 2; omega)
      have h3 := hz 1 (by omega)
      have h4 := hz (3 + own.length + (l - 1)) (by omega)
      exact hl0 (by rw [← h2, ← h1, h3, h4])
  · rw [if_neg hex]
    have hs : ∀ l, l < n → s l = s 0 := fun l hl => Decidable.not_not.1 fun q => hex ⟨l, hl, q⟩
    refine ⟨⟨fun _ => s 0, fun c hc => ⟨hr.lt 0 (by omega), fun x hx => ?_⟩, chg_none fun _ _ _ => rfl⟩, fun a _ => chg_nn⟩
    unfold stS at hx
    by_cases e1 : c = 1
    · rw [if_pos e1] at hx; cases hx; rfl
    · rw [if_neg e1] at hx
      by_cases e2 : 3 + own.length ≤ c
      · rw [if_pos e2] at hx
        cases hx
        exact (hs _ (by omega)).symm
      · rw [if_neg e2] at hx; cases hx
end
end Go.Proofs
namespace Go.Proofs
/- the same tree with its nodes in another order -/
def gO (ord : List Nat) (k : Nat) : Nat := ord.getD k 0
theorem gO_at {ord : List Nat} {k : Nat} (h : k < ord.length) : gO ord k = ord[k] := by
  unfold gO
  rw [List.getD_eq_getElem?_getD, List.getElem?_eq_getElem h]; rfl
structure IsoT (N : Nat) (P P' : Nat → Nat) (ord : List Nat) : Prop where
  perm : ord.Perm (List.range N)
  zero : gO ord 0 = 0
  par : ∀ k, 0 < k → k < N → P' k < k ∧ gO ord (P' k) = P (gO ord k)
def sumL (g : Nat → Int) : List Nat → Int
  | [] => 0
  | x :: l => g x + sumL g l
theorem sumL_perm {g : Nat → Int} {l l' : List Nat} (h : l.Perm l') : sumL g l = sumL g l' := by
  induction h with
  | nil => rfl
  | cons x _ ih => show g x + _ = g x + _; rw [ih]
  | swap x y l => show g y + (g x + _) = g x + (g y + _); omega
  | trans _ _ h1 h2 => rw [h1, h2]
theorem sumL_app (g : Nat → Int) : ∀ l l' : List Nat, sumL g (l ++ l') = sumL g l + sumL g l'
  | [], l' => by show _ = 0 + _; rw [Int.zero_add]; rfl
  | x :: l, l' => by show g x + sumL g (l ++ l') = (g x + sumL g l) + _; rw [sumL_app g l l']; omega
theorem sumL_range (g : Nat → Int) : ∀ n : Nat, sumL g (List.range n) = sumR g n
  | 0 => rfl
  | n + 1 => by
    rw [List.range_succ, sumL_app, sumL_range g n]
    show _ + (g n + 0) = sumR g n + g n
    omega
theorem sumL_take (g : Nat → Int) (l : List Nat) : ∀ n, n ≤ l.length → sumL g (l.take n) = sumR (fun k => g (gO l k)) n
  | 0, _ => rfl
  | n + 1, h => by
    rw [List.take_succ_eq_append_getElem (by omega), sumL_app, sumL_take g l n (by omega)]
    show _ + (g l[n] + 0) = _ + g (gO l n)
    rw [gO_at (by omega)]; omega
section
variable {N m : Nat} {P P' : Nat → Nat} {ord : List Nat} {st : Nat → Option Nat} {v : Int}
theorem IsoT.len (h : IsoT N P P' ord) : ord.length = N := by rw [h.perm.length_eq, List.length_range]
theorem IsoT.nd (h : IsoT N P P' ord) : ord.Nodup := h.perm.nodup_iff.2 List.nodup_range
theorem IsoT.lt (h : IsoT N P P' ord) {k : Nat} (hk : k < N) : gO ord k < N := by
  have hl := h.len
  rw [gO_at (by omega)]
  exact List.mem_range.1 (h.perm.mem_iff.1 (List.getElem_mem (by omega)))
theorem IsoT.pos (h : IsoT N P P' ord) {k : Nat} (h0 : 0 < k) (hk : k < N) : 0 < gO ord k := by
  apply Classical.byContradiction
  intro q
  have hl := h.len
  have h1 : gO ord k = gO ord 0 := by rw [h.zero]; omega
  rw [gO_at (by omega), gO_at (by omega)] at h1
  have := (List.getElem_inj h.nd).1 h1
  omega
theorem IsoT.chg (h : IsoT N P P' ord) (b : Nat → Nat) : chgA N P' (fun k => b (gO ord k)) = chgA N P b := by
  have hl := h.len
  have e1 : chgA N P b = sumL (fun c => if 0 < c then uC (b (P c)) (b c) else 0) (List.range N) := (sumL_range _ N).symm
  rw [e1, ← sumL_perm h.perm]
  have e2 : ord = ord.take N := (List.take_of_length_le (by omega)).symm
  rw [e2, sumL_take _ _ _ (by omega)]
  unfold chgA
  rw [← e2]
  refine sumR_congr fun k hk => ?_
  by_cases h0 : 0 < k
  · rw [if_pos h0, if_pos (h.pos h0 hk)]
    show uC (b (gO ord (P' k))) _ = _
    rw [(h.par k h0 hk).2]
  · obtain rfl : k = 0 := by omega
    rw [if_neg h0, h.zero, if_neg (Nat.lt_irrefl 0)]
theorem IsoT.back (h : IsoT N P P' ord) (a : Nat → Nat) {k : Nat} (hk : k < N) : a (ord.idxOf (gO ord k)) = a k := by
  have hl := h.len
  have hk' : k < ord.length := by omega
  have hi : ord.idxOf (gO ord k) < ord.length := List.idxOf_lt_length_iff.2 (by rw [gO_at hk']; exact List.getElem_mem hk')
  have := List.getElem_idxOf hi
  have e := (List.getElem_inj (h₀ := hi) (h₁ := hk') h.nd).1 (this.trans (gO_at hk'))
  rw [e]
theorem IsoT.least (h : IsoT N P P' ord) (hN : 0 < N) (hL : LeastC N m P st v) : LeastC N m P' (fun k => st (gO ord k)) v := by
  refine ⟨?_, fun a ha => ?_⟩
  · obtain ⟨b, hb, hv⟩ := hL.at_
    exact ⟨fun k => b (gO ord k), fun k hk => hb _ (h.lt hk), by rw [h.chg]; exact hv⟩
  · have hb : okA' N m st (fun c => a (ord.idxOf c)) := fun c hc => by
      have hm : c ∈ ord := h.perm.mem_iff.2 (List.mem_range.2 hc)
      obtain ⟨k, hk, rfl⟩ := List.mem_iff_getElem.1 hm
      have hl := h.len
      have hkN : k < N := by omega
      have e := h.back a hkN
      rw [gO_at hk] at e
      show a (ord.idxOf ord[k]) < m ∧ ∀ x, st ord[k] = some x → a (ord.idxOf ord[k]) = x
      rw [e]
      have := ha k hkN
      dsimp only at this
      rw [gO_at hk] at this
      exact this
    have := hL.le _ hb
    rw [← h.chg] at this
    have e : chgA N P' (fun k => a (ord.idxOf (gO ord k))) = chgA N P' a := by
      unfold chgA
      refine sumR_congr fun k hk => ?_
      by_cases h0 : 0 < k
      · rw [if_pos h0, if_pos h0]
        show uC (a (ord.idxOf (gO ord (P' k)))) (a (ord.idxOf (gO ord k))) = _
        rw [h.back a hk, h.back a (by have := (h.par k h0 hk).1; omega)]
      · rw [if_neg h0, if_neg h0]
    rw [e] at this
    exact this
end
end Go.Proofs
namespace Go.Proofs
/- rows of two states: their splits; four combinations are splits that are not compatible -/
def rB (r : List Bool) (i : Nat) : Bool := r.getD i false
def ownR (r : List Bool) : List Nat := (List.range r.length).filter fun i => rB r i != rB r 0
def bigR (r : List Bool) : Bool := decide (2 ≤ (ownR r).length) && decide ((ownR r).length + 2 ≤ r.length)
def fourP (r o : List Bool) : Prop := ∀ x y : Bool, ∃ s, s < r.length ∧ rB r s = x ∧ rB o s = y
theorem mem_own {r : List Bool} {i : Nat} : i ∈ ownR r ↔ i < r.length ∧ rB r i ≠ rB r 0 := by
  unfold ownR
  rw [List.mem_filter, List.mem_range, bne_iff_ne]
theorem own_nd (r : List Bool) : (ownR r).Nodup := List.nodup_range.sublist List.filter_sublist
theorem two_le {l : List Nat} {a b : Nat} (ha : a ∈ l) (hb : b ∈ l) (h : a ≠ b) : 2 ≤ l.length := by
  match l, ha, hb with
  | [x], ha, hb =>
    rw [List.mem_singleton] at ha hb
    exact absurd (ha.trans hb.symm) h
  | _ :: _ :: _, _, _ => simp
theorem own_big {r : List Bool} {a b c : Nat} (ha : a ∈ ownR r) (hb : b ∈ ownR r) (h : a ≠ b) (hc : c < r.length) (hc0 : c ≠ 0) (hcn : c ∉ ownR r) : bigR r = true := by
  unfold bigR
  rw [Bool.and_eq_true, decide_eq_true_iff, decide_eq_true_iff]
  refine ⟨two_le ha hb h, ?_⟩
  have h0 : 0 ∉ ownR r := fun q => (mem_own.1 q).2 rfl
  have hnd : (0 :: c :: ownR r).Nodup := List.nodup_cons.2 ⟨fun q => by
    rcases List.mem_cons.1 q with q | q
    · exact hc0 q.symm
    · exact h0 q, List.nodup_cons.2 ⟨hcn, own_nd r⟩⟩
  apply Classical.byContradiction
  intro hlt
  have hs : ∀ x ∈ 0 :: c :: ownR r, x ∈ List.range r.length := fun x hx => by
    rw [List.mem_range]
    rcases List.mem_cons.1 hx with rfl | hx
    · omega
    · rcases List.mem_cons.1 hx with rfl | hx
      · exact hc
      · exact (mem_own.1 hx).1
  have hle : ∀ {l1 l2 : List Nat}, l1.Nodup → (∀ x ∈ l1, x ∈ l2) → l1.length ≤ l2.length := by
    intro l1
    induction l1 with
    | nil => intro l2 _ _; exact Nat.zero_le _
    | cons y t ih =>
      intro l2 hn hs
      rw [List.nodup_cons] at hn
      have hy := hs y List.mem_cons_self
      have := ih (l2 := l2.erase y) hn.2 fun z hz => by
        have hzy : z ≠ y := fun q => hn.1 (q ▸ hz)
        exact (List.mem_erase_of_ne hzy).2 (hs z (List.mem_cons_of_mem _ hz))
      rw [List.length_erase_of_mem hy] at this
      have := List.length_pos_of_mem hy
      rw [List.length_cons]; omega
  have := hle hnd hs
  rw [List.length_range, List.length_cons, List.length_cons] at this
  omega
theorem bool_ne {a b c : Bool} (h1 : a ≠ c) (h2 : b ≠ c) : a = b := by cases a <;> cases b <;> cases c <;> simp_all
theorem four_comp {r o : List Bool} (hl : o.length = r.length) (h : fourP r o) : bigR r = true ∧ bigR o = true ∧ compF (ownR r) (ownR o) = false := by
  obtain ⟨s1, l1, r1, o1⟩ := h (!rB r 0) (!rB o 0)
  obtain ⟨s2, l2, r2, o2⟩ := h (!rB r 0) (rB o 0)
  obtain ⟨s3, l3, r3, o3⟩ := h (rB r 0) (!rB o 0)
  have nn : ∀ b : Bool, (!b) ≠ b := fun b => by cases b <;> decide
  have a1 : s1 ∈ ownR r := mem_own.2 ⟨l1, by rw [r1]; exact nn _⟩
  have a2 : s2 ∈ ownR r := mem_own.2 ⟨l2, by rw [r2]; exact nn _⟩
  have a3 : s3 ∉ ownR r := fun q => (mem_own.1 q).2 r3
  have b1 : s1 ∈ ownR o := mem_own.2 ⟨by omega, by rw [o1]; exact nn _⟩
  have b2 : s2 ∉ ownR o := fun q => (mem_own.1 q).2 o2
  have b3 : s3 ∈ ownR o := mem_own.2 ⟨by omega, by rw [o3]; exact nn _⟩
  have z2 : s2 ≠ 0 := fun q => (mem_own.1 a2).2 (by rw [q])
  have z3 : s3 ≠ 0 := fun q => (mem_own.1 b3).2 (by rw [q])
  refine ⟨own_big a1 a2 (fun q => b2 (q ▸ b1)) l3 z3 a3, own_big b1 b3 (fun q => a3 (q ▸ a1)) (by omega) z2 b2, ?_⟩
  have hm : s1 ∈ bothF (ownR r) (ownR o) := List.mem_filter.2 ⟨a1, by simpa using b1⟩
  have hp := List.length_pos_of_mem hm
  unfold compF
  simp only [Bool.or_eq_false_iff, decide_eq_false_iff_not]
  refine ⟨by omega, fun q => ?_, fun q => ?_⟩
  · have := (List.filter_sublist (p := fun x => decide (x ∈ ownR o)) (l := ownR r)).eq_of_length q
    rw [← this] at a2
    exact b2 (by simpa using (List.mem_filter.1 a2).2)
  · have hnd : (bothF (ownR r) (ownR o)).Nodup := (own_nd r).sublist List.filter_sublist
    have := pigeon hnd (fun z hz => by simpa using (List.mem_filter.1 hz).2) (by omega) s3 b3
    exact a3 (List.mem_filter.1 this).1
theorem comp_four {r o : List Bool} (hl : o.length = r.length) (h : compF (ownR r) (ownR o) = false) : fourP r o := by
  unfold compF at h
  simp only [Bool.or_eq_false_iff, decide_eq_false_iff_not] at h
  obtain ⟨h1, h2, h3⟩ := h
  have ne1 : ∃ s, s ∈ bothF (ownR r) (ownR o) := by
    cases hb : bothF (ownR r) (ownR o) with
    | nil => rw [hb] at h1; exact absurd rfl h1
    | cons x t => exact ⟨x, List.mem_cons_self⟩
  obtain ⟨s1, hs1⟩ := ne1
  obtain ⟨a1, b1⟩ := List.mem_filter.1 hs1
  have b1 : s1 ∈ ownR o := by simpa using b1
  have ne2 : ∃ s, s ∈ ownR r ∧ s ∉ ownR o := by
    apply Classical.byContradiction
    intro q
    refine h2 ?_
    have : bothF (ownR r) (ownR o) = ownR r := List.filter_eq_self.2 fun x hx => by
      apply decide_eq_true
      apply Classical.byContradiction
      intro hn
      exact q ⟨x, hx, hn⟩
    rw [this]
  have ne3 : ∃ s, s ∈ ownR o ∧ s ∉ ownR r := by
    apply Classical.byContradiction
    intro q
    refine h3 ?_
    have hsub : ∀ x ∈ ownR o, x ∈ bothF (ownR r) (ownR o) := fun x hx => by
      refine List.mem_filter.2 ⟨?_, by simpa using hx⟩
      apply Classical.byContradiction
      intro hn
      exact q ⟨x, hx, hn⟩
    have hnd : (bothF (ownR r) (ownR o)).Nodup := (own_nd r).sublist List.filter_sublist
    have hsub2 : ∀ x ∈ bothF (ownR r) (ownR o), x ∈ ownR o := fun x hx => by simpa using (List.mem_filter.1 hx).2
    have hle : ∀ {l1 l2 : List Nat}, l1.Nodup → (∀ x ∈ l1, x ∈ l2) → l1.length ≤ l2.length := by
      intro l1
      induction l1 with
      | nil => intro l2 _ _; exact Nat.zero_le _
      | cons y t ih =>
        intro l2 hn hs
        rw [List.nodup_cons] at hn
        have hy := hs y List.mem_cons_self
        have := ih (l2 := l2.erase y) hn.2 fun z hz => by
          have hzy : z ≠ y := fun q => hn.1 (q ▸ hz)
          exact (List.mem_erase_of_ne hzy).2 (hs z (List.mem_cons_of_mem _ hz))
        rw [List.length_erase_of_mem hy] at this
        have := List.length_pos_of_mem hy
        rw [List.length_cons]; omega
    exact Nat.le_antisymm (hle hnd hsub2) (hle (own_nd o) hsub)
  obtain ⟨s2, a2, b2⟩ := ne2
  obtain ⟨s3, b3, a3⟩ := ne3
  have A1 := mem_own.1 a1
  have A2 := mem_own.1 a2
  have B1 := mem_own.1 b1
  have B3 := mem_own.1 b3
  have e2 : rB o s2 = rB o 0 := Decidable.not_not.1 fun q => b2 (mem_own.2 ⟨by omega, q⟩)
  have e3 : rB r s3 = rB r 0 := Decidable.not_not.1 fun q => a3 (mem_own.2 ⟨by omega, q⟩)
  intro x y
  by_cases hx : x = rB r 0
  · by_cases hy : y = rB o 0
    · exact ⟨0, by omega, hx.symm, hy.symm⟩
    · exact ⟨s3, by omega, by rw [e3]; exact hx.symm, bool_ne B3.2 hy⟩
  · by_cases hy : y = rB o 0
    · exact ⟨s2, by omega, bool_ne A2.2 hx, by rw [e2]; exact hy.symm⟩
    · exact ⟨s1, by omega, bool_ne A1.2 hx, bool_ne B1.2 hy⟩
end Go.Proofs
namespace Go.Proofs
open Go Go.Sh Go.RowKit
/- names of leaves; sets; splits -/
section
variable {R : Ending → World → Prop} {S : Nat → Prop} {w : World} {a : Option Addr} {n c : Nat}
theorem leafName_spec (s : Nm) (hs : s.length ≤ 4611686018427387904) (h : R (.returned (.bool (leafB s))) w) : Calls Tryz.prog F_split_leafName ⟨[.string ⟨⟨s⟩⟩]⟩ w R := by
  apply c_split_leafName
  intro K hK
  have k : ∀ b : Bool, b = decide (s[s.length - 1]? = some 42) → (b = true → 0 < s.length) → K b w := by
    rintro b hb hpos
    refine hK _ _ fun _ => br_cases (fun g => br_split (fun g2 => ?_) (fun g2 => ?_)) (fun g => ?_)
    · have hp := hpos g
      rw [wrap_id (by omega), show (s.length : Int) - 1 = ((s.length - 1 : Nat) : Int) by omega, show (0 : Int) = ((0 : Nat) : Int) from rfl]
      refine ssl_nat (by omega) (by omega) ?_
      rw [List.drop_zero]
      refine IsName_spec _ ⟨_, rfl, ?_⟩
      unfold leafB at h
      rw [hb] at g
      rw [if_pos (of_decide_eq_true g), decide_eq_true (show s.length ≤ 16 by omega), Bool.true_and] at h
      exact h
    · unfold leafB at h
      rw [hb] at g
      rw [if_pos (of_decide_eq_true g), decide_eq_false (show ¬ s.length ≤ 16 by omega), Bool.false_and] at h
      exact h
    · refine IsName_spec _ ⟨_, rfl, ?_⟩
      unfold leafB at h
      rw [hb] at g
      rw [if_neg (of_decide_eq_false g)] at h
      exact h
  refine br_split (fun g => ?_) (fun g => ?_)
  · have hp : 0 < s.length := by omega
    rw [wrap_id (by omega), show (s.length : Int) - 1 = ((s.length - 1 : Nat) : Int) by omega]
    refine sidx_nat (by omega) (k _ ?_ (fun _ => hp))
    rw [List.getElem?_eq_getElem (by omega)]
    rw [decide_eq_decide, Option.some.injEq]
    constructor
    · intro e; exact UInt8.toNat_inj.1 (by show _ = 42; omega)
    · intro e; rw [e]; rfl
  · refine k _ ?_ (by simp)
    have : s = [] := List.eq_nil_of_length_eq_zero (by omega)
    subst this; rfl
end
def gZ (l : List Int) (i : Nat) : Int := l.getD i 0
theorem gZ_at {l : List Int} {i : Nat} (h : i < l.length) : gZ l i = l[i] := getD_at h 0
def AscI (l : List Int) : Prop := ∀ i, i + 1 < l.length → gZ l i < gZ l (i + 1)
theorem AscI.lt {l : List Int} (h : AscI l) : ∀ {j i : Nat}, i < j → j < l.length → gZ l i < gZ l j
  | 0, i, h1, _ => by omega
  | j + 1, i, h1, h2 => by
    have h3 := h j h2
    by_cases e : i = j
    · subst e; exact h3
    · have := h.lt (j := j) (i := i) (by omega) (by omega)
      omega
def SetI (l : List Int) : Prop := (∀ i, i < l.length → 0 ≤ gZ l i ∧ gZ l i ≤ 63) ∧ AscI l
structure SplI (n : Int) (s : List Int) : Prop where
  n1 : 1 ≤ n
  n2 : n ≤ 32
  set : SetI s
  l2 : 2 ≤ s.length
  l3 : (s.length : Int) ≤ n - 2
  fst : gZ s 0 ≠ 0
  last : gZ s (s.length - 1) < n
section
variable {R : Ending → World → Prop} {S : Nat → Prop} {w : World} {a : Option Addr} {n c : Nat} {l : List Int}
theorem rowI_get (h1 : RowV vI S w a n l) {i : Nat} (hi : i < l.length) : ∃ p : Addr, (∀ K : Addr → Prop, K p → idx a n (i : Int) 1 K) ∧ w.cell? p = some (.int .i64 (gZ l i)) := by
  obtain ⟨p, hp, d⟩ := h1.int hi
  exact ⟨p, hp, by rw [gZ_at hi]; exact d⟩
theorem setCheck_spec (h1 : RowV vI S w a n l) (hs : n ≤ 4611686018427387904) (h : ∀ e : Int, (e = 0 ↔ SetI l) → e ≠ 17 → R (.returned (.int .i64 e)) w) : Calls Tryz.prog F_intset_Check ⟨[.slice a n c]⟩ w R := by
  apply c_intset_Check
  have hn := h1.1
  refine ⟨fun i W m => ∃ k : Nat, i = k ∧ k ≤ n ∧ m = n - k ∧ W = w ∧ (∀ i, i < k → 0 ≤ gZ l i ∧ gZ l i ≤ 63) ∧ (∀ i, i + 1 < k → gZ l i < gZ l (i + 1)), ⟨_, 0, rfl, Nat.zero_le _, rfl, rfl, fun i hi => by omega, fun i hi => by omega⟩, ?_⟩
  rintro _ W m ⟨k, rfl, hk, rfl, rfl, hb, ha⟩ _
  refine br_split (fun hlt => ?_) (fun hge => ?_)
  · have hkl : k < l.length := by omega
    obtain ⟨p, hp, d⟩ := rowI_get h1 hkl
    refine hp _ ⟨_, d, ?_⟩
    intro K9 hK9
    have k9 : 0 ≤ gZ l k → gZ l k ≤ 63 → K9 W := by
      intro g1 g2
      have nx : (0 < k → gZ l (k - 1) < gZ l k) → ∃ m13 : Nat, m13 < n - k ∧ ∃ k' : Nat, IntKind.i64.wrap ((k : Int) + 1) = k' ∧ k' ≤ n ∧ m13 = n - k' ∧ W = W ∧ (∀ i, i < k' → 0 ≤ gZ l i ∧ gZ l i ≤ 63) ∧ (∀ i, i + 1 < k' → gZ l i < gZ l (i + 1)) := fun g =>
        ⟨n - (k + 1), by omega, k + 1, by rw [wrap_nat (by omega)], by omega, rfl, rfl, fun i hi => by
          by_cases e : i = k
          · subst e; exact ⟨g1, g2⟩
          · exact hb i (by omega), fun i hi => by
          by_cases e : i + 1 = k
          · subst e; exact g (by omega)
          · exact ha i (by omega)⟩
      refine hK9 _ fun _ => br_split (fun g3 => ?_) (fun g3 => nx fun q => by omega)
      obtain ⟨p2, hp2, d2⟩ := rowI_get h1 (i := k - 1) (by omega)
      rw [wrap_id (by omega), show (k : Int) - 1 = ((k - 1 : Nat) : Int) by omega]
      refine hp2 _ ⟨_, d2, br_split (fun g4 => h _ ⟨fun q => absurd q (by decide), fun q => ?_⟩ (by decide)) (fun g4 => nx fun _ => by omega)⟩
      have := q.2.lt (j := k) (i := k - 1) (by omega) hkl
      omega
    exact br_split (fun g1 => h _ ⟨fun q => absurd q (by decide), fun q => by have := (q.1 k hkl).1; omega⟩ (by decide)) (fun g1 => br_split (fun g2 => h _ ⟨fun q => absurd q (by decide), fun q => by have := (q.1 k hkl).2; omega⟩ (by decide)) (fun g2 => k9 (by omega) (by omega)))
  · have hkn : k = l.length := by omega
    subst hkn
    exact h 0 ⟨fun _ => ⟨hb, ha⟩, fun _ => rfl⟩ (by decide)
theorem splCheck_spec {m : Int} (h1 : RowV vI S w a n l) (hs : n ≤ 4611686018427387904) (hm : -1000000 ≤ m ∧ m ≤ 1000000) (h : ∀ e : Int, (e = 0 ↔ SplI m l) → e ≠ 17 → R (.returned (.int .i64 e)) w) : Calls Tryz.prog F_split_Check ⟨[.int .i64 m, .slice a n c]⟩ w R := by
  apply c_split_Check
  have hn := h1.1
  intro K3 hK3
  have k3 : 1 ≤ m → m ≤ 32 → K3 w := by
    intro g1 g2
    refine hK3 _ fun _ => setCheck_spec h1 hs fun e he he2 => ⟨_, rfl, br_split (fun g => h e ⟨fun q => absurd q g, fun q => absurd (he.2 q.set) g⟩ he2) (fun g => ?_)⟩
    have hset := he.1 (Decidable.not_not.1 g)
    intro K8 hK8
    have k8 : ∀ b : Bool, (b = false → l.length = 0 ∨ (gZ l 0 ≠ 0 ∧ gZ l (l.length - 1) < m)) → (b = true → 0 < l.length ∧ (gZ l 0 = 0 ∨ m ≤ gZ l (l.length - 1))) → K8 b w := by
      intro b hb1 hb2
      refine hK8 _ _ fun _ => br_cases (fun gb => h _ ⟨fun q => absurd q (by decide), fun q => ?_⟩ (by decide)) (fun gb => ?_)
      · obtain ⟨_, q2⟩ := hb2 gb
        have := q.fst; have := q.last
        omega
      · have hb1 := hb1 gb
        refine br_split (fun g3 => h _ ⟨fun q => absurd q (by decide), fun q => by have := q.l2; omega⟩ (by decide)) (fun g3 => ?_)
        rw [wrap_id (by omega)]
        refine br_split (fun g4 => h _ ⟨fun q => absurd q (by decide), fun q => by have := q.l3; omega⟩ (by decide)) (fun g4 => h _ ⟨fun _ => ?_, fun _ => rfl⟩ (by decide))
        rcases hb1 with hb1 | hb1
        · omega
        · exact ⟨g1, g2, hset, by omega, by omega, hb1.1, hb1.2⟩
    refine br_split (fun g3 => ?_) (fun g3 => k8 _ (fun _ => .inl (by omega)) (fun q => by cases q))
    obtain ⟨p, hp, d⟩ := rowI_get h1 (i := 0) (by omega)
    refine hp _ ⟨_, d, br_split (fun g4 => k8 _ (fun q => by cases q) (fun _ => ⟨by omega, .inl g4⟩)) (fun g4 => ?_)⟩
    obtain ⟨p2, hp2, d2⟩ := rowI_get h1 (i := l.length - 1) (by omega)
    rw [wrap_id (by omega), show (n : Int) - 1 = ((l.length - 1 : Nat) : Int) by omega]
    refine hp2 _ ⟨_, d2, k8 _ (fun q => .inr ⟨g4, ?_⟩) (fun q => ⟨by omega, .inr (of_decide_eq_true q)⟩)⟩
    have := of_decide_eq_false q
    omega
  exact br_split (fun g1 => h _ ⟨fun q => absurd q (by decide), fun q => by have := q.n1; omega⟩ (by decide)) (fun g1 => br_split (fun g2 => h _ ⟨fun q => absurd q (by decide), fun q => by have := q.n2; omega⟩ (by decide)) (fun g2 => k3 (by omega) (by omega)))
end
end Go.Proofs
namespace Go.Sh
open Go Go.RowKit
open Go.WideElems (Fit)
open Go.Maps (Keyed)
/- a map whose number of entries is known -/
def MapN {K V : Type} (P : Program) (k : TypeId) (eK : K → Value) (eV : V → Value) (w : World) (b n : Nat) (f : K → Option V) : Prop :=
  ∃ es clock, w.heap[b]? = some (.map es clock) ∧ Fit P k anyV es clock ∧ es.size = n ∧
    ∀ x, (f x = none ∧ ∀ e ∈ es.toList, e.key ≠ eK x) ∨ ∃ v, f x = some v ∧ ∃ e ∈ es.toList, e.key = eK x ∧ e.val = eV v
section
variable {K V : Type} {P : Program} {k t e : TypeId} {eK : K → Value} {eV : V → Value} {w w' : World} {b n : Nat} {f : K → Option V}
theorem MapN.toT (h : MapN P k eK eV w b n f) : MapT P k eK eV w b n f := by
  obtain ⟨es, clock, hb, F, hs, h⟩ := h
  exact ⟨es, clock, hb, F, Nat.le_of_eq hs, h⟩
theorem MapN.of0 (h : MapT P k eK eV w b 0 f) : MapN P k eK eV w b 0 f := by
  obtain ⟨es, clock, hb, F, hs, h⟩ := h
  exact ⟨es, clock, hb, F, Nat.le_zero.1 hs, h⟩
theorem MapN.keep (h : MapN P k eK eV w b n f) (hw : w'.heap[b]? = w.heap[b]?) : MapN P k eK eV w' b n f := by
  obtain ⟨es, clock, hb, h⟩ := h
  exact ⟨es, clock, hw.trans hb, h⟩
theorem MapN.ext (h : MapN P k eK eV w b n f) (hw : Ext w w') : MapN P k eK eV w' b n f := h.keep (hw.block b h.toT.lt)
theorem MapN.chg {S : Nat → Prop} (h : MapN P k eK eV w b n f) (hw : Chg S w w') (hs : ¬ S b) : MapN P k eK eV w' b n f := h.keep (hw.block b h.toT.lt hs)
theorem MapN.len (h : MapN P k eK eV w b n f) {Q : Int → Prop} (hq : Q n) : mlenV w (.map (some b)) Q := by
  obtain ⟨es, clock, hb, _, hs, _⟩ := h
  exact ⟨es, clock, hb, by rw [hs]; exact hq⟩
theorem MapN.update (h : MapN P k eK eV w b n f) (Kd : Keyed P k) (ht : P.underlying t = some (.map k e)) (hn : n < maxLen) {x : K} {v : V} {kl : Lit} (hkey : keyOf P k (eK x) = some kl) (hinj : ∀ y, eK y = eK x → y = x) {Q : World → Prop}
    (hq : ∀ (w' : World) (g : K → Option V), MapN P k eK eV w' b (if (f x).isSome then n else n + 1) g → Chg (fun j => j = b) w w' → g x = some v → (∀ y, y ≠ x → g y = f y) → Q w') : mupd P t (.map (some b)) (eK x) (eV v) w Q := by
  have hlt := h.toT.lt
  obtain ⟨es, clock, hb, F, hs, hf⟩ := h
  have hsz : es.size < maxLen := by rw [hs]; exact hn
  have chg : ∀ o, Chg (fun j => j = b) w (ChangeMaps.setBlock w b o) := fun o => ⟨rfl, rfl, rfl, by simp [ChangeMaps.setBlock], fun i _ hi => ChangeMaps.heap_setBlock_other hb _ hi⟩
  have fin : ∀ es' clock', (Instr.mapUpdate t (.map (some b)) (eK x) (eV v)).run P w = .ok () (ChangeMaps.setBlock w b (.map es' clock')) → Fit P k anyV es' clock' → es'.size = (if (f x).isSome then n else n + 1) →
      (∃ e1 ∈ es'.toList, e1.key = eK x ∧ e1.val = eV v) → (∀ e0 ∈ es.toList, e0.key ≠ eK x → e0 ∈ es'.toList) → (∀ e1 ∈ es'.toList, e1.key ≠ eK x → e1 ∈ es.toList) →
      mupd P t (.map (some b)) (eK x) (eV v) w Q := by
    intro es' clock' hrun F' hs' hnew hold hback
    classical
    refine ⟨_, hrun, hq _ (fun y => if y = x then some v else f y) ⟨es', clock', ChangeMaps.heap_setBlock_same hb _, F', hs', fun y => ?_⟩ (chg _) (by simp) (fun y hy => by simp [hy])⟩
    by_cases hy : y = x
    · subst hy
      obtain ⟨e1, h1, h2, h3⟩ := hnew
      exact .inr ⟨v, by simp, e1, h1, h2, h3⟩
    · have hne : eK y ≠ eK x := fun e => hy (hinj y e)
      rcases hf y with ⟨h0, h1⟩ | ⟨u, hu, e1, h1, h2, h3⟩
      · refine .inl ⟨by simp [hy, h0], fun e1 he1 hk => ?_⟩
        exact h1 e1 (hback e1 he1 (by rw [hk]; exact hne)) hk
      · exact .inr ⟨u, by simp [hy, hu], e1, hold e1 h1 (by rw [h2]; exact hne), h2, h3⟩
  rcases Kd.find w hkey es.toList F.keys with ⟨h1, h2⟩ | ⟨j, e0, h1, h2, h3⟩
  · have hfx : (f x).isSome = false := by
      rcases hf x with ⟨h0, _⟩ | ⟨u, hu, e1, g1, g2, _⟩
      · rw [h0]; rfl
      · exact absurd g2 (h2 e1 g1)
    refine fin (es.push ⟨eK x, eV v, clock⟩) (clock + 1) ?_ ⟨by simp; omega, MapKept.stamped_push F.stamped h2, ?_⟩ (by rw [hfx]; simp [hs]) ⟨⟨eK x, eV v, clock⟩, by simp, rfl, rfl⟩ (fun e0 h0 _ => by simp at h0 ⊢; exact .inl h0) (fun e1 h1 hne => ?_)
    · simp [Instr.mapUpdate, run_underlying ht, MapKept.run_getObj_map hb, Kd.check w false hkey, h1, MapKept.run_setObj_map _ hb, Result.andThen, ChangeMaps.setBlock]
    · intro y hy
      simp only [Array.toList_push, List.mem_append, List.mem_singleton] at hy
      rcases hy with hy | rfl
      · exact F.reads y hy
      · exact ⟨_, WideElems.rd_mk hkey rfl⟩
    · simp only [Array.toList_push, List.mem_append, List.mem_singleton] at h1
      rcases h1 with h1 | rfl
      · exact h1
      · exact absurd rfl hne
  · have hj : es[j]? = some e0 := by simpa using h2
    have hjl : j < es.toList.length := (List.getElem?_eq_some_iff.1 h2).1
    have hkeyf : ∀ e', es[j]? = some e' → ({ e' with key := eK x, val := eV v } : MapEntry).key = e'.key := fun e' he' => by rw [hj] at he'; cases he'; exact h3.symm
    have hlist : (es.modify j (fun e' => { e' with key := eK x, val := eV v })).toList = es.toList.set j { e0 with key := eK x, val := eV v } := by
      apply List.ext_getElem?
      intro i
      simp only [Array.getElem?_toList, Array.getElem?_modify, List.getElem?_set]
      by_cases hi : j = i
      · subst hi; simp [hj]; exact (Array.getElem?_eq_some_iff.1 hj).1
      · simp [hi]
    have hfx : (f x).isSome = true := by
      rcases hf x with ⟨_, h0⟩ | ⟨u, hu, _⟩
      · exact absurd h3 (h0 e0 (List.mem_of_getElem? h2))
      · rw [hu]; rfl
    refine fin (es.modify j (fun e' => { e' with key := eK x, val := eV v })) clock ?_ ⟨by simpa using F.size, MapKept.stamped_modify F.stamped _ _ (fun _ _ => rfl) (fun e' _ he' => hkeyf e' he'), ?_⟩ (by rw [hfx]; simpa using hs) ?_ ?_ ?_
    · simp [Instr.mapUpdate, run_underlying ht, MapKept.run_getObj_map hb, Kd.check w false hkey, h1, hj, h3, Kd.stays w hkey, MapKept.run_setObj_map _ hb, Result.andThen, ChangeMaps.setBlock]
    · intro y hy
      rw [hlist] at hy
      rcases List.mem_or_eq_of_mem_set hy with hy | rfl
      · exact F.reads y hy
      · exact ⟨_, WideElems.rd_mk hkey rfl⟩
    · exact ⟨{ e0 with key := eK x, val := eV v }, by rw [hlist]; exact List.mem_iff_getElem.2 ⟨j, by simpa using hjl, by simp⟩, rfl, rfl⟩
    · intro y hy hne
      rw [hlist]
      obtain ⟨i, hi, rfl⟩ := List.getElem_of_mem hy
      have hij : j ≠ i := fun e => by
        subst e
        have : es.toList[j] = e0 := by rw [List.getElem?_eq_getElem hjl] at h2; exact Option.some.inj h2
        rw [this] at hne; exact hne h3
      exact List.mem_iff_getElem.2 ⟨i, by simpa using hi, by rw [List.getElem_set_ne hij]⟩
    · intro y hy hne
      rw [hlist] at hy
      rcases List.mem_or_eq_of_mem_set hy with hy | rfl
      · exact hy
      · exact absurd rfl hne
end
end Go.Sh
namespace Go.Proofs
open Go Go.Sh Go.RowKit
/- split.OfStates -/
def ownI (L : List Int) (k : Nat) : List Int := ((List.range k).filter fun i => gZ L i != gZ L 0).map fun i : Nat => (i : Int)
theorem ownI_succ (L : List Int) (k : Nat) : ownI L (k + 1) = ownI L k ++ (if gZ L k ≠ gZ L 0 then [(k : Int)] else []) := by
  unfold ownI
  rw [List.range_succ, List.filter_append, List.map_append]
  congr 1
  by_cases h : gZ L k = gZ L 0
  · rw [if_neg (fun q => q h)]; simp [h]
  · rw [if_pos h]; simp [h]
theorem ownI_len (L : List Int) (k : Nat) : (ownI L k).length ≤ k := by
  unfold ownI
  rw [List.length_map]
  exact Nat.le_trans (List.length_filter_le ..) (by simp)
theorem ownI_mem {L : List Int} {k : Nat} (h : 0 < (ownI L k).length) : ∃ i, i < k ∧ gZ L i ≠ gZ L 0 := by
  unfold ownI at h
  rw [List.length_map] at h
  obtain ⟨i, hi⟩ := List.exists_mem_of_length_pos h
  rw [List.mem_filter, List.mem_range] at hi
  exact ⟨i, hi.1, by simpa using hi.2⟩
def inT (L : List Int) (k : Nat) (x : Int) : Prop := ∃ i, i < k ∧ gZ L i = x
instance (L : List Int) (k : Nat) (x : Int) : Decidable (inT L k x) := inferInstanceAs (Decidable (∃ i, i < k ∧ gZ L i = x))
def cntT (L : List Int) (k : Nat) : Nat := (if inT L k 0 then 1 else 0) + (if inT L k 1 then 1 else 0)
theorem inT_succ {L : List Int} {k : Nat} {x : Int} : inT L (k + 1) x ↔ inT L k x ∨ gZ L k = x := by
  constructor
  · rintro ⟨i, hi, h⟩
    by_cases e : i = k
    · subst e; exact .inr h
    · exact .inl ⟨i, by omega, h⟩
  · rintro (⟨i, hi, h⟩ | h)
    · exact ⟨i, by omega, h⟩
    · exact ⟨k, by omega, h⟩
theorem cntT_succ {L : List Int} {k : Nat} (h : gZ L k = 0 ∨ gZ L k = 1) : cntT L (k + 1) = if inT L k (gZ L k) then cntT L k else cntT L k + 1 := by
  unfold cntT
  have e0 := inT_succ (L := L) (k := k) (x := 0)
  have e1 := inT_succ (L := L) (k := k) (x := 1)
  rcases h with h | h
  · rw [h]
    have n1 : ¬ gZ L k = 1 := by omega
    by_cases g0 : inT L k 0 <;> by_cases g1 : inT L k 1 <;> simp [e0, e1, g0, g1, h, n1] <;> omega
  · rw [h]
    have n0 : ¬ gZ L k = 0 := by omega
    by_cases g0 : inT L k 0 <;> by_cases g1 : inT L k 1 <;> simp [e0, e1, g0, g1, h, n0] <;> omega
theorem kd3 : Maps.Keyed Tryz.prog 3 := Maps.int_keyed Tryz.underlying3
theorem key3 {x : Int} (h : -1000 ≤ x ∧ x ≤ 1000) : keyOf Tryz.prog 3 (.int .i64 x) = some (.int .i64 x) := by
  unfold keyOf mapKey
  rw [Tryz.underlying3]
  simp [Lit.wf, IntKind.min, IntKind.max, IntKind.signed, IntKind.bits]
  omega
theorem z3 (w : World) : (zeroValue 3).run Tryz.prog w = .ok (.int .i64 0) w := by
  have := (SlT.get slT_int)
  obtain ⟨i, hi, hz, _, _⟩ := this
  unfold zeroValue
  simp [typeInfo, hi, hz]
def isSp (L : List Int) : Bool := decide (2 ≤ (ownI L L.length).length) && decide ((ownI L L.length).length + 2 ≤ L.length)
section
variable {R : Ending → World → Prop} {S : Nat → Prop} {w : World} {a : Option Addr} {n c : Nat} {L : List Int}
theorem ofst1_call {x : Int} (h01 : x = 0 ∨ x = 1) {V : World} {K : Ending → World → Prop} (h : K (.returned (.bool false)) V) : CallV Tryz.prog (.func (.func 16) #[] #[]) [.int .i64 x] V K := by
  refine ⟨by kernel_rfl, ?_⟩
  apply c_split_OfStates_1
  refine br_neg (by omega) ?_
  rw [decide_eq_false (by omega)]
  exact h
theorem OfStates_spec (h1 : RowV vI S w a n L) (hn32 : n ≤ 32) (h01 : ∀ x ∈ L, x = 0 ∨ x = 1)
    (h : ∀ (oa : Option Addr) (on oc : Nat) w', Ext w w' → (isSp L = true → on ≤ oc ∧ RowV vI (fun k => w.heap.size ≤ k) w' oa on (ownI L L.length)) → R (.returned (.tuple ⟨[.slice oa on oc, .bool (isSp L), .int .i64 0]⟩)) w') :
    Calls Tryz.prog F_split_OfStates ⟨[.slice a n c]⟩ w R := by
  apply c_split_OfStates
  have hn := h1.1
  have g01 : ∀ i, i < L.length → gZ L i = 0 ∨ gZ L i = 1 := fun i hi => by rw [gZ_at hi]; exact h01 _ (List.getElem_mem hi)
  refine br_neg (by omega) ?_
  refine ContainsFuncI_spec (q := fun _ => false) (J := fun V => Ext w V) h1 (by omega) ?_ (Below.refl _ _) (fun _ _ => ext_trans) fun w3 e3 => ⟨_, rfl, ?_⟩
  · intro x hx W K _ hK
    exact ofst1_call (h01 x hx) (hK W (Below.refl _ _))
  rw [show (L.any fun _ => false) = false from List.any_eq_false.2 fun x _ => by decide]
  refine br_cases (fun q => (by cases q)) (fun _ => ?_)
  refine mkm_intro fun b5 w6 hb5 hM e6 s6 => ?_
  have hM := MapN.of0 (hM Tryz.prog 3 (fun x : Int => .int .i64 x) (fun x : Int => .int .i64 x))
  have e06 := ext_trans e3 e6
  refine ⟨fun oa on oc i W m => ∃ (k : Nat) (f : Int → Option Int), i = k ∧ k ≤ n ∧ m = n - k ∧ OwnL Sh.encI W (b5 + 1) 3 oa on oc (ownI L k) ∧ Ext w W ∧ b5 + 1 ≤ W.heap.size ∧
      MapN Tryz.prog 3 (fun x : Int => .int .i64 x) (fun x : Int => .int .i64 x) W b5 (cntT L k) f ∧ (∀ x, (f x).isSome = true ↔ inT L k x),
    ⟨_, 0, _, rfl, Nat.zero_le _, rfl, Owns.nil w6 (b5 + 1) 3 1, e06, by omega, by
      have : cntT L 0 = 0 := by unfold cntT inT; simp
      rw [this]; exact hM, fun x => by unfold inT; simp⟩, ?_⟩
  rintro oa on oc _ W m ⟨k, f, rfl, hk, rfl, hO, eW, zW, hMk, hf⟩ _
  have hol : (ownI L k).length = on := OwnL.length hO
  have hol2 := ownI_len L k
  refine br_split (fun hlt => ?_) (fun hge => ?_)
  · have hkl : k < L.length := by omega
    obtain ⟨p, hp, d⟩ := rowI_get (h1.ext eW) hkl
    have hk01 := g01 k hkl
    have hlook := hMk.toT.look (t := 50) (e := 3) kd3 Tryz.underlying50 (z3 W) (x := gZ L k) (key3 (by omega))
    refine hp _ ⟨_, d, ?_⟩
    have nx : ∀ v : Int, mupd Tryz.prog 50 (.map (some b5)) (.int .i64 (gZ L k)) (.int .i64 (IntKind.i64.wrap (v + 1))) W fun w16 => idx a n 0 1 fun p17 => ∃ (x18 : Int), World.cell? w16 p17 = some (.int .i64 x18) ∧ (br (decide ((gZ L k : Int) ≠ x18)) (al w16 3 [.int .i64 (k : Int)] fun p19 w20 =>
        app Tryz.prog [30, 30] 30 (.slice oa on oc) (.slice (some p19) 1 1) w20 fun a21 a21n a21c w22 => ∃ m23 : Nat, m23 < n - k ∧ ∃ (k' : Nat) (f : Int → Option Int), IntKind.i64.wrap ((k : Int) + 1) = k' ∧ k' ≤ n ∧ m23 = n - k' ∧ OwnL Sh.encI w22 (b5 + 1) 3 a21 a21n a21c (ownI L k') ∧ Ext w w22 ∧ b5 + 1 ≤ w22.heap.size ∧ MapN Tryz.prog 3 (fun x : Int => .int .i64 x) (fun x : Int => .int .i64 x) w22 b5 (cntT L k') f ∧ (∀ x, (f x).isSome = true ↔ inT L k' x))
        (∃ m24 : Nat, m24 < n - k ∧ ∃ (k' : Nat) (f : Int → Option Int), IntKind.i64.wrap ((k : Int) + 1) = k' ∧ k' ≤ n ∧ m24 = n - k' ∧ OwnL Sh.encI w16 (b5 + 1) 3 oa on oc (ownI L k') ∧ Ext w w16 ∧ b5 + 1 ≤ w16.heap.size ∧ MapN Tryz.prog 3 (fun x : Int => .int .i64 x) (fun x : Int => .int .i64 x) w16 b5 (cntT L k') f ∧ (∀ x, (f x).isSome = true ↔ inT L k' x))) := by
      intro v
      refine hMk.update (t := 50) (e := 3) kd3 Tryz.underlying50 (by have : cntT L k ≤ 2 := by unfold cntT; split <;> split <;> omega
                                                                     simp only [maxLen]; omega) (x := gZ L k) (v := IntKind.i64.wrap (v + 1)) (key3 (by omega)) (fun y hy => by simpa using hy) fun w16 g hg cg hgx hgo => ?_
      have e016 : Ext w w16 := ext_chgS eW cg fun j hj => by subst hj; have := e3.size; omega
      have z16 := cg.size
      have hg : MapN Tryz.prog 3 (fun x : Int => .int .i64 x) (fun x : Int => .int .i64 x) w16 b5 (cntT L (k + 1)) g := by
        rw [cntT_succ hk01]
        by_cases q : inT L k (gZ L k)
        · rw [if_pos q]; rw [(hf _).2 q] at hg; exact hg
        · rw [if_neg q]
          have : (f (gZ L k)).isSome = false := by
            cases hh : (f (gZ L k)).isSome with
            | false => rfl
            | true => exact absurd ((hf _).1 hh) q
          rw [this] at hg; exact hg
      have hf' : ∀ x, (g x).isSome = true ↔ inT L (k + 1) x := fun x => by
        rw [inT_succ]
        by_cases q : x = gZ L k
        · subst q; rw [hgx]; exact ⟨fun _ => .inr rfl, fun _ => rfl⟩
        · rw [hgo x q, hf x]; exact ⟨.inl, fun t => t.resolve_right fun r => q r.symm⟩
      have hO16 : OwnL Sh.encI w16 (b5 + 1) 3 oa on oc (ownI L k) := Owns.chg hO cg fun j hj e => by have := (Owns.bk hO hj).1; omega
      obtain ⟨p0, hp0, d0⟩ := rowI_get (h1.ext e016) (i := 0) (by omega)
      refine hp0 _ ⟨_, d0, br_split (fun g1 => ?_) (fun g1 => ?_)⟩
      · refine OwnL.push (E := Sh.encI) slT_int hO16 (by omega) (k : Int) (by omega) (by omega) fun a' c' w22 ho hc hnn => ?_
        have hbk5 : ¬ bk oa b5 := fun hh => by have := (Owns.bk hO16 hh).1; omega
        refine ⟨n - (k + 1), by omega, k + 1, g, by rw [wrap_nat (by omega)], by omega, rfl, ?_, ?_, ?_, hg.chg hc hbk5, hf'⟩
        · rw [ownI_succ, if_pos g1]; exact ho
        · exact ext_own e016 hc fun j hj => by have := (Owns.bk hO16 hj).1; have := e3.size; omega
        · have := hc.size; omega
      · refine ⟨n - (k + 1), by omega, k + 1, g, by rw [wrap_nat (by omega)], by omega, rfl, ?_, e016, by omega, hg, hf'⟩
        rw [ownI_succ, if_neg g1, List.append_nil]; exact hO16
    cases hfx : f (gZ L k) with
    | none => rw [hfx] at hlook; exact ⟨0, hlook, nx 0⟩
    | some v => rw [hfx] at hlook; exact ⟨v, hlook, nx v⟩
  · have hkn : k = L.length := by omega
    subst hkn
    have hfm : f (-1) = none := by
      cases hfx : f (-1) with
      | none => rfl
      | some v =>
        exfalso
        obtain ⟨i, hi, hv⟩ := (hf (-1)).1 (by rw [hfx]; rfl)
        have := g01 i hi; omega
    have hlook := hMk.toT.look (t := 50) (e := 3) kd3 Tryz.underlying50 (z3 W) (x := -1) (key3 (by omega))
    rw [hfm] at hlook
    refine ⟨0, hlook, br_neg (by decide) (hMk.len ?_)⟩
    have no : isSp L = false → R (.returned (.tuple ⟨[.slice none 0 0, .bool false, .int .i64 0]⟩)) W := fun q => by
      have := h none 0 0 W eW fun q2 => by rw [q] at q2; cases q2
      rw [q] at this; exact this
    have isn : ¬ (2 ≤ (ownI L L.length).length ∧ (ownI L L.length).length + 2 ≤ L.length) → isSp L = false := fun q => by
      cases hb : isSp L with
      | false => rfl
      | true =>
        unfold isSp at hb
        rw [Bool.and_eq_true, decide_eq_true_iff, decide_eq_true_iff] at hb
        exact absurd hb q
    refine br_split (fun g1 => no (isn fun q => g1 ?_)) (fun g1 => br_split (fun g2 => no (isn fun q => by omega)) (fun g2 => ?_))
    · obtain ⟨i, hi, hne⟩ := ownI_mem (L := L) (k := L.length) (by omega)
      have h0 := g01 0 (by omega)
      have hi' := g01 i hi
      have c0 : inT L L.length 0 := by rcases h0 with h0 | h0
                                       · exact ⟨0, by omega, h0⟩
                                       · exact ⟨i, hi, by omega⟩
      have c1 : inT L L.length 1 := by rcases h0 with h0 | h0
                                       · exact ⟨i, hi, by omega⟩
                                       · exact ⟨0, by omega, h0⟩
      unfold cntT
      rw [if_pos c0, if_pos c1]; rfl
    · rw [wrap_id (by omega)]
      refine br_split (fun g3 => no (isn fun q => by omega)) (fun g3 => ?_)
      have hsp : isSp L = true := by
        unfold isSp
        rw [decide_eq_true (by omega), decide_eq_true (by omega)]; rfl
      have := h oa on oc W eW fun _ => ⟨((ownV_enc (S := fun _ => True)).2 hO).cap, (rowV_enc.2 (OwnL.out hO)).imp fun j hj _ => by have := (Owns.bk hO hj).1; have := e3.size; have := e6.size; omega⟩
      rw [hsp] at this
      exact this
end
end Go.Proofs
namespace Go.Proofs
open Go Go.Sh Go.RowKit
/- intset.Intersect; splits that are compatible -/
def bothZ (A B : List Int) : Nat → List Int
  | 0 => []
  | k + 1 => bothZ A B k ++ (if decide ((k : Int) ∈ A) && decide ((k : Int) ∈ B) then [(k : Int)] else [])
theorem bothZ_len (A B : List Int) : ∀ k, (bothZ A B k).length ≤ k
  | 0 => Nat.le_refl _
  | k + 1 => by
    rw [bothZ, List.length_append]
    have := bothZ_len A B k
    split <;> simp <;> omega
theorem bothZ_pre (A B : List Int) : ∀ {k m : Nat}, k ≤ m → bothZ A B k <+: bothZ A B m
  | k, 0, h => by obtain rfl : k = 0 := by omega
                  exact List.prefix_refl _
  | k, m + 1, h => by
    by_cases e : k = m + 1
    · subst e; exact List.prefix_refl _
    · exact (bothZ_pre A B (k := k) (m := m) (by omega)).trans ⟨_, rfl⟩
def strictI (l : List Int) : Prop := l.Pairwise (· ≤ ·)
section
variable {R : Ending → World → Prop} {S S2 : Nat → Prop} {w w0 V : World} {a a2 : Option Addr} {n c n2 c2 : Nat} {A B : List Int}
theorem BinS_spec (h1 : RowV vI S w a n A) (hs : n ≤ 1000000) (hA : strictI A) (x : Int) (h : ∀ (i : Int) w', Ext w w' → R (.returned (.tuple ⟨[.int .i64 i, .bool (decide (x ∈ A))]⟩)) w') :
    Calls Tryz.prog F_slices_BinarySearch_of_int_int ⟨[.slice a n c, .int .i64 x]⟩ w R := by
  have hn := h1.1
  by_cases h0 : n = 0
  · have hA0 : A = [] := List.eq_nil_of_length_eq_zero (by omega)
    subst hA0
    subst h0
    refine (Tryz.slices_BinarySearch_int_empty a c x w).mono ?_
    rintro e w' ⟨rfl, rfl⟩
    exact h 0 _ (Below.refl _ _)
  · obtain ⟨_, vs, hat, hall⟩ := h1
    have hvs : vs = Sh.encI.row A := allV_enc.1 hall
    subst hvs
    rcases hat with hnil | ⟨b, o, rfl, _, _, hc⟩
    · exfalso
      have := congrArg List.length hnil
      rw [row_len] at this
      have : A.length * 1 = 0 := this
      omega
    · have hcell : ∀ j, j < A.length → w.cell? ⟨b, o + j, none⟩ = some (.int .i64 (A.getD j 0)) := fun j hj => by
        refine hc j _ ?_
        have := row_get (E := Sh.encI) (l := A) (i := j) (j := 0) (x := A.getD j 0) (by rw [List.getD_eq_getElem?_getD, List.getElem?_eq_getElem hj]; rfl) (by decide)
        rw [show j * Sh.encI.size + 0 = j from Nat.mul_one j] at this
        rw [this]; rfl
      refine (Tryz.slices_BinarySearch_int b o n c A x w (by omega) (by omega) hcell (by rw [List.take_of_length_le (by omega)]; exact hA)).mono ?_
      rintro e w' ⟨rfl, q, rfl⟩
      rw [List.take_of_length_le (by omega)]
      have e1 : A.contains x = decide (x ∈ A) := by
        rw [Bool.eq_iff_iff, List.contains_iff_mem, decide_eq_true_iff]
      rw [e1]
      exact h _ _ ⟨rfl, rfl, rfl, Nat.le_refl _, fun _ _ => rfl⟩
/- the functions that tell what is in a set -/
structure HasAt (w : World) (h : Nat) (S : Nat → Prop) (A : List Int) : Prop where
  at_ : ∃ (a : Option Addr) (n c : Nat), Blk w h [.slice a n c] 30 ∧ RowV vI S w a n A
  len : A.length ≤ 1000000
  srt : strictI A
theorem HasAt.ext {h : Nat} (H : HasAt w h S A) {w' : World} (e : Ext w w') : HasAt w' h S A := by
  obtain ⟨a, n, c, h1, h2⟩ := H.at_
  exact ⟨⟨a, n, c, h1.ext e, h2.ext e⟩, H.len, H.srt⟩
theorem HasAt.chg {h : Nat} {T : Nat → Prop} (H : HasAt w h S A) {w' : World} (hc : Chg T w w') (h1 : ¬ T h) (h2 : ∀ k, S k → k < w.heap.size → ¬ T k) : HasAt w' h S A := by
  obtain ⟨a, n, c, q1, q2⟩ := H.at_
  exact ⟨⟨a, n, c, hc.blk q1 h1, q2.chg hc h2⟩, H.len, H.srt⟩
abbrev hasF (h : Nat) : Value := .func (.func 99) #[] #[.pointer (some ⟨h, 0, none⟩)]
theorem has_call {h : Nat} (H : HasAt w h S A) (x : Int) {K : Ending → World → Prop} (hk : ∀ V, Ext w V → K (.returned (.bool (decide (x ∈ A)))) V) : CallV Tryz.prog (hasF h) [.int .i64 x] w K := by
  refine ⟨by kernel_rfl, ?_⟩
  apply c_intset_has_1
  obtain ⟨a, n, c, h1, h2⟩ := H.at_
  have hl := H.len
  have hn := h2.1
  refine dr_ok ⟨_, _, _, b0_cell h1, BinS_spec h2 (by omega) H.srt x fun i w' e' => ⟨_, _, rfl, hk w' e'⟩⟩
theorem and_call (x y : Bool) {K : Ending → World → Prop} (hk : K (.returned (.bool (x && y))) w) : CallV Tryz.prog (.func (.func 74) #[] #[]) [.bool x, .bool y] w K := by
  refine ⟨by kernel_rfl, ?_⟩
  apply c_intset_Intersect_1
  cases x <;> exact hk
/- steps of the region that asks both -/
theorem st_fn {b : Nat} {f : Fn} {fa fb : Array Value} {T : TypeId} (B : Blk w0 b [.func f fa fb] T) (e : Ext w0 V) {K : Fn → Array Value → Array Value → Prop} (h : K f fa fb) : dr (some ⟨b, 0, none⟩) fun p => ∃ (x : Fn) (xa xb : Array Value), V.cell? p = some (.func x xa xb) ∧ K x xa xb :=
  dr_ok ⟨_, _, _, b0_cell (B.ext e), h⟩
theorem st_has {h : Nat} (H : HasAt w0 h S A) (e : Ext w0 V) {x : Int} {K : Bool → World → Prop} (hk : ∀ V', Ext w0 V' → K (decide (x ∈ A)) V') : CallV Tryz.prog (.func (.func 99) #[] #[.pointer (some ⟨h, 0, none⟩)]) [.int .i64 x] V fun e1 V' => ∃ y, e1 = .returned (.bool y) ∧ K y V' :=
  has_call (H.ext e) x fun V' e' => ⟨_, rfl, hk V' (ext_trans e e')⟩
theorem st_and (e : Ext w0 V) {x y : Bool} {K : Bool → World → Prop} (hk : K (x && y) V) : CallV Tryz.prog (.func (.func 74) #[] #[]) [.bool x, .bool y] V fun e1 V' => ∃ z, e1 = .returned (.bool z) ∧ K z V' :=
  and_call x y ⟨_, rfl, hk⟩
structure CmbAt (w : World) (b4 b14 b16 hA hB : Nat) (S S2 : Nat → Prop) (A B : List Int) : Prop where
  f4 : Blk w b4 [.func (.func 74) #[] #[]] 111
  f14 : Blk w b14 [hasF hA] 49
  f16 : Blk w b16 [hasF hB] 49
  hA : HasAt w hA S A
  hB : HasAt w hB S2 B
theorem CmbAt.ext {b4 b14 b16 hA hB : Nat} (C : CmbAt w b4 b14 b16 hA hB S S2 A B) {w' : World} (e : Ext w w') : CmbAt w' b4 b14 b16 hA hB S S2 A B := ⟨C.f4.ext e, C.f14.ext e, C.f16.ext e, C.hA.ext e, C.hB.ext e⟩
set_option maxRecDepth 20000 in
theorem cmb_call {b4 b14 b16 hA hB : Nat} (C : CmbAt w b4 b14 b16 hA hB S S2 A B) (x : Int) {K : Ending → World → Prop} (hk : ∀ V, Ext w V → K (.returned (.bool (decide (x ∈ A) && decide (x ∈ B)))) V) :
    CallV Tryz.prog (.func (.func 91) #[] #[.pointer (some ⟨b4, 0, none⟩), .pointer (some ⟨b14, 0, none⟩), .pointer (some ⟨b16, 0, none⟩)]) [.int .i64 x] w K := by
  refine ⟨by kernel_rfl, ?_⟩
  apply c_intset_combine_1
  unfold sh_intset_combine_1 drw
  have ed := ext_drew w
  have C := C.ext ed
  have hk : ∀ V, Ext w.drew V → K (.returned (.bool (decide (x ∈ A) && decide (x ∈ B)))) V := fun V e => hk V (ext_trans ed e)
  have e00 : Ext w.drew w.drew := Below.refl _ _
  generalize w.drew = w0 at *
  obtain ⟨f4, f14, f16, HA, HB⟩ := C
  repeat' first
    | exact trivial
    | with_reducible exact hk _ (by assumption)
    | with_reducible refine And.intro ?_ ?_
    | with_reducible refine st_fn f14 (by assumption) ?_
    | with_reducible refine st_fn f16 (by assumption) ?_
    | with_reducible refine st_fn f4 (by assumption) ?_
    | with_reducible refine st_has HA (by assumption) fun V' eV' => ?_
    | with_reducible refine st_has HB (by assumption) fun V' eV' => ?_
    | with_reducible refine st_and (by assumption) ?_
abbrev intE (x : Int) (vs : List Value) : Prop := vs = [.int .i64 x]
theorem members_iterO {b3 b5 b4 b14 b16 hA hB : Nat} (B3 : Blk w b3 [.int .i64 64] 3) (B5 : Blk w b5 [.func (.func 91) #[] #[.pointer (some ⟨b4, 0, none⟩), .pointer (some ⟨b14, 0, none⟩), .pointer (some ⟨b16, 0, none⟩)]] 49) (C : CmbAt w b4 b14 b16 hA hB S S2 A B) {Rd : Nat → Prop}
    (hRl : ∀ k, Rd k → k < w.heap.size) (hR : ∀ k, k < w.heap.size → (k = b3 ∨ k = b5 ∨ k = b4 ∨ k = b14 ∨ k = b16 ∨ k = hA ∨ k = hB ∨ S k ∨ S2 k) → Rd k) :
    IterO Tryz.prog F_intset_members_1 [.pointer (some ⟨b3, 0, none⟩), .pointer (some ⟨b5, 0, none⟩)] (bothZ A B 64) intE Rd w := by
  intro yf ya yb S0 J Jx R hS0 hJ hJx hbody h0 hend hstop
  apply c_intset_members_1
  have nS : ∀ k, k < w.heap.size → (k = b3 ∨ k = b5 ∨ k = b4 ∨ k = b14 ∨ k = b16 ∨ k = hA ∨ k = hB ∨ S k ∨ S2 k) → ¬ (S0 k ∨ w.heap.size ≤ k) := fun k hk q hh => hh.elim (fun g => (hS0 k g).2 (hR k hk q)) (fun g => by omega)
  have rd : ∀ {W : World}, Chg (fun k => S0 k ∨ w.heap.size ≤ k) w W → Blk W b5 [.func (.func 91) #[] #[.pointer (some ⟨b4, 0, none⟩), .pointer (some ⟨b14, 0, none⟩), .pointer (some ⟨b16, 0, none⟩)]] 49 ∧ CmbAt W b4 b14 b16 hA hB S S2 A B := by
    intro W hc
    obtain ⟨f4, f14, f16, HA, HB⟩ := C
    obtain ⟨_, _, _, qA, _⟩ := HA.at_
    obtain ⟨_, _, _, qB, _⟩ := HB.at_
    exact ⟨hc.blk B5 (nS _ B5.lt (by simp)), hc.blk f4 (nS _ f4.lt (by simp)), hc.blk f14 (nS _ f14.lt (by simp)), hc.blk f16 (nS _ f16.lt (by simp)), HA.chg hc (nS _ qA.lt (by simp)) fun k hk hl => nS k hl (by simp [hk]), HB.chg hc (nS _ qB.lt (by simp)) fun k hk hl => nS k hl (by simp [hk])⟩
  refine dr_ok ⟨_, b0_cell B3, ?_⟩
  refine ⟨fun i W m => ∃ (t : Nat) (S1 : Nat → Prop), i = t ∧ t ≤ 64 ∧ m = 64 - t ∧ J (bothZ A B t) S1 W ∧ Chg (fun k => S0 k ∨ w.heap.size ≤ k) w W ∧ (∀ k, S1 k → (S0 k ∨ w.heap.size ≤ k) ∧ k < W.heap.size),
    ⟨_, 0, S0, rfl, by omega, rfl, h0, Chg.refl _ _, fun k hk => ⟨.inl hk, (hS0 k hk).1⟩⟩, ?_⟩
  rintro _ W m ⟨t, S1, rfl, ht, rfl, hj, hc, hS1⟩ _
  obtain ⟨B5W, CW⟩ := rd hc
  have zW := hc.size
  refine br_split (fun hlt => ?_) (fun hge => ?_)
  · have ht64 : t < 64 := by omega
    refine dr_ok ⟨_, _, _, b0_cell B5W, cmb_call CW t fun V eV => ⟨_, rfl, ?_⟩⟩
    have zV := eV.size
    have hjV := hJ _ _ _ _ hj (.of_ext eV)
    have hcV := hc.trans (.of_ext eV)
    refine br_cases (fun g => ?_) (fun g => ?_)
    · have hb1 : bothZ A B (t + 1) = bothZ A B t ++ [(t : Int)] := by rw [bothZ, if_pos g]
      refine CallV_mono (hbody (bothZ A B t) (t : Int) [.int .i64 t] S1 V rfl (by rw [← hb1]; exact bothZ_pre A B (by omega)) (by omega) (fun k hk => ⟨by have := (hS1 k hk).2; omega, fun hr => ?_⟩) hjV) ?_
      · rcases (hS1 k hk).1 with h1 | h1
        · exact (hS0 _ h1).2 hr
        · have := hRl k hr; omega
      · rintro e72 w73 ⟨hcb, S', hS', hres⟩
        have zb := hcb.size
        rcases hres with ⟨rfl, hjn⟩ | ⟨rfl, hjx⟩
        · refine ⟨_, rfl, br_cases (fun q => absurd q (by decide)) (fun _ => ?_)⟩
          refine ⟨64 - (t + 1), by omega, t + 1, S', by rw [wrap_nat (by omega)], by omega, rfl, by rw [hb1]; exact hjn, hcV.trans (hcb.mono fun j _ hj' => (hS1 j hj').1), fun j hj' => ⟨?_, (hS' j hj').2⟩⟩
          rcases (hS' j hj').1 with h1 | h1
          · exact (hS1 j h1).1
          · exact .inr (by omega)
        · exact ⟨_, rfl, br_cases (fun _ => hstop S' w73 (by omega) hjx) (fun q => absurd q (by decide))⟩
    · have hb1 : bothZ A B (t + 1) = bothZ A B t := by rw [bothZ, if_neg (by rw [g]; decide), List.append_nil]
      exact ⟨64 - (t + 1), by omega, t + 1, S1, by rw [wrap_nat (by omega)], by omega, rfl, by rw [hb1]; exact hjV, hcV, fun k hk => ⟨(hS1 k hk).1, by have := (hS1 k hk).2; omega⟩⟩
  · have h64 : t = 64 := by omega
    subst h64
    exact hend S1 W zW hj
end
end Go.Proofs
