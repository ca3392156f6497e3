/- The contracts of the functions that the law reaches, one after the other, and at the end the law's card. -/
import Derived.Test.YtncjonkmhfdabaaLawA
namespace Go.Proofs
/- anchors -/
def anc1 (a : Spot) (s t : Spot) : Bool := decide (s.1 ≤ a.1 ∧ a.1 < t.1) == decide (s.2 ≤ a.2 ∧ a.2 < t.2)
def ancA (A : List Spot) (s t : Spot) : Bool := A.all fun a => anc1 a s t
def tog1 (E : List Spot) (a : Spot) : Bool := match E.findIdx? (fun x => decide (a.1 < x.1)), E.findIdx? (fun x => decide (a.2 < x.2)) with
  | some i, some j => decide (i = j)
  | _, _ => false
def togA (E A : List Spot) : Bool := A.all (tog1 E)
variable {last : Spot} {pages : Spot → List (Spot × Int)}
theorem anc1_iff {a s t : Spot} : anc1 a s t = true ↔ ((s.1 ≤ a.1 ∧ a.1 < t.1) ↔ (s.2 ≤ a.2 ∧ a.2 < t.2)) := by
  unfold anc1
  rw [beq_iff_eq, decide_eq_decide]
theorem wok_all {A : List Spot} : ∀ {l : List (Spot × Int)} {s : Spot}, wok (ancA A) s l ↔ ∀ a ∈ A, wok (anc1 a) s l
  | [], s => ⟨fun _ _ _ => trivial, fun _ => trivial⟩
  | x :: l, s => by
    show (ancA A s x.1 = true ∧ wok (ancA A) x.1 l) ↔ ∀ a ∈ A, anc1 a s x.1 = true ∧ wok (anc1 a) x.1 l
    rw [wok_all]
    unfold ancA
    rw [List.all_eq_true]
    exact ⟨fun h a ha => ⟨h.1 a ha, h.2 a ha⟩, fun h => ⟨fun a ha => (h a ha).1, fun a ha => (h a ha).2⟩⟩
theorem way_past (h : Fwd last pages) {a : Spot} : ∀ {l : List (Spot × Int)} {s : Spot}, way last pages s l → a.1 < s.1 → a.2 < s.2 → wok (anc1 a) s l
  | [], _, _, _, _ => trivial
  | x :: l, s, ⟨_, h2, h3⟩, h4, h5 => by
    obtain ⟨_, k2, k3, _, _⟩ := h.less s x h2
    refine ⟨anc1_iff.2 ⟨fun hh => ?_, fun hh => ?_⟩, way_past h h3 (by omega) (by omega)⟩ <;> omega
theorem tog_of (h : Fwd last pages) {a : Spot} (ha : a.1 < last.1 ∧ a.2 < last.2) : ∀ {l : List (Spot × Int)} {s : Spot}, way last pages s l → s.1 ≤ a.1 → s.2 ≤ a.2 → (wok (anc1 a) s l ↔ tog1 (l.map (·.1)) a = true)
  | [], s, hw, h4, _ => by
    have hw : s = last := hw
    rw [hw] at h4; omega
  | x :: l, s, ⟨_, h2, h3⟩, h4, h5 => by
    obtain ⟨_, k2, k3, _, _⟩ := h.less s x h2
    by_cases c1 : a.1 < x.1.1
    · by_cases c2 : a.2 < x.1.2
      · have e : tog1 ((x :: l).map (·.1)) a = true := by
          unfold tog1
          rw [List.map_cons, List.findIdx?_cons, List.findIdx?_cons, decide_eq_true c1, decide_eq_true c2]; rfl
        exact ⟨fun _ => e, fun _ => ⟨anc1_iff.2 ⟨fun _ => ⟨h5, c2⟩, fun _ => ⟨h4, c1⟩⟩, way_past h h3 c1 c2⟩⟩
      · have e : tog1 ((x :: l).map (·.1)) a = false := by
          unfold tog1
          rw [List.map_cons, List.findIdx?_cons, List.findIdx?_cons, decide_eq_true c1, decide_eq_false c2]
          simp only [if_true]
          cases (l.map (·.1)).findIdx? (fun x => decide (a.2 < x.2)) <;> simp
        refine ⟨fun hh => ?_, fun hh => by rw [e] at hh; cases hh⟩
        have := (anc1_iff.1 hh.1).1 ⟨h4, c1⟩
        omega
    · by_cases c2 : a.2 < x.1.2
      · have e : tog1 ((x :: l).map (·.1)) a = false := by
          unfold tog1
          rw [List.map_cons, List.findIdx?_cons, List.findIdx?_cons, decide_eq_false c1, decide_eq_true c2]
          simp only [if_true]
          cases (l.map (·.1)).findIdx? (fun x => decide (a.1 < x.1)) <;> simp
        refine ⟨fun hh => ?_, fun hh => by rw [e] at hh; cases hh⟩
        have := (anc1_iff.1 hh.1).2 ⟨h5, c2⟩
        omega
      · have ih := tog_of h ha h3 (by omega) (by omega)
        have e : tog1 ((x :: l).map (·.1)) a = tog1 (l.map (·.1)) a := by
          unfold tog1
          rw [List.map_cons, List.findIdx?_cons, List.findIdx?_cons, decide_eq_false c1, decide_eq_false c2]
          cases (l.map (·.1)).findIdx? (fun x => decide (a.1 < x.1)) <;> cases (l.map (·.1)).findIdx? (fun x => decide (a.2 < x.2)) <;> simp
        rw [e, ← ih]
        exact ⟨fun hh => hh.2, fun hh => ⟨anc1_iff.2 ⟨fun k => by omega, fun k => by omega⟩, hh⟩⟩
theorem tog_all (h : Fwd last pages) {A : List Spot} (ha : ∀ a ∈ A, a.1 < last.1 ∧ a.2 < last.2) {l : List (Spot × Int)} (hw : way last pages (0, 0) l) : wok (ancA A) (0, 0) l ↔ togA (l.map (·.1)) A = true := by
  rw [wok_all]
  unfold togA
  rw [List.all_eq_true]
  exact ⟨fun hh a hm => (tog_of h (ha a hm) hw (Nat.zero_le _) (Nat.zero_le _)).1 (hh a hm), fun hh a hm => (tog_of h (ha a hm) hw (Nat.zero_le _) (Nat.zero_le _)).2 (hh a hm)⟩
theorem ancA_mono {A B : List Spot} (hs : ∀ a ∈ A, a ∈ B) {s t : Spot} (h : ancA B s t = true) : ancA A s t = true :=
  List.all_eq_true.2 fun a ha => List.all_eq_true.1 h a (hs a ha)
/- what is found by following the potentials: the first page that fits, over and over -/
def nextP (pages : Spot → List (Spot × Int)) (ok : Spot → Spot → Bool) (p : Spot → Int) (s : Spot) : Option (Spot × Int) :=
  ((pages s).filter fun x => ok s x.1).find? fun x => decide (0 ≤ p x.1 ∧ x.2 + p x.1 = p s)
def wayP (last : Spot) (pages : Spot → List (Spot × Int)) (ok : Spot → Spot → Bool) (p : Spot → Int) : Nat → Spot → List (Spot × Int)
  | 0, _ => []
  | f + 1, s => if s = last then [] else match nextP pages ok p s with
    | none => []
    | some x => x :: wayP last pages ok p f x.1
theorem next_some (h : Fwd last pages) {ok : Spot → Spot → Bool} {F : Nat} {s : Spot} (hs : s ≠ last) (b1 : s.1 ≤ last.1) (b2 : s.2 ≤ last.2) (hF : dis last s ≤ F) (hp : 0 ≤ potF last pages ok F s) :
    ∃ x, nextP pages ok (potF last pages ok F) s = some x ∧ x ∈ pages s ∧ ok s x.1 = true ∧ 0 ≤ potF last pages ok F x.1 ∧ x.2 + potF last pages ok F x.1 = potF last pages ok F s := by
  have hd0 : 0 < dis last s := by
    rcases Nat.eq_zero_or_pos (dis last s) with hz | hz
    · unfold dis at hz
      exact absurd (Prod.ext (by omega) (by omega)) hs
    · exact hz
  obtain ⟨f, rfl⟩ : ∃ f, F = f + 1 := ⟨F - 1, by omega⟩
  have he : potF last pages ok (f + 1) s = leastP (((pages s).filter fun x => ok s x.1).map fun x => (x.2, potF last pages ok f x.1)) (-1) := by rw [potF, if_neg hs]
  have hp' := hp
  rw [he] at hp'
  rcases leastP_at hp' with h1 | ⟨y, hy, h1, h2⟩
  · omega
  obtain ⟨x, hx, rfl⟩ := List.mem_map.1 hy
  have hxf := List.mem_filter.1 hx
  have hd := h.dis hxf.1
  obtain ⟨_, _, _, h4, h5⟩ := h.less s x hxf.1
  have hfu : potF last pages ok f x.1 = potF last pages ok (f + 1) x.1 := pot_fuel h f (f + 1) x.1 h4 h5 (by omega) (by omega)
  have hex : ∃ z, nextP pages ok (potF last pages ok (f + 1)) s = some z := by
    cases hn : nextP pages ok (potF last pages ok (f + 1)) s with
    | some z => exact ⟨z, rfl⟩
    | none =>
      have := List.find?_eq_none.1 hn x hx
      exfalso
      apply this
      refine decide_eq_true ⟨by rw [← hfu]; exact h1, ?_⟩
      rw [← hfu, he]; exact h2.symm
  obtain ⟨z, hz⟩ := hex
  have hz1 := List.mem_filter.1 (List.mem_of_find?_eq_some hz)
  have hz2 := List.find?_some hz
  have hz2 := of_decide_eq_true hz2
  exact ⟨z, hz, hz1.1, hz1.2, hz2⟩
theorem wayP_way (h : Fwd last pages) {ok : Spot → Spot → Bool} {F : Nat} : ∀ (n : Nat) (s : Spot), s.1 ≤ last.1 → s.2 ≤ last.2 → dis last s ≤ n → dis last s ≤ F → 0 ≤ potF last pages ok F s →
    way last pages s (wayP last pages ok (potF last pages ok F) n s) ∧ wok ok s (wayP last pages ok (potF last pages ok F) n s) ∧ wsum (wayP last pages ok (potF last pages ok F) n s) = potF last pages ok F s
  | n, s, b1, b2, hn, hF, hp => by
    by_cases hs : s = last
    · have hz : potF last pages ok F s = 0 := by
        cases F with
        | zero => rfl
        | succ F => rw [potF, if_pos hs]
      cases n with
      | zero => rw [wayP]; exact ⟨hs, trivial, hz.symm⟩
      | succ n => rw [wayP, if_pos hs]; exact ⟨hs, trivial, hz.symm⟩
    · obtain ⟨x, hx, h1, h2, h3, h4⟩ := next_some h hs b1 b2 hF hp
      have hd := h.dis h1
      obtain ⟨_, _, _, k4, k5⟩ := h.less s x h1
      cases n with
      | zero => omega
      | succ n =>
        obtain ⟨g1, g2, g3⟩ := wayP_way h n x.1 k4 k5 (by omega) (by omega) h3
        rw [wayP, if_neg hs, hx]
        refine ⟨⟨hs, h1, g1⟩, ⟨h2, g2⟩, ?_⟩
        show x.2 + wsum _ = _
        rw [g3]; exact h4
end Go.Proofs
namespace Go.Proofs
variable {last : Spot} {pages : Spot → List (Spot × Int)}
/- facing pages: what the law says, with no program in sight -/
def potA (last : Spot) (pages : Spot → List (Spot × Int)) (A : List Spot) : Spot → Int := potF last pages (ancA A) (last.1 + last.2)
def endsA (last : Spot) (pages : Spot → List (Spot × Int)) (A : List Spot) : List Spot := (wayP last pages (ancA A) (potA last pages A) (last.1 + last.2) (0, 0)).map (·.1)
theorem facing_way (h : Fwd last pages) {A : List Spot} (hp : 0 ≤ potA last pages A (0, 0)) :
    way last pages (0, 0) (wayP last pages (ancA A) (potA last pages A) (last.1 + last.2) (0, 0)) ∧ wok (ancA A) (0, 0) (wayP last pages (ancA A) (potA last pages A) (last.1 + last.2) (0, 0)) ∧ wsum (wayP last pages (ancA A) (potA last pages A) (last.1 + last.2) (0, 0)) = potA last pages A (0, 0) :=
  wayP_way h (last.1 + last.2) (0, 0) (Nat.zero_le _) (Nat.zero_le _) (Nat.le_refl _) (Nat.le_refl _) hp
theorem facing_tog (h : Fwd last pages) {A : List Spot} (ha : ∀ a ∈ A, a.1 < last.1 ∧ a.2 < last.2) (hp : 0 ≤ potA last pages A (0, 0)) : togA (endsA last pages A) A = true := by
  obtain ⟨h1, h2, _⟩ := facing_way h hp
  exact (tog_all h ha h1).1 h2
theorem facing_more (h : Fwd last pages) {A B : List Spot} (hb : ∀ a ∈ B, a.1 < last.1 ∧ a.2 < last.2) (hs : ∀ a ∈ A, a ∈ B) (hp : 0 ≤ potA last pages A (0, 0)) :
    (togA (endsA last pages A) B = true → 0 ≤ potA last pages B (0, 0) ∧ potA last pages B (0, 0) ≤ potA last pages A (0, 0)) ∧ (0 ≤ potA last pages B (0, 0) → potA last pages A (0, 0) ≤ potA last pages B (0, 0)) := by
  obtain ⟨h1, h2, h3⟩ := facing_way h hp
  refine ⟨fun ht => ?_, fun hq => ?_⟩
  · have := pot_le h (f := last.1 + last.2) h1 ((tog_all h hb h1).2 ht) (Nat.le_refl _)
    rw [h3] at this; exact this
  · obtain ⟨g1, g2, g3⟩ := facing_way h hq
    have := pot_le h (f := last.1 + last.2) g1 (way_ok (fun s t => ancA_mono hs) g2) (Nat.le_refl _)
    rw [g3] at this; exact this.2
end Go.Proofs
namespace Go.Proofs
open Go Go.Sh Go.RowKit
/- cells by a function; slices that grow, several of them in one block -/
theorem bat {w : World} {b : Nat} {cs : List Value} {T : TypeId} (h : Blk w b cs T) {i : Nat} {v : Value} (hv : cs[i]? = some v) : w.cell? ((⟨b, 0, none⟩ : Addr).add i) = some v := by
  rw [add_none, Nat.zero_add, h.cell, hv]
theorem bat2 {w : World} {b : Nat} {cs : List Value} {T : TypeId} (h : Blk w b cs T) {i j : Nat} {v : Value} (hv : cs[i + j]? = some v) : w.cell? (((⟨b, 0, none⟩ : Addr).add i).add j) = some v := by
  rw [add_none, add_none, Nat.zero_add, h.cell, hv]
def fC (m : Nat) (f : Nat → Value) : List Value := (List.range m).map f
theorem fC_len (m : Nat) (f : Nat → Value) : (fC m f).length = m := by simp [fC]
theorem fC_get {m : Nat} {f : Nat → Value} {j : Nat} (h : j < m) : (fC m f)[j]? = some (f j) := by
  unfold fC
  rw [List.getElem?_map, List.getElem?_range h]; rfl
theorem fC_set {m : Nat} {f : Nat → Value} {j : Nat} {v : Value} : (fC m f).set j v = fC m (fun i => if i = j then v else f i) := by
  refine List.ext_getElem? fun i => ?_
  rw [List.getElem?_set, fC_len]
  by_cases hi : i < m
  · rw [fC_get hi, fC_get hi]
    by_cases e : j = i
    · subst e; simp [hi]
    · rw [if_neg e, if_neg (fun q => e q.symm)]
  · rw [List.getElem?_eq_none (by rw [fC_len]; omega), List.getElem?_eq_none (by rw [fC_len]; omega)]
    by_cases e : j = i
    · rw [if_pos e, if_neg (by omega)]
    · rw [if_neg e]
theorem fC_congr {m : Nat} {f g : Nat → Value} (h : ∀ j, j < m → f j = g j) : fC m f = fC m g := by
  unfold fC
  exact List.map_congr_left fun j hj => h j (List.mem_range.1 hj)
theorem fC_rep (n : Nat) (v : Value) : (List.replicate n [v]).flatten = fC n (fun _ => v) := by
  unfold fC
  rw [List.map_const', List.length_range]
  induction n with
  | zero => rfl
  | succ n ih => rw [List.replicate_succ, List.replicate_succ, List.flatten_cons, ih]; rfl
/- storing one cell of such a block -/
theorem stL_fC {w : World} {b m : Nat} {f : Nat → Value} {T : TypeId} {j : Nat} {v : Value} {K : World → Prop} (h : Blk w b (fC m f) T) (hj : j < m) (hv : v.oneCell' = true)
    (hk : ∀ w', Blk w' b (fC m fun i => if i = j then v else f i) T → Chg (fun k => k = b) w w' → w'.heap.size = w.heap.size → K w') : stL w ⟨b, j, none⟩ 0 [v] K := by
  refine stL_blk h (by rw [fC_len]; simp; omega) (by simpa using hv) fun w' h1 h2 h3 h4 h5 h6 => hk w' ?_ ⟨h4, h5, h6, by omega, fun k _ hk => h2 k hk⟩ h3
  rw [← fC_set]; exact h1
abbrev Slv := Option Addr × Nat × Nat
def slC (s : Slv) : Value := .slice s.1 s.2.1 s.2.2
structure RowsG {α : Type} (E : Enc α) (e : TypeId) (B : Nat) (w : World) (m : Nat) (r : Nat → Slv) (F : Nat → List α) : Prop where
  own : ∀ j, j < m → OwnL E w B e (r j).1 (r j).2.1 (r j).2.2 (F j)
  dj : ∀ i j, i < m → j < m → i ≠ j → ∀ k, bk (r i).1 k → ¬ bk (r j).1 k
section
variable {α : Type} {E : Enc α} {e : TypeId} {B : Nat} {w w' : World} {m : Nat} {r : Nat → Slv} {F : Nat → List α}
theorem RowsG.chg {T : Nat → Prop} (h : RowsG E e B w m r F) (hc : Chg T w w') (hT : ∀ j, j < m → ∀ k, bk (r j).1 k → ¬ T k) : RowsG E e B w' m r F :=
  ⟨fun j hj => Owns.chg (h.own j hj) hc (hT j hj), h.dj⟩
theorem RowsG.ext (h : RowsG E e B w m r F) (hc : Ext w w') : RowsG E e B w' m r F := ⟨fun j hj => Owns.ext (h.own j hj) hc, h.dj⟩
theorem RowsG.bk (h : RowsG E e B w m r F) {j k : Nat} (hj : j < m) (hk : Sh.bk (r j).1 k) : B ≤ k ∧ k < w.heap.size := Owns.bk (h.own j hj) hk
theorem RowsG.nil (w : World) (m : Nat) : RowsG E e B w m (fun _ => (none, 0, 0)) (fun _ => []) := ⟨fun j _ => Owns.nil _ _ _ _, fun i j _ _ _ k hk => by simp [Sh.bk] at hk⟩
theorem RowsG.row (h : RowsG E e B w m r F) {j : Nat} (hj : j < m) : RowAt E (Sh.bk (r j).1) w (r j).1 (r j).2.1 (F j) := OwnL.out (h.own j hj)
theorem RowsG.len (h : RowsG E e B w m r F) {j : Nat} (hj : j < m) : (F j).length = (r j).2.1 := OwnL.length (h.own j hj)
theorem RowsG.cap (h : RowsG E e B w m r F) {j : Nat} (hj : j < m) : (r j).2.1 ≤ (r j).2.2 := ((ownV_enc (S := fun _ => True)).2 (h.own j hj)).cap
/- one row is another one now -/
theorem RowsG.put {j : Nat} {a : Option Addr} {n c : Nat} {l : List α} (h : RowsG E e B w m r F) (hj : j < m) (hO : OwnL E w' B e a n c l) (hc : Chg (Sh.bk (r j).1) w w') (ha : ∀ k, Sh.bk a k → Sh.bk (r j).1 k ∨ w.heap.size ≤ k) :
    RowsG E e B w' m (fun i => if i = j then (a, n, c) else r i) (fun i => if i = j then l else F i) := by
  refine ⟨fun i hi => ?_, fun i i' hi hi' hne k hk => ?_⟩
  · by_cases e : i = j
    · simp only [if_pos e]; exact hO
    · simp only [if_neg e]
      exact Owns.chg (h.own i hi) hc fun k hk => h.dj i j hi hj e k hk
  · by_cases e : i = j
    · by_cases e' : i' = j
      · exact absurd (e.trans e'.symm) hne
      · simp only [if_pos e] at hk
        simp only [if_neg e']
        intro hk'
        rcases ha k hk with h1 | h1
        · exact h.dj i' j hi' hj e' k hk' h1
        · have := (h.bk hi' hk').2; omega
    · simp only [if_neg e] at hk
      by_cases e' : i' = j
      · simp only [if_pos e']
        intro hk'
        rcases ha k hk' with h1 | h1
        · exact h.dj i j hi hj e k hk h1
        · have := (h.bk hi hk).2; omega
      · simp only [if_neg e']
        exact h.dj i i' hi hi' hne k hk
theorem RowsG.congr {F' : Nat → List α} (h : RowsG E e B w m r F) (hF : ∀ j, j < m → F j = F' j) : RowsG E e B w m r F' := ⟨fun j hj => by rw [← hF j hj]; exact h.own j hj, h.dj⟩
/- as a slice of slices, to be read -/
theorem RowsG.out {b : Nat} {T : TypeId} {S : Nat → Prop} (h : RowsG E e B w m r F) (hb : Blk w b (fC m fun j => slC (r j)) T) (hS : ∀ k, (k = b ∨ B ≤ k) → k < w.heap.size → S k) :
    RowV (View.sl (View.enc E)) S w (some ⟨b, 0, none⟩) m ((List.range m).map F) := by
  have hA : ∀ k, k ≤ m → AllV (View.sl (View.enc E)) S w ((List.range k).map F) (fC k fun j => slC (r j)) := by
    intro k
    induction k with
    | zero => exact fun _ => rfl
    | succ k ih =>
      intro hk
      have hkm : k < m := by omega
      unfold fC
      rw [List.range_succ, List.map_append, List.map_append]
      refine (ih (by omega)).app (AllV.single ⟨(r k).1, (r k).2.2, ?_, ?_, ?_⟩)
      · show [slC (r k)] = _
        rw [h.len hkm]; rfl
      · rw [h.len hkm]; exact h.cap hkm
      · rw [h.len hkm]
        exact rowV_enc.2 ((h.row hkm).imp fun q hq hl => hS q (.inr (h.bk hkm hq).1) hl)
  exact ⟨by simp, _, .inr ⟨b, 0, rfl, hS b (.inl rfl) hb.lt, hb.lt, fun j v hj => by rw [Nat.zero_add, hb.cell]; exact hj⟩, hA m (Nat.le_refl _)⟩
end
end Go.Proofs
namespace Go.Proofs
open Go Go.Sh Go.RowKit
/- fixedpoint.Badness: what it computes, as it computes it -/
def mulHi (x y : Int) : Int := IntKind.u64.wrap ((IntKind.u64.wrap ((IntKind.u64.wrap ((shR .u64 x 32) * (shR .u64 y 32))) + (shR .u64 (IntKind.u64.wrap ((IntKind.u64.wrap ((shR .u64 x 32) * (bitA .u64 y 4294967295))) + (shR .u64 (IntKind.u64.wrap ((bitA .u64 x 4294967295) * (bitA .u64 y 4294967295))) 32))) 32))) + (shR .u64 (IntKind.u64.wrap ((bitA .u64 (IntKind.u64.wrap ((IntKind.u64.wrap ((shR .u64 x 32) * (bitA .u64 y 4294967295))) + (shR .u64 (IntKind.u64.wrap ((bitA .u64 x 4294967295) * (bitA .u64 y 4294967295))) 32))) 4294967295) + (IntKind.u64.wrap ((bitA .u64 x 4294967295) * (shR .u64 y 32))))) 32))
def timesF (a : Int × Int) (n : Int) : Int × Int := (IntKind.u64.wrap (mulHi a.2 n + IntKind.u64.wrap (a.1 * n)), IntKind.u64.wrap (a.2 * n))
def aboveF (a b : Int × Int) : Bool := if a.1 ≠ b.1 then decide (b.1 < a.1) else if !(decide (a.1 = b.1) && (decide (a.2 = b.2) && true)) then decide (b.2 < a.2) else false
def searchF (cu li : Int × Int) : Nat → Nat → Nat → Nat
  | 0, lo, _ => lo
  | f + 1, lo, hi => if 1 < hi - lo then (if aboveF (timesF cu (((lo + hi) / 2 : Nat) : Int)) li then searchF cu li f lo ((lo + hi) / 2) else searchF cu li f ((lo + hi) / 2) hi) else lo
theorem search_fuel {cu li : Int × Int} : ∀ {f g lo hi : Nat}, hi - lo ≤ f → hi - lo ≤ g → searchF cu li f lo hi = searchF cu li g lo hi
  | 0, 0, _, _, _, _ => rfl
  | 0, g + 1, lo, hi, h, _ => by rw [searchF, searchF, if_neg (by omega)]
  | f + 1, 0, lo, hi, _, h => by rw [searchF, searchF, if_neg (by omega)]
  | f + 1, g + 1, lo, hi, h1, h2 => by
    rw [searchF, searchF]
    by_cases hc : 1 < hi - lo
    · rw [if_pos hc, if_pos hc, search_fuel (f := f) (g := g) (by omega) (by omega), search_fuel (f := f) (g := g) (by omega) (by omega)]
    · rw [if_neg hc, if_neg hc]
theorem search_le {cu li : Int × Int} : ∀ {f lo hi : Nat}, lo < hi → searchF cu li f lo hi < hi
  | 0, _, _, h => h
  | f + 1, lo, hi, h => by
    rw [searchF]
    split
    · split
      · have := search_le (cu := cu) (li := li) (f := f) (lo := lo) (hi := (lo + hi) / 2) (by omega); omega
      · exact search_le (by omega)
    · exact h
def absU (c : Int) : Int := min (if c < 0 then IntKind.u64.wrap (0 - IntKind.u64.wrap c) else IntKind.u64.wrap c) 1073741824
def badF (c t : Int) : Int :=
  if absU c = 0 then 0 else if t ≤ 0 then 10000 else
    (searchF (timesF (timesF (0, IntKind.u64.wrap (min t 1073741824)) (IntKind.u64.wrap (min t 1073741824))) (IntKind.u64.wrap (min t 1073741824))) (timesF (timesF (timesF (0, absU c) (absU c)) (absU c)) 100) 10001 0 10001 : Int)
theorem badF_range (c t : Int) : 0 ≤ badF c t ∧ badF c t ≤ 10000 := by
  unfold badF
  split
  · omega
  split
  · omega
  · have := search_le (cu := timesF (timesF (0, IntKind.u64.wrap (min t 1073741824)) (IntKind.u64.wrap (min t 1073741824))) (IntKind.u64.wrap (min t 1073741824))) (li := timesF (timesF (timesF (0, absU c) (absU c)) (absU c)) 100) (f := 10001) (lo := 0) (hi := 10001) (by decide)
    omega
theorem u64_id {n : Int} (h : 0 ≤ n ∧ n < 18446744073709551616) : IntKind.u64.wrap n = n := by simp [IntKind.wrap, IntKind.bits, IntKind.signed]; omega
theorem tdivN (a b : Nat) : Int.tdiv (a : Int) (b : Int) = ((a / b : Nat) : Int) := rfl
section
variable {R : Ending → World → Prop} {w : World}
theorem Mul64_spec (x y : Int) (h : R (.returned (.tuple ⟨[.int .u64 (mulHi x y), .int .u64 (IntKind.u64.wrap (x * y))]⟩)) w) : Calls Try.prog F_math_bits_Mul64 ⟨[.int .u64 x, .int .u64 y]⟩ w R := by
  apply c_math_bits_Mul64
  exact ⟨by decide, by decide, by decide, by decide, by decide, h⟩
theorem times_spec (a : Int × Int) (n : Int) (h : ∀ w', Ext w w' → R (.returned (.agg ⟨[.int .u64 (timesF a n).1, .int .u64 (timesF a n).2]⟩)) w') : Calls Try.prog F_fixedpoint_wide_times ⟨[.agg ⟨[.int .u64 a.1, .int .u64 a.2]⟩, .int .u64 n]⟩ w R := by
  apply c_fixedpoint_wide_times
  refine al_intro fun b4 w5 hb4 B4 e5 s5 => al_intro fun b6 w7 hb6 B6 e7 s7 => ?_
  refine ⟨_, bat (B4.ext e7) rfl, Mul64_spec _ _ ⟨_, _, rfl, _, bat (B4.ext e7) rfl, ?_⟩⟩
  refine stL_blk B6 (by simp) (by intro v hv; simp only [List.mem_cons, List.not_mem_nil, or_false] at hv; rcases hv with rfl | rfl <;> rfl) fun w14 B14 h1 h2 h3 h4 h5 => ?_
  have B14' : Blk w14 b6 [.int .u64 (timesF a n).1, .int .u64 (timesF a n).2] 139 := B14
  have hc : Chg (fun k => k = b6) w7 w14 := ⟨h3, h4, h5, by omega, fun j _ hj => h1 j hj⟩
  exact ⟨_, bat B14' rfl, _, bat B14' rfl, h w14 (ext_chgS (ext_trans e5 e7) hc fun k hk => by have := e5.size; omega)⟩
theorem above_spec (a b : Int × Int) (h : ∀ w', Ext w w' → R (.returned (.bool (aboveF a b))) w') : Calls Try.prog F_fixedpoint_wide_above ⟨[.agg ⟨[.int .u64 a.1, .int .u64 a.2]⟩, .agg ⟨[.int .u64 b.1, .int .u64 b.2]⟩]⟩ w R := by
  apply c_fixedpoint_wide_above
  refine al_intro fun b5 w6 hb5 B5 e6 s6 => al_intro fun b7 w8 hb7 B7 e8 s8 => ?_
  have e08 := ext_trans e6 e8
  have h := h w8 e08
  unfold aboveF at h
  have B5 := B5.ext e8
  refine ⟨_, bat B5 rfl, _, bat B7 rfl, br_split (fun g => ?_) (fun g => ?_)⟩
  · rw [if_pos g] at h
    exact ⟨_, bat B5 rfl, _, bat B7 rfl, h⟩
  · rw [if_neg g] at h
    refine ⟨_, bat B5 rfl, _, bat B5 rfl, _, bat B7 rfl, _, bat B7 rfl, br_cases (fun g2 => ?_) (fun g2 => ?_)⟩
    · rw [if_pos g2] at h
      exact ⟨_, bat B5 rfl, _, bat B7 rfl, h⟩
    · rw [if_neg (by rw [g2]; simp)] at h; exact h
set_option maxRecDepth 20000 in
theorem Badness_spec (c t : Int) (h : ∀ w', Ext w w' → R (.returned (.int .i64 (badF c t))) w') : Calls Try.prog F_fixedpoint_Badness ⟨[.int .i64 c, .int .i64 t]⟩ w R := by
  apply c_fixedpoint_Badness
  intro K3 hK3
  have k3 : ∀ c4 : Int, min c4 1073741824 = absU c → K3 c4 w := by
    intro c4 hc4
    refine hK3 _ _ fun _ => ?_
    rw [hc4]
    unfold badF at h
    refine br_split (fun g => ?_) (fun g => ?_)
    · have := h w (Below.refl _ _); rw [if_pos g] at this; exact this
    rw [if_neg g] at h
    refine br_split (fun g2 => ?_) (fun g2 => ?_)
    · have := h w (Below.refl _ _); rw [if_pos g2] at this; exact this
    rw [if_neg g2] at h
    generalize ht : IntKind.u64.wrap (min t 1073741824) = t' at *
    generalize absU c = c' at *
    refine times_spec (0, t') t' fun w7 e7 => ⟨_, _, rfl, times_spec _ t' fun w11 e11 => ⟨_, _, rfl, ?_⟩⟩
    generalize timesF (timesF (0, t') t') t' = cu at *
    refine al_stL (by simp) (by intro v hv; simp only [List.mem_cons, List.not_mem_nil, or_false] at hv; rcases hv with rfl | rfl <;> rfl) fun b14 w16 hb14 B14 e16 s16 => ?_
    refine times_spec (0, c') c' fun w18 e18 => ⟨_, _, rfl, times_spec _ c' fun w22 e22 => ⟨_, _, rfl, times_spec _ 100 fun w26 e26 => ⟨_, _, rfl, ?_⟩⟩⟩
    generalize timesF (timesF (timesF (0, c') c') c') 100 = li at *
    refine al_stL (by simp) (by intro v hv; simp only [List.mem_cons, List.not_mem_nil, or_false] at hv; rcases hv with rfl | rfl <;> rfl) fun b29 w31 hb29 B29 e31 s31 => ?_
    have e1631 := ext_trans e18 (ext_trans e22 (ext_trans e26 e31))
    have e031 := ext_trans e7 (ext_trans e11 (ext_trans e16 e1631))
    have B14 := B14.ext e1631
    refine ⟨fun low high W m => ∃ lo hi : Nat, low = lo ∧ high = hi ∧ lo < hi ∧ hi ≤ 10001 ∧ m = hi - lo ∧ searchF cu li 10001 0 10001 = searchF cu li 10001 lo hi ∧ Ext w31 W, ⟨_, 0, 10001, rfl, rfl, by decide, by decide, rfl, rfl, Below.refl _ _⟩, ?_⟩
    rintro _ _ W m ⟨lo, hi, rfl, rfl, hlt, hle, rfl, hs, eW⟩ _
    have B14 := B14.ext eW
    have B29 := B29.ext eW
    rw [wrap_id (by omega)]
    refine br_split (fun g3 => ⟨by decide, ?_⟩) (fun g3 => ?_)
    · have hm : IntKind.i64.wrap (Int.tdiv (IntKind.i64.wrap ((lo : Int) + (hi : Int))) 2) = (((lo + hi) / 2 : Nat) : Int) := by
        have e1 : IntKind.i64.wrap ((lo : Int) + (hi : Int)) = ((lo + hi : Nat) : Int) := by rw [wrap_id (by omega)]; omega
        rw [e1]
        show IntKind.i64.wrap (Int.tdiv ((lo + hi : Nat) : Int) ((2 : Nat) : Int)) = _
        rw [tdivN, wrap_id (by omega)]
      rw [hm, u64_id (by omega)]
      have hstep : searchF cu li 10001 lo hi = if aboveF (timesF cu (((lo + hi) / 2 : Nat) : Int)) li then searchF cu li 10001 lo ((lo + hi) / 2) else searchF cu li 10001 ((lo + hi) / 2) hi := by
        rw [search_fuel (f := 10001) (g := 10001 + 1) (by omega) (by omega), searchF, if_pos (by omega)]
      intro K38 hK38
      have k38 : ∀ V, Ext W V → K38 (aboveF (timesF cu (((lo + hi) / 2 : Nat) : Int)) li) V := by
        intro V eV
        refine hK38 _ _ fun _ => br_cases (fun gb => ?_) (fun gb => ?_)
        · refine ⟨(lo + hi) / 2 - lo, by omega, lo, (lo + hi) / 2, rfl, rfl, by omega, by omega, rfl, ?_, ext_trans eW eV⟩
          rw [hs, hstep, if_pos gb]
        · refine ⟨hi - (lo + hi) / 2, by omega, (lo + hi) / 2, hi, rfl, rfl, by omega, by omega, rfl, ?_, ext_trans eW eV⟩
          rw [hs, hstep, if_neg (by rw [gb]; simp)]
      unfold drw
      have ed := ext_drew W
      have B14 := B14.ext ed
      have B29 := B29.ext ed
      generalize W.drew = V at *
      repeat' first
        | exact True.intro
        | with_reducible refine And.intro ?_ ?_
        | refine ⟨_, bat B14 rfl, ?_⟩
        | refine ⟨_, bat B29 rfl, ?_⟩
        | (refine times_spec _ _ fun V' e' => ⟨_, _, rfl, ?_⟩
           have ed := ext_trans ed e'
           have B14 := B14.ext e'
           have B29 := B29.ext e')
        | (refine above_spec _ _ fun V' e' => ⟨_, rfl, ?_⟩
           exact k38 V' (ext_trans ed e'))
    · have := h W (ext_trans e031 eW)
      rw [hs, search_fuel (f := 10001) (g := 10001 + 1) (by omega) (by omega), searchF, if_neg (by omega)] at this
      exact this
  refine br_split (fun g => k3 _ ?_) (fun g => k3 _ ?_)
  · unfold absU; rw [if_pos g]
  · unfold absU; rw [if_neg g]
end
end Go.Proofs
namespace Go.Proofs
open Go Go.Sh Go.RowKit
/- predicates on lists of numbers, by functions; pagebreak.Check -/
def PredL (f : Fn) (fa fb : Array Value) (q : List Int → Bool) (S : Nat → Prop) (l : List (List Int)) (J : World → Prop) : Prop :=
  ∀ s ∈ l, ∀ (W : World) (a : Option Addr) (c : Nat) (K : Ending → World → Prop), J W → s.length ≤ c → RowV vI S W a s.length s → (∀ W', Ext W W' → K (.returned (.bool (q s))) W') → CallV Try.prog (.func f fa fb) [.slice a s.length c] W K
section
variable {R : Ending → World → Prop} {S : Nat → Prop} {w : World} {a : Option Addr} {n c : Nat}
theorem IndexFuncL_spec {f : Fn} {fa fb : Array Value} {q : List Int → Bool} {L : List (List Int)} {J : World → Prop} (h1 : RowV vIs S w a n L)
    (hs : n ≤ 4611686018427387904) (hp : PredL f fa fb q S L J) (hJ0 : J w) (hJe : ∀ W W', J W → Ext W W' → J W')
    (h : ∀ w', Ext w w' → R (.returned (.int .i64 (ixF q L))) w') : Calls Try.prog F_slices_IndexFunc_of_int_intL ⟨[.slice a n c, .func f fa fb]⟩ w R := by
  apply c_slices_IndexFunc_of_int_intL
  have hn := h1.1
  refine ⟨fun i W m => ∃ k : Nat, i = k ∧ k ≤ n ∧ m = n - k ∧ (∀ x ∈ L.take k, q x = false) ∧ Ext w W, ⟨_, 0, rfl, by omega, rfl, by simp, Below.refl _ _⟩, ?_⟩
  rintro _ W m ⟨k, rfl, hk, rfl, hno, he⟩ _
  refine br_split (fun hlt => ?_) (fun hge => ?_)
  · have hkL : k < L.length := by omega
    obtain ⟨b14, o14, a15, c15, hq, _, _, hc, hcl, hrow⟩ := (h1.ext he).getS (List.getElem?_eq_getElem hkL)
    refine hq _ ⟨_, _, _, hc, hp _ (List.getElem_mem hkL) W _ _ _ (hJe _ _ hJ0 he) hcl hrow fun W' e' => ⟨_, rfl, br_cases (fun g => ?_) (fun g => ?_)⟩⟩
    · have := h W' (ext_trans he e')
      rw [ixF_at hkL g hno] at this; exact this
    · exact ⟨n - (k + 1), by omega, k + 1, by rw [wrap_nat (by omega)], by omega, rfl, no_take hkL g hno, ext_trans he e'⟩
  · rw [List.take_of_length_le (by omega)] at hno
    have := h W he
    rw [ixF_no hno] at this; exact this
theorem ContainsFuncL_spec {f : Fn} {fa fb : Array Value} {q : List Int → Bool} {L : List (List Int)} {J : World → Prop} (h1 : RowV vIs S w a n L)
    (hs : n ≤ 4611686018427387904) (hp : PredL f fa fb q S L J) (hJ0 : J w) (hJe : ∀ W W', J W → Ext W W' → J W')
    (h : ∀ w', Ext w w' → R (.returned (.bool (L.any q))) w') : Calls Try.prog F_slices_ContainsFunc_of_int_intL ⟨[.slice a n c, .func f fa fb]⟩ w R := by
  apply c_slices_ContainsFunc_of_int_intL
  refine IndexFuncL_spec h1 hs hp hJ0 hJe fun w' e' => ⟨_, rfl, ?_⟩
  rw [ixF_ge]; exact h w' e'
end
/- a page problem: its value, and what it reads as -/
structure PV where
  l : Slv
  t : Slv
  p : Slv
  h : Int
  g : Int
abbrev PV.cs (x : PV) : List Value := [.slice x.l.1 x.l.2.1 x.l.2.2, .slice x.t.1 x.t.2.1 x.t.2.2, .slice x.p.1 x.p.2.1 x.p.2.2, .int .i64 x.h, .int .i64 x.g]
structure PQ where
  L : List Int
  T : List (List Int)
  N : List Int
structure PrV (S : Nat → Prop) (w : World) (x : PV) (q : PQ) : Prop where
  l : RowV vI S w x.l.1 x.l.2.1 q.L
  t : RowV vIs S w x.t.1 x.t.2.1 q.T
  p : RowV vI S w x.p.1 x.p.2.1 q.N
theorem PrV.ext {S : Nat → Prop} {w w' : World} {x : PV} {q : PQ} (h : PrV S w x q) (he : Ext w w') : PrV S w' x q := ⟨h.l.ext he, h.t.ext he, h.p.ext he⟩
theorem PrV.imp {S S' : Nat → Prop} {w : World} {x : PV} {q : PQ} (h : PrV S w x q) (hs : ∀ k, S k → k < w.heap.size → S' k) : PrV S' w x q := ⟨h.l.imp hs, h.t.imp hs, h.p.imp hs⟩
theorem PrV.chg {S T : Nat → Prop} {w w' : World} {x : PV} {q : PQ} (h : PrV S w x q) (hc : Chg T w w') (hd : ∀ k, S k → k < w.heap.size → ¬ T k) : PrV S w' x q := ⟨h.l.chg hc hd, h.t.chg hc hd, h.p.chg hc hd⟩
def badL (n : Int) : Bool := !(decide (0 ≤ n) && decide (n ≤ 1073741824))
def badN (n : Int) : Bool := decide (n < 0) || decide (10000 < n)
def pchk (hh gg : Int) (q : PQ) : Bool := decide (q.L.length ≤ 4096 ∧ q.T.length = q.L.length ∧ q.N.length = q.L.length) && (q.T.all (fun l => decide (l.length = (q.T.getD 0 []).length)) &&
  (decide ((q.T.getD 0 []).length ≤ 16) && (!q.L.any badL && (!(q.T.any fun l => l.any badL) && (!q.N.any badN && (!decide (hh < 1) && (!badL hh && !badL gg)))))))
section
variable {R : Ending → World → Prop} {S : Nat → Prop} {w : World}
theorem length_spec (n : Int) (h : R (.returned (.bool (!badL n))) w) : Calls Try.prog F_pagebreak_length ⟨[.int .i64 n]⟩ w R := by
  apply c_pagebreak_length
  unfold badL at h
  rw [Bool.not_not] at h
  refine br_split (fun g => ?_) (fun g => ?_)
  · rw [decide_eq_true g, Bool.true_and] at h; exact h
  · rw [decide_eq_false g, Bool.false_and] at h; exact h
theorem bad1_call (n : Int) {K : Ending → World → Prop} (h : K (.returned (.bool (badL n))) w) : CallV Try.prog (.func (.func 72) #[] #[]) [.int .i64 n] w K := by
  refine ⟨by kernel_rfl, ?_⟩
  apply c_pagebreak_Check_1
  refine length_spec n ⟨_, rfl, ?_⟩
  rw [Bool.not_not]; exact h
set_option maxRecDepth 20000 in
theorem pbCheck_spec {x : PV} {q : PQ} (hq : PrV S w x q) (h : ∀ (e : Int) w', Ext w w' → decide (e = 0) = pchk x.h x.g q → R (.returned (.int .i64 e)) w') : Calls Try.prog F_pagebreak_Check ⟨[.agg ⟨x.cs⟩]⟩ w R := by
  apply c_pagebreak_Check
  have hl := hq.l.1
  have ht := hq.t.1
  have hp := hq.p.1
  refine al_intro fun b6 w7 hb6 B6 e7 s7 => ?_
  have hq7 := hq.ext e7
  have no : ∀ (e : Int) V, Ext w V → e ≠ 0 → pchk x.h x.g q = false → R (.returned (.int .i64 e)) V := fun e V eV he hf => h e V eV (by rw [hf, decide_eq_false he])
  have no1 : ∀ e : Int, e ≠ 0 → ¬ (q.L.length ≤ 4096 ∧ q.T.length = q.L.length ∧ q.N.length = q.L.length) → R (.returned (.int .i64 e)) w7 := fun e he hf => no e w7 e7 he (by unfold pchk; rw [decide_eq_false hf, Bool.false_and])
  refine ⟨_, _, _, bat B6 rfl, br_split (fun g => no1 _ (by decide) (by omega)) (fun g => ?_)⟩
  intro K9 hK9
  have k9 : (q.L.length ≤ 4096 ∧ q.T.length = q.L.length ∧ q.N.length = q.L.length) → K9 w7 := by
    intro hok
    have no2 : ∀ (e : Int) V, Ext w V → e ≠ 0 → (q.T.all (fun l => decide (l.length = (q.T.getD 0 []).length)) &&
      (decide ((q.T.getD 0 []).length ≤ 16) && (!q.L.any badL && (!(q.T.any fun l => l.any badL) && (!q.N.any badN && (!decide (x.h < 1) && (!badL x.h && !badL x.g))))))) = false → R (.returned (.int .i64 e)) V := fun e V eV he hf => no e V eV he (by unfold pchk; rw [hf, Bool.and_false])
    refine hK9 _ fun _ => ⟨_, _, _, bat B6 rfl, ?_⟩
    refine ⟨fun i W m => ∃ k : Nat, i = k ∧ k ≤ x.t.2.1 ∧ m = x.t.2.1 - k ∧ (∀ l ∈ q.T.take k, l.length = (q.T.getD 0 []).length) ∧ W = w7, ⟨_, 0, rfl, by omega, rfl, fun l hl => by simp at hl, rfl⟩, ?_⟩
    rintro _ W m ⟨k, rfl, hk, rfl, hall, rfl⟩ _
    refine br_split (fun hlt => ?_) (fun hge => ?_)
    · have hkT : k < q.T.length := by omega
      have h0T : 0 < q.T.length := by omega
      obtain ⟨b1, o1, a1, c1, hq1, _, _, hc1, _, hrow1⟩ := hq7.t.getS (List.getElem?_eq_getElem hkT)
      obtain ⟨b2, o2, a2, c2, hq2, _, _, hc2, _, hrow2⟩ := hq7.t.getS (List.getElem?_eq_getElem h0T)
      refine hq1 _ ⟨_, _, _, hc1, _, _, _, bat B6 rfl, hq2 _ ⟨_, _, _, hc2, br_split (fun g2 => no2 _ _ e7 (by decide) ?_) (fun g2 => ?_)⟩⟩
      · have : q.T.all (fun l => decide (l.length = (q.T.getD 0 []).length)) = false := by
          rw [← Bool.not_eq_true, List.all_eq_true]
          intro hh
          have := of_decide_eq_true (hh _ (List.getElem_mem hkT))
          rw [getD_at h0T] at this
          exact g2 (by omega)
        rw [this, Bool.false_and]
      · refine ⟨x.t.2.1 - (k + 1), by omega, k + 1, by rw [wrap_nat (by omega)], by omega, rfl, fun l hl' => ?_, rfl⟩
        rw [take_s hkT, List.mem_append, List.mem_singleton] at hl'
        rcases hl' with hl' | rfl
        · exact hall l hl'
        · rw [getD_at h0T]; omega
    · rw [List.take_of_length_le (by omega)] at hall
      have hAll : q.T.all (fun l => decide (l.length = (q.T.getD 0 []).length)) = true := List.all_eq_true.2 fun l hl => decide_eq_true (hall l hl)
      rw [hAll] at no2
      intro K23 hK23
      have k23 : (q.T.getD 0 []).length ≤ 16 → K23 W := by
        intro h16
        rw [decide_eq_true h16] at no2
        refine hK23 _ fun _ => ?_
        refine al_stL rfl (by intro v hv; simp only [List.mem_singleton] at hv; subst hv; rfl) fun b25 w27 hb25 B25 e27 s27 => ?_
        have B6a := B6.ext e27
        have e027 := ext_trans e7 e27
        refine ⟨_, _, _, bat B6a rfl, _, _, _, B25.cell 0, ?_⟩
        refine ContainsFuncI_spec (q := badL) (J := fun _ => True) (hq.ext e027).l (by omega) (fun s _ W K _ hK => bad1_call s (hK W (Below.refl _ _))) trivial (fun _ _ _ _ => trivial) fun w31 e31 => ⟨_, rfl, br_cases (fun gb => ?_) (fun gb => ?_)⟩
        · have e031 := ext_trans e027 e31
          exact br_cases (fun _ => no2 _ _ e031 (by decide) (by rw [gb]; simp)) (fun hh => by rw [hh] at gb; cases gb)
        rw [gb] at no2
        have e031 := ext_trans e027 e31
        have B25a := B25.ext e31
        refine ⟨_, _, _, bat (B6a.ext e31) rfl, ?_⟩
        refine ContainsFuncL_spec (q := fun l => l.any badL) (S := S) (J := fun V => Ext w31 V) (hq.ext e031).t (by omega) ?_ (Below.refl _ _) (fun _ _ => ext_trans) fun w35 e35 => ⟨_, rfl, br_cases (fun gb2 => ?_) (fun gb2 => ?_)⟩
        · intro s hs V a c K eV hsc hrow hK
          refine ⟨by kernel_rfl, ?_⟩
          apply c_pagebreak_Check_2
          have hsl : s.length ≤ 16 := by rw [hall s hs]; exact h16
          refine dr_ok ⟨_, _, _, (B25a.ext eV).cell 0, ?_⟩
          exact ContainsFuncI_spec (q := badL) (J := fun _ => True) hrow (by omega) (fun s _ W K _ hK => bad1_call s (hK W (Below.refl _ _))) trivial (fun _ _ _ _ => trivial) fun w' e' => ⟨_, rfl, hK w' e'⟩
        · have e035 := ext_trans e031 e35
          exact br_cases (fun _ => no2 _ _ e035 (by decide) (by rw [gb2]; simp)) (fun hh => by rw [hh] at gb2; cases gb2)
        rw [gb2] at no2
        have e035 := ext_trans e031 e35
        have B6b := (B6a.ext e31).ext e35
        refine ⟨_, _, _, bat B6b rfl, ?_⟩
        refine ContainsFuncI_spec (q := badN) (J := fun _ => True) (hq.ext e035).p (by omega) ?_ trivial (fun _ _ _ _ => trivial) fun w39 e39 => ⟨_, rfl, br_cases (fun gb3 => ?_) (fun gb3 => ?_)⟩
        · intro s _ V K _ hK
          refine ⟨by kernel_rfl, ?_⟩
          apply c_pagebreak_Check_3
          have hK := hK V (Below.refl _ _)
          unfold badN at hK
          refine br_split (fun g => ?_) (fun g => ?_)
          · rw [decide_eq_true g, Bool.true_or] at hK; exact hK
          · rw [decide_eq_false g, Bool.false_or] at hK; exact hK
        · have e039 := ext_trans e035 e39
          exact br_cases (fun _ => no2 _ _ e039 (by decide) (by rw [gb3]; simp)) (fun hh => by rw [hh] at gb3; cases gb3)
        rw [gb3] at no2
        have e039 := ext_trans e035 e39
        have B6c := B6b.ext e39
        have B25c := (B25a.ext e35).ext e39
        have fin : ∀ (e : Int) V, Ext w V → decide (e = 0) = (!decide (x.h < 1) && (!badL x.h && !badL x.g)) → R (.returned (.int .i64 e)) V := fun e V eV he => h e V eV (by
          rw [he]
          unfold pchk
          rw [decide_eq_true hok, hAll, decide_eq_true h16, gb, gb2, gb3]; rfl)
        refine ⟨_, bat B6c rfl, br_split (fun g4 => ?_) (fun g4 => ?_)⟩
        · exact br_pos g4 (fin _ _ e039 (by rw [decide_eq_true g4]; rfl))
        refine ⟨_, _, _, B25c.cell 0, _, bat B6c rfl, bad1_call _ ⟨_, rfl, br_cases (fun g5 => ?_) (fun g5 => ?_)⟩⟩
        · exact br_cases (fun _ => fin _ _ e039 (by rw [g5, decide_eq_false g4]; rfl)) (fun hh => by rw [hh] at g5; cases g5)
        refine ⟨_, _, _, B25c.cell 0, _, bat B6c rfl, bad1_call _ ⟨_, rfl, br_cases (fun g6 => ?_) (fun g6 => ?_)⟩⟩
        · exact fin _ _ e039 (by rw [g5, g6, decide_eq_false g4]; rfl)
        · exact fin _ _ e039 (by rw [g5, g6, decide_eq_false g4]; rfl)
      refine ⟨_, _, _, bat B6 rfl, br_split (fun g3 => ?_) (fun g3 => ?_)⟩
      · have h0T : 0 < q.T.length := by omega
        obtain ⟨b2, o2, a2, c2, hq2, _, _, hc2, _, hrow2⟩ := hq7.t.getS (List.getElem?_eq_getElem h0T)
        refine ⟨_, _, _, bat B6 rfl, hq2 _ ⟨_, _, _, hc2, br_split (fun g4 => no2 _ _ e7 (by decide) ?_) (fun g4 => k23 ?_)⟩⟩
        · rw [getD_at h0T, decide_eq_false (by omega)]; rfl
        · rw [getD_at h0T]; omega
      · refine k23 ?_
        have : q.T = [] := List.eq_nil_of_length_eq_zero (by omega)
        rw [this]; simp
  refine ⟨_, _, _, bat B6 rfl, _, _, _, bat B6 rfl, br_split (fun g1 => no1 _ (by decide) (by omega)) (fun g1 => ?_)⟩
  exact ⟨_, _, _, bat B6 rfl, _, _, _, bat B6 rfl, br_split (fun g2 => no1 _ (by decide) (by omega)) (fun g2 => k9 (by omega))⟩
end
end Go.Proofs
namespace Go.Proofs
open Go Go.Sh Go.RowKit
/- pagebreak: the sums of a page problem; the height of lines -/
def preW (f : Nat → Int) : Nat → List Int
  | 0 => [0]
  | k + 1 => preW f k ++ [IntKind.i64.wrap (gI (preW f k) k + f k)]
theorem preW_len (f : Nat → Int) : ∀ k, (preW f k).length = k + 1
  | 0 => rfl
  | k + 1 => by rw [preW, List.length_append, preW_len f k]; rfl
def colF (T : List (List Int)) (b i : Nat) : Int := gI (T.getD i []) b
theorem idx_b {b n j sz : Nat} {K : Addr → Prop} (h : j < n) (hK : K ⟨b, j * sz, none⟩) : idx (some ⟨b, 0, none⟩) n (j : Int) sz K :=
  ⟨by omega, by omega, by show K _; rw [add_none, Int.toNat_natCast, Nat.zero_add]; exact hK⟩
theorem idx_b1 {b n j : Nat} {K : Addr → Prop} (h : j < n) (hK : K ⟨b, j, none⟩) : idx (some ⟨b, 0, none⟩) n (j : Int) 1 K := idx_b h (by rw [Nat.mul_one]; exact hK)
/- the rows of the sums: those of the blocks, and behind them the one of the lines -/
def sumF (q : PQ) (nb i b : Nat) : List Int := if b = nb then preW (gI q.L) i else preW (colF q.T b) i
def sumG (q : PQ) (nb i j b : Nat) : List Int := if b = nb ∨ b < j then sumF q nb (i + 1) b else sumF q nb i b
theorem sumF_len (q : PQ) (nb i b : Nat) : (sumF q nb i b).length = i + 1 := by unfold sumF; split <;> rw [preW_len]
structure SumAt (w : World) (bs : Nat) (x : PV) (q : PQ) : Prop where
  ex : ∃ (ls bl : Slv), Blk w bs [.slice x.l.1 x.l.2.1 x.l.2.2, .slice x.t.1 x.t.2.1 x.t.2.2, .slice x.p.1 x.p.2.1 x.p.2.2, .int .i64 x.h, .int .i64 x.g, slC ls, slC bl] 148 ∧ RowV vI (fun _ => True) w ls.1 ls.2.1 (preW (gI q.L) q.L.length) ∧
    RowV vIs (fun _ => True) w bl.1 bl.2.1 ((List.range (q.T.getD 0 []).length).map fun b => preW (colF q.T b) q.L.length)
def BlO (w : World) (bl : Slv) (nb : Nat) (r : Nat → Slv) : Prop := (nb = 0 ∧ bl = (none, 0, 0)) ∨ ∃ bb, bl = (some ⟨bb, 0, none⟩, nb, nb) ∧ Blk w bb (fC nb fun j => slC (r j)) 27
theorem pchk_facts {hh gg : Int} {q : PQ} (h : pchk hh gg q = true) : q.L.length ≤ 4096 ∧ q.T.length = q.L.length ∧ q.N.length = q.L.length ∧ (∀ l ∈ q.T, l.length = (q.T.getD 0 []).length) ∧ (q.T.getD 0 []).length ≤ 16 ∧ (∀ n ∈ q.N, 0 ≤ n ∧ n ≤ 10000) ∧ 1 ≤ hh := by
  unfold pchk at h
  simp only [Bool.and_eq_true, Bool.not_eq_true'] at h
  obtain ⟨h1, h2, h3, h4, h5, h6, h7, _⟩ := h
  obtain ⟨a1, a2, a3⟩ := of_decide_eq_true h1
  refine ⟨a1, a2, a3, fun l hl => of_decide_eq_true (List.all_eq_true.1 h2 l hl), of_decide_eq_true h3, fun n hn => ?_, by have := of_decide_eq_false h7; omega⟩
  have := List.any_eq_false.1 h6 n hn
  unfold badN at this
  rw [Bool.or_eq_true, decide_eq_true_iff, decide_eq_true_iff, not_or] at this
  omega
theorem al_and {w : World} {T : TypeId} {cs : List Value} {A : Addr → World → Prop} (h : al w T cs A) : al w T cs fun p w1 => A p w1 ∧ True := ⟨h, trivial⟩
section
variable {R : Ending → World → Prop} {S : Nat → Prop} {w : World}
set_option maxRecDepth 20000 in
theorem newSums_spec {x : PV} {q : PQ} (hq : PrV S w x q) (hp : pchk x.h x.g q = true) (h : ∀ bs w', Ext w w' → SumAt w' bs x q → R (.returned (.pointer (some ⟨bs, 0, none⟩))) w') : Calls Try.prog F_pagebreak_newSums ⟨[.agg ⟨x.cs⟩]⟩ w R := by
  apply c_pagebreak_newSums
  obtain ⟨f1, f2, f3, f4, f5, _, _⟩ := pchk_facts hp
  have hll := hq.l.1
  have htl := hq.t.1
  refine al_intro fun b6 w7 hb6 B6 e7 s7 => ?_
  refine ⟨_, _, _, bat B6 rfl, _, _, _, bat B6 rfl, _, _, _, bat B6 rfl, _, bat B6 rfl, _, bat B6 rfl, ?_⟩
  refine al_intro fun b13 w14 hb13 B13 e14 s14 => al_intro fun bs w16 hbs Bs e16 s16 => ?_
  have e716 := ext_trans e14 e16
  have e016 := ext_trans e7 e716
  have B6a := B6.ext e716
  have z7 := e7.size
  have z14 := e14.size
  have z16 := e16.size
  generalize hnb : (q.T.getD 0 []).length = nb at *
  have own13 : OwnL Sh.encI w16 w.heap.size 3 (some ⟨b13, 0, none⟩) 1 1 [(0 : Int)] := OwnL.made (E := Sh.encI) (x := 0) (n := 1) (B13.ext e16) (by omega) (by decide)
  have R0 : RowsG Sh.encI 3 w.heap.size w16 (nb + 1) (fun i => if i = nb then (some ⟨b13, 0, none⟩, 1, 1) else (none, 0, 0)) (fun i => if i = nb ∨ i < 0 then [(0 : Int)] else []) := by
    refine ⟨fun j hj => ?_, fun i j hi hj hne k hk hk' => ?_⟩
    · by_cases e : j = nb
      · simp only [if_pos e, if_pos (show j = nb ∨ j < 0 from .inl e)]; exact own13
      · simp only [if_neg e, if_neg (show ¬ (j = nb ∨ j < 0) by omega)]; exact Owns.nil _ _ _ _
    · by_cases e : i = nb
      · simp only [if_neg (show ¬ j = nb by omega)] at hk'
        simp [bk] at hk'
      · simp only [if_neg e] at hk
        simp [bk] at hk
  have E0 : Ext w16 w16 := Below.refl _ _
  intro K17 hK17
  have k17 : ∀ (V : World) (bl : Slv), Ext w16 V ∨ Ext w V → Ext w V → Blk V b6 x.cs 47 → Blk V bs [.slice x.l.1 x.l.2.1 x.l.2.2, .slice x.t.1 x.t.2.1 x.t.2.2, .slice x.p.1 x.p.2.1 x.p.2.2, .int .i64 x.h, .int .i64 x.g, slC (some ⟨b13, 0, none⟩, 1, 1), slC bl] 148 →
      RowsG Sh.encI 3 w.heap.size V (nb + 1) (fun i => if i = nb then (some ⟨b13, 0, none⟩, 1, 1) else (none, 0, 0)) (fun i => if i = nb ∨ i < 0 then [(0 : Int)] else []) → BlO V bl nb (fun i => if i = nb then (some ⟨b13, 0, none⟩, 1, 1) else (none, 0, 0)) → (∀ bb, bl = (some ⟨bb, 0, none⟩, nb, nb) → b6 ≠ bb ∧ bs ≠ bb ∧ w.heap.size ≤ bb) → K17 V := by
    intro V bl _ eV C6 Cs RV BV hbb
    refine hK17 _ fun _ => ⟨_, _, _, bat Cs rfl, ?_⟩
    have hbn : bl.2.1 = nb := by
      rcases BV with ⟨h0, rfl⟩ | ⟨bb, rfl, _⟩
      · exact h0.symm
      · rfl
    have sl5 : ∀ {W : World} {r : Nat → Slv}, BlO W bl nb r → ∀ j, j < nb → ∃ bb, bl = (some ⟨bb, 0, none⟩, nb, nb) ∧ Blk W bb (fC nb fun j => slC (r j)) 27 := by
      rintro W r (⟨h0, _⟩ | ⟨bb, h1, h2⟩) j hj
      · omega
      · exact ⟨bb, h1, h2⟩
    refine ⟨fun i W m => ∃ (j : Nat) (r : Nat → Slv), i = j ∧ j ≤ nb ∧ m = nb - j ∧ Ext w W ∧ Blk W b6 x.cs 47 ∧ Blk W bs [.slice x.l.1 x.l.2.1 x.l.2.2, .slice x.t.1 x.t.2.1 x.t.2.2, .slice x.p.1 x.p.2.1 x.p.2.2, .int .i64 x.h, .int .i64 x.g, slC (r nb), slC bl] 148 ∧
        RowsG Sh.encI 3 w.heap.size W (nb + 1) r (fun i => if i = nb ∨ i < j then [(0 : Int)] else []) ∧ BlO W bl nb r, ⟨_, 0, _, rfl, by omega, rfl, eV, C6, by simpa using Cs, RV, BV⟩, ?_⟩
    rintro _ W m ⟨j, r, rfl, hj, rfl, eW, D6, Ds, RW, BW⟩ _
    refine br_split (fun hlt => ?_) (fun hge => ?_)
    · have hjn : j < nb := by omega
      obtain ⟨bb, hbl, Bb⟩ := sl5 BW j hjn
      obtain ⟨n6, ns, nB⟩ := hbb bb hbl
      refine ⟨_, _, _, bat Ds rfl, ?_⟩
      refine al_intro fun b26 w27 hb26 B26 e27 s27 => ?_
      have e0 := hbl
      subst hbl
      refine idx_b1 hjn ?_
      have z27 := eW.size
      refine stL_fC (v := slC (some ⟨b26, 0, none⟩, 1, 1)) (Bb.ext e27) hjn rfl fun w29 C29 c29 s29 => ?_
      have own26 : OwnL Sh.encI w27 w.heap.size 3 (some ⟨b26, 0, none⟩) 1 1 [(0 : Int)] := OwnL.made (E := Sh.encI) (x := 0) (n := 1) B26 (by omega) (by decide)
      have RP := RW.put (j := j) (by omega) own26 (Chg.of_ext e27) (fun k hk => .inr (by
        have : b26 = k := by simpa [bk] using hk
        omega))
      have RP2 := RP.chg c29 (fun i hi k hk e => by
        subst e
        exact absurd (own_ty (RP.own i hi) hk (Bb.ext e27)) (by decide))
      refine ⟨nb - (j + 1), by omega, j + 1, _, by rw [wrap_nat (by omega)], by omega, rfl, ext_chgS (ext_trans eW e27) c29 (fun k hk => by omega), c29.blk (D6.ext e27) n6, ?_, RP2.congr fun i hi => ?_, .inr ⟨bb, rfl, ?_⟩⟩
      · have := c29.blk (Ds.ext e27) ns
        rw [if_neg (show ¬ nb = j by omega)]; exact this
      · by_cases e : i = j
        · rw [if_pos e, if_pos (by omega)]
        · rw [if_neg e]
          by_cases e2 : i = nb ∨ i < j
          · rw [if_pos e2, if_pos (by omega)]
          · rw [if_neg e2, if_neg (by omega)]
      · have e : (fC nb fun i => slC (if i = j then (some ⟨b26, 0, none⟩, 1, 1) else r i)) = fC nb fun i => if i = j then slC (some ⟨b26, 0, none⟩, 1, 1) else slC (r i) := fC_congr fun i _ => by split <;> rfl
        rw [e]; exact C29
    · have hjn : j = nb := by omega
      subst hjn
      have RW0 := RW.congr (F' := sumF q j 0) fun i hi => by
        rw [if_pos (by omega)]; unfold sumF; split <;> rfl
      refine ⟨_, _, _, bat D6 rfl, ?_⟩
      refine ⟨fun i W m => ∃ (k : Nat) (r : Nat → Slv), i = k ∧ k ≤ x.l.2.1 ∧ m = x.l.2.1 - k ∧ Ext w W ∧ Blk W b6 x.cs 47 ∧ Blk W bs [.slice x.l.1 x.l.2.1 x.l.2.2, .slice x.t.1 x.t.2.1 x.t.2.2, .slice x.p.1 x.p.2.1 x.p.2.2, .int .i64 x.h, .int .i64 x.g, slC (r j), slC bl] 148 ∧
        RowsG Sh.encI 3 w.heap.size W (j + 1) r (sumF q j k) ∧ BlO W bl j r, ⟨_, 0, r, rfl, by omega, rfl, eW, D6, Ds, RW0, BW⟩, ?_⟩
      rintro _ W2 m ⟨k, r2, rfl, hk, rfl, eW2, D6, Ds, RW2, BW2⟩ _
      refine br_split (fun hlt2 => ?_) (fun hge2 => ?_)
      · have hkL : k < q.L.length := by omega
        have hkT : k < q.T.length := by omega
        obtain ⟨p1, hp1, d1⟩ := (hq.l.ext eW2).int hkL
        refine hp1 _ ⟨_, d1, ?_⟩
        unfold drw
        have ed := ext_drew W2
        have eD := ext_trans eW2 ed
        have D6 := D6.ext ed
        have Ds := Ds.ext ed
        have RWd := RW2.ext ed
        have BWd : BlO W2.drew bl j r2 := by
          rcases BW2 with h0 | ⟨bb, h1, h2⟩
          · exact .inl h0
          · exact .inr ⟨bb, h1, h2.ext ed⟩
        generalize W2.drew = V2 at *
        have hrow : RowV vI (bk (r2 j).1) V2 (r2 j).1 (r2 j).2.1 (sumF q j k j) := rowV_enc.2 (RWd.row (by omega))
        have hlen := sumF_len q j k j
        obtain ⟨p2, hp2, d2⟩ := hrow.int (k := k) (by omega)
        refine ⟨_, _, _, bat Ds rfl, _, _, _, bat Ds rfl, hp2 _ ⟨_, d2, ?_, trivial⟩⟩
        have hlr := RWd.len (j := j) (by omega)
        have hsum : sumF q j (k + 1) j = sumF q j k j ++ [IntKind.i64.wrap ((sumF q j k j)[k] + q.L[k])] := by
          have h1 : ∀ i, sumF q j i j = preW (gI q.L) i := fun i => if_pos rfl
          have h2 : (sumF q j k j)[k] = gI (preW (gI q.L) k) k := by rw [← gI_at (by omega), h1]
          rw [h2, h1, h1, preW, gI_at hkL]
        refine al_and (OwnL.push (E := Sh.encI) slT_int (RWd.own j (by omega)) (by have := eD.size; omega) (IntKind.i64.wrap ((sumF q j k j)[k] + q.L[k])) (by omega) (by omega) fun a' c' w47 ho hc47 hn47 => ?_)
        refine ⟨?_, trivial⟩
        rw [add_none, Nat.zero_add]
        have nbs : ∀ {W : World} {r : Nat → Slv} {F : Nat → List Int} {b : Nat} {cs : List Value} {T : TypeId}, RowsG Sh.encI 3 w.heap.size W (j + 1) r F → Blk W b cs T → T ≠ 3 → ∀ i, i < j + 1 → ∀ k, bk (r i).1 k → k ≠ b := fun hR hB hT i hi k hk e => hT (own_ty (hR.own i hi) hk (e ▸ hB))
        have Ds47 := hc47.blk Ds fun hh => nbs RWd Ds (by decide) j (by omega) _ hh rfl
        have D647 := hc47.blk D6 fun hh => nbs RWd D6 (by decide) j (by omega) _ hh rfl
        refine stL_blk Ds47 (by simp) (by intro v hv; simp only [List.mem_singleton] at hv; subst hv; rfl) fun w48 Ds48 y1 y2 y3 y4 y5 => ?_
        have c48 : Chg (fun k => k = bs) w47 w48 := ⟨y3, y4, y5, by omega, fun i _ hi => y1 i hi⟩
        have RP := RWd.put (j := j) (by omega) ho hc47 hn47
        have BWa : BlO w48 bl j (fun i => if i = j then (a', (r2 j).2.1 + 1, c') else r2 i) := by
          rcases BWd with h0 | ⟨bb, h1, h2⟩
          · exact .inl h0
          · obtain ⟨n6, ns, nB⟩ := hbb bb h1
            refine .inr ⟨bb, h1, ?_⟩
            have e : (fC j fun i => slC (if i = j then (a', (r2 j).2.1 + 1, c') else r2 i)) = fC j fun i => slC (r2 i) := fC_congr fun i hi => by rw [if_neg (by omega)]
            rw [e]
            exact c48.blk (hc47.blk h2 fun hh => nbs RWd h2 (by decide) j (by omega) _ hh rfl) (fun hh => ns hh.symm)
        have RPa := RP.chg c48 (fun i hi k hk e => nbs RP Ds47 (by decide) i hi k hk e)
        have D648 := c48.blk D647 (by omega)
        have zD := eD.size
        have bsw : w.heap.size ≤ bs := by omega
        have e048 : Ext w w48 := ext_chgS (ext_chgS eD hc47 fun k hk => (RWd.bk (by omega) hk).1) c48 fun k hk => by omega
        generalize hr3 : (fun i => if i = j then (a', (r2 j).2.1 + 1, c') else r2 i) = r3 at *
        have hr3j : (a', (r2 j).2.1 + 1, c') = r3 j := by rw [← hr3]; simp
        have Ds48' : Blk w48 bs [.slice x.l.1 x.l.2.1 x.l.2.2, .slice x.t.1 x.t.2.1 x.t.2.2, .slice x.p.1 x.p.2.1 x.p.2.2, .int .i64 x.h, .int .i64 x.g, slC (r3 j), slC bl] 148 := by rw [← hr3j]; exact Ds48
        have RG0 : RowsG Sh.encI 3 w.heap.size w48 (j + 1) r3 (sumG q j k 0) := RPa.congr fun i hi => by
          unfold sumG
          by_cases e : i = j
          · rw [if_pos e, if_pos (.inl e), e, hsum]
          · rw [if_neg e, if_neg (by omega)]
        refine ⟨_, _, _, bat Ds48' rfl, ?_⟩
        refine ⟨fun t W m => ∃ (b : Nat) (r : Nat → Slv), t = b ∧ b ≤ j ∧ m = j - b ∧ Ext w W ∧ Blk W b6 x.cs 47 ∧ Blk W bs [.slice x.l.1 x.l.2.1 x.l.2.2, .slice x.t.1 x.t.2.1 x.t.2.2, .slice x.p.1 x.p.2.1 x.p.2.2, .int .i64 x.h, .int .i64 x.g, slC (r j), slC bl] 148 ∧
          RowsG Sh.encI 3 w.heap.size W (j + 1) r (sumG q j k b) ∧ BlO W bl j r, ⟨_, 0, r3, rfl, by omega, rfl, e048, D648, Ds48', RG0, BWa⟩, ?_⟩
        rintro _ W3 m ⟨b, r4, rfl, hb, rfl, eW3, D6, Ds, RW3, BW3⟩ _
        refine br_split (fun hlt3 => ?_) (fun hge3 => ?_)
        · have hbj : b < j := by omega
          obtain ⟨bb, hbl, Bb⟩ := sl5 BW3 b hbj
          obtain ⟨n6, ns, nB⟩ := hbb bb hbl
          have hidx : ∀ {K : Addr → Prop}, K ⟨bb, b, none⟩ → idx bl.1 bl.2.1 (b : Int) 1 K := fun hK => by rw [hbl]; exact idx_b1 hbj hK
          refine hidx ⟨_, _, _, by rw [Bb.cell, fC_get hbj]; rfl, ?_⟩
          have ed3 := ext_drew W3
          have eD3 := ext_trans eW3 ed3
          have D6 := D6.ext ed3
          have Ds := Ds.ext ed3
          have RW3 := RW3.ext ed3
          have Bb := Bb.ext ed3
          generalize W3.drew = V3 at *
          show idx (r4 b).1 (r4 b).2.1 (k : Int) 1 _
          have hG : sumG q j k b b = preW (colF q.T b) k := by
            unfold sumG sumF
            rw [if_neg (by omega), if_neg (by omega)]
          have hGl : (sumG q j k b b).length = k + 1 := by rw [hG, preW_len]
          have hrow4 : RowV vI (bk (r4 b).1) V3 (r4 b).1 (r4 b).2.1 (sumG q j k b b) := rowV_enc.2 (RW3.row (by omega))
          obtain ⟨p3, hp3, d3⟩ := hrow4.int (k := k) (by omega)
          obtain ⟨b14, o14, a15, c15, hq5, _, _, hc5, _, hrow5⟩ := (hq.t.ext eD3).getS (List.getElem?_eq_getElem hkT)
          have hTl : q.T[k].length = j := f4 _ (List.getElem_mem hkT)
          obtain ⟨p6, hp6, d6⟩ := hrow5.int (k := b) (by omega)
          refine hp3 _ ⟨_, d3, _, _, _, bat D6 rfl, hq5 _ ⟨_, _, _, hc5, hp6 _ ⟨_, d6, ?_⟩⟩⟩
          have hval : sumG q j k (b + 1) b = sumG q j k b b ++ [IntKind.i64.wrap ((sumG q j k b b)[k] + q.T[k][b])] := by
            have h1 : sumG q j k (b + 1) b = preW (colF q.T b) (k + 1) := by
              unfold sumG sumF
              rw [if_pos (by omega), if_neg (by omega)]
            have h2 : (sumG q j k b b)[k] = gI (preW (colF q.T b) k) k := by rw [← gI_at (by omega), hG]
            have h3 : colF q.T b k = q.T[k][b] := by
              unfold colF
              rw [getD_at hkT, gI_at (by omega)]
            rw [h2, h1, hG, preW, h3]
          have hlr4 := RW3.len (j := b) (by omega)
          have fin : ∀ (a'' : Option Addr) (c'' : Nat) (w69 : World), OwnL Sh.encI w69 w.heap.size 3 a'' ((r4 b).2.1 + 1) c'' (sumG q j k b b ++ [IntKind.i64.wrap ((sumG q j k b b)[k] + q.T[k][b])]) → Chg (bk (r4 b).1) V3 w69 → (∀ k, bk a'' k → bk (r4 b).1 k ∨ V3.heap.size ≤ k) →
              stL w69 ⟨bb, b, none⟩ 0 [.slice a'' ((r4 b).2.1 + 1) c''] fun w71 => ∃ m72 : Nat, m72 < j - b ∧ ∃ (b' : Nat) (r : Nat → Slv), IntKind.i64.wrap ((b : Int) + 1) = b' ∧ b' ≤ j ∧ m72 = j - b' ∧ Ext w w71 ∧ Blk w71 b6 x.cs 47 ∧ Blk w71 bs [.slice x.l.1 x.l.2.1 x.l.2.2, .slice x.t.1 x.t.2.1 x.t.2.2, .slice x.p.1 x.p.2.1 x.p.2.2, .int .i64 x.h, .int .i64 x.g, slC (r j), slC bl] 148 ∧
                RowsG Sh.encI 3 w.heap.size w71 (j + 1) r (sumG q j k b') ∧ BlO w71 bl j r := by
            intro a'' c'' w69 ho hc69 hn69
            have nb3 : ∀ {b' : Nat} {cs : List Value} {T : TypeId}, Blk V3 b' cs T → T ≠ 3 → Blk w69 b' cs T := fun hB hT => hc69.blk hB fun hh => nbs RW3 hB hT b (by omega) _ hh rfl
            refine stL_fC (nb3 Bb (by decide)) hbj rfl fun w71 C71 c71 s71 => ?_
            have RP := RW3.put (j := b) (by omega) ho hc69 hn69
            have RP2 := RP.chg c71 (fun i hi k hk e => nbs RP (nb3 Bb (by decide)) (by decide) i hi k hk e)
            have zD3 := eD3.size
            refine ⟨j - (b + 1), by omega, b + 1, _, by rw [wrap_nat (by omega)], by omega, rfl, ext_chgS (ext_chgS eD3 hc69 fun k hk => (RW3.bk (by omega) hk).1) c71 (fun k hk => by omega), c71.blk (nb3 D6 (by decide)) n6, ?_, RP2.congr fun i hi => ?_, .inr ⟨bb, hbl, ?_⟩⟩
            · rw [if_neg (show ¬ j = b by omega)]
              exact c71.blk (nb3 Ds (by decide)) ns
            · by_cases e : i = b
              · rw [if_pos e, e, hval]
              · rw [if_neg e]
                unfold sumG
                by_cases e2 : i = j ∨ i < b
                · rw [if_pos e2, if_pos (by omega)]
                · rw [if_neg e2, if_neg (by omega)]
            · have e : (fC j fun i => slC (if i = b then (a'', (r4 b).2.1 + 1, c'') else r4 i)) = fC j fun i => if i = b then .slice a'' ((r4 b).2.1 + 1) c'' else slC (r4 i) := fC_congr fun i _ => by split <;> rfl
              rw [e]; exact C71
          refine ⟨⟨_, _, _, bat Ds rfl, ?_, trivial⟩, ?_, trivial⟩
          · refine al_and (OwnL.push (E := Sh.encI) slT_int (RW3.own b (by omega)) (by have := eD3.size; omega) (IntKind.i64.wrap ((sumG q j k b b)[k] + q.T[k][b])) (by omega) (by omega) fun a'' c'' w69 ho hc69 hn69 => ?_)
            exact hidx ⟨fin a'' c'' w69 ho hc69 hn69, trivial⟩
          · refine al_and (OwnL.push (E := Sh.encI) slT_int (RW3.own b (by omega)) (by have := eD3.size; omega) (IntKind.i64.wrap ((sumG q j k b b)[k] + q.T[k][b])) (by omega) (by omega) fun a'' c'' w69 ho hc69 hn69 => ?_)
            exact ⟨_, _, _, bat (hc69.blk Ds fun hh => nbs RW3 Ds (by decide) b (by omega) _ hh rfl) rfl, hidx ⟨fin a'' c'' w69 ho hc69 hn69, trivial⟩⟩
        · obtain rfl : b = j := by omega
          refine ⟨x.l.2.1 - (k + 1), by omega, k + 1, r4, by rw [wrap_nat (by omega)], by omega, rfl, eW3, D6, Ds, RW3.congr fun i hi => ?_, BW3⟩
          unfold sumG
          rw [if_pos (by omega)]
      · have hke : k = q.L.length := by omega
        subst hke
        refine h bs W2 eW2 ⟨r2 j, bl, Ds, ?_, ?_⟩
        · have := RW2.row (j := j) (by omega)
          have hs : sumF q j q.L.length j = preW (gI q.L) q.L.length := if_pos rfl
          rw [hs] at this
          exact rowV_enc.2 (this.imp fun _ _ _ => trivial)
        · rw [hnb]
          rcases BW2 with ⟨h0, rfl⟩ | ⟨bb, rfl, hB⟩
          · rw [h0]; exact RowV.nil _
          · have RWj : RowsG Sh.encI 3 w.heap.size W2 j r2 (fun b => preW (colF q.T b) q.L.length) := ⟨fun i hi => by
              have := RW2.own i (by omega)
              have hs : sumF q j q.L.length i = preW (colF q.T i) q.L.length := if_neg (by omega)
              rw [hs] at this; exact this, fun i i' hi hi' => RW2.dj i i' (by omega) (by omega)⟩
            exact RWj.out hB fun _ _ _ => trivial
  refine ⟨_, _, _, bat B6a rfl, br_split (fun g => ?_) (fun g => ?_)⟩
  · have h0T : 0 < q.T.length := by omega
    obtain ⟨b2, o2, a2, c2, hq2, _, _, hc2, _, hrow2⟩ := (hq.t.ext e016).getS (List.getElem?_eq_getElem h0T)
    have hT0 : q.T[0].length = nb := by rw [← hnb, getD_at h0T]
    refine ⟨_, _, _, bat B6a rfl, hq2 _ ⟨_, _, _, hc2, ?_⟩⟩
    rw [hT0]
    refine mks_intro (l := nb) (c := nb) (Nat.le_refl _) (by omega) fun bb w87 hbb Bb e87 s87 => ?_
    rw [Int.toNat_natCast]
    rw [fC_rep] at Bb
    rw [add_none, Nat.zero_add]
    refine stL_blk (Bs.ext e87) (by simp) (by intro v hv; simp only [List.mem_singleton] at hv; subst hv; rfl) fun w88 Ds88 y1 y2 y3 y4 y5 => ?_
    have c88 : Chg (fun k => k = bs) w87 w88 := ⟨y3, y4, y5, by omega, fun i _ hi => y1 i hi⟩
    refine k17 w88 (some ⟨bb, 0, none⟩, nb, nb) (.inr ?_) ?_ (c88.blk (B6a.ext e87) (by omega)) Ds88 ((R0.ext e87).chg c88 fun i hi k hk e => ?_) (.inr ⟨bb, rfl, ?_⟩) fun bb' hh => ?_
    · exact ext_chgS (ext_trans e016 e87) c88 fun k hk => by omega
    · exact ext_chgS (ext_trans e016 e87) c88 fun k hk => by omega
    · subst e
      exact absurd (own_ty ((R0.ext e87).own i hi) hk (Bs.ext e87)) (by decide)
    · have e : (fC nb fun j => slC (if j = nb then (some ⟨b13, 0, none⟩, 1, 1) else (none, 0, 0))) = fC nb fun _ => .slice none 0 0 := fC_congr fun i hi => by rw [if_neg (by omega)]; rfl
      rw [e]
      exact c88.blk Bb (by omega)
    · simp only [Prod.mk.injEq, Option.some.injEq, Addr.mk.injEq] at hh
      obtain rfl : bb = bb' := hh.1.1
      omega
  · have : q.T = [] := List.eq_nil_of_length_eq_zero (by omega)
    have hnb0 : nb = 0 := by rw [← hnb, this]; rfl
    exact k17 w16 (none, 0, 0) (.inr e016) e016 B6a Bs R0 (.inl ⟨hnb0, rfl⟩) fun bb hh => by simp at hh
end
end Go.Proofs
namespace Go.Proofs
open Go Go.Sh Go.RowKit
/- the height of lines; the cost of a page of one side; the prices of a side -/
def hstF (q : PQ) (gg : Int) (fr to : Nat) (n : Int) (b : Nat) : Int :=
  if 0 < IntKind.i64.wrap (gI (preW (colF q.T b) q.L.length) to - gI (preW (colF q.T b) q.L.length) fr) then IntKind.i64.wrap (n + IntKind.i64.wrap (IntKind.i64.wrap (gI (preW (colF q.T b) q.L.length) to - gI (preW (colF q.T b) q.L.length) fr) + gg)) else n
def hgtF (q : PQ) (gg : Int) (fr to : Nat) : Int := (List.range (q.T.getD 0 []).length).foldl (hstF q gg fr to) (IntKind.i64.wrap (gI (preW (gI q.L) q.L.length) to - gI (preW (gI q.L) q.L.length) fr))
def pageF (hh gg : Int) (q : PQ) (fr to : Nat) : Int × Int :=
  if fr = to then (0, 0) else if hh < hgtF q gg fr to then (0, 22) else if to = q.L.length then (0, 0) else if 10000 ≤ gI q.N (to - 1) then (0, 23) else (IntKind.i64.wrap (badF (IntKind.i64.wrap (hh - hgtF q gg fr to)) hh + gI q.N (to - 1)), 0)
def prG (hh gg : Int) (q : PQ) (fr : Nat) : Nat → Nat → List (Int × Int)
  | 0, _ => []
  | m + 1, to => pageF hh gg q fr to :: if (pageF hh gg q fr to).2 = 22 then [] else prG hh gg q fr m (to + 1)
def rowP (hh gg : Int) (q : PQ) (fr : Nat) : List (Int × Int) := prG hh gg q fr (q.L.length + 1 - fr) fr
theorem slT_pr : SlT Try.prog 108 110 2 16 (.agg ⟨[.int .i64 0, .int .i64 0]⟩) := ⟨by kernel_rfl, by kernel_rfl, rfl, by decide⟩
section
variable {R : Ending → World → Prop} {S : Nat → Prop} {w : World}
set_option maxRecDepth 20000 in
theorem height_spec {x : PV} {q : PQ} {bs fr to : Nat} (hS : SumAt w bs x q) (hp : pchk x.h x.g q = true) (h1 : fr ≤ q.L.length) (h2 : to ≤ q.L.length) (h : ∀ w', Ext w w' → R (.returned (.int .i64 (hgtF q x.g fr to))) w') :
    Calls Try.prog F_pagebreak_sums_height ⟨[.pointer (some ⟨bs, 0, none⟩), .int .i64 fr, .int .i64 to]⟩ w R := by
  apply c_pagebreak_sums_height
  obtain ⟨f1, f2, f3, f4, f5, _, _⟩ := pchk_facts hp
  obtain ⟨ls, bl, Bs, hl, hb⟩ := hS.ex
  unfold sh_pagebreak_sums_height drw
  have ed := ext_drew w
  have Bs := Bs.ext ed
  have hl := hl.ext ed
  have hb := hb.ext ed
  generalize w.drew = w4 at *
  have hpl := preW_len (gI q.L) q.L.length
  obtain ⟨p1, hp1, d1⟩ := hl.int (k := to) (by omega)
  obtain ⟨p2, hp2, d2⟩ := hl.int (k := fr) (by omega)
  refine dr_ok ⟨_, _, _, bat Bs rfl, hp1 _ ⟨_, d1, dr_ok ⟨_, _, _, bat Bs rfl, hp2 _ ⟨_, d2, dr_ok ⟨_, _, _, bat Bs rfl, ?_⟩⟩⟩⟩⟩
  rw [← gI_at (by omega), ← gI_at (by omega)]
  have hbl := hb.1
  rw [List.length_map, List.length_range] at hbl
  refine ⟨fun n i W m => ∃ k : Nat, i = k ∧ k ≤ bl.2.1 ∧ m = bl.2.1 - k ∧ n = (List.range k).foldl (hstF q x.g fr to) (IntKind.i64.wrap (gI (preW (gI q.L) q.L.length) to - gI (preW (gI q.L) q.L.length) fr)) ∧ Ext w4 W, ⟨_, 0, rfl, by omega, rfl, rfl, Below.refl _ _⟩, ?_⟩
  rintro _ _ W m ⟨k, rfl, hk, rfl, rfl, eW⟩ _
  refine br_split (fun hlt => ?_) (fun hge => ?_)
  · have hkl : k < ((List.range (q.T.getD 0 []).length).map fun b => preW (colF q.T b) q.L.length).length := by rw [List.length_map, List.length_range]; omega
    obtain ⟨b14, o14, a15, c15, hq1, _, _, hc1, _, hrow⟩ := (hb.ext eW).getS (List.getElem?_eq_getElem hkl)
    rw [List.getElem_map, List.getElem_range] at hc1 hrow
    refine hq1 _ ⟨_, _, _, hc1, ?_⟩
    have ed2 := ext_drew W
    have hrow := hrow.ext ed2
    have Bs := (Bs.ext eW).ext ed2
    have eV := ext_trans eW ed2
    generalize W.drew = V at *
    show idx a15 (preW (colF q.T k) q.L.length).length (to : Int) 1 _
    have hpl2 := preW_len (colF q.T k) q.L.length
    obtain ⟨p3, hp3, d3⟩ := hrow.int (k := to) (by omega)
    obtain ⟨p4, hp4, d4⟩ := hrow.int (k := fr) (by omega)
    refine hp3 _ ⟨_, d3, hp4 _ ⟨_, d4, ?_⟩⟩
    rw [← gI_at (by omega), ← gI_at (by omega)]
    refine br_split (fun g => dr_ok ⟨_, bat2 Bs rfl, ?_⟩) (fun g => ?_)
    · refine ⟨bl.2.1 - (k + 1), by omega, k + 1, by rw [wrap_nat (by omega)], by omega, rfl, ?_, eV⟩
      rw [List.range_succ, List.foldl_append, List.foldl_cons, List.foldl_nil]
      exact (if_pos g).symm
    · refine ⟨bl.2.1 - (k + 1), by omega, k + 1, by rw [wrap_nat (by omega)], by omega, rfl, ?_, eV⟩
      rw [List.range_succ, List.foldl_append, List.foldl_cons, List.foldl_nil]
      exact (if_neg g).symm
  · have := h W (ext_trans ed eW)
    unfold hgtF at this
    rw [hbl.symm, show bl.2.1 = k by omega] at this
    exact this
set_option maxRecDepth 20000 in
theorem Height_spec {x : PV} {q : PQ} {fr to : Nat} (hq : PrV S w x q) (hp : pchk x.h x.g q = true) (h1 : fr ≤ to) (h2 : to ≤ q.L.length) (h : ∀ w', Ext w w' → R (.returned (.tuple ⟨[.int .i64 (hgtF q x.g fr to), .int .i64 0]⟩)) w') :
    Calls Try.prog F_pagebreak_Height ⟨[.agg ⟨x.cs⟩, .int .i64 fr, .int .i64 to]⟩ w R := by
  apply c_pagebreak_Height
  have hll := hq.l.1
  refine al_intro fun b8 w9 hb8 B8 e9 s9 => ?_
  refine ⟨_, _, _, bat B8 rfl, _, _, _, bat B8 rfl, _, _, _, bat B8 rfl, _, bat B8 rfl, _, bat B8 rfl, ?_⟩
  refine pbCheck_spec (x := x) (hq.ext e9) fun e w16 e16 he => ⟨_, rfl, ?_⟩
  rw [hp, decide_eq_true_iff] at he
  subst he
  have e016 := ext_trans e9 e16
  have B8 := B8.ext e16
  refine br_split (fun g => absurd rfl g) (fun _ => ?_)
  intro K18 hK18
  have k18 : K18 w16 := by
    refine hK18 _ fun _ => ⟨_, _, _, bat B8 rfl, _, _, _, bat B8 rfl, _, _, _, bat B8 rfl, _, bat B8 rfl, _, bat B8 rfl, ?_⟩
    refine newSums_spec (x := x) (hq.ext e016) hp fun bs w26 e26 hS => ⟨_, rfl, ?_⟩
    exact height_spec hS hp (by omega) h2 fun w29 e29 => ⟨_, rfl, h w29 (ext_trans e016 (ext_trans e26 e29))⟩
  exact br_split (fun g => by omega) (fun _ => br_split (fun g => by omega) (fun _ => ⟨_, _, _, bat B8 rfl, br_split (fun g => by omega) (fun _ => k18)⟩))
set_option maxRecDepth 20000 in
theorem page_spec {x : PV} {q : PQ} {fr to : Nat} (hq : PrV S w x q) (hp : pchk x.h x.g q = true) (h1 : fr ≤ to) (h2 : to ≤ q.L.length) (h : ∀ w', Ext w w' → R (.returned (.tuple ⟨[.int .i64 (pageF x.h x.g q fr to).1, .int .i64 (pageF x.h x.g q fr to).2]⟩)) w') :
    Calls Try.prog F_facing_page ⟨[.agg ⟨x.cs⟩, .int .i64 fr, .int .i64 to]⟩ w R := by
  apply c_facing_page
  obtain ⟨f1, f2, f3, f4, f5, f6, f7⟩ := pchk_facts hp
  have hll := hq.l.1
  refine al_intro fun b8 w9 hb8 B8 e9 s9 => ?_
  unfold pageF at h
  refine br_split (fun g => ?_) (fun g => ?_)
  · have := h w9 e9
    rw [if_pos (show fr = to by omega)] at this; exact this
  rw [if_neg (show ¬ fr = to by omega)] at h
  refine ⟨_, _, _, bat B8 rfl, _, _, _, bat B8 rfl, _, _, _, bat B8 rfl, _, bat B8 rfl, _, bat B8 rfl, ?_⟩
  refine Height_spec (x := x) (hq.ext e9) hp h1 h2 fun w16 e16 => ⟨_, _, rfl, ?_⟩
  have e016 := ext_trans e9 e16
  have B8 := B8.ext e16
  have hto : to - 1 < q.N.length := by omega
  obtain ⟨p1, hp1, d1⟩ := (hq.ext e016).p.int hto
  refine ⟨_, _, _, bat B8 rfl, ?_⟩
  rw [wrap_id (by omega), show (to : Int) - 1 = ((to - 1 : Nat) : Int) by omega]
  refine hp1 _ ⟨_, d1, br_split (fun g2 => absurd rfl g2) (fun _ => ⟨_, bat B8 rfl, br_split (fun g2 => ?_) (fun g2 => ?_)⟩)⟩
  · have := h w16 e016
    rw [if_pos g2] at this; exact this
  rw [if_neg g2] at h
  refine ⟨_, _, _, bat B8 rfl, br_split (fun g3 => ?_) (fun g3 => ?_)⟩
  · have := h w16 e016
    rw [if_pos (show to = q.L.length by omega)] at this; exact this
  rw [if_neg (show ¬ to = q.L.length by omega)] at h
  have gN : gI q.N (to - 1) = q.N[to - 1] := gI_at hto
  rw [gN] at h
  refine br_split (fun g4 => ?_) (fun g4 => ?_)
  · have := h w16 e016
    rw [if_pos g4] at this; exact this
  rw [if_neg g4] at h
  exact ⟨_, bat B8 rfl, _, bat B8 rfl, Badness_spec _ _ fun w27 e27 => ⟨_, rfl, h w27 (ext_trans e016 e27)⟩⟩
set_option maxRecDepth 20000 in
theorem prices_spec {x : PV} {q : PQ} (hq : PrV S w x q) (hp : pchk x.h x.g q = true) (h : ∀ bo w', Ext w w' → RowV (View.sl (View.enc encCh)) (fun k => w.heap.size ≤ k ∧ k < w'.heap.size) w' (some ⟨bo, 0, none⟩) (q.L.length + 1) ((List.range (q.L.length + 1)).map (rowP x.h x.g q)) → R (.returned (.slice (some ⟨bo, 0, none⟩) (q.L.length + 1) (q.L.length + 1))) w') :
    Calls Try.prog F_facing_prices ⟨[.agg ⟨x.cs⟩]⟩ w R := by
  apply c_facing_prices
  obtain ⟨f1, f2, f3, f4, f5, f6, f7⟩ := pchk_facts hp
  have hll := hq.l.1
  refine al_intro fun b6 w7 hb6 B6 e7 s7 => ⟨_, _, _, bat B6 rfl, ?_⟩
  rw [wrap_nat (by omega), Int.toNat_natCast, show x.l.2.1 + 1 = q.L.length + 1 by omega]
  generalize hN : q.L.length + 1 = N at *
  refine mks_intro (l := N) (c := N) (Nat.le_refl _) (by omega) fun bo w10 hbo Bo e10 s10 => ?_
  rw [fC_rep] at Bo
  have e010 := ext_trans e7 e10
  have B6 := B6.ext e10
  have z7 := e7.size
  have z10 := e10.size
  refine ⟨fun i W m => ∃ (fr : Nat) (r : Nat → Slv), i = fr ∧ fr ≤ N ∧ m = N - fr ∧ Ext w W ∧ Blk W b6 x.cs 47 ∧ Blk W bo (fC N fun j => slC (r j)) 108 ∧ RowsG encCh 110 w.heap.size W N r (fun j => if j < fr then rowP x.h x.g q j else []),
    ⟨_, 0, fun _ => (none, 0, 0), rfl, by omega, rfl, e010, B6, Bo, RowsG.nil _ _⟩, ?_⟩
  rintro _ W m ⟨fr, r, rfl, hfr, rfl, eW, D6, Do, RW⟩ _
  have zW := eW.size
  refine br_split (fun hlt => ?_) (fun hge => ?_)
  · have hfN : fr < N := by omega
    refine ⟨fun t V m' => ∃ (to : Nat) (r : Nat → Slv) (part : List (Int × Int)), t = to ∧ fr ≤ to ∧ to ≤ N ∧ m' = N - to ∧ Ext w V ∧ Blk V b6 x.cs 47 ∧ Blk V bo (fC N fun j => slC (r j)) 108 ∧ part.length ≤ to ∧ part ++ prG x.h x.g q fr (N - to) to = rowP x.h x.g q fr ∧ RowsG encCh 110 w.heap.size V N r (fun j => if j = fr then part else if j < fr then rowP x.h x.g q j else []),
      ⟨_, fr, r, [], rfl, Nat.le_refl _, by omega, rfl, eW, D6, Do, Nat.zero_le _, by rw [List.nil_append]; unfold rowP; rw [hN], RW.congr fun j hj => ?_⟩, ?_⟩
    · by_cases e : j = fr
      · rw [if_pos e, if_neg (by omega)]
      · rw [if_neg e]
    rintro _ V m' ⟨to, r2, part, rfl, hto1, hto2, rfl, eV, D6, Do, hpl, hpart, RV⟩ _
    have zV := eV.size
    refine ⟨_, _, _, bat D6 rfl, br_split (fun hlt2 => ?_) (fun hge2 => ?_)⟩
    · have htoN : to < N := by omega
      refine ⟨_, _, _, bat D6 rfl, _, _, _, bat D6 rfl, _, _, _, bat D6 rfl, _, bat D6 rfl, _, bat D6 rfl, ?_⟩
      refine page_spec (x := x) (hq.ext eV) hp hto1 (by omega) fun w28 e28 => ⟨_, _, rfl, ?_⟩
      have e028 := ext_trans eV e28
      have D6 := D6.ext e28
      have Do := Do.ext e28
      have RV := RV.ext e28
      have z28 := e028.size
      have hl := RV.len hfN
      rw [if_pos rfl] at hl
      refine idx_b1 hfN ⟨_, _, _, by rw [Do.cell, fC_get hfN]; rfl, ?_⟩
      have hown := RV.own fr hfN
      rw [if_pos rfl] at hown
      refine OwnL.push (E := encCh) slT_pr hown (by omega) (pageF x.h x.g q fr to) (by omega) (by omega) fun a' c' w36 ho hc36 hn36 => ?_
      have nb3 : ∀ {b' : Nat} {cs : List Value} {T : TypeId}, Blk w28 b' cs T → T ≠ 110 → ∀ i, i < N → ∀ k, bk (r2 i).1 k → k ≠ b' := fun hB hT i hi k hk e => hT (own_ty (RV.own i hi) hk (e ▸ hB))
      refine idx_b1 hfN ?_
      have Do36 := hc36.blk Do fun hh => nb3 Do (by decide) fr hfN _ hh rfl
      have D636 := hc36.blk D6 fun hh => nb3 D6 (by decide) fr hfN _ hh rfl
      refine stL_fC Do36 hfN rfl fun w38 C38 c38 s38 => ?_
      have RP := RV.put (j := fr) hfN ho hc36 hn36
      have RP2 := RP.chg c38 (fun i hi k hk e => by
        subst e
        exact absurd (own_ty (RP.own i hi) hk Do36) (by decide))
      have e038 : Ext w w38 := ext_chgS (ext_chgS e028 hc36 fun k hk => (RV.bk hfN hk).1) c38 fun k hk => by omega
      have D638 := c38.blk D636 (by omega)
      have C38' : Blk w38 bo (fC N fun j => slC (if j = fr then (a', (r2 fr).2.1 + 1, c') else r2 j)) 108 := by
        have e : (fC N fun j => slC (if j = fr then (a', (r2 fr).2.1 + 1, c') else r2 j)) = fC N fun j => if j = fr then .slice a' ((r2 fr).2.1 + 1) c' else slC (r2 j) := fC_congr fun i _ => by split <;> rfl
        rw [e]; exact C38
      have hpr : prG x.h x.g q fr (N - to) to = pageF x.h x.g q fr to :: if (pageF x.h x.g q fr to).2 = 22 then [] else prG x.h x.g q fr (N - (to + 1)) (to + 1) := by
        rw [show N - to = (N - (to + 1)) + 1 by omega, prG]
      rw [hpr] at hpart
      refine br_split (fun g => ?_) (fun g => ?_)
      · rw [if_pos g] at hpart
        refine ⟨N - (fr + 1), by omega, fr + 1, _, by rw [wrap_nat (by omega)], by omega, rfl, e038, D638, C38', RP2.congr fun j hj => ?_⟩
        by_cases e : j = fr
        · rw [if_pos e, if_pos (by omega), hpart, e]
        · rw [if_neg e, if_neg e]
          by_cases e2 : j < fr
          · rw [if_pos e2, if_pos (by omega)]
          · rw [if_neg e2, if_neg (by omega)]
      · rw [if_neg g] at hpart
        refine ⟨N - (to + 1), by omega, to + 1, _, part ++ [pageF x.h x.g q fr to], by rw [wrap_nat (by omega)], by omega, by omega, rfl, e038, D638, C38', by simp; omega, by rw [List.append_assoc]; exact hpart, RP2.congr fun j hj => ?_⟩
        by_cases e : j = fr
        · rw [if_pos e, if_pos e]
        · rw [if_neg e, if_neg e, if_neg e]
    · have hte : to = N := by omega
      rw [hte, Nat.sub_self, prG, List.append_nil] at hpart
      refine ⟨N - (fr + 1), by omega, fr + 1, r2, by rw [wrap_nat (by omega)], by omega, rfl, eV, D6, Do, RV.congr fun j hj => ?_⟩
      by_cases e : j = fr
      · rw [if_pos e, if_pos (by omega), hpart, e]
      · rw [if_neg e]
        by_cases e2 : j < fr
        · rw [if_pos e2, if_pos (by omega)]
        · rw [if_neg e2, if_neg (by omega)]
  · obtain rfl : fr = N := by omega
    refine h bo W eW ?_
    have RF := RW.congr (F' := rowP x.h x.g q) fun j hj => by rw [if_pos (by omega)]
    exact RF.out Do fun k hk hl => ⟨by rcases hk with rfl | hk <;> omega, hl⟩
end
end Go.Proofs
namespace Go.Proofs
open Go Go.Sh Go.RowKit
/- facing: two sides; whether anchors are together on a page; the pages from a spot on -/
structure SV where
  lf : PV
  rt : PV
  an : Slv
  l : Slv
  r : Slv
abbrev SV.cs (s : SV) : List Value := [.slice s.lf.l.1 s.lf.l.2.1 s.lf.l.2.2, .slice s.lf.t.1 s.lf.t.2.1 s.lf.t.2.2, .slice s.lf.p.1 s.lf.p.2.1 s.lf.p.2.2, .int .i64 s.lf.h, .int .i64 s.lf.g,
  .slice s.rt.l.1 s.rt.l.2.1 s.rt.l.2.2, .slice s.rt.t.1 s.rt.t.2.1 s.rt.t.2.2, .slice s.rt.p.1 s.rt.p.2.1 s.rt.p.2.2, .int .i64 s.rt.h, .int .i64 s.rt.g,
  .slice s.an.1 s.an.2.1 s.an.2.2, .slice s.l.1 s.l.2.1 s.l.2.2, .slice s.r.1 s.r.2.1 s.r.2.2]
structure SQ where
  lf : PQ
  rt : PQ
  A : List (List Int)
abbrev vPr : View (List (Int × Int)) := View.sl (View.enc encCh)
structure SdV (S : Nat → Prop) (w : World) (s : SV) (q : SQ) : Prop where
  lf : PrV S w s.lf q.lf
  rt : PrV S w s.rt q.rt
  an : RowV vIs S w s.an.1 s.an.2.1 q.A
  l : RowV vPr S w s.l.1 s.l.2.1 ((List.range (q.lf.L.length + 1)).map (rowP s.lf.h s.lf.g q.lf))
  r : RowV vPr S w s.r.1 s.r.2.1 ((List.range (q.rt.L.length + 1)).map (rowP s.rt.h s.rt.g q.rt))
theorem SdV.ext {S : Nat → Prop} {w w' : World} {s : SV} {q : SQ} (h : SdV S w s q) (he : Ext w w') : SdV S w' s q := ⟨h.lf.ext he, h.rt.ext he, h.an.ext he, h.l.ext he, h.r.ext he⟩
theorem SdV.imp {S S' : Nat → Prop} {w : World} {s : SV} {q : SQ} (h : SdV S w s q) (hs : ∀ k, S k → k < w.heap.size → S' k) : SdV S' w s q := ⟨h.lf.imp hs, h.rt.imp hs, h.an.imp hs, h.l.imp hs, h.r.imp hs⟩
theorem SdV.chg {S T : Nat → Prop} {w w' : World} {s : SV} {q : SQ} (h : SdV S w s q) (hc : Chg T w w') (hd : ∀ k, S k → k < w.heap.size → ¬ T k) : SdV S w' s q := ⟨h.lf.chg hc hd, h.rt.chg hc hd, h.an.chg hc hd, h.l.chg hc hd, h.r.chg hc hd⟩
structure SdOk (s : SV) (q : SQ) : Prop where
  lf : pchk s.lf.h s.lf.g q.lf = true
  rt : pchk s.rt.h s.rt.g q.rt = true
  an : ∀ l ∈ q.A, l.length = 2 ∧ 0 ≤ gI l 0 ∧ 0 ≤ gI l 1
  anl : q.A.length ≤ 1000000
def spo (l : List Int) : Spot := ((gI l 0).toNat, (gI l 1).toNat)
def spots (A : List (List Int)) : List Spot := A.map spo
/- the pages from a spot on, whatever the anchors are -/
def pgK (s : SV) (q : SQ) (f : Spot) (i : Nat) (a : Int × Int) : Nat → Nat → List (Spot × Int)
  | 0, _ => []
  | m + 1, k => if (i, k) = f then pgK s q f i a m (k + 1) else if (pageF s.rt.h s.rt.g q.rt f.2 k).2 = 22 then [] else
      (if a.2 = 0 ∧ (pageF s.rt.h s.rt.g q.rt f.2 k).2 = 0 then [((i, k), IntKind.i64.wrap (a.1 + (pageF s.rt.h s.rt.g q.rt f.2 k).1))] else []) ++ pgK s q f i a m (k + 1)
def pgI (s : SV) (q : SQ) (f : Spot) : Nat → Nat → List (Spot × Int)
  | 0, _ => []
  | m + 1, i => if (pageF s.lf.h s.lf.g q.lf f.1 i).2 = 22 then [] else pgK s q f i (pageF s.lf.h s.lf.g q.lf f.1 i) (q.rt.L.length + 1 - f.2) f.2 ++ pgI s q f m (i + 1)
def pagesF (s : SV) (q : SQ) (f : Spot) : List (Spot × Int) := pgI s q f (q.lf.L.length + 1 - f.1) f.1
def filA (q : SQ) (f : Spot) (l : List (Spot × Int)) : List (Spot × Int) := l.filter fun x => ancA (spots q.A) f x.1
/- an element of a row of prices -/
theorem prG_get {hh gg : Int} {q : PQ} {fr : Nat} : ∀ {m to j : Nat}, j < m → (∀ t, t < j → (pageF hh gg q fr (to + t)).2 ≠ 22) → (prG hh gg q fr m to)[j]? = some (pageF hh gg q fr (to + j))
  | 0, _, _, h, _ => by omega
  | m + 1, to, 0, _, _ => by rw [prG]; rfl
  | m + 1, to, j + 1, h, hn => by
    rw [prG, List.getElem?_cons_succ, if_neg (by have := hn 0 (by omega); rwa [Nat.add_zero] at this), prG_get (by omega) fun t ht => by have := hn (t + 1) (by omega); rwa [show to + (t + 1) = to + 1 + t by omega] at this]
    rw [show to + 1 + j = to + (j + 1) by omega]
section
variable {R : Ending → World → Prop} {S : Nat → Prop} {w : World}
set_option maxRecDepth 20000 in
theorem anchored_spec {s : SV} {q : SQ} {fl fr tl tr : Nat} (hA : RowV vIs S w s.an.1 s.an.2.1 q.A) (ho : ∀ l ∈ q.A, l.length = 2 ∧ 0 ≤ gI l 0 ∧ 0 ≤ gI l 1) (hl : q.A.length ≤ 1000000) (h : ∀ w', Ext w w' → R (.returned (.bool (ancA (spots q.A) (fl, fr) (tl, tr)))) w') :
    Calls Try.prog F_facing_sides_anchored ⟨[.agg ⟨s.cs⟩, .agg ⟨[.int .i64 fl, .int .i64 fr]⟩, .agg ⟨[.int .i64 tl, .int .i64 tr]⟩]⟩ w R := by
  apply c_facing_sides_anchored
  have hal := hA.1
  refine al_intro fun b18 w19 hb18 B18 e19 s19 => al_intro fun b20 w21 hb20 B20 e21 s21 => al_intro fun b22 w23 hb22 B22 e23 s23 => ?_
  have e023 := ext_trans e19 (ext_trans e21 e23)
  refine ⟨_, _, _, bat ((B18.ext e21).ext e23) rfl, ?_⟩
  have B20 := B20.ext e23
  refine ContainsFuncL_spec (q := fun l => !anc1 (spo l) (fl, fr) (tl, tr)) (J := fun V => Ext w23 V) (hA.ext e023) (by omega) ?_ (Below.refl _ _) (fun _ _ => ext_trans) fun w26 e26 => ⟨_, rfl, ?_⟩
  · intro l hl V a c K eV hlc hrow hK
    refine ⟨by kernel_rfl, ?_⟩
    apply c_facing_sides_anchored_1
    obtain ⟨h2, h3, h4⟩ := ho l hl
    unfold sh_facing_sides_anchored_1 drw
    have ed := ext_drew V
    have hrow := hrow.ext ed
    have B20 := (B20.ext eV).ext ed
    have B22 := (B22.ext eV).ext ed
    have hK := hK _ ed
    generalize V.drew = V4 at *
    obtain ⟨p0, hp0, d0⟩ := hrow.int (k := 0) (by omega)
    obtain ⟨p1, hp1, d1⟩ := hrow.int (k := 1) (by omega)
    rw [← gI_at (by omega)] at d0 d1
    have hv : ∀ b : Bool, b = (!anc1 (spo l) (fl, fr) (tl, tr)) → K (.returned (.bool b)) V4 := fun b hb => by rw [hb]; exact hK
    have hsp : (spo l).1 = (gI l 0).toNat ∧ (spo l).2 = (gI l 1).toNat := ⟨rfl, rfl⟩
    have e1 : ((fl ≤ (spo l).1 ∧ (spo l).1 < tl) ↔ ((fl : Int) ≤ gI l 0 ∧ gI l 0 < (tl : Int))) := by rw [hsp.1]; omega
    have e2 : ((fr ≤ (spo l).2 ∧ (spo l).2 < tr) ↔ ((fr : Int) ≤ gI l 1 ∧ gI l 1 < (tr : Int))) := by rw [hsp.2]; omega
    have hanc : anc1 (spo l) (fl, fr) (tl, tr) = (decide ((fl : Int) ≤ gI l 0 ∧ gI l 0 < (tl : Int)) == decide ((fr : Int) ≤ gI l 1 ∧ gI l 1 < (tr : Int))) := by
      unfold anc1
      rw [decide_eq_decide.2 e1, decide_eq_decide.2 e2]
    refine hp0 _ ⟨_, d0, dr_ok ⟨_, bat B20 rfl, br_split (fun g1 => ?_) (fun g1 => ?_)⟩⟩
    · refine hp0 _ ⟨_, d0, dr_ok ⟨_, bat B22 rfl, hp1 _ ⟨_, d1, dr_ok ⟨_, bat B20 rfl, br_split (fun g2 => ?_) (fun g2 => ?_)⟩⟩⟩⟩
      · refine hp1 _ ⟨_, d1, dr_ok ⟨_, bat B22 rfl, hv _ ?_⟩⟩
        rw [hanc]
        by_cases g3 : gI l 0 < (tl : Int) <;> by_cases g4 : gI l 1 < (tr : Int) <;> simp [g1, g2, g3, g4]
      · refine hv _ ?_
        rw [hanc]
        by_cases g3 : gI l 0 < (tl : Int) <;> simp [g1, g2, g3]
    · refine hp1 _ ⟨_, d1, dr_ok ⟨_, bat B20 rfl, br_split (fun g2 => ?_) (fun g2 => ?_)⟩⟩
      · refine hp1 _ ⟨_, d1, dr_ok ⟨_, bat B22 rfl, hv _ ?_⟩⟩
        rw [hanc]
        by_cases g4 : gI l 1 < (tr : Int) <;> simp [g1, g2, g4]
      · refine hv _ ?_
        rw [hanc]
        simp [g1, g2]
  · have e : (!(q.A.any fun l => !anc1 (spo l) (fl, fr) (tl, tr))) = ancA (spots q.A) (fl, fr) (tl, tr) := by
      unfold ancA spots
      rw [List.all_map, List.not_any_eq_all_not]
      congr 1; funext l; simp
    rw [e]
    exact h w26 (ext_trans e023 e26)
theorem end_spec {s : SV} {q : SQ} (h1 : s.lf.l.2.1 = q.lf.L.length) (h2 : s.rt.l.2.1 = q.rt.L.length) (h : ∀ w', Ext w w' → R (.returned (.agg ⟨[.int .i64 q.lf.L.length, .int .i64 q.rt.L.length]⟩)) w') : Calls Try.prog F_facing_sides_end ⟨[.agg ⟨s.cs⟩]⟩ w R := by
  apply c_facing_sides_end
  refine al_intro fun b14 w15 hb14 B14 e15 s15 => al_intro fun b16 w17 hb16 B16 e17 s17 => ?_
  refine ⟨_, _, _, bat2 (B14.ext e17) rfl, _, _, _, bat2 (B14.ext e17) rfl, ?_⟩
  refine stL_blk B16 (by simp) (by intro v hv; simp only [List.mem_cons, List.not_mem_nil, or_false] at hv; rcases hv with rfl | rfl <;> rfl) fun w20 B20 y1 y2 y3 y4 y5 => ?_
  have hc : Chg (fun k => k = b16) w17 w20 := ⟨y3, y4, y5, by omega, fun j _ hj => y1 j hj⟩
  have B20' : Blk w20 b16 [.int .i64 (s.lf.l.2.1 : Int), .int .i64 (s.rt.l.2.1 : Int)] 79 := B20
  refine ⟨_, bat B20' rfl, _, bat B20' rfl, ?_⟩
  rw [h1, h2]
  exact h w20 (ext_chgS (ext_trans e15 e17) hc fun k hk => by have := e15.size; omega)
end
def PgE (x : Spot × Int) (vs : List Value) : Prop := vs = [.agg ⟨[.int .i64 x.1.1, .int .i64 x.1.2]⟩, .int .i64 x.2]
set_option maxRecDepth 20000 in
theorem pages_iterO {w : World} {S : Nat → Prop} {s : SV} {q : SQ} {f : Spot} {b16 b18 : Nat} (hV : SdV S w s q) (hok : SdOk s q) (Bs : Blk w b16 s.cs 77) (Bf : Blk w b18 [.int .i64 f.1, .int .i64 f.2] 79) (hf1 : f.1 ≤ q.lf.L.length) (hf2 : f.2 ≤ q.rt.L.length) :
    IterO Try.prog F_facing_sides_pages_1 [.pointer (some ⟨b16, 0, none⟩), .pointer (some ⟨b18, 0, none⟩)] (filA q f (pagesF s q f)) PgE (fun k => k = b16 ∨ k = b18 ∨ (S k ∧ k < w.heap.size)) w := by
  intro yf ya yb S0 J Jx R hS0 hJ hJx hbody h0 hend hstop
  apply c_facing_sides_pages_1
  obtain ⟨f1, f2, f3, f4, f5, f6, f7⟩ := pchk_facts hok.lf
  obtain ⟨g1, g2, g3, g4, g5, g6, g7⟩ := pchk_facts hok.rt
  have hll := hV.lf.l.1
  have hrl := hV.rt.l.1
  have lbs := Bs.lt
  have lbf := Bf.lt
  -- what can be read, whatever the caller's body did
  have rd : ∀ {W : World}, Chg (fun k => S0 k ∨ w.heap.size ≤ k) w W → SdV S W s q ∧ Blk W b16 s.cs 77 ∧ Blk W b18 [.int .i64 f.1, .int .i64 f.2] 79 := by
    intro W hc
    refine ⟨((hV.imp (S' := fun k => S k ∧ k < w.heap.size) fun k hk hl => ⟨hk, hl⟩).chg hc fun k hk hl hh => ?_).imp fun k hk _ => hk.1, hc.blk Bs fun hh => ?_, hc.blk Bf fun hh => ?_⟩
    · rcases hh with hh | hh
      · exact (hS0 _ hh).2 (.inr (.inr hk))
      · omega
    · rcases hh with hh | hh
      · exact (hS0 _ hh).2 (.inl rfl)
      · omega
    · rcases hh with hh | hh
      · exact (hS0 _ hh).2 (.inr (.inl rfl))
      · omega
  refine dr_ok ⟨_, _, _, bat Bs rfl, _, _, _, bat Bs rfl, _, _, _, bat Bs rfl, _, bat Bs rfl, _, bat Bs rfl, _, _, _, bat Bs rfl, _, _, _, bat Bs rfl, _, _, _, bat Bs rfl, _, bat Bs rfl, _, bat Bs rfl, _, _, _, bat Bs rfl, _, _, _, bat Bs rfl, _, _, _, bat Bs rfl, ?_⟩
  refine end_spec (s := s) (q := q) hll hrl fun w19 e19 => ⟨_, _, rfl, ?_⟩
  refine al_stL (by simp) (by intro v hv; simp only [List.mem_cons, List.not_mem_nil, or_false] at hv; rcases hv with rfl | rfl <;> rfl) fun b22 w24 hb22 B22 e24 s24 => ?_
  have e024 := ext_trans e19 e24
  have z19 := e19.size
  have z24 := e24.size
  refine dr_ok ⟨_, bat (Bf.ext e024) rfl, ?_⟩
  have hJ0 := hJ _ _ _ _ h0 (.of_ext e024)
  refine ⟨fun i W m => ∃ (i' : Nat) (S1 : Nat → Prop) (pre : List (Spot × Int)), i = i' ∧ f.1 ≤ i' ∧ i' ≤ q.lf.L.length + 1 ∧ m = q.lf.L.length + 1 - i' ∧ (∀ t, f.1 ≤ t → t < i' → (pageF s.lf.h s.lf.g q.lf f.1 t).2 ≠ 22) ∧ J pre S1 W ∧ pre ++ filA q f (pgI s q f (q.lf.L.length + 1 - i') i') = filA q f (pagesF s q f) ∧
      Chg (fun k => S0 k ∨ w.heap.size ≤ k) w W ∧ (∀ k, S1 k → (S0 k ∨ w.heap.size ≤ k) ∧ k < W.heap.size) ∧ ¬ S1 b22 ∧ Blk W b22 [.int .i64 q.lf.L.length, .int .i64 q.rt.L.length] 79,
    ⟨_, f.1, S0, [], rfl, Nat.le_refl _, by omega, rfl, fun t h1 h2 => by omega, hJ0, rfl, .of_ext e024, fun k hk => ⟨.inl hk, by have := (hS0 k hk).1; omega⟩, fun hh => by have := (hS0 _ hh).1; omega, B22⟩, ?_⟩
  rintro _ W m ⟨i, S1, pre, rfl, hi1, hi2, rfl, hno, hj, hpre, hc, hS1, n22, C22⟩ _
  have zW := hc.size
  refine ⟨_, bat C22 rfl, br_split (fun hlt => ?_) (fun hge => ?_)⟩
  · have hil : i ≤ q.lf.L.length := by omega
    unfold drw
    have ed := ext_drew W
    have hc := hc.trans (.of_ext ed)
    have hj := hJ _ _ _ _ hj (.of_ext ed)
    have C22 := C22.ext ed
    have zD := ed.size
    have hS1 : ∀ k, S1 k → (S0 k ∨ w.heap.size ≤ k) ∧ k < W.drew.heap.size := fun k hk => ⟨(hS1 k hk).1, by have := (hS1 k hk).2; omega⟩
    generalize W.drew = V at *
    obtain ⟨hVV, BsV, BfV⟩ := rd hc
    have hrow1 : f.1 < ((List.range (q.lf.L.length + 1)).map (rowP s.lf.h s.lf.g q.lf)).length := by simp; omega
    obtain ⟨b14, o14, a15, c15, hq1, _, _, hc1, hcl1, hr1⟩ := hVV.l.getS (List.getElem?_eq_getElem hrow1)
    rw [List.getElem_map, List.getElem_range] at hc1 hr1 hcl1
    have hget : (rowP s.lf.h s.lf.g q.lf f.1)[i - f.1]? = some (pageF s.lf.h s.lf.g q.lf f.1 i) := by
      unfold rowP
      rw [prG_get (by omega) (fun t ht => hno _ (by omega) (by omega)), show f.1 + (i - f.1) = i by omega]
    obtain ⟨bq, oq, us, hq2, _, _, hus, hd⟩ := hr1.get hget
    have hus : us = encCh.enc (pageF s.lf.h s.lf.g q.lf f.1 i) := hus
    subst hus
    refine dr_ok ⟨_, _, _, bat BsV rfl, dr_ok ⟨_, bat BfV rfl, hq1 _ ⟨_, _, _, hc1, dr_ok ⟨_, bat BfV rfl, ?_⟩⟩⟩⟩
    rw [wrap_id (by omega), show (i : Int) - (f.1 : Int) = ((i - f.1 : Nat) : Int) by omega]
    refine hq2 _ ⟨_, hd 0 _ rfl, _, hd 1 _ rfl, ?_⟩
    refine ⟨?_, trivial⟩
    refine al_intro fun b45 w46 hb45 B450 e46 s46 => ⟨?_, trivial⟩
    refine stL_blk B450 (by simp [encCh]) (by intro v hv; simp only [List.mem_cons, List.not_mem_nil, or_false] at hv; rcases hv with rfl | rfl <;> rfl) fun w47 B45 y1 y2 y3 y4 y5 => ?_
    have c47 : Chg (fun k => k = b45) w46 w47 := ⟨y3, y4, y5, by omega, fun j _ hj => y1 j hj⟩
    have e47 : Ext V w47 := ext_chgS e46 c47 fun k hk => by omega
    generalize hpa : pageF s.lf.h s.lf.g q.lf f.1 i = pa at *
    have B45' : Blk w47 b45 [.int .i64 pa.1, .int .i64 pa.2] 110 := B45
    have z47 := e47.size
    have hj := hJ _ _ _ _ hj (.of_ext e47)
    have hc := hc.trans (.of_ext e47)
    have C22 := C22.ext e47
    have zc := hc.size
    have hpI : pgI s q f (q.lf.L.length + 1 - i) i = if pa.2 = 22 then [] else pgK s q f i pa (q.rt.L.length + 1 - f.2) f.2 ++ pgI s q f (q.lf.L.length + 1 - (i + 1)) (i + 1) := by
      rw [show q.lf.L.length + 1 - i = (q.lf.L.length + 1 - (i + 1)) + 1 by omega, pgI, hpa]
    rw [hpI] at hpre
    refine ⟨_, bat B45' rfl, br_split (fun g22 => ?_) (fun g22 => ?_)⟩
    · rw [if_pos g22] at hpre
      have : pre = filA q f (pagesF s q f) := by rw [← hpre]; simp [filA]
      rw [this] at hj
      exact hend S1 w47 (by omega) hj
    rw [if_neg g22] at hpre
    obtain ⟨hV47, Bs47, Bf47⟩ := rd hc
    refine dr_ok ⟨_, bat Bf47 rfl, ?_⟩
    refine ⟨fun k W m' => ∃ (k' : Nat) (S2 : Nat → Prop) (pre2 : List (Spot × Int)), k = k' ∧ f.2 ≤ k' ∧ k' ≤ q.rt.L.length + 1 ∧ m' = q.rt.L.length + 1 - k' ∧ (∀ t, f.2 ≤ t → t < k' → (pageF s.rt.h s.rt.g q.rt f.2 t).2 ≠ 22) ∧ J pre2 S2 W ∧ pre2 ++ filA q f (pgK s q f i pa (q.rt.L.length + 1 - k') k' ++ pgI s q f (q.lf.L.length + 1 - (i + 1)) (i + 1)) = filA q f (pagesF s q f) ∧
        Chg (fun k => S0 k ∨ w.heap.size ≤ k) w W ∧ (∀ k, S2 k → (S0 k ∨ w.heap.size ≤ k) ∧ k < W.heap.size) ∧ ¬ S2 b22 ∧ ¬ S2 b45 ∧ Blk W b22 [.int .i64 q.lf.L.length, .int .i64 q.rt.L.length] 79 ∧ Blk W b45 [.int .i64 pa.1, .int .i64 pa.2] 110,
      ⟨_, f.2, S1, pre, rfl, Nat.le_refl _, by omega, rfl, fun t h1 h2 => by omega, hj, hpre, hc, fun k hk => ⟨(hS1 k hk).1, by have := (hS1 k hk).2; omega⟩, n22, fun hh => by have := (hS1 _ hh).2; omega, C22, B45'⟩, ?_⟩
    have hno' : ∀ t, f.1 ≤ t → t < i + 1 → (pageF s.lf.h s.lf.g q.lf f.1 t).2 ≠ 22 := fun t h1 h2 => by
      by_cases e : t = i
      · rw [e, hpa]; exact g22
      · exact hno t h1 (by omega)
    rintro _ W3 m' ⟨k, S2, pre2, rfl, hk1, hk2, rfl, hno2, hj2, hpre2, hc2, hS2, n222, n45, C22, C45⟩ _
    have zW3 := hc2.size
    refine ⟨_, bat C22 rfl, br_split (fun hlt2 => ?_) (fun hge2 => ?_)⟩
    · have hkl : k ≤ q.rt.L.length := by omega
      refine al_stL (by simp) (by intro v hv; simp only [List.mem_cons, List.not_mem_nil, or_false] at hv; rcases hv with rfl | rfl <;> rfl) fun b57 w59 hb57 B57 e59 s59 => ?_
      have hj2 := hJ _ _ _ _ hj2 (.of_ext e59)
      have hc2 := hc2.trans (.of_ext e59)
      have C22 := C22.ext e59
      have C45 := C45.ext e59
      have z59 := e59.size
      obtain ⟨hV59, Bs59, Bf59⟩ := rd hc2
      have hpK : pgK s q f i pa (q.rt.L.length + 1 - k) k = if (i, k) = f then pgK s q f i pa (q.rt.L.length + 1 - (k + 1)) (k + 1) else if (pageF s.rt.h s.rt.g q.rt f.2 k).2 = 22 then [] else
          (if pa.2 = 0 ∧ (pageF s.rt.h s.rt.g q.rt f.2 k).2 = 0 then [((i, k), IntKind.i64.wrap (pa.1 + (pageF s.rt.h s.rt.g q.rt f.2 k).1))] else []) ++ pgK s q f i pa (q.rt.L.length + 1 - (k + 1)) (k + 1) := by
        rw [show q.rt.L.length + 1 - k = (q.rt.L.length + 1 - (k + 1)) + 1 by omega, pgK]
      rw [hpK] at hpre2
      refine ⟨_, bat B57 rfl, _, bat B57 rfl, dr_ok ⟨_, bat Bf59 rfl, _, bat Bf59 rfl, ?_⟩⟩
      have heq : (decide ((i : Int) = (f.1 : Int)) && (decide ((k : Int) = (f.2 : Int)) && true)) = decide ((i, k) = f) := by
        rw [Bool.and_true, ← Bool.decide_and]
        refine decide_eq_decide.2 ⟨fun hh => Prod.ext (by omega) (by omega), fun hh => ?_⟩
        rw [← hh]; exact ⟨rfl, rfl⟩
      rw [heq]
      refine br_split (fun geq => ?_) (fun geq => ?_)
      · rw [if_pos geq] at hpre2
        refine ⟨q.rt.L.length + 1 - (k + 1), by omega, k + 1, S2, pre2, by rw [wrap_nat (by omega)], by omega, by omega, rfl, fun t h1 h2 => ?_, hj2, hpre2, hc2, fun j hj' => ⟨(hS2 j hj').1, by have := (hS2 j hj').2; omega⟩, n222, n45, C22, C45⟩
        by_cases e : t = k
        · rw [e]
          have hk : k = f.2 := (congrArg Prod.snd geq)
          rw [hk]
          unfold pageF
          rw [if_pos rfl]; decide
        · exact hno2 t h1 (by omega)
      rw [if_neg geq] at hpre2
      try unfold drw
      have ed := ext_drew w59
      have hc2 := hc2.trans (.of_ext ed)
      have hj2 := hJ _ _ _ _ hj2 (.of_ext ed)
      have C22 := C22.ext ed
      have C45 := C45.ext ed
      have B57 := B57.ext ed
      have zD := ed.size
      generalize w59.drew = V6 at *
      obtain ⟨hV6, Bs6, Bf6⟩ := rd hc2
      have hrow2 : f.2 < ((List.range (q.rt.L.length + 1)).map (rowP s.rt.h s.rt.g q.rt)).length := by simp; omega
      obtain ⟨b14, o14, a16, c16, hq3, _, _, hc3, hcl3, hr3⟩ := hV6.r.getS (List.getElem?_eq_getElem hrow2)
      rw [List.getElem_map, List.getElem_range] at hc3 hr3 hcl3
      have hget2 : (rowP s.rt.h s.rt.g q.rt f.2)[k - f.2]? = some (pageF s.rt.h s.rt.g q.rt f.2 k) := by
        unfold rowP
        rw [prG_get (by omega) (fun t ht => hno2 _ (by omega) (by omega)), show f.2 + (k - f.2) = k by omega]
      obtain ⟨bq2, oq2, us2, hq4, _, _, hus2, hd2⟩ := hr3.get hget2
      have hus2 : us2 = encCh.enc (pageF s.rt.h s.rt.g q.rt f.2 k) := hus2
      subst hus2
      refine dr_ok ⟨_, _, _, bat Bs6 rfl, dr_ok ⟨_, bat Bf6 rfl, hq3 _ ⟨_, _, _, hc3, dr_ok ⟨_, bat Bf6 rfl, ?_⟩⟩⟩⟩
      rw [wrap_id (by omega), show (k : Int) - (f.2 : Int) = ((k - f.2 : Nat) : Int) by omega]
      refine hq4 _ ⟨_, hd2 0 _ rfl, _, hd2 1 _ rfl, ?_⟩
      refine ⟨?_, trivial⟩
      refine al_intro fun b78 w79 hb78 B780 e79 s79 => ⟨?_, trivial⟩
      refine stL_blk B780 (by simp [encCh]) (by intro v hv; simp only [List.mem_cons, List.not_mem_nil, or_false] at hv; rcases hv with rfl | rfl <;> rfl) fun w80 B78 y1 y2 y3 y4 y5 => ?_
      have c80 : Chg (fun k => k = b78) w79 w80 := ⟨y3, y4, y5, by omega, fun j _ hj => y1 j hj⟩
      have e80 : Ext V6 w80 := ext_chgS e79 c80 fun k hk => by omega
      generalize hpb : pageF s.rt.h s.rt.g q.rt f.2 k = pb at *
      have B78' : Blk w80 b78 [.int .i64 pb.1, .int .i64 pb.2] 110 := B78
      have hj2 := hJ _ _ _ _ hj2 (.of_ext e80)
      have hc2 := hc2.trans (.of_ext e80)
      have C22 := C22.ext e80
      have C45 := C45.ext e80
      have B57 := B57.ext e80
      have z80 := e80.size
      obtain ⟨hV80, Bs80, Bf80⟩ := rd hc2
      have hS80 : ∀ j, S2 j → (S0 j ∨ w.heap.size ≤ j) ∧ j < w80.heap.size := fun j hj' => ⟨(hS2 j hj').1, by have := (hS2 j hj').2; omega⟩
      refine ⟨_, bat B78' rfl, br_split (fun gb => ?_) (fun gb => ?_)⟩
      · rw [if_pos gb] at hpre2
        exact ⟨q.lf.L.length + 1 - (i + 1), by omega, i + 1, S2, pre2, by rw [wrap_nat (by omega)], by omega, by omega, rfl, hno', hj2, hpre2, hc2, hS80, n222, C22⟩
      rw [if_neg gb] at hpre2
      have hno3 : ∀ t, f.2 ≤ t → t < k + 1 → (pageF s.rt.h s.rt.g q.rt f.2 t).2 ≠ 22 := fun t h1 h2 => by
        by_cases e : t = k
        · rw [e, hpb]; exact gb
        · exact hno2 t h1 (by omega)
      have skip : ∀ V, Ext w80 V → pre2 ++ filA q f (pgK s q f i pa (q.rt.L.length + 1 - (k + 1)) (k + 1) ++ pgI s q f (q.lf.L.length + 1 - (i + 1)) (i + 1)) = filA q f (pagesF s q f) →
          ∃ m115 : Nat, m115 < q.rt.L.length + 1 - k ∧ ∃ (k' : Nat) (S2 : Nat → Prop) (pre2 : List (Spot × Int)), IntKind.i64.wrap ((k : Int) + 1) = k' ∧ f.2 ≤ k' ∧ k' ≤ q.rt.L.length + 1 ∧ m115 = q.rt.L.length + 1 - k' ∧ (∀ t, f.2 ≤ t → t < k' → (pageF s.rt.h s.rt.g q.rt f.2 t).2 ≠ 22) ∧ J pre2 S2 V ∧ pre2 ++ filA q f (pgK s q f i pa (q.rt.L.length + 1 - k') k' ++ pgI s q f (q.lf.L.length + 1 - (i + 1)) (i + 1)) = filA q f (pagesF s q f) ∧
        Chg (fun k => S0 k ∨ w.heap.size ≤ k) w V ∧ (∀ k, S2 k → (S0 k ∨ w.heap.size ≤ k) ∧ k < V.heap.size) ∧ ¬ S2 b22 ∧ ¬ S2 b45 ∧ Blk V b22 [.int .i64 q.lf.L.length, .int .i64 q.rt.L.length] 79 ∧ Blk V b45 [.int .i64 pa.1, .int .i64 pa.2] 110 := fun V eV hp2 =>
        ⟨q.rt.L.length + 1 - (k + 1), by omega, k + 1, S2, pre2, by rw [wrap_nat (by omega)], by omega, by omega, rfl, hno3, hJ _ _ _ _ hj2 (.of_ext eV), hp2, hc2.trans (.of_ext eV), fun j hj' => ⟨(hS80 j hj').1, by have := (hS80 j hj').2; have := eV.size; omega⟩, n222, n45, C22.ext eV, C45.ext eV⟩
      refine ⟨_, bat C45 rfl, br_split (fun ga0 => ?_) (fun ga0 => ?_)⟩
      · refine ⟨_, bat B78' rfl, br_split (fun gb0 => ?_) (fun gb0 => ?_)⟩
        · rw [if_pos ⟨ga0, gb0⟩] at hpre2
          refine dr_ok ⟨_, _, _, bat Bs80 rfl, _, _, _, bat Bs80 rfl, _, _, _, bat Bs80 rfl, _, bat Bs80 rfl, _, bat Bs80 rfl, _, _, _, bat Bs80 rfl, _, _, _, bat Bs80 rfl, _, _, _, bat Bs80 rfl, _, bat Bs80 rfl, _, bat Bs80 rfl, _, _, _, bat Bs80 rfl, _, _, _, bat Bs80 rfl, _, _, _, bat Bs80 rfl, ?_⟩
          refine dr_ok ⟨_, bat Bf80 rfl, _, bat Bf80 rfl, _, bat B57 rfl, _, bat B57 rfl, ?_⟩
          refine anchored_spec (s := s) (q := q) hV80.an hok.an hok.anl fun w105 e105 => ⟨_, rfl, br_cases (fun gc => ?_) (fun gc => ?_)⟩
          · have hj3 := hJ _ _ _ _ hj2 (.of_ext e105)
            have hc3' := hc2.trans (.of_ext e105)
            have B57' := B57.ext e105
            have z105 := e105.size
            refine ⟨_, bat B57' rfl, _, bat B57' rfl, _, bat (C45.ext e105) rfl, _, bat (B78'.ext e105) rfl, ?_⟩
            have hcons : filA q f ([((i, k), IntKind.i64.wrap (pa.1 + pb.1))] ++ pgK s q f i pa (q.rt.L.length + 1 - (k + 1)) (k + 1) ++ pgI s q f (q.lf.L.length + 1 - (i + 1)) (i + 1)) =
                [((i, k), IntKind.i64.wrap (pa.1 + pb.1))] ++ filA q f (pgK s q f i pa (q.rt.L.length + 1 - (k + 1)) (k + 1) ++ pgI s q f (q.lf.L.length + 1 - (i + 1)) (i + 1)) := by
              unfold filA
              rw [List.append_assoc, List.filter_append, List.filter_cons, if_pos (by exact gc)]; rfl
            rw [hcons, ← List.append_assoc] at hpre2
            refine CallV_mono (hbody pre2 ((i, k), IntKind.i64.wrap (pa.1 + pb.1)) _ S2 w105 rfl ⟨_, hpre2⟩ (by omega) (fun j hj' => ⟨by have := (hS80 j hj').2; omega, fun hh => ?_⟩) hj3) ?_
            · rcases (hS80 j hj').1 with h1 | h1
              · exact (hS0 _ h1).2 hh
              · rcases hh with hh | hh | hh <;> omega
            · rintro e112 w112 ⟨hcb, S', hS', hres⟩
              have zb := hcb.size
              have hc4 : Chg (fun k => S0 k ∨ w.heap.size ≤ k) w w112 := hc3'.trans (hcb.mono fun j _ hj' => (hS80 j hj').1)
              rcases hres with ⟨rfl, hjn⟩ | ⟨rfl, hjx⟩
              · refine ⟨_, rfl, ?_⟩
                refine ⟨q.rt.L.length + 1 - (k + 1), by omega, k + 1, S', _, by rw [wrap_nat (by omega)], by omega, by omega, rfl, hno3, hjn, hpre2, hc4, fun j hj' => ⟨?_, (hS' j hj').2⟩, fun hh => ?_, fun hh => ?_, hcb.blk (C22.ext e105) n222, hcb.blk (C45.ext e105) n45⟩
                · rcases (hS' j hj').1 with h1 | h1
                  · exact (hS80 j h1).1
                  · exact .inr (by omega)
                · rcases (hS' _ hh).1 with h1 | h1
                  · exact n222 h1
                  · have := (C22.ext e105).lt; omega
                · rcases (hS' _ hh).1 with h1 | h1
                  · exact n45 h1
                  · have := (C45.ext e105).lt; omega
              · exact ⟨_, rfl, hstop S' w112 (by omega) hjx⟩
          · refine skip w105 e105 ?_
            have hcons : filA q f ([((i, k), IntKind.i64.wrap (pa.1 + pb.1))] ++ pgK s q f i pa (q.rt.L.length + 1 - (k + 1)) (k + 1) ++ pgI s q f (q.lf.L.length + 1 - (i + 1)) (i + 1)) =
                filA q f (pgK s q f i pa (q.rt.L.length + 1 - (k + 1)) (k + 1) ++ pgI s q f (q.lf.L.length + 1 - (i + 1)) (i + 1)) := by
              unfold filA
              rw [List.append_assoc, List.filter_append, List.filter_cons, if_neg (by show ¬ ancA (spots q.A) f (i, k) = true; rw [show ancA (spots q.A) f (i, k) = false from gc]; simp)]; rfl
            rw [hcons] at hpre2; exact hpre2
        · rw [if_neg (fun hh => gb0 hh.2)] at hpre2
          exact skip w80 (Below.refl _ _) hpre2
      · rw [if_neg (fun hh => ga0 hh.1)] at hpre2
        exact skip w80 (Below.refl _ _) hpre2
    · have hke : k = q.rt.L.length + 1 := by omega
      rw [hke, Nat.sub_self, pgK, List.nil_append] at hpre2
      exact ⟨q.lf.L.length + 1 - (i + 1), by omega, i + 1, S2, pre2, by rw [wrap_nat (by omega)], by omega, by omega, rfl, hno', hj2, hpre2, hc2, hS2, n222, C22⟩
  · have hie : i = q.lf.L.length + 1 := by omega
    have : pre = filA q f (pagesF s q f) := by
      rw [← hpre, hie, Nat.sub_self, pgI]; simp [filA]
    rw [this] at hj
    exact hend S1 W zW hj
end Go.Proofs
