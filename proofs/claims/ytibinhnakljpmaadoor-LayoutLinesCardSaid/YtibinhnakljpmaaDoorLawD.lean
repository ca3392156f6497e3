/- The contracts of the functions that the law reaches, one after the other, and at the end the law's card. -/
import Derived.Test.YtibinhnakljpmaaDoorLawC
namespace Go.Proofs
open Go Go.Sh Go.RowKit

def hle (a : Int) : Fo → Prop
  | .nil => True
  | .cons k _ n ps r => ((k = 8 ∨ k = 9) → n ≤ a) ∧ hle a ps ∧ hle a r
theorem hle_nodes (a : Int) : ∀ {f : Fo}, (∀ x ∈ nodesF f, (x.k = 8 ∨ x.k = 9) → x.n ≤ a) → hle a f
  | .nil, _ => trivial
  | .cons k t n ps r, h => by
    simp only [nodesF, List.mem_cons, List.mem_append] at h
    exact ⟨h ⟨k, t, n, ps⟩ (.inl rfl), hle_nodes a fun x hx => h x (.inr (.inl hx)), hle_nodes a fun x hx => h x (.inr (.inr hx))⟩
theorem most_ge : ∀ (l : List Nn) (m : Int), m ≤ l.foldl (fun m (x : Nn) => if x.k = 8 ∨ x.k = 9 then max m x.n else m) m ∧ ∀ x ∈ l, (x.k = 8 ∨ x.k = 9) → x.n ≤ l.foldl (fun m (x : Nn) => if x.k = 8 ∨ x.k = 9 then max m x.n else m) m
  | [], m => ⟨Int.le_refl _, fun x hx => by simp at hx⟩
  | y :: l, m => by
    simp only [List.foldl_cons, List.mem_cons]
    obtain ⟨h1, h2⟩ := most_ge l (if y.k = 8 ∨ y.k = 9 then max m y.n else m)
    refine ⟨Int.le_trans ?_ h1, ?_⟩
    · split <;> omega
    · rintro x (rfl | hx) hk
      · rw [if_pos hk] at h1 ⊢; omega
      · exact h2 x hx hk
theorem most_le (b : Int) : ∀ (l : List Nn) (m : Int), m ≤ b → (∀ x ∈ l, (x.k = 8 ∨ x.k = 9) → x.n ≤ b) → l.foldl (fun m (x : Nn) => if x.k = 8 ∨ x.k = 9 then max m x.n else m) m ≤ b
  | [], m, h, _ => h
  | y :: l, m, h, hl => by
    simp only [List.foldl_cons]
    refine most_le b l _ ?_ fun x hx => hl x (by simp [hx])
    split
    · rename_i hk; have := hl y (by simp) hk; omega
    · exact h
theorem hle_most (f : Fo) : hle (mostN (nodesF f)) f := hle_nodes _ fun x hx hk => (most_ge (nodesF f) 0).2 x hx hk
theorem hands_nodes : ∀ {w : Bool} {f : Fo}, okF w f → ∀ x ∈ nodesF f, (x.k = 8 ∨ x.k = 9) → 1 ≤ x.n ∧ x.n ≤ 8
  | _, .nil, _, x, hx, _ => by simp [nodesF] at hx
  | w, .cons k t n ps r, ⟨h1, h2, h3⟩, x, hx, hk => by
    simp only [nodesF, List.mem_cons, List.mem_append] at hx
    rcases hx with rfl | hx | hx
    · simp only at hk ⊢
      unfold singleF at h1
      split at h1
      · cases h1
      split at h1
      · cases h1
      rw [if_neg (by omega), if_neg (by omega), if_neg (by omega), if_neg (by omega)] at h1
      try rw [if_pos hk] at h1
      split at h1
      · cases h1
      · omega
    · exact hands_nodes h2 x hx hk
    · exact hands_nodes h3 x hx hk
theorem FineF.most {f : Fo} (h : FineF f) : 0 ≤ mostN (nodesF f) ∧ mostN (nodesF f) ≤ 8 :=
  ⟨(most_ge (nodesF f) 0).1, most_le 8 _ 0 (by decide) fun x hx hk => (hands_nodes h.ok x hx hk).2⟩
theorem resolve_hle (a b : Int) (p q : Bool) : ∀ {f : Fo}, hle a f → hle b f → resolveF f a p = resolveF f b q
  | .nil, _, _ => rfl
  | .cons k t n ps r, ⟨h1, h2, h3⟩, ⟨g1, g2, g3⟩ => by
    simp only [resolveF, resolve_hle a b p q h2 g2, resolve_hle a b p q h3 g3]
    by_cases k9 : k = 9
    · rw [if_pos ⟨k9, h1 (.inr k9)⟩, if_pos ⟨k9, g1 (.inr k9)⟩]
    · by_cases k8 : k = 8
      · rw [if_neg (fun h => k9 h.1), if_pos ⟨k8, h1 (.inl k8)⟩, if_neg (fun h => k9 h.1), if_pos ⟨k8, g1 (.inl k8)⟩]
      · simp only [k8, k9, false_and, false_or, if_false]
theorem hle_mono {a b : Int} (h : a ≤ b) : ∀ {f : Fo}, hle a f → hle b f
  | .nil, _ => trivial
  | .cons k t n ps r, ⟨h1, h2, h3⟩ => ⟨fun hk => by have := h1 hk; omega, hle_mono h h2, hle_mono h h3⟩
theorem clean_most {f : Fo} (h : FineF f) : clean f ↔ mostN (nodesF f) = 0 := by
  refine ⟨most_clean, fun h0 => ?_⟩
  rw [clean_any, Bool.eq_false_iff]
  intro ha
  obtain ⟨x, hx, hk⟩ := List.any_eq_true.1 ha
  have hk : x.k = 8 ∨ x.k = 9 := by simpa [corrN] using hk
  have h1 := (most_ge (nodesF f) 0).2 x hx hk
  have h2 := (hands_nodes h.ok x hx hk).1
  have : mostN (nodesF f) = (nodesF f).foldl (fun m (x : Nn) => if x.k = 8 ∨ x.k = 9 then max m x.n else m) 0 := rfl
  omega
theorem handsTo_most {f : Fo} (most : Nat) (hm : mostN (nodesF f) = most) : ∀ d : Nat, handsTo f (most + d) = handsTo f most
  | 0 => rfl
  | d + 1 => by
    rw [show most + (d + 1) = (most + d) + 1 by omega, handsTo_succ, handsTo_most most hm d, if_neg, List.append_nil]
    intro h
    apply h
    unfold stF
    have h0 := hle_most f
    rw [hm] at h0
    rw [resolve_hle ((most + d : Nat) : Int) (((most + d : Nat) : Int) + 1) false false (hle_mono (by omega) h0) (hle_mono (by omega) h0)]

theorem EqualI_spec {R : Ending → World → Prop} {w : World} {B B' : Nat} {a b : Option Addr} {n c n' c' : Nat} {l l' : List Int} (h1 : Owns w B 3 1 a n c (intV l)) (h2 : Owns w B' 3 1 b n' c' (intV l')) (hs : n ≤ 4611686018427387904)
    (h : ∀ w', Ext w w' → R (.returned (.bool (decide (l = l')))) w') : Calls Tryd.prog F_slices_Equal_of_int_int ⟨[.slice a n c, .slice b n' c']⟩ w R := by
  apply c_slices_Equal_of_int_int
  have e1 : l.length = n := by have := h1.1; simpa using this
  have e2 : l'.length = n' := by have := h2.1; simpa using this
  refine br_split (fun g => ?_) (fun g => ?_)
  · rw [show decide (l = l') = false by rw [decide_eq_false_iff_not]; rintro rfl; omega] at h
    exact h _ (Below.refl _ _)
  refine ⟨fun i W m => ∃ k : Nat, i = k ∧ k ≤ n ∧ m = n - k ∧ l.take k = l'.take k ∧ Ext w W, ⟨_, 0, rfl, by omega, rfl, rfl, Below.refl _ _⟩, ?_⟩
  rintro _ W m ⟨k, rfl, hk, rfl, ht, he⟩ _
  have hd := ext_trans he (ext_drew W)
  refine br_split (fun hlt => ?_) (fun hge => ?_)
  · unfold drw
    have k1 : k < l.length := by omega
    have k2 : k < l'.length := by omega
    refine owns_int (h1.ext hd) k1 _ fun p hp => ⟨_, hp, owns_int (h2.ext hd) k2 _ fun q hq => ⟨_, hq, br_split (fun g => ?_) (fun g => ?_)⟩⟩
    · rw [show decide (l = l') = false by rw [decide_eq_false_iff_not]; rintro rfl; exact g rfl] at h
      exact h _ hd
    · refine ⟨n - (k + 1), by omega, k + 1, by rw [wrap_nat (by omega)], by omega, rfl, ?_, hd⟩
      rw [List.take_succ_eq_append_getElem k1, List.take_succ_eq_append_getElem k2, ht, Decidable.not_not.1 g]
  · have hkn : k = n := by omega
    subst hkn
    rw [List.take_of_length_le (by omega), List.take_of_length_le (by omega)] at ht
    rw [decide_eq_true ht] at h
    exact h _ he

end Go.Proofs
namespace Go.Proofs
open Go Go.Sh Go.RowKit

def longF : Fo → Nat → Bool
  | .nil, _ => false
  | .cons _ t _ ps r, d => decide (d = 0) || (decide (60 < t.length ∧ t.length ≤ 65536) || (decide (65540 < t.length) || (longF ps (d - 1) || longF r d)))

theorem long_spec {S : Nat → Prop} : ∀ (f : Fo) {R : Ending → World → Prop} {w : World} {a : Option Addr} {n c : Nat} (d : Nat) (hd : d ≤ 20) (hs : small f) (hf : SlF S w a n f)
    (h : ∀ w', Ext w w' → R (.returned (.bool (longF f d))) w'), Calls Tryd.prog F_ref10_long ⟨[.slice a n c, .int .i64 (d : Int)]⟩ w R := by
  intro f
  induction hz : f.size using Nat.strongRecOn generalizing f with
  | _ z ih =>
  intro R w a n c d hd hs hf h
  unfold small at hs
  apply c_ref10_long
  have hn := hf.1
  have hfl := f.len_le_size
  refine ⟨fun i W m => ∃ (pre r : Fo), f = pre.app r ∧ i = pre.len ∧ m = r.len ∧ Ext w W ∧ longF f d = longF r d, ⟨_, .nil, f, rfl, rfl, rfl, Below.refl _ _, rfl⟩, ?_⟩
  rintro _ W m ⟨pre, r, hpr, rfl, rfl, he, heq⟩ _
  refine br_split (fun hlt => ?_) (fun hge => ?_)
  · obtain ⟨kd, t, mm, ps, r, rfl⟩ := Fo.next hpr (by omega)
    have hsl := Fo.sub_len hpr
    have hsz := Fo.sub_size hpr
    obtain ⟨q, a', c', hq, hSq, hql, hN⟩ := (hf.ext he).get hpr
    rw [longF] at heq
    have tr : (longF f d = true) → R (.returned (.bool true)) W := fun e => by rw [e] at h; exact h _ he
    refine hq _ ⟨t, hN.text, br_split (fun h1 => ?_) (fun h1 => ?_)⟩
    · exact tr (by rw [heq, decide_eq_true (by omega)]; rfl)
    rw [decide_eq_false (p := d = 0) (by omega), Bool.false_or] at heq
    refine br_split (fun h2 => br_split (fun h3 => tr (by rw [heq, decide_eq_true (by omega)]; rfl)) (fun h3 => br_split (fun h4 => tr (by rw [heq, decide_eq_true (p := 65540 < t.length) (by omega)]; simp)) (fun h4 => ?_)))
      (fun h2 => br_split (fun h4 => tr (by rw [heq, decide_eq_true (p := 65540 < t.length) (by omega)]; simp)) (fun h4 => ?_))
    all_goals
      rw [decide_eq_false (p := 60 < t.length ∧ t.length ≤ 65536) (by omega), decide_eq_false (p := 65540 < t.length) (by omega), Bool.false_or, Bool.false_or] at heq
      refine hq _ ⟨a', ps.len, c', hN.parts, ?_⟩
      rw [show IntKind.i64.wrap ((d : Int) - 1) = ((d - 1 : Nat) : Int) by rw [wrap_id (by omega)]; omega]
      refine ih _ (hz ▸ hsz) ps rfl (d - 1) (by omega) (by unfold small; omega) hN.sl fun w' he' => ⟨_, rfl, br_cases (fun g => ?_) (fun g => ?_)⟩
      · rw [heq, g] at h; exact h _ (ext_trans he he')
      · exact ⟨r.len, by simp, pre.app (.one kd t mm ps), r, by rw [Fo.app_one_app]; exact hpr, by rw [wrap_nat (by omega)]; simp [Fo.one], rfl, ext_trans he he', by rw [heq, g]; rfl⟩
  · obtain ⟨rfl, rfl⟩ := Fo.last hpr (by omega)
    have := h _ he
    rw [heq] at this
    exact this

def great10 (f : Fo) : Bool :=
  if f.len ≤ 4096 ∨ 4100 < f.len then !decide (f.size ≤ 40 ∧ f.depth ≤ 20) || longF f 20 else decide (f.len < f.size) || longF f 20

theorem great10_small {f : Fo} (h : great10 f = false) : small f := by
  unfold small great10 at *
  split at h
  · rw [Bool.or_eq_false_iff] at h
    have := h.1
    simp at this
    omega
  · rw [Bool.or_eq_false_iff] at h
    have := h.1
    simp at this
    omega
theorem Great_spec {R : Ending → World → Prop} {S : Nat → Prop} {w : World} {a : Option Addr} {n c : Nat} {f : Fo} (hf : SlF S w a n f) (h : ∀ w', Ext w w' → R (.returned (.bool (great10 f))) w') :
    Calls Tryd.prog F_ref10_Great ⟨[.slice a n c]⟩ w R := by
  apply c_ref10_Great
  have hn := hf.1
  intro K hK
  have k : ∀ g, g = decide (n ≤ 4096 ∨ 4100 < n) → K g w := by
    rintro _ rfl
    refine hK _ _ fun _ => br_split (fun g => ?_) (fun g => ?_)
    · refine size10_spec f 20 40 (by omega) (by omega) hf fun w1 e1 => ?_
      unfold great10 at h
      rw [if_pos (by omega)] at h
      unfold szF
      split
      · rename_i hh
        rw [decide_eq_true hh] at h
        refine ⟨_, _, _, rfl, ?_⟩
        refine long_spec f 20 (by omega) (by unfold small; omega) (hf.ext e1) fun w2 e2 => ⟨_, rfl, h _ (ext_trans e1 e2)⟩
      · rename_i hh
        rw [decide_eq_false hh] at h
        exact ⟨_, _, _, rfl, h _ e1⟩
    · unfold great10 at h
      rw [if_neg (by omega)] at h
      refine ⟨fun i W m => ∃ (pre r : Fo), f = pre.app r ∧ i = pre.len ∧ m = r.len ∧ Ext w W ∧ pre.size = pre.len, ⟨_, .nil, f, rfl, rfl, rfl, Below.refl _ _, rfl⟩, ?_⟩
      rintro _ W m ⟨pre, r, hpr, rfl, rfl, he, heq⟩ _
      refine br_split (fun hlt => ?_) (fun hge => ?_)
      · obtain ⟨kd, t, mm, ps, r, rfl⟩ := Fo.next hpr (by omega)
        have hsl := Fo.sub_len hpr
        obtain ⟨q, a', c', hq, hSq, hql, hN⟩ := (hf.ext he).get hpr
        refine hq _ ⟨a', ps.len, c', hN.parts, br_split (fun g1 => ?_) (fun g1 => ?_)⟩
        · have e : f.len < f.size := by
            have h1 := congrArg Fo.size hpr
            have h2 := congrArg Fo.len hpr
            have h3 := r.len_le_size
            have h4 := ps.len_le_size
            rw [Fo.size_app] at h1
            simp only [Fo.len_app, Fo.len_cons, Fo.size] at h1 h2
            omega
          rw [decide_eq_true e] at h
          exact h _ he
        · have hp0 : ps = .nil := Fo.eq_nil_of_len (by omega)
          subst hp0
          exact ⟨r.len, by simp, pre.app (.one kd t mm .nil), r, by rw [Fo.app_one_app]; exact hpr, by rw [wrap_nat (by omega)]; simp [Fo.one], rfl, he, by rw [Fo.size_app]; simp [Fo.one, Fo.size, heq]⟩
      · obtain ⟨rfl, rfl⟩ := Fo.last hpr (by omega)
        rw [decide_eq_false (by omega)] at h
        refine long_spec _ 20 (by omega) (by unfold small; rw [heq]; omega) (hf.ext he) fun w2 e2 => ⟨_, rfl, h _ (ext_trans he e2)⟩
  exact br_split (fun g => k _ (by rw [decide_eq_true (by omega)])) (fun g => k _ (by rw [decide_eq_decide]; omega))
end Go.Proofs
namespace Go.Proofs
open Go Go.Sh Go.RowKit

/- the nodes of a list in order, with whether they are within unclear ones -/
def nodesU : Fo → Bool → List (Nn × Bool)
  | .nil, _ => []
  | .cons k t n ps r, u => (⟨k, t, n, ps⟩, u) :: (nodesU ps (u || decide (k = 7)) ++ nodesU r u)
theorem nodesU_len : ∀ (f : Fo) (u : Bool), (nodesU f u).length = f.size
  | .nil, _ => rfl
  | .cons k t n ps r, u => by simp only [nodesU, List.length_cons, List.length_append, nodesU_len ps, nodesU_len r, Fo.size]
theorem nodesU_fst : ∀ (f : Fo) (u : Bool), (nodesU f u).map (·.1) = nodesF f
  | .nil, _ => rfl
  | .cons k t n ps r, u => by simp only [nodesU, nodesF, List.map_cons, List.map_append, nodesU_fst ps, nodesU_fst r]
def NuE (T : Nat → Prop) (w0 : World) (x : Nn × Bool) (vs : List Value) : Prop :=
  ∃ a c, vs = [.agg ⟨[.int .i64 x.1.k, .string ⟨⟨x.1.t⟩⟩, .int .i64 x.1.n, .slice a x.1.ps.len c]⟩, .bool x.2] ∧ SlF T w0 a x.1.ps.len x.1.ps

theorem all_walkO {yf : Fn} {ya yb : Array Value} {T : Nat → Prop} {J : List (Nn × Bool) → (Nat → Prop) → World → Prop} {Jx : (Nat → Prop) → World → Prop} {w0 : World} {xs : List (Nn × Bool)} {ty tw : Nat}
    (hTl : ∀ k, T k → k < w0.heap.size)
    (hJ : ∀ pre S W W', J pre S W → Chg (fun k => w0.heap.size ≤ k ∧ ¬ S k) W W' → J pre S W')
    (hbody : ∀ pre x vs S W, NuE T w0 x vs → pre ++ [x] <+: xs → w0.heap.size ≤ W.heap.size → (∀ k, S k → k < W.heap.size ∧ ¬ T k) → J pre S W → CallV Tryd.prog (.func yf ya yb) vs W fun e W' => Chg S W W' ∧
      ∃ S' : Nat → Prop, (∀ k, S' k → (S k ∨ W.heap.size ≤ k) ∧ k < W'.heap.size) ∧ ((e = .returned (.bool true) ∧ J (pre ++ [x]) S' W') ∨ (e = .returned (.bool false) ∧ Jx S' W'))) :
    ∀ (f : Fo) {R : Ending → World → Prop} {S : Nat → Prop} {w : World} {a : Option Addr} {n c : Nat} (u : Bool) (pre : List (Nn × Bool)), small f → SlF T w0 a n f → w0.heap.size ≤ w.heap.size → (∀ k, T k → w.heap[k]? = w0.heap[k]?) → (∀ k, S k → k < w.heap.size ∧ ¬ T k) →
      Blk w ty [.func yf ya yb] 114 → Blk w tw [.func (.func 78) ⟨[]⟩ ⟨[.pointer (some ⟨ty, 0, none⟩), .pointer (some ⟨tw, 0, none⟩)]⟩] 115 → ¬ S ty → ¬ S tw →
      pre ++ nodesU f u <+: xs → J pre S w → (∀ S' W', Chg S w W' → (∀ k, S' k → (S k ∨ w.heap.size ≤ k) ∧ k < W'.heap.size) → J (pre ++ nodesU f u) S' W' → R (.returned (.bool true)) W') →
      (∀ S' W', Chg S w W' → (∀ k, S' k → (S k ∨ w.heap.size ≤ k) ∧ k < W'.heap.size) → Jx S' W' → R (.returned (.bool false)) W') →
      Calls Tryd.prog F_legibility_all_1_1 ⟨[.slice a n c, .bool u, .pointer (some ⟨ty, 0, none⟩), .pointer (some ⟨tw, 0, none⟩)]⟩ w R := by
  intro f
  induction hz : f.size using Nat.strongRecOn generalizing f with
  | _ z ih =>
  intro R S w a n c u pre hs hf hw0 hT hS hBy hBw nSy nSw hpre hj hend hstop
  unfold small at hs
  apply c_legibility_all_1_1
  have hn := hf.1
  have hfl := f.len_le_size
  have lty := hBy.lt
  have ltw := hBw.lt
  refine ⟨fun i W m => ∃ (p r : Fo) (ps : List (Nn × Bool)) (S1 : Nat → Prop), f = p.app r ∧ i = p.len ∧ m = r.len ∧ Chg S w W ∧ (∀ k, S1 k → (S k ∨ w.heap.size ≤ k) ∧ k < W.heap.size) ∧ J ps S1 W ∧ pre ++ nodesU f u = ps ++ nodesU r u,
    ⟨_, .nil, f, pre, S, rfl, rfl, rfl, Chg.refl _ _, fun k hk => ⟨.inl hk, (hS k hk).1⟩, hj, rfl⟩, ?_⟩
  rintro _ W m ⟨p, r, xs', S1, hpr, rfl, rfl, hcW, hS1, hjW, heq⟩ _
  have hwW := hcW.size
  refine br_split (fun hlt => ?_) (fun hge => ?_)
  · obtain ⟨k, t, mm, ps, r, rfl⟩ := Fo.next hpr (by omega)
    have hsl := Fo.sub_len hpr
    have hsz := Fo.sub_size hpr
    have e1 : f = (p.app (.one k t mm ps)).app r := by rw [Fo.app_one_app]; exact hpr
    have i1 : IntKind.i64.wrap ((p.len : Int) + 1) = ((p.app (.one k t mm ps)).len : Int) := by rw [wrap_nat (by omega)]; simp [Fo.one]
    have hTW : ∀ k, T k → W.heap[k]? = w0.heap[k]? := fun k hk => (hcW.block k (by have := hTl k hk; omega) (fun h => (hS k h).2 hk)).trans (hT k hk)
    obtain ⟨q, a', c', hq, hTq, hql, hN⟩ := (hf.keep (S' := T) (w' := W) (fun k hk _ => ⟨hk, hTW k hk⟩) (by omega)).get hpr
    have hNT : SlF T w0 a' ps.len ps := hN.sl.keep' fun k hk _ => ⟨hk, hTl k hk, (hTW k hk).symm⟩
    refine hq _ ⟨k, hN.kind, t, hN.text, mm, hN.num, a', ps.len, c', hN.parts, ?_⟩
    refine al_stL (by simp) (by intro u hu; simp only [List.mem_cons, List.not_mem_nil, or_false] at hu; rcases hu with rfl | rfl | rfl | rfl <;> rfl) fun bx w1 hbx hBx e2 s2 => ?_
    have z2 := e2.size
    obtain ⟨x0, x1, x2, x3⟩ := blk4 hBx
    have hBy1 := (hcW.blk hBy nSy).ext e2
    have hBw1 := (hcW.blk hBw nSw).ext e2
    have n1y : ¬ S1 ty := fun h => (hS1 _ h).1.elim nSy (by omega)
    have n1w : ¬ S1 tw := fun h => (hS1 _ h).1.elim nSw (by omega)
    have n1x : ¬ S1 bx := fun h => by have := (hS1 _ h).2; omega
    refine dr_ok ⟨_, _, _, by rw [hBy1.cell]; rfl, k, x0, t, x1, mm, x2, a', ps.len, c', x3, ?_⟩
    have hj1 : J xs' S1 w1 := hJ _ _ _ _ hjW (Chg.of_ext e2)
    rw [nodesU] at heq
    have hpx : xs' ++ [(⟨k, t, mm, ps⟩, u)] <+: xs := by
      refine List.IsPrefix.trans ?_ hpre
      rw [heq]
      exact ⟨_, by rw [List.append_assoc]; rfl⟩
    have hS1T : ∀ k, S1 k → k < w1.heap.size ∧ ¬ T k := fun j hj => ⟨by have := (hS1 j hj).2; omega, fun ht => (hS1 j hj).1.elim (fun h => (hS j h).2 ht) (fun h => by have := hTl j ht; omega)⟩
    refine CallV_mono (hbody xs' (⟨k, t, mm, ps⟩, u) _ S1 w1 ⟨a', c', rfl, hNT⟩ hpx (by omega) hS1T hj1) ?_
    rintro e w2 ⟨hc2, S2, hS2, hres⟩
    have z3 := hc2.size
    have hcw2 : Chg S w w2 := chg_then (hcW.trans (Chg.of_ext e2)) hc2 fun i hi hh => (hS1 i hh).1.elim id fun h => by omega
    have hS2w : ∀ k, S2 k → (S k ∨ w.heap.size ≤ k) ∧ k < w2.heap.size := fun j hj => ⟨(hS2 j hj).1.elim (fun h => (hS1 j h).1) (fun h => .inr (by omega)), (hS2 j hj).2⟩
    rcases hres with ⟨rfl, hj2⟩ | ⟨rfl, hjx⟩
    · refine ⟨true, rfl, ?_⟩
      have hBx2 := hc2.blk hBx n1x
      obtain ⟨y0, y1, y2, y3⟩ := blk4 hBx2
      have hBw2 := hc2.blk hBw1 n1w
      have hBy2 := hc2.blk hBy1 n1y
      simp only [Bool.not_true, br_f]
      refine dr_ok ⟨.func 78, ⟨[]⟩, ⟨[.pointer (some ⟨ty, 0, none⟩), .pointer (some ⟨tw, 0, none⟩)]⟩, by rw [hBw2.cell]; rfl, a', ps.len, c', y3, ?_⟩
      have rest : ∀ (v : Bool) (R' : Ending → World → Prop), v = (u || decide (k = 7)) →
          (∀ w3 (S3 : Nat → Prop), Chg S2 w2 w3 → (∀ k, S3 k → (S2 k ∨ w2.heap.size ≤ k) ∧ k < w3.heap.size) → J ((xs' ++ [(⟨k, t, mm, ps⟩, u)]) ++ nodesU ps (u || decide (k = 7))) S3 w3 → R' (.returned (.bool true)) w3) →
          (∀ w3 (S3 : Nat → Prop), Chg S2 w2 w3 → (∀ k, S3 k → (S2 k ∨ w2.heap.size ≤ k) ∧ k < w3.heap.size) → Jx S3 w3 → R' (.returned (.bool false)) w3) →
          CallV Tryd.prog (.func (.func 78) ⟨[]⟩ ⟨[.pointer (some ⟨ty, 0, none⟩), .pointer (some ⟨tw, 0, none⟩)]⟩) [.slice a' ps.len c', .bool v] w2 R' := by
        rintro v R' rfl g1 g2
        refine ⟨by kernel_rfl, ?_⟩
        refine ih _ (hz ▸ hsz) ps rfl (S := S2) (u || decide (k = 7)) (xs' ++ [(⟨k, t, mm, ps⟩, u)]) (by unfold small; omega) hNT (by omega) (fun j hj => (hcw2.block j (by have := hTl j hj; omega) (fun h => (hS j h).2 hj)).trans (hT j hj))
          (fun j hj => ⟨(hS2 j hj).2, fun ht => (hS2 j hj).1.elim (fun h => (hS1T j h).2 ht) (fun h => by have := hTl j ht; omega)⟩) hBy2 hBw2 (fun h => (hS2 _ h).1.elim n1y (by omega)) (fun h => (hS2 _ h).1.elim n1w (by omega)) ?_ hj2 (fun S3 w3 hc3 hS3 hj3 => g1 w3 S3 hc3 hS3 hj3) (fun S3 w3 hc3 hS3 hjx => g2 w3 S3 hc3 hS3 hjx)
        refine List.IsPrefix.trans ?_ hpre
        rw [heq]
        exact ⟨nodesU r u, by simp⟩
      have good1 : ∀ w3 (S3 : Nat → Prop), Chg S2 w2 w3 → (∀ k, S3 k → (S2 k ∨ w2.heap.size ≤ k) ∧ k < w3.heap.size) → J ((xs' ++ [(⟨k, t, mm, ps⟩, u)]) ++ nodesU ps (u || decide (k = 7))) S3 w3 →
          ∃ m' : Nat, m' < (Fo.cons k t mm ps r).len ∧ ∃ (p1 r1 : Fo) (ps1 : List (Nn × Bool)) (S1 : Nat → Prop), f = p1.app r1 ∧ IntKind.i64.wrap ((p.len : Int) + 1) = p1.len ∧ m' = r1.len ∧ Chg S w w3 ∧ (∀ k, S1 k → (S k ∨ w.heap.size ≤ k) ∧ k < w3.heap.size) ∧ J ps1 S1 w3 ∧ pre ++ nodesU f u = ps1 ++ nodesU r1 u := by
        intro w3 S3 hc3 hS3 hj3
        refine ⟨r.len, by simp, _, r, _, S3, e1, i1, rfl, chg_then hcw2 hc3 fun i hi hh => (hS2w i hh).1.elim id fun h => by omega, fun j hj => ⟨(hS3 j hj).1.elim (fun h => (hS2w j h).1) (fun h => .inr (by omega)), (hS3 j hj).2⟩, hj3, ?_⟩
        rw [heq]; simp
      have stop1 : ∀ w3 (S3 : Nat → Prop), Chg S2 w2 w3 → (∀ k, S3 k → (S2 k ∨ w2.heap.size ≤ k) ∧ k < w3.heap.size) → Jx S3 w3 → R (.returned (.bool false)) w3 := by
        intro w3 S3 hc3 hS3 hjx
        exact hstop S3 _ (chg_then hcw2 hc3 fun i hi hh => (hS2w i hh).1.elim id fun h => by omega) (fun j hj => ⟨(hS3 j hj).1.elim (fun h => (hS2w j h).1) (fun h => .inr (by omega)), (hS3 j hj).2⟩) hjx
      cases u with
      | true =>
        refine rest true _ rfl (fun w3 S3 hc3 hS3 hj3 => ⟨true, rfl, ?_⟩) (fun w3 S3 hc3 hS3 hjx => ⟨false, rfl, ?_⟩)
        · exact good1 w3 S3 hc3 hS3 hj3
        · exact stop1 w3 S3 hc3 hS3 hjx
      | false =>
        refine ⟨k, y0, rest (decide (k = 7)) _ (by simp) (fun w3 S3 hc3 hS3 hj3 => ⟨true, rfl, ?_⟩) (fun w3 S3 hc3 hS3 hjx => ⟨false, rfl, ?_⟩)⟩
        · exact good1 w3 S3 hc3 hS3 hj3
        · exact stop1 w3 S3 hc3 hS3 hjx
    · exact ⟨false, rfl, hstop S2 _ hcw2 hS2w hjx⟩
  · obtain ⟨rfl, rfl⟩ := Fo.last hpr (by omega)
    have e : xs' = pre ++ nodesU p u := by rw [heq]; simp [nodesU]
    rw [e] at hjW
    exact hend S1 _ hcW hS1 hjW

theorem all_iterO {T : Nat → Prop} (f : Fo) (hs : small f) {a : Option Addr} {n c : Nat} (b : Nat) (w : World) (hTl : ∀ k, T k → k < w.heap.size) (hb : Blk w b [.slice a n c] 24) (hf : SlF T w a n f) (hbT : T b) :
    IterO Tryd.prog F_legibility_all_1 [.pointer (some ⟨b, 0, none⟩)] (nodesU f false) (NuE T w) T w := by
  intro yf ya yb S0 J Jx R hS hJ hJx hbody h0 hend hstop
  apply c_legibility_all_1
  refine al_intro fun ty w1 hty hBy e1 s1 => ?_
  refine al_intro fun tw w1' htw hBw' e2' s2' => ?_
  refine stL_one hBw' rfl fun w2 hBw hcc hss => ?_
  have e2 : Ext w1 w2 := ext_chgS e2' hcc fun k hk => by omega
  have E := ext_trans e1 e2
  refine ⟨.func 78, ⟨[]⟩, ⟨[.pointer (some ⟨ty, 0, none⟩), .pointer (some ⟨tw, 0, none⟩)]⟩, by rw [hBw.cell]; rfl, dr_ok ⟨a, n, c, by rw [((hb.ext e1).ext e2).cell]; rfl, by kernel_rfl, ?_⟩⟩
  have hz := E.size
  have hz1 := e1.size
  refine all_walkO (w0 := w) (xs := nodesU f false) hTl hJ hbody f (S := S0) false [] hs hf hz (fun k hk => E.block k (hTl k hk)) (fun k hk => ⟨by have := (hS k hk).1; omega, (hS k hk).2⟩) (hBy.ext e2) hBw (fun h => by have := (hS _ h).1; omega) (fun h => by have := (hS _ h).1; omega) (List.prefix_refl _)
    (hJ _ _ _ _ h0 (Chg.of_ext E)) (fun S' W' hc hS' hj => ?_) (fun S' W' hc hS' hjx => ?_)
  · exact ⟨_, rfl, hend S' _ (Nat.le_trans hz hc.size) hj⟩
  · exact ⟨_, rfl, hstop S' _ (Nat.le_trans hz hc.size) hjx⟩
theorem allU_spec {R : Ending → World → Prop} {w : World} {a : Option Addr} {n c : Nat}
    (h : ∀ b w', Blk w' b [.slice a n c] 24 → Ext w w' → b = w.heap.size → R (.returned (.func (.func F_legibility_all_1) ⟨[]⟩ ⟨[.pointer (some ⟨b, 0, none⟩)]⟩)) w') :
    Calls Tryd.prog F_legibility_all ⟨[.slice a n c]⟩ w R := by
  apply c_legibility_all
  refine al_intro fun b w' hb h1 h2 h3 => ?_
  exact h b w' h1 h2 hb
end Go.Proofs
namespace Go.Proofs
open Go Go.Sh Go.RowKit

/- no additions and deletions -/
def cleanN (x : Nn) : Bool := !(decide (x.k = 8) || decide (x.k = 9))
def cleanF (f : Fo) : Bool := (nodesF f).all cleanN
def errU (f : Fo) : Int := if checkT f ≠ 0 then 1 else if cleanF f then 0 else 13
/- the pattern -/
def patN (x : Nn) : List UInt8 := if x.k = 1 then x.t else if x.k = 6 then List.replicate x.n.toNat 95 else []
def patL (l : List (Nn × Bool)) : List UInt8 := l.flatMap fun x => patN x.1
def patF (f : Fo) : List UInt8 := (nodesF f).flatMap patN
theorem patL_nodes (f : Fo) (u : Bool) : patL (nodesU f u) = patF f := by
  rw [patF, ← nodesU_fst f u, List.flatMap_map]; rfl
theorem patL_snoc (l : List (Nn × Bool)) (x : Nn × Bool) : patL (l ++ [x]) = patL l ++ patN x.1 := by simp [patL]
theorem patL_prefix {pre : List (Nn × Bool)} {x : Nn × Bool} {l : List (Nn × Bool)} (h : pre ++ [x] <+: l) : (patL pre).length + (patN x.1).length ≤ (patL l).length := by
  obtain ⟨s, rfl⟩ := h
  simp only [patL, List.flatMap_append, List.flatMap_cons, List.flatMap_nil, List.length_append, List.append_nil]
  omega
theorem patN_len {k : Int} {t : List UInt8} {n : Int} {ps : Fo} (h : nodeOk k t n ps) : (patN ⟨k, t, n, ps⟩).length ≤ t.length + 100 := by
  unfold patN
  split
  · simp
  · split
    · rename_i h6
      have := h.2.2.1 (by simp only [numsF]; rw [show k = 6 from h6]; rfl)
      simp; omega
    · simp
theorem patF_len : ∀ (f : Fo), good f → (patF f).length ≤ tlen f + 100 * f.size
  | .nil, _ => by simp [patF, nodesF]
  | .cons k t n ps r, h => by
    have h1 := patF_len ps h.2.1
    have h2 := patF_len r h.2.2
    have h3 := patN_len h.1
    unfold patF at h1 h2 ⊢
    simp only [nodesF, List.flatMap_cons, List.flatMap_append, List.length_append, tlen, Fo.size]
    omega
theorem cleanU {f : Fo} (u : Bool) : cleanF f = (nodesU f u).all fun x => cleanN x.1 := by
  rw [cleanF, ← nodesU_fst f u, List.all_map]; rfl

set_option maxRecDepth 20000 in
theorem checkL_spec {R : Ending → World → Prop} {S : Nat → Prop} {w : World} {a : Option Addr} {n c : Nat} (f : Fo) (hs : small f) (hF : Forms w) (hf0 : SlF S w a n f)
    (h : ∀ w', Ext w w' → R (.returned (.int .i64 (errU f))) w') : Calls Tryd.prog F_legibility_check ⟨[.slice a n c]⟩ w R := by
  apply c_legibility_check
  refine al_intro fun b2 w1 hb2 B2 e1 s1 => ?_
  refine Check22_spec f hs (hf0.ext e1) (hF.ext e1) fun w2 e2 => ⟨_, rfl, br_split (fun g => ?_) (fun g => ?_)⟩
  · refine stL_one (B2.ext e2) rfl fun w3 B3 hc3 s3 => ⟨1, by rw [B3.cell]; rfl, ?_⟩
    unfold errU at h; rw [if_pos g] at h
    exact h _ (ext_chgS (ext_trans e1 e2) hc3 fun k hk => by omega)
  unfold errU at h; rw [if_neg g] at h
  refine allU_spec fun bs w4 Bs e4 hbs => ⟨_, _, _, rfl, fun base => ?_⟩
  have E4 := ext_trans (ext_trans e1 e2) e4
  have z1 := e1.size
  have z2 := e2.size
  have z4 := E4.size
  have z24 := e4.size
  have ls := Bs.lt
  have hf : SlF (fun k => S k ∧ k < w.heap.size) w a n f := hf0.imp fun k hk hl => ⟨hk, hl⟩
  rw [cd_legibility_check_1]
  refine RFw_lawO anA_legibility_check_1 anB_legibility_check_1 (gf := F_legibility_all_1) rfl (by kernel_rfl) (xs := nodesU f false) (E := NuE (fun k => (S k ∧ k < w.heap.size) ∨ k = bs) w4) (Rd := fun k => (S k ∧ k < w.heap.size) ∨ k = bs)
    (fun v1 he => (all_iterO f hs bs v1 (fun k hk => by have := he.size; omega) (Bs.ext he) ((hf.ext (ext_trans E4 he)).imp fun k hk _ => .inl hk) (.inr rfl)).mono ?_) (fun y vs hE => by obtain ⟨a', c', rfl, _⟩ := hE; rfl) (by decide) (fun k hk => by omega) (fun k => k = b2) (fun k hk => by omega)
    (fun pre S1 W => Blk W b2 [.int .i64 0] 28 ∧ (∀ k, S1 k ↔ k = b2) ∧ Ext w W ∧ (pre.all fun x => cleanN x.1) = true) (fun S1 W => Blk W b2 [.int .i64 13] 28 ∧ (∀ k, S1 k ↔ k = b2) ∧ Ext w W ∧ cleanF f = false) (fun _ _ => False)
    ?_ ?_ (fun _ _ _ h => h.elim) ⟨(B2.ext e2).ext e4, fun k => Iff.rfl, E4, rfl⟩ ?_ ?_ ?_ (fun _ _ _ _ _ _ _ h => h.elim)
  · rintro x vs ⟨a', c', rfl, hsl⟩
    exact ⟨a', c', rfl, hsl.keep' fun k hk hl => ⟨hk, by omega, ((he.block k (by omega))).symm⟩⟩
  · rintro pre S1 W W' ⟨g1, g2, g3, g4⟩ hc
    exact ⟨hc.blk g1 (fun hh => hh.2 ((g2 _).2 rfl)), g2, ext_chgS g3 hc (fun k hk => by omega), g4⟩
  · rintro S1 W W' ⟨g1, g2, g3, g4⟩ hc
    exact ⟨hc.blk g1 (fun hh => hh.2 ((g2 _).2 rfl)), g2, ext_chgS g3 hc (fun k hk => by omega), g4⟩
  · rintro pre ⟨⟨k1, t1, m1, ps1⟩, u1⟩ vs S1 W l ⟨a', c', rfl, hsl⟩ hpre hl1 hl2 hl3 hS1 ⟨g1, g2, g3, g4⟩
    refine Eq.mpr (er_legibility_check_1 base _ _ _ _ _ _ _ _ _ _ _ _ _ _ _ _) ?_
    refine al_stL (by simp) (by intro u hu; simp only [List.mem_cons, List.not_mem_nil, or_false] at hu; rcases hu with rfl | rfl | rfl | rfl <;> rfl) fun bx W1 hbx hBx ex sx => ?_
    refine ⟨ex, fun W2 hU => ?_⟩
    have zx := ex.size
    have zU := hU.size
    have hX2 := upd_blk hU hBx (by omega)
    obtain ⟨x0, x1, x2, x3⟩ := blk4 hX2
    have hUc : Chg (fun k => k = l) W1 W2 := ⟨hU.os, hU.tape, hU.output, by omega, fun k _ hk => hU.block k hk⟩
    have hWc : Chg (fun k => k = l) W W2 := (Chg.of_ext ex).trans hUc
    have nl : b2 ≠ l := fun he => hl3 ((g2 l).2 he.symm)
    have h1 := hWc.blk g1 nl
    have E2' : Ext w W2 := ext_chgS g3 hWc fun k hk => by omega
    have hmem := mem_of_prefix hpre
    have fail : cleanN ⟨k1, t1, m1, ps1⟩ = false → ∀ W3, Blk W3 b2 [.int .i64 13] 28 → Chg (fun k => k = b2) W2 W3 → Chg (fun k => S1 k ∨ W.heap.size ≤ k) W2 W3 ∧ ∃ S' : Nat → Prop, (∀ k, S' k → (S1 k ∨ W.heap.size ≤ k) ∧ k < W3.heap.size) ∧
        Blk W3 b2 [.int .i64 13] 28 ∧ (∀ k, S' k ↔ k = b2) ∧ Ext w W3 ∧ cleanF f = false := by
      intro hcl W3 hB3 hc3
      refine ⟨hc3.mono fun k _ hk => .inl ((g2 k).2 hk), fun k => k = b2, fun k hk => ⟨.inl ((g2 k).2 hk), hk ▸ hB3.lt⟩, hB3, fun k => Iff.rfl, ext_chgS E2' hc3 fun k hk => by omega, ?_⟩
      rw [cleanU false, List.all_eq_false]
      exact ⟨_, hmem, by rw [hcl]; simp⟩
    refine ⟨k1, x0, br_split (fun q => ?_) (fun q => ⟨k1, x0, br_split (fun q' => ?_) (fun q' => ?_)⟩)⟩
    · exact dr_ok (stL_one h1 rfl fun W3 hB3 hc3 _ => fail (by simp [cleanN, q]) W3 hB3 hc3)
    · exact dr_ok (stL_one h1 rfl fun W3 hB3 hc3 _ => fail (by simp [cleanN, q']) W3 hB3 hc3)
    · refine ⟨Chg.refl _ _, S1, fun j hj => ⟨.inl hj, by have := (hS1 j hj).1; omega⟩, h1, g2, E2', ?_⟩
      rw [List.all_append, g4]
      simp [cleanN, q, q']
  · rintro D S1 W hD1 hD2 hD3 hD4 ⟨g1, g2, g3, g4⟩
    rw [← cleanU false] at g4
    rw [if_pos g4] at h
    have nD : b2 ≠ D := fun he => hD3 ((g2 D).2 he.symm)
    refine stL_one g1 rfl fun W3 B3 hc3 s3 => ?_
    refine retD_one ((hc3.block D hD2 (fun he => nD he.symm)).trans hD4) ?_
    exact ⟨0, by rw [(blk_put B3 nD _).cell]; rfl, h _ (ext_put (ext_chgS g3 hc3 fun k hk => by omega) (by omega) _)⟩
  · rintro D S1 W hD1 hD2 hD3 hD4 ⟨g1, g2, g3, g4⟩
    rw [if_neg (by simp [g4])] at h
    have nD : b2 ≠ D := fun he => hD3 ((g2 D).2 he.symm)
    refine retD_one hD4 ?_
    exact ⟨13, by rw [(blk_put g1 nD _).cell]; rfl, h _ (ext_put g3 (by omega) _)⟩

theorem repeatL_one (b : UInt8) : ∀ c, Lib.repeatL [b] c = List.replicate c b
  | 0 => rfl
  | c + 1 => by rw [Lib.repeatL, repeatL_one b c]; rfl
theorem Repeat_spec {R : Ending → World → Prop} {w : World} (k : Nat) (hk : k ≤ 140737488355328) (h : ∀ w', Ext w w' → R (.returned (.string ⟨⟨List.replicate k 95⟩⟩)) w') :
    Calls Tryd.prog F_strings_Repeat ⟨[.string ⟨⟨[95]⟩⟩, .int .i64 (k : Int)]⟩ w R := by
  refine (Tryd.strings_Repeat ⟨⟨[95]⟩⟩ k w (by omega) (by simp [ByteArray.size]; omega)).mono ?_
  rintro e w' ⟨rfl, hb⟩
  have := h w' hb
  rw [← repeatL_one] at this
  exact this

set_option maxRecDepth 20000 in
theorem pattern_spec {R : Ending → World → Prop} {S : Nat → Prop} {w : World} {a : Option Addr} {n c : Nat} (f : Fo) (hs : f.size ≤ 1000000000) (hg : good f) (hl : tlen f ≤ 100000000000) (hf0 : SlF S w a n f)
    (h : ∀ w', Ext w w' → R (.returned (.string ⟨⟨patF f⟩⟩)) w') : Calls Tryd.prog F_legibility_pattern ⟨[.slice a n c]⟩ w R := by
  have hlen := patF_len f hg
  have hgn := good_nodes f hg
  apply c_legibility_pattern
  refine al_intro fun b5 w2 hb5 B5 e2 s2 => ?_
  refine allU_spec fun bs w4 Bs e4 hbs => ⟨_, _, _, rfl, fun base => ?_⟩
  have E4 := ext_trans e2 e4
  have z2 := e2.size
  have z4 := E4.size
  have z24 := e4.size
  have ls := Bs.lt
  have hf : SlF (fun k => S k ∧ k < w.heap.size) w a n f := hf0.imp fun k hk hl => ⟨hk, hl⟩
  have hbld : BldAt w4 b5 none [] := ⟨.pointer none, 0, B5.ext e4, .inl rfl, Owns.nil _ _ _ _⟩
  rw [cd_legibility_pattern_1]
  refine RFw_lawO anA_legibility_pattern_1 anB_legibility_pattern_1 (gf := F_legibility_all_1) rfl (by kernel_rfl) (xs := nodesU f false) (E := NuE (fun k => (S k ∧ k < w.heap.size) ∨ k = bs) w4) (Rd := fun k => (S k ∧ k < w.heap.size) ∨ k = bs)
    (fun v1 he => (all_iterO f (by unfold small; omega) bs v1 (fun k hk => by have := he.size; omega) (Bs.ext he) ((hf.ext (ext_trans E4 he)).imp fun k hk _ => .inl hk) (.inr rfl)).mono ?_) (fun y vs hE => by obtain ⟨a', c', rfl, _⟩ := hE; rfl) (by decide) (fun k hk => by omega) (fun k => k = b5) (fun k hk => by omega)
    (fun pre S1 W => ∃ bo : Option Addr, BldAt W b5 bo (patL pre) ∧ (∀ k, S1 k ↔ k = b5 ∨ bk bo k) ∧ Ext w W ∧ (∀ k, bk bo k → w4.heap.size ≤ k)) (fun _ _ => False) (fun _ _ => False)
    ?_ (fun _ _ _ h => h.elim) (fun _ _ _ h => h.elim) ⟨none, hbld, fun k => by simp [bk], E4, fun k hk => by simp [bk] at hk⟩ ?_ ?_ (fun _ _ _ _ _ _ _ h => h.elim) (fun _ _ _ _ _ _ _ h => h.elim)
  · rintro x vs ⟨a', c', rfl, hsl⟩
    exact ⟨a', c', rfl, hsl.keep' fun k hk hl => ⟨hk, by omega, ((he.block k (by omega))).symm⟩⟩
  · rintro pre S1 W W' ⟨bo, g1, g2, g3, g4⟩ hc
    exact ⟨bo, g1.chg hc (fun hh => hh.2 ((g2 _).2 (.inl rfl))) (fun k hk hh => hh.2 ((g2 k).2 (.inr hk))), g2, ext_chgS g3 hc (fun k hk => by omega), g4⟩
  · rintro pre ⟨⟨k1, t1, m1, ps1⟩, u1⟩ vs S1 W l ⟨a', c', rfl, hsl⟩ hpre hl1 hl2 hl3 hS1 ⟨bo, g1, g2, g3, g4⟩
    refine Eq.mpr (er_legibility_pattern_1 base _ _ _ _ _ _ _ _ _ _ _ _ _ _ _ _ _) ?_
    refine al_stL (by simp) (by intro u hu; simp only [List.mem_cons, List.not_mem_nil, or_false] at hu; rcases hu with rfl | rfl | rfl | rfl <;> rfl) fun bx W1 hbx hBx ex sx => ?_
    refine ⟨ex, fun W2 hU => ?_⟩
    have zx := ex.size
    have zU := hU.size
    have hX2 := upd_blk hU hBx (by omega)
    obtain ⟨x0, x1, x2, x3⟩ := blk4 hX2
    have hUc : Chg (fun k => k = l) W1 W2 := ⟨hU.os, hU.tape, hU.output, by omega, fun k _ hk => hU.block k hk⟩
    have hWc : Chg (fun k => k = l) W W2 := (Chg.of_ext ex).trans hUc
    have nl : ∀ k, S1 k → k ≠ l := fun k hk he => hl3 (he ▸ hk)
    have h1 := g1.chg hWc (nl _ ((g2 _).2 (.inl rfl))) (fun k hk => nl _ ((g2 k).2 (.inr hk)))
    have E2' : Ext w W2 := ext_chgS g3 hWc fun k hk => by omega
    have hpl := patL_prefix hpre
    rw [patL_nodes] at hpl
    replace hpl : (patL pre).length + (patN ⟨k1, t1, m1, ps1⟩).length ≤ (patF f).length := hpl
    have hmem : (⟨k1, t1, m1, ps1⟩ : Nn) ∈ nodesF f := by
      rw [← nodesU_fst f false]; exact List.mem_map.2 ⟨_, mem_of_prefix hpre, rfl⟩
    have hok := hgn _ hmem
    -- a string is written
    have wr : ∀ (s : List UInt8) (W3 : World) (K : Ending → World → Prop), s = patN ⟨k1, t1, m1, ps1⟩ → Ext W2 W3 → (∀ w'' v, Chg (fun k => S1 k ∨ W.heap.size ≤ k) W2 w'' → (∃ S' : Nat → Prop, (∀ k, S' k → (S1 k ∨ W.heap.size ≤ k) ∧ k < w''.heap.size) ∧
        ∃ bo : Option Addr, BldAt w'' b5 bo (patL (pre ++ [((⟨k1, t1, m1, ps1⟩ : Nn), u1)])) ∧ (∀ k, S' k ↔ k = b5 ∨ bk bo k) ∧ Ext w w'' ∧ (∀ k, bk bo k → w4.heap.size ≤ k)) → K (.returned (.tuple ⟨[.int .i64 v, .nilIface]⟩)) w'') →
        Calls Tryd.prog F_strings_Builder_WriteString ⟨[.pointer (some ⟨b5, 0, none⟩), .string ⟨⟨s⟩⟩]⟩ W3 K := by
      rintro s W3 K rfl e3 hK
      have z3 := e3.size
      refine WriteString_spec (h1.ext e3) (by omega) fun a'' w'' hb'' hk'' hc'' => ?_
      have z'' := hc''.size
      have hSS : ∀ k, (k = b5 ∨ bk a'' k) → (S1 k ∨ W.heap.size ≤ k) ∧ k < w''.heap.size := fun k hk => by
        rcases hk with rfl | hk
        · exact ⟨.inl ((g2 _).2 (.inl rfl)), hb''.lt⟩
        · exact ⟨(hk'' k hk).elim (fun h => .inl ((g2 k).2 (.inr h))) (fun h => .inr (by omega)), (hb''.bk hk).2⟩
      refine hK w'' _ ((Chg.of_ext e3).trans (hc''.mono fun k _ hk => .inl ((g2 k).2 hk))) ⟨fun k => k = b5 ∨ bk a'' k, hSS, a'', ?_, fun k => Iff.rfl, ext_chgS (ext_trans E2' e3) hc'' fun k hk => hk.elim (fun h => by omega) (fun h => by have := g4 k h; omega), fun k hk => (hk'' k hk).elim (g4 k) (fun h => by omega)⟩
      rw [patL_snoc]; exact hb''
    refine ⟨k1, x0, br_split (fun q => ?_) (fun q => br_split (fun q' => ?_) (fun q' => ?_))⟩
    · exact ⟨t1, x1, wr _ _ _ (by simp [patN, q]) (Below.refl _ _) fun w'' v hc hS => ⟨_, _, rfl, hc, hS⟩⟩
    · have hm : 0 ≤ m1 ∧ m1 < 100 := hok.2.2.1 (by simp only [numsF]; rw [show k1 = 6 from q']; rfl)
      refine ⟨m1, x2, ?_⟩
      rw [show m1 = ((m1.toNat : Nat) : Int) by omega]
      refine Repeat_spec _ (by omega) fun W3 e3 => ⟨_, rfl, wr _ _ _ (by simp [patN, q, q']) e3 fun w'' v hc hS => ⟨_, _, rfl, hc, ?_⟩⟩
      rw [show ((m1.toNat : Nat) : Int) = m1 by omega]
      exact hS
    · refine ⟨Chg.refl _ _, S1, fun k hk => ⟨.inl hk, by have := (hS1 k hk).1; omega⟩, bo, ?_, g2, E2', g4⟩
      rw [patL_snoc, show patN ⟨k1, t1, m1, ps1⟩ = [] by simp [patN, q, q'], List.append_nil]; exact h1
  · rintro D S1 W hD1 hD2 hD3 hD4 ⟨bo, g1, g2, g3, g4⟩
    rw [patL_nodes] at g1
    have hDb : some D ≠ some b5 := fun e => by have e' := Option.some.inj e; omega
    refine String_spec' g1 fun w5 hbel hok => ⟨_, rfl, retD_one (D := D) (hok D _ hD4 hDb (fun _ _ e => by cases e)) ?_⟩
    have Ew : Ext w w5 := g3.trans (hbel.mono (by omega))
    exact h _ (ext_put Ew (by omega) _)

/- Pattern -/
def patE (f : Fo) : Int := if errU f ≠ 0 then errU f else if 65536 < (patF f).length then 4 else 0
def patS (f : Fo) : List UInt8 := if patE f ≠ 0 then [] else patF f
theorem errU_zero {f : Fo} (h : errU f = 0) : checkT f = 0 ∧ cleanF f = true := by
  unfold errU at h
  split at h
  · cases h
  · rename_i h1
    split at h
    · rename_i h2; exact ⟨Decidable.not_not.1 h1, h2⟩
    · cases h
theorem Pattern_spec {R : Ending → World → Prop} {S : Nat → Prop} {w : World} {a : Option Addr} {n c : Nat} (f : Fo) (hs : small f) (hF : Forms w) (hf0 : SlF S w a n f)
    (h : ∀ w', Ext w w' → R (.returned (.tuple ⟨[.string ⟨⟨patS f⟩⟩, .int .i64 (patE f)]⟩)) w') : Calls Tryd.prog F_legibility_Pattern ⟨[.slice a n c]⟩ w R := by
  apply c_legibility_Pattern
  unfold patS patE at h
  refine checkL_spec f hs hF hf0 fun w1 e1 => ⟨_, rfl, br_split (fun g => ?_) (fun g => ?_)⟩
  · simp only [if_pos g] at h; exact h _ e1
  simp only [if_neg g] at h
  obtain ⟨hc0, _⟩ := errU_zero (Decidable.not_not.1 g)
  obtain ⟨q1, q2, q3⟩ := check_zero hc0
  refine pattern_spec f (by omega) q2 (by omega) (hf0.ext e1) fun w2 e2 => ⟨_, rfl, ?_⟩
  apply c_legibility_limited
  have E := ext_trans e1 e2
  refine br_split (fun g1 => ⟨_, _, rfl, ?_⟩) (fun g1 => ⟨_, _, rfl, ?_⟩)
  · simp only [if_pos (show 65536 < (patF f).length by omega)] at h; exact h _ E
  · simp only [if_neg (show ¬ 65536 < (patF f).length by omega)] at h; exact h _ E
end Go.Proofs
namespace Go.Proofs
open Go Go.Sh Go.RowKit

theorem nodesF_appU (f g : Fo) : nodesF (f.app g) = nodesF f ++ nodesF g := by
  induction f with
  | nil => rfl
  | cons k t n ps r _ ih => simp only [Fo.cons_app, nodesF, ih, List.append_assoc, List.cons_append]
theorem patF_app (f g : Fo) : patF (f.app g) = patF f ++ patF g := by unfold patF; rw [nodesF_appU, List.flatMap_append]
theorem patF_cons (k t n) (ps r : Fo) : patF (.cons k t n ps r) = patN ⟨k, t, n, ps⟩ ++ (patF ps ++ patF r) := by
  simp [patF, nodesF]
theorem cleanF_cons (k t n) (ps r : Fo) : cleanF (.cons k t n ps r) = (cleanN ⟨k, t, n, ps⟩ && (cleanF ps && cleanF r)) := by
  simp [cleanF, nodesF, List.all_append]

theorem clean12_spec {S : Nat → Prop} : ∀ (f : Fo) {R : Ending → World → Prop} {w : World} {a : Option Addr} {n c : Nat} (hs : small f) (hf : SlF S w a n f)
    (h : ∀ w', Ext w w' → R (.returned (.bool (cleanF f))) w'), Calls Tryd.prog F_ref12_clean ⟨[.slice a n c]⟩ w R := by
  intro f
  induction hz : f.size using Nat.strongRecOn generalizing f with
  | _ z ih =>
  intro R w a n c hs hf h
  unfold small at hs
  apply c_ref12_clean
  have hn := hf.1
  have hfl := f.len_le_size
  refine ⟨fun i W m => ∃ (pre r : Fo), f = pre.app r ∧ i = pre.len ∧ m = r.len ∧ Ext w W ∧ cleanF f = cleanF r, ⟨_, .nil, f, rfl, rfl, rfl, Below.refl _ _, rfl⟩, ?_⟩
  rintro _ W m ⟨pre, r, hpr, rfl, rfl, he, heq⟩ _
  refine br_split (fun hlt => ?_) (fun hge => ?_)
  · obtain ⟨kd, t, mm, ps, r, rfl⟩ := Fo.next hpr (by omega)
    have hsl := Fo.sub_len hpr
    have hsz := Fo.sub_size hpr
    obtain ⟨q, a', c', hq, hSq, hql, hN⟩ := (hf.ext he).get hpr
    rw [cleanF_cons] at heq
    have fl : cleanF f = false → ∀ W', Ext w W' → R (.returned (.bool false)) W' := fun e W' he' => by rw [e] at h; exact h _ he'
    refine hq _ ⟨kd, hN.kind, br_split (fun g => fl (by rw [heq]; simp [cleanN, g]) _ he) (fun g => hq _ ⟨kd, hN.kind, br_split (fun g' => fl (by rw [heq]; simp [cleanN, g']) _ he) (fun g' => hq _ ⟨a', ps.len, c', hN.parts, ?_⟩)⟩)⟩
    have e : cleanF f = (cleanF ps && cleanF r) := by rw [heq]; simp [cleanN, g, g']
    refine ih _ (hz ▸ hsz) ps rfl (by unfold small; omega) hN.sl fun w' he' => ⟨_, rfl, ?_⟩
    cases hp : cleanF ps with
    | false => exact fl (by rw [e, hp]; rfl) _ (ext_trans he he')
    | true => exact ⟨r.len, by simp, pre.app (.one kd t mm ps), r, by rw [Fo.app_one_app]; exact hpr, by rw [wrap_nat (by omega)]; simp [Fo.one], rfl, ext_trans he he', by rw [e, hp]; rfl⟩
  · obtain ⟨rfl, rfl⟩ := Fo.last hpr (by omega)
    have := h _ he
    rw [heq] at this
    exact this

theorem check12_spec {R : Ending → World → Prop} {S : Nat → Prop} {w : World} {a : Option Addr} {n c : Nat} (f : Fo) (hf : SlF S w a n f)
    (h : ∀ w', Ext w w' → R (.returned (.int .i64 (errU f))) w') : Calls Tryd.prog F_ref12_check ⟨[.slice a n c]⟩ w R := by
  apply c_ref12_check
  unfold errU at h
  refine Check10_spec f hf fun w1 e1 => ⟨_, rfl, br_split (fun g => ?_) (fun g => ?_)⟩
  · rw [if_pos g] at h; exact h _ e1
  rw [if_neg g] at h
  obtain ⟨q1, _⟩ := check_zero (Decidable.not_not.1 g)
  refine clean12_spec f (by unfold small; omega) (hf.ext e1) fun w2 e2 => ⟨_, rfl, ?_⟩
  have E := ext_trans e1 e2
  cases hc : cleanF f with
  | true => rw [hc] at h; exact h _ E
  | false => rw [hc] at h; exact h _ E

theorem lost12_spec {R : Ending → World → Prop} {w : World} (k : Nat) (hk : k ≤ 1000000000) (h : ∀ w', Ext w w' → R (.returned (.string ⟨⟨List.replicate k 95⟩⟩)) w') :
    Calls Tryd.prog F_ref12_lost ⟨[.int .i64 (k : Int)]⟩ w R := by
  apply c_ref12_lost
  refine ⟨fun out i W m => ∃ j : Nat, j ≤ k ∧ i = j ∧ out = List.replicate j 95 ∧ m = k - j ∧ W = w, ⟨_, 0, by omega, rfl, rfl, rfl, rfl⟩, ?_⟩
  rintro _ _ W m ⟨j, hj, rfl, rfl, rfl, rfl⟩ _
  refine br_split (fun g => ⟨by simp; omega, k - (j + 1), by omega, j + 1, by omega, by rw [wrap_nat (by omega)], by rw [List.replicate_succ'], rfl, rfl⟩) (fun g => ?_)
  have : j = k := by omega
  subst this
  exact h _ (Below.refl _ _)

theorem pattern12_spec {S : Nat → Prop} : ∀ (f : Fo) {R : Ending → World → Prop} {w : World} {a : Option Addr} {n c : Nat} (hs : f.size ≤ 1000000000) (hg : good f) (hl : tlen f ≤ 100000000000) (hf : SlF S w a n f)
    (h : ∀ w', Ext w w' → R (.returned (.string ⟨⟨patF f⟩⟩)) w'), Calls Tryd.prog F_ref12_pattern ⟨[.slice a n c]⟩ w R := by
  intro f
  induction hz : f.size using Nat.strongRecOn generalizing f with
  | _ z ih =>
  intro R w a n c hs hg hl hf h
  apply c_ref12_pattern
  have hn := hf.1
  have hfl := f.len_le_size
  have hlen := patF_len f hg
  refine ⟨fun out i W m => ∃ (pre r : Fo), f = pre.app r ∧ out = patF pre ∧ i = pre.len ∧ m = r.len ∧ Ext w W, ⟨_, .nil, f, rfl, rfl, rfl, rfl, Below.refl _ _⟩, ?_⟩
  rintro _ _ W m ⟨pre, r, hpr, rfl, rfl, rfl, he⟩ _
  refine br_split (fun hlt => ?_) (fun hge => ?_)
  · obtain ⟨kd, t, mm, ps, r, rfl⟩ := Fo.next hpr (by omega)
    have hsl := Fo.sub_len hpr
    have hsz := Fo.sub_size hpr
    have hG := hg
    rw [hpr, good_app] at hG
    obtain ⟨_, hok, hgp, _⟩ := hG
    have hpt : tlen ps ≤ tlen f := by rw [hpr, tlen_app]; simp only [tlen]; omega
    have hLL : (patF pre).length + ((patN ⟨kd, t, mm, ps⟩).length + (patF ps).length) ≤ (patF f).length := by
      rw [hpr, patF_app, patF_cons]; simp only [List.length_append]; omega
    intro K8 hK8
    have k8 : ∀ o, o = patF pre ++ (if kd = 1 then t else []) → K8 o W := by
      rintro _ rfl
      refine hK8 _ _ fun _ => ?_
      intro K11 hK11
      have k11 : ∀ W1 o, Ext W W1 → o = patF pre ++ patN ⟨kd, t, mm, ps⟩ → K11 o W1 := by
        rintro W1 _ e1 rfl
        have he1 := ext_trans he e1
        obtain ⟨q, a', c', hq, hSq, hql, hN⟩ := (hf.ext he1).get hpr
        refine hK11 _ _ fun _ => hq _ ⟨a', ps.len, c', hN.parts, ?_⟩
        refine ih _ (hz ▸ hsz) ps rfl (by omega) hgp (by omega) hN.sl fun w2 e2 => ⟨_, rfl, ⟨by simp only [List.length_append]; omega, r.len, by simp, pre.app (.one kd t mm ps), r, by rw [Fo.app_one_app]; exact hpr, ?_, by rw [wrap_nat (by omega)]; simp [Fo.one], rfl, ext_trans he1 e2⟩⟩
        rw [patF_app, Fo.one, patF_cons, List.append_assoc]
        simp [patF, nodesF]
      obtain ⟨q, a', c', hq, hSq, hql, hN⟩ := (hf.ext he).get hpr
      refine hq _ ⟨kd, hN.kind, br_split (fun g => ?_) (fun g => ?_)⟩
      · have hm : 0 ≤ mm ∧ mm < 100 := hok.2.2.1 (by simp only [numsF]; rw [show kd = 6 from g]; rfl)
        have hp : patN ⟨kd, t, mm, ps⟩ = List.replicate mm.toNat 95 := by simp [patN, g]
        refine hq _ ⟨mm, hN.num, ?_⟩
        rw [show mm = ((mm.toNat : Nat) : Int) by omega]
        refine lost12_spec _ (by omega) fun w2 e2 => ⟨_, rfl, ?_⟩
        rw [hp] at hLL
        rw [if_neg (by omega), List.append_nil]
        exact ⟨by omega, k11 _ _ e2 (by rw [hp])⟩
      · refine k11 _ _ (Below.refl _ _) ?_
        unfold patN
        simp only
        split
        · rfl
        · first | rfl | rw [if_neg g]
    obtain ⟨q, a', c', hq, hSq, hql, hN⟩ := (hf.ext he).get hpr
    refine hq _ ⟨kd, hN.kind, br_split (fun g => hq _ ⟨t, hN.text, ?_⟩) (fun g => k8 _ (by rw [if_neg g, List.append_nil]))⟩
    have hp : patN ⟨kd, t, mm, ps⟩ = t := by simp [patN, g]
    rw [hp] at hLL
    exact ⟨by omega, k8 _ (by rw [if_pos g])⟩
  · obtain ⟨rfl, rfl⟩ := Fo.last hpr (by omega)
    exact h _ he

theorem Pattern12_spec {R : Ending → World → Prop} {S : Nat → Prop} {w : World} {a : Option Addr} {n c : Nat} (f : Fo) (hf : SlF S w a n f)
    (h : ∀ w', Ext w w' → R (.returned (.tuple ⟨[.string ⟨⟨patS f⟩⟩, .int .i64 (patE f)]⟩)) w') : Calls Tryd.prog F_ref12_Pattern ⟨[.slice a n c]⟩ w R := by
  apply c_ref12_Pattern
  unfold patS patE at h
  refine check12_spec f hf fun w1 e1 => ⟨_, rfl, br_split (fun g => ?_) (fun g => ?_)⟩
  · simp only [if_pos g] at h; exact h _ e1
  simp only [if_neg g] at h
  obtain ⟨hc0, _⟩ := errU_zero (Decidable.not_not.1 g)
  obtain ⟨q1, q2, q3⟩ := check_zero hc0
  refine pattern12_spec f (by omega) q2 (by omega) (hf.ext e1) fun w2 e2 => ⟨_, rfl, br_split (fun g1 => ?_) (fun g1 => ?_)⟩
  · simp only [if_pos (show 65536 < (patF f).length by omega)] at h; exact h _ (ext_trans e1 e2)
  · simp only [if_neg (show ¬ 65536 < (patF f).length by omega)] at h; exact h _ (ext_trans e1 e2)
end Go.Proofs
namespace Go.Sh
open Go Go.RowKit

/- how the elements of a slice lie in cells -/
structure Enc (α : Type) where
  enc : α → List Value
  size : Nat
  len : ∀ x, (enc x).length = size
  pos : 0 < size
  one : ∀ x, ∀ v ∈ enc x, v.oneCell' = true
section
variable {α : Type} {E : Enc α}
def Enc.row (E : Enc α) (l : List α) : List Value := l.flatMap E.enc
@[simp] theorem row_nil : E.row [] = [] := rfl
theorem row_cons (x : α) (l : List α) : E.row (x :: l) = E.enc x ++ E.row l := rfl
theorem row_app (l m : List α) : E.row (l ++ m) = E.row l ++ E.row m := by simp [Enc.row]
theorem row_snoc (l : List α) (x : α) : E.row (l ++ [x]) = E.row l ++ E.enc x := by simp [Enc.row]
theorem row_len : ∀ l : List α, (E.row l).length = l.length * E.size
  | [] => by simp
  | x :: l => by rw [row_cons, List.length_append, E.len, row_len l, List.length_cons, Nat.add_mul, Nat.one_mul]; omega
theorem row_one (l : List α) : ∀ v ∈ E.row l, v.oneCell' = true := by
  intro v hv
  obtain ⟨x, _, hx⟩ := List.mem_flatMap.1 hv
  exact E.one x v hx
theorem row_get {x : α} : ∀ {l : List α} {i j : Nat}, l[i]? = some x → j < E.size → (E.row l)[i * E.size + j]? = (E.enc x)[j]?
  | [], i, j, h, _ => by simp at h
  | y :: l, 0, j, h, hj => by
    simp at h; subst h
    rw [row_cons, Nat.zero_mul, Nat.zero_add, List.getElem?_append_left (by rw [E.len]; exact hj)]
  | y :: l, i + 1, j, h, hj => by
    simp at h
    rw [row_cons, List.getElem?_append_right (by rw [E.len, Nat.add_mul, Nat.one_mul]; omega), E.len, show (i + 1) * E.size + j - E.size = i * E.size + j by rw [Nat.add_mul, Nat.one_mul]; omega]
    exact row_get h hj
theorem putAt_app : ∀ (vs : List Value) (a b : List Value) (o : Nat), putAt (a ++ b) (a.length + o) vs = a ++ putAt b o vs
  | [], a, b, o => rfl
  | v :: vs, a, b, o => by
    rw [putAt, putAt, List.set_append_right _ _ (by omega), show a.length + o - a.length = o by omega, Nat.add_assoc, putAt_app vs a (b.set o v) (o + 1)]
theorem putAt_head : ∀ (vs a : List Value) (rest : List Value), vs.length = a.length → putAt (a ++ rest) 0 vs = vs ++ rest := by
  intro vs a rest h
  apply List.ext_getElem?
  intro i
  rw [putAt_get]
  by_cases hi : i < vs.length
  · rw [if_pos ⟨by omega, by omega, by simp; omega⟩, List.getElem?_append_left (by omega)]; simp
  · rw [if_neg (by omega), List.getElem?_append_right (by omega), List.getElem?_append_right (by omega), h]
theorem row_put {x : α} {rest : List Value} : ∀ {l : List α} {i : Nat}, i < l.length → putAt (E.row l ++ rest) (i * E.size) (E.enc x) = E.row (l.set i x) ++ rest
  | [], i, h => by simp at h
  | y :: l, 0, h => by
    rw [Nat.zero_mul, row_cons, List.set_cons_zero, row_cons, List.append_assoc, putAt_head _ _ _ (by rw [E.len, E.len]), List.append_assoc]
  | y :: l, i + 1, h => by
    rw [row_cons, List.set_cons_succ, row_cons, List.append_assoc, List.append_assoc, show (i + 1) * E.size = (E.enc y).length + i * E.size by rw [E.len, Nat.add_mul, Nat.one_mul]; omega, putAt_app, row_put (by simpa using h)]

/- a slice that can be read -/
def RowAt (E : Enc α) (S : Nat → Prop) (w : World) (a : Option Addr) (n : Nat) (l : List α) : Prop := n = l.length ∧ At S w a (E.row l)
section
variable {S S' : Nat → Prop} {w w' : World} {a : Option Addr} {n : Nat} {l : List α}
theorem RowAt.keep (h : RowAt E S w a n l) (hs : ∀ k, S k → k < w.heap.size → S' k ∧ w'.heap[k]? = w.heap[k]?) (hz : w.heap.size ≤ w'.heap.size) : RowAt E S' w' a n l := ⟨h.1, h.2.keep hs hz⟩
theorem RowAt.ext (h : RowAt E S w a n l) (he : Ext w w') : RowAt E S w' a n l := h.keep (fun k hk hl => ⟨hk, he.block k hl⟩) he.size
theorem RowAt.chg {T : Nat → Prop} (h : RowAt E S w a n l) (he : Chg T w w') (hd : ∀ k, S k → ¬ T k) : RowAt E S w' a n l := h.keep (fun k hk hl => ⟨hk, he.block k hl (hd k hk)⟩) he.size
theorem RowAt.imp (h : RowAt E S w a n l) (hs : ∀ k, S k → k < w.heap.size → S' k) : RowAt E S' w a n l := h.keep (fun k hk hl => ⟨hs k hk hl, rfl⟩) (Nat.le_refl _)
theorem RowAt.nil (a : Option Addr) : RowAt E S w a 0 [] := ⟨rfl, .inl rfl⟩
theorem RowAt.get (h : RowAt E S w a n l) {i : Nat} {x : α} (hi : l[i]? = some x) :
    ∃ b o, (∀ K : Addr → Prop, K ⟨b, o, none⟩ → idx a n (i : Int) E.size K) ∧ S b ∧ b < w.heap.size ∧ ∀ j v, (E.enc x)[j]? = some v → w.cell? ⟨b, o + j, none⟩ = some v := by
  have hlt := (List.getElem?_eq_some_iff.1 hi).1
  have hn := h.1
  rcases h.2 with h2 | ⟨b, o, rfl, hb, hbl, hc⟩
  · have := congrArg List.length h2
    rw [row_len] at this
    simp only [List.length_nil] at this
    rcases Nat.mul_eq_zero.1 this with h | h
    · omega
    · have := E.pos; omega
  refine ⟨b, o + i * E.size, fun K hK => ⟨by omega, by omega, ?_⟩, hb, hbl, fun j v hj => ?_⟩
  · show K _
    rw [add_none, Int.toNat_natCast]; exact hK
  · rw [Nat.add_assoc]
    refine hc _ _ ?_
    rw [row_get hi (by have := (List.getElem?_eq_some_iff.1 hj).1; rw [E.len] at this; exact this)]; exact hj
end

/- a slice that the call has made -/
abbrev OwnL (E : Enc α) (w : World) (B : Nat) (e : TypeId) (a : Option Addr) (n c : Nat) (l : List α) : Prop := Owns w B e E.size a n c (E.row l)
section
variable {w w' : World} {B : Nat} {e : TypeId} {a : Option Addr} {n c : Nat} {l : List α}
theorem OwnL.length (h : OwnL E w B e a n c l) : l.length = n := by
  have := h.len
  rw [row_len] at this
  exact Nat.eq_of_mul_eq_mul_right E.pos this
theorem OwnL.out (h : OwnL E w B e a n c l) : RowAt E (bk a) w a n l := by
  refine ⟨h.length.symm, ?_⟩
  by_cases hn : 0 < n
  · obtain ⟨g, rfl, hg, hc⟩ := h.cell hn
    exact .inr ⟨g, 0, rfl, by simp [bk], (h.bk (by simp [bk])).2, fun j v hj => by rw [Nat.zero_add]; exact hc j v hj⟩
  · have hx : l = [] := List.eq_nil_of_length_eq_zero (by rw [h.length]; omega)
    subst hx
    exact .inl rfl
theorem OwnL.push {P : Program} {t ty : TypeId} {bytes : Nat} {z : Value} (hT : SlT P t e E.size bytes z) (h : OwnL E w B e a n c l) (hB : B ≤ w.heap.size) (x : α) (hlen : n + 1 ≤ 4611686018427387904) (hbytes : (n + 1) * bytes ≤ 140737488355328) {K : Option Addr → Nat → Nat → World → Prop}
    (hk : ∀ a' c'' w', OwnL E w' B e a' (n + 1) c'' (l ++ [x]) → Chg (bk a) w w' → (∀ k, bk a' k → bk a k ∨ w.heap.size ≤ k) → K a' (n + 1) c'' w') :
    al w e (E.enc x) fun p w1 => app P [t, t] ty (.slice a n c) (.slice (some p) 1 1) w1 K :=
  app_one2 hT h hB _ (E.len x) (E.one x) hlen hbytes fun a' c'' w' ho hc hn => hk a' c'' w' (by unfold OwnL; rw [row_snoc]; exact ho) hc hn
theorem OwnL.pushAll {P : Program} {t ty : TypeId} {bytes : Nat} {z : Value} (hT : SlT P t e E.size bytes z) (h : OwnL E w B e a n c l) (hB : B ≤ w.heap.size) {S : Nat → Prop} {a1 : Option Addr} {m c1 : Nat} {l' : List α} (hg : RowAt E S w a1 m l') (hlen : n + m ≤ 4611686018427387904) (hbytes : (n + m) * bytes ≤ 140737488355328) {K : Option Addr → Nat → Nat → World → Prop}
    (hk : ∀ a' c'' w', OwnL E w' B e a' (n + m) c'' (l ++ l') → Chg (bk a) w w' → (∀ k, bk a' k → bk a k ∨ w.heap.size ≤ k) → K a' (n + m) c'' w') :
    app P [t, t] ty (.slice a n c) (.slice a1 m c1) w K :=
  app_own2 hT h hB (E.row l') (by rw [row_len, ← hg.1]) hg.2 (row_one l') hlen hbytes fun a' c'' w' ho hc hn => hk a' c'' w' (by unfold OwnL; rw [row_app]; exact ho) hc hn
/- writing one element -/
theorem OwnL.store (h : OwnL E w B e a n c l) {i : Nat} (hi : i < n) (x : α) :
    ∃ g, a = some ⟨g, 0, none⟩ ∧ (∀ K : Addr → Prop, K ⟨g, i * E.size, none⟩ → idx a n (i : Int) E.size K) ∧
      ∀ K : World → Prop, (∀ w', OwnL E w' B e a n c (l.set i x) → Chg (bk a) w w' → w'.heap.size = w.heap.size → K w') → stL w ⟨g, i * E.size, none⟩ 0 (E.enc x) K := by
  have hl := h.length
  rcases h.2 with h1 | ⟨g, cap, cur, e1, e2, e3, e4, e5, e6, e7⟩
  · omega
  obtain ⟨rfl, _, rfl⟩ : a = some ⟨g, 0, none⟩ ∧ True ∧ c = cap := by simpa using e1
  have hB : Blk w g cur.toList e := e3
  have hcl : cur.toList.length = c * E.size := by simpa using e6
  have hcur : cur.toList = E.row l ++ cur.toList.drop (n * E.size) := by rw [← e7, List.take_append_drop]
  have hin : i * E.size + E.size ≤ n * E.size := by
    have : (i + 1) * E.size ≤ n * E.size := Nat.mul_le_mul_right _ hi
    rwa [Nat.add_mul, Nat.one_mul] at this
  have hnc : n * E.size ≤ c * E.size := Nat.mul_le_mul_right _ e4
  refine ⟨g, rfl, fun K hK => ⟨by omega, by omega, ?_⟩, fun K hK => ?_⟩
  · show K _
    rw [add_none, Int.toNat_natCast, Nat.zero_add]; exact hK
  refine stL_blk hB (by rw [E.len]; omega) (E.one x) fun w' b1 b2 b3 b4 b5 b6 => ?_
  have hc : Chg (bk (some (⟨g, 0, none⟩ : Addr))) w w' := ⟨b4, b5, b6, by omega, fun k' _ hk => b2 k' fun e => hk (by simp [bk, e])⟩
  rw [Nat.add_zero, hcur, row_put (by omega)] at b1
  refine hK w' ⟨by rw [row_len, List.length_set, hl], .inr ⟨g, c, ⟨_⟩, rfl, e2, b1, e4, e5, ?_, ?_⟩⟩ hc b3
  · show (E.row (l.set i x) ++ cur.toList.drop (n * E.size)).length = c * E.size
    rw [List.length_append, List.length_drop, hcl, row_len, List.length_set, hl]; omega
  · show List.take (n * E.size) (E.row (l.set i x) ++ _) = _
    rw [List.take_append_of_le_length (by rw [row_len, List.length_set, hl]; exact Nat.le_refl _), List.take_of_length_le (by rw [row_len, List.length_set, hl]; exact Nat.le_refl _)]
end

/- making a row of zeros -/
theorem mks_intro {w : World} {elem : TypeId} {bytes : Nat} {zero : List Value} {l c : Nat} {K : Addr → World → Prop} (hlc : l ≤ c) (hb : bytes * c ≤ 140737488355328)
    (h : ∀ b w', b = w.heap.size → Blk w' b (List.replicate c zero).flatten elem → Ext w w' → w'.heap.size = b + 1 → K ⟨b, 0, none⟩ w') : mks w elem bytes zero (l : Int) (c : Int) K := by
  refine ⟨by omega, by omega, by rw [← Int.natCast_mul]; exact Int.ofNat_le.2 hb, ?_⟩
  refine h _ _ rfl ?_ ((Below.refl _ w).alloc (Nat.le_refl _) _) (by simp)
  rw [Int.toNat_natCast]
  exact Blk.new w _ _
theorem row_replicate (x : α) (n : Nat) : E.row (List.replicate n x) = (List.replicate n (E.enc x)).flatten := by
  induction n with
  | zero => rfl
  | succ n ih => rw [List.replicate_succ, row_cons, ih, List.replicate_succ, List.flatten_cons]
theorem OwnL.made {w : World} {b B : Nat} {e : TypeId} {x : α} {n : Nat} (h : Blk w b (List.replicate n (E.enc x)).flatten e) (hB : B ≤ b) (hn : n ≤ maxLen) : OwnL E w B e (some ⟨b, 0, none⟩) n n (List.replicate n x) := by
  rw [← row_replicate] at h
  refine ⟨by rw [row_len, List.length_replicate], .inr ⟨b, n, _, rfl, hB, h, Nat.le_refl _, hn, ?_, ?_⟩⟩
  · show (E.row (List.replicate n x)).length = n * E.size
    rw [row_len, List.length_replicate]
  · show List.take _ (E.row _) = _
    rw [List.take_of_length_le (by rw [row_len, List.length_replicate]; exact Nat.le_refl _)]
end

/- the elements that occur -/
def encI : Enc Int := ⟨fun i => [.int .i64 i], 1, fun _ => rfl, by decide, by intro x v hv; simp only [List.mem_singleton] at hv; subst hv; rfl⟩
def encStr : Enc (List UInt8) := ⟨fun s => [.string ⟨⟨s⟩⟩], 1, fun _ => rfl, by decide, by intro x v hv; simp only [List.mem_singleton] at hv; subst hv; rfl⟩
structure Edit where
  at_ : Int
  len : Int
  text : List UInt8
def encE : Enc Edit := ⟨fun x => [.int .i64 x.at_, .int .i64 x.len, .string ⟨⟨x.text⟩⟩], 3, fun _ => rfl, by decide, by intro x v hv; simp only [List.mem_cons, List.not_mem_nil, or_false] at hv; rcases hv with rfl | rfl | rfl <;> rfl⟩
end Go.Sh
namespace Go.Proofs
open Go Go.Sh Go.RowKit

/- positions -/
abbrev Ps := List UInt8 × Int
def encP : Enc Ps := ⟨fun x => [.string ⟨⟨x.1⟩⟩, .int .i64 x.2], 2, fun _ => rfl, by decide, by intro x v hv; simp only [List.mem_cons, List.not_mem_nil, or_false] at hv; rcases hv with rfl | rfl <;> rfl⟩
theorem slT_pos : SlT Tryd.prog 27 23 2 24 (.agg ⟨[.string ⟨⟨[]⟩⟩, .int .i64 0]⟩) := ⟨by kernel_rfl, by kernel_rfl, rfl, by decide⟩
def posN (at_ : Ps) (x : Nn) : Ps × Nat :=
  if x.k = 1 then (at_, x.t.length) else if x.k = 6 then (at_, x.n.toNat) else if x.k = 3 then ((x.t, 0), 0) else if x.k = 2 then ((at_.1, at_.2 + 1), 0) else (at_, 0)
def posL : Ps → List Nn → List Ps
  | _, [] => []
  | p, x :: l => List.replicate (posN p x).2 (posN p x).1 ++ posL (posN p x).1 l
def endL : Ps → List Nn → Ps
  | p, [] => p
  | p, x :: l => endL (posN p x).1 l
theorem posL_app : ∀ (l : List Nn) (p : Ps) (m : List Nn), posL p (l ++ m) = posL p l ++ posL (endL p l) m
  | [], _, _ => rfl
  | x :: l, p, m => by simp only [List.cons_append, posL, endL, posL_app l, List.append_assoc]
theorem endL_app : ∀ (l : List Nn) (p : Ps) (m : List Nn), endL p (l ++ m) = endL (endL p l) m
  | [], _, _ => rfl
  | x :: l, p, m => by simp only [List.cons_append, endL, endL_app l]
theorem posN_len (p : Ps) (x : Nn) : (posN p x).2 = (patN x).length := by
  unfold posN patN
  split
  · rfl
  · split
    · simp
    · split
      · rfl
      · split <;> rfl
theorem posL_len : ∀ (l : List Nn) (p : Ps), (posL p l).length = (l.flatMap patN).length
  | [], _ => rfl
  | x :: l, p => by simp only [posL, List.length_append, List.length_replicate, List.flatMap_cons, posL_len l, posN_len]
theorem posL_pat (p : Ps) (f : Fo) : (posL p (nodesF f)).length = (patF f).length := posL_len _ _
theorem endL_bd : ∀ (l : List Nn) (p : Ps) (B : Int), 0 ≤ p.2 → p.2 ≤ B → 0 ≤ B → 0 ≤ (endL p l).2 ∧ (endL p l).2 ≤ B + l.length
  | [], p, B, h0, h1, h2 => ⟨h0, by simp [endL]; omega⟩
  | x :: l, p, B, h0, h1, h2 => by
    rw [endL]
    have key : 0 ≤ (posN p x).1.2 ∧ (posN p x).1.2 ≤ B + 1 := by
      unfold posN
      split
      · exact ⟨h0, by show p.2 ≤ _; omega⟩
      · split
        · exact ⟨h0, by show p.2 ≤ _; omega⟩
        · split
          · exact ⟨Int.le_refl _, by show (0 : Int) ≤ _; omega⟩
          · split
            · exact ⟨by show 0 ≤ p.2 + 1; omega, by show p.2 + 1 ≤ _; omega⟩
            · exact ⟨h0, by show p.2 ≤ _; omega⟩
    have := endL_bd l (posN p x).1 (B + 1) key.1 key.2 (by omega)
    exact ⟨this.1, by simp only [List.length_cons]; omega⟩

/- the state of the program's walk: the list under way, in a variable, and where it stands, in another -/
def PSt (b6 b10 B : Nat) (W : World) (oa : Option Addr) (L : List Ps) (p : Ps) : Prop :=
  ∃ oc, Blk W b6 [.slice oa L.length oc] 27 ∧ OwnL encP W B 23 oa L.length oc L ∧ Blk W b10 [.string ⟨⟨p.1⟩⟩, .int .i64 p.2] 23
structure PTo (b6 b10 : Nat) (oa : Option Addr) (W : World) (oa' : Option Addr) (W' : World) : Prop where
  chg : Chg (fun j => j = b6 ∨ j = b10 ∨ bk oa j) W W'
  bk : ∀ k, Sh.bk oa' k → Sh.bk oa k ∨ W.heap.size ≤ k
section
variable {b6 b10 B : Nat} {W W' W'' : World} {oa oa' oa'' : Option Addr} {L : List Ps} {p : Ps}
theorem PTo.refl (W : World) (oa : Option Addr) : PTo b6 b10 oa W oa W := ⟨Chg.refl _ _, fun _ h => .inl h⟩
theorem PTo.trans (h6 : b6 < W.heap.size) (h10 : b10 < W.heap.size) (h : PTo b6 b10 oa W oa' W') (k : PTo b6 b10 oa' W' oa'' W'') : PTo b6 b10 oa W oa'' W'' :=
  ⟨chg_then h.chg k.chg fun i hi hh => hh.elim .inl fun hh => hh.elim (fun e => .inr (.inl e)) fun hh => (h.bk i hh).elim (fun e => .inr (.inr e)) (fun e => by omega),
   fun j hj => (k.bk j hj).elim (h.bk j) (fun e => .inr (Nat.le_trans h.chg.size e))⟩
theorem PTo.ext (h : Ext W W') : PTo b6 b10 oa W oa W' := ⟨Chg.of_ext h, fun _ h => .inl h⟩
theorem PSt.ext (h : PSt b6 b10 B W oa L p) (he : Ext W W') : PSt b6 b10 B W' oa L p := by
  obtain ⟨oc, h1, h2, h3⟩ := h
  exact ⟨oc, h1.ext he, h2.ext he, h3.ext he⟩
theorem PSt.bk (h : PSt b6 b10 B W oa L p) {k : Nat} (hk : Sh.bk oa k) : B ≤ k ∧ k < W.heap.size := by
  obtain ⟨oc, h1, h2, h3⟩ := h
  exact Owns.bk h2 hk
end

theorem add_spec {b6 b10 B : Nat} (hb : b6 < b10 ∧ b10 < B) {W : World} {oa : Option Addr} {L : List Ps} {p : Ps} (hst : PSt b6 b10 B W oa L p) (hBW : B ≤ W.heap.size) (k : Nat) (hlen : L.length + k ≤ 1000000000000) {R : Ending → World → Prop}
    (h : ∀ oa' W', PSt b6 b10 B W' oa' (L ++ List.replicate k p) p → PTo b6 b10 oa W oa' W' → R (.returned (.tuple ⟨[]⟩)) W') :
    Calls Tryd.prog F_layout_positions_1 ⟨[.int .i64 (k : Int), .pointer (some ⟨b6, 0, none⟩), .pointer (some ⟨b10, 0, none⟩)]⟩ W R := by
  apply c_layout_positions_1
  refine ⟨fun i W1 m => ∃ (j : Nat) (oa1 : Option Addr), j ≤ k ∧ i = j ∧ m = k - j ∧ PSt b6 b10 B W1 oa1 (L ++ List.replicate j p) p ∧ PTo b6 b10 oa W oa1 W1, ⟨_, 0, oa, by omega, rfl, rfl, by simpa using hst, PTo.refl _ _⟩, ?_⟩
  rintro _ W1 m ⟨j, oa1, hj, rfl, rfl, hs, hp⟩ _
  have z1 := hp.chg.size
  refine br_split (fun g => ?_) (fun g => ?_)
  · obtain ⟨oc, h1, h2, h3⟩ := hs
    have hl : (L ++ List.replicate j p).length = L.length + j := by simp
    refine dr_ok ⟨oa1, _, oc, by rw [h1.cell]; rfl, dr_ok ⟨p.1, by simp only [add_none, h3.cell]; rfl, p.2, by simp only [add_none, h3.cell]; rfl, ?_⟩⟩
    refine OwnL.push slT_pos h2 (by omega) p (by omega) (by omega) fun a' c'' W2 ho hc hn => ?_
    have l1 := h1.lt
    have l3 := h3.lt
    have n6 : ¬ Sh.bk oa1 b6 := fun hh => by have := (Owns.bk h2 hh).1; omega
    have n10 : ¬ Sh.bk oa1 b10 := fun hh => by have := (Owns.bk h2 hh).1; omega
    have n6' : ∀ j, Sh.bk a' j → j ≠ b6 := fun j hj e => by subst e; exact (hn _ hj).elim n6 (by omega)
    refine dr_ok (stL_one (hc.blk h1 n6) rfl fun W3 q1 q2 q3 => ?_)
    have hl2 : (L ++ List.replicate (j + 1) p).length = (L ++ List.replicate j p).length + 1 := by simp; omega
    have hl3 : L ++ List.replicate (j + 1) p = (L ++ List.replicate j p) ++ [p] := by rw [List.replicate_succ', List.append_assoc]
    refine ⟨k - (j + 1), by omega, j + 1, a', by omega, by rw [wrap_nat (by omega)], rfl, ⟨c'', by rw [hl2]; exact q1, by rw [hl2, hl3]; exact Owns.chg ho q2 (fun i hi e => n6' i hi e), q2.blk (hc.blk h3 n10) (by omega)⟩, ?_⟩
    refine hp.trans (by omega) (by omega) ⟨chg_then (hc.mono fun i _ hi => .inr (.inr hi)) q2 fun i _ e => .inl e, hn⟩
  · have : j = k := by omega
    subst this
    exact h oa1 W1 hs hp

theorem walk_tail {W : World} {b16 bx : Nat} {K : World → Prop} {a : Option Addr} {n c : Nat} {ar br cr : Value} (hB : Blk W b16 [.func (.func 54) ⟨[]⟩ ⟨[ar, br, cr]⟩] 88)
    (hx : W.cell? ((⟨bx, 0, none⟩ : Addr).add 3) = some (.slice a n c)) (hk : Calls Tryd.prog F_layout_positions_2 ⟨[.slice a n c, ar, br, cr]⟩ W fun e w => e = .returned (.tuple ⟨[]⟩) ∧ K w) :
    dr (some ⟨b16, 0, none⟩) fun p => ∃ (x : Fn) (xa xb : Array Value), World.cell? W p = some (.func x xa xb) ∧ (∃ (y : Option Addr) (yn yc : Nat), World.cell? W ((⟨bx, 0, none⟩ : Addr).add 3) = some (.slice y yn yc) ∧
      (CallV Tryd.prog (.func x xa xb) [.slice y yn yc] W fun e w => e = .returned (.tuple ⟨[]⟩) ∧ K w)) :=
  dr_ok ⟨.func 54, ⟨[]⟩, ⟨[ar, br, cr]⟩, by rw [hB.cell]; rfl, a, n, c, hx, by kernel_rfl, hk⟩

set_option maxRecDepth 20000 in
theorem posWalk_spec {T : Nat → Prop} {w0 : World} {b6 b10 b13 b16 B : Nat} (hb : w0.heap.size ≤ b6 ∧ b6 < b10 ∧ b10 < b13 ∧ b13 < b16 ∧ b16 < B) (hTl : ∀ k, T k → k < w0.heap.size) :
    ∀ (f : Fo) {R : Ending → World → Prop} {W : World} {oa : Option Addr} {L : List Ps} {p : Ps} {a : Option Addr} {n c : Nat}, f.size ≤ 1000000000 → good f → SlF T w0 a n f → (∀ k, T k → W.heap[k]? = w0.heap[k]?) → B ≤ W.heap.size →
      Blk W b13 [.func (.func 53) ⟨[]⟩ ⟨[.pointer (some ⟨b6, 0, none⟩), .pointer (some ⟨b10, 0, none⟩)]⟩] 87 → Blk W b16 [.func (.func 54) ⟨[]⟩ ⟨[.pointer (some ⟨b13, 0, none⟩), .pointer (some ⟨b10, 0, none⟩), .pointer (some ⟨b16, 0, none⟩)]⟩] 88 →
      PSt b6 b10 B W oa L p → L.length + (patF f).length ≤ 1000000000000 → 0 ≤ p.2 → p.2 + f.size ≤ 1000000000000 →
      (∀ oa' W', PSt b6 b10 B W' oa' (L ++ posL p (nodesF f)) (endL p (nodesF f)) → PTo b6 b10 oa W oa' W' → R (.returned (.tuple ⟨[]⟩)) W') →
      Calls Tryd.prog F_layout_positions_2 ⟨[.slice a n c, .pointer (some ⟨b13, 0, none⟩), .pointer (some ⟨b10, 0, none⟩), .pointer (some ⟨b16, 0, none⟩)]⟩ W R := by
  intro f
  induction hz : f.size using Nat.strongRecOn generalizing f with
  | _ z ih =>
  intro R W0 oa L p a n c hs hg hf hT hBW hB13 hB16 hst hlen hp0 hp1 h
  apply c_layout_positions_2
  have hn := hf.1
  have hfl := f.len_le_size
  refine ⟨fun i W m => ∃ (pr r : Fo) (oa1 : Option Addr) (L1 : List Ps) (p1 : Ps), f = pr.app r ∧ i = pr.len ∧ m = r.len ∧ PSt b6 b10 B W oa1 L1 p1 ∧ PTo b6 b10 oa W0 oa1 W ∧ L1 ++ posL p1 (nodesF r) = L ++ posL p (nodesF f) ∧ endL p1 (nodesF r) = endL p (nodesF f) ∧
    L1.length + (patF r).length ≤ 1000000000000 ∧ 0 ≤ p1.2 ∧ p1.2 + r.size ≤ 1000000000000,
    ⟨_, .nil, f, oa, L, p, rfl, rfl, rfl, hst, PTo.refl _ _, rfl, rfl, hlen, hp0, by omega⟩, ?_⟩
  rintro _ W m ⟨pr, r, oa1, L1, p1, hpr, rfl, rfl, hst1, hto, hL1, hE1, hlen1, hp10, hp11⟩ _
  have hwW := hto.chg.size
  refine br_split (fun hlt => ?_) (fun hge => ?_)
  · obtain ⟨k, t, mm, ps, r, rfl⟩ := Fo.next hpr (by omega)
    have hsl := Fo.sub_len hpr
    have hsz := Fo.sub_size hpr
    have hG := hg
    rw [hpr, good_app] at hG
    obtain ⟨_, hok, hgp, _⟩ := hG
    have e1 : f = (pr.app (.one k t mm ps)).app r := by rw [Fo.app_one_app]; exact hpr
    have i1 : IntKind.i64.wrap ((pr.len : Int) + 1) = ((pr.app (.one k t mm ps)).len : Int) := by rw [wrap_nat (by omega)]; simp [Fo.one]
    have nb : ∀ k, T k → ¬ (k = b6 ∨ k = b10 ∨ Sh.bk oa k) := fun k hk hh => by
      have := hTl k hk
      rcases hh with e | e | e
      · omega
      · omega
      · have := (hst.bk e).1; omega
    have hTW : ∀ k, T k → W.heap[k]? = w0.heap[k]? := fun k hk => (hto.chg.block k (by have := hTl k hk; omega) (nb k hk)).trans (hT k hk)
    obtain ⟨q, a', c', hq, hTq, hql, hN⟩ := (hf.keep (S' := T) (w' := W) (fun k hk _ => ⟨hk, hTW k hk⟩) (by omega)).get hpr
    have hNT : SlF T w0 a' ps.len ps := hN.sl.keep' fun k hk _ => ⟨hk, hTl k hk, (hTW k hk).symm⟩
    rw [patF_cons] at hlen1
    simp only [List.length_append] at hlen1
    simp only [Fo.size] at hp11
    rw [nodesF, posL, posL_app] at hL1
    rw [nodesF, endL, endL_app] at hE1
    refine hq _ ⟨k, hN.kind, t, hN.text, mm, hN.num, a', ps.len, c', hN.parts, ?_⟩
    refine al_stL (by simp) (by intro u hu; simp only [List.mem_cons, List.not_mem_nil, or_false] at hu; rcases hu with rfl | rfl | rfl | rfl <;> rfl) fun bx w1 hbx hBx e2 s2 => ?_
    have z2 := e2.size
    obtain ⟨x0, x1, x2, x3⟩ := blk4 hBx
    have hst2 := hst1.ext e2
    have n13 : ¬ (b13 = b6 ∨ b13 = b10 ∨ Sh.bk oa b13) := fun hh => by
      rcases hh with e | e | e
      · omega
      · omega
      · have := (hst.bk e).1; omega
    have n16 : ¬ (b16 = b6 ∨ b16 = b10 ∨ Sh.bk oa b16) := fun hh => by
      rcases hh with e | e | e
      · omega
      · omega
      · have := (hst.bk e).1; omega
    have hB13' := (hto.chg.blk hB13 n13).ext e2
    have hB16' := (hto.chg.blk hB16 n16).ext e2
    have fin : ∀ (W2 : World) (oa2 : Option Addr) (p2 : Ps) (n2 : Nat), posN p1 ⟨k, t, mm, ps⟩ = (p2, n2) → PSt b6 b10 B W2 oa2 (L1 ++ List.replicate n2 p2) p2 → PTo b6 b10 oa1 w1 oa2 W2 → 0 ≤ p2.2 → p2.2 ≤ p1.2 + 1 →
        dr (some ⟨b16, 0, none⟩) fun pp => ∃ (x : Fn) (xa xb : Array Value), World.cell? W2 pp = some (.func x xa xb) ∧ (∃ (y : Option Addr) (yn yc : Nat), World.cell? W2 ((⟨bx, 0, none⟩ : Addr).add 3) = some (.slice y yn yc) ∧
          (CallV Tryd.prog (.func x xa xb) [.slice y yn yc] W2 fun e w => e = .returned (.tuple ⟨[]⟩) ∧ ∃ m' : Nat, m' < (Fo.cons k t mm ps r).len ∧ ∃ (pr1 r1 : Fo) (oa3 : Option Addr) (L3 : List Ps) (p3 : Ps), f = pr1.app r1 ∧ IntKind.i64.wrap ((pr.len : Int) + 1) = pr1.len ∧ m' = r1.len ∧ PSt b6 b10 B w oa3 L3 p3 ∧ PTo b6 b10 oa W0 oa3 w ∧
            L3 ++ posL p3 (nodesF r1) = L ++ posL p (nodesF f) ∧ endL p3 (nodesF r1) = endL p (nodesF f) ∧ L3.length + (patF r1).length ≤ 1000000000000 ∧ 0 ≤ p3.2 ∧ p3.2 + r1.size ≤ 1000000000000)) := by
      intro W2 oa2 p2 n2 hpn hs2 ht2 hq0 hq1
      have z3 := ht2.chg.size
      have nn : ∀ j, b10 < j → j < B ∨ j = bx → ¬ (j = b6 ∨ j = b10 ∨ Sh.bk oa1 j) := fun j h1 h2 hh => by
        rcases hh with e | e | e
        · omega
        · omega
        · have := hst1.bk e; omega
      have hn2 : n2 = (patN ⟨k, t, mm, ps⟩).length := by have := posN_len p1 ⟨k, t, mm, ps⟩; rw [hpn] at this; exact this
      rw [hpn] at hL1 hE1
      have hbd := endL_bd (nodesF ps) p2 p2.2 hq0 (Int.le_refl _) hq0
      rw [nodesF_len] at hbd
      refine walk_tail (ht2.chg.blk hB16' (nn _ (by omega) (.inl (by omega)))) ((blk4 (ht2.chg.blk hBx (nn _ (by omega) (.inr rfl)))).2.2.2) ?_
      refine ih _ (hz ▸ hsz) ps rfl (by omega) hgp hNT (fun k hk => ?_) (by omega) (ht2.chg.blk hB13' (nn _ (by omega) (.inl (by omega)))) (ht2.chg.blk hB16' (nn _ (by omega) (.inl (by omega)))) hs2 ?_ hq0 (by omega)
        (fun oa3 W3 hs3 ht3 => ⟨rfl, r.len, by simp, _, r, oa3, _, _, e1, i1, rfl, hs3, ?_, ?_, hE1, ?_, hbd.1, by omega⟩)
      · have hk0 := hTl k hk
        refine (ht2.chg.block k (by omega) fun hh => ?_).trans ((e2.block k (by omega)).trans (hTW k hk))
        rcases hh with e | e | e
        · omega
        · omega
        · have := hst1.bk e; omega
      · simp only [List.length_append, List.length_replicate]; omega
      · exact ((hto.trans (by omega) (by omega) (PTo.ext e2)).trans (by omega) (by omega) ht2).trans (by omega) (by omega) ht3
      · rw [← hL1]; simp only [List.append_assoc]
      · simp only [List.length_append, List.length_replicate, posL_pat]; omega
    have hk0 : ∀ (p2 : Ps) (W2 : World), Blk W2 b10 [.string ⟨⟨p2.1⟩⟩, .int .i64 p2.2] 23 → Chg (fun j => j = b10) w1 W2 → PSt b6 b10 B W2 oa1 (L1 ++ List.replicate 0 p2) p2 ∧ PTo b6 b10 oa1 w1 oa1 W2 := by
      intro p2 W2 g1 g2
      obtain ⟨oc, h1, h2, h3⟩ := hst2
      refine ⟨⟨oc, by rw [List.replicate_zero, List.append_nil]; exact g2.blk h1 (by omega), by rw [List.replicate_zero, List.append_nil]; exact Owns.chg h2 g2 (fun i hi e => by have := (Owns.bk h2 hi).1; omega), g1⟩, g2.mono fun j _ e => .inr (.inl e), fun _ h => .inl h⟩
    have hB10 : Blk w1 b10 [.string ⟨⟨p1.1⟩⟩, .int .i64 p1.2] 23 := by obtain ⟨oc, h1, h2, h3⟩ := hst2; exact h3
    refine ⟨k, x0, br_split (fun g => ?_) (fun g => br_split (fun g' => ?_) (fun g' => br_split (fun g2 => ?_) (fun g2 => br_split (fun g3 => ?_) (fun g3 => ?_))))⟩
    · have hpn : posN p1 ⟨k, t, mm, ps⟩ = (p1, t.length) := by simp [posN, g]
      have hn2 := posN_len p1 ⟨k, t, mm, ps⟩
      rw [hpn] at hn2
      refine dr_ok ⟨.func 53, ⟨[]⟩, ⟨[.pointer (some ⟨b6, 0, none⟩), .pointer (some ⟨b10, 0, none⟩)]⟩, by rw [hB13'.cell]; rfl, t, x1, by kernel_rfl, ?_⟩
      exact add_spec (by omega) hst2 (by omega) t.length (by omega) fun oa2 W2 hs2 ht2 => ⟨rfl, fin W2 oa2 p1 _ hpn hs2 ht2 hp10 (by omega)⟩
    · have hpn : posN p1 ⟨k, t, mm, ps⟩ = (p1, mm.toNat) := by simp [posN, g, g']
      have hn2 := posN_len p1 ⟨k, t, mm, ps⟩
      rw [hpn] at hn2
      have hm : 0 ≤ mm ∧ mm < 100 := hok.2.2.1 (by simp only [numsF]; rw [show k = 6 from g']; rfl)
      refine dr_ok ⟨.func 53, ⟨[]⟩, ⟨[.pointer (some ⟨b6, 0, none⟩), .pointer (some ⟨b10, 0, none⟩)]⟩, by rw [hB13'.cell]; rfl, mm, x2, by kernel_rfl, ?_⟩
      have e0 : mm = ((mm.toNat : Nat) : Int) := by omega
      rw [e0]
      refine add_spec (by omega) hst2 (by omega) mm.toNat (by omega) fun oa2 W2 hs2 ht2 => ⟨rfl, ?_⟩
      rw [← e0]
      exact fin W2 oa2 p1 _ hpn hs2 ht2 hp10 (by omega)
    · refine ⟨t, x1, dr_ok ?_⟩
      refine stL_blk hB10 (by simp) (by intro u hu; simp only [List.mem_cons, List.not_mem_nil, or_false] at hu; rcases hu with rfl | rfl <;> rfl) fun W2 q1 q2 q3 q4 q5 q6 => ?_
      obtain ⟨y1, y2⟩ := hk0 (t, 0) W2 (by simpa [putAt] using q1) ⟨q4, q5, q6, by omega, fun k _ hk => q2 k hk⟩
      exact fin W2 oa1 (t, 0) 0 (by simp [posN, g, g', g2]) y1 y2 (Int.le_refl _) (by show (0 : Int) ≤ _; omega)
    · refine dr_ok ⟨p1.2, by simp only [add_none, hB10.cell]; rfl, dr_ok ?_⟩
      rw [show IntKind.i64.wrap (p1.2 + 1) = p1.2 + 1 from wrap_id (by omega)]
      rw [add_none]
      refine stL_blk (o := 1) hB10 (by simp) (by intro u hu; simp only [List.mem_cons, List.not_mem_nil, or_false] at hu; rcases hu with rfl; rfl) fun W2 q1 q2 q3 q4 q5 q6 => ?_
      obtain ⟨y1, y2⟩ := hk0 (p1.1, p1.2 + 1) W2 (by simpa [putAt] using q1) ⟨q4, q5, q6, by omega, fun k _ hk => q2 k hk⟩
      exact fin W2 oa1 (p1.1, p1.2 + 1) 0 (by simp [posN, g, g', g2, g3]) y1 y2 (by show 0 ≤ p1.2 + 1; omega) (Int.le_refl _)
    · obtain ⟨y1, y2⟩ := hk0 p1 w1 hB10 (Chg.refl _ _)
      exact fin w1 oa1 p1 0 (by simp [posN, g, g', g2, g3]) y1 y2 hp10 (by omega)
  · obtain ⟨rfl, rfl⟩ := Fo.last hpr (by omega)
    simp only [nodesF, posL, endL, List.append_nil] at hL1 hE1
    rw [hL1, hE1] at hst1
    exact h _ _ hst1 hto
end Go.Proofs
namespace Go.Proofs
open Go Go.Sh Go.RowKit

theorem blk2 {w : World} {b : Nat} {v0 v1 : Value} {T : TypeId} (h : Blk w b [v0, v1] T) : w.cell? ((⟨b, 0, none⟩ : Addr).add 0) = some v0 ∧ w.cell? ((⟨b, 0, none⟩ : Addr).add 1) = some v1 := by
  simp only [add_none, h.cell]; exact ⟨rfl, rfl⟩

set_option maxRecDepth 20000 in
theorem positions_spec {R : Ending → World → Prop} {S : Nat → Prop} {w : World} {a : Option Addr} {n c : Nat} (p : Ps) (f : Fo) (hs : f.size ≤ 1000000000) (hg : good f) (hl : tlen f ≤ 100000000000) (hp0 : 0 ≤ p.2) (hp1 : p.2 ≤ 1000000) (hf0 : SlF S w a n f)
    (h : ∀ a' c' w', RowAt encP (fun k => w.heap.size ≤ k) w' a' (posL p (nodesF f)).length (posL p (nodesF f)) → Ext w w' → R (.returned (.slice a' (posL p (nodesF f)).length c')) w') :
    Calls Tryd.prog F_layout_positions ⟨[.agg ⟨[.string ⟨⟨p.1⟩⟩, .int .i64 p.2]⟩, .slice a n c]⟩ w R := by
  have hlen := patF_len f hg
  apply c_layout_positions
  refine al_intro fun b4 w1 hb4 B4 e1 s1 => ?_
  refine al_intro fun b6 w2 hb6 B6 e2 s2 => ?_
  obtain ⟨x0, x1⟩ := blk2 (B4.ext e2)
  refine ⟨p.1, x0, p.2, x1, ?_⟩
  refine al_stL (by simp) (by intro u hu; simp only [List.mem_cons, List.not_mem_nil, or_false] at hu; rcases hu with rfl | rfl <;> rfl) fun b10 w3 hb10 B10 e3 s3 => ?_
  refine al_intro fun b13 w4' hb13 B13' e4' s4' => ?_
  refine stL_one B13' rfl fun w4 B13 hc4 s4 => ?_
  have e4 : Ext w3 w4 := ext_chgS e4' hc4 fun k hk => by omega
  refine al_intro fun b16 w5' hb16 B16' e5' s5' => ?_
  refine stL_one B16' rfl fun w5 B16 hc5 s5 => ?_
  have e5 : Ext w4 w5 := ext_chgS e5' hc5 fun k hk => by omega
  have E3 := ext_trans (ext_trans e1 e2) e3
  have E5 := ext_trans (ext_trans E3 e4) e5
  have z1 := e1.size
  have z2 := e2.size
  have z3 := e3.size
  have z4 := e4.size
  have z5 := e5.size
  have B6' := ((B6.ext e3).ext e4).ext e5
  have B10' := (B10.ext e4).ext e5
  have B13'' := B13.ext e5
  have hf : SlF (fun k => S k ∧ k < w.heap.size) w a n f := hf0.imp fun k hk hl => ⟨hk, hl⟩
  refine ⟨.func 54, ⟨[]⟩, ⟨[.pointer (some ⟨b13, 0, none⟩), .pointer (some ⟨b10, 0, none⟩), .pointer (some ⟨b16, 0, none⟩)]⟩, by rw [B16.cell]; rfl, by kernel_rfl, ?_⟩
  refine posWalk_spec (w0 := w) (b6 := b6) (b10 := b10) (b13 := b13) (b16 := b16) (B := w5.heap.size) ⟨by omega, by omega, by omega, by omega, by omega⟩ (fun k hk => hk.2) f (oa := none) (L := []) (p := p) hs hg hf (fun k hk => E5.block k hk.2) (Nat.le_refl _) B13'' B16
    ⟨0, B6', Owns.nil _ _ _ _, B10'⟩ (by simp; omega) hp0 (by omega) fun oa W hst hto => ⟨rfl, ?_⟩
  obtain ⟨oc, h1, h2, h3⟩ := hst
  rw [List.nil_append] at h1 h2
  refine ⟨oa, _, oc, by rw [h1.cell]; rfl, ?_⟩
  refine h oa oc W (h2.out.imp fun k hk hl => by have := (Owns.bk h2 hk).1; omega) (ext_chgS E5 hto.chg fun k hk => ?_)
  rcases hk with e | e | e
  · omega
  · omega
  · simp [bk] at e

theorem encP_blk {S : Nat → Prop} {w : World} {b : Nat} {p : Ps} (h : Blk w b (encP.enc p) 23) (hS : S b) : RowAt encP S w (some ⟨b, 0, none⟩) 1 [p] :=
  ⟨rfl, .inr ⟨b, 0, rfl, hS, h.lt, fun j v hj => by rw [Nat.zero_add, h.cell]; simpa [Enc.row] using hj⟩⟩

set_option maxRecDepth 20000 in
theorem walk13_spec {S : Nat → Prop} : ∀ (f : Fo) {R : Ending → World → Prop} {w : World} {a : Option Addr} {n c : Nat} (p : Ps) (hs : f.size ≤ 1000000000) (hg : good f) (hl : tlen f ≤ 100000000000) (hp0 : 0 ≤ p.2) (hp1 : p.2 + f.size ≤ 10000000000) (hf0 : SlF S w a n f)
    (h : ∀ a' c' w', RowAt encP (fun k => w.heap.size ≤ k) w' a' (posL p (nodesF f)).length (posL p (nodesF f)) → Ext w w' →
      R (.returned (.tuple ⟨[.slice a' (posL p (nodesF f)).length c', .agg ⟨[.string ⟨⟨(endL p (nodesF f)).1⟩⟩, .int .i64 (endL p (nodesF f)).2]⟩]⟩)) w'),
    Calls Tryd.prog F_ref13_walk ⟨[.agg ⟨[.string ⟨⟨p.1⟩⟩, .int .i64 p.2]⟩, .slice a n c]⟩ w R := by
  intro f
  induction hz : f.size using Nat.strongRecOn generalizing f with
  | _ z ih =>
  intro R w a n c p hs hg hl hp0 hp1 hf0 h
  apply c_ref13_walk
  have hn := hf0.1
  have hfl := f.len_le_size
  have hlen := patF_len f hg
  refine al_intro fun b4 w1 hb4 B4 e1 s1 => ?_
  refine al_intro fun b6 w2 hb6 B6 e2 s2 => ?_
  refine al_intro fun b8 w3 hb8 B8 e3 s3 => ?_
  have E3 := ext_trans (ext_trans e1 e2) e3
  have z1 := e1.size
  have z2 := e2.size
  have z3 := e3.size
  have hf : SlF (fun k => S k ∧ k < w.heap.size) w a n f := hf0.imp fun k hk hl => ⟨hk, hl⟩
  refine ⟨fun oa on oc i W m => ∃ (pr r : Fo) (L1 : List Ps) (p1 : Ps), f = pr.app r ∧ i = pr.len ∧ m = r.len ∧ on = L1.length ∧ OwnL encP W b8 23 oa on oc L1 ∧ Blk W b4 [.string ⟨⟨p1.1⟩⟩, .int .i64 p1.2] 23 ∧ Blk W b6 [.string ⟨⟨[]⟩⟩, .int .i64 0] 23 ∧ Ext w W ∧ b8 < W.heap.size ∧
    L1 ++ posL p1 (nodesF r) = posL p (nodesF f) ∧ endL p1 (nodesF r) = endL p (nodesF f) ∧ 0 ≤ p1.2 ∧ p1.2 + r.size ≤ 10000000000,
    ⟨_, .nil, f, [], p, rfl, rfl, rfl, rfl, Owns.made B8 (Nat.le_refl _), (B4.ext e2).ext e3, B6.ext e3, E3, by omega, rfl, rfl, hp0, by omega⟩, ?_⟩
  rintro oa _ oc _ W m ⟨pr, r, L1, p1, hpr, rfl, rfl, rfl, ho1, hb41, hb61, he, hlt8, hL1, hE1, hp10, hp11⟩ _
  have hwW := he.size
  refine br_split (fun hlt => ?_) (fun hge => ?_)
  · obtain ⟨k, t, mm, ps, r, rfl⟩ := Fo.next hpr (by omega)
    have hsl := Fo.sub_len hpr
    have hsz := Fo.sub_size hpr
    have hG := hg
    rw [hpr, good_app] at hG
    obtain ⟨_, hok, hgp, _⟩ := hG
    have hpt : tlen ps ≤ tlen f := by rw [hpr, tlen_app]; simp only [tlen]; omega
    have e1 : f = (pr.app (.one k t mm ps)).app r := by rw [Fo.app_one_app]; exact hpr
    have i1 : IntKind.i64.wrap ((pr.len : Int) + 1) = ((pr.app (.one k t mm ps)).len : Int) := by rw [wrap_nat (by omega)]; simp [Fo.one]
    obtain ⟨q, a', c', hq, hTq, hql, hN⟩ := (hf.ext he).get hpr
    simp only [Fo.size] at hp11
    rw [nodesF, posL, posL_app] at hL1
    rw [nodesF, endL, endL_app] at hE1
    have hLlen : L1.length + ((posN p1 ⟨k, t, mm, ps⟩).2 + (patF ps).length) ≤ (patF f).length := by
      have := congrArg List.length hL1
      rw [posL_pat] at this
      simp only [List.length_append, List.length_replicate, posL_pat] at this
      omega
    refine hq _ ⟨k, hN.kind, t, hN.text, mm, hN.num, a', ps.len, c', hN.parts, ?_⟩
    refine al_stL (by simp) (by intro u hu; simp only [List.mem_cons, List.not_mem_nil, or_false] at hu; rcases hu with rfl | rfl | rfl | rfl <;> rfl) fun bx W1 hbx hBx ex sx => ?_
    have zx := ex.size
    obtain ⟨x0, x1, x2, x3⟩ := blk4 hBx
    have hb42 := hb41.ext ex
    have ho2 := Owns.ext ho1 ex
    intro K24 hK24
    have k24 : ∀ (W2 : World) (p2 : Ps) (n2 : Nat) (x : Int), posN p1 ⟨k, t, mm, ps⟩ = (p2, n2) → x = n2 → Blk W2 b4 [.string ⟨⟨p2.1⟩⟩, .int .i64 p2.2] 23 → Chg (fun j => j = b4) W1 W2 → 0 ≤ p2.2 → p2.2 ≤ p1.2 + 1 → K24 x W2 := by
      rintro W2 p2 n2 _ hpn rfl hb43 hc2 hq0 hq1
      have zc := hc2.size
      rw [hpn] at hL1 hE1 hLlen
      replace hLlen : L1.length + (n2 + (patF ps).length) ≤ (patF f).length := hLlen
      have hbd := endL_bd (nodesF ps) p2 p2.2 hq0 (Int.le_refl _) hq0
      rw [nodesF_len] at hbd
      refine hK24 _ _ fun _ => ?_
      have ho3 : OwnL encP W2 b8 23 oa L1.length oc L1 := Owns.chg ho2 hc2 fun j hj e => by have := (Owns.bk ho2 hj).1; omega
      have hx2 := hc2.blk hBx (by omega)
      have hb63 := hc2.blk (hb61.ext ex) (by omega)
      have he3 : Ext w W2 := ext_chgS (ext_trans he ex) hc2 fun j hj => by omega
      refine ⟨fun oa2 on2 oc2 kk W3 m => ∃ j : Nat, j ≤ n2 ∧ kk = j ∧ m = n2 - j ∧ on2 = (L1 ++ List.replicate j p2).length ∧ OwnL encP W3 b8 23 oa2 on2 oc2 (L1 ++ List.replicate j p2) ∧ Blk W3 b4 [.string ⟨⟨p2.1⟩⟩, .int .i64 p2.2] 23 ∧ Blk W3 b6 [.string ⟨⟨[]⟩⟩, .int .i64 0] 23 ∧
        Blk W3 bx [.int .i64 k, .string ⟨⟨t⟩⟩, .int .i64 mm, .slice a' ps.len c'] 45 ∧ Ext w W3 ∧ W2.heap.size ≤ W3.heap.size ∧ (∀ i, bk oa2 i → i ≠ bx), ⟨_, 0, by omega, rfl, rfl, by simp, by simpa using ho3, hb43, hb63, hx2, he3, Nat.le_refl _, fun i hi e => by have := (Owns.bk ho1 hi).2; omega⟩, ?_⟩
      rintro oa2 _ oc2 _ W3 m ⟨j, hj, rfl, rfl, rfl, g1, g2, g3, g4, g5, g6, g7⟩ _
      have hll : (L1 ++ List.replicate j p2).length = L1.length + j := by simp
      have n4 : ¬ bk oa2 b4 := fun hh => by have := (Owns.bk g1 hh).1; omega
      have n6 : ¬ bk oa2 b6 := fun hh => by have := (Owns.bk g1 hh).1; omega
      have nx : ¬ bk oa2 bx := fun hh => g7 _ hh rfl
      refine br_split (fun g => ?_) (fun g => ?_)
      · obtain ⟨y0, y1⟩ := blk2 g2
        refine ⟨p2.1, y0, p2.2, y1, ?_⟩
        refine OwnL.push slT_pos g1 (by omega) p2 (by omega) (by omega) fun a'' c'' W4 ho hc hn => ?_
        have z4 := hc.size
        refine ⟨n2 - (j + 1), by omega, j + 1, by omega, by rw [wrap_nat (by omega)], rfl, by simp; omega, ?_, hc.blk g2 n4, hc.blk g3 n6, hc.blk g4 nx, ext_chgS g5 hc fun i hi => by have := (Owns.bk g1 hi).1; omega, by omega, fun i hi e => (hn i hi).elim (fun hh => g7 i hh e) (fun hh => by omega)⟩
        rw [List.replicate_succ', ← List.append_assoc]
        exact ho
      · have : j = n2 := by omega
        subst this
        obtain ⟨y0, y1⟩ := blk2 g2
        refine ⟨p2.1, y0, p2.2, y1, a', ps.len, c', (blk4 g4).2.2.2, ?_⟩
        have hpsl : SlF (fun k => S k ∧ k < w.heap.size) W3 a' ps.len ps := hN.sl.keep (fun i hi hl => ⟨hi, (g5.block i hi.2).trans (he.block i hi.2).symm⟩) (by omega)
        refine ih _ (hz ▸ hsz) ps rfl p2 (by omega) hgp (by omega) hq0 (by omega) (hpsl.imp fun i hi _ => hi.1) fun a4 c4 w4 hrow e4 => ⟨_, _, _, _, _, rfl, ?_⟩
        have z4 := e4.size
        refine al_stL (by simp) (by intro u hu; simp only [List.mem_cons, List.not_mem_nil, or_false] at hu; rcases hu with rfl | rfl <;> rfl) fun b48 w5 hb48 B48 e5 s5 => ?_
        have z5 := e5.size
        have E35 := ext_trans e4 e5
        have hdr := ext_drew w5
        unfold drw
        have E36 := ext_trans E35 hdr
        have h48 := B48.ext hdr
        have g1' := Owns.ext g1 E36
        have hrow' := (hrow.ext e5).ext hdr
        have zd : w5.drew.heap.size = w5.heap.size := rfl
        obtain ⟨u0, u1⟩ := blk2 h48
        have hb4' := g2.ext E36
        have hb6' := g3.ext E36
        have hpp := posL_pat p2 ps
        have fin : ∀ (W6 : World) (oa6 : Option Addr) (oc6 : Nat), OwnL encP W6 b8 23 oa6 ((L1 ++ List.replicate j p2).length + (posL p2 (nodesF ps)).length) oc6 ((L1 ++ List.replicate j p2) ++ posL p2 (nodesF ps)) → Blk W6 b4 [.string ⟨⟨(endL p2 (nodesF ps)).1⟩⟩, .int .i64 (endL p2 (nodesF ps)).2] 23 →
            Chg (fun i => i = b4 ∨ bk oa2 i) w5.drew W6 → ∃ m' : Nat, m' < (Fo.cons k t mm ps r).len ∧ ∃ (pr1 r1 : Fo) (L3 : List Ps) (p3 : Ps), f = pr1.app r1 ∧ IntKind.i64.wrap ((pr.len : Int) + 1) = pr1.len ∧ m' = r1.len ∧ (L1 ++ List.replicate j p2).length + (posL p2 (nodesF ps)).length = L3.length ∧
              OwnL encP W6 b8 23 oa6 ((L1 ++ List.replicate j p2).length + (posL p2 (nodesF ps)).length) oc6 L3 ∧ Blk W6 b4 [.string ⟨⟨p3.1⟩⟩, .int .i64 p3.2] 23 ∧ Blk W6 b6 [.string ⟨⟨[]⟩⟩, .int .i64 0] 23 ∧ Ext w W6 ∧ b8 < W6.heap.size ∧ L3 ++ posL p3 (nodesF r1) = posL p (nodesF f) ∧ endL p3 (nodesF r1) = endL p (nodesF f) ∧ 0 ≤ p3.2 ∧ p3.2 + r1.size ≤ 10000000000 := by
          intro W6 oa6 oc6 q1 q2 q3
          have z6 := q3.size
          refine ⟨r.len, by simp, _, r, _, _, e1, i1, rfl, List.length_append.symm, q1, q2, q3.blk hb6' (fun hh => hh.elim (by omega) n6), ext_chgS (ext_trans g5 E36) q3 fun i hi => hi.elim (fun e => by omega) (fun e => by have := (Owns.bk g1 e).1; omega), by omega, ?_, hE1, hbd.1, by omega⟩
          rw [← hL1]; simp only [List.append_assoc]
        refine ⟨?_, ⟨(endL p2 (nodesF ps)).1, u0, (endL p2 (nodesF ps)).2, u1, ?_, trivial⟩, trivial⟩
        · refine OwnL.pushAll slT_pos g1' (by omega) hrow' (by omega) (by omega) fun a6 c6 W6 ho hc hn => ?_
          have n48 : ¬ bk oa2 b48 := fun hh => by have := (Owns.bk g1 hh).2; omega
          obtain ⟨v0, v1⟩ := blk2 (hc.blk h48 n48)
          refine ⟨_, v0, _, v1, ?_, trivial⟩
          refine stL_blk (hc.blk hb4' n4) (by simp) (by intro u hu; simp only [List.mem_cons, List.not_mem_nil, or_false] at hu; rcases hu with rfl | rfl <;> rfl) fun W7 q1 q2 q3 q4 q5 q6 => ?_
          have hc7 : Chg (fun i => i = b4) W6 W7 := ⟨q4, q5, q6, by omega, fun k _ hk => q2 k hk⟩
          have z6 := hc.size
          exact fin W7 a6 c6 (Owns.chg ho hc7 fun i hi e => by subst e; exact (hn _ hi).elim n4 (by omega)) (by simpa [putAt] using q1) (chg_then (hc.mono fun i _ hi => .inr hi) hc7 fun i _ e => .inl e)
        · refine OwnL.pushAll slT_pos g1' (by omega) hrow' (by omega) (by omega) fun a6 c6 W6 ho hc hn => ⟨?_, trivial⟩
          refine stL_blk (hc.blk hb4' n4) (by simp) (by intro u hu; simp only [List.mem_cons, List.not_mem_nil, or_false] at hu; rcases hu with rfl | rfl <;> rfl) fun W7 q1 q2 q3 q4 q5 q6 => ?_
          have hc7 : Chg (fun i => i = b4) W6 W7 := ⟨q4, q5, q6, by omega, fun k _ hk => q2 k hk⟩
          have z6 := hc.size
          exact fin W7 a6 c6 (Owns.chg ho hc7 fun i hi e => by subst e; exact (hn _ hi).elim n4 (by omega)) (by simpa [putAt] using q1) (chg_then (hc.mono fun i _ hi => .inr hi) hc7 fun i _ e => .inl e)
    refine ⟨k, x0, br_split (fun g2 => ?_) (fun g2 => br_split (fun g3 => ?_) (fun g3 => br_split (fun g => ?_) (fun g => br_split (fun g' => ?_) (fun g' => ?_))))⟩
    · refine ⟨t, x1, ?_⟩
      refine stL_blk hb42 (by simp) (by intro u hu; simp only [List.mem_cons, List.not_mem_nil, or_false] at hu; rcases hu with rfl | rfl <;> rfl) fun W2 q1 q2 q3 q4 q5 q6 => ?_
      exact k24 W2 (t, 0) 0 _ (by simp [posN, g2]) rfl (by simpa [putAt] using q1) ⟨q4, q5, q6, by omega, fun k _ hk => q2 k hk⟩ (Int.le_refl _) (by show (0 : Int) ≤ _; omega)
    · obtain ⟨y0, y1⟩ := blk2 hb42
      refine ⟨p1.2, y1, ?_⟩
      rw [show IntKind.i64.wrap (p1.2 + 1) = p1.2 + 1 from wrap_id (by omega), add_none]
      refine stL_blk (o := 1) hb42 (by simp) (by intro u hu; simp only [List.mem_cons, List.not_mem_nil, or_false] at hu; rcases hu with rfl; rfl) fun W2 q1 q2 q3 q4 q5 q6 => ?_
      exact k24 W2 (p1.1, p1.2 + 1) 0 _ (by simp [posN, g2, g3]) rfl (by simpa [putAt] using q1) ⟨q4, q5, q6, by omega, fun k _ hk => q2 k hk⟩ (by show 0 ≤ p1.2 + 1; omega) (Int.le_refl _)
    · exact ⟨t, x1, k24 W1 p1 t.length _ (by simp [posN, g]) rfl hb42 (Chg.refl _ _) hp10 (by omega)⟩
    · have hm : 0 ≤ mm ∧ mm < 100 := hok.2.2.1 (by simp only [numsF]; rw [show k = 6 from g']; rfl)
      exact ⟨mm, x2, k24 W1 p1 mm.toNat _ (by simp [posN, g']) (by omega) hb42 (Chg.refl _ _) hp10 (by omega)⟩
    · exact k24 W1 p1 0 _ (by simp [posN, g, g', g2, g3]) rfl hb42 (Chg.refl _ _) hp10 (by omega)
  · obtain ⟨rfl, rfl⟩ := Fo.last hpr (by omega)
    simp only [nodesF, posL, endL, List.append_nil] at hL1 hE1
    subst hL1
    rw [← hE1] at h
    unfold drw
    have hdr := ext_drew W
    have h4 := hb41.ext hdr
    have h6 := hb61.ext hdr
    have hod := Owns.ext ho1 hdr
    obtain ⟨y0, y1⟩ := blk2 h4
    refine ⟨_, y0, _, y1, ?_, trivial⟩
    refine stL_blk h6 (by simp) (by intro u hu; simp only [List.mem_cons, List.not_mem_nil, or_false] at hu; rcases hu with rfl | rfl <;> rfl) fun W2 q1 q2 q3 q4 q5 q6 => ?_
    have hc7 : Chg (fun i => i = b6) W.drew W2 := ⟨q4, q5, q6, by omega, fun k _ hk => q2 k hk⟩
    obtain ⟨v0, v1⟩ := blk2 (show Blk W2 b6 [.string ⟨⟨p1.1⟩⟩, .int .i64 p1.2] 23 by simpa [putAt] using q1)
    refine ⟨_, v0, _, v1, ?_⟩
    have ho7 : OwnL encP W2 b8 23 oa _ oc _ := Owns.chg hod hc7 fun i hi e => by have := (Owns.bk hod hi).1; omega
    exact h oa oc W2 (ho7.out.imp fun k hk hl => by have := (Owns.bk ho7 hk).1; omega) (ext_chgS (ext_trans he hdr) hc7 fun k hk => by omega)
end Go.Proofs
namespace Go.Proofs
open Go Go.Sh Go.RowKit

/- rows of successive equal positions -/
def runGo (L : List Ps) (x : Ps) : Nat → Nat → Nat
  | 0, j => j
  | m + 1, j => if L[j]? = some x then runGo L x m (j + 1) else j
def runE (L : List Ps) (i : Nat) : Nat := match L[i]? with
  | some x => runGo L x (L.length - (i + 1)) (i + 1)
  | none => i + 1
def rowsGo (L : List Ps) : Nat → Nat → List (Nat × Nat)
  | 0, _ => []
  | m + 1, i => if i < L.length then (i, runE L i) :: rowsGo L m (runE L i) else []
def rowsF (L : List Ps) : List (Nat × Nat) := rowsGo L L.length 0
theorem runGo_spec (L : List Ps) (x : Ps) : ∀ (m j : Nat), j ≤ L.length → m = L.length - j → j ≤ runGo L x m j ∧ runGo L x m j ≤ L.length ∧ (∀ k, j ≤ k → k < runGo L x m j → L[k]? = some x) ∧ (runGo L x m j < L.length → L[runGo L x m j]? ≠ some x)
  | 0, j, hj, hm => ⟨Nat.le_refl _, by rw [runGo]; exact hj, fun k h1 h2 => by rw [runGo] at h2; omega, fun h => by rw [runGo] at h; omega⟩
  | m + 1, j, hj, hm => by
    rw [runGo]
    by_cases h : L[j]? = some x
    · rw [if_pos h]
      obtain ⟨a, b, c, d⟩ := runGo_spec L x m (j + 1) (by omega) (by omega)
      refine ⟨by omega, b, fun k h1 h2 => ?_, d⟩
      by_cases hk : k = j
      · rw [hk]; exact h
      · exact c k (by omega) h2
    · rw [if_neg h]
      exact ⟨Nat.le_refl _, hj, fun k h1 h2 => by omega, fun _ => h⟩
theorem runE_spec {L : List Ps} {i : Nat} (hi : i < L.length) : i < runE L i ∧ runE L i ≤ L.length ∧ (∀ k, i ≤ k → k < runE L i → L[k]? = L[i]?) ∧ (runE L i < L.length → L[runE L i]? ≠ L[i]?) := by
  have h : L[i]? = some L[i] := by simp [hi]
  unfold runE
  rw [h]
  simp only
  obtain ⟨a, b, c, d⟩ := runGo_spec L L[i] (L.length - (i + 1)) (i + 1) (by omega) rfl
  refine ⟨by omega, b, fun k h1 h2 => ?_, d⟩
  by_cases hk : k = i
  · rw [hk]; exact h
  · exact c k (by omega) h2
def RwE (x : Nat × Nat) (vs : List Value) : Prop := vs = [.int .i64 x.1, .int .i64 x.2]

theorem rows_iterO {T : Nat → Prop} (L : List Ps) (hs : L.length ≤ 1000000000000) {a : Option Addr} {c : Nat} (b : Nat) (w : World) (hTl : ∀ k, T k → k < w.heap.size) (hb : Blk w b [.slice a L.length c] 27) (hL : RowAt encP T w a L.length L) (hbT : T b) :
    IterO Tryd.prog F_layout_rows_1 [.pointer (some ⟨b, 0, none⟩)] (rowsF L) RwE T w := by
  intro yf ya yb S0 J Jx R hS hJ hJx hbody h0 hend hstop
  apply c_layout_rows_1
  refine ⟨fun fr W m => ∃ (i : Nat) (pre : List (Nat × Nat)) (S1 : Nat → Prop), fr = i ∧ i ≤ L.length ∧ L.length ≤ m + i ∧ pre ++ rowsGo L m i = rowsF L ∧ J pre S1 W ∧ (∀ k, S1 k → k < W.heap.size ∧ ¬ T k) ∧ (∀ k, T k → W.heap[k]? = w.heap[k]?) ∧ w.heap.size ≤ W.heap.size,
    ⟨L.length, 0, [], S0, rfl, by omega, by omega, rfl, h0, hS, fun _ _ => rfl, Nat.le_refl _⟩, ?_⟩
  rintro _ W m ⟨i, pre, S1, rfl, hi, hm, hpre, hj, hS1, hTW, hsz⟩ _
  have hbW : Blk W b [.slice a L.length c] 27 := by unfold Blk at *; rw [hTW b hbT]; exact hb
  have hLW : RowAt encP T W a L.length L := hL.keep (fun k hk _ => ⟨hk, hTW k hk⟩) hsz
  refine dr_ok ⟨a, _, c, by rw [hbW.cell]; rfl, br_split (fun g => ?_) (fun g => ?_)⟩
  · have hil : i < L.length := by omega
    obtain ⟨m, rfl⟩ : ∃ m', m = m' + 1 := ⟨m - 1, by omega⟩
    rw [rowsGo, if_pos hil] at hpre
    obtain ⟨r1, r2, r3, r4⟩ := runE_spec hil
    intro K10 hK10
    have k10 : ∀ W2, Ext W W2 → K10 (runE L i : Nat) W2 := by
      intro W2 e2
      have z2 := e2.size
      refine hK10 _ _ fun _ => ?_
      refine CallV_mono (hbody pre (i, runE L i) _ S1 W2 rfl ⟨rowsGo L m (runE L i), by rw [← hpre]; simp⟩ (by omega) (fun k hk => ⟨by have := (hS1 k hk).1; omega, (hS1 k hk).2⟩) (hJ _ _ _ _ hj (Chg.of_ext e2))) ?_
      rintro e W3 ⟨hc, S', hS', ⟨rfl, hj'⟩ | ⟨rfl, hx'⟩⟩
      · have z3 := hc.size
        refine ⟨true, rfl, ?_⟩
        refine ⟨m, by omega, runE L i, pre ++ [(i, runE L i)], S', rfl, r2, by omega, by rw [← hpre]; simp, hj', fun k hk => ⟨(hS' k hk).2, fun ht => (hS' k hk).1.elim (fun h => (hS1 k h).2 ht) (fun h => by have := hTl k ht; omega)⟩, fun k hk => ?_, by omega⟩
        have := hTl k hk
        exact (hc.block k (by omega) (fun h => (hS1 k h).2 hk)).trans ((e2.block k (by omega)).trans (hTW k hk))
      · exact ⟨false, rfl, hstop S' W3 (by have := hc.size; omega) hx'⟩
    have hx : L[i]? = some L[i] := by simp [hil]
    have hrE : runE L i = runGo L L[i] (L.length - (i + 1)) (i + 1) := by unfold runE; rw [hx]
    refine ⟨fun tt W2 mm => ∃ j : Nat, tt = j ∧ i < j ∧ j ≤ L.length ∧ mm = L.length - j ∧ Ext W W2 ∧ runGo L L[i] mm j = runE L i, ⟨_, i + 1, by rw [wrap_nat (by omega)], by omega, by omega, rfl, Below.refl _ _, hrE.symm⟩, ?_⟩
    rintro _ W2 mm ⟨j, rfl, hij, hjl, rfl, e2, hrun⟩ _
    unfold drw
    have e3 := ext_trans e2 (ext_drew W2)
    have hb3 := hbW.ext e3
    refine dr_ok ⟨a, _, c, by rw [hb3.cell]; rfl, br_split (fun g1 => ?_) (fun g1 => ?_)⟩
    · have hjl' : j < L.length := by omega
      have hjx : L[j]? = some L[j] := by simp [hjl']
      have hL3 := hLW.ext e3
      obtain ⟨bb, o, hq, _, _, hc⟩ := hL3.get hjx
      obtain ⟨bb', o', hq', _, _, hc'⟩ := hL3.get hx
      refine dr_ok ⟨a, _, c, by rw [hb3.cell]; rfl, hq _ ⟨L[j].1, by rw [add_none]; exact hc 0 _ rfl, L[j].2, by rw [add_none]; exact hc 1 _ rfl, dr_ok ⟨a, _, c, by rw [hb3.cell]; rfl, hq' _ ⟨L[i].1, by rw [add_none]; exact hc' 0 _ rfl, L[i].2, by rw [add_none]; exact hc' 1 _ rfl, ?_⟩⟩⟩⟩
      obtain ⟨d, hd⟩ : ∃ d, L.length - j = d + 1 := ⟨L.length - j - 1, by omega⟩
      rw [hd, runGo] at hrun
      have hdec : (decide (L[j].1 = L[i].1) && (decide (L[j].2 = L[i].2) && true)) = decide (L[j]? = some L[i]) := by
        rw [hjx, Bool.and_true, ← Bool.decide_and, decide_eq_decide, Option.some.injEq, Prod.ext_iff]
      rw [hdec]
      refine br_split (fun g2 => ?_) (fun g2 => ?_)
      · rw [if_pos g2] at hrun
        exact ⟨d, by omega, j + 1, by rw [wrap_nat (by omega)], by omega, by omega, by omega, e3, hrun⟩
      · rw [if_neg g2] at hrun
        rw [hrun]; exact k10 _ e3
    · have : L.length - j = 0 := by omega
      rw [this, runGo] at hrun
      rw [hrun]; exact k10 _ e3
  · have hx : rowsGo L m i = [] := by
      cases m with
      | zero => rfl
      | succ m => rw [rowsGo, if_neg (by omega)]
    rw [hx, List.append_nil] at hpre
    subst hpre
    exact hend S1 W hsz hj
theorem rows_spec {R : Ending → World → Prop} {w : World} {a : Option Addr} {n c : Nat}
    (h : ∀ b w', Blk w' b [.slice a n c] 27 → Ext w w' → b = w.heap.size → R (.returned (.func (.func F_layout_rows_1) ⟨[]⟩ ⟨[.pointer (some ⟨b, 0, none⟩)]⟩)) w') :
    Calls Tryd.prog F_layout_rows ⟨[.slice a n c]⟩ w R := by
  apply c_layout_rows
  refine al_intro fun b w' hb h1 h2 h3 => ?_
  exact h b w' h1 h2 hb

/- where rows begin -/
def isStart (L : List Ps) (i : Nat) : Bool := decide (i = 0 ∨ L[i]? ≠ L[i - 1]?)
theorem rows_starts (L : List Ps) : ∀ (m i : Nat), i ≤ L.length → L.length ≤ m + i → isStart L i = true ∨ i = L.length → (rowsGo L m i).map (·.1) = (List.range' i (L.length - i)).filter (isStart L)
  | 0, i, hi, hm, _ => by rw [show L.length - i = 0 by omega]; rfl
  | m + 1, i, hi, hm, hst => by
    rw [rowsGo]
    by_cases hil : i < L.length
    · rw [if_pos hil, List.map_cons]
      obtain ⟨r1, r2, r3, r4⟩ := runE_spec hil
      have hst' : isStart L i = true := hst.resolve_right (by omega)
      have e1 : List.range' i (L.length - i) = i :: (List.range' (i + 1) (runE L i - (i + 1)) ++ List.range' (runE L i) (L.length - runE L i)) := by
        have e2 : L.length - i = (L.length - i - 1) + 1 := by omega
        rw [e2, List.range'_succ]
        congr 1
        have := List.range'_append (s := i + 1) (m := runE L i - (i + 1)) (n := L.length - runE L i) (step := 1)
        rw [show i + 1 + 1 * (runE L i - (i + 1)) = runE L i by omega] at this
        rw [this]
        congr 1
        omega
      rw [e1, List.filter_cons, if_pos hst', List.filter_append]
      congr 1
      have e3 : (List.range' (i + 1) (runE L i - (i + 1))).filter (isStart L) = [] := by
        rw [List.filter_eq_nil_iff]
        intro j hj
        rw [List.mem_range'_1] at hj
        have a1 := r3 j (by omega) (by omega)
        have a2 := r3 (j - 1) (by omega) (by omega)
        unfold isStart
        simp only [decide_eq_true_eq, not_or]
        exact ⟨by omega, fun h => h (a1.trans a2.symm)⟩
      rw [e3, List.nil_append]
      refine rows_starts L m (runE L i) r2 (by omega) ?_
      by_cases hr : runE L i < L.length
      · left
        have a2 := r3 (runE L i - 1) (by omega) (by omega)
        unfold isStart
        rw [decide_eq_true_eq]
        right
        rw [a2]; exact r4 hr
      · right; omega
    · rw [if_neg hil, show L.length - i = 0 by omega]; rfl
theorem rowsF_starts (L : List Ps) : (rowsF L).map (·.1) = (List.range L.length).filter (isStart L) := by
  rw [rowsF, rows_starts L L.length 0 (by omega) (by omega) (.inl (by simp [isStart])), List.range_eq_range']
  rfl

/- characters within words -/
def innB (b : UInt8) : Bool := decide (kd b = 1 ∨ kd b = 2 ∨ kd b = 3 ∨ kd b = 4 ∨ b = 95)
theorem inner_spec {R : Ending → World → Prop} {w : World} (b : UInt8) (h : R (.returned (.bool (innB b))) w) : Calls Tryd.prog F_layout_Broken_1 ⟨[.int .u8 (b.toNat : Int)]⟩ w R := by
  apply c_layout_Broken_1
  have h95 : ((b.toNat : Int) = 95) ↔ b = 95 := by
    constructor
    · intro h; apply UInt8.toNat_inj.1; show b.toNat = 95; omega
    · rintro rfl; rfl
  have tr : (kd b = 1 ∨ kd b = 2 ∨ kd b = 3 ∨ kd b = 4) → R (.returned (.bool true)) w := fun hh => by
    rw [show innB b = true by unfold innB; rw [decide_eq_true_eq]; rcases hh with e | e | e | e <;> simp [e]] at h; exact h
  have fl : ¬ (kd b = 1 ∨ kd b = 2 ∨ kd b = 3 ∨ kd b = 4) → R (.returned (.bool (decide ((b.toNat : Int) = 95)))) w := fun hh => by
    have e : innB b = decide ((b.toNat : Int) = 95) := by
      unfold innB
      rw [decide_eq_decide, h95]
      refine ⟨fun hq => ?_, fun e => .inr (.inr (.inr (.inr e)))⟩
      rcases hq with e | e | e | e | e
      · exact absurd (.inl e) hh
      · exact absurd (.inr (.inl e)) hh
      · exact absurd (.inr (.inr (.inl e))) hh
      · exact absurd (.inr (.inr (.inr e))) hh
      · exact e
    rw [e] at h; exact h
  refine Kind_spec b ⟨_, rfl, br_split (fun g => br_split (fun _ => tr (.inl g)) (fun g' => absurd g g')) (fun g1 => br_split (fun g => br_split (fun _ => tr (.inr (.inl g))) (fun g' => absurd g g')) (fun g2 => br_split (fun g => br_split (fun _ => tr (.inr (.inr (.inl g)))) (fun g' => absurd g g'))
    (fun g3 => br_split (fun g => tr (.inr (.inr (.inr g)))) (fun g4 => fl fun hh => ?_))))⟩
  rcases hh with e | e | e | e
  · exact g1 e
  · exact g2 e
  · exact g3 e
  · exact g4 e
end Go.Proofs
