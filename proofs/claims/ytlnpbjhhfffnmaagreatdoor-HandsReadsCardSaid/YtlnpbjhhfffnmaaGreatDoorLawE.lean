/- The contracts of the functions that the law reaches, one after the other, and at the end the law's card. -/
import Derived.Test.YtlnpbjhhfffnmaaGreatDoorLawD
import Derived.Laws.IdiomStrings
namespace Go.Proofs
open Go Go.Sh Go.RowKit

theorem four_one (k : Int) (t : List UInt8) (m : Int) (a : Option Addr) (n c : Nat) : ∀ u ∈ [Value.int .i64 k, .string ⟨⟨t⟩⟩, .int .i64 m, .slice a n c], u.oneCell' = true := by
  intro u hu; simp only [List.mem_cons, List.not_mem_nil, or_false] at hu; rcases hu with rfl | rfl | rfl | rfl <;> rfl
theorem SameT_spec {S S' : Nat → Prop} : ∀ (f : Fo) {R : Ending → World → Prop} {w : World} {a b : Option Addr} {n c n' c' : Nat} {g : Fo} (hf : SlF S w a n f) (hg : SlF S' w b n' g) (hs : small f)
    (h : ∀ w', Ext w w' → R (.returned (.bool (decide (f = g)))) w'), Calls Tryz.prog F_transcript_Same ⟨[.slice a n c, .slice b n' c']⟩ w R := by
  intro f
  induction hz : f.size using Nat.strongRecOn generalizing f with
  | _ z ih =>
  intro R w a b n c n' c' g hf hg hs h
  apply c_transcript_Same
  apply c_slices_EqualFunc_of_api_Node_api_Node_api_Node_api_Node
  have hn := hf.1
  have hn' := hg.1
  refine br_split (fun h1 => ⟨_, rfl, ?_⟩) (fun h1 => ?_)
  · rw [show decide (f = g) = false by rw [decide_eq_false_iff_not]; rintro rfl; omega] at h
    exact h w (Below.refl _ _)
  refine ⟨fun i W m => ∃ (p1 r1 p2 r2 : Fo), f = p1.app r1 ∧ g = p2.app r2 ∧ p1.len = p2.len ∧ i = p1.len ∧ m = r1.len ∧ Ext w W ∧ (f = g ↔ r1 = r2), ⟨_, .nil, f, .nil, g, rfl, rfl, rfl, rfl, rfl, Below.refl _ _, Iff.rfl⟩, ?_⟩
  rintro _ W m ⟨p1, r1, p2, r2, e1, e2, e3, rfl, rfl, he, hiff⟩ _
  refine br_split (fun hlt => ?_) (fun hge => ?_)
  · obtain ⟨k1, t1, m1, s1, r1, rfl⟩ := Fo.next e1 (by omega)
    obtain ⟨k2, t2, m2, s2, r2, rfl⟩ := Fo.next e2 (by omega)
    obtain ⟨q1, a1, c1, i1, _, l1, n1⟩ := (hf.ext he).get e1
    have hsub := Fo.sub_size e1
    have hsl := Fo.sub_len e1
    have hle := f.len_le_size
    simp only [Fo.cons.injEq] at hiff
    refine i1 _ ⟨_, n1.kind, _, n1.text, _, n1.num, _, _, _, n1.parts, al_stL (by simp) (four_one _ _ _ _ _ _) fun b1 w1 hb1 B1 x1 s1' => ?_⟩
    have he1 := ext_trans he x1
    obtain ⟨q2, a2, c2, i2, _, l2, n2⟩ := (hg.ext he1).get e2
    rw [← e3] at i2
    refine i2 _ ⟨_, n2.kind, _, n2.text, _, n2.num, _, _, _, n2.parts, al_stL (by simp) (four_one _ _ _ _ _ _) fun b2 w2 hb2 B2 x2 s2' => ?_⟩
    have he2 := ext_trans he1 x2
    obtain ⟨u0, u1, u2, u3⟩ := blk4 (B1.ext x2)
    obtain ⟨v0, v1, v2, v3⟩ := blk4 B2
    have y1 := (n1.sl.ext x1).ext x2
    have y2 := n2.sl.ext x2
    refine ⟨_, u0, _, u1, _, u2, _, _, _, u3, _, v0, _, v1, _, v2, _, _, _, v3, by kernel_rfl, ?_⟩
    -- the closure
    have clo : ∀ {R' : Ending → World → Prop}, (∀ w', Ext w2 w' → R' (.returned (.bool (decide (k1 = k2 ∧ t1 = t2 ∧ m1 = m2 ∧ s1 = s2)))) w') →
        Calls Tryz.prog F_transcript_Same_1 ⟨[.agg ⟨[.int .i64 k1, .string ⟨⟨t1⟩⟩, .int .i64 m1, .slice a1 s1.len c1]⟩, .agg ⟨[.int .i64 k2, .string ⟨⟨t2⟩⟩, .int .i64 m2, .slice a2 s2.len c2]⟩]⟩ w2 R' := by
      intro R' hR
      apply c_transcript_Same_1
      refine al_intro fun b3 w3 hb3 B3 x3 s3' => al_intro fun b4 w4 hb4 B4 x4 s4' => ?_
      obtain ⟨u0, u1, u2, u3⟩ := blk4 (B3.ext x4)
      obtain ⟨v0, v1, v2, v3⟩ := blk4 B4
      have X := ext_trans x3 x4
      refine ⟨_, u0, _, v0, br_split (fun d1 => ⟨_, u1, _, v1, br_split (fun d2 => ⟨_, u2, _, v2, br_split (fun d3 => ⟨_, _, _, u3, _, _, _, v3, ?_⟩) (fun d3 => ?_)⟩) (fun d2 => ?_)⟩) (fun d1 => ?_)⟩
      · refine ih _ (hz ▸ hsub) s1 rfl (y1.ext X) (y2.ext X) (by unfold small at hs ⊢; omega) fun w' he' => ⟨_, rfl, ?_⟩
        have := hR w' (ext_trans X he')
        rw [show decide (k1 = k2 ∧ t1 = t2 ∧ m1 = m2 ∧ s1 = s2) = decide (s1 = s2) by simp [d1, d2, d3]] at this
        exact this
      · have := hR _ X
        rw [decide_eq_false (fun hh => d3 hh.2.2.1)] at this; exact this
      · have := hR _ X
        rw [decide_eq_false (fun hh => d2 hh.2.1)] at this; exact this
      · have := hR _ X
        rw [decide_eq_false (fun hh => d1 hh.1)] at this; exact this
    refine clo fun w' he' => ⟨_, rfl, br_cases (fun d => ?_) (fun d => ?_)⟩
    · refine ⟨_, rfl, ?_⟩
      have hd : ¬ (k1 = k2 ∧ t1 = t2 ∧ m1 = m2 ∧ s1 = s2) := fun hh => by rw [decide_eq_true hh] at d; cases d
      rw [show decide (f = g) = false by rw [decide_eq_false_iff_not]; intro hh; obtain ⟨z1, z2, z3, z4, _⟩ := hiff.1 hh; exact hd ⟨z1, z2, z3, z4⟩] at h
      exact h _ (ext_trans he2 he')
    · have hd : k1 = k2 ∧ t1 = t2 ∧ m1 = m2 ∧ s1 = s2 := by simpa using d
      refine ⟨r1.len, by simp, p1.app (.one k1 t1 m1 s1), r1, p2.app (.one k2 t2 m2 s2), r2, by rw [Fo.app_one_app]; exact e1, by rw [Fo.app_one_app]; exact e2, by simp [Fo.one]; exact e3, ?_, rfl, ext_trans he2 he', ?_⟩
      · rw [wrap_nat (by unfold small at hs; omega)]; simp [Fo.one]
      · rw [hiff]; simp [hd.1, hd.2.1, hd.2.2.1, hd.2.2.2]
  · obtain ⟨rfl, rfl⟩ := Fo.last e1 (by omega)
    have := Fo.last e2 (by omega)
    rw [show decide (p1 = g) = true by rw [decide_eq_true_iff]; exact hiff.2 this.1.symm] at h
    exact ⟨_, rfl, h _ he⟩

def stF (f : Fo) (h : Int) : Fo := mergeF (resolveF f h false)
theorem stF_small {f : Fo} (hs : f.size ≤ 1000000000) (h : Int) : small (stF f h) := by
  have a1 := mergeF_size (resolveF f h false)
  have a2 := resolveF_size f h false
  unfold small stF; omega
theorem touches_spec (f : Fo) {R : Ending → World → Prop} {S : Nat → Prop} {w : World} {a : Option Addr} {n c : Nat} (hand : Int) (hh : -1000 ≤ hand ∧ hand ≤ 1000) (hs : f.size ≤ 1000000000) (hg : good f) (ht : tlen f ≤ 4611686018427387904) (hf : SlF S w a n f)
    (h : ∀ w', Ext w w' → R (.returned (.bool (decide (stF f (hand - 1) ≠ stF f hand)))) w') : Calls Tryz.prog F_hands_touches ⟨[.slice a n c, .int .i64 hand]⟩ w R := by
  apply c_hands_touches
  have t1 := tlen_resolve f (hand - 1) false
  have t2 := tlen_resolve f hand false
  have q1 := each_resolve (hand - 1) f hg
  have q2 := each_resolve hand f hg
  unfold sh_hands_touches
  rw [wrap_id (by omega)]
  refine resolved_spec f (hand - 1) hs hg (by rw [q1]; omega) hf fun a2 n2 c2 w2 h2 e2 => ⟨_, _, _, rfl, ?_⟩
  refine resolved_spec f hand hs hg (by rw [q2]; omega) (hf.ext e2) fun a3 n3 c3 w3 h3 e3 => ⟨_, _, _, rfl, ?_⟩
  rw [q1] at h2
  rw [q2] at h3
  refine SameT_spec (stF f (hand - 1)) (h2.ext e3) (g := stF f hand) h3 (stF_small hs _) fun w4 e4 => ⟨_, rfl, ?_⟩
  have := h _ (ext_trans (ext_trans e2 e3) e4)
  rw [show decide (stF f (hand - 1) ≠ stF f hand) = !decide (stF f (hand - 1) = stF f hand) by simp] at this
  exact this
def errT (f : Fo) (hand : Int) : Int := if checkT f ≠ 0 then 1 else if hand < 1 ∨ 8 < hand then 13 else 0
theorem hcheck_spec (f : Fo) {R : Ending → World → Prop} {S : Nat → Prop} {w : World} {a : Option Addr} {n c : Nat} (hand : Int) (hs : small f) (hF : Forms w) (hf : SlF S w a n f)
    (h : ∀ w', Ext w w' → R (.returned (.int .i64 (errT f hand))) w') : Calls Tryz.prog F_hands_check ⟨[.slice a n c, .int .i64 hand]⟩ w R := by
  apply c_hands_check
  unfold errT at h
  refine Check22_spec f hs hf hF fun w1 e1 => ⟨_, rfl, br_split (fun g => ?_) (fun g => br_split (fun g2 => ?_) (fun g2 => br_split (fun g3 => ?_) (fun g3 => ?_)))⟩
  · rw [if_pos g] at h; exact h _ e1
  · rw [if_neg g, if_pos (.inl g2)] at h; exact h _ e1
  · rw [if_neg g, if_pos (.inr g3)] at h; exact h _ e1
  · rw [if_neg g, if_neg (by omega)] at h; exact h _ e1
theorem Touches_spec (f : Fo) {R : Ending → World → Prop} {S : Nat → Prop} {w : World} {a : Option Addr} {n c : Nat} (hand : Int) (hs : small f) (hF : Forms w) (hf : SlF S w a n f)
    (h : ∀ w', Ext w w' → R (.returned (.tuple ⟨[.bool (if errT f hand ≠ 0 then false else decide (stF f (hand - 1) ≠ stF f hand)), .int .i64 (errT f hand)]⟩)) w') : Calls Tryz.prog F_hands_Touches ⟨[.slice a n c, .int .i64 hand]⟩ w R := by
  apply c_hands_Touches
  refine hcheck_spec f hand hs hF hf fun w1 e1 => ⟨_, rfl, br_split (fun g => ?_) (fun g => ?_)⟩
  · rw [if_pos g] at h; exact h _ e1
  rw [if_neg g] at h
  have g0 : errT f hand = 0 := Decidable.not_not.1 g
  have hc : checkT f = 0 ∧ 1 ≤ hand ∧ hand ≤ 8 := by
    unfold errT at g0
    split at g0
    · cases g0
    · split at g0
      · cases g0
      · rename_i h1 h2; exact ⟨Decidable.not_not.1 h1, by omega, by omega⟩
  obtain ⟨c1, c2, c3⟩ := check_zero hc.1
  refine touches_spec f hand (by omega) (by omega) c2 (by omega) (hf.ext e1) fun w2 e2 => ⟨_, rfl, ?_⟩
  have := h _ (ext_trans e1 e2)
  rw [g0] at this; exact this

/- rows of integers -/
abbrev intV (l : List Int) : List Value := l.map (Value.int .i64)
theorem slT_int : SlT Tryz.prog 30 3 1 8 (.int .i64 0) := ⟨by kernel_rfl, by kernel_rfl, rfl, by decide⟩
theorem owns_int {w : World} {B : Nat} {a : Option Addr} {n c : Nat} {l : List Int} (h : Owns w B 3 1 a n c (intV l)) {i : Nat} (hi : i < l.length) :
    (∀ K : Addr → Prop, (∀ p, w.cell? p = some (.int .i64 l[i]) → K p) → idx a n (i : Int) 1 K) := by
  intro K hK
  have hl : l.length = n := by have := h.1; simpa using this
  obtain ⟨g, rfl, hg, hc⟩ := h.cell (by omega)
  refine ⟨by omega, by omega, ?_⟩
  refine dr_ok (hK _ ?_)
  rw [add_none, hc _ _ (by simp [hi]; rfl)]
def handsTo (f : Fo) (n : Nat) : List Int := ((List.range n).map fun i : Nat => (i : Int) + 1).filter fun h => decide (stF f (h - 1) ≠ stF f h)
theorem handsTo_succ (f : Fo) (n : Nat) : handsTo f (n + 1) = handsTo f n ++ if stF f n ≠ stF f (n + 1) then [(n : Int) + 1] else [] := by
  have e : ((n : Int) + 1 - 1) = n := by omega
  simp only [handsTo, List.range_succ, List.map_append, List.filter_append, List.map_cons, List.map_nil]
  congr 1
  by_cases h : stF f n ≠ stF f (n + 1)
  · rw [if_pos h]; simp [h]
  · rw [if_neg h]; simp at h; simp [h]
theorem handsTo_len (f : Fo) (n : Nat) : (handsTo f n).length ≤ n := by
  refine Nat.le_trans (List.length_filter_le _ _) ?_
  simp
theorem handsTo_le (f : Fo) (n : Nat) : ∀ x ∈ handsTo f n, x ≤ n := by
  intro x hx
  simp only [handsTo, List.mem_filter, List.mem_map, List.mem_range] at hx
  obtain ⟨⟨i, hi, rfl⟩, _⟩ := hx
  omega

set_option maxRecDepth 20000 in
theorem HandsL_spec (f : Fo) {R : Ending → World → Prop} {S : Nat → Prop} {w : World} {a : Option Addr} {n c : Nat} (most : Nat) (hmost : mostN (nodesF f) = most) (hm8 : most ≤ 8) (hs : small f) (hF : Forms w) (hf : SlF S w a n f) (hc0 : checkT f = 0)
    (h : ∀ a' n' c' w', Owns w' w.heap.size 3 1 a' n' c' (intV (handsTo f most)) → Ext w w' → R (.returned (.tuple ⟨[.slice a' n' c', .int .i64 0]⟩)) w') : Calls Tryz.prog F_hands_Hands ⟨[.slice a n c]⟩ w R := by
  apply c_hands_Hands
  obtain ⟨c1, c2, c3⟩ := check_zero hc0
  refine Count_spec f hs hF hf fun w1 e1 => ⟨_, _, rfl, ?_⟩
  rw [hc0, hmost]
  simp only [ne_eq, not_true, if_false]
  refine br_neg (by simp) ?_
  have z1 := e1.size
  refine ⟨fun oa on oc i W m => ∃ k : Nat, i = (k : Int) + 1 ∧ k ≤ most ∧ m = most - k ∧ Owns W w.heap.size 3 1 oa on oc (intV (handsTo f k)) ∧ Ext w W, ⟨_, 0, rfl, by omega, rfl, Owns.nil _ _ _ _, e1⟩, ?_⟩
  rintro oa on oc _ W m ⟨k, rfl, hk, rfl, ho, he⟩ _
  have hl : (handsTo f k).length = on := by have := ho.1; simpa using this
  have hlk := handsTo_len f k
  refine br_split (fun hlt => ?_) (fun hge => ?_)
  · have i1 : IntKind.i64.wrap ((k : Int) + 1 + 1) = ((k + 1 : Nat) : Int) + 1 := by rw [wrap_id (by omega)]; omega
    have sc := handsTo_succ f k
    refine touches_spec f ((k : Int) + 1) (by omega) (by omega) c2 (by omega) (hf.ext he) fun w2 e2 => ⟨_, rfl, ?_⟩
    have e : ((k : Int) + 1 - 1) = k := by omega
    rw [e]
    have he2 := ext_trans he e2
    have z2 := he2.size
    refine br_split (fun g => ?_) (fun g => ?_)
    · refine app_one2 slT_int (ho.ext e2) (by omega) [.int .i64 ((k : Int) + 1)] rfl (by intro u hu; simp only [List.mem_singleton] at hu; subst hu; rfl) (by omega) (by omega) fun a4 c4 w4 o4 ch4 n4 => ?_
      refine ⟨most - (k + 1), by omega, k + 1, i1, by omega, rfl, ?_, ext_chgS he2 ch4 fun j hj => (ho.bk hj).1⟩
      rw [sc, if_pos g]
      simpa [intV] using o4
    · refine ⟨most - (k + 1), by omega, k + 1, i1, by omega, rfl, ?_, he2⟩
      rw [sc, if_neg g, List.append_nil]; exact ho.ext e2
  · have : k = most := by omega
    subst this
    exact h _ _ _ _ ho he
end Go.Proofs
namespace Go.Proofs
open Go Go.Sh Go.RowKit

def hle (a : Int) : Fo → Prop
  | .nil => True
  | .cons k _ n ps r => ((k = 8 ∨ k = 9) → n ≤ a) ∧ hle a ps ∧ hle a r
theorem hle_nodes (a : Int) : ∀ {f : Fo}, (∀ x ∈ nodesF f, (x.k = 8 ∨ x.k = 9) → x.n ≤ a) → hle a f
  | .nil, _ => trivial
  | .cons k t n ps r, h => by
    simp only [nodesF, List.mem_cons, List.mem_append] at h
    exact ⟨h ⟨k, t, n, ps⟩ (.inl rfl), hle_nodes a fun x hx => h x (.inr (.inl hx)), hle_nodes a fun x hx => h x (.inr (.inr hx))⟩
theorem most_ge : ∀ (l : List Nn) (m : Int), m ≤ l.foldl (fun m (x : Nn) => if x.k = 8 ∨ x.k = 9 then max m x.n else m) m ∧ ∀ x ∈ l, (x.k = 8 ∨ x.k = 9) → x.n ≤ l.foldl (fun m (x : Nn) => if x.k = 8 ∨ x.k = 9 then max m x.n else m) m
  | [], m => ⟨Int.le_refl _, fun x hx => by simp at hx⟩
  | y :: l, m => by
    simp only [List.foldl_cons, List.mem_cons]
    obtain ⟨h1, h2⟩ := most_ge l (if y.k = 8 ∨ y.k = 9 then max m y.n else m)
    refine ⟨Int.le_trans ?_ h1, ?_⟩
    · split <;> omega
    · rintro x (rfl | hx) hk
      · rw [if_pos hk] at h1 ⊢; omega
      · exact h2 x hx hk
theorem most_le (b : Int) : ∀ (l : List Nn) (m : Int), m ≤ b → (∀ x ∈ l, (x.k = 8 ∨ x.k = 9) → x.n ≤ b) → l.foldl (fun m (x : Nn) => if x.k = 8 ∨ x.k = 9 then max m x.n else m) m ≤ b
  | [], m, h, _ => h
  | y :: l, m, h, hl => by
    simp only [List.foldl_cons]
    refine most_le b l _ ?_ fun x hx => hl x (by simp [hx])
    split
    · rename_i hk; have := hl y (by simp) hk; omega
    · exact h
theorem hle_most (f : Fo) : hle (mostN (nodesF f)) f := hle_nodes _ fun x hx hk => (most_ge (nodesF f) 0).2 x hx hk
theorem hands_nodes : ∀ {w : Bool} {f : Fo}, okF w f → ∀ x ∈ nodesF f, (x.k = 8 ∨ x.k = 9) → 1 ≤ x.n ∧ x.n ≤ 8
  | _, .nil, _, x, hx, _ => by simp [nodesF] at hx
  | w, .cons k t n ps r, ⟨h1, h2, h3⟩, x, hx, hk => by
    simp only [nodesF, List.mem_cons, List.mem_append] at hx
    rcases hx with rfl | hx | hx
    · simp only at hk ⊢
      unfold singleF at h1
      split at h1
      · cases h1
      split at h1
      · cases h1
      rw [if_neg (by omega), if_neg (by omega), if_neg (by omega), if_neg (by omega)] at h1
      try rw [if_pos hk] at h1
      split at h1
      · cases h1
      · omega
    · exact hands_nodes h2 x hx hk
    · exact hands_nodes h3 x hx hk
theorem FineF.most {f : Fo} (h : FineF f) : 0 ≤ mostN (nodesF f) ∧ mostN (nodesF f) ≤ 8 :=
  ⟨(most_ge (nodesF f) 0).1, most_le 8 _ 0 (by decide) fun x hx hk => (hands_nodes h.ok x hx hk).2⟩
theorem resolve_hle (a b : Int) (p q : Bool) : ∀ {f : Fo}, hle a f → hle b f → resolveF f a p = resolveF f b q
  | .nil, _, _ => rfl
  | .cons k t n ps r, ⟨h1, h2, h3⟩, ⟨g1, g2, g3⟩ => by
    simp only [resolveF, resolve_hle a b p q h2 g2, resolve_hle a b p q h3 g3]
    by_cases k9 : k = 9
    · rw [if_pos ⟨k9, h1 (.inr k9)⟩, if_pos ⟨k9, g1 (.inr k9)⟩]
    · by_cases k8 : k = 8
      · rw [if_neg (fun h => k9 h.1), if_pos ⟨k8, h1 (.inl k8)⟩, if_neg (fun h => k9 h.1), if_pos ⟨k8, g1 (.inl k8)⟩]
      · simp only [k8, k9, false_and, false_or, if_false]
theorem hle_mono {a b : Int} (h : a ≤ b) : ∀ {f : Fo}, hle a f → hle b f
  | .nil, _ => trivial
  | .cons k t n ps r, ⟨h1, h2, h3⟩ => ⟨fun hk => by have := h1 hk; omega, hle_mono h h2, hle_mono h h3⟩
theorem clean_most {f : Fo} (h : FineF f) : clean f ↔ mostN (nodesF f) = 0 := by
  refine ⟨most_clean, fun h0 => ?_⟩
  rw [clean_any, Bool.eq_false_iff]
  intro ha
  obtain ⟨x, hx, hk⟩ := List.any_eq_true.1 ha
  have hk : x.k = 8 ∨ x.k = 9 := by simpa [corrN] using hk
  have h1 := (most_ge (nodesF f) 0).2 x hx hk
  have h2 := (hands_nodes h.ok x hx hk).1
  have : mostN (nodesF f) = (nodesF f).foldl (fun m (x : Nn) => if x.k = 8 ∨ x.k = 9 then max m x.n else m) 0 := rfl
  omega
theorem handsTo_most {f : Fo} (most : Nat) (hm : mostN (nodesF f) = most) : ∀ d : Nat, handsTo f (most + d) = handsTo f most
  | 0 => rfl
  | d + 1 => by
    rw [show most + (d + 1) = (most + d) + 1 by omega, handsTo_succ, handsTo_most most hm d, if_neg, List.append_nil]
    intro h
    apply h
    unfold stF
    have h0 := hle_most f
    rw [hm] at h0
    rw [resolve_hle ((most + d : Nat) : Int) (((most + d : Nat) : Int) + 1) false false (hle_mono (by omega) h0) (hle_mono (by omega) h0)]

theorem EqualI_spec {R : Ending → World → Prop} {w : World} {B B' : Nat} {a b : Option Addr} {n c n' c' : Nat} {l l' : List Int} (h1 : Owns w B 3 1 a n c (intV l)) (h2 : Owns w B' 3 1 b n' c' (intV l')) (hs : n ≤ 4611686018427387904)
    (h : ∀ w', Ext w w' → R (.returned (.bool (decide (l = l')))) w') : Calls Tryz.prog F_slices_Equal_of_int_int ⟨[.slice a n c, .slice b n' c']⟩ w R := by
  apply c_slices_Equal_of_int_int
  have e1 : l.length = n := by have := h1.1; simpa using this
  have e2 : l'.length = n' := by have := h2.1; simpa using this
  refine br_split (fun g => ?_) (fun g => ?_)
  · rw [show decide (l = l') = false by rw [decide_eq_false_iff_not]; rintro rfl; omega] at h
    exact h _ (Below.refl _ _)
  refine ⟨fun i W m => ∃ k : Nat, i = k ∧ k ≤ n ∧ m = n - k ∧ l.take k = l'.take k ∧ Ext w W, ⟨_, 0, rfl, by omega, rfl, rfl, Below.refl _ _⟩, ?_⟩
  rintro _ W m ⟨k, rfl, hk, rfl, ht, he⟩ _
  have hd := ext_trans he (ext_drew W)
  refine br_split (fun hlt => ?_) (fun hge => ?_)
  · unfold drw
    have k1 : k < l.length := by omega
    have k2 : k < l'.length := by omega
    refine owns_int (h1.ext hd) k1 _ fun p hp => ⟨_, hp, owns_int (h2.ext hd) k2 _ fun q hq => ⟨_, hq, br_split (fun g => ?_) (fun g => ?_)⟩⟩
    · rw [show decide (l = l') = false by rw [decide_eq_false_iff_not]; rintro rfl; exact g rfl] at h
      exact h _ hd
    · refine ⟨n - (k + 1), by omega, k + 1, by rw [wrap_nat (by omega)], by omega, rfl, ?_, hd⟩
      rw [List.take_succ_eq_append_getElem k1, List.take_succ_eq_append_getElem k2, ht, Decidable.not_not.1 g]
  · have hkn : k = n := by omega
    subst hkn
    rw [List.take_of_length_le (by omega), List.take_of_length_le (by omega)] at ht
    rw [decide_eq_true ht] at h
    exact h _ he

end Go.Proofs
namespace Go.Sh
open Go Go.RowKit

/- how the elements of a slice lie in cells -/
structure Enc (α : Type) where
  enc : α → List Value
  size : Nat
  len : ∀ x, (enc x).length = size
  pos : 0 < size
  one : ∀ x, ∀ v ∈ enc x, v.oneCell' = true
section
variable {α : Type} {E : Enc α}
def Enc.row (E : Enc α) (l : List α) : List Value := l.flatMap E.enc
@[simp] theorem row_nil : E.row [] = [] := rfl
theorem row_cons (x : α) (l : List α) : E.row (x :: l) = E.enc x ++ E.row l := rfl
theorem row_app (l m : List α) : E.row (l ++ m) = E.row l ++ E.row m := by simp [Enc.row]
theorem row_snoc (l : List α) (x : α) : E.row (l ++ [x]) = E.row l ++ E.enc x := by simp [Enc.row]
theorem row_len : ∀ l : List α, (E.row l).length = l.length * E.size
  | [] => by simp
  | x :: l => by rw [row_cons, List.length_append, E.len, row_len l, List.length_cons, Nat.add_mul, Nat.one_mul]; omega
theorem row_one (l : List α) : ∀ v ∈ E.row l, v.oneCell' = true := by
  intro v hv
  obtain ⟨x, _, hx⟩ := List.mem_flatMap.1 hv
  exact E.one x v hx
theorem row_get {x : α} : ∀ {l : List α} {i j : Nat}, l[i]? = some x → j < E.size → (E.row l)[i * E.size + j]? = (E.enc x)[j]?
  | [], i, j, h, _ => by simp at h
  | y :: l, 0, j, h, hj => by
    simp at h; subst h
    rw [row_cons, Nat.zero_mul, Nat.zero_add, List.getElem?_append_left (by rw [E.len]; exact hj)]
  | y :: l, i + 1, j, h, hj => by
    simp at h
    rw [row_cons, List.getElem?_append_right (by rw [E.len, Nat.add_mul, Nat.one_mul]; omega), E.len, show (i + 1) * E.size + j - E.size = i * E.size + j by rw [Nat.add_mul, Nat.one_mul]; omega]
    exact row_get h hj
theorem putAt_app : ∀ (vs : List Value) (a b : List Value) (o : Nat), putAt (a ++ b) (a.length + o) vs = a ++ putAt b o vs
  | [], a, b, o => rfl
  | v :: vs, a, b, o => by
    rw [putAt, putAt, List.set_append_right _ _ (by omega), show a.length + o - a.length = o by omega, Nat.add_assoc, putAt_app vs a (b.set o v) (o + 1)]
theorem putAt_head : ∀ (vs a : List Value) (rest : List Value), vs.length = a.length → putAt (a ++ rest) 0 vs = vs ++ rest := by
  intro vs a rest h
  apply List.ext_getElem?
  intro i
  rw [putAt_get]
  by_cases hi : i < vs.length
  · rw [if_pos ⟨by omega, by omega, by simp; omega⟩, List.getElem?_append_left (by omega)]; simp
  · rw [if_neg (by omega), List.getElem?_append_right (by omega), List.getElem?_append_right (by omega), h]
theorem row_put {x : α} {rest : List Value} : ∀ {l : List α} {i : Nat}, i < l.length → putAt (E.row l ++ rest) (i * E.size) (E.enc x) = E.row (l.set i x) ++ rest
  | [], i, h => by simp at h
  | y :: l, 0, h => by
    rw [Nat.zero_mul, row_cons, List.set_cons_zero, row_cons, List.append_assoc, putAt_head _ _ _ (by rw [E.len, E.len]), List.append_assoc]
  | y :: l, i + 1, h => by
    rw [row_cons, List.set_cons_succ, row_cons, List.append_assoc, List.append_assoc, show (i + 1) * E.size = (E.enc y).length + i * E.size by rw [E.len, Nat.add_mul, Nat.one_mul]; omega, putAt_app, row_put (by simpa using h)]

/- a slice that can be read -/
def RowAt (E : Enc α) (S : Nat → Prop) (w : World) (a : Option Addr) (n : Nat) (l : List α) : Prop := n = l.length ∧ At S w a (E.row l)
section
variable {S S' : Nat → Prop} {w w' : World} {a : Option Addr} {n : Nat} {l : List α}
theorem RowAt.keep (h : RowAt E S w a n l) (hs : ∀ k, S k → k < w.heap.size → S' k ∧ w'.heap[k]? = w.heap[k]?) (hz : w.heap.size ≤ w'.heap.size) : RowAt E S' w' a n l := ⟨h.1, h.2.keep hs hz⟩
theorem RowAt.ext (h : RowAt E S w a n l) (he : Ext w w') : RowAt E S w' a n l := h.keep (fun k hk hl => ⟨hk, he.block k hl⟩) he.size
theorem RowAt.chg {T : Nat → Prop} (h : RowAt E S w a n l) (he : Chg T w w') (hd : ∀ k, S k → ¬ T k) : RowAt E S w' a n l := h.keep (fun k hk hl => ⟨hk, he.block k hl (hd k hk)⟩) he.size
theorem RowAt.imp (h : RowAt E S w a n l) (hs : ∀ k, S k → k < w.heap.size → S' k) : RowAt E S' w a n l := h.keep (fun k hk hl => ⟨hs k hk hl, rfl⟩) (Nat.le_refl _)
theorem RowAt.nil (a : Option Addr) : RowAt E S w a 0 [] := ⟨rfl, .inl rfl⟩
theorem RowAt.get (h : RowAt E S w a n l) {i : Nat} {x : α} (hi : l[i]? = some x) :
    ∃ b o, (∀ K : Addr → Prop, K ⟨b, o, none⟩ → idx a n (i : Int) E.size K) ∧ S b ∧ b < w.heap.size ∧ ∀ j v, (E.enc x)[j]? = some v → w.cell? ⟨b, o + j, none⟩ = some v := by
  have hlt := (List.getElem?_eq_some_iff.1 hi).1
  have hn := h.1
  rcases h.2 with h2 | ⟨b, o, rfl, hb, hbl, hc⟩
  · have := congrArg List.length h2
    rw [row_len] at this
    simp only [List.length_nil] at this
    rcases Nat.mul_eq_zero.1 this with h | h
    · omega
    · have := E.pos; omega
  refine ⟨b, o + i * E.size, fun K hK => ⟨by omega, by omega, ?_⟩, hb, hbl, fun j v hj => ?_⟩
  · show K _
    rw [add_none, Int.toNat_natCast]; exact hK
  · rw [Nat.add_assoc]
    refine hc _ _ ?_
    rw [row_get hi (by have := (List.getElem?_eq_some_iff.1 hj).1; rw [E.len] at this; exact this)]; exact hj
end

/- a slice that the call has made -/
abbrev OwnL (E : Enc α) (w : World) (B : Nat) (e : TypeId) (a : Option Addr) (n c : Nat) (l : List α) : Prop := Owns w B e E.size a n c (E.row l)
section
variable {w w' : World} {B : Nat} {e : TypeId} {a : Option Addr} {n c : Nat} {l : List α}
theorem OwnL.length (h : OwnL E w B e a n c l) : l.length = n := by
  have := h.len
  rw [row_len] at this
  exact Nat.eq_of_mul_eq_mul_right E.pos this
theorem OwnL.out (h : OwnL E w B e a n c l) : RowAt E (bk a) w a n l := by
  refine ⟨h.length.symm, ?_⟩
  by_cases hn : 0 < n
  · obtain ⟨g, rfl, hg, hc⟩ := h.cell hn
    exact .inr ⟨g, 0, rfl, by simp [bk], (h.bk (by simp [bk])).2, fun j v hj => by rw [Nat.zero_add]; exact hc j v hj⟩
  · have hx : l = [] := List.eq_nil_of_length_eq_zero (by rw [h.length]; omega)
    subst hx
    exact .inl rfl
theorem OwnL.push {P : Program} {t ty : TypeId} {bytes : Nat} {z : Value} (hT : SlT P t e E.size bytes z) (h : OwnL E w B e a n c l) (hB : B ≤ w.heap.size) (x : α) (hlen : n + 1 ≤ 4611686018427387904) (hbytes : (n + 1) * bytes ≤ 140737488355328) {K : Option Addr → Nat → Nat → World → Prop}
    (hk : ∀ a' c'' w', OwnL E w' B e a' (n + 1) c'' (l ++ [x]) → Chg (bk a) w w' → (∀ k, bk a' k → bk a k ∨ w.heap.size ≤ k) → K a' (n + 1) c'' w') :
    al w e (E.enc x) fun p w1 => app P [t, t] ty (.slice a n c) (.slice (some p) 1 1) w1 K :=
  app_one2 hT h hB _ (E.len x) (E.one x) hlen hbytes fun a' c'' w' ho hc hn => hk a' c'' w' (by unfold OwnL; rw [row_snoc]; exact ho) hc hn
theorem OwnL.pushAll {P : Program} {t ty : TypeId} {bytes : Nat} {z : Value} (hT : SlT P t e E.size bytes z) (h : OwnL E w B e a n c l) (hB : B ≤ w.heap.size) {S : Nat → Prop} {a1 : Option Addr} {m c1 : Nat} {l' : List α} (hg : RowAt E S w a1 m l') (hlen : n + m ≤ 4611686018427387904) (hbytes : (n + m) * bytes ≤ 140737488355328) {K : Option Addr → Nat → Nat → World → Prop}
    (hk : ∀ a' c'' w', OwnL E w' B e a' (n + m) c'' (l ++ l') → Chg (bk a) w w' → (∀ k, bk a' k → bk a k ∨ w.heap.size ≤ k) → K a' (n + m) c'' w') :
    app P [t, t] ty (.slice a n c) (.slice a1 m c1) w K :=
  app_own2 hT h hB (E.row l') (by rw [row_len, ← hg.1]) hg.2 (row_one l') hlen hbytes fun a' c'' w' ho hc hn => hk a' c'' w' (by unfold OwnL; rw [row_app]; exact ho) hc hn
/- writing one element -/
theorem OwnL.store (h : OwnL E w B e a n c l) {i : Nat} (hi : i < n) (x : α) :
    ∃ g, a = some ⟨g, 0, none⟩ ∧ (∀ K : Addr → Prop, K ⟨g, i * E.size, none⟩ → idx a n (i : Int) E.size K) ∧
      ∀ K : World → Prop, (∀ w', OwnL E w' B e a n c (l.set i x) → Chg (bk a) w w' → w'.heap.size = w.heap.size → K w') → stL w ⟨g, i * E.size, none⟩ 0 (E.enc x) K := by
  have hl := h.length
  rcases h.2 with h1 | ⟨g, cap, cur, e1, e2, e3, e4, e5, e6, e7⟩
  · omega
  obtain ⟨rfl, _, rfl⟩ : a = some ⟨g, 0, none⟩ ∧ True ∧ c = cap := by simpa using e1
  have hB : Blk w g cur.toList e := e3
  have hcl : cur.toList.length = c * E.size := by simpa using e6
  have hcur : cur.toList = E.row l ++ cur.toList.drop (n * E.size) := by rw [← e7, List.take_append_drop]
  have hin : i * E.size + E.size ≤ n * E.size := by
    have : (i + 1) * E.size ≤ n * E.size := Nat.mul_le_mul_right _ hi
    rwa [Nat.add_mul, Nat.one_mul] at this
  have hnc : n * E.size ≤ c * E.size := Nat.mul_le_mul_right _ e4
  refine ⟨g, rfl, fun K hK => ⟨by omega, by omega, ?_⟩, fun K hK => ?_⟩
  · show K _
    rw [add_none, Int.toNat_natCast, Nat.zero_add]; exact hK
  refine stL_blk hB (by rw [E.len]; omega) (E.one x) fun w' b1 b2 b3 b4 b5 b6 => ?_
  have hc : Chg (bk (some (⟨g, 0, none⟩ : Addr))) w w' := ⟨b4, b5, b6, by omega, fun k' _ hk => b2 k' fun e => hk (by simp [bk, e])⟩
  rw [Nat.add_zero, hcur, row_put (by omega)] at b1
  refine hK w' ⟨by rw [row_len, List.length_set, hl], .inr ⟨g, c, ⟨_⟩, rfl, e2, b1, e4, e5, ?_, ?_⟩⟩ hc b3
  · show (E.row (l.set i x) ++ cur.toList.drop (n * E.size)).length = c * E.size
    rw [List.length_append, List.length_drop, hcl, row_len, List.length_set, hl]; omega
  · show List.take (n * E.size) (E.row (l.set i x) ++ _) = _
    rw [List.take_append_of_le_length (by rw [row_len, List.length_set, hl]; exact Nat.le_refl _), List.take_of_length_le (by rw [row_len, List.length_set, hl]; exact Nat.le_refl _)]
end

/- making a row of zeros -/
theorem mks_intro {w : World} {elem : TypeId} {bytes : Nat} {zero : List Value} {l c : Nat} {K : Addr → World → Prop} (hlc : l ≤ c) (hb : bytes * c ≤ 140737488355328)
    (h : ∀ b w', b = w.heap.size → Blk w' b (List.replicate c zero).flatten elem → Ext w w' → w'.heap.size = b + 1 → K ⟨b, 0, none⟩ w') : mks w elem bytes zero (l : Int) (c : Int) K := by
  refine ⟨by omega, by omega, by rw [← Int.natCast_mul]; exact Int.ofNat_le.2 hb, ?_⟩
  refine h _ _ rfl ?_ ((Below.refl _ w).alloc (Nat.le_refl _) _) (by simp)
  rw [Int.toNat_natCast]
  exact Blk.new w _ _
theorem row_replicate (x : α) (n : Nat) : E.row (List.replicate n x) = (List.replicate n (E.enc x)).flatten := by
  induction n with
  | zero => rfl
  | succ n ih => rw [List.replicate_succ, row_cons, ih, List.replicate_succ, List.flatten_cons]
theorem OwnL.made {w : World} {b B : Nat} {e : TypeId} {x : α} {n : Nat} (h : Blk w b (List.replicate n (E.enc x)).flatten e) (hB : B ≤ b) (hn : n ≤ maxLen) : OwnL E w B e (some ⟨b, 0, none⟩) n n (List.replicate n x) := by
  rw [← row_replicate] at h
  refine ⟨by rw [row_len, List.length_replicate], .inr ⟨b, n, _, rfl, hB, h, Nat.le_refl _, hn, ?_, ?_⟩⟩
  · show (E.row (List.replicate n x)).length = n * E.size
    rw [row_len, List.length_replicate]
  · show List.take _ (E.row _) = _
    rw [List.take_of_length_le (by rw [row_len, List.length_replicate]; exact Nat.le_refl _)]
end

/- the elements that occur -/
def encI : Enc Int := ⟨fun i => [.int .i64 i], 1, fun _ => rfl, by decide, by intro x v hv; simp only [List.mem_singleton] at hv; subst hv; rfl⟩
def encStr : Enc (List UInt8) := ⟨fun s => [.string ⟨⟨s⟩⟩], 1, fun _ => rfl, by decide, by intro x v hv; simp only [List.mem_singleton] at hv; subst hv; rfl⟩
structure Edit where
  at_ : Int
  len : Int
  text : List UInt8
def encE : Enc Edit := ⟨fun x => [.int .i64 x.at_, .int .i64 x.len, .string ⟨⟨x.text⟩⟩], 3, fun _ => rfl, by decide, by intro x v hv; simp only [List.mem_cons, List.not_mem_nil, or_false] at hv; rcases hv with rfl | rfl | rfl <;> rfl⟩
end Go.Sh
namespace Go.Proofs
open Go Go.Sh Go.RowKit

def rowE (e : Nat → Bool) (prev : Nat → Nat) (first : Nat) : Nat → Nat
  | 0 => first
  | k + 1 => min (min (prev k + if e k then 0 else 1) (prev (k + 1) + 1)) (rowE e prev first k + 1)
def ed (eq : Nat → Nat → Bool) : Nat → Nat → Nat
  | 0 => fun k => k
  | i + 1 => rowE (eq i) (ed eq i) (i + 1)
theorem ed_zero (eq) (i : Nat) : ed eq i 0 = i := by cases i <;> rfl
theorem ed_step (eq) (i k : Nat) : ed eq (i + 1) (k + 1) = min (min (ed eq i k + if eq i k then 0 else 1) (ed eq i (k + 1) + 1)) (ed eq (i + 1) k + 1) := rfl
theorem ed_le (eq) : ∀ i k : Nat, ed eq i k ≤ i + k
  | 0, k => by simp [ed]
  | i + 1, 0 => by simp [ed_zero]
  | i + 1, k + 1 => by
    have := ed_le eq i (k + 1)
    rw [ed_step]; omega

/- a row of numbers, of which the first ones are known -/
def FnRow (w : World) (B b n t : Nat) (f : Nat → Int) : Prop := ∃ L : List Int, OwnL encI w B 3 (some ⟨b, 0, none⟩) n n L ∧ ∀ j, j < t → L[j]? = some (f j)
theorem FnRow.chg {S : Nat → Prop} {w w' : World} {B b n t : Nat} {f : Nat → Int} (h : FnRow w B b n t f) (hc : Chg S w w') (hS : ¬ S b) : FnRow w' B b n t f := by
  obtain ⟨L, h1, h2⟩ := h
  exact ⟨L, h1.chg hc fun k hk hs => hS (by simp [bk] at hk; subst hk; exact hs), h2⟩
theorem FnRow.ext {w w' : World} {B b n t : Nat} {f : Nat → Int} (h : FnRow w B b n t f) (hc : Ext w w') : FnRow w' B b n t f := h.chg (S := fun _ => False) (.of_ext hc) id
theorem FnRow.any {w : World} {B b n t : Nat} {f g : Nat → Int} (h : FnRow w B b n t f) : FnRow w B b n 0 g := by
  obtain ⟨L, h1, h2⟩ := h
  exact ⟨L, h1, fun j hj => by omega⟩
theorem FnRow.lt {w : World} {B b n t : Nat} {f : Nat → Int} (h : FnRow w B b n t f) (hn : 0 < n) : B ≤ b ∧ b < w.heap.size := by
  obtain ⟨L, h1, h2⟩ := h
  exact h1.bk (by simp [bk])
theorem FnRow.get {w : World} {B b n t : Nat} {f : Nat → Int} (h : FnRow w B b n t f) {j : Nat} (hj : j < t) (htn : t ≤ n) {K : Addr → Prop} (hK : ∀ p, w.cell? p = some (.int .i64 (f j)) → K p) : idx (some ⟨b, 0, none⟩) n (j : Int) 1 K := by
  obtain ⟨L, h1, h2⟩ := h
  obtain ⟨bb, o, hi, _, _, hc⟩ := h1.out.get (h2 j hj)
  exact hi K (hK _ (hc 0 _ rfl))
theorem FnRow.set {w : World} {B b n t : Nat} {f : Nat → Int} (h : FnRow w B b n t f) (htn : t < n) {v : Int} (hv : v = f t) {K : World → Prop} (hK : ∀ w', FnRow w' B b n (t + 1) f → Chg (fun k => k = b) w w' → w'.heap.size = w.heap.size → K w') :
    idx (some ⟨b, 0, none⟩) n (t : Int) 1 fun p => stL w p 0 [.int .i64 v] K := by
  obtain ⟨L, h1, h2⟩ := h
  obtain ⟨g, hg, hi, hst⟩ := h1.store htn v
  have hl := h1.length
  refine hi _ (hst _ fun w' ho hc hz => hK w' ⟨_, ho, fun j hj => ?_⟩ (hc.mono fun k _ hk => by simp [bk] at hk; exact hk.symm) hz)
  rw [List.getElem?_set]
  by_cases e : t = j
  · subst e; rw [if_pos rfl, if_pos (by omega), hv]
  · rw [if_neg e]; exact h2 j (by omega)

end Go.Proofs
namespace Go.Proofs
open Go Go.Sh Go.RowKit

def eqB (a b : List UInt8) (i k : Nat) : Bool := decide (a.getD i 0 = b.getD k 0)
def edS (a b : List UInt8) : Nat := ed (eqB a b) a.length b.length
theorem long_spec {R : Ending → World → Prop} {w : World} (n m : Int) (h : R (.returned (.bool (decide ((256 : Int) < max n m)))) w) : Calls Tryz.prog F_editdistance_long ⟨[.int .i64 n, .int .i64 m]⟩ w R := by
  apply c_editdistance_long; exact h
def BytesAt (w : World) (b : Nat) (l : List UInt8) : Prop := ∀ j (hj : j < l.length), w.cell? ⟨b, j, none⟩ = some (.int .u8 (l[j].toNat : Int))
theorem BytesAt.ext {w w' : World} {b : Nat} {l : List UInt8} (h : BytesAt w b l) (hb : l ≠ [] → b < w.heap.size) (he : Ext w w') : BytesAt w' b l := by
  intro j hj
  have := h j hj
  unfold World.cell? at this ⊢
  rw [he.block b (hb fun e => by subst e; simp at hj)]; exact this
/- the script, as it is found from the end -/
def eqE (a b : List UInt8) := ed (eqB a b)
def trE (a b : List UInt8) : Nat → Nat → Nat → List Edit
  | 0, _, _ => []
  | f + 1, i, k =>
    if i = 0 ∧ k = 0 then []
    else if 0 < i ∧ 0 < k ∧ eqB a b (i - 1) (k - 1) = true ∧ eqE a b i k = eqE a b (i - 1) (k - 1) then trE a b f (i - 1) (k - 1)
    else if 0 < i ∧ 0 < k ∧ eqE a b i k = eqE a b (i - 1) (k - 1) + 1 then trE a b f (i - 1) (k - 1) ++ [⟨(i : Int) - 1, 1, (b.take k).drop (k - 1)⟩]
    else if 0 < i ∧ eqE a b i k = eqE a b (i - 1) k + 1 then trE a b f (i - 1) k ++ [⟨(i : Int) - 1, 1, []⟩]
    else trE a b f i (k - 1) ++ [⟨i, 0, (b.take k).drop (k - 1)⟩]
/- in the last case there is an element left of b, and the number goes down -/
theorem tr_last (a b : List UInt8) (i k : Nat) (h0 : ¬ (i = 0 ∧ k = 0)) (h1 : ¬ (0 < i ∧ 0 < k ∧ eqB a b (i - 1) (k - 1) = true ∧ eqE a b i k = eqE a b (i - 1) (k - 1))) (h2 : ¬ (0 < i ∧ 0 < k ∧ eqE a b i k = eqE a b (i - 1) (k - 1) + 1)) (h3 : ¬ (0 < i ∧ eqE a b i k = eqE a b (i - 1) k + 1)) :
    0 < k ∧ eqE a b i k = eqE a b i (k - 1) + 1 := by
  unfold eqE at *
  cases i with
  | zero =>
    cases k with
    | zero => exact absurd ⟨rfl, rfl⟩ h0
    | succ k => exact ⟨by omega, rfl⟩
  | succ i =>
    cases k with
    | zero => exact absurd ⟨by omega, by rw [ed_zero, Nat.add_sub_cancel, ed_zero]⟩ h3
    | succ k =>
      refine ⟨by omega, ?_⟩
      simp only [Nat.add_sub_cancel] at *
      have := ed_step (eqB a b) i k
      by_cases he : eqB a b i k = true
      · rw [he] at this h1
        simp only [if_true, Nat.add_zero] at this
        have n1 : ed (eqB a b) (i + 1) (k + 1) ≠ ed (eqB a b) i k := fun e => h1 ⟨by omega, by omega, rfl, e⟩
        have n3 : ed (eqB a b) (i + 1) (k + 1) ≠ ed (eqB a b) i (k + 1) + 1 := fun e => h3 ⟨by omega, e⟩
        omega
      · have he' : eqB a b i k = false := by simpa using he
        rw [he'] at this
        have n2 : ed (eqB a b) (i + 1) (k + 1) ≠ ed (eqB a b) i k + 1 := fun e => h2 ⟨by omega, by omega, e⟩
        have n3 : ed (eqB a b) (i + 1) (k + 1) ≠ ed (eqB a b) i (k + 1) + 1 := fun e => h3 ⟨by omega, e⟩
        simp only [Bool.false_eq_true, if_false] at this
        omega
theorem tr_len (a b : List UInt8) : ∀ (f i k : Nat), i + k ≤ f → (trE a b f i k).length = eqE a b i k
  | 0, i, k, h => by
    obtain rfl : i = 0 := by omega
    obtain rfl : k = 0 := by omega
    rfl
  | f + 1, i, k, h => by
    unfold trE
    by_cases h0 : i = 0 ∧ k = 0
    · rw [if_pos h0]; obtain ⟨rfl, rfl⟩ := h0; rfl
    rw [if_neg h0]
    by_cases h1 : 0 < i ∧ 0 < k ∧ eqB a b (i - 1) (k - 1) = true ∧ eqE a b i k = eqE a b (i - 1) (k - 1)
    · rw [if_pos h1, tr_len a b f _ _ (by omega), h1.2.2.2]
    rw [if_neg h1]
    by_cases h2 : 0 < i ∧ 0 < k ∧ eqE a b i k = eqE a b (i - 1) (k - 1) + 1
    · rw [if_pos h2, List.length_append, tr_len a b f _ _ (by omega), h2.2.2]; rfl
    rw [if_neg h2]
    by_cases h3 : 0 < i ∧ eqE a b i k = eqE a b (i - 1) k + 1
    · rw [if_pos h3, List.length_append, tr_len a b f _ _ (by omega), h3.2]; rfl
    rw [if_neg h3]
    have h4 := tr_last a b i k h0 h1 h2 h3
    rw [List.length_append, tr_len a b f _ _ (by omega), h4.2]; rfl

/- what edits make of a string: what has been written, and how far the string has been read -/
def runE (a : List UInt8) : List Edit → List UInt8 → Nat → List UInt8 × Nat
  | [], out, at_ => (out, at_)
  | x :: l, out, at_ => runE a l (out ++ (a.take x.at_.toNat).drop at_ ++ x.text) (x.at_ + x.len).toNat
theorem runE_snoc (a : List UInt8) (x : Edit) : ∀ (l : List Edit) (out : List UInt8) (at_ : Nat), runE a (l ++ [x]) out at_ = ((runE a l out at_).1 ++ (a.take x.at_.toNat).drop (runE a l out at_).2 ++ x.text, (x.at_ + x.len).toNat)
  | [], _, _ => rfl
  | y :: l, out, at_ => by simp only [List.cons_append, runE]; exact runE_snoc a x l _ _
/- the edits stand in order, and within the string -/
def okE (n : Nat) : List Edit → Int → Prop
  | [], _ => True
  | x :: l, e => 0 ≤ x.at_ ∧ 0 ≤ x.len ∧ x.at_ + x.len ≤ n ∧ e ≤ x.at_ ∧ okE n l (x.at_ + x.len)
def endE : List Edit → Int → Int
  | [], e => e
  | x :: l, _ => endE l (x.at_ + x.len)
theorem endE_snoc (x : Edit) : ∀ (l : List Edit) (e : Int), endE (l ++ [x]) e = x.at_ + x.len
  | [], _ => rfl
  | y :: l, e => endE_snoc x l _
theorem okE_snoc {n : Nat} {x : Edit} : ∀ {l : List Edit} {e : Int}, okE n l e → 0 ≤ x.at_ → 0 ≤ x.len → x.at_ + x.len ≤ n → endE l e ≤ x.at_ → okE n (l ++ [x]) e
  | [], e, _, h1, h2, h3, h4 => ⟨h1, h2, h3, h4, trivial⟩
  | y :: l, e, ⟨g1, g2, g3, g4, g5⟩, h1, h2, h3, h4 => ⟨g1, g2, g3, g4, okE_snoc g5 h1 h2 h3 h4⟩
theorem run_end (a : List UInt8) : ∀ (l : List Edit) (out : List UInt8) (at_ : Nat), okE a.length l at_ → ((runE a l out at_).2 : Int) = endE l at_
  | [], _, _, _ => rfl
  | x :: l, out, at_, ⟨g1, g2, g3, g4, g5⟩ => by
    simp only [runE, endE]
    have : ((x.at_ + x.len).toNat : Int) = x.at_ + x.len := by omega
    rw [run_end a l _ _ (by rw [this]; exact g5), this]
theorem take_drop_last {l : List UInt8} {k : Nat} (h0 : 0 < k) (h : k ≤ l.length) : (l.take k).drop (k - 1) = [l.getD (k - 1) 0] := by
  have e : k = (k - 1) + 1 := by omega
  rw [e, Nat.add_sub_cancel, List.take_succ_eq_append_getElem (by omega), List.drop_append_of_le_length (by simp; omega)]
  simp [List.getD_eq_getElem?_getD, List.getElem?_eq_getElem (show k - 1 < l.length by omega)]
theorem take_last {l : List UInt8} {k : Nat} (h0 : 0 < k) (h : k ≤ l.length) : l.take k = l.take (k - 1) ++ [l.getD (k - 1) 0] := by
  have e : k = (k - 1) + 1 := by omega
  rw [e, Nat.add_sub_cancel, List.take_succ_eq_append_getElem (by omega)]
  simp [List.getD_eq_getElem?_getD, List.getElem?_eq_getElem (show k - 1 < l.length by omega)]
theorem drop_step {a : List UInt8} {i at_ : Nat} (h0 : 0 < i) (h : i ≤ a.length) (hat : at_ ≤ i - 1) : (a.take i).drop at_ = (a.take (i - 1)).drop at_ ++ [a.getD (i - 1) 0] := by
  rw [take_last h0 h, List.drop_append_of_le_length (by simp; omega)]
theorem tr_run (a b : List UInt8) : ∀ (f i k : Nat), i + k ≤ f → i ≤ a.length → k ≤ b.length →
    okE a.length (trE a b f i k) 0 ∧ endE (trE a b f i k) 0 ≤ i ∧ (runE a (trE a b f i k) [] 0).1 ++ (a.take i).drop (runE a (trE a b f i k) [] 0).2 = b.take k
  | 0, i, k, h, hi, hk => by
    obtain rfl : i = 0 := by omega
    obtain rfl : k = 0 := by omega
    exact ⟨trivial, by simp [trE, endE], by simp [trE, runE]⟩
  | f + 1, i, k, h, hi, hk => by
    unfold trE
    by_cases h0 : i = 0 ∧ k = 0
    · rw [if_pos h0]; obtain ⟨rfl, rfl⟩ := h0; exact ⟨trivial, by simp [endE], by simp [runE]⟩
    rw [if_neg h0]
    by_cases h1 : 0 < i ∧ 0 < k ∧ eqB a b (i - 1) (k - 1) = true ∧ eqE a b i k = eqE a b (i - 1) (k - 1)
    · rw [if_pos h1]
      obtain ⟨q1, q2, q3⟩ := tr_run a b f (i - 1) (k - 1) (by omega) (by omega) (by omega)
      have hre := run_end a (trE a b f (i - 1) (k - 1)) [] 0 q1
      refine ⟨q1, by omega, ?_⟩
      have heq : a.getD (i - 1) 0 = b.getD (k - 1) 0 := by have := h1.2.2.1; unfold eqB at this; simpa using this
      rw [drop_step h1.1 hi (by have : ((0 : Nat) : Int) = 0 := rfl
                                rw [this] at hre; omega), ← List.append_assoc, q3, heq, ← take_last h1.2.1 hk]
    rw [if_neg h1]
    by_cases h2 : 0 < i ∧ 0 < k ∧ eqE a b i k = eqE a b (i - 1) (k - 1) + 1
    · rw [if_pos h2]
      obtain ⟨q1, q2, q3⟩ := tr_run a b f (i - 1) (k - 1) (by omega) (by omega) (by omega)
      refine ⟨okE_snoc q1 (by simp only; omega) (by simp only; omega) (by simp only; omega) (by simp only; omega), by rw [endE_snoc]; simp only; omega, ?_⟩
      rw [runE_snoc]
      have ei : ((i : Int) - 1).toNat = i - 1 := by omega
      have ej : ((i : Int) - 1 + 1).toNat = i := by omega
      simp only [ei, ej]
      rw [q3, take_drop_last h2.2.1 hk, ← take_last h2.2.1 hk]
      simp
    rw [if_neg h2]
    by_cases h3 : 0 < i ∧ eqE a b i k = eqE a b (i - 1) k + 1
    · rw [if_pos h3]
      obtain ⟨q1, q2, q3⟩ := tr_run a b f (i - 1) k (by omega) (by omega) (by omega)
      refine ⟨okE_snoc q1 (by simp only; omega) (by simp only; omega) (by simp only; omega) (by simp only; omega), by rw [endE_snoc]; simp only; omega, ?_⟩
      rw [runE_snoc]
      have ei : ((i : Int) - 1).toNat = i - 1 := by omega
      have ej : ((i : Int) - 1 + 1).toNat = i := by omega
      simp only [ei, ej]
      rw [q3]
      simp
    rw [if_neg h3]
    have h4 := tr_last a b i k h0 h1 h2 h3
    obtain ⟨q1, q2, q3⟩ := tr_run a b f i (k - 1) (by omega) (by omega) (by omega)
    refine ⟨okE_snoc q1 (by simp only; omega) (by simp only; omega) (by simp only; omega) (by simp only; omega), by rw [endE_snoc]; simp only; omega, ?_⟩
    rw [runE_snoc]
    simp only [Int.toNat_natCast, Int.add_zero]
    rw [q3, take_drop_last h4.1 hk, ← take_last h4.1 hk]
    simp
end Go.Proofs
namespace Go.Proofs
open Go Go.Sh Go.RowKit

/- a table: its rows lie in blocks of their own; of row i the first (c i) numbers are known -/
def slV (m : Nat) (r : Nat) : Value := .slice (some ⟨r, 0, none⟩) m m
def Mt (w : World) (B bd n m : Nat) (c : Nat → Nat) (t : Nat) (D : Nat → Nat → Int) : Prop :=
  ∃ rs : List Nat, rs.length = t ∧ t ≤ n ∧ rs.Nodup ∧ Blk w bd (rs.map (slV m) ++ List.replicate (n - t) (.slice none 0 0)) 30 ∧ B ≤ bd ∧ ∀ (i r : Nat), rs[i]? = some r → r ≠ bd ∧ r < w.heap.size ∧ FnRow w B r m (c i) (D i)
section
variable {w w' : World} {B bd n m t : Nat} {c : Nat → Nat} {D : Nat → Nat → Int}
theorem Mt.ext (h : Mt w B bd n m c t D) (he : Ext w w') : Mt w' B bd n m c t D := by
  obtain ⟨rs, h1, h2, h3, h4, h5, h6⟩ := h
  have := he.size
  exact ⟨rs, h1, h2, h3, h4.ext he, h5, fun i r hr => ⟨(h6 i r hr).1, by have := (h6 i r hr).2.1; omega, (h6 i r hr).2.2.ext he⟩⟩
theorem Mt.congr {c' : Nat → Nat} (h : Mt w B bd n m c t D) (hc : ∀ i, i < t → c i = c' i) : Mt w B bd n m c' t D := by
  obtain ⟨rs, h1, h2, h3, h4, h5, h6⟩ := h
  refine ⟨rs, h1, h2, h3, h4, h5, fun i r hr => ?_⟩
  rw [← hc i (by rw [← h1]; exact (List.getElem?_eq_some_iff.1 hr).1)]; exact h6 i r hr
theorem Mt.row (h : Mt w B bd n m c t D) {i : Nat} (hi : i < t) :
    ∃ r, (∀ K : Addr → Prop, (∀ p, w.cell? p = some (.slice (some ⟨r, 0, none⟩) m m) → K p) → idx (some ⟨bd, 0, none⟩) n (i : Int) 1 K) ∧ FnRow w B r m (c i) (D i) ∧
      ∀ (w' : World) (k : Nat), FnRow w' B r m k (D i) → Chg (fun j => j = r) w w' → Mt w' B bd n m (fun j => if j = i then k else c j) t D := by
  obtain ⟨rs, h1, h2, h3, h4, h5, h6⟩ := h
  have hr : rs[i]? = some rs[i] := List.getElem?_eq_getElem (by omega)
  obtain ⟨g1, g1', g2⟩ := h6 i _ hr
  refine ⟨rs[i], fun K hK => ⟨by omega, by omega, ?_⟩, g2, fun w' k hk hc => ?_⟩
  · refine dr_ok (hK _ ?_)
    rw [add_none, h4.cell, List.getElem?_append_left (by simp; omega)]
    simp [slV]
  · have := hc.size
    refine ⟨rs, h1, h2, h3, hc.blk h4 (fun e => g1 e.symm), h5, fun j r hj => ⟨(h6 j r hj).1, by have := (h6 j r hj).2.1; omega, ?_⟩⟩
    by_cases hji : j = i
    · subst hji
      dsimp only
      rw [if_pos rfl]
      rw [hr] at hj
      cases hj; exact hk
    · dsimp only
      rw [if_neg hji]
      refine (h6 j r hj).2.2.chg hc fun e => hji ?_
      have hjl := (List.getElem?_eq_some_iff.1 hj).1
      have : rs[j] = rs[i] := by have := (List.getElem?_eq_some_iff.1 hj).2; rw [this, e]
      rcases Nat.lt_trichotomy j i with hlt | he' | hlt
      · exact absurd this (List.pairwise_iff_getElem.1 h3 j i hjl (by omega) hlt)
      · exact he'
      · exact absurd this.symm (List.pairwise_iff_getElem.1 h3 i j (by omega) hjl hlt)
theorem Mt.push {w0 : World} (h : Mt w0 B bd n m c t D) (he : Ext w0 w) (ht : t < n) {r : Nat} (hrw : FnRow w B r m 0 (D t)) {K : World → Prop} (hw0 : w0.heap.size ≤ r) (hrl : r < w.heap.size)
    (hK : ∀ w', Mt w' B bd n m (fun j => if j = t then 0 else c j) (t + 1) D → Chg (fun k => k = bd) w w' → w'.heap.size = w.heap.size → K w') :
    idx (some ⟨bd, 0, none⟩) n (t : Int) 1 fun p => stL w p 0 [slV m r] K := by
  obtain ⟨rs, h1, h2, h3, h4, h5, h6⟩ := h
  have hbl := h4.lt
  have hB := h4.ext he
  have hz := he.size
  refine ⟨by omega, by omega, dr_ok ?_⟩
  rw [add_none]
  refine stL_blk hB (by simp; omega) (by intro v hv; simp only [List.mem_singleton] at hv; subst hv; rfl) fun w' b1 b2 b3 b4 b5 b6 => ?_
  have hc : Chg (fun k => k = bd) w w' := ⟨b4, b5, b6, by omega, fun k' _ hk => b2 k' hk⟩
  refine hK w' ⟨rs ++ [r], by simp [h1], by omega, ?_, ?_, h5, fun i x hx => ?_⟩ hc b3
  · rw [List.nodup_append]
    refine ⟨h3, by simp, fun x hx y hy => ?_⟩
    simp only [List.mem_singleton] at hy
    subst hy
    obtain ⟨i, hi⟩ := List.getElem?_of_mem hx
    have := (h6 i x hi).2.1; omega
  · have e : putAt (List.map (slV m) rs ++ List.replicate (n - t) (.slice none 0 0)) (0 + (t : Int).toNat * 1 + 0) [slV m r] = List.map (slV m) (rs ++ [r]) ++ List.replicate (n - (t + 1)) (.slice none 0 0) := by
      simp only [putAt]
      rw [show 0 + (t : Int).toNat * 1 + 0 = rs.length by omega, List.set_append_right _ _ (by simp), show n - t = (n - (t + 1)) + 1 by omega, List.replicate_succ]
      simp
    rw [← e]; exact b1
  · by_cases hi : i < t
    · rw [List.getElem?_append_left (by omega)] at hx
      dsimp only
      rw [if_neg (by omega)]
      obtain ⟨g1, g2, g3⟩ := h6 i x hx
      exact ⟨g1, by omega, (g3.ext he).chg hc g1⟩
    · have hil := (List.getElem?_eq_some_iff.1 hx).1
      simp at hil
      obtain rfl : i = t := by omega
      rw [List.getElem?_append_right (by omega)] at hx
      simp [h1] at hx
      subst hx
      dsimp only
      rw [if_pos rfl]
      exact ⟨by omega, by omega, hrw.chg hc (by omega)⟩
end
end Go.Proofs
namespace Go.Proofs
open Go Go.Sh Go.RowKit

theorem tr_fuel (a b : List UInt8) : ∀ (f g i k : Nat), i + k ≤ f → i + k ≤ g → trE a b f i k = trE a b g i k
  | 0, g, i, k, h, h' => by
    obtain rfl : i = 0 := by omega
    obtain rfl : k = 0 := by omega
    cases g <;> simp [trE]
  | f + 1, 0, i, k, h, h' => by
    obtain rfl : i = 0 := by omega
    obtain rfl : k = 0 := by omega
    simp [trE]
  | f + 1, g + 1, i, k, h, h' => by
    unfold trE
    by_cases h0 : i = 0 ∧ k = 0
    · rw [if_pos h0, if_pos h0]
    rw [if_neg h0, if_neg h0]
    by_cases h1 : 0 < i ∧ 0 < k ∧ eqB a b (i - 1) (k - 1) = true ∧ eqE a b i k = eqE a b (i - 1) (k - 1)
    · rw [if_pos h1, if_pos h1]; exact tr_fuel a b f g _ _ (by omega) (by omega)
    rw [if_neg h1, if_neg h1]
    by_cases h2 : 0 < i ∧ 0 < k ∧ eqE a b i k = eqE a b (i - 1) (k - 1) + 1
    · rw [if_pos h2, if_pos h2, tr_fuel a b f g _ _ (by omega) (by omega)]
    rw [if_neg h2, if_neg h2]
    by_cases h3 : 0 < i ∧ eqE a b i k = eqE a b (i - 1) k + 1
    · rw [if_pos h3, if_pos h3, tr_fuel a b f g _ _ (by omega) (by omega)]
    rw [if_neg h3, if_neg h3]
    have h4 := tr_last a b i k h0 h1 h2 h3
    rw [tr_fuel a b f g _ _ (by omega) (by omega)]
theorem slT_edit : SlT Tryz.prog 34 62 3 32 (.agg #[.int .i64 0, .int .i64 0, .string ⟨⟨[]⟩⟩]) := ⟨by kernel_rfl, by kernel_rfl, rfl, by decide⟩

/- turning a row round -/
theorem store_edit {w : World} {B : Nat} {e : TypeId} {a : Option Addr} {n c : Nat} {l : List Edit} (h : OwnL encE w B e a n c l) {i : Nat} (hi : i < n) (x : Edit) {K : World → Prop}
    (hK : ∀ w', OwnL encE w' B e a n c (l.set i x) → Chg (bk a) w w' → w'.heap.size = w.heap.size → K w') : idx a n (i : Int) 3 fun p => stL w p 0 [.int .i64 x.at_, .int .i64 x.len, .string ⟨⟨x.text⟩⟩] K := by
  obtain ⟨g, hg, hidx, hst⟩ := h.store hi x
  exact hidx _ (hst K hK)
theorem get_edit {w : World} {B : Nat} {e : TypeId} {a : Option Addr} {n c : Nat} {l : List Edit} (h : OwnL encE w B e a n c l) {i : Nat} {x : Edit} (hi : l[i]? = some x) {K : Addr → Prop}
    (hK : ∀ p : Addr, w.cell? (p.add 0) = some (.int .i64 x.at_) → w.cell? (p.add 1) = some (.int .i64 x.len) → w.cell? (p.add 2) = some (.string ⟨⟨x.text⟩⟩) → K p) : idx a n (i : Int) 3 K := by
  obtain ⟨b, o, hidx, _, _, hc⟩ := h.out.get hi
  refine hidx K (hK _ ?_ ?_ ?_) <;> rw [add_none]
  · exact hc 0 _ rfl
  · exact hc 1 _ rfl
  · exact hc 2 _ rfl
theorem Reverse_spec {R : Ending → World → Prop} {w : World} {B : Nat} {e : TypeId} {a : Option Addr} {n c : Nat} (l : List Edit) (hn : n ≤ 4611686018427387904) (h : OwnL encE w B e a n c l)
    (hk : ∀ w', OwnL encE w' B e a n c l.reverse → Chg (bk a) w w' → R (.returned (.tuple ⟨[]⟩)) w') : Calls Tryz.prog F_slices_Reverse_of_api_Edit_api_Edit ⟨[.slice a n c]⟩ w R := by
  apply c_slices_Reverse_of_api_Edit_api_Edit
  have hl := h.length
  refine ⟨fun i j W m => ∃ (k : Nat) (l' : List Edit), i = k ∧ j = (n : Int) - 1 - k ∧ m = n - k ∧ 2 * k ≤ n + 1 ∧ l'.length = n ∧ OwnL encE W B e a n c l' ∧ Chg (bk a) w W ∧ ∀ x, x < n → l'[x]? = if x < k ∨ n ≤ x + k then l[n - 1 - x]? else l[x]?,
    ⟨_, 0, l, rfl, by rw [wrap_id (by omega)]; omega, rfl, by omega, hl, h, Chg.refl _ _, fun x hx => by rw [if_neg (by omega)]⟩, ?_⟩
  rintro _ _ W m ⟨k, l', rfl, rfl, rfl, hk2, hl', ho, hc, hx⟩ _
  refine br_split (fun hlt => ?_) (fun hge => ?_)
  · have hd := ext_drew W
    have ho := Owns.ext ho hd
    have hc := hc.trans (Chg.of_ext hd)
    unfold drw
    have ej : (n : Int) - 1 - k = ((n - 1 - k : Nat) : Int) := by omega
    rw [ej]
    obtain ⟨xi, hxi⟩ : ∃ x, l'[k]? = some x := ⟨_, List.getElem?_eq_getElem (by omega)⟩
    obtain ⟨xj, hxj⟩ : ∃ x, l'[n - 1 - k]? = some x := ⟨_, List.getElem?_eq_getElem (by omega)⟩
    refine get_edit ho hxj fun p p0 p1 p2 => ⟨_, p0, _, p1, _, p2, get_edit ho hxi fun q q0 q1 q2 => ⟨_, q0, _, q1, _, q2, ?_⟩⟩
    have key := store_edit ho (i := k) (by omega) xj (K := fun w18 => idx a n ((n - 1 - k : Nat) : Int) 3 fun p19 => stL w18 p19 0 [.int .i64 xi.at_, .int .i64 xi.len, .string ⟨⟨xi.text⟩⟩] fun w20 =>
      ∃ m21 : Nat, m21 < n - k ∧ ∃ (k' : Nat) (l' : List Edit), IntKind.i64.wrap ((k : Int) + 1) = k' ∧ IntKind.i64.wrap (((n - 1 - k : Nat) : Int) - 1) = (n : Int) - 1 - k' ∧ m21 = n - k' ∧ 2 * k' ≤ n + 1 ∧ l'.length = n ∧ OwnL encE w20 B e a n c l' ∧ Chg (bk a) w w20 ∧ ∀ x, x < n → l'[x]? = if x < k' ∨ n ≤ x + k' then l[n - 1 - x]? else l[x]?)
      fun w1 o1 ch1 z1 => store_edit o1 (i := n - 1 - k) (by omega) xi fun w2 o2 ch2 z2 => ⟨n - (k + 1), by omega, k + 1, _, wrap_nat (by omega), by rw [wrap_id (by omega)]; omega, rfl, by omega, by simp [hl'], o2, (hc.trans ch1).trans ch2, fun x hxn => ?_⟩
    · obtain ⟨y1, y2, y3⟩ := key
      obtain ⟨r, hr⟩ : ∃ r, a = some r := by
        rcases a with _ | r
        · exact y3.elim
        · exact ⟨r, rfl⟩
      subst hr
      refine ⟨y1, y2, ?_⟩
      have y3' : stL W.drew (r.add ((k : Int).toNat * 3)) 0 _ _ := y3
      refine ⟨stL_mono y3' fun w18 hw18 => ?_, trivial⟩
      obtain ⟨u1, u2, u3⟩ := hw18
      exact ⟨u1, u2, u3, trivial⟩
    · rw [List.getElem?_set, List.getElem?_set]
      have h1 := hx k (by omega)
      have h2 := hx (n - 1 - k) (by omega)
      rw [if_neg (by omega)] at h1
      rw [if_neg (by omega)] at h2
      by_cases e1 : n - 1 - k = x
      · subst e1
        rw [if_pos rfl, if_pos (by simp; omega), if_pos (by omega), show n - 1 - (n - 1 - k) = k by omega, ← h1, hxi]
      · rw [if_neg e1]
        by_cases e2 : k = x
        · subst e2
          rw [if_pos rfl, if_pos (by omega), if_pos (by omega), ← h2, hxj]
        · rw [if_neg e2, hx x hxn]
          by_cases e3 : x < k ∨ n ≤ x + k
          · rw [if_pos e3, if_pos (by omega)]
          · rw [if_neg e3, if_neg (by omega)]
  · have e : l' = l.reverse := by
      apply List.ext_getElem?
      intro x
      by_cases hxn : x < n
      · rw [hx x hxn, List.getElem?_reverse (by omega), hl]
        split
        · rfl
        · congr 1; omega
      · rw [List.getElem?_eq_none (by omega), List.getElem?_eq_none (by simp; omega)]
    rw [e] at ho
    exact hk _ ho hc
end Go.Proofs
namespace Go.Proofs
open Go Go.Sh Go.RowKit

theorem Mt.val {w : World} {B bd n m t : Nat} {c : Nat → Nat} {D : Nat → Nat → Int} (h : Mt w B bd n m c t D) {i k : Nat} (hi : i < t) (hk : k < c i) (hc : c i ≤ m) {K : Int → Prop} (hK : K (D i k)) :
    idx (some ⟨bd, 0, none⟩) n (i : Int) 1 fun p => ∃ (x : Option Addr) (xn xc : Nat), w.cell? p = some (.slice x xn xc) ∧ idx x xn (k : Int) 1 fun q => ∃ v : Int, w.cell? q = some (.int .i64 v) ∧ K v := by
  obtain ⟨r, h1, h2, _⟩ := h.row hi
  exact h1 _ fun p hp => ⟨_, _, _, hp, h2.get hk hc fun q hq => ⟨_, hq, hK⟩⟩
/- reading while other things are read -/
theorem Mt.val' {w : World} {B bd n m t : Nat} {c : Nat → Nat} {D : Nat → Nat → Int} (h : Mt w B bd n m c t D) {i k : Nat} (hi : i < t) (hk : k < c i) (hc : c i ≤ m) {K : Int → Prop} (hK : K (D i k)) {i' k' : Int} (ei : i' = (i : Int)) (ek : k' = (k : Int)) :
    idx (some ⟨bd, 0, none⟩) n i' 1 fun p => ∃ (x : Option Addr) (xn xc : Nat), w.cell? p = some (.slice x xn xc) ∧ idx x xn k' 1 fun q => ∃ v : Int, w.cell? q = some (.int .i64 v) ∧ K v := by
  subst ei ek; exact h.val hi hk hc hK
theorem flat_one (x : Value) : ∀ n : Nat, (List.replicate n [x]).flatten = List.replicate n x
  | 0 => rfl
  | n + 1 => by rw [List.replicate_succ, List.flatten_cons, flat_one x n]; rfl
theorem eqB_dec (a b : List UInt8) {i k : Nat} (hi : i < a.length) (hk : k < b.length) : decide (((a[i]).toNat : Int) = ((b[k]).toNat : Int)) = eqB a b i k := by
  unfold eqB
  rw [decide_eq_decide]
  simp only [List.getD_eq_getElem?_getD, List.getElem?_eq_getElem hi, List.getElem?_eq_getElem hk, Option.getD_some]
  constructor
  · intro hh; exact UInt8.toNat_inj.1 (by omega)
  · intro hh; rw [hh]

set_option maxRecDepth 20000 in
theorem Script_spec {R : Ending → World → Prop} {w : World} (a b : List UInt8) (ha : a.length ≤ 256) (hb : b.length ≤ 256)
    (h : ∀ oa on oc w', OwnL encE w' w.heap.size 62 oa on oc (trE a b (a.length + b.length) a.length b.length) → Ext w w' → R (.returned (.tuple ⟨[.slice oa on oc, .int .i64 0]⟩)) w') : Calls Tryz.prog F_editdistance_Script ⟨[.string ⟨⟨a⟩⟩, .string ⟨⟨b⟩⟩]⟩ w R := by
  apply c_editdistance_Script
  have ea : IntKind.i64.wrap ((a.length : Int) + 1) = ((a.length + 1 : Nat) : Int) := wrap_nat (by omega)
  have eb : IntKind.i64.wrap ((b.length : Int) + 1) = ((b.length + 1 : Nat) : Int) := wrap_nat (by omega)
  unfold sh_editdistance_Script
  rw [ea, eb]
  simp only [Int.toNat_natCast]
  refine long_spec _ _ ⟨_, rfl, br_neg (by omega) ?_⟩
  refine mks_intro (Nat.le_refl _) (by omega) fun bd w7 hbd Bd e7 s7 => ?_
  rw [flat_one] at Bd
  have hM0 : Mt w7 w.heap.size bd (a.length + 1) (b.length + 1) (fun _ => b.length + 1) 0 (fun i k => (eqE a b i k : Int)) :=
    ⟨[], rfl, by omega, List.nodup_nil, by simpa using Bd, by omega, fun i r hr => by simp at hr⟩
  refine ⟨fun i W m => ∃ t : Nat, i = t ∧ t ≤ a.length + 1 ∧ m = a.length + 1 - t ∧ Mt W w.heap.size bd (a.length + 1) (b.length + 1) (fun _ => b.length + 1) t (fun i k => (eqE a b i k : Int)) ∧ Ext w W, ⟨_, 0, rfl, by omega, rfl, hM0, e7⟩, ?_⟩
  rintro _ W m ⟨t, rfl, ht, rfl, hM, he⟩ _
  refine br_split (fun hlt => ?_) (fun hge => ?_)
  · -- a row
    refine mks_intro (Nat.le_refl _) (by omega) fun r w14 hr Br e14 s14 => ?_
    have zW := he.size
    have hrow : FnRow w14 w.heap.size r (b.length + 1) 0 (fun k => (eqE a b t k : Int)) := ⟨_, OwnL.made (E := encI) (x := 0) Br (by omega) (by simp only [maxLen]; omega), fun j hj => by omega⟩
    refine Mt.push hM e14 (by omega) hrow (by omega) (by omega) fun w16 hM16 hc16 z16 => ?_
    have zr := hM16
    obtain ⟨rs0, _, _, _, hbl, hB', _⟩ := hM16
    have he16 : Ext w w16 := ext_chgS (ext_trans he e14) hc16 fun k hk => by omega
    obtain ⟨r', hr1, hr2, hr3⟩ := zr.row (i := t) (by omega)
    refine hr1 _ fun p hp => ⟨_, _, _, hp, ?_⟩
    refine ⟨fun k W m => ∃ c : Nat, k = c ∧ c ≤ b.length + 1 ∧ m = b.length + 1 - c ∧ Mt W w.heap.size bd (a.length + 1) (b.length + 1) (fun j => if j = t then c else b.length + 1) (t + 1) (fun i k => (eqE a b i k : Int)) ∧ Ext w W, ⟨_, 0, rfl, by omega, rfl, zr, he16⟩, ?_⟩
    clear hp p
    rintro _ W m ⟨c, rfl, hc, rfl, hM, he⟩ _
    refine br_split (fun hlt2 => ?_) (fun hge2 => ?_)
    · have c1 : IntKind.i64.wrap ((c : Int) + 1) = ((c + 1 : Nat) : Int) := wrap_nat (by omega)
      have bnd := ed_le (eqB a b)
      -- a number goes in
      have put : ∀ (W' : World) (v : Int), Ext W W' → v = (eqE a b t c : Int) → ∀ Q : World → Prop, (∀ w2, (∃ c' : Nat, ((c + 1 : Nat) : Int) = (c' : Int) ∧ c' ≤ b.length + 1 ∧ b.length + 1 - (c + 1) = b.length + 1 - c' ∧ Mt w2 w.heap.size bd (a.length + 1) (b.length + 1) (fun j => if j = t then c' else b.length + 1) (t + 1) (fun i k => (eqE a b i k : Int)) ∧ Ext w w2) → Q w2) →
          ∃ r, (∀ K : Addr → Prop, (∀ p, W'.cell? p = some (.slice (some ⟨r, 0, none⟩) (b.length + 1) (b.length + 1)) → K p) → idx (some ⟨bd, 0, none⟩) (a.length + 1) (t : Int) 1 K) ∧
            (idx (some ⟨r, 0, none⟩) (b.length + 1) (c : Int) 1 fun p => stL W' p 0 [.int .i64 v] Q) := by
        intro W' v hx hv Q hQ
        have hM' := hM.ext hx
        obtain ⟨r, q1, q2, q3⟩ := hM'.row (i := t) (by omega)
        rw [if_pos rfl] at q2
        refine ⟨r, q1, q2.set (by omega) hv fun w2 f2 ch2 z2 => hQ w2 ⟨c + 1, rfl, by omega, rfl, ?_, ?_⟩⟩
        · exact (q3 w2 (c + 1) f2 ch2).congr fun j _ => by by_cases e : j = t <;> simp [e]
        · exact ext_chgS (ext_trans he hx) ch2 fun j hj => by have := (q2.lt (by omega)).1; omega
      intro K24 hK24
      have k24 : ∀ g, g = decide (t = 0 ∨ c = 0) → K24 g W := by
        rintro _ rfl
        refine hK24 _ _ fun _ => br_split (fun g => ?_) (fun g => ?_)
        · obtain ⟨r, q1, q2⟩ := put W (IntKind.i64.wrap ((t : Int) + c)) (Below.refl _ _) (by
            rw [wrap_id (by omega)]
            rcases g with rfl | rfl
            · simp [eqE, ed]
            · simp [eqE, ed_zero]) (fun w2 => ∃ m31 : Nat, m31 < b.length + 1 - c ∧ ∃ c' : Nat, IntKind.i64.wrap ((c : Int) + 1) = (c' : Int) ∧ c' ≤ b.length + 1 ∧ m31 = b.length + 1 - c' ∧ Mt w2 w.heap.size bd (a.length + 1) (b.length + 1) (fun j => if j = t then c' else b.length + 1) (t + 1) (fun i k => (eqE a b i k : Int)) ∧ Ext w w2)
            (fun w2 ⟨c', x1, x2, x3, x4, x5⟩ => ⟨b.length + 1 - (c + 1), by omega, c', by rw [c1]; exact x1, x2, x3, x4, x5⟩)
          exact q1 _ fun p hp => ⟨_, _, _, hp, q2⟩
        · obtain ⟨t', rfl⟩ : ∃ t', t = t' + 1 := ⟨t - 1, by omega⟩
          obtain ⟨c', rfl⟩ : ∃ c', c = c' + 1 := ⟨c - 1, by omega⟩
          have t1 : IntKind.i64.wrap (((t' + 1 : Nat) : Int) - 1) = (t' : Int) := by rw [wrap_id (by omega)]; omega
          have c2 : IntKind.i64.wrap (((c' + 1 : Nat) : Int) - 1) = (c' : Int) := by rw [wrap_id (by omega)]; omega
          have hta : t' < a.length := by omega
          have hcb : c' < b.length := by omega
          rw [t1, c2]
          unfold drw
          have hd := ext_trans (ext_drew W) (ext_drew W.drew)
          have hMd := hM.ext hd
          have b1 := bnd t' c'
          have b2 := bnd t' (c' + 1)
          have b3 := bnd (t' + 1) c'
          have st := ed_step (eqB a b) t' c'
          refine sidx_nat hta (sidx_nat hcb ?_)
          rw [eqB_dec a b hta hcb]
          have v1 : ∀ {K : Int → Prop}, K (eqE a b t' c') → idx (some ⟨bd, 0, none⟩) (a.length + 1) (t' : Int) 1 fun p => ∃ (x : Option Addr) (xn xc : Nat), W.drew.drew.cell? p = some (.slice x xn xc) ∧ idx x xn (c' : Int) 1 fun q => ∃ v : Int, W.drew.drew.cell? q = some (.int .i64 v) ∧ K v :=
            fun hK => hMd.val (i := t') (k := c') (by omega) (by rw [if_neg (by omega)]; omega) (by rw [if_neg (by omega)]; omega) hK
          have v2 : ∀ {K : Int → Prop}, K (eqE a b t' (c' + 1)) → idx (some ⟨bd, 0, none⟩) (a.length + 1) (t' : Int) 1 fun p => ∃ (x : Option Addr) (xn xc : Nat), W.drew.drew.cell? p = some (.slice x xn xc) ∧ idx x xn ((c' + 1 : Nat) : Int) 1 fun q => ∃ v : Int, W.drew.drew.cell? q = some (.int .i64 v) ∧ K v :=
            fun hK => hMd.val (i := t') (k := c' + 1) (by omega) (by rw [if_neg (by omega)]; omega) (by rw [if_neg (by omega)]; omega) hK
          have v3 : ∀ {K : Int → Prop}, K (eqE a b (t' + 1) c') → idx (some ⟨bd, 0, none⟩) (a.length + 1) ((t' + 1 : Nat) : Int) 1 fun p => ∃ (x : Option Addr) (xn xc : Nat), W.drew.drew.cell? p = some (.slice x xn xc) ∧ idx x xn (c' : Int) 1 fun q => ∃ v : Int, W.drew.drew.cell? q = some (.int .i64 v) ∧ K v :=
            fun hK => hMd.val (i := t' + 1) (k := c') (by omega) (by rw [if_pos rfl]; omega) (by rw [if_pos rfl]; omega) hK
          have fin := fun v hv => put W.drew.drew v hd hv (fun w2 => ∃ m31 : Nat, m31 < b.length + 1 - (c' + 1) ∧ ∃ c'' : Nat, IntKind.i64.wrap (((c' + 1 : Nat) : Int) + 1) = (c'' : Int) ∧ c'' ≤ b.length + 1 ∧ m31 = b.length + 1 - c'' ∧ Mt w2 w.heap.size bd (a.length + 1) (b.length + 1) (fun j => if j = t' + 1 then c'' else b.length + 1) (t' + 1 + 1) (fun i k => (eqE a b i k : Int)) ∧ Ext w w2)
            (fun w2 ⟨c'', x1, x2, x3, x4, x5⟩ => ⟨b.length + 1 - (c' + 1 + 1), by omega, c'', by rw [c1]; exact x1, x2, x3, x4, x5⟩)
          unfold eqE at *
          refine br_cases (fun g => ?_) (fun g => ?_)
          · rw [g] at st
            obtain ⟨r, q1, q2⟩ := fin (min (min (ed (eqB a b) t' c' : Int) ((ed (eqB a b) t' (c' + 1) : Int) + 1)) ((ed (eqB a b) (t' + 1) c' : Int) + 1)) (by rw [st]; simp only [if_true]; omega)
            refine q1 _ fun p hp => ⟨_, _, _, hp, v1 (v2 (v3 ?_))⟩
            rw [wrap_id (by omega), wrap_id (by omega)]
            obtain ⟨y1, y2, y3⟩ := q2
            exact ⟨y1, y2, y3, trivial⟩
          · rw [g] at st
            obtain ⟨r, q1, q2⟩ := fin (1 + min (min (ed (eqB a b) t' c' : Int) (ed (eqB a b) t' (c' + 1) : Int)) (ed (eqB a b) (t' + 1) c' : Int)) (by rw [st]; simp only [Bool.false_eq_true, if_false]; omega)
            refine q1 _ fun p hp => ⟨_, _, _, hp, v1 (v2 (v3 ?_))⟩
            rw [wrap_id (by omega)]
            obtain ⟨y1, y2, y3⟩ := q2
            exact ⟨y1, y2, y3, trivial⟩
      exact br_split (fun g => k24 _ (by simp; omega)) (fun g => k24 _ (by rw [decide_eq_decide]; omega))
    · have : c = b.length + 1 := by omega
      subst this
      exact ⟨a.length + 1 - (t + 1), by omega, t + 1, wrap_nat (by omega), by omega, rfl, hM.congr fun j _ => by by_cases e : j = t <;> simp [e], he⟩
  · -- the way back
    have : t = a.length + 1 := by omega
    subst this
    intro K72 hK72
    refine ⟨fun oa on oc i k W' m => ∃ (x y : Nat) (l : List Edit), i = x ∧ k = y ∧ m = x + y ∧ x ≤ a.length ∧ y ≤ b.length ∧ OwnL encE W' W.heap.size 62 oa on oc l ∧ trE a b (a.length + b.length) a.length b.length = trE a b (x + y) x y ++ l.reverse ∧ l.length + x + y ≤ a.length + b.length ∧ Ext W W',
      ⟨_, a.length, b.length, [], rfl, rfl, rfl, Nat.le_refl _, Nat.le_refl _, Owns.nil _ _ _ _, by simp, by simp, Below.refl _ _⟩, ?_⟩
    rintro oa on oc _ _ W' m ⟨x, y, l, rfl, rfl, rfl, hx, hy, ho, htr, hll, hW⟩ _
    have hol := ho.length
    intro K84 hK84
    have k84 : ¬ (x = 0 ∧ y = 0) → K84 W' := by
      intro h0
      have hun : trE a b (x + y) x y = trE a b (x + y - 1 + 1) x y := tr_fuel a b _ _ x y (by omega) (by omega)
      rw [trE, if_neg h0] at hun
      refine hK84 _ fun _ => ?_
      intro K86 hK86
      have wx : ∀ z : Nat, 0 < z → z ≤ 256 → IntKind.i64.wrap ((z : Int) - 1) = ((z - 1 : Nat) : Int) := fun z h h2 => wrap_pred h (by omega)
      have read : ∀ (W2 : World), Ext W' W2 → ∀ {i k : Nat} {K : Int → Prop} {i' k' : Int}, i' = (i : Int) → k' = (k : Int) → i ≤ a.length → k ≤ b.length → K (eqE a b i k) →
          idx (some ⟨bd, 0, none⟩) (a.length + 1) i' 1 fun p => ∃ (x : Option Addr) (xn xc : Nat), W2.cell? p = some (.slice x xn xc) ∧ idx x xn k' 1 fun q => ∃ v : Int, W2.cell? q = some (.int .i64 v) ∧ K v :=
        fun W2 hx i k K i' k' ei ek hi hk hK => (hM.ext (ext_trans hW hx)).val' (i := i) (k := k) (by omega) (by omega) (Nat.le_refl _) hK ei ek
      have bnd := ed_le (eqB a b)
      have i1 : ∀ z : Nat, 0 < z → ((z - 1 : Nat) : Int) + 1 = (z : Int) := fun z hz => by omega
      have subT : 0 < y → ((b.take y).drop (y - 1)).length ≤ 1 := fun hy => by simp; omega
      -- the edits that are added
      have add : ∀ (W2 : World) (e : Edit) (x' y' : Nat), Ext W' W2 → x' ≤ x → y' ≤ y → x' + y' < x + y → trE a b (x + y) x y = trE a b (x' + y') x' y' ++ [e] →
          al W2 62 [.int .i64 e.at_, .int .i64 e.len, .string ⟨⟨e.text⟩⟩] fun p w1 => app Tryz.prog [34, 34] 34 (.slice oa on oc) (.slice (some p) 1 1) w1 fun a4 n4 c4 w4 => ∃ m : Nat, m < x + y ∧ ∃ (x2 y2 : Nat) (l : List Edit), (x' : Int) = (x2 : Nat) ∧ (y' : Int) = (y2 : Nat) ∧ m = x2 + y2 ∧ x2 ≤ a.length ∧ y2 ≤ b.length ∧ OwnL encE w4 W.heap.size 62 a4 n4 c4 l ∧ trE a b (a.length + b.length) a.length b.length = trE a b (x2 + y2) x2 y2 ++ l.reverse ∧ l.length + x2 + y2 ≤ a.length + b.length ∧ Ext W w4 := by
        intro W2 e x' y' hx2 hx' hy' hlt hte
        have hz := (ext_trans hW hx2).size
        refine OwnL.push (E := encE) slT_edit (Owns.ext ho hx2) hz e (by omega) (by omega) fun a4 c4 w4 o4 ch4 n4 => ⟨x' + y', hlt, x', y', l ++ [e], rfl, rfl, rfl, by omega, by omega, o4, ?_, by simp; omega, ext_chgS (ext_trans hW hx2) ch4 fun j hj => (ho.bk hj).1⟩
        rw [htr, hte]; simp
      have k86 : ∀ W2 g, Ext W' W2 → g = decide (0 < x ∧ 0 < y ∧ eqB a b (x - 1) (y - 1) = true ∧ eqE a b x y = eqE a b (x - 1) (y - 1)) → K86 g W2 := by
        rintro W2 _ hx2 rfl
        refine hK86 _ _ fun _ => br_split (fun g => ?_) (fun g => ?_)
        · rw [if_pos g] at hun
          refine ⟨x - 1 + (y - 1), by omega, x - 1, y - 1, l, wx x g.1 (by omega), wx y g.2.1 (by omega), rfl, by omega, by omega, Owns.ext ho hx2, ?_, by omega, ext_trans hW hx2⟩
          rw [htr, hun, tr_fuel a b (x + y - 1) (x - 1 + (y - 1)) _ _ (by omega) (by omega)]
        rw [if_neg g] at hun
        intro K90 hK90
        have k90 : ∀ W3 g, Ext W' W3 → g = decide (0 < x ∧ 0 < y ∧ eqE a b x y = eqE a b (x - 1) (y - 1) + 1) → K90 g W3 := by
          rintro W3 _ hx3 rfl
          refine hK90 _ _ fun _ => br_split (fun g2 => ?_) (fun g2 => ?_)
          · rw [if_pos g2] at hun
            rw [wx x g2.1 (by omega), wx y g2.2.1 (by omega), i1 y g2.2.1, wrap_id (by omega)]
            refine ssl_nat (by omega) (by omega) ?_
            rw [← wx x g2.1 (by omega), wrap_id (by omega)]
            have := add W3 ⟨(x : Int) - 1, 1, (b.take y).drop (y - 1)⟩ (x - 1) (y - 1) hx3 (by omega) (by omega) (by omega) (by rw [hun, tr_fuel a b (x + y - 1) (x - 1 + (y - 1)) _ _ (by omega) (by omega)])
            rw [show ((x - 1 : Nat) : Int) = (x : Int) - 1 by omega] at this
            exact this
          rw [if_neg g2] at hun
          intro K99 hK99
          have k99 : ∀ W4 g, Ext W' W4 → g = decide (0 < x ∧ eqE a b x y = eqE a b (x - 1) y + 1) → K99 g W4 := by
            rintro W4 _ hx4 rfl
            refine hK99 _ _ fun _ => br_split (fun g3 => ?_) (fun g3 => ?_)
            · rw [if_pos g3] at hun
              rw [wrap_id (by omega)]
              have := add W4 ⟨(x : Int) - 1, 1, []⟩ (x - 1) y hx4 (by omega) (by omega) (by omega) (by rw [hun, tr_fuel a b (x + y - 1) (x - 1 + y) _ _ (by omega) (by omega)])
              rw [show ((x - 1 : Nat) : Int) = (x : Int) - 1 by omega] at this
              exact this
            · rw [if_neg g3] at hun
              have h4 := tr_last a b x y h0 g g2 g3
              rw [wx y h4.1 (by omega), i1 y h4.1, wrap_id (by omega)]
              refine ssl_nat (by omega) (by omega) ?_
              exact add W4 ⟨x, 0, (b.take y).drop (y - 1)⟩ x (y - 1) hx4 (by omega) (by omega) (by omega) (by rw [hun, tr_fuel a b (x + y - 1) (x + (y - 1)) _ _ (by omega) (by omega)])
          unfold drw
          have hd := ext_trans hx3 (ext_drew W3)
          refine br_split (fun p1 => ?_) (fun p1 => k99 _ _ hd (by rw [Bool.eq_iff_iff]; simp; omega))
          refine read _ hd (i := x) (k := y) rfl rfl (by omega) (by omega) (read _ hd (i := x - 1) (k := y) (wx x (by omega) (by omega)) rfl (by omega) (by omega) (k99 _ _ hd ?_))
          have := bnd (x - 1) y
          rw [decide_eq_decide, wrap_id (by unfold eqE; omega)]; omega
        unfold drw
        have hd := ext_trans hx2 (ext_drew W2)
        refine br_split (fun p1 => br_split (fun p2 => ?_) (fun p2 => k90 _ _ hd (by rw [Bool.eq_iff_iff]; simp; omega))) (fun p1 => k90 _ _ hd (by rw [Bool.eq_iff_iff]; simp; omega))
        refine read _ hd (i := x) (k := y) rfl rfl (by omega) (by omega) (read _ hd (i := x - 1) (k := y - 1) (wx x (by omega) (by omega)) (wx y (by omega) (by omega)) (by omega) (by omega) (k90 _ _ hd ?_))
        have := bnd (x - 1) (y - 1)
        rw [decide_eq_decide, wrap_id (by unfold eqE; omega)]; omega
      unfold drw
      have hd := ext_drew W'
      refine br_split (fun p1 => br_split (fun p2 => ?_) (fun p2 => k86 _ _ hd (by rw [Bool.eq_iff_iff]; simp; omega))) (fun p1 => k86 _ _ hd (by rw [Bool.eq_iff_iff]; simp; omega))
      have hxa : x - 1 < a.length := by omega
      have hyb : y - 1 < b.length := by omega
      rw [wx x (by omega) (by omega), wx y (by omega) (by omega)]
      refine sidx_nat hxa (sidx_nat hyb ?_)
      rw [eqB_dec a b hxa hyb]
      refine br_cases (fun g => ?_) (fun g => k86 _ _ hd (by rw [Bool.eq_iff_iff]; simp [g]))
      refine read _ hd (i := x) (k := y) rfl rfl (by omega) (by omega) (read _ hd (i := x - 1) (k := y - 1) rfl rfl (by omega) (by omega) (k86 _ _ hd ?_))
      rw [decide_eq_decide]
      constructor
      · intro e; exact ⟨by omega, by omega, g, by omega⟩
      · intro e; omega
    refine br_split (fun p1 => k84 (by omega)) (fun p1 => br_split (fun p2 => k84 (by omega)) (fun p2 => ?_))
    obtain rfl : x = 0 := by omega
    obtain rfl : y = 0 := by omega
    refine hK72 _ _ _ _ fun _ => ?_
    have hz := he.size
    refine Reverse_spec l (by omega) ho fun w5 o5 c5 => ⟨rfl, h _ _ _ _ ?_ (ext_chgS (ext_trans he hW) c5 fun j hj => by have := (ho.bk hj).1; omega)⟩
    rw [htr]
    simp only [trE, List.nil_append]
    refine ⟨o5.1, o5.2.imp id ?_⟩
    rintro ⟨g, cap, cur, p1, p2, p3⟩
    exact ⟨g, cap, cur, p1, by omega, p3⟩
end Go.Proofs
namespace Go.Proofs
open Go Go.Sh Go.RowKit

theorem b2s_intro {w : World} {B : Nat} {a : Option Addr} {n c : Nat} {l : List UInt8} {K : List UInt8 → Prop} (h : Owns w B 5 1 a n c (Lib.byteCells l)) (hK : K l) : b2s Tryz.prog w a n c K := by
  have hl : l.length = n := by have := h.1; simpa [Lib.byteCells] using this
  refine ⟨l, ?_, hK⟩
  by_cases hn : 0 < n
  · obtain ⟨g, rfl, _, hc⟩ := h.cell hn
    have := run_convert_bytes_back (P := Tryz.prog) w 79 9 5 ⟨g, 0, none⟩ c l (by kernel_rfl) (by kernel_rfl) (by kernel_rfl) (fun j hj => by rw [add_none, Nat.zero_add]; exact hc j _ (by simp [Lib.byteCells, hj]))
    rw [run_convert_bytes_string w 79 9 5 _ _ _ (by kernel_rfl) (by kernel_rfl) (by kernel_rfl), hl] at this
    exact this
  · have hl0 : l = [] := List.eq_nil_of_length_eq_zero (by omega)
    subst hl0
    obtain rfl : n = 0 := by omega
    cases a with
    | none => simp [Conv.bytesToString]; rfl
    | some p =>
      have := run_convert_bytes_back (P := Tryz.prog) w 79 9 5 p c [] (by kernel_rfl) (by kernel_rfl) (by kernel_rfl) (fun j hj => by simp at hj)
      rw [run_convert_bytes_string w 79 9 5 _ _ _ (by kernel_rfl) (by kernel_rfl) (by kernel_rfl)] at this
      exact this
theorem owns_room {w : World} {b B : Nat} {e : TypeId} {size : Nat} {cs : List Value} {c : Nat} (h : Blk w b cs e) (hB : B ≤ b) (hc : c ≤ maxLen) (hl : cs.length = c * size) : Owns w B e size (some ⟨b, 0, none⟩) 0 c [] :=
  ⟨by simp, .inr ⟨b, c, ⟨cs⟩, rfl, hB, h, Nat.zero_le _, hc, by simpa using hl, by simp⟩⟩
/- where the edits before a place have brought -/
theorem okE_app {n : Nat} : ∀ {l l' : List Edit} {e : Int}, okE n (l ++ l') e ↔ okE n l e ∧ okE n l' (endE l e)
  | [], l', e => by simp [okE, endE]
  | x :: l, l', e => by simp only [List.cons_append, okE, endE, okE_app (l := l), and_assoc]
theorem runE_app (a : List UInt8) : ∀ (l l' : List Edit) (out : List UInt8) (at_ : Nat), runE a (l ++ l') out at_ = runE a l' (runE a l out at_).1 (runE a l out at_).2
  | [], _, _, _ => rfl
  | x :: l, l', out, at_ => by simp only [List.cons_append, runE]; exact runE_app a l l' _ _
theorem end_le {n : Nat} : ∀ {l : List Edit} {e : Int}, okE n l e → 0 ≤ e → e ≤ n → 0 ≤ endE l e ∧ endE l e ≤ n
  | [], e, _, h0, h1 => ⟨h0, h1⟩
  | x :: l, e, ⟨g1, g2, g3, g4, g5⟩, h0, h1 => end_le (l := l) (e := x.at_ + x.len) g5 (by omega) g3
theorem out_len (a : List UInt8) : ∀ (l : List Edit) (out : List UInt8) (at_ : Nat), okE a.length l at_ → at_ ≤ a.length → out.length ≤ (runE a l out at_).1.length
  | [], _, _, _, _ => Nat.le_refl _
  | x :: l, out, at_, ⟨g1, g2, g3, g4, g5⟩, h => by
    have e : ((x.at_ + x.len).toNat : Int) = x.at_ + x.len := by omega
    have := out_len a l (out ++ (a.take x.at_.toNat).drop at_ ++ x.text) (x.at_ + x.len).toNat (by rw [e]; exact g5) (by omega)
    simp only [runE]
    simp only [List.length_append] at this
    omega

end Go.Proofs
namespace Go.Proofs
open Go Go.Sh Go.RowKit

theorem stF_chars {f : Fo} (h : FineF f) (hand : Int) : FineF (stF f hand) ∧ (charsF (stF f hand)).length ≤ 192 := by
  have h1 := h.res hand false
  have h2 := charsF_tlen (mergeF (resolveF f hand false))
  have h3 := h1.tl
  exact ⟨h1, by unfold stF; omega⟩
def scrF (s t : List UInt8) : List Edit := trE s t (s.length + t.length) s.length t.length
theorem scr_texts (a b : List UInt8) : ∀ (f i k : Nat), ∀ x ∈ trE a b f i k, x.text.length ≤ b.length
  | 0, _, _, x, hx => by simp [trE] at hx
  | f + 1, i, k, x, hx => by
    unfold trE at hx
    split at hx
    · simp at hx
    split at hx
    · exact scr_texts a b f _ _ x hx
    split at hx
    · rw [List.mem_append] at hx
      rcases hx with hx | hx
      · exact scr_texts a b f _ _ x hx
      · simp only [List.mem_singleton] at hx; subst hx; simp; omega
    split at hx
    · rw [List.mem_append] at hx
      rcases hx with hx | hx
      · exact scr_texts a b f _ _ x hx
      · simp only [List.mem_singleton] at hx; subst hx; simp
    · rw [List.mem_append] at hx
      rcases hx with hx | hx
      · exact scr_texts a b f _ _ x hx
      · simp only [List.mem_singleton] at hx; subst hx; simp; omega
theorem Changes_spec {R : Ending → World → Prop} {S : Nat → Prop} {w : World} {a : Option Addr} {n c : Nat} (f : Fo) (hand : Int) (hfi : FineF f) (h1 : 1 ≤ hand) (h8 : hand ≤ 8) (hF : Forms w) (hf : SlF S w a n f)
    (h : ∀ oa on oc w', OwnL encE w' w.heap.size 62 oa on oc (scrF (charsF (stF f (hand - 1))) (charsF (stF f hand))) → Ext w w' → R (.returned (.tuple ⟨[.slice oa on oc, .int .i64 0]⟩)) w') : Calls Tryz.prog F_hands_Changes ⟨[.slice a n c, .int .i64 hand]⟩ w R := by
  apply c_hands_Changes
  have hg := okF_good hfi.ok
  have hsz := hfi.size
  have htl := hfi.tl
  have t1 := tlen_resolve f (hand - 1) false
  have t2 := tlen_resolve f hand false
  have q1 := each_resolve (hand - 1) f hg
  have q2 := each_resolve hand f hg
  obtain ⟨f1, l1⟩ := stF_chars hfi (hand - 1)
  obtain ⟨f2, l2⟩ := stF_chars hfi hand
  unfold sh_hands_Changes
  rw [wrap_id (show -9223372036854775808 ≤ hand - 1 ∧ hand - 1 ≤ 9223372036854775807 by omega)]
  refine hcheck_spec f hand hfi.small hF hf fun w1 e1 => ⟨_, rfl, ?_⟩
  have et : errT f hand = 0 := by unfold errT; rw [hfi.check, if_neg (by simp), if_neg (by omega)]
  rw [et]
  refine br_neg (by simp) ?_
  refine resolved_spec f (hand - 1) (by omega) hg (by rw [q1]; omega) (hf.ext e1) fun a2 n2 c2 w2 h2 e2 => ⟨_, _, _, rfl, ?_⟩
  rw [q1] at h2
  have h2 : SlF _ w2 a2 n2 (stF f (hand - 1)) := h2
  have E2 := ext_trans e1 e2
  refine Characters_spec _ f1.small (hF.ext E2) h2 fun w3 e3 => ⟨_, _, rfl, ?_⟩
  rw [f1.check]
  simp only [ne_eq, not_true, if_false]
  refine br_neg (by simp) ?_
  have E3 := ext_trans E2 e3
  refine resolved_spec f hand (by omega) hg (by rw [q2]; omega) (hf.ext E3) fun a4 n4 c4 w4 h4 e4 => ⟨_, _, _, rfl, ?_⟩
  rw [q2] at h4
  have h4 : SlF _ w4 a4 n4 (stF f hand) := h4
  have E4 := ext_trans E3 e4
  refine Characters_spec _ f2.small (hF.ext E4) h4 fun w5 e5 => ⟨_, _, rfl, ?_⟩
  rw [f2.check]
  simp only [ne_eq, not_true, if_false]
  refine br_neg (by simp) ?_
  have E5 := ext_trans E4 e5
  have z5 := E5.size
  refine Script_spec _ _ (by omega) (by omega) fun oa on oc w6 o6 e6 => ⟨_, _, _, _, rfl, h _ _ _ _ ?_ (ext_trans E5 e6)⟩
  refine ⟨o6.1, o6.2.imp id ?_⟩
  rintro ⟨g, cap, cur, p1, p2, p3⟩
  exact ⟨g, cap, cur, p1, by omega, p3⟩

end Go.Proofs
namespace Go.Proofs
open Go Go.Sh Go.RowKit

theorem fold_max : ∀ (l : List Nn) (m : Int), 0 ≤ m → l.foldl (fun m (x : Nn) => if x.k = 8 ∨ x.k = 9 then max m x.n else m) m = max m (mostN l)
  | [], m, h => by simp [mostN]; omega
  | x :: l, m, h => by
    unfold mostN
    simp only [List.foldl_cons]
    by_cases hk : x.k = 8 ∨ x.k = 9
    · rw [if_pos hk, if_pos hk, fold_max l (max m x.n) (by omega), fold_max l (max 0 x.n) (by omega)]; omega
    · rw [if_neg hk, if_neg hk, fold_max l m h, fold_max l 0 (Int.le_refl _)]; omega
theorem most_nonneg (l : List Nn) : 0 ≤ mostN l := (most_ge l 0).1
theorem most_app (l m : List Nn) : mostN (l ++ m) = max (mostN l) (mostN m) := by
  have := fold_max m (mostN l) (most_nonneg l)
  rw [← this]; unfold mostN; rw [List.foldl_append]
theorem greatest_spec : ∀ (f : Fo) {R : Ending → World → Prop} {S : Nat → Prop} {w : World} {a : Option Addr} {n c : Nat}, f.size ≤ 1000000000 → SlF S w a n f →
    (∀ w', Ext w w' → R (.returned (.int .i64 (mostN (nodesF f)))) w') → Calls Tryz.prog F_ref11_greatest ⟨[.slice a n c]⟩ w R := by
  intro f
  induction hz : f.size using Nat.strongRecOn generalizing f with
  | _ z ih =>
  intro R S w a n c hs hf h
  apply c_ref11_greatest
  have hn := hf.1
  have hfl := f.len_le_size
  refine ⟨fun x i W m => ∃ (p r : Fo), f = p.app r ∧ x = mostN (nodesF p) ∧ i = p.len ∧ m = r.len ∧ Ext w W, ⟨_, .nil, f, rfl, rfl, rfl, rfl, Below.refl _ _⟩, ?_⟩
  rintro _ _ W m ⟨p, r, hpr, rfl, rfl, rfl, he⟩ _
  refine br_split (fun hlt => ?_) (fun hge => ?_)
  · obtain ⟨k, t, mm, ps, r, rfl⟩ := Fo.next hpr (by omega)
    have hsl := Fo.sub_len hpr
    have hsz := Fo.sub_size hpr
    have e1 : f = (p.app (.one k t mm ps)).app r := by rw [Fo.app_one_app]; exact hpr
    have i1 : IntKind.i64.wrap ((p.len : Int) + 1) = ((p.app (.one k t mm ps)).len : Int) := by rw [wrap_nat (by omega)]; simp [Fo.one]
    have m1 : mostN (nodesF (p.app (.one k t mm ps))) = max (if k = 8 ∨ k = 9 then max (mostN (nodesF p)) mm else mostN (nodesF p)) (mostN (nodesF ps)) := by
      rw [nodesF_app, Fo.one, show nodesF (.cons k t mm ps .nil) = [⟨k, t, mm, ps⟩] ++ nodesF ps by simp [nodesF], ← List.append_assoc, most_app, mostN_snoc]
    obtain ⟨q, a', c', hq, hSq, hql, hN⟩ := (hf.ext he).get hpr
    intro K8 hK8
    have k8 : ∀ x, x = (if k = 8 ∨ k = 9 then max (mostN (nodesF p)) mm else mostN (nodesF p)) → K8 x W := by
      rintro x hx
      refine hK8 _ _ fun _ => hq _ ⟨a', ps.len, c', hN.parts, ?_⟩
      refine ih _ (hz ▸ hsz) ps rfl (by omega) hN.sl fun w3 e3 => ⟨_, rfl, ⟨r.len, by simp, _, r, e1, ?_, i1, rfl, ext_trans he e3⟩⟩
      rw [m1, ← hx]
    intro K17 hK17
    have k17 : ∀ g, g = decide (k = 8 ∨ k = 9) → K17 g W := by
      rintro _ rfl
      exact hK17 _ _ fun _ => br_split (fun g => hq _ ⟨mm, hN.num, k8 _ (by rw [if_pos g])⟩) (fun g => k8 _ (by rw [if_neg g]))
    exact hq _ ⟨k, hN.kind, br_split (fun g => k17 _ (by simp [g])) (fun g => hq _ ⟨k, hN.kind, k17 _ (by simp [g])⟩)⟩
  · obtain ⟨rfl, rfl⟩ := Fo.last hpr (by omega)
    exact h _ he
section
variable {R : Ending → World → Prop} {S : Nat → Prop} {w : World} {a : Option Addr} {n c : Nat}
theorem Count11_spec (f : Fo) (hf : SlF S w a n f)
    (h : ∀ w', Ext w w' → R (.returned (.tuple ⟨[.int .i64 (if checkT f ≠ 0 then 0 else mostN (nodesF f)), .int .i64 (if checkT f ≠ 0 then 1 else 0)]⟩)) w') : Calls Tryz.prog F_ref11_Count ⟨[.slice a n c]⟩ w R := by
  apply c_ref11_Count
  refine Check10_spec f hf fun w1 e1 => ⟨_, rfl, br_split (fun g => ?_) (fun g => ?_)⟩
  · rw [if_pos g, if_pos g] at h; exact h _ e1
  rw [if_neg g, if_neg g] at h
  have := (check_zero (Decidable.not_not.1 g)).1
  exact greatest_spec f (by omega) (hf.ext e1) fun w2 e2 => ⟨_, rfl, h _ (ext_trans e1 e2)⟩
theorem Clean11_spec (f : Fo) (hfin : checkT f = 0 → FineF f) (hf : SlF S w a n f)
    (h : ∀ w', Ext w w' → R (.returned (.tuple ⟨[.bool (if checkT f ≠ 0 then false else !(nodesF f).any corrN), .int .i64 (if checkT f ≠ 0 then 1 else 0)]⟩)) w') : Calls Tryz.prog F_ref11_Clean ⟨[.slice a n c]⟩ w R := by
  apply c_ref11_Clean
  refine Count11_spec f hf fun w1 e1 => ⟨_, _, rfl, ?_⟩
  by_cases g : checkT f ≠ 0
  · rw [if_pos g, if_pos g] at h
    rw [if_pos g, if_pos g]
    exact br_neg (by decide) (h _ e1)
  · rw [if_neg g, if_neg g] at h
    rw [if_neg g, if_neg g]
    refine br_pos rfl ?_
    have hfi := hfin (Decidable.not_not.1 g)
    have e : decide (mostN (nodesF f) = 0) = !(nodesF f).any corrN := by
      rw [Bool.eq_iff_iff]
      simp only [decide_eq_true_eq, Bool.not_eq_true']
      rw [← clean_most hfi, clean_any]
    rw [e]; exact h _ e1
theorem errT_zero {f : Fo} {hand : Int} (h : errT f hand = 0) : checkT f = 0 ∧ 1 ≤ hand ∧ hand ≤ 8 := by
  unfold errT at h
  split at h
  · cases h
  · split at h
    · cases h
    · rename_i h1 h2; exact ⟨Decidable.not_not.1 h1, by omega, by omega⟩
theorem resS_st {f : Fo} {h : Int} (hc : checkT f = 0) (h0 : 0 ≤ h) (h8 : h ≤ 8) : resS f h false = stF f h := by
  unfold resS errS stF; rw [if_pos]; rw [if_neg (by rw [hc]; simp), if_neg (by omega)]
theorem Touches11_spec (f : Fo) (hand : Int) (hf : SlF S w a n f)
    (h : ∀ w', Ext w w' → R (.returned (.tuple ⟨[.bool (if errT f hand ≠ 0 then false else decide (stF f (hand - 1) ≠ stF f hand)), .int .i64 (errT f hand)]⟩)) w') : Calls Tryz.prog F_ref11_Touches ⟨[.slice a n c, .int .i64 hand]⟩ w R := by
  apply c_ref11_Touches
  refine check11_spec f hand 1 hf fun w1 e1 => ⟨_, rfl, ?_⟩
  show br (decide (errT f hand ≠ 0)) (R (.returned (.tuple ⟨[.bool false, .int .i64 (errT f hand)]⟩)) w1) _
  refine br_split (fun g => ?_) (fun g => ?_)
  · rw [if_pos g] at h; exact h _ e1
  rw [if_neg g] at h
  have g0 := Decidable.not_not.1 g
  obtain ⟨hc, h1, h8⟩ := errT_zero g0
  have hsz := (check_zero hc).1
  rw [wrap_id (by omega)]
  refine State11_spec f (hand - 1) (hf.ext e1) fun a2 n2 c2 w2 h2 e2 => ⟨_, _, _, _, rfl, ?_⟩
  refine State11_spec f hand ((hf.ext e1).ext e2) fun a3 n3 c3 w3 h3 e3 => ⟨_, _, _, _, rfl, ?_⟩
  rw [resS_st hc (by omega) (by omega)] at h2
  rw [resS_st hc (by omega) (by omega)] at h3
  refine Same_spec _ (h2.ext e3) h3 (stF_small (by omega) _) fun w4 e4 => ⟨_, rfl, ?_⟩
  have := h _ (ext_trans (ext_trans (ext_trans e1 e2) e3) e4)
  rw [show decide (stF f (hand - 1) ≠ stF f hand) = !decide (stF f (hand - 1) = stF f hand) by simp, g0] at this
  exact this
theorem Hands11_spec (f : Fo) (hs : f.size ≤ 1000000000) (hf : SlF S w a n f)
    (h : ∀ a' n' c' w', Owns w' w.heap.size 3 1 a' n' c' (intV (if checkT f ≠ 0 then [] else handsTo f 8)) → Ext w w' → R (.returned (.tuple ⟨[.slice a' n' c', .int .i64 (if checkT f ≠ 0 then 1 else 0)]⟩)) w') : Calls Tryz.prog F_ref11_Hands ⟨[.slice a n c]⟩ w R := by
  apply c_ref11_Hands
  refine Check10_spec f hf fun w1 e1 => ⟨_, rfl, br_split (fun g => ?_) (fun g => ?_)⟩
  · rw [if_pos g, if_pos g] at h; exact h none 0 0 _ (Owns.nil _ _ _ _) e1
  rw [if_neg g, if_neg g] at h
  have hc0 := Decidable.not_not.1 g
  refine ⟨fun oa on oc i W m => ∃ k : Nat, i = (k : Int) + 1 ∧ k ≤ 8 ∧ m = 8 - k ∧ Owns W w.heap.size 3 1 oa on oc (intV (handsTo f k)) ∧ Ext w W, ⟨_, 0, rfl, by omega, rfl, Owns.nil _ _ _ _, e1⟩, ?_⟩
  rintro oa on oc _ W m ⟨k, rfl, hk, rfl, ho, he⟩ _
  have hl : (handsTo f k).length = on := by have := ho.1; simpa using this
  have hlk := handsTo_len f k
  refine br_split (fun hlt => ?_) (fun hge => ?_)
  · have i1 : IntKind.i64.wrap ((k : Int) + 1 + 1) = ((k + 1 : Nat) : Int) + 1 := by rw [wrap_id (by omega)]; omega
    have sc := handsTo_succ f k
    refine Touches11_spec f ((k : Int) + 1) (hf.ext he) fun w2 e2 => ⟨_, _, rfl, ?_⟩
    have et : errT f ((k : Int) + 1) = 0 := by unfold errT; rw [hc0, if_neg (by simp), if_neg (by omega)]
    have e : ((k : Int) + 1 - 1) = k := by omega
    rw [et, e]
    simp only [ne_eq, not_true, if_false]
    have he2 := ext_trans he e2
    have z2 := he2.size
    refine br_cases (fun g => ?_) (fun g => ?_)
    · have g : stF f k ≠ stF f (k + 1) := by simpa using g
      refine app_one2 slT_int (ho.ext e2) (by omega) [.int .i64 ((k : Int) + 1)] rfl (by intro u hu; simp only [List.mem_singleton] at hu; subst hu; rfl) (by omega) (by omega) fun a4 c4 w4 o4 ch4 n4 => ?_
      refine ⟨8 - (k + 1), by omega, k + 1, i1, by omega, rfl, ?_, ext_chgS he2 ch4 fun j hj => (ho.bk hj).1⟩
      rw [sc, if_pos g]
      simpa [intV] using o4
    · have g : ¬ stF f k ≠ stF f (k + 1) := by simpa using g
      refine ⟨8 - (k + 1), by omega, k + 1, i1, by omega, rfl, ?_, he2⟩
      rw [sc, if_neg g, List.append_nil]; exact ho.ext e2
  · have : k = 8 := by omega
    subst this
    exact h _ _ _ _ ho he
theorem HandsL_bad (f : Fo) (hs : small f) (hF : Forms w) (hf : SlF S w a n f) (hc0 : checkT f ≠ 0)
    (h : ∀ w', Ext w w' → R (.returned (.tuple ⟨[.slice none 0 0, .int .i64 1]⟩)) w') : Calls Tryz.prog F_hands_Hands ⟨[.slice a n c]⟩ w R := by
  apply c_hands_Hands
  refine Count_spec f hs hF hf fun w1 e1 => ⟨_, _, rfl, ?_⟩
  rw [if_pos hc0, if_pos hc0]
  exact br_pos (by decide) (h _ e1)
theorem Changes_bad (f : Fo) (hand : Int) (hs : small f) (hF : Forms w) (hf : SlF S w a n f) (he : errT f hand ≠ 0)
    (h : ∀ w', Ext w w' → R (.returned (.tuple ⟨[.slice none 0 0, .int .i64 (errT f hand)]⟩)) w') : Calls Tryz.prog F_hands_Changes ⟨[.slice a n c, .int .i64 hand]⟩ w R := by
  apply c_hands_Changes
  refine hcheck_spec f hand hs hF hf fun w1 e1 => ⟨_, rfl, br_pos he (h _ e1)⟩

/- the characters, by the reference -/
theorem characters10_spec : ∀ (f : Fo) {R : Ending → World → Prop} {S : Nat → Prop} {w : World} {a : Option Addr} {n c : Nat}, f.size ≤ 1000000000 → tlen f ≤ 4611686018427387904 → SlF S w a n f →
    (∀ w', Ext w w' → R (.returned (.string ⟨⟨charsF f⟩⟩)) w') → Calls Tryz.prog F_ref10_characters ⟨[.slice a n c]⟩ w R := by
  intro f
  induction hz : f.size using Nat.strongRecOn generalizing f with
  | _ z ih =>
  intro R S w a n c hs htl hf h
  apply c_ref10_characters
  have hn := hf.1
  have hfl := f.len_le_size
  refine ⟨fun s i W m => ∃ (p r : Fo), f = p.app r ∧ s = charsF p ∧ i = p.len ∧ m = r.len ∧ Ext w W, ⟨_, .nil, f, rfl, rfl, rfl, rfl, Below.refl _ _⟩, ?_⟩
  rintro _ _ W m ⟨p, r, hpr, rfl, rfl, rfl, he⟩ _
  refine br_split (fun hlt => ?_) (fun hge => ?_)
  · obtain ⟨k, t, mm, ps, r, rfl⟩ := Fo.next hpr (by omega)
    have hsl := Fo.sub_len hpr
    have hsz := Fo.sub_size hpr
    have htt : tlen f = tlen p + (t.length + tlen ps + tlen r) := by rw [hpr, tlen_app]; rfl
    have e1 : f = (p.app (.one k t mm ps)).app r := by rw [Fo.app_one_app]; exact hpr
    have i1 : IntKind.i64.wrap ((p.len : Int) + 1) = ((p.app (.one k t mm ps)).len : Int) := by rw [wrap_nat (by omega)]; simp [Fo.one]
    have op := charsF_tlen p
    have oq := charsF_tlen ps
    have o1 : charsF (p.app (.one k t mm ps)) = charsF p ++ (if k = 1 then t else []) ++ charsF ps := by rw [charsF_app]; simp [Fo.one, charsF]
    obtain ⟨q, a', c', hq, hSq, hql, hN⟩ := (hf.ext he).get hpr
    intro K8 hK8
    have k8 : ∀ s, s = charsF p ++ (if k = 1 then t else []) → K8 s W := by
      rintro s hs'
      have hls : s.length ≤ tlen p + t.length := by rw [hs', List.length_append]; split <;> simp <;> omega
      refine hK8 _ _ fun _ => hq _ ⟨a', ps.len, c', hN.parts, ?_⟩
      refine ih _ (hz ▸ hsz) ps rfl (by omega) (by omega) hN.sl fun w3 e3 => ⟨_, rfl, sadd_ok (by omega) ⟨r.len, by simp, _, r, e1, ?_, i1, rfl, ext_trans he e3⟩⟩
      rw [o1, hs']
    exact hq _ ⟨k, hN.kind, br_split (fun g => hq _ ⟨t, hN.text, sadd_ok (by omega) (k8 _ (by rw [if_pos g]))⟩) (fun g => k8 _ (by rw [if_neg g, List.append_nil]))⟩
  · obtain ⟨rfl, rfl⟩ := Fo.last hpr (by omega)
    exact h _ he
theorem Characters10_spec (f : Fo) (hf : SlF S w a n f)
    (h : ∀ w', Ext w w' → R (.returned (.tuple ⟨[.string ⟨⟨if checkT f ≠ 0 then [] else charsF f⟩⟩, .int .i64 (if checkT f ≠ 0 then 1 else 0)]⟩)) w') : Calls Tryz.prog F_ref10_Characters ⟨[.slice a n c]⟩ w R := by
  apply c_ref10_Characters
  refine Check10_spec f hf fun w1 e1 => ⟨_, rfl, br_split (fun g => ?_) (fun g => ?_)⟩
  · rw [if_pos g, if_pos g] at h; exact h _ e1
  rw [if_neg g, if_neg g] at h
  obtain ⟨c1, c2, c3⟩ := check_zero (Decidable.not_not.1 g)
  exact characters10_spec f (by omega) (by omega) (hf.ext e1) fun w2 e2 => ⟨_, rfl, h _ (ext_trans e1 e2)⟩
end
end Go.Proofs
namespace Go.Proofs
open Go Go.Sh Go.RowKit

def bytesL (s : List UInt8) : List (List UInt8) := s.map fun c => [c]
theorem slT_str : SlT Tryz.prog 95 9 1 16 (.string ⟨⟨[]⟩⟩) := ⟨by kernel_rfl, by kernel_rfl, rfl, by decide⟩
theorem bytes_spec {R : Ending → World → Prop} {w : World} (s : List UInt8) (hs : s.length ≤ 1000)
    (h : ∀ a n c w', OwnL encStr w' w.heap.size 9 a n c (bytesL s) → Ext w w' → R (.returned (.slice a n c)) w') : Calls Tryz.prog F_ref03_bytes ⟨[.string ⟨⟨s⟩⟩]⟩ w R := by
  apply c_ref03_bytes
  refine ⟨fun oa on oc i W m => ∃ k : Nat, i = k ∧ k ≤ s.length ∧ m = s.length - k ∧ OwnL encStr W w.heap.size 9 oa on oc (bytesL (s.take k)) ∧ Ext w W, ⟨_, 0, rfl, by omega, rfl, Owns.nil _ _ _ _, Below.refl _ _⟩, ?_⟩
  rintro oa on oc _ W m ⟨k, rfl, hk, rfl, ho, he⟩ _
  have hl := ho.length
  have hz := he.size
  simp only [bytesL, List.length_map, List.length_take] at hl
  refine br_split (fun hlt => ?_) (fun hge => ?_)
  · have hk' : k < s.length := by omega
    have i1 : IntKind.i64.wrap ((k : Int) + 1) = ((k + 1 : Nat) : Int) := wrap_nat (by omega)
    rw [i1]
    refine ssl_nat (by omega) (by omega) ?_
    have e : (s.take (k + 1)).drop k = [s[k]] := by
      rw [List.take_succ_eq_append_getElem hk', List.drop_append_of_le_length (by simp; omega)]
      simp
    rw [e]
    refine OwnL.push (E := encStr) slT_str ho hz [s[k]] (by omega) (by omega) fun a4 c4 w4 o4 ch4 n4 => ⟨s.length - (k + 1), by omega, k + 1, rfl, by omega, rfl, ?_, ext_chgS he ch4 fun j hj => (ho.bk hj).1⟩
    rw [List.take_succ_eq_append_getElem hk', show bytesL (s.take k ++ [s[k]]) = bytesL (s.take k) ++ [[s[k]]] from List.map_append]
    exact o4
  · have : k = s.length := by omega
    subst this
    rw [List.take_length] at ho
    exact h _ _ _ _ ho he

/- a table whose rows hang on an appended list -/
def encSl (m : Nat) : Enc Nat := ⟨fun r => [slV m r], 1, fun _ => rfl, by decide, by intro x v hv; simp only [List.mem_singleton] at hv; subst hv; rfl⟩
theorem slT_tab : SlT Tryz.prog 92 30 1 24 (.slice none 0 0) := ⟨by kernel_rfl, by kernel_rfl, rfl, by decide⟩
structure Tab (w : World) (B : Nat) (da : Option Addr) (dn dc m : Nat) (rs : List Nat) (D : Nat → Nat → Int) : Prop where
  own : OwnL (encSl m) w B 30 da dn dc rs
  row : ∀ (i r : Nat), rs[i]? = some r → FnRow w B r m m (D i) ∧ ¬ bk da r
theorem Tab.chg {S : Nat → Prop} {w w' : World} {B : Nat} {da : Option Addr} {dn dc m : Nat} {rs : List Nat} {D : Nat → Nat → Int} (h : Tab w B da dn dc m rs D) (hc : Chg S w w') (h1 : ∀ k, bk da k → ¬ S k) (h2 : ∀ (i r : Nat), rs[i]? = some r → ¬ S r) : Tab w' B da dn dc m rs D :=
  ⟨h.own.chg hc h1, fun i r hr => ⟨(h.row i r hr).1.chg hc (h2 i r hr), (h.row i r hr).2⟩⟩
theorem Tab.ext {w w' : World} {B : Nat} {da : Option Addr} {dn dc m : Nat} {rs : List Nat} {D : Nat → Nat → Int} (h : Tab w B da dn dc m rs D) (hc : Ext w w') : Tab w' B da dn dc m rs D :=
  h.chg (S := fun _ => False) (.of_ext hc) (fun _ _ h => h) (fun _ _ _ h => h)
theorem Tab.val {w : World} {B : Nat} {da : Option Addr} {dn dc m : Nat} {rs : List Nat} {D : Nat → Nat → Int} (h : Tab w B da dn dc m rs D) {i k : Nat} (hi : i < rs.length) (hk : k < m) {K : Int → Prop} (hK : K (D i k)) {i' k' : Int} (ei : i' = (i : Int)) (ek : k' = (k : Int)) :
    idx da dn i' 1 fun p => ∃ (x : Option Addr) (xn xc : Nat), w.cell? p = some (.slice x xn xc) ∧ idx x xn k' 1 fun q => ∃ v : Int, w.cell? q = some (.int .i64 v) ∧ K v := by
  subst ei ek
  have hr : rs[i]? = some rs[i] := List.getElem?_eq_getElem hi
  obtain ⟨b, o, hidx, _, _, hc⟩ := h.own.out.get hr
  refine hidx _ ⟨_, _, _, hc 0 _ rfl, ?_⟩
  exact (h.row i _ hr).1.get hk (Nat.le_refl _) fun q hq => ⟨_, hq, hK⟩
theorem FnRow.congr {w : World} {B b n t : Nat} {f g : Nat → Int} (h : FnRow w B b n t f) (hfg : ∀ j, j < t → f j = g j) : FnRow w B b n t g := by
  obtain ⟨L, h1, h2⟩ := h
  exact ⟨L, h1, fun j hj => by rw [h2 j hj, hfg j hj]⟩
theorem FnRow.weak {w : World} {B b n t t' : Nat} {f : Nat → Int} (h : FnRow w B b n t f) (ht : t' ≤ t) : FnRow w B b n t' f := by
  obtain ⟨L, h1, h2⟩ := h
  exact ⟨L, h1, fun j hj => h2 j (by omega)⟩
theorem get_bytes {S : Nat → Prop} {w : World} {a : Option Addr} {n : Nat} {s : List UInt8} (h : RowAt encStr S w a n (bytesL s)) {i : Nat} (hi : i < s.length) {K : Addr → Prop} (hK : ∀ p, w.cell? p = some (.string ⟨⟨[s[i]]⟩⟩) → K p) : idx a n (i : Int) 1 K := by
  obtain ⟨b, o, hidx, _, _, hc⟩ := h.get (i := i) (x := [s[i]]) (by simp [bytesL, hi])
  exact hidx K (hK _ (hc 0 _ rfl))

set_option maxRecDepth 20000 in
theorem table_spec {R : Ending → World → Prop} {S S' : Nat → Prop} {w : World} (s t : List UInt8) (hs : s.length ≤ 256) (ht : t.length ≤ 256) {a b : Option Addr} {an ac bn bc : Nat} (ha : RowAt encStr S w a an (bytesL s)) (hb : RowAt encStr S' w b bn (bytesL t))
    (h : ∀ da dn dc rs w', rs.length = s.length + 1 → Tab w' w.heap.size da dn dc (t.length + 1) rs (fun i k => (eqE s t i k : Int)) → Ext w w' → R (.returned (.slice da dn dc)) w') : Calls Tryz.prog F_ref03_table ⟨[.slice a an ac, .slice b bn bc]⟩ w R := by
  apply c_ref03_table
  have han : an = s.length := by have := ha.1; simpa [bytesL] using this
  have hbn : bn = t.length := by have := hb.1; simpa [bytesL] using this
  subst han hbn
  have eb : IntKind.i64.wrap ((t.length : Int) + 1) = ((t.length + 1 : Nat) : Int) := wrap_nat (by omega)
  unfold sh_ref03_table
  rw [eb]
  simp only [Int.toNat_natCast]
  refine ⟨fun da dn dc i W m => ∃ (k : Nat) (rs : List Nat), i = k ∧ k ≤ s.length + 1 ∧ m = s.length + 1 - k ∧ rs.length = k ∧ Tab W w.heap.size da dn dc (t.length + 1) rs (fun i k => (eqE s t i k : Int)) ∧ Ext w W,
    ⟨_, 0, [], rfl, by omega, rfl, rfl, ⟨Owns.nil _ _ _ _, fun i r hr => by simp at hr⟩, Below.refl _ _⟩, ?_⟩
  rintro da dn dc _ W m ⟨i, rs, rfl, hi, rfl, hrs, hT, he⟩ _
  have hdn := hT.own.length
  have zW := he.size
  refine br_split (fun hlt => ?_) (fun hge => ?_)
  · refine mks_intro (Nat.le_refl _) (by omega) fun r w1 hr Br e1 s1 => ?_
    have hrow : FnRow w1 w.heap.size r (t.length + 1) 0 (fun k => (eqE s t i k : Int)) := ⟨_, OwnL.made (E := encI) (x := 0) Br (by omega) (by simp only [maxLen]; omega), fun j hj => by omega⟩
    have nr : ¬ bk da r := fun hh => by have := (hT.own.bk hh).2; omega
    have nrs : ∀ (j x : Nat), rs[j]? = some x → ¬ x = r := fun j x hx e => by
      have := ((hT.row j x hx).1.lt (by omega)).2; omega
    refine ⟨fun j W m => ∃ k : Nat, j = k ∧ k ≤ t.length + 1 ∧ m = t.length + 1 - k ∧ FnRow W w.heap.size r (t.length + 1) k (fun k => (eqE s t i k : Int)) ∧ Tab W w.heap.size da dn dc (t.length + 1) rs (fun i k => (eqE s t i k : Int)) ∧ Ext w W, ⟨_, 0, rfl, by omega, rfl, hrow, hT.ext e1, ext_trans he e1⟩, ?_⟩
    clear hrow
    rintro _ W m ⟨k, rfl, hk, rfl, hrow, hT, he⟩ _
    refine br_split (fun hlt2 => ?_) (fun hge2 => ?_)
    · have k1 : IntKind.i64.wrap ((k : Int) + 1) = ((k + 1 : Nat) : Int) := wrap_nat (by omega)
      rw [k1]
      have bnd := ed_le (eqB s t)
      have fin : ∀ W2, FnRow W2 w.heap.size r (t.length + 1) (k + 1) (fun k => (eqE s t i k : Int)) → Tab W2 w.heap.size da dn dc (t.length + 1) rs (fun i k => (eqE s t i k : Int)) → Ext w W2 →
          ∃ m45 : Nat, m45 < t.length + 1 - k ∧ ∃ k' : Nat, ((k + 1 : Nat) : Int) = (k' : Int) ∧ k' ≤ t.length + 1 ∧ m45 = t.length + 1 - k' ∧ FnRow W2 w.heap.size r (t.length + 1) k' (fun k => (eqE s t i k : Int)) ∧ Tab W2 w.heap.size da dn dc (t.length + 1) rs (fun i k => (eqE s t i k : Int)) ∧ Ext w W2 :=
        fun W2 h1 h2 h3 => ⟨t.length + 1 - (k + 1), by omega, k + 1, rfl, by omega, rfl, h1, h2, h3⟩
      have keepT : ∀ {W1 W2 : World}, Tab W1 w.heap.size da dn dc (t.length + 1) rs (fun i k => (eqE s t i k : Int)) → Chg (fun j => j = r) W1 W2 → Tab W2 w.heap.size da dn dc (t.length + 1) rs (fun i k => (eqE s t i k : Int)) :=
        fun h hc => h.chg hc (fun j hj e => nr (e ▸ hj)) nrs
      have keepE : ∀ {W1 W2 : World}, Ext w W1 → Chg (fun j => j = r) W1 W2 → Ext w W2 := fun h hc => ext_chgS h hc fun j hj => by omega
      refine br_split (fun g0 => ?_) (fun g0 => br_split (fun g1 => ?_) (fun g1 => ?_))
      · obtain rfl : i = 0 := by omega
        exact hrow.set (by omega) rfl fun W2 q1 q2 q3 => fin W2 q1 (keepT hT q2) (keepE he q2)
      · obtain rfl : k = 0 := by omega
        exact hrow.set (by omega) (by simp [eqE, ed_zero]) fun W2 q1 q2 q3 => fin W2 q1 (keepT hT q2) (keepE he q2)
      obtain ⟨i', rfl⟩ : ∃ i', i = i' + 1 := ⟨i - 1, by omega⟩
      obtain ⟨k', rfl⟩ : ∃ k', k = k' + 1 := ⟨k - 1, by omega⟩
      have wi : IntKind.i64.wrap (((i' + 1 : Nat) : Int) - 1) = (i' : Int) := by rw [wrap_id (by omega)]; omega
      have wk : IntKind.i64.wrap (((k' + 1 : Nat) : Int) - 1) = (k' : Int) := by rw [wrap_id (by omega)]; omega
      rw [wi, wk]
      have hia : i' < s.length := by omega
      have hkb : k' < t.length := by omega
      have b1 := bnd i' k'
      have b2 := bnd i' (k' + 1)
      have b3 := bnd (i' + 1) k'
      have st := ed_step (eqB s t) i' k'
      have hd := ext_drew W
      have hT1 := hT.ext hd
      have hr1 := hrow.ext hd
      have he1 := ext_trans he hd
      unfold drw
      refine hT1.val (i := i') (k := k' + 1) (by omega) (by omega) ?_ rfl rfl
      refine hr1.get (j := k') (by omega) (by omega) fun p hp => ⟨_, hp, ?_⟩
      rw [wrap_id (by unfold eqE; omega)]
      -- the first number that is laid
      let T : Int := min (eqE s t i' (k' + 1) : Int) (eqE s t (i' + 1) k' : Int) + 1
      have hT' : FnRow W.drew w.heap.size r (t.length + 1) (k' + 1) (fun j => if j = k' + 1 then T else (eqE s t (i' + 1) j : Int)) := hr1.congr fun j hj => by rw [if_neg (by omega)]
      have st1 := hT'.set (t := k' + 1) (by omega) (v := T) (by rw [if_pos rfl]) (K := fun w30 =>
          FnRow w30 w.heap.size r (t.length + 1) (k' + 1 + 1) (fun j => if j = k' + 1 then T else (eqE s t (i' + 1) j : Int)) ∧ Tab w30 w.heap.size da dn dc (t.length + 1) rs (fun i k => (eqE s t i k : Int)) ∧ Ext w w30)
        fun W2 q1 q2 q3 => ⟨q1, keepT hT1 q2, keepE he1 q2⟩
      obtain ⟨y1, y2, y3⟩ := st1
      refine ⟨y1, y2, ?_, trivial⟩
      refine stL_mono y3 fun w30 hw => ?_
      obtain ⟨r30, T30, e30⟩ := hw
      have hd2 := ext_drew w30
      have a31 := ha.ext (ext_trans e30 hd2)
      have b31 := hb.ext (ext_trans e30 hd2)
      refine get_bytes a31 hia fun p hp => ⟨_, hp, get_bytes b31 hkb fun q hq => ⟨_, hq, ?_⟩⟩
      have hd3 := ext_trans hd2 (ext_drew w30.drew)
      have r36 := r30.ext hd3
      have T36 := T30.ext hd3
      have e36 := ext_trans e30 hd3
      have back : FnRow w30.drew.drew w.heap.size r (t.length + 1) (k' + 1) (fun j => (eqE s t (i' + 1) j : Int)) := (r36.weak (by omega)).congr fun j hj => by rw [if_neg (by omega)]
      have hTe : T = min (ed (eqB s t) i' (k' + 1) : Int) (ed (eqB s t) (i' + 1) k' : Int) + 1 := rfl
      have heq : ([s[i']] = [t[k']]) ↔ eqB s t i' k' = true := by
        unfold eqB
        simp [List.getD_eq_getElem?_getD, List.getElem?_eq_getElem hia, List.getElem?_eq_getElem hkb]
      have rd : ∀ {K : Addr → Prop}, (∀ p, w30.drew.drew.cell? p = some (.int .i64 T) → K p) → idx (some ⟨r, 0, none⟩) (t.length + 1) ((k' + 1 : Nat) : Int) 1 K := by
        intro K hK
        have := r36.get (j := k' + 1) (by omega) (by omega) (K := K) fun p hp => hK p (by rw [hp]; rw [if_pos rfl])
        exact this
      refine br_split (fun g => ?_) (fun g => ?_)
      · have ge := heq.1 g
        rw [ge] at st
        refine rd fun p hp => ⟨_, hp, T36.val (i := i') (k := k') (by omega) (by omega) ?_ rfl rfl⟩
        have := back.set (t := k' + 1) (by omega) (v := min T (eqE s t i' k' : Int)) (by unfold eqE; rw [st, hTe]; simp only [if_true]; omega) (fun W2 q1 q2 q3 => fin W2 q1 (keepT T36 q2) (keepE e36 q2))
        obtain ⟨z1, z2, z3⟩ := this
        exact ⟨z1, z2, z3, trivial⟩
      · have ge : eqB s t i' k' = false := by
          cases hh : eqB s t i' k'
          · rfl
          · exact absurd (heq.2 hh) g
        rw [ge] at st
        refine rd fun p hp => ⟨_, hp, T36.val (i := i') (k := k') (by omega) (by omega) ?_ rfl rfl⟩
        rw [wrap_id (by unfold eqE; omega)]
        have := back.set (t := k' + 1) (by omega) (v := min T ((eqE s t i' k' : Int) + 1)) (by unfold eqE; rw [st, hTe]; simp only [Bool.false_eq_true, if_false]; omega) (fun W2 q1 q2 q3 => fin W2 q1 (keepT T36 q2) (keepE e36 q2))
        obtain ⟨z1, z2, z3⟩ := this
        exact ⟨z1, z2, z3, trivial⟩
    · have hkt : k = t.length + 1 := by omega
      subst hkt
      have hdn2 := hT.own.length
      refine OwnL.push (E := encSl (t.length + 1)) slT_tab hT.own he.size r (by omega) (by omega) fun a4 c4 w4 o4 ch4 n4 => ⟨s.length + 1 - (i + 1), by omega, i + 1, rs ++ [r], wrap_nat (by omega), by omega, rfl, by simp [hrs], ⟨o4, ?_⟩, ext_chgS he ch4 fun j hj => (hT.own.bk hj).1⟩
      have lt : ∀ x, (FnRow W w.heap.size x (t.length + 1) (t.length + 1) (fun k => (eqE s t i k : Int)) → True) := fun _ _ => trivial
      intro j x hx
      by_cases hj : j < rs.length
      · rw [List.getElem?_append_left hj] at hx
        obtain ⟨g1, g2⟩ := hT.row j x hx
        have := (g1.lt (by omega)).2
        exact ⟨g1.chg ch4 g2, fun hh => (n4 x hh).elim g2 (by omega)⟩
      · have hjl := (List.getElem?_eq_some_iff.1 hx).1
        simp at hjl
        obtain rfl : j = rs.length := by omega
        rw [List.getElem?_append_right (Nat.le_refl _)] at hx
        simp at hx
        subst hx
        rw [hrs]
        have := (hrow.lt (by omega)).2
        exact ⟨hrow.chg ch4 nr, fun hh => (n4 _ hh).elim nr (by omega)⟩
  · have hin : i = s.length + 1 := by omega
    exact h _ _ _ rs _ (by omega) hT he
end Go.Proofs
