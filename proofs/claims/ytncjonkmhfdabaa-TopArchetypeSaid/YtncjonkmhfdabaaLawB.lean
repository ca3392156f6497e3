/- The contracts of the functions that the law reaches, one after the other, and at the end the law's card. -/
import Derived.Test.YtncjonkmhfdabaaLawA
namespace Go.Proofs
open Go Go.Sh Go.RowKit
/- small facts -/
theorem bl3 {w : World} {b : Nat} {v0 v1 v2 : Value} {T : TypeId} (h : Blk w b [v0, v1, v2] T) : w.cell? ((⟨b, 0, none⟩ : Addr).add 0) = some v0 ∧ w.cell? ((⟨b, 0, none⟩ : Addr).add 1) = some v1 ∧ w.cell? ((⟨b, 0, none⟩ : Addr).add 2) = some v2 := by
  rw [add_none, add_none, add_none]
  exact ⟨h.cell 0, h.cell 1, h.cell 2⟩
theorem getD_at {α : Type} {l : List α} {i : Nat} (h : i < l.length) (d : α) : l.getD i d = l[i] := by rw [List.getD_eq_getElem?_getD, List.getElem?_eq_getElem h]; rfl
theorem range_all {n : Nat} {p : Nat → Bool} : (List.range n).all p = true ↔ ∀ i, i < n → p i = true := by
  rw [List.all_eq_true]
  exact ⟨fun h i hi => h i (List.mem_range.2 hi), fun h i hi => h i (List.mem_range.1 hi)⟩
theorem range_all_no {n : Nat} {p : Nat → Bool} {i : Nat} (hi : i < n) (h : p i = false) : (List.range n).all p = false := by
  rw [← Bool.not_eq_true, range_all]
  intro hh; rw [hh i hi] at h; cases h
/- stemma.Check -/
abbrev Nm := List UInt8
def leafB (s : Nm) : Bool := if s[s.length - 1]? = some 42 then decide (s.length ≤ 16) && isNameF (s.take (s.length - 1)) else isNameF s
def ascB (l : List Int) : Bool := (List.range (l.length - 1)).all fun k => decide (l.getD k 0 < l.getD (k + 1) 0)
def stemI (N : List Nm) (P : List (List Int)) (i : Nat) : Bool :=
  leafB (N.getD i []) && (!decide (N.getD i [] ∈ N.take i) && ((!(P.getD i []).any fun p => decide (p < 0) || decide ((i : Int) ≤ p)) && ascB (P.getD i [])))
def stemOk (N : List Nm) (en : Nat) (P : List (List Int)) : Bool :=
  decide (0 < N.length ∧ N.length ≤ 64 ∧ en = N.length ∧ P.length = N.length) && (List.range N.length).all (stemI N P)
section
variable {R : Ending → World → Prop} {w : World}
theorem leafName_spec (s : Nm) (hs : s.length ≤ 4611686018427387904) (h : R (.returned (.bool (leafB s))) w) : Calls Try.prog F_stemma_leafName ⟨[.string ⟨⟨s⟩⟩]⟩ w R := by
  apply c_stemma_leafName
  intro K hK
  have k : ∀ b : Bool, b = decide (s[s.length - 1]? = some 42) → (b = true → 0 < s.length) → K b w := by
    rintro b hb hpos
    refine hK _ _ fun _ => br_cases (fun g => br_split (fun g2 => ?_) (fun g2 => ?_)) (fun g => ?_)
    · have hp := hpos g
      rw [wrap_id (by omega), show (s.length : Int) - 1 = ((s.length - 1 : Nat) : Int) by omega, show (0 : Int) = ((0 : Nat) : Int) from rfl]
      refine ssl_nat (by omega) (by omega) ?_
      rw [List.drop_zero]
      refine IsName_spec _ ⟨_, rfl, ?_⟩
      unfold leafB at h
      rw [hb] at g
      rw [if_pos (of_decide_eq_true g), decide_eq_true (show s.length ≤ 16 by omega), Bool.true_and] at h
      exact h
    · unfold leafB at h
      rw [hb] at g
      rw [if_pos (of_decide_eq_true g), decide_eq_false (show ¬ s.length ≤ 16 by omega), Bool.false_and] at h
      exact h
    · refine IsName_spec _ ⟨_, rfl, ?_⟩
      unfold leafB at h
      rw [hb] at g
      rw [if_neg (of_decide_eq_false g)] at h
      exact h
  refine br_split (fun g => ?_) (fun g => ?_)
  · have hp : 0 < s.length := by omega
    rw [wrap_id (by omega), show (s.length : Int) - 1 = ((s.length - 1 : Nat) : Int) by omega]
    refine sidx_nat (by omega) (k _ ?_ (fun _ => hp))
    rw [List.getElem?_eq_getElem (by omega)]
    rw [decide_eq_decide, Option.some.injEq]
    constructor
    · intro e; exact UInt8.toNat_inj.1 (by show _ = 42; omega)
    · intro e; rw [e]; rfl
  · refine k _ ?_ (by simp)
    have : s = [] := List.eq_nil_of_length_eq_zero (by omega)
    subst this; rfl
theorem stem_no1 {N : List Nm} {en : Nat} {P : List (List Int)} (h : ¬ (0 < N.length ∧ N.length ≤ 64 ∧ en = N.length ∧ P.length = N.length)) : stemOk N en P = false := by
  unfold stemOk; rw [decide_eq_false h, Bool.false_and]
theorem stem_no2 {N : List Nm} {en : Nat} {P : List (List Int)} {i : Nat} (hi : i < N.length) (h : stemI N P i = false) : stemOk N en P = false := by
  unfold stemOk; rw [range_all_no hi h, Bool.and_false]
set_option maxRecDepth 20000 in
theorem stemCheck_spec {S : Nat → Prop} {na ea pa : Option Addr} {nn nc en ec pn pc : Nat} {N : List Nm} {P : List (List Int)} (hN : RowV vS S w na nn N) (hcN : nn ≤ nc) (hP : RowV vIs S w pa pn P) (hb : ∀ s ∈ N, s.length ≤ 4611686018427387904) (hPl : ∀ l ∈ P, l.length ≤ 4611686018427387904)
    (h : ∀ (e : Int) w', Ext w w' → decide (e = 0) = stemOk N en P → R (.returned (.int .i64 e)) w') : Calls Try.prog F_stemma_Check ⟨[.agg ⟨[.slice na nn nc, .slice ea en ec, .slice pa pn pc]⟩]⟩ w R := by
  apply c_stemma_Check
  have hnl := hN.1
  have hpl := hP.1
  refine al_intro fun b4 w5 hb4 B4 e5 s5 => ?_
  obtain ⟨x0, x1, x2⟩ := bl3 B4
  refine ⟨_, _, _, x0, ?_⟩
  intro K7 hK7
  have no1 : ∀ (e : Int), e ≠ 0 → ¬ (0 < N.length ∧ N.length ≤ 64 ∧ en = N.length ∧ P.length = N.length) → R (.returned (.int .i64 e)) w5 := fun e he hh => h e w5 e5 (by rw [decide_eq_false he, stem_no1 hh])
  refine br_split (fun g => no1 _ (by decide) fun q => by omega) (fun g1 => ?_)
  refine br_split (fun g => no1 _ (by decide) fun q => by omega) (fun g2 => ?_)
  refine ⟨_, _, _, x1, br_split (fun g => no1 _ (by decide) fun q => by omega) (fun g3 => ?_)⟩
  refine ⟨_, _, _, x2, br_split (fun g => no1 _ (by decide) fun q => by omega) (fun g4 => ?_)⟩
  have hok : 0 < N.length ∧ N.length ≤ 64 ∧ en = N.length ∧ P.length = N.length := by omega
  refine hK7 w5 fun _ => ⟨_, _, _, x0, ?_⟩
  refine ⟨fun i W m => ∃ k : Nat, i = k ∧ k ≤ nn ∧ m = nn - k ∧ (List.range k).all (stemI N P) = true ∧ Ext w5 W, ⟨_, 0, rfl, by omega, rfl, rfl, Below.refl _ _⟩, ?_⟩
  rintro _ W m ⟨k, rfl, hk, rfl, hall, eW⟩ _
  refine br_split (fun hlt => ?_) (fun hge => ?_)
  · have hkN : k < N.length := by omega
    have hkP : k < P.length := by omega
    have eW0 := ext_trans e5 eW
    obtain ⟨q, hq, d⟩ := (hN.ext eW0).str hkN
    refine hq _ ⟨_, d, al_stL rfl (by intro v hv; simp only [List.mem_singleton] at hv; subst hv; rfl) fun b17 w19 hb17 B17 e19 s19 => ?_⟩
    have gN : N.getD k [] = N[k] := getD_at hkN _
    have gP : P.getD k [] = P[k] := getD_at hkP _
    have no2 : ∀ (e : Int) (V : World), e ≠ 0 → Ext w V → stemI N P k = false → R (.returned (.int .i64 e)) V := fun e V he hV hh => h e V hV (by rw [decide_eq_false he, stem_no2 hkN hh])
    have e19' := ext_trans eW0 e19
    refine leafName_spec N[k] (hb _ (List.getElem_mem hkN)) ⟨_, rfl, ?_⟩
    have hsI : stemI N P k = (leafB N[k] && (!decide (N[k] ∈ N.take k) && ((!P[k].any fun p => decide (p < 0) || decide ((k : Int) ≤ p)) && ascB P[k]))) := by
      unfold stemI; rw [gN, gP]
    refine br_cases (fun g => no2 _ _ (by decide) e19' (by rw [hsI, (by simpa using g : leafB N[k] = false), Bool.false_and])) (fun g5 => ?_)
    have g5 : leafB N[k] = true := by simpa using g5
    have e59 := ext_trans eW e19
    obtain ⟨y0, y1, y2⟩ := bl3 (B4.ext e59)
    refine ⟨_, _, _, y0, _, B17.cell 0, ?_⟩
    refine RowV.cut (i := 0) (j := k) (hN.ext e19') hcN (by omega) (by omega) fun a25 h25 => ?_
    rw [List.drop_zero] at h25
    refine ContainsS_spec N[k] h25 (by omega) ⟨_, rfl, br_split (fun g => no2 _ _ (by decide) e19' (by rw [hsI, decide_eq_true g, Bool.not_true, Bool.false_and, Bool.and_false])) (fun g6 => ?_)⟩
    refine ⟨_, _, _, y2, _, B17.cell 0, ?_⟩
    obtain ⟨b14, o14, a15, c15, hq2, _, _, hc, _, hrow⟩ := (hP.ext e19').getS (List.getElem?_eq_getElem hkP)
    refine hq2 _ ⟨_, _, _, hc, ?_⟩
    have hPk := hPl _ (List.getElem_mem hkP)
    refine ContainsFuncI_spec (q := fun p => decide (p < 0) || decide ((k : Int) ≤ p)) (J := fun V => Ext w19 V) hrow hPk ?_ (Below.refl _ _) (fun _ _ => ext_trans) fun w34 e34 => ⟨_, rfl, ?_⟩
    · intro p _ V K eV hK
      refine ⟨by kernel_rfl, ?_⟩
      apply c_stemma_Check_1
      have hK' : K (.returned (.bool (decide (p < 0) || decide ((k : Int) ≤ p)))) V := hK V (Below.refl _ _)
      refine br_split (fun g => ?_) (fun g => ?_)
      · rw [decide_eq_true g, Bool.true_or] at hK'; exact hK'
      · rw [decide_eq_false g, Bool.false_or] at hK'
        exact dr_ok ⟨_, (B17.ext eV).cell 0, hK'⟩
    have e34' := ext_trans e19' e34
    refine br_cases (fun g => no2 _ _ (by decide) e34' (by rw [hsI, g, Bool.not_true, Bool.false_and, Bool.and_false, Bool.and_false])) (fun g7 => ?_)
    refine ⟨fun j V m' => ∃ t : Nat, j = t ∧ 1 ≤ t ∧ t ≤ P[k].length + 1 ∧ m' = P[k].length + 1 - t ∧ (∀ u, u + 1 < t → P[k].getD u 0 < P[k].getD (u + 1) 0) ∧ Ext w34 V, ⟨_, 1, rfl, by omega, by omega, rfl, fun u hu => by omega, Below.refl _ _⟩, ?_⟩
    rintro _ V m' ⟨t, rfl, ht1, ht2, rfl, hasc, eV⟩ _
    have eV0 := ext_trans e34' eV
    have e5V := ext_trans e59 (ext_trans e34 eV)
    have B17V := B17.ext (ext_trans e34 eV)
    obtain ⟨z0, z1, z2⟩ := bl3 (B4.ext e5V)
    obtain ⟨b43, o43, a44, c44, hq3, _, _, hc3, _, hrow3⟩ := (hP.ext eV0).getS (List.getElem?_eq_getElem hkP)
    refine ⟨_, _, _, z2, _, B17V.cell 0, hq3 _ ⟨_, _, _, hc3, ?_⟩⟩
    refine br_split (fun hlt2 => ?_) (fun hge2 => ?_)
    · unfold drw
      have ed := ext_drew V
      generalize V.drew = V45 at *
      have eD := ext_trans eV0 ed
      have B17D := B17V.ext ed
      obtain ⟨z0, z1, z2⟩ := bl3 (B4.ext (ext_trans e5V ed))
      obtain ⟨b43, o43, a44, c44, hq4, _, _, hc4, _, hrow4⟩ := (hP.ext eD).getS (List.getElem?_eq_getElem hkP)
      have h1 : t < P[k].length := by omega
      have h2 : t - 1 < P[k].length := by omega
      obtain ⟨q5, hq5, d5⟩ := hrow4.int h1
      obtain ⟨q6, hq6, d6⟩ := hrow4.int h2
      refine ⟨_, _, _, z2, _, B17D.cell 0, hq4 _ ⟨_, _, _, hc4, hq5 _ ⟨_, d5, _, _, _, z2, _, B17D.cell 0, hq4 _ ⟨_, _, _, hc4, ?_⟩⟩⟩⟩
      rw [wrap_id (by omega), show (t : Int) - 1 = ((t - 1 : Nat) : Int) by omega]
      refine hq6 _ ⟨_, d6, br_split (fun g => no2 _ _ (by decide) eD ?_) (fun g8 => ?_)⟩
      · have : ascB P[k] = false := by
          unfold ascB
          refine range_all_no (i := t - 1) (by omega) ?_
          rw [getD_at h2, show t - 1 + 1 = t by omega, getD_at h1, decide_eq_false (by omega)]
        rw [hsI, this, Bool.and_false, Bool.and_false, Bool.and_false]
      · refine ⟨P[k].length + 1 - (t + 1), by omega, t + 1, by rw [wrap_nat (by omega)], by omega, by omega, rfl, fun u hu => ?_, ext_trans eV ed⟩
        by_cases hu2 : u + 1 < t
        · exact hasc u hu2
        · obtain rfl : u = t - 1 := by omega
          rw [getD_at h2, show t - 1 + 1 = t by omega, getD_at h1]; omega
    · refine ⟨nn - (k + 1), by omega, k + 1, by rw [wrap_nat (by omega)], by omega, rfl, ?_, ext_trans (ext_trans e59 e34) eV⟩
      rw [List.range_succ, List.all_append, hall, Bool.true_and, List.all_cons, List.all_nil, Bool.and_true, hsI, g5, decide_eq_false g6, g7, Bool.not_false, Bool.true_and, Bool.true_and, Bool.true_and]
      unfold ascB
      rw [range_all]
      intro u hu
      exact decide_eq_true (hasc u (by omega))
  · refine h 0 W (ext_trans e5 eW) ?_
    unfold stemOk
    rw [decide_eq_true hok, Bool.true_and, ← hnl, show nn = k by omega, hall]; rfl
end
end Go.Proofs
namespace Go.Proofs
open Go Go.Sh Go.RowKit
/- sorting and compacting numbers, and the states that occur -/
theorem zrI (w : World) : (zeroValue 3).run Try.prog w = .ok (.int .i64 0) w := zeroRun (by kernel_rfl) w
def gI (M : List Int) (i : Nat) : Int := M.getD i 0
theorem gI_at {M : List Int} {i : Nat} (h : i < M.length) : gI M i = M[i] := getD_at h 0
theorem gI_set {M : List Int} {j : Nat} (h : j < M.length) (v : Int) (i : Nat) : gI (M.set j v) i = if i = j then v else gI M i := by
  unfold gI
  rw [List.getD_eq_getElem?_getD, List.getD_eq_getElem?_getD, List.getElem?_set]
  by_cases e : j = i
  · subst e; simp [h]
  · rw [if_neg e, if_neg (fun q => e q.symm)]
theorem gI_mem {M : List Int} {x : Int} : x ∈ M ↔ ∃ i, i < M.length ∧ gI M i = x := by
  rw [List.mem_iff_getElem]
  constructor
  · rintro ⟨i, hi, e⟩; exact ⟨i, hi, by rw [gI_at hi, e]⟩
  · rintro ⟨i, hi, e⟩; exact ⟨i, hi, by rw [← gI_at hi, e]⟩
def swpI (M : List Int) (j : Nat) : List Int := (M.set j (gI M (j - 1))).set (j - 1) (gI M j)
theorem swpI_len (M : List Int) (j : Nat) : (swpI M j).length = M.length := by unfold swpI; simp
theorem swpI_g {M : List Int} {j : Nat} (h0 : 0 < j) (hj : j < M.length) (i : Nat) : gI (swpI M j) i = if i = j - 1 then gI M j else if i = j then gI M (j - 1) else gI M i := by
  unfold swpI
  rw [gI_set (by simp; omega), gI_set hj]
theorem swpI_mem {M : List Int} {j : Nat} (h0 : 0 < j) (hj : j < M.length) (x : Int) : x ∈ swpI M j ↔ x ∈ M := by
  rw [gI_mem, gI_mem, swpI_len]
  constructor
  · rintro ⟨i, hi, e⟩
    rw [swpI_g h0 hj] at e
    split at e
    · exact ⟨j, hj, e⟩
    split at e
    · exact ⟨j - 1, by omega, e⟩
    · exact ⟨i, hi, e⟩
  · rintro ⟨i, hi, e⟩
    by_cases h1 : i = j
    · exact ⟨j - 1, by omega, by rw [swpI_g h0 hj, if_pos rfl, ← h1, e]⟩
    by_cases h2 : i = j - 1
    · exact ⟨j, hj, by rw [swpI_g h0 hj, if_neg (by omega), if_pos rfl, ← h2, e]⟩
    · exact ⟨i, hi, by rw [swpI_g h0 hj, if_neg h2, if_neg h1, e]⟩
section
variable {R : Ending → World → Prop} {w : World}
theorem Less_spec (x y : Int) (h : R (.returned (.bool (decide (x < y)))) w) : Calls Try.prog F_cmp_Less_of_int ⟨[.int .i64 x, .int .i64 y]⟩ w R := by
  apply c_cmp_Less_of_int
  apply c_cmp_isNaN_of_int
  refine ⟨_, rfl, ?_⟩
  rw [decide_eq_false (by simp : ¬ x ≠ x)]
  exact h
theorem getI {S : Nat → Prop} {W : World} {a : Option Addr} {n : Nat} {L : List Int} (h : RowAt Sh.encI S W a n L) {k : Nat} (hk : k < L.length) :
    ∃ q : Addr, (∀ K : Addr → Prop, K q → idx a n (k : Int) 1 K) ∧ W.cell? q = some (.int .i64 L[k]) := (rowV_enc.2 h : RowV vI S W a n L).int hk
set_option maxRecDepth 20000 in
theorem insertionI_spec {B : Nat} {a : Option Addr} {n c : Nat} {L : List Int} (hO : OwnL Sh.encI w B 3 a n c L) (hn : n ≤ 1000000)
    (h : ∀ M w', OwnL Sh.encI w' B 3 a n c M → (∀ x, x ∈ M ↔ x ∈ L) → Chg (bk a) w w' → R (.returned (.tuple ⟨[]⟩)) w') :
    Calls Try.prog F_slices_insertionSortOrdered_of_int ⟨[.slice a n c, .int .i64 0, .int .i64 n]⟩ w R := by
  apply c_slices_insertionSortOrdered_of_int
  refine ⟨fun i W m => ∃ k : Nat, ∃ M, i = k ∧ 1 ≤ k ∧ k ≤ n + 1 ∧ m = n + 1 - k ∧ OwnL Sh.encI W B 3 a n c M ∧ (∀ x, x ∈ M ↔ x ∈ L) ∧ Chg (bk a) w W,
    ⟨_, 1, L, by decide, by omega, by omega, rfl, hO, fun x => Iff.rfl, Chg.refl _ _⟩, ?_⟩
  rintro _ W m ⟨k, M, rfl, hk1, hk2, rfl, hM, hm, hc⟩ _
  refine br_split (fun hlt => ?_) (fun hge => h M W hM hm hc)
  have hkn : k < n := by omega
  refine ⟨fun j V m' => ∃ jj : Nat, ∃ N, j = jj ∧ jj ≤ k ∧ m' = jj + 0 ∧ OwnL Sh.encI V B 3 a n c N ∧ (∀ x, x ∈ N ↔ x ∈ L) ∧ Chg (bk a) w V,
    ⟨_, k, M, rfl, by omega, rfl, hM, hm, hc⟩, ?_⟩
  rintro _ V m' ⟨j, N, rfl, hj, hm', hN, hmN, hcV⟩ _
  have hln := OwnL.length hN
  intro K14 hK14
  have out : ∀ v, Ext V v → ∃ m34 : Nat, m34 < n + 1 - k ∧ ∃ k' : Nat, ∃ M, IntKind.i64.wrap ((k : Int) + 1) = k' ∧ 1 ≤ k' ∧ k' ≤ n + 1 ∧ m34 = n + 1 - k' ∧ OwnL Sh.encI v B 3 a n c M ∧ (∀ x, x ∈ M ↔ x ∈ L) ∧ Chg (bk a) w v := fun v ev =>
    ⟨n + 1 - (k + 1), by omega, k + 1, N, by rw [wrap_nat (by omega)], by omega, by omega, rfl, hN.ext ev, hmN, hcV.trans (.of_ext ev)⟩
  have k14 : ∀ v, Ext V v → 0 < j → K14 v := by
    intro v ev hj0
    refine hK14 _ fun _ => ?_
    unfold drw
    have ed := ext_drew v
    have e17 := ext_trans ev ed
    generalize v.drew = w17 at *
    have hN17 := hN.ext e17
    have hjl : j < N.length := by omega
    obtain ⟨p1, hp1, hc1⟩ := getI (OwnL.out hN17) (show j - 1 < N.length by omega)
    obtain ⟨p2, hp2, hc2⟩ := getI (OwnL.out hN17) hjl
    rw [wrap_id (by omega), show (j : Int) - 1 = ((j - 1 : Nat) : Int) by omega]
    refine hp1 _ ⟨_, hc1, hp2 _ ⟨_, hc2, ?_⟩⟩
    obtain ⟨g, rfl, hi1, hst⟩ := OwnL.store hN17 (i := j) (by omega) N[j - 1]
    refine hi1 _ ⟨hst _ fun w23 h23 c23 s23 => ?_, trivial⟩
    obtain ⟨g', hg', hi2, hst2⟩ := OwnL.store h23 (i := j - 1) (by omega) N[j]
    obtain rfl : g = g' := by simpa using hg'
    refine hi2 _ ⟨hst2 _ fun w25 h25 c25 s25 => ?_, trivial⟩
    have e1 : (N.set j N[j - 1]).set (j - 1) N[j] = swpI N j := by
      unfold swpI
      rw [gI_at hjl, gI_at (show j - 1 < N.length by omega)]
    rw [e1] at h25
    exact ⟨j - 1, by omega, j - 1, swpI N j, rfl, by omega, rfl, h25, fun x => (swpI_mem hj0 hjl x).trans (hmN x), hcV.trans ((Chg.of_ext e17).trans (c23.trans c25))⟩
  unfold drw
  have ed := ext_drew V
  generalize V.drew = w27 at *
  refine br_split (fun hj0 => ?_) (fun hj0 => ⟨out w27 ed, trivial⟩)
  have hN27 := hN.ext ed
  have hj0' : 0 < j := by omega
  have hjl : j < N.length := by omega
  obtain ⟨p1, hp1, hc1⟩ := getI (OwnL.out hN27) (show j - 1 < N.length by omega)
  obtain ⟨p2, hp2, hc2⟩ := getI (OwnL.out hN27) hjl
  refine hp2 _ ⟨_, hc2, ?_⟩
  rw [wrap_id (by omega), show (j : Int) - 1 = ((j - 1 : Nat) : Int) by omega]
  refine hp1 _ ⟨_, hc1, ?_, trivial⟩
  exact Less_spec _ _ ⟨_, rfl, br_cases (fun _ => k14 w27 ed hj0') (fun _ => out w27 ed)⟩
set_option maxRecDepth 20000 in
theorem Len_small (n : Nat) (hn : n < 256) (h : ∀ v : Int, R (.returned (.int .i64 v)) w) : Calls Try.prog F_math_bits_Len ⟨[.int .u64 (n : Int)]⟩ w R := by
  apply c_math_bits_Len
  apply c_math_bits_Len64
  intro K2 hK2
  have k2 : K2 (n : Int) 0 w := by
    refine hK2 _ _ _ fun _ => ?_
    intro K6 hK6
    have k6 : K6 (n : Int) 0 w := by
      refine hK6 _ _ _ fun _ => ?_
      intro K10 hK10
      have k10 : K10 (n : Int) 0 w := by
        refine hK10 _ _ _ fun _ => ?_
        have e : IntKind.u8.wrap (n : Int) = (n : Int) := by simp [IntKind.wrap, IntKind.bits, IntKind.signed]; omega
        rw [e]
        exact sidx_nat (show n < 256 from hn) ⟨_, rfl, h _⟩
      exact br_neg (by omega) k10
    exact br_neg (by omega) k6
  exact br_neg (by omega) k2
theorem SortI_spec {B : Nat} {a : Option Addr} {n c : Nat} {L : List Int} (hO : OwnL Sh.encI w B 3 a n c L) (hn : n ≤ 12)
    (h : ∀ M w', OwnL Sh.encI w' B 3 a n c M → (∀ x, x ∈ M ↔ x ∈ L) → Chg (bk a) w w' → R (.returned (.tuple ⟨[]⟩)) w') :
    Calls Try.prog F_slices_Sort_of_int_int ⟨[.slice a n c]⟩ w R := by
  apply c_slices_Sort_of_int_int
  have e : IntKind.u64.wrap (n : Int) = (n : Int) := by simp [IntKind.wrap, IntKind.bits, IntKind.signed]; omega
  unfold sh_slices_Sort_of_int_int
  rw [e]
  refine Len_small n (by omega) fun v => ⟨_, rfl, ?_⟩
  apply c_slices_pdqsortOrdered_of_int
  refine ⟨fun a' b' l' x y W m => a' = 0 ∧ b' = (n : Int) ∧ W = w, ⟨0, rfl, rfl, rfl⟩, ?_⟩
  rintro _ _ l' x y W m ⟨rfl, rfl, rfl⟩ _
  refine br_split (fun g => ?_) (fun g => ?_)
  · exact insertionI_spec hO (by omega) fun M w' h1 h2 h3 => ⟨rfl, rfl, h M w' h1 h2 h3⟩
  · exact absurd (show IntKind.i64.wrap ((n : Int) - 0) ≤ 12 by rw [wrap_id (by omega)]; omega) g
theorem ownI_cell {W : World} {B : Nat} {a : Option Addr} {n c : Nat} {L : List Int} (h : OwnL Sh.encI W B 3 a n c L) {j : Nat} (hj : j < L.length) :
    ∃ g, a = some ⟨g, 0, none⟩ ∧ W.cell? ⟨g, j, none⟩ = some (.int .i64 L[j]) := by
  have hl := OwnL.length h
  obtain ⟨g, rfl, _, hc⟩ := h.cell (by omega)
  refine ⟨g, rfl, hc j _ ?_⟩
  have := row_get (E := Sh.encI) (l := L) (i := j) (j := 0) (x := L[j]) (List.getElem?_eq_getElem hj) (by decide)
  rw [show j * Sh.encI.size + 0 = j by simp [Sh.encI]] at this
  rw [this]; rfl
theorem mem_take_s {L : List Int} {k : Nat} (hk : k < L.length) (x : Int) : x ∈ L.take (k + 1) ↔ x ∈ L.take k ∨ x = L[k] := by
  rw [take_s hk, List.mem_append, List.mem_singleton]
set_option maxRecDepth 20000 in
theorem CompactI_spec {B : Nat} {a : Option Addr} {n c : Nat} {L : List Int} (hO : OwnL Sh.encI w B 3 a n c L) (hn : n ≤ 1000000)
    (h : ∀ n' M w', n' ≤ n → OwnL Sh.encI w' B 3 a n' c M → (∀ x, x ∈ M ↔ x ∈ L) → Chg (bk a) w w' → R (.returned (.slice a n' c)) w') :
    Calls Try.prog F_slices_Compact_of_int_int ⟨[.slice a n c]⟩ w R := by
  apply c_slices_Compact_of_int_int
  have hl := OwnL.length hO
  refine br_split (fun g => h n L w (Nat.le_refl _) hO (fun _ => Iff.rfl) (Chg.refl _ _)) (fun g => ?_)
  refine ⟨fun i W m => ∃ k : Nat, i = k ∧ 1 ≤ k ∧ k ≤ n ∧ m = n - k ∧ Ext w W, ⟨_, 1, rfl, by omega, by omega, rfl, Below.refl _ _⟩, ?_⟩
  rintro _ W m ⟨k, rfl, hk1, hk2, rfl, eW⟩ _
  refine br_split (fun hlt => ?_) (fun hge => h n L W (Nat.le_refl _) (hO.ext eW) (fun _ => Iff.rfl) (.of_ext eW))
  unfold drw
  have ed := ext_trans eW (ext_drew W)
  generalize W.drew = W7 at *
  have hO7 := hO.ext ed
  have hkl : k < L.length := by omega
  have hkl1 : k - 1 < L.length := by omega
  obtain ⟨p1, hp1, hc1⟩ := getI (OwnL.out hO7) hkl
  obtain ⟨p2, hp2, hc2⟩ := getI (OwnL.out hO7) hkl1
  rw [wrap_id (by omega), show (k : Int) - 1 = ((k - 1 : Nat) : Int) by omega]
  refine hp1 _ ⟨_, hc1, hp2 _ ⟨_, hc2, br_split (fun geq => ?_) (fun _ => ⟨n - (k + 1), by omega, k + 1, by rw [wrap_nat (by omega)], by omega, by omega, rfl, ed⟩)⟩⟩
  have hcap : n ≤ c := (ownV_enc (S := fun _ => True)).2 hO |>.cap
  obtain ⟨g0, ha, _⟩ := ownI_cell hO7 hkl
  subst ha
  refine ⟨by omega, by omega, by omega, ?_⟩
  rw [Int.toNat_natCast, Int.toNat_natCast]
  have hsl : slA (some (⟨g0, 0, none⟩ : Addr)) c k 1 = some ⟨g0, k, none⟩ := by
    unfold slA
    rw [if_neg (by omega)]
    simp [add_none]
  rw [hsl]
  refine ⟨fun i j V m => ∃ (i' k2 : Nat) (N : List Int), i = i' ∧ j = k2 ∧ 1 ≤ k2 ∧ k2 ≤ n - k ∧ m = n - k2 ∧ i' < k + k2 ∧ k ≤ i' ∧ OwnL Sh.encI V B 3 (some ⟨g0, 0, none⟩) n c N ∧ (∀ x, x ∈ N.take i' ↔ x ∈ L.take (k + k2)) ∧
      (∀ t, k + k2 - 1 ≤ t → gI N t = gI L t) ∧ Chg (bk (some (⟨g0, 0, none⟩ : Addr))) w V,
    ⟨_, k, 1, L, rfl, rfl, by omega, by omega, rfl, by omega, Nat.le_refl _, hO7, fun x => ?_, fun _ _ => rfl, .of_ext ed⟩, ?_⟩
  · rw [mem_take_s hkl]
    constructor
    · exact .inl
    · rintro (h1 | h1)
      · exact h1
      · rw [h1, geq, List.mem_take_iff_getElem]
        exact ⟨k - 1, by omega, rfl⟩
  rintro _ _ V m ⟨i', k2, N, rfl, rfl, h1, h2, rfl, h3, h4, hN, hmem, hkeep, hcV⟩ _
  have hNl := OwnL.length hN
  refine br_split (fun hlt2 => ?_) (fun hge2 => ?_)
  · skip
    have ed2 := ext_drew V
    have hN' := hN.ext ed2
    have hcV' := hcV.trans (.of_ext ed2)
    generalize V.drew = V9 at *
    have hj1 : k + k2 < N.length := by omega
    have hj2 : k + (k2 - 1) < N.length := by omega
    obtain ⟨g1, e1, d1⟩ := ownI_cell hN' hj1
    obtain rfl : g0 = g1 := by simpa using e1
    obtain ⟨g1, e1, d2⟩ := ownI_cell hN' hj2
    obtain rfl : g0 = g1 := by simpa using e1
    have q1 : ∀ K : Addr → Prop, K ⟨g0, k + k2, none⟩ → idx (some (⟨g0, k, none⟩ : Addr)) (n - k) (k2 : Int) 1 K := fun K hK => by
      refine ⟨by omega, by omega, ?_⟩
      show K _
      rw [add_none, Int.toNat_natCast, Nat.mul_one]; exact hK
    have q2 : ∀ K : Addr → Prop, K ⟨g0, k + (k2 - 1), none⟩ → idx (some (⟨g0, k, none⟩ : Addr)) (n - k) (IntKind.i64.wrap ((k2 : Int) - 1)) 1 K := fun K hK => by
      rw [wrap_id (by omega), show (k2 : Int) - 1 = ((k2 - 1 : Nat) : Int) by omega]
      refine ⟨by omega, by omega, ?_⟩
      show K _
      rw [add_none, Int.toNat_natCast, Nat.mul_one]; exact hK
    have v1 : N[k + k2] = gI L (k + k2) := by rw [← hkeep _ (by omega), gI_at hj1]
    have v2 : N[k + (k2 - 1)] = gI L (k + (k2 - 1)) := by rw [← hkeep _ (by omega), gI_at hj2]
    have hL1 : k + k2 < L.length := by omega
    have vL : gI L (k + k2) = L[k + k2] := gI_at hL1
    refine q1 _ ⟨_, d1, q2 _ ⟨_, d2, br_split (fun gn => ?_) (fun gn => ?_)⟩⟩
    · refine q1 _ ⟨_, d1, ?_⟩
      obtain ⟨gg, hgg, hi1, hst⟩ := OwnL.store hN' (i := i') (by omega) N[k + k2]
      obtain rfl : g0 = gg := by simpa using hgg
      refine hi1 _ (hst _ fun V27 h27 c27 s27 => ?_)
      refine ⟨n - (k2 + 1), by omega, i' + 1, k2 + 1, N.set i' N[k + k2], by rw [wrap_nat (by omega)], by rw [wrap_nat (by omega)], by omega, by omega, rfl, by omega, by omega, h27, fun x => ?_, fun t ht => ?_, hcV'.trans c27⟩
      · have hl2 : i' < (N.set i' N[k + k2]).length := by simp; omega
        rw [take_s hl2, List.take_set_of_le (Nat.le_refl _), List.mem_append, List.mem_singleton, hmem, ← Nat.add_assoc, mem_take_s hL1]
        simp only [List.getElem_set_self, v1, vL]
      · rw [gI_set (by omega), if_neg (by omega)]
        exact hkeep t (by omega)
    · refine ⟨n - (k2 + 1), by omega, i', k2 + 1, N, rfl, by rw [wrap_nat (by omega)], by omega, by omega, rfl, by omega, by omega, hN', fun x => ?_, fun t ht => hkeep t (by omega), hcV'⟩
      rw [hmem, ← Nat.add_assoc, mem_take_s hL1]
      constructor
      · exact .inl
      · rintro (h5 | h5)
        · exact h5
        · rw [h5, ← vL, ← v1, Decidable.not_not.1 gn, v2, gI_at (by omega), List.mem_take_iff_getElem]
          exact ⟨k + (k2 - 1), by omega, rfl⟩
  · have hkn : k + k2 = n := by omega
    refine hN.cutClear (t := 27) (z := .int .i64 0) slT_int.under zrI rfl rfl rfl (i := i') (by omega) fun V31 h31 c31 s31 => ?_
    refine h i' _ V31 (by omega) h31 (fun x => ?_) (hcV.trans c31)
    rw [hmem, hkn, List.take_of_length_le (by omega)]
end
end Go.Proofs
namespace Go.Proofs
/- assignments of states: each known state stands, an unknown one is any of some values -/
def asgL (vals : List Int) : List Int → List (List Int)
  | [] => [[]]
  | s :: r => if 0 ≤ s then (asgL vals r).map (s :: ·) else vals.flatMap fun x => (asgL vals r).map (x :: ·)
def okA1 (vals : List Int) (s x : Int) : Prop := if 0 ≤ s then x = s else x ∈ vals
def isA (vals : List Int) : List Int → List Int → Prop
  | [], [] => True
  | s :: r, x :: l => okA1 vals s x ∧ isA vals r l
  | _, _ => False
theorem mem_asgL (vals : List Int) : ∀ {st l : List Int}, l ∈ asgL vals st ↔ isA vals st l
  | [], l => by cases l <;> simp [asgL, isA]
  | s :: r, [] => by
    rw [asgL]
    split
    · simp [isA]
    · simp [isA]
  | s :: r, x :: l => by
    rw [asgL, isA, okA1]
    split
    · rename_i h
      rw [List.mem_map, ← mem_asgL vals]
      constructor
      · rintro ⟨m, hm, he⟩
        obtain ⟨rfl, rfl⟩ := List.cons.inj he
        exact ⟨rfl, hm⟩
      · rintro ⟨rfl, hm⟩; exact ⟨l, hm, rfl⟩
    · rw [List.mem_flatMap, ← mem_asgL vals]
      constructor
      · rintro ⟨y, hy, hm⟩
        obtain ⟨m, hm2, he⟩ := List.mem_map.1 hm
        obtain ⟨rfl, rfl⟩ := List.cons.inj he
        exact ⟨hy, hm2⟩
      · rintro ⟨hy, hm⟩; exact ⟨x, hy, List.mem_map.2 ⟨l, hm, rfl⟩⟩
theorem isA_mono {v v' : List Int} (h : ∀ x ∈ v, x ∈ v') : ∀ {st l : List Int}, isA v st l → isA v' st l
  | [], [], _ => trivial
  | s :: r, x :: l, ⟨h1, h2⟩ => ⟨by
      unfold okA1 at h1 ⊢
      split
      · rename_i hh; rwa [if_pos hh] at h1
      · rename_i hh; rw [if_neg hh] at h1; exact h x h1, isA_mono h h2⟩
  | [], _ :: _, h => h
  | _ :: _, [], h => h
theorem isA_len {v : List Int} : ∀ {st l : List Int}, isA v st l → l.length = st.length
  | [], [], _ => rfl
  | _ :: _, _ :: _, ⟨_, h⟩ => by rw [List.length_cons, List.length_cons, isA_len h]
  | [], _ :: _, h => h.elim
  | _ :: _, [], h => h.elim
theorem asgL_ne {vals : List Int} (hv : vals ≠ []) : ∀ st : List Int, asgL vals st ≠ []
  | [] => by simp [asgL]
  | s :: r => by
    rw [asgL]
    have ih := asgL_ne hv r
    split
    · simpa using ih
    · intro h
      obtain ⟨x, hx⟩ := List.exists_mem_of_ne_nil _ hv
      obtain ⟨m, hm⟩ := List.exists_mem_of_ne_nil _ ih
      have := List.flatMap_eq_nil_iff.1 h x hx
      rw [List.map_eq_nil_iff] at this
      exact ih this
/- the changes of an assignment: nodes with exemplars of which none has the state -/
def chg1 (all : List Int) (i : Nat) (ps : List Int) : Bool := decide (ps ≠ []) && !ps.any fun p => decide (all.getD p.toNat 0 = all.getD i 0)
def cntC (P : List (List Int)) (all : List Int) : Nat := ((List.range P.length).filter fun i => chg1 all i (P.getD i [])).length
/- the least of some numbers, found one after the other; it ends at 0 -/
def leastF : List Nat → Option Nat → Option Nat
  | [], o => o
  | n :: l, o => match o with
    | none => if n = 0 then some 0 else leastF l (some n)
    | some m => if min n m = 0 then some 0 else leastF l (some (min n m))
theorem leastF_le : ∀ {l : List Nat} {o : Option Nat} {r : Nat}, leastF l o = some r → (∀ n ∈ l, r ≤ n) ∧ ∀ m, o = some m → r ≤ m
  | [], o, r, h => ⟨fun n hn => (by cases hn), fun m hm => (by rw [leastF, hm] at h; rw [Option.some.inj h]; exact Nat.le_refl _)⟩
  | n :: l, none, r, h => by
    rw [leastF] at h
    split at h
    · rw [← Option.some.inj h]; exact ⟨fun _ _ => Nat.zero_le _, fun m hm => (by cases hm)⟩
    · obtain ⟨h1, h2⟩ := leastF_le h
      refine ⟨fun k hk => ?_, fun m hm => (by cases hm)⟩
      rcases List.mem_cons.1 hk with rfl | hk
      · exact h2 _ rfl
      · exact h1 k hk
  | n :: l, some m, r, h => by
    rw [leastF] at h
    split at h
    · rw [← Option.some.inj h]; exact ⟨fun _ _ => Nat.zero_le _, fun m hm => Nat.zero_le _⟩
    · obtain ⟨h1, h2⟩ := leastF_le h
      have h3 := h2 _ rfl
      refine ⟨fun k hk => ?_, fun m' hm => ?_⟩
      · rcases List.mem_cons.1 hk with rfl | hk
        · omega
        · exact h1 k hk
      · rw [← Option.some.inj hm]
        omega
theorem leastF_some : ∀ {l : List Nat} {o : Option Nat}, (l ≠ [] ∨ o ≠ none) → ∃ r, leastF l o = some r
  | [], none, h => by simp at h
  | [], some m, _ => ⟨m, rfl⟩
  | n :: l, none, _ => by
    rw [leastF]
    split
    · exact ⟨0, rfl⟩
    · exact leastF_some (.inr (by simp))
  | n :: l, some m, _ => by
    rw [leastF]
    split
    · exact ⟨0, rfl⟩
    · exact leastF_some (.inr (by simp))
end Go.Proofs
namespace Go.Proofs
/- states that occur, each once, in the order in which they come -/
def occF : List Int → List Int → List Int
  | acc, [] => acc
  | acc, s :: r => occF (if 0 ≤ s ∧ s ∉ acc then acc ++ [s] else acc) r
theorem mem_occF : ∀ {st acc : List Int} {x : Int}, x ∈ occF acc st ↔ x ∈ acc ∨ (0 ≤ x ∧ x ∈ st)
  | [], acc, x => by simp [occF]
  | s :: r, acc, x => by
    rw [occF, mem_occF]
    by_cases hc : 0 ≤ s ∧ s ∉ acc
    · rw [if_pos hc, List.mem_append, List.mem_singleton, List.mem_cons]
      constructor
      · rintro ((h | rfl) | h)
        · exact .inl h
        · exact .inr ⟨hc.1, .inl rfl⟩
        · exact .inr ⟨h.1, .inr h.2⟩
      · rintro (h | ⟨h1, rfl | h2⟩)
        · exact .inl (.inl h)
        · exact .inl (.inr rfl)
        · exact .inr ⟨h1, h2⟩
    · rw [if_neg hc, List.mem_cons]
      constructor
      · rintro (h | h)
        · exact .inl h
        · exact .inr ⟨h.1, .inr h.2⟩
      · rintro (h | ⟨h1, rfl | h2⟩)
        · exact .inl h
        · exact .inl (Decidable.by_contra fun hh => hc ⟨h1, hh⟩)
        · exact .inr ⟨h1, h2⟩
/- the states of the unknown ones: those that occur, or 0 -/
def occ0 (st : List Int) : List Int := if occF [] st = [] then [0] else occF [] st
theorem mem_occ0 {st v : List Int} (hv : ∀ x, x ∈ v ↔ 0 ≤ x ∧ x ∈ st) : ∀ x, x ∈ occ0 st ↔ x ∈ (if v = [] then [0] else v) := by
  intro x
  have h1 : ∀ y, y ∈ occF [] st ↔ y ∈ v := fun y => by rw [mem_occF, hv]; simp
  have h2 : occF [] st = [] ↔ v = [] := by
    rw [List.eq_nil_iff_forall_not_mem, List.eq_nil_iff_forall_not_mem]
    exact ⟨fun h y hy => h y ((h1 y).2 hy), fun h y hy => h y ((h1 y).1 hy)⟩
  unfold occ0
  by_cases h3 : v = []
  · rw [if_pos h3, if_pos (h2.2 h3)]
  · rw [if_neg h3, if_neg fun hh => h3 (h2.1 hh)]; exact h1 x
theorem occ0_ne (st : List Int) : occ0 st ≠ [] := by
  unfold occ0
  split
  · simp
  · rename_i h; exact h
/- the score, and what is possible and certain -/
def scoreA (P : List (List Int)) (vals st : List Int) : Nat := (leastF ((asgL vals st).map (cntC P)) none).getD 0
theorem score_le {P : List (List Int)} {vals st all : List Int} (hv : vals ≠ []) (h : isA vals st all) : scoreA P vals st ≤ cntC P all := by
  have hm : all ∈ asgL vals st := (mem_asgL vals).2 h
  obtain ⟨r, hr⟩ := leastF_some (l := (asgL vals st).map (cntC P)) (o := none) (.inl (by simp [asgL_ne hv st]))
  unfold scoreA
  rw [hr]
  exact (leastF_le hr).1 _ (List.mem_map.2 ⟨all, hm, rfl⟩)
def seenA (P : List (List Int)) (vals st : List Int) (n i : Nat) (x : Int) : Bool := (asgL vals st).any fun a => decide (cntC P a = n) && decide (a.getD i 0 = x)
def possA (P : List (List Int)) (vals st : List Int) (n i : Nat) : List Int := ((List.range 16).map fun k : Nat => (k : Int)).filter (seenA P vals st n i)
def certA (P : List (List Int)) (vals st : List Int) (n i : Nat) : Int := match possA P vals st n i with
  | [x] => x
  | _ => -1
theorem poss_mem {P : List (List Int)} {vals st all : List Int} {n i : Nat} (h : isA vals st all) (hn : cntC P all = n) (h0 : 0 ≤ all.getD i 0) (h1 : all.getD i 0 < 16) : all.getD i 0 ∈ possA P vals st n i := by
  unfold possA
  rw [List.mem_filter, List.mem_map]
  refine ⟨⟨(all.getD i 0).toNat, List.mem_range.2 (by omega), Int.toNat_of_nonneg h0⟩, ?_⟩
  unfold seenA
  rw [List.any_eq_true]
  exact ⟨all, (mem_asgL vals).2 h, by simp [hn]⟩
theorem cert_eq {P : List (List Int)} {vals st : List Int} {n i : Nat} {x : Int} (h : x ∈ possA P vals st n i) (hc : 0 ≤ certA P vals st n i) : certA P vals st n i = x := by
  unfold certA at hc ⊢
  match hp : possA P vals st n i, h with
  | [y], h => exact (List.mem_singleton.1 h).symm
  | y :: z :: r, h => rw [hp] at hc; exact absurd hc (by show ¬ (0 : Int) ≤ -1; decide)
end Go.Proofs
namespace Go.Proofs
open Go Go.Sh Go.RowKit
/- the states that occur; whether there are too many assignments; contamination.Check -/
def knF (st : List Int) : List Int := st.filter fun x => decide (0 ≤ x)
def stBad (x : Int) : Bool := decide (x < -1) || decide (16 ≤ x)
def conOk (N : List Nm) (en : Nat) (P : List (List Int)) (st : List Int) : Bool := stemOk N en P && (decide (st.length = P.length) && !st.any stBad)
theorem mem_knF {st : List Int} {x : Int} : x ∈ knF st ↔ 0 ≤ x ∧ x ∈ st := by
  unfold knF
  rw [List.mem_filter, decide_eq_true_iff]; exact And.comm
theorem knF_take {st : List Int} {k : Nat} (hk : k < st.length) : knF (st.take (k + 1)) = if 0 ≤ st[k] then knF (st.take k) ++ [st[k]] else knF (st.take k) := by
  unfold knF
  rw [take_s hk, List.filter_append]
  by_cases h : 0 ≤ st[k] <;> simp [h]
section
variable {R : Ending → World → Prop} {w : World} {S : Nat → Prop} {a : Option Addr} {n c : Nat}
set_option maxRecDepth 20000 in
theorem occurring_spec {st : List Int} (hR : RowV vI S w a n st) (hn : n ≤ 12)
    (h : ∀ a' n' c' vals w', OwnL Sh.encI w' w.heap.size 3 a' n' c' vals → n' ≤ max 1 n → (∀ x, x ∈ vals ↔ x ∈ occ0 st) → Ext w w' → R (.returned (.slice a' n' c')) w') :
    Calls Try.prog F_contamination_occurring ⟨[.slice a n c]⟩ w R := by
  apply c_contamination_occurring
  have hl := hR.1
  refine ⟨fun oa on oc i W m => ∃ k : Nat, i = k ∧ k ≤ n ∧ m = n - k ∧ on ≤ k ∧ OwnV vI (fun _ => False) 3 w.heap.size W oa on oc (knF (st.take k)) ∧ Ext w W, ⟨_, 0, rfl, by omega, rfl, by omega, OwnV.nil w, Below.refl _ _⟩, ?_⟩
  rintro oa on oc _ W m ⟨k, rfl, hk, rfl, hon, hO, eW⟩ _
  have zW := eW.size
  refine br_split (fun hlt => ?_) (fun hge => ?_)
  · have hkl : k < st.length := by omega
    obtain ⟨q, hq, d⟩ := (hR.ext eW).int hkl
    refine hq _ ⟨_, d, br_split (fun g => ?_) (fun g => ?_)⟩
    · refine hO.push slT_int (by omega) (x := st[k]) (show vI.C _ _ st[k] [.int .i64 st[k]] from rfl) (by omega) (by omega) fun a' c' w' ho hc hn' => ?_
      refine ⟨n - (k + 1), by omega, k + 1, by rw [wrap_nat (by omega)], by omega, rfl, by omega, ?_, ext_own eW hc fun j hj => (hO.bk hj).1⟩
      rw [knF_take hkl, if_pos g]; exact ho
    · refine ⟨n - (k + 1), by omega, k + 1, by rw [wrap_nat (by omega)], by omega, rfl, by omega, ?_, eW⟩
      rw [knF_take hkl, if_neg g]; exact hO
  · rw [List.take_of_length_le (by omega)] at hO
    have hlen := hO.len
    have hmem : ∀ x, x ∈ occ0 st ↔ x ∈ (if knF st = [] then [0] else knF st) := mem_occ0 fun x => mem_knF
    refine br_split (fun g => ?_) (fun g => ?_)
    · have h0 : knF st = [] := List.eq_nil_of_length_eq_zero (by omega)
      refine al_intro fun b w17 hb B17 e17 s17 => ?_
      refine h _ _ _ [0] w17 (OwnL.made (E := Sh.encI) (x := 0) (n := 1) B17 (by omega) (by decide)) (by omega) (fun x => ?_) (ext_trans eW e17)
      rw [hmem, if_pos h0]
    · have hne : knF st ≠ [] := fun hh => by rw [hh] at hlen; simp at hlen; omega
      have hO' : OwnL Sh.encI W w.heap.size 3 oa on oc (knF st) := ownV_enc.1 hO
      have own : ∀ {u : World}, Chg (bk oa) W u → Ext w u := fun hc => ext_own eW hc fun j hj => (hO.bk hj).1
      refine SortI_spec hO' (by omega) fun M w19 hM hm hc => ⟨rfl, ?_⟩
      refine CompactI_spec hM (by omega) fun n' M' w21 hn' hM' hm' hc' => ⟨_, _, _, rfl, ?_⟩
      refine h _ _ _ M' w21 hM' (by omega) (fun x => ?_) (own (hc.trans hc'))
      rw [hmem, if_neg hne, hm', hm]
theorem pow6 {k : Nat} (h : k ≤ 6) : 6 ^ k ≤ 46656 := Nat.le_trans (Nat.pow_le_pow_right (by decide) h) (by decide)
theorem tooMany_spec {st : List Int} (hR : RowV vI S w a n st) (hn : n ≤ 6) (h : ∀ w', Ext w w' → R (.returned (.bool false)) w') :
    Calls Try.prog F_contamination_tooMany ⟨[.slice a n c]⟩ w R := by
  apply c_contamination_tooMany
  have hl := hR.1
  refine occurring_spec hR (by omega) fun a4 n4 c4 vals w3 h4 hn4 _ e3 => ⟨_, _, _, rfl, ?_⟩
  refine ⟨fun p i W m => ∃ k q : Nat, i = k ∧ p = q ∧ k ≤ n ∧ m = n - k ∧ q ≤ 6 ^ k ∧ Ext w W, ⟨_, 0, 1, rfl, rfl, by omega, rfl, Nat.le_refl _, e3⟩, ?_⟩
  rintro _ _ W m ⟨k, q, rfl, rfl, hk, rfl, hq, eW⟩ _
  refine br_split (fun hlt => ?_) (fun hge => h W eW)
  have hkl : k < st.length := by omega
  obtain ⟨p, hp, d⟩ := (hR.ext eW).int hkl
  have h6 := pow6 (k := k) (by omega)
  have h61 := pow6 (k := k + 1) (by omega)
  refine hp _ ⟨_, d, br_split (fun g => ?_) (fun g => ?_)⟩
  · refine ⟨n - (k + 1), by omega, k + 1, q, by rw [wrap_nat (by omega)], rfl, by omega, rfl, ?_, eW⟩
    exact Nat.le_trans hq (Nat.pow_le_pow_right (by decide) (by omega))
  · have hmul : q * n4 ≤ 6 ^ (k + 1) := by
      rw [Nat.pow_succ]; exact Nat.mul_le_mul hq (by omega)
    have e : IntKind.i64.wrap ((q : Int) * (n4 : Int)) = ((q * n4 : Nat) : Int) := by
      rw [← Int.natCast_mul, wrap_id (by omega)]
    rw [e]
    refine br_split (fun g2 => by omega) (fun _ => ⟨n - (k + 1), by omega, k + 1, q * n4, by rw [wrap_nat (by omega)], rfl, by omega, rfl, hmul, eW⟩)
theorem conCheck_spec {na ea pa : Option Addr} {nn nc en ec pn pc : Nat} {N : List Nm} {P : List (List Int)} {st : List Int} (hN : RowV vS S w na nn N) (hcN : nn ≤ nc) (hP : RowV vIs S w pa pn P) (hb : ∀ s ∈ N, s.length ≤ 4611686018427387904) (hPl : ∀ l ∈ P, l.length ≤ 4611686018427387904)
    (hR : RowV vI S w a n st) (hs : n ≤ 4611686018427387904)
    (h : ∀ (e : Int) w', Ext w w' → decide (e = 0) = conOk N en P st → R (.returned (.int .i64 e)) w') : Calls Try.prog F_contamination_Check ⟨[.agg ⟨[.slice na nn nc, .slice ea en ec, .slice pa pn pc]⟩, .slice a n c]⟩ w R := by
  apply c_contamination_Check
  have hl := hR.1
  have hpl := hP.1
  refine al_intro fun b5 w6 hb5 B5 e6 s6 => ?_
  obtain ⟨x0, x1, x2⟩ := bl3 B5
  refine ⟨_, _, _, x0, _, _, _, x1, _, _, _, x2, ?_⟩
  refine stemCheck_spec (hN.ext e6) hcN (hP.ext e6) hb hPl fun e w11 e11 he => ⟨_, rfl, ?_⟩
  have eW := ext_trans e6 e11
  refine br_split (fun g => ?_) (fun g => ?_)
  · refine h _ _ eW ?_
    rw [decide_eq_false g] at he
    unfold conOk
    rw [← he, Bool.false_and]; rfl
  have g : e = 0 := Decidable.not_not.1 g
  rw [decide_eq_true g] at he
  obtain ⟨y0, y1, y2⟩ := bl3 (B5.ext e11)
  refine ⟨_, _, _, y2, br_split (fun g2 => ?_) (fun g2 => ?_)⟩
  · refine h _ _ eW ?_
    unfold conOk
    rw [decide_eq_false (show ¬ st.length = P.length by omega), Bool.false_and, Bool.and_false]; rfl
  have hco : conOk N en P st = !st.any stBad := by
    unfold conOk
    rw [← he, decide_eq_true (show st.length = P.length by omega), Bool.true_and, Bool.true_and]
  refine ContainsFuncI_spec (q := stBad) (J := fun _ => True) (hR.ext eW) hs ?_ trivial (fun _ _ _ _ => trivial) fun w15 e15 => ⟨_, rfl, br_cases (fun gb => ?_) (fun gb => ?_)⟩
  · intro x _ W K _ hK
    refine ⟨by kernel_rfl, ?_⟩
    apply c_contamination_Check_1
    have hK' : K (.returned (.bool (decide (x < -1) || decide (16 ≤ x)))) W := hK W (Below.refl _ _)
    refine br_split (fun g => ?_) (fun g => ?_)
    · rw [decide_eq_true g, Bool.true_or] at hK'; exact hK'
    · rw [decide_eq_false g, Bool.false_or] at hK'; exact hK'
  · exact h _ _ (ext_trans eW e15) (by rw [hco, gb]; rfl)
  · exact h _ _ (ext_trans eW e15) (by rw [hco, gb]; rfl)
end
end Go.Proofs
namespace Go.Proofs
open Go Go.Sh Go.RowKit
/- contamination.choice and counter -/
def sameA (all : List Int) (i : Nat) (p : Int) : Bool := decide (all.getD p.toNat 0 = all.getD i 0)
def ParOk (P : List (List Int)) : Prop := ∀ i, i < P.length → ∀ p ∈ P.getD i [], 0 ≤ p ∧ p < i
def cpF (P : List (List Int)) : List Nat := (List.range P.length).filter fun i => decide (P.getD i [] ≠ [])
theorem cntC_eq (P : List (List Int)) (all : List Int) : cntC P all = ((cpF P).filter fun i => !(P.getD i []).any (sameA all i)).length := by
  unfold cntC cpF
  rw [List.filter_filter]
  congr 1
  refine List.filter_congr fun i _ => ?_
  show chg1 all i (P.getD i []) = _
  unfold chg1
  rw [Bool.and_comm]; rfl
theorem stem_par {N : List Nm} {en : Nat} {P : List (List Int)} (h : stemOk N en P = true) : ParOk P ∧ 0 < N.length ∧ N.length ≤ 64 ∧ P.length = N.length := by
  unfold stemOk at h
  rw [Bool.and_eq_true, decide_eq_true_iff, range_all] at h
  obtain ⟨⟨h1, h2, h3, h4⟩, h5⟩ := h
  refine ⟨fun i hi p hp => ?_, h1, h2, h4⟩
  have := h5 i (by omega)
  unfold stemI at this
  simp only [Bool.and_eq_true, Bool.not_eq_true'] at this
  have := List.any_eq_false.1 this.2.2.1 p hp
  simp at this
  omega
section
variable {R : Ending → World → Prop} {w : World} {S : Nat → Prop}
set_option maxRecDepth 20000 in
theorem choice_spec {na ea pa : Option Addr} {nn nc en ec pn pc : Nat} {P : List (List Int)} {a : Option Addr} {n c : Nat} {all : List Int} (hP : RowV vIs S w pa pn P) (hA : RowV vI S w a n all) (hn : n = pn) (hk : ParOk P) (hPl : ∀ l ∈ P, l.length ≤ 4611686018427387904) {i : Nat} (hi : i < pn)
    (h : ∀ (v : Int) w', Ext w w' → decide (v < 0) = (!(P.getD i []).any (sameA all i)) → R (.returned (.int .i64 v)) w') :
    Calls Try.prog F_contamination_choice ⟨[.agg ⟨[.slice na nn nc, .slice ea en ec, .slice pa pn pc]⟩, .slice a n c, .int .i64 i]⟩ w R := by
  apply c_contamination_choice
  have hpl := hP.1
  have hal := hA.1
  refine al_intro fun b6 w7 hb6 B6 e7 s7 => al_intro fun b8 w9 hb8 B8 e9 s9 => al_intro fun b10 w11 hb10 B10 e11 s11 => ?_
  have eW := ext_trans (ext_trans e7 e9) e11
  have B6' := (B6.ext e9).ext e11
  have B8' := B8.ext e11
  obtain ⟨x0, x1, x2⟩ := bl3 B6'
  have hiP : i < P.length := by omega
  have gP : P.getD i [] = P[i] := getD_at hiP _
  obtain ⟨b14, o14, a15, c15, hq, _, _, hc, _, hrow⟩ := (hP.ext eW).getS (List.getElem?_eq_getElem hiP)
  refine ⟨_, _, _, x2, _, by rw [B10.cell]; rfl, hq _ ⟨_, _, _, hc, ?_⟩⟩
  have hin := hk i hiP
  rw [gP] at hin h
  refine IndexFuncI_spec (q := sameA all i) (J := fun W => Ext w11 W) hrow (hPl _ (List.getElem_mem hiP)) ?_ (Below.refl _ _) (fun _ _ => ext_trans) fun w17 e17 => ⟨_, rfl, ?_⟩
  · intro p hp W K eWW hK
    refine ⟨by kernel_rfl, ?_⟩
    apply c_contamination_choice_1
    have ed := ext_drew W
    unfold sh_contamination_choice_1 drw
    have eW2 := ext_trans eWW ed
    have hK' := hK _ ed
    generalize W.drew = Wd at *
    obtain ⟨hp0, hpi⟩ := hin p hp
    have hpl' : p.toNat < all.length := by omega
    obtain ⟨q1, hq1, d1⟩ := ((hA.ext eW).ext eW2).int hpl'
    obtain ⟨q2, hq2, d2⟩ := ((hA.ext eW).ext eW2).int (show i < all.length by omega)
    rw [Int.toNat_of_nonneg hp0] at hq1
    have B8d := B8'.ext eW2
    refine dr_ok ⟨_, _, _, by rw [B8d.cell]; rfl, hq1 _ ⟨_, d1, dr_ok ⟨_, _, _, by rw [B8d.cell]; rfl, dr_ok ⟨_, by rw [(B10.ext eW2).cell]; rfl, hq2 _ ⟨_, d2, ?_⟩⟩⟩⟩⟩
    have e : sameA all i p = decide (all[p.toNat] = all[i]) := by
      unfold sameA
      rw [getD_at hpl', getD_at (show i < all.length by omega)]
    rw [e] at hK'; exact hK'
  · have e17' := ext_trans eW e17
    refine br_split (fun g => ?_) (fun g => ?_)
    · refine h _ _ e17' ?_
      have := ixF_ge (sameA all i) P[i]
      rw [decide_eq_false (by omega)] at this
      rw [← this]; rfl
    · obtain ⟨z0, z1, z2⟩ := bl3 (B6'.ext e17)
      obtain ⟨b21, o21, a22, c22, hq2, _, _, hc2, _, hrow2⟩ := (hP.ext e17').getS (List.getElem?_eq_getElem hiP)
      refine ⟨_, _, _, z2, _, by rw [(B10.ext e17).cell]; rfl, hq2 _ ⟨_, _, _, hc2, ?_⟩⟩
      have hany : (P[i]).any (sameA all i) = true := by
        have := ixF_ge (sameA all i) P[i]
        rw [decide_eq_true (by omega)] at this; exact this.symm
      have hx : (P[i]).findIdx (sameA all i) < (P[i]).length := List.findIdx_lt_length_of_exists (List.any_eq_true.1 hany)
      have e : ixF (sameA all i) P[i] = ((P[i]).findIdx (sameA all i) : Int) := by unfold ixF; rw [if_pos hany]
      rw [e]
      obtain ⟨q3, hq3, d3⟩ := hrow2.int hx
      refine hq3 _ ⟨_, d3, h _ _ e17' ?_⟩
      have := (hin _ (List.getElem_mem hx)).1
      rw [decide_eq_false (by omega), hany]; rfl
/- what the counter has: the exemplars, and the nodes that have some -/
structure CntAt (w : World) (b6 b4 : Nat) (pa : Option Addr) (pn : Nat) (P : List (List Int)) : Prop where
  ex : ∃ na nn nc ea en ec pc ca cn cc, Blk w b4 [.slice na nn nc, .slice ea en ec, .slice pa pn pc] 26 ∧ Blk w b6 [.slice ca cn cc] 27 ∧ RowV vI (bk ca) w ca cn ((cpF P).map fun i : Nat => (i : Int)) ∧ (∀ k, bk ca k → k < w.heap.size)
theorem CntAt.keep {w w' : World} {b6 b4 : Nat} {pa : Option Addr} {pn : Nat} {P : List (List Int)} (h : CntAt w b6 b4 pa pn P) (he : Ext w w') : CntAt w' b6 b4 pa pn P := by
  obtain ⟨na, nn, nc, ea, en, ec, pc, ca, cn, cc, h1, h2, h3, h4⟩ := h.ex
  exact ⟨na, nn, nc, ea, en, ec, pc, ca, cn, cc, h1.ext he, h2.ext he, h3.ext he, fun k hk => Nat.lt_of_lt_of_le (h4 k hk) he.size⟩
theorem range_filter_s {p : Nat → Bool} {k : Nat} : (List.range (k + 1)).filter p = (List.range k).filter p ++ if p k then [k] else [] := by
  rw [List.range_succ, List.filter_append]
  by_cases h : p k <;> simp [h]
set_option maxRecDepth 20000 in
theorem counter_spec {na ea pa : Option Addr} {nn nc en ec pn pc : Nat} {P : List (List Int)} (hP : RowV vIs S w pa pn P) (hpn : pn ≤ 1000000)
    (h : ∀ b6 b4 w', Ext w w' → CntAt w' b6 b4 pa pn P → R (.returned (.func (.func 77) ⟨[]⟩ ⟨[.pointer (some ⟨b6, 0, none⟩), .pointer (some ⟨b4, 0, none⟩)]⟩)) w') :
    Calls Try.prog F_contamination_counter ⟨[.agg ⟨[.slice na nn nc, .slice ea en ec, .slice pa pn pc]⟩]⟩ w R := by
  apply c_contamination_counter
  have hpl := hP.1
  refine al_intro fun b4 w5 hb4 B4 e5 s5 => al_intro fun b6 w7 hb6 B6 e7 s7 => ?_
  have e07 := ext_trans e5 e7
  have B4' := B4.ext e7
  obtain ⟨x0, x1, x2⟩ := bl3 B4'
  refine ⟨_, _, _, x2, ?_⟩
  have cps : ∀ k, k ≤ pn → (cpF (P.take k)).length ≤ k := fun k hk => by
    unfold cpF
    refine Nat.le_trans (List.length_filter_le _ _) ?_
    rw [List.length_range, List.length_take]; omega
  refine ⟨fun i W m => ∃ (k : Nat) (ca : Option Addr) (cn cc : Nat), i = k ∧ k ≤ pn ∧ m = pn - k ∧ cn ≤ k ∧ Blk W b4 [.slice na nn nc, .slice ea en ec, .slice pa pn pc] 26 ∧ Blk W b6 [.slice ca cn cc] 27 ∧ OwnV vI (fun _ => False) 3 (b6 + 1) W ca cn cc (((List.range k).filter fun i => decide (P.getD i [] ≠ [])).map fun i : Nat => (i : Int)) ∧ Ext w W,
    ⟨_, 0, none, 0, 0, rfl, by omega, rfl, by omega, B4', B6, OwnV.nil _, e07⟩, ?_⟩
  rintro _ W m ⟨k, ca, cn, cc, rfl, hk, rfl, hcn, BW4, BW6, hO, eW⟩ _
  have zW := BW6.lt
  refine br_split (fun hlt => ?_) (fun hge => ?_)
  · have hkP : k < P.length := by omega
    obtain ⟨b14, o14, a15, c15, hq, _, _, hc, _, hrow⟩ := (hP.ext eW).getS (List.getElem?_eq_getElem hkP)
    refine hq _ ⟨_, _, _, hc, br_split (fun g => ?_) (fun g => ?_)⟩
    · refine ⟨_, _, _, by rw [BW6.cell]; rfl, ?_⟩
      refine hO.push slT_int (by omega) (x := (k : Int)) (show vI.C _ _ (k : Int) [.int .i64 k] from rfl) (by omega) (by omega) fun a' c' w20 ho hc20 hn' => ?_
      have nb6 : ¬ bk ca b6 := fun hh => by have := (hO.bk hh).1; omega
      have nb4 : ¬ bk ca b4 := fun hh => by have := (hO.bk hh).1; omega
      have B620 := hc20.blk BW6 nb6
      have B420 := hc20.blk BW4 nb4
      have n6' : ¬ bk a' b6 := fun hh => (hn' b6 hh).elim nb6 (by omega)
      refine stL_one B620 rfl fun w21 B621 hc21 s21 => ?_
      have ho' := ho.chg hc21 fun j hj _ => ⟨fun hh => hh, fun hh => by rw [hj] at hh; exact n6' hh⟩
      have B421 := hc21.blk B420 (by omega)
      refine ⟨pn - (k + 1), by omega, k + 1, a', cn + 1, c', by rw [wrap_nat (by omega)], by omega, rfl, by omega, B421, B621, ?_, ?_⟩
      · have hne : P.getD k [] ≠ [] := by
          rw [getD_at hkP]; intro hh; rw [hh] at g; simp at g
        rw [range_filter_s, decide_eq_true hne, if_pos rfl, List.map_append]; exact ho'
      · refine ((Chg.of_ext (S := fun k => w.heap.size ≤ k) eW).trans ((hc20.mono fun j _ hj => ?_).trans (hc21.mono fun j _ hj => ?_))).ext fun j hj => by omega
        · have := (hO.bk hj).1; omega
        · rw [hj]; omega
    · refine ⟨pn - (k + 1), by omega, k + 1, ca, cn, cc, by rw [wrap_nat (by omega)], by omega, rfl, by omega, BW4, BW6, ?_, eW⟩
      have hne : P.getD k [] = [] := by
        rw [getD_at hkP]; exact List.eq_nil_of_length_eq_zero (by omega)
      rw [range_filter_s, hne, decide_eq_false (by simp)]; simpa using hO
  · have hkn : k = P.length := by omega
    subst hkn
    exact h b6 b4 W eW ⟨na, nn, nc, ea, en, ec, pc, ca, cn, cc, BW4, BW6, hO.out.imp fun j hj _ => hj.elim False.elim id, fun j hj => (hO.bk hj).2⟩
set_option maxRecDepth 20000 in
theorem counter1_spec {pa : Option Addr} {pn : Nat} {P : List (List Int)} {a : Option Addr} {n c b6 b4 : Nat} {all : List Int} (hC : CntAt w b6 b4 pa pn P) (hP : RowV vIs S w pa pn P) (hA : RowV vI S w a n all) (hn : n = pn) (hpn : pn ≤ 1000000) (hk : ParOk P) (hPl : ∀ l ∈ P, l.length ≤ 4611686018427387904)
    (h : ∀ w', Ext w w' → R (.returned (.int .i64 (cntC P all : Int))) w') :
    Calls Try.prog F_contamination_counter_1 ⟨[.slice a n c, .pointer (some ⟨b6, 0, none⟩), .pointer (some ⟨b4, 0, none⟩)]⟩ w R := by
  apply c_contamination_counter_1
  obtain ⟨na, nn, nc, ea, en, ec, pc, ca, cn, cc, B4, B6, hcp, _⟩ := hC.ex
  have hpl := hP.1
  have hcl := hcp.1
  rw [List.length_map] at hcl
  have hcle : (cpF P).length ≤ pn := by
    unfold cpF
    refine Nat.le_trans (List.length_filter_le _ _) ?_
    rw [List.length_range]; omega
  refine dr_ok ⟨_, _, _, by rw [B6.cell]; rfl, ?_⟩
  refine ⟨fun x i W m => ∃ k : Nat, i = k ∧ k ≤ cn ∧ m = cn - k ∧ x = ((((cpF P).take k).filter fun i => !(P.getD i []).any (sameA all i)).length : Int) ∧ Ext w W, ⟨_, 0, rfl, by omega, rfl, rfl, Below.refl _ _⟩, ?_⟩
  rintro _ _ W m ⟨k, rfl, hkc, rfl, rfl, eW⟩ _
  refine br_split (fun hlt => ?_) (fun hge => ?_)
  · have hkl : k < (cpF P).length := by omega
    obtain ⟨q, hq, d⟩ := (hcp.ext eW).int (k := k) (by rw [List.length_map]; exact hkl)
    rw [List.getElem_map] at d
    obtain ⟨y0, y1, y2⟩ := bl3 (B4.ext eW)
    refine hq _ ⟨_, d, dr_ok ⟨_, _, _, y0, _, _, _, y1, _, _, _, y2, ?_⟩⟩
    have hi : (cpF P)[k] < P.length := by
      have : (cpF P)[k] ∈ cpF P := List.getElem_mem hkl
      exact List.mem_range.1 (List.mem_filter.1 this).1
    have hle : (((cpF P).take k).filter fun i => !(P.getD i []).any (sameA all i)).length ≤ k := by
      refine Nat.le_trans (List.length_filter_le _ _) ?_
      rw [List.length_take]; omega
    refine choice_spec (hP.ext eW) (hA.ext eW) hn hk hPl (by omega) fun v w19 e19 hv => ⟨_, rfl, br_split (fun g => ?_) (fun g => ?_)⟩
    · refine ⟨cn - (k + 1), by omega, k + 1, by rw [wrap_nat (by omega)], by omega, rfl, ?_, ext_trans eW e19⟩
      rw [decide_eq_true g] at hv
      rw [wrap_nat (by omega), take_s hkl, List.filter_append, List.length_append, List.filter_cons, ← hv, if_pos rfl]; rfl
    · refine ⟨cn - (k + 1), by omega, k + 1, by rw [wrap_nat (by omega)], by omega, rfl, ?_, ext_trans eW e19⟩
      rw [decide_eq_false g] at hv
      rw [take_s hkl, List.filter_append, List.length_append, List.filter_cons, ← hv, if_neg (by simp)]; rfl
  · have := h W eW
    rw [cntC_eq] at this
    rw [List.take_of_length_le (by omega)]; exact this
end
end Go.Proofs
namespace Go.Proofs
open Go Go.Sh Go.RowKit
/- contamination.assignments: the recursion that fills in the unknown states -/
def FamA (st : List Int) (xs : List (List Int)) : Prop := ∃ vals, vals ≠ [] ∧ (∀ x, x ∈ vals ↔ x ∈ occ0 st) ∧ xs = asgL vals st
def AsgE (x : List Int) (vs : List Value) (W : World) : Prop := ∃ a c, vs = [.slice a x.length c] ∧ x.length ≤ c ∧ RowV vI (bk a) W a x.length x
theorem asgL_drop {vals st : List Int} {i : Nat} (h : i < st.length) : asgL vals (st.drop i) = if 0 ≤ st[i] then (asgL vals (st.drop (i + 1))).map (st[i] :: ·) else vals.flatMap fun x => (asgL vals (st.drop (i + 1))).map (x :: ·) := by
  rw [List.drop_eq_getElem_cons h, asgL]
theorem map_pre (p : List Int) (x : Int) (l : List (List Int)) : (l.map (x :: ·)).map (p ++ ·) = l.map ((p ++ [x]) ++ ·) := by
  rw [List.map_map]
  refine List.map_congr_left fun y _ => ?_
  simp
theorem take_pre {l p : List Int} {x : Int} {i : Nat} (h : l.take (i + 1) = p ++ [x]) (hp : p.length = i) : l.take i = p := by
  have := congrArg (List.take i) h
  rw [List.take_take, Nat.min_eq_left (by omega)] at this
  rw [this, ← hp]; simp
def fillV (bs by_ bo bf bv : Nat) : Value := .func (.func 79) ⟨[]⟩ ⟨[.pointer (some ⟨bs, 0, none⟩), .pointer (some ⟨by_, 0, none⟩), .pointer (some ⟨bo, 0, none⟩), .pointer (some ⟨bf, 0, none⟩), .pointer (some ⟨bv, 0, none⟩)]⟩
structure OutAt (st : List Int) (Bo : Nat) (oa : Option Addr) (n oc i : Nat) (p : List Int) (W : World) (o : List Int) : Prop where
  own : OwnL Sh.encI W Bo 3 oa n oc o
  tk : o.take i = p
  kn : ∀ j, i ≤ j → j < n → 0 ≤ gI st j → gI o j = gI st j
set_option maxRecDepth 20000 in
theorem fill_walk {w w0 : World} {st vals : List Int} {bs by_ bo bf bv Bo : Nat} {sa oa va : Option Addr} {n sc oc vn vc : Nat} {yf : Fn} {ya yb : Array Value} {S0 Rd Ss : Nat → Prop} {J : List (List Int) → (Nat → Prop) → World → Prop} {Jx : (Nat → Prop) → World → Prop} {Fam : List (List Int) → Prop}
    (hst : RowV vI Ss w0 sa n st) (hva : RowV vI (fun k => bk va k ∧ ¬ bk oa k) w0 va vn vals) (hn1 : n ≤ 1000000) (hv1 : vn ≤ 1000000) (hww : w.heap.size ≤ w0.heap.size)
    (Bs : Blk w0 bs [.slice sa n sc] 27) (By : Blk w0 by_ [.func yf ya yb] 90) (Bo' : Blk w0 bo [.slice oa n oc] 27) (Bf : Blk w0 bf [fillV bs by_ bo bf bv] 101) (Bv : Blk w0 bv [.slice va vn vc] 27)
    (hS0 : ∀ k, S0 k → k < w.heap.size ∧ ¬ Rd k) (hbs : Rd bs ∧ bs < w.heap.size) (hSs : ∀ k, Ss k → Rd k ∧ k < w.heap.size) (hby : w.heap.size ≤ by_) (hbo : w.heap.size ≤ bo) (hbf : w.heap.size ≤ bf) (hbv : w.heap.size ≤ bv) (hva0 : ∀ k, bk va k → w.heap.size ≤ k) (hoa0 : ∀ k, bk oa k → w.heap.size ≤ k ∧ k < w0.heap.size) (hnb : ∀ k, bk oa k → k ≠ by_ ∧ k ≠ bo ∧ k ≠ bf ∧ k ≠ bv ∧ k ≠ bs ∧ ¬ Ss k)
    (hJ : ∀ pre S W W', J pre S W → Chg (fun k => (w.heap.size ≤ k ∧ ¬ S k) ∨ False) W W' → J pre S W')
    (hbody : ∀ pre x vs S W, AsgE x vs W → (∃ xs, Fam xs ∧ pre ++ [x] <+: xs) → w.heap.size ≤ W.heap.size → (∀ k, S k → k < W.heap.size ∧ ¬ Rd k) → J pre S W → CallV Try.prog (.func yf ya yb) vs W fun e W' => Chg S W W' ∧
      ∃ S' : Nat → Prop, (∀ k, S' k → (S k ∨ W.heap.size ≤ k) ∧ k < W'.heap.size) ∧ ((e = .returned (.bool true) ∧ J (pre ++ [x]) S' W') ∨ (e = .returned (.bool false) ∧ Jx S' W')))
    (hRd : ∀ k, Rd k → k < w.heap.size) :
    ∀ (d i : Nat) (p : List Int) (pre : List (List Int)) (S : Nat → Prop) (W : World) (o : List Int) (R : Ending → World → Prop), i + d = n → p.length = i → OutAt st Bo oa n oc i p W o →
      Chg (fun k => S0 k ∨ w0.heap.size ≤ k ∨ bk oa k) w0 W → (∀ k, S k → (S0 k ∨ w0.heap.size ≤ k) ∧ k < W.heap.size) → (∃ xs, Fam xs ∧ pre ++ (asgL vals (st.drop i)).map (p ++ ·) <+: xs) → J pre S W →
      (∀ S' W' o', OutAt st Bo oa n oc i p W' o' → Chg (fun k => S0 k ∨ w0.heap.size ≤ k ∨ bk oa k) w0 W' → (∀ k, S' k → (S0 k ∨ w0.heap.size ≤ k) ∧ k < W'.heap.size) → J (pre ++ (asgL vals (st.drop i)).map (p ++ ·)) S' W' → R (.returned (.bool true)) W') →
      (∀ S' W', w.heap.size ≤ W'.heap.size → Jx S' W' → R (.returned (.bool false)) W') →
      Calls Try.prog F_contamination_assignments_1_1 ⟨[.int .i64 i, .pointer (some ⟨bs, 0, none⟩), .pointer (some ⟨by_, 0, none⟩), .pointer (some ⟨bo, 0, none⟩), .pointer (some ⟨bf, 0, none⟩), .pointer (some ⟨bv, 0, none⟩)]⟩ W R := by
  have hnl := hst.1
  have hvl := hva.1
  intro d
  induction d with
  | zero =>
    intro i p pre S W o R hid hp hO hc hS hpre hj hend hstop
    have nT : ∀ k, k < w0.heap.size → w.heap.size ≤ k → ¬ bk oa k → ¬ (S0 k ∨ w0.heap.size ≤ k ∨ bk oa k) := fun k h1 h2 h3 h => by
      rcases h with h | h | h
      · have := (hS0 k h).1; omega
      · omega
      · exact h3 h
    have BsW := hc.blk Bs fun h => by
      rcases h with h | h | h
      · exact (hS0 _ h).2 hbs.1
      · have := hbs.2; omega
      · exact (hnb _ h).2.2.2.2.1 rfl
    have ByW := hc.blk By (nT _ By.lt hby fun h => (hnb _ h).1 rfl)
    have BoW := hc.blk Bo' (nT _ Bo'.lt hbo fun h => (hnb _ h).2.1 rfl)
    apply c_contamination_assignments_1_1
    refine dr_ok ⟨_, _, _, by rw [BsW.cell]; rfl, ?_⟩
    refine br_split (fun _ => ?_) (fun hh => absurd (show (i : Int) = n by omega) hh)
    refine dr_ok ⟨_, _, _, by rw [ByW.cell]; rfl, dr_ok ⟨_, _, _, by rw [BoW.cell]; rfl, ?_⟩⟩
    have hop : o = p := by
      have h1 := OwnL.length hO.own
      rw [← hO.tk, List.take_of_length_le (by omega)]
    have hnil : st.drop i = [] := List.drop_of_length_le (by omega)
    rw [hnil] at hpre hend
    have e1 : (asgL vals []).map (p ++ ·) = [p] := by simp [asgL]
    rw [e1] at hpre hend
    have hE : AsgE p [.slice oa n oc] W := ⟨oa, oc, by rw [hp, show i = n by omega], by rw [hp, show i = n by omega]; exact ((ownV_enc (S := fun _ => True)).2 hO.own).cap, rowV_enc.2 (by rw [hp, show i = n by omega, ← hop]; exact OwnL.out hO.own)⟩
    refine CallV_mono (hbody pre p _ S W hE hpre (by have := hc.size; omega) (fun k hk => ⟨(hS k hk).2, fun hr => by
      rcases (hS k hk).1 with h | h
      · exact (hS0 k h).2 hr
      · have := hRd k hr; omega⟩) hj) ?_
    rintro e W' ⟨hcS, S', hS', hh⟩
    have zW := hc.size
    have zW' := hcS.size
    have sub : ∀ k, S k → S0 k ∨ w0.heap.size ≤ k := fun k hk => (hS k hk).1
    have nSo : ∀ k, bk oa k → ¬ S k := fun k hk h => by
      rcases sub k h with h | h
      · have := (hS0 k h).1; have := (hoa0 k hk).1; omega
      · have := (hoa0 k hk).2; omega
    rcases hh with ⟨rfl, hj'⟩ | ⟨rfl, hjx⟩
    · refine ⟨true, rfl, hend S' W' o ⟨?_, hO.tk, hO.kn⟩ ?_ ?_ hj'⟩
      · exact ownV_enc.1 (((ownV_enc (S := fun _ => False)).2 hO.own).chg hcS fun k hk _ => ⟨fun h => h, fun h => nSo k h hk⟩)
      · exact hc.trans (hcS.mono fun k _ hk => (sub k hk).imp id .inl)
      · intro k hk
        refine ⟨?_, (hS' k hk).2⟩
        rcases (hS' k hk).1 with h | h
        · exact sub k h
        · exact .inr (by omega)
    · exact ⟨false, rfl, hstop S' W' (by omega) hjx⟩
  | succ d ih =>
    intro i p pre S W o R hid hp hO hc hS hpre hj hend hstop
    have nT : ∀ k, k < w0.heap.size → w.heap.size ≤ k → ¬ bk oa k → ¬ (S0 k ∨ w0.heap.size ≤ k ∨ bk oa k) := fun k h1 h2 h3 h => by
      rcases h with h | h | h
      · have := (hS0 k h).1; omega
      · omega
      · exact h3 h
    have blks : ∀ {V : World}, Chg (fun k => S0 k ∨ w0.heap.size ≤ k ∨ bk oa k) w0 V → Blk V bs [.slice sa n sc] 27 ∧ Blk V bo [.slice oa n oc] 27 ∧ Blk V bf [fillV bs by_ bo bf bv] 101 ∧ Blk V bv [.slice va vn vc] 27 ∧ RowV vI Ss V sa n st ∧ RowV vI (fun k => bk va k ∧ ¬ bk oa k) V va vn vals := fun hcV => by
      refine ⟨hcV.blk Bs fun h => ?_, hcV.blk Bo' (nT _ Bo'.lt hbo fun h => (hnb _ h).2.1 rfl), hcV.blk Bf (nT _ Bf.lt hbf fun h => (hnb _ h).2.2.1 rfl), hcV.blk Bv (nT _ Bv.lt hbv fun h => (hnb _ h).2.2.2.1 rfl), hst.chg hcV fun k hk hl h => ?_, hva.chg hcV fun k hk hl h => ?_⟩
      · rcases h with h | h | h
        · exact (hS0 _ h).2 hbs.1
        · have := hbs.2; omega
        · exact (hnb _ h).2.2.2.2.1 rfl
      · rcases h with h | h | h
        · exact (hS0 _ h).2 (hSs k hk).1
        · omega
        · exact (hnb _ h).2.2.2.2.2 hk
      · exact nT k hl (hva0 k hk.1) hk.2 h
    obtain ⟨BsW, BoW, BfW, BvW, hstW, hvaW⟩ := blks hc
    apply c_contamination_assignments_1_1
    have hi : i < st.length := by omega
    refine dr_ok ⟨_, _, _, by rw [BsW.cell]; rfl, ?_⟩
    refine br_split (fun hh => by omega) (fun _ => ?_)
    obtain ⟨q, hq, dq⟩ := hstW.int hi
    refine dr_ok ⟨_, _, _, by rw [BsW.cell]; rfl, hq _ ⟨_, dq, ?_⟩⟩
    have hol := OwnL.length hO.own
    have gsi : gI st i = st[i] := gI_at hi
    refine br_split (fun g => ?_) (fun g => ?_)
    · rw [asgL_drop hi, if_pos g] at hpre hend
      rw [map_pre] at hpre hend
      have hoi : o[i] = st[i] := by
        have := hO.kn i (Nat.le_refl _) (by omega) (by rw [gsi]; exact g)
        rw [gI_at (by omega), gsi] at this; exact this
      refine dr_ok ⟨.func 79, ⟨[]⟩, ⟨[.pointer (some ⟨bs, 0, none⟩), .pointer (some ⟨by_, 0, none⟩), .pointer (some ⟨bo, 0, none⟩), .pointer (some ⟨bf, 0, none⟩), .pointer (some ⟨bv, 0, none⟩)]⟩, by rw [BfW.cell]; rfl, by kernel_rfl, ?_⟩
      rw [wrap_nat (by omega)]
      refine ih (i + 1) (p ++ [st[i]]) pre S W o _ (by omega) (by simp; omega) ⟨hO.own, ?_, fun j hj1 => hO.kn j (by omega)⟩ hc hS hpre hj (fun S' W' o' h1 h2 h3 h4 => ⟨true, rfl, ?_⟩) (fun S' W' h1 h2 => ⟨false, rfl, hstop S' W' h1 h2⟩)
      · rw [take_s (by omega), hO.tk, hoi]
      · refine hend S' W' o' ⟨h1.own, ?_, fun j hj1 hj2 hj3 => ?_⟩ h2 h3 h4
        · exact take_pre h1.tk hp
        · by_cases hji : j = i
          · subst hji
            have hl' := OwnL.length h1.own
            have := congrArg (fun l => l[j]?) h1.tk
            simp only [List.getElem?_take, if_pos (show j < j + 1 by omega)] at this
            rw [List.getElem?_append_right (by omega), hp, Nat.sub_self, List.getElem?_cons_zero, List.getElem?_eq_getElem (by omega)] at this
            rw [gI_at (by omega), gsi]; exact Option.some.inj this
          · exact h1.kn j (by omega) hj2 hj3
    · rw [asgL_drop hi, if_neg g] at hpre hend
      refine dr_ok ⟨_, _, _, by rw [BvW.cell]; rfl, ?_⟩
      refine ⟨fun t V m => ∃ (k : Nat) (S' : Nat → Prop) (o' : List Int), t = k ∧ k ≤ vn ∧ m = vn - k ∧ OutAt st Bo oa n oc i p V o' ∧ Chg (fun k => S0 k ∨ w0.heap.size ≤ k ∨ bk oa k) w0 V ∧ (∀ k, S' k → (S0 k ∨ w0.heap.size ≤ k) ∧ k < V.heap.size) ∧
          J (pre ++ ((vals.take k).flatMap fun x => (asgL vals (st.drop (i + 1))).map (x :: ·)).map (p ++ ·)) S' V,
        ⟨_, 0, S, o, rfl, by omega, rfl, hO, hc, hS, by simpa using hj⟩, ?_⟩
      rintro _ V m ⟨k, S', o', rfl, hk, rfl, hO', hcV, hSV, hjV⟩ _
      refine br_split (fun hlt => ?_) (fun hge => ?_)
      · have hkv : k < vals.length := by omega
        obtain ⟨BsV, BoV, BfV, BvV, hstV, hvaV⟩ := blks hcV
        obtain ⟨q2, hq2, d2⟩ := hvaV.int hkv
        refine hq2 _ ⟨_, d2, dr_ok ⟨_, _, _, by rw [BoV.cell]; rfl, ?_⟩⟩
        obtain ⟨gg, hgg, hi1, hst1⟩ := OwnL.store hO'.own (i := i) (by omega) vals[k]
        refine hi1 _ (hst1 _ fun V37 h37 c37 s37 => ?_)
        have hol' := OwnL.length hO'.own
        have zV := hcV.size
        have hc37 : Chg (fun k => S0 k ∨ w0.heap.size ≤ k ∨ bk oa k) w0 V37 := hcV.trans (c37.mono fun j _ hj => .inr (.inr hj))
        have nSo : ∀ j, bk oa j → ¬ S' j := fun j hj h => by
          rcases (hSV j h).1 with h | h
          · have := (hS0 j h).1; have := (hoa0 j hj).1; omega
          · have := (hoa0 j hj).2; omega
        have hj37 := hJ _ _ _ _ hjV (c37.mono fun j _ hj => .inl ⟨(hoa0 j hj).1, nSo j hj⟩)
        obtain ⟨Bs37, Bo37, Bf37, Bv37, hst37, hva37⟩ := blks hc37
        have htk : (vals.take (k + 1)).flatMap (fun x => (asgL vals (st.drop (i + 1))).map (x :: ·)) = (vals.take k).flatMap (fun x => (asgL vals (st.drop (i + 1))).map (x :: ·)) ++ (asgL vals (st.drop (i + 1))).map (vals[k] :: ·) := by
          rw [take_s hkv, List.flatMap_append]; simp
        refine dr_ok ⟨.func 79, ⟨[]⟩, ⟨[.pointer (some ⟨bs, 0, none⟩), .pointer (some ⟨by_, 0, none⟩), .pointer (some ⟨bo, 0, none⟩), .pointer (some ⟨bf, 0, none⟩), .pointer (some ⟨bv, 0, none⟩)]⟩, by rw [Bf37.cell]; rfl, by kernel_rfl, ?_⟩
        rw [wrap_nat (by omega)]
        refine ih (i + 1) (p ++ [vals[k]]) _ S' V37 (o'.set i vals[k]) _ (by omega) (by simp; omega) ⟨h37, ?_, fun j hj1 hj2 hj3 => ?_⟩ hc37 (fun j hj => ⟨(hSV j hj).1, by have := (hSV j hj).2; omega⟩) ?_ hj37 (fun S'' W' o'' h1 h2 h3 h4 => ⟨true, rfl, ?_⟩) (fun S'' W' h1 h2 => ⟨false, rfl, ?_⟩)
        · rw [take_s (by simp; omega), List.take_set_of_le (Nat.le_refl _), hO'.tk]; simp
        · rw [gI_set (by omega), if_neg (by omega)]
          exact hO'.kn j (by omega) hj2 hj3
        · obtain ⟨xs, hF, hx⟩ := hpre
          refine ⟨xs, hF, List.IsPrefix.trans ?_ hx⟩
          rw [List.append_assoc, ← map_pre, ← List.map_append, ← htk]
          refine List.prefix_append_right_inj _ |>.2 ?_
          refine List.IsPrefix.map _ ?_
          have e2 : vals.flatMap (fun x => (asgL vals (st.drop (i + 1))).map (x :: ·)) = (vals.take (k + 1)).flatMap (fun x => (asgL vals (st.drop (i + 1))).map (x :: ·)) ++ (vals.drop (k + 1)).flatMap (fun x => (asgL vals (st.drop (i + 1))).map (x :: ·)) := by
            rw [← List.flatMap_append, List.take_append_drop]
          rw [e2]
          exact List.prefix_append _ _
        · refine ⟨vn - (k + 1), by omega, k + 1, S'', o'', by rw [wrap_nat (by omega)], by omega, rfl, ⟨h1.own, ?_, fun j hj1 hj2 hj3 => ?_⟩, h2, h3, ?_⟩
          · exact take_pre h1.tk hp
          · by_cases hji : j = i
            · subst hji; rw [gsi] at hj3; exact absurd hj3 g
            · exact h1.kn j (by omega) hj2 hj3
          · rw [htk, List.map_append, ← List.append_assoc, map_pre]; exact h4
        · exact hstop S'' W' h1 h2
      · rw [List.take_of_length_le (by omega)] at hjV
        exact hend S' V o' hO' hcV hSV hjV
end Go.Proofs
namespace Go.Proofs
open Go Go.Sh Go.RowKit
/- contamination.assignments as an iterator -/
theorem Blk.ty {w : World} {b : Nat} {cs cs' : List Value} {T T' : TypeId} (h : Blk w b cs T) (h' : Blk w b cs' T') : T = T' := by
  unfold Blk at h h'
  rw [h] at h'
  simp only [Option.some.injEq, Obj.cells.injEq] at h'
  exact h'.2.1
theorem own_ty {w : World} {B : Nat} {e T : TypeId} {size : Nat} {a : Option Addr} {n c : Nat} {xs cs : List Value} (h : Owns w B e size a n c xs) {k : Nat} (hk : bk a k) (hb : Blk w k cs T) : T = e := by
  rcases h.2 with h1 | ⟨g, cap, cur, e1, e2, e3, _⟩
  · obtain ⟨rfl, _⟩ : a = none ∧ n = 0 ∧ c = 0 := by simpa using h1.1
    simp [bk] at hk
  · obtain ⟨rfl, _⟩ : a = some ⟨g, 0, none⟩ ∧ c = cap := by simpa using e1
    have hk : g = k := by simpa [bk] using hk
    subst hk
    exact Blk.ty hb (show Blk w g cur.toList e from e3)
section
variable {w : World}
set_option maxRecDepth 20000 in
theorem assignments_iterC {st : List Int} {bs : Nat} {sa : Option Addr} {n sc : Nat} {Ss : Nat → Prop} (hst : RowV vI Ss w sa n st) (hn : n ≤ 12) (hn0 : 0 < n) (Bs : Blk w bs [.slice sa n sc] 27) :
    IterC Try.prog F_contamination_assignments_1 [.pointer (some ⟨bs, 0, none⟩)] (FamA st) AsgE (fun k => k = bs ∨ (Ss k ∧ k < w.heap.size)) (fun _ => False) w := by
  intro yf ya yb S0 J Jx R hS hJ hJx hbody h0 hend hstop
  have hnl := hst.1
  apply c_contamination_assignments_1
  refine al_intro fun b3 w4 hb3 B3 e4 s4 => ?_
  intro K5 hK5
  -- the two variables are laid
  have k5 : ∀ (bv bo : Nat) (W : World) (va : Option Addr) (vn vc : Nat) (vals : List Int) (oa : Option Addr) (oc B Bc : Nat), Blk W bv [.slice va vn vc] 27 → Blk W bo [.slice oa n oc] 27 → Ext w W → Blk W b3 [.func yf ya yb] 90 →
      OwnL Sh.encI W B 3 va vn vc vals → vn ≤ max 1 n → (∀ x, x ∈ vals ↔ x ∈ occ0 st) → OwnV vI (fun _ => False) 3 Bc W oa n oc st → w.heap.size ≤ B → w.heap.size ≤ Bc → (∀ k, bk va k → k < Bc) → w.heap.size ≤ bv → w.heap.size ≤ bo → K5 (some ⟨bv, 0, none⟩) (some ⟨bo, 0, none⟩) W := by
    intro bv bo W va vn vc vals oa oc B Bc Bv Bo e B3' vO hle hm vC gB gC hlt gv go
    refine hK5 _ _ _ fun _ => ?_
    refine al_intro fun b9 w10 hb9 B90 e10 s10 => ?_
    refine stL_one B90 rfl fun w11 B9 c11 s11' => ?_
    have e11 : Ext W w11 := ((Chg.of_ext (S := fun k => W.heap.size ≤ k) e10).trans (c11.mono fun k _ hk => by omega)).ext fun k hk => by omega
    refine ⟨.func 79, ⟨[]⟩, ⟨[.pointer (some ⟨bs, 0, none⟩), .pointer (some ⟨b3, 0, none⟩), .pointer (some ⟨bo, 0, none⟩), .pointer (some ⟨b9, 0, none⟩), .pointer (some ⟨bv, 0, none⟩)]⟩, by rw [B9.cell]; rfl, by kernel_rfl, ?_⟩
    have eW := ext_trans e e11
    have vC' := vC.ext e11
    have vO' : OwnL Sh.encI w11 B 3 va vn vc vals := ownV_enc.1 (((ownV_enc (S := fun _ => True)).2 vO).ext e11)
    have vCo : OwnL Sh.encI w11 Bc 3 oa n oc st := ownV_enc.1 vC'
    have Bv' := Bv.ext e11
    have Bo' := Bo.ext e11
    have B3'' := B3'.ext e11
    have Bs' := Bs.ext eW
    have z := e.size
    have z4 := e4.size
    have hoa : ∀ k, bk oa k → Bc ≤ k := fun k hk => (vC'.bk hk).1
    have hvl := OwnL.length vO'
    have hne : vals ≠ [] := fun hh => by
      have := occ0_ne st
      cases ho : occ0 st with
      | nil => exact this ho
      | cons x r =>
        have : x ∈ vals := (hm x).2 (by rw [ho]; exact List.mem_cons_self ..)
        rw [hh] at this; cases this
    refine fill_walk (w := w) (w0 := w11) (st := st) (vals := vals) (Bo := Bc) (S0 := S0) (Rd := fun k => k = bs ∨ (Ss k ∧ k < w.heap.size)) (Ss := fun k => Ss k ∧ k < w.heap.size) (J := J) (Jx := Jx) (Fam := FamA st)
      ((hst.imp (S' := fun k => Ss k ∧ k < w.heap.size) fun k hk hl => ⟨hk, hl⟩).ext eW) (rowV_enc.2 ((OwnL.out vO').imp fun k hk _ => ⟨hk, fun hh => by have := hlt k hk; have := hoa k hh; omega⟩)) (by omega) (by omega) eW.size
      Bs' B3'' Bo' B9 Bv' hS ⟨.inl rfl, Bs.lt⟩ (fun k hk => ⟨.inr hk, hk.2⟩) (by omega) go (by omega) gv (fun k hk => by have := (Owns.bk vO' hk).1; omega) (fun k hk => ⟨by have := hoa k hk; omega, (vC'.bk hk).2⟩)
      (fun k hk => ?_) hJ hbody (fun k hk => hk.elim (fun h => by rw [h]; exact Bs.lt) (fun h => h.2)) n 0 [] [] S0 w11 st _ (by omega) rfl ⟨vCo, rfl, fun _ _ _ _ => rfl⟩ (Chg.refl _ _)
      (fun k hk => ⟨.inl hk, by have := (hS k hk).1; have := eW.size; omega⟩) ⟨asgL vals st, ⟨vals, hne, hm, rfl⟩, by simp⟩ (hJ _ _ _ _ h0 (.of_ext eW)) (fun S' W' o' h1 h2 h3 h4 => ⟨true, rfl, ?_⟩) (fun S' W' h1 h2 => ⟨false, rfl, hstop S' W' h1 h2⟩)
    · refine ⟨fun hh => ?_, fun hh => ?_, fun hh => ?_, fun hh => ?_, fun hh => ?_, fun hh => ?_⟩
      · exact absurd (own_ty vCo hk (hh ▸ B3'')) (by decide)
      · exact absurd (own_ty vCo hk (hh ▸ Bo')) (by decide)
      · exact absurd (own_ty vCo hk (hh ▸ B9)) (by decide)
      · exact absurd (own_ty vCo hk (hh ▸ Bv')) (by decide)
      · have := Bs.lt; have := hoa k hk; omega
      · have := hoa k hk; omega
    · have e1 : ((asgL vals (st.drop 0)).map (([] : List Int) ++ ·)) = asgL vals st := by simp
      rw [List.nil_append, e1] at h4
      exact hend _ S' W' ⟨vals, hne, hm, rfl⟩ (by have := h2.size; have := eW.size; omega) h4
  have fin : ∀ {bv bo : Nat} {W : World} {va : Option Addr} {vn vc : Nat} {vals : List Int} {oa : Option Addr} {oc B Bc : Nat}, Blk W bv [.slice none 0 0] 27 → Blk W bo [.slice none 0 0] 27 → bv ≠ bo → Ext w W → Blk W b3 [.func yf ya yb] 90 →
      OwnL Sh.encI W B 3 va vn vc vals → vn ≤ max 1 n → (∀ x, x ∈ vals ↔ x ∈ occ0 st) → OwnV vI (fun _ => False) 3 Bc W oa n oc st → w.heap.size ≤ B → w.heap.size ≤ Bc → (∀ k, bk va k → k < Bc) → w.heap.size ≤ bv → w.heap.size ≤ bo →
      stL W ⟨bv, 0, none⟩ 0 [.slice va vn vc] fun w1 => (stL w1 ⟨bo, 0, none⟩ 0 [.slice oa n oc] fun w2 => K5 (some ⟨bv, 0, none⟩) (some ⟨bo, 0, none⟩) w2) ∧ True := by
    intro bv bo W va vn vc vals oa oc B Bc Bv Bo hne e B3' vO hle hm vC gB gC hlt gv go
    have vCo : OwnL Sh.encI W Bc 3 oa n oc st := ownV_enc.1 vC
    have nv : ∀ {k}, bk va k → k ≠ bv ∧ k ≠ bo := fun hk => ⟨fun hh => absurd (own_ty vO hk (hh ▸ Bv)) (by decide), fun hh => absurd (own_ty vO hk (hh ▸ Bo)) (by decide)⟩
    have no : ∀ {k}, bk oa k → k ≠ bv ∧ k ≠ bo := fun hk => ⟨fun hh => absurd (own_ty vCo hk (hh ▸ Bv)) (by decide), fun hh => absurd (own_ty vCo hk (hh ▸ Bo)) (by decide)⟩
    have n3 : b3 ≠ bv ∧ b3 ≠ bo := ⟨fun hh => absurd (Blk.ty B3' (hh ▸ Bv)) (by decide), fun hh => absurd (Blk.ty B3' (hh ▸ Bo)) (by decide)⟩
    refine stL_one Bv rfl fun w1 Bv1 c1 s1 => ⟨?_, trivial⟩
    refine stL_one (c1.blk Bo fun hh => hne hh.symm) rfl fun w2 Bo2 c2 s2 => ?_
    have c12 : Chg (fun k => k = bv ∨ k = bo) W w2 := (c1.mono fun k _ h => .inl h).trans (c2.mono fun k _ h => .inr h)
    refine k5 bv bo w2 va vn vc vals oa oc B Bc (c2.blk Bv1 hne) Bo2 ?_ (c12.blk B3' fun hh => hh.elim n3.1 n3.2) ?_ hle hm ?_ gB gC hlt gv go
    · exact ((Chg.of_ext (S := fun k => w.heap.size ≤ k) e).trans (c12.mono fun k _ hk => by rcases hk with rfl | rfl <;> assumption)).ext fun k hk => by omega
    · exact ownV_enc.1 (((ownV_enc (S := fun _ => False)).2 vO).chg c12 fun k hk _ => ⟨fun h => h, fun hb => hk.elim (nv hb).1 (nv hb).2⟩)
    · exact vC.chg c12 fun k hk _ => ⟨fun h => h, fun hb => hk.elim (no hb).1 (no hb).2⟩
  have e := ext_trans e4 (ext_drew w4)
  have B3 := B3.ext (ext_drew w4)
  unfold drw
  generalize w4.drew = W0 at *
  refine dr_ok ⟨_, _, _, by rw [(Bs.ext e).cell]; rfl, ?_⟩
  repeat' first
    | exact True.intro
    | with_reducible refine And.intro ?_ ?_
    | refine dr_ok ⟨_, _, _, by rw [(Bs.ext e).cell]; rfl, ?_⟩
    | (have q := B1; refine al_intro fun b2 W hb2 B2 e1 s2 => ?_
       have h12 : b1 < b2 := by have := q.lt; omega
       have g2 : w.heap.size ≤ b2 := by have := e.size; omega
       have e := ext_trans e e1
       have B1 := B1.ext e1
       have B3 := B3.ext e1
       try have vO := Owns.ext vO e1
       try have vC := OwnV.ext vC e1)
    | (refine al_intro fun b1 W hb1 B1 e1 s1 => ?_
       have g1 : w.heap.size ≤ b1 := by have := e.size; omega
       have e := ext_trans e e1
       have B3 := B3.ext e1
       try have vO := Owns.ext vO e1
       try have vC := OwnV.ext vC e1)
    | (have gB := e.size
       refine occurring_spec (hst.ext e) hn fun va vn vc vals W vO hle hm e1 => ⟨_, _, _, rfl, ?_⟩
       have e := ext_trans e e1
       have B3 := B3.ext e1
       try have B1 := B1.ext e1
       try have B2 := B2.ext e1)
    | (have gC := e.size
       have hlt := fun k hk => (Owns.bk vO (k := k) hk).2
       refine CloneI_spec (hst.ext e) (by omega) fun oa oc W vC e1 => ⟨_, _, _, rfl, ?_⟩
       have e := ext_trans e e1
       have B3 := B3.ext e1
       have vO := Owns.ext vO e1
       try have B1 := B1.ext e1
       try have B2 := B2.ext e1)
    | exact fin B1 B2 (by omega) e B3 vO hle hm vC gB gC hlt g1 g2
    | exact fin B2 B1 (by omega) e B3 vO hle hm vC gB gC hlt g2 g1
end
end Go.Proofs
namespace Go.Proofs
open Go Go.Sh Go.RowKit
/- the score does not hang on the order of the states -/
theorem leastF_mem : ∀ {l : List Nat} {o : Option Nat} {r : Nat}, leastF l o = some r → r ∈ l ∨ o = some r
  | [], o, r, h => .inr h
  | n :: l, none, r, h => by
    rw [leastF] at h
    split at h
    · rename_i h0; left; rw [← Option.some.inj h, h0]; exact List.mem_cons_self ..
    · rcases leastF_mem h with h | h
      · exact .inl (List.mem_cons_of_mem _ h)
      · left; rw [Option.some.inj h]; exact List.mem_cons_self ..
  | n :: l, some m, r, h => by
    rw [leastF] at h
    have hm : min n m = n ∨ min n m = m := by omega
    split at h
    · rename_i h0
      rw [h0] at hm
      rw [← Option.some.inj h]
      rcases hm with hm | hm
      · left; rw [hm]; exact List.mem_cons_self ..
      · right; rw [← hm]
    · rcases leastF_mem h with h | h
      · exact .inl (List.mem_cons_of_mem _ h)
      · have := Option.some.inj h
        rcases hm with hm | hm
        · left; rw [← this, hm]; exact List.mem_cons_self ..
        · right; rw [← this, hm]
theorem scoreA_at {P : List (List Int)} {vals st : List Int} (hv : vals ≠ []) : ∃ all, isA vals st all ∧ cntC P all = scoreA P vals st := by
  obtain ⟨r, hr⟩ := leastF_some (l := (asgL vals st).map (cntC P)) (o := none) (.inl (by simp [asgL_ne hv st]))
  rcases leastF_mem hr with h | h
  · obtain ⟨all, ha, e⟩ := List.mem_map.1 h
    refine ⟨all, (mem_asgL vals).1 ha, ?_⟩
    unfold scoreA; rw [hr, e]; rfl
  · cases h
theorem scoreA_eq {P : List (List Int)} {v v' st : List Int} (hm : ∀ x, x ∈ v ↔ x ∈ v') (hv : v ≠ []) : scoreA P v st = scoreA P v' st := by
  have hv' : v' ≠ [] := fun h => by
    obtain ⟨x, hx⟩ := List.exists_mem_of_ne_nil _ hv
    have := (hm x).1 hx
    rw [h] at this; cases this
  obtain ⟨a, ha, ea⟩ := scoreA_at (P := P) (st := st) hv
  obtain ⟨b, hb, eb⟩ := scoreA_at (P := P) (st := st) hv'
  have h1 := score_le (P := P) hv (isA_mono (fun x => (hm x).2) hb)
  have h2 := score_le (P := P) hv' (isA_mono (fun x => (hm x).1) ha)
  omega
def stepL (o : Option Nat) (n : Nat) : Option Nat := match o with
  | none => some n
  | some m => some (min n m)
def lstI (o : Option Nat) : Int := match o with
  | none => -1
  | some m => m
theorem leastF_step {o : Option Nat} {n : Nat} {l : List Nat} : leastF (n :: l) o = if stepL o n = some 0 then some 0 else leastF l (stepL o n) := by
  cases o with
  | none => rw [leastF]; simp [stepL]
  | some m => rw [leastF]; simp [stepL]
theorem asg_len {vals st x : List Int} {xs pre : List (List Int)} (h1 : xs = asgL vals st) (h2 : pre ++ [x] <+: xs) : x.length = st.length ∧ isA vals st x := by
  have h : x ∈ asgL vals st := h1 ▸ mem_of_prefix h2
  have h := (mem_asgL vals).1 h
  exact ⟨isA_len h, h⟩
theorem rowI_loop {W W' : World} {a : Option Addr} {n l : Nat} {x : List Int} (h : RowV vI (bk a) W a n x) (hl : ∃ r, W.heap[l]? = some (.loop r)) (hc : Chg (fun k => k = l) W W') : RowV vI (bk a) W' a n x := by
  obtain ⟨r, hl⟩ := hl
  cases x with
  | nil => obtain rfl : n = 0 := h.1; exact RowV.nil _
  | cons y r' =>
    refine h.chg hc fun k hk hkl e => ?_
    subst e
    obtain ⟨q, hq, d⟩ := h.int (k := 0) (by simp)
    obtain ⟨b, o, us, hq2, hb, _, _, hu⟩ := h.get (i := 0) (x := y) rfl
    obtain ⟨g, hg⟩ : ∃ g, a = some g := by cases a with | none => simp [bk] at hk | some g => exact ⟨g, rfl⟩
    subst hg
    have e1 : g.block = k := by simpa [bk] using hk
    have e2 : g.block = b := by simpa [bk] using hb
    have hlen := vI.len (by assumption : vI.C (bk (some g)) W y us)
    match us, hlen with
    | [u], _ =>
      have := hu 0 u rfl
      rw [← e2, e1] at this
      simp [World.cell?, hl] at this
section
variable {R : Ending → World → Prop} {w : World} {S S2 : Nat → Prop}
set_option maxRecDepth 20000 in
theorem best_spec {na ea pa : Option Addr} {nn nc en ec pn pc : Nat} {N : List Nm} {P : List (List Int)} {st : List Int} {a : Option Addr} {n c : Nat} (hN : RowV vS S w na nn N) (hcN : nn ≤ nc) (hP : RowV vIs S w pa pn P) (hb : ∀ s ∈ N, s.length ≤ 4611686018427387904) (hPl : ∀ l ∈ P, l.length ≤ 4611686018427387904)
    (hR : RowV vI S2 w a n st) (hs : n ≤ 4611686018427387904) (hg : conOk N en P st = true → n ≤ 6)
    (h : ∀ (e : Int) (oa : Option Addr) (on oc : Nat) (v : Int) w', Ext w w' → decide (e = 0) = conOk N en P st → (e = 0 → v = (scoreA P (occ0 st) st : Int)) → R (.returned (.tuple ⟨[.slice oa on oc, .int .i64 v, .int .i64 e]⟩)) w') :
    Calls Try.prog F_contamination_best ⟨[.agg ⟨[.slice na nn nc, .slice ea en ec, .slice pa pn pc]⟩, .slice a n c]⟩ w R := by
  apply c_contamination_best
  refine al_intro fun b5 w6 hb5 B5 e6 s6 => ?_
  obtain ⟨x0, x1, x2⟩ := bl3 B5
  refine ⟨_, _, _, x0, _, _, _, x1, _, _, _, x2, ?_⟩
  refine conCheck_spec (S := fun k => S k ∨ S2 k) ((hN.ext e6).imp fun k hk _ => .inl hk) hcN ((hP.ext e6).imp fun k hk _ => .inl hk) hb hPl ((hR.ext e6).imp fun k hk _ => .inr hk) hs fun e w11 e11 he => ⟨_, rfl, ?_⟩
  have e06 := ext_trans e6 e11
  refine br_split (fun g => h _ _ _ _ _ _ e06 he (fun hh => absurd hh g)) (fun g => ?_)
  have g : e = 0 := Decidable.not_not.1 g
  subst g
  rw [decide_eq_true rfl] at he
  have hn6 := hg he.symm
  have hco : stemOk N en P = true ∧ st.length = P.length := by
    have := he
    unfold conOk at this
    have := this.symm
    rw [Bool.and_eq_true, Bool.and_eq_true, decide_eq_true_iff] at this
    exact ⟨this.1, this.2.1⟩
  obtain ⟨hpar, hN0, hN64, hPN⟩ := stem_par hco.1
  have hrl := hR.1
  have hpl := hP.1
  have hnl := hN.1
  refine tooMany_spec (hR.ext e06) hn6 fun w14 e14 => ⟨_, rfl, ?_⟩
  have e014 := ext_trans e06 e14
  show br false _ _
  refine ⟨_, _, _, (bl3 (B5.ext (ext_trans e11 e14))).1, _, _, _, (bl3 (B5.ext (ext_trans e11 e14))).2.1, _, _, _, (bl3 (B5.ext (ext_trans e11 e14))).2.2, ?_⟩
  refine counter_spec (hP.ext e014) (by omega) fun bq b4 w20 e20 hC => ⟨_, _, _, rfl, ?_⟩
  have e020 := ext_trans e014 e20
  refine al_stL rfl (by intro v hv; simp only [List.mem_singleton] at hv; subst hv; rfl) fun b22 w24 hb22 B22 e24 s24 => ?_
  refine al_intro fun b25 w26 hb25 B25 e26 s26 => ?_
  refine al_stL rfl (by intro v hv; simp only [List.mem_singleton] at hv; subst hv; rfl) fun b27 w29 hb27 B27 e29 s29 => ?_
  have e2029 := ext_trans (ext_trans e24 e26) e29
  have e029 := ext_trans e020 e2029
  -- the iterator
  apply c_contamination_assignments
  refine al_intro fun bs w31 hbs Bs e31 s31 => ⟨_, _, _, rfl, fun base => ?_⟩
  have e031 := ext_trans e029 e31
  have e2031 := ext_trans e2029 e31
  have B22' := (B22.ext (ext_trans e26 e29)).ext e31
  have B25' := (B25.ext e29).ext e31
  have B27' := B27.ext e31
  have z20 := e020.size
  have z24 := e24.size
  have z26 := e26.size
  have z29 := e29.size
  have l22 := B22.lt
  have l25 := B25.lt
  have l27 := B27.lt
  rw [cd_contamination_best_1]
  have fin : ∀ (D : Nat) (W : World) (oa : Option Addr) (on oc : Nat) (v : Int), w31.heap.size ≤ D → D < W.heap.size → W.heap[D]? = some (.deferred (some [])) → Blk W b25 [.slice oa on oc] 27 → Blk W b27 [.int .i64 v] 3 → Ext w20 W → max v 0 = (scoreA P (occ0 st) st : Int) →
      drw W fun w40 => ∃ (x41 : Option Addr) (x41n : Nat) (x41c : Nat), World.cell? w40 ⟨b25, 0, none⟩ = some (.slice x41 x41n x41c) ∧ (∃ (x42 : Int), World.cell? w40 ⟨b27, 0, none⟩ = some (.int .i64 x42) ∧ (retD [{ target := .collected D, args := #[] }] w40 fun w43 =>
        R (.returned (.tuple ⟨[.slice x41 x41n x41c, .int .i64 ((max x42 0)), .int .i64 0]⟩)) w43)) := by
    intro D W oa on oc v hD1 hD2 hD3 h25 h27 hx hv
    unfold drw
    have ed := ext_drew W
    have hD4 : W.drew.heap[D]? = some (.deferred (some [])) := hD3
    generalize W.drew = V at *
    refine ⟨_, _, _, (h25.ext ed).cell 0, _, (h27.ext ed).cell 0, retD_one hD4 ?_⟩
    exact h 0 _ _ _ _ _ (ext_put (ext_trans e020 (ext_trans hx ed)) (by omega) _) he (fun _ => hv)
  refine RFw_lawC anA_contamination_best_1 anB_contamination_best_1 (gf := F_contamination_assignments_1) rfl (by kernel_rfl) (Fam := FamA st) (E := AsgE) (Rd := fun k => k = bs ∨ (S2 k ∧ k < w.heap.size)) (Wr := fun _ => False) (fun k hk => hk.elim)
    (fun w1 hw1 => ?_) (fun y vs W hE => by obtain ⟨a', c', rfl, _⟩ := hE; rfl) (by decide) (fun k hk => by have := e031.size; have := Bs.lt; rcases hk with rfl | hk <;> omega)
    (fun k => k = b25 ∨ k = b27) (fun k hk => ⟨by have := e31.size; rcases hk with rfl | rfl <;> omega, fun hh => by have := e29.size; rcases hh with rfl | hh <;> rcases hk with rfl | rfl <;> omega⟩)
    (fun pre S1 W => (∀ k, S1 k ↔ k = b25 ∨ k = b27) ∧ Ext w20 W ∧ Blk W b22 [.func (.func 77) ⟨[]⟩ ⟨[.pointer (some ⟨bq, 0, none⟩), .pointer (some ⟨b4, 0, none⟩)]⟩] 94 ∧ (∃ oa on oc, Blk W b25 [.slice oa on oc] 27) ∧ ∃ o, o ≠ some 0 ∧ (∀ rest, leastF (pre.map (cntC P) ++ rest) none = leastF rest o) ∧ Blk W b27 [.int .i64 (lstI o)] 3)
    (fun _ _ => False) (fun S1 W => (∀ k, S1 k ↔ k = b25 ∨ k = b27) ∧ Ext w20 W ∧ (∃ oa on oc, Blk W b25 [.slice oa on oc] 27) ∧ Blk W b27 [.int .i64 0] 3 ∧ scoreA P (occ0 st) st = 0)
    ?_ (fun _ _ _ h => h.elim) ?_ ⟨fun k => Iff.rfl, e2031, B22', ⟨_, _, _, B25'⟩, none, by simp, fun rest => rfl, B27'⟩ ?_ ?_ (fun _ _ _ _ _ _ _ h => h.elim) ?_
  · have eq : (fun k => k = bs ∨ ((S2 k ∧ k < w.heap.size) ∧ k < w1.heap.size)) = (fun k => k = bs ∨ (S2 k ∧ k < w.heap.size)) := by
      funext k
      have := e031.size
      have := hw1.size
      refine propext ⟨fun hh => hh.imp id (fun q => q.1), fun hh => hh.imp id (fun q => ⟨q, by omega⟩)⟩
    have := assignments_iterC (w := w1) (st := st) (bs := bs) (Ss := fun k => S2 k ∧ k < w.heap.size) (((hR.imp fun k hk hl => ⟨hk, hl⟩).ext e031).ext hw1) (by omega) (by omega) (Bs.ext hw1)
    rw [eq] at this; exact this
  · rintro pre S1 W W' ⟨i1, i2, i3, ⟨oa, on, oc, i4⟩, o, i5, i6, i7⟩ hc
    have z31 := e31.size
    have nb : ∀ {k}, k < w31.heap.size → ¬ ((w31.heap.size ≤ k ∧ ¬ S1 k) ∨ False) := fun hk hh => hh.elim (fun q => by omega) id
    exact ⟨i1, ext_chgS i2 hc fun k hk => hk.elim (fun q => by omega) False.elim, hc.blk i3 (nb (by omega)), ⟨_, _, _, hc.blk i4 (nb (by omega))⟩, o, i5, i6, hc.blk i7 (nb (by omega))⟩
  · rintro S1 W W' ⟨i1, i2, ⟨oa, on, oc, i4⟩, i7, i8⟩ hc
    have z31 := e31.size
    have nb : ∀ {k}, k < w31.heap.size → ¬ ((w31.heap.size ≤ k ∧ ¬ S1 k) ∨ False) := fun hk hh => hh.elim (fun q => by omega) id
    exact ⟨i1, ext_chgS i2 hc fun k hk => hk.elim (fun q => by omega) False.elim, ⟨_, _, _, hc.blk i4 (nb (by omega))⟩, hc.blk i7 (nb (by omega)), i8⟩
  · rintro pre x vs S1 W l ⟨xa, xc, rfl, hxc, hx⟩ ⟨r, hloop⟩ ⟨xs, ⟨vals, hv1, hv2, hv3⟩, hpre⟩ hl1 hl2 hl3 hS1 ⟨i1, i2, i3, ⟨oa, on, oc, i4⟩, o, i5, i6, i7⟩
    obtain ⟨hxl, hxa⟩ := asg_len hv3 hpre
    have z31 := e31.size
    refine Eq.mpr (er_contamination_best_1 base _ _ _ _ _ _ _ _ _ _ _ _ _ _ _ _ _ _ _) ?_
    refine ⟨Below.refl _ _, fun w53 hU => dr_ok ?_⟩
    have hUc : Chg (fun k => k = l) W w53 := ⟨hU.os, hU.tape, hU.output, by rw [hU.size]; exact Nat.le_refl _, fun k _ hk => hU.block k hk⟩
    have zU := hU.size
    have j2 : Ext w20 w53 := ext_chgS i2 hUc fun k hk => by omega
    have j3 := hUc.blk i3 (by omega)
    have j4 := hUc.blk i4 (by omega)
    have j7 := hUc.blk i7 (by omega)
    have jx := rowI_loop hx ⟨r, hloop⟩ hUc
    have e053 := ext_trans e020 j2
    refine ⟨_, _, _, j3.cell 0, ⟨by kernel_rfl, ?_⟩⟩
    refine counter1_spec (S := fun k => S k ∨ bk xa k) (hC.keep j2) ((hP.ext e053).imp fun k hk _ => .inl hk) (jx.imp fun k hk _ => .inr hk) (by omega) (by omega) hpar hPl fun w57 e57 => ⟨_, rfl, ?_⟩
    have k4 := j4.ext e57
    have k7 := j7.ext e57
    have kx := jx.ext e57
    have k2 := ext_trans j2 e57
    have zW57 := e57.size
    -- what follows once the least so far is known
    have done : ∀ (W' : World) (oa' : Option Addr) (on' oc' : Nat), Blk W' b25 [.slice oa' on' oc'] 27 → Blk W' b27 [.int .i64 (lstI (stepL o (cntC P x)))] 3 → Chg (fun k => k = b25 ∨ k = b27) w57 W' →
        ∃ (x70 : Int), World.cell? W' ⟨b27, 0, none⟩ = some (.int .i64 x70) ∧ (br (decide ((x70 : Int) = 0)) (Chg (fun k => S1 k ∨ W.heap.size ≤ k) w53 W' ∧ ∃ S' : Nat → Prop, (∀ k, S' k → (S1 k ∨ W.heap.size ≤ k) ∧ k < W'.heap.size) ∧
            (∀ k, S' k ↔ k = b25 ∨ k = b27) ∧ Ext w20 W' ∧ (∃ oa on oc, Blk W' b25 [.slice oa on oc] 27) ∧ Blk W' b27 [.int .i64 0] 3 ∧ scoreA P (occ0 st) st = 0)
          (Chg (fun k => S1 k ∨ W.heap.size ≤ k) w53 W' ∧ ∃ S' : Nat → Prop, (∀ k, S' k → (S1 k ∨ W.heap.size ≤ k) ∧ k < W'.heap.size) ∧
            (∀ k, S' k ↔ k = b25 ∨ k = b27) ∧ Ext w20 W' ∧ Blk W' b22 [.func (.func 77) ⟨[]⟩ ⟨[.pointer (some ⟨bq, 0, none⟩), .pointer (some ⟨b4, 0, none⟩)]⟩] 94 ∧ (∃ oa on oc, Blk W' b25 [.slice oa on oc] 27) ∧ ∃ o, o ≠ some 0 ∧ (∀ rest, leastF ((pre ++ [x]).map (cntC P) ++ rest) none = leastF rest o) ∧ Blk W' b27 [.int .i64 (lstI o)] 3)) := by
      intro W' oa' on' oc' d4 d7 dc
      have dc' : Chg (fun k => S1 k ∨ W.heap.size ≤ k) w53 W' := (Chg.of_ext e57).trans (dc.mono fun k _ hk => .inl ((i1 k).2 hk))
      have dz := dc.size
      have d2 : Ext w20 W' := ext_chgS k2 dc fun k hk => by rcases hk with rfl | rfl <;> omega
      have dS : ∀ k, S1 k → (S1 k ∨ W.heap.size ≤ k) ∧ k < W'.heap.size := fun k hk => ⟨.inl hk, by rcases (i1 k).1 hk with rfl | rfl <;> omega⟩
      have hls : ∀ rest, leastF ((pre ++ [x]).map (cntC P) ++ rest) none = if stepL o (cntC P x) = some 0 then some 0 else leastF rest (stepL o (cntC P x)) := fun rest => by
        rw [List.map_append, List.append_assoc, i6, List.map_cons, List.map_nil, List.singleton_append, leastF_step]
      refine ⟨_, d7.cell 0, br_split (fun g0 => ?_) (fun g0 => ?_)⟩
      · have hz : stepL o (cntC P x) = some 0 := by
          cases hso : stepL o (cntC P x) with
          | none => rw [hso] at g0; exact absurd g0 (by decide)
          | some m => rw [hso] at g0; have : (m : Int) = 0 := g0; rw [show m = 0 by omega]
        rw [hz] at d7
        refine ⟨dc', S1, dS, i1, d2, ⟨_, _, _, d4⟩, d7, ?_⟩
        obtain ⟨rest, hrest⟩ := hpre
        have hsc : scoreA P vals st = 0 := by
          unfold scoreA
          rw [← hv3, ← hrest, List.map_append, hls, if_pos hz]; rfl
        rw [← scoreA_eq hv2 hv1]; exact hsc
      · have hz : stepL o (cntC P x) ≠ some 0 := fun hh => by rw [hh] at g0; exact g0 rfl
        refine ⟨dc', S1, dS, i1, d2, ?_, ⟨_, _, _, d4⟩, _, hz, fun rest => by rw [hls, if_neg hz], d7⟩
        exact dc.blk (j3.ext e57) (fun hh => by omega)
    intro K59 hK59
    have k59 : ∀ (b : Bool), (b = true → stepL o (cntC P x) = some (cntC P x)) → (b = false → stepL o (cntC P x) = o) → K59 b w57 := by
      intro b hb1 hb2
      refine hK59 _ _ fun _ => br_cases (fun gb => ?_) (fun gb => ?_)
      · refine CloneI_spec kx (by omega) fun a' c' w63 ho e63 => ⟨_, _, _, rfl, dr_ok ?_⟩
        refine stL_one (k4.ext e63) rfl fun w65 B65 c65 s65 => dr_ok ?_
        refine stL_one (c65.blk (k7.ext e63) (by omega)) rfl fun w67 B67 c67 s67 => dr_ok ?_
        have := hb1 gb
        refine done w67 a' x.length c' (c67.blk B65 (by omega)) (by rw [this]; exact B67) ?_
        exact (Chg.of_ext e63).trans ((c65.mono fun k _ hk => .inl hk).trans (c67.mono fun k _ hk => .inr hk))
      · exact dr_ok (done w57 _ _ _ k4 (by rw [hb2 gb]; exact k7) (Chg.refl _ _))
    refine dr_ok ⟨_, k7.cell 0, br_split (fun g => ?_) (fun g => dr_ok ⟨_, k7.cell 0, ?_⟩)⟩
    · refine k59 true (fun _ => ?_) (fun hh => by cases hh)
      cases o with
      | none => rfl
      | some m => exact absurd (show (m : Int) < 0 from g) (by omega)
    · cases o with
      | none => exact absurd (show (-1 : Int) < 0 by decide) g
      | some m =>
        refine k59 _ (fun hh => ?_) (fun hh => ?_)
        · have : (cntC P x : Int) < (m : Int) := of_decide_eq_true hh
          show some (min _ _) = _
          congr 1; omega
        · have : ¬ (cntC P x : Int) < (m : Int) := of_decide_eq_false hh
          show some (min _ _) = _
          congr 1; omega
  · rintro D S1 W xs ⟨vals, hv1, hv2, hv3⟩ hD1 hD2 hD3 hD4 ⟨i1, i2, i3, ⟨oa, on, oc, i4⟩, o, i5, i6, i7⟩
    refine fin D W _ _ _ _ hD1 hD2 hD4 i4 i7 i2 ?_
    have hh := i6 []
    rw [List.append_nil, leastF, hv3] at hh
    obtain ⟨r, hr⟩ := leastF_some (l := (asgL vals st).map (cntC P)) (o := none) (.inl (by simp [asgL_ne hv1 st]))
    rw [hr] at hh
    rw [← scoreA_eq hv2 hv1]
    unfold scoreA
    rw [hr, ← hh]
    show max (r : Int) 0 = _
    show max (r : Int) 0 = (r : Int)
    omega
  · rintro D S1 W hD1 hD2 hD3 hD4 ⟨i1, i2, ⟨oa, on, oc, i4⟩, i7, i8⟩
    refine fin D W _ _ _ _ hD1 hD2 hD4 i4 i7 i2 ?_
    rw [i8]; rfl
set_option maxRecDepth 20000 in
theorem Score_spec {na ea pa : Option Addr} {nn nc en ec pn pc : Nat} {N : List Nm} {P : List (List Int)} {st : List Int} {a : Option Addr} {n c : Nat} (hN : RowV vS S w na nn N) (hcN : nn ≤ nc) (hP : RowV vIs S w pa pn P) (hb : ∀ s ∈ N, s.length ≤ 4611686018427387904) (hPl : ∀ l ∈ P, l.length ≤ 4611686018427387904)
    (hR : RowV vI S2 w a n st) (hs : n ≤ 4611686018427387904) (hg : conOk N en P st = true → n ≤ 6)
    (h : ∀ (e v : Int) w', Ext w w' → decide (e = 0) = conOk N en P st → (e = 0 → v = (scoreA P (occ0 st) st : Int)) → R (.returned (.tuple ⟨[.int .i64 v, .int .i64 e]⟩)) w') :
    Calls Try.prog F_contamination_Score ⟨[.agg ⟨[.slice na nn nc, .slice ea en ec, .slice pa pn pc]⟩, .slice a n c]⟩ w R := by
  apply c_contamination_Score
  refine al_intro fun b5 w6 hb5 B5 e6 s6 => ?_
  obtain ⟨x0, x1, x2⟩ := bl3 B5
  refine ⟨_, _, _, x0, _, _, _, x1, _, _, _, x2, ?_⟩
  exact best_spec (hN.ext e6) hcN (hP.ext e6) hb hPl (hR.ext e6) hs hg fun e oa on oc v w' e' he hv => ⟨_, _, _, _, _, rfl, h e v w' (ext_trans e6 e') he hv⟩
end
end Go.Proofs
namespace Go.Proofs
open Go Go.Sh Go.RowKit
/- archetype.changed: how many nodes have changed their states -/
section
variable {R : Ending → World → Prop} {w : World} {S : Nat → Prop}
set_option maxRecDepth 20000 in
theorem changed_spec {na ea pa : Option Addr} {nn nc en ec pn pc : Nat} {P : List (List Int)} {a : Option Addr} {n c : Nat} {all : List Int} (hP : RowV vIs S w pa pn P) (hA : RowV vI S w a n all) (hn : n = pn) (hk : ParOk P) (hpn : pn ≤ 1000000) (hPl : ∀ l ∈ P, l.length ≤ 4611686018427387904)
    (h : ∀ w', Ext w w' → R (.returned (.int .i64 (cntC P all : Int))) w') :
    Calls Try.prog F_archetype_changed ⟨[.agg ⟨[.slice na nn nc, .slice ea en ec, .slice pa pn pc]⟩, .slice a n c]⟩ w R := by
  apply c_archetype_changed
  have hpl := hP.1
  have hal := hA.1
  refine al_intro fun b5 w6 hb5 B5 e6 s6 => al_intro fun b7 w8 hb7 B7 e8 s8 => ?_
  have e08 := ext_trans e6 e8
  obtain ⟨x0, x1, x2⟩ := bl3 (B5.ext e8)
  refine ⟨_, _, _, x2, ?_⟩
  refine ⟨fun v i W m => ∃ k : Nat, i = k ∧ k ≤ pn ∧ m = pn - k ∧ v = (((List.range k).filter fun i => chg1 all i (P.getD i [])).length : Int) ∧ Ext w8 W, ⟨_, 0, rfl, by omega, rfl, rfl, Below.refl _ _⟩, ?_⟩
  rintro _ _ W m ⟨k, rfl, hkp, rfl, rfl, eW⟩ _
  have hle : ((List.range k).filter fun i => chg1 all i (P.getD i [])).length ≤ k := by
    refine Nat.le_trans (List.length_filter_le _ _) ?_
    rw [List.length_range]; exact Nat.le_refl _
  refine br_split (fun hlt => ?_) (fun hge => ?_)
  · have hkP : k < P.length := by omega
    have e0W := ext_trans e08 eW
    obtain ⟨b14, o14, a15, c15, hq, _, _, hc, _, hrow⟩ := (hP.ext e0W).getS (List.getElem?_eq_getElem hkP)
    have gP : P.getD k [] = P[k] := getD_at hkP _
    refine hq _ ⟨_, _, _, hc, al_stL rfl (by intro v hv; simp only [List.mem_singleton] at hv; subst hv; rfl) fun b18 w20 hb18 B18 e20 s20 => ?_⟩
    have fin : ∀ (b : Bool) (V : World), b = chg1 all k P[k] → Ext W V → ∃ m' : Nat, m' < pn - k ∧ ∃ k' : Nat, IntKind.i64.wrap ((k : Int) + 1) = k' ∧ k' ≤ pn ∧ m' = pn - k' ∧
        (if b then IntKind.i64.wrap ((((List.range k).filter fun i => chg1 all i (P.getD i [])).length : Int) + 1) else (((List.range k).filter fun i => chg1 all i (P.getD i [])).length : Int)) = (((List.range k').filter fun i => chg1 all i (P.getD i [])).length : Int) ∧ Ext w8 V := by
      intro b V hb eV
      refine ⟨pn - (k + 1), by omega, k + 1, by rw [wrap_nat (by omega)], by omega, rfl, ?_, ext_trans eW eV⟩
      rw [range_filter_s, gP, ← hb]
      cases b
      · simp
      · rw [if_pos rfl, if_pos rfl, wrap_nat (by omega), List.length_append]; rfl
    refine br_split (fun g => ?_) (fun g => ?_)
    · have hne : P[k] ≠ [] := fun hh => by rw [hh] at g; simp at g
      have hin := hk k hkP
      rw [gP] at hin
      refine ContainsFuncI_spec (q := sameA all k) (J := fun V => Ext w20 V) (hrow.ext e20) (hPl _ (List.getElem_mem hkP)) ?_ (Below.refl _ _) (fun _ _ => ext_trans) fun w22 e22 => ⟨_, rfl, ?_⟩
      · intro p hp V K eV hK
        refine ⟨by kernel_rfl, ?_⟩
        apply c_archetype_changed_1
        have ed := ext_drew V
        unfold sh_archetype_changed_1 drw
        have eV2 := ext_trans eV ed
        have hK' := hK _ ed
        generalize V.drew = Vd at *
        obtain ⟨hp0, hpi⟩ := hin p hp
        have hpl' : p.toNat < all.length := by omega
        have e8d := ext_trans (ext_trans eW e20) eV2
        have hA' := hA.ext (ext_trans e08 e8d)
        obtain ⟨q1, hq1, d1⟩ := hA'.int hpl'
        obtain ⟨q2, hq2, d2⟩ := hA'.int (show k < all.length by omega)
        rw [Int.toNat_of_nonneg hp0] at hq1
        have B7d := B7.ext e8d
        refine dr_ok ⟨_, _, _, B7d.cell 0, hq1 _ ⟨_, d1, dr_ok ⟨_, _, _, B7d.cell 0, dr_ok ⟨_, (B18.ext eV2).cell 0, hq2 _ ⟨_, d2, ?_⟩⟩⟩⟩⟩
        have e : sameA all k p = decide (all[p.toNat] = all[k]) := by
          unfold sameA
          rw [getD_at hpl', getD_at (show k < all.length by omega)]
        rw [e] at hK'; exact hK'
      · have hcg : chg1 all k P[k] = !P[k].any (sameA all k) := by
          unfold chg1
          rw [decide_eq_true hne, Bool.true_and]; rfl
        refine br_cases (fun gb => ?_) (fun gb => ?_)
        · obtain ⟨m', h1, k', h2, h3, h4, h5, h6⟩ := fin true w22 (by rw [hcg, gb]) (ext_trans e20 e22)
          exact ⟨m', h1, k', h2, h3, h4, h5, h6⟩
        · obtain ⟨m', h1, k', h2, h3, h4, h5, h6⟩ := fin false w22 (by rw [hcg, gb]) (ext_trans e20 e22)
          exact ⟨m', h1, k', h2, h3, h4, h5, h6⟩
    · have hne : P[k] = [] := List.eq_nil_of_length_eq_zero (by omega)
      obtain ⟨m', h1, k', h2, h3, h4, h5, h6⟩ := fin false w20 (by rw [hne]; rfl) e20
      exact ⟨m', h1, k', h2, h3, h4, h5, h6⟩
  · have hkn : k = P.length := by omega
    subst hkn
    exact h W (ext_trans e08 eW)
/- the table of what has been seen -/
def seenC (m : Nat) (f : Nat → Bool) : List Value := (List.range m).map fun j => .bool (f j)
theorem seenC_len (m : Nat) (f : Nat → Bool) : (seenC m f).length = m := by simp [seenC]
theorem seenC_get {m : Nat} {f : Nat → Bool} {j : Nat} (h : j < m) : (seenC m f)[j]? = some (.bool (f j)) := by
  unfold seenC
  rw [List.getElem?_map, List.getElem?_range h]; rfl
theorem seenC_set {m : Nat} {f : Nat → Bool} {j : Nat} (h : j < m) : (seenC m f).set j (.bool true) = seenC m (fun i => f i || decide (i = j)) := by
  refine List.ext_getElem? fun i => ?_
  rw [List.getElem?_set, seenC_len]
  by_cases hi : i < m
  · rw [seenC_get hi, seenC_get hi]
    by_cases e : j = i
    · subst e; simp [h]
    · rw [if_neg e, decide_eq_false (fun q => e q.symm), Bool.or_false]
  · rw [List.getElem?_eq_none (by rw [seenC_len]; omega), List.getElem?_eq_none (by rw [seenC_len]; omega)]
    rw [if_neg (by omega)]
/- one assignment is looked at -/
def seeF (P : List (List Int)) (least : Int) (f : Nat → Bool) (all : List Int) (k : Nat) : Nat → Bool := fun j => f j || (decide ((cntC P all : Int) = least) && (decide (j / 16 < k) && decide (gI all (j / 16) = ((j % 16 : Nat) : Int))))
structure SeeAt (w : World) (q5 q14 q19 bS : Nat) (na : Option Addr) (nn nc : Nat) (ea : Option Addr) (en ec : Nat) (pa : Option Addr) (pn pc n : Nat) (least : Int) : Prop where
  st : Blk w q5 [.slice na nn nc, .slice ea en ec, .slice pa pn pc] 26
  le : Blk w q14 [.int .i64 least] 3
  se : Blk w q19 [.slice (some ⟨bS, 0, none⟩) n n] 67
theorem SeeAt.keep {T : Nat → Prop} {w w' : World} {q5 q14 q19 bS nn nc en ec pn pc n : Nat} {na ea pa : Option Addr} {least : Int} (h : SeeAt w q5 q14 q19 bS na nn nc ea en ec pa pn pc n least) (hc : Chg T w w') (h1 : ¬ T q5 ∧ ¬ T q14 ∧ ¬ T q19) : SeeAt w' q5 q14 q19 bS na nn nc ea en ec pa pn pc n least :=
  ⟨hc.blk h.st h1.1, hc.blk h.le h1.2.1, hc.blk h.se h1.2.2⟩
set_option maxRecDepth 20000 in
theorem Possible1_spec {q5 q14 q19 bS nn nc en ec pn pc n c : Nat} {na ea pa a : Option Addr} {least : Int} {P : List (List Int)} {all : List Int} {f : Nat → Bool}
    (hS : SeeAt w q5 q14 q19 bS na nn nc ea en ec pa pn pc n least) (hP : RowV vIs S w pa pn P) (hA : RowV vI S w a n all) (hn : n = pn) (hk : ParOk P) (hpn : pn ≤ 1000000) (hPl : ∀ l ∈ P, l.length ≤ 4611686018427387904) (hr : ∀ i, i < n → 0 ≤ gI all i ∧ gI all i < 16)
    (BS : Blk w bS (seenC (n * 16) f) 70) (hSb : ¬ S bS) (hq : q5 ≠ bS ∧ q14 ≠ bS ∧ q19 ≠ bS)
    (h : ∀ w', Chg (fun k => k = bS) w w' → Blk w' bS (seenC (n * 16) (seeF P least f all n)) 70 → R (.returned (.tuple ⟨[]⟩)) w') :
    Calls Try.prog F_archetype_Possible_1 ⟨[.slice a n c, .pointer (some ⟨q5, 0, none⟩), .pointer (some ⟨q14, 0, none⟩), .pointer (some ⟨q19, 0, none⟩)]⟩ w R := by
  apply c_archetype_Possible_1
  have hal := hA.1
  intro K5 hK5
  have k5 : ∀ (b : Bool) (V : World), b = decide ((cntC P all : Int) = least) → Ext w V → K5 b V := by
    intro b V hb eV
    refine hK5 _ _ fun _ => br_cases (fun gb => ?_) (fun gb => ?_)
    · have SV := hS.keep (T := fun _ => False) (Chg.of_ext eV) ⟨id, id, id⟩
      have hAV := hA.ext eV
      refine ⟨fun i W m => ∃ k : Nat, i = k ∧ k ≤ n ∧ m = n - k ∧ Chg (fun k => k = bS) w W ∧ Blk W bS (seenC (n * 16) (seeF P least f all k)) 70, ⟨_, 0, rfl, by omega, rfl, Chg.of_ext eV, ?_⟩, ?_⟩
      · have e : seeF P least f all 0 = f := by
          funext j
          unfold seeF
          rw [decide_eq_false (show ¬ j / 16 < 0 by omega), Bool.false_and, Bool.and_false, Bool.or_false]
        rw [e]; exact BS.ext eV
      · rintro _ W m ⟨k, rfl, hkn, rfl, hc, BW⟩ _
        refine br_split (fun hlt => ?_) (fun hge => ?_)
        · have hka : k < all.length := by omega
          have hAW : RowV vI S W a n all := hA.chg hc fun j hj _ e => hSb (e ▸ hj)
          obtain ⟨q, hq1, d⟩ := hAW.int hka
          have SW := hS.keep hc hq
          have gk : gI all k = all[k] := gI_at hka
          have hrk := hr k (by omega)
          rw [gk] at hrk
          obtain ⟨x, hx⟩ : ∃ x : Nat, all[k] = x := ⟨all[k].toNat, by omega⟩
          have hx16 : x < 16 := by omega
          refine hq1 _ ⟨_, d, dr_ok ⟨_, _, _, SW.se.cell 0, ?_⟩⟩
          refine ⟨by omega, by omega, dr_ok ?_⟩
          rw [hx]
          refine ⟨by omega, by omega, dr_ok ?_⟩
          rw [add_none, add_none, Int.toNat_natCast, Int.toNat_natCast]
          refine stL_blk BW (by rw [seenC_len]; simp; omega) (by intro v hv; simp only [List.mem_singleton] at hv; subst hv; rfl) fun w19 B19 hx1 hx2 hx3 hx4 hx5 => ?_
          have hc19 : Chg (fun k => k = bS) W w19 := ⟨hx3, hx4, hx5, by omega, fun j _ hj => hx1 j hj⟩
          refine ⟨n - (k + 1), by omega, k + 1, by rw [wrap_nat (by omega)], by omega, rfl, hc.trans hc19, ?_⟩
          have e : putAt (seenC (n * 16) (seeF P least f all k)) (0 + k * 16 + x * 1 + 0) [.bool true] = seenC (n * 16) (seeF P least f all (k + 1)) := by
            show (seenC _ _).set _ _ = _
            rw [seenC_set (by omega)]
            congr 1
            funext j
            unfold seeF
            rw [← hb, gb, Bool.true_and, Bool.true_and, Bool.or_assoc]
            congr 1
            rw [Bool.eq_iff_iff, Bool.or_eq_true, Bool.and_eq_true, Bool.and_eq_true, decide_eq_true_iff, decide_eq_true_iff, decide_eq_true_iff, decide_eq_true_iff]
            constructor
            · rintro (⟨h1, h2⟩ | h1)
              · exact ⟨by omega, h2⟩
              · have h3 : j / 16 = k := by omega
                refine ⟨by omega, ?_⟩
                rw [h3, gk, hx]; congr 1; omega
            · rintro ⟨h1, h2⟩
              by_cases h3 : j / 16 < k
              · exact .inl ⟨h3, h2⟩
              · right
                have h4 : j / 16 = k := by omega
                rw [h4, gk, hx] at h2
                have h5 : x = j % 16 := by omega
                omega
          rw [← e]; exact B19
        · obtain rfl : k = n := by omega
          exact h W hc BW
    · refine h V (Chg.of_ext eV) ?_
      have e : seeF P least f all n = f := by
        funext j
        unfold seeF
        rw [← hb, gb, Bool.false_and, Bool.or_false]
      rw [e]; exact BS.ext eV
  unfold drw
  have ed := ext_drew w
  have Sd := hS.keep (T := fun _ => False) (Chg.of_ext ed) ⟨id, id, id⟩
  have hPd := hP.ext ed
  have hAd := hA.ext ed
  generalize w.drew = w21 at *
  obtain ⟨x0, x1, x2⟩ := bl3 Sd.st
  refine dr_ok ⟨_, _, _, x0, _, _, _, x1, _, _, _, x2, ?_, ?_, trivial⟩
  · refine changed_spec hPd hAd hn hk hpn hPl fun w27 e27 => ⟨_, rfl, dr_ok ⟨_, (Sd.le.ext e27).cell 0, ?_⟩⟩
    exact k5 _ _ rfl (ext_trans ed e27)
  · refine dr_ok ⟨_, Sd.le.cell 0, ?_, trivial⟩
    refine changed_spec hPd hAd hn hk hpn hPl fun w27 e27 => ⟨_, rfl, ?_⟩
    exact k5 _ _ rfl (ext_trans ed e27)
end
end Go.Proofs
