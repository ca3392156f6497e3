/- The contracts of the functions that the law reaches, one after the other, and at the end the law's card. -/
import Derived.Test.YtieeggfkfgmdgaaGreatDoorLawG
import Derived.ArgAppend
namespace Go.Proofs
open Go Go.Sh Go.RowKit

/- the reference's Compare and Names -/
section
variable {R : Ending → World → Prop} {w : World}
theorem fold_wrap {c : UInt8} (h : 65 ≤ c.toNat ∧ c.toNat ≤ 90) : IntKind.u8.wrap (IntKind.u8.wrap ((c.toNat : Int) + 97) - 65) = ((lowC c).toNat : Int) := by
  have e : (lowC c).toNat = c.toNat + 32 := by
    unfold lowC
    rw [if_pos h, UInt8.toNat_ofNat']
    omega
  rw [e]
  have w1 : ∀ n : Int, 0 ≤ n → n < 256 → IntKind.u8.wrap n = n := fun n h0 h1 => by
    simp [IntKind.wrap, IntKind.signed, IntKind.bits]
    omega
  rw [w1 ((c.toNat : Int) + 97) (by omega) (by omega), w1 _ (by omega) (by omega)]
  omega
theorem bytes_snoc (l : List UInt8) (c : UInt8) : Lib.byteCells (l ++ [c]) = Lib.byteCells l ++ [.int .u8 (c.toNat : Int)] := by simp [Lib.byteCells]
set_option maxRecDepth 20000 in
theorem Fold01_spec (s : List UInt8) (hs : s.length ≤ 1000000000) (h : ∀ w', Ext w w' → R (.returned (.string ⟨⟨s.map lowC⟩⟩)) w') : Calls Tryz.prog F_ref01_Fold ⟨[.string ⟨⟨s⟩⟩]⟩ w R := by
  apply c_ref01_Fold
  refine al_intro fun b2 w3 hb2 B2 e3 s3 => ?_
  refine ⟨fun oa on oc i W m => ∃ k : Nat, i = k ∧ k ≤ s.length ∧ m = s.length - k ∧ on = k ∧ Owns W w.heap.size 5 1 oa on oc (Lib.byteCells ((s.take k).map lowC)) ∧ Ext w W, ⟨_, 0, rfl, by omega, rfl, rfl, Owns.made B2 (by omega), e3⟩, ?_⟩
  rintro oa on oc _ W m ⟨k, rfl, hk, rfl, rfl, hO, he⟩ _
  refine br_split (fun hlt => ?_) (fun hge => ?_)
  · have hkl : on < s.length := by omega
    refine sidx_nat hkl ?_
    intro K11 hK11
    have k11 : K11 ((lowC s[on]).toNat : Int) W := by
      refine hK11 _ _ fun _ => ?_
      refine app_one2 slT_byte hO he.size [.int .u8 ((lowC s[on]).toNat : Int)] rfl (by intro u hu; rw [List.mem_singleton.1 hu]; rfl) (by omega) (by omega) fun a' c'' w2 ho hc hn => ?_
      refine ⟨s.length - (on + 1), by omega, on + 1, by rw [wrap_nat (by omega)], by omega, rfl, rfl, ?_, ext_chgS he hc fun j hj => (hO.bk hj).1⟩
      rw [List.take_succ_eq_append_getElem hkl, List.map_append, List.map_singleton, bytes_snoc]
      exact ho
    intro K19 hK19
    have k19t : (65 ≤ s[on].toNat ∧ s[on].toNat ≤ 90) → K19 true W := fun hc => by
      refine hK19 _ _ fun _ => ?_
      simp only [br_t]
      rw [fold_wrap hc]; exact k11
    have k19f : ¬ (65 ≤ s[on].toNat ∧ s[on].toNat ≤ 90) → K19 false W := fun hc => by
      refine hK19 _ _ fun _ => ?_
      simp only [br_f]
      have e : lowC s[on] = s[on] := by unfold lowC; rw [if_neg hc]
      rw [e] at k11; exact k11
    refine br_split (fun g1 => ?_) (fun g1 => k19f (by omega))
    by_cases g2 : s[on].toNat ≤ 90
    · rw [decide_eq_true (by omega)]; exact k19t (by omega)
    · rw [decide_eq_false (by omega)]; exact k19f (by omega)
  · have hkn : on = s.length := by omega
    subst hkn
    rw [List.take_length] at hO
    exact b2s_intro hO (h W he)
set_option maxRecDepth 20000 in
theorem Plain01_spec (s : List UInt8) (hs : s.length ≤ 1000000000) (h : ∀ w', Ext w w' → R (.returned (.string ⟨⟨plainL s⟩⟩)) w') : Calls Tryz.prog F_ref01_Plain ⟨[.string ⟨⟨s⟩⟩]⟩ w R := by
  apply c_ref01_Plain
  refine al_intro fun b2 w3 hb2 B2 e3 s3 => ?_
  refine ⟨fun oa on oc i W m => ∃ k : Nat, i = k ∧ k ≤ s.length ∧ m = s.length - k ∧ on ≤ k ∧ Owns W w.heap.size 5 1 oa on oc (Lib.byteCells (plainL (s.take k))) ∧ Ext w W, ⟨_, 0, rfl, by omega, rfl, Nat.le_refl _, Owns.made B2 (by omega), e3⟩, ?_⟩
  rintro oa on oc _ W m ⟨k, rfl, hk, rfl, hon, hO, he⟩ _
  refine br_split (fun hlt => ?_) (fun hge => ?_)
  · have hkl : k < s.length := by omega
    refine sidx_nat hkl (Kind_spec' _ ⟨_, rfl, ?_⟩)
    have htk : s.take (k + 1) = s.take k ++ [s[k]] := List.take_succ_eq_append_getElem hkl
    refine br_split (fun g => ?_) (fun g => ?_)
    · have hp : plainL (s.take (k + 1)) = plainL (s.take k) ++ [s[k]] := by
        unfold plainL psM; rw [htk, List.filter_append]; simp [g]
      refine sidx_nat hkl ?_
      refine app_one2 slT_byte hO he.size [.int .u8 (s[k].toNat : Int)] rfl (by intro u hu; rw [List.mem_singleton.1 hu]; rfl) (by omega) (by omega) fun a' c'' w2 ho hc hn => ?_
      refine ⟨s.length - (k + 1), by omega, k + 1, by rw [wrap_nat (by omega)], by omega, rfl, by omega, ?_, ext_chgS he hc fun j hj => (hO.bk hj).1⟩
      rw [hp, bytes_snoc]
      exact ho
    · have hp : plainL (s.take (k + 1)) = plainL (s.take k) := by
        unfold plainL psM; rw [htk, List.filter_append]; simp [Decidable.not_not.1 g]
      exact ⟨s.length - (k + 1), by omega, k + 1, by rw [wrap_nat (by omega)], by omega, rfl, by omega, by rw [hp]; exact hO, he⟩
  · have hkn : k = s.length := by omega
    subst hkn
    rw [List.take_length] at hO
    exact b2s_intro hO (h W he)
theorem compare01_spec (x y : List UInt8) (h : R (.returned (.int .i64 (cmpB x y))) w) : Calls Tryz.prog F_ref01_compare ⟨[.string ⟨⟨x⟩⟩, .string ⟨⟨y⟩⟩]⟩ w R := by
  apply c_ref01_compare
  unfold cmpB at h
  refine br_cases (fun g => ?_) (fun g => br_cases (fun g2 => ?_) (fun g2 => ?_))
  · rw [if_pos g] at h; exact h
  · rw [if_neg (by rw [g]; decide), if_neg (by rw [Bool.not_eq_true'] at g2; rw [g2]; decide)] at h; exact h
  · rw [if_neg (by rw [g]; decide), if_pos (by rw [Bool.not_eq_false'] at g2; exact g2)] at h; exact h
theorem Compare01_spec (a b : List UInt8) (ha : a.length ≤ 1000000000) (hb : b.length ≤ 1000000000) (h : ∀ w', Ext w w' → R (.returned (.int .i64 (cmpC a b))) w') : Calls Tryz.prog F_ref01_Compare ⟨[.string ⟨⟨a⟩⟩, .string ⟨⟨b⟩⟩]⟩ w R := by
  apply c_ref01_Compare
  have la := List.length_filter_le (fun c => !psM c) a
  have lb := List.length_filter_le (fun c => !psM c) b
  have h0 : ∀ s, stepC 0 s = (plainL s).map lowC := fun s => rfl
  have h1 : ∀ s, stepC 1 s = plainL s := fun s => rfl
  have h2 : ∀ s, stepC 2 s = s := fun s => rfl
  unfold cmpC at h
  rw [h0, h0, h1, h1, h2, h2] at h
  refine Plain01_spec a ha fun w4 e4 => ⟨_, rfl, Fold01_spec _ (by unfold plainL; omega) fun w7 e7 => ⟨_, rfl, Plain01_spec b hb fun w10 e10 => ⟨_, rfl, Fold01_spec _ (by unfold plainL; omega) fun w13 e13 => ⟨_, rfl, compare01_spec _ _ ⟨_, rfl, ?_⟩⟩⟩⟩⟩
  have E13 := ext_trans (ext_trans (ext_trans e4 e7) e10) e13
  refine br_split (fun g => ?_) (fun g => ?_)
  · rw [if_pos g] at h; exact h w13 E13
  rw [if_neg g] at h
  refine Plain01_spec a ha fun w19 e19 => ⟨_, rfl, Plain01_spec b hb fun w22 e22 => ⟨_, rfl, compare01_spec _ _ ⟨_, rfl, ?_⟩⟩⟩
  have E22 := ext_trans (ext_trans E13 e19) e22
  refine br_split (fun g2 => ?_) (fun g2 => ?_)
  · rw [if_pos g2] at h; exact h w22 E22
  rw [if_neg g2] at h
  exact compare01_spec _ _ ⟨_, rfl, h w22 E22⟩
/- appending to a slice that has been cut off at its length -/
theorem app_full {P : Program} {t ty e : TypeId} {size bytes : Nat} {z : Value} (hT : SlT P t e size bytes z) {S : Nat → Prop} {a : Option Addr} {n : Nat} {olds : List Value} {w : World} (hlo : olds.length = n * size) (ho : At S w a olds) (hn0 : a = none → n = 0)
    {S2 : Nat → Prop} {ad : Option Addr} {m c' : Nat} {news : List Value} (hl : news.length = m * size) (hnews : At S2 w ad news) (h1 : ∀ u ∈ news, u.oneCell' = true) (hm : 0 < m)
    (ha : ∀ p, a = some p → ∃ b o, p = ⟨b, o, none⟩) (hlen : n + m ≤ 4611686018427387904) (hbytes : (n + m) * bytes ≤ 140737488355328) {K : Option Addr → Nat → Nat → World → Prop}
    (hk : ∀ a' c'' w', Owns w' w.heap.size e size a' (n + m) c'' (olds ++ news) → Ext w w' → K a' (n + m) c'' w') :
    app P [t, t] ty (.slice a n n) (.slice ad m c') w K := by
  obtain ⟨i, hi, hz, hs, hb⟩ := hT.get
  have hml : m ≤ news.length := by rw [hl]; exact Nat.le_mul_of_pos_right m hT.pos
  rcases hnews with h0 | ⟨b2, o2, rfl, _, _, hc2⟩
  · rw [h0] at hml; simp at hml; omega
  cases a with
  | none =>
    have hn := hn0 rfl
    subst hn
    have hol : olds = [] := List.eq_nil_of_length_eq_zero (by simpa using hlo)
    subst hol
    refine app_own hT (Owns.nil w w.heap.size e size) (Nat.le_refl _) news hl (fun j u hj => by rw [add_none]; exact hc2 j u hj) h1 hlen hbytes fun a' c'' w' ho' hc => hk a' c'' w' ho' ?_
    exact ext_chgS (Below.refl _ _) hc fun k hk => by simp [bk] at hk
  | some p =>
    obtain ⟨b, o, rfl⟩ := ha p rfl
    have holds : ∀ j u, olds[j]? = some u → w.cell? ((⟨b, o, none⟩ : Addr).add j) = some u := by
      intro j u hj
      rcases ho with h0 | ⟨b', o', e', _, _, hc⟩
      · rw [h0] at hj; simp at hj
      · simp only [Option.some.injEq, Addr.mk.injEq, and_true] at e'
        obtain ⟨rfl, rfl⟩ := e'
        rw [add_none]; exact hc j u hj
    obtain ⟨v', w', hr, ho', hg⟩ := run_append_arg_grows (P := P) w t ty e i z size bytes hT.under hi hz hs hb hT.zs hT.pos ⟨b, o, none⟩ n n olds hlo holds ⟨b2, o2, none⟩ m c' news hl (fun j u hj => by rw [add_none]; exact hc2 j u hj) (by omega) (by simp only [maxLen]; omega) hbytes
    have hE : Ext w w' := ⟨hg.os, hg.tape, hg.output, hg.size, fun k hk => hg.block k hk (by simp)⟩
    rcases ho'.2 with ⟨rfl, hnn⟩ | ⟨g, cap, cur, rfl, h2⟩
    · omega
    · exact ⟨some ⟨g, 0, none⟩, n + m, cap, w', hr, hk _ _ _ ho' hE⟩
/- the tail of a row -/
theorem row_drop {B : Nat} {a : Option Addr} {n c : Nat} {L : List (List UInt8)} (hO : OwnL Sh.encStr w B 9 a n c L) {k : Nat} (hk : k ≤ n) : RowAt Sh.encStr (bk a) w (slA a c k 1) (n - k) (L.drop k) := by
  have hl := OwnL.length hO
  refine ⟨by rw [List.length_drop]; omega, ?_⟩
  by_cases hkn : k = n
  · left
    rw [List.drop_eq_nil_of_le (by omega)]; rfl
  · obtain ⟨g, rfl, hg, hc⟩ := Owns.cell hO (by omega)
    right
    have hcap : n ≤ c := by
      rcases hO.2 with h | ⟨g', cap, cur, e1, e2, e3, e4, e5⟩
      · cases h.1
      · injection e1 with _ _ e1; omega
    refine ⟨g, k, ?_, by simp [bk], (Owns.bk hO (k := g) (by simp [bk])).2, fun j v hj => ?_⟩
    · unfold slA
      rw [if_neg (by omega)]
      simp [add_none]
    · refine hc (k + j) v ?_
      rw [row_strs] at hj ⊢
      rw [List.map_drop, List.getElem?_drop] at hj
      exact hj
/- inserting a name -/
theorem NmOk.skip {l : List Tok} {x : Tok} {C : List (List UInt8)} (h : NmOk l C) (hx : x.a = []) : NmOk (l ++ [x]) C := by
  refine ⟨fun s => ?_, h.ord, ?_⟩
  · rw [nmsL_snoc, if_pos hx, List.append_nil]; exact h.mem s
  · have := h.len; simp; omega
theorem NmOk.has {l : List Tok} {x : Tok} {C : List (List UInt8)} (h : NmOk l C) (hx : x.a ∈ C) : NmOk (l ++ [x]) C := by
  refine ⟨fun s => ?_, h.ord, ?_⟩
  · rw [nmsL_snoc, List.mem_append, ← h.mem s]
    constructor
    · exact .inl
    · rintro (h1 | h1)
      · exact h1
      · split at h1
        · cases h1
        · rw [List.mem_singleton.1 h1]; exact hx
  · have := h.len; simp; omega
theorem gS_ins {C : List (List UInt8)} {k : Nat} {v : List UInt8} (hk : k ≤ C.length) (i : Nat) : gS (C.take k ++ v :: C.drop k) i = if i < k then gS C i else if i = k then v else gS C (i - 1) := by
  unfold gS
  by_cases h1 : i < k
  · rw [if_pos h1, List.getElem?_append_left (by simp; omega), List.getElem?_take, if_pos h1]
  · rw [if_neg h1, List.getElem?_append_right (by simp; omega), List.length_take, Nat.min_eq_left hk]
    by_cases h2 : i = k
    · subst h2; simp
    · rw [if_neg h2, show i - k = (i - 1 - k) + 1 by omega, List.getElem?_cons_succ, List.getElem?_drop, show k + (i - 1 - k) = i - 1 by omega]
theorem NmOk.ins {l : List Tok} {x : Tok} {C : List (List UInt8)} (h : NmOk l C) (hx : x.a ≠ []) {k : Nat} (hk : k ≤ C.length) (h1 : ∀ j, j < k → cmpC (gS C j) x.a < 0) (h2 : k < C.length → ¬ cmpC (gS C k) x.a < 0 ∧ gS C k ≠ x.a) : NmOk (l ++ [x]) (C.take k ++ x.a :: C.drop k) := by
  refine ⟨fun s => ?_, fun p hp => ?_, ?_⟩
  · have hR : s ∈ nmsL l ++ [x.a] ↔ s ∈ C ∨ s = x.a := by rw [List.mem_append, ← h.mem s, List.mem_singleton]
    have : s ∈ C ↔ s ∈ C.take k ++ C.drop k := by rw [List.take_append_drop]
    rw [nmsL_snoc, if_neg hx, hR, this]
    simp only [List.mem_append, List.mem_cons]
    constructor
    · rintro (a1 | a1 | a1)
      · exact .inl (.inl a1)
      · exact .inr a1
      · exact .inl (.inr a1)
    · rintro ((a1 | a1) | a1)
      · exact .inl a1
      · exact .inr (.inr a1)
      · exact .inr (.inl a1)
  · have hl : (C.take k ++ x.a :: C.drop k).length = C.length + 1 := by simp; omega
    rw [hl] at hp
    rw [gS_ins hk, gS_ins hk]
    by_cases a1 : p + 1 < k
    · rw [if_pos (by omega), if_pos a1]; exact h.ord p (by omega)
    · by_cases a2 : p + 1 = k
      · rw [if_pos (by omega), if_neg a1, if_pos a2]; exact h1 p (by omega)
      · by_cases a3 : p = k
        · subst a3
          rw [if_neg (by omega), if_pos rfl, if_neg (by omega), if_neg (by omega), Nat.add_sub_cancel]
          obtain ⟨b1, b2⟩ := h2 (by omega)
          have b3 := cmpC_neg (gS C p) x.a
          have b4 : cmpC (gS C p) x.a ≠ 0 := fun e => b2 (cmpC_zero e)
          omega
        · rw [if_neg (by omega), if_neg a3, if_neg a1, if_neg a2, Nat.add_sub_cancel]
          have := h.ord (p - 1) (by omega)
          rw [show p - 1 + 1 = p by omega] at this
          exact this
  · have := h.len
    simp; omega
theorem ord_far {C : List (List UInt8)} (h : ∀ p, p + 1 < C.length → cmpC (gS C p) (gS C (p + 1)) < 0) : ∀ d i, i + d + 1 < C.length → cmpC (gS C i) (gS C (i + d + 1)) < 0
  | 0, i, hi => h i hi
  | d + 1, i, hi => cmpC_trans (ord_far h d i (by omega)) (by
    have := h (i + d + 1) (by omega)
    rwa [show i + d + 1 + 1 = i + (d + 1) + 1 by omega] at this)
theorem ord_inj {C : List (List UInt8)} (h : ∀ p, p + 1 < C.length → cmpC (gS C p) (gS C (p + 1)) < 0) {i j : Nat} (hij : i < j) (hj : j < C.length) : cmpC (gS C i) (gS C j) < 0 := by
  have := ord_far h (j - i - 1) i (by omega)
  rwa [show i + (j - i - 1) + 1 = j by omega] at this
/- two lists in order with the same members are one -/
theorem ord_eq : ∀ (n : Nat) (C D : List (List UInt8)), (∀ p, p + 1 < C.length → cmpC (gS C p) (gS C (p + 1)) < 0) → (∀ p, p + 1 < D.length → cmpC (gS D p) (gS D (p + 1)) < 0) → (∀ s, s ∈ C ↔ s ∈ D) → n ≤ C.length → n ≤ D.length → C.take n = D.take n
  | 0, _, _, _, _, _, _, _ => by simp
  | n + 1, C, D, hC, hD, hm, h1, h2 => by
    have ih := ord_eq n C D hC hD hm (by omega) (by omega)
    have gt : ∀ i, i < n → gS C i = gS D i := fun i hi => by
      have e : (C.take n)[i]? = (D.take n)[i]? := by rw [ih]
      rw [List.getElem?_take, if_pos hi, List.getElem?_take, if_pos hi] at e
      unfold gS; rw [e]
    have key : ∀ (C D : List (List UInt8)), (∀ p, p + 1 < C.length → cmpC (gS C p) (gS C (p + 1)) < 0) → (∀ p, p + 1 < D.length → cmpC (gS D p) (gS D (p + 1)) < 0) → (∀ s, s ∈ C → s ∈ D) → n < C.length → n < D.length → (∀ i, i < n → gS C i = gS D i) → ¬ cmpC (gS C n) (gS D n) < 0 := by
      intro C D hC hD hm h1 h2 hg hlt
      obtain ⟨i, hi, e⟩ := gS_mem.1 (hm _ (gS_mem.2 ⟨n, h1, rfl⟩))
      rw [← e] at hlt
      by_cases a1 : i < n
      · have := ord_inj hC a1 h1
        rw [hg i a1, e] at this
        have h0 := cmpC_self (gS C n)
        omega
      · by_cases a2 : i = n
        · subst a2
          have h0 := cmpC_self (gS D i)
          omega
        · have := ord_inj hD (show n < i by omega) hi
          have h0 := cmpC_neg (gS D i) (gS D n)
          omega
    have k1 := key C D hC hD (fun s hs => (hm s).1 hs) (by omega) (by omega) gt
    have k2 := key D C hD hC (fun s hs => (hm s).2 hs) (by omega) (by omega) fun i hi => (gt i hi).symm
    have k3 := cmpC_neg (gS C n) (gS D n)
    have k4 : gS C n = gS D n := cmpC_zero (by omega)
    rw [List.take_succ_eq_append_getElem (show n < C.length by omega), List.take_succ_eq_append_getElem (show n < D.length by omega), ih, ← gS_at, ← gS_at, k4]
theorem NmOk.unique {l : List Tok} {C D : List (List UInt8)} (hC : NmOk l C) (hD : NmOk l D) : C = D := by
  have hm : ∀ s, s ∈ C ↔ s ∈ D := fun s => (hC.mem s).trans (hD.mem s).symm
  have key : ∀ (C D : List (List UInt8)), (∀ p, p + 1 < C.length → cmpC (gS C p) (gS C (p + 1)) < 0) → (∀ p, p + 1 < D.length → cmpC (gS D p) (gS D (p + 1)) < 0) → (∀ s, s ∈ C ↔ s ∈ D) → D.length ≤ C.length := by
    intro C D hC hD hm
    apply Nat.le_of_not_lt
    intro hlt
    have ht := ord_eq C.length C D hC hD hm (Nat.le_refl _) (by omega)
    rw [List.take_length] at ht
    have h1 : gS D C.length ∈ C := (hm _).2 (gS_mem.2 ⟨C.length, hlt, rfl⟩)
    obtain ⟨i, hi, e⟩ := gS_mem.1 h1
    have h2 : gS C i = gS D i := by
      have e2 : C[i]? = (D.take C.length)[i]? := by rw [← ht]
      rw [List.getElem?_take, if_pos hi] at e2
      unfold gS; rw [e2]
    have h3 := ord_inj hD hi hlt
    rw [← h2, e] at h3
    have h0 := cmpC_self (gS D C.length)
    omega
  have h1 := key C D hC.ord hD.ord hm
  have h2 := key D C hD.ord hC.ord fun s => (hm s).symm
  have := ord_eq C.length C D hC.ord hD.ord hm (Nat.le_refl _) h2
  rw [List.take_length, List.take_of_length_le h1] at this
  exact this
set_option maxRecDepth 40000 in
theorem Names15_spec {S : Nat → Prop} {a : Option Addr} {n c : Nat} (l : List Tok) (hR : RowAt encTk S w a n l) (hn : n ≤ 2000) (hbig : ∀ x ∈ l, x.a.length ≤ 1000000000)
    (h : ∀ a' c' C w', NmOk l C → RowAt Sh.encStr (fun k => w.heap.size ≤ k) w' a' C.length C → Ext w w' → R (.returned (.slice a' C.length c')) w') :
    Calls Tryz.prog F_ref15_Names ⟨[.slice a n c]⟩ w R := by
  apply c_ref15_Names
  have hln := hR.1
  refine ⟨fun oa on oc i W m => ∃ (k : Nat) (C : List (List UInt8)), i = k ∧ k ≤ n ∧ m = n - k ∧ NmOk (l.take k) C ∧ on = C.length ∧ OwnL Sh.encStr W w.heap.size 9 oa on oc C ∧ Ext w W, ⟨_, 0, [], rfl, by omega, rfl, ⟨fun s => by simp [nmsL], fun p hp => by simp at hp, by simp⟩, rfl, Owns.nil _ _ _ _, Below.refl _ _⟩, ?_⟩
  rintro oa on oc _ W m ⟨k, C, rfl, hk, rfl, hC, rfl, hO, he⟩ _
  have hCl := hC.len
  have htl : (l.take k).length ≤ k := by rw [List.length_take]; omega
  have zW := he.size
  refine br_split (fun hlt => ?_) (fun hge => ?_)
  · have hkl : k < l.length := by omega
    have htk : l.take (k + 1) = l.take k ++ [l[k]] := List.take_succ_eq_append_getElem hkl
    have hx : l[k]? = some l[k] := by simp [hkl]
    have hbx := hbig l[k] (List.getElem_mem hkl)
    generalize l[k] = x at *
    have cellx : ∀ v, Ext w v → ∃ q : Addr, (∀ K : Addr → Prop, K q → idx a n (k : Int) 6 K) ∧ v.cell? (q.add 5) = some (.string ⟨⟨x.a⟩⟩) := fun v hv => by
      obtain ⟨q, hq, c0, c1, c2, c3, c4, c5⟩ := tok_get (hR.ext hv) hx
      exact ⟨q, hq, c5⟩
    have next : ∀ (v : World) (oa' : Option Addr) (on' oc' : Nat) (C' : List (List UInt8)), NmOk (l.take (k + 1)) C' → on' = C'.length → OwnL Sh.encStr v w.heap.size 9 oa' on' oc' C' → Ext w v → ∃ m', m' < n - k ∧ ∃ (k' : Nat) (D : List (List UInt8)), IntKind.i64.wrap ((k : Int) + 1) = k' ∧ k' ≤ n ∧ m' = n - k' ∧ NmOk (l.take k') D ∧ on' = D.length ∧ OwnL Sh.encStr v w.heap.size 9 oa' on' oc' D ∧ Ext w v :=
      fun v oa' on' oc' C' q1 q2 q3 q4 => ⟨n - (k + 1), by omega, k + 1, C', by rw [wrap_nat (by omega)], by omega, rfl, q1, q2, q3, q4⟩
    obtain ⟨q, hq, c5⟩ := cellx W he
    refine hq _ ⟨_, c5, br_split (fun g => next W oa C.length oc C (by rw [htk]; exact hC.skip g) rfl hO he) (fun g => ?_)⟩
    intro K11 hK11
    -- the place has been found
    have k11 : ∀ (j : Nat) (v : World), j ≤ C.length → (∀ i, i < j → cmpC (gS C i) x.a < 0) → (j < C.length → ¬ cmpC (gS C j) x.a < 0) → Ext W v → K11 (j : Int) v := by
      intro j v hj h1 h2 ev
      refine hK11 _ _ fun _ => ?_
      intro K14 hK14
      have k14 : ∀ u, Ext W u → (j < C.length → gS C j ≠ x.a) → K14 u := by
        intro u eu h3
        refine hK14 _ fun _ => ?_
        unfold drw
        have ed := ext_trans eu (ext_drew u)
        have Ed := ext_trans he ed
        generalize u.drew = ud at *
        have hOd := Owns.ext hO ed
        have hcap : C.length ≤ oc := by
          rcases hO.2 with h | ⟨g', cap, cur, e1, e2, e3, e4, e5⟩
          · omega
          · injection e1 with _ _ e1; omega
        have hz0 : slA oa j 0 1 = oa := by
          refine Go.Sh.slA_zero oa j ?_
          rcases hO.2 with h | ⟨g', cap, cur, e1, _⟩
          · injection h.1 with h1; exact .inl h1
          · injection e1 with h1; exact .inr ⟨g', h1⟩
        refine ⟨by omega, by omega, by omega, by omega, ?_⟩
        rw [show (0 : Int).toNat = 0 from rfl, Int.toNat_natCast, Nat.sub_zero, hz0]
        obtain ⟨q2, hq2, d5⟩ := cellx ud Ed
        refine hq2 _ ⟨_, d5, ⟨by omega, by omega, by omega, ?_⟩⟩
        rw [Int.toNat_natCast, Int.toNat_natCast]
        refine ⟨?_, trivial⟩
        refine al_intro fun b21 w22 hb21 B21 e22 s22 => ⟨?_, trivial⟩
        have hrow := (row_drop hOd hj).ext e22
        have z22 := (ext_trans Ed e22).size
        have hbl : Blk w22 b21 ((List.replicate 1 (Sh.encStr.enc x.a)).flatten) 9 := B21
        have hone : OwnL Sh.encStr w22 w.heap.size 9 (some ⟨b21, 0, none⟩) 1 1 [x.a] := OwnL.made (E := Sh.encStr) (x := x.a) (n := 1) (B := w.heap.size) hbl (by have := Ed.size; omega) (by decide)
        refine OwnL.pushAll (P := Tryz.prog) slT_strT hone (by omega) hrow (by omega) (by omega) fun a23 c23 w24 ho24 hc24 hn24 => ⟨?_, trivial⟩
        have hO22 := Owns.ext hOd e22
        have hx24 : ∀ i, bk (some (⟨b21, 0, none⟩ : Addr)) i → i = b21 := fun i hi => by simpa [bk] using hi.symm
        have hob : ∀ i, bk oa i → ¬ bk (some (⟨b21, 0, none⟩ : Addr)) i := fun i hi hh => by
          have h1 := (Owns.bk hOd hi).2
          have h2 := hx24 i hh
          omega
        have hO24 := hO22.chg hc24 hob
        have E24 : Ext w w24 := ext_chgS (ext_trans Ed e22) hc24 fun i hi => by have := hx24 i hi; have := Ed.size; omega
        have hl24 : ([x.a] ++ C.drop j).length = 1 + (C.length - j) := by simp; omega
        have hAt : At (bk oa) w24 oa (Sh.encStr.row (C.take j)) := by
          by_cases hj0 : j = 0
          · left; subst hj0; simp
          · obtain ⟨g2, hg2, hgl, hcl⟩ := Owns.cell hO24 (by omega)
            right
            refine ⟨g2, 0, hg2, by rw [hg2]; simp [bk], (Owns.bk hO24 (k := g2) (by rw [hg2]; simp [bk])).2, fun i v hi => ?_⟩
            rw [Nat.zero_add]
            refine hcl i v ?_
            rw [row_strs] at hi ⊢
            rw [List.map_take, List.getElem?_take] at hi
            split at hi
            · exact hi
            · cases hi
        refine app_full (P := Tryz.prog) slT_strT (n := j) (by rw [row_len, List.length_take, Nat.min_eq_left hj]; rfl) hAt (fun hh => ?_) (news := Sh.encStr.row ([x.a] ++ C.drop j)) (by rw [row_len, hl24]; rfl) (OwnL.out ho24).2 (row_one _) (by omega) (fun p hp => ?_) (by omega) (by omega) fun a25 c25 w26 ho26 e26 => ?_
        · rcases hO.2 with h | ⟨g', cap, cur, e1, _⟩
          · omega
          · injection e1 with h1; rw [hh] at h1; cases h1
        · rcases hO.2 with h | ⟨g', cap, cur, e1, _⟩
          · injection h.1 with h1; rw [hp] at h1; cases h1
          · injection e1 with h1; rw [hp] at h1; exact ⟨g', 0, Option.some.inj h1⟩
        · have hlen : (C.take j ++ x.a :: C.drop j).length = j + (1 + (C.length - j)) := by simp; omega
          refine next w26 a25 _ c25 (C.take j ++ x.a :: C.drop j) (by rw [htk]; exact hC.ins g hj h1 fun hjc => ⟨h2 hjc, h3 hjc⟩) hlen.symm ?_ (ext_trans E24 e26)
          have : Sh.encStr.row (C.take j ++ x.a :: C.drop j) = Sh.encStr.row (C.take j) ++ Sh.encStr.row ([x.a] ++ C.drop j) := by rw [row_app]; rfl
          show Owns w26 w.heap.size 9 1 a25 _ c25 (Sh.encStr.row _)
          rw [this]
          exact Owns.weak ho26 E24.size
      unfold drw
      have ed := ext_trans ev (ext_drew v)
      have Ed := ext_trans he ed
      generalize v.drew = vd at *
      refine br_split (fun hlt2 => ?_) (fun hge2 => k14 vd ed fun hh => by omega)
      have hjl : j < C.length := by omega
      have hOd := Owns.ext hO ed
      obtain ⟨q3, hq3, d3⟩ := tkget_str (OwnL.out hOd) hjl
      obtain ⟨q2, hq2, d5⟩ := cellx vd Ed
      refine hq3 _ ⟨_, d3, hq2 _ ⟨_, d5, br_split (fun heq => ?_) (fun hne => k14 vd ed fun _ => by rw [gS_at hjl]; exact hne)⟩⟩
      refine next vd oa C.length oc C ?_ rfl hOd Ed
      rw [htk]
      exact hC.has (by rw [← heq]; exact List.getElem_mem hjl)
    refine ⟨fun j' V m' => ∃ j : Nat, j' = j ∧ j ≤ C.length ∧ m' = C.length - j ∧ (∀ i, i < j → cmpC (gS C i) x.a < 0) ∧ Ext W V, ⟨_, 0, rfl, by omega, rfl, fun i hi => by omega, Below.refl _ _⟩, ?_⟩
    rintro _ V m' ⟨j, rfl, hj, rfl, hlt1, eV⟩ _
    unfold drw
    have ed := ext_trans eV (ext_drew V)
    have Ed := ext_trans he ed
    generalize V.drew = vd at *
    refine br_split (fun hl2 => ?_) (fun hg2 => ⟨k11 j vd hj hlt1 (fun hh => by omega) ed, trivial⟩)
    have hjl : j < C.length := by omega
    have hOd := Owns.ext hO ed
    obtain ⟨q3, hq3, d3⟩ := tkget_str (OwnL.out hOd) hjl
    obtain ⟨q2, hq2, d5⟩ := cellx vd Ed
    refine hq3 _ ⟨_, d3, hq2 _ ⟨_, d5, ⟨?_, trivial⟩⟩⟩
    have hCb : C[j].length ≤ 1000000000 := by
      have := (hC.mem C[j]).1 (List.getElem_mem hjl)
      obtain ⟨_, y, hy, e⟩ := nmsL_mem.1 this
      rw [← e]; exact hbig y (List.mem_of_mem_take hy)
    refine Compare01_spec _ _ hCb hbx fun w45 e45 => ⟨_, rfl, br_split (fun g3 => ?_) (fun g3 => k11 j w45 hj hlt1 (fun _ => by rw [gS_at hjl]; exact g3) (ext_trans ed e45))⟩
    refine ⟨C.length - (j + 1), by omega, j + 1, by rw [wrap_nat (by omega)], by omega, rfl, fun i hi => ?_, ext_trans ed e45⟩
    by_cases hij : i = j
    · subst hij; rw [gS_at hjl]; exact g3
    · exact hlt1 i (by omega)
  · rw [List.take_of_length_le (by omega)] at hC
    exact h oa oc C W hC ((OwnL.out hO).imp fun i hi _ => (Owns.bk hO hi).1) he
end
end Go.Proofs
namespace Go.Proofs
open Go Go.Sh Go.RowKit

/- the law Strings -/
section
variable {R : Ending → World → Prop} {w : World}
end
end Go.Proofs
namespace Go.Proofs
open Go Go.Sh Go.RowKit

/- sizes of tokens, and the law Names -/
def lngS (s : List UInt8) : Bool := (decide (12 < s.length) && decide (s.length ≤ 64)) || decide (66 < s.length)
def grT1 (x : Tok) : Bool := lngS x.t || (lngS x.m || (lngS x.a || lngS x.p.1))
def grT (l : List Tok) (N : Nat) : Bool := ((decide (N < l.length) && decide (l.length ≤ 1024)) || decide (1026 < l.length)) || l.any grT1
section
variable {R : Ending → World → Prop} {w : World}
theorem lng_spec (s : List UInt8) (h : R (.returned (.bool (lngS s))) w) : Calls Tryz.prog F_ref15_long ⟨[.string ⟨⟨s⟩⟩]⟩ w R := by
  apply c_ref15_long
  have e3 : decide ((66 : Int) < ((s.length : Nat) : Int)) = decide (66 < s.length) := decide_eq_decide.2 (by omega)
  unfold lngS at h
  refine br_split (fun g => br_split (fun g2 => ?_) (fun g2 => ?_)) (fun g => ?_)
  · rw [decide_eq_true (by omega), decide_eq_true (by omega)] at h; exact h
  · rw [decide_eq_true (by omega : 12 < s.length), decide_eq_false (by omega : ¬ s.length ≤ 64)] at h
    rw [e3]; exact h
  · rw [decide_eq_false (by omega : ¬ 12 < s.length)] at h
    rw [e3]; exact h
set_option maxRecDepth 20000 in
theorem GreatT_spec {S : Nat → Prop} {a : Option Addr} {n c : Nat} (l : List Tok) (N : Nat) (hR : RowAt encTk S w a n l) (h : R (.returned (.bool (grT l N))) w) : Calls Tryz.prog F_ref15_Great ⟨[.slice a n c, .int .i64 (N : Int)]⟩ w R := by
  apply c_ref15_Great
  have hln := hR.1
  intro K3 hK3
  have yes : ((decide (N < l.length) && decide (l.length ≤ 1024)) || decide (1026 < l.length)) = true → R (.returned (.bool true)) w := fun hh => by
    have : grT l N = true := by unfold grT; rw [hh, Bool.true_or]
    rw [this] at h; exact h
  have k3 : ((decide (N < l.length) && decide (l.length ≤ 1024)) || decide (1026 < l.length)) = false → K3 w := by
    intro hno
    have h26 : l.length ≤ 1026 := by simp at hno; omega
    have hE : grT l N = l.any grT1 := by unfold grT; rw [hno, Bool.false_or]
    rw [hE] at h
    refine hK3 _ fun _ => ?_
    refine ⟨fun i W m => ∃ k : Nat, i = k ∧ k ≤ n ∧ m = n - k ∧ (l.take k).any grT1 = false ∧ W = w, ⟨_, 0, rfl, by omega, rfl, rfl, rfl⟩, ?_⟩
    rintro _ W m ⟨k, rfl, hk, rfl, hz, rfl⟩ _
    refine br_split (fun hlt => ?_) (fun hge => ?_)
    · have hkl : k < l.length := by omega
      obtain ⟨b, o, hq, _, _, hc⟩ := hR.get (show l[k]? = some l[k] by simp [hkl])
      have c0 : W.cell? ((⟨b, o, none⟩ : Addr).add 0) = some (.string ⟨⟨l[k].t⟩⟩) := by rw [add_none]; exact hc 0 _ rfl
      have c1 : W.cell? ((⟨b, o, none⟩ : Addr).add 1) = some (.string ⟨⟨l[k].m⟩⟩) := by rw [add_none]; exact hc 1 _ rfl
      have c5 : W.cell? ((⟨b, o, none⟩ : Addr).add 5) = some (.string ⟨⟨l[k].a⟩⟩) := by rw [add_none]; exact hc 5 _ rfl
      have c20 : W.cell? (((⟨b, o, none⟩ : Addr).add 2).add 0) = some (.string ⟨⟨l[k].p.1⟩⟩) := by simp only [add_none]; exact hc 2 _ rfl
      have tr : grT1 l[k] = true → R (.returned (.bool true)) W := fun hg => by
        have : l.any grT1 = true := List.any_eq_true.2 ⟨_, List.getElem_mem hkl, hg⟩
        rw [this] at h; exact h
      have no : grT1 l[k] = false → ∃ m', m' < n - k ∧ ∃ k' : Nat, IntKind.i64.wrap ((k : Int) + 1) = k' ∧ k' ≤ n ∧ m' = n - k' ∧ (l.take k').any grT1 = false ∧ W = W := fun hg =>
        ⟨n - (k + 1), by omega, k + 1, by rw [wrap_nat (by omega)], by omega, rfl, by rw [List.take_succ_eq_append_getElem hkl, List.any_append, hz]; simp [hg], rfl⟩
      generalize l[k] = x at *
      refine hq _ ⟨_, c0, lng_spec _ ⟨_, rfl, br_cases (fun g1 => tr (by unfold grT1; rw [g1]; rfl)) (fun g1 => hq _ ⟨_, c1, lng_spec _ ⟨_, rfl, br_cases (fun g2 => tr (by unfold grT1; rw [g2]; simp)) (fun g2 => hq _ ⟨_, c5, lng_spec _ ⟨_, rfl, br_cases (fun g3 => tr (by unfold grT1; rw [g3]; simp)) (fun g3 => hq _ ⟨_, c20, lng_spec _ ⟨_, rfl, br_cases (fun g4 => tr (by unfold grT1; rw [g4]; simp)) (fun g4 => no (by unfold grT1; rw [g1, g2, g3, g4]; rfl))⟩⟩)⟩⟩)⟩⟩)⟩⟩
    · rw [List.take_of_length_le (by omega)] at hz
      rw [hz] at h
      exact h
  refine br_split (fun g1 => br_split (fun g2 => yes (by simp; omega)) (fun g2 => br_split (fun g3 => yes (by simp; omega)) (fun g3 => k3 (by simp; omega)))) (fun g1 => br_split (fun g3 => yes (by simp; omega)) (fun g3 => k3 (by simp; omega)))
end
end Go.Proofs
namespace Go.Proofs
open Go Go.Sh Go.RowKit

/- the law Reads -/
theorem nrz_eq (rs : List Rw) (l : List Tok) : nrzE rs l = nmE rs l ∧ nrzR rs l = nmR rs l := by
  have h1 : nrzE rs l = nmE rs l := by
    unfold nrzE nmE chkAll
    by_cases h1 : ruleE rs ≠ 0
    · rw [if_pos h1, if_pos h1]
    · rw [if_neg h1, if_neg h1]
      by_cases h2 : 1024 < l.length
      · rw [if_pos h2, if_pos h2]; rfl
      · rw [if_neg h2, if_neg h2]
        by_cases h3 : (l.any fun x => decide (tokE x ≠ 0)) = true
        · rw [if_pos h3, if_pos h3]; rfl
        · rw [if_neg h3, if_neg h3]; rfl
  exact ⟨h1, by unfold nrzR nmR; rw [h1]⟩
theorem tok_len {x : Tok} (h : tokE x = 0) : x.t.length ≤ 64 := by
  unfold tokE at h
  split at h
  · cases h
  split at h
  · cases h
  split at h
  · cases h
  rename_i h3
  have h3 : textB x = true := by simpa using h3
  unfold textB at h3
  split at h3
  · rw [Bool.and_eq_true] at h3
    obtain ⟨n, n1, n2, n3⟩ := (gapB_iff x.t).1 h3.1
    have := gapT_len n n2 (by omega)
    rw [n3] at this; omega
  split at h3
  · rw [Bool.and_eq_true] at h3
    have h4 := h3.1
    unfold markB at h4
    split at h4
    · rename_i heq; rw [heq]; simp
    · cases h4
  · rw [Bool.and_eq_true] at h3
    have h4 := h3.1
    unfold isWordF at h4
    simp only [Bool.and_eq_true, decide_eq_true_eq] at h4
    exact h4.1.1.1.2
theorem lng_len {s : List UInt8} (h : lngS s = false) : s.length ≤ 66 := by
  unfold lngS at h
  rw [Bool.or_eq_false_iff, decide_eq_false_iff_not] at h
  omega
section
variable {R : Ending → World → Prop} {w : World}
set_option maxRecDepth 40000 in
theorem TokenizerReads_spec {S S2 : Nat → Prop} {a a2 : Option Addr} {n c n2 c2 : Nat} (l : List Tok) (s : List UInt8) (rs : List Rw) (hF : Forms w) (hM : Mk w) (hL : RowAt encTk S w a n l) (hR : RowAt encRw S2 w a2 n2 rs)
    (h : ∀ w', Ext w w' → R (.returned (.bool true)) w') : Calls Tryz.prog F_law15_TokenizerReads ⟨[.slice a n c, .string ⟨⟨s⟩⟩, .slice a2 n2 c2]⟩ w R := by
  apply c_law15_TokenizerReads
  have hln := hL.1
  have aw : ∀ {v : World}, Ext w v → Calls Tryz.prog F_law15_awake ⟨[]⟩ v fun (e100 : Ending) (w101 : World) => ∃ (x102 : Bool), e100 = .returned (.bool x102) ∧ (R (.returned (.bool x102)) w101) := fun hv =>
    awake15_spec (hF.ext hv) fun w3 e3 => ⟨_, rfl, h w3 (ext_trans hv e3)⟩
  intro K4 hK4
  have k4 : grT l 10 = false → greatRu rs = false → s.length ≤ 70 → K4 w := by
    intro hg hgr hs
    refine hK4 _ fun _ => ?_
    have hsm := smallR_of hgr
    unfold grT at hg
    rw [Bool.or_eq_false_iff, Bool.or_eq_false_iff, decide_eq_false_iff_not] at hg
    obtain ⟨⟨_, hg1⟩, hg2⟩ := hg
    have hlx : ∀ x ∈ l, x.t.length ≤ 66 ∧ x.m.length ≤ 66 ∧ x.a.length ≤ 66 := by
      intro x hx
      have := List.any_eq_false.1 hg2 x hx
      rw [Bool.not_eq_true] at this
      unfold grT1 at this
      rw [Bool.or_eq_false_iff, Bool.or_eq_false_iff, Bool.or_eq_false_iff] at this
      exact ⟨lng_len this.1, lng_len this.2.1, lng_len this.2.2.1⟩
    have hbig : ∀ x ∈ l, bigT x := fun x hx => ⟨by have := (hlx x hx).1; omega, by have := (hlx x hx).2.1; omega⟩
    have hmm : ∀ x ∈ l, x.m.length ≤ 4611686018427387904 := fun x hx => (hbig x hx).2
    refine ⟨fun i W m => ∃ k : Nat, i = k ∧ k ≤ min n 12 ∧ m = 12 - k ∧ Ext w W, ⟨_, 0, rfl, by omega, rfl, Below.refl _ _⟩, ?_⟩
    rintro _ W m ⟨k, rfl, hk, rfl, he⟩ _
    refine br_split (fun hlt => ?_) (fun hge => ?_)
    · have hkl : k < l.length := by omega
      have hx : l[k]? = some l[k] := by simp [hkl]
      have hbx := hbig l[k] (List.getElem_mem hkl)
      generalize l[k] = x at *
      unfold drw
      have Ed := ext_trans he (ext_drew W)
      generalize W.drew = wd at *
      obtain ⟨q, hq, c0, c1, c2, c3, c4, c5⟩ := tok_get (hL.ext Ed) hx
      have fin : ∀ v, Ext w v → br (decide (tokE x ≠ tokE x)) (R (.returned (.bool false)) v) (∃ m' : Nat, m' < 12 - k ∧ ∃ k' : Nat, IntKind.i64.wrap ((k : Int) + 1) = k' ∧ k' ≤ min n 12 ∧ m' = 12 - k' ∧ Ext w v) := fun v hv =>
        br_neg (fun hh => hh rfl) ⟨12 - (k + 1), by omega, k + 1, by rw [wrap_nat (by omega)], by omega, rfl, hv⟩
      refine hq _ ⟨_, c0, _, c1, _, c2, _, c3, _, c4, _, c5, hq _ ⟨?_, ?_⟩⟩
      · refine TokCheck_spec x hbx.1 hbx.2 (hM.ext Ed) fun w21 e21 => ⟨_, rfl, ?_⟩
        have E21 := ext_trans Ed e21
        obtain ⟨q', hq', d0, d1, d2, d3, d4, d5⟩ := tok_get (hL.ext E21) hx
        have hqq : q' = q := by
          have e1 := hq' (fun p => p = q') rfl
          have e2 := hq (fun p => p = q) rfl
          obtain ⟨_, _, e1⟩ := e1
          obtain ⟨_, _, e2⟩ := e2
          cases a with
          | none => exact e1.elim
          | some p => exact e1.symm.trans e2
        subst hqq
        refine ⟨_, d0, _, d1, _, d2, _, d3, _, d4, _, d5, ?_, trivial⟩
        exact Check15r_spec x hbx.2 fun w30 e30 => ⟨_, rfl, fin w30 (ext_trans E21 e30)⟩
      · refine ⟨⟨_, c0, _, c1, _, c2, _, c3, _, c4, _, c5, ?_, trivial⟩, trivial⟩
        refine TokCheck_spec x hbx.1 hbx.2 (hM.ext Ed) fun w40 e40 => ⟨_, rfl, ?_, trivial⟩
        exact Check15r_spec x hbx.2 fun w43 e43 => ⟨_, rfl, fin w43 (ext_trans (ext_trans Ed e40) e43)⟩
    · refine Text15_spec l (hM.ext he) hbig (by omega) (hL.ext he) (fun x _ hx => tok_len hx) fun w47 e47 => ⟨_, _, rfl, ?_⟩
      have E47 := ext_trans he e47
      refine Text15r_spec l hmm (fun x hx => by have := (hlx x hx).1; omega) (hL.ext E47) fun w51 e51 => ⟨_, _, rfl, ?_⟩
      have E51 := ext_trans E47 e51
      refine Split_spec s (by omega) (hF.ext E51) fun a55 n55 c55 w55 hn55 hO55 e55 => ⟨_, _, _, _, rfl, ?_⟩
      have E55 := ext_trans E51 e55
      refine Split15_spec s (by omega) fun a59 n59 c59 w59 hn59 hO59 e59 => ⟨_, _, _, _, rfl, ?_⟩
      have E59 := ext_trans E55 e59
      refine Normalize15_spec rs l (hM.ext E59) hsm hbig (by omega) (hR.ext E59) (hL.ext E59) fun a63 n63 c63 w63 hR63 e63 => ⟨_, _, _, _, rfl, ?_⟩
      have E63 := ext_trans E59 e63
      refine Normalize15r_spec rs l hsm hmm (hR.ext E63) (hL.ext E63) fun a67 n67 c67 w67 e67 hO67 => ⟨_, _, _, _, rfl, ?_⟩
      have E67 := ext_trans E63 e67
      rw [(nrz_eq rs l).1]
      rw [(nrz_eq rs l).2] at hO67
      refine br_pos rfl (br_pos rfl ?_)
      have hspl : (splR s).length ≤ 1000000000 := by
        unfold splR
        split
        · simp
        split
        · simp
        · unfold txs
          rw [List.length_map]
          have := tks_len ([], 0) (.one 1 s 0 .nil) []
          omega
      refine EqStr_spec (splR s) (splR s) (((OwnL.out hO55).ext (ext_trans (ext_trans e59 e63) e67))) ((OwnL.out hO59).ext (ext_trans e63 e67)) hspl fun w71 e71 => ⟨_, rfl, ?_⟩
      rw [decide_eq_true (show splR s = splR s from rfl)]
      simp only [br_t]
      have E71 := ext_trans E67 e71
      refine br_pos (by simp) ?_
      have hnl : (nmR rs l).length ≤ 1026 := by unfold nmR; split <;> simp <;> omega
      refine Same15_spec (nmR rs l) (nmR rs l) (hR63.ext (ext_trans e67 e71)) ((OwnL.out hO67).ext e71) (by have := hR63.1; omega) fun w74 e74 => ⟨_, rfl, ?_⟩
      rw [decide_eq_true (show nmR rs l = nmR rs l from rfl)]
      simp only [br_t]
      have E74 := ext_trans E71 e74
      refine br_pos (by simp) ?_
      refine Words_spec l (hL.ext E74) (by omega) fun a78 c78 w77 hO78 e77 => ⟨_, _, _, rfl, ?_⟩
      have E77 := ext_trans E74 e77
      refine Words15_spec l (hL.ext E77) (by omega) fun a81 c81 w80 hO81 e80 => ⟨_, _, _, rfl, ?_⟩
      have E80 := ext_trans E77 e80
      refine EqStr_spec (txs l) (txs l) ((OwnL.out hO78).ext e80) (OwnL.out hO81) (by unfold txs; rw [List.length_map]; omega) fun w83 e83 => ⟨_, rfl, ?_⟩
      rw [decide_eq_true (show txs l = txs l from rfl)]
      simp only [br_t]
      have E83 := ext_trans E80 e83
      have hab : ∀ x ∈ l, x.a.length ≤ 1000000000 := fun x hx => by have := (hlx x hx).2.2; omega
      refine NamesAny_spec l (hL.ext E83) (by omega) hab fun a87 c87 C w86 hC hR87 e86 => ⟨_, _, _, rfl, ?_⟩
      have E86 := ext_trans E83 e86
      refine Names15_spec l (hL.ext E86) (by omega) hab fun a90 c90 D w89 hD hR90 e89 => ⟨_, _, _, rfl, ?_⟩
      have E89 := ext_trans E86 e89
      have hCD := hC.unique hD
      subst hCD
      refine EqStr_spec C C (hR87.ext e89) hR90 (by have := hC.len; omega) fun w92 e92 => ⟨_, rfl, ?_⟩
      rw [decide_eq_true (show C = C from rfl)]
      simp only [br_t]
      exact aw (ext_trans E89 e92)
  have h10 : ((10 : Nat) : Int) = 10 := rfl
  refine GreatT_spec l 10 hL ⟨_, rfl, br_cases (fun g => aw (Below.refl _ _)) (fun g => ?_)⟩
  refine GreatRules_spec rs hR ⟨_, rfl, br_cases (fun g2 => aw (Below.refl _ _)) (fun g2 => br_split (fun g3 => aw (Below.refl _ _)) (fun g3 => k4 g g2 (by omega)))⟩
end
end Go.Proofs
