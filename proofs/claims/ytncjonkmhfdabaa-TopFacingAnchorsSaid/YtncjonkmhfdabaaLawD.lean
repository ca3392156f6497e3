/- The contracts of the functions that the law reaches, one after the other, and at the end the law's card. -/
import Derived.Test.YtncjonkmhfdabaaLawC
import Derived.Lib.AppendZerosOnto
import Derived.Carry
import Derived.ChangeSame
import Derived.RowKit
import Derived.OpenShut
import Derived.Deep.Slices
import Derived.Deep.DeepHandedRow
import Derived.Lib.SmallJoins
import Derived.SizedLaws
import Derived.Test.YtncjonkmhfdabaaRows
import Derived.Lib.LaidTab
import Derived.WalkKit
import Derived.ProofKit
import Derived.ChangeMaps5
namespace Go.Proofs
open Go Go.Sh Go.RowKit
/- lists of lists of numbers: cloned, sorted, put together; facing.Together -/
theorem grow_nilT {P : Program} {t tn ty e : TypeId} {size bytes : Nat} {z : Value} (hT : SlT P t e size bytes z) (htn : P.underlying tn = some (.int .i64)) {w : World} {B : Nat} (hB : B ≤ w.heap.size) (k : Nat) (h0 : 0 < k) (hb : k * bytes ≤ 140737488355328) (hk63 : k ≤ 4611686018427387904)
    {K : Option Addr → Nat → Nat → World → Prop} (hk : ∀ (c : Nat) w', Owns w' B e size (some ⟨w.heap.size, 0, none⟩) 0 c [] → Ext w w' → K (some ⟨w.heap.size, 0, none⟩) k c w') :
    app P [t, tn] ty (.slice none 0 0) (.int .i64 (k : Int)) w K := by
  obtain ⟨i, hi, hz, hs, hbb⟩ := hT.get
  have hpos := hT.pos
  have hr := Lib.run_append_grow_zeros (P := P) w t tn ty e i z .i64 .i64 hT.under htn hi hz none 0 0 [] (run_firstCells_none w.drew i.size 0 0 0) k h0 (by omega) (by omega) (by omega) (by rw [hbb]; omega) (by
    rw [hbb]; exact growslice_fits (by omega) (by rw [Nat.zero_add]; omega))
  rw [Nat.zero_add] at hr
  refine ⟨_, _, _, _, hr, hk _ _ ?_ (ext_trans (ext_drew w) ((Below.refl _ _).alloc (Nat.le_refl _) _))⟩
  refine ⟨by simp, .inr ⟨w.heap.size, _, #[] ++ Builtin.zeroCells z.cells k ++ Builtin.zeroCells z.cells (grownCap w k 0 e - k), rfl, hB, ?_, Nat.zero_le _, grownCap_le_maxLen w k 0 e (by simp only [maxLen]; omega), ?_, by simp⟩⟩
  · exact heap_alloc_new w.drew _
  · have hge := grownCap_ge w k 0 e
    have hzs : z.cells.size = i.size := by rw [hT.zs, hs]
    simp only [Builtin.zeroCells, Array.size_append, Array.size_map, Array.size_range, hzs, hs, List.size_toArray, List.length_nil, Nat.zero_add]
    rw [← Nat.add_mul]
    congr 1
    omega
theorem mem_swp {α : Type} {M : List α} {i j : Nat} (hi : i < M.length) (hj : j < M.length) (hne : i ≠ j) (x : α) : x ∈ (M.set j M[i]).set i M[j] ↔ x ∈ M := by
  rw [List.mem_iff_getElem?, List.mem_iff_getElem?]
  constructor
  · rintro ⟨k, hk⟩
    rw [List.getElem?_set] at hk
    by_cases e : i = k
    · rw [if_pos e, if_pos (by simp; omega)] at hk
      exact ⟨j, by rw [List.getElem?_eq_getElem hj]; exact hk⟩
    · rw [if_neg e, List.getElem?_set] at hk
      by_cases e2 : j = k
      · rw [if_pos e2, if_pos hj] at hk
        exact ⟨i, by rw [List.getElem?_eq_getElem hi]; exact hk⟩
      · rw [if_neg e2] at hk; exact ⟨k, hk⟩
  · rintro ⟨k, hk⟩
    by_cases e : k = j
    · refine ⟨i, ?_⟩
      rw [List.getElem?_set, if_pos rfl, if_pos (by simp; omega)]
      rw [e, List.getElem?_eq_getElem hj] at hk; exact hk
    · by_cases e2 : k = i
      · refine ⟨j, ?_⟩
        rw [List.getElem?_set, if_neg hne, List.getElem?_set, if_pos rfl, if_pos hj]
        rw [e2, List.getElem?_eq_getElem hi] at hk; exact hk
      · refine ⟨k, ?_⟩
        rw [List.getElem?_set, if_neg (fun q => e2 q.symm), List.getElem?_set, if_neg (fun q => e q.symm)]; exact hk
section
variable {R : Ending → World → Prop} {S S2 : Nat → Prop} {w : World} {a : Option Addr} {n c : Nat}
theorem CloneL_spec {L : List (List Int)} (h1 : RowV vIs S w a n L) (hs : n ≤ 1000000000)
    (h : ∀ a' c' w', OwnV vIs (fun k => S k ∧ k < w.heap.size) 27 w.heap.size w' a' n c' L → Ext w w' → R (.returned (.slice a' n c')) w') : Calls Try.prog F_slices_Clone_of_int_intL ⟨[.slice a n c]⟩ w R := by
  apply c_slices_Clone_of_int_intL
  have hn := h1.1
  refine br_cases (fun hz => ?_) (fun hz => ?_)
  · obtain rfl : a = none := by cases a <;> simp_all
    obtain rfl : L = [] := h1.isNone
    have hn0 : n = 0 := hn
    subst hn0
    exact h none 0 w (OwnV.nil w) (Below.refl _ _)
  · refine al_intro fun b w1 hb B1 e1 s1 => ?_
    have z1 := e1.size
    have hO : OwnV vIs (fun k => S k ∧ k < w.heap.size) 27 w.heap.size w1 (some ⟨b, 0, none⟩) 0 0 [] := ⟨rfl, [], Owns.made B1 (by omega), rfl⟩
    have h2 := (h1.imp (S' := fun k => S k ∧ k < w.heap.size) fun k hk hl => ⟨hk, hl⟩).ext e1
    refine hO.pushAll slT_ints (by omega) h2 (fun us hu => hu.keep (fun k hk _ => ⟨⟨hk, fun hh => ?_⟩, rfl⟩) (Nat.le_refl _)) (by omega) (by omega) fun a' c' w' ho hc hn' => ?_
    · rw [Nat.zero_add] at ho ⊢
      exact h a' c' w' ho (ext_own e1 hc fun k hk => by simp [bk] at hk; omega)
    · have : b = k := by simpa [bk] using hh
      omega
/- an element of a list under way, as it stands -/
theorem ownL_get {S : Nat → Prop} {B : Nat} {L : List (List Int)} (h : OwnV vIs S 27 B w a n c L) {j : Nat} (hj : j < L.length) :
    ∃ (g : Nat) (a' : Option Addr) (c' : Nat), a = some ⟨g, 0, none⟩ ∧ w.cell? ⟨g, j, none⟩ = some (.slice a' L[j].length c') ∧ L[j].length ≤ c' ∧ vIs.C (fun k => S k ∧ ¬ bk a k) w L[j] [.slice a' L[j].length c'] ∧ RowV vI (fun k => S k ∧ ¬ bk a k) w a' L[j].length L[j] := by
  obtain ⟨hn, xs, ho, hA⟩ := h
  obtain ⟨g, rfl, _, hc⟩ := ho.cell (by omega)
  obtain ⟨us, hC, hg⟩ := hA.get (List.getElem?_eq_getElem hj)
  obtain ⟨a', c', rfl, hcl, hr⟩ := hC
  refine ⟨g, a', c', rfl, ?_, hcl, ⟨a', c', rfl, hcl, hr⟩, hr⟩
  have := hc _ _ (hg 0 _ rfl)
  rw [show j * vIs.size + 0 = j by simp [View.sl]] at this
  exact this
theorem CompareL_spec {b : Option Addr} {m d : Nat} {L M : List Int} (h1 : RowV vI S w a n L) (h2 : RowV vI S2 w b m M) (hs : n ≤ 4611686018427387904) (h : ∀ (v : Int) w', Ext w w' → R (.returned (.int .i64 v)) w') :
    Calls Try.prog F_slices_Compare_of_int_int ⟨[.slice a n c, .slice b m d]⟩ w R := by
  apply c_slices_Compare_of_int_int
  have hn := h1.1
  have hm := h2.1
  refine ⟨fun i W m' => ∃ k : Nat, i = k ∧ k ≤ n ∧ m' = n - k ∧ W = w, ⟨_, 0, rfl, by omega, rfl, rfl⟩, ?_⟩
  rintro _ W m' ⟨k, rfl, hk, rfl, rfl⟩ _
  refine br_split (fun hlt => ?_) (fun hge => br_split (fun _ => h _ _ (Below.refl _ _)) (fun _ => h _ _ (Below.refl _ _)))
  obtain ⟨p, hp, d1⟩ := h1.int (k := k) (by omega)
  refine hp _ ⟨_, d1, br_split (fun _ => h _ _ (Below.refl _ _)) (fun g => ?_)⟩
  obtain ⟨q, hq, d2⟩ := h2.int (k := k) (by omega)
  refine hq _ ⟨_, d2, ?_⟩
  apply c_cmp_Compare_of_int
  apply c_cmp_isNaN_of_int
  refine ⟨_, rfl, ?_⟩
  apply c_cmp_isNaN_of_int
  refine ⟨_, rfl, ?_⟩
  rw [decide_eq_false (by simp : ¬ L[k] ≠ L[k])]
  show br (decide (M[k] ≠ M[k])) _ _
  refine br_neg (by simp) ?_
  have fin : ∀ v : Int, ∃ (x14 : Int), Ending.returned (.int .i64 v) = .returned (.int .i64 x14) ∧ br (decide ((x14 : Int) ≠ 0)) (R (.returned (.int .i64 x14)) W) (∃ m15 : Nat, m15 < n - k ∧ ∃ k' : Nat, IntKind.i64.wrap ((k : Int) + 1) = k' ∧ k' ≤ n ∧ m15 = n - k' ∧ W = W) := fun v =>
    ⟨v, rfl, br_split (fun _ => h _ _ (Below.refl _ _)) (fun _ => ⟨n - (k + 1), by omega, k + 1, by rw [wrap_nat (by omega)], by omega, rfl, rfl⟩)⟩
  exact br_split (fun _ => fin _) (fun _ => br_split (fun _ => fin _) (fun _ => fin _))
set_option maxRecDepth 20000 in
theorem SortL_spec {B : Nat} {L : List (List Int)} (hO : OwnV vIs S 27 B w a n c L) (hn : n ≤ 12) (hL : ∀ l ∈ L, l.length ≤ 1000000)
    (h : ∀ M w', OwnV vIs S 27 B w' a n c M → (∀ x, x ∈ M ↔ x ∈ L) → Chg (bk a) w w' → R (.returned (.tuple ⟨[]⟩)) w') :
    Calls Try.prog F_slices_SortFunc_of_int_int ⟨[.slice a n c, .func (.func 18) #[] #[]]⟩ w R := by
  apply c_slices_SortFunc_of_int_int
  have e : IntKind.u64.wrap (n : Int) = (n : Int) := by simp [IntKind.wrap, IntKind.bits, IntKind.signed]; omega
  unfold sh_slices_SortFunc_of_int_int
  rw [e]
  refine Len_small n (by omega) fun v => ⟨_, rfl, ?_⟩
  apply c_slices_pdqsortCmpFunc_of_int
  refine ⟨fun a' b' l' x y W m => a' = 0 ∧ b' = (n : Int) ∧ W = w, ⟨0, rfl, rfl, rfl⟩, ?_⟩
  rintro _ _ l' x y W m ⟨rfl, rfl, rfl⟩ _
  refine br_split (fun g => ?_) (fun g => absurd (show IntKind.i64.wrap ((n : Int) - 0) ≤ 12 by rw [wrap_id (by omega)]; omega) g)
  apply c_slices_insertionSortCmpFunc_of_int
  refine ⟨fun i V m => ∃ k : Nat, ∃ M, i = k ∧ 1 ≤ k ∧ k ≤ n + 1 ∧ m = n + 1 - k ∧ OwnV vIs S 27 B V a n c M ∧ (∀ x, x ∈ M ↔ x ∈ L) ∧ Chg (bk a) W V, ⟨_, 1, L, by decide, by omega, by omega, rfl, hO, fun x => Iff.rfl, Chg.refl _ _⟩, ?_⟩
  rintro _ V m ⟨k, M, rfl, hk1, hk2, rfl, hM, hm, hc⟩ _
  refine br_split (fun hlt => ?_) (fun hge => ⟨rfl, rfl, h M V hM hm hc⟩)
  have hkn : k < n := by omega
  refine ⟨fun j V m' => ∃ jj : Nat, ∃ N, j = jj ∧ jj ≤ k ∧ m' = jj + 0 ∧ OwnV vIs S 27 B V a n c N ∧ (∀ x, x ∈ N ↔ x ∈ L) ∧ Chg (bk a) W V, ⟨_, k, M, rfl, by omega, rfl, hM, hm, hc⟩, ?_⟩
  rintro _ V2 m' ⟨j, N, rfl, hj, hm', hN, hmN, hcV⟩ _
  have hln := hN.len
  have ela : ∀ {V : World} {N : List (List Int)}, OwnV vIs S 27 B V a n c N → ∀ {j : Nat} (hj : j < N.length), ∃ (q : Addr) (a' : Option Addr) (c' : Nat), (∀ K : Addr → Prop, K q → idx a n (j : Int) 1 K) ∧ V.cell? q = some (.slice a' N[j].length c') ∧ vIs.C (fun k => S k ∧ ¬ bk a k) V N[j] [.slice a' N[j].length c'] ∧ RowV vI (fun k => S k ∧ ¬ bk a k) V a' N[j].length N[j] := by
    intro V N hN j hj
    have := hN.len
    obtain ⟨g, a', c', ha, h1, h2, h3, h4⟩ := ownL_get hN hj
    exact ⟨⟨g, j, none⟩, a', c', fun K hK => by rw [ha]; exact idx_b1 (by omega) hK, h1, h3, h4⟩
  intro K15 hK15
  have out : ∀ v, Ext V2 v → ∃ m34 : Nat, m34 < n + 1 - k ∧ ∃ k' : Nat, ∃ M, IntKind.i64.wrap ((k : Int) + 1) = k' ∧ 1 ≤ k' ∧ k' ≤ n + 1 ∧ m34 = n + 1 - k' ∧ OwnV vIs S 27 B v a n c M ∧ (∀ x, x ∈ M ↔ x ∈ L) ∧ Chg (bk a) W v := fun v ev =>
    ⟨n + 1 - (k + 1), by omega, k + 1, N, by rw [wrap_nat (by omega)], by omega, by omega, rfl, hN.ext ev, hmN, hcV.trans (.of_ext ev)⟩
  have k15 : ∀ v, Ext V2 v → 0 < j → K15 v := by
    intro v ev hj0
    refine hK15 _ fun _ => ?_
    unfold drw
    have ed := ext_drew v
    have e17 := ext_trans ev ed
    generalize v.drew = w17 at *
    have hN17 := hN.ext e17
    have hjl : j < N.length := by omega
    have hjl1 : j - 1 < N.length := by omega
    obtain ⟨q1, x1, y1, hq1, d1, C1, _⟩ := ela hN17 hjl1
    obtain ⟨q2, x2, y2, hq2, d2, C2, _⟩ := ela hN17 hjl
    rw [wrap_id (by omega), show (j : Int) - 1 = ((j - 1 : Nat) : Int) by omega]
    refine hq1 _ ⟨_, _, _, d1, hq2 _ ⟨_, _, _, d2, ?_⟩⟩
    obtain ⟨g, hg, hi1, hst⟩ := hN17.store (i := j) (by omega) C1
    refine hi1 _ ⟨hst _ fun w23 h23 c23 s23 => ?_, trivial⟩
    have C2' : vIs.C (fun k => S k ∧ ¬ bk a k) w23 N[j] [.slice x2 N[j].length y2] := vIs.keep C2 (fun k hk hl => ⟨hk, c23.block k hl hk.2⟩) c23.size
    obtain ⟨g', hg', hi2, hst2⟩ := h23.store (i := j - 1) (by omega) C2'
    refine hi2 _ ⟨hst2 _ fun w25 h25 c25 s25 => ?_, trivial⟩
    exact ⟨j - 1, by omega, j - 1, _, rfl, by omega, rfl, h25, fun x => (mem_swp hjl1 hjl (by omega) x).trans (hmN x), hcV.trans ((Chg.of_ext e17).trans (c23.trans c25))⟩
  unfold drw
  have ed := ext_drew V2
  have hNd := hN.ext ed
  generalize V2.drew = w27 at *
  refine br_split (fun hj0 => ?_) (fun hj0 => ⟨out w27 ed, trivial⟩)
  have hjl : j < N.length := by omega
  have hjl1 : j - 1 < N.length := by omega
  obtain ⟨q1, x1, y1, hq1, d1, C1, r1⟩ := ela hNd hjl1
  obtain ⟨q2, x2, y2, hq2, d2, C2, r2⟩ := ela hNd hjl
  refine hq2 _ ⟨_, _, _, d2, ?_⟩
  rw [wrap_id (by omega), show (j : Int) - 1 = ((j - 1 : Nat) : Int) by omega]
  refine hq1 _ ⟨_, _, _, d1, ⟨by kernel_rfl, ?_⟩, trivial⟩
  exact CompareL_spec r2 r1 (by have := hL _ ((hmN _).1 (List.getElem_mem hjl)); omega) fun v w' e' => ⟨_, rfl, br_split (fun _ => k15 w' (ext_trans ed e') (by omega)) (fun _ => out w' (ext_trans ed e'))⟩
set_option maxRecDepth 20000 in
theorem Concat2_spec {p : Nat} {a2 : Option Addr} {n2 c2 : Nat} {T : TypeId} {L M : List (List Int)} (hp : Blk w p [.slice a n c, .slice a2 n2 c2] T) (h1 : RowV vIs S w a n L) (h2 : RowV vIs S2 w a2 n2 M) (hs : n ≤ 1000000) (hs2 : n2 ≤ 1000000)
    (h : ∀ a' n' c' w', RowV vIs (fun _ => True) w' a' n' (L ++ M) → n' = n + n2 → Ext w w' → R (.returned (.slice a' n' c')) w') : Calls Try.prog F_slices_Concat_of_int_int ⟨[.slice (some ⟨p, 0, none⟩) 2 2]⟩ w R := by
  apply c_slices_Concat_of_int_int
  have hn1 := h1.1
  have hn2 := h2.1
  have cell : ∀ {W : World}, Ext w W → ∀ j : Nat, j < 2 → ∃ (x : Option Addr) (m d : Nat), (∀ K : Addr → Prop, K ⟨p, j, none⟩ → idx (some ⟨p, 0, none⟩) 2 (j : Int) 1 K) ∧ W.cell? ⟨p, j, none⟩ = some (.slice x m d) ∧ ((j = 0 ∧ x = a ∧ m = n ∧ d = c) ∨ (j = 1 ∧ x = a2 ∧ m = n2 ∧ d = c2)) := by
    intro W eW j hj
    have hB := hp.ext eW
    rcases (show j = 0 ∨ j = 1 by omega) with rfl | rfl
    · exact ⟨a, n, c, fun K hK => idx_b1 (by omega) hK, by rw [hB.cell]; rfl, .inl ⟨rfl, rfl, rfl, rfl⟩⟩
    · exact ⟨a2, n2, c2, fun K hK => idx_b1 (by omega) hK, by rw [hB.cell]; rfl, .inr ⟨rfl, rfl, rfl, rfl⟩⟩
  refine ⟨fun sz i W m => ∃ k : Nat, i = k ∧ k ≤ 2 ∧ m = 2 - k ∧ sz = (((if 0 < k then n else 0) + (if 1 < k then n2 else 0) : Nat) : Int) ∧ W = w, ⟨_, 0, rfl, by omega, rfl, rfl, rfl⟩, ?_⟩
  rintro _ _ W m ⟨k, rfl, hk, rfl, rfl, rfl⟩ _
  refine br_split (fun hlt => ?_) (fun hge => ?_)
  · have hk2 : k < 2 := by omega
    obtain ⟨x, m, d, hq, hc, hx⟩ := cell (Below.refl _ _) k hk2
    refine hq _ ⟨_, _, _, hc, ?_⟩
    have hmb : m ≤ 1000000 := by rcases hx with ⟨_, _, rfl, _⟩ | ⟨_, _, rfl, _⟩ <;> omega
    have hsb : ((if 0 < k then n else 0) + (if 1 < k then n2 else 0)) ≤ 2000000 := by split <;> split <;> omega
    rw [wrap_id (by omega)]
    refine br_split (fun g => by omega) (fun _ => ⟨2 - (k + 1), by omega, k + 1, by rw [wrap_nat (by omega)], by omega, rfl, ?_, rfl⟩)
    rcases hx with ⟨rfl, _, rfl, _⟩ | ⟨rfl, _, rfl, _⟩
    · simp
    · simp
  · have hk2 : k = 2 := by omega
    subst hk2
    rw [if_pos (by omega), if_pos (by omega)]
    -- the rest, from a new slice that is empty
    have rest : ∀ (x13 : Option Addr) (x13n x13c : Nat) (w12 : World), x13n = 0 → OwnV vIs (fun k => k < W.heap.size) 27 W.heap.size w12 x13 0 x13c [] → Ext W w12 → ∃ (I14 : Option Addr → Nat → Nat → Int → World → Nat → Prop), (∃ m19 : Nat, I14 x13 x13n x13c 0 w12 m19) ∧ ∀ (newslice_15 : Option Addr) (newslice_15n : Nat) (newslice_15c : Nat) (t27_16 : Int) (w17 : World) (m18 : Nat), I14 newslice_15 newslice_15n newslice_15c t27_16 w17 m18 → ∀ _ : Env, (br (decide ((t27_16 : Int) < ((2 : Nat) : Int))) (idx (some ⟨p, 0, none⟩) 2 t27_16 1 fun p20 =>
        ∃ (x21 : Option Addr) (x21n : Nat) (x21c : Nat), World.cell? w17 p20 = some (.slice x21 x21n x21c) ∧ (app Try.prog [24, 24] 24 (.slice newslice_15 newslice_15n newslice_15c) (.slice x21 x21n x21c) w17 fun a22 a22n a22c w23 =>
        ∃ m24 : Nat, m24 < m18 ∧ I14 a22 a22n a22c (IntKind.i64.wrap (t27_16 + 1)) w23 m24)) (R (.returned (.slice newslice_15 newslice_15n newslice_15c)) w17)) := by
      rintro x13 x13n x13c w12 rfl hO e12
      refine ⟨fun na nn nc i V m => ∃ k : Nat, i = k ∧ k ≤ 2 ∧ m = 2 - k ∧ OwnV vIs (fun k => k < W.heap.size) 27 W.heap.size V na nn nc ((if 0 < k then L else []) ++ (if 1 < k then M else [])) ∧ Ext W V, ⟨_, 0, rfl, by omega, rfl, hO, e12⟩, ?_⟩
      rintro na nn nc _ V m ⟨k, rfl, hk, rfl, hV, eV⟩ _
      have hlV := hV.len
      refine br_split (fun hlt => ?_) (fun hge => ?_)
      · have hk2 : k < 2 := by omega
        obtain ⟨x, m, d, hq, hc, hx⟩ := cell eV k hk2
        refine hq _ ⟨_, _, _, hc, ?_⟩
        have zV := eV.size
        obtain ⟨l', hrow, hm, hl'⟩ : ∃ l' : List (List Int), RowV vIs (fun k => k < W.heap.size) V x m l' ∧ m ≤ 1000000 ∧ ((if 0 < k then L else []) ++ (if 1 < k then M else [])) ++ l' = (if 0 < k + 1 then L else []) ++ (if 1 < k + 1 then M else []) := by
          rcases hx with ⟨rfl, rfl, rfl, rfl⟩ | ⟨rfl, rfl, rfl, rfl⟩
          · exact ⟨L, (h1.imp fun _ _ hl => hl).ext eV, hs, by simp⟩
          · exact ⟨M, (h2.imp fun _ _ hl => hl).ext eV, hs2, by simp⟩
        have hnn : nn ≤ 2000000 := by
          rw [hlV, List.length_append]
          split <;> split <;> first | omega | (simp only [List.length_nil]; omega)
        refine hV.pushAll slT_ints (by omega) hrow (fun us hu => hu.keep (fun k hk _ => ⟨⟨hk, fun hh => by have := (hV.bk hh).1; omega⟩, rfl⟩) (Nat.le_refl _)) (by omega) (by omega) fun a' c' w' ho hcc hn' => ?_
        refine ⟨2 - (k + 1), by omega, k + 1, by rw [wrap_nat (by omega)], by omega, rfl, by rw [hl'] at ho; exact ho, ext_own eV hcc fun j hj => (hV.bk hj).1⟩
      · have hk2 : k = 2 := by omega
        subst hk2
        rw [if_pos (by omega), if_pos (by omega)] at hV hlV
        exact h na nn nc V (hV.out.imp fun _ _ _ => trivial) (by rw [hlV, List.length_append]; omega) eV
    apply c_slices_Grow_of_int_int
    intro K3 hK3
    have k3 : K3 W := by
      refine hK3 _ fun _ => ?_
      have hw1 : IntKind.i64.wrap (((0 : Nat) : Int) - ((0 : Nat) : Int)) = 0 := by decide
      rw [hw1, wrap_id (by omega)]
      refine br_split (fun g => ?_) (fun g => ?_)
      · rw [show (((n + n2 : Nat) : Int) - 0) = ((n + n2 : Nat) : Int) by omega]
        refine ⟨by omega, by omega, by omega, ?_⟩
        refine grow_nilT (e := 27) (size := 1) (bytes := 24) (z := .slice none 0 0) slT_ints (by kernel_rfl) (Nat.le_refl _) (n + n2) (by omega) (by omega) (by omega) fun c6 w7 ho7 e7 => ?_
        refine ⟨by omega, by omega, by omega, ?_⟩
        refine ⟨_, _, _, rfl, ?_⟩
        have : slA (some (⟨W.heap.size, 0, none⟩ : Addr)) c6 (Int.toNat 0) 1 = some ⟨W.heap.size, 0, none⟩ := by
          unfold slA
          split
          · rfl
          · simp [Addr.add]
        rw [this]
        exact rest _ _ _ w7 rfl ⟨rfl, [], ho7, rfl⟩ e7
      · refine ⟨_, _, _, rfl, ?_⟩
        exact rest none 0 0 W rfl (OwnV.nil W) (Below.refl _ _)
    exact br_split (fun g => by omega) (fun _ => k3)
theorem findIx_cg {α : Type} {p q : α → Bool} : ∀ {l : List α}, (∀ x ∈ l, p x = q x) → l.findIdx? p = l.findIdx? q
  | [], _ => rfl
  | x :: l, h => by
    rw [List.findIdx?_cons, List.findIdx?_cons, h x List.mem_cons_self, findIx_cg fun y hy => h y (List.mem_cons_of_mem _ hy)]
theorem find_ix {α : Type} (l : List α) (p : α → Bool) : ixF p l = match l.findIdx? p with
    | some i => (i : Int)
    | none => -1 := by
  unfold ixF
  rw [List.findIdx?_eq_guard_findIdx_lt]
  by_cases h : l.any p = true
  · have hx : l.findIdx p < l.length := List.findIdx_lt_length_of_exists (List.any_eq_true.1 h)
    rw [if_pos h]; simp [Option.guard, hx]
  · rw [if_neg h]
    have hx : ¬ l.findIdx p < l.length := fun hh => h (List.any_eq_true.2 ⟨_, List.getElem_mem hh, List.findIdx_getElem (w := hh)⟩)
    simp [Option.guard, hx]
def LisOk (E : List (List Int)) : Prop := ∀ l ∈ E, l.length = 2 ∧ 0 ≤ gI l 0 ∧ 0 ≤ gI l 1
theorem tog_ix {E : List (List Int)} (hE : LisOk E) {l : List Int} (h0 : 0 ≤ gI l 0) (h1 : 0 ≤ gI l 1) :
    tog1 (spots E) (spo l) = (!decide (ixF (fun x => decide (gI l 0 < gI x 0)) E < 0) && decide (ixF (fun x => decide (gI l 0 < gI x 0)) E = ixF (fun x => decide (gI l 1 < gI x 1)) E)) := by
  have e : ∀ (sd : Nat), sd < 2 → ∀ (f : Spot → Nat), (∀ x ∈ E, (f (spo x) : Int) = gI x sd) → (spots E).findIdx? (fun x => decide (f (spo l) < f x)) = E.findIdx? (fun x => decide ((f (spo l) : Int) < gI x sd)) := by
    intro sd _ f hf
    unfold spots
    rw [List.findIdx?_map]
    refine findIx_cg fun x hx => ?_
    show decide (f (spo l) < f (spo x)) = _
    rw [decide_eq_decide, ← hf x hx]; omega
  have f0 : ((spo l).1 : Int) = gI l 0 := Int.toNat_of_nonneg h0
  have f1 : ((spo l).2 : Int) = gI l 1 := Int.toNat_of_nonneg h1
  unfold tog1
  rw [e 0 (by decide) Prod.fst (fun x hx => Int.toNat_of_nonneg (hE x hx).2.1), e 1 (by decide) Prod.snd (fun x hx => Int.toNat_of_nonneg (hE x hx).2.2), f0, f1, find_ix, find_ix]
  cases E.findIdx? (fun x => decide (gI l 0 < gI x 0)) with
  | none => simp
  | some i =>
    cases E.findIdx? (fun x => decide (gI l 1 < gI x 1)) with
    | none =>
      have : ¬ ((i : Int) = -1) := by omega
      simp [this]
    | some j =>
      have h1 : ¬ ((i : Int) < 0) := by omega
      by_cases h2 : i = j
      · subst h2; simp [h1]
      · have : ¬ ((i : Int) = (j : Int)) := by omega
        simp [h2, this]
end
end Go.Proofs
namespace Go.Proofs
open Go Go.Sh Go.RowKit
/- facing.Together -/
def sdI (E : List (List Int)) (l : List Int) (sd : Nat) : Int := ixF (fun x => decide (gI l sd < gI x sd)) E
def sdC (E : List (List Int)) (l : List Int) (t : Nat) : List Value := fC 2 fun i => .int .i64 (if i < t then sdI E l i else 0)
theorem b0_cell {w : World} {b : Nat} {v : Value} {vs : List Value} {T : TypeId} (h : Blk w b (v :: vs) T) : w.cell? ⟨b, 0, none⟩ = some v := by rw [h.cell]; rfl
section
variable {R : Ending → World → Prop} {S S2 : Nat → Prop} {w : World} {a : Option Addr} {n c : Nat}
theorem tog_pred {E : List (List Int)} (hE : LisOk E) {l : List Int} (hl2 : l.length = 2) {b28 b18 : Nat} {x : Option Addr} {d sd : Nat} (hsd : sd < 2) {T1 T2 : TypeId} :
    PredL (.func 42) #[] #[.pointer (some ⟨b28, 0, none⟩), .pointer (some ⟨b18, 0, none⟩)] (fun y => decide (gI l sd < gI y sd)) S E (fun V => Blk V b28 [.int .i64 sd] T1 ∧ Blk V b18 [.slice x 2 d] T2 ∧ RowV vI S2 V x 2 l) := by
  intro y hy V ay cy K hJ hlc hrow hK
  obtain ⟨J1, J2, J3⟩ := hJ
  obtain ⟨h2, h3, h4⟩ := hE y hy
  refine ⟨by kernel_rfl, ?_⟩
  apply c_facing_Together_2
  unfold sh_facing_Together_2 drw
  have ed := ext_drew V
  have hrow := hrow.ext ed
  have J1 := J1.ext ed
  have J2 := J2.ext ed
  have J3 := J3.ext ed
  have hK := hK _ ed
  generalize V.drew = V4 at *
  obtain ⟨p0, hp0, d0⟩ := hrow.int (k := sd) (by omega)
  obtain ⟨p1, hp1, d1⟩ := J3.int (k := sd) (by omega)
  rw [← gI_at (by omega)] at d0 d1
  exact dr_ok ⟨_, b0_cell J1, hp0 _ ⟨_, d0, dr_ok ⟨_, _, _, b0_cell J2, dr_ok ⟨_, b0_cell J1, hp1 _ ⟨_, d1, hK⟩⟩⟩⟩⟩
set_option maxRecDepth 20000 in
theorem Together_spec {a2 : Option Addr} {n2 c2 : Nat} {E A : List (List Int)} (h1 : RowV vIs S w a n E) (h2 : RowV vIs S2 w a2 n2 A) (hs : n ≤ 1000000) (hs2 : n2 ≤ 1000000) (hE : LisOk E) (hA : LisOk A)
    (h : ∀ w', Ext w w' → R (.returned (.tuple ⟨[.bool (togA (spots E) (spots A)), .int .i64 0]⟩)) w') : Calls Try.prog F_facing_Together ⟨[.slice a n c, .slice a2 n2 c2]⟩ w R := by
  apply c_facing_Together
  have hn1 := h1.1
  have hn2 := h2.1
  refine al_intro fun b3 w4 hb3 B3 e4 s4 => ?_
  refine Concat2_spec B3 (h1.ext e4) (h2.ext e4) hs hs2 fun x7 x7n x7c w6 hC hCn e6 => ⟨_, _, _, rfl, ?_⟩
  have e06 := ext_trans e4 e6
  refine ContainsFuncL_spec (q := fun l => decide ((l.length : Int) ≠ 2)) (J := fun _ => True) hC (by omega) ?_ trivial (fun _ _ _ _ => trivial) fun w9 e9 => ⟨_, rfl, ?_⟩
  · intro l hl V a c K _ hlc hrow hK
    refine ⟨by kernel_rfl, ?_⟩
    apply c_facing_Together_1
    exact hK V (Below.refl _ _)
  have e09 := ext_trans e06 e9
  have hany : ((E ++ A).any fun l => decide ((l.length : Int) ≠ 2)) = false := by
    refine List.any_eq_false.2 fun l hl => ?_
    rcases List.mem_append.1 hl with hl | hl
    · have := (hE l hl).1; simp; omega
    · have := (hA l hl).1; simp; omega
  refine br_cases (fun g => absurd (hany.symm.trans g) (by decide)) (fun _ => ?_)
  have z9 := e09.size
  refine ⟨fun i W m => ∃ k : Nat, i = k ∧ k ≤ n2 ∧ m = n2 - k ∧ (∀ l ∈ A.take k, tog1 (spots E) (spo l) = true) ∧ Ext w W, ⟨_, 0, rfl, by omega, rfl, by simp, e09⟩, ?_⟩
  rintro _ W m ⟨k, rfl, hk, rfl, hall, eW⟩ _
  refine br_split (fun hlt => ?_) (fun hge => ?_)
  · have hkA : k < A.length := by omega
    obtain ⟨b14, o14, a15, c15, hq, _, _, hc, hcl, hrow⟩ := (h2.ext eW).getS (List.getElem?_eq_getElem hkA)
    obtain ⟨l2, l0, l1⟩ := hA _ (List.getElem_mem hkA)
    refine hq _ ⟨_, _, _, hc, ?_⟩
    rw [l2] at hrow hcl
    rw [l2]
    have zW := eW.size
    refine al_stL rfl (by intro v hv; simp only [List.mem_singleton] at hv; subst hv; rfl) fun b18 w20 hb18 B18 e20 s20 => ?_
    have z20 := e20.size
    refine al_intro fun b21 w22 hb21 B21 e22 s22 => ?_
    have z22 := e22.size
    have e022 := ext_trans eW (ext_trans e20 e22)
    have B21 : Blk w22 b21 (sdC E A[k] 0) 91 := B21
    refine ⟨fun t V m => ∃ tt : Nat, t = tt ∧ tt ≤ 2 ∧ m = 2 - tt ∧ Blk V b21 (sdC E A[k] tt) 91 ∧ Ext w20 V, ⟨_, 0, rfl, by omega, rfl, B21, e22⟩, ?_⟩
    rintro _ V mm ⟨t, rfl, ht, rfl, BV, eV⟩ _
    have zV := eV.size
    have eWV := ext_trans e20 eV
    refine br_split (fun htl => ?_) (fun htg => ?_)
    · refine al_stL rfl (by intro v hv; simp only [List.mem_singleton] at hv; subst hv; rfl) fun b28 w30 hb28 B28 e30 s30 => ?_
      unfold drw
      have ed := ext_drew w30
      have B28 := B28.ext ed
      have e31 := ext_trans e30 ed
      generalize w30.drew = w31 at *
      have eV31 := ext_trans eV e31
      have eW31 := ext_trans eWV e31
      have e031 := ext_trans eW eW31
      have ht2 : t < 2 := by omega
      have run : ∀ {K : Ending → World → Prop}, (∀ V', Ext w31 V' → K (.returned (.int .i64 (sdI E A[k] t))) V') → Calls Try.prog 41 ⟨[.slice a n c, .func (.func 42) ⟨[]⟩ ⟨[.pointer (some ⟨b28, 0, none⟩), .pointer (some ⟨b18, 0, none⟩)]⟩]⟩ w31 K := fun hK =>
        IndexFuncL_spec (h1.ext e031) (by omega) (tog_pred (S2 := fun k => S2 k) hE l2 ht2) ⟨B28, B18.ext eV31, hrow.ext eW31⟩ (fun _ _ hJ he => ⟨hJ.1.ext he, hJ.2.1.ext he, hJ.2.2.ext he⟩) hK
      have fin : ∀ V', Ext w31 V' → idx (some ⟨b21, 0, none⟩) 2 (t : Int) 1 (fun p36 => (stL V' p36 0 [.int .i64 (sdI E A[k] t)] fun w37 =>
          ∃ m38 : Nat, m38 < 2 - t ∧ ∃ tt : Nat, IntKind.i64.wrap ((t : Int) + 1) = tt ∧ tt ≤ 2 ∧ m38 = 2 - tt ∧ Blk w37 b21 (sdC E A[k] tt) 91 ∧ Ext w20 w37) ∧ True) := by
        intro V' eV'
        have eVV := ext_trans e31 eV'
        refine idx_b1 (by omega) ⟨stL_fC (BV.ext eVV) ht2 rfl fun w37 B37 c37 s37 => ?_, trivial⟩
        refine ⟨2 - (t + 1), by omega, t + 1, by rw [wrap_nat (by omega)], by omega, rfl, ?_, ext_chgS (ext_trans eV eVV) c37 fun j hj => by omega⟩
        have : sdC E A[k] (t + 1) = fC 2 fun i => if i = t then .int .i64 (sdI E A[k] t) else .int .i64 (if i < t then sdI E A[k] i else 0) := by
          refine fC_congr fun j _ => ?_
          by_cases e1 : j = t
          · subst e1; rw [if_pos rfl, if_pos (by omega)]
          · rw [if_neg e1]
            by_cases e2 : j < t
            · rw [if_pos e2, if_pos (by omega)]
            · rw [if_neg e2, if_neg (by omega)]
        rw [this]; exact B37
      refine ⟨⟨_, b0_cell B28, run fun V' eV' => ⟨_, rfl, fin V' eV'⟩, trivial⟩, run fun V' eV' => ⟨_, rfl, _, b0_cell (B28.ext eV'), fin V' eV'⟩, trivial⟩
    · have ht2 : t = 2 := by omega
      subst ht2
      have c0 : V.cell? ⟨b21, 0, none⟩ = some (.int .i64 (sdI E A[k] 0)) := by rw [BV.cell]; rfl
      have c1 : V.cell? ⟨b21, 1, none⟩ = some (.int .i64 (sdI E A[k] 1)) := by rw [BV.cell]; rfl
      have e0V := ext_trans eW eWV
      have ht := tog_ix hE l0 l1
      have no : ¬ (togA (spots E) (spots A) = true) → R (.returned (.tuple ⟨[.bool false, .int .i64 0]⟩)) V := fun hf => by
        have := h V e0V
        rw [Bool.eq_false_iff.2 hf] at this; exact this
      have all1 : togA (spots E) (spots A) = true → tog1 (spots E) (spo A[k]) = true := fun hh => by
        unfold togA spots at hh
        rw [List.all_map] at hh
        exact List.all_eq_true.1 hh _ (List.getElem_mem hkA)
      refine idx_b1 (j := 0) (by omega) ⟨_, c0, br_split (fun g => no fun hh => ?_) (fun g => ?_)⟩
      · have := all1 hh
        rw [ht] at this
        unfold sdI at g
        simp [g] at this
      · refine idx_b1 (j := 0) (by omega) ⟨_, c0, idx_b1 (j := 1) (by omega) ⟨_, c1, br_split (fun g2 => no fun hh => ?_) (fun g2 => ?_)⟩⟩
        · have := all1 hh
          rw [ht] at this
          unfold sdI at g2
          simp [g2] at this
        · refine ⟨n2 - (k + 1), by omega, k + 1, by rw [wrap_nat (by omega)], by omega, rfl, fun l hl => ?_, e0V⟩
          rw [List.take_succ_eq_append_getElem hkA] at hl
          rcases List.mem_append.1 hl with hl | hl
          · exact hall l hl
          · rw [List.mem_singleton] at hl
            subst hl
            rw [ht]
            unfold sdI at g g2
            rw [decide_eq_false g, decide_eq_true (Decidable.not_not.1 g2)]; rfl
  · rw [List.take_of_length_le (by omega)] at hall
    have := h W eW
    have e : togA (spots E) (spots A) = true := by
      unfold togA spots
      rw [List.all_map]
      exact List.all_eq_true.2 fun l hl => hall l hl
    rw [e] at this; exact this
end
end Go.Proofs
namespace Go.Proofs
open Go Go.Sh Go.RowKit
/- sizes; the example -/
section
variable {R : Ending → World → Prop} {S S2 : Nat → Prop} {w : World}
set_option maxRecDepth 20000 in
theorem Great51_spec {x : PV} {q : PQ} {m : Int} (hq : PrV S w x q) (hs : q.T.length ≤ 4611686018427387904) (h : ∀ v w', Ext w w' → R (.returned (.bool v)) w') :
    Calls Try.prog F_ref51_Great ⟨[.agg ⟨x.cs⟩, .int .i64 m]⟩ w R := by
  apply c_ref51_Great
  refine al_intro fun b7 w8 hb7 B7 e7 s7 => ?_
  have hq := hq.ext e7
  have ht := hq.t.1
  intro K9 hK9
  have k9 : K9 w8 := by
    refine hK9 _ fun _ => ?_
    refine ⟨fun i W m => ∃ k : Nat, i = k ∧ k ≤ q.T.length ∧ m = q.T.length - k ∧ W = w8, ⟨_, 0, rfl, by omega, rfl, rfl⟩, ?_⟩
    rintro _ W m' ⟨k, rfl, hk, rfl, rfl⟩ _
    refine ⟨_, _, _, bat B7 rfl, br_split (fun hlt => ?_) (fun _ => h _ _ e7)⟩
    obtain ⟨b14, o14, a15, c15, hi, _, _, hc, hcl, hrow⟩ := hq.t.getS (List.getElem?_eq_getElem (i := k) (by omega))
    exact ⟨_, _, _, bat B7 rfl, hi _ ⟨_, _, _, hc, br_split (fun _ => h _ _ e7) (fun _ => ⟨_, by omega, k + 1, by rw [wrap_nat (by omega)], by omega, rfl, rfl⟩)⟩⟩
  have r := fun v => h v w8 e7
  refine ⟨_, _, _, bat B7 rfl, br_split (fun _ => ?_) (fun _ => ?_)⟩
  · exact ⟨_, _, _, bat B7 rfl, br_split (fun _ => r _) fun _ => ⟨_, _, _, bat B7 rfl, br_split (fun _ => r _) fun _ => ⟨_, _, _, bat B7 rfl, _, _, _, bat B7 rfl, br_split (fun _ => r _) fun _ => ⟨_, _, _, bat B7 rfl, _, _, _, bat B7 rfl, br_split (fun _ => r _) fun _ => k9⟩⟩⟩⟩
  · exact ⟨_, _, _, bat B7 rfl, br_split (fun _ => r _) fun _ => ⟨_, _, _, bat B7 rfl, _, _, _, bat B7 rfl, br_split (fun _ => r _) fun _ => ⟨_, _, _, bat B7 rfl, _, _, _, bat B7 rfl, br_split (fun _ => r _) fun _ => k9⟩⟩⟩
theorem GreatLists_spec {a : Option Addr} {n c : Nat} {A : List (List Int)} (h1 : RowV vIs S w a n A) (hs : n ≤ 4611686018427387904) (h : ∀ v, (v = false → n ≤ 8 ∧ ∀ l ∈ A, l.length ≤ 8) → R (.returned (.bool v)) w) :
    Calls Try.prog F_ref52_GreatLists ⟨[.slice a n c, .int .i64 8]⟩ w R := by
  apply c_ref52_GreatLists
  have hn := h1.1
  refine ⟨fun i W m => ∃ k : Nat, i = k ∧ k ≤ n ∧ m = n - k ∧ W = w ∧ ∀ l ∈ A.take k, l.length ≤ 8, ⟨_, 0, rfl, by omega, rfl, rfl, by simp⟩, ?_⟩
  rintro _ W m' ⟨k, rfl, hk, rfl, rfl, hall⟩ _
  refine br_split (fun hlt => ?_) (fun hge => ?_)
  · have hkA : k < A.length := by omega
    obtain ⟨b14, o14, a15, c15, hi, _, _, hc, hcl, hrow⟩ := h1.getS (List.getElem?_eq_getElem hkA)
    refine hi _ ⟨_, _, _, hc, br_split (fun _ => h true (fun g => by cases g)) (fun g => ⟨_, by omega, k + 1, by rw [wrap_nat (by omega)], by omega, rfl, rfl, fun l hl => ?_⟩)⟩
    rw [List.take_succ_eq_append_getElem hkA] at hl
    rcases List.mem_append.1 hl with hl | hl
    · exact hall l hl
    · rw [List.mem_singleton] at hl
      subst hl; omega
  · rw [List.take_of_length_le (by omega)] at hall
    exact h _ fun g => ⟨by have := of_decide_eq_false g; omega, hall⟩
set_option maxRecDepth 20000 in
theorem Great52_spec {xl xr : PV} {an : Slv} {q : SQ} (hl : PrV S w xl q.lf) (hr : PrV S w xr q.rt) (hA : RowV vIs S w an.1 an.2.1 q.A) (hs1 : q.lf.T.length ≤ 4611686018427387904) (hs2 : q.rt.T.length ≤ 4611686018427387904) (hs3 : q.A.length ≤ 4611686018427387904)
    (h : ∀ v w', Ext w w' → (v = false → q.A.length ≤ 8 ∧ ∀ l ∈ q.A, l.length ≤ 8) → R (.returned (.bool v)) w') : Calls Try.prog F_ref52_Great ⟨[.agg ⟨xl.cs⟩, .agg ⟨xr.cs⟩, .slice an.1 an.2.1 an.2.2]⟩ w R := by
  apply c_ref52_Great
  have hn := hA.1
  refine al_intro fun b12 w13 hb12 B12 e13 s13 => al_intro fun b14 w15 hb14 B14 e15 s15 => ?_
  have e015 := ext_trans e13 e15
  have B12 := B12.ext e15
  refine rd5 B12 (Great51_spec (x := xl) (q := q.lf) (hl.ext e015) hs1 fun v w22 e22 => ⟨_, rfl, ?_⟩)
  have e022 := ext_trans e015 e22
  refine br_cases (fun _ => h _ _ e022 fun g => by cases g) (fun _ => ?_)
  refine rd5 (B14.ext e22) (Great51_spec (x := xr) (q := q.rt) (hr.ext e022) hs2 fun v w30 e30 => ⟨_, rfl, ?_⟩)
  have e030 := ext_trans e022 e30
  refine br_cases (fun _ => h _ _ e030 fun g => by cases g) (fun _ => ?_)
  exact GreatLists_spec (hA.ext e030) (by omega) fun v hv => ⟨_, rfl, h _ _ e030 fun g => ⟨by have := (hv g).1; omega, (hv g).2⟩⟩
abbrev xCs (xl xr : PV) (an : Slv) : List Value := [.slice xl.l.1 xl.l.2.1 xl.l.2.2, .slice xl.t.1 xl.t.2.1 xl.t.2.2, .slice xl.p.1 xl.p.2.1 xl.p.2.2, .int .i64 xl.h, .int .i64 xl.g,
  .slice xr.l.1 xr.l.2.1 xr.l.2.2, .slice xr.t.1 xr.t.2.1 xr.t.2.2, .slice xr.p.1 xr.p.2.1 xr.p.2.2, .int .i64 xr.h, .int .i64 xr.g, .slice an.1 an.2.1 an.2.2]
theorem top52Great_spec {xl xr : PV} {an : Slv} {q : SQ} (hl : PrV S w xl q.lf) (hr : PrV S w xr q.rt) (hA : RowV vIs S w an.1 an.2.1 q.A) (hs1 : q.lf.T.length ≤ 4611686018427387904) (hs2 : q.rt.T.length ≤ 4611686018427387904) (hs3 : q.A.length ≤ 4611686018427387904)
    (h : ∀ v w', Ext w w' → (v = false → q.A.length ≤ 8 ∧ ∀ l ∈ q.A, l.length ≤ 8) → R (.returned (.bool v)) w') : Calls Try.prog F_apographtop_top52Great ⟨[.agg ⟨xCs xl xr an⟩]⟩ w R := by
  apply c_apographtop_top52Great
  refine al_intro fun b12 w13 hb12 B e13 s13 => ?_
  refine ⟨_, _, _, bat2 B rfl, _, _, _, bat2 B rfl, _, _, _, bat2 B rfl, _, bat2 B rfl, _, bat2 B rfl, _, _, _, bat2 B rfl, _, _, _, bat2 B rfl, _, _, _, bat2 B rfl, _, bat2 B rfl, _, bat2 B rfl, _, _, _, bat B rfl, ?_⟩
  exact Great52_spec (xl := xl) (xr := xr) (an := an) (q := q) (hl.ext e13) (hr.ext e13) (hA.ext e13) hs1 hs2 hs3 fun v w' e' hv => ⟨_, rfl, h _ _ (ext_trans e13 e') hv⟩
theorem rowI_b {b n : Nat} {l : List Int} {T : TypeId} (h : Blk w b (Sh.encI.row l) T) (hn : n = l.length) : RowV vI (fun _ => True) w (some ⟨b, 0, none⟩) n l := by
  subst hn
  exact rowV_enc.2 ((rowAt_b (E := Sh.encI) h).imp fun _ _ _ => trivial)
theorem rowIs_b {b n : Nat} {l : List (List Int)} {vs : List Value} {T : TypeId} (h : Blk w b vs T) (hn : n = l.length) (ha : AllV vIs (fun _ => True) w l vs) : RowV vIs (fun _ => True) w (some ⟨b, 0, none⟩) n l :=
  ⟨hn, vs, .inr ⟨b, 0, rfl, trivial, h.lt, fun j v hj => by rw [Nat.zero_add, h.cell]; exact hj⟩, ha⟩
def awX (a b c : Nat) : PV := ⟨(some ⟨a, 0, none⟩, 2, 2), (some ⟨b, 0, none⟩, 2, 2), (some ⟨c, 0, none⟩, 2, 2), 10, 0⟩
def awQ : PQ := ⟨[10, 10], [[], []], [0, 0]⟩
def awS : SQ := ⟨awQ, awQ, [[1, 0]]⟩
theorem aw_PG (a b c : Nat) : PG (awX a b c) (awX a b c) awQ awQ = PG (awX 0 0 0) (awX 0 0 0) awQ awQ := by
  funext f
  unfold PG pagesF
  exact pgI_congr (s := mkSV (awX a b c) (awX a b c) (none, 0, 0) 0 0 ⟨awQ, awQ, []⟩) (s' := mkSV (awX 0 0 0) (awX 0 0 0) (none, 0, 0) 0 0 ⟨awQ, awQ, []⟩) (q := ⟨awQ, awQ, []⟩) (q' := ⟨awQ, awQ, []⟩) rfl rfl rfl rfl rfl rfl _ _
theorem aw_pot (a b c : Nat) : potP (awX a b c) (awX a b c) awS (0, 0) = 0 := by
  have : potP (awX a b c) (awX a b c) awS = potP (awX 0 0 0) (awX 0 0 0) awS := by
    unfold potP
    rw [show awS.lf = awQ from rfl, show awS.rt = awQ from rfl, aw_PG]
  rw [this]
  decide +kernel
theorem aw_ends (a b c : Nat) : (endsP (awX a b c) (awX a b c) awS) = [(1, 0), (2, 1), (2, 2)] := by
  have : endsP (awX a b c) (awX a b c) awS = endsP (awX 0 0 0) (awX 0 0 0) awS := by
    unfold endsP
    rw [show awS.lf = awQ from rfl, show awS.rt = awQ from rfl, aw_PG]
  rw [this]
  decide +kernel
theorem aw_chk (a b c : Nat) : fchk (awX a b c) (awX a b c) awS = true := by
  show fchk (awX 0 0 0) (awX 0 0 0) awS = true
  decide +kernel
set_option maxRecDepth 20000 in
theorem top52Awake_spec (h : ∀ w', Ext w w' → R (.returned (.bool true)) w') : Calls Try.prog F_apographtop_top52Awake ⟨[]⟩ w R := by
  apply c_apographtop_top52Awake
  refine al_intro fun b1 w2 hb1 B1 e1 s1 => al_intro fun b3 w4 hb3 B3 e3 s3 => al_intro fun b5 w6 hb5 B5 e5 s5 => ?_
  refine al_stL rfl (by intro v hv; simp only [List.mem_cons, List.not_mem_nil, or_false] at hv; rcases hv with rfl | rfl | rfl | rfl | rfl <;> rfl) fun b7 w9 hb7 B7 e7 s7 => ?_
  have B7 : Blk w9 b7 (awX b1 b3 b5).cs 47 := B7
  have e09 := ext_trans e1 (ext_trans e3 (ext_trans e5 e7))
  refine rd5 B7 (rd5 B7 ?_)
  refine al_intro fun b20 w21 hb20 B20 e20 s20 => al_intro fun b22 w23 hb22 B22 e22 s22 => ?_
  have e923 := ext_trans e20 e22
  have e023 := ext_trans e09 e923
  have hP : PrV (fun _ => True) w23 (awX b1 b3 b5) awQ := by
    refine ⟨?_, ?_, ?_⟩
    · exact rowI_b (l := [10, 10]) (B1.ext (ext_trans e3 (ext_trans e5 (ext_trans e7 e923)))) rfl
    · exact rowIs_b (l := [[], []]) (B3.ext (ext_trans e5 (ext_trans e7 e923))) rfl ⟨[_], _, rfl, ⟨none, 0, rfl, Nat.le_refl _, RowV.nil none⟩, [_], [], rfl, ⟨none, 0, rfl, Nat.le_refl _, RowV.nil none⟩, rfl⟩
    · exact rowI_b (l := [0, 0]) (B5.ext (ext_trans e7 e923)) rfl
  have rA : ∀ {W : World} {b c : Nat} , Blk W b [.int .i64 1, .int .i64 0] 3 → Blk W c [.slice (some ⟨b, 0, none⟩) 2 2] 27 → RowV vIs (fun _ => True) W (some ⟨c, 0, none⟩) 1 [[1, 0]] := fun hb hc =>
    rowIs_b hc rfl ⟨[_], [], rfl, ⟨_, 2, rfl, Nat.le_refl _, rowI_b (l := [1, 0]) hb rfl⟩, rfl⟩
  refine Break_spec (xl := awX b1 b3 b5) (xr := awX b1 b3 b5) (an := (some ⟨b22, 0, none⟩, 1, 1)) (q := awS) hP hP (rA (B20.ext e22) B22) (by decide) fun e n oa on oc w25 e25 hres => ⟨_, _, _, _, _, rfl, ?_⟩
  have hp := aw_pot b1 b3 b5
  have he : e = 0 := Decidable.byContradiction fun hne => by
    have := (hres.bad (aw_chk b1 b3 b5) hne).2
    omega
  obtain ⟨_, hn, hrow⟩ := hres.yes he
  rw [aw_ends] at hrow
  rw [hp] at hn
  have hlen := hrow.1
  refine al_intro fun b29 w30 hb29 B29 e29 s29 => al_intro fun b31 w32 hb31 B31 e31 s31 => ?_
  have e2532 := ext_trans e29 e31
  have hlen3 : on = 3 := hlen
  refine Together_spec (E := [(1, 0), (2, 1), (2, 2)].map spl) (A := [[1, 0]]) (hrow.ext e2532) (rA (B29.ext e31) B31) (by omega) (by decide) (by unfold LisOk; decide +kernel) (by unfold LisOk; decide +kernel) fun w34 e34 => ⟨_, _, rfl, ?_⟩
  have ht : togA (spots ([(1, 0), (2, 1), (2, 2)].map spl)) (spots [[1, 0]]) = true := by decide +kernel
  rw [ht]
  have := h w34 (ext_trans e023 (ext_trans e25 (ext_trans e2532 e34)))
  exact br_pos he (br_pos rfl (br_pos hn (br_pos (by omega) this)))
end
end Go.Proofs
namespace Go.Proofs
open Go Go.Sh Go.RowKit
/- lines that belong together stand on facing pages -/
theorem spots_spl (l : List Spot) : spots (l.map spl) = l := by
  unfold spots
  rw [List.map_map]
  conv => rhs; rw [← List.map_id l]
  exact List.map_congr_left fun t _ => Prod.ext (Int.toNat_natCast t.1) (Int.toNat_natCast t.2)
theorem lisOk_spl (l : List Spot) : LisOk (l.map spl) := by
  intro x hx
  obtain ⟨t, _, rfl⟩ := List.mem_map.1 hx
  exact ⟨rfl, Int.natCast_nonneg t.1, Int.natCast_nonneg t.2⟩
theorem fc_fwd {xl xr : PV} {q : SQ} (h : fchk xl xr q = true) (hAl : q.A.length ≤ 1000000) : Fwd (lastS q) (PG xl xr q.lf q.rt) := by
  have := fwd_pages (mkOk (an := (none, 0, 0)) h hAl 0 0)
  rwa [pages_PG] at this
theorem fc_in {xl xr : PV} {q : SQ} (h : fchk xl xr q = true) : ∀ a ∈ spots q.A, a.1 < (lastS q).1 ∧ a.2 < (lastS q).2 := by
  obtain ⟨_, _, h3⟩ := fchk_facts h
  intro a ha
  obtain ⟨l, hl, rfl⟩ := List.mem_map.1 ha
  obtain ⟨_, h4, h5, h6, h7⟩ := h3 l hl
  show (gI l 0).toNat < q.lf.L.length ∧ (gI l 1).toNat < q.rt.L.length
  omega
theorem fc_lis {xl xr : PV} {q : SQ} (h : fchk xl xr q = true) : LisOk q.A := by
  obtain ⟨_, _, h3⟩ := fchk_facts h
  exact fun l hl => ⟨(h3 l hl).1, (h3 l hl).2.1, (h3 l hl).2.2.2.1⟩
theorem fc_tog {xl xr : PV} {q : SQ} (h : fchk xl xr q = true) (hAl : q.A.length ≤ 1000000) (hp : 0 ≤ potP xl xr q (0, 0)) : togA (spots ((endsP xl xr q).map spl)) (spots q.A) = true := by
  rw [spots_spl]
  exact facing_tog (fc_fwd h hAl) (fc_in h) hp
theorem fc_more {xl xr : PV} {q q' : SQ} (hl : q'.lf = q.lf) (hr : q'.rt = q.rt) (h : fchk xl xr q = true) (h' : fchk xl xr q' = true) (hAl : q.A.length ≤ 1000000) (hs : ∀ x ∈ q.A, x ∈ q'.A) (hp : 0 ≤ potP xl xr q (0, 0)) :
    (togA (spots ((endsP xl xr q).map spl)) (spots q'.A) = true → 0 ≤ potP xl xr q' (0, 0) ∧ potP xl xr q' (0, 0) ≤ potP xl xr q (0, 0)) ∧ (0 ≤ potP xl xr q' (0, 0) → potP xl xr q (0, 0) ≤ potP xl xr q' (0, 0)) := by
  rw [spots_spl]
  have e : potP xl xr q' (0, 0) = potA (lastS q) (PG xl xr q.lf q.rt) (spots q'.A) (0, 0) := by
    unfold potP lastS
    rw [hl, hr]
  rw [e]
  refine facing_more (fc_fwd h hAl) (B := spots q'.A) (fun a ha => ?_) (fun a ha => ?_) hp
  · have := fc_in h' a ha
    unfold lastS at this ⊢
    rw [hl, hr] at this
    exact this
  · obtain ⟨x, hx, rfl⟩ := List.mem_map.1 ha
    exact List.mem_map.2 ⟨x, hs x hx, rfl⟩
theorem wayP_len {last : Spot} {pages : Spot → List (Spot × Int)} {ok : Spot → Spot → Bool} {p : Spot → Int} : ∀ (n : Nat) (s : Spot), (wayP last pages ok p n s).length ≤ n
  | 0, _ => by rw [wayP]; exact Nat.le_refl _
  | n + 1, s => by
    rw [wayP]
    split
    · exact Nat.zero_le _
    · split
      · exact Nat.zero_le _
      · rw [List.length_cons]
        have := wayP_len (last := last) (pages := pages) (ok := ok) (p := p) n
        exact Nat.succ_le_succ (this _)
theorem endsP_len {xl xr : PV} {q : SQ} (h : fchk xl xr q = true) : ((endsP xl xr q).map spl).length ≤ 8192 := by
  obtain ⟨h1, h2, _⟩ := fchk_facts h
  have f1 := (pchk_facts h1).1
  have f2 := (pchk_facts h2).1
  unfold endsP endsA
  rw [List.length_map, List.length_map]
  refine Nat.le_trans (wayP_len _ _) ?_
  show q.lf.L.length + q.rt.L.length ≤ 8192
  omega
section
variable {R : Ending → World → Prop} {S S2 S3 : Nat → Prop} {w : World}
theorem rd10 {b : Nat} {xl xr : PV} {an : Slv} (B : Blk w b (xCs xl xr an) 49) {K : Option Addr → Nat → Nat → Option Addr → Nat → Nat → Option Addr → Nat → Nat → Int → Int → Option Addr → Nat → Nat → Option Addr → Nat → Nat → Option Addr → Nat → Nat → Int → Int → Prop}
    (h : K xl.l.1 xl.l.2.1 xl.l.2.2 xl.t.1 xl.t.2.1 xl.t.2.2 xl.p.1 xl.p.2.1 xl.p.2.2 xl.h xl.g xr.l.1 xr.l.2.1 xr.l.2.2 xr.t.1 xr.t.2.1 xr.t.2.2 xr.p.1 xr.p.2.1 xr.p.2.2 xr.h xr.g) :
    ∃ (a1 : Option Addr) (n1 c1 : Nat), World.cell? w (((⟨b, 0, none⟩ : Addr).add 0).add 0) = some (.slice a1 n1 c1) ∧ (∃ (a2 : Option Addr) (n2 c2 : Nat), World.cell? w (((⟨b, 0, none⟩ : Addr).add 0).add 1) = some (.slice a2 n2 c2) ∧ (∃ (a3 : Option Addr) (n3 c3 : Nat), World.cell? w (((⟨b, 0, none⟩ : Addr).add 0).add 2) = some (.slice a3 n3 c3) ∧
      (∃ (h : Int), World.cell? w (((⟨b, 0, none⟩ : Addr).add 0).add 3) = some (.int .i64 h) ∧ (∃ (g : Int), World.cell? w (((⟨b, 0, none⟩ : Addr).add 0).add 4) = some (.int .i64 g) ∧
      (∃ (a5 : Option Addr) (n5 c5 : Nat), World.cell? w (((⟨b, 0, none⟩ : Addr).add 5).add 0) = some (.slice a5 n5 c5) ∧ (∃ (a6 : Option Addr) (n6 c6 : Nat), World.cell? w (((⟨b, 0, none⟩ : Addr).add 5).add 1) = some (.slice a6 n6 c6) ∧ (∃ (a7 : Option Addr) (n7 c7 : Nat), World.cell? w (((⟨b, 0, none⟩ : Addr).add 5).add 2) = some (.slice a7 n7 c7) ∧
      (∃ (h' : Int), World.cell? w (((⟨b, 0, none⟩ : Addr).add 5).add 3) = some (.int .i64 h') ∧ (∃ (g' : Int), World.cell? w (((⟨b, 0, none⟩ : Addr).add 5).add 4) = some (.int .i64 g') ∧ K a1 n1 c1 a2 n2 c2 a3 n3 c3 h g a5 n5 c5 a6 n6 c6 a7 n7 c7 h' g'))))))))) :=
  ⟨_, _, _, bat2 B rfl, _, _, _, bat2 B rfl, _, _, _, bat2 B rfl, _, bat2 B rfl, _, bat2 B rfl, _, _, _, bat2 B rfl, _, _, _, bat2 B rfl, _, _, _, bat2 B rfl, _, bat2 B rfl, _, bat2 B rfl, h⟩
theorem rdL {b : Nat} {xl xr : PV} {an : Slv} (B : Blk w b (xCs xl xr an) 49) {K : Option Addr → Nat → Nat → Prop} (h : K xl.l.1 xl.l.2.1 xl.l.2.2) : ∃ (a : Option Addr) (n c : Nat), World.cell? w (((⟨b, 0, none⟩ : Addr).add 0).add 0) = some (.slice a n c) ∧ K a n c := ⟨_, _, _, bat2 B rfl, h⟩
theorem rdR {b : Nat} {xl xr : PV} {an : Slv} (B : Blk w b (xCs xl xr an) 49) {K : Option Addr → Nat → Nat → Prop} (h : K xr.l.1 xr.l.2.1 xr.l.2.2) : ∃ (a : Option Addr) (n c : Nat), World.cell? w (((⟨b, 0, none⟩ : Addr).add 5).add 0) = some (.slice a n c) ∧ K a n c := ⟨_, _, _, bat2 B rfl, h⟩
theorem st_idiv {b : Int} {A : Prop} (hb : b ≠ 0) (h : A) : idiv b A := ⟨hb, h⟩
theorem rowI_bs {b n : Nat} {l : List Int} {T : TypeId} (h : Blk w b (Sh.encI.row l) T) (hn : n = l.length) : RowV vI (fun k => k = b) w (some ⟨b, 0, none⟩) n l := by
  subst hn
  exact rowV_enc.2 (rowAt_b (E := Sh.encI) h)
set_option maxHeartbeats 4000000 in
set_option maxRecDepth 20000 in
theorem TopFacingAnchors_spec {xl xr : PV} {an : Slv} {q : SQ} {l r : Int} (hl : PrV S w xl q.lf) (hr : PrV S2 w xr q.rt) (hA : RowV vIs S3 w an.1 an.2.1 q.A) (hs1 : q.lf.T.length ≤ 4611686018427387904) (hs2 : q.rt.T.length ≤ 4611686018427387904) (hs3 : q.A.length ≤ 4611686018427387904)
    (h : ∀ w', Ext w w' → R (.returned (.bool true)) w') : Calls Try.prog F_apographtop_TopFacingAnchors ⟨[.agg ⟨xCs xl xr an⟩, .int .u8 l, .int .u8 r]⟩ w R := by
  have hl := hl.imp (S' := fun _ => True) fun _ _ _ => trivial
  have hr := hr.imp (S' := fun _ => True) fun _ _ _ => trivial
  have hA := hA.imp (S' := fun _ => True) fun _ _ _ => trivial
  apply c_apographtop_TopFacingAnchors
  have hll := hl.l.1
  have hrl := hr.l.1
  have hal := hA.1
  refine al_intro fun b14 w15 hb14 B e15 s15 => ?_
  have aw : ∀ V, Ext w V → Calls Try.prog 14 ⟨[]⟩ V fun (e : Ending) (w' : World) => ∃ (x : Bool), e = .returned (.bool x) ∧ (R (.returned (.bool x)) w') := fun V eV => top52Awake_spec fun w' e' => ⟨_, rfl, h w' (ext_trans eV e')⟩
  intro K16 hK16
  have k16 : ∀ V, Ext w15 V → xl.l.2.1 ≠ 0 → xr.l.2.1 ≠ 0 → q.A.length ≤ 8 → (∀ l ∈ q.A, l.length ≤ 8) → K16 V := by
    intro V eV hz1 hz2 hA8 hA88
    have e0V := ext_trans e15 eV
    refine hK16 _ fun _ => rd10 (B.ext eV) ⟨_, _, _, bat (B.ext eV) rfl, ?_⟩
    refine Break_spec (xl := xl) (xr := xr) (an := an) (q := q) (hl.ext e0V) (hr.ext e0V) (hA.ext e0V) (by omega) fun e n oa on oc w30 e30 hres => ⟨_, _, _, _, _, rfl, ?_⟩
    have e030 := ext_trans e0V e30
    refine br_split (fun _ => aw _ e030) (fun he => ?_)
    have he : e = 0 := Decidable.not_not.1 he
    obtain ⟨hp, hn, hrow⟩ := hres.yes he
    have hf : fchk xl xr q = true := by
      cases hc : fchk xl xr q with
      | true => rfl
      | false => exact absurd he (hres.no hc)
    obtain ⟨hpl, hpr, _⟩ := fchk_facts hf
    intro K37 hK37
    have k37 : ∀ b W, Ext w30 W → Blk W b [.int .i64 (Int.tmod (IntKind.i64.wrap l) xl.l.2.1), .int .i64 (Int.tmod (IntKind.i64.wrap r) xr.l.2.1)] 3 → K37 (some ⟨b, 0, none⟩) 2 2 W := by
      intro b W eW hB
      refine hK37 _ _ _ _ fun _ => ?_
      have e0W := ext_trans e030 eW
      have BW := B.ext (ext_trans eV (ext_trans e30 eW))
      have lb := hB.lt
      refine ⟨_, _, _, bat BW rfl, ?_⟩
      refine CloneL_spec (hA.ext e0W) (by omega) fun a43 c43 w42 hO e42 => ⟨_, _, _, rfl, ?_⟩
      have z42 := e42.size
      have hO := hO.imp (S' := fun _ => True) fun _ _ _ => trivial
      refine OwnV.push slT_ints hO z42 (x := [Int.tmod (IntKind.i64.wrap l) xl.l.2.1, Int.tmod (IntKind.i64.wrap r) xr.l.2.1]) (us := [.slice (some ⟨b, 0, none⟩) 2 2]) ⟨_, 2, rfl, Nat.le_refl _, (rowI_bs (hB.ext e42) rfl).imp fun k hk _ => ⟨trivial, fun hh => by have := (hO.bk hh).1; omega⟩⟩ (by omega) (by omega) fun a46 c46 w47 hO2 hc47 hn47 => ?_
      refine SortL_spec hO2 (by omega) (fun x hx => ?_) fun M w49 hO3 hmem hc49 => ⟨rfl, ?_⟩
      · rcases List.mem_append.1 hx with hx | hx
        · have := hA88 x hx; omega
        · rw [List.mem_singleton] at hx
          subst hx; exact (by decide : (2 : Nat) ≤ 1000000)
      have eW49 : Ext W w49 := ext_own (ext_own e42 hc47 fun k hk => (hO.bk hk).1) hc49 fun k hk => (hO2.bk hk).1
      have e049 := ext_trans e0W eW49
      have B49 := BW.ext eW49
      have hM := hO3.out.imp (S' := fun _ => True) fun _ _ _ => trivial
      have hMn := hM.1
      refine ⟨_, _, _, bat B49 rfl, ?_⟩
      have hrow49 := hrow.ext (ext_trans eW eW49)
      have hon := hrow.1
      have hM8 : M.length ≤ 9 := by omega
      have hon1 : on ≤ 1000000 := by have := endsP_len hf; omega
      refine Together_spec hrow49 (hA.ext e049) hon1 (by omega) (lisOk_spl _) (fc_lis hf) fun w52 e52 => ⟨_, _, rfl, ?_⟩
      rw [fc_tog hf (by omega) hp]
      intro K55 hK55
      refine br_neg (by decide) (br_cases (fun g => absurd g (by decide)) (fun _ => ?_))
      refine hK55 _ fun _ => ?_
      have e052 := ext_trans e049 e52
      refine rd10 (B49.ext e52) ?_
      refine fCheck_spec (xl := xl) (xr := xr) (an := (a46, an.2.1 + 1, c46)) (q := ⟨q.lf, q.rt, M⟩) (hl.ext e052) (hr.ext e052) (hM.ext e52) (show M.length ≤ _ by omega) fun e2 w68 e68 hch => ⟨_, rfl, ?_⟩
      have e068 := ext_trans e052 e68
      refine br_split (fun _ => aw _ e068) (fun he2 => ?_)
      have he2 : e2 = 0 := Decidable.not_not.1 he2
      have hf' : fchk xl xr ⟨q.lf, q.rt, M⟩ = true := by rw [← hch]; exact decide_eq_true he2
      have hM68 := hM.ext (ext_trans e52 e68)
      refine Together_spec (hrow49.ext (ext_trans e52 e68)) hM68 hon1 (by omega) (lisOk_spl _) (fc_lis hf') fun w74 e74 => ⟨_, _, rfl, ?_⟩
      have e074 := ext_trans e068 e74
      refine rd10 (B49.ext (ext_trans e52 (ext_trans e68 e74))) ?_
      refine Break_spec (xl := xl) (xr := xr) (an := (a46, an.2.1 + 1, c46)) (q := ⟨q.lf, q.rt, M⟩) (hl.ext e074) (hr.ext e074) (hM68.ext e74) (show M.length ≤ _ by omega) fun e3 n2 oa2 on2 oc2 w88 e88 hres2 => ⟨_, _, _, _, _, rfl, ?_⟩
      have e088 := ext_trans e074 e88
      obtain ⟨m1, m2⟩ := fc_more (q := q) (q' := ⟨q.lf, q.rt, M⟩) rfl rfl hf hf' (by omega) (fun x hx => (hmem x).2 (List.mem_append_left _ hx)) hp
      refine br_neg (by decide) (br_split (fun he3 => ?_) (fun he3 => ?_))
      · obtain ⟨h23, hneg⟩ := hres2.bad hf' he3
        refine br_pos h23 ?_
        cases hnow : togA (spots ((endsP xl xr q).map spl)) (spots M) with
        | true => have := (m1 hnow).1; omega
        | false => exact aw _ e088
      · obtain ⟨hp2, hn2, hrow2⟩ := hres2.yes (Decidable.not_not.1 he3)
        have hon2 := hrow2.1
        have hon3 : on2 ≤ 1000000 := by have := endsP_len hf'; omega
        refine Together_spec hrow2 (hM68.ext (ext_trans e74 e88)) hon3 (by omega) (lisOk_spl _) (fc_lis hf') fun w96 e96 => ⟨_, _, rfl, ?_⟩
        have e096 := ext_trans e088 e96
        have := fc_tog (q := ⟨q.lf, q.rt, M⟩) hf' (show M.length ≤ _ by omega) hp2
        rw [this]
        have hle := m2 hp2
        refine br_pos rfl (br_pos (p := true = true) rfl (br_pos (by omega) ?_))
        cases hnow : togA (spots ((endsP xl xr q).map spl)) (spots M) with
        | true => exact br_pos (by have := (m1 hnow).2; omega) (aw _ e096)
        | false => exact aw _ e096
    unfold drw
    have ed := ext_drew w30
    have B105 := B.ext (ext_trans eV (ext_trans e30 ed))
    generalize w30.drew = w105 at *
    have d1 : ((xl.l.2.1 : Nat) : Int) ≠ 0 := by omega
    have d2 : ((xr.l.2.1 : Nat) : Int) ≠ 0 := by omega
    have fin : al w105 3 [.int .i64 (Int.tmod (IntKind.i64.wrap l) xl.l.2.1), .int .i64 (Int.tmod (IntKind.i64.wrap r) xr.l.2.1)] fun p w' => K37 (some p) 2 2 w' :=
      al_intro fun b w' hb hB e' s' => k37 b w' (ext_trans ed e') hB
    clear k37 hK37
    repeat' first
      | with_reducible exact fin
      | exact trivial
      | with_reducible refine st_idiv d1 ?_
      | with_reducible refine st_idiv d2 ?_
      | with_reducible refine rdL B105 ?_
      | with_reducible refine rdR B105 ?_
      | with_reducible refine And.intro ?_ ?_
  refine ⟨_, _, _, bat B rfl, _, _, _, bat B rfl, _, _, _, bat B rfl, _, bat B rfl, _, bat B rfl, _, _, _, bat B rfl, _, _, _, bat B rfl, _, _, _, bat B rfl, _, bat B rfl, _, bat B rfl, _, _, _, bat B rfl, ?_⟩
  refine top52Great_spec (xl := xl) (xr := xr) (an := an) (q := q) (hl.ext e15) (hr.ext e15) (hA.ext e15) hs1 hs2 hs3 fun v w179 e179 hv => ⟨_, rfl, ?_⟩
  have e0 := ext_trans e15 e179
  refine br_cases (fun _ => aw _ e0) (fun g => ?_)
  obtain ⟨g1, g2⟩ := hv g
  refine ⟨_, _, _, bat2 (B.ext e179) rfl, br_split (fun _ => aw _ e0) (fun z1 => ?_)⟩
  refine ⟨_, _, _, bat2 (B.ext e179) rfl, br_split (fun _ => aw _ e0) (fun z2 => ?_)⟩
  exact k16 _ e179 (by omega) (by omega) g1 g2
end
end Go.Proofs
namespace Go.Sh
open Go Go.RowKit Go.ChangeShapes
section
variable {H : Type} {enc : TypeId × Value → H} {P : Program} {W W' : World}
theorem trodAll_carry {sp : Nat → Bool} : ∀ {ts : List TypeId} {vs : List Value} {ds : List (DataW H)} {ps : List MemPlace}, DataW.TrodAll enc P W 0 sp true ts vs ds ps → (∀ p ∈ ps, W.sameAt W' p) → DataW.TrodAll enc P W' 0 sp true ts vs ds ps
  | [], [], [], _, h, _ => h
  | _ :: _, _ :: _, _ :: _, _, ⟨p, q, ⟨n, hn⟩, h2, e⟩, hs =>
    ⟨p, q, ⟨n, DataW.trod_carry n _ _ _ hn fun x hx => hs x (by rw [e]; exact List.mem_append_left _ hx)⟩, trodAll_carry h2 (fun x hx => hs x (by rw [e]; exact List.mem_append_right _ hx)), e⟩
  | [], [], _ :: _, _, h, _ => h.elim
  | [], _ :: _, _, _, h, _ => h.elim
  | _ :: _, [], _, _, h, _ => h.elim
  | _ :: _, _ :: _, [], _, h, _ => h.elim
theorem trodAll_below (hl : laidOutB P = true) : ∀ {ts : List TypeId} {vs : List Value} {ds : List (DataW H)} {ps : List MemPlace}, (∀ t ∈ ts, P.readableRec t = true ∧ t < P.types.size) → DataW.TrodAll enc P W 0 (fun _ => true) true ts vs ds ps → Below W.heap.size W W' → (∀ x ∈ ps, x.block < W.heap.size) →
    DataW.TrodAll enc P W' 0 (fun b => decide (b < W.heap.size)) true ts vs ds ps
  | [], [], [], _, _, h, _, _ => h
  | _ :: _, _ :: _, _ :: _, _, ht, ⟨p, q, h1, h2, e⟩, hb, hlt =>
    ⟨p, q, Below.trod hl (ht _ (by simp)).1 (ht _ (by simp)).2 h1 hb (fun x hx => hlt x (by rw [e]; exact List.mem_append_left _ hx)),
      trodAll_below hl (fun t h => ht t (List.mem_cons_of_mem _ h)) h2 hb (fun x hx => hlt x (by rw [e]; exact List.mem_append_right _ hx)), e⟩
  | [], [], _ :: _, _, _, h, _, _ => h.elim
  | [], _ :: _, _, _, _, h, _, _ => h.elim
  | _ :: _, [], _, _, _, h, _, _ => h.elim
  | _ :: _, _ :: _, [], _, _, h, _, _ => h.elim

/- a law's 'post' where it answers true and what was there stands -/
theorem post_ext {f : Func} {s : ChangeSpec} {apart fresh handsOn again : Bool} {args : Array Value} {ds gs : List (DataW H)} {before : List MemPlace} {tb : TypeId} (hl : laidOutB P = true) (hts : ∀ t ∈ f.params.toList, P.readableRec t = true ∧ t < P.types.size) (hres : f.resultTypes = #[tb]) (htb : P.underlying tb = some .bool) (hvars : s.vars = [])
    (hW : DataW.Whole enc P f.params.toList s.vars apart W args.toList ds gs before) (hfn : s.fn H (ds ++ gs) = { results := [.lit (.bool true)], args := ds }) (he : Ext W W') :
    s.post enc P f apart fresh handsOn again W args (.bool true) W' := by
  have hlt := hW.lt
  have hW0 := hW
  obtain ⟨p, q, h1, h2, hpq, hz, hn⟩ := hW0
  rw [hvars] at h2
  obtain ⟨hg, hq⟩ := trodVars_none h2
  subst hg hq
  simp only [List.append_nil] at hpq
  subst hpq
  have hbool : ∀ (b : Nat) (sp : Nat → Bool) (hd : Bool), DataW.TrodAll enc P W' b sp hd f.resultTypes.toList ((Value.bool true).resultList f.resultTypes.size) [.lit (.bool true)] [] := by
    intro b sp hd
    rw [hres]
    exact trodAll_mk1 (shut_bool htb true)
  refine ⟨ds, [], before, [], before, [], hW, ?_, ?_, ?_, he.frame _, fun _ => ⟨ok_one hres rfl (okWide_bool_mk htb true), [.lit (.bool true)] ++ ds, [], [] ++ before, ⟨[] ++ before, [], ?_, ?_, by simp, ?_, ?_⟩, ?_⟩⟩
  · rw [hfn]; exact hbool _ _ _
  · rw [hfn]; exact trodAll_below hl hts h1 he hlt
  · rw [hfn, hvars]; rfl
  · exact trodAll_append (trodAll_carry h1 fun x hx => he.same (hlt x hx)) (hbool _ _ _)
  · rw [hvars]; rfl
  · intro b off hp
    simp only [List.nil_append] at hp
    rw [he.frozen (hlt _ hp)]
    exact hz b off hp
  · intro ha; simpa using hn ha
  · intro x hx _; simpa using hx
end
end Go.Sh
namespace Go.Sh
open Go Go.RowKit Go.ChangeShapes
/- slices as arguments, of whatever elements: what a row says of them, as a view; with the bound on their lengths -/
section
variable {H : Type} {enc : TypeId × Value → H} {P : Program} {w : World} {base : Nat} {sp : Nat → Bool} {hd : Bool} {α : Type}
theorem weightsAll_memG {e : TypeId} : ∀ {ds : List (DataW H)} {d : DataW H} {m : Nat}, d ∈ ds → m ∈ d.weights P e → m ∈ DataW.weightsAll P e ds
  | d0 :: ds, d, m, hd, hm => by
    rw [DataW.weightsAll, List.mem_append]
    rcases List.mem_cons.1 hd with rfl | hd
    · exact .inl hm
    · exact .inr (weightsAll_memG hd hm)
theorem rowV_build {V : View α} {Q : α → Prop} {a : Addr} {len : Nat} (hel : ∀ i, i < len → ∃ (x : α) (us : List Value), Q x ∧ V.C (fun _ => True) w x us ∧ ∀ j v, us[j]? = some v → w.cell? ((a.add (i * V.size)).add j) = some v) :
    ∃ L : List α, RowV V (fun _ => True) w (some a) len L ∧ ∀ x ∈ L, Q x := by
  by_cases hl0 : len = 0
  · subst hl0; exact ⟨[], RowV.nil _, fun x hx => by cases hx⟩
  obtain ⟨b, o, rfl⟩ : ∃ b o, a = ⟨b, o, none⟩ := by
    obtain ⟨x, us, _, hC, hx⟩ := hel 0 (by omega)
    have hp := V.pos
    have hl := V.len hC
    have h0 := hx 0 _ (List.getElem?_eq_getElem (by omega))
    obtain ⟨b, o, spot⟩ := a
    have hspot : spot = none := by simpa [Addr.add] using World.cell?_spot h0
    subst hspot
    exact ⟨b, o, rfl⟩
  have build : ∀ k, k ≤ len → ∃ (L : List α) (us : List Value), L.length = k ∧ us.length = k * V.size ∧ AllV V (fun _ => True) w L us ∧ (∀ x ∈ L, Q x) ∧ ∀ j v, us[j]? = some v → w.cell? ((⟨b, o, none⟩ : Addr).add j) = some v := by
    intro k
    induction k with
    | zero => exact fun _ => ⟨[], [], rfl, by simp, rfl, fun x hx => (by cases hx), fun j v hj => (by simp at hj)⟩
    | succ k ihk =>
      intro hk
      obtain ⟨L, us, hL, hul, hC, hQ, hus⟩ := ihk (by omega)
      obtain ⟨x, vs, hq, hV, hx⟩ := hel k (by omega)
      refine ⟨L ++ [x], us ++ vs, by simp [hL], by rw [List.length_append, hul, V.len hV, Nat.succ_mul], hC.app (AllV.single hV), fun y hy => ?_, fun j v hj => ?_⟩
      · rw [List.mem_append, List.mem_singleton] at hy
        rcases hy with hy | rfl
        · exact hQ y hy
        · exact hq
      · by_cases hlt : j < us.length
        · rw [List.getElem?_append_left hlt] at hj; exact hus j v hj
        · rw [List.getElem?_append_right (by omega)] at hj
          have := hx _ _ hj
          rw [add_none, add_none] at this
          rw [add_none, ← this]
          congr 2; omega
  obtain ⟨L, us, hL, hul, hC, hQ, hus⟩ := build len (Nat.le_refl _)
  have hlt : b < w.heap.size := by
    obtain ⟨x, vs, _, hV, hx⟩ := hel 0 (by omega)
    have hp := V.pos
    have hl := V.len hV
    have h0 := hx 0 _ (List.getElem?_eq_getElem (by omega))
    have := World.block_lt_of_cell? w _ h0
    simpa [Addr.add] using this
  exact ⟨L, ⟨hL.symm, us, .inr ⟨b, o, rfl, trivial, hlt, fun j v hj => by have := hus j v hj; rwa [add_none] at this⟩, hC⟩, hQ⟩
theorem open_slV {V : View α} {Q : α → Prop} {t e : TypeId} (ht : P.underlying t = some (.slice e)) (hc : P.cellsOf e = V.size) (hb : 0 < P.bytesOf e)
    (hel : ∀ n cs y, (∀ m ∈ y.1.weights P e, m ≤ reachBytes) → cs.length = P.cellsOf e → DataW.trod enc P w base sp hd n e cs = some y → ∃ x, Q x ∧ V.C (fun _ => True) w x cs)
    (fuel : Nat) (cs : List Value) (x : DataW H × List MemPlace) (hz : ∀ m ∈ x.1.weights P t, m ≤ reachBytes) (h : DataW.trod enc P w base sp hd fuel t cs = some x) :
    ∃ (a : Option Addr) (n c : Nat) (L : List α), cs = [.slice a n c] ∧ n ≤ c ∧ RowV V (fun _ => True) w a n L ∧ L.length ≤ 140737488355328 ∧ ∀ x ∈ L, Q x := by
  rcases DataW.trod_slice ht h with ⟨rfl, _⟩ | ⟨a, len, cap, elems, rest, n, rfl, rfl, hx, hb', hl, hm, hel', hall, _⟩
  · exact ⟨none, 0, 0, [], rfl, Nat.le_refl _, RowV.nil _, by simp, fun x hx => by cases hx⟩
  have hr : reachBytes = 140737488351232 := rfl
  have hw : x.1.weights P t = (elems.length + rest.length) * P.bytesOf e :: (DataW.weightsAll P e (elems.map (·.1)) ++ DataW.weightsAll P e (rest.map (·.1))) := by
    rw [hx]
    simp only [DataW.weights, ht, List.length_map]
  rw [hw] at hz
  have hlen : len ≤ 140737488355328 := by
    have h1 := hz _ List.mem_cons_self
    have h2 : (elems.length + rest.length) * 1 ≤ (elems.length + rest.length) * P.bytesOf e := Nat.mul_le_mul (Nat.le_refl _) hb
    omega
  obtain ⟨L, hL, hq⟩ := rowV_build (V := V) (Q := Q) (w := w) (a := a) (len := len) fun i hi => by
    have hh := hall i hi
    have hei : elems[i]? = some (elems[i]'(by omega)) := List.getElem?_eq_getElem (by omega)
    rw [hei] at hh
    obtain ⟨cs', hc1, hc2⟩ := Option.bind_eq_some_iff.1 hh
    obtain ⟨_, hlen', hcell⟩ := World.cells?_some hc1
    have hwe : ∀ q ∈ (elems[i]'(by omega)).1.weights P e, q ≤ reachBytes := fun q hq => hz q (List.mem_cons_of_mem _ (List.mem_append_left _ (weightsAll_memG (List.mem_map_of_mem (List.getElem_mem (by omega))) hq)))
    obtain ⟨y, hy1, hy2⟩ := hel n cs' _ hwe hlen' hc2
    refine ⟨y, cs', hy1, hy2, fun j v hj => ?_⟩
    have hjl : j < cs'.length := (List.getElem?_eq_some_iff.1 hj).1
    rw [← hc, hcell j (by omega)]; exact hj
  exact ⟨some a, len, cap, L, rfl, hl, hL, by have := hL.1; omega, hq⟩
/- elements -/
theorem el_int {e : TypeId} (he : P.underlying e = some (.int .i64)) : ∀ (n : Nat) (cs : List Value) (y : DataW H × List MemPlace), (∀ m ∈ y.1.weights P e, m ≤ reachBytes) → cs.length = P.cellsOf e → DataW.trod enc P w base sp hd n e cs = some y → ∃ x : Int, (-9223372036854775808 ≤ x ∧ x ≤ 9223372036854775807) ∧ vI.C (fun _ => True) w x cs := by
  intro n cs y _ _ h
  obtain ⟨k, e0, _, wf⟩ := DataW.trod_int he h
  refine ⟨k, ?_, e0⟩
  simp [Lit.wf, IntKind.min, IntKind.max, IntKind.signed, IntKind.bits] at wf
  omega
theorem el_sl {V : View α} {Q : α → Prop} {t e : TypeId} (ht : P.underlying t = some (.slice e)) (hc : P.cellsOf e = V.size) (hb : 0 < P.bytesOf e)
    (hel : ∀ n cs y, (∀ m ∈ y.1.weights P e, m ≤ reachBytes) → cs.length = P.cellsOf e → DataW.trod enc P w base sp hd n e cs = some y → ∃ x, Q x ∧ V.C (fun _ => True) w x cs) :
    ∀ (n : Nat) (cs : List Value) (y : DataW H × List MemPlace), (∀ m ∈ y.1.weights P t, m ≤ reachBytes) → cs.length = P.cellsOf t → DataW.trod enc P w base sp hd n t cs = some y → ∃ x : List α, (x.length ≤ 140737488355328 ∧ ∀ z ∈ x, Q z) ∧ (View.sl V).C (fun _ => True) w x cs := by
  intro n cs y hz _ h
  obtain ⟨a, m, c, L, e0, hmc, hL, hl, hq⟩ := open_slV ht hc hb hel n cs y hz h
  obtain rfl : m = L.length := hL.1
  exact ⟨L, ⟨hl, hq⟩, a, c, e0, hmc, hL⟩
end
end Go.Sh
namespace Go.Proofs.Ytncjonkmhfdabaa
open Go Go.Sh Go.RowKit Go.ChangeShapes Go.WideShapes Go.ChangeAt
/- what the rows of this seat share -/
theorem own : ownKnob Try.prog.godebug = none := by kernel_rfl
theorem laidOut : laidOutB Try.prog = true := by kernel_rfl
noncomputable def plainWorld (os : Os) : World := World.holding Try.prog os ⟨#[], #[], []⟩
end Go.Proofs.Ytncjonkmhfdabaa
