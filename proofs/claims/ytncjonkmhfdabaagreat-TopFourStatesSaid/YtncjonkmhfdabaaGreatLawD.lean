/- The contracts of the functions that the law reaches, one after the other, and at the end the law's card. -/
import Derived.Test.YtncjonkmhfdabaaGreatLawC
namespace Go.Proofs
open Go Go.Sh Go.RowKit
/- slices.SortFunc of pointers to nodes: the same nodes -/
theorem swap_perm {α : Type} {M : List α} {i j : Nat} (hij : i < j) (hj : j < M.length) : ((M.set j (M[i]'(by omega))).set i M[j]).Perm M := by
  have e : M = M.take i ++ M[i] :: (M.drop (i + 1)).take (j - i - 1) ++ M[j] :: M.drop (j + 1) := by
    conv => lhs; rw [← List.take_append_drop i M, List.drop_eq_getElem_cons (by omega : i < M.length), ← List.take_append_drop (j - i - 1) (M.drop (i + 1)), List.drop_drop, show i + 1 + (j - i - 1) = j by omega, List.drop_eq_getElem_cons hj]
    simp
  have e2 : (M.set j (M[i]'(by omega))).set i M[j] = M.take i ++ M[j] :: (M.drop (i + 1)).take (j - i - 1) ++ M[i] :: M.drop (j + 1) := by
    apply List.ext_getElem?
    intro k
    rw [List.getElem?_set, List.getElem?_set]
    have hl : (M.set j (M[i]'(by omega))).length = M.length := by simp
    by_cases h1 : i = k
    · subst h1
      rw [if_pos rfl, if_pos (by rw [hl]; omega), List.append_assoc, List.getElem?_append_right (by simp; omega)]
      simp
      rw [show i - min i M.length = 0 by omega]; rfl
    · rw [if_neg h1]
      by_cases h2 : j = k
      · subst h2
        rw [if_pos rfl, if_pos hj, List.append_assoc, List.getElem?_append_right (by simp; omega), List.cons_append, show j - (M.take i).length = (j - i - 1) + 1 by simp; omega, List.getElem?_cons_succ, List.getElem?_append_right (by simp; omega)]
        simp
        rw [show j - i - 1 - min (j - i - 1) (M.length - (i + 1)) = 0 by omega]; rfl
      · rw [if_neg h2]
        by_cases h3 : k < i
        · rw [List.append_assoc, List.getElem?_append_left (by simp; omega), List.getElem?_take, if_pos h3]
        · rw [List.append_assoc, List.getElem?_append_right (by simp; omega), List.cons_append]
          obtain ⟨d, hd⟩ : ∃ d, k - (M.take i).length = d + 1 := ⟨k - i - 1, by simp; omega⟩
          have hk : k = i + 1 + d := by simp at hd; omega
          rw [hd, List.getElem?_cons_succ]
          by_cases h4 : k < j
          · rw [List.getElem?_append_left (by simp; omega), List.getElem?_take, if_pos (by omega), List.getElem?_drop, hk]
          · rw [List.getElem?_append_right (by simp; omega)]
            obtain ⟨d2, hd2⟩ : ∃ d2, d - ((M.drop (i + 1)).take (j - i - 1)).length = d2 + 1 := ⟨k - j - 1, by simp; omega⟩
            rw [hd2, List.getElem?_cons_succ, List.getElem?_drop]
            congr 1
            simp at hd2
            omega
  rw [e2]
  conv => rhs; rw [e]
  generalize M[i]'(by omega) = x
  generalize M[j] = y
  generalize M.take i = A
  generalize (M.drop (i + 1)).take (j - i - 1) = Bm
  generalize M.drop (j + 1) = C
  rw [List.append_assoc, List.append_assoc]
  refine List.Perm.append_left A ?_
  show (y :: (Bm ++ x :: C)).Perm (x :: (Bm ++ y :: C))
  refine ((List.perm_middle (a := x) (l₁ := Bm) (l₂ := C)).cons y).trans ?_
  refine (List.Perm.swap x y (Bm ++ C)).trans ?_
  exact (List.perm_middle.symm).cons x
section
variable {R : Ending → World → Prop} {w : World} {a : Option Addr} {n c B : Nat} {L : List Nat}
theorem ownP_get (h : OwnL encP w B 88 a n c L) {j : Nat} (hj : j < L.length) : ∃ g, a = some ⟨g, 0, none⟩ ∧ w.cell? ⟨g, j, none⟩ = some (ptr L[j]) := by
  have hl := OwnL.length h
  obtain ⟨g, rfl, _, hc⟩ := Owns.cell h (by omega)
  refine ⟨g, rfl, hc j _ ?_⟩
  have := row_get (E := encP) (l := L) (i := j) (j := 0) (x := L[j]) (List.getElem?_eq_getElem hj) (by decide)
  rw [show j * encP.size + 0 = j from Nat.mul_one j] at this
  rw [this]; rfl
set_option maxRecDepth 20000 in
theorem perm_two {M : List Nat} {x y : Nat} (h : M.Perm [x, y]) : M = [x, y] ∨ M = [y, x] := by
  have hl := h.length_eq
  match M, hl with
  | [a, b], _ =>
    have ha : a ∈ [x, y] := h.mem_iff.1 (by simp)
    have hb : b ∈ [x, y] := h.mem_iff.1 (by simp)
    have hx : x ∈ [a, b] := h.mem_iff.2 (by simp)
    have hy : y ∈ [a, b] := h.mem_iff.2 (by simp)
    simp only [List.mem_cons, List.not_mem_nil, or_false] at ha hb hx hy
    rcases ha with rfl | rfl
    · rcases hy with e | e
      · left; rcases hb with rfl | rfl
        · rw [e]
        · rfl
      · left; rw [e]
    · rcases hx with e | e
      · rcases hb with rfl | rfl
        · right; rfl
        · left; rw [e]
      · right; rw [e]
/- two elements that a comparison parts come in their order -/
def twoG (cv : Nat → Nat → Int) (n : Nat) (L M : List Nat) : Prop := n = 2 → ∀ x y, L.Perm [x, y] → cv x y < 0 → ¬ cv y x < 0 → M = [x, y]
theorem SortN_spec {cf : Fn} {ca cb : Array Value} (cv : Nat → Nat → Int) (hO : OwnL encP w B 88 a n c L) (hn : n ≤ 12)
    (hcmp : ∀ x ∈ L, ∀ y ∈ L, ∀ V, Chg (bk a) w V → ∀ K : Ending → World → Prop, (∀ V', Ext V V' → K (.returned (.int .i64 (cv x y))) V') → CallV Tryz.prog (.func cf ca cb) [ptr x, ptr y] V K)
    (h : ∀ M w', OwnL encP w' B 88 a n c M → M.Perm L → Chg (bk a) w w' → twoG cv n L M → R (.returned (.tuple ⟨[]⟩)) w') :
    Calls Tryz.prog F_slices_SortFunc_of_phylotree_node_phylotree_node ⟨[.slice a n c, .func cf ca cb]⟩ w R := by
  apply c_slices_SortFunc_of_phylotree_node_phylotree_node
  have e : IntKind.u64.wrap (n : Int) = (n : Int) := by simp [IntKind.wrap, IntKind.bits, IntKind.signed]; omega
  unfold sh_slices_SortFunc_of_phylotree_node_phylotree_node
  rw [e]
  refine Len_small n (by omega) fun v => ⟨_, rfl, ?_⟩
  apply c_slices_pdqsortCmpFunc_of_phylotree_node
  refine ⟨fun a' b' l' x y W m => a' = 0 ∧ b' = (n : Int) ∧ W = w, ⟨0, rfl, rfl, rfl⟩, ?_⟩
  rintro _ _ l' x y W m ⟨rfl, rfl, rfl⟩ _
  refine br_split (fun g => ?_) (fun g => absurd (show IntKind.i64.wrap ((n : Int) - 0) ≤ 12 by rw [wrap_id (by omega)]; omega) g)
  apply c_slices_insertionSortCmpFunc_of_phylotree_node
  refine ⟨fun i V m => ∃ k : Nat, ∃ M, i = k ∧ 1 ≤ k ∧ k ≤ n + 1 ∧ m = n + 1 - k ∧ OwnL encP V B 88 a n c M ∧ M.Perm L ∧ Chg (bk a) W V ∧ (2 ≤ k → twoG cv n L M), ⟨_, 1, L, by decide, by omega, by omega, rfl, hO, List.Perm.refl _, Chg.refl _ _, fun q => by omega⟩, ?_⟩
  rintro _ V m ⟨k, M, rfl, hk1, hk2, rfl, hM, hm, hc, hG⟩ _
  refine br_split (fun hlt => ?_) (fun hge => ⟨rfl, rfl, h M V hM hm hc fun e => hG (by omega) e⟩)
  have hkn : k < n := by omega
  refine ⟨fun j V m' => ∃ jj : Nat, ∃ N, j = jj ∧ jj ≤ k ∧ m' = jj + 0 ∧ OwnL encP V B 88 a n c N ∧ N.Perm L ∧ Chg (bk a) W V ∧ (jj = 0 → twoG cv n L N), ⟨_, k, M, rfl, by omega, rfl, hM, hm, hc, fun q => by omega⟩, ?_⟩
  rintro _ V2 m' ⟨j, N, rfl, hj, hm', hN, hmN, hcV, hGN⟩ _
  have hln := OwnL.length hN
  have ela : ∀ {V : World} {N : List Nat}, OwnL encP V B 88 a n c N → ∀ {j : Nat} (hj : j < N.length), ∃ (q : Addr), (∀ K : Addr → Prop, K q → idx a n (j : Int) 1 K) ∧ V.cell? q = some (ptr N[j]) := by
    intro V N hN j hj
    have := OwnL.length hN
    obtain ⟨g, ha, h1⟩ := ownP_get hN hj
    exact ⟨⟨g, j, none⟩, fun K hK => by rw [ha]; exact idx_b1 (by omega) hK, h1⟩
  intro K15 hK15
  have out : ∀ v, Ext V2 v → twoG cv n L N → ∃ m34 : Nat, m34 < n + 1 - k ∧ ∃ k' : Nat, ∃ M, IntKind.i64.wrap ((k : Int) + 1) = k' ∧ 1 ≤ k' ∧ k' ≤ n + 1 ∧ m34 = n + 1 - k' ∧ OwnL encP v B 88 a n c M ∧ M.Perm L ∧ Chg (bk a) W v ∧ (2 ≤ k' → twoG cv n L M) := fun v ev hg =>
    ⟨n + 1 - (k + 1), by omega, k + 1, N, by rw [wrap_nat (by omega)], by omega, by omega, rfl, Owns.ext hN ev, hmN, hcV.trans (.of_ext ev), fun _ => hg⟩
  have k15 : ∀ v, Ext V2 v → 0 < j → (∀ (h1 : j < N.length), cv N[j] (N[j - 1]'(by omega)) < 0) → K15 v := by
    intro v ev hj0 hlt15
    refine hK15 _ fun _ => ?_
    unfold drw
    have ed := ext_drew v
    have e17 := ext_trans ev ed
    generalize v.drew = w17 at *
    have hN17 : OwnL encP w17 B 88 a n c N := Owns.ext hN e17
    have hjl : j < N.length := by omega
    have hjl1 : j - 1 < N.length := by omega
    obtain ⟨q1, hq1, d1⟩ := ela hN17 hjl1
    obtain ⟨q2, hq2, d2⟩ := ela hN17 hjl
    rw [wrap_id (by omega), show (j : Int) - 1 = ((j - 1 : Nat) : Int) by omega]
    refine hq1 _ ⟨_, d1, hq2 _ ⟨_, d2, ?_⟩⟩
    obtain ⟨g, hg, hi1, hst⟩ := OwnL.store hN17 (i := j) (by omega) N[j - 1]
    refine hi1 _ ⟨hst _ fun w23 h23 c23 s23 => ?_, trivial⟩
    obtain ⟨g', hg', hi2, hst2⟩ := OwnL.store h23 (i := j - 1) (by omega) N[j]
    refine hi2 _ ⟨hst2 _ fun w25 h25 c25 s25 => ?_, trivial⟩
    refine ⟨j - 1, by omega, j - 1, _, rfl, by omega, rfl, h25, (swap_perm (by omega) hjl).trans hmN, hcV.trans ((Chg.of_ext e17).trans (c23.trans c25)), fun q => ?_⟩
    intro e2 x y hp h1 h2
    have hlt15 := hlt15 hjl
    obtain rfl : j = 1 := by omega
    rcases perm_two (hmN.trans hp) with e | e
    · subst e; exact absurd hlt15 h2
    · subst e; rfl
  unfold drw
  have ed := ext_drew V2
  have hNd : OwnL encP V2.drew B 88 a n c N := Owns.ext hN ed
  generalize V2.drew = w27 at *
  refine br_split (fun hj0 => ?_) (fun hj0 => ⟨out w27 ed (hGN (by omega)), trivial⟩)
  have hjl : j < N.length := by omega
  have hjl1 : j - 1 < N.length := by omega
  obtain ⟨q1, hq1, d1⟩ := ela hNd hjl1
  obtain ⟨q2, hq2, d2⟩ := ela hNd hjl
  refine hq2 _ ⟨_, d2, ?_⟩
  rw [wrap_id (by omega), show (j : Int) - 1 = ((j - 1 : Nat) : Int) by omega]
  refine hq1 _ ⟨_, d1, ?_, trivial⟩
  refine hcmp _ (hmN.mem_iff.1 (List.getElem_mem hjl)) _ (hmN.mem_iff.1 (List.getElem_mem hjl1)) w27 (hcV.trans (.of_ext ed)) _ fun w' e' => ⟨_, rfl, br_split (fun g => k15 w' (ext_trans ed e') (by omega) fun _ => g) (fun g => out w' (ext_trans ed e') ?_)⟩
  intro e2 x y hp h1 h2
  obtain rfl : j = 1 := by omega
  rcases perm_two (hmN.trans hp) with e | e
  · exact e
  · subst e; exact absurd h1 g
end
end Go.Proofs
namespace Go.Proofs
open Go Go.Sh Go.RowKit
/- phylotree.sorted: the children in another order -/
theorem perm_of_map {α β : Type} {f : α → β} {M K : List β} (h : M.Perm K) : ∀ {l : List α}, K = l.map f → ∃ l' : List α, M = l'.map f ∧ l'.Perm l := by
  induction h with
  | nil => intro l hl; exact ⟨l, hl, List.Perm.refl _⟩
  | cons x _ ih =>
    intro l hl
    cases l with
    | nil => cases hl
    | cons y l =>
      rw [List.map_cons, List.cons.injEq] at hl
      obtain ⟨l', h1, h2⟩ := ih hl.2
      exact ⟨y :: l', by rw [List.map_cons, ← h1, hl.1], h2.cons y⟩
  | swap x y K =>
    intro l hl
    match l, hl with
    | a :: b :: l, hl =>
      rw [List.map_cons, List.map_cons, List.cons.injEq, List.cons.injEq] at hl
      exact ⟨b :: a :: l, by rw [List.map_cons, List.map_cons, ← hl.1, ← hl.2.1, ← hl.2.2], List.Perm.swap a b l⟩
  | trans _ _ ih1 ih2 =>
    intro l hl
    obtain ⟨l1, h1, h2⟩ := ih2 hl
    obtain ⟨l2, h3, h4⟩ := ih1 h1
    exact ⟨l2, h3, h4.trans h2⟩
theorem chgT {S S' : Nat → Prop} {A B C : World} (h : Chg S A B) (k : Chg S' B C) (hs : ∀ i, i < A.heap.size → S' i → S i) : Chg S A C :=
  ⟨k.os.trans h.os, k.tape.trans h.tape, k.output.trans h.output, Nat.le_trans h.size k.size, fun i hi hn => (k.block i (by have := h.size; omega) fun q => hn (hs i hi q)).trans (h.block i hi hn)⟩
structure KidsG (n : Nat) (Kd : Nat → List Nat) : Prop where
  kid : ∀ i, i < n → ∀ c ∈ Kd i, i < c ∧ c < n
  nd : ∀ i, i < n → (Kd i).Nodup
  len : ∀ i, i < n → (Kd i).length ≤ 12
theorem KidsG.perm {n : Nat} {Kd Kd' : Nat → List Nat} (h : KidsG n Kd) (hp : ∀ j, j < n → (Kd' j).Perm (Kd j)) : KidsG n Kd' :=
  ⟨fun i hi c hc => h.kid i hi c ((hp i hi).mem_iff.1 hc), fun i hi => (hp i hi).nodup_iff.2 (h.nd i hi), fun i hi => by rw [(hp i hi).length_eq]; exact h.len i hi⟩
theorem i113 : ∃ i, Tryz.prog.info? 113 = some i ∧ i.size ≠ 0 := by
  have h : (Tryz.prog.info? 113).map (·.size) = some 3 := by kernel_rfl
  cases hi : Tryz.prog.info? 113 with
  | none => rw [hi] at h; cases h
  | some i =>
    rw [hi] at h
    have h : i.size = 3 := by simpa using h
    exact ⟨i, rfl, by omega⟩
section
variable {R : Ending → World → Prop} {w : World} {N : List Nm} {nb : Nat → Nat} {n B : Nat} {r : Nat → Slv} {Kd : Nat → List Nat}
theorem NodesAt.live (h : NodesAt w nb n B N r Kd) {i : Nat} (hi : i < n) : liveK w (some (nb i)) := fun b hb => by
  cases hb
  exact ⟨_, _, h.blk i hi⟩
theorem NodesAt.chgN (h : NodesAt w nb n B N r Kd) {C : Nat → Prop} {w' : World} (hc : Chg C w w') (h1 : ∀ i, i < n → ¬ C (nb i)) (h2 : ∀ j, j < n → ∀ k, bk (r j).1 k → ¬ C k) : NodesAt w' nb n B N r Kd :=
  ⟨fun i hi => hc.blk (h.blk i hi) (h1 i hi), h.lo, h.inj, h.rows.chg hc h2⟩
inductive ReachK (Ks : Nat → List Nat) : Nat → Nat → Prop
  | refl (i : Nat) : ReachK Ks i i
  | step {i c j : Nat} : c ∈ Ks i → ReachK Ks c j → ReachK Ks i j
/- nodes with two children each, whose order their least names tell -/
def LstOk (n : Nat) (Ks : Nat → List Nat) (N : List Nm) (lst : Nat → Nm) : Prop :=
  ∀ i, i < n → (Ks i = [] ∧ lst i = gM N i) ∨ ∃ a b, Ks i = [a, b] ∧ Lib.compareBytes (lst a) (lst b) < 0 ∧ ¬ Lib.compareBytes (lst b) (lst a) < 0 ∧ lst i = lst a
def strK (ks : List (Option Nat)) (f : Option Nat → Value) : Prop := ∀ y ∈ ks, ∃ s : List UInt8, f y = .string ⟨⟨s⟩⟩
def strOf (f : Option Nat → Value) (b : Nat) : List UInt8 := match f (some b) with
  | .string s => s.data.toList
  | _ => []
theorem strOf_of {f : Option Nat → Value} {b : Nat} {s : List UInt8} (h : f (some b) = .string ⟨⟨s⟩⟩) : strOf f b = s := by unfold strOf; rw [h]
theorem look_str {b6 : Nat} {ks : List (Option Nat)} {f : Option Nat → Value} (hM : MapP w b6 ks f) (hs : strK ks f) (hl : ∀ y ∈ ks, liveK w y) {b : Nat} (hb : some b ∈ ks) : lkAt Tryz.prog 114 (.map (some b6)) (ptr b) w (.string ⟨⟨strOf f b⟩⟩) := by
  obtain ⟨i, hi, hz⟩ := i113
  obtain ⟨s, hs⟩ := hs _ hb
  have := hM.look (t := 114) (e := 9) Tryz.underlying88 hi hz Tryz.underlying114 (hl _ hb) hl hb
  rw [strOf_of hs]
  rw [hs] at this
  exact this
theorem cmpN_call {p8 b6 : Nat} {ks : List (Option Nat)} {f : Option Nat → Value} (B8 : Blk w p8 [.map (some b6)] 114) (hM : MapP w b6 ks f) (hs : strK ks f) (hl : ∀ y ∈ ks, liveK w y) {x y : Nat} (hx : some x ∈ ks) (hy : some y ∈ ks) {K : Ending → World → Prop}
    (h : ∀ V', Ext w V' → K (.returned (.int .i64 (Lib.compareBytes (strOf f x) (strOf f y)))) V') : CallV Tryz.prog (.func (.func 76) ⟨[]⟩ ⟨[.pointer (some ⟨p8, 0, none⟩)]⟩) [ptr x, ptr y] w K := by
  refine ⟨by kernel_rfl, ?_⟩
  apply c_phylotree_sorted_1
  have h1 := look_str hM hs hl hx
  have h2 := look_str hM hs hl hy
  refine dr_ok ⟨_, b0_cell B8, _, h1, dr_ok ⟨_, b0_cell B8, _, h2, ?_⟩⟩
  refine (Tryz.strings_Compare ⟨⟨strOf f x⟩⟩ ⟨⟨strOf f y⟩⟩ w).mono ?_
  rintro e w' ⟨rfl, rfl⟩
  exact ⟨_, rfl, h _ (Below.refl _ _)⟩
set_option maxRecDepth 20000 in
set_option maxHeartbeats 1000000 in
theorem ReachK.lt {Ks : Nat → List Nat} (hK : KidsG n Kd) (hp : ∀ j, j < n → (Kd j).Perm (Ks j)) {i j : Nat} (h : ReachK Ks i j) : i < n → j < n := by
  induction h with
  | refl i => exact id
  | step hc _ ih => exact fun hi => ih (hK.kid _ hi _ ((hp _ hi).mem_iff.2 hc)).2
def SInv (n : Nat) (Ks : Nat → List Nat) (N : List Nm) (lst : Nat → Nm) (nb : Nat → Nat) (Kd : Nat → List Nat) (i k : Nat) (Kt : Nat → List Nat) (f : Option Nat → Value) : Prop :=
  LstOk n Ks N lst → (∀ j, j < n → (Kd j).Perm (Ks j)) → (∀ c ∈ (Kd i).take k, f (some (nb c)) = .string ⟨⟨lst c⟩⟩) ∧ (∀ c ∈ (Kd i).take k, ∀ j, ReachK Ks c j → Kt j = Ks j) ∧ ∀ j, j < n → Kt j = Kd j ∨ Kt j = Ks j
theorem sorted_spec (hn64 : n ≤ 64) (Ks : Nat → List Nat) (lst : Nat → Nm) : ∀ (d i : Nat) {w : World} {Kd : Nat → List Nat} {R : Ending → World → Prop}, n ≤ i + d → i < n → B ≤ w.heap.size → NodesAt w nb n B N r Kd → KidsG n Kd →
    (∀ (s : List UInt8) w' Kd', NodesAt w' nb n B N r Kd' → (∀ j, j < n → (Kd' j).Perm (Kd j)) → (∀ j, j < i → Kd' j = Kd j) → (LstOk n Ks N lst → (∀ j, j < n → (Kd j).Perm (Ks j)) → s = lst i ∧ (∀ j, ReachK Ks i j → Kd' j = Ks j) ∧ ∀ j, j < n → Kd' j = Kd j ∨ Kd' j = Ks j) → Chg (fun k => ∃ j, j < n ∧ bk (r j).1 k) w w' → R (.returned (.string ⟨⟨s⟩⟩)) w') →
    Calls Tryz.prog F_phylotree_sorted ⟨[ptr (nb i)]⟩ w R
  | 0, i, w, Kd, R, hd, hi, _, _, _, _ => by omega
  | d + 1, i, w, Kd, R, hd, hi, hBw, hNo, hK, h => by
    apply c_phylotree_sorted
    have Bi := hNo.blk i hi
    have hlen : ((Kd i).map nb).length = (r i).2.1 := hNo.rows.len hi
    rw [List.length_map] at hlen
    have hl12 := hK.len i hi
    refine dr_ok ⟨_, _, _, bat Bi rfl, br_split (fun g0 => dr_ok ⟨_, bat Bi rfl, h _ w Kd hNo (fun _ _ => List.Perm.refl _) (fun _ _ => rfl) (fun hL hp => ?_) (Chg.refl _ _)⟩) (fun g0 => ?_)⟩
    · have hk0 : Kd i = [] := List.eq_nil_of_length_eq_zero (by omega)
      have hs0 : Ks i = [] := by
        have := (hp i hi).symm
        rw [hk0] at this
        exact List.Perm.eq_nil this
      refine ⟨?_, fun j hj => ?_, fun j _ => .inl rfl⟩
      · rcases hL i hi with q | ⟨a, b, q, _⟩
        · exact q.2.symm
        · rw [hs0] at q; cases q
      · cases hj with
        | refl => rw [hk0, hs0]
        | step hc _ => rw [hs0] at hc; cases hc
    refine mkmP_intro fun b6 w7 hb6 hM e7 s7 => ?_
    refine al_intro fun p8 w9 hp8 B8 e9 s9 => ?_
    refine stL_one B8 rfl fun w10 C8 c10 s10 => ?_
    have e09 := ext_trans e7 e9
    have z7 := e7.size
    have z9 := e9.size
    have e010 : Ext w w10 := ext_chgS e09 c10 fun j hj => by omega
    have hM10 := ((hM fun _ => .string ⟨⟨[]⟩⟩).ext e9).chg c10 (by omega)
    have hNo10 := hNo.ext e010
    refine dr_ok ⟨_, _, _, bat (Bi.ext e010) rfl, ?_⟩
    have rb : ∀ k, (∃ j, j < n ∧ bk (r j).1 k) → B ≤ k ∧ k < w.heap.size := fun k ⟨j, hj, hk⟩ => hNo.rows.bk hj hk
    refine ⟨fun t W m => ∃ (k : Nat) (Kt : Nat → List Nat) (f : Option Nat → Value), t = k ∧ k ≤ (Kd i).length ∧ m = (Kd i).length - k ∧ NodesAt W nb n B N r Kt ∧ (∀ j, j < n → (Kt j).Perm (Kd j)) ∧ (∀ j, j ≤ i → Kt j = Kd j) ∧ Chg (fun k => ∃ j, j < n ∧ bk (r j).1 k) w W ∧
        w10.heap.size ≤ W.heap.size ∧ Blk W p8 [.map (some b6)] 114 ∧ MapP W b6 (((Kd i).take k).map fun c => some (nb c)) f ∧ strK (((Kd i).take k).map fun c => some (nb c)) f ∧ SInv n Ks N lst nb Kd i k Kt f,
      ⟨_, 0, Kd, _, rfl, Nat.zero_le _, rfl, hNo10, fun _ _ => List.Perm.refl _, fun _ _ => rfl, .of_ext e010, Nat.le_refl _, C8, hM10, fun y hy => (by cases hy), fun _ _ => ⟨fun c hc => (by cases hc), fun c hc => (by cases hc), fun j _ => .inl rfl⟩⟩, ?_⟩
    rintro _ W m ⟨k, Kt, f, rfl, hk, rfl, hNt, hpt, hkt, hcW, hzW, C8W, hMW, hsW, hIV⟩ _
    have hlive : ∀ {V : World}, NodesAt V nb n B N r Kt → ∀ q, q ≤ (Kd i).length → ∀ y ∈ ((Kd i).take q).map fun c => some (nb c), liveK V y := fun hV q _ y hy => by
      obtain ⟨c, hc, rfl⟩ := List.mem_map.1 hy
      exact hV.live (hK.kid i hi c (List.mem_of_mem_take hc)).2
    have zW := hcW.size
    refine br_split (fun hlt => ?_) (fun hge => ?_)
    · have hkl : k < (Kd i).length := by omega
      have hck := hK.kid i hi _ (List.getElem_mem hkl)
      have hkti := hkt i (Nat.le_refl _)
      have hown := hNt.rows.own i hi
      try dsimp only at hown
      rw [hkti] at hown
      obtain ⟨g, hg, dg⟩ := ownP_get hown (j := k) (by rw [List.length_map]; exact hkl)
      rw [List.getElem_map] at dg
      have ik : ∀ K : Addr → Prop, K ⟨g, k, none⟩ → idx (r i).1 (r i).2.1 (k : Int) 1 K := fun K hK => by rw [hg]; exact idx_b1 (by omega) hK
      refine ik _ ⟨_, dg, ?_⟩
      unfold drw
      have ed := ext_drew W
      have hN20 := hNt.ext ed
      have C20 := C8W.ext ed
      have hM20 := hMW.ext ed
      have hcw20 := hcW.trans (.of_ext ed)
      have zd : W.heap.size ≤ W.drew.heap.size := ed.size
      generalize W.drew = w20 at *
      have call : ∀ (R' : Ending → World → Prop), (∀ (s : List UInt8) w23, Blk w23 p8 [.map (some b6)] 114 → (mupd Tryz.prog 114 (.map (some b6)) (ptr (nb (Kd i)[k])) (.string ⟨⟨s⟩⟩) w23 fun w25 => ∃ m26 : Nat, m26 < (Kd i).length - k ∧ ∃ (k' : Nat) (Kt : Nat → List Nat) (f : Option Nat → Value), IntKind.i64.wrap ((k : Int) + 1) = k' ∧ k' ≤ (Kd i).length ∧ m26 = (Kd i).length - k' ∧ NodesAt w25 nb n B N r Kt ∧ (∀ j, j < n → (Kt j).Perm (Kd j)) ∧ (∀ j, j ≤ i → Kt j = Kd j) ∧ Chg (fun k => ∃ j, j < n ∧ bk (r j).1 k) w w25 ∧
          w10.heap.size ≤ w25.heap.size ∧ Blk w25 p8 [.map (some b6)] 114 ∧ MapP w25 b6 (((Kd i).take k').map fun c => some (nb c)) f ∧ strK (((Kd i).take k').map fun c => some (nb c)) f ∧ SInv n Ks N lst nb Kd i k' Kt f) → R' (.returned (.string ⟨⟨s⟩⟩)) w23) → Calls Tryz.prog F_phylotree_sorted ⟨[ptr (nb (Kd i)[k])]⟩ w20 R' := by
        intro R' hR'
        refine sorted_spec hn64 Ks lst d (Kd i)[k] (by omega) hck.2 (by omega) hN20 (hK.perm hpt) fun s w23 Kd' hN23 hp23 hk23 hL23 hc23 => hR' s w23 ?_ ?_
        · exact hc23.blk C20 fun hh => by have := rb _ hh; omega
        · have hM23 := hM20.chg hc23 fun hh => by have := rb _ hh; omega
          have hl23 : ∀ y ∈ ((Kd i).take k).map fun c => some (nb c), liveK w23 y := fun y hy => by
            obtain ⟨c, hc, rfl⟩ := List.mem_map.1 hy
            exact hN23.live (hK.kid i hi c (List.mem_of_mem_take hc)).2
          have hnew : some (nb (Kd i)[k]) ∉ ((Kd i).take k).map fun c => some (nb c) := fun hm => by
            obtain ⟨c, hc, he⟩ := List.mem_map.1 hm
            have he : nb c = nb (Kd i)[k] := by simpa using he
            have hcn := (hK.kid i hi c (List.mem_of_mem_take hc)).2
            have := hNo.inj _ _ hcn hck.2 he
            subst this
            have hnd := hK.nd i hi
            obtain ⟨q, hq, hqe⟩ := List.mem_iff_getElem.1 hc
            rw [List.length_take] at hq
            rw [List.getElem_take] at hqe
            have := (List.getElem_inj hnd).1 hqe
            omega
          obtain ⟨ii, hii, hzz⟩ := i113
          refine hM23.push (t := 114) (e := 9) Tryz.underlying88 hii hzz Tryz.underlying114 (x := some (nb (Kd i)[k])) (hN23.live hck.2) hl23 hnew (.string ⟨⟨s⟩⟩) fun w25 hM25 c25 s25 => ?_
          have z23 := hc23.size
          have hN25 := hN23.chgN c25 (fun q hq hh => by have := (hNo.blk q hq).lt; omega) fun j hj q hq hh => by have := rb q ⟨j, hj, hq⟩; omega
          have etk : ((Kd i).take (k + 1)).map (fun c => some (nb c)) = (((Kd i).take k).map fun c => some (nb c)) ++ [some (nb (Kd i)[k])] := by
            rw [List.take_succ_eq_append_getElem hkl, List.map_append]; rfl
          refine ⟨(Kd i).length - (k + 1), by omega, k + 1, Kd', (fun y => if y = some (nb (Kd i)[k]) then .string ⟨⟨s⟩⟩ else f y), by rw [wrap_nat (by omega)], by omega, rfl, hN25, fun j hj => (hp23 j hj).trans (hpt j hj), fun j hj => (hk23 j (by omega)).trans (hkt j hj), ?_, by omega, ?_, ?_, ?_, ?_⟩
          · exact chgT (hcw20.trans hc23) c25 fun q hq e => by omega
          · exact c25.blk (hc23.blk C20 fun hh => by have := rb _ hh; omega) (by omega)
          · rw [etk]; exact hM25
          · rw [etk]
            intro y hy
            rcases List.mem_append.1 hy with hy | hy
            · have hne : y ≠ some (nb (Kd i)[k]) := fun e => hnew (e ▸ hy)
              obtain ⟨s', hs'⟩ := hsW y hy
              exact ⟨s', by show (if y = _ then _ else _) = _; rw [if_neg hne]; exact hs'⟩
            · rw [List.mem_singleton] at hy
              exact ⟨s, by show (if y = _ then _ else _) = _; rw [if_pos hy]⟩
          · intro hL hp
            obtain ⟨i1, i2, i3⟩ := hIV hL hp
            obtain ⟨s1, s2, s3⟩ := hL23 hL fun j hj => (hpt j hj).trans (hp j hj)
            rw [List.take_succ_eq_append_getElem hkl]
            refine ⟨fun c hc => ?_, fun c hc j hj => ?_, fun j hj => ?_⟩
            · show (if some (nb c) = some (nb (Kd i)[k]) then _ else f (some (nb c))) = _
              rcases List.mem_append.1 hc with hc | hc
              · rw [if_neg fun e => hnew (by rw [← e]; exact List.mem_map.2 ⟨c, hc, rfl⟩)]; exact i1 c hc
              · rw [List.mem_singleton] at hc
                subst hc
                rw [if_pos rfl, s1]
            · rcases List.mem_append.1 hc with hc | hc
              · have hjn := hj.lt hK hp (hK.kid i hi c (List.mem_of_mem_take hc)).2
                rcases s3 j hjn with q | q
                · rw [q]; exact i2 c hc j hj
                · exact q
              · rw [List.mem_singleton] at hc
                subst hc
                exact s2 j hj
            · rcases s3 j hj with q | q
              · rw [q]; exact i3 j hj
              · exact .inr q
      refine ⟨⟨_, b0_cell C20, call _ fun s w23 _ hm => ⟨_, rfl, hm, trivial⟩, trivial⟩, call _ fun s w23 C23 hm => ⟨_, rfl, _, b0_cell C23, hm, trivial⟩, trivial⟩
    · have hkl : k = (Kd i).length := by omega
      subst hkl
      rw [List.take_length] at hMW hsW
      have BiW := hNt.blk i hi
      have hkti := hkt i (Nat.le_refl _)
      have hown := hNt.rows.own i hi
      try dsimp only at hown
      rw [hkti] at hown
      have hlv : ∀ y ∈ (Kd i).map fun c => some (nb c), liveK W y := by have := hlive hNt (Kd i).length (Nat.le_refl _); rw [List.take_length] at this; exact this
      have rnb : ∀ j, j < n → ¬ bk (r i).1 (nb j) := fun j hj hh => hNt.ne hj hi hh rfl
      refine dr_ok ⟨_, _, _, bat BiW rfl, ?_⟩
      refine SortN_spec (fun x y => Lib.compareBytes (strOf f x) (strOf f y)) hown (by omega) (fun x hx y hy V hcV K hKv => ?_) fun M w36 hO36 hpM hc36 hG => ⟨rfl, ?_⟩
      · have n8 : ¬ bk (r i).1 p8 := fun hh => by have := rb p8 ⟨i, hi, hh⟩; omega
        have n6 : ¬ bk (r i).1 b6 := fun hh => by have := rb b6 ⟨i, hi, hh⟩; omega
        have mk : ∀ z, z ∈ (Kd i).map nb → some z ∈ (Kd i).map fun c => some (nb c) := fun z hz => by
          obtain ⟨c, hc, rfl⟩ := List.mem_map.1 hz
          exact List.mem_map.2 ⟨c, hc, rfl⟩
        refine cmpN_call (hcV.blk C8W n8) (hMW.chg hcV n6) hsW (fun z hz => (hlv z hz).chg hcV fun b hb => ?_) (mk x hx) (mk y hy) hKv
        subst hb
        obtain ⟨c, hc, he⟩ := List.mem_map.1 hz
        have he : nb c = b := by simpa using he
        subst he
        exact rnb c (hK.kid i hi c hc).2
      · obtain ⟨l', rfl, hl'⟩ := perm_of_map hpM rfl
        have n8 : ¬ bk (r i).1 p8 := fun hh => by have := rb p8 ⟨i, hi, hh⟩; omega
        have n6 : ¬ bk (r i).1 b6 := fun hh => by have := rb b6 ⟨i, hi, hh⟩; omega
        unfold drw
        have ed := ext_drew w36
        have zc36 := hc36.size
        have hO37 : OwnL encP w36.drew B 88 (r i).1 (r i).2.1 (r i).2.2 (l'.map nb) := Owns.ext hO36 ed
        have hc37 : Chg (bk (r i).1) W w36.drew := hc36.trans (.of_ext ed)
        have C37 := hc37.blk C8W n8
        have hM37 := hMW.chg hc37 n6
        have Bi37 := hc37.blk BiW (rnb i hi)
        have hlv37 : ∀ y ∈ (Kd i).map fun c => some (nb c), liveK w36.drew y := fun z hz => (hlv z hz).chg hc37 fun b hb => by
          subst hb
          obtain ⟨c, hc, he⟩ := List.mem_map.1 hz
          have he : nb c = b := by simpa using he
          subst he
          exact rnb c (hK.kid i hi c hc).2
        generalize w36.drew = w37 at *
        have hll := hl'.length_eq
        have h0 : 0 < (l'.map nb).length := by rw [List.length_map]; omega
        obtain ⟨g, hg, dg⟩ := ownP_get hO37 h0
        have i0 : ∀ K : Addr → Prop, K ⟨g, 0, none⟩ → idx (r i).1 (r i).2.1 0 1 K := fun K hK => by rw [hg]; exact idx_b1 (j := 0) (by omega) hK
        have hmem : some ((l'.map nb)[0]) ∈ (Kd i).map fun c => some (nb c) := by
          rw [List.getElem_map]
          exact List.mem_map.2 ⟨_, hl'.mem_iff.1 (List.getElem_mem _), rfl⟩
        have hs := look_str hM37 hsW hlv37 hmem
        refine ⟨_, b0_cell C37, dr_ok ⟨_, _, _, bat Bi37 rfl, i0 _ ⟨_, dg, ⟨_, hs, ?_⟩, trivial⟩⟩⟩
        refine h _ w37 (fun j => if j = i then l' else Kt j) ⟨fun j hj => hc37.blk (hNt.blk j hj) (rnb j hj), hNt.lo, hNt.inj, ⟨fun j hj => ?_, hNt.rows.dj⟩⟩ (fun j hj => ?_) (fun j hj => ?_) (fun hL hp => ?_) ?_
        · by_cases e : j = i
          · subst e
            rw [if_pos rfl]; exact hO37
          · rw [if_neg e]
            exact Owns.chg (hNt.rows.own j hj) hc37 fun q hq hh => hNt.rows.dj j i hj hi e q hq hh
        · by_cases e : j = i
          · subst e; rw [if_pos rfl]; exact hl'
          · rw [if_neg e]; exact hpt j hj
        · rw [if_neg (by omega)]; exact hkt j (by omega)
        · obtain ⟨i1, i2, i3⟩ := hIV hL hp
          rw [List.take_length] at i1 i2
          have hgo : ∃ a b, Ks i = [a, b] ∧ l' = [a, b] ∧ lst i = lst a := by
            rcases hL i hi with q | ⟨a, b, q1, q2, q3, q4⟩
            · have := (hp i hi).length_eq
              rw [q.1] at this
              have h0 : (Kd i).length = 0 := this
              omega
            · have hpi := hp i hi
              rw [q1] at hpi
              have h2 : (r i).2.1 = 2 := by have := hpi.length_eq; rw [← hlen]; exact this
              have hab : a ∈ Kd i ∧ b ∈ Kd i := ⟨hpi.mem_iff.2 (by simp), hpi.mem_iff.2 (by simp)⟩
              have ga := strOf_of (i1 a hab.1)
              have gb := strOf_of (i1 b hab.2)
              have hm := hG h2 (nb a) (nb b) (by have := hpi.map nb; exact this) (by show Lib.compareBytes (strOf f (nb a)) (strOf f (nb b)) < 0; rw [ga, gb]; exact q2) (by show ¬ Lib.compareBytes (strOf f (nb b)) (strOf f (nb a)) < 0; rw [ga, gb]; exact q3)
              refine ⟨a, b, q1, ?_, q4⟩
              rcases perm_two (hl'.trans hpi) with e | e
              · exact e
              · rw [e] at hm
                have h1 : nb b = nb a := by
                  have := congrArg (fun l => l.headD 0) hm
                  exact this
                have := hNo.inj _ _ (hK.kid i hi b hab.2).2 (hK.kid i hi a hab.1).2 h1
                subst this
                exact absurd q2 q3
          obtain ⟨a, b, q1, q2, q4⟩ := hgo
          subst q2
          refine ⟨?_, fun j hj => ?_, fun j hj => ?_⟩
          · show strOf f (nb a) = lst i
            rw [q4]
            exact strOf_of (i1 a (hl'.mem_iff.1 (by simp)))
          · show (if j = i then [a, b] else Kt j) = Ks j
            by_cases e : j = i
            · subst e; rw [if_pos rfl, q1]
            · rw [if_neg e]
              cases hj with
              | refl => exact absurd rfl e
              | step hc hr => exact i2 _ ((hp i hi).mem_iff.2 hc) j hr
          · show (if j = i then [a, b] else Kt j) = Kd j ∨ (if j = i then [a, b] else Kt j) = Ks j
            by_cases e : j = i
            · subst e; rw [if_pos rfl, q1]; exact .inr rfl
            · rw [if_neg e]; exact i3 j hj
        · exact hcW.trans (hc37.mono fun q _ hq => ⟨i, hi, hq⟩)
end
end Go.Proofs
namespace Go.Proofs
open Go Go.Sh Go.RowKit
/- phylotree.below: the nodes, depth first -/
abbrev po (nb : Nat → Nat) (q : Option Nat) : Option Addr := (q.map nb).map fun b => ⟨b, 0, none⟩
abbrev nodE (nb : Nat → Nat) (y : Nat × Option Nat) (vs : List Value) : Prop := vs = [ptr (nb y.1), .pointer (po nb y.2)]
section
variable {w : World} {N : List Nm} {nb : Nat → Nat} {n B : Nat} {r : Nat → Slv} {Kd : Nat → List Nat}
abbrev eachFn (p3 p5 : Nat) : Value := .func (.func 95) ⟨[]⟩ ⟨[.pointer (some ⟨p3, 0, none⟩), .pointer (some ⟨p5, 0, none⟩)]⟩
structure EachS (w : World) (S0 : Nat → Prop) (p3 p5 : Nat) (yf : Fn) (ya yb : Array Value) (J : List (Nat × Option Nat) → (Nat → Prop) → World → Prop) (pre : List (Nat × Option Nat)) (S1 : Nat → Prop) (W : World) : Prop where
  j : J pre S1 W
  chg : Chg (fun k => S0 k ∨ w.heap.size ≤ k) w W
  s1 : ∀ k, S1 k → (S0 k ∨ w.heap.size ≤ k) ∧ k < W.heap.size
  n3 : ¬ S1 p3
  n5 : ¬ S1 p5
  b3 : Blk W p3 [.func yf ya yb] 137
  b5 : Blk W p5 [eachFn p3 p5] 137
set_option maxRecDepth 20000 in
theorem each_call (hK : KidsG n Kd) (hn : n ≤ 64) {Rd S0 : Nat → Prop} {p3 p5 : Nat} {yf : Fn} {ya yb : Array Value} {J : List (Nat × Option Nat) → (Nat → Prop) → World → Prop} {Jx : (Nat → Prop) → World → Prop} {xs : List (Nat × Option Nat)}
    (hNo : NodesAt w nb n B N r Kd) (hRl : ∀ k, Rd k → k < w.heap.size) (hRd : ∀ k, k < w.heap.size → ((∃ i, i < n ∧ k = nb i) ∨ ∃ j, j < n ∧ bk (r j).1 k) → Rd k) (hS0 : ∀ k, S0 k → k < w.heap.size ∧ ¬ Rd k)
    (hbody : ∀ pre x vs S W, nodE nb x vs → pre ++ [x] <+: xs → w.heap.size ≤ W.heap.size → (∀ k, S k → k < W.heap.size ∧ ¬ Rd k) → J pre S W → CallV Tryz.prog (.func yf ya yb) vs W fun e W' => Chg S W W' ∧
      ∃ S' : Nat → Prop, (∀ k, S' k → (S k ∨ W.heap.size ≤ k) ∧ k < W'.heap.size) ∧ ((e = .returned (.bool true) ∧ J (pre ++ [x]) S' W') ∨ (e = .returned (.bool false) ∧ Jx S' W'))) :
    ∀ (f i : Nat) (q : Option Nat) (pre : List (Nat × Option Nat)) (S1 : Nat → Prop) (W : World) (K : Ending → World → Prop), n ≤ i + f → i < n → EachS w S0 p3 p5 yf ya yb J pre S1 W → pre ++ dfsP Kd f i q <+: xs →
      (∀ S' W', EachS w S0 p3 p5 yf ya yb J (pre ++ dfsP Kd f i q) S' W' → K (.returned (.bool true)) W') → (∀ S' W', w.heap.size ≤ W'.heap.size → Jx S' W' → K (.returned (.bool false)) W') →
      CallV Tryz.prog (eachFn p3 p5) [ptr (nb i), .pointer (po nb q)] W K
  | 0, i, q, pre, S1, W, K, hd, hi, _, _, _, _ => by omega
  | f + 1, i, q, pre, S1, W, K, hd, hi, hE, hx, ht, hf => by
    refine ⟨by kernel_rfl, ?_⟩
    apply c_phylotree_below_1_1
    refine dr_ok ⟨_, _, _, b0_cell hE.b3, ?_⟩
    rw [dfsP] at hx ht
    have hx1 : pre ++ [(i, q)] <+: xs := List.IsPrefix.trans ⟨_, by rw [List.append_assoc]; rfl⟩ hx
    have zW := hE.chg.size
    refine CallV_mono (hbody pre (i, q) _ S1 W rfl hx1 zW (fun k hk => ⟨(hE.s1 k hk).2, fun hr => ?_⟩) hE.j) ?_
    · rcases (hE.s1 k hk).1 with g | g
      · exact (hS0 k g).2 hr
      · have := hRl k hr; omega
    · rintro e8 w8 ⟨hc8, S', hS', hres⟩
      have z8 := hc8.size
      rcases hres with ⟨rfl, hj8⟩ | ⟨rfl, hx8⟩
      · refine ⟨_, rfl, br_cases (fun g => (by cases g)) (fun _ => ?_)⟩
        have hE8 : EachS w S0 p3 p5 yf ya yb J (pre ++ [(i, q)]) S' w8 := ⟨hj8, hE.chg.trans (hc8.mono fun k _ hk => (hE.s1 k hk).1), fun k hk => ⟨by
            rcases (hS' k hk).1 with g | g
            · exact (hE.s1 k g).1
            · exact .inr (by omega), (hS' k hk).2⟩, fun hh => by
            rcases (hS' _ hh).1 with g | g
            · exact hE.n3 g
            · have := hE.b3.lt; omega, fun hh => by
            rcases (hS' _ hh).1 with g | g
            · exact hE.n5 g
            · have := hE.b5.lt; omega, hc8.blk hE.b3 hE.n3, hc8.blk hE.b5 hE.n5⟩
        have nd : ∀ {V : World}, Chg (fun k => S0 k ∨ w.heap.size ≤ k) w V → NodesAt V nb n B N r Kd := fun hc => hNo.chgN hc (fun j hj hh => by
            have hl := (hNo.blk j hj).lt
            rcases hh with hh | hh
            · exact (hS0 _ hh).2 (hRd _ hl (.inl ⟨j, hj, rfl⟩))
            · omega) fun j hj k hk hh => by
            have hl := (hNo.rows.bk hj hk).2
            rcases hh with hh | hh
            · exact (hS0 _ hh).2 (hRd _ hl (.inr ⟨j, hj, hk⟩))
            · omega
        have hN8 := nd hE8.chg
        have hlen : ((Kd i).map nb).length = (r i).2.1 := hNo.rows.len hi
        rw [List.length_map] at hlen
        have hl12 := hK.len i hi
        refine dr_ok ⟨_, _, _, bat (hN8.blk i hi) rfl, ?_⟩
        refine ⟨fun t V m => ∃ (k : Nat) (S2 : Nat → Prop), t = k ∧ k ≤ (Kd i).length ∧ m = (Kd i).length - k ∧ EachS w S0 p3 p5 yf ya yb J (pre ++ (i, q) :: ((Kd i).take k).flatMap fun c => dfsP Kd f c (some i)) S2 V,
          ⟨_, 0, S', rfl, Nat.zero_le _, rfl, hE8⟩, ?_⟩
        rintro _ V m ⟨k, S2, rfl, hk, rfl, hEV⟩ _
        have hNV := nd hEV.chg
        refine br_split (fun hlt => ?_) (fun hge => ?_)
        · have hkl : k < (Kd i).length := by omega
          have hck := hK.kid i hi _ (List.getElem_mem hkl)
          have hown := hNV.rows.own i hi
          obtain ⟨g, hg, dg⟩ := ownP_get hown (j := k) (by rw [List.length_map]; exact hkl)
          rw [List.getElem_map] at dg
          have ik : ∀ K : Addr → Prop, K ⟨g, k, none⟩ → idx (r i).1 (r i).2.1 (k : Int) 1 K := fun K hK => by rw [hg]; exact idx_b1 (by omega) hK
          refine ik _ ⟨_, dg, dr_ok ⟨_, _, _, b0_cell hEV.b5, ?_⟩⟩
          have etk : pre ++ (i, q) :: ((Kd i).take (k + 1)).flatMap (fun c => dfsP Kd f c (some i)) = (pre ++ (i, q) :: ((Kd i).take k).flatMap fun c => dfsP Kd f c (some i)) ++ dfsP Kd f (Kd i)[k] (some i) := by
            rw [List.take_succ_eq_append_getElem hkl, List.flatMap_append]
            simp
          refine each_call hK hn hNo hRl hRd hS0 hbody f (Kd i)[k] (some i) _ S2 V _ (by omega) hck.2 hEV ?_ (fun S3 V3 hE3 => ?_) fun S3 V3 z3 hx3 => ?_
          · rw [← etk]
            refine List.IsPrefix.trans ?_ hx
            refine ⟨((Kd i).drop (k + 1)).flatMap fun c => dfsP Kd f c (some i), ?_⟩
            rw [List.append_assoc, List.cons_append, ← List.flatMap_append, List.take_append_drop]
          · refine ⟨_, rfl, br_cases (fun g => (by cases g)) (fun _ => ⟨(Kd i).length - (k + 1), by omega, k + 1, S3, by rw [wrap_nat (by omega)], by omega, rfl, ?_⟩)⟩
            rw [etk]; exact hE3
          · exact ⟨_, rfl, br_cases (fun _ => hf S3 V3 z3 hx3) (fun g => (by cases g))⟩
        · have hkn : k = (Kd i).length := by omega
          subst hkn
          rw [List.take_length] at hEV
          exact ht S2 V hEV
      · exact ⟨_, rfl, br_cases (fun _ => hf S' w8 (by omega) hx8) (fun g => (by cases g))⟩
set_option maxRecDepth 20000 in
theorem below_iterO (hK : KidsG n Kd) (hn : n ≤ 64) (hn0 : 0 < n) {Rd : Nat → Prop} {b2 : Nat} (hNo : NodesAt w nb n B N r Kd) (B2 : Blk w b2 [ptr (nb 0)] 88) (hRl : ∀ k, Rd k → k < w.heap.size) (hRd : ∀ k, k < w.heap.size → (k = b2 ∨ (∃ i, i < n ∧ k = nb i) ∨ ∃ j, j < n ∧ bk (r j).1 k) → Rd k) :
    IterO Tryz.prog F_phylotree_below_1 [.pointer (some ⟨b2, 0, none⟩)] (dfsP Kd n 0 none) (nodE nb) Rd w := by
  intro yf ya yb S0 J Jx R hS0 hJ hJx hbody h0 hend hstop
  apply c_phylotree_below_1
  refine al_intro fun p3 w4 hp3 B3 e4 s4 => al_intro fun p5 w6 hp5 B5 e6 s6 => ?_
  have z4 := e4.size
  have z6 := e6.size
  refine stL_one B5 rfl fun w7 C5 c7 s7 => ?_
  have e07 : Ext w w7 := ext_chgS (ext_trans e4 e6) c7 fun j hj => by omega
  have hj7 := hJ _ _ _ _ h0 (.of_ext e07)
  refine ⟨_, _, _, b0_cell C5, dr_ok ⟨_, b0_cell (B2.ext e07), ?_⟩⟩
  refine each_call (Rd := Rd) (S0 := S0) hK hn hNo hRl (fun k hk hq => hRd k hk (.inr hq)) hS0 (J := J) (Jx := Jx) (xs := dfsP Kd n 0 none) hbody n 0 none [] S0 w7 _ (by omega) hn0
    ⟨hj7, .of_ext e07, fun k hk => ⟨.inl hk, by have := (hS0 k hk).1; have := e07.size; omega⟩, fun hh => by have := (hS0 _ hh).1; omega, fun hh => by have := (hS0 _ hh).1; omega, c7.blk (B3.ext e6) (by omega), C5⟩ (List.prefix_refl _) (fun S' W' hE => ⟨_, rfl, hend S' W' hE.chg.size hE.j⟩) fun S' W' z hx => ⟨_, rfl, hstop S' W' z hx⟩
end
end Go.Proofs
namespace Go.Proofs
open Go Go.Sh Go.RowKit
/- phylotree.tree: the tree numbered depth first -/
def ixO (xs : List (Nat × Option Nat)) (z : Nat) : Nat := (xs.map (·.1)).idxOf z
def parV (xs : List (Nat × Option Nat)) : Option Nat → Int
  | none => -1
  | some p => (ixO xs p : Int)
def outP (xs pre : List (Nat × Option Nat)) : List Int := pre.map fun y => parV xs y.2
def outN (N : List Nm) (pre : List (Nat × Option Nat)) : List Nm := pre.map fun y => gM N y.1
theorem ix_at {xs pre : List (Nat × Option Nat)} {y : Nat × Option Nat} (hnd : (xs.map (·.1)).Nodup) (h : pre ++ [y] <+: xs) : ixO xs y.1 = pre.length := by
  obtain ⟨t, rfl⟩ := h
  unfold ixO
  have hlt : pre.length < ((pre ++ [y] ++ t).map (·.1)).length := by rw [List.length_map, List.length_append, List.length_append, List.length_singleton]; omega
  have hg : ((pre ++ [y] ++ t).map (·.1))[pre.length] = y.1 := by simp
  have hi : ((pre ++ [y] ++ t).map (·.1)).idxOf y.1 < ((pre ++ [y] ++ t).map (·.1)).length := List.idxOf_lt_length_iff.2 (by simp)
  have := List.getElem_idxOf hi
  exact (List.getElem_inj hnd).1 (this.trans hg.symm)
section
variable {R : Ending → World → Prop} {w w0 V : World} {N : List Nm} {nb : Nat → Nat} {n B : Nat} {r : Nat → Slv} {Kd : Nat → List Nat}
variable {b : Nat} {p q : Slv} {P : List Int} {Nl : List Nm} {par : Int} {nm : Nm} {k1 k2 : Option Nat} {pd nd : Option Slv}
theorem st_lkN (h : AddS b B w0 p q P Nl par nm V k1 k2 pd nd) {b6 : Nat} {ks : List (Option Nat)} {f : Option Nat → Value} (hM : MapP w0 b6 ks f) (n6 : ¬ (bk p.1 b6 ∨ bk q.1 b6)) (hl : ∀ y ∈ ks, liveK w0 y) (hn : ∀ y ∈ ks, ∀ j, y = some j → ¬ (bk p.1 j ∨ bk q.1 j))
    {x : Option Nat} (hx : x ∈ ks) (hf : f x = .int .i64 par) {a : Option Addr} (ha : a = x.map fun b => ⟨b, 0, none⟩) {K : Int → Prop} (hk : K par) : ∃ z : Int, lkAt Tryz.prog 118 (.map (some b6)) (.pointer a) V (.int .i64 z) ∧ K z := by
  obtain ⟨i, hi, hz⟩ := i113
  have hM' := hM.chg h.chg n6
  have hl' : ∀ y ∈ ks, liveK V y := fun y hy => (hl y hy).chg h.chg (hn y hy)
  have := hM'.look (t := 118) (e := 3) Tryz.underlying88 hi hz Tryz.underlying118 (hl' x hx) hl' hx
  rw [hf] at this
  subst ha
  exact ⟨par, this, hk⟩
theorem st_nm (h : AddS b B w0 p q P Nl par nm V k1 k2 pd nd) {x : Nat} {cs : List Value} {T : TypeId} (Bx : Blk w0 x (.string ⟨⟨nm⟩⟩ :: cs) T) (nx : ¬ (bk p.1 x ∨ bk q.1 x)) {K : List UInt8 → Prop} (hk : K nm) : ∃ z : List UInt8, V.cell? ((⟨x, 0, none⟩ : Addr).add 0) = some (.string ⟨⟨z⟩⟩) ∧ K z :=
  ⟨nm, bat (h.chg.blk Bx nx) rfl, hk⟩
set_option maxRecDepth 20000 in
set_option maxHeartbeats 4000000 in
theorem tree_spec (hK : KidsG n Kd) (hn : n ≤ 64) (hn0 : 0 < n) (hNo : NodesAt w nb n B N r Kd) {Pf : Nat → Nat} (hko : KidsOk n Pf Kd) (hx : (dfsP Kd n 0 none).length = n)
    (h : ∀ (p q : Slv) w', Ext w w' → p.2.1 ≤ p.2.2 → q.2.1 ≤ q.2.2 → RowV vI (fun k => w.heap.size ≤ k) w' p.1 p.2.1 (outP (dfsP Kd n 0 none) (dfsP Kd n 0 none)) → RowV vS (fun k => w.heap.size ≤ k) w' q.1 q.2.1 (outN N (dfsP Kd n 0 none)) → R (.returned (.agg ⟨[sv p, sv q]⟩)) w') :
    Calls Tryz.prog F_phylotree_tree ⟨[ptr (nb 0)]⟩ w R := by
  apply c_phylotree_tree
  have hnd := dfs_nodup hko n 0 none hn0
  have hok := dfs_ok hko n 0 none [] hn0 (fun p hp => by cases hp)
  have hlt : ∀ y ∈ dfsP Kd n 0 none, y.1 < n := fun y hy => (dfs_below hko n 0 none hn0 y hy).1
  generalize hxs : dfsP Kd n 0 none = xs at *
  refine al_intro fun p2 w3 hp2 B2 e3 s3 => al_intro fun p4 w5 hp4 B4 e5 s5 => ?_
  refine mkmP_intro fun b6 w7 hb6 hM7 e7 s7 => ?_
  obtain ⟨ii, hii, hzz⟩ := i113
  refine (hM7 fun _ => .int .i64 0).push (t := 118) (e := 3) Tryz.underlying88 hii hzz Tryz.underlying118 (x := none) (liveK.none _) (fun y hy => by cases hy) (by simp) (.int .i64 (-1)) fun w8 hM8 c8 s8 => ?_
  refine al_intro fun p9 w10 hp9 B9 e10 s10 => ?_
  refine stL_one B9 rfl fun w11 C9 c11 s11 => ?_
  apply c_phylotree_below
  refine al_intro fun br w13 hbr Br e13 s13 => ⟨_, _, _, rfl, fun base => ?_⟩
  have z3 := e3.size
  have z5 := e5.size
  have z7 := e7.size
  have z10 := e10.size
  have z13 := e13.size
  have e08 : Ext w w8 := ext_chgS (ext_trans e3 (ext_trans e5 e7)) c8 fun j hj => by omega
  have e013 : Ext w w13 := ext_trans (ext_chgS (ext_trans e08 e10) c11 fun j hj => by omega) e13
  have B4' : Blk w13 p4 [sv (none, 0, 0), sv (none, 0, 0)] 37 := (c11.blk ((c8.blk (B4.ext e7) (by omega)).ext e10) (by omega)).ext e13
  have B2' : Blk w13 p2 [sv (none, 0, 0), sv (none, 0, 0)] 37 := (c11.blk ((c8.blk ((B2.ext e5).ext e7) (by omega)).ext e10) (by omega)).ext e13
  have C9' := C9.ext e13
  have hM13 := ((hM8.ext e10).chg c11 (by omega)).ext e13
  have hN13 := hNo.ext e013
  have nbl : ∀ i, i < n → nb i < w.heap.size := fun i hi => (hNo.blk i hi).lt
  have rbl : ∀ j, j < n → ∀ k, bk (r j).1 k → k < w.heap.size := fun j hj k hk => (hNo.rows.bk hj hk).2
  rw [cd_phylotree_tree_1]
  refine RFw_lawO anA_phylotree_tree_1 anB_phylotree_tree_1 (gf := F_phylotree_below_1) rfl (by kernel_rfl) (xs := xs) (E := nodE nb) (Rd := fun k => k = br ∨ (∃ i, i < n ∧ k = nb i) ∨ ∃ j, j < n ∧ bk (r j).1 k)
    (fun v1 he => ?_) (fun y vs hE => by rw [show vs = _ from hE]; rfl) (by decide) (fun k hk => ?_) (fun k => k = p4 ∨ k = b6) (fun k hk => ⟨by omega, fun hr => ?_⟩)
    (fun pre S1 W => ∃ (T : Nat → Prop) (f : Option Nat → Value), TrSt W p4 w13.heap.size T (outP xs pre) (outN N pre) ∧ (∀ k, S1 k ↔ k = p4 ∨ k = b6 ∨ T k) ∧ MapP W b6 (none :: pre.map fun y => some (nb y.1)) f ∧ f none = .int .i64 (-1) ∧ (∀ y ∈ pre, f (some (nb y.1)) = .int .i64 (ixO xs y.1 : Int)) ∧ Ext w W ∧ Blk W p9 [.map (some b6)] 118 ∧ Blk W p2 [sv (none, 0, 0), sv (none, 0, 0)] 37) (fun _ _ => False) (fun _ _ => False)
    ?_ (fun _ _ _ h => h.elim) (fun _ _ _ h => h.elim) ⟨fun _ => False, _, ⟨⟨(none, 0, 0), (none, 0, 0), B4', Owns.nil _ _ _ _, Owns.nil _ _ _ _, fun k => by simp [bk]⟩, by omega⟩, fun k => by simp, hM13, if_pos rfl, fun y hy => (by cases hy), e013, C9', B2'⟩ ?_ ?_ (fun _ _ _ _ _ _ _ h => h.elim) (fun _ _ _ _ _ _ _ h => h.elim)
  · have := below_iterO (Rd := fun k => k = br ∨ (∃ i, i < n ∧ k = nb i) ∨ ∃ j, j < n ∧ bk (r j).1 k) hK hn hn0 (hN13.ext he) (Br.ext he) (fun k hk => ?_) (fun k _ hk => hk)
    · rw [hxs] at this; exact this
    · have := he.size
      rcases hk with rfl | ⟨i, hi, rfl⟩ | ⟨j, hj, hk⟩
      · omega
      · have := nbl i hi; omega
      · have := rbl j hj k hk; omega
  · rcases hk with rfl | ⟨i, hi, rfl⟩ | ⟨j, hj, hk⟩
    · omega
    · have := nbl i hi; omega
    · have := rbl j hj k hk; omega
  · rcases hr with rfl | ⟨i, hi, rfl⟩ | ⟨j, hj, hk'⟩
    · omega
    · have := nbl i hi; omega
    · have := rbl j hj k hk'; omega
  · rintro pre S1 W W' ⟨T, f, g1, g2, g3, g4, g5, g6, g7, g8⟩ hc
    exact ⟨T, f, g1.chg hc (fun hh => hh.2 ((g2 _).2 (.inl rfl))) (fun k hk hh => hh.2 ((g2 k).2 (.inr (.inr hk)))), g2, g3.chg hc (fun hh => hh.2 ((g2 _).2 (.inr (.inl rfl)))), g4, g5, ext_chgS g6 hc (fun k hk => by omega), hc.blk g7 (by omega), hc.blk g8 (by omega)⟩
  · rintro pre y vs S1 W l hE hpre hl1 hl2 hl3 hS1 ⟨T, f, g1, g2, g3, g4, g5, g6, g7, g8⟩
    obtain rfl : vs = [ptr (nb y.1), .pointer (po nb y.2)] := hE
    have hyx : y ∈ xs := mem_of_prefix hpre
    have hyn := hlt y hyx
    have hix := ix_at hnd hpre
    have hlen : pre.length + 1 ≤ n := by have := hpre.length_le; rw [hx] at this; simpa using this
    have hpren : ∀ z ∈ pre, z.1 < n := fun z hz => hlt z (hpre.mem (List.mem_append_left _ hz))
    refine Eq.mpr (er_phylotree_tree_1 base _ _ _ _ _ _ _ _ _ _ _ _ _) ?_
    refine ⟨Below.refl _ _, fun W2 hU => ?_⟩
    have zU := hU.size
    have hUc : Chg (fun k => k = l) W W2 := ⟨hU.os, hU.tape, hU.output, by omega, fun k _ hk => hU.block k hk⟩
    have l4 : p4 ≠ l := fun e => hl3 ((g2 l).2 (.inl e.symm))
    have l6 : b6 ≠ l := fun e => hl3 ((g2 l).2 (.inr (.inl e.symm)))
    have lT : ∀ k, T k → k ≠ l := fun k hk e => hl3 ((g2 l).2 (.inr (.inr (e ▸ hk))))
    have g1' := g1.chg hUc l4 lT
    have g3' := g3.chg hUc l6
    have E2 : Ext w W2 := ext_chgS g6 hUc fun k hk => by omega
    have g7' := hUc.blk g7 (by omega)
    have g8' := hUc.blk g8 (by omega)
    obtain ⟨p, q, D4, hp, hq, hT⟩ := g1'.at_
    have hpl : (outP xs pre).length = p.2.1 := OwnL.length hp
    have hpl2 : (outP xs pre).length = pre.length := by unfold outP; rw [List.length_map]
    refine dr_ok ⟨_, b0_cell g7', dr_ok ⟨_, _, _, bat D4 rfl, ?_⟩⟩
    have hNW := hNo.ext E2
    have hlv : ∀ z ∈ (none :: pre.map fun y => some (nb y.1)), liveK W2 z := fun z hz => by
      rcases List.mem_cons.1 hz with rfl | hz
      · exact liveK.none _
      · obtain ⟨c, hc, rfl⟩ := List.mem_map.1 hz
        exact hNW.live (hpren c hc)
    have hnew : some (nb y.1) ∉ (none :: pre.map fun y => some (nb y.1)) := fun hm => by
      rcases List.mem_cons.1 hm with hm | hm
      · cases hm
      · obtain ⟨c, hc, he⟩ := List.mem_map.1 hm
        have he : nb c.1 = nb y.1 := by simpa using he
        have hcy := hNo.inj _ _ (hpren c hc) hyn he
        obtain ⟨j, hj, hjc⟩ := List.mem_iff_getElem.1 hc
        have hpj : pre.take j ++ [c] <+: xs := by
          refine List.IsPrefix.trans ?_ hpre
          rw [← hjc, ← List.take_succ_eq_append_getElem hj]
          exact List.IsPrefix.trans (List.take_prefix _ _) ⟨[y], rfl⟩
        have := ix_at hnd hpj
        rw [hcy, hix, List.length_take] at this
        omega
    refine g3'.push (t := 118) (e := 3) Tryz.underlying88 hii hzz Tryz.underlying118 (x := some (nb y.1)) (hNW.live hyn) hlv hnew (.int .i64 (p.2.1 : Int)) fun w44 hM44 c44 s44 => ?_
    have E44 : Ext w w44 := ext_chgS E2 c44 fun k hk => by omega
    have hpy : parV xs y.2 = parV xs y.2 := rfl
    have n6p : ¬ (bk p.1 b6 ∨ bk q.1 b6) := fun hh => by
      rcases hh with hh | hh
      · have := (Owns.bk hp hh).1; omega
      · have := (Owns.bk hq hh).1; omega
    have D44 := c44.blk D4 (by omega)
    have hp44 : ownP w44 w13.heap.size p (outP xs pre) := Owns.chg hp c44 fun k hk e => n6p (.inl (e ▸ hk))
    have hq44 : ownN w44 w13.heap.size q (outN N pre) := Owns.chg hq c44 fun k hk e => n6p (.inr (e ▸ hk))
    have C944 := c44.blk g7' (by omega)
    have C844 := c44.blk g8' (by omega)
    unfold drw
    have ed := ext_drew w44
    have D45 := D44.ext ed
    have hp45 : ownP w44.drew w13.heap.size p (outP xs pre) := Owns.ext hp44 ed
    have hq45 : ownN w44.drew w13.heap.size q (outN N pre) := Owns.ext hq44 ed
    have hM45 := hM44.ext ed
    have C945 := C944.ext ed
    have C845 := C844.ext ed
    have E45 := ext_trans E44 ed
    have c245 : Chg (fun k => k = b6) W2 w44.drew := c44.trans (.of_ext ed)
    have z45 : w44.drew.heap.size = W2.heap.size := by show w44.heap.size = _; omega
    generalize w44.drew = w45 at *
    clear hM44 hp44 hq44 D44 C944 C844 c44 s44 ed
    have hN45 := hNo.ext E45
    have hlv45 : ∀ z ∈ (none :: pre.map fun y => some (nb y.1)) ++ [some (nb y.1)], liveK w45 z := fun z hz => by
      rcases List.mem_append.1 hz with hz | hz
      · rcases List.mem_cons.1 hz with rfl | hz
        · exact liveK.none _
        · obtain ⟨c, hc, rfl⟩ := List.mem_map.1 hz
          exact hN45.live (hpren c hc)
      · rw [List.mem_singleton] at hz; subst hz; exact hN45.live hyn
    have nbT : ∀ i, i < n → ¬ (bk p.1 (nb i) ∨ bk q.1 (nb i)) := fun i hi hh => by
      have := nbl i hi
      rcases hh with hh | hh
      · have := (Owns.bk hp hh).1; omega
      · have := (Owns.bk hq hh).1; omega
    have hnT : ∀ z ∈ (none :: pre.map fun y => some (nb y.1)) ++ [some (nb y.1)], ∀ j, z = some j → ¬ (bk p.1 j ∨ bk q.1 j) := fun z hz j hj => by
      subst hj
      rcases List.mem_append.1 hz with hz | hz
      · rcases List.mem_cons.1 hz with hz | hz
        · cases hz
        · obtain ⟨c, hc, he⟩ := List.mem_map.1 hz
          have he : nb c.1 = j := by simpa using he
          subst he; exact nbT _ (hpren c hc)
      · rw [List.mem_singleton] at hz
        have he : j = nb y.1 := by simpa using hz
        subst he; exact nbT _ hyn
    -- the parent's number is known
    have hpar : (y.2.map nb) ∈ (none :: pre.map fun y => some (nb y.1)) ++ [some (nb y.1)] ∧ (fun z => if z = some (nb y.1) then Value.int .i64 (p.2.1 : Int) else f z) (y.2.map nb) = .int .i64 (parV xs y.2) := by
      cases hy2 : y.2 with
      | none => exact ⟨List.mem_append_left _ List.mem_cons_self, by show (if (none : Option Nat) = some (nb y.1) then _ else f none) = _; rw [if_neg (by simp), g4]; rfl⟩
      | some pp =>
        obtain ⟨q1, q2, q3, q4⟩ := okSeq_at hok hpre pp hy2
        have q1 : pp ∈ pre.map (·.1) := q1.resolve_left (by simp)
        obtain ⟨c, hc, rfl⟩ := List.mem_map.1 q1
        have hne : some (nb c.1) ≠ some (nb y.1) := fun e => hnew (by rw [← e]; exact List.mem_cons_of_mem _ (List.mem_map.2 ⟨c, hc, rfl⟩))
        refine ⟨List.mem_append_left _ (List.mem_cons_of_mem _ (List.mem_map.2 ⟨c, hc, rfl⟩)), ?_⟩
        show (if some (nb c.1) = some (nb y.1) then _ else f (some (nb c.1))) = _
        rw [if_neg hne, g5 c hc]; rfl
    obtain ⟨hpm, hpv⟩ := hpar
    have ha : po nb y.2 = (y.2.map nb).map fun b => ⟨b, 0, none⟩ := rfl
    have Bx := hN45.blk y.1 hyn
    have nxy := nbT y.1 hyn
    have hS : AddS p4 w13.heap.size w45 p q (outP xs pre) (outN N pre) (parV xs y.2) (gM N y.1) w45 none none none none :=
      { bB := g1.lt, z0 := by omega, zV := Nat.le_refl _, lP := by omega, lN := by unfold outN; rw [List.length_map]; omega, pL := fun k hk' => Owns.bk hp45 hk', qL := fun k hk' => Owns.bk hq45 hk',
        dis := fun k h1 h2 => by
          obtain ⟨_, c1⟩ := own_blk hp45 h1
          obtain ⟨_, c2⟩ := own_blk hq45 h2
          exact blk_ne c1 c2 (by decide) rfl
        chg := Chg.refl _ _, cell := D45, one := fun k g => (by cases g), two := fun k g => (by cases g), pr0 := fun _ => hp45, pr1 := fun x g => (by cases g), nr0 := fun _ => hq45, nr1 := fun x g => (by cases g) }
    have fin : ∀ V' T', TrSt V' p4 w13.heap.size T' (outP xs pre ++ [parV xs y.2]) (outN N pre ++ [gM N y.1]) → (∀ k, T' k → (bk p.1 k ∨ bk q.1 k) ∨ w45.heap.size ≤ k) → Chg (fun k => k = p4 ∨ (bk p.1 k ∨ bk q.1 k)) w45 V' →
        Chg (fun k => S1 k ∨ W.heap.size ≤ k) W2 V' ∧ ∃ S' : Nat → Prop, (∀ k, S' k → (S1 k ∨ W.heap.size ≤ k) ∧ k < V'.heap.size) ∧ ∃ (T : Nat → Prop) (f : Option Nat → Value), TrSt V' p4 w13.heap.size T (outP xs (pre ++ [y])) (outN N (pre ++ [y])) ∧ (∀ k, S' k ↔ k = p4 ∨ k = b6 ∨ T k) ∧ MapP V' b6 (none :: (pre ++ [y]).map fun y => some (nb y.1)) f ∧ f none = .int .i64 (-1) ∧ (∀ y' ∈ pre ++ [y], f (some (nb y'.1)) = .int .i64 (ixO xs y'.1 : Int)) ∧ Ext w V' ∧ Blk V' p9 [.map (some b6)] 118 ∧ Blk V' p2 [sv (none, 0, 0), sv (none, 0, 0)] 37 := by
      intro V' T' hTr hT' hcV
      have zV := hcV.size
      have npq : ∀ k, (bk p.1 k ∨ bk q.1 k) → T k := fun k hk => (hT k).2 hk
      have hcAll : Chg (fun k => k = b6 ∨ k = p4 ∨ (bk p.1 k ∨ bk q.1 k)) W2 V' := (c245.mono fun k _ hk => .inl hk).trans (hcV.mono fun k _ hk => .inr hk)
      have h4b : ∀ k, (k = p4 ∨ (bk p.1 k ∨ bk q.1 k)) → w.heap.size ≤ k := fun k hk => by
        rcases hk with hk | hk
        · omega
        · have := g1.bk (npq k hk); omega
      refine ⟨hcAll.mono fun k _ hk => .inl ((g2 k).2 ?_), fun k => k = p4 ∨ k = b6 ∨ T' k, fun k hk => ⟨?_, ?_⟩, T', (fun z => if z = some (nb y.1) then Value.int .i64 (p.2.1 : Int) else f z), ?_, fun k => Iff.rfl, ?_, ?_, ?_, ext_chgS E45 hcV h4b, hcV.blk C945 ?_, hcV.blk C845 ?_⟩
      · rcases hk with hk | hk | hk
        · exact .inr (.inl hk)
        · exact .inl hk
        · exact .inr (.inr (npq k hk))
      · rcases hk with hk | hk | hk
        · exact .inl ((g2 k).2 (.inl hk))
        · exact .inl ((g2 k).2 (.inr (.inl hk)))
        · rcases hT' k hk with g | g
          · exact .inl ((g2 k).2 (.inr (.inr (npq k g))))
          · exact .inr (by omega)
      · rcases hk with hk | hk | hk
        · have := D45.lt; omega
        · have := hM45.lt; omega
        · exact (hTr.bk hk).2
      · have e1 : outP xs (pre ++ [y]) = outP xs pre ++ [parV xs y.2] := by unfold outP; rw [List.map_append]; rfl
        have e2 : outN N (pre ++ [y]) = outN N pre ++ [gM N y.1] := by unfold outN; rw [List.map_append]; rfl
        rw [e1, e2]; exact hTr
      · have e1 : (none :: (pre ++ [y]).map fun y => some (nb y.1)) = (none :: pre.map fun y => some (nb y.1)) ++ [some (nb y.1)] := by rw [List.map_append]; rfl
        rw [e1]
        exact hM45.chg hcV fun hh => by
          rcases hh with hh | hh
          · omega
          · exact n6p hh
      · show (if (none : Option Nat) = some (nb y.1) then _ else f none) = _
        rw [if_neg (by simp)]; exact g4
      · intro y' hy'
        show (if some (nb y'.1) = some (nb y.1) then _ else f (some (nb y'.1))) = _
        rcases List.mem_append.1 hy' with hy' | hy'
        · have hne : some (nb y'.1) ≠ some (nb y.1) := fun e => hnew (by rw [← e]; exact List.mem_cons_of_mem _ (List.mem_map.2 ⟨y', hy', rfl⟩))
          rw [if_neg hne]; exact g5 y' hy'
        · rw [List.mem_singleton] at hy'
          subst hy'
          rw [if_pos rfl, hix, ← hpl2, hpl]
      · rintro (hh | hh)
        · omega
        · have := (g1.bk (npq _ hh)).1; omega
      · rintro (hh | hh)
        · omega
        · have := (g1.bk (npq _ hh)).1; omega
    clear hUc hU g1' g3' g7' g8' hNW hlv hnew
    repeat' first
      | exact trivial
      | with_reducible exact st_fin (by assumption) fin
      | with_reducible refine And.intro ?_ ?_
      | with_reducible refine st_dr ?_
      | with_reducible refine ⟨_, b0_cell C945, ?_⟩
      | with_reducible refine st_rd0 (by assumption) ?_
      | with_reducible refine st_rd1 (by assumption) ?_
      | with_reducible refine st_nm (by assumption) Bx nxy ?_
      | with_reducible refine st_lkN (by assumption) hM45 n6p hlv45 hnT hpm hpv ha ?_
      | with_reducible refine st_al1 (by assumption) fun k V' hS' => ?_
      | with_reducible refine st_al2 (by assumption) fun k V' hS' => ?_
      | with_reducible refine st_app1 (by assumption) fun x V' hS' => ?_
      | with_reducible refine st_app2 (by assumption) fun x V' hS' => ?_
  · rintro D S1 W hD1 hD2 hD3 hD4 ⟨T, f, g1, g2, g3, g4, g5, g6, g7, g8⟩
    obtain ⟨p, q, D4, hp, hq, hT⟩ := g1.at_
    have hDp : ¬ bk p.1 D := fun hh => hD3 ((g2 D).2 (.inr (.inr ((hT D).2 (.inl hh)))))
    have hDq : ¬ bk q.1 D := fun hh => hD3 ((g2 D).2 (.inr (.inr ((hT D).2 (.inr hh)))))
    refine ⟨_, _, _, bat D4 rfl, _, _, _, bat D4 rfl, ?_⟩
    refine stL_blk g8 (by simp) (by intro v hv; simp only [List.mem_cons, List.not_mem_nil, or_false] at hv; rcases hv with rfl | rfl <;> rfl) fun w26 B26 f26 s26 o26 t26 u26 => ?_
    have B26 : Blk w26 p2 [sv p, sv q] 37 := B26
    have c26 : Chg (fun j => j = p2) W w26 := ⟨o26, t26, u26, by omega, fun j _ hj => f26 j hj⟩
    have hD26 : w26.heap[D]? = some (.deferred (some [])) := by rw [f26 D (by omega)]; exact hD4
    refine retD_one hD26 ?_
    have hcp : Chg (fun k => k = D) w26 (w26.putObj D (.deferred none)) := Chg.put w26 D _ rfl
    have cAll : Chg (fun k => k = p2 ∨ k = D) W (w26.putObj D (.deferred none)) := (c26.mono fun j _ hj => .inl hj).trans (hcp.mono fun j _ hj => .inr hj)
    have Bf := hcp.blk B26 (by omega)
    have hp' : ownP (w26.putObj D (.deferred none)) w13.heap.size p (outP xs xs) := Owns.chg hp cAll fun k hk hh => by
      rcases hh with rfl | rfl
      · have := (Owns.bk hp hk).1; omega
      · exact hDp hk
    have hq' : ownN (w26.putObj D (.deferred none)) w13.heap.size q (outN N xs) := Owns.chg hq cAll fun k hk hh => by
      rcases hh with rfl | rfl
      · have := (Owns.bk hq hk).1; omega
      · exact hDq hk
    refine ⟨_, _, _, bat Bf rfl, _, _, _, bat Bf rfl, ?_⟩
    refine h p q _ (ext_chgS g6 cAll fun k hk => by omega) ((ownV_enc (S := fun _ => True)).2 hp').cap ((ownV_enc (S := fun _ => True)).2 hq').cap ((rowV_enc.2 (OwnL.out hp')).imp fun k hk _ => by have := (Owns.bk hp' hk).1; omega) ((rowV_enc.2 (OwnL.out hq')).imp fun k hk _ => by have := (Owns.bk hq' hk).1; omega)
end
end Go.Proofs
namespace Go.Proofs
open Go Go.Sh Go.RowKit
/- phylotree.Canonical: the same tree in another order -/
abbrev pfN (P : List Int) (c : Nat) : Nat := (gZ P c).toNat
theorem TreeOk.kids {P : List Int} {N : List Nm} (h : TreeOk P N) : KidsOk P.length (pfN P) (kidF P P.length) := by
  refine ⟨fun c h0 hc => ?_, fun i hi c => ?_, fun i hi => List.nodup_range.sublist List.filter_sublist⟩
  · have := h.par c h0 hc; unfold pfN; omega
  · unfold kidF
    rw [List.mem_filter, List.mem_range, decide_eq_true_iff]
    constructor
    · rintro ⟨h1, h2, h3⟩
      exact ⟨h2, h1, by unfold pfN; omega⟩
    · rintro ⟨h1, h2, h3⟩
      have := h.par c h1 h2
      unfold pfN at h3
      exact ⟨h2, h1, by omega⟩
theorem KidsOk.perm {n : Nat} {P : Nat → Nat} {Kd Kd' : Nat → List Nat} (h : KidsOk n P Kd) (hp : ∀ j, j < n → (Kd' j).Perm (Kd j)) : KidsOk n P Kd' :=
  ⟨h.par, fun i hi c => (hp i hi).mem_iff.trans (h.mem i hi c), fun i hi => (hp i hi).nodup_iff.2 (h.nd i hi)⟩
theorem dfs_some {Kd : Nat → List Nat} : ∀ (f i : Nat) (q : Option Nat), q ≠ none → ∀ y ∈ dfsP Kd f i q, y.2 ≠ none
  | 0, _, _, _, y, hy => by cases hy
  | f + 1, i, q, hq, y, hy => by
    rw [dfsP] at hy
    rcases List.mem_cons.1 hy with rfl | hy
    · exact hq
    · obtain ⟨c, _, hyc⟩ := List.mem_flatMap.1 hy
      exact dfs_some f c (some i) (by simp) y hyc
structure IsoL (P : List Int) (N : List Nm) (P' : List Int) (N' : List Nm) (ord : List Nat) : Prop where
  iso : IsoT P.length (pfN P) (pfN P') ord
  lenP : P'.length = P.length
  lenN : N'.length = P.length
  nm : ∀ k, k < P.length → gM N' k = gM N (gO ord k)
  root : gZ P' 0 = -1
  nn : ∀ k, 0 < k → k < P.length → 0 ≤ gZ P' k
theorem iso_of {P : List Int} {N : List Nm} (hT : TreeOk P N) {Kd : Nat → List Nat} (hK : KidsOk P.length (pfN P) Kd) : IsoL P N (outP (dfsP Kd P.length 0 none) (dfsP Kd P.length 0 none)) (outN N (dfsP Kd P.length 0 none)) ((dfsP Kd P.length 0 none).map (·.1)) := by
  have hperm := dfs_perm hK hT.pos
  have hnd := dfs_nodup hK P.length 0 none hT.pos
  have hok := dfs_ok hK P.length 0 none [] hT.pos (fun p hp => by cases hp)
  have hfirst : ∃ t, dfsP Kd P.length 0 none = (0, none) :: t ∧ ∀ y ∈ t, y.2 ≠ none := by
    obtain ⟨m, hm⟩ : ∃ m, P.length = m + 1 := ⟨P.length - 1, by have := hT.pos; omega⟩
    rw [hm, dfsP]
    refine ⟨_, rfl, fun y hy => ?_⟩
    obtain ⟨c, _, hyc⟩ := List.mem_flatMap.1 hy
    exact dfs_some m c (some 0) (by simp) y hyc
  generalize dfsP Kd P.length 0 none = xs at *
  have hlen : xs.length = P.length := by have := hperm.length_eq; rwa [List.length_map, List.length_range] at this
  have gO_xs : ∀ k (hk : k < xs.length), gO (xs.map (·.1)) k = xs[k].1 := fun k hk => by rw [gO_at (by rw [List.length_map]; exact hk), List.getElem_map]
  have gP_xs : ∀ k (hk : k < xs.length), gZ (outP xs xs) k = parV xs xs[k].2 := fun k hk => by
    rw [gZ_at (by unfold outP; rw [List.length_map]; exact hk)]
    unfold outP
    rw [List.getElem_map]
  have hpar : ∀ k, 0 < k → k < P.length → ∃ j, j < k ∧ gZ (outP xs xs) k = (j : Int) ∧ gO (xs.map (·.1)) j = pfN P (gO (xs.map (·.1)) k) := by
    intro k h0 hk
    have hk' : k < xs.length := by omega
    have hne : xs[k].2 ≠ none := by
      obtain ⟨t, ht, htn⟩ := hfirst
      subst ht
      obtain ⟨k', rfl⟩ : ∃ k', k = k' + 1 := ⟨k - 1, by omega⟩
      rw [List.getElem_cons_succ]
      exact htn _ (List.getElem_mem _)
    cases hq : xs[k].2 with
    | none => exact absurd hq hne
    | some p =>
      have hpre : xs.take k ++ [xs[k]] <+: xs := by rw [← List.take_succ_eq_append_getElem hk']; exact List.take_prefix _ _
      obtain ⟨q1, _, _, q4⟩ := okSeq_at hok hpre p hq
      have q1 := q1.resolve_left (by simp)
      obtain ⟨c, hc, rfl⟩ := List.mem_map.1 q1
      obtain ⟨j, hj, hjc⟩ := List.mem_iff_getElem.1 hc
      rw [List.length_take] at hj
      rw [List.getElem_take] at hjc
      have hjx : j < xs.length := by omega
      have hpj : xs.take j ++ [xs[j]] <+: xs := by rw [← List.take_succ_eq_append_getElem hjx]; exact List.take_prefix _ _
      have hix := ix_at hnd hpj
      rw [List.length_take] at hix
      refine ⟨j, by omega, ?_, ?_⟩
      · rw [gP_xs k hk', hq]
        show ((ixO xs c.1 : Nat) : Int) = j
        rw [← hjc]
        omega
      · rw [gO_xs j hjx, gO_xs k hk', q4, ← hjc]
  have hroot : gZ (outP xs xs) 0 = -1 := by
    obtain ⟨t, ht, _⟩ := hfirst
    rw [gP_xs 0 (by have := hT.pos; omega)]
    subst ht; rfl
  refine ⟨⟨hperm, ?_, fun k h0 hk => ?_⟩, by unfold outP; rw [List.length_map]; exact hlen, by unfold outN; rw [List.length_map]; exact hlen, fun k hk => ?_, hroot, fun k h0 hk => ?_⟩
  · obtain ⟨t, ht, _⟩ := hfirst
    subst ht; rfl
  · obtain ⟨j, h1, h2, h3⟩ := hpar k h0 hk
    have e : pfN (outP xs xs) k = j := by unfold pfN; omega
    rw [e]
    exact ⟨h1, h3⟩
  · have hk' : k < xs.length := by omega
    rw [gM_at (by unfold outN; rw [List.length_map]; exact hk'), gO_xs k hk']
    unfold outN
    rw [List.getElem_map]
  · obtain ⟨j, h1, h2, h3⟩ := hpar k h0 hk
    omega
theorem IsoL.inj {P : List Int} {N : List Nm} {P' : List Int} {N' : List Nm} {ord : List Nat} (h : IsoL P N P' N' ord) {i j : Nat} (hi : i < P.length) (hj : j < P.length) (e : gO ord i = gO ord j) : i = j := by
  have hl := h.iso.len
  rw [gO_at (by omega), gO_at (by omega)] at e
  exact (List.getElem_inj h.iso.nd).1 e
theorem IsoL.onto {P : List Int} {N : List Nm} {P' : List Int} {N' : List Nm} {ord : List Nat} (h : IsoL P N P' N' ord) {c : Nat} (hc : c < P.length) : ∃ k, k < P.length ∧ gO ord k = c := by
  have hl := h.iso.len
  have hm : c ∈ ord := h.iso.perm.mem_iff.2 (List.mem_range.2 hc)
  obtain ⟨k, hk, rfl⟩ := List.mem_iff_getElem.1 hm
  exact ⟨k, by omega, gO_at hk⟩
theorem IsoL.inn {P : List Int} {N : List Nm} {P' : List Int} {N' : List Nm} {ord : List Nat} (h : IsoL P N P' N' ord) (hT : TreeOk P N) {i : Nat} (hi : i < P.length) : innP P' P'.length i ↔ innP P P.length (gO ord i) := by
  rw [h.lenP]
  constructor
  · rintro ⟨j, h0, hj, he⟩
    obtain ⟨h1, h2⟩ := h.iso.par j h0 hj
    have e : pfN P' j = i := by unfold pfN; omega
    rw [e] at h2
    refine ⟨gO ord j, h.iso.pos h0 hj, h.iso.lt hj, ?_⟩
    have := (hT.par _ (h.iso.pos h0 hj) (h.iso.lt hj)).1
    rw [h2]; unfold pfN; omega
  · rintro ⟨c, h0, hc, he⟩
    obtain ⟨k, hk, rfl⟩ := h.onto hc
    have hk0 : 0 < k := by
      apply Classical.byContradiction
      intro q
      rw [show k = 0 by omega, h.iso.zero] at h0
      omega
    obtain ⟨h1, h2⟩ := h.iso.par k hk0 hk
    have e : pfN P (gO ord k) = gO ord i := by unfold pfN; omega
    rw [e] at h2
    have := h.inj (by omega) hi h2
    have := h.nn k hk0 hk
    refine ⟨k, hk0, hk, ?_⟩
    unfold pfN at *
    omega
theorem IsoL.ok {P : List Int} {N : List Nm} {P' : List Int} {N' : List Nm} {ord : List Nat} (h : IsoL P N P' N' ord) (hT : TreeOk P N) : TreeOk P' N' := by
  have hlen := hT.len
  refine ⟨by rw [h.lenP]; exact hT.pos, by rw [h.lenP]; exact hT.le, by rw [h.lenP, h.lenN], h.root, fun i h0 hi => ?_, fun i hi => ?_⟩
  · rw [h.lenP] at hi
    have h1 := (h.iso.par i h0 hi).1
    have := h.nn i h0 hi
    unfold pfN at h1
    omega
  · rw [h.lenN] at hi
    rw [h.inn hT hi, h.nm i hi]
    have hoi := h.iso.lt hi
    rcases hT.nm (gO ord i) (by omega) with t | t
    · exact .inl t
    · refine .inr ⟨t.1, t.2.1, fun hm => ?_⟩
      obtain ⟨j, hj, hje⟩ := List.mem_iff_getElem.1 hm
      rw [List.length_take] at hj
      rw [List.getElem_take] at hje
      have hjn : j < P.length := by omega
      have hlN := h.lenN
      have e1 : gM N' j = gM N (gO ord i) := by rw [gM_at (by omega)]; exact hje
      rw [h.nm j hjn] at e1
      have hoj := h.iso.lt hjn
      have hne : gO ord j ≠ gO ord i := fun e => by have := h.inj hjn hi e; omega
      rcases hT.nm (gO ord j) (by omega) with u | u
      · exact named_ne t.2.1 (by rw [← e1, u.2])
      · rcases Nat.lt_or_gt_of_ne hne with hlt | hgt
        · refine t.2.2 ?_
          rw [← e1, List.mem_take_iff_getElem]
          exact ⟨gO ord j, by omega, by rw [gM_at (by omega)]⟩
        · refine u.2.2 ?_
          rw [e1, List.mem_take_iff_getElem]
          exact ⟨gO ord i, by omega, by rw [gM_at (by omega)]⟩
section
variable {R : Ending → World → Prop} {S S2 : Nat → Prop} {w : World} {p q : Slv} {P : List Int} {N : List Nm}
set_option maxRecDepth 20000 in
def Srt (Ks : Nat → List Nat) (lst : Nat → Nm) (P : List Int) (N : List Nm) (P' : List Int) (N' : List Nm) : Prop :=
  ∃ Kd' : Nat → List Nat, P' = outP (dfsP Kd' P.length 0 none) (dfsP Kd' P.length 0 none) ∧ N' = outN N (dfsP Kd' P.length 0 none) ∧ (LstOk P.length Ks N lst → (∀ j, j < P.length → (kidF P P.length j).Perm (Ks j)) → ∀ j, ReachK Ks 0 j → Kd' j = Ks j)
theorem canonical_spec (Ks : Nat → List Nat) (lst : Nat → Nm) (hP : RowV vI S w p.1 p.2.1 P) (hN : RowV vS S2 w q.1 q.2.1 N) (hT : TreeOk P N) (h12 : ∀ i, i < P.length → (kidF P P.length i).length ≤ 12)
    (h : ∀ (p' q' : Slv) (P' : List Int) (N' : List Nm) (ord : List Nat) w', Ext w w' → p'.2.1 ≤ p'.2.2 → q'.2.1 ≤ q'.2.2 → RowV vI (fun k => w.heap.size ≤ k) w' p'.1 p'.2.1 P' → RowV vS (fun k => w.heap.size ≤ k) w' q'.1 q'.2.1 N' → IsoL P N P' N' ord → Srt Ks lst P N P' N' → R (.returned (.agg ⟨[sv p', sv q']⟩)) w') :
    Calls Tryz.prog F_phylotree_canonical ⟨[.agg ⟨[sv p, sv q]⟩]⟩ w R := by
  apply c_phylotree_canonical
  refine al_intro fun b3 w4 hb3 B3 e4 s4 => al_intro fun b5 w6 hb5 B5 e6 s6 => ⟨_, _, _, bat (B3.ext e6) rfl, _, _, _, bat (B3.ext e6) rfl, ?_⟩
  have e06 := ext_trans e4 e6
  have z06 := e06.size
  refine nodes_spec (p := p) (q := q) (hP.ext e06) (hN.ext e06) hT fun nb r bo w10 e10 hNo Bo => ⟨_, _, _, rfl, ?_⟩
  have hpos := hT.pos
  refine idx_b1 (j := 0) hpos ⟨_, by rw [Bo.cell, fC_get hpos], ?_⟩
  have hKo := hT.kids
  have hKG : KidsG P.length (kidF P P.length) := ⟨fun i hi c hc => ⟨(hKo.kid hi hc).1, (hKo.kid hi hc).2.1⟩, hKo.nd, h12⟩
  have z10 := e10.size
  refine sorted_spec hT.le Ks lst P.length 0 (by omega) hpos (B := w6.heap.size) z10 hNo hKG fun s w15 Kd' hN15 hp15 _ hL15 hc15 => ⟨_, rfl, ?_⟩
  have hKo' := hKo.perm hp15
  have hperm := dfs_perm hKo' hpos
  have hlen : (dfsP Kd' P.length 0 none).length = P.length := by have := hperm.length_eq; rwa [List.length_map, List.length_range] at this
  have e615 : Ext w6 w15 := ext_chgS e10 hc15 fun k hk => by obtain ⟨j, hj, hk⟩ := hk; exact (hNo.rows.bk hj hk).1
  refine tree_spec (hKG.perm hp15) hT.le hpos hN15 hKo' hlen fun p' q' w18 e18 hcp hcq hrp hrq => ⟨_, _, _, _, _, _, rfl, ?_⟩
  have e618 := ext_trans e615 e18
  have B518 := B5.ext e618
  refine stL_blk B518 (by simp) (by intro v hv; simp only [List.mem_cons, List.not_mem_nil, or_false] at hv; rcases hv with rfl | rfl <;> rfl) fun w21 B21 f21 s21 o21 t21 u21 => ?_
  have B21 : Blk w21 b5 [sv p', sv q'] 37 := B21
  have c21 : Chg (fun j => j = b5) w18 w21 := ⟨o21, t21, u21, by omega, fun j _ hj => f21 j hj⟩
  refine ⟨_, _, _, bat B21 rfl, _, _, _, bat B21 rfl, ?_⟩
  have z615 := e615.size
  have e021 : Ext w w21 := ext_chgS (ext_trans e06 e618) c21 fun j hj => by have := e4.size; omega
  refine h p' q' _ _ _ w21 e021 hcp hcq ((hrp.chg c21 fun k hk _ hh => by omega).imp fun k hk _ => by omega) ((hrq.chg c21 fun k hk _ hh => by omega).imp fun k hk _ => by omega) (iso_of hT hKo') ⟨Kd', rfl, rfl, fun hL hp => (hL15 hL hp).2.1⟩
set_option maxRecDepth 20000 in
theorem Canonical_spec (Ks : Nat → List Nat) (lst : Nat → Nm) (hP : RowV vI S w p.1 p.2.1 P) (hN : RowV vS S2 w q.1 q.2.1 N) (hcN : q.2.1 ≤ q.2.2) (hn1 : p.2.1 ≤ 4611686018427387904) (hn2 : q.2.1 ≤ 4611686018427387904) (hb : ∀ s ∈ N, s.length ≤ 1000000) (h12 : ∀ i, i < P.length → (kidF P P.length i).length ≤ 12)
    (h : ∀ (e : Int) (p' q' : Slv) w', Ext w w' → e ≠ 17 → (TreeOk P N → e = 0) → (e = 0 → TreeOk P N ∧ ∃ (P' : List Int) (N' : List Nm) (ord : List Nat), q'.2.1 ≤ q'.2.2 ∧ RowV vI (fun k => w.heap.size ≤ k) w' p'.1 p'.2.1 P' ∧ RowV vS (fun k => w.heap.size ≤ k) w' q'.1 q'.2.1 N' ∧ IsoL P N P' N' ord ∧ Srt Ks lst P N P' N') → R (.returned (.tuple ⟨[.agg ⟨[sv p', sv q']⟩, .int .i64 e]⟩)) w') :
    Calls Tryz.prog F_phylotree_Canonical ⟨[.agg ⟨[sv p, sv q]⟩]⟩ w R := by
  apply c_phylotree_Canonical
  refine al_intro fun b3 w4 hb3 B3 e4 s4 => al_intro fun b5 w6 hb5 B5 e6 s6 => ⟨_, _, _, bat (B3.ext e6) rfl, _, _, _, bat (B3.ext e6) rfl, ?_⟩
  have e06 := ext_trans e4 e6
  have z06 := e06.size
  have z4 := e4.size
  refine tCheck_spec (p := p) (q := q) (hP.ext e06) (hN.ext e06) hcN hn1 hn2 hb fun e w10 e10 he _ => ⟨_, rfl, br_split (fun g => ?_) (fun g => ?_)⟩
  · refine stL_blk (B5.ext e10) (by simp) (by intro v hv; simp only [List.mem_cons, List.not_mem_nil, or_false] at hv; rcases hv with rfl | rfl <;> rfl) fun w12 B12 f12 s12 o12 t12 u12 => ?_
    have B12 : Blk w12 b5 [sv (none, 0, 0), sv (none, 0, 0)] 37 := B12
    have c12 : Chg (fun j => j = b5) w10 w12 := ⟨o12, t12, u12, by omega, fun j _ hj => f12 j hj⟩
    refine ⟨_, _, _, bat B12 rfl, _, _, _, bat B12 rfl, ?_⟩
    exact h 1 (none, 0, 0) (none, 0, 0) w12 (ext_chgS (ext_trans e06 e10) c12 fun j hj => by omega) (by decide) (fun t => absurd (he.2 t) g) fun q => by cases q
  · have hT := he.1 (Decidable.not_not.1 g)
    have B310 := (B3.ext e6).ext e10
    refine ⟨_, _, _, bat B310 rfl, _, _, _, bat B310 rfl, ?_⟩
    have e010 := ext_trans e06 e10
    refine canonical_spec Ks lst (p := p) (q := q) (hP.ext e010) (hN.ext e010) hT h12 fun p' q' P' N' ord w18 e18 _ hcq hrp hrq hi hsr => ⟨_, _, _, _, _, _, rfl, ?_⟩
    have z10 := e10.size
    refine stL_blk ((B5.ext e10).ext e18) (by simp) (by intro v hv; simp only [List.mem_cons, List.not_mem_nil, or_false] at hv; rcases hv with rfl | rfl <;> rfl) fun w21 B21 f21 s21 o21 t21 u21 => ?_
    have B21 : Blk w21 b5 [sv p', sv q'] 37 := B21
    have c21 : Chg (fun j => j = b5) w18 w21 := ⟨o21, t21, u21, by omega, fun j _ hj => f21 j hj⟩
    refine ⟨_, _, _, bat B21 rfl, _, _, _, bat B21 rfl, ?_⟩
    exact h 0 p' q' w21 (ext_chgS (ext_trans e010 e18) c21 fun j hj => by omega) (by decide) (fun _ => rfl) fun _ => ⟨hT, P', N', ord, hcq, (hrp.chg c21 fun k hk _ hh => by omega).imp fun k hk _ => by omega, (hrq.chg c21 fun k hk _ hh => by omega).imp fun k hk _ => by omega, hi, hsr⟩
def leavesF (N : List Nm) : Nat → List Nat
  | 0 => []
  | k + 1 => leavesF N k ++ (if gM N k ≠ [] then [k] else [])
theorem leavesF_len (N : List Nm) : ∀ k, (leavesF N k).length ≤ k
  | 0 => Nat.le_refl _
  | k + 1 => by
    rw [leavesF, List.length_append]
    have := leavesF_len N k
    split <;> simp <;> omega
theorem leavesF_mem {N : List Nm} : ∀ {k i : Nat}, i ∈ leavesF N k ↔ i < k ∧ gM N i ≠ []
  | 0, i => by simp [leavesF]
  | k + 1, i => by
    rw [leavesF, List.mem_append, leavesF_mem]
    by_cases h : gM N k ≠ []
    · rw [if_pos h, List.mem_singleton]
      constructor
      · rintro (⟨h1, h2⟩ | rfl)
        · exact ⟨by omega, h2⟩
        · exact ⟨by omega, h⟩
      · rintro ⟨h1, h2⟩
        by_cases e : i = k
        · exact .inr e
        · exact .inl ⟨by omega, h2⟩
    · rw [if_neg h]
      constructor
      · rintro (⟨h1, h2⟩ | h3)
        · exact ⟨by omega, h2⟩
        · cases h3
      · rintro ⟨h1, h2⟩
        by_cases e : i = k
        · subst e; exact absurd h2 h
        · exact .inl ⟨by omega, h2⟩
theorem leavesF_nd (N : List Nm) : ∀ k, (leavesF N k).Nodup
  | 0 => List.nodup_nil
  | k + 1 => by
    rw [leavesF]
    split
    · rw [List.nodup_append]
      refine ⟨leavesF_nd N k, by simp, fun x hx y hy => ?_⟩
      rw [List.mem_singleton] at hy
      have := (leavesF_mem.1 hx).1
      omega
    · rw [List.append_nil]; exact leavesF_nd N k
theorem zN_app (a b : List Nat) : zN (a ++ b) = zN a ++ zN b := by unfold zN; rw [List.map_append]
set_option maxRecDepth 20000 in
theorem Leaves_spec (hP : RowV vI S w p.1 p.2.1 P) (hN : RowV vS S2 w q.1 q.2.1 N) (hcN : q.2.1 ≤ q.2.2) (hb : ∀ s ∈ N, s.length ≤ 1000000) (hT : TreeOk P N)
    (h : ∀ (oa : Option Addr) (on oc : Nat) w', Ext w w' → RowV vI (fun k => w.heap.size ≤ k) w' oa on (zN (leavesF N N.length)) → R (.returned (.tuple ⟨[.slice oa on oc, .int .i64 0]⟩)) w') :
    Calls Tryz.prog F_phylotree_Leaves ⟨[.agg ⟨[sv p, sv q]⟩]⟩ w R := by
  apply c_phylotree_Leaves
  have hp := hP.1
  have hq := hN.1
  have hle := hT.le
  have hlen := hT.len
  refine al_intro fun b3 w4 hb3 B3 e4 s4 => ⟨_, _, _, bat B3 rfl, _, _, _, bat B3 rfl, ?_⟩
  refine tCheck_spec (p := p) (q := q) (hP.ext e4) (hN.ext e4) hcN (by omega) (by omega) hb fun e w8 e8 he _ => ⟨_, rfl, br_split (fun g => absurd (he.2 hT) g) (fun _ => ?_)⟩
  have e08 := ext_trans e4 e8
  refine ⟨_, _, _, bat (B3.ext e8) rfl, ?_⟩
  refine ⟨fun oa on oc i W m => ∃ k : Nat, i = k ∧ k ≤ q.2.1 ∧ m = q.2.1 - k ∧ Ext w W ∧ w8.heap.size ≤ W.heap.size ∧ OwnL Sh.encI W w8.heap.size 3 oa on oc (zN (leavesF N k)), ⟨_, 0, rfl, Nat.zero_le _, rfl, e08, Nat.le_refl _, Owns.nil w8 _ 3 1⟩, ?_⟩
  rintro oa on oc _ W m ⟨k, rfl, hk, rfl, eW, zW, hO⟩ _
  have hol : (zN (leavesF N k)).length = on := OwnL.length hO
  rw [zN_len] at hol
  have hll := leavesF_len N k
  refine br_split (fun hlt => ?_) (fun hge => ?_)
  · have hkN : k < N.length := by omega
    obtain ⟨pq, iq, dq⟩ := rowS_get (hN.ext eW) hkN
    refine iq _ ⟨_, dq, br_split (fun g => ?_) (fun g => ?_)⟩
    · refine OwnL.push (E := Sh.encI) slT_int hO zW (k : Int) (by omega) (by omega) fun a' c' w22 ho hc hnn => ?_
      refine ⟨q.2.1 - (k + 1), by omega, k + 1, by rw [wrap_nat (by omega)], by omega, rfl, ext_own eW hc fun j hj => by have := (Owns.bk hO hj).1; have := e08.size; omega, by have := hc.size; omega, ?_⟩
      rw [leavesF, if_pos g, zN_app]; exact ho
    · refine ⟨q.2.1 - (k + 1), by omega, k + 1, by rw [wrap_nat (by omega)], by omega, rfl, eW, zW, ?_⟩
      rw [leavesF, if_neg g, List.append_nil]; exact hO
  · have hkn : k = N.length := by omega
    subst hkn
    exact h oa on oc W eW ((rowV_enc.2 (OwnL.out hO)).imp fun j hj _ => by have := (Owns.bk hO hj).1; have := e08.size; omega)
end
end Go.Proofs
namespace Go.Proofs
open Go Go.Sh Go.RowKit
/- split.Build: what it builds -/
def parI (own : List (List Nat)) (c : Nat) : Int := if c = 0 then -1 else (parS own c : Int)
def nmI (own : List (List Nat)) (NM : List Nm) (c : Nat) : Nm := if c = 1 then gM NM 0 else if 3 + own.length ≤ c then gM NM (c - 3 - own.length + 1) else []
def rowPI (own : List (List Nat)) (j : Nat) : List Int := (List.range j).map (parI own)
def rowNI (own : List (List Nat)) (NM : List Nm) (j : Nat) : List Nm := (List.range j).map (nmI own NM)
theorem rowPI_succ (own : List (List Nat)) (j : Nat) : rowPI own (j + 1) = rowPI own j ++ [parI own j] := by unfold rowPI; rw [List.range_succ, List.map_append]; rfl
theorem rowNI_succ (own : List (List Nat)) (NM : List Nm) (j : Nat) : rowNI own NM (j + 1) = rowNI own NM j ++ [nmI own NM j] := by unfold rowNI; rw [List.range_succ, List.map_append]; rfl
theorem rowPI_len (own : List (List Nat)) (j : Nat) : (rowPI own j).length = j := by unfold rowPI; rw [List.length_map, List.length_range]
theorem rowNI_len (own : List (List Nat)) (NM : List Nm) (j : Nat) : (rowNI own NM j).length = j := by unfold rowNI; rw [List.length_map, List.length_range]
theorem rowPI_at {own : List (List Nat)} {j c : Nat} (h : c < j) : gZ (rowPI own j) c = parI own c := by
  rw [gZ_at (by rw [rowPI_len]; exact h)]
  unfold rowPI
  rw [List.getElem_map, List.getElem_range]
theorem rowNI_at {own : List (List Nat)} {NM : List Nm} {j c : Nat} (h : c < j) : gM (rowNI own NM j) c = nmI own NM c := by
  rw [gM_at (by rw [rowNI_len]; exact h)]
  unfold rowNI
  rw [List.getElem_map, List.getElem_range]
theorem parS_ge {own : List (List Nat)} {c : Nat} (h : 3 ≤ c) : 2 ≤ parS own c := by
  unfold parS
  rw [if_neg (by omega)]
  unfold upS
  split <;> omega
theorem rowPI_kids {own : List (List Nat)} {j i : Nat} (hj : j ≤ 15) : (kidF (rowPI own j) j i).length ≤ 12 := by
  have hnd : (kidF (rowPI own j) j i).Nodup := List.nodup_range.sublist List.filter_sublist
  have hm : ∀ c ∈ kidF (rowPI own j) j i, 0 < c ∧ c < j ∧ (parS own c : Int) = i := fun c hc => by
    unfold kidF at hc
    rw [List.mem_filter, List.mem_range, decide_eq_true_iff] at hc
    obtain ⟨h1, h2, h3⟩ := hc
    rw [rowPI_at h1] at h3
    unfold parI at h3
    rw [if_neg (by omega)] at h3
    exact ⟨h2, h1, h3⟩
  by_cases h0 : i = 0
  · have := nodup_le (l2 := [1, 2]) hnd fun c hc => by
      obtain ⟨h1, h2, h3⟩ := hm c hc
      have : c < 3 := by
        apply Classical.byContradiction
        intro q
        have := parS_ge (own := own) (c := c) (by omega)
        omega
      rcases (by omega : c = 1 ∨ c = 2) with rfl | rfl <;> simp
    have h2 : [1, 2].length = 2 := rfl
    omega
  · have := nodup_le (l2 := (List.range 12).map (· + 3)) hnd fun c hc => by
      obtain ⟨h1, h2, h3⟩ := hm c hc
      have : 3 ≤ c := by
        apply Classical.byContradiction
        intro q
        have : parS own c = 0 := if_pos (by omega)
        omega
      exact List.mem_map.2 ⟨c - 3, List.mem_range.2 (by omega), by omega⟩
    rw [List.length_map, List.length_range] at this
    exact this
structure SplN (n : Nat) (s : List Nat) : Prop where
  asc : s.Pairwise (· < ·)
  rng : ∀ x ∈ s, 1 ≤ x ∧ x < n
  l2 : 2 ≤ s.length
  l3 : s.length + 2 ≤ n
theorem SplN.set {n : Nat} {s : List Nat} (h : SplN n s) (hn : n ≤ 32) : SetN s := ⟨h.asc, fun x hx => by have := h.rng x hx; omega⟩
theorem SplN.spl {n : Nat} {s : List Nat} (h : SplN n s) (hn : n ≤ 32) : SplI n (zN s) := by
  have hl := h.l2
  have hl3 := h.l3
  refine ⟨by omega, by omega, setI_zN.2 (h.set hn), by rw [zN_len]; exact hl, by rw [zN_len]; omega, ?_, ?_⟩
  · rw [zN_get (i := 0) (by omega)]
    have := (h.rng _ (List.getElem_mem (show 0 < s.length by omega))).1
    omega
  · rw [zN_len, zN_get (by omega)]
    have := (h.rng _ (List.getElem_mem (show s.length - 1 < s.length by omega))).2
    omega
inductive Built (n : Nat) (NM : List Nm) (L : List (List Nat)) (P0 : List Int) (N0 : List Nm) : Prop
  | one : n = 1 → P0 = [-1] → N0 = [gM NM 0] → Built n NM L P0 N0
  | two : n = 2 → P0 = [-1, 0, 0] → N0 = [[], gM NM 0, gM NM 1] → Built n NM L P0 N0
  | more (own : List (List Nat)) : 3 ≤ n → SplL n own → (∀ s, s ∈ own ↔ s ∈ L) → own.length ≤ L.length → P0 = rowPI own (3 + own.length + (n - 1)) → N0 = rowNI own NM (3 + own.length + (n - 1)) → Built n NM L P0 N0
theorem own_spl {n : Nat} {L own : List (List Nat)} (hL : ∀ s ∈ L, SplN n s) (hc : allC L) (hs : ∀ s ∈ own, s ∈ L) (hd : own.Pairwise fun a b => b.length ≤ a.length) : SplL n own := by
  refine ⟨fun s hs' e => ?_, fun s hs' => (hL s (hs s hs')).rng, fun s hs' => (hL s (hs s hs')).asc.imp fun h e => by omega, fun i j hi hj x hx1 hx2 hle => ?_, fun i j hij hj => ?_⟩
  · have := (hL s (hs s hs')).l2
    rw [e] at this
    simp at this
  · have m1 := hs _ (gS_mem (own := own) hi)
    have m2 := hs _ (gS_mem (own := own) hj)
    obtain ⟨a, ha, hae⟩ := List.mem_iff_getElem.1 m1
    obtain ⟨b, hb, hbe⟩ := List.mem_iff_getElem.1 m2
    have nd1 : (gS own i).Nodup := (hL _ m1).asc.imp fun h e => by omega
    have nd2 : (gS own j).Nodup := (hL _ m2).asc.imp fun h e => by omega
    rcases Nat.lt_trichotomy a b with hab | hab | hab
    · have := hc a b hab hb
      rw [gS_at ha, gS_at hb, hae, hbe] at this
      exact (comp_sub nd1 this hx1 hx2).1 hle
    · subst hab
      rw [hae] at hbe
      rw [hbe]; exact fun y hy => hy
    · have := hc b a hab ha
      rw [gS_at ha, gS_at hb, hae, hbe] at this
      exact (comp_sub nd2 this hx2 hx1).2 hle
  · by_cases e : i = j
    · subst e; exact Nat.le_refl _
    · rw [gS_at (L := own) (i := i) (by omega), gS_at (L := own) (i := j) hj]
      exact List.pairwise_iff_getElem.1 hd i j (by omega) hj (by omega)
theorem zN_lift {L : List (List Nat)} : ∀ {M : List (List Int)}, (∀ x ∈ M, x ∈ L.map zN) → ∃ own : List (List Nat), M = own.map zN ∧ ∀ s ∈ own, s ∈ L
  | [], _ => ⟨[], rfl, fun s hs => by cases hs⟩
  | x :: M, h => by
    obtain ⟨own, h1, h2⟩ := zN_lift (M := M) fun y hy => h y (List.mem_cons_of_mem _ hy)
    obtain ⟨s, hs, rfl⟩ := List.mem_map.1 (h x List.mem_cons_self)
    exact ⟨s :: own, by rw [h1]; rfl, fun t ht => by
      rcases List.mem_cons.1 ht with rfl | ht
      · exact hs
      · exact h2 t ht⟩
theorem desc_pair {M : List (List Int)} (h : desc M M.length) : M.Pairwise fun a b => b.length ≤ a.length := by
  rw [List.pairwise_iff_getElem]
  intro i j hi hj hij
  have := h i j hij hj
  rw [lnA_at hi, lnA_at hj] at this
  exact this
theorem leafB_named (s : Nm) : leafB s = namedF s := by
  unfold leafB namedF Lib.trimSuffix Lib.hasSuffix
  rcases List.eq_nil_or_concat s with rfl | ⟨r, x, rfl⟩
  · rfl
  · rw [List.concat_eq_append]
    have e1 : (r ++ [x])[(r ++ [x]).length - 1]? = some x := by simp
    rw [e1]
    by_cases hx : x = 42
    · subst hx
      have h2 : [42].isSuffixOf (r ++ [42]) = true := List.isSuffixOf_iff_suffix.2 ⟨r, rfl⟩
      rw [if_pos rfl, if_pos h2, if_pos h2]
      simp
    · have h2 : ¬ ([42].isSuffixOf (r ++ [x]) = true) := fun q => by
        obtain ⟨t, ht⟩ := List.isSuffixOf_iff_suffix.1 q
        have := List.append_inj_right' ht rfl
        simp at this
        exact hx this.symm
      rw [if_neg (by simpa using hx), if_neg h2]
end Go.Proofs
namespace Go.Proofs
open Go Go.Sh Go.RowKit
/- split.Build's loops: one state -/
def nodesL (k : Nat) : List Int := (List.range k).map fun j : Nat => ((3 + j : Nat) : Int)
theorem nodesL_succ (k : Nat) : nodesL (k + 1) = nodesL k ++ [((3 + k : Nat) : Int)] := by
  unfold nodesL
  rw [List.range_succ, List.map_append]; rfl
structure LoopS (own : List (List Nat)) (NM : List Nm) (b b1 b2 b3 B Z : Nat) (S : Nat → Prop) (o : Slv) (w0 W : World) (c m : Nat) (T : Nat → Prop) (nd : Slv) : Prop where
  tr : TrSt W b B T (rowPI own c) (rowNI own NM c)
  B2 : Blk W b2 [sv nd] 30
  nds : OwnL Sh.encI W Z 3 nd.1 nd.2.1 nd.2.2 (nodesL m)
  dis : ∀ j, T j → (j < b3 ∨ Z ≤ j) ∧ ¬ bk nd.1 j
  B1 : Blk W b1 [sv o] 29
  B3 : Blk W b3 [.int .i64 2] 3
  row : RowV vIs S W o.1 o.2.1 (own.map zN)
  sep : ∀ j, S j → j < b ∨ (b3 < j ∧ j < b1)
  ord : w0.heap.size ≤ b ∧ b < B ∧ B ≤ b3 ∧ b3 < b1 ∧ b1 < b2 ∧ b2 < Z
  ext : Ext w0 W
  z : Z ≤ W.heap.size
  hown : own.length ≤ 1000 ∧ ∀ s ∈ own, s.length ≤ 1000000
theorem cell_ext {w w' : World} (e : Ext w w') {p : Addr} {v : Value} (h : w.cell? p = some v) : w'.cell? p = some v := by
  unfold World.cell? at h ⊢
  split at h
  · rename_i c x y hb
    have hlt : p.block < w.heap.size := by
      apply Classical.byContradiction
      intro q
      rw [Array.getElem?_eq_none (by omega)] at hb
      cases hb
    rw [e.block _ hlt, hb]
    exact h
  · cases h
section
variable {own : List (List Nat)} {NM : List Nm} {b b1 b2 b3 B Z : Nat} {S : Nat → Prop} {o : Slv} {w0 W : World} {c m : Nat} {T : Nat → Prop} {nd : Slv}
theorem LoopS.step (h : LoopS own NM b b1 b2 b3 B Z S o w0 W c m T nd) {W' : World} (e : Ext W W') : LoopS own NM b b1 b2 b3 B Z S o w0 W' c m T nd :=
  { h with tr := h.tr.ext e, B2 := h.B2.ext e, nds := Owns.ext h.nds e, B1 := h.B1.ext e, B3 := h.B3.ext e, row := h.row.ext e, ext := ext_trans h.ext e, z := by have := e.size; have := h.z; omega }
theorem LoopS.least (h : LoopS own NM b b1 b2 b3 B Z S o w0 W c m T nd) {leaf before : Nat} (hb : before ≤ m) (hb2 : before ≤ own.length) {K : Ending → World → Prop} (hk : ∀ W', LoopS own NM b b1 b2 b3 B Z S o w0 W' c m T nd → Ext W W' → K (.returned (.int .i64 (upS own leaf before : Nat))) W') :
    CallV Tryz.prog (leastFn b1 b2 b3) [.int .i64 (leaf : Int), .int .i64 (before : Int)] W K :=
  least_call h.B1 h.B2 h.B3 h.row (rowV_enc.2 (OwnL.out h.nds)) hb hb2 (by have := h.hown.1; omega) h.hown.2 fun W' e => hk W' (h.step e) e
theorem LoopS.add (h : LoopS own NM b b1 b2 b3 B Z S o w0 W c m T nd) (hc : c ≤ 1000) {par : Int} (hp : par = parI own c) {nm : Nm} (hn : nm = nmI own NM c) {K : Ending → World → Prop} (hk : ∀ W' T', LoopS own NM b b1 b2 b3 B Z S o w0 W' (c + 1) m T' nd → K (.returned (.int .i64 (c : Int))) W') :
    CallV Tryz.prog (addF b) [.int .i64 par, .string ⟨⟨nm⟩⟩] W K := by
  obtain ⟨o1, o2, o3, o4, o5, o6⟩ := h.ord
  have hz := h.z
  have hb := fun j (hj : T j) => h.tr.bk (k := j) hj
  refine add_call h.tr (by omega) (by rw [rowPI_len]; exact hc) (by rw [rowNI_len]; exact hc) par nm fun V' T' ht hT hcg => ?_
  rw [rowPI_len]
  rw [hp, ← rowPI_succ, hn, ← rowNI_succ] at ht
  have zc := hcg.size
  have nb : ∀ j, b3 ≤ j → j < Z → ¬ (j = b ∨ T j) := fun j h1 h2 hh => by
    rcases hh with hh | hh
    · omega
    · have := (h.dis j hh).1; omega
  refine hk V' T' { h with
    tr := ht
    B2 := hcg.blk h.B2 (nb b2 (by omega) o6)
    nds := Owns.chg h.nds hcg fun j hj hh => ?_
    dis := fun j hj => ?_
    B1 := hcg.blk h.B1 (nb b1 (by omega) (by omega))
    B3 := hcg.blk h.B3 (nb b3 (by omega) (by omega))
    row := h.row.chg hcg fun j hj _ hh => ?_
    ext := ext_chgS h.ext hcg fun j hj => by
      rcases hj with hj | hj
      · omega
      · have := hb j hj; omega
    z := by omega }
  · rcases hh with hh | hh
    · have := Owns.bk h.nds hj; omega
    · exact (h.dis j hh).2 hj
  · rcases hT j hj with g | g
    · exact h.dis j g
    · exact ⟨.inr (by omega), fun q => by have := (Owns.bk h.nds q).2; omega⟩
  · have := h.sep j hj
    rcases hh with hh | hh
    · omega
    · have h1 := hb j hh
      have h2 := (h.dis j hh).1
      omega
theorem LoopS.push (h : LoopS own NM b b1 b2 b3 B Z S o w0 W c m T nd) (hm : m ≤ 1000) {x : Int} (hx : x = ((3 + m : Nat) : Int)) {K : World → Prop} (hk : ∀ W' nd', LoopS own NM b b1 b2 b3 B Z S o w0 W' c (m + 1) T nd' → K W') :
    al W 3 [.int .i64 x] fun p w1 => (app Tryz.prog [30, 30] 30 (.slice nd.1 nd.2.1 nd.2.2) (.slice (some p) 1 1) w1 fun a n k w2 => (stL w2 ⟨b2, 0, none⟩ 0 [.slice a n k] K) ∧ True) ∧ True := by
  refine al_intro fun bx w1 hbx Bx e1 s1 => ⟨?_, True.intro⟩
  have h := h.step e1
  obtain ⟨o1, o2, o3, o4, o5, o6⟩ := h.ord
  have hz := h.z
  have hb := fun j (hj : T j) => h.tr.bk (k := j) hj
  have hl : (nodesL m).length = nd.2.1 := OwnL.length h.nds
  rw [show (nodesL m).length = m by unfold nodesL; rw [List.length_map, List.length_range]] at hl
  refine OwnL.pushAll (E := Sh.encI) slT_int h.nds (by omega) (rowAt_one (E := Sh.encI) (x := x) Bx) (by omega) (by omega) fun a' c'' V ho hc hn => ⟨?_, True.intro⟩
  have zc := hc.size
  have nn : ∀ j, j < Z → ¬ bk nd.1 j := fun j h1 hh => by have := (Owns.bk h.nds hh).1; omega
  have h1 : Blk V b2 [sv nd] 30 := hc.blk h.B2 (nn _ o6)
  refine stL_one h1 rfl fun V2 C2 c2 s2 => ?_
  have z2 := c2.size
  have hcc : Chg (fun j => bk nd.1 j ∨ j = b2) w1 V2 := (hc.mono fun j _ hj => .inl hj).trans (c2.mono fun j _ hj => .inr hj)
  have nn2 : ∀ j, j < Z → j ≠ b2 → ¬ (bk nd.1 j ∨ j = b2) := fun j h1 h2 hh => by
    rcases hh with hh | hh
    · exact nn j h1 hh
    · exact h2 hh
  have hT : ∀ j, T j → ¬ (bk nd.1 j ∨ j = b2) := fun j hj hh => by
    rcases hh with hh | hh
    · exact (h.dis j hj).2 hh
    · have := (h.dis j hj).1; omega
  have hnd : OwnL Sh.encI V2 Z 3 a' (nd.2.1 + 1) c'' (nodesL (m + 1)) := by
    rw [nodesL_succ, ← hx]
    exact Owns.chg ho c2 fun j hj hh => by have := (Owns.bk ho hj).1; omega
  refine hk V2 (a', nd.2.1 + 1, c'') { h with
    tr := h.tr.chg hcc (nn2 b (by omega) (by omega)) hT
    B2 := C2
    nds := hnd
    dis := fun j hj => ⟨(h.dis j hj).1, fun q => ?_⟩
    B1 := hcc.blk h.B1 (nn2 _ (by omega) (by omega))
    B3 := hcc.blk h.B3 (nn2 _ (by omega) (by omega))
    row := h.row.chg hcc fun j hj _ => nn2 j (by have := h.sep j hj; omega) (by have := h.sep j hj; omega)
    ext := ext_chgS h.ext hcc fun j hj => by
      rcases hj with hj | hj
      · have := (Owns.bk h.nds hj).1; omega
      · omega
    z := by omega }
  rcases hn j q with g | g
  · exact (h.dis j hj).2 g
  · have := hb j hj; omega
end
end Go.Proofs
